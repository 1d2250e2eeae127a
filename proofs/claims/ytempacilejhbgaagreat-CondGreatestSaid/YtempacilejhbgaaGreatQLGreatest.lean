/- THE CLAIM: CondGreatest returns true for every input, and its arguments read as they did. No condition. -/
import Derived.Test.YtempacilejhbgaaGreatQOpn
namespace Go.Proofs.YtempacilejhbgaaGreat
open Go.ChangeShapes Go.WideShapes Go.ChangeAt Go.RowKit Go.Deep Eng Ls
open Go.ChangeMaps (open_string shut_string)
set_option linter.unusedVariables false
theorem q4m (W:World) {A0:Option Addr} {n0 c0:Nat} {z0:List (List Int)} (s0:SM W A0 n0 c0 z0) {a1:Int} (w1:(Lit.int .i64 a1).wf=true):Calls Tryz.prog 5 #[.slice A0 n0 c0,.int .i64 a1] W λe W'=>e=.returned (.bool true)/\Below W.heap.size W W':=by
 obtain rfl:=s0.len
 have hx:qu9 (λb=>W.heap[b]?) [.list tInts,tInt] (z0,a1,()) [.slice A0 z0.length c0,.int .i64 a1]:=⟨_,_,rfl,xu7 s0,⟨_,_,rfl,rfl,rfl⟩⟩
 exact w5s (x:=((z0,a1,()):qa6 [tMask,tInt])) q3l (xq7 s0) hx
set_option maxRecDepth 100000 in
theorem q2h (os:Os) (started:os.Started) (H:Type) (enc:TypeId × Value->H) :
  ReturnsInHanded {} Tryz.checked os 5 .any (Rows.condGreatestSpec.pre6 enc Tryz.prog Tryz.f5 Rows.condGreatestRow.domain false) (Rows.condGreatestSpec.post enc Tryz.prog Tryz.f5 false true false false):=by
 refine returnsInHanded_of_change (C:=Tryz.checked) own started (by kernel_rfl) Tryz.func5
  (ChangeSpec.witness6 (enc:=enc) (C:=Tryz.checked) false ⟨#[],#[.slice none 0 0,.int .i64 0],[]⟩ 8 (by kernel_rfl) (by kernel_rfl) (by kernel_rfl) (by kernel_rfl)) ?_
 intro W base args ds gs before hval0 hW hcnd _
 have hval:∀(j:Nat) t v,Tryz.f5.params[j]? = some t->args[j]? = some v->Value.okWide Tryz.prog W .any base t v:=hval0
 have hW':=hW
 obtain⟨p,q,hA0,hV,rfl,hfz,hnd⟩:=hW
 have hA:DataW.TrodAll enc Tryz.prog W 0 (λ_=>true) true Tryz.f5.params.toList args.toList ds p:=hA0
 rw[Tryz.params5] at hA hval
 obtain⟨v0,vs0,d0,ds0,p0,q0,hargs,rfl,rfl,h0,r0⟩:=trodAll_cons hA
 obtain⟨v1,vs1,d1,ds1,p1,q1,rfl,rfl,rfl,h1,r1⟩:=trodAll_cons r0
 obtain⟨rfl,rfl,rfl⟩:=trodAll_nil r1
 obtain rfl:args=#[v0,v1]:=by cases args; simp_all
 obtain⟨rfl,rfl⟩:=trodVars_none hV
 have k0:=h0
 have lt0:∀x∈p0,x.block<W.heap.size:=by obtain⟨m,hm⟩:=k0; exact DataW.trod_lt m _ _ _ hm
 obtain⟨A0,n0,c0,z0,rfl,s0⟩:=x3r Tryz.underlying23 Tryz.underlying24 Tryz.underlying3 (by kernel_rfl) (by kernel_rfl) (okWide_slice Tryz.underlying23 (hval 0 23 v0 rfl rfl)) h0
 obtain⟨a1,rfl,rfl,rfl,w1⟩:=open_int Tryz.underlying3 (hval 1 3 v1 rfl rfl) h1
 clear hA0 hval0
 refine(q4m W s0 w1).mono λe W' ⟨he,bel⟩=>?_
 subst he
 exact⟨_,rfl,_,_,_,[],_,[],hW',trodAll_mk1 (shut_bool Tryz.underlying4 _),(trodAll_cons_mk (Below.trod laidOut (by kernel_rfl) (of_decide_eq_true (by kernel_rfl)) k0 bel lt0) (trodAll_cons_mk (shut_int Tryz.underlying3 w1) trodAll_mk0)),rfl,bel.frame _,λh=>by cases h⟩
theorem condGreatest_holds:Rows.CondGreatestSaid:=
 OpenClaim.holds_of_wide 5 Tryz.f5 rfl rfl rfl rfl rfl rfl rfl ⟨rfl,rfl,rfl,rfl,rfl⟩ rfl rfl rfl rfl rfl (by kernel_rfl) Tryz.func5 (by kernel_rfl)
  (of_decide_eq_true (by kernel_rfl)) (by unfold Func.isWrapper; first | (rw[if_pos (by decide +kernel)]; kernel_rfl) | (rw[if_neg (by decide +kernel)]; exact⟨rfl,rfl⟩))
  (λos started H enc _=>q2h os started H enc)
#print axioms condGreatest_holds
end Go.Proofs.YtempacilejhbgaaGreat
