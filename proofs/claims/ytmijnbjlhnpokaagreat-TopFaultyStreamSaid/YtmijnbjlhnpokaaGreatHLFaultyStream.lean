/- THE CLAIM: TopFaultyStream returns true for every input, and its arguments read as they did. No condition. -/
import Derived.Test.YtmijnbjlhnpokaaGreatHOpn
namespace Go.Proofs.YtmijnbjlhnpokaaGreat
open Go.ChangeShapes Go.WideShapes Go.ChangeAt Go.RowKit Go.Deep Eng Ls
open Go.ChangeMaps (open_string shut_string)
set_option linter.unusedVariables false
theorem q1y (W:World) {A0:Option Addr} {n0 c0:Nat} {z0:List (List Int)} (s0:SM W A0 n0 c0 z0) {a1 b1 g1:Int} {A2:Option Addr} {n2 c2:Nat} {z2:List (List Int)} (s2:SM W A2 n2 c2 z2):Calls Tryz.prog 3 #[.slice A0 n0 c0,.agg #[.int .i64 a1,.int .i64 b1,.int .i64 g1],.slice A2 n2 c2] W λe W'=>e=.returned (.bool true)/\Below W.heap.size W W':=by
 obtain rfl:=s0.len
 obtain rfl:=s2.len
 have hx:qt1 (λb=>W.heap[b]?) [.list qe8,.prod qd0 (.prod qd0 qd0),.list qe8] (z0,(a1,b1,g1),z2,()) [.slice A0 z0.length c0,.agg #[.int .i64 a1,.int .i64 b1,.int .i64 g1],.slice A2 z2.length c2]:=⟨_,_,rfl,xr0 s0,⟨_,_,rfl,⟨_,rfl,[_],[_,_],rfl,rfl,[_],[_],rfl,rfl,rfl⟩,⟨_,_,rfl,xr0 s2,rfl⟩⟩⟩
 exact w7t (x:=((z0,(a1,b1,g1),z2,()):qa4 [qf3,.prod qd0 (.prod qd0 qd0),qf3])) xc1 ⟨(by have h1:=s0.len; have h2:=s0.nmax; omega),(by have h1:=s2.len; have h2:=s2.nmax; omega)⟩ hx
set_option maxRecDepth 100000 in
theorem qz9 (os:Os) (started:os.Started) (H:Type) (enc:TypeId × Value->H) :
  ReturnsInHanded {} Tryz.checked os 3 .any (Rows.topFaultyStreamSpec.pre6 enc Tryz.prog Tryz.f3 Rows.topFaultyStreamRow.domain false) (Rows.topFaultyStreamSpec.post enc Tryz.prog Tryz.f3 false true false false):=by
 refine returnsInHanded_of_change (C:=Tryz.checked) own started (by kernel_rfl) Tryz.func3
  (ChangeSpec.witness6 (enc:=enc) (C:=Tryz.checked) false ⟨#[],#[.slice none 0 0,.agg #[.int .i64 0,.int .i64 0,.int .i64 0],.slice none 0 0],[]⟩ 8 (by kernel_rfl) (by kernel_rfl) (by kernel_rfl) (by kernel_rfl)) ?_
 intro W base args ds gs before hval0 hW hcnd _
 have hval:∀(j:Nat) t v,Tryz.f3.params[j]? = some t->args[j]? = some v->Value.okWide Tryz.prog W .any base t v:=hval0
 have hW':=hW
 obtain⟨p,q,hA0,hV,rfl,hfz,hnd⟩:=hW
 have hA:DataW.TrodAll enc Tryz.prog W 0 (λ_=>true) true Tryz.f3.params.toList args.toList ds p:=hA0
 rw[Tryz.params3] at hA hval
 obtain⟨v0,vs0,d0,ds0,p0,q0,hargs,rfl,rfl,h0,r0⟩:=trodAll_cons hA
 obtain⟨v1,vs1,d1,ds1,p1,q1,rfl,rfl,rfl,h1,r1⟩:=trodAll_cons r0
 obtain⟨v2,vs2,d2,ds2,p2,q2,rfl,rfl,rfl,h2,r2⟩:=trodAll_cons r1
 obtain⟨rfl,rfl,rfl⟩:=trodAll_nil r2
 obtain rfl:args=#[v0,v1,v2]:=by cases args; simp_all
 obtain⟨rfl,rfl⟩:=trodVars_none hV
 have k0:=h0
 have lt0:∀x∈p0,x.block<W.heap.size:=by obtain⟨m,hm⟩:=k0; exact DataW.trod_lt m _ _ _ hm
 obtain⟨A0,n0,c0,z0,rfl,s0⟩:=x5t Tryz.underlying23 Tryz.underlying34 Tryz.underlying3 (by kernel_rfl) (by kernel_rfl) (okWide_slice Tryz.underlying23 (hval 0 23 v0 rfl rfl)) h0
 have k1:=h1
 have lt1:∀x∈p1,x.block<W.heap.size:=by obtain⟨m,hm⟩:=k1; exact DataW.trod_lt m _ _ _ hm
 obtain⟨a1,b1,g1,rfl⟩:=x1q Tryz.underlying25 (by kernel_rfl) (by kernel_rfl) Tryz.underlying3 Tryz.underlying3 Tryz.underlying3 (hval 1 25 v1 rfl rfl) h1
 have k2:=h2
 have lt2:∀x∈p2,x.block<W.heap.size:=by obtain⟨m,hm⟩:=k2; exact DataW.trod_lt m _ _ _ hm
 obtain⟨A2,n2,c2,z2,rfl,s2⟩:=x5t Tryz.underlying22 Tryz.underlying34 Tryz.underlying3 (by kernel_rfl) (by kernel_rfl) (okWide_slice Tryz.underlying22 (hval 2 22 v2 rfl rfl)) h2
 clear hA0 hval0
 refine(q1y W s0 s2).mono λe W' ⟨he,bel⟩=>?_
 subst he
 exact⟨_,rfl,_,_,_,[],_,[],hW',trodAll_mk1 (shut_bool Tryz.underlying4 _),(trodAll_cons_mk (Below.trod laidOut (by kernel_rfl) (of_decide_eq_true (by kernel_rfl)) k0 bel lt0) (trodAll_cons_mk (Below.trod laidOut (by kernel_rfl) (of_decide_eq_true (by kernel_rfl)) k1 bel lt1) (trodAll_cons_mk (Below.trod laidOut (by kernel_rfl) (of_decide_eq_true (by kernel_rfl)) k2 bel lt2) trodAll_mk0))),rfl,bel.frame _,λh=>by cases h⟩
theorem topFaultyStream_holds:Rows.TopFaultyStreamSaid:=
 OpenClaim.holds_of_wide 3 Tryz.f3 rfl rfl rfl rfl rfl rfl rfl ⟨rfl,rfl,rfl,rfl,rfl⟩ rfl rfl rfl rfl rfl (by kernel_rfl) Tryz.func3 (by kernel_rfl)
  (of_decide_eq_true (by kernel_rfl)) (by unfold Func.isWrapper; first | (rw[if_pos (by decide +kernel)]; kernel_rfl) | (rw[if_neg (by decide +kernel)]; exact⟨rfl,rfl⟩))
  (λos started H enc _=>qz9 os started H enc)
#print axioms topFaultyStream_holds
end Go.Proofs.YtmijnbjlhnpokaaGreat
