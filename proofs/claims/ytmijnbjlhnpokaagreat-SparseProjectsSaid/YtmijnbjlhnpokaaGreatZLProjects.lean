/- THE CLAIM: SparseProjects returns true for every input, and its arguments read as they did. No condition. -/
import Derived.Test.YtmijnbjlhnpokaaGreatVOpn
namespace Go.Proofs.YtmijnbjlhnpokaaGreat
open Go.ChangeShapes Go.WideShapes Go.ChangeAt Go.RowKit Go.Deep Eng Ls
open Go.ChangeMaps (open_string shut_string)
set_option linter.unusedVariables false
theorem q27 (W:World) {A0:Option Addr} {n0 c0:Nat} {z0:List (List Int)} (s0:SM W A0 n0 c0 z0) {A1:Option Addr} {n1 c1:Nat} {z1:List Int} (s1:SI W A1 n1 c1 z1) {A2:Option Addr} {n2 c2:Nat} {z2:List Int} (s2:SI W A2 n2 c2 z2) {a3:Int} (w3:(Lit.int .i64 a3).wf=true):Calls Tryz.prog 6 #[.slice A0 n0 c0,.slice A1 n1 c1,.slice A2 n2 c2,.int .i64 a3] W λe W'=>e=.returned (.bool true)/\Below W.heap.size W W':=by
 obtain rfl:=s0.len
 obtain rfl:=s1.len
 obtain rfl:=s2.len
 have hx:q0g (λb=>W.heap[b]?) [.list qf1,qf1,qf1,qg0] (z0,z1,z2,a3,()) [.slice A0 z0.length c0,.slice A1 z1.length c1,.slice A2 z2.length c2,.int .i64 a3]:=⟨_,_,rfl,xz5 s0,⟨_,_,rfl,w6m s1,⟨_,_,rfl,w6m s2,⟨_,_,rfl,rfl,rfl⟩⟩⟩⟩
 exact w6l (x:=((z0,z1,z2,a3,()):qa5 [qo2,qf1,qf1,qg0])) q2d (xv9 s0) hx
set_option maxRecDepth 100000 in
theorem q1h (os:Os) (started:os.Started) (H:Type) (enc:TypeId × Value->H) :
  ReturnsInHanded {} Tryz.checked os 6 .any (Rows.sparseProjectsSpec.pre6 enc Tryz.prog Tryz.f6 Rows.sparseProjectsRow.domain false) (Rows.sparseProjectsSpec.post enc Tryz.prog Tryz.f6 false true false false):=by
 refine returnsInHanded_of_change (C:=Tryz.checked) own started (by kernel_rfl) Tryz.func6
  (ChangeSpec.witness6 (enc:=enc) (C:=Tryz.checked) false ⟨#[],#[.slice none 0 0,.slice none 0 0,.slice none 0 0,.int .i64 0],[]⟩ 8 (by kernel_rfl) (by kernel_rfl) (by kernel_rfl) (by kernel_rfl)) ?_
 intro W base args ds gs before hval0 hW hcnd _
 have hval:∀(j:Nat) t v,Tryz.f6.params[j]? = some t->args[j]? = some v->Value.okWide Tryz.prog W .any base t v:=hval0
 have hW':=hW
 obtain⟨p,q,hA0,hV,rfl,hfz,hnd⟩:=hW
 have hA:DataW.TrodAll enc Tryz.prog W 0 (λ_=>true) true Tryz.f6.params.toList args.toList ds p:=hA0
 rw[Tryz.params6] at hA hval
 obtain⟨v0,vs0,d0,ds0,p0,q0,hargs,rfl,rfl,h0,r0⟩:=trodAll_cons hA
 obtain⟨v1,vs1,d1,ds1,p1,q1,rfl,rfl,rfl,h1,r1⟩:=trodAll_cons r0
 obtain⟨v2,vs2,d2,ds2,p2,q2,rfl,rfl,rfl,h2,r2⟩:=trodAll_cons r1
 obtain⟨v3,vs3,d3,ds3,p3,q3,rfl,rfl,rfl,h3,r3⟩:=trodAll_cons r2
 obtain⟨rfl,rfl,rfl⟩:=trodAll_nil r3
 obtain rfl:args=#[v0,v1,v2,v3]:=by cases args; simp_all
 obtain⟨rfl,rfl⟩:=trodVars_none hV
 have k0:=h0
 have lt0:∀x∈p0,x.block<W.heap.size:=by obtain⟨m,hm⟩:=k0; exact DataW.trod_lt m _ _ _ hm
 obtain⟨A0,n0,c0,z0,rfl,s0⟩:=x6p Tryz.underlying23 Tryz.underlying34 Tryz.underlying3 (by kernel_rfl) (by kernel_rfl) (okWide_slice Tryz.underlying23 (hval 0 23 v0 rfl rfl)) h0
 have k1:=h1
 have lt1:∀x∈p1,x.block<W.heap.size:=by obtain⟨m,hm⟩:=k1; exact DataW.trod_lt m _ _ _ hm
 obtain⟨A1,n1,c1,z1,rfl,s1⟩:=x2n Tryz.underlying34 Tryz.underlying3 (by kernel_rfl) (okWide_slice Tryz.underlying34 (hval 1 34 v1 rfl rfl)) h1
 have k2:=h2
 have lt2:∀x∈p2,x.block<W.heap.size:=by obtain⟨m,hm⟩:=k2; exact DataW.trod_lt m _ _ _ hm
 obtain⟨A2,n2,c2,z2,rfl,s2⟩:=x2n Tryz.underlying34 Tryz.underlying3 (by kernel_rfl) (okWide_slice Tryz.underlying34 (hval 2 34 v2 rfl rfl)) h2
 obtain⟨a3,rfl,rfl,rfl,w3⟩:=open_int Tryz.underlying3 (hval 3 3 v3 rfl rfl) h3
 clear hA0 hval0
 refine(q27 W s0 s1 s2 w3).mono λe W' ⟨he,bel⟩=>?_
 subst he
 exact⟨_,rfl,_,_,_,[],_,[],hW',trodAll_mk1 (shut_bool Tryz.underlying4 _),(trodAll_cons_mk (Below.trod laidOut (by kernel_rfl) (of_decide_eq_true (by kernel_rfl)) k0 bel lt0) (trodAll_cons_mk (Below.trod laidOut (by kernel_rfl) (of_decide_eq_true (by kernel_rfl)) k1 bel lt1) (trodAll_cons_mk (Below.trod laidOut (by kernel_rfl) (of_decide_eq_true (by kernel_rfl)) k2 bel lt2) (trodAll_cons_mk (shut_int Tryz.underlying3 w3) trodAll_mk0)))),rfl,bel.frame _,λh=>by cases h⟩
theorem sparseProjects_holds:Rows.SparseProjectsSaid:=
 OpenClaim.holds_of_wide 6 Tryz.f6 rfl rfl rfl rfl rfl rfl rfl ⟨rfl,rfl,rfl,rfl,rfl⟩ rfl rfl rfl rfl rfl (by kernel_rfl) Tryz.func6 (by kernel_rfl)
  (of_decide_eq_true (by kernel_rfl)) (by unfold Func.isWrapper; first | (rw[if_pos (by decide +kernel)]; kernel_rfl) | (rw[if_neg (by decide +kernel)]; exact⟨rfl,rfl⟩))
  (λos started H enc _=>q1h os started H enc)
#print axioms sparseProjects_holds
end Go.Proofs.YtmijnbjlhnpokaaGreat
