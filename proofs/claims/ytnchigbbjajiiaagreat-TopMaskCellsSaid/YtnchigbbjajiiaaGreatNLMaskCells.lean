/- THE CLAIM: TopMaskCells returns true for every input, and its arguments read as they did. No condition. -/
import Derived.Test.YtnchigbbjajiiaaGreatQOpn
set_option linter.unusedSimpArgs false
namespace Go.Proofs.YtnchigbbjajiiaaGreat
open Go.ChangeShapes Go.WideShapes Go.ChangeAt Go.RowKit Go.Deep Eng Ls
open Go.ChangeMaps (open_string shut_string)
set_option linter.unusedVariables false
theorem q43 (W:World) {A0:Option Addr} {n0 c0:Nat} {z0:List (List Int)} (s0:SM W A0 n0 c0 z0) {A1:Option Addr} {n1 c1:Nat} {z1:List Int} (s1:SI W A1 n1 c1 z1) {a2:Int} (w2:(Lit.int .i64 a2).wf=true):Calls Tryz.prog 3 #[.slice A0 n0 c0,.slice A1 n1 c1,.int .i64 a2] W λe W'=>e=.returned (.bool true)/\Below W.heap.size W W':=by
 obtain rfl:=s0.len
 obtain rfl:=s1.len
 have hx:qs9 (λb=>W.heap[b]?) [.list qd4,qd4,qb9] (z0,z1,a2,()) [.slice A0 z0.length c0,.slice A1 z1.length c1,.int .i64 a2]:=⟨_,_,rfl,x4p s0,⟨_,_,rfl,xv7 s1,⟨_,_,rfl,rfl,rfl⟩⟩⟩
 exact w76 (x:=((z0,z1,a2,()):qa3 [qf8,qd4,qb9])) xe5 ⟨x3c s0,x3d s1⟩ hx
set_option maxRecDepth 100000 in
theorem q2u (os:Os) (started:os.Started) (H:Type) (enc:TypeId × Value->H) :
  ReturnsInHanded {} Tryz.checked os 3 .any (Rows.topMaskCellsSpec.pre6 enc Tryz.prog Tryz.f3 Rows.topMaskCellsRow.domain false) (Rows.topMaskCellsSpec.post enc Tryz.prog Tryz.f3 false true false false):=by
 refine returnsInHanded_of_change (C:=Tryz.checked) own started kr Tryz.func3
  (ChangeSpec.witness6 (enc:=enc) (C:=Tryz.checked) false ⟨#[],#[.slice none 0 0,.slice none 0 0,.int .i64 0],[]⟩ 8 kr kr kr kr) ?_
 intro W base args ds gs before hval0 hW hcnd _
 have hval:∀(j:Nat) t v,Tryz.f3.params[j]? = some t->args[j]? = some v->Value.okWide Tryz.prog W .any base t v:=hval0
 have hW':=hW
 obtain⟨p,q,hA0,hV,rfl,hfz,hnd⟩:=hW
 have hA:DataW.TrodAll enc Tryz.prog W 0 (λ_=>true) true Tryz.f3.params.toList args.toList ds p:=hA0
 rw[Tryz.params3] at hA hval
 obtain⟨v0,vs0,d0,ds0,p0,q0,hargs,rfl,rfl,h0,r0⟩:=trodAll_cons hA
 obtain⟨v1,vs1,d1,ds1,p1,q1,rfl,rfl,rfl,h1,r1⟩:=trodAll_cons r0
 obtain⟨v2,vs2,d2,ds2,p2,q2,rfl,rfl,rfl,h2,r2⟩:=trodAll_cons r1
 obtain⟨rfl,rfl,rfl⟩:=trodAll_nil r2
 obtain rfl:args=#[v0,v1,v2]:=by cases args; simp_all
 obtain⟨rfl,rfl⟩:=trodVars_none hV
 have k0:=h0
 have lt0:∀x∈p0,x.block<W.heap.size:=by obtain⟨m,hm⟩:=k0; exact DataW.trod_lt m _ _ _ hm
 obtain⟨A0,n0,c0,z0,rfl,s0⟩:=ye9 Tryz.underlying23 Tryz.underlying24 Tryz.underlying3 kr kr (okWide_slice Tryz.underlying23 (hval 0 23 v0 rfl rfl)) h0
 have k1:=h1
 have lt1:∀x∈p1,x.block<W.heap.size:=by obtain⟨m,hm⟩:=k1; exact DataW.trod_lt m _ _ _ hm
 obtain⟨A1,n1,c1,z1,rfl,s1⟩:=ye8 Tryz.underlying24 Tryz.underlying3 kr (okWide_slice Tryz.underlying24 (hval 1 24 v1 rfl rfl)) h1
 obtain⟨a2,rfl,rfl,rfl,w2⟩:=open_int Tryz.underlying3 (hval 2 3 v2 rfl rfl) h2
 clear hA0 hval0
 refine(q43 W s0 s1 w2).mono λe W' ⟨he,bel⟩=>?_
 subst he
 exact⟨_,rfl,_,_,_,[],_,[],hW',trodAll_mk1 (shut_bool Tryz.underlying4 _),(trodAll_cons_mk (Below.trod laidOut kr (zbe kr) k0 bel lt0) (trodAll_cons_mk (Below.trod laidOut kr (zbe kr) k1 bel lt1) (trodAll_cons_mk (shut_int Tryz.underlying3 w2) trodAll_mk0))),rfl,bel.frame _,λh=>by cases h⟩
theorem topMaskCells_holds:Rows.TopMaskCellsSaid:=
 OpenClaim.holds_of_wide 3 Tryz.f3 rfl rfl rfl rfl rfl rfl rfl ⟨rfl,rfl,rfl,rfl,rfl⟩ rfl rfl rfl rfl rfl kr Tryz.func3 kr
  (zbe kr) (by unfold Func.isWrapper; first | (rw[zap (by decide +kernel)]; kernel_rfl) | (rw[zai (by decide +kernel)]; exact⟨rfl,rfl⟩))
  (λos started H enc _=>q2u os started H enc)
#print axioms topMaskCells_holds
end Go.Proofs.YtnchigbbjajiiaaGreat
