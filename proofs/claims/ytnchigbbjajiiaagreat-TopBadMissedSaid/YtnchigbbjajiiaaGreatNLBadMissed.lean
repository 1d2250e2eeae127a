/- THE CLAIM: TopBadMissed returns true for every input, and its arguments read as they did. No condition. -/
import Derived.Test.YtnchigbbjajiiaaGreatQOpn
set_option linter.unusedSimpArgs false
namespace Go.Proofs.YtnchigbbjajiiaaGreat
open Go.ChangeShapes Go.WideShapes Go.ChangeAt Go.RowKit Go.Deep Eng Ls
open Go.ChangeMaps (open_string shut_string)
set_option linter.unusedVariables false
theorem q56 (W:World) {A0:Option Addr} {n0 c0:Nat} {z0:List (List Int)} (s0:SM W A0 n0 c0 z0):Calls Tryz.prog 7 #[.slice A0 n0 c0] W λe W'=>e=.returned (.bool true)/\Below W.heap.size W W':=by
 obtain rfl:=s0.len
 have hx:qu1 (λb=>W.heap[b]?) [.list qe8] (z0,()) [.slice A0 z0.length c0]:=⟨_,_,rfl,yb6 s0,rfl⟩
 exact xe6 (x:=((z0,()):qa3 [qf9])) xv0 (x8y s0) hx
set_option maxRecDepth 100000 in
theorem q3v (os:Os) (started:os.Started) (H:Type) (enc:TypeId × Value->H) :
  ReturnsInHanded {} Tryz.checked os 7 .any (Rows.topBadMissedSpec.pre6 enc Tryz.prog Tryz.f7 Rows.topBadMissedRow.domain false) (Rows.topBadMissedSpec.post enc Tryz.prog Tryz.f7 false true false false):=by
 refine returnsInHanded_of_change (C:=Tryz.checked) own started kr Tryz.func7
  (ChangeSpec.witness6 (enc:=enc) (C:=Tryz.checked) false ⟨#[],#[.slice none 0 0],[]⟩ 8 kr kr kr kr) ?_
 intro W base args ds gs before hval0 hW hcnd _
 have hval:∀(j:Nat) t v,Tryz.f7.params[j]? = some t->args[j]? = some v->Value.okWide Tryz.prog W .any base t v:=hval0
 have hW':=hW
 obtain⟨p,q,hA0,hV,rfl,hfz,hnd⟩:=hW
 have hA:DataW.TrodAll enc Tryz.prog W 0 (λ_=>true) true Tryz.f7.params.toList args.toList ds p:=hA0
 rw[Tryz.params7] at hA hval
 obtain⟨v0,vs0,d0,ds0,p0,q0,hargs,rfl,rfl,h0,r0⟩:=trodAll_cons hA
 obtain⟨rfl,rfl,rfl⟩:=trodAll_nil r0
 obtain rfl:args=#[v0]:=by cases args; simp_all
 obtain⟨rfl,rfl⟩:=trodVars_none hV
 have k0:=h0
 have lt0:∀x∈p0,x.block<W.heap.size:=by obtain⟨m,hm⟩:=k0; exact DataW.trod_lt m _ _ _ hm
 obtain⟨A0,n0,c0,z0,rfl,s0⟩:=y09 Tryz.underlying23 Tryz.underlying24 Tryz.underlying3 kr kr (okWide_slice Tryz.underlying23 (hval 0 23 v0 rfl rfl)) h0
 clear hA0 hval0
 refine(q56 W s0).mono λe W' ⟨he,bel⟩=>?_
 subst he
 exact⟨_,rfl,_,_,_,[],_,[],hW',trodAll_mk1 (shut_bool Tryz.underlying4 _),(trodAll_cons_mk (Below.trod laidOut kr (za3 kr) k0 bel lt0) trodAll_mk0),rfl,bel.frame _,λh=>by cases h⟩
theorem topBadMissed_holds:Rows.TopBadMissedSaid:=
 OpenClaim.holds_of_wide 7 Tryz.f7 rfl rfl rfl rfl rfl rfl rfl ⟨rfl,rfl,rfl,rfl,rfl⟩ rfl rfl rfl rfl rfl kr Tryz.func7 kr
  (za3 kr) (by unfold Func.isWrapper; first | (rw[zap (by decide +kernel)]; kernel_rfl) | (rw[zaj (by decide +kernel)]; exact⟨rfl,rfl⟩))
  (λos started H enc _=>q3v os started H enc)
#print axioms topBadMissed_holds
end Go.Proofs.YtnchigbbjajiiaaGreat
