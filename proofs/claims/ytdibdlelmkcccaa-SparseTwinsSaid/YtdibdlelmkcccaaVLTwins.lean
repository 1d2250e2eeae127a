/- THE CLAIM: SparseTwins returns true for every input, and its arguments read as they did. No condition. -/
import Derived.Test.YtdibdlelmkcccaaV36
import Derived.Test.YtdibdlelmkcccaaVOpn
namespace Go.Proofs.Ytdibdlelmkcccaa
open Go.ChangeShapes Go.WideShapes Go.ChangeAt Go.RowKit Go.Deep Eng Ls
open Go.ChangeMaps (open_string shut_string)
set_option linter.unusedVariables false
theorem q47 (W:World) {A0:Option Addr} {n0 c0:Nat} {z0:List (List Int)} (s0:SM W A0 n0 c0 z0) {a1:Int} (w1:(Lit.int .i64 a1).wf=true) {A2:Option Addr} {n2 c2:Nat} {z2:List Int} (s2:SI W A2 n2 c2 z2) {A3:Option Addr} {n3 c3:Nat} {z3:List Int} (s3:SI W A3 n3 c3 z3):Calls Try.prog 6 #[.slice A0 n0 c0,.int .i64 a1,.slice A2 n2 c2,.slice A3 n3 c3] W λe W'=>e=.returned (.bool true)/\Below W.heap.size W W':=by
 obtain rfl:=s0.len
 obtain rfl:=s2.len
 obtain rfl:=s3.len
 have hx:qz9 (λb=>W.heap[b]?) [.list qf6,qg1,qf6,qf6] (z0,a1,z2,z3,()) [.slice A0 z0.length c0,.int .i64 a1,.slice A2 z2.length c2,.slice A3 z3.length c3]:=⟨_,_,rfl,xo8 s0,⟨_,_,rfl,rfl,⟨_,_,rfl,w4t s2,⟨_,_,rfl,w4t s3,rfl⟩⟩⟩⟩
 exact w4s (x:=((z0,a1,z2,z3,()):qa7 [qk0,qg1,qf6,qf6])) q4o (xl2 s0) hx
set_option maxRecDepth 100000 in
theorem q3v (os:Os) (started:os.Started) (H:Type) (enc:TypeId × Value->H) :
  ReturnsInHanded {} Try.checked os 6 .any (Rows.sparseTwinsSpec.pre6 enc Try.prog Try.f6 Rows.sparseTwinsRow.domain false) (Rows.sparseTwinsSpec.post enc Try.prog Try.f6 false true false false):=by
 refine returnsInHanded_of_change (C:=Try.checked) own started (by kernel_rfl) Try.func6
  (ChangeSpec.witness6 (enc:=enc) (C:=Try.checked) false ⟨#[],#[.slice none 0 0,.int .i64 0,.slice none 0 0,.slice none 0 0],[]⟩ 8 (by kernel_rfl) (by kernel_rfl) (by kernel_rfl) (by kernel_rfl)) ?_
 intro W base args ds gs before hval0 hW hcnd _
 have hval:∀(j:Nat) t v,Try.f6.params[j]? = some t->args[j]? = some v->Value.okWide Try.prog W .any base t v:=hval0
 have hW':=hW
 obtain⟨p,q,hA0,hV,rfl,hfz,hnd⟩:=hW
 have hA:DataW.TrodAll enc Try.prog W 0 (λ_=>true) true Try.f6.params.toList args.toList ds p:=hA0
 rw[Try.params6] at hA hval
 obtain⟨v0,vs0,d0,ds0,p0,q0,hargs,rfl,rfl,h0,r0⟩:=trodAll_cons hA
 obtain⟨v1,vs1,d1,ds1,p1,q1,rfl,rfl,rfl,h1,r1⟩:=trodAll_cons r0
 obtain⟨v2,vs2,d2,ds2,p2,q2,rfl,rfl,rfl,h2,r2⟩:=trodAll_cons r1
 obtain⟨v3,vs3,d3,ds3,p3,q3,rfl,rfl,rfl,h3,r3⟩:=trodAll_cons r2
 obtain⟨rfl,rfl,rfl⟩:=trodAll_nil r3
 obtain rfl:args=#[v0,v1,v2,v3]:=by cases args; simp_all
 obtain⟨rfl,rfl⟩:=trodVars_none hV
 have k0:=h0
 have lt0:∀x∈p0,x.block<W.heap.size:=by obtain⟨m,hm⟩:=k0; exact DataW.trod_lt m _ _ _ hm
 obtain⟨A0,n0,c0,z0,rfl,s0⟩:=x1d Try.underlying23 Try.underlying24 Try.underlying3 (by kernel_rfl) (by kernel_rfl) (okWide_slice Try.underlying23 (hval 0 23 v0 rfl rfl)) h0
 obtain⟨a1,rfl,rfl,rfl,w1⟩:=open_int Try.underlying3 (hval 1 3 v1 rfl rfl) h1
 have k2:=h2
 have lt2:∀x∈p2,x.block<W.heap.size:=by obtain⟨m,hm⟩:=k2; exact DataW.trod_lt m _ _ _ hm
 obtain⟨A2,n2,c2,z2,rfl,s2⟩:=xu6 Try.underlying24 Try.underlying3 (by kernel_rfl) (okWide_slice Try.underlying24 (hval 2 24 v2 rfl rfl)) h2
 have k3:=h3
 have lt3:∀x∈p3,x.block<W.heap.size:=by obtain⟨m,hm⟩:=k3; exact DataW.trod_lt m _ _ _ hm
 obtain⟨A3,n3,c3,z3,rfl,s3⟩:=xu6 Try.underlying24 Try.underlying3 (by kernel_rfl) (okWide_slice Try.underlying24 (hval 3 24 v3 rfl rfl)) h3
 clear hA0 hval0
 refine(q47 W s0 w1 s2 s3).mono λe W' ⟨he,bel⟩=>?_
 subst he
 exact⟨_,rfl,_,_,_,[],_,[],hW',trodAll_mk1 (shut_bool Try.underlying4 _),(trodAll_cons_mk (Below.trod laidOut (by kernel_rfl) (of_decide_eq_true (by kernel_rfl)) k0 bel lt0) (trodAll_cons_mk (shut_int Try.underlying3 w1) (trodAll_cons_mk (Below.trod laidOut (by kernel_rfl) (of_decide_eq_true (by kernel_rfl)) k2 bel lt2) (trodAll_cons_mk (Below.trod laidOut (by kernel_rfl) (of_decide_eq_true (by kernel_rfl)) k3 bel lt3) trodAll_mk0)))),rfl,bel.frame _,λh=>by cases h⟩
theorem sparseTwins_holds:Rows.SparseTwinsSaid:=
 OpenClaim.holds_of_wide 6 Try.f6 rfl rfl rfl rfl rfl rfl rfl ⟨rfl,rfl,rfl,rfl,rfl⟩ rfl rfl rfl rfl rfl (by kernel_rfl) Try.func6 (by kernel_rfl)
  (of_decide_eq_true (by kernel_rfl)) (by unfold Func.isWrapper; first | (rw[if_pos (by decide +kernel)]; kernel_rfl) | (rw[if_neg (by decide +kernel)]; exact⟨rfl,rfl⟩))
  (λos started H enc _=>q3v os started H enc)
#print axioms sparseTwins_holds
end Go.Proofs.Ytdibdlelmkcccaa
