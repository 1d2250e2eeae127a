/- THE CLAIM: TopDarkPixel returns true for every input, and its arguments read as they did. No condition. -/
import Derived.Test.YtmijnbjlhnpokaaGreatQOpn
namespace Go.Proofs.YtmijnbjlhnpokaaGreat
open Go.ChangeShapes Go.WideShapes Go.ChangeAt Go.RowKit Go.Deep Eng Ls
open Go.ChangeMaps (open_string shut_string)
set_option linter.unusedVariables false
theorem q47 (W:World) {A0:Option Addr} {n0 c0:Nat} {z0:List (List Int)} (s0:SM W A0 n0 c0 z0) {a1:Int} (w1:(Lit.int .i64 a1).wf=true) {a2:Int} (w2:(Lit.int .i64 a2).wf=true):Calls Tryz.prog 4 #[.slice A0 n0 c0,.int .i64 a1,.int .i64 a2] W λe W'=>e=.returned (.bool true)/\Below W.heap.size W W':=by
 obtain rfl:=s0.len
 have hx:qt7 (λb=>W.heap[b]?) [.list qe9,qc8,qc8] (z0,a1,a2,()) [.slice A0 z0.length c0,.int .i64 a1,.int .i64 a2]:=⟨_,_,rfl,x3k s0,⟨_,_,rfl,rfl,⟨_,_,rfl,rfl,rfl⟩⟩⟩
 exact w8h (x:=((z0,a1,a2,()):qa4 [qg0,qc8,qc8])) xe6 (x2a s0) hx
set_option maxRecDepth 100000 in
theorem q20 (os:Os) (started:os.Started) (H:Type) (enc:TypeId × Value->H) :
  ReturnsInHanded {} Tryz.checked os 4 .any (Rows.topDarkPixelSpec.pre6 enc Tryz.prog Tryz.f4 Rows.topDarkPixelRow.domain false) (Rows.topDarkPixelSpec.post enc Tryz.prog Tryz.f4 false true false false):=by
 refine returnsInHanded_of_change (C:=Tryz.checked) own started (by kernel_rfl) Tryz.func4
  (ChangeSpec.witness6 (enc:=enc) (C:=Tryz.checked) false ⟨#[],#[.slice none 0 0,.int .i64 0,.int .i64 0],[]⟩ 8 (by kernel_rfl) (by kernel_rfl) (by kernel_rfl) (by kernel_rfl)) ?_
 intro W base args ds gs before hval0 hW hcnd _
 have hval:∀(j:Nat) t v,Tryz.f4.params[j]? = some t->args[j]? = some v->Value.okWide Tryz.prog W .any base t v:=hval0
 have hW':=hW
 obtain⟨p,q,hA0,hV,rfl,hfz,hnd⟩:=hW
 have hA:DataW.TrodAll enc Tryz.prog W 0 (λ_=>true) true Tryz.f4.params.toList args.toList ds p:=hA0
 rw[Tryz.params4] at hA hval
 obtain⟨v0,vs0,d0,ds0,p0,q0,hargs,rfl,rfl,h0,r0⟩:=trodAll_cons hA
 obtain⟨v1,vs1,d1,ds1,p1,q1,rfl,rfl,rfl,h1,r1⟩:=trodAll_cons r0
 obtain⟨v2,vs2,d2,ds2,p2,q2,rfl,rfl,rfl,h2,r2⟩:=trodAll_cons r1
 obtain⟨rfl,rfl,rfl⟩:=trodAll_nil r2
 obtain rfl:args=#[v0,v1,v2]:=by cases args; simp_all
 obtain⟨rfl,rfl⟩:=trodVars_none hV
 have k0:=h0
 have lt0:∀x∈p0,x.block<W.heap.size:=by obtain⟨m,hm⟩:=k0; exact DataW.trod_lt m _ _ _ hm
 obtain⟨A0,n0,c0,z0,rfl,s0⟩:=yb4 Tryz.underlying23 Tryz.underlying34 Tryz.underlying3 (by kernel_rfl) (by kernel_rfl) (okWide_slice Tryz.underlying23 (hval 0 23 v0 rfl rfl)) h0
 obtain⟨a1,rfl,rfl,rfl,w1⟩:=open_int Tryz.underlying3 (hval 1 3 v1 rfl rfl) h1
 obtain⟨a2,rfl,rfl,rfl,w2⟩:=open_int Tryz.underlying3 (hval 2 3 v2 rfl rfl) h2
 clear hA0 hval0
 refine(q47 W s0 w1 w2).mono λe W' ⟨he,bel⟩=>?_
 subst he
 exact⟨_,rfl,_,_,_,[],_,[],hW',trodAll_mk1 (shut_bool Tryz.underlying4 _),(trodAll_cons_mk (Below.trod laidOut (by kernel_rfl) (of_decide_eq_true (by kernel_rfl)) k0 bel lt0) (trodAll_cons_mk (shut_int Tryz.underlying3 w1) (trodAll_cons_mk (shut_int Tryz.underlying3 w2) trodAll_mk0))),rfl,bel.frame _,λh=>by cases h⟩
theorem topDarkPixel_holds:Rows.TopDarkPixelSaid:=
 OpenClaim.holds_of_wide 4 Tryz.f4 rfl rfl rfl rfl rfl rfl rfl ⟨rfl,rfl,rfl,rfl,rfl⟩ rfl rfl rfl rfl rfl (by kernel_rfl) Tryz.func4 (by kernel_rfl)
  (of_decide_eq_true (by kernel_rfl)) (by unfold Func.isWrapper; first | (rw[if_pos (by decide +kernel)]; kernel_rfl) | (rw[if_neg (by decide +kernel)]; exact⟨rfl,rfl⟩))
  (λos started H enc _=>q20 os started H enc)
#print axioms topDarkPixel_holds
end Go.Proofs.YtmijnbjlhnpokaaGreat
