/- THE CLAIM: PicSizes returns true for every input, and its arguments read as they did. No condition. -/
import Derived.Test.YtahccnljckgjmaaS10
import Derived.Test.YtahccnljckgjmaaPOpenP
namespace Go.Proofs.Ytahccnljckgjmaa
open Go.ChangeShapes Go.WideShapes Go.ChangeAt Go.RowKit Go.Deep Eng Ls
set_option linter.unusedVariables false

theorem picSizes_walk (W : World) {A0 : Option Addr} {n0 c0 : Nat} {z0 : List Int} (s0 : SI W A0 n0 c0 z0) {a1 : Int} (w1 : (Lit.int .i64 a1).wf = true) {a2 b2 : Int} {A2 : Option Addr} {n2 c2 : Nat} {z2 : List Int} (s2 : SI W A2 n2 c2 z2) : Calls Try.prog 12 #[.slice A0 n0 c0, .int .i64 a1, .agg #[.int .i64 a2, .int .i64 b2, .slice A2 n2 c2]] W fun e W' => e = .returned (.bool true) ∧ Below W.heap.size W W' := by
  obtain rfl := s0.len
  obtain rfl := s2.len
  have hx : RdArgs (fun b => W.heap[b]?) [tInts, tInt, tPic] (z0, a1, (a2, b2, z2), ()) [.slice A0 z0.length c0, .int .i64 a1, .agg #[.int .i64 a2, .int .i64 b2, .slice A2 z2.length c2]] := ⟨_, _, rfl, SI_rd0 s0, ⟨_, _, rfl, rfl, ⟨_, _, rfl, pic_mk0 s2, rfl⟩⟩⟩
  exact law_walk picSizes_meets hx

set_option maxRecDepth 100000 in
theorem picSizes_lifted (os : Os) (started : os.Started) (H : Type) (enc : TypeId × Value → H) :
    ReturnsInHanded {} Try.checked os 12 .any (Rows.picSizesSpec.pre6 enc Try.prog Try.f12 Rows.picSizesRow.domain false) (Rows.picSizesSpec.post enc Try.prog Try.f12 false true false false) := by
  refine returnsInHanded_of_change (C := Try.checked) own started (by kernel_rfl) Try.func12
    (ChangeSpec.witness6 (enc := enc) (C := Try.checked) false ⟨#[], #[.slice none 0 0, .int .i64 0, .agg #[.int .i64 0, .int .i64 0, .slice none 0 0]], []⟩ 8 (by kernel_rfl) (by kernel_rfl) (by kernel_rfl) (by kernel_rfl)) ?_
  intro W base args ds gs before hval0 hW hcnd _
  have hval : ∀ (j : Nat) t v, Try.f12.params[j]? = some t → args[j]? = some v → Value.okWide Try.prog W .any base t v := hval0
  have hW' := hW
  obtain ⟨p, q, hA0, hV, rfl, hfz, hnd⟩ := hW
  have hA : DataW.TrodAll enc Try.prog W 0 (fun _ => true) true Try.f12.params.toList args.toList ds p := hA0
  rw [Try.params12] at hA hval
  obtain ⟨v0, vs0, d0, ds0, p0, q0, hargs, rfl, rfl, h0, r0⟩ := trodAll_cons hA
  obtain ⟨v1, vs1, d1, ds1, p1, q1, rfl, rfl, rfl, h1, r1⟩ := trodAll_cons r0
  obtain ⟨v2, vs2, d2, ds2, p2, q2, rfl, rfl, rfl, h2, r2⟩ := trodAll_cons r1
  obtain ⟨rfl, rfl, rfl⟩ := trodAll_nil r2
  obtain rfl : args = #[v0, v1, v2] := by cases args; simp_all
  obtain ⟨rfl, rfl⟩ := trodVars_none hV
  have k0 := h0
  have lt0 : ∀ x ∈ p0, x.block < W.heap.size := by obtain ⟨m, hm⟩ := k0; exact DataW.trod_lt m _ _ _ hm
  obtain ⟨A0, n0, c0, z0, rfl, s0⟩ := openI Try.underlying22 Try.underlying3 (by kernel_rfl) (okWide_slice Try.underlying22 (hval 0 22 v0 rfl rfl)) h0
  obtain ⟨a1, rfl, rfl, rfl, w1⟩ := open_int Try.underlying3 (hval 1 3 v1 rfl rfl) h1
  have k2 := h2
  have lt2 : ∀ x ∈ p2, x.block < W.heap.size := by obtain ⟨m, hm⟩ := k2; exact DataW.trod_lt m _ _ _ hm
  obtain ⟨a2, b2, A2, n2, c2, z2, rfl, s2⟩ := openP Try.underlying30 (by kernel_rfl) (by kernel_rfl) Try.underlying3 Try.underlying3 Try.underlying22 Try.underlying3 (by kernel_rfl) (hval 2 30 v2 rfl rfl) h2
  clear hA0 hval0
  refine (picSizes_walk W s0 w1 s2).mono fun e W' ⟨he, bel⟩ => ?_
  subst he
  exact ⟨_, rfl, _, _, _, [], _, [], hW', trodAll_mk1 (shut_bool Try.underlying4 _), (trodAll_cons_mk (Below.trod laidOut (by kernel_rfl) (of_decide_eq_true (by kernel_rfl)) k0 bel lt0) (trodAll_cons_mk (shut_int Try.underlying3 w1) (trodAll_cons_mk (Below.trod laidOut (by kernel_rfl) (of_decide_eq_true (by kernel_rfl)) k2 bel lt2) trodAll_mk0))), rfl, bel.frame _, fun h => by cases h⟩

/-- THE STATEMENT. -/
theorem picSizes_holds : Rows.PicSizesSaid :=
  OpenClaim.holds_of_wide 12 Try.f12 rfl rfl rfl rfl rfl rfl rfl ⟨rfl, rfl, rfl, rfl, rfl⟩ rfl rfl rfl rfl rfl (by kernel_rfl) Try.func12 (by kernel_rfl)
    (of_decide_eq_true (by kernel_rfl)) (by unfold Func.isWrapper; first | (rw [if_pos (by decide +kernel)]; kernel_rfl) | (rw [if_neg (by decide +kernel)]; exact ⟨rfl, rfl⟩))
    (fun os started H enc _ => picSizes_lifted os started H enc)

#print axioms picSizes_holds
end Go.Proofs.Ytahccnljckgjmaa
