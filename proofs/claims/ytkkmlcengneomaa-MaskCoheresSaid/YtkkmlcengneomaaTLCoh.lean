/- THE CLAIM: MaskCoheres returns true for every input, and its arguments read as they did. No condition. -/
import Derived.Test.YtkkmlcengneomaaT6
import Derived.Test.YtkkmlcengneomaaOpen
import Derived.Test.YtkkmlcengneomaaOpenA
namespace Go.Proofs.Ytkkmlcengneomaa
open Go.ChangeShapes Go.WideShapes Go.ChangeAt Go.RowKit Go.Deep Eng Ls
set_option linter.unusedVariables false

theorem maskCoheres_walk (W : World) {A0 : Option Addr} {n0 c0 : Nat} {z0 : List (List Int)} (s0 : SM W A0 n0 c0 z0) : Calls Try.prog 7 #[.slice A0 n0 c0] W fun e W' => e = .returned (.bool true) ∧ Below W.heap.size W W' := by
  obtain rfl := s0.len
  have hx : RdArgs (fun b => W.heap[b]?) [.list tInts] (z0, ()) [.slice A0 z0.length c0] := ⟨_, _, rfl, SM_rd0 s0, rfl⟩
  exact law_walk' (x := ((z0, ()) : argsTy [tMask])) maskCoheres_meets (show fitL z0 from s0.nmax) hx

set_option maxRecDepth 100000 in
theorem maskCoheres_lifted (os : Os) (started : os.Started) (H : Type) (enc : TypeId × Value → H) :
    ReturnsInHanded {} Try.checked os 7 .any (Rows.maskCoheresSpec.pre6 enc Try.prog Try.f7 Rows.maskCoheresRow.domain false) (Rows.maskCoheresSpec.post enc Try.prog Try.f7 false true false false) := by
  refine returnsInHanded_of_change (C := Try.checked) own started (by kernel_rfl) Try.func7
    (ChangeSpec.witness6 (enc := enc) (C := Try.checked) false ⟨#[], #[.slice none 0 0], []⟩ 8 (by kernel_rfl) (by kernel_rfl) (by kernel_rfl) (by kernel_rfl)) ?_
  intro W base args ds gs before hval0 hW hcnd _
  have hval : ∀ (j : Nat) t v, Try.f7.params[j]? = some t → args[j]? = some v → Value.okWide Try.prog W .any base t v := hval0
  have hW' := hW
  obtain ⟨p, q, hA0, hV, rfl, hfz, hnd⟩ := hW
  have hA : DataW.TrodAll enc Try.prog W 0 (fun _ => true) true Try.f7.params.toList args.toList ds p := hA0
  rw [Try.params7] at hA hval
  obtain ⟨v0, vs0, d0, ds0, p0, q0, hargs, rfl, rfl, h0, r0⟩ := trodAll_cons hA
  obtain ⟨rfl, rfl, rfl⟩ := trodAll_nil r0
  obtain rfl : args = #[v0] := by cases args; simp_all
  obtain ⟨rfl, rfl⟩ := trodVars_none hV
  have k0 := h0
  have lt0 : ∀ x ∈ p0, x.block < W.heap.size := by obtain ⟨m, hm⟩ := k0; exact DataW.trod_lt m _ _ _ hm
  obtain ⟨A0, n0, c0, z0, rfl, s0⟩ := openM Try.underlying23 Try.underlying24 Try.underlying3 (by kernel_rfl) (by kernel_rfl) (okWide_slice Try.underlying23 (hval 0 23 v0 rfl rfl)) h0
  clear hA0 hval0
  refine (maskCoheres_walk W s0).mono fun e W' ⟨he, bel⟩ => ?_
  subst he
  exact ⟨_, rfl, _, _, _, [], _, [], hW', trodAll_mk1 (shut_bool Try.underlying4 _), (trodAll_cons_mk (Below.trod laidOut (by kernel_rfl) (of_decide_eq_true (by kernel_rfl)) k0 bel lt0) trodAll_mk0), rfl, bel.frame _, fun h => by cases h⟩

/-- THE STATEMENT. -/
theorem maskCoheres_holds : Rows.MaskCoheresSaid :=
  OpenClaim.holds_of_wide 7 Try.f7 rfl rfl rfl rfl rfl rfl rfl ⟨rfl, rfl, rfl, rfl, rfl⟩ rfl rfl rfl rfl rfl (by kernel_rfl) Try.func7 (by kernel_rfl)
    (of_decide_eq_true (by kernel_rfl)) (by unfold Func.isWrapper; first | (rw [if_pos (by decide +kernel)]; kernel_rfl) | (rw [if_neg (by decide +kernel)]; exact ⟨rfl, rfl⟩))
    (fun os started H enc _ => maskCoheres_lifted os started H enc)

#print axioms maskCoheres_holds
end Go.Proofs.Ytkkmlcengneomaa
