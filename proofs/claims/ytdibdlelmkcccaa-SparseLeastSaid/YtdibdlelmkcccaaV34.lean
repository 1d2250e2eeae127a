/- The laws SparseLeast and SparseWhole: contracts by the engine. No condition. -/
import Derived.Test.YtdibdlelmkcccaaV33
set_option linter.unusedVariables false
set_option linter.unusedSimpArgs false
namespace Go.Proofs.Ytdibdlelmkcccaa
open Go Go.RowKit Eng
theorem fitLen_fits {m : List (List Int)} {y : List Int} {k : Int} : ∀ f ∈ fitsL m y k, FitLen f := fun f hf => by
  have h := (fitsL_named hf).2
  have h1 := h.len
  have h2 := h.lenB
  exact ⟨by omega, by omega⟩
theorem fitLen_empty : FitLen emptyF := ⟨by decide, by decide⟩
theorem fitLen_nF {L : List Fit} (h : ∀ f ∈ L, FitLen f) : FitLen (nF L 0) := by
  cases L with
  | nil => exact fitLen_empty
  | cons f L => exact h f (by simp)
theorem sparR_mem {m : List (List Int)} {y : List Int} : ∀ f ∈ (sparR m y).1, FitLen f := fun f hf => by
  unfold sparR at hf
  split at hf
  · split at hf
    · cases hf
    · exact fitLen_fits f (List.takeWhile_subset _ hf)
  · cases hf
theorem fitLen_sps (m : List (List Int)) (y : List Int) : FitLen (spsR m y).1 := by
  unfold spsR
  split
  · exact fitLen_nF sparR_mem
  · exact fitLen_empty
theorem fitLen_onl (m : List (List Int)) (y : List Int) : FitLen (onlR m y).1 := by
  unfold onlR
  split
  · exact fitLen_empty
  · split
    · exact fitLen_empty
    · exact fitLen_nF sparR_mem
theorem sameF_self (f : Fit) : sameF (f.1, f.2) (f.1, f.2) = true := by simp [sameF]
abbrev sLeast : FSpec := tspec true none [tMask, tInts] [.bool] (fun x => FitM x.1) (fun _ => (true, ()))
theorem sparseLeast_meets : Meets Try.prog 3 sLeast := by
  refine meets (snd (SpecsOk.cons lgt_meets (SpecsOk.cons long_meets (SpecsOk.cons awake4_meets (SpecsOk.cons sps_meets (SpecsOk.cons sps4_meets (SpecsOk.cons onl_meets (SpecsOk.cons onl4_meets (SpecsOk.cons sameF_meets (SpecsOk.cons siz_meets (SpecsOk.cons siz4_meets (SpecsOk.cons cou_meets (SpecsOk.cons cou4_meets (SpecsOk.nil _)))))))))))))) Try.func3 rfl rfl (fun _ _ => none) (fun _ => by kernel_rfl) (by decide) ?_
  rintro ⟨m, y, ⟨⟩⟩ h
  revert m y
  intro (m : List (List Int)) (y : List Int) (h : FitM m)
  refine by_vc (B := FitM m /\ ((!lightB m) = true -> True /\ true = true) /\ ((!lightB m) = false -> List.length [y] <= (1000 : Nat) /\ (longB [y] = true -> True /\ true = true) /\ (longB [y] = false -> SprPre m y /\ F4Pre m y /\ SprPre m y /\ F4Pre m y /\ FitLen (Prod.fst (Prod.fst (spsR m y)), Prod.snd (Prod.fst (spsR m y))) /\ ((!sameF (Prod.fst (Prod.fst (spsR m y)), Prod.snd (Prod.fst (spsR m y))) (Prod.fst (Prod.fst (sps4 m y)), Prod.snd (Prod.fst (sps4 m y)))) = true -> false = true) /\ ((!sameF (Prod.fst (Prod.fst (spsR m y)), Prod.snd (Prod.fst (spsR m y))) (Prod.fst (Prod.fst (sps4 m y)), Prod.snd (Prod.fst (sps4 m y)))) = false -> ((Prod.snd (spsR m y) != Prod.snd (sps4 m y)) = true -> false = true) /\ ((Prod.snd (spsR m y) != Prod.snd (sps4 m y)) = false -> FitLen (Prod.fst (Prod.fst (onlR m y)), Prod.snd (Prod.fst (onlR m y))) /\ ((!sameF (Prod.fst (Prod.fst (onlR m y)), Prod.snd (Prod.fst (onlR m y))) (Prod.fst (Prod.fst (onl4 m y)), Prod.snd (Prod.fst (onl4 m y)))) = true -> false = true) /\ ((!sameF (Prod.fst (Prod.fst (onlR m y)), Prod.snd (Prod.fst (onlR m y))) (Prod.fst (Prod.fst (onl4 m y)), Prod.snd (Prod.fst (onl4 m y)))) = false -> ((Prod.snd (onlR m y) != Prod.snd (onl4 m y)) = true -> false = true) /\ ((Prod.snd (onlR m y) != Prod.snd (onl4 m y)) = false -> SprPre m y /\ F4Pre m y /\ SprPre m y /\ F4Pre m y /\ ((Prod.fst (sizR m y) == Prod.fst (siz4 m y)) = true -> ((Prod.snd (sizR m y) == Prod.snd (siz4 m y)) = true -> ((Prod.fst (cntR m y) == Prod.fst (cnt4 m y)) = true -> ((Prod.snd (cntR m y) == Prod.snd (cnt4 m y)) = true -> True /\ true = true) /\ ((Prod.snd (cntR m y) == Prod.snd (cnt4 m y)) = false -> false = true)) /\ ((Prod.fst (cntR m y) == Prod.fst (cnt4 m y)) = false -> false = true)) /\ ((Prod.snd (sizR m y) == Prod.snd (siz4 m y)) = false -> false = true)) /\ ((Prod.fst (sizR m y) == Prod.fst (siz4 m y)) = false -> false = true)))))))) (by kernel_rfl) ?_
  try simp only [z0, z1, z2, z3, z4, z5, z6, z7, z8, z9, z10, Int.reduceEq, z11, z12, z13, z14, z15, z16, z17, z18, z19, z20, z21, z22, z23, z24, z25, z26, z27, z28, z29, z30, Int.reduceLE, Int.reduceLT, z31, z32, z33, z34, nilEq_true]
  try simp only [nthD_nI, nthD_nL, nL_one, List.set_cons_zero, List.cons.injEq, and_true, true_and]
  refine ⟨h, fun hl => ⟨by omega, fun _ => ?_⟩⟩
  have hp := sprPre (y := y) h hl
  have h4 := f4Pre (y := y) h hl
  rw [← sps_eq y hl, ← onl_eq y hl, ← siz_eq y hl, ← cnt_eq y hl]
  refine ⟨hp, h4, hp, h4, fitLen_sps m y, fun hn => ?_, fun _ => ⟨fun hn => absurd rfl hn, fun _ => ⟨fitLen_onl m y, fun hn => ?_, fun _ => ⟨fun hn => absurd rfl hn, fun _ => ⟨hp, h4, hp, h4, fun _ => ⟨fun _ => ⟨fun _ hn => absurd rfl hn, fun hn => absurd rfl hn⟩, fun hn => absurd rfl hn⟩, fun hn => absurd rfl hn⟩⟩⟩⟩⟩
  · rw [sameF_self] at hn; cases hn
  · rw [sameF_self] at hn; cases hn
end Go.Proofs.Ytdibdlelmkcccaa
