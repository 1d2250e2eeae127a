/- The reference's sparsest fit, how many, the only one, the whole ones: contracts by the engine. No condition. -/
import Derived.Test.YtdibdlelmkcccaaV31
set_option linter.unusedVariables false
set_option linter.unusedSimpArgs false
namespace Go.Proofs.Ytdibdlelmkcccaa
open Go Go.RowKit Eng
def sps4 (m : List (List Int)) (y : List Int) : Fit × Int := if (spar4 m y).2 = 0 then (nF (spar4 m y).1 0, 0) else (emptyF, (spar4 m y).2)
def cnt4 (m : List (List Int)) (y : List Int) : Int × Int := ((spar4 m y).1.length, (spar4 m y).2)
def siz4 (m : List (List Int)) (y : List Int) : Int × Int := ((sps4 m y).1.1.length, (sps4 m y).2)
def onl4 (m : List (List Int)) (y : List Int) : Fit × Int := if (spar4 m y).2 ≠ 0 then (emptyF, (spar4 m y).2) else if 1 < (spar4 m y).1.length then (emptyF, 11) else (nF (spar4 m y).1 0, 0)
theorem spar4_ne {m : List (List Int)} {y : List Int} (h : (spar4 m y).2 = 0) : 0 < (spar4 m y).1.length := by
  unfold spar4 at h ⊢
  split
  · rename_i he
    rw [if_pos he] at h
    exact absurd h he
  · rename_i he
    rw [if_neg he] at h
    split
    · rename_i e; rw [if_pos e] at h; cases h
    · rename_i e
      have hp : 0 < (all4 m y).length := by
        rcases Nat.eq_zero_or_pos (all4 m y).length with q | q
        · exact absurd (List.eq_nil_of_length_eq_zero q) e
        · exact q
      have h1 := eqTo_pos (L := all4 m y) hp (Nat.le_refl _)
      have h2 : eqTo (all4 m y) (all4 m y).length = eqL (all4 m y) := by unfold eqTo eqL; rw [List.take_length]
      rw [h2] at h1
      dsimp only
      exact h1
abbrev sSps4 : FSpec := tspec false none [tMask, tInts] [tFit, tInt] (fun x => F4Pre x.1 x.2.1) (fun x => ((sps4 x.1 x.2.1).1, (sps4 x.1 x.2.1).2, ()))
theorem sps4_meets : Meets Try.prog 12 sSps4 := by
  refine meets (snd (SpecsOk.cons spar4_meets (SpecsOk.nil _))) Try.func12 rfl rfl (fun _ _ => none) (fun _ => by kernel_rfl) (by decide) ?_
  rintro ⟨m, y, ⟨⟩⟩ h
  revert m y
  intro (m : List (List Int)) (y : List Int) (h : F4Pre m y)
  refine by_vc (B := F4Pre m y /\ ((Prod.snd (spar4 m y) != (0 : Int)) = true -> (Prod.fst (Prod.fst (sps4 m y)) = [] /\ Prod.snd (Prod.fst (sps4 m y)) = [] /\ True) /\ Prod.snd (spar4 m y) = Prod.snd (sps4 m y) /\ True) /\ ((Prod.snd (spar4 m y) != (0 : Int)) = false -> ((0 : Int) <= (0 : Int) /\ (0 : Int) < (↑(List.length (Prod.fst (spar4 m y))) : Int)) /\ (Prod.fst (nthD (Ty.prod (Ty.list (Ty.int .i64)) (Ty.list (Ty.prod (Ty.int .i64) (Ty.int .i64)))) (Prod.fst (spar4 m y)) (0 : Nat)) = Prod.fst (Prod.fst (sps4 m y)) /\ Prod.snd (nthD (Ty.prod (Ty.list (Ty.int .i64)) (Ty.list (Ty.prod (Ty.int .i64) (Ty.int .i64)))) (Prod.fst (spar4 m y)) (0 : Nat)) = Prod.snd (Prod.fst (sps4 m y)) /\ True) /\ (0 : Int) = Prod.snd (sps4 m y) /\ True)) (by kernel_rfl) ?_
  try simp only [z0, z1, z2, z3, z4, z5, z6, z7, z8, z9, z10, Int.reduceEq, z11, z12, z13, z14, z15, z16, z17, z18, z19, z20, z21, z22, z23, z24, z25, z26, z27, z28, z29, z30, Int.reduceLE, Int.reduceLT, z31, z32, z33, z34, nilEq_true]
  try simp only [nthD_nI, nthD_nL, nL_one, List.set_cons_zero, List.cons.injEq, and_true, true_and]
  refine ⟨h, fun he => ?_, fun he => ⟨by have := spar4_ne he; omega, ?_⟩⟩
  · rw [sps4, if_neg (by omega)]; exact ⟨⟨rfl, rfl⟩, rfl⟩
  · rw [sps4, if_pos (by omega)]; exact ⟨⟨rfl, rfl⟩, rfl⟩
abbrev sSiz4 : FSpec := tspec true none [tMask, tInts] [tInt, tInt] (fun x => F4Pre x.1 x.2.1) (fun x => ((siz4 x.1 x.2.1).1, (siz4 x.1 x.2.1).2, ()))
theorem siz4_meets : Meets Try.prog 17 sSiz4 := by
  refine meets (snd (SpecsOk.cons sps4_meets (SpecsOk.nil _))) Try.func17 rfl rfl (fun _ _ => none) (fun _ => by kernel_rfl) (by decide) ?_
  rintro ⟨m, y, ⟨⟩⟩ h
  revert m y
  intro (m : List (List Int)) (y : List Int) (h : F4Pre m y)
  refine by_vc (B := F4Pre m y /\ (↑(List.length (Prod.fst (Prod.fst (sps4 m y)))) : Int) = Prod.fst (siz4 m y) /\ Prod.snd (sps4 m y) = Prod.snd (siz4 m y) /\ True) (by kernel_rfl) ?_
  try simp only [z0, z1, z2, z3, z4, z5, z6, z7, z8, z9, z10, Int.reduceEq, z11, z12, z13, z14, z15, z16, z17, z18, z19, z20, z21, z22, z23, z24, z25, z26, z27, z28, z29, z30, Int.reduceLE, Int.reduceLT, z31, z32, z33, z34, nilEq_true]
  try simp only [nthD_nI, nthD_nL, nL_one, List.set_cons_zero, List.cons.injEq, and_true, true_and]
  exact ⟨h, rfl, rfl⟩
abbrev sCou4 : FSpec := tspec true none [tMask, tInts] [tInt, tInt] (fun x => F4Pre x.1 x.2.1) (fun x => ((cnt4 x.1 x.2.1).1, (cnt4 x.1 x.2.1).2, ()))
theorem cou4_meets : Meets Try.prog 19 sCou4 := by
  refine meets (snd (SpecsOk.cons spar4_meets (SpecsOk.nil _))) Try.func19 rfl rfl (fun _ _ => none) (fun _ => by kernel_rfl) (by decide) ?_
  rintro ⟨m, y, ⟨⟩⟩ h
  revert m y
  intro (m : List (List Int)) (y : List Int) (h : F4Pre m y)
  refine by_vc (B := F4Pre m y /\ (↑(List.length (Prod.fst (spar4 m y))) : Int) = Prod.fst (cnt4 m y) /\ Prod.snd (spar4 m y) = Prod.snd (cnt4 m y) /\ True) (by kernel_rfl) ?_
  try simp only [z0, z1, z2, z3, z4, z5, z6, z7, z8, z9, z10, Int.reduceEq, z11, z12, z13, z14, z15, z16, z17, z18, z19, z20, z21, z22, z23, z24, z25, z26, z27, z28, z29, z30, Int.reduceLE, Int.reduceLT, z31, z32, z33, z34, nilEq_true]
  try simp only [nthD_nI, nthD_nL, nL_one, List.set_cons_zero, List.cons.injEq, and_true, true_and]
  exact ⟨h, rfl, rfl⟩
abbrev sOnl4 : FSpec := tspec false none [tMask, tInts] [tFit, tInt] (fun x => F4Pre x.1 x.2.1) (fun x => ((onl4 x.1 x.2.1).1, (onl4 x.1 x.2.1).2, ()))
theorem onl4_meets : Meets Try.prog 14 sOnl4 := by
  refine meets (snd (SpecsOk.cons spar4_meets (SpecsOk.nil _))) Try.func14 rfl rfl (fun _ _ => none) (fun _ => by kernel_rfl) (by decide) ?_
  rintro ⟨m, y, ⟨⟩⟩ h
  revert m y
  intro (m : List (List Int)) (y : List Int) (h : F4Pre m y)
  refine by_vc (B := F4Pre m y /\ ((Prod.snd (spar4 m y) != (0 : Int)) = true -> (Prod.fst (Prod.fst (onl4 m y)) = [] /\ Prod.snd (Prod.fst (onl4 m y)) = [] /\ True) /\ Prod.snd (spar4 m y) = Prod.snd (onl4 m y) /\ True) /\ ((Prod.snd (spar4 m y) != (0 : Int)) = false -> (decide ((1 : Int) < (↑(List.length (Prod.fst (spar4 m y))) : Int)) = true -> (Prod.fst (Prod.fst (onl4 m y)) = [] /\ Prod.snd (Prod.fst (onl4 m y)) = [] /\ True) /\ (11 : Int) = Prod.snd (onl4 m y) /\ True) /\ (decide ((1 : Int) < (↑(List.length (Prod.fst (spar4 m y))) : Int)) = false -> ((0 : Int) <= (0 : Int) /\ (0 : Int) < (↑(List.length (Prod.fst (spar4 m y))) : Int)) /\ (Prod.fst (nthD (Ty.prod (Ty.list (Ty.int .i64)) (Ty.list (Ty.prod (Ty.int .i64) (Ty.int .i64)))) (Prod.fst (spar4 m y)) (0 : Nat)) = Prod.fst (Prod.fst (onl4 m y)) /\ Prod.snd (nthD (Ty.prod (Ty.list (Ty.int .i64)) (Ty.list (Ty.prod (Ty.int .i64) (Ty.int .i64)))) (Prod.fst (spar4 m y)) (0 : Nat)) = Prod.snd (Prod.fst (onl4 m y)) /\ True) /\ (0 : Int) = Prod.snd (onl4 m y) /\ True))) (by kernel_rfl) ?_
  try simp only [z0, z1, z2, z3, z4, z5, z6, z7, z8, z9, z10, Int.reduceEq, z11, z12, z13, z14, z15, z16, z17, z18, z19, z20, z21, z22, z23, z24, z25, z26, z27, z28, z29, z30, Int.reduceLE, Int.reduceLT, z31, z32, z33, z34, nilEq_true]
  try simp only [nthD_nI, nthD_nL, nL_one, List.set_cons_zero, List.cons.injEq, and_true, true_and]
  refine ⟨h, fun he => ?_, fun he => ⟨fun h1 => ?_, fun h1 => ⟨by have := spar4_ne he; omega, ?_⟩⟩⟩
  · rw [onl4, if_pos he]; exact ⟨⟨rfl, rfl⟩, rfl⟩
  · rw [onl4, if_neg (by omega), if_pos (by omega)]; exact ⟨⟨rfl, rfl⟩, rfl⟩
  · rw [onl4, if_neg (by omega), if_neg (by omega)]; exact ⟨⟨rfl, rfl⟩, rfl⟩
end Go.Proofs.Ytdibdlelmkcccaa
