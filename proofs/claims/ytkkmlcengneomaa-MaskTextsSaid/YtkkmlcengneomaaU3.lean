/- The reference's Parse of a mask's text, by the engine. No condition. -/
import Derived.Test.YtkkmlcengneomaaU2

set_option linter.unusedVariables false
set_option linter.unusedSimpArgs false
namespace Go.Proofs.Ytkkmlcengneomaa
open Go Go.RowKit Eng Ls

/-- The numbers of the first 't' signs of a line. -/
def sgnTo (s : ByteArray) : Nat → List Int
  | 0 => []
  | t + 1 => sgnTo s t ++ [ixB signsB (byteAt s t) - 1]
/-- What is left behind 'j' lines. -/
def restAt (s : ByteArray) : Nat → ByteArray
  | 0 => s
  | j + 1 => (restAt s j).extract ((ixB (restAt s j) 10).toNat + 1) (restAt s j).size
/-- The rows of the first 'j' lines. -/
def rowsAt (s : ByteArray) : Nat → List (List Int)
  | 0 => []
  | j + 1 => rowsAt s j ++ [sgnTo (restAt s j) (ixB (restAt s j) 10).toNat]
/-- Reading on from line 'j'. -/
def prsT (s : ByteArray) : Nat → Nat → List (List Int) × Int × Int
  | 0, j => ([], 0, 0)
  | f + 1, j => if j = 0 ∨ restAt s j ≠ ⟨#[]⟩ then (if ixB (restAt s j) 10 < 0 then ([], (j : Int), 2) else if validB (rowsAt s (j + 1)) then prsT s f (j + 1) else ([], (j : Int), 2)) else (rowsAt s j, 0, 0)
def parR (s : ByteArray) : List (List Int) × Int × Int := if 65536 < s.size then ([], 0, 3) else prsT s 8 0
def sPrs : FSpec := tspec false none [.str] [tMask, tInt, tInt] (fun _ => True) (fun x => ((parR x.1).1, (parR x.1).2.1, (parR x.1).2.2, ()))
def ivRP (s : ByteArray) : Nat → Option Inv
  | 0 => some (Inv.of [0, 2, 5] 1 (fun j : Nat => [(0, .lit (.string (restAt s j))), (2, .own 0), (5, .lit (.int .i64 j))]) (fun j => [.vec 24 tInts (rowsAt s j)])
      (fun j => j ≤ 6 ∧ (j = 0 ∨ validB (rowsAt s j) = true) ∧ prsT s 8 0 = prsT s (8 - j) j) (fun j => 6 - j))
  | 1 => some ⟨Nat, Nat, [2, 7, 8], 2, fun j t => [(2, .own 0), (7, .own 1), (8, .lit (.int .i64 t))], fun j t => [.vec 24 tInts (rowsAt s j), .vec 3 tInt (sgnTo (restAt s j) t)], fun j t => t ≤ (ixB (restAt s j) 10).toNat, fun j t => (ixB (restAt s j) 10).toNat - t⟩
  | _ => none
theorem restAt_size (s : ByteArray) (j : Nat) : (restAt s j).size ≤ s.size := by
  induction j with
  | zero => exact Nat.le_refl _
  | succ j ih =>
    rw [restAt, ByteArray.size_extract]
    omega
theorem rowsAt_len (s : ByteArray) (j : Nat) : (rowsAt s j).length = j := by
  induction j with
  | zero => rfl
  | succ j ih => rw [rowsAt, List.length_append, ih]; rfl
theorem sgnTo_len (s : ByteArray) (t : Nat) : (sgnTo s t).length = t := by
  induction t with
  | zero => rfl
  | succ t ih => rw [sgnTo, List.length_append, ih]; rfl
def parI (s : ByteArray) (j : Nat) : Prop := j ≤ 6 ∧ (j = 0 ∨ validB (rowsAt s j) = true) ∧ prsT s 8 0 = prsT s (8 - j) j
theorem parse_step {s : ByteArray} {j : Nat} (hs : s.size ≤ 65536) (hj : parI s j) (hc : j = 0 ∨ restAt s j ≠ ⟨#[]⟩) :
    (ixB (restAt s j) 10 < 0 → (parR s).1 = [] ∧ (j : Int) = (parR s).2.1 ∧ 2 = (parR s).2.2) ∧
    (0 ≤ ixB (restAt s j) 10 → ∃ (p : Nat) (x0 : Nat), x0 ≤ (ixB (restAt s p) 10).toNat ∧ (0 = (x0 : Int) ∧ rowsAt s j = rowsAt s p ∧ sgnTo (restAt s p) x0 = []) ∧ ∀ t : Nat, t ≤ (ixB (restAt s p) 10).toNat →
      ((t : Int) < ixB (restAt s j) 10 → t < (restAt s j).size ∧ fits .i64 (ixB ⟨#[45, 46, 43]⟩ (byteAt (restAt s j) t) - 1) ∧ (sgnTo (restAt s p) t).length + 1 ≤ 1000000 ∧ fits .i64 ((t : Int) + 1) ∧ ∃ x' : Nat, x' ≤ (ixB (restAt s p) 10).toNat ∧ (ixB (restAt s p) 10).toNat - x' < (ixB (restAt s p) 10).toNat - t ∧ (t : Int) + 1 = (x' : Int) ∧ sgnTo (restAt s p) t ++ [ixB ⟨#[45, 46, 43]⟩ (byteAt (restAt s j) t) - 1] = sgnTo (restAt s p) x') ∧
      (ixB (restAt s j) 10 ≤ (t : Int) → (rowsAt s p).length + 1 ≤ 1000000 ∧ (validB (rowsAt s p ++ [sgnTo (restAt s p) t]) = false → (parR s).1 = [] ∧ (j : Int) = (parR s).2.1 ∧ 2 = (parR s).2.2) ∧
        (validB (rowsAt s p ++ [sgnTo (restAt s p) t]) = true → fits .i64 (ixB (restAt s j) 10 + 1) ∧ (0 ≤ ixB (restAt s j) 10 + 1 ∧ ixB (restAt s j) 10 + 1 ≤ ((restAt s j).size : Int) ∧ (restAt s j).size ≤ (restAt s j).size) ∧ fits .i64 ((j : Int) + 1) ∧
          ∃ x' : Nat, parI s x' ∧ 6 - x' < 6 - j ∧ (Value.string ((restAt s j).extract (ixB (restAt s j) 10 + 1).toNat (restAt s j).size) = Value.string (restAt s x') ∧ (j : Int) + 1 = (x' : Int)) ∧ rowsAt s p ++ [sgnTo (restAt s p) t] = rowsAt s x'))) := by
  obtain ⟨h6, hv, he⟩ := hj
  have hz := restAt_size s j
  have hb := ixB_bd (restAt s j) 10
  have hR : parR s = prsT s (8 - j) j := by unfold parR; rw [if_neg (by omega), he]
  have h8 : 8 - j = (7 - j) + 1 := by omega
  have hU : prsT s (8 - j) j = if ixB (restAt s j) 10 < 0 then ([], (j : Int), 2) else if validB (rowsAt s (j + 1)) then prsT s (7 - j) (j + 1) else ([], (j : Int), 2) := by
    rw [h8, prsT, if_pos hc]
  refine ⟨fun h => ?_, fun h => ⟨j, 0, Nat.zero_le _, ⟨rfl, rfl, rfl⟩, fun t ht => ⟨fun hlt => ?_, fun hge => ?_⟩⟩⟩
  · rw [hR, hU, if_pos h]
    exact ⟨rfl, rfl, rfl⟩
  · have hc2 := ixB_bd (ByteArray.mk #[45, 46, 43]) (byteAt (restAt s j) t)
    have h3 : ((ByteArray.mk #[45, 46, 43]).size : Int) = 3 := rfl
    rw [h3] at hc2
    refine ⟨by omega, fits64 (by omega) (by omega), by rw [sgnTo_len]; omega, fits64 (by omega) (by omega), t + 1, by omega, by omega, by omega, rfl⟩
  · obtain rfl : t = (ixB (restAt s j) 10).toNat := by omega
    have hrow : rowsAt s j ++ [sgnTo (restAt s j) (ixB (restAt s j) 10).toNat] = rowsAt s (j + 1) := rfl
    rw [hrow, rowsAt_len]
    refine ⟨by omega, fun hf => ?_, fun hf => ?_⟩
    · rw [hR, hU, if_neg (by omega), if_neg (by rw [hf]; simp)]
      exact ⟨rfl, rfl, rfl⟩
    · have hM := IsMask.of hf
      have h2 := hM.rows6
      rw [rowsAt_len] at h2
      refine ⟨fits64 (by omega) (by omega), ⟨by omega, by omega, Nat.le_refl _⟩, fits64 (by omega) (by omega), j + 1, ⟨by omega, .inr hf, ?_⟩, by omega, ⟨?_, by omega⟩, rfl⟩
      · rw [he, hU, if_neg (by omega), if_pos hf]
        congr 1
        omega
      · rw [restAt, show (ixB (restAt s j) 10 + 1).toNat = (ixB (restAt s j) 10).toNat + 1 by omega]
theorem rParse_meets : Meets Try.prog 58 sPrs := by
  refine meets (snd (SpecsOk.cons rmvalid_meets (SpecsOk.cons indexByte_meets (SpecsOk.nil _))) []) Try.func58 rfl rfl (fun x => ivRP x.1) (fun _ => by kernel_rfl) (by decide) ?_
  rintro ⟨s, ⟨⟩⟩ -
  revert s
  intro (s : ByteArray)
  refine by_vc (B := (Decidable.decide ((65536 : Int) < (↑(ByteArray.size s) : Int)) = Bool.true → Prod.fst (parR s) = [] ∧ (0 : Int) = Prod.fst (Prod.snd (parR s)) ∧ (3 : Int) = Prod.snd (Prod.snd (parR s)) ∧ True) ∧
  (Decidable.decide ((65536 : Int) < (↑(ByteArray.size s) : Int)) = Bool.false →
    ∃ (v1 : Unit),
      ∃ (v2 : Nat),
        (v2 ≤ (6 : Nat) ∧ (v2 = (0 : Nat) ∨ validB (rowsAt s v2) = Bool.true) ∧ prsT s (8 : Nat) (0 : Nat) = prsT s ((8 : Nat) - v2) v2) ∧
          ((Go.Value.string s = Go.Value.string (restAt s v2) ∧ True ∧ (0 : Int) = (↑v2 : Int) ∧ True) ∧ rowsAt s v2 = [] ∧ True) ∧
            ∀ (v3 : Nat),
              v3 ≤ (6 : Nat) ∧ (v3 = (0 : Nat) ∨ validB (rowsAt s v3) = Bool.true) ∧ prsT s (8 : Nat) (0 : Nat) = prsT s ((8 : Nat) - v3) v3 →
                (((↑v3 : Int) == (0 : Int)) = Bool.true →
                    True ∧
                      (Decidable.decide (ixB (restAt s v3) (10 : Int) < (0 : Int)) = Bool.true → Prod.fst (parR s) = [] ∧ (↑v3 : Int) = Prod.fst (Prod.snd (parR s)) ∧ (2 : Int) = Prod.snd (Prod.snd (parR s)) ∧ True) ∧
                        (Decidable.decide (ixB (restAt s v3) (10 : Int) < (0 : Int)) = Bool.false →
                          ∃ (v7 : Nat),
                            ∃ (v8 : Nat),
                              Nat.le v8 (Int.toNat (ixB (restAt s v7) (10 : Int))) ∧
                                ((True ∧ True ∧ (0 : Int) = (↑v8 : Int) ∧ True) ∧ rowsAt s v3 = rowsAt s v7 ∧ sgnTo (restAt s v7) v8 = [] ∧ True) ∧
                                  ∀ (v9 : Nat),
                                    Nat.le v9 (Int.toNat (ixB (restAt s v7) (10 : Int))) →
                                      (Decidable.decide ((↑v9 : Int) < ixB (restAt s v3) (10 : Int)) = Bool.true →
                                          ((0 : Int) ≤ (↑v9 : Int) ∧ (↑v9 : Int) < (↑(ByteArray.size (restAt s v3)) : Int)) ∧
                                            True ∧
                                              Eng.fits Go.IntKind.i64 (ixB { data := #[(45 : UInt8), (46 : UInt8), (43 : UInt8)] } (Eng.byteAt (restAt s v3) (Int.toNat (↑v9 : Int))) - (1 : Int)) ∧
                                                ((0 : Nat) < List.length [ixB { data := #[(45 : UInt8), (46 : UInt8), (43 : UInt8)] } (Eng.byteAt (restAt s v3) (Int.toNat (↑v9 : Int))) - (1 : Int)] ∧
                                                    Nat.le (List.length (sgnTo (restAt s v7) v9) + List.length [ixB { data := #[(45 : UInt8), (46 : UInt8), (43 : UInt8)] } (Eng.byteAt (restAt s v3) (Int.toNat (↑v9 : Int))) - (1 : Int)]) (1000000 : Nat)) ∧
                                                  Eng.fits Go.IntKind.i64 ((↑v9 : Int) + (1 : Int)) ∧
                                                    ∃ (v12 : Nat),
                                                      Nat.le v12 (Int.toNat (ixB (restAt s v7) (10 : Int))) ∧
                                                        Int.toNat (ixB (restAt s v7) (10 : Int)) - v12 < Int.toNat (ixB (restAt s v7) (10 : Int)) - v9 ∧
                                                          (True ∧ True ∧ (↑v9 : Int) + (1 : Int) = (↑v12 : Int) ∧ True) ∧
                                                            rowsAt s v7 = rowsAt s v7 ∧
                                                              sgnTo (restAt s v7) v9 ++ [ixB { data := #[(45 : UInt8), (46 : UInt8), (43 : UInt8)] } (Eng.byteAt (restAt s v3) (Int.toNat (↑v9 : Int))) - (1 : Int)] =
                                                                  sgnTo (restAt s v7) v12 ∧
                                                                True) ∧
                                        (Decidable.decide ((↑v9 : Int) < ixB (restAt s v3) (10 : Int)) = Bool.false →
                                          ((0 : Nat) < (0 : Nat) + (1 : Nat) ∧ Nat.le (List.length (rowsAt s v7) + ((0 : Nat) + (1 : Nat))) (1000000 : Nat)) ∧
                                            True ∧
                                              ((!validB (rowsAt s v7 ++ [sgnTo (restAt s v7) v9])) = Bool.true →
                                                  Prod.fst (parR s) = [] ∧ (↑v3 : Int) = Prod.fst (Prod.snd (parR s)) ∧ (2 : Int) = Prod.snd (Prod.snd (parR s)) ∧ True) ∧
                                                ((!validB (rowsAt s v7 ++ [sgnTo (restAt s v7) v9])) = Bool.false →
                                                  Eng.fits Go.IntKind.i64 (ixB (restAt s v3) (10 : Int) + (1 : Int)) ∧
                                                    ((0 : Int) ≤ ixB (restAt s v3) (10 : Int) + (1 : Int) ∧
                                                        ixB (restAt s v3) (10 : Int) + (1 : Int) ≤ (↑(ByteArray.size (restAt s v3)) : Int) ∧ (↑(ByteArray.size (restAt s v3)) : Int) ≤ (↑(ByteArray.size (restAt s v3)) : Int)) ∧
                                                      Eng.fits Go.IntKind.i64 ((↑v3 : Int) + (1 : Int)) ∧
                                                        ∃ (v13 : Nat),
                                                          (v13 ≤ (6 : Nat) ∧ (v13 = (0 : Nat) ∨ validB (rowsAt s v13) = Bool.true) ∧ prsT s (8 : Nat) (0 : Nat) = prsT s ((8 : Nat) - v13) v13) ∧
                                                            (6 : Nat) - v13 < (6 : Nat) - v3 ∧
                                                              (Go.Value.string (ByteArray.extract (restAt s v3) (Int.toNat (ixB (restAt s v3) (10 : Int) + (1 : Int))) (Int.toNat (↑(ByteArray.size (restAt s v3)) : Int))) = Go.Value.string (restAt s v13) ∧
                                                                  True ∧ (↑v3 : Int) + (1 : Int) = (↑v13 : Int) ∧ True) ∧
                                                                rowsAt s v7 ++ [sgnTo (restAt s v7) v9] = rowsAt s v13 ∧ True)))) ∧
                  (((↑v3 : Int) == (0 : Int)) = Bool.false →
                    ((!Decidable.decide (restAt s v3 = { data := #[] })) = Bool.true →
                        True ∧
                          (Decidable.decide (ixB (restAt s v3) (10 : Int) < (0 : Int)) = Bool.true → Prod.fst (parR s) = [] ∧ (↑v3 : Int) = Prod.fst (Prod.snd (parR s)) ∧ (2 : Int) = Prod.snd (Prod.snd (parR s)) ∧ True) ∧
                            (Decidable.decide (ixB (restAt s v3) (10 : Int) < (0 : Int)) = Bool.false →
                              ∃ (v8 : Nat),
                                ∃ (v9 : Nat),
                                  Nat.le v9 (Int.toNat (ixB (restAt s v8) (10 : Int))) ∧
                                    ((True ∧ True ∧ (0 : Int) = (↑v9 : Int) ∧ True) ∧ rowsAt s v3 = rowsAt s v8 ∧ sgnTo (restAt s v8) v9 = [] ∧ True) ∧
                                      ∀ (v10 : Nat),
                                        Nat.le v10 (Int.toNat (ixB (restAt s v8) (10 : Int))) →
                                          (Decidable.decide ((↑v10 : Int) < ixB (restAt s v3) (10 : Int)) = Bool.true →
                                              ((0 : Int) ≤ (↑v10 : Int) ∧ (↑v10 : Int) < (↑(ByteArray.size (restAt s v3)) : Int)) ∧
                                                True ∧
                                                  Eng.fits Go.IntKind.i64 (ixB { data := #[(45 : UInt8), (46 : UInt8), (43 : UInt8)] } (Eng.byteAt (restAt s v3) (Int.toNat (↑v10 : Int))) - (1 : Int)) ∧
                                                    ((0 : Nat) < List.length [ixB { data := #[(45 : UInt8), (46 : UInt8), (43 : UInt8)] } (Eng.byteAt (restAt s v3) (Int.toNat (↑v10 : Int))) - (1 : Int)] ∧
                                                        Nat.le (List.length (sgnTo (restAt s v8) v10) + List.length [ixB { data := #[(45 : UInt8), (46 : UInt8), (43 : UInt8)] } (Eng.byteAt (restAt s v3) (Int.toNat (↑v10 : Int))) - (1 : Int)]) (1000000 : Nat)) ∧
                                                      Eng.fits Go.IntKind.i64 ((↑v10 : Int) + (1 : Int)) ∧
                                                        ∃ (v13 : Nat),
                                                          Nat.le v13 (Int.toNat (ixB (restAt s v8) (10 : Int))) ∧
                                                            Int.toNat (ixB (restAt s v8) (10 : Int)) - v13 < Int.toNat (ixB (restAt s v8) (10 : Int)) - v10 ∧
                                                              (True ∧ True ∧ (↑v10 : Int) + (1 : Int) = (↑v13 : Int) ∧ True) ∧
                                                                rowsAt s v8 = rowsAt s v8 ∧
                                                                  sgnTo (restAt s v8) v10 ++ [ixB { data := #[(45 : UInt8), (46 : UInt8), (43 : UInt8)] } (Eng.byteAt (restAt s v3) (Int.toNat (↑v10 : Int))) - (1 : Int)] =
                                                                      sgnTo (restAt s v8) v13 ∧
                                                                    True) ∧
                                            (Decidable.decide ((↑v10 : Int) < ixB (restAt s v3) (10 : Int)) = Bool.false →
                                              ((0 : Nat) < (0 : Nat) + (1 : Nat) ∧ Nat.le (List.length (rowsAt s v8) + ((0 : Nat) + (1 : Nat))) (1000000 : Nat)) ∧
                                                True ∧
                                                  ((!validB (rowsAt s v8 ++ [sgnTo (restAt s v8) v10])) = Bool.true →
                                                      Prod.fst (parR s) = [] ∧ (↑v3 : Int) = Prod.fst (Prod.snd (parR s)) ∧ (2 : Int) = Prod.snd (Prod.snd (parR s)) ∧ True) ∧
                                                    ((!validB (rowsAt s v8 ++ [sgnTo (restAt s v8) v10])) = Bool.false →
                                                      Eng.fits Go.IntKind.i64 (ixB (restAt s v3) (10 : Int) + (1 : Int)) ∧
                                                        ((0 : Int) ≤ ixB (restAt s v3) (10 : Int) + (1 : Int) ∧
                                                            ixB (restAt s v3) (10 : Int) + (1 : Int) ≤ (↑(ByteArray.size (restAt s v3)) : Int) ∧ (↑(ByteArray.size (restAt s v3)) : Int) ≤ (↑(ByteArray.size (restAt s v3)) : Int)) ∧
                                                          Eng.fits Go.IntKind.i64 ((↑v3 : Int) + (1 : Int)) ∧
                                                            ∃ (v14 : Nat),
                                                              (v14 ≤ (6 : Nat) ∧ (v14 = (0 : Nat) ∨ validB (rowsAt s v14) = Bool.true) ∧ prsT s (8 : Nat) (0 : Nat) = prsT s ((8 : Nat) - v14) v14) ∧
                                                                (6 : Nat) - v14 < (6 : Nat) - v3 ∧
                                                                  (Go.Value.string (ByteArray.extract (restAt s v3) (Int.toNat (ixB (restAt s v3) (10 : Int) + (1 : Int))) (Int.toNat (↑(ByteArray.size (restAt s v3)) : Int))) = Go.Value.string (restAt s v14) ∧
                                                                      True ∧ (↑v3 : Int) + (1 : Int) = (↑v14 : Int) ∧ True) ∧
                                                                    rowsAt s v8 ++ [sgnTo (restAt s v8) v10] = rowsAt s v14 ∧ True)))) ∧
                      ((!Decidable.decide (restAt s v3 = { data := #[] })) = Bool.false → rowsAt s v3 = Prod.fst (parR s) ∧ (0 : Int) = Prod.fst (Prod.snd (parR s)) ∧ (0 : Int) = Prod.snd (Prod.snd (parR s)) ∧ True)))) (by kernel_rfl) ?_
  simp only [ne_eq, true_and, and_true, eq_self, Bool.not_eq_true', Bool.not_eq_false', decide_eq_true_eq, decide_eq_false_iff_not, Nat.le_eq, Int.not_lt, Int.not_le, Int.reduceEq, not_false_eq_true, Bool.not_eq_eq_eq_not, Bool.not_true, Bool.not_false, Int.ofNat_lt, Int.ofNat_le, Int.toNat_natCast, Int.natCast_nonneg, nthD_nth, beq_iff_eq, bne_iff_ne, beq_eq_false_iff_ne, bne_eq_false_iff_eq, Classical.not_not, List.length_cons, List.length_nil, Nat.zero_add, List.nil_append, true_implies, Nat.lt_add_one, Nat.zero_lt_succ, Int.reduceLE, Int.reduceLT]
  refine ⟨fun h => ?_, fun h => ?_⟩
  · have e : parR s = ([], 0, 3) := by unfold parR; rw [if_pos (by omega)]
    rw [e]
    exact ⟨rfl, rfl, rfl⟩
  · have hs : s.size ≤ 65536 := by omega
    refine ⟨(), 0, ⟨by omega, .inl rfl, rfl⟩, ⟨⟨rfl, rfl⟩, rfl⟩, fun j hj => ⟨fun h0 => ?_, fun h0 => ⟨fun hne => ?_, fun hem => ?_⟩⟩⟩
    · exact parse_step hs hj (.inl (by omega))
    · exact parse_step hs hj (.inr hne)
    · obtain ⟨h6, hv, he⟩ := hj
      have e : parR s = (rowsAt s j, 0, 0) := by
        unfold parR
        rw [if_neg (by omega), he, show 8 - j = (7 - j) + 1 by omega, prsT, if_neg]
        rintro (h | h)
        · omega
        · exact h hem
      rw [e]
      exact ⟨rfl, rfl, rfl⟩
end Go.Proofs.Ytkkmlcengneomaa
