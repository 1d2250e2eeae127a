/- The program's Format of a mask's text, by the engine. No condition. -/
import Derived.Test.YtkkmlcengneomaaU5
import Derived.Test.YtkkmlcengneomaaULay

set_option linter.unusedVariables false
set_option linter.unusedSimpArgs false
namespace Go.Proofs.Ytkkmlcengneomaa
open Go Go.Proofs Go.RowKit Eng Ls

def ivFmt (m : List (List Int)) : Nat → Option Inv
  | 0 => some (Inv.of [3, 13] 1 (fun k : Nat => [(3, .msl 0 none), (13, .lit (.int .i64 k))]) (fun k => [.bld 101 5 (fmtTo m k)]) (fun k => k ≤ m.length) (fun k => m.length - k))
  | 1 => some ⟨Nat, Nat, [3, 19], 1, fun k t => [(3, .msl 0 none), (19, .lit (.int .i64 t))], fun k t => [.bld 101 5 (rowTo (fmtTo m k) (nthD tInts m k) t)], fun k t => t ≤ (nthD tInts m k : List Int).length, fun k t => (nthD tInts m k : List Int).length - t⟩
  | _ => none
theorem push_eq (s : ByteArray) (b : UInt8) : s.push b = s ++ ⟨#[b]⟩ := by
  apply ByteArray.ext
  simp [ByteArray.push]
theorem push_sign (s : ByteArray) {i : Nat} (h : i < 3) : s.push (byteAt signsB i).toNat.toUInt8 = s ++ signsB.extract i (i + 1) := by
  rw [push_eq]
  congr 1
  match i, h with
  | 0, _ => decide
  | 1, _ => decide
  | 2, _ => decide
theorem format_meets : Meets Try.prog 59 sFmt := by
  refine meets (sndB (SpecsOk.cons mvalid_meets (SpecsOk.nil _))) Try.func59 rfl rfl (fun x => ivFmt x.1) (fun _ => by kernel_rfl) (by decide) ?_
  rintro ⟨m, ⟨⟩⟩ -
  revert m
  intro (m : List (List Int))
  refine by_vc (B := True ∧
  ((!validB m) = Bool.true → Go.Value.string { data := #[] } = Go.Value.string (fmtB m)) ∧
    ((!validB m) = Bool.false →
      ∃ (v1 : Unit),
        ∃ (v2 : Nat),
          Nat.le v2 (List.length m) ∧
            ((True ∧ (0 : Int) = (↑v2 : Int) ∧ True) ∧ { data := #[] } = fmtTo m v2 ∧ True) ∧
              ∀ (v3 : Nat),
                Nat.le v3 (List.length m) →
                  (Decidable.decide ((↑v3 : Int) < (↑(List.length m) : Int)) = Bool.true →
                      ((0 : Int) ≤ (↑v3 : Int) ∧ (↑v3 : Int) < (↑(List.length m) : Int)) ∧
                        ∃ (v6 : Nat),
                          ∃ (v7 : Nat),
                            Nat.le v7 (List.length (Eng.nthD tInts m v6)) ∧
                              ((True ∧ (0 : Int) = (↑v7 : Int) ∧ True) ∧ fmtTo m v3 = rowTo (fmtTo m v6) (Eng.nthD tInts m v6) v7 ∧ True) ∧
                                ∀ (v8 : Nat),
                                  Nat.le v8 (List.length (Eng.nthD tInts m v6)) →
                                    (Decidable.decide ((↑v8 : Int) < (↑(List.length (Eng.nthD (Eng.Ty.list (Eng.Ty.int Go.IntKind.i64)) m (Int.toNat (↑v3 : Int)))) : Int)) = Bool.true →
                                        ((0 : Int) ≤ (↑v8 : Int) ∧ (↑v8 : Int) < (↑(List.length (Eng.nthD (Eng.Ty.list (Eng.Ty.int Go.IntKind.i64)) m (Int.toNat (↑v3 : Int)))) : Int)) ∧
                                          Eng.fits Go.IntKind.i64 (Eng.nthD (Eng.Ty.int Go.IntKind.i64) (Eng.nthD (Eng.Ty.list (Eng.Ty.int Go.IntKind.i64)) m (Int.toNat (↑v3 : Int))) (Int.toNat (↑v8 : Int)) + (1 : Int)) ∧
                                            ((0 : Int) ≤ Eng.nthD (Eng.Ty.int Go.IntKind.i64) (Eng.nthD (Eng.Ty.list (Eng.Ty.int Go.IntKind.i64)) m (Int.toNat (↑v3 : Int))) (Int.toNat (↑v8 : Int)) + (1 : Int) ∧ Eng.nthD (Eng.Ty.int Go.IntKind.i64) (Eng.nthD (Eng.Ty.list (Eng.Ty.int Go.IntKind.i64)) m (Int.toNat (↑v3 : Int))) (Int.toNat (↑v8 : Int)) + (1 : Int) < (↑(3 : Nat) : Int)) ∧
                                              ((0 : Int) ≤ Eng.byteAt { data := #[(45 : UInt8), (46 : UInt8), (43 : UInt8)] } (Int.toNat (Eng.nthD (Eng.Ty.int Go.IntKind.i64) (Eng.nthD (Eng.Ty.list (Eng.Ty.int Go.IntKind.i64)) m (Int.toNat (↑v3 : Int))) (Int.toNat (↑v8 : Int)) + (1 : Int))) ∧
                                                  Eng.byteAt { data := #[(45 : UInt8), (46 : UInt8), (43 : UInt8)] } (Int.toNat (Eng.nthD (Eng.Ty.int Go.IntKind.i64) (Eng.nthD (Eng.Ty.list (Eng.Ty.int Go.IntKind.i64)) m (Int.toNat (↑v3 : Int))) (Int.toNat (↑v8 : Int)) + (1 : Int))) < (256 : Int) ∧
                                                    ByteArray.size (rowTo (fmtTo m v6) (Eng.nthD tInts m v6) v8) + (1 : Nat) ≤ (1000000000 : Nat)) ∧
                                                Eng.fits Go.IntKind.i64 ((↑v8 : Int) + (1 : Int)) ∧
                                                  ∃ (v11 : Nat),
                                                    Nat.le v11 (List.length (Eng.nthD tInts m v6)) ∧
                                                      List.length (Eng.nthD tInts m v6) - v11 < List.length (Eng.nthD tInts m v6) - v8 ∧
                                                        (True ∧ (↑v8 : Int) + (1 : Int) = (↑v11 : Int) ∧ True) ∧
                                                          ByteArray.push (rowTo (fmtTo m v6) (Eng.nthD tInts m v6) v8)
                                                                (Nat.toUInt8 (Int.toNat (Eng.byteAt { data := #[(45 : UInt8), (46 : UInt8), (43 : UInt8)] } (Int.toNat (Eng.nthD (Eng.Ty.int Go.IntKind.i64) (Eng.nthD (Eng.Ty.list (Eng.Ty.int Go.IntKind.i64)) m (Int.toNat (↑v3 : Int))) (Int.toNat (↑v8 : Int)) + (1 : Int)))))) =
                                                              rowTo (fmtTo m v6) (Eng.nthD tInts m v6) v11 ∧
                                                            True) ∧
                                      (Decidable.decide ((↑v8 : Int) < (↑(List.length (Eng.nthD (Eng.Ty.list (Eng.Ty.int Go.IntKind.i64)) m (Int.toNat (↑v3 : Int)))) : Int)) = Bool.false →
                                        ((0 : Int) ≤ (10 : Int) ∧ (10 : Int) < (256 : Int) ∧ ByteArray.size (rowTo (fmtTo m v6) (Eng.nthD tInts m v6) v8) + (1 : Nat) ≤ (1000000000 : Nat)) ∧
                                          Eng.fits Go.IntKind.i64 ((↑v3 : Int) + (1 : Int)) ∧
                                            ∃ (v11 : Nat),
                                              Nat.le v11 (List.length m) ∧ List.length m - v11 < List.length m - v3 ∧ (True ∧ (↑v3 : Int) + (1 : Int) = (↑v11 : Int) ∧ True) ∧ ByteArray.push (rowTo (fmtTo m v6) (Eng.nthD tInts m v6) v8) (Nat.toUInt8 (10 : Nat)) = fmtTo m v11 ∧ True)) ∧
                    (Decidable.decide ((↑v3 : Int) < (↑(List.length m) : Int)) = Bool.false → Go.Value.string (fmtTo m v3) = Go.Value.string (fmtB m)))) (by kernel_rfl) ?_
  simp only [ne_eq, true_and, and_true, eq_self, Bool.not_eq_true', Bool.not_eq_false', decide_eq_true_eq, decide_eq_false_iff_not, Nat.le_eq, Int.not_lt, Int.not_le, Int.reduceEq, not_false_eq_true, Bool.not_eq_eq_eq_not, Bool.not_true, Bool.not_false, Int.ofNat_lt, Int.ofNat_le, Int.toNat_natCast, Int.natCast_nonneg, nthD_nth, beq_iff_eq, bne_iff_ne, beq_eq_false_iff_ne, bne_eq_false_iff_eq, Classical.not_not, List.length_cons, List.length_nil, Nat.zero_add, List.nil_append, true_implies, Nat.lt_add_one, Nat.zero_lt_succ, Int.reduceLE, Int.reduceLT]
  refine ⟨fun h => by simp [fmtB, h], fun hv => ?_⟩
  have hM := IsMask.of hv
  have hsz := fun k hk => fmtTo_size hM k hk
  obtain ⟨m1, m2, m3, m4, m5, m6⟩ := hM
  refine ⟨(), 0, Nat.zero_le _, ⟨rfl, rfl⟩, fun k hk => ⟨fun hlt => ⟨hlt, k, 0, Nat.zero_le _, ⟨rfl, rfl⟩, fun t ht => ?_⟩, fun hge => ?_⟩⟩
  · obtain ⟨r, hr⟩ : ∃ r : List Int, r = nthL m k := ⟨_, rfl⟩
    have e1 : (nthD tInts m k : List Int) = r := hr.symm
    have e2 : (nthD (Ty.int IntKind.i64).list m k : List Int) = r := hr.symm
    have hl : r.length = (nthL m 0).length := by rw [hr]; exact m5 k hlt
    have hb : ∀ j, j < r.length → -1 ≤ nth r j ∧ nth r j ≤ 1 := fun j hj => by rw [hr]; exact m6 k hlt j (by rw [← hl]; exact hj)
    have hs0 := hsz k (by omega)
    have hk6 : k * ((nthL m 0).length + 1) ≤ 6 * 11 := Nat.mul_le_mul (by omega) (by omega)
    rw [e1] at ht ⊢
    have hs1 := rowTo_size (s := fmtTo m k) hb t ht
    refine ⟨fun h1 => ?_, fun h1 => ?_⟩
    · have hbt := hb t h1
      have hby := byteAt_bd ⟨#[45, 46, 43]⟩ (Int.toNat (nth r t + 1))
      refine ⟨h1, fits64 (by omega) (by omega), ⟨by omega, by show nth r t + 1 < 3; omega⟩, ⟨hby.1, hby.2, by omega⟩, fits64 (by omega) (by omega), t + 1, by omega, by omega, by omega, ?_⟩
      have e3 : (nthD tInt r t : Int) = nth r t := rfl
      rw [rowTo, e3, show (nth r t + 2).toNat = (nth r t + 1).toNat + 1 by omega]
      exact push_sign _ (by omega)
    · obtain rfl : t = r.length := by omega
      refine ⟨by omega, fits64 (by omega) (by omega), k + 1, by omega, by omega, by omega, ?_⟩
      rw [fmtTo, e1]
      exact push_eq _ _
  · obtain rfl : k = m.length := by omega
    simp [fmtB, hv]
end Go.Proofs.Ytkkmlcengneomaa
