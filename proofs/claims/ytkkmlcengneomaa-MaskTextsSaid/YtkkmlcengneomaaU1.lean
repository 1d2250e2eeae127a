/- The text of a mask: the reference's Format by the engine. No condition. -/
import Derived.Test.YtkkmlcengneomaaT4

set_option linter.unusedVariables false
set_option linter.unusedSimpArgs false
namespace Go.Proofs.Ytkkmlcengneomaa
open Go Go.RowKit Eng Ls

def signsB : ByteArray := ⟨#[45, 46, 43]⟩
/-- The text with the first 'k' signs of a row behind it. -/
def rowTo (s : ByteArray) (r : List Int) : Nat → ByteArray
  | 0 => s
  | k + 1 => rowTo s r k ++ signsB.extract (nthD tInt r k + 1).toNat (nthD tInt r k + 2).toNat
def fmtTo (m : List (List Int)) : Nat → ByteArray
  | 0 => ⟨#[]⟩
  | k + 1 => rowTo (fmtTo m k) (nthD tInts m k) (nthD tInts m k : List Int).length ++ ⟨#[10]⟩
theorem rowTo_size {s : ByteArray} {r : List Int} (h : ∀ j, j < r.length → -1 ≤ nth r j ∧ nth r j ≤ 1) (k : Nat) (hk : k ≤ r.length) : (rowTo s r k).size = s.size + k := by
  induction k with
  | zero => rfl
  | succ k ih =>
    have h1 := h k (by omega)
    have e : (nthD tInt r k : Int) = nth r k := rfl
    rw [rowTo, ByteArray.size_append, ByteArray.size_extract, ih (by omega), e]
    have : signsB.size = 3 := rfl
    rw [this]
    omega
theorem fmtTo_size {m : List (List Int)} (h : IsMask m) (k : Nat) (hk : k ≤ m.length) : (fmtTo m k).size = k * ((nthL m 0).length + 1) := by
  induction k with
  | zero => show (0 : Nat) = _; rw [Nat.zero_mul]
  | succ k ih =>
    obtain ⟨_, _, _, _, h5, h6⟩ := h
    have e : (nthD tInts m k : List Int) = nthL m k := rfl
    have e2 := h5 k (by omega)
    rw [fmtTo, ByteArray.size_append, e, rowTo_size (fun j hj => h6 k (by omega) j (by rw [← e2]; exact hj)) _ (Nat.le_refl _), ih (by omega), e2, Nat.succ_mul]
    rfl
def fmtB (m : List (List Int)) : ByteArray := if validB m then fmtTo m m.length else ⟨#[]⟩
def sFmt : FSpec := tspec true none [tMask] [.str] (fun _ => True) (fun x => (fmtB x.1, ()))
def ivRFmt (m : List (List Int)) : Nat → Option Inv
  | 0 => some (Inv.of [3, 13] 0 (fun k : Nat => [(3, .lit (.string (fmtTo m k))), (13, .lit (.int .i64 k))]) (fun _ => []) (fun k => k ≤ m.length) (fun k => m.length - k))
  | 1 => some ⟨Nat, Nat, [3, 19], 0, fun k t => [(3, .lit (.string (rowTo (fmtTo m k) (nthD tInts m k) t))), (19, .lit (.int .i64 t))], fun k t => [], fun k t => t ≤ (nthD tInts m k : List Int).length, fun k t => (nthD tInts m k : List Int).length - t⟩
  | _ => none
theorem rFormat_meets : Meets Try.prog 60 sFmt := by
  refine meets (snd (SpecsOk.cons rmvalid_meets (SpecsOk.nil _)) []) Try.func60 rfl rfl (fun x => ivRFmt x.1) (fun _ => by kernel_rfl) (by decide) ?_
  rintro ⟨m, ⟨⟩⟩ -
  revert m
  intro (m : List (List Int))
  refine by_vc (B := True ∧
  ((!validB m) = Bool.true → Go.Value.string { data := #[] } = Go.Value.string (fmtB m)) ∧
    ((!validB m) = Bool.false →
      ∃ (v1 : Unit),
        ∃ (v2 : Nat),
          Nat.le v2 (List.length m) ∧
            ((Go.Value.string { data := #[] } = Go.Value.string (fmtTo m v2) ∧ (0 : Int) = (↑v2 : Int) ∧ True) ∧ True) ∧
              ∀ (v3 : Nat),
                Nat.le v3 (List.length m) →
                  (Decidable.decide ((↑v3 : Int) < (↑(List.length m) : Int)) = Bool.true →
                      ((0 : Int) ≤ (↑v3 : Int) ∧ (↑v3 : Int) < (↑(List.length m) : Int)) ∧
                        ∃ (v6 : Nat),
                          ∃ (v7 : Nat),
                            Nat.le v7 (List.length (Eng.nthD tInts m v6)) ∧
                              ((Go.Value.string (fmtTo m v3) = Go.Value.string (rowTo (fmtTo m v6) (Eng.nthD tInts m v6) v7) ∧ (0 : Int) = (↑v7 : Int) ∧ True) ∧ True) ∧
                                ∀ (v8 : Nat),
                                  Nat.le v8 (List.length (Eng.nthD tInts m v6)) →
                                    (Decidable.decide ((↑v8 : Int) < (↑(List.length (Eng.nthD (Eng.Ty.list (Eng.Ty.int Go.IntKind.i64)) m (Int.toNat (↑v3 : Int)))) : Int)) = Bool.true →
                                        ((0 : Int) ≤ (↑v8 : Int) ∧ (↑v8 : Int) < (↑(List.length (Eng.nthD (Eng.Ty.list (Eng.Ty.int Go.IntKind.i64)) m (Int.toNat (↑v3 : Int)))) : Int)) ∧
                                          Eng.fits Go.IntKind.i64 (Eng.nthD (Eng.Ty.int Go.IntKind.i64) (Eng.nthD (Eng.Ty.list (Eng.Ty.int Go.IntKind.i64)) m (Int.toNat (↑v3 : Int))) (Int.toNat (↑v8 : Int)) + (1 : Int)) ∧
                                            Eng.fits Go.IntKind.i64 (Eng.nthD (Eng.Ty.int Go.IntKind.i64) (Eng.nthD (Eng.Ty.list (Eng.Ty.int Go.IntKind.i64)) m (Int.toNat (↑v3 : Int))) (Int.toNat (↑v8 : Int)) + (2 : Int)) ∧
                                              ((0 : Int) ≤ Eng.nthD (Eng.Ty.int Go.IntKind.i64) (Eng.nthD (Eng.Ty.list (Eng.Ty.int Go.IntKind.i64)) m (Int.toNat (↑v3 : Int))) (Int.toNat (↑v8 : Int)) + (1 : Int) ∧
                                                  Eng.nthD (Eng.Ty.int Go.IntKind.i64) (Eng.nthD (Eng.Ty.list (Eng.Ty.int Go.IntKind.i64)) m (Int.toNat (↑v3 : Int))) (Int.toNat (↑v8 : Int)) + (1 : Int) ≤ Eng.nthD (Eng.Ty.int Go.IntKind.i64) (Eng.nthD (Eng.Ty.list (Eng.Ty.int Go.IntKind.i64)) m (Int.toNat (↑v3 : Int))) (Int.toNat (↑v8 : Int)) + (2 : Int) ∧
                                                    Eng.nthD (Eng.Ty.int Go.IntKind.i64) (Eng.nthD (Eng.Ty.list (Eng.Ty.int Go.IntKind.i64)) m (Int.toNat (↑v3 : Int))) (Int.toNat (↑v8 : Int)) + (2 : Int) ≤ (↑(3 : Nat) : Int)) ∧
                                                ByteArray.size (rowTo (fmtTo m v6) (Eng.nthD tInts m v6) v8) +
                                                      ByteArray.size
                                                        (ByteArray.extract { data := #[(45 : UInt8), (46 : UInt8), (43 : UInt8)] } (Int.toNat (Eng.nthD (Eng.Ty.int Go.IntKind.i64) (Eng.nthD (Eng.Ty.list (Eng.Ty.int Go.IntKind.i64)) m (Int.toNat (↑v3 : Int))) (Int.toNat (↑v8 : Int)) + (1 : Int)))
                                                          (Int.toNat (Eng.nthD (Eng.Ty.int Go.IntKind.i64) (Eng.nthD (Eng.Ty.list (Eng.Ty.int Go.IntKind.i64)) m (Int.toNat (↑v3 : Int))) (Int.toNat (↑v8 : Int)) + (2 : Int)))) ≤
                                                    (9223372036854775807 : Nat) ∧
                                                  Eng.fits Go.IntKind.i64 ((↑v8 : Int) + (1 : Int)) ∧
                                                    ∃ (v11 : Nat),
                                                      Nat.le v11 (List.length (Eng.nthD tInts m v6)) ∧
                                                        List.length (Eng.nthD tInts m v6) - v11 < List.length (Eng.nthD tInts m v6) - v8 ∧
                                                          (Go.Value.string
                                                                  (rowTo (fmtTo m v6) (Eng.nthD tInts m v6) v8 ++
                                                                    ByteArray.extract { data := #[(45 : UInt8), (46 : UInt8), (43 : UInt8)] } (Int.toNat (Eng.nthD (Eng.Ty.int Go.IntKind.i64) (Eng.nthD (Eng.Ty.list (Eng.Ty.int Go.IntKind.i64)) m (Int.toNat (↑v3 : Int))) (Int.toNat (↑v8 : Int)) + (1 : Int)))
                                                                      (Int.toNat (Eng.nthD (Eng.Ty.int Go.IntKind.i64) (Eng.nthD (Eng.Ty.list (Eng.Ty.int Go.IntKind.i64)) m (Int.toNat (↑v3 : Int))) (Int.toNat (↑v8 : Int)) + (2 : Int)))) =
                                                                Go.Value.string (rowTo (fmtTo m v6) (Eng.nthD tInts m v6) v11) ∧
                                                              (↑v8 : Int) + (1 : Int) = (↑v11 : Int) ∧ True) ∧
                                                            True) ∧
                                      (Decidable.decide ((↑v8 : Int) < (↑(List.length (Eng.nthD (Eng.Ty.list (Eng.Ty.int Go.IntKind.i64)) m (Int.toNat (↑v3 : Int)))) : Int)) = Bool.false →
                                        ByteArray.size (rowTo (fmtTo m v6) (Eng.nthD tInts m v6) v8) + (1 : Nat) ≤ (9223372036854775807 : Nat) ∧
                                          Eng.fits Go.IntKind.i64 ((↑v3 : Int) + (1 : Int)) ∧
                                            ∃ (v11 : Nat),
                                              Nat.le v11 (List.length m) ∧
                                                List.length m - v11 < List.length m - v3 ∧ (Go.Value.string (rowTo (fmtTo m v6) (Eng.nthD tInts m v6) v8 ++ { data := #[(10 : UInt8)] }) = Go.Value.string (fmtTo m v11) ∧ (↑v3 : Int) + (1 : Int) = (↑v11 : Int) ∧ True) ∧ True)) ∧
                    (Decidable.decide ((↑v3 : Int) < (↑(List.length m) : Int)) = Bool.false → Go.Value.string (fmtTo m v3) = Go.Value.string (fmtB m)))) (by kernel_rfl) ?_
  simp only [ne_eq, true_and, and_true, eq_self, Bool.not_eq_true', Bool.not_eq_false', decide_eq_true_eq, decide_eq_false_iff_not, Nat.le_eq, Int.not_lt, Int.not_le, Int.reduceEq, not_false_eq_true, Bool.not_eq_eq_eq_not, Bool.not_true, Bool.not_false, Int.ofNat_lt, Int.ofNat_le, Int.toNat_natCast, Int.natCast_nonneg, nthD_nth, beq_iff_eq, bne_iff_ne, beq_eq_false_iff_ne, bne_eq_false_iff_eq, Classical.not_not, List.length_cons, List.length_nil, Nat.zero_add, List.nil_append, true_implies, Nat.lt_add_one, Nat.zero_lt_succ, Int.reduceLE, Int.reduceLT]
  refine ⟨fun h => by simp [fmtB, h], fun hv => ?_⟩
  have hM := IsMask.of hv
  have hsz := fun k hk => fmtTo_size hM k hk
  obtain ⟨m1, m2, m3, m4, m5, m6⟩ := hM
  refine ⟨(), 0, Nat.zero_le _, ⟨rfl, rfl⟩, fun k hk => ⟨fun hlt => ⟨hlt, k, 0, Nat.zero_le _, ⟨rfl, rfl⟩, fun t ht => ?_⟩, fun hge => ?_⟩⟩
  · obtain ⟨r, hr⟩ : ∃ r : List Int, r = nthL m k := ⟨_, rfl⟩
    have e1 : (nthD tInts m k : List Int) = r := hr.symm
    have e2 : (nthD (Ty.int IntKind.i64).list m k : List Int) = r := hr.symm
    have hl : r.length = (nthL m 0).length := by rw [hr]; exact m5 k hlt
    have hb : ∀ j, j < r.length → -1 ≤ nth r j ∧ nth r j ≤ 1 := fun j hj => by rw [hr]; exact m6 k hlt j (by rw [← hl]; exact hj)
    have hs0 := hsz k (by omega)
    have hk6 : k * ((nthL m 0).length + 1) ≤ 6 * 11 := Nat.mul_le_mul (by omega) (by omega)
    rw [e1] at ht ⊢

    have hs1 := rowTo_size (s := fmtTo m k) hb t ht
    refine ⟨fun h1 => ?_, fun h1 => ?_⟩
    · have hbt := hb t h1
      refine ⟨h1, fits64 (by omega) (by omega), fits64 (by omega) (by omega), ?_, ?_, fits64 (by omega) (by omega), t + 1, by omega, by omega, rfl, by omega⟩
      · exact show (0 : Int) ≤ nth r t + 1 ∧ nth r t + 1 ≤ nth r t + 2 ∧ nth r t + 2 ≤ 3 from ⟨by omega, by omega, by omega⟩
      have h3 : (ByteArray.mk #[45, 46, 43]).size = 3 := rfl
      rw [ByteArray.size_extract, h3, hs1]
      omega
    · obtain rfl : t = r.length := by omega
      refine ⟨by omega, fits64 (by omega) (by omega), k + 1, by omega, by omega, ?_, by omega⟩
      show _ = Value.string (rowTo (fmtTo m k) (nthD tInts m k) (nthD tInts m k : List Int).length ++ ⟨#[10]⟩)
      rw [e1]
  · obtain rfl : k = m.length := by omega
    simp [fmtB, hv]
end Go.Proofs.Ytkkmlcengneomaa
