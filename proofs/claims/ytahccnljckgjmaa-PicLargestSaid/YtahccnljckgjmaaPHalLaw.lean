/- The two ways to halve a picture agree. No program in sight. No condition. -/
import Derived.Test.YtahccnljckgjmaaPHalSpec
import Derived.Test.YtahccnljckgjmaaPMovLaw
namespace Go.Proofs.Ytahccnljckgjmaa
open Go.RowKit Ls

def hpOk (a b : Nat) : Bool := ((List.range (a * b)).all fun i => Nat.blt (hdst a i) (a * b / 4)) && ((List.range (a * b / 4)).all fun j => Nat.blt (hsrc a j + a + 1) (a * b) && (((List.range (a * b)).filter fun i => Nat.beq (hdst a i) j) == [hsrc a j, hsrc a j + 1, hsrc a j + a, hsrc a j + a + 1]))
def hpAll : Bool := (List.range 9).all fun a => (List.range 9).all fun b => Nat.beq a 0 || Nat.beq b 0 || hpOk (2 * a) (2 * b)
theorem hpAll_true : hpAll = true := by decide +kernel
theorem hp_ok {a b : Nat} (ha1 : 1 ≤ a) (ha2 : a ≤ 16) (hb1 : 1 ≤ b) (hb2 : b ≤ 16) (hea : a % 2 = 0) (heb : b % 2 = 0) : (∀ i, i < a * b → hdst a i < a * b / 4) ∧ ∀ j, j < a * b / 4 → hsrc a j + a + 1 < a * b ∧ ((List.range (a * b)).filter fun i => Nat.beq (hdst a i) j) = [hsrc a j, hsrc a j + 1, hsrc a j + a, hsrc a j + a + 1] := by
  have h := hpAll_true
  unfold hpAll at h
  have h1 := List.all_eq_true.1 h (a / 2) (List.mem_range.2 (by omega))
  have h2 := List.all_eq_true.1 h1 (b / 2) (List.mem_range.2 (by omega))
  simp only [Bool.or_eq_true, Nat.beq_eq] at h2
  have h3 : hpOk a b = true := by
    rcases h2 with (h2 | h2) | h2
    · omega
    · omega
    · rw [show 2 * (a / 2) = a by omega, show 2 * (b / 2) = b by omega] at h2
      exact h2
  unfold hpOk at h3
  rw [Bool.and_eq_true, List.all_eq_true, List.all_eq_true] at h3
  refine ⟨fun i hi => by have := h3.1 i (List.mem_range.2 hi); rwa [Nat.blt_eq] at this, fun j hj => ?_⟩
  have := h3.2 j (List.mem_range.2 hj)
  rw [Bool.and_eq_true, Nat.blt_eq, beq_iff_eq] at this
  exact this

theorem accTo_sum (a m : Nat) (l : List Int) (q j : Nat) (hj : j < m) : nth (accTo a m l q) j = (((List.range q).filter fun i => Nat.beq (hdst a i) j).map (nth l)).sum := by
  induction q with
  | zero => simp [accTo, nth, hj]
  | succ q ih =>
    rw [accTo, List.range_succ, List.filter_append, List.map_append, List.sum_append, ← ih]
    by_cases e : hdst a q = j
    · rw [e, nth_set_eq _ _ _ (by rw [accTo_len]; exact hj)]
      simp [e]
    · rw [nth_set_ne _ _ _ _ e]
      have : Nat.beq (hdst a q) j = false := by
        cases h : Nat.beq (hdst a q) j with
        | false => rfl
        | true => rw [Nat.beq_eq] at h; exact absurd h e
      simp [this]

theorem hal_same (W H : Int) (l : List Int) : rhalR W H l = halR W H l := by
  unfold rhalR halR
  cases hv : validP W H l with
  | false => rfl
  | true =>
    cases he : evenP W H with
    | false => rfl
    | true =>
      obtain ⟨a, b, hp⟩ := IsPic.of hv
      obtain ⟨rfl, rfl, h1, h2, h3, h4, h5, -, -⟩ := hp
      unfold evenP at he
      rw [Bool.and_eq_true, beq_iff_eq, beq_iff_eq, Int.tmod_eq_emod_of_nonneg (by omega), Int.tmod_eq_emod_of_nonneg (by omega)] at he
      simp only [if_true, Int.toNat_natCast]
      obtain ⟨k1, k2⟩ := hp_ok h1 h2 h3 h4 (by omega) (by omega)
      rw [h5]
      have : quadL a l (a * b / 4) = halTo (accTo a (a * b / 4) l (a * b)) (a * b / 4) := by
        refine ext_nth (by rw [quadL_len, halTo_len, accTo_len]) fun i hi => ?_
        rw [quadL_len] at hi
        rw [quadL_nth _ _ _ _ hi, halTo_nth _ _ _ (by rw [accTo_len]; exact hi), if_pos hi, accTo_sum _ _ _ _ _ hi, (k2 i hi).2]
        unfold quad
        simp only [List.map_cons, List.map_nil, List.sum_cons, List.sum_nil]
        generalize nth l (hsrc a i) = x
        generalize nth l (hsrc a i + 1) = y
        generalize nth l (hsrc a i + a) = z
        generalize nth l (hsrc a i + a + 1) = u
        omega
      rw [this]

end Go.Proofs.Ytahccnljckgjmaa
