/- Sums of products of bounded integers: the sum that wraps is the sum. No program in sight. No condition. -/
import Derived.Test.YtkkmlcengneomaaMSpec
namespace Go.Proofs.Ytkkmlcengneomaa
open Go.RowKit Ls

def dotI : List Int → List Int → Int
  | a :: l, b :: r => a * b + dotI l r
  | _, _ => 0

theorem mul_bd {x y K L : Int} (hx1 : -K ≤ x) (hx2 : x ≤ K) (hy1 : -L ≤ y) (hy2 : y ≤ L) : -(K * L) ≤ x * y ∧ x * y ≤ K * L := by
  have hK : 0 ≤ K := by omega
  have hL : 0 ≤ L := by omega
  obtain ⟨k, rfl⟩ := Int.eq_ofNat_of_zero_le hK
  obtain ⟨l, rfl⟩ := Int.eq_ofNat_of_zero_le hL
  have h1 : x.natAbs ≤ k := by omega
  have h2 : y.natAbs ≤ l := by omega
  have h3 : (x * y).natAbs ≤ k * l := by rw [Int.natAbs_mul]; exact Nat.mul_le_mul h1 h2
  have h4 : ((k * l : Nat) : Int) = (k : Int) * (l : Int) := by simp
  omega

def Bd (K : Int) (l : List Int) : Prop := ∀ k, k < l.length → -K ≤ nth l k ∧ nth l k ≤ K
theorem Bd.cons {K a : Int} {l : List Int} (h : Bd K (a :: l)) : (-K ≤ a ∧ a ≤ K) ∧ Bd K l :=
  ⟨by simpa [nth] using h 0 (by simp), fun k hk => by simpa [nth] using h (k + 1) (by simpa using hk)⟩

theorem dotI_bd {K L : Int} (a b : List Int) (hKL : 0 ≤ K * L) (ha : Bd K a) (hb : Bd L b) : -(a.length * (K * L)) ≤ dotI a b ∧ dotI a b ≤ a.length * (K * L) := by
  induction a generalizing b with
  | nil => simp [dotI]
  | cons x l ih =>
    cases b with
    | nil =>
      have : 0 ≤ ((x :: l).length : Int) * (K * L) := Int.mul_nonneg (by omega) hKL
      simp only [dotI]; omega
    | cons y r =>
      obtain ⟨h1, h2⟩ := ha.cons
      obtain ⟨h3, h4⟩ := hb.cons
      have h5 := mul_bd h1.1 h1.2 h3.1 h3.2
      have h6 := ih r h2 h4
      have h7 : ((x :: l).length : Int) * (K * L) = (l.length : Int) * (K * L) + K * L := by
        simp only [List.length_cons]; rw [Int.natCast_add, Int.add_mul]; simp
      simp only [dotI]; rw [h7]; omega

theorem wdot_eq {K L : Int} (a b : List Int) (s : Int) (hKL : 0 ≤ K * L) (ha : Bd K a) (hb : Bd L b)
    (h1 : -9223372036854775807 + a.length * (K * L) ≤ s) (h2 : s + a.length * (K * L) ≤ 9223372036854775807) : wdot s a b = s + dotI a b := by
  induction a generalizing b s with
  | nil => cases b <;> simp [wdot, dotI]
  | cons x l ih =>
    cases b with
    | nil => simp [wdot, dotI]
    | cons y r =>
      obtain ⟨hx, hl⟩ := ha.cons
      obtain ⟨hy, hr⟩ := hb.cons
      have h5 := mul_bd hx.1 hx.2 hy.1 hy.2
      have h7 : ((x :: l).length : Int) * (K * L) = (l.length : Int) * (K * L) + K * L := by
        simp only [List.length_cons]; rw [Int.natCast_add, Int.add_mul]; simp
      have h8 : 0 ≤ (l.length : Int) * (K * L) := Int.mul_nonneg (by omega) hKL
      rw [h7] at h1 h2
      have e1 : wrap64 (x * y) = x * y := IntWalk.wrap64_in _ ⟨by omega, by omega⟩
      have e2 : wrap64 (s + x * y) = s + x * y := IntWalk.wrap64_in _ ⟨by omega, by omega⟩
      simp only [wdot, dotI]
      rw [e1, e2, ih r _ hl hr (by omega) (by omega)]
      omega

theorem dotI_self (a : List Int) : 0 ≤ dotI a a := by
  induction a with
  | nil => simp [dotI]
  | cons x l ih =>
    simp only [dotI]
    have : 0 ≤ x * x := by
      rcases Int.le_total 0 x with h | h
      · exact Int.mul_nonneg h h
      · exact Int.mul_nonneg_of_nonpos_of_nonpos h h
    omega

/-- Vectors of a mask's columns and rows. -/
structure Sm (l : List Int) : Prop where
  len : l.length ≤ 10
  bd : Bd 1 l
theorem wdot_sm {a b : List Int} (ha : Sm a) (hb : Sm b) : wdot 0 a b = dotI a b ∧ -10 ≤ dotI a b ∧ dotI a b ≤ 10 := by
  have h1 := dotI_bd a b (K := 1) (L := 1) (by omega) ha.bd hb.bd
  have h2 := wdot_eq a b 0 (K := 1) (L := 1) (by omega) ha.bd hb.bd (by have := ha.len; omega) (by have := ha.len; omega)
  have := ha.len
  omega
theorem colL_sm {m : List (List Int)} (h : IsMask m) {j : Nat} (hj : j < (nthL m 0).length) : Sm (colL m j) := by
  refine ⟨by rw [colL_len]; have := h.rows6; omega, fun k hk => ?_⟩
  rw [colL_len] at hk
  have : nth (colL m j) k = nth (nthL m k) j := by
    rw [nth_eq _ _ (by rw [colL_len]; exact hk), nthL_eq _ _ hk]; simp [colL]
  rw [this]
  exact h.small k hk j hj

/-- A fraction in lowest terms. -/
def ratN (n d : Nat) : Int := ((n / Nat.gcd n d : Nat) : Int)
def ratD (n d : Nat) : Int := ((d / Nat.gcd n d : Nat) : Int)

def likeD (a b : List Int) : Nat := (dotI a a * dotI b b).toNat
def likeN (a b : List Int) : Nat := (dotI a b * dotI a b).toNat
theorem sq_nonneg (x : Int) : 0 ≤ x * x := by
  rcases Int.le_total 0 x with h | h
  · exact Int.mul_nonneg h h
  · exact Int.mul_nonneg_of_nonpos_of_nonpos h h
theorem likeD_int (a b : List Int) : ((likeD a b : Nat) : Int) = dotI a a * dotI b b := by
  unfold likeD; exact Int.toNat_of_nonneg (Int.mul_nonneg (dotI_self a) (dotI_self b))
theorem likeN_int (a b : List Int) : ((likeN a b : Nat) : Int) = dotI a b * dotI a b := by
  unfold likeN; exact Int.toNat_of_nonneg (sq_nonneg _)
theorem likeD_le {a b : List Int} (ha : Sm a) (hb : Sm b) : likeD a b ≤ 100 := by
  have h1 := (wdot_sm ha ha).2
  have h2 := (wdot_sm hb hb).2
  have h3 := mul_bd h1.1 h1.2 h2.1 h2.2
  have := likeD_int a b
  omega
theorem likeN_le {a b : List Int} (ha : Sm a) (hb : Sm b) : likeN a b ≤ 100 := by
  have h1 := (wdot_sm ha hb).2
  have h3 := mul_bd h1.1 h1.2 h1.1 h1.2
  have := likeN_int a b
  omega

end Go.Proofs.Ytkkmlcengneomaa
