/- Sums of squares as the law PicEnergy reckons them. No program in sight. No condition. -/
import Derived.Test.YtahccnljckgjmaaPWalLaw2
namespace Go.Proofs.Ytahccnljckgjmaa
open Go.RowKit Ls

/-- The sum of the squares of the first k numbers, in 64 bits. -/
def sqTo (l : List Int) : Nat → Int
  | 0 => 0
  | k + 1 => wrap64 (sqTo l k + wrap64 (nth l k * nth l k))
theorem wrapEq (x : Int) : IntKind.i64.wrap x = wrap64 x := by unfold wrap64; rw [IntKind.wrap_i64]
theorem wrap64_small {x : Int} (h1 : -4611686018427387904 ≤ x) (h2 : x ≤ 4611686018427387904) : wrap64 x = x := by unfold wrap64; omega
theorem sq_bd {x B : Int} (h1 : -B ≤ x) (h2 : x ≤ B) : 0 ≤ x * x ∧ x * x ≤ B * B := by
  have h3 : 0 ≤ (B - x) * (B + x) := Int.mul_nonneg (by omega) (by omega)
  have h4 : (B - x) * (B + x) = B * B - x * x := by rw [Int.sub_mul, Int.mul_add, Int.mul_add, Int.mul_comm x B]; omega
  constructor
  · by_cases h : 0 ≤ x
    · exact Int.mul_nonneg h h
    · have := Int.mul_nonneg (show 0 ≤ -x by omega) (show 0 ≤ -x by omega)
      rwa [Int.neg_mul_neg] at this
  · omega
theorem sqTo_su (l : List Int) (B : Int) (hB : 0 ≤ B) (hB2 : B ≤ 100000000) (n : Nat) (hn : n ≤ 256) (h : ∀ t, t < n → -B ≤ nth l t ∧ nth l t ≤ B) :
    ∀ k, k ≤ n → sqTo l k = su (fun j => nth l j * nth l j) k ∧ 0 ≤ sqTo l k ∧ sqTo l k ≤ k * (B * B) := by
  have hBB : B * B ≤ 100000000 * 100000000 := Int.mul_le_mul hB2 hB2 hB (by omega)
  intro k
  induction k with
  | zero => intro _; simp [sqTo, su]
  | succ k ih =>
    intro hk
    obtain ⟨e1, e2, e3⟩ := ih (by omega)
    obtain ⟨b1, b2⟩ := h k (by omega)
    obtain ⟨q1, q2⟩ := sq_bd b1 b2
    have e4 : ((k + 1 : Nat) : Int) * (B * B) = k * (B * B) + B * B := by rw [Int.natCast_add, Int.add_mul]; simp
    have hk2 : (k : Int) * (B * B) ≤ 256 * (100000000 * 100000000) := Int.mul_le_mul (by omega) hBB (Int.mul_nonneg hB hB) (by omega)
    rw [sqTo, su, e4, wrap64_small (x := nth l k * nth l k) (by omega) (by omega), wrap64_small (by omega) (by omega), ← e1]
    omega

theorem walS_bd {l : List Int} {M : Nat} {B : Int} (hM : M ≤ 8) (hl : l.length = 2 ^ M) (hB : 0 ≤ B) (h : ∀ t, t < l.length → -B ≤ nth l t ∧ nth l t ≤ B) (i : Nat) (hi : i < l.length) : -(256 * B) ≤ nth (walS l) i ∧ nth (walS l) i ≤ 256 * B := by
  rw [walS_nth l i hi]
  have h1 := sgSum_bd i (nth l) B l.length h
  have h8 : 2 ^ M ≤ 256 := Nat.pow_le_pow_right (n := 2) (by omega) hM
  have h2 : (l.length : Int) * B ≤ 256 * B := Int.mul_le_mul_of_nonneg_right (by omega) hB
  omega
/-- The squares of the transform in 64 bits, for small numbers. -/
theorem wal_sq {l : List Int} {M : Nat} (hM : M ≤ 8) (hl : l.length = 2 ^ M) (h : ∀ t, t < l.length → -100000 ≤ nth l t ∧ nth l t ≤ 100000) : sqTo (walS l) l.length = wrap64 ((l.length : Int) * sqTo l l.length) := by
  have h8 : 2 ^ M ≤ 256 := Nat.pow_le_pow_right (n := 2) (by omega) hM
  obtain ⟨e1, e2, e3⟩ := sqTo_su l 100000 (by omega) (by omega) l.length (by omega) h l.length (Nat.le_refl _)
  obtain ⟨f1, _, _⟩ := sqTo_su (walS l) (256 * 100000) (by omega) (by omega) l.length (by omega) (fun t ht => walS_bd hM hl (by omega) h t ht) l.length (Nat.le_refl _)
  have e4 : su (fun j => nth (walS l) j * nth (walS l) j) l.length = (l.length : Int) * su (fun j => nth l j * nth l j) l.length := by
    rw [su_congr (g := fun i => sgSum i (nth l) l.length * sgSum i (nth l) l.length) (fun t ht => by rw [walS_nth l t ht]), hl, wal_energy (nth l) M hM]
  rw [f1, e4, ← e1]
  have h7 : (l.length : Int) * (100000 * 100000) ≤ 256 * (100000 * 100000) := Int.mul_le_mul_of_nonneg_right (by omega) (by omega)
  have h9 : (l.length : Int) * sqTo l l.length ≤ 256 * (256 * (100000 * 100000)) := Int.mul_le_mul (by omega) (by omega) e2 (by omega)
  have h10 : 0 ≤ (l.length : Int) * sqTo l l.length := Int.mul_nonneg (by omega) e2
  exact (wrap64_small (by omega) (by omega)).symm
/-- Walsh of Walsh in 64 bits. -/
theorem wal_twice {l : List Int} {M : Nat} (hM : M ≤ 8) (hl : l.length = 2 ^ M) (h : ∀ t, t < l.length → -1000000 ≤ nth l t ∧ nth l t ≤ 1000000) (i : Nat) (hi : i < l.length) : nth (walS (walS l)) i = (l.length : Int) * nth l i ∧ wrap64 ((l.length : Int) * nth l i) = (l.length : Int) * nth l i := by
  have h8 : 2 ^ M ≤ 256 := Nat.pow_le_pow_right (n := 2) (by omega) hM
  constructor
  · rw [walS_nth _ i (by rw [walS_len]; exact hi), walS_len]
    rw [show sgSum i (nth (walS l)) l.length = sgSum i (fun j => sgSum j (nth l) l.length) l.length from sgSum_congr fun t ht => by rw [walS_nth l t ht]]
    have := wal_wal (nth l) M hM i (by omega)
    rw [← hl] at this
    exact this
  · have hb := h i hi
    have h1 : (l.length : Int) * nth l i ≤ 256 * 1000000 := by
      have h2 : (l.length : Int) * nth l i ≤ (l.length : Int) * 1000000 := Int.mul_le_mul_of_nonneg_left hb.2 (by omega)
      omega
    have h3 : -(256 * 1000000) ≤ (l.length : Int) * nth l i := by
      have h2 : (l.length : Int) * (-1000000) ≤ (l.length : Int) * nth l i := Int.mul_le_mul_of_nonneg_left hb.1 (by omega)
      omega
    exact wrap64_small (by omega) (by omega)

end Go.Proofs.Ytahccnljckgjmaa
