/- The Walsh transform of the Walsh transform is the list times its length; its squares; the transform of a sum. No program in sight. No condition. -/
import Derived.Test.YtahccnljckgjmaaPWalLaw
namespace Go.Proofs.Ytahccnljckgjmaa
open Go.RowKit Ls

def su (f : Nat → Int) : Nat → Int
  | 0 => 0
  | k + 1 => su f k + f k
theorem su_congr {f g : Nat → Int} {k : Nat} (h : ∀ t, t < k → f t = g t) : su f k = su g k := by
  induction k with
  | zero => rfl
  | succ k ih => rw [su, su, ih (fun t ht => h t (by omega)), h k (by omega)]
theorem su_add (f g : Nat → Int) (k : Nat) : su (fun t => f t + g t) k = su f k + su g k := by
  induction k with
  | zero => rfl
  | succ k ih => rw [su, su, su, ih]; omega
theorem su_mul (c : Int) (f : Nat → Int) (k : Nat) : su (fun t => c * f t) k = c * su f k := by
  induction k with
  | zero => simp [su]
  | succ k ih => rw [su, su, ih, Int.mul_add]
theorem su_zero (k : Nat) : su (fun _ => 0) k = 0 := by
  induction k with
  | zero => rfl
  | succ k ih => rw [su, ih]; rfl
theorem su_comm (f : Nat → Nat → Int) (a b : Nat) : su (fun i => su (fun j => f i j) b) a = su (fun j => su (fun i => f i j) a) b := by
  induction a with
  | zero => simp [su, su_zero]
  | succ a ih => simp only [su]; rw [ih, ← su_add]
theorem su_split (f : Nat → Int) (a b : Nat) : su f (a + b) = su f a + su (fun t => f (a + t)) b := by
  induction b with
  | zero => simp [su]
  | succ b ih => rw [← Nat.add_assoc, su, su, ih]; omega
theorem su_one (f : Nat → Int) (i k : Nat) (hi : i < k) (h : ∀ t, t < k → t ≠ i → f t = 0) : su f k = f i := by
  induction k with
  | zero => omega
  | succ k ih =>
    rw [su]
    by_cases e : i = k
    · subst e
      rw [su_congr (g := fun _ => 0) (fun t ht => h t (by omega) (by omega)), su_zero, Int.zero_add]
    · rw [ih (by omega) (fun t ht => h t (by omega)), h k (by omega) (Ne.symm e), Int.add_zero]

def sg (i j : Nat) : Int := sgnd i j 1
theorem sgnd_mul (i j : Nat) (n : Int) : sgnd i j n = sg i j * n := by
  unfold sg sgnd; split <;> simp
theorem sg_sym (i j : Nat) : sg i j = sg j i := by unfold sg sgnd; rw [Nat.and_comm]
theorem sg_low {i e t : Nat} (ht : t < 2 ^ e) : sg i t = sg (i % 2 ^ e) t := by
  unfold sg sgnd; rw [low_and e i t ht]
def sgB (e i : Nat) : Int := if i / 2 ^ e % 2 = 0 then 1 else -1
theorem sg_top {e i t : Nat} (he : e < 8) (hi : i < 256) (ht : t < 2 ^ e) : sg i (2 ^ e + t) = sgB e i * sg i t := by
  have h := top_and e i t he hi ht
  unfold sg sgnd sgB
  rw [h]
  rcases Nat.mod_two_eq_zero_or_one (i / 2 ^ e) with hb | hb <;> rcases Nat.mod_two_eq_zero_or_one (popc 9 (i &&& t)) with hc | hc <;> rw [hb] <;> simp [hc, Nat.add_mod]
theorem sgSum_su (i : Nat) (f : Nat → Int) (k : Nat) : sgSum i f k = su (fun j => sg i j * f j) k := by
  induction k with
  | zero => rfl
  | succ k ih => rw [sgSum, su, ih, sgnd_mul]

theorem sg_orth (M : Nat) (hM : M ≤ 8) : ∀ i t, i < 2 ^ M → t < 2 ^ M → su (fun j => sg i j * sg t j) (2 ^ M) = if i = t then ((2 ^ M : Nat) : Int) else 0 := by
  induction M with
  | zero =>
    intro i t hi ht
    obtain rfl : i = 0 := by omega
    obtain rfl : t = 0 := by omega
    decide
  | succ e ih =>
    intro i t hi ht
    have h2 : 2 ^ (e + 1) = 2 ^ e + 2 ^ e := by rw [Nat.pow_succ]; omega
    have h8 : 2 ^ (e + 1) ≤ 256 := Nat.pow_le_pow_right (n := 2) (by omega) hM
    have hp : 0 < 2 ^ e := Nat.pow_pos (by omega)
    have e1 : su (fun j => sg i (2 ^ e + j) * sg t (2 ^ e + j)) (2 ^ e) = (sgB e i * sgB e t) * su (fun j => sg i j * sg t j) (2 ^ e) := by
      rw [← su_mul]
      refine su_congr fun j hj => ?_
      rw [sg_top (by omega) (by omega) hj, sg_top (by omega) (by omega) hj, Int.mul_assoc, Int.mul_assoc, Int.mul_left_comm (sg i j)]
    have e2 : su (fun j => sg i j * sg t j) (2 ^ e) = if i % 2 ^ e = t % 2 ^ e then ((2 ^ e : Nat) : Int) else 0 := by
      rw [← ih (by omega) (i % 2 ^ e) (t % 2 ^ e) (Nat.mod_lt _ hp) (Nat.mod_lt _ hp)]
      refine su_congr fun j hj => ?_
      rw [sg_low (i := i) hj, sg_low (i := t) hj]
    rw [h2, su_split, e1, e2]
    have di := Nat.div_add_mod i (2 ^ e)
    have dt := Nat.div_add_mod t (2 ^ e)
    have ci := Nat.mod_lt i hp
    have ct := Nat.mod_lt t hp
    have qi : i / 2 ^ e < 2 := Nat.div_lt_of_lt_mul (by omega)
    have qt : t / 2 ^ e < 2 := Nat.div_lt_of_lt_mul (by omega)
    unfold sgB
    generalize i / 2 ^ e = a at di qi ⊢
    generalize t / 2 ^ e = b at dt qt ⊢
    generalize i % 2 ^ e = c at di ci ⊢
    generalize t % 2 ^ e = d at dt ct ⊢
    generalize 2 ^ e = P at *
    have ha : a = 0 ∨ a = 1 := by omega
    have hb : b = 0 ∨ b = 1 := by omega
    by_cases hcd : c = d
    · rw [if_pos hcd]
      rcases ha with rfl | rfl <;> rcases hb with rfl | rfl <;> (simp at di dt ⊢)
      · intro h; omega
      · rw [if_neg (by omega)]; omega
      · rw [if_neg (by omega)]; omega
      · intro h; omega
    · rw [if_neg hcd, Int.mul_zero, Int.zero_add]
      rw [if_neg]
      intro he
      apply hcd
      rcases ha with rfl | rfl <;> rcases hb with rfl | rfl <;> (simp at di dt) <;> omega

/-- Walsh of Walsh. -/
theorem wal_wal (f : Nat → Int) (M : Nat) (hM : M ≤ 8) (i : Nat) (hi : i < 2 ^ M) : sgSum i (fun j => sgSum j f (2 ^ M)) (2 ^ M) = ((2 ^ M : Nat) : Int) * f i := by
  rw [sgSum_su]
  have e1 : su (fun j => sg i j * sgSum j f (2 ^ M)) (2 ^ M) = su (fun j => su (fun t => sg i j * (sg j t * f t)) (2 ^ M)) (2 ^ M) := by
    refine su_congr fun j _ => ?_
    rw [sgSum_su, su_mul]
  have e2 : su (fun t => su (fun j => sg i j * (sg j t * f t)) (2 ^ M)) (2 ^ M) = su (fun t => f t * (if i = t then ((2 ^ M : Nat) : Int) else 0)) (2 ^ M) := by
    refine su_congr fun t ht => ?_
    rw [← sg_orth M hM i t hi ht, ← su_mul]
    refine su_congr fun j _ => ?_
    rw [sg_sym j t, ← Int.mul_assoc, Int.mul_comm]
  rw [e1, su_comm, e2, su_one _ i _ hi (fun t _ hne => by rw [if_neg (Ne.symm hne), Int.mul_zero]), if_pos rfl, Int.mul_comm]

/-- The squares of the transform. -/
theorem wal_energy (f : Nat → Int) (M : Nat) (hM : M ≤ 8) : su (fun i => sgSum i f (2 ^ M) * sgSum i f (2 ^ M)) (2 ^ M) = ((2 ^ M : Nat) : Int) * su (fun j => f j * f j) (2 ^ M) := by
  have e1 : su (fun i => sgSum i f (2 ^ M) * sgSum i f (2 ^ M)) (2 ^ M) = su (fun i => su (fun j => f j * (sg j i * sgSum i f (2 ^ M))) (2 ^ M)) (2 ^ M) := by
    refine su_congr fun i _ => ?_
    conv => lhs; arg 1; rw [sgSum_su]
    rw [Int.mul_comm, ← su_mul]
    refine su_congr fun j _ => ?_
    rw [sg_sym i j, Int.mul_comm (sgSum i f _), Int.mul_assoc, Int.mul_left_comm]
  rw [e1, su_comm, ← su_mul]
  refine su_congr fun j hj => ?_
  have h := wal_wal f M hM j hj
  rw [sgSum_su] at h
  rw [su_mul, h, Int.mul_left_comm]

/-- The transform of a sum. -/
theorem wal_add (f g h : Nat → Int) (n i : Nat) (hs : ∀ t, t < n → h t = f t + g t) : sgSum i h n = sgSum i f n + sgSum i g n := by
  rw [sgSum_su, sgSum_su, sgSum_su, ← su_add]
  refine su_congr fun t ht => ?_
  rw [hs t ht, Int.mul_add]

end Go.Proofs.Ytahccnljckgjmaa
