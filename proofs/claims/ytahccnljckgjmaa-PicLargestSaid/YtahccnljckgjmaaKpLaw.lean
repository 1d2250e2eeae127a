/- Turning and mirroring keep the steps and the size. No program in sight. No condition. -/
import Derived.Test.YtahccnljckgjmaaPMovLaw
import Derived.Test.YtahccnljckgjmaaPWalLaw2
namespace Go.Proofs.Ytahccnljckgjmaa
open Go.RowKit Ls

/-- A number without its sign. -/
def sz (n : Int) : Int := max n (-n)
theorem sz_sub (x y : Int) : sz (x - y) = sz (y - x) := by unfold sz; omega
def sumA (l : List Int) : Int := su (fun i => sz (nth l i)) l.length
def hst (a : Nat) (l : List Int) (i : Nat) : Int := if 0 < (i + 1) % a then sz (nth l i - nth l (i + 1)) else 0
def vst (a : Nat) (l : List Int) (i : Nat) : Int := if i + a < l.length then sz (nth l i - nth l (i + a)) else 0
def stepSum (a : Nat) (l : List Int) : Int := su (fun i => hst a l i + vst a l i) l.length

theorem su_grid (g : Nat → Int) (a b : Nat) : su g (a * b) = su (fun y => su (fun x => g (x + a * y)) a) b := by
  induction b with
  | zero => rfl
  | succ b ih =>
    rw [Nat.mul_succ, su_split, ih]
    show _ = su (fun y => su (fun x => g (x + a * y)) a) b + su (fun x => g (x + a * b)) a
    congr 1
    exact su_congr fun t _ => by rw [Nat.add_comm]
theorem su_rev (g : Nat → Int) (m : Nat) : su (fun x => g (m - 1 - x)) m = su g m := by
  induction m with
  | zero => rfl
  | succ m ih =>
    have h := su_split (fun x => g (m + 1 - 1 - x)) 1 m
    rw [Nat.add_comm 1 m] at h
    rw [h]
    have h1 : su (fun t => g (m + 1 - 1 - (1 + t))) m = su g m := by
      rw [← ih]
      exact su_congr fun t _ => by rw [show m + 1 - 1 - (1 + t) = m - 1 - t by omega]
    rw [h1]
    show su (fun x => g (m + 1 - 1 - x)) 1 + su g m = su g m + g m
    have h2 : su (fun x => g (m + 1 - 1 - x)) 1 = g m := by
      show 0 + g (m + 1 - 1 - 0) = g m
      rw [Int.zero_add]; rfl
    rw [h2, Int.add_comm]
theorem su_last (G : Nat → Int) (n : Nat) : su (fun x => if x + 1 < n then G x else 0) n = su G (n - 1) := by
  cases n with
  | zero => rfl
  | succ n =>
    show su (fun x => if x + 1 < n + 1 then G x else 0) n + (if n + 1 < n + 1 then G n else 0) = su G n
    rw [if_neg (by omega), Int.add_zero]
    exact su_congr fun t ht => by rw [if_pos (by omega)]

/-- The steps of a picture whose pixels are told by their places. -/
def gH (P : Nat → Nat → Int) (a b : Nat) : Int := su (fun y => su (fun x => sz (P x y - P (x + 1) y)) (a - 1)) b
def gV (P : Nat → Nat → Int) (a b : Nat) : Int := su (fun y => su (fun x => sz (P x y - P x (y + 1))) a) (b - 1)
def gS (P : Nat → Nat → Int) (a b : Nat) : Int := su (fun y => su (fun x => sz (P x y)) a) b
theorem stepSum_grid {a b : Nat} {l : List Int} (hl : l.length = a * b) : stepSum a l = gH (fun x y => nth l (x + a * y)) a b + gV (fun x y => nth l (x + a * y)) a b := by
  unfold stepSum
  rw [su_add, hl, su_grid, su_grid]
  congr 1
  · refine su_congr fun y _ => ?_
    rw [← su_last (fun x => sz (nth l (x + a * y) - nth l (x + 1 + a * y)))]
    refine su_congr fun x hx => ?_
    unfold hst
    have e : (x + a * y + 1) % a = (x + 1) % a := by rw [show x + a * y + 1 = x + 1 + a * y by omega, Nat.add_mul_mod_self_left]
    rw [e]
    by_cases h : x + 1 < a
    · rw [if_pos h, Nat.mod_eq_of_lt h, if_pos (by omega), show x + 1 + a * y = x + a * y + 1 by omega]
    · rw [if_neg h, show x + 1 = a by omega, Nat.mod_self, if_neg (by omega)]
  · have h := su_last (fun y => su (fun x => sz (nth l (x + a * y) - nth l (x + a * (y + 1)))) a) b
    unfold gV
    rw [← h]
    refine su_congr fun y hy => ?_
    by_cases h2 : y + 1 < b
    · rw [if_pos h2]
      refine su_congr fun x hx => ?_
      have h3 : a * (y + 2) ≤ a * b := Nat.mul_le_mul_left a (by omega)
      rw [Nat.mul_add] at h3
      unfold vst
      rw [if_pos (by rw [hl]; omega), Nat.mul_add, Nat.mul_one, Nat.add_assoc]
    · rw [if_neg h2, ← su_zero a]
      refine su_congr fun x hx => ?_
      unfold vst
      have h3 : a * b = a * y + a := by rw [show b = y + 1 by omega, Nat.mul_add, Nat.mul_one]
      rw [if_neg (by rw [hl]; omega)]
theorem sumA_grid {a b : Nat} {l : List Int} (hl : l.length = a * b) : sumA l = gS (fun x y => nth l (x + a * y)) a b := by
  unfold sumA gS
  rw [hl, su_grid]
theorem gH_congr {P Q : Nat → Nat → Int} {a b : Nat} (h : ∀ x y, x < a → y < b → P x y = Q x y) : gH P a b = gH Q a b :=
  su_congr fun y hy => su_congr fun x hx => by rw [h x y (by omega) hy, h (x + 1) y (by omega) hy]
theorem gV_congr {P Q : Nat → Nat → Int} {a b : Nat} (h : ∀ x y, x < a → y < b → P x y = Q x y) : gV P a b = gV Q a b :=
  su_congr fun y hy => su_congr fun x hx => by rw [h x y hx (by omega), h x (y + 1) hx (by omega)]
theorem gS_congr {P Q : Nat → Nat → Int} {a b : Nat} (h : ∀ x y, x < a → y < b → P x y = Q x y) : gS P a b = gS Q a b :=
  su_congr fun y hy => su_congr fun x hx => by rw [h x y hx hy]

theorem turn_gH (P : Nat → Nat → Int) (a b : Nat) : gH (fun x y => P y (b - 1 - x)) b a = gV P a b := by
  unfold gH gV
  rw [su_comm]
  rw [← su_rev (fun y => su (fun x => sz (P x y - P x (y + 1))) a)]
  refine su_congr fun x hx => su_congr fun y hy => ?_
  show sz (P y (b - 1 - x) - P y (b - 1 - (x + 1))) = _
  rw [sz_sub, show b - 1 - (x + 1) = b - 1 - 1 - x by omega, show b - 1 - x = b - 1 - 1 - x + 1 by omega]
theorem turn_gV (P : Nat → Nat → Int) (a b : Nat) : gV (fun x y => P y (b - 1 - x)) b a = gH P a b := by
  unfold gH gV
  rw [su_comm]
  rw [← su_rev (fun y => su (fun x => sz (P x y - P (x + 1) y)) (a - 1))]
theorem turn_gS (P : Nat → Nat → Int) (a b : Nat) : gS (fun x y => P y (b - 1 - x)) b a = gS P a b := by
  unfold gS
  rw [su_comm, ← su_rev (fun y => su (fun x => sz (P x y)) a)]
theorem mir_gH (P : Nat → Nat → Int) (a b : Nat) : gH (fun x y => P (a - 1 - x) y) a b = gH P a b := by
  unfold gH
  refine su_congr fun y hy => ?_
  rw [← su_rev (fun x => sz (P x y - P (x + 1) y))]
  refine su_congr fun x hx => ?_
  show sz (P (a - 1 - x) y - P (a - 1 - (x + 1)) y) = _
  rw [sz_sub, show a - 1 - (x + 1) = a - 1 - 1 - x by omega, show a - 1 - x = a - 1 - 1 - x + 1 by omega]
theorem mir_gV (P : Nat → Nat → Int) (a b : Nat) : gV (fun x y => P (a - 1 - x) y) a b = gV P a b := by
  unfold gV
  refine su_congr fun y hy => ?_
  rw [← su_rev (fun x => sz (P x y - P x (y + 1)))]
theorem mir_gS (P : Nat → Nat → Int) (a b : Nat) : gS (fun x y => P (a - 1 - x) y) a b = gS P a b := by
  unfold gS
  refine su_congr fun y hy => ?_
  rw [← su_rev (fun x => sz (P x y))]

/-- One quarter. -/
theorem rot_keeps {a b : Nat} {l : List Int} (hb : 1 ≤ b) (hl : l.length = a * b) : stepSum b (srcL (rotP a b) l l.length) = stepSum a l ∧ sumA (srcL (rotP a b) l l.length) = sumA l := by
  have hl2 : (srcL (rotP a b) l l.length).length = b * a := by rw [srcL_len, hl, Nat.mul_comm]
  have key : ∀ x y, x < b → y < a → nth (srcL (rotP a b) l l.length) (x + b * y) = nth l (y + a * (b - 1 - x)) := by
    intro x y hx hy
    have h3 : b * (y + 1) ≤ b * a := Nat.mul_le_mul_left b hy
    rw [Nat.mul_add, Nat.mul_one] at h3
    rw [srcL_nth _ _ _ _ (by rw [hl, Nat.mul_comm a b]; omega)]
    unfold rotP
    rw [Nat.add_mul_div_left _ _ hb, Nat.div_eq_of_lt hx, Nat.zero_add, Nat.add_mul_mod_self_left, Nat.mod_eq_of_lt hx]
  constructor
  · rw [stepSum_grid hl2, stepSum_grid hl, gH_congr (Q := fun x y => (fun u v => nth l (u + a * v)) y (b - 1 - x)) key, gV_congr (Q := fun x y => (fun u v => nth l (u + a * v)) y (b - 1 - x)) key, turn_gH (fun u v => nth l (u + a * v)), turn_gV (fun u v => nth l (u + a * v)), Int.add_comm]
  · rw [sumA_grid hl2, sumA_grid hl, gS_congr (Q := fun x y => (fun u v => nth l (u + a * v)) y (b - 1 - x)) key, turn_gS (fun u v => nth l (u + a * v))]
theorem mir_keeps {a b : Nat} {l : List Int} (ha : 1 ≤ a) (hl : l.length = a * b) : stepSum a (srcL (mirP a) l l.length) = stepSum a l ∧ sumA (srcL (mirP a) l l.length) = sumA l := by
  have hl2 : (srcL (mirP a) l l.length).length = a * b := by rw [srcL_len, hl]
  have key : ∀ x y, x < a → y < b → nth (srcL (mirP a) l l.length) (x + a * y) = nth l (a - 1 - x + a * y) := by
    intro x y hx hy
    have h3 : a * (y + 1) ≤ a * b := Nat.mul_le_mul_left a hy
    rw [Nat.mul_add, Nat.mul_one] at h3
    rw [srcL_nth _ _ _ _ (by rw [hl]; omega)]
    unfold mirP
    rw [Nat.add_mul_div_left _ _ ha, Nat.div_eq_of_lt hx, Nat.zero_add, Nat.add_mul_mod_self_left, Nat.mod_eq_of_lt hx]
  constructor
  · rw [stepSum_grid hl2, stepSum_grid hl, gH_congr (Q := fun x y => (fun u v => nth l (u + a * v)) (a - 1 - x) y) key, gV_congr (Q := fun x y => (fun u v => nth l (u + a * v)) (a - 1 - x) y) key, mir_gH (fun u v => nth l (u + a * v)), mir_gV (fun u v => nth l (u + a * v))]
  · rw [sumA_grid hl2, sumA_grid hl, gS_congr (Q := fun x y => (fun u v => nth l (u + a * v)) (a - 1 - x) y) key, mir_gS (fun u v => nth l (u + a * v))]

/-- Some quarters. -/
theorem rotN_keeps {a b : Nat} {l : List Int} (ha : 1 ≤ a) (hb : 1 ≤ b) (hl : l.length = a * b) (k : Nat) : stepSum (rotN a b l k).1 (rotN a b l k).2.2 = stepSum a l ∧ sumA (rotN a b l k).2.2 = sumA l := by
  induction k with
  | zero => exact ⟨rfl, rfl⟩
  | succ k ih =>
    obtain ⟨r1, r2, r3⟩ := rotN_ok a b l hl k
    have hx : 1 ≤ (rotN a b l k).1 ∧ 1 ≤ (rotN a b l k).2.1 := by rcases r3 with ⟨h, h'⟩ | ⟨h, h'⟩ <;> omega
    have := rot_keeps (a := (rotN a b l k).1) (b := (rotN a b l k).2.1) (l := (rotN a b l k).2.2) hx.2 (by rw [r1, r2])
    rw [r2, ← hl] at this
    exact ⟨this.1.trans ih.1, this.2.trans ih.2⟩
theorem rotN_add (a b : Nat) (l : List Int) (hl : l.length = a * b) (j k : Nat) : rotN (rotN a b l j).1 (rotN a b l j).2.1 (rotN a b l j).2.2 k = rotN a b l (j + k) := by
  induction k with
  | zero => rfl
  | succ k ih =>
    have h := (rotN_ok a b l hl j).2.1
    show ((rotN (rotN a b l j).1 (rotN a b l j).2.1 (rotN a b l j).2.2 k).2.1, (rotN (rotN a b l j).1 (rotN a b l j).2.1 (rotN a b l j).2.2 k).1, srcL (rotP (rotN (rotN a b l j).1 (rotN a b l j).2.1 (rotN a b l j).2.2 k).1 (rotN (rotN a b l j).1 (rotN a b l j).2.1 (rotN a b l j).2.2 k).2.1) (rotN (rotN a b l j).1 (rotN a b l j).2.1 (rotN a b l j).2.2 k).2.2 (rotN a b l j).2.2.length) = _
    rw [ih, h, ← hl]
    rfl
def fourOk (a b : Nat) : Bool := (List.range (a * b)).all fun i => Nat.beq (msrc 3 a b (rotP b a i)) i
def fourAll : Bool := (List.range 17).all fun a => (List.range 17).all fun b => Nat.beq a 0 || Nat.beq b 0 || fourOk a b
theorem fourAll_true : fourAll = true := by decide +kernel
theorem four_ok {a b : Nat} (ha1 : 1 ≤ a) (ha2 : a ≤ 16) (hb1 : 1 ≤ b) (hb2 : b ≤ 16) (i : Nat) (hi : i < a * b) : msrc 3 a b (rotP b a i) = i := by
  have h1 := List.all_eq_true.1 (List.all_eq_true.1 fourAll_true a (List.mem_range.2 (by omega))) b (List.mem_range.2 (by omega))
  simp only [Bool.or_eq_true, Nat.beq_eq] at h1
  rcases h1 with (h | h) | h
  · omega
  · omega
  · have := List.all_eq_true.1 h i (List.mem_range.2 hi)
    rwa [Nat.beq_eq] at this
theorem rotN_four {a b : Nat} {l : List Int} (ha1 : 1 ≤ a) (ha2 : a ≤ 16) (hb1 : 1 ≤ b) (hb2 : b ≤ 16) (hl : l.length = a * b) : rotN a b l 4 = (a, b, l) := by
  have h3 := rotN_mov (t := 3) (by omega) ha1 ha2 hb1 hb2 hl
  have h4 : rotN a b l 4 = ((rotN a b l 3).2.1, (rotN a b l 3).1, srcL (rotP (rotN a b l 3).1 (rotN a b l 3).2.1) (rotN a b l 3).2.2 l.length) := rfl
  rw [h4, h3]
  show (a, b, srcL (rotP b a) (srcL (msrc 3 a b) l l.length) l.length) = (a, b, l)
  have e : srcL (rotP b a) (srcL (msrc 3 a b) l l.length) l.length = l := by
    rw [srcL_comp _ _ _ _ (fun i hi => by rw [hl, Nat.mul_comm] at hi ⊢; exact rot_lt hb1 hb2 ha1 ha2 hi)]
    refine ext_nth (srcL_len _ _ _) fun i hi => ?_
    rw [srcL_len] at hi
    rw [srcL_nth _ _ _ _ hi]
    rw [hl] at hi
    have h5 := four_ok ha1 ha2 hb1 hb2 i hi
    rw [h5]
  rw [e]
end Go.Proofs.Ytahccnljckgjmaa
