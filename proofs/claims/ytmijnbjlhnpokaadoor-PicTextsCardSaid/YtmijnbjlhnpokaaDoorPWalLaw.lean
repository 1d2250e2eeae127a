/- The butterflies of pic's walsh are the sums with signs of the reference; what is transformed twice is the list times its length; the transform of a sum. No program in sight. No condition. -/
import Derived.Test.YtmijnbjlhnpokaaDoorPWalSpec
import Derived.Test.YtmijnbjlhnpokaaDoorPSpec
namespace Go.Proofs.YtmijnbjlhnpokaaDoor
open Go.RowKit Ls
theorem bit_and : ∀ e : Nat, e < 8 -> ∀ i : Nat, i < 256 -> i &&& 2 ^ e = 2 ^ e * (i / 2 ^ e % 2) := by decide +kernel
theorem bit_or : ∀ e : Nat, e < 8 -> ∀ i : Nat, i < 256 -> i / 2 ^ e % 2 = 0 -> i ||| 2 ^ e = i + 2 ^ e := by decide +kernel
theorem popc_top : ∀ e : Nat, e < 8 -> ∀ a : Nat, a < 2 ^ e -> popc 9 (2 ^ e + a) = popc 9 a + 1 := by decide +kernel
theorem low_and (e i t : Nat) (ht : t < 2 ^ e) : i &&& t = (i % 2 ^ e) &&& t := by
  have h : t % 2 ^ e = t := Nat.mod_eq_of_lt ht
  have h1 : (i &&& t) % 2 ^ e = i % 2 ^ e &&& t % 2 ^ e := Nat.and_mod_two_pow
  rw [h] at h1
  rw [<- h1]
  exact (Nat.mod_eq_of_lt (Nat.lt_of_le_of_lt Nat.and_le_right ht)).symm
theorem top_and (e i t : Nat) (he : e < 8) (hi : i < 256) (ht : t < 2 ^ e) : popc 9 (i &&& (2 ^ e + t)) = popc 9 (i &&& t) + i / 2 ^ e % 2 := by
  have h1 := Nat.two_pow_add_eq_or_of_lt ht 1
  rw [Nat.mul_one] at h1
  have hlt : i &&& t < 2 ^ e := Nat.lt_of_le_of_lt Nat.and_le_right ht
  rw [h1, Nat.and_or_distrib_left, bit_and e he i hi, <- Nat.two_pow_add_eq_or_of_lt hlt]
  have hb : i / 2 ^ e % 2 = 0 \/ i / 2 ^ e % 2 = 1 := by omega
  rcases hb with hb | hb
  · rw [hb, Nat.mul_zero, Nat.zero_add, Nat.add_zero]
  · rw [hb, Nat.mul_one, popc_top e he _ hlt]
def sgnd (i j : Nat) (n : Int) : Int := if popc 9 (i &&& j) % 2 = 1 then -n else n
def sgSum (i : Nat) (f : Nat -> Int) : Nat -> Int
  | 0 => 0
  | k + 1 => sgSum i f k + sgnd i k (f k)
theorem sgSum_congr {i : Nat} {f g : Nat -> Int} {k : Nat} (h : ∀ t, t < k -> sgnd i t (f t) = sgnd i t (g t)) : sgSum i f k = sgSum i g k := by
  induction k with
  | zero => rfl
  | succ k ih => rw [sgSum, sgSum, ih (fun t ht => h t (by omega)), h k (by omega)]
def wfn (f : Nat -> Int) : Nat -> Nat -> Int
  | 0, i => f i
  | e + 1, i => if i / 2 ^ e % 2 = 0 then wfn f e i + wfn f e (i + 2 ^ e) else wfn f e (i - 2 ^ e) - wfn f e i
theorem sgSum_split (i : Nat) (f : Nat -> Int) (a b : Nat) (s : Int) (hs : ∀ t, t < b -> sgnd i (a + t) (f (a + t)) = s * sgnd i t (f (a + t))) : sgSum i f (a + b) = sgSum i f a + s * sgSum i (fun t => f (a + t)) b := by
  induction b with
  | zero => simp [sgSum]
  | succ b ih =>
    rw [<- Nat.add_assoc, sgSum, ih (fun t ht => hs t (by omega)), hs b (by omega), sgSum, Int.mul_add, Int.add_assoc]
theorem sgSum_low {i j : Nat} {f : Nat -> Int} {e : Nat} (h : i % 2 ^ e = j % 2 ^ e) : sgSum i f (2 ^ e) = sgSum j f (2 ^ e) := by
  have : ∀ k, k <= 2 ^ e -> sgSum i f k = sgSum j f k := by
    intro k
    induction k with
    | zero => intro _; rfl
    | succ k ih =>
      intro hk
      rw [sgSum, sgSum, ih (by omega)]
      unfold sgnd
      rw [low_and e i k (by omega), low_and e j k (by omega), h]
  exact this _ (Nat.le_refl _)
theorem sub_bit {i e : Nat} (h : i / 2 ^ e % 2 ≠ 0) : 2 ^ e <= i /\ (i - 2 ^ e) % 2 ^ e = i % 2 ^ e /\ (i - 2 ^ e) / 2 ^ e = i / 2 ^ e - 1 := by
  have hp : 0 < 2 ^ e := Nat.pow_pos (by omega)
  have h1 : 1 <= i / 2 ^ e := Nat.pos_of_ne_zero fun h0 => h (by rw [h0])
  have hle : 2 ^ e <= i := by
    have := (Nat.le_div_iff_mul_le hp).1 h1; omega
  refine ⟨hle, (Nat.mod_eq_sub_mod hle).symm, ?_⟩
  have := Nat.div_eq_sub_div hp hle
  omega
theorem wfn_sum (f : Nat -> Int) (e : Nat) (he : e <= 8) : ∀ i, i < 256 -> wfn f e i = sgSum i (fun t => f (i / 2 ^ e * 2 ^ e + t)) (2 ^ e) := by
  induction e with
  | zero =>
    intro i hi
    simp [wfn, sgSum, sgnd, popc]
  | succ e ih =>
    intro i hi
    have hp : 0 < 2 ^ e := Nat.pow_pos (by omega)
    have h2 : 2 ^ (e + 1) = 2 ^ e + 2 ^ e := by rw [Nat.pow_succ]; omega
    have hq : i / 2 ^ (e + 1) = i / 2 ^ e / 2 := by rw [Nat.pow_succ, Nat.div_div_eq_div_mul]
    obtain ⟨s, hs⟩ : ∃ s : Int, s = if i / 2 ^ e % 2 = 0 then 1 else -1 := ⟨_, rfl⟩
    have hsg : ∀ t, t < 2 ^ e -> ∀ n : Int, sgnd i (2 ^ e + t) n = s * sgnd i t n := by
      intro t ht n
      have h := top_and e i t (by omega) hi ht
      unfold sgnd
      rw [hs, h]
      rcases Nat.mod_two_eq_zero_or_one (i / 2 ^ e) with hb | hb <;> rcases Nat.mod_two_eq_zero_or_one (popc 9 (i &&& t)) with hc | hc <;> rw [hb] <;> simp [hc, Nat.add_mod]
    rw [h2, sgSum_split i _ _ _ s (fun t ht => hsg t ht _), <- h2]
    rw [wfn]
    by_cases hb : i / 2 ^ e % 2 = 0
    · rw [if_pos hb]
      rw [if_pos hb] at hs
      subst hs
      have hbase : i / 2 ^ (e + 1) * 2 ^ (e + 1) = i / 2 ^ e * 2 ^ e := by
        have : i / 2 ^ e = 2 * (i / 2 ^ e / 2) := by
          generalize i / 2 ^ e = q at hb ⊢
          omega
        rw [hq, h2]
        conv => rhs; rw [this]
        rw [Nat.mul_add, Nat.two_mul, Nat.add_mul]
      have hd1 : (i + 2 ^ e) / 2 ^ e = i / 2 ^ e + 1 := Nat.add_div_right _ hp
      have hlt : i + 2 ^ e < 256 := by
        have h3 := (by decide +kernel : ∀ e : Nat, e < 8 -> ∀ i : Nat, i < 256 -> i / 2 ^ e % 2 = 0 -> i + 2 ^ e < 256)
        exact h3 e (by omega) i hi hb
      rw [ih (by omega) i hi, ih (by omega) (i + 2 ^ e) hlt, Int.one_mul, hbase]
      congr 1
      rw [hd1, sgSum_low (i := i + 2 ^ e) (j := i) (by rw [Nat.add_mod_right])]
      refine sgSum_congr fun t ht => ?_
      rw [Nat.add_mul, Nat.one_mul, Nat.add_assoc]
    · rw [if_neg hb]
      rw [if_neg hb] at hs
      subst hs
      obtain ⟨h5, h6, h7⟩ := sub_bit hb
      have hbase : i / 2 ^ (e + 1) * 2 ^ (e + 1) = (i / 2 ^ e - 1) * 2 ^ e := by
        have : i / 2 ^ e - 1 = 2 * (i / 2 ^ e / 2) := by
          generalize i / 2 ^ e = q at hb ⊢
          omega
        rw [hq, h2, this, Nat.mul_add, Nat.two_mul, Nat.add_mul]
      have hb2 : (i / 2 ^ e - 1) * 2 ^ e + 2 ^ e = i / 2 ^ e * 2 ^ e := by
        have : i / 2 ^ e = (i / 2 ^ e - 1) + 1 := by
          generalize i / 2 ^ e = q at hb ⊢
          omega
        conv => rhs; rw [this]
        rw [Nat.add_mul, Nat.one_mul]
      rw [ih (by omega) i hi, ih (by omega) (i - 2 ^ e) (by omega), hbase, h7, sgSum_low (i := i - 2 ^ e) (j := i) h6]
      rw [Int.neg_mul, Int.one_mul, Int.sub_eq_add_neg]
      congr 2
      refine sgSum_congr fun t ht => ?_
      rw [<- Nat.add_assoc, hb2]
theorem wrap_small {x : Int} (h1 : -4611686018427387904 <= x) (h2 : x <= 4611686018427387904) : IntKind.i64.wrap x = x := by rw [IntKind.wrap_i64]; omega
theorem nth_set_eq (l : List Int) (k : Nat) (x : Int) (h : k < l.length) : nth (l.set k x) k = x := by simp [nth, h]
theorem nth_set_ne (l : List Int) (k i : Nat) (x : Int) (h : k ≠ i) : nth (l.set k x) i = nth l i := by simp [nth, List.getElem?_set_ne h]
def part (d e : Nat) (f : Nat -> Int) (k i : Nat) : Int :=
  if i / 2 ^ e % 2 = 0 then (if i < k then f i + f (i + d) else f i) else (if i - d < k then f (i - d) - f i else f i)
theorem bflies_part (l : List Int) (e M : Nat) (f : Nat -> Int) (he : e < M) (hM : M <= 8) (hl : l.length = 2 ^ M) (hf : ∀ i, i < 2 ^ M -> nth l i = f i) (hb : ∀ i, i < 2 ^ M -> -1000000000000 <= f i /\ f i <= 1000000000000) :
    ∀ k, k <= 2 ^ M -> ∀ i, i < 2 ^ M -> nth (bflies (pairsTo (2 ^ e) k) l) i = part (2 ^ e) e f k i := by
  have h8 : 2 ^ M <= 256 := Nat.pow_le_pow_right (n := 2) (by omega) hM
  intro k
  induction k with
  | zero =>
    intro _ i hi
    simp only [pairsTo, bflies, List.foldl_nil, part]
    rw [hf i hi]
    by_cases hz : i / 2 ^ e % 2 = 0
    · simp [hz]
    · simp [hz]
  | succ k ih =>
    intro hk i hi
    have ih := ih (by omega)
    have hkl : (bflies (pairsTo (2 ^ e) k) l).length = 2 ^ M := by rw [bflies_len, hl]
    have hba := bit_and e (by omega) k (by omega)
    have hp : 0 < 2 ^ e := Nat.pow_pos (by omega)
    rw [pairsTo]
    by_cases hz : k / 2 ^ e % 2 = 0
    · rw [hz, Nat.mul_zero] at hba
      rw [if_pos hba, bflies_snoc, bit_or e (by omega) k (by omega) hz]
      have hkd : k + 2 ^ e < 2 ^ M := by
        have h3 := bit_or e (by omega) k (by omega) hz
        rw [<- h3]
        exact Nat.or_lt_two_pow (by omega) (Nat.pow_lt_pow_right (by omega) he)
      have hdiv : (k + 2 ^ e) / 2 ^ e % 2 = 1 := by
        rw [Nat.add_div_right _ hp]
        generalize k / 2 ^ e = q at hz ⊢
        omega
      have v1 : nth (bflies (pairsTo (2 ^ e) k) l) k = f k := by rw [ih k (by omega)]; unfold part; rw [if_pos hz, if_neg (by omega)]
      have v2 : nth (bflies (pairsTo (2 ^ e) k) l) (k + 2 ^ e) = f (k + 2 ^ e) := by rw [ih _ hkd]; unfold part; rw [if_neg (by omega), if_neg (by omega)]
      unfold bfly
      simp only
      rw [v1, v2]
      have b1 := hb k (by omega)
      have b2 := hb _ hkd
      rw [wrap_small (by omega) (by omega), wrap_small (by omega) (by omega)]
      by_cases e1 : i = k + 2 ^ e
      · subst e1
        rw [nth_set_eq _ _ _ (by rw [List.length_set, hkl]; exact hkd)]
        unfold part
        rw [if_neg (by omega), if_pos (by omega), Nat.add_sub_cancel]
      · rw [nth_set_ne _ _ _ _ (Ne.symm e1)]
        by_cases e2 : i = k
        · subst e2
          rw [nth_set_eq _ _ _ (by rw [hkl]; omega)]
          unfold part
          rw [if_pos hz, if_pos (by omega)]
        · rw [nth_set_ne _ _ _ _ (Ne.symm e2), ih i hi]
          unfold part
          by_cases hi0 : i / 2 ^ e % 2 = 0
          · rw [if_pos hi0, if_pos hi0]
            by_cases h4 : i < k
            · rw [if_pos h4, if_pos (by omega)]
            · rw [if_neg h4, if_neg (by omega)]
          · rw [if_neg hi0, if_neg hi0]
            have h5 := (sub_bit hi0).1
            by_cases h4 : i - 2 ^ e < k
            · rw [if_pos h4, if_pos (by omega)]
            · rw [if_neg h4, if_neg (by omega)]
    · have hne : ¬ k &&& 2 ^ e = 0 := by
        rw [hba]
        intro h0
        rcases Nat.mul_eq_zero.1 h0 with h1 | h1
        · omega
        · exact hz h1
      rw [if_neg hne, ih i hi]
      unfold part
      by_cases hi0 : i / 2 ^ e % 2 = 0
      · rw [if_pos hi0, if_pos hi0]
        have : i ≠ k := by rintro rfl; exact hz hi0
        by_cases h4 : i < k
        · rw [if_pos h4, if_pos (by omega)]
        · rw [if_neg h4, if_neg (by omega)]
      · rw [if_neg hi0, if_neg hi0]
        obtain ⟨h5, h6, h7⟩ := sub_bit hi0
        have : i - 2 ^ e ≠ k := by
          intro h8
          rw [h8] at h7
          apply hz
          rw [h7]
          generalize i / 2 ^ e = q at hi0 ⊢
          omega
        by_cases h4 : i - 2 ^ e < k
        · rw [if_pos h4, if_pos (by omega)]
        · rw [if_neg h4, if_neg (by omega)]
theorem wfn_bd (f : Nat -> Int) (M : Nat) (hM : M <= 8) (B : Int) (_hB : 0 <= B) (hb : ∀ i, i < 2 ^ M -> -B <= f i /\ f i <= B) (e : Nat) (he : e <= M) : ∀ i, i < 2 ^ M -> -(2 ^ e * B) <= wfn f e i /\ wfn f e i <= 2 ^ e * B := by
  have h8 : 2 ^ M <= 256 := Nat.pow_le_pow_right (n := 2) (by omega) hM
  induction e with
  | zero => intro i hi; simpa [wfn] using hb i hi
  | succ e ih =>
    intro i hi
    have ih := ih (by omega)
    have e1 : (2 : Int) ^ (e + 1) * B = 2 ^ e * B + 2 ^ e * B := by rw [Int.pow_succ, Int.mul_right_comm, Int.mul_comm _ 2, Int.two_mul]
    rw [e1, wfn]
    by_cases hz : i / 2 ^ e % 2 = 0
    · rw [if_pos hz]
      have hkd : i + 2 ^ e < 2 ^ M := by
        have h3 := bit_or e (by omega) i (by omega) hz
        rw [<- h3]
        exact Nat.or_lt_two_pow (by omega) (Nat.pow_lt_pow_right (by omega) he)
      have h1 := ih i hi
      have h2 := ih _ hkd
      omega
    · rw [if_neg hz]
      have h1 := ih i hi
      have h2 := ih (i - 2 ^ e) (Nat.lt_of_le_of_lt (Nat.sub_le _ _) hi)
      omega
theorem walTo_wfn (l : List Int) (M : Nat) (hM : M <= 8) (hl : l.length = 2 ^ M) (hb : ∀ i, i < 2 ^ M -> -1000000000 <= nth l i /\ nth l i <= 1000000000) :
    ∀ e, e <= M -> ∀ i, i < 2 ^ M -> nth (walTo l e) i = wfn (nth l) e i := by
  intro e
  induction e with
  | zero => intro _ i _; rfl
  | succ e ih =>
    intro he i hi
    have ih := ih (by omega)
    have hp : 0 < 2 ^ e := Nat.pow_pos (by omega)
    have hbd : ∀ i, i < 2 ^ M -> -1000000000000 <= wfn (nth l) e i /\ wfn (nth l) e i <= 1000000000000 := fun i hi => by
      have h1 := wfn_bd (nth l) M hM 1000000000 (by omega) hb e (by omega) i hi
      have h2 : (2 : Int) ^ e <= 256 := by
        have h3 : e = 0 \/ e = 1 \/ e = 2 \/ e = 3 \/ e = 4 \/ e = 5 \/ e = 6 \/ e = 7 := by omega
        rcases h3 with rfl | rfl | rfl | rfl | rfl | rfl | rfl | rfl <;> decide
      generalize (2 : Int) ^ e = P at h1 h2
      omega
    rw [walTo, hl, bflies_part (walTo l e) e M (wfn (nth l) e) (by omega) hM (by rw [walTo_len, hl]) ih hbd _ (Nat.le_refl _) i hi, wfn]
    unfold part
    by_cases hz : i / 2 ^ e % 2 = 0
    · rw [if_pos hz, if_pos hz, if_pos hi]
    · rw [if_neg hz, if_neg hz, if_pos (by omega)]
def walS (l : List Int) : List Int := (List.range l.length).map fun i => sgSum i (nth l) l.length
theorem walS_len (l : List Int) : (walS l).length = l.length := by simp [walS]
theorem walS_nth (l : List Int) (i : Nat) (h : i < l.length) : nth (walS l) i = sgSum i (nth l) l.length := by simp [walS, nth, h]
theorem ext_nth {a b : List Int} (hl : a.length = b.length) (h : ∀ i, i < a.length -> nth a i = nth b i) : a = b := by
  refine List.ext_getElem hl fun i h1 h2 => ?_
  have := h i h1
  rwa [nth_eq a i h1, nth_eq b i h2] at this
theorem walTo_eq (l : List Int) (M : Nat) (hM : M <= 8) (hl : l.length = 2 ^ M) (hb : ∀ i, i < l.length -> -1000000000 <= nth l i /\ nth l i <= 1000000000) : walTo l M = walS l := by
  have h8 : 2 ^ M <= 256 := Nat.pow_le_pow_right (n := 2) (by omega) hM
  refine ext_nth (by rw [walTo_len, walS_len]) fun i hi => ?_
  rw [walTo_len, hl] at hi
  rw [walTo_wfn l M hM hl (by rw [hl] at hb; exact hb) M (Nat.le_refl _) i hi, walS_nth l i (by omega), wfn_sum _ M hM i (by omega), hl]
  refine sgSum_congr fun t ht => ?_
  rw [Nat.div_eq_of_lt hi, Nat.zero_mul, Nat.zero_add]
def walE (l : List Int) : Int := if powerB l then 0 else 1
def walR (l : List Int) : List Int := if powerB l then walS l else []
theorem ints_set (l : List Int) (j : Nat) (x : Int) : ints (l.set j x) = (ints l).set j (.int .i64 x) := by simp [ints, List.map_set]
end Go.Proofs.YtmijnbjlhnpokaaDoor
