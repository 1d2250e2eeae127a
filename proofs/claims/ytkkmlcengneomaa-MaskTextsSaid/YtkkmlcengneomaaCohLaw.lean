/- The coherence of a mask: the plain law. No condition. -/
import Derived.Test.YtkkmlcengneomaaT5
import Derived.Test.YtkkmlcengneomaaMLaw
set_option linter.unusedVariables false
namespace Go.Proofs.Ytkkmlcengneomaa
open Go Go.RowKit Eng Ls

/-- A fraction in lowest terms. -/
def Lo (b : Int × Int) : Prop := 0 ≤ b.1 ∧ 0 < b.2 ∧ Nat.gcd b.1.toNat b.2.toNat = 1
theorem lo01 : Lo (0, 1) := by unfold Lo; simp
theorem lo_eq {a b : Int × Int} (ha : Lo a) (hb : Lo b) (h : a.1 * b.2 = b.1 * a.2) : a = b := by
  obtain ⟨a1, a2⟩ := a
  obtain ⟨b1, b2⟩ := b
  obtain ⟨h1, h2, h3⟩ := ha
  obtain ⟨k1, k2, k3⟩ := hb
  simp only at *
  obtain ⟨x1, rfl⟩ := Int.eq_ofNat_of_zero_le h1
  obtain ⟨x2, rfl⟩ := Int.eq_ofNat_of_zero_le (Int.le_of_lt h2)
  obtain ⟨y1, rfl⟩ := Int.eq_ofNat_of_zero_le k1
  obtain ⟨y2, rfl⟩ := Int.eq_ofNat_of_zero_le (Int.le_of_lt k2)
  simp only [Int.toNat_natCast] at h3 k3
  have hn : x1 * y2 = y1 * x2 := by exact_mod_cast h
  have d1 : x2 ∣ y2 := Nat.Coprime.dvd_of_dvd_mul_left (show Nat.Coprime x2 x1 by rw [Nat.Coprime, Nat.gcd_comm]; exact h3) ⟨y1, by rw [hn, Nat.mul_comm]⟩
  have d2 : y2 ∣ x2 := Nat.Coprime.dvd_of_dvd_mul_left (show Nat.Coprime y2 y1 by rw [Nat.Coprime, Nat.gcd_comm]; exact k3) ⟨x1, by rw [← hn, Nat.mul_comm]⟩
  have e : x2 = y2 := Nat.dvd_antisymm d1 d2
  subst e
  have hp : 0 < x2 := by omega
  have : x1 = y1 := Nat.eq_of_mul_eq_mul_right hp hn
  rw [this]
theorem likP_lo {a b : List Int} (h : (likP a b).2 = true) : Lo (likP a b).1 := by
  unfold likP at h ⊢
  split at h
  · cases h
  · rename_i h0
    rw [if_neg h0]
    have hp : 0 < likeD a b := by omega
    have hg : 0 < Nat.gcd (likeN a b) (likeD a b) := Nat.gcd_pos_of_pos_right _ hp
    refine ⟨Int.natCast_nonneg _, ?_, ?_⟩
    · unfold ratD
      have : 0 < likeD a b / Nat.gcd (likeN a b) (likeD a b) := Nat.div_pos (Nat.le_of_dvd hp (Nat.gcd_dvd_right _ _)) hg
      exact Int.natCast_pos.2 this
    · unfold ratN ratD
      simp only [Int.toNat_natCast]
      exact Nat.coprime_div_gcd_div_gcd hg
/-- The likeness of a pair of columns. -/
def lk (m : List (List Int)) (q : Nat × Nat) : (Int × Int) × Bool := likP (colA m q.1) (colA m q.2)
structure Best (m : List (List Int)) (l : List (Nat × Nat)) (b : Int × Int) : Prop where
  lo : Lo b
  mem : b = (0, 1) ∨ ∃ q ∈ l, b = (lk m q).1
  all : ∀ q ∈ l, (lk m q).2 = true ∧ (lk m q).1.1 * b.2 ≤ b.1 * (lk m q).1.2
theorem le_chain {r1 r2 b1 b2 q1 q2 : Int} (hr2 : 0 < r2) (hb2 : 0 < b2) (hq2 : 0 < q2) (h1 : r1 * b2 ≤ b1 * r2) (h2 : b1 * q2 < q1 * b2) : r1 * q2 ≤ q1 * r2 := by
  have e1 : r1 * b2 * q2 ≤ b1 * r2 * q2 := Int.mul_le_mul_of_nonneg_right h1 (Int.le_of_lt hq2)
  have e2 : b1 * q2 * r2 ≤ q1 * b2 * r2 := Int.mul_le_mul_of_nonneg_right (Int.le_of_lt h2) (Int.le_of_lt hr2)
  have e3 : b1 * r2 * q2 = b1 * q2 * r2 := by rw [Int.mul_assoc, Int.mul_comm r2 q2, ← Int.mul_assoc]
  have e4 : r1 * b2 * q2 = r1 * q2 * b2 := by rw [Int.mul_assoc, Int.mul_comm b2 q2, ← Int.mul_assoc]
  have e5 : q1 * b2 * r2 = q1 * r2 * b2 := by rw [Int.mul_assoc, Int.mul_comm b2 r2, ← Int.mul_assoc]
  have e6 : r1 * q2 * b2 ≤ q1 * r2 * b2 := by omega
  exact Int.le_of_mul_le_mul_right e6 hb2
theorem cohStep_eq (m : List (List Int)) (b : Int × Int) (q : Nat × Nat) : cohStep m (some b) q = if (lk m q).2 = true then some (if (lk m q).1.1 * b.2 > b.1 * (lk m q).1.2 then (lk m q).1 else b) else none := by
  show (match (lk m q).2 with
    | false => none
    | true => some (if (lk m q).1.1 * b.2 > b.1 * (lk m q).1.2 then (lk m q).1 else b)) = _
  cases (lk m q).2 <;> rfl
theorem best_step {m : List (List Int)} {l : List (Nat × Nat)} {b b' : Int × Int} {q : Nat × Nat} (h : Best m l b) (hs : cohStep m (some b) q = some b') : Best m (l ++ [q]) b' := by
  rw [cohStep_eq] at hs
  split at hs
  · rename_i hq
    have hlo : Lo (lk m q).1 := likP_lo hq
    injection hs with hs
    split at hs
    · rename_i hg
      subst hs
      refine ⟨hlo, .inr ⟨q, by simp, rfl⟩, fun r hr => ?_⟩
      rcases List.mem_append.1 hr with hr | hr
      · obtain ⟨r1, r2⟩ := h.all r hr
        exact ⟨r1, le_chain (likP_lo r1).2.1 h.lo.2.1 hlo.2.1 r2 hg⟩
      · obtain rfl : r = q := by simpa using hr
        exact ⟨hq, Int.le_refl _⟩
    · rename_i hg
      subst hs
      refine ⟨h.lo, h.mem.imp id fun ⟨r, hr, e⟩ => ⟨r, by simp [hr], e⟩, fun r hr => ?_⟩
      rcases List.mem_append.1 hr with hr | hr
      · exact h.all r hr
      · obtain rfl : r = q := by simpa using hr
        exact ⟨hq, by omega⟩
  · cases hs
theorem best_of {m : List (List Int)} : ∀ (r l : List (Nat × Nat)) (b b' : Int × Int), Best m l b → r.foldl (cohStep m) (some b) = some b' → Best m (l ++ r) b'
  | [], l, b, b', h, hs => by
    simp at hs
    subst hs
    simpa using h
  | q :: r, l, b, b', h, hs => by
    rw [List.foldl_cons] at hs
    cases hc : cohStep m (some b) q with
    | none =>
      rw [hc] at hs
      have : ∀ r : List (Nat × Nat), r.foldl (cohStep m) none = none := fun r => by induction r with
        | nil => rfl
        | cons q r ih => exact ih
      rw [this] at hs; cases hs
    | some b1 =>
      rw [hc] at hs
      have := best_of r (l ++ [q]) b1 b' (best_step h hc) hs
      simpa using this
theorem cohF_best {m : List (List Int)} {l : List (Nat × Nat)} {b : Int × Int} (h : cohF m l = some b) : Best m l b := by
  have := best_of l [] (0, 1) b ⟨lo01, .inl rfl, fun q hq => by cases hq⟩ h
  simpa using this
theorem foldl_ok {m : List (List Int)} : ∀ (r : List (Nat × Nat)) (b : Int × Int), (∀ q ∈ r, (lk m q).2 = true) → ∃ b', r.foldl (cohStep m) (some b) = some b'
  | [], b, _ => ⟨b, rfl⟩
  | q :: r, b, h => by
    rw [List.foldl_cons, cohStep_eq, if_pos (h q (by simp))]
    exact foldl_ok r _ fun q' hq' => h q' (by simp [hq'])
theorem best_uniq {m : List (List Int)} {l l' : List (Nat × Nat)} {b b' : Int × Int} (h : Best m l b) (h' : Best m l' b') (hm : ∀ q, q ∈ l ↔ q ∈ l') : b = b' := by
  have one : ∀ {l l' : List (Nat × Nat)} {b b' : Int × Int}, Best m l b → Best m l' b' → (∀ q, q ∈ l → q ∈ l') → b.1 * b'.2 ≤ b'.1 * b.2 := by
    intro l l' b b' h h' hm
    rcases h.mem with rfl | ⟨q, hq, e⟩
    · have := h'.lo.1
      simp only [Int.zero_mul, Int.mul_one]; omega
    · rw [e]
      exact (h'.all q (hm q hq)).2
  refine lo_eq h.lo h'.lo ?_
  have h1 := one h h' fun q => (hm q).1
  have h2 := one h' h fun q => (hm q).2
  omega
theorem mem_prs {p i : Nat} {q : Nat × Nat} : q ∈ prs p i ↔ q.1 < i ∧ q.1 < q.2 ∧ q.2 < p := by
  induction i with
  | zero => simp [prs]
  | succ i ih =>
    rw [prs, List.mem_append, ih]
    obtain ⟨a, b⟩ := q
    simp only [rowP, List.mem_map, List.mem_range, Prod.mk.injEq]
    constructor
    · rintro (h | ⟨d, hd, rfl, rfl⟩)
      · omega
      · omega
    · rintro ⟨h1, h2, h3⟩
      by_cases e : a = i
      · exact .inr ⟨b - (i + 1), by omega, by omega, by omega⟩
      · exact .inl (by omega)
theorem mem_rprs {j : Nat} {q : Nat × Nat} : q ∈ rprs j ↔ q.1 < q.2 ∧ q.2 < j := by
  induction j with
  | zero => simp [rprs]
  | succ j ih =>
    rw [rprs, List.mem_append, ih]
    obtain ⟨a, b⟩ := q
    simp only [rrow, List.mem_map, List.mem_range, Prod.mk.injEq]
    constructor
    · rintro (h | ⟨d, hd, rfl, rfl⟩)
      · omega
      · omega
    · rintro ⟨h1, h2⟩
      by_cases e : b = j
      · exact .inr ⟨a, by omega, rfl, e.symm⟩
      · exact .inl (by omega)
theorem mem_same (m : List (List Int)) (q : Nat × Nat) : q ∈ prsL m ↔ q ∈ rprs (nthL m 0).length := by
  show q ∈ prs (nthL m 0).length (nthL m 0).length ↔ _
  rw [mem_prs, mem_rprs]
  omega
theorem cohK_all (m : List (List Int)) : cohK m (prsL m).length = cohF m (prsL m) := by
  unfold cohK cohF
  rw [List.take_length]
theorem cohF_some {m : List (List Int)} {l : List (Nat × Nat)} : (cohF m l).isNone = false ↔ ∀ q ∈ l, (lk m q).2 = true := by
  constructor
  · intro h q hq
    cases hc : cohF m l with
    | none => rw [hc] at h; cases h
    | some b => exact ((cohF_best hc).all q hq).1
  · intro h
    obtain ⟨b, hb⟩ := foldl_ok l (0, 1) h
    have : cohF m l = some b := hb
    rw [this]; rfl
theorem coh_isNone (m : List (List Int)) : (cohK m (prsL m).length).isNone = (rcL m).isNone := by
  rw [cohK_all]
  unfold rcL
  cases h : (cohF m (prsL m)).isNone with
  | false =>
    have h1 := cohF_some.1 h
    exact (cohF_some.2 fun q hq => h1 q ((mem_same m q).2 hq)).symm
  | true =>
    cases h' : (cohF m (rprs (nthL m 0).length)).isNone with
    | true => rfl
    | false =>
      have h1 := cohF_some.1 h'
      have := cohF_some.2 fun q hq => h1 q ((mem_same m q).1 hq)
      rw [this] at h; cases h
theorem cohE_same (m : List (List Int)) : cohE m = rcE m := by
  unfold cohE rcE
  rw [coh_isNone]
  rfl
theorem coh_some {m : List (List Int)} (h : cohE m = 0) : validB m = true ∧ ∃ b, cohF m (prsL m) = some b ∧ cohR m = b ∧ rcL m = some b := by
  have hv : validB m = true := by
    cases hv : validB m with
    | true => rfl
    | false => simp [cohE, hv] at h
  have hn : (cohF m (prsL m)).isNone = false := by
    unfold cohE at h
    rw [if_neg (by simp [hv])] at h
    split at h
    · cases h
    · split at h
      · cases h
      · rename_i hh
        rw [cohK_all] at hh
        cases hz : (cohF m (prsL m)).isNone with
        | false => rfl
        | true => exact absurd hz hh
  cases hb : cohF m (prsL m) with
  | none => rw [hb] at hn; cases hn
  | some b =>
    have hn' := coh_isNone m
    rw [cohK_all, hb] at hn'
    cases hb' : rcL m with
    | none => rw [hb'] at hn'; cases hn'
    | some b' =>
      have e := best_uniq (cohF_best hb) (cohF_best hb') (mem_same m)
      subst e
      refine ⟨hv, b, rfl, ?_, rfl⟩
      unfold cohR
      rw [if_pos h, cohK_all, hb]
      rfl
theorem cohR_same (m : List (List Int)) : cohR m = rcR m := by
  by_cases h : cohE m = 0
  · obtain ⟨_, b, _, h2, h3⟩ := coh_some h
    unfold rcR
    rw [if_pos (by rw [← cohE_same]; exact h), h3, h2]
    rfl
  · unfold cohR rcR
    rw [if_neg h, if_neg (by rw [← cohE_same]; exact h)]

/-! Cauchy and Schwarz, with equality. -/
def sqs (c d : Int) : List Int → List Int → Int
  | x :: a, y :: b => (c * y - d * x) * (c * y - d * x) + sqs c d a b
  | _, _ => 0
theorem sqs_nonneg (c d : Int) : ∀ a b : List Int, 0 ≤ sqs c d a b
  | [], _ => by simp [sqs]
  | _ :: _, [] => by simp [sqs]
  | x :: a, y :: b => by
    have := sqs_nonneg c d a b
    have := sq_nonneg (c * y - d * x)
    simp only [sqs]; omega
theorem sqs_eq (c d : Int) : ∀ a b : List Int, a.length = b.length → sqs c d a b = c * c * dotI b b - 2 * (c * d * dotI a b) + d * d * dotI a a
  | [], [], _ => by simp [sqs, dotI]
  | x :: a, y :: b, h => by
    have ih := sqs_eq c d a b (by simpa using h)
    simp only [sqs, dotI, ih]
    grind
  | [], _ :: _, h => by simp at h
  | _ :: _, [], h => by simp at h
theorem sqs_zero (c d : Int) : ∀ a b : List Int, a.length = b.length → sqs c d a b = 0 → ∀ i, c * nth b i = d * nth a i
  | [], [], _, _, i => by simp [nth]
  | x :: a, y :: b, h, hz, i => by
    have h1 := sqs_nonneg c d a b
    have h2 := sq_nonneg (c * y - d * x)
    simp only [sqs] at hz
    have h3 : (c * y - d * x) * (c * y - d * x) = 0 := by omega
    cases i with
    | zero =>
      rcases Int.mul_eq_zero.1 h3 with h4 | h4 <;> (show c * y = d * x) <;> omega
    | succ i => exact sqs_zero c d a b (by simpa using h) (by omega) i
  | [], _ :: _, h, _, _ => by simp at h
  | _ :: _, [], h, _, _ => by simp at h
theorem sq_pos_of {x : Int} (h : x ≠ 0) : 0 < x * x := by
  rcases Int.lt_or_gt_of_ne h with h | h
  · exact Int.mul_pos_of_neg_of_neg h h
  · exact Int.mul_pos h h
theorem self_eq : ∀ a b : List Int, a.length = b.length → (∀ i, nth a i * nth a i = nth b i * nth b i) → dotI a a = dotI b b
  | [], [], _, _ => rfl
  | x :: a, y :: b, h, hz => by
    have h0 : x * x = y * y := hz 0
    have ih := self_eq a b (by simpa using h) fun i => hz (i + 1)
    simp only [dotI, h0, ih]
  | [], _ :: _, h, _ => by simp at h
  | _ :: _, [], h, _ => by simp at h
theorem ext_nth {a b : List Int} (h : a.length = b.length) (hz : ∀ i, nth a i = nth b i) : a = b := by
  apply List.ext_getElem h
  intro i h1 h2
  have := hz i
  simpa [nth, h1, h2] using this
theorem nth_opp (b : List Int) (i : Nat) : nth (oppL b) i = -(nth b i) := by
  unfold nth oppL
  simp only [List.getD_eq_getElem?_getD, List.getElem?_map]
  cases b[i]? <;> simp
theorem opp_dot : ∀ a b : List Int, dotI (oppL a) b = -(dotI a b)
  | [], _ => by simp [oppL, dotI]
  | _ :: _, [] => by simp [oppL, dotI]
  | x :: a, y :: b => by
    have ih := opp_dot a b
    show dotI (-x :: oppL a) (y :: b) = _
    simp only [dotI, ih, Int.neg_mul]; omega
theorem cs_of {a b : List Int} (h : a.length = b.length) (hX : 0 < dotI a a) : dotI a b * dotI a b ≤ dotI a a * dotI b b := by
  have h1 := sqs_nonneg (dotI a a) (dotI a b) a b
  rw [sqs_eq _ _ _ _ h] at h1
  have e : dotI a a * dotI a a * dotI b b - 2 * (dotI a a * dotI a b * dotI a b) + dotI a b * dotI a b * dotI a a = dotI a a * (dotI a a * dotI b b - dotI a b * dotI a b) := by grind
  rw [e] at h1
  have := Int.nonneg_of_mul_nonneg_right h1 hX
  omega
theorem cs_eq {a b : List Int} (ha : Sm a) (hb : Sm b) (h : a.length = b.length) (hX : 0 < dotI a a) (hY : 0 < dotI b b) (he : dotI a b * dotI a b = dotI a a * dotI b b) : a = b ∨ a = oppL b := by
  have hz : sqs (dotI a a) (dotI a b) a b = 0 := by
    rw [sqs_eq _ _ _ _ h]
    have e : dotI a a * dotI a a * dotI b b - 2 * (dotI a a * dotI a b * dotI a b) + dotI a b * dotI a b * dotI a a = dotI a a * (dotI a a * dotI b b - dotI a b * dotI a b) := by grind
    rw [e, he, Int.sub_self, Int.mul_zero]
  have hall := sqs_zero _ _ _ _ h hz
  have hs : dotI a b ≠ 0 := fun e => by
    rw [e] at he
    have := Int.mul_pos hX hY
    omega
  have hbd : ∀ {l : List Int}, Sm l → ∀ i, nth l i = -1 ∨ nth l i = 0 ∨ nth l i = 1 := fun {l} hl i => by
    by_cases hi : i < l.length
    · have := hl.bd i hi; omega
    · have e : nth l i = 0 := by simp [nth, List.getElem?_eq_none (by omega : l.length ≤ i)]
      omega
  have hsq : ∀ i, nth a i * nth a i = nth b i * nth b i := fun i => by
    have h1 := hall i
    have ka := hbd ha i
    have kb := hbd hb i
    by_cases ea : nth a i = 0
    · rw [ea, Int.mul_zero] at h1
      have : nth b i = 0 := by
        rcases Int.mul_eq_zero.1 h1 with h2 | h2 <;> omega
      rw [ea, this]
    · have eb : nth b i ≠ 0 := fun e => by
        rw [e, Int.mul_zero] at h1
        rcases Int.mul_eq_zero.1 h1.symm with h2 | h2
        · exact hs h2
        · exact ea h2
      rcases ka with k | k | k <;> rcases kb with k' | k' | k' <;> rw [k, k'] <;> first | rfl | (exfalso; omega)
  have hXY := self_eq a b h hsq
  rw [← hXY] at he
  have hss : (dotI a b - dotI a a) * (dotI a b + dotI a a) = 0 := by grind
  rcases Int.mul_eq_zero.1 hss with h1 | h1
  · have e : dotI a b = dotI a a := by omega
    rw [e] at hall
    exact .inl (ext_nth h fun i => (Int.eq_of_mul_eq_mul_left (by omega) (hall i)).symm)
  · have e : dotI a b = -(dotI a a) := by omega
    refine .inr (ext_nth (by simp [oppL, h]) fun i => ?_)
    have h2 := hall i
    rw [e, Int.neg_mul, ← Int.mul_neg] at h2
    have := Int.eq_of_mul_eq_mul_left (by omega) h2
    rw [nth_opp]; omega
theorem likP_one {a b : List Int} (ha : Sm a) (hb : Sm b) (h : a.length = b.length) (ho : (likP a b).2 = true) : (likP a b).1.1 ≤ (likP a b).1.2 ∧ ((likP a b).1 = (1, 1) ↔ (a = b ∨ a = oppL b)) := by
  have h0 : likeD a b ≠ 0 := fun e => by simp [likP, e] at ho
  have eD := likeD_int a b
  have eN := likeN_int a b
  have hX := dotI_self a
  have hY := dotI_self b
  have hXY : dotI a a * dotI b b ≠ 0 := fun e => by rw [e] at eD; omega
  have hX' : 0 < dotI a a := by
    rcases Int.lt_or_eq_of_le hX with k | k
    · exact k
    · rw [← k, Int.zero_mul] at hXY; exact absurd rfl hXY
  have hY' : 0 < dotI b b := by
    rcases Int.lt_or_eq_of_le hY with k | k
    · exact k
    · rw [← k, Int.mul_zero] at hXY; exact absurd rfl hXY
  have hcs := cs_of h hX'
  rw [← eN, ← eD] at hcs
  have hle : likeN a b ≤ likeD a b := Int.ofNat_le.1 hcs
  have e : likP a b = ((ratN (likeN a b) (likeD a b), ratD (likeN a b) (likeD a b)), true) := by unfold likP; rw [if_neg h0]
  have hg : 0 < Nat.gcd (likeN a b) (likeD a b) := Nat.gcd_pos_of_pos_right _ (by omega)
  have h1 : likeN a b / Nat.gcd (likeN a b) (likeD a b) * Nat.gcd (likeN a b) (likeD a b) = likeN a b := Nat.div_mul_cancel (Nat.gcd_dvd_left _ _)
  have h2 : likeD a b / Nat.gcd (likeN a b) (likeD a b) * Nat.gcd (likeN a b) (likeD a b) = likeD a b := Nat.div_mul_cancel (Nat.gcd_dvd_right _ _)
  rw [e]
  refine ⟨Int.ofNat_le.2 (Nat.div_le_div_right hle), ?_⟩
  have hq : (ratN (likeN a b) (likeD a b), ratD (likeN a b) (likeD a b)) = ((1 : Int), (1 : Int)) ↔ likeN a b = likeD a b := by
    rw [Prod.mk.injEq]
    constructor
    · rintro ⟨k1, k2⟩
      have k1 : likeN a b / Nat.gcd (likeN a b) (likeD a b) = 1 := Int.ofNat.inj k1
      have k2 : likeD a b / Nat.gcd (likeN a b) (likeD a b) = 1 := Int.ofNat.inj k2
      rw [k1] at h1
      rw [k2] at h2
      omega
    · intro k
      have hd : likeD a b / Nat.gcd (likeD a b) (likeD a b) = 1 := by rw [Nat.gcd_self]; exact Nat.div_self (by omega)
      unfold ratN ratD
      rw [k, hd]
      exact ⟨rfl, rfl⟩
  show (ratN (likeN a b) (likeD a b), ratD (likeN a b) (likeD a b)) = (1, 1) ↔ _
  rw [hq]
  constructor
  · intro k
    refine cs_eq ha hb h hX' hY' ?_
    rw [← eN, ← eD, k]
  · intro k
    have : dotI a b * dotI a b = dotI a a * dotI b b := by
      rcases k with rfl | rfl
      · rfl
      · have c1 := opp_dot b (oppL b)
        have c2 := opp_dot b b
        have c3 : dotI b (oppL b) = dotI (oppL b) b := dotI_comm _ _
        rw [c2] at c3
        rw [c1, c3, c2]
        grind
    rw [← eN, ← eD] at this
    exact Int.ofNat.inj this
theorem coh_one {m : List (List Int)} (h : cohE m = 0) : ((cohR m).1 == 1 && (cohR m).2 == 1) = decide (0 < (alkR m).length) := by
  obtain ⟨hv, b, hb, hR, _⟩ := coh_some h
  have hm := IsMask.of hv
  have hB := cohF_best hb
  have hone : ∀ q ∈ prsL m, (lk m q).1.1 ≤ (lk m q).1.2 ∧ ((lk m q).1 = (1, 1) ↔ alk m q = true) := fun q hq => by
    obtain ⟨k, hk⟩ := List.getElem?_of_mem hq
    obtain ⟨p1, p2, p3⟩ := pair_ok hm hk
    obtain ⟨o1, o2⟩ := likP_one p1 p2 p3 (hB.all q hq).1
    refine ⟨o1, o2.trans ?_⟩
    unfold alk
    simp
  have hlen : 0 < (alkR m).length ↔ ∃ q ∈ prsL m, alk m q = true := by
    unfold alkR
    rw [if_pos hv]
    unfold alkL
    rw [List.length_map, List.length_pos_iff_exists_mem]
    simp [List.mem_filter]
  rw [hR]
  have key : b = (1, 1) ↔ 0 < (alkR m).length := by
    rw [hlen]
    constructor
    · intro e
      rcases hB.mem with e2 | ⟨q, hq, e2⟩
      · rw [e2] at e; cases e
      · exact ⟨q, hq, (hone q hq).2.1 (e2.symm.trans e)⟩
    · rintro ⟨q, hq, ha⟩
      have e1 := (hone q hq).2.2 ha
      have h2 := (hB.all q hq).2
      rw [e1] at h2
      simp only [Int.one_mul, Int.mul_one] at h2
      have hlo := hB.lo
      have h3 : b.1 ≤ b.2 := by
        rcases hB.mem with e2 | ⟨r, hr, e2⟩
        · rw [e2]; decide
        · rw [e2]; exact (hone r hr).1
      refine lo_eq hlo ⟨by decide, by decide, by decide⟩ ?_
      simp only [Int.one_mul, Int.mul_one]; omega
  obtain ⟨b1, b2⟩ := b
  by_cases hk : 0 < (alkR m).length
  · have := key.2 hk
    injection this with t1 t2
    subst t1 t2
    simp [hk]
  · have : ¬ ((b1, b2) = ((1 : Int), (1 : Int))) := fun e => hk (key.1 e)
    simp only [Prod.mk.injEq] at this
    simp only [hk, decide_false]
    cases h1 : b1 == 1 <;> cases h2 : b2 == 1 <;> simp at h1 h2 ⊢
    exact this ⟨h1, h2⟩
end Go.Proofs.Ytkkmlcengneomaa
