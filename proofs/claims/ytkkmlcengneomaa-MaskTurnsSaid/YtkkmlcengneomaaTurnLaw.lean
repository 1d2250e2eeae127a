/- Permuted and signed masks: what they read, and their coherence: the plain law. No condition. -/
import Derived.Test.YtkkmlcengneomaaCohLaw
import Derived.Test.YtkkmlcengneomaaD8
set_option linter.unusedVariables false
namespace Go.Proofs.Ytkkmlcengneomaa
open Go Go.RowKit Eng Ls

theorem likP_comm (a b : List Int) : likP a b = likP b a := by
  have e1 : likeN a b = likeN b a := by unfold likeN; rw [dotI_comm a b]
  have e2 : likeD a b = likeD b a := by unfold likeD; rw [Int.mul_comm]
  unfold likP
  rw [e1, e2]
theorem likP_oppl (a b : List Int) : likP (oppL a) b = likP a b := by
  have e1 : likeN (oppL a) b = likeN a b := by unfold likeN; rw [opp_dot, Int.neg_mul_neg]
  have e2 : likeD (oppL a) b = likeD a b := by unfold likeD; rw [opp_dot, dotI_comm a (oppL a), opp_dot, Int.neg_neg]
  unfold likP
  rw [e1, e2]
theorem likP_oppr (a b : List Int) : likP a (oppL b) = likP a b := by rw [likP_comm, likP_oppl, likP_comm]

theorem best_uniq2 {m m' : List (List Int)} {l l' : List (Nat × Nat)} {b b' : Int × Int} (h : Best m l b) (h' : Best m' l' b') (h1 : ∀ q ∈ l, ∃ q' ∈ l', lk m q = lk m' q') (h2 : ∀ q ∈ l', ∃ q' ∈ l, lk m' q = lk m q') : b = b' := by
  have one : ∀ {m m' : List (List Int)} {l l' : List (Nat × Nat)} {b b' : Int × Int}, Best m l b → Best m' l' b' → (∀ q ∈ l, ∃ q' ∈ l', lk m q = lk m' q') → b.1 * b'.2 ≤ b'.1 * b.2 := by
    intro m m' l l' b b' h h' hm
    rcases h.mem with rfl | ⟨q, hq, e⟩
    · have := h'.lo.1
      simp only [Int.zero_mul, Int.mul_one]; omega
    · obtain ⟨q', hq', e'⟩ := hm q hq
      rw [e, e']
      exact (h'.all q' hq').2
  refine lo_eq h.lo h'.lo ?_
  have k1 := one h h' h1
  have k2 := one h' h h2
  omega
theorem coh_of {m m' : List (List Int)} (hv : validB m = true) (hv' : validB m' = true) (hp : (nthL m 0).length = (nthL m' 0).length)
    (h1 : ∀ q ∈ prsL m, ∃ q' ∈ prsL m', lk m q = lk m' q') (h2 : ∀ q ∈ prsL m', ∃ q' ∈ prsL m, lk m' q = lk m q') : cohE m' = cohE m ∧ cohR m' = cohR m := by
  have hn : (cohK m' (prsL m').length).isNone = (cohK m (prsL m).length).isNone := by
    rw [cohK_all, cohK_all]
    cases h : (cohF m (prsL m)).isNone with
    | false =>
      have h3 := cohF_some.1 h
      exact cohF_some.2 fun q hq => by obtain ⟨q', k1, k2⟩ := h2 q hq; rw [k2]; exact h3 q' k1
    | true =>
      cases h' : (cohF m' (prsL m')).isNone with
      | true => rfl
      | false =>
        have h3 := cohF_some.1 h'
        have := cohF_some.2 fun q hq => by obtain ⟨q', k1, k2⟩ := h1 q hq; rw [k2]; exact h3 q' k1
        rw [this] at h; cases h
  have hE : cohE m' = cohE m := by
    unfold cohE
    rw [hn, hv, hv']
    have e : (nthD (.list (.int .i64)) m' 0 : List Int).length = (nthD (.list (.int .i64)) m 0 : List Int).length := hp.symm
    rw [e]
  refine ⟨hE, ?_⟩
  by_cases h : cohE m = 0
  · obtain ⟨_, b, k1, k2, _⟩ := coh_some h
    obtain ⟨_, b', k3, k4, _⟩ := coh_some (hE.trans h)
    rw [k2, k4]
    exact (best_uniq2 (cohF_best k1) (cohF_best k3) h1 h2).symm
  · unfold cohR
    rw [if_neg h, if_neg (by rw [hE]; exact h)]

/-! An order of the numbers below p. -/
theorem nodup_inj {l : List Int} (h : l.Nodup) {i j : Nat} (hi : i < l.length) (hj : j < l.length) (e : l[i] = l[j]) : i = j := by
  rw [List.nodup_iff_pairwise_ne, List.pairwise_iff_getElem] at h
  rcases Nat.lt_trichotomy i j with k | k | k
  · exact absurd e (h i j hi hj k)
  · exact k
  · exact absurd e.symm (h j i hj hi k)
structure Ord (l : List Int) (p : Nat) : Prop where
  nd : l.Nodup
  len : l.length = p
  lo : ∀ j ∈ l, 0 ≤ j ∧ j < p
theorem len_le : ∀ (p : Nat) (l : List Int), l.Nodup → (∀ j ∈ l, 0 ≤ j ∧ j < p) → l.length ≤ p
  | 0, l, _, h => by
    cases l with
    | nil => simp
    | cons a r => have := h a (by simp); omega
  | p + 1, l, hn, h => by
    by_cases hp : (p : Int) ∈ l
    · have h1 := len_le p (l.erase (p : Int)) (hn.erase _) fun j hj => by
        have h2 := h j (List.mem_of_mem_erase hj)
        have h3 : j ≠ p := fun e => by subst e; exact (List.Nodup.not_mem_erase hn) hj
        omega
      rw [List.length_erase_of_mem hp] at h1
      omega
    · have := len_le p l hn fun j hj => by
        have h2 := h j hj
        have h3 : j ≠ p := fun e => by subst e; exact hp hj
        omega
      omega
theorem Ord.mem {l : List Int} {p : Nat} (h : Ord l p) {a : Nat} (ha : a < p) : (a : Int) ∈ l := by
  apply Classical.byContradiction
  intro hn
  have := len_le p ((a : Int) :: l) (List.nodup_cons.2 ⟨hn, h.nd⟩) (fun j hj => by
    rcases List.mem_cons.1 hj with rfl | hj
    · omega
    · exact h.lo j hj)
  simp [h.len] at this
  omega
theorem Ord.at_ {l : List Int} {p : Nat} (h : Ord l p) {a : Nat} (ha : a < p) : ∃ i, i < p ∧ (nth l i).toNat = a := by
  obtain ⟨i, hi, e⟩ := List.getElem_of_mem (h.mem ha)
  exact ⟨i, by rw [← h.len]; exact hi, by rw [nth_eq l i hi, e]; simp⟩
theorem Ord.lt {l : List Int} {p : Nat} (h : Ord l p) {i : Nat} (hi : i < p) : 0 ≤ nth l i ∧ (nth l i).toNat < p := by
  have hi : i < l.length := by rw [h.len]; exact hi
  have := h.lo (nth l i) (by rw [nth_eq l i hi]; exact List.getElem_mem _)
  omega
theorem Ord.inj {l : List Int} {p : Nat} (h : Ord l p) {i j : Nat} (hi : i < p) (hj : j < p) (e : (nth l i).toNat = (nth l j).toNat) : i = j := by
  have h1 := h.lt hi
  have h2 := h.lt hj
  have e : nth l i = nth l j := by omega
  rw [nth_eq l i (by rw [h.len]; exact hi), nth_eq l j (by rw [h.len]; exact hj)] at e
  exact nodup_inj h.nd (by rw [h.len]; exact hi) (by rw [h.len]; exact hj) e

def sumF (f : Nat → Int) (l : List Int) : Int := (l.map fun j => f j.toNat).sum
theorem sumF_erase (f : Nat → Int) (a : Int) : ∀ l : List Int, a ∈ l → sumF f l = f a.toNat + sumF f (l.erase a)
  | [], h => by cases h
  | b :: l, h => by
    by_cases e : b = a
    · subst e; simp [sumF]
    · have h' : a ∈ l := by
        rcases List.mem_cons.1 h with h | h
        · exact absurd h.symm e
        · exact h
      have ih := sumF_erase f a l h'
      rw [List.erase_cons_tail (by simpa using e)]
      unfold sumF at *
      simp only [List.map_cons, List.sum_cons]
      omega
theorem sumF_ord (f : Nat → Int) : ∀ (p : Nat) (l : List Int), Ord l p → sumF f l = ((List.range p).map f).sum
  | 0, l, h => by
    have := h.len
    obtain rfl := List.eq_nil_of_length_eq_zero this
    rfl
  | p + 1, l, h => by
    have hp := h.mem (a := p) (by omega)
    have h1 : Ord (l.erase (p : Int)) p := ⟨h.nd.erase _, by rw [List.length_erase_of_mem hp, h.len]; omega, fun j hj => by
      have h2 := h.lo j (List.mem_of_mem_erase hj)
      have h3 : j ≠ p := fun e => by subst e; exact (List.Nodup.not_mem_erase h.nd) hj
      omega⟩
    rw [sumF_erase f p l hp, sumF_ord f p _ h1, List.range_succ, List.map_append, List.sum_append]
    simp
    omega
theorem dotI_range : ∀ (r x : List Int), r.length = x.length → dotI r x = ((List.range r.length).map fun j => nth r j * nth x j).sum
  | [], x, h => by simp [dotI]
  | a :: r, [], h => by simp at h
  | a :: r, b :: x, h => by
    have ih := dotI_range r x (by simpa using h)
    simp only [dotI, List.length_cons, List.range_succ_eq_map, List.map_cons, List.sum_cons, List.map_map, ih]
    congr 1
theorem dotI_map2 (f g : Int → Int) : ∀ l : List Int, dotI (l.map f) (l.map g) = (l.map fun j => f j * g j).sum
  | [] => rfl
  | a :: l => by simp [dotI, dotI_map2 f g l]
theorem dot_perm {r x l : List Int} {p : Nat} (h : Ord l p) (hr : r.length = p) (hx : x.length = p) : dotI (l.map fun j => nth r j.toNat) (l.map fun j => nth x j.toNat) = dotI r x := by
  rw [dotI_map2, dotI_range r x (by omega), hr]
  exact sumF_ord (fun j => nth r j * nth x j) p l h

theorem valid_of {m : List (List Int)} {p : Nat} (h1 : 1 ≤ m.length) (h2 : m.length ≤ 6) (h3 : 1 ≤ p) (h4 : p ≤ 10) (h : ∀ r ∈ m, r.length = p ∧ ∀ v ∈ r, -1 ≤ v ∧ v ≤ 1) : validB m = true := by
  have h0 : (nthL m 0).length = p := by rw [nthL_eq m 0 (by omega)]; exact (h _ (List.getElem_mem _)).1
  unfold validB
  rw [Bool.and_eq_true, inB_iff]
  refine ⟨by omega, List.all_eq_true.2 fun r hr => ?_⟩
  obtain ⟨k1, k2⟩ := h r hr
  simp only [fitB, rowB, Bool.and_eq_true, decide_eq_true_eq, inB_iff]
  exact ⟨by omega, by omega, List.all_eq_true.2 fun v hv => by rw [inB_iff]; exact k2 v hv⟩
theorem listed_of {m : List (List Int)} {x : List Int} (hv : validB m = true) (hx : x.length = (nthL m 0).length) (hb : ∀ v ∈ x, -1000000 ≤ v ∧ v ≤ 1000000) : shownE m x = 0 := by
  unfold shownE listE listedE
  rw [if_pos hv, if_neg (by omega), if_pos (List.all_eq_true.2 fun v hv => by rw [inB_iff]; exact hb v hv)]
theorem mask_row {m : List (List Int)} (h : IsMask m) {r : List Int} (hr : r ∈ m) : r.length = (nthL m 0).length ∧ ∀ j, j < r.length → -1 ≤ nth r j ∧ nth r j ≤ 1 := by
  obtain ⟨k, hk, rfl⟩ := List.getElem_of_mem hr
  have h1 := h.each k hk
  rw [nthL_eq m k hk] at h1
  refine ⟨h1, fun j hj => ?_⟩
  have := h.small k hk j (by omega)
  rwa [nthL_eq m k hk] at this
theorem wdot_row {r x : List Int} {p : Nat} (hp : p ≤ 10) (hr : r.length = p) (hb : ∀ j, j < r.length → -1 ≤ nth r j ∧ nth r j ≤ 1) (hx : ∀ j, j < x.length → -1000000 ≤ nth x j ∧ nth x j ≤ 1000000) : wdot 0 r x = dotI r x := by
  have := wdot_eq r x 0 (K := 1) (L := 1000000) (by omega) hb hx (by omega) (by omega)
  rw [this]; omega
theorem nthL_map (f : List Int → List Int) (m : List (List Int)) (k : Nat) (hk : k < m.length) : nthL (m.map f) k = f (nthL m k) := by
  rw [nthL_eq _ _ (by simpa using hk), nthL_eq _ _ hk, List.getElem_map]
theorem mem_prsL {m : List (List Int)} {q : Nat × Nat} : q ∈ prsL m ↔ q.1 < q.2 ∧ q.2 < (nthL m 0).length := by
  rw [mem_same, mem_rprs]

/-! ### Permuted -/
theorem perm_ord {m : List (List Int)} {l : List Int} (h : permutedE m l = 0) : Ord l (nthL m 0).length := by
  obtain ⟨h1, h2, h3, h4⟩ := perm_ok h
  obtain ⟨_, h5⟩ := named_mask h3
  exact ⟨h4, h2, fun j hj => by
    obtain ⟨k, hk, rfl⟩ := List.getElem_of_mem hj
    have := h5 k hk
    rwa [nth_eq l k hk] at this⟩
def permX (x l : List Int) : List Int := l.map fun j => nth x j.toNat
theorem pick_valid {m : List (List Int)} {l : List Int} (h : IsMask m) (ho : Ord l (nthL m 0).length) : validB (pickL m l) = true ∧ (nthL (pickL m l) 0).length = (nthL m 0).length := by
  have hr := h.rows1
  have e0 : (nthL (pickL m l) 0).length = (nthL m 0).length := by
    unfold pickL
    rw [nthL_map _ _ _ (by omega), List.length_map, ho.len]
  refine ⟨valid_of (p := (nthL m 0).length) (by rw [pickL_len]; exact h.rows1) (by rw [pickL_len]; exact h.rows6) h.pix1 h.pix10 fun r hr => ?_, e0⟩
  obtain ⟨s, hs, rfl⟩ := List.mem_map.1 hr
  refine ⟨by rw [List.length_map, ho.len], fun v hv => ?_⟩
  obtain ⟨j, hj, rfl⟩ := List.mem_map.1 hv
  obtain ⟨k1, k2⟩ := mask_row h hs
  have := ho.lo j hj
  exact k2 _ (by omega)
theorem permX_shown {m : List (List Int)} {l x : List Int} (h : permutedE m l = 0) (hx : shownE m x = 0) : shownE (pickL m l) (permX x l) = 0 := by
  obtain ⟨hm, hl, hb⟩ := shown_mask hx
  have ho := perm_ord h
  obtain ⟨h1, h2⟩ := pick_valid hm ho
  refine listed_of h1 (by rw [h2, permX, List.length_map, ho.len]) fun v hv => ?_
  obtain ⟨j, hj, rfl⟩ := List.mem_map.1 hv
  have := ho.lo j hj
  exact hb _ (by omega)
theorem permX_read {m : List (List Int)} {l x : List Int} (h : permutedE m l = 0) (hx : shownE m x = 0) : readR (pickL m l) (permX x l) = readR m x := by
  have h0 := permX_shown h hx
  obtain ⟨hm, hl, hb⟩ := shown_mask hx
  have ho := perm_ord h
  unfold readR
  rw [if_pos hx, if_pos h0]
  unfold readL pickL
  rw [List.map_map]
  refine List.map_congr_left fun r hr => ?_
  obtain ⟨k1, k2⟩ := mask_row hm hr
  have hp := hm.pix10
  show wdot 0 (l.map fun j => nth r j.toNat) (permX x l) = wdot 0 r x
  rw [wdot_row hp k1 k2 hb, wdot_row (p := (nthL m 0).length) hp (by rw [List.length_map, ho.len]), permX, dot_perm ho k1 hl]
  · intro j hj
    rw [List.length_map] at hj
    rw [nth_map_of _ _ _ hj]
    have := ho.lo l[j] (List.getElem_mem _)
    exact k2 _ (by omega)
  · intro j hj
    unfold permX at hj ⊢
    rw [List.length_map] at hj
    rw [nth_map_of _ _ _ hj]
    have := ho.lo l[j] (List.getElem_mem _)
    exact hb _ (by omega)
theorem col_pick {m : List (List Int)} {l : List Int} {j : Nat} (hj : j < l.length) : colA (pickL m l) j = colA m (nth l j).toNat := by
  unfold colA pickL
  rw [List.map_map]
  refine List.map_congr_left fun r _ => ?_
  show nth (l.map fun j => nth r j.toNat) j = nth r (nth l j).toNat
  rw [nth_map_of _ _ _ hj, nth_eq l j hj]
theorem perm_coh {m : List (List Int)} {l : List Int} (hm : IsMask m) (hv : validB m = true) (ho : Ord l (nthL m 0).length) : cohE (pickL m l) = cohE m ∧ cohR (pickL m l) = cohR m := by
  obtain ⟨h1, h2⟩ := pick_valid hm ho
  have hl := ho.len
  have lkp : ∀ {i j : Nat}, i < (nthL m 0).length → j < (nthL m 0).length → lk (pickL m l) (i, j) = lk m ((nth l i).toNat, (nth l j).toNat) := fun hi hj => by
    unfold lk
    rw [col_pick (by omega), col_pick (by omega)]
  refine coh_of hv h1 h2.symm ?_ ?_
  · rintro ⟨a, b⟩ hq
    obtain ⟨k1, k2⟩ := mem_prsL.1 hq
    have k1 : a < b := k1
    have k2 : b < (nthL m 0).length := k2
    obtain ⟨i, hi, ei⟩ := ho.at_ (a := a) (by omega)
    obtain ⟨j, hj, ej⟩ := ho.at_ (a := b) k2
    rcases Nat.lt_trichotomy i j with h | h | h
    · refine ⟨(i, j), mem_prsL.2 ⟨h, by rw [h2]; exact hj⟩, ?_⟩
      rw [lkp hi hj, ei, ej]
    · subst h; omega
    · refine ⟨(j, i), mem_prsL.2 ⟨h, by rw [h2]; exact hi⟩, ?_⟩
      rw [lkp hj hi, ei, ej]
      exact likP_comm _ _
  · rintro ⟨i, j⟩ hq
    obtain ⟨k1, k2⟩ := mem_prsL.1 hq
    rw [h2] at k2
    have k1 : i < j := k1
    have k2 : j < (nthL m 0).length := k2
    have hi := ho.lt (i := i) (by omega)
    have hj := ho.lt (i := j) k2
    rw [lkp (by omega) k2]
    rcases Nat.lt_trichotomy (nth l i).toNat (nth l j).toNat with h | h | h
    · exact ⟨_, mem_prsL.2 ⟨h, hj.2⟩, rfl⟩
    · have := ho.inj (i := i) (j := j) (by omega) k2 h; omega
    · exact ⟨((nth l j).toNat, (nth l i).toNat), mem_prsL.2 ⟨h, hi.2⟩, likP_comm _ _⟩

/-! ### Signed -/
theorem sign_ok {m : List (List Int)} {l : List Int} (h : signedE m l = 0) : validB m = true ∧ ascB l = true ∧ ∀ k, k < l.length → 0 ≤ nth l k ∧ nth l k < (nthL m 0).length := by
  unfold signedE at h
  split at h
  · rename_i h1
    split at h
    · rename_i h2
      exact ⟨h1, h2, (named_mask h).2⟩
    · omega
  · omega
theorem sign_valid {m : List (List Int)} (l : List Int) (h : IsMask m) : validB (m.map fun r => signRow r l) = true ∧ (nthL (m.map fun r => signRow r l) 0).length = (nthL m 0).length := by
  have hr := h.rows1
  have e0 : (nthL (m.map fun r => signRow r l) 0).length = (nthL m 0).length := by
    rw [nthL_map _ _ _ (by omega), signRow_len]
  refine ⟨valid_of (p := (nthL m 0).length) (by rw [List.length_map]; exact h.rows1) (by rw [List.length_map]; exact h.rows6) h.pix1 h.pix10 fun r hr => ?_, e0⟩
  obtain ⟨s, hs, rfl⟩ := List.mem_map.1 hr
  obtain ⟨k1, k2⟩ := mask_row h hs
  refine ⟨by rw [signRow_len, k1], fun v hv => ?_⟩
  obtain ⟨j, hj, rfl⟩ := List.mem_map.1 hv
  have := k2 j (List.mem_range.1 hj)
  split <;> omega
theorem sign_shown {m : List (List Int)} {x : List Int} (l : List Int) (hx : shownE m x = 0) : shownE (m.map fun r => signRow r l) (signRow x l) = 0 := by
  obtain ⟨hm, hl, hb⟩ := shown_mask hx
  obtain ⟨h1, h2⟩ := sign_valid l hm
  refine listed_of h1 (by rw [h2, signRow_len, hl]) fun v hv => ?_
  obtain ⟨j, hj, rfl⟩ := List.mem_map.1 hv
  have := hb j (List.mem_range.1 hj)
  split <;> omega
theorem sign_dot (r x l : List Int) (h : r.length = x.length) : dotI (signRow r l) (signRow x l) = dotI r x := by
  rw [dotI_range _ _ (by rw [signRow_len, signRow_len, h]), dotI_range r x h, signRow_len]
  congr 1
  refine List.map_congr_left fun j hj => ?_
  have hj := List.mem_range.1 hj
  rw [signRow_nth _ _ _ hj, signRow_nth _ _ _ (by omega)]
  split
  · exact Int.neg_mul_neg _ _
  · rfl
theorem sign_read {m : List (List Int)} {x : List Int} (l : List Int) (hx : shownE m x = 0) : readR (m.map fun r => signRow r l) (signRow x l) = readR m x := by
  have h0 := sign_shown l hx
  obtain ⟨hm, hl, hb⟩ := shown_mask hx
  unfold readR
  rw [if_pos hx, if_pos h0]
  unfold readL
  rw [List.map_map]
  refine List.map_congr_left fun r hr => ?_
  obtain ⟨k1, k2⟩ := mask_row hm hr
  have hp := hm.pix10
  show wdot 0 (signRow r l) (signRow x l) = wdot 0 r x
  rw [wdot_row hp k1 k2 hb, wdot_row (p := (nthL m 0).length) hp (by rw [signRow_len, k1]), sign_dot r x l (by omega)]
  · intro j hj
    rw [signRow_len] at hj
    have := k2 j hj
    rw [signRow_nth _ _ _ hj]
    split <;> omega
  · intro j hj
    rw [signRow_len] at hj
    have := hb j hj
    rw [signRow_nth _ _ _ hj]
    split <;> omega
theorem col_sign {m : List (List Int)} (hm : IsMask m) {l : List Int} {j : Nat} (hj : j < (nthL m 0).length) : colA (m.map fun r => signRow r l) j = if (j : Int) ∈ l then oppL (colA m j) else colA m j := by
  have e : colA (m.map fun r => signRow r l) j = m.map fun r => if (j : Int) ∈ l then - nth r j else nth r j := by
    unfold colA
    rw [List.map_map]
    refine List.map_congr_left fun r hr => ?_
    exact signRow_nth r l j (by rw [(mask_row hm hr).1]; exact hj)
  rw [e]
  split
  · unfold oppL colA; rw [List.map_map]; rfl
  · rfl
theorem sign_coh {m : List (List Int)} (l : List Int) (hm : IsMask m) (hv : validB m = true) : cohE (m.map fun r => signRow r l) = cohE m ∧ cohR (m.map fun r => signRow r l) = cohR m := by
  obtain ⟨h1, h2⟩ := sign_valid l hm
  have lks : ∀ {q : Nat × Nat}, q.1 < q.2 → q.2 < (nthL m 0).length → lk (m.map fun r => signRow r l) q = lk m q := fun {q} h h' => by
    unfold lk
    rw [col_sign hm (by omega), col_sign hm h']
    split <;> split <;> simp only [likP_oppl, likP_oppr]
  refine coh_of hv h1 h2.symm ?_ ?_
  · intro q hq
    obtain ⟨k1, k2⟩ := mem_prsL.1 hq
    exact ⟨q, mem_prsL.2 ⟨k1, by rw [h2]; exact k2⟩, (lks k1 k2).symm⟩
  · intro q hq
    obtain ⟨k1, k2⟩ := mem_prsL.1 hq
    rw [h2] at k2
    exact ⟨q, mem_prsL.2 ⟨k1, k2⟩, lks k1 k2⟩
/-- The picture with the signs turned, one after another. -/
theorem sign_set {l : List Int} (ha : ascB l = true) : l.Nodup := by
  have h := ascB_iff.1 ha
  have mono : ∀ d i : Nat, i + d + 1 < l.length → nth l i < nth l (i + d + 1) := by
    intro d
    induction d with
    | zero => intro i hi; have := h (i + 1) hi (by omega); simpa using this
    | succ d ih =>
      intro i hi
      have h1 := ih i (by omega)
      have h2 := h (i + (d + 1) + 1) hi (by omega)
      have e : i + (d + 1) + 1 - 1 = i + d + 1 := by omega
      rw [e] at h2
      omega
  rw [List.nodup_iff_pairwise_ne, List.pairwise_iff_getElem]
  intro i j hi hj hij
  have := mono (j - i - 1) i (by omega)
  rw [show i + (j - i - 1) + 1 = j by omega, nth_eq _ _ hi, nth_eq _ _ hj] at this
  omega
theorem sign_snoc' (x l : List Int) (v : Int) (hv : v ∉ l) (h0 : 0 ≤ v) : (signRow x l).set v.toNat (- nth (signRow x l) v.toNat) = signRow x (l ++ [v]) := by
  obtain ⟨u, rfl⟩ := Int.eq_ofNat_of_zero_le h0
  rw [signRow_snoc, Int.toNat_natCast]
  by_cases hu : u < x.length
  · rw [signRow_nth _ _ _ hu, if_neg (by simpa using hv)]
  · rw [List.set_eq_of_length_le (by rw [signRow_len]; omega), List.set_eq_of_length_le (by rw [signRow_len]; omega)]
end Go.Proofs.Ytkkmlcengneomaa
