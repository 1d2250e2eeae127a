/- The text of a picture, written and read: plain mathematics. No condition. -/
import Derived.Test.YtmijnbjlhnpokaaDoorY1
set_option linter.unusedVariables false
set_option linter.unusedSimpArgs false
namespace Go.Proofs.YtmijnbjlhnpokaaDoor
open Go Go.RowKit Eng Ls
def restAt (s : ByteArray) : Nat -> ByteArray
  | 0 => s
  | j + 1 => (cutR (restAt s j)).2.1
def lineAt (s : ByteArray) (j : Nat) : ByteArray := (cutR (restAt s j)).1
def endAt (s : ByteArray) (j : Nat) : Bool := (cutR (restAt s j)).2.2
def wrdAt (s : ByteArray) (j : Nat) : List ByteArray := splB (lineAt s j)
def numAt (s : ByteArray) (j : Nat) : List Int := (wrdAt s j).map numB
def pixAt (s : ByteArray) : Nat -> List Int
  | 0 => []
  | j + 1 => pixAt s j ++ numAt s j
def wideAt (s : ByteArray) : Int := ((wrdAt s 0).length : Int)
def goodW (w : ByteArray) : Bool := decide (itB (numB w) = w)
def okAt (s : ByteArray) (j : Nat) : Bool := endAt s j && decide (((wrdAt s j).length : Int) = wideAt s) && (wrdAt s j).all goodW && validP (wideAt s) ((j : Int) + 1) (pixAt s (j + 1))
def prsT (s : ByteArray) : Nat -> Nat -> (Int × Int × List Int) × Int × Int
  | 0, j => ((0, 0, []), 0, 0)
  | f + 1, j => if j = 0 \/ restAt s j ≠ ⟨#[]⟩ then (if okAt s j = true then prsT s f (j + 1) else ((0, 0, []), (j : Int), 2)) else ((wideAt s, (j : Int), pixAt s j), 0, 0)
def parR (s : ByteArray) : (Int × Int × List Int) × Int × Int := if 65536 < s.size then ((0, 0, []), 0, 3) else prsT s 18 0
theorem cut_size (s : ByteArray) : (cutR s).1.size <= s.size /\ (cutR s).2.1.size <= s.size := by
  unfold cutR
  split
  · constructor <;> (rw [ByteArray.size_extract]; omega)
  · exact ⟨Nat.le_refl _, Nat.zero_le _⟩
theorem restAt_size (s : ByteArray) (j : Nat) : (restAt s j).size <= s.size := by
  induction j with
  | zero => exact Nat.le_refl _
  | succ j ih => exact Nat.le_trans (cut_size _).2 ih
theorem lineAt_size (s : ByteArray) (j : Nat) : (lineAt s j).size <= s.size := Nat.le_trans (cut_size _).1 (restAt_size s j)
theorem wrdAt_le (s : ByteArray) (j : Nat) : 1 <= (wrdAt s j).length /\ (wrdAt s j).length <= s.size + 1 := by
  have h1 := splB_le (lineAt s j)
  have h2 := lineAt_size s j
  exact ⟨h1.1, Nat.le_trans h1.2 (by omega)⟩
theorem numAt_len (s : ByteArray) (j : Nat) : (numAt s j).length = (wrdAt s j).length := List.length_map _
structure ParI (s : ByteArray) (j : Nat) : Prop where
  le : j <= 16
  ok : j = 0 \/ okAt s (j - 1) = true
  eq : prsT s 18 0 = prsT s (18 - j) j
theorem ParI.zero (s : ByteArray) : ParI s 0 := ⟨by omega, .inl rfl, rfl⟩
theorem okAt_valid {s : ByteArray} {j : Nat} (h : okAt s j = true) : validP (wideAt s) ((j : Int) + 1) (pixAt s (j + 1)) = true := by
  unfold okAt at h
  simp only [Bool.and_eq_true] at h
  exact h.2
theorem ParI.valid {s : ByteArray} {j : Nat} (h : ParI s j) (hj : j ≠ 0) : validP (wideAt s) (j : Int) (pixAt s j) = true := by
  rcases h.ok with h1 | h1
  · exact absurd h1 hj
  · have := okAt_valid h1
    rw [show j - 1 + 1 = j by omega, show ((j - 1 : Nat) : Int) + 1 = (j : Int) by omega] at this
    exact this
theorem ParI.pix {s : ByteArray} {j : Nat} (h : ParI s j) : (pixAt s j).length <= 256 := by
  by_cases hj : j = 0
  · subst hj; exact Nat.zero_le _
  · obtain ⟨a, b, hp⟩ := IsPic.of (h.valid hj)
    exact hp.le
theorem ParI.step {s : ByteArray} {j : Nat} (h : ParI s j) (hc : j = 0 \/ restAt s j ≠ ⟨#[]⟩) : prsT s 18 0 = if okAt s j = true then prsT s (18 - (j + 1)) (j + 1) else ((0, 0, []), (j : Int), 2) := by
  have := h.le
  rw [h.eq, show 18 - j = (18 - (j + 1)) + 1 by omega, prsT, if_pos hc]
theorem ParI.next {s : ByteArray} {j : Nat} (h : ParI s j) (hc : j = 0 \/ restAt s j ≠ ⟨#[]⟩) (ho : okAt s j = true) : ParI s (j + 1) := by
  have hv := okAt_valid ho
  rw [validP_iff] at hv
  exact ⟨by omega, .inr ho, by rw [h.step hc, if_pos ho]⟩
theorem ParI.fail {s : ByteArray} {j : Nat} (h : ParI s j) (hs : ¬ 65536 < s.size) (hc : j = 0 \/ restAt s j ≠ ⟨#[]⟩) (ho : okAt s j = false) : parR s = ((0, 0, []), (j : Int), 2) := by
  unfold parR
  rw [if_neg hs, h.step hc, if_neg (by rw [ho]; decide)]
theorem ParI.done {s : ByteArray} {j : Nat} (h : ParI s j) (hs : ¬ 65536 < s.size) (hj : j ≠ 0) (hc : restAt s j = ⟨#[]⟩) : parR s = ((wideAt s, (j : Int), pixAt s j), 0, 0) := by
  have := h.le
  unfold parR
  rw [if_neg hs, h.eq, show 18 - j = (18 - (j + 1)) + 1 by omega, prsT, if_neg]
  rintro (h | h)
  · exact hj h
  · exact h hc
def worB (l : List Int) : ByteArray := joiB (l.map itB) blB
theorem joiB_list (xs : List ByteArray) : (joiB xs blB).data.toList = joiL (xs.map (·.data.toList)) := by
  rw [<- joiL_join]; rfl
theorem worB_list (l : List Int) : (worB l).data.toList = worL l := by
  unfold worB worL
  rw [joiB_list, List.map_map]
  rfl
theorem size_list (s : ByteArray) : s.size = s.data.toList.length := rfl
theorem worB_size {l : List Int} (h : ∀ n ∈ l, -9223372036854775808 <= n /\ n <= 9223372036854775807) : (worB l).size <= 22 * l.length := by
  rw [size_list, worB_list]
  have := joiL_len (ws := l.map Lib.itoa) (B := 21) fun w hw => by
    obtain ⟨n, hn, rfl⟩ := List.mem_map.1 hw
    exact Lib.itoa_length_le n (h n hn).1 (h n hn).2
  rwa [List.length_map] at this
theorem goodW_iff (w : ByteArray) : goodW w = true ↔ Lib.itoa (numL w.data.toList) = w.data.toList := by
  unfold goodW
  rw [decide_eq_true_iff]
  constructor
  · intro h
    have := congrArg (fun b : ByteArray => b.data.toList) h
    exact this
  · intro h
    exact bytes_ext h
theorem wrd_list (s : ByteArray) : (splB s).map numB = (wrdL s.data.toList).map numL := by
  rw [<- splB_map, List.map_map]
  rfl
theorem worB_line (s : ByteArray) (j : Nat) : worB (numAt s j) = lineAt s j ↔ (wrdAt s j).all goodW = true := by
  have h1 := words_eq (lineAt s j).data.toList
  have h2 : worB (numAt s j) = lineAt s j ↔ worL ((wrdL (lineAt s j).data.toList).map numL) = (lineAt s j).data.toList := by
    unfold numAt wrdAt
    rw [wrd_list, <- worB_list]
    exact ⟨fun h => by rw [h], bytes_ext⟩
  rw [h2, h1, List.all_eq_true, <- splB_map]
  constructor
  · intro h w hw
    exact (goodW_iff w).2 (h _ (List.mem_map.2 ⟨w, hw, rfl⟩))
  · intro h w hw
    obtain ⟨v, hv, rfl⟩ := List.mem_map.1 hw
    exact (goodW_iff v).1 (h v hv)
theorem bnd_append {B : Int} (a b : List Int) : bndB B (a ++ b) = (bndB B a && bndB B b) := by
  unfold bndB
  exact List.all_append
theorem okAt_ref {s : ByteArray} {j : Nat} (h : ParI s j) : okAt s j = true ↔ endAt s j = true /\ j ≠ 16 /\ worB (numAt s j) = lineAt s j /\ (numAt s j).length <= 16 /\ (0 < j -> ((numAt s j).length : Int) = wideAt s) /\ bndB 1000000 (numAt s j) = true := by
  have hw := wrdAt_le s j
  have hle := h.le
  unfold okAt
  simp only [Bool.and_eq_true, decide_eq_true_iff, <- worB_line, numAt_len]
  rw [validP_iff, pixAt, bnd_append, Bool.and_eq_true, List.length_append, numAt_len]
  constructor
  · rintro ⟨⟨⟨h1, h2⟩, h3⟩, ⟨h4, h5⟩, ⟨h6, h7⟩, h8, h9, h10⟩
    exact ⟨h1, by omega, h3, by omega, fun _ => h2, h10⟩
  · rintro ⟨h1, h2, h3, h4, h5, h6⟩
    by_cases hj : j = 0
    · subst hj
      have e : wideAt s = ((wrdAt s 0).length : Int) := rfl
      rw [e]
      refine ⟨⟨⟨h1, rfl⟩, h3⟩, ⟨by omega, by omega⟩, ⟨by omega, by omega⟩, ?_, rfl, h6⟩
      show (((pixAt s 0).length + _ : Nat) : Int) = _
      simp [pixAt]
    · have hv := h.valid hj
      rw [validP_iff] at hv
      obtain ⟨v1, v2, v3, v4⟩ := hv
      have e := h5 (by omega)
      refine ⟨⟨⟨h1, e⟩, h3⟩, v1, ⟨by omega, by omega⟩, ?_, v4, h6⟩
      rw [Int.natCast_add, v3, e, Int.mul_add, Int.mul_one]
def sepB (a i : Nat) : ByteArray := if (i + 1) % a = 0 then ⟨#[10]⟩ else ⟨#[32]⟩
def fmtTo (a : Nat) (l : List Int) : Nat -> ByteArray
  | 0 => ⟨#[]⟩
  | k + 1 => fmtTo a l k ++ (itB (nth l k) ++ sepB a k)
def rowOf (a : Nat) (l : List Int) (y : Nat) : List Int := (l.drop (a * y)).take a
def fmtR (a : Nat) (l : List Int) : Nat -> ByteArray
  | 0 => ⟨#[]⟩
  | y + 1 => fmtR a l y ++ (worB (rowOf a l y) ++ ⟨#[10]⟩)
def fmtB (W H : Int) (l : List Int) : ByteArray := if validP W H l = true then fmtTo W.toNat l l.length else ⟨#[]⟩
theorem sepB_size (a i : Nat) : (sepB a i).size = 1 := by unfold sepB; split <;> rfl
theorem fmtTo_size (a : Nat) {l : List Int} (h : ∀ i, -1000000 <= nth l i /\ nth l i <= 1000000) (k : Nat) : (fmtTo a l k).size <= 22 * k := by
  induction k with
  | zero => exact Nat.le_refl _
  | succ k ih =>
    have h1 := h k
    have h2 := itB_size (n := nth l k) (by omega) (by omega)
    rw [fmtTo, ByteArray.size_append, ByteArray.size_append, sepB_size]
    omega
theorem app_list (a b : ByteArray) : (a ++ b).data.toList = a.data.toList ++ b.data.toList := by simp
theorem joiL_snoc : ∀ {ws : List (List UInt8)} {x : List UInt8}, ws ≠ [] -> joiL (ws ++ [x]) = joiL ws ++ 32 :: x
  | [], _, h => absurd rfl h
  | [w], x, _ => rfl
  | w :: y :: r, x, _ => by
    show w ++ 32 :: joiL (y :: r ++ [x]) = (w ++ 32 :: joiL (y :: r)) ++ 32 :: x
    rw [joiL_snoc (by simp)]
    simp
theorem row_part {a : Nat} {l : List Int} {y : Nat} (ha : 1 <= a) (hl : a * y + a <= l.length) : ∀ t, t <= a -> 1 <= t -> (fmtTo a l (a * y + t)).data.toList = (fmtTo a l (a * y)).data.toList ++ (joiL (((l.drop (a * y)).take t).map Lib.itoa) ++ [if t = a then 10 else 32])
  | 0, _, h => absurd h (by omega)
  | t + 1, ht, _ => by
    have hi : a * y + t < l.length := by omega
    have hsep : (sepB a (a * y + t)).data.toList = [if t + 1 = a then 10 else 32] := by
      unfold sepB
      rw [show a * y + t + 1 = t + 1 + a * y by omega, Nat.add_mul_mod_self_left]
      by_cases h : t + 1 = a
      · rw [h, Nat.mod_self, if_pos rfl, if_pos rfl]
      · rw [Nat.mod_eq_of_lt (by omega), if_neg (by omega), if_neg h]
    have htk : (l.drop (a * y)).take (t + 1) = (l.drop (a * y)).take t ++ [nth l (a * y + t)] := by
      rw [List.take_succ_eq_append_getElem (by rw [List.length_drop]; omega), List.getElem_drop]
      congr 2
      simp [nth, hi]
    have hstep : (fmtTo a l (a * y + (t + 1))).data.toList = (fmtTo a l (a * y + t)).data.toList ++ (Lib.itoa (nth l (a * y + t)) ++ [if t + 1 = a then 10 else 32]) := by
      rw [show a * y + (t + 1) = a * y + t + 1 by omega, fmtTo, app_list, app_list, hsep]
      rfl
    rw [hstep, htk, List.map_append]
    by_cases h0 : t = 0
    · subst h0
      simp [joiL]
    · rw [row_part ha hl t (by omega) (by omega), if_neg (show ¬ t = a by omega)]
      have hne : ((l.drop (a * y)).take t).map Lib.itoa ≠ [] := by
        have : ((l.drop (a * y)).take t).length = t := by rw [List.length_take, List.length_drop]; omega
        intro h
        have h2 := congrArg List.length h
        rw [List.length_map, this] at h2
        exact h0 h2
      rw [show List.map Lib.itoa [nth l (a * y + t)] = [Lib.itoa (nth l (a * y + t))] from rfl, joiL_snoc hne]
      simp
theorem fmt_row {a : Nat} {l : List Int} (ha : 1 <= a) : ∀ y, a * y <= l.length -> fmtTo a l (a * y) = fmtR a l y
  | 0, _ => rfl
  | y + 1, h => by
    have h' : a * y + a <= l.length := by rw [Nat.mul_succ] at h; exact h
    refine bytes_ext ?_
    rw [Nat.mul_succ, row_part ha h' a (Nat.le_refl _) ha, fmt_row ha y (by omega), fmtR, app_list, app_list, worB_list, if_pos rfl]
    rfl
def txtL (a : Nat) : Nat -> List Int -> List UInt8
  | 0, _ => []
  | m + 1, n => worL (n.take a) ++ 10 :: txtL a m (n.drop a)
theorem txt_fmt (a : Nat) (l : List Int) : ∀ m y, (fmtR a l y).data.toList ++ txtL a m (l.drop (a * y)) = (fmtR a l (y + m)).data.toList
  | 0, y => by simp [txtL]
  | m + 1, y => by
    have e : (l.drop (a * y)).drop a = l.drop (a * (y + 1)) := by rw [List.drop_drop, Nat.mul_succ]
    rw [txtL, e, show y + (m + 1) = y + 1 + m by omega, <- txt_fmt a l m (y + 1), fmtR, app_list, app_list, worB_list]
    show _ = _ ++ (worL (rowOf a l y) ++ [10]) ++ _
    unfold rowOf
    simp
theorem cut_txt {s : ByteArray} {x r : List UInt8} (h : s.data.toList = x ++ 10 :: r) (hx : ∀ c ∈ x, c ≠ 10) : (cutR s).1.data.toList = x /\ (cutR s).2.1.data.toList = r /\ (cutR s).2.2 = true := by
  have hi : ixB s 10 = x.length := by
    unfold ixB
    rw [h]
    exact index_first hx
  have hz : s.size = x.length + 1 + r.length := by rw [size_list, h]; simp; omega
  unfold cutR
  rw [if_pos (by omega), hi]
  refine ⟨?_, ?_, rfl⟩
  · rw [Lib.extract_from_zero, h, Int.toNat_natCast]
    simp
  · rw [Lib.extract_to_end, h, Int.toNat_natCast]
    simp
theorem rest_txt {a b : Nat} {l : List Int} {s : ByteArray} (hs : s.data.toList = txtL a b l) : ∀ j, j <= b -> (restAt s j).data.toList = txtL a (b - j) (l.drop (a * j))
  | 0, _ => by rw [Nat.sub_zero, Nat.mul_zero]; exact hs
  | j + 1, h => by
    have ih := rest_txt hs j (by omega)
    rw [show b - j = (b - (j + 1)) + 1 by omega, txtL] at ih
    have := (cut_txt ih (worL_byte _)).2.1
    rw [restAt, this, List.drop_drop, Nat.mul_succ]
theorem read_back {W H : Int} {l : List Int} (hv : validP W H l = true) : parR (fmtB W H l) = ((W, H, l), 0, 0) := by
  have hb0 : bndB 1000000 l = true := (validP_iff.1 hv).2.2.2
  obtain ⟨a, b, hp⟩ := IsPic.of hv
  obtain ⟨rfl, rfl, ha1, ha2, hb1, hb2, hn, hn2, hbd⟩ := hp
  have hsm : ∀ i, -1000000 <= nth l i /\ nth l i <= 1000000 := fun i => by
    by_cases hi : i < l.length
    · exact hbd i hi
    · have : nth l i = 0 := by simp [nth, List.getElem?_eq_none (Nat.le_of_not_lt hi)]
      rw [this]; omega
  obtain ⟨s, hs⟩ : ∃ s, s = fmtB (a : Int) (b : Int) l := ⟨_, rfl⟩
  rw [<- hs]
  have hs1 : s = fmtR a l b := by
    rw [hs]
    unfold fmtB
    rw [if_pos hv, Int.toNat_natCast, hn, fmt_row ha1 b (by omega)]
  have hz : ¬ 65536 < s.size := by
    rw [hs]
    unfold fmtB
    rw [if_pos hv]
    have := fmtTo_size (a : Int).toNat hsm l.length
    omega
  have ht : s.data.toList = txtL a b l := by
    have := txt_fmt a l b 0
    rw [Nat.mul_zero, Nat.zero_add] at this
    rw [hs1, <- this]
    rfl
  have hrest := rest_txt ht
  have hrow : ∀ j, j < b -> (l.drop (a * j)).take a ≠ [] /\ ((l.drop (a * j)).take a).length = a := fun j hj => by
    have h1 : a * (j + 1) <= a * b := Nat.mul_le_mul_left a hj
    rw [Nat.mul_succ] at h1
    have : ((l.drop (a * j)).take a).length = a := by rw [List.length_take, List.length_drop]; omega
    exact ⟨fun h => by rw [h] at this; simp at this; omega, this⟩
  have hcut : ∀ j, j < b -> (lineAt s j).data.toList = worL ((l.drop (a * j)).take a) /\ endAt s j = true := fun j hj => by
    have h1 := hrest j (by omega)
    rw [show b - j = (b - (j + 1)) + 1 by omega, txtL] at h1
    have := cut_txt h1 (worL_byte _)
    exact ⟨this.1, this.2.2⟩
  have hmem : ∀ j, ∀ n ∈ (l.drop (a * j)).take a, -1000000 <= n /\ n <= 1000000 := fun j n hn => by
    have h1 : n ∈ l := List.mem_of_mem_drop (List.mem_of_mem_take hn)
    have := List.all_eq_true.1 hb0 n h1
    rw [inB_iff] at this
    exact this
  have hnum : ∀ j, j < b -> numAt s j = (l.drop (a * j)).take a := fun j hj => by
    unfold numAt wrdAt
    rw [wrd_list, (hcut j hj).1]
    exact nums_worL (hrow j hj).1 (hmem j)
  have hlen : ∀ j, j < b -> (wrdAt s j).length = a := fun j hj => by rw [<- numAt_len, hnum j hj, (hrow j hj).2]
  have hw : wideAt s = (a : Int) := by unfold wideAt; rw [hlen 0 (by omega)]
  have hpix : ∀ j, j <= b -> pixAt s j = l.take (a * j) := fun j => by
    induction j with
    | zero => intro _; rw [Nat.mul_zero]; rfl
    | succ j ih =>
      intro hj
      rw [pixAt, ih (by omega), hnum j (by omega), Nat.mul_succ, List.take_add]
  have hok : ∀ j, j < b -> okAt s j = true := fun j hj => by
    have h1 : a * (j + 1) <= a * b := Nat.mul_le_mul_left a hj
    unfold okAt
    simp only [Bool.and_eq_true, decide_eq_true_iff, <- worB_line]
    refine ⟨⟨⟨(hcut j hj).2, by rw [hlen j hj, hw]⟩, ?_⟩, ?_⟩
    · refine bytes_ext ?_
      rw [worB_list, (hcut j hj).1, hnum j hj]
    · rw [hw, hpix (j + 1) hj, validP_iff]
      refine ⟨⟨by omega, by omega⟩, ⟨by omega, by omega⟩, ?_, ?_⟩
      · rw [List.length_take, hn, Nat.min_eq_left h1]
        simp
      · unfold bndB
        rw [List.all_eq_true]
        intro n hn
        exact List.all_eq_true.1 hb0 n (List.mem_of_mem_take hn)
  have hne : ∀ j, j < b -> restAt s j ≠ ⟨#[]⟩ := fun j hj h => by
    have h1 := hrest j (by omega)
    rw [show b - j = (b - (j + 1)) + 1 by omega, txtL, h] at h1
    have h2 := congrArg List.length h1
    simp at h2
  have hI : ∀ j, j <= b -> ParI s j := fun j => by
    induction j with
    | zero => intro _; exact ParI.zero s
    | succ j ih => intro hj; exact (ih (by omega)).next (.inr (hne j hj)) (hok j hj)
  have hend : restAt s b = ⟨#[]⟩ := by
    refine bytes_ext ?_
    rw [hrest b (Nat.le_refl _), Nat.sub_self]
    rfl
  rw [(hI b (Nat.le_refl _)).done hz (by omega) hend, hw, hpix b (Nat.le_refl _), <- hn, List.take_length]
end Go.Proofs.YtmijnbjlhnpokaaDoor
