/- Words of a line, numbers and their texts: plain mathematics of lists of bytes. No program in sight. No condition. -/
import Derived.Lib.SplitLaws
import Derived.Lib.IndexBytes
import Derived.Lib.Join
import Derived.Lib.ItoaLen
import Derived.Lib.AtoiAllCases
import Derived.Lib.Bytealg
set_option linter.unusedVariables false
set_option linter.unusedSimpArgs false
namespace Go.Proofs.YtmijnbjlhnpokaaDoor
open Go Go.Lib
def hdC (b : UInt8) : List (List UInt8) -> List (List UInt8)
  | [] => [[b]]
  | w :: r => (b :: w) :: r
def wrdL : List UInt8 -> List (List UInt8)
  | [] => [[]]
  | b :: l => if b = 32 then [] :: wrdL l else hdC b (wrdL l)
def joiL : List (List UInt8) -> List UInt8
  | [] => []
  | [x] => x
  | x :: y :: r => x ++ 32 :: joiL (y :: r)
theorem wrdL_ne : ∀ l, wrdL l ≠ []
  | [] => by simp [wrdL]
  | b :: l => by
    unfold wrdL
    split
    · simp
    · cases h : wrdL l <;> simp [hdC]
theorem joiL_hdC {b : UInt8} : ∀ {ws}, ws ≠ [] -> joiL (hdC b ws) = b :: joiL ws
  | [], h => absurd rfl h
  | [x], _ => rfl
  | x :: y :: r, _ => rfl
theorem joiL_wrdL : ∀ l, joiL (wrdL l) = l
  | [] => rfl
  | b :: l => by
    have ih := joiL_wrdL l
    have hn := wrdL_ne l
    rw [wrdL]
    by_cases h : b = 32
    · rw [if_pos h]
      obtain ⟨x, r, e⟩ : ∃ x r, wrdL l = x :: r := by cases h : wrdL l with
        | nil => exact absurd h hn
        | cons x r => exact ⟨x, r, rfl⟩
      rw [e] at ih ⊢
      show [] ++ 32 :: joiL (x :: r) = _
      rw [ih, h]
      rfl
    · rw [if_neg h, joiL_hdC hn, ih]
theorem wrdL_app : ∀ {w : List UInt8} {r : List UInt8}, (∀ c ∈ w, c ≠ 32) -> wrdL (w ++ 32 :: r) = w :: wrdL r
  | [], r, _ => by show wrdL (32 :: r) = _; rw [wrdL, if_pos rfl]
  | b :: w, r, h => by
    show wrdL (b :: (w ++ 32 :: r)) = _
    rw [wrdL, if_neg (h b (by simp)), wrdL_app (fun c hc => h c (by simp [hc]))]
    rfl
theorem wrdL_one : ∀ {w : List UInt8}, (∀ c ∈ w, c ≠ 32) -> wrdL w = [w]
  | [], _ => rfl
  | b :: w, h => by
    rw [wrdL, if_neg (h b (by simp)), wrdL_one (fun c hc => h c (by simp [hc]))]
    rfl
theorem wrdL_joiL : ∀ {ws : List (List UInt8)}, ws ≠ [] -> (∀ w ∈ ws, ∀ c ∈ w, c ≠ 32) -> wrdL (joiL ws) = ws
  | [], h, _ => absurd rfl h
  | [x], _, h => wrdL_one (h x (by simp))
  | x :: y :: r, _, h => by
    show wrdL (x ++ 32 :: joiL (y :: r)) = _
    rw [wrdL_app (h x (by simp)), wrdL_joiL (by simp) (fun w hw => h w (by simp only [List.mem_cons] at hw ⊢; exact .inr hw))]
theorem joiL_join : ∀ (ws : List (List UInt8)), Lib.join ws [32] = joiL ws
  | [] => rfl
  | [x] => Lib.join_one x _
  | x :: y :: r => by
    show _ = x ++ 32 :: joiL (y :: r)
    rw [<- joiL_join (y :: r), Lib.join_cons, Lib.join_cons]
    simp [Lib.joinTail]
theorem split_cons (b : UInt8) (l : List UInt8) : Lib.split (b :: l) [32] = if b = 32 then [] :: Lib.split l [32] else hdC b (Lib.split l [32]) := by
  unfold Lib.split
  by_cases h : b = 32
  · subst h
    rw [if_pos rfl, Lib.count_cons_eq, Nat.add_comm, Lib.splitK]
    have hix : Lib.index (32 :: l) [32] = 0 := by rw [Lib.index]; simp [List.isPrefixOf]
    rw [hix, if_neg (by decide)]
    rfl
  · have hix : Lib.index (b :: l) [32] = if Lib.index l [32] == -1 then -1 else Lib.index l [32] + 1 := by
      rw [Lib.index]
      have : ([32] : List UInt8).isPrefixOf (b :: l) = false := by simp [List.isPrefixOf, Ne.symm h]
      rw [this]; simp
    rw [if_neg h, Lib.count_cons_ne b 32 l h]
    by_cases hm : Lib.index l [32] = -1
    · rw [Lib.count_miss hm]; rfl
    · have hge := Lib.index_ge l [32]
      obtain ⟨j, hj⟩ : ∃ j : Nat, Lib.index l [32] = j := ⟨(Lib.index l [32]).toNat, by omega⟩
      rw [Lib.count_hit (by simp) hj, Nat.add_comm, Lib.splitK, Lib.splitK, hix, hj]
      have e1 : ¬ ((j : Int) == -1) = true := fun e => by have := beq_iff_eq.1 e; omega
      have e2 : ¬ (((j : Int) + 1) == -1) = true := fun e => by have := beq_iff_eq.1 e; omega
      rw [if_neg e1, if_neg e2, if_neg e1]
      show _ = (b :: _) :: _
      have e3 : ((j : Int) + 1).toNat = j + 1 := by omega
      rw [e3]
      simp
theorem split_wrdL : ∀ l, Lib.split l [32] = wrdL l
  | [] => rfl
  | b :: l => by rw [split_cons, split_wrdL l, wrdL]
def blB : ByteArray := ⟨#[32]⟩
def splB (s : ByteArray) : List ByteArray := Lib.splitB blB 0 (Lib.countB s blB) s
theorem splB_map (s : ByteArray) : (splB s).map (·.data.toList) = wrdL s.data.toList := by
  unfold splB
  rw [Lib.splitB_data, <- split_wrdL]
  rfl
theorem splB_len (s : ByteArray) : (splB s).length = (wrdL s.data.toList).length := by rw [<- splB_map, List.length_map]
theorem wrdL_len : ∀ l, (wrdL l).length <= l.length + 1
  | [] => Nat.le_refl _
  | b :: l => by
    have := wrdL_len l
    rw [wrdL]
    split
    · simp only [List.length_cons]; omega
    · cases h : wrdL l with
      | nil => simp [hdC]
      | cons x r => rw [h] at this; simp only [hdC, List.length_cons] at this ⊢; omega
theorem splB_le (s : ByteArray) : 1 <= (splB s).length /\ (splB s).length <= s.size + 1 := by
  rw [splB_len]
  have h1 := wrdL_len s.data.toList
  have h2 := wrdL_ne s.data.toList
  refine ⟨List.length_pos_iff.2 h2, ?_⟩
  simpa using h1
theorem wrdL_mem : ∀ (l : List UInt8), ∀ w ∈ wrdL l, w.length <= l.length
  | [], w, h => by simp [wrdL] at h; subst h; exact Nat.le_refl _
  | b :: l, w, h => by
    have ih := wrdL_mem l
    rw [wrdL] at h
    split at h
    · rcases List.mem_cons.1 h with rfl | h
      · exact Nat.zero_le _
      · exact Nat.le_succ_of_le (ih w h)
    · cases he : wrdL l with
      | nil => rw [he] at h; simp [hdC] at h; subst h; simp
      | cons x r =>
        rw [he] at h ih
        rcases List.mem_cons.1 h with rfl | h
        · exact Nat.succ_le_succ (ih x (by simp))
        · exact Nat.le_succ_of_le (ih w (by simp [h]))
theorem splB_mem {s w : ByteArray} (h : w ∈ splB s) : w.size <= s.size := by
  refine wrdL_mem s.data.toList w.data.toList ?_
  rw [<- splB_map]
  exact List.mem_map.2 ⟨w, h, rfl⟩
theorem bytes_ext {a b : ByteArray} (h : a.data.toList = b.data.toList) : a = b := by
  cases a with
  | mk a => cases b with
    | mk b => congr 1; exact Array.toList_inj.1 h
def numL (l : List UInt8) : Int := match Lib.atoiAll l with
  | .ok v => v
  | .syntax => 0
  | .range => Lib.atoiSat l
theorem numL_bd (l : List UInt8) : -9223372036854775808 <= numL l /\ numL l <= 9223372036854775807 := by
  unfold numL
  split
  · rename_i v h; exact Lib.atoiAll_bounds h
  · omega
  · exact Lib.atoiSat_bounds l
theorem decDigits_digit (u : Nat) : ∀ c ∈ Lib.decDigits u, 48 <= c.toNat /\ c.toNat <= 57 := by
  induction u using Nat.strongRecOn with
  | ind u ih =>
    intro c hc
    have key : ∀ d : Nat, d < 10 -> (UInt8.ofNat (48 + d)).toNat = 48 + d := fun d hd => by
      rw [UInt8.toNat_ofNat']; omega
    rw [Lib.decDigits] at hc
    split at hc
    · rename_i h
      simp only [List.mem_singleton] at hc
      subst hc
      rw [key u h]; omega
    · rename_i h
      rcases List.mem_append.1 hc with hc | hc
      · exact ih (u / 10) (by omega) c hc
      · simp only [List.mem_singleton] at hc
        subst hc
        rw [key _ (by omega)]; omega
theorem decDigits_ne (u : Nat) : Lib.decDigits u ≠ [] := by
  rw [Lib.decDigits]
  split <;> simp
theorem parse_dec (u : Nat) : u < 1000000000000000000 -> ∀ r, Lib.parseUint10 0 (Lib.decDigits u ++ r) = Lib.parseUint10 u r := by
  induction u using Nat.strongRecOn with
  | ind u ih =>
    intro hu r
    have key : ∀ d : Nat, d < 10 -> (UInt8.ofNat (48 + d)).toNat = 48 + d := fun d hd => by
      rw [UInt8.toNat_ofNat']; omega
    rw [Lib.decDigits]
    split
    · rename_i h
      show Lib.parseUint10 0 (UInt8.ofNat (48 + u) :: r) = _
      rw [Lib.parseUint10, key u h, if_pos (by omega), if_neg (by omega), if_neg (by omega)]
      congr 1
      omega
    · rename_i h
      rw [List.append_assoc, ih (u / 10) (by omega) (by omega)]
      show Lib.parseUint10 (u / 10) (UInt8.ofNat (48 + u % 10) :: r) = _
      rw [Lib.parseUint10, key _ (by omega), if_pos (by omega), if_neg (by omega), if_neg (by omega)]
      congr 1
      omega
theorem parseMag_dec {u : Nat} (hu : u < 1000000000000000000) : Lib.parseMag (Lib.decDigits u) = .ok u := by
  unfold Lib.parseMag
  rw [if_neg (decDigits_ne u)]
  have := parse_dec u hu []
  rw [List.append_nil] at this
  rw [this]
  rfl
theorem numL_itoa {n : Int} (h0 : -1000000000000 <= n) (h1 : n <= 1000000000000) : numL (Lib.itoa n) = n := by
  unfold Lib.itoa
  by_cases hn : n < 0
  · rw [if_pos hn]
    have e : Lib.atoiAll (45 :: Lib.decDigits n.natAbs) = .ok n := by
      rw [Lib.atoiAll_minus, parseMag_dec (by omega)]
      unfold Lib.signed
      have : ¬ (9223372036854775808 < n.natAbs) := by omega
      simp only [this, if_false]
      congr 1
      omega
    unfold numL
    rw [e]
  · rw [if_neg hn]
    obtain ⟨c, r, hc⟩ : ∃ c r, Lib.decDigits n.toNat = c :: r := by
      cases h : Lib.decDigits n.toNat with
      | nil => exact absurd h (decDigits_ne _)
      | cons c r => exact ⟨c, r, rfl⟩
    have hd := decDigits_digit n.toNat c (by rw [hc]; simp)
    have e : Lib.atoiAll (Lib.decDigits n.toNat) = .ok n := by
      have hp := parseMag_dec (u := n.toNat) (by omega)
      rw [hc] at hp ⊢
      rw [Lib.atoiAll_plain c r (by omega) (by omega), hp]
      unfold Lib.signless
      have : ¬ (9223372036854775808 <= n.toNat) := by omega
      simp only [this, if_false]
      congr 1
      omega
    unfold numL
    rw [e]
theorem itoa_byte (n : Int) : ∀ c ∈ Lib.itoa n, c ≠ 32 /\ c ≠ 10 := by
  intro c hc
  have key : 45 <= c.toNat := by
    unfold Lib.itoa at hc
    split at hc
    · rcases List.mem_cons.1 hc with rfl | hc
      · decide
      · have := decDigits_digit _ c hc; omega
    · have := decDigits_digit _ c hc; omega
  constructor
  · rintro rfl; exact absurd key (by decide)
  · rintro rfl; exact absurd key (by decide)
def worL (l : List Int) : List UInt8 := joiL (l.map Lib.itoa)
theorem mem_joiL : ∀ {ws : List (List UInt8)} {c : UInt8}, c ∈ joiL ws -> c = 32 \/ ∃ w ∈ ws, c ∈ w
  | [], c, h => by cases h
  | [x], c, h => .inr ⟨x, by simp, h⟩
  | x :: y :: r, c, h => by
    have h : c ∈ x ++ 32 :: joiL (y :: r) := h
    rcases List.mem_append.1 h with h | h
    · exact .inr ⟨x, by simp, h⟩
    · rcases List.mem_cons.1 h with h | h
      · exact .inl h
      · rcases mem_joiL h with h | ⟨w, hw, h⟩
        · exact .inl h
        · exact .inr ⟨w, by simp only [List.mem_cons] at hw ⊢; exact .inr hw, h⟩
theorem worL_byte (l : List Int) : ∀ c ∈ worL l, c ≠ 10 := by
  intro c hc
  rcases mem_joiL hc with h | ⟨w, hw, h⟩
  · rw [h]; decide
  · obtain ⟨n, _, rfl⟩ := List.mem_map.1 hw
    exact (itoa_byte n c h).2
theorem words_eq (t : List UInt8) : worL ((wrdL t).map numL) = t ↔ ∀ w ∈ wrdL t, Lib.itoa (numL w) = w := by
  have hne : ((wrdL t).map numL).map Lib.itoa ≠ [] := by simp [wrdL_ne]
  have hb : ∀ w ∈ ((wrdL t).map numL).map Lib.itoa, ∀ c ∈ w, c ≠ 32 := by
    intro w hw c hc
    obtain ⟨n, _, rfl⟩ := List.mem_map.1 hw
    exact (itoa_byte n c hc).1
  constructor
  · intro h w hw
    have h2 := wrdL_joiL hne hb
    have h3 : joiL (((wrdL t).map numL).map Lib.itoa) = t := h
    rw [h3, List.map_map] at h2
    have h4 : (wrdL t).map (Lib.itoa ∘ numL) = (wrdL t).map id := by rw [List.map_id]; exact h2.symm
    exact List.map_inj_left.1 h4 w hw
  · intro h
    have h4 : ((wrdL t).map numL).map Lib.itoa = wrdL t := by
      rw [List.map_map]
      conv => rhs; rw [<- List.map_id (wrdL t)]
      exact List.map_congr_left h
    unfold worL
    rw [h4, joiL_wrdL]
theorem wrdL_worL {l : List Int} (h : l ≠ []) : wrdL (worL l) = l.map Lib.itoa := by
  refine wrdL_joiL (by simpa using h) fun w hw c hc => ?_
  obtain ⟨n, _, rfl⟩ := List.mem_map.1 hw
  exact (itoa_byte n c hc).1
theorem nums_worL {l : List Int} (h : l ≠ []) (hb : ∀ n ∈ l, -1000000 <= n /\ n <= 1000000) : (wrdL (worL l)).map numL = l := by
  rw [wrdL_worL h, List.map_map]
  conv => rhs; rw [<- List.map_id l]
  exact List.map_congr_left fun n hn => numL_itoa (by have := hb n hn; omega) (by have := hb n hn; omega)
theorem joiL_len : ∀ {ws : List (List UInt8)} {B : Nat}, (∀ w ∈ ws, w.length <= B) -> (joiL ws).length <= (B + 1) * ws.length
  | [], B, _ => Nat.le_refl _
  | [x], B, h => by
    have := h x (by simp)
    show x.length <= (B + 1) * 1
    omega
  | x :: y :: r, B, h => by
    have h1 := h x (by simp)
    have h2 := joiL_len (ws := y :: r) (B := B) fun w hw => h w (by simp only [List.mem_cons] at hw ⊢; exact .inr hw)
    show (x ++ 32 :: joiL (y :: r)).length <= (B + 1) * ((y :: r).length + 1)
    rw [Nat.mul_succ, List.length_append, List.length_cons]
    omega
theorem index_first {l r : List UInt8} {c : UInt8} (h : ∀ d ∈ l, d ≠ c) : Lib.indexByte (l ++ c :: r) c = l.length := by
  induction l with
  | nil => show Lib.indexByte (c :: r) c = 0; rw [Lib.indexByte]; simp
  | cons b l ih =>
    have ih := ih fun d hd => h d (by simp [hd])
    show Lib.indexByte (b :: (l ++ c :: r)) c = _
    have hb := h b (by simp)
    rw [Lib.indexByte, ih]
    have e1 : (b == c) = false := by simpa using hb
    have e2 : ¬ ((l.length : Int) == -1) = true := fun e => by have := beq_iff_eq.1 e; omega
    rw [e1, if_neg (by decide), if_neg e2]
    simp
end Go.Proofs.YtmijnbjlhnpokaaDoor
