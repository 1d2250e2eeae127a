/- The program's Parse of a mask's text, by the engine. No condition. -/
import Derived.Test.YtkkmlcengneomaaU4

set_option linter.unusedVariables false
set_option linter.unusedSimpArgs false
namespace Go.Proofs.Ytkkmlcengneomaa
open Go Go.RowKit Eng Ls

/-- Where the rune 'k' of a text begins; the numbers of those before it. -/
def posAt (t : ByteArray) : Nat → Nat
  | 0 => 0
  | k + 1 => posAt t k + (Utf8.decode t (posAt t k)).2
def runTo (t : ByteArray) : Nat → List Int
  | 0 => []
  | k + 1 => runTo t k ++ [irR (Utf8.decode t (posAt t k)).1 - 1]
def lineOf (s : ByteArray) (j : Nat) : ByteArray := (cutR (restAt s j)).1
def ivPP (s : ByteArray) : Nat → Option Inv
  | 0 => some (Inv.of [0, 2, 3] 1 (fun j : Nat => [(0, .lit (.string (restAt s j))), (2, .own 0), (3, .lit (.int .i64 j))]) (fun j => [.vec 24 tInts (rowsAt s j)])
      (fun j => parI s j) (fun j => 6 - j))
  | 1 => some ⟨Nat, Nat, [2, 8], 3, fun j k => [(2, .own 0), (8, .own 2)], fun j k => [.vec 24 tInts (rowsAt s j), .sit (lineOf s j) (posAt (lineOf s j) k), .vec 3 tInt (runTo (lineOf s j) k)], fun j k => ∀ i, i < k → posAt (lineOf s j) i < (lineOf s j).size, fun j k => (lineOf s j).size - posAt (lineOf s j) k⟩
  | _ => none
theorem get_byte {t : ByteArray} {p : Nat} (h : p < t.size) : ((t.get! p).toNat : Int) = byteAt t p := by
  have e : t[p]? = some t[p] := by simp [h]
  unfold byteAt
  rw [e]
  show ((t.get! p).toNat : Int) = (t[p].toNat : Int)
  congr 2
  have h' : p < t.data.size := h
  simp only [ByteArray.get!]
  rw [getElem!_pos t.data p h']
  rfl
theorem dec_lo {t : ByteArray} {p : Nat} (h : p < t.size) (hb : byteAt t p < 128) : ((Utf8.decode t p).1 : Int) = byteAt t p ∧ (Utf8.decode t p).2 = 1 := by
  have e := get_byte h
  unfold Utf8.decode
  simp only [Nat.add_zero]
  rw [if_pos (by omega)]
  exact ⟨e, rfl⟩
theorem dec_hi {t : ByteArray} {p : Nat} (h : p < t.size) (hb : 128 ≤ byteAt t p) : 128 ≤ (Utf8.decode t p).1 ∧ 1 ≤ (Utf8.decode t p).2 := by
  have e := get_byte h
  unfold Utf8.decode
  simp only [Nat.add_zero]
  rw [if_neg (by omega)]
  have er : 128 ≤ Utf8.runeError := by decide
  repeat' split
  all_goals (simp only [Bool.and_eq_true, decide_eq_true_eq, ge_iff_le] at *; constructor <;> omega)
theorem mem_sgnTo {t : ByteArray} {j : Nat} : ∀ {n : Nat}, j < n → ixB signsB (byteAt t j) - 1 ∈ sgnTo t n
  | 0, h => absurd h (Nat.not_lt_zero _)
  | n + 1, h => by
    rw [sgnTo]
    rcases Nat.lt_or_ge j n with h' | h'
    · exact List.mem_append_left _ (mem_sgnTo h')
    · obtain rfl : j = n := by omega
      simp
theorem ixB_hi {c : Int} (h : 128 ≤ c) (h1 : c < 256) : ixB signsB c = -1 := ix_hi h h1 (j := 0) (by omega)
/-- A line, rune by rune and byte by byte. -/
theorem line_eq (t : ByteArray) : ∀ k, (∀ i, i < k → posAt t i < t.size) → (posAt t k = k ∧ k ≤ t.size ∧ runTo t k = sgnTo t k) ∨ (-2 ∈ runTo t k ∧ ∃ j, j < t.size ∧ 128 ≤ byteAt t j)
  | 0, _ => .inl ⟨rfl, Nat.zero_le _, rfl⟩
  | k + 1, h => by
    rcases line_eq t k (fun i hi => h i (by omega)) with ⟨h1, h2, h3⟩ | ⟨h1, h2⟩
    · have hk := h k (by omega)
      rw [h1] at hk
      by_cases hb : byteAt t k < 128
      · obtain ⟨d1, d2⟩ := dec_lo hk hb
        left
        refine ⟨by rw [posAt, h1, d2], hk, ?_⟩
        rw [runTo, sgnTo, h3, h1, d1]
        have : irR (byteAt t k) = ixB signsB (byteAt t k) := by
          unfold irR
          rw [if_pos ⟨(byteAt_bd t k).1, hb⟩]
        rw [this]
      · right
        refine ⟨?_, k, hk, by omega⟩
        have := (dec_hi hk (by omega)).1
        rw [runTo, h1]
        have e : irR (Utf8.decode t k).1 = -1 := by unfold irR; rw [if_neg (by omega)]
        rw [e]
        simp
    · right
      exact ⟨by rw [runTo]; exact List.mem_append_left _ h1, h2⟩
theorem line_end {t : ByteArray} {k : Nat} (h : ∀ i, i < k → posAt t i < t.size) (hk : ¬ posAt t k < t.size) : runTo t k = sgnTo t t.size ∨ (-2 ∈ runTo t k ∧ -2 ∈ sgnTo t t.size) := by
  rcases line_eq t k h with ⟨h1, h2, h3⟩ | ⟨h1, j, hj, hb⟩
  · left
    rw [h3, show k = t.size by omega]
  · right
    refine ⟨h1, ?_⟩
    have := mem_sgnTo (t := t) hj
    rwa [ixB_hi hb (byteAt_bd t j).2] at this
theorem bad_row {rows : List (List Int)} {row : List Int} (h : -2 ∈ row) : validB (rows ++ [row]) = false := by
  cases hv : validB (rows ++ [row]) with
  | false => rfl
  | true =>
    exfalso
    have hM := IsMask.of hv
    obtain ⟨j, hj, e⟩ := List.getElem_of_mem h
    have hl : rows.length < (rows ++ [row]).length := by simp
    have en : nthL (rows ++ [row]) rows.length = row := by rw [nthL_eq _ _ hl]; simp
    have h1 := hM.each rows.length hl
    rw [en] at h1
    have h2 := (hM.small rows.length hl j (by omega)).1
    rw [en] at h2
    have : nth row j = -2 := by rw [nth_eq _ _ hj]; exact e
    omega
theorem byteAt_extract {s : ByteArray} {b k : Nat} (hb : b ≤ s.size) (hk : k < b) : byteAt (s.extract 0 b) k = byteAt s k := by
  unfold byteAt
  have e1 : (s.extract 0 b)[k]? = some s[k] := by
    have hs : k < (s.extract 0 b).size := by rw [ByteArray.size_extract]; omega
    rw [getElem?_pos (s.extract 0 b) k hs]
    simp [ByteArray.getElem_extract]
  have e2 : s[k]? = some s[k] := getElem?_pos s k (by omega)
  rw [e1, e2]
theorem sgnTo_extract {s : ByteArray} {b : Nat} (hb : b ≤ s.size) : ∀ k, k ≤ b → sgnTo (s.extract 0 b) k = sgnTo s k
  | 0, _ => rfl
  | k + 1, h => by rw [sgnTo, sgnTo, sgnTo_extract hb k (by omega), byteAt_extract hb (by omega)]
theorem parseP_step {s : ByteArray} {j : Nat} (hs : s.size ≤ 65536) (hj : parI s j) (hc : j = 0 ∨ restAt s j ≠ ⟨#[]⟩) :
    (({ data := #[10] } : ByteArray) = nlB ∧ (restAt s j).size ≤ 1000000) ∧
      ∃ (v6 : Nat) (v7 : Nat), (∀ i : Nat, i.succ ≤ v7 → (posAt (lineOf s v6) i).succ ≤ (lineOf s v6).size) ∧ (rowsAt s j = rowsAt s v6 ∧ ((cutR (restAt s j)).1 = lineOf s v6 ∧ 0 = posAt (lineOf s v6) v7) ∧ runTo (lineOf s v6) v7 = []) ∧
        ∀ k : Nat, (∀ i : Nat, i.succ ≤ k → (posAt (lineOf s v6) i).succ ≤ (lineOf s v6).size) →
          (posAt (lineOf s v6) k < (lineOf s v6).size → ({ data := #[45, 46, 43] } : ByteArray) = signsB ∧ fits .i64 (irR (Utf8.decode (lineOf s v6) (posAt (lineOf s v6) k)).1 - 1) ∧ (runTo (lineOf s v6) k).length + 1 ≤ 1000000 ∧
            ∃ x' : Nat, (∀ i : Nat, i.succ ≤ x' → (posAt (lineOf s v6) i).succ ≤ (lineOf s v6).size) ∧ (lineOf s v6).size - posAt (lineOf s v6) x' < (lineOf s v6).size - posAt (lineOf s v6) k ∧ posAt (lineOf s v6) k + (Utf8.decode (lineOf s v6) (posAt (lineOf s v6) k)).2 = posAt (lineOf s v6) x' ∧
              runTo (lineOf s v6) k ++ [irR (Utf8.decode (lineOf s v6) (posAt (lineOf s v6) k)).1 - 1] = runTo (lineOf s v6) x') ∧
          (¬ posAt (lineOf s v6) k < (lineOf s v6).size → (rowsAt s v6).length + 1 ≤ 1000000 ∧ ((cutR (restAt s j)).2.2 = false → (parR s).1 = [] ∧ (j : Int) = (parR s).2.1 ∧ 2 = (parR s).2.2) ∧
            ((cutR (restAt s j)).2.2 = true → (validB (rowsAt s v6 ++ [runTo (lineOf s v6) k]) = false → (parR s).1 = [] ∧ (j : Int) = (parR s).2.1 ∧ 2 = (parR s).2.2) ∧
              (validB (rowsAt s v6 ++ [runTo (lineOf s v6) k]) = true → fits .i64 ((j : Int) + 1) ∧ ∃ x' : Nat, parI s x' ∧ 6 - x' < 6 - j ∧ (Value.string (cutR (restAt s j)).2.1 = Value.string (restAt s x') ∧ (j : Int) + 1 = x') ∧ rowsAt s v6 ++ [runTo (lineOf s v6) k] = rowsAt s x'))) := by
  obtain ⟨h6, hv, he⟩ := hj
  have hz := restAt_size s j
  have hb := ixB_bd (restAt s j) 10
  have hR : parR s = prsT s (8 - j) j := by unfold parR; rw [if_neg (by omega), he]
  have hU : prsT s (8 - j) j = if ixB (restAt s j) 10 < 0 then ([], (j : Int), 2) else if validB (rowsAt s (j + 1)) then prsT s (7 - j) (j + 1) else ([], (j : Int), 2) := by
    rw [show 8 - j = (7 - j) + 1 by omega, prsT, if_pos hc]
  have hlz : (lineOf s j).size ≤ (restAt s j).size := by
    unfold lineOf cutR
    split
    · rw [ByteArray.size_extract]; omega
    · exact Nat.le_refl _
  have hmono : ∀ k, (∀ i, i < k → posAt (lineOf s j) i < (lineOf s j).size) → k ≤ posAt (lineOf s j) k := by
    intro k
    induction k with
    | zero => intro _; exact Nat.zero_le _
    | succ k ih =>
      intro h
      have h1 := ih fun i hi => h i (by omega)
      have h2 := h k (by omega)
      have h3 : 1 ≤ (Utf8.decode (lineOf s j) (posAt (lineOf s j) k)).2 := by
        by_cases hlo : byteAt (lineOf s j) (posAt (lineOf s j) k) < 128
        · rw [(dec_lo h2 hlo).2]; exact Nat.le_refl _
        · exact (dec_hi h2 (by omega)).2
      rw [posAt]
      omega
  have hlen : ∀ k, (runTo (lineOf s j) k).length = k := by
    intro k
    induction k with
    | zero => rfl
    | succ k ih => rw [runTo, List.length_append, ih]; rfl
  refine ⟨⟨rfl, by omega⟩, j, 0, fun i hi => by omega, ⟨rfl, ⟨rfl, rfl⟩, rfl⟩, fun k hk => ⟨fun hlt => ?_, fun hge => ?_⟩⟩
  · have hir : -1 ≤ irR (Utf8.decode (lineOf s j) (posAt (lineOf s j) k)).1 ∧ irR (Utf8.decode (lineOf s j) (posAt (lineOf s j) k)).1 ≤ 3 := by
      unfold irR
      split
      · have := ixB_bd signsB (Utf8.decode (lineOf s j) (posAt (lineOf s j) k)).1
        have e3 : ((signsB.size : Nat) : Int) = 3 := rfl
        omega
      · omega
    have hm := hmono k hk
    have hk1 : ∀ i, i < k + 1 → posAt (lineOf s j) i < (lineOf s j).size := fun i hi => by
      rcases Nat.lt_or_ge i k with h | h
      · exact hk i h
      · obtain rfl : i = k := by omega
        exact hlt
    refine ⟨rfl, fits64 (by omega) (by omega), by rw [hlen]; omega, k + 1, hk1, ?_, rfl, rfl⟩
    have h3 : 1 ≤ (Utf8.decode (lineOf s j) (posAt (lineOf s j) k)).2 := by
      by_cases hlo : byteAt (lineOf s j) (posAt (lineOf s j) k) < 128
      · rw [(dec_lo hlt hlo).2]; exact Nat.le_refl _
      · exact (dec_hi hlt (by omega)).2
    rw [posAt]
    omega
  · have hend := line_end hk hge
    rw [rowsAt_len]
    refine ⟨by omega, fun hw => ?_, fun hw => ?_⟩
    · have hneg : ixB (restAt s j) 10 < 0 := by
        unfold cutR at hw
        split at hw
        · cases hw
        · omega
      rw [hR, hU, if_pos hneg]
      exact ⟨rfl, rfl, rfl⟩
    · have hpos : 0 ≤ ixB (restAt s j) 10 := by
        unfold cutR at hw
        split at hw
        · assumption
        · cases hw
      have hcut : cutR (restAt s j) = ((restAt s j).extract 0 (ixB (restAt s j) 10).toNat, (restAt s j).extract ((ixB (restAt s j) 10).toNat + 1) (restAt s j).size, true) := by unfold cutR; rw [if_pos hpos]
      have hline : lineOf s j = (restAt s j).extract 0 (ixB (restAt s j) 10).toNat := by unfold lineOf; rw [hcut]
      have hsz : (lineOf s j).size = (ixB (restAt s j) 10).toNat := by rw [hline, ByteArray.size_extract]; omega
      have hsg : sgnTo (lineOf s j) (lineOf s j).size = sgnTo (restAt s j) (ixB (restAt s j) 10).toNat := by
        rw [hsz, hline, sgnTo_extract (by omega) _ (Nat.le_refl _)]
      rw [hsg] at hend
      have hrow : rowsAt s j ++ [sgnTo (restAt s j) (ixB (restAt s j) 10).toNat] = rowsAt s (j + 1) := rfl
      have hbad : validB (rowsAt s j ++ [runTo (lineOf s j) k]) = validB (rowsAt s (j + 1)) ∧ (validB (rowsAt s (j + 1)) = true → rowsAt s j ++ [runTo (lineOf s j) k] = rowsAt s (j + 1)) := by
        rcases hend with e | ⟨e1, e2⟩
        · rw [e, hrow]; exact ⟨rfl, fun _ => rfl⟩
        · rw [bad_row e1, ← hrow, bad_row e2]; exact ⟨rfl, fun h => by cases h⟩
      rw [hbad.1]
      refine ⟨fun hf => ?_, fun hf => ?_⟩
      · rw [hR, hU, if_neg (by omega), if_neg (by rw [hf]; simp)]
        exact ⟨rfl, rfl, rfl⟩
      · have h2 := (IsMask.of hf).rows6
        rw [rowsAt_len] at h2
        refine ⟨fits64 (by omega) (by omega), j + 1, ⟨by omega, .inr hf, ?_⟩, by omega, ⟨?_, by omega⟩, hbad.2 hf⟩
        · rw [he, hU, if_neg (by omega), if_pos hf]
          congr 1
          omega
        · rw [hcut, restAt]
theorem parse_meets : Meets Try.prog 57 sPrs := by
  refine meets (snd (SpecsOk.cons mvalid_meets (SpecsOk.cons cut_meets (SpecsOk.cons indexRune_meets (SpecsOk.nil _)))) []) Try.func57 rfl rfl (fun x => ivPP x.1) (fun _ => by kernel_rfl) (by decide) ?_
  rintro ⟨s, ⟨⟩⟩ -
  revert s
  intro (s : ByteArray)
  refine by_vc (B := (Decidable.decide ((65536 : Int) < (↑(ByteArray.size s) : Int)) = Bool.true → Prod.fst (parR s) = [] ∧ (0 : Int) = Prod.fst (Prod.snd (parR s)) ∧ (3 : Int) = Prod.snd (Prod.snd (parR s)) ∧ True) ∧
  (Decidable.decide ((65536 : Int) < (↑(ByteArray.size s) : Int)) = Bool.false →
    ∃ (v1 : Unit),
      ∃ (v2 : Nat),
        (v2 ≤ (6 : Nat) ∧ (v2 = (0 : Nat) ∨ validB (rowsAt s v2) = Bool.true) ∧ prsT s (8 : Nat) (0 : Nat) = prsT s ((8 : Nat) - v2) v2) ∧
          ((Go.Value.string s = Go.Value.string (restAt s v2) ∧ True ∧ (0 : Int) = (↑v2 : Int) ∧ True) ∧ rowsAt s v2 = [] ∧ True) ∧
            ∀ (v3 : Nat),
              v3 ≤ (6 : Nat) ∧ (v3 = (0 : Nat) ∨ validB (rowsAt s v3) = Bool.true) ∧ prsT s (8 : Nat) (0 : Nat) = prsT s ((8 : Nat) - v3) v3 →
                ((!Decidable.decide (restAt s v3 = { data := #[] })) = Bool.true →
                    ({ data := #[(10 : UInt8)] } = nlB ∧ ByteArray.size (restAt s v3) ≤ (1000000 : Nat)) ∧
                      ∃ (v6 : Nat),
                        ∃ (v7 : Nat),
                          (∀ (v8 : Nat), Nat.le (Nat.succ v8) v7 → Nat.le (Nat.succ (posAt (lineOf s v6) v8)) (ByteArray.size (lineOf s v6))) ∧
                            ((True ∧ True ∧ True) ∧
                                rowsAt s v3 = rowsAt s v6 ∧
                                  (Prod.fst (cutR (restAt s v3)) = lineOf s v6 ∧ (0 : Nat) = posAt (lineOf s v6) v7) ∧ runTo (lineOf s v6) v7 = [] ∧ True) ∧
                              ∀ (v8 : Nat),
                                (∀ (v10 : Nat), Nat.le (Nat.succ v10) v8 → Nat.le (Nat.succ (posAt (lineOf s v6) v10)) (ByteArray.size (lineOf s v6))) →
                                  (Decidable.decide (posAt (lineOf s v6) v8 < ByteArray.size (lineOf s v6)) = Bool.true →
                                      { data := #[(45 : UInt8), (46 : UInt8), (43 : UInt8)] } = signsB ∧
                                        Eng.fits Go.IntKind.i64 (irR (↑(Prod.fst (Go.Utf8.decode (lineOf s v6) (posAt (lineOf s v6) v8))) : Int) - (1 : Int)) ∧
                                          ((0 : Nat) < List.length [irR (↑(Prod.fst (Go.Utf8.decode (lineOf s v6) (posAt (lineOf s v6) v8))) : Int) - (1 : Int)] ∧
                                              Nat.le (List.length (runTo (lineOf s v6) v8) + List.length [irR (↑(Prod.fst (Go.Utf8.decode (lineOf s v6) (posAt (lineOf s v6) v8))) : Int) - (1 : Int)]) (1000000 : Nat)) ∧
                                            ∃ (v11 : Nat),
                                              (∀ (v12 : Nat), Nat.le (Nat.succ v12) v11 → Nat.le (Nat.succ (posAt (lineOf s v6) v12)) (ByteArray.size (lineOf s v6))) ∧
                                                ByteArray.size (lineOf s v6) - posAt (lineOf s v6) v11 < ByteArray.size (lineOf s v6) - posAt (lineOf s v6) v8 ∧
                                                  (True ∧ True ∧ True) ∧
                                                    rowsAt s v6 = rowsAt s v6 ∧
                                                      (lineOf s v6 = lineOf s v6 ∧
                                                          posAt (lineOf s v6) v8 + Prod.snd (Go.Utf8.decode (lineOf s v6) (posAt (lineOf s v6) v8)) = posAt (lineOf s v6) v11) ∧
                                                        runTo (lineOf s v6) v8 ++ [irR (↑(Prod.fst (Go.Utf8.decode (lineOf s v6) (posAt (lineOf s v6) v8))) : Int) - (1 : Int)] =
                                                            runTo (lineOf s v6) v11 ∧
                                                          True) ∧
                                    (Decidable.decide (posAt (lineOf s v6) v8 < ByteArray.size (lineOf s v6)) = Bool.false →
                                      ((0 : Nat) < (0 : Nat) + (1 : Nat) ∧ Nat.le (List.length (rowsAt s v6) + ((0 : Nat) + (1 : Nat))) (1000000 : Nat)) ∧
                                        ((!Prod.snd (Prod.snd (cutR (restAt s v3)))) = Bool.true → Prod.fst (parR s) = [] ∧ (↑v3 : Int) = Prod.fst (Prod.snd (parR s)) ∧ (2 : Int) = Prod.snd (Prod.snd (parR s)) ∧ True) ∧
                                          ((!Prod.snd (Prod.snd (cutR (restAt s v3)))) = Bool.false →
                                            True ∧
                                              ((!validB (rowsAt s v6 ++ [runTo (lineOf s v6) v8])) = Bool.true →
                                                  Prod.fst (parR s) = [] ∧ (↑v3 : Int) = Prod.fst (Prod.snd (parR s)) ∧ (2 : Int) = Prod.snd (Prod.snd (parR s)) ∧ True) ∧
                                                ((!validB (rowsAt s v6 ++ [runTo (lineOf s v6) v8])) = Bool.false →
                                                  Eng.fits Go.IntKind.i64 ((↑v3 : Int) + (1 : Int)) ∧
                                                    ∃ (v13 : Nat),
                                                      (v13 ≤ (6 : Nat) ∧ (v13 = (0 : Nat) ∨ validB (rowsAt s v13) = Bool.true) ∧ prsT s (8 : Nat) (0 : Nat) = prsT s ((8 : Nat) - v13) v13) ∧
                                                        (6 : Nat) - v13 < (6 : Nat) - v3 ∧
                                                          (Go.Value.string (Prod.fst (Prod.snd (cutR (restAt s v3)))) = Go.Value.string (restAt s v13) ∧ True ∧ (↑v3 : Int) + (1 : Int) = (↑v13 : Int) ∧ True) ∧
                                                            rowsAt s v6 ++ [runTo (lineOf s v6) v8] = rowsAt s v13 ∧ True)))) ∧
                  ((!Decidable.decide (restAt s v3 = { data := #[] })) = Bool.false →
                    (((↑v3 : Int) == (0 : Int)) = Bool.true →
                        ({ data := #[(10 : UInt8)] } = nlB ∧ ByteArray.size (restAt s v3) ≤ (1000000 : Nat)) ∧
                          ∃ (v7 : Nat),
                            ∃ (v8 : Nat),
                              (∀ (v9 : Nat), Nat.le (Nat.succ v9) v8 → Nat.le (Nat.succ (posAt (lineOf s v7) v9)) (ByteArray.size (lineOf s v7))) ∧
                                ((True ∧ True ∧ True) ∧
                                    rowsAt s v3 = rowsAt s v7 ∧
                                      (Prod.fst (cutR (restAt s v3)) = lineOf s v7 ∧ (0 : Nat) = posAt (lineOf s v7) v8) ∧ runTo (lineOf s v7) v8 = [] ∧ True) ∧
                                  ∀ (v9 : Nat),
                                    (∀ (v11 : Nat), Nat.le (Nat.succ v11) v9 → Nat.le (Nat.succ (posAt (lineOf s v7) v11)) (ByteArray.size (lineOf s v7))) →
                                      (Decidable.decide (posAt (lineOf s v7) v9 < ByteArray.size (lineOf s v7)) = Bool.true →
                                          { data := #[(45 : UInt8), (46 : UInt8), (43 : UInt8)] } = signsB ∧
                                            Eng.fits Go.IntKind.i64 (irR (↑(Prod.fst (Go.Utf8.decode (lineOf s v7) (posAt (lineOf s v7) v9))) : Int) - (1 : Int)) ∧
                                              ((0 : Nat) < List.length [irR (↑(Prod.fst (Go.Utf8.decode (lineOf s v7) (posAt (lineOf s v7) v9))) : Int) - (1 : Int)] ∧
                                                  Nat.le (List.length (runTo (lineOf s v7) v9) + List.length [irR (↑(Prod.fst (Go.Utf8.decode (lineOf s v7) (posAt (lineOf s v7) v9))) : Int) - (1 : Int)]) (1000000 : Nat)) ∧
                                                ∃ (v12 : Nat),
                                                  (∀ (v13 : Nat), Nat.le (Nat.succ v13) v12 → Nat.le (Nat.succ (posAt (lineOf s v7) v13)) (ByteArray.size (lineOf s v7))) ∧
                                                    ByteArray.size (lineOf s v7) - posAt (lineOf s v7) v12 < ByteArray.size (lineOf s v7) - posAt (lineOf s v7) v9 ∧
                                                      (True ∧ True ∧ True) ∧
                                                        rowsAt s v7 = rowsAt s v7 ∧
                                                          (lineOf s v7 = lineOf s v7 ∧
                                                              posAt (lineOf s v7) v9 + Prod.snd (Go.Utf8.decode (lineOf s v7) (posAt (lineOf s v7) v9)) = posAt (lineOf s v7) v12) ∧
                                                            runTo (lineOf s v7) v9 ++ [irR (↑(Prod.fst (Go.Utf8.decode (lineOf s v7) (posAt (lineOf s v7) v9))) : Int) - (1 : Int)] =
                                                                runTo (lineOf s v7) v12 ∧
                                                              True) ∧
                                        (Decidable.decide (posAt (lineOf s v7) v9 < ByteArray.size (lineOf s v7)) = Bool.false →
                                          ((0 : Nat) < (0 : Nat) + (1 : Nat) ∧ Nat.le (List.length (rowsAt s v7) + ((0 : Nat) + (1 : Nat))) (1000000 : Nat)) ∧
                                            ((!Prod.snd (Prod.snd (cutR (restAt s v3)))) = Bool.true → Prod.fst (parR s) = [] ∧ (↑v3 : Int) = Prod.fst (Prod.snd (parR s)) ∧ (2 : Int) = Prod.snd (Prod.snd (parR s)) ∧ True) ∧
                                              ((!Prod.snd (Prod.snd (cutR (restAt s v3)))) = Bool.false →
                                                True ∧
                                                  ((!validB (rowsAt s v7 ++ [runTo (lineOf s v7) v9])) = Bool.true →
                                                      Prod.fst (parR s) = [] ∧ (↑v3 : Int) = Prod.fst (Prod.snd (parR s)) ∧ (2 : Int) = Prod.snd (Prod.snd (parR s)) ∧ True) ∧
                                                    ((!validB (rowsAt s v7 ++ [runTo (lineOf s v7) v9])) = Bool.false →
                                                      Eng.fits Go.IntKind.i64 ((↑v3 : Int) + (1 : Int)) ∧
                                                        ∃ (v14 : Nat),
                                                          (v14 ≤ (6 : Nat) ∧ (v14 = (0 : Nat) ∨ validB (rowsAt s v14) = Bool.true) ∧ prsT s (8 : Nat) (0 : Nat) = prsT s ((8 : Nat) - v14) v14) ∧
                                                            (6 : Nat) - v14 < (6 : Nat) - v3 ∧
                                                              (Go.Value.string (Prod.fst (Prod.snd (cutR (restAt s v3)))) = Go.Value.string (restAt s v14) ∧ True ∧ (↑v3 : Int) + (1 : Int) = (↑v14 : Int) ∧ True) ∧
                                                                rowsAt s v7 ++ [runTo (lineOf s v7) v9] = rowsAt s v14 ∧ True)))) ∧
                      (((↑v3 : Int) == (0 : Int)) = Bool.false → rowsAt s v3 = Prod.fst (parR s) ∧ (0 : Int) = Prod.fst (Prod.snd (parR s)) ∧ (0 : Int) = Prod.snd (Prod.snd (parR s)) ∧ True)))) (by kernel_rfl) ?_
  simp only [ne_eq, true_and, and_true, eq_self, Bool.not_eq_true', Bool.not_eq_false', decide_eq_true_eq, decide_eq_false_iff_not, Nat.le_eq, Int.not_lt, Int.not_le, Int.reduceEq, not_false_eq_true, Bool.not_eq_eq_eq_not, Bool.not_true, Bool.not_false, Int.ofNat_lt, Int.ofNat_le, Int.toNat_natCast, Int.natCast_nonneg, nthD_nth, beq_iff_eq, bne_iff_ne, beq_eq_false_iff_ne, bne_eq_false_iff_eq, Classical.not_not, List.length_cons, List.length_nil, Nat.zero_add, List.nil_append, true_implies, Nat.lt_add_one, Nat.zero_lt_succ, Int.reduceLE, Int.reduceLT]
  refine ⟨fun h => ?_, fun h => ?_⟩
  · have e : parR s = ([], 0, 3) := by unfold parR; rw [if_pos (by omega)]
    rw [e]
    exact ⟨rfl, rfl, rfl⟩
  · have hs : s.size ≤ 65536 := by omega
    refine ⟨(), 0, ⟨by omega, .inl rfl, rfl⟩, ⟨⟨rfl, rfl⟩, rfl⟩, fun j hj => ⟨fun hne => parseP_step hs hj (.inr hne), fun hem => ⟨fun h0 => parseP_step hs hj (.inl (by omega)), fun h0 => ?_⟩⟩⟩
    obtain ⟨h6, hv, he⟩ := hj
    have e : parR s = (rowsAt s j, 0, 0) := by
      unfold parR
      rw [if_neg (by omega), he, show 8 - j = (7 - j) + 1 by omega, prsT, if_neg]
      rintro (h | h)
      · omega
      · exact h hem
    rw [e]
    exact ⟨rfl, rfl, rfl⟩
end Go.Proofs.Ytkkmlcengneomaa
