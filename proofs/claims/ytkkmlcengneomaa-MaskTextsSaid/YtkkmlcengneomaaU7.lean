/- What is written is read back; the law MaskTexts by the engine. No condition. -/
import Derived.Test.YtkkmlcengneomaaU6
import Derived.Test.YtkkmlcengneomaaT6

set_option linter.unusedVariables false
set_option linter.unusedSimpArgs false
namespace Go.Proofs.Ytkkmlcengneomaa
open Go Go.RowKit Eng Ls

/-! ### What is written is read back -/
def sb (n : Int) : UInt8 := if n = -1 then 45 else if n = 0 then 46 else 43
def rowU (r : List Int) : List UInt8 := r.map sb ++ [10]
theorem sb_sgn {n : Int} (h : -1 ≤ n ∧ n ≤ 1) : ixB signsB ((sb n).toNat : Int) - 1 = n ∧ sb n ≠ 10 ∧ (signsB.extract (n + 1).toNat (n + 2).toNat).data.toList = [sb n] := by
  rcases (show n = -1 ∨ n = 0 ∨ n = 1 by omega) with rfl | rfl | rfl
  · decide
  · decide
  · decide
theorem ba_app (a b : ByteArray) : (a ++ b).data.toList = a.data.toList ++ b.data.toList := by simp
theorem rowTo_list {r : List Int} (hr : ∀ j, j < r.length → -1 ≤ nth r j ∧ nth r j ≤ 1) (s : ByteArray) (k : Nat) (hk : k ≤ r.length) : (rowTo s r k).data.toList = s.data.toList ++ (r.take k).map sb := by
  induction k with
  | zero => simp [rowTo]
  | succ k ih =>
    have e : (nthD tInt r k : Int) = nth r k := rfl
    rw [rowTo, ba_app, ih (by omega), e, (sb_sgn (hr k (by omega))).2.2, take_snoc r k (by omega)]
    simp
theorem fmtTo_list {m : List (List Int)} (h : IsMask m) (k : Nat) (hk : k ≤ m.length) : (fmtTo m k).data.toList = (m.take k).flatMap rowU := by
  induction k with
  | zero => rfl
  | succ k ih =>
    have e : (nthD tInts m k : List Int) = nthL m k := rfl
    have hr : ∀ j, j < (nthL m k).length → -1 ≤ nth (nthL m k) j ∧ nth (nthL m k) j ≤ 1 := fun j hj => h.small k (by omega) j (by rw [← h.each k (by omega)]; exact hj)
    rw [fmtTo, ba_app, e, rowTo_list hr _ _ (Nat.le_refl _), ih (by omega), takeL_snoc m k (by omega), List.flatMap_append, List.take_length]
    simp [rowU]
theorem ix_row (l : List UInt8) (hl : ∀ b ∈ l, b ≠ 10) (r : List UInt8) : Lib.indexByte (l ++ 10 :: r) 10 = l.length := by
  induction l with
  | nil => rfl
  | cons b l ih =>
    have h1 := hl b (by simp)
    have h2 := ih fun x hx => hl x (by simp [hx])
    show (if (b == 10) = true then (0 : Int) else if Lib.indexByte (l ++ 10 :: r) 10 == -1 then -1 else Lib.indexByte (l ++ 10 :: r) 10 + 1) = _
    rw [if_neg (by simpa using h1), h2, if_neg (by simp)]
    simp
theorem byte_list (t : ByteArray) (i : Nat) (b : UInt8) (h : t.data.toList[i]? = some b) : byteAt t i = (b.toNat : Int) := by
  unfold byteAt
  have : t[i]? = some b := by
    have h1 : i < t.data.toList.length := (List.getElem?_eq_some_iff.1 h).1
    have h2 : i < t.size := by simpa using h1
    rw [getElem?_pos t i h2]
    have h3 : t.data.toList[i] = b := (List.getElem?_eq_some_iff.1 h).2
    rw [← h3]
    rfl
  rw [this]
theorem sgn_row {r : List Int} (hr : ∀ v ∈ r, -1 ≤ v ∧ v ≤ 1) {t : ByteArray} {rest : List UInt8} (h : t.data.toList = r.map sb ++ rest) (k : Nat) (hk : k ≤ r.length) : sgnTo t k = r.take k := by
  induction k with
  | zero => rfl
  | succ k ih =>
    have hb : byteAt t k = ((sb r[k]).toNat : Int) := byte_list t k _ (by rw [h, List.getElem?_append_left (by simp; omega)]; simp [List.getElem?_eq_getElem (show k < r.length by omega)])
    rw [sgnTo, ih (by omega), hb, (sb_sgn (hr _ (List.getElem_mem _))).1, List.take_add_one, List.getElem?_eq_getElem (by omega)]
    rfl
theorem valid_take {m : List (List Int)} (h : validB m = true) (k : Nat) (hk : k < m.length) : validB (m.take (k + 1)) = true := by
  unfold validB at h ⊢
  rw [Bool.and_eq_true, inB_iff] at h ⊢
  refine ⟨by rw [List.length_take]; omega, ?_⟩
  have h0 : nthL (m.take (k + 1)) 0 = nthL m 0 := by
    cases m with
    | nil => rfl
    | cons a l => rfl
  rw [List.all_eq_true]
  intro r hr
  have := List.all_eq_true.1 h.2 r (List.mem_of_mem_take hr)
  unfold fitB at this ⊢
  rw [h0]; exact this
theorem rest_fmt {m : List (List Int)} (h : IsMask m) (j : Nat) (hj : j ≤ m.length) : (restAt (fmtTo m m.length) j).data.toList = (m.drop j).flatMap rowU ∧ rowsAt (fmtTo m m.length) j = m.take j ∧
    (j < m.length → ixB (restAt (fmtTo m m.length) j) 10 = (nthL m j).length ∧ sgnTo (restAt (fmtTo m m.length) j) (nthL m j).length = nthL m j) := by
  have step : ∀ j, j < m.length → ∀ t : ByteArray, t.data.toList = (m.drop j).flatMap rowU → ixB t 10 = (nthL m j).length ∧ sgnTo t (nthL m j).length = nthL m j ∧ (m.drop j).flatMap rowU = (nthL m j).map sb ++ 10 :: (m.drop (j + 1)).flatMap rowU := fun j hj t ht => by
    have e1 : m.drop j = nthL m j :: m.drop (j + 1) := by rw [nthL_eq m j hj]; exact List.drop_eq_getElem_cons hj
    have hr : ∀ v ∈ nthL m j, -1 ≤ v ∧ v ≤ 1 := fun v hv => by
      obtain ⟨i, hi, rfl⟩ := List.getElem_of_mem hv
      have := h.small j hj i (by rw [← h.each j hj]; exact hi)
      rwa [nth_eq _ i hi] at this
    have e2 : (m.drop j).flatMap rowU = (nthL m j).map sb ++ 10 :: (m.drop (j + 1)).flatMap rowU := by rw [e1]; simp [rowU]
    refine ⟨?_, ?_, e2⟩
    · unfold ixB
      rw [ht, e2]
      have := ix_row ((nthL m j).map sb) (fun b hb => by obtain ⟨v, hv, rfl⟩ := List.mem_map.1 hb; exact (sb_sgn (hr v hv)).2.1) ((m.drop (j + 1)).flatMap rowU)
      rw [List.length_map] at this
      exact this
    · rw [sgn_row hr (ht.trans e2) _ (Nat.le_refl _), List.take_length]
  induction j with
  | zero =>
    have h0 : (restAt (fmtTo m m.length) 0).data.toList = (m.drop 0).flatMap rowU := by rw [restAt, fmtTo_list h _ (Nat.le_refl _), List.take_length]; rfl
    exact ⟨h0, rfl, fun hj => ⟨(step 0 hj _ h0).1, (step 0 hj _ h0).2.1⟩⟩
  | succ j ih =>
    obtain ⟨h1, h2, h3⟩ := ih (by omega)
    obtain ⟨k1, k2⟩ := h3 (by omega)
    have k3 := (step j (by omega) _ h1).2.2
    have h0 : (restAt (fmtTo m m.length) (j + 1)).data.toList = (m.drop (j + 1)).flatMap rowU := by
      have hsz : (restAt (fmtTo m m.length) j).size = (restAt (fmtTo m m.length) j).data.toList.length := by simp
      rw [restAt, k1, ByteArray.data_extract, Array.toList_extract, Int.toNat_natCast]
      show ((restAt (fmtTo m m.length) j).data.toList.drop ((nthL m j).length + 1)).take _ = _
      rw [h1, k3]
      have e4 : ((nthL m j).map sb ++ 10 :: (m.drop (j + 1)).flatMap rowU).drop ((nthL m j).length + 1) = (m.drop (j + 1)).flatMap rowU := by
        rw [List.drop_append]; simp
      rw [e4, List.take_of_length_le]
      rw [hsz, h1, k3]
      simp only [List.length_append, List.length_cons, List.length_map]
      omega
    refine ⟨h0, ?_, fun hj => ⟨(step (j + 1) hj _ h0).1, (step (j + 1) hj _ h0).2.1⟩⟩
    rw [rowsAt, h2, k1, Int.toNat_natCast, k2, ← takeL_snoc m j (by omega)]
theorem prs_fmt {m : List (List Int)} (hv : validB m = true) : ∀ (f j : Nat), j + f = 8 → j ≤ m.length → prsT (fmtTo m m.length) f j = (m, 0, 0)
  | 0, j, h1, h2 => by have := (IsMask.of hv).rows6; omega
  | f + 1, j, h1, h2 => by
    have hM := IsMask.of hv
    obtain ⟨k1, k2, k3⟩ := rest_fmt hM j h2
    rcases Nat.lt_or_ge j m.length with hlt | hge
    · obtain ⟨k4, k5⟩ := k3 hlt
      obtain ⟨_, k7, _⟩ := rest_fmt hM (j + 1) hlt
      have hne : restAt (fmtTo m m.length) j ≠ ⟨#[]⟩ := fun e => by
        rw [e] at k1
        have : m.drop j = nthL m j :: m.drop (j + 1) := by rw [nthL_eq m j hlt]; exact List.drop_eq_getElem_cons hlt
        rw [this] at k1
        simp [rowU] at k1
      rw [prsT, if_pos (.inr hne), if_neg (by omega), k7, if_pos (valid_take hv j hlt)]
      exact prs_fmt hv f (j + 1) (by omega) hlt
    · obtain rfl : j = m.length := by omega
      have h0 := hM.rows1
      have he : restAt (fmtTo m m.length) m.length = ⟨#[]⟩ := by
        apply ByteArray.ext
        rw [List.drop_length] at k1
        exact Array.toList_inj.1 (by simpa using k1)
      rw [prsT, if_neg (by rintro (h | h); omega; exact h he), k2, List.take_length]
theorem par_fmt {m : List (List Int)} (hv : validB m = true) : parR (fmtB m) = (m, 0, 0) := by
  have hM := IsMask.of hv
  have hsz := fmtTo_size hM m.length (Nat.le_refl _)
  have hk6 : m.length * ((nthL m 0).length + 1) ≤ 6 * 11 := Nat.mul_le_mul hM.rows6 (by have := hM.pix10; omega)
  unfold fmtB parR
  rw [if_pos hv, if_neg (by omega)]
  exact prs_fmt hv 8 0 rfl (Nat.zero_le _)
theorem prsT_ok (s : ByteArray) : ∀ (f j : Nat), (j = 0 ∨ validB (rowsAt s j) = true) → (prsT s f j).1 = [] ∨ validB (prsT s f j).1 = true
  | 0, j, _ => .inl rfl
  | f + 1, j, h => by
    rw [prsT]
    split
    · split
      · exact .inl rfl
      · split
        · rename_i hv; exact prsT_ok s f (j + 1) (.inr hv)
        · exact .inl rfl
    · rename_i hn
      rcases h with rfl | h
      · exact absurd (.inl rfl) hn
      · exact .inr h
theorem parR_ok (s : ByteArray) : (parR s).1 = [] ∨ validB (parR s).1 = true := by
  unfold parR
  split
  · exact .inl rfl
  · exact prsT_ok s 8 0 (.inl rfl)

/-! ### The law -/
def sSameM : FSpec := tspec true none [tMask, tMask] [.bool] (fun x => x.1 = x.2.1 ∧ (x.1 = [] ∨ validB x.1 = true)) (fun _ => (true, ()))
def ivSameM (m : List (List Int)) : Nat → Option Inv
  | 0 => some (Inv.of [14] 0 (fun k : Nat => [(14, .lit (.int .i64 k))]) (fun _ => []) (fun k => k ≤ m.length) (fun k => m.length - k))
  | 1 => some ⟨Nat, Nat, [33], 11, fun k t => [(33, .lit (.int .i64 t))], fun _ _ => [.dead, .dead, .dead, .dead, .dead, .dead, .dead, .dead, .dead, .dead, .dead], fun k t => t ≤ (nthD tInts m k : List Int).length, fun k t => (nthD tInts m k : List Int).length - t⟩
  | _ => none
theorem sameM_meets : Meets Try.prog 40 sSameM := by
  refine meets (snd (SpecsOk.nil _) []) Try.func40 rfl rfl (fun x => ivSameM x.1) (fun _ => by kernel_rfl) (by decide) ?_
  rintro ⟨m, m', ⟨⟩⟩ h
  revert m m'
  intro (m : List (List Int)) (m' : List (List Int)) (h : m = m' ∧ (m = [] ∨ validB m = true))
  obtain ⟨rfl, h⟩ := h
  have hl : m.length ≤ 6 ∧ ∀ k, k < m.length → (nthL m k).length ≤ 10 := by
    rcases h with rfl | h
    · exact ⟨by simp, fun k hk => by simp at hk⟩
    · have hM := IsMask.of h
      exact ⟨hM.rows6, fun k hk => by rw [hM.each k hk]; exact hM.pix10⟩
  obtain ⟨hl1, hl2⟩ := hl
  refine by_vc (B := (((↑(List.length m) : Int) != (↑(List.length m) : Int)) = Bool.true → Bool.false = Bool.true) ∧
  (((↑(List.length m) : Int) != (↑(List.length m) : Int)) = Bool.false →
    ∃ (v1 : Unit),
      ∃ (v2 : Nat),
        Nat.le v2 (List.length m) ∧
          (((0 : Int) = (↑v2 : Int) ∧ True) ∧ True) ∧
            ∀ (v3 : Nat),
              Nat.le v3 (List.length m) →
                (Decidable.decide ((↑v3 : Int) < (↑(List.length m) : Int)) = Bool.true →
                    ((0 : Int) ≤ (↑v3 : Int) ∧ (↑v3 : Int) < (↑(List.length m) : Int)) ∧
                      ((0 : Int) ≤ (↑v3 : Int) ∧ (↑v3 : Int) < (↑(List.length m) : Int)) ∧
                        (((↑(List.length (Eng.nthD (Eng.Ty.list (Eng.Ty.int Go.IntKind.i64)) m (Int.toNat (↑v3 : Int)))) : Int) != (↑(List.length (Eng.nthD (Eng.Ty.list (Eng.Ty.int Go.IntKind.i64)) m (Int.toNat (↑v3 : Int)))) : Int)) = Bool.true → Bool.false = Bool.true) ∧
                          (((↑(List.length (Eng.nthD (Eng.Ty.list (Eng.Ty.int Go.IntKind.i64)) m (Int.toNat (↑v3 : Int)))) : Int) != (↑(List.length (Eng.nthD (Eng.Ty.list (Eng.Ty.int Go.IntKind.i64)) m (Int.toNat (↑v3 : Int)))) : Int)) = Bool.false →
                            ((0 : Int) ≤ (↑v3 : Int) ∧ (↑v3 : Int) < (↑(List.length m) : Int)) ∧
                              ∃ (v7 : Nat),
                                ∃ (v8 : Nat),
                                  Nat.le v8 (List.length (Eng.nthD tInts m v7)) ∧
                                    (((0 : Int) = (↑v8 : Int) ∧ True) ∧ True ∧ True ∧ True ∧ True ∧ True ∧ True ∧ True ∧ True ∧ True ∧ True ∧ True ∧ True) ∧
                                      ∀ (v9 : Nat),
                                        Nat.le v9 (List.length (Eng.nthD tInts m v7)) →
                                          (Decidable.decide ((↑v9 : Int) < (↑(List.length (Eng.nthD (Eng.Ty.list (Eng.Ty.int Go.IntKind.i64)) m (Int.toNat (↑v3 : Int)))) : Int)) = Bool.true →
                                              ((0 : Int) ≤ (↑v3 : Int) ∧ (↑v3 : Int) < (↑(List.length m) : Int)) ∧
                                                ((0 : Int) ≤ (↑v9 : Int) ∧ (↑v9 : Int) < (↑(List.length (Eng.nthD (Eng.Ty.list (Eng.Ty.int Go.IntKind.i64)) m (Int.toNat (↑v3 : Int)))) : Int)) ∧
                                                  ((0 : Int) ≤ (↑v3 : Int) ∧ (↑v3 : Int) < (↑(List.length m) : Int)) ∧
                                                    ((0 : Int) ≤ (↑v9 : Int) ∧ (↑v9 : Int) < (↑(List.length (Eng.nthD (Eng.Ty.list (Eng.Ty.int Go.IntKind.i64)) m (Int.toNat (↑v3 : Int)))) : Int)) ∧
                                                      ((Eng.nthD (Eng.Ty.int Go.IntKind.i64) (Eng.nthD (Eng.Ty.list (Eng.Ty.int Go.IntKind.i64)) m (Int.toNat (↑v3 : Int))) (Int.toNat (↑v9 : Int)) != Eng.nthD (Eng.Ty.int Go.IntKind.i64) (Eng.nthD (Eng.Ty.list (Eng.Ty.int Go.IntKind.i64)) m (Int.toNat (↑v3 : Int))) (Int.toNat (↑v9 : Int))) = Bool.true → Bool.false = Bool.true) ∧
                                                        ((Eng.nthD (Eng.Ty.int Go.IntKind.i64) (Eng.nthD (Eng.Ty.list (Eng.Ty.int Go.IntKind.i64)) m (Int.toNat (↑v3 : Int))) (Int.toNat (↑v9 : Int)) != Eng.nthD (Eng.Ty.int Go.IntKind.i64) (Eng.nthD (Eng.Ty.list (Eng.Ty.int Go.IntKind.i64)) m (Int.toNat (↑v3 : Int))) (Int.toNat (↑v9 : Int))) = Bool.false →
                                                          Eng.fits Go.IntKind.i64 ((↑v9 : Int) + (1 : Int)) ∧
                                                            ∃ (v13 : Nat),
                                                              Nat.le v13 (List.length (Eng.nthD tInts m v7)) ∧
                                                                List.length (Eng.nthD tInts m v7) - v13 < List.length (Eng.nthD tInts m v7) - v9 ∧ ((↑v9 : Int) + (1 : Int) = (↑v13 : Int) ∧ True) ∧ True ∧ True ∧ True ∧ True ∧ True ∧ True ∧ True ∧ True ∧ True ∧ True ∧ True ∧ True)) ∧
                                            (Decidable.decide ((↑v9 : Int) < (↑(List.length (Eng.nthD (Eng.Ty.list (Eng.Ty.int Go.IntKind.i64)) m (Int.toNat (↑v3 : Int)))) : Int)) = Bool.false → Eng.fits Go.IntKind.i64 ((↑v3 : Int) + (1 : Int)) ∧ ∃ (v12 : Nat), Nat.le v12 (List.length m) ∧ List.length m - v12 < List.length m - v3 ∧ ((↑v3 : Int) + (1 : Int) = (↑v12 : Int) ∧ True) ∧ True))) ∧
                  (Decidable.decide ((↑v3 : Int) < (↑(List.length m) : Int)) = Bool.false → Bool.true = Bool.true))) (by kernel_rfl) ?_
  simp only [ne_eq, true_and, and_true, eq_self, Bool.not_eq_true', Bool.not_eq_false', decide_eq_true_eq, decide_eq_false_iff_not, Nat.le_eq, Int.not_lt, Int.not_le, Int.reduceEq, not_false_eq_true, Bool.not_eq_eq_eq_not, Bool.not_true, Bool.not_false, Int.ofNat_lt, Int.ofNat_le, Int.toNat_natCast, Int.natCast_nonneg, nthD_nth, beq_iff_eq, bne_iff_ne, beq_eq_false_iff_ne, bne_eq_false_iff_eq, Classical.not_not, List.length_cons, List.length_nil, Nat.zero_add, List.nil_append, true_implies, Nat.lt_add_one, Nat.zero_lt_succ, Int.reduceLE, Int.reduceLT]
  refine ⟨fun h => absurd trivial h, (), 0, Nat.zero_le _, rfl, fun k hk => ⟨fun hlt => ?_, fun _ => trivial⟩⟩
  have e1 : (nthD tInts m k : List Int) = nthL m k := rfl
  have e2 : (nthD (Ty.int IntKind.i64).list m k : List Int) = nthL m k := rfl
  have h10 := hl2 k hlt
  refine ⟨hlt, hlt, fun h => absurd trivial h, hlt, k, 0, Nat.zero_le _, rfl, fun t ht => ?_⟩
  rw [e1] at ht ⊢
  refine ⟨fun h1 => ⟨hlt, h1, hlt, h1, fun h => absurd trivial h, fits64 (by omega) (by omega), t + 1, h1, by omega, by omega⟩, fun h1 => ⟨fits64 (by omega) (by omega), k + 1, hlt, by omega, by omega⟩⟩
def sLaw2 : FSpec := tspec true none [tMask, .str] [.bool] (fun x => fitL x.1) (fun _ => (true, ()))
theorem maskTexts_meets : Meets Try.prog 12 sLaw2 := by
  refine meets (snd (SpecsOk.cons small_meets (SpecsOk.cons awake_meets (SpecsOk.cons parse_meets (SpecsOk.cons rParse_meets (SpecsOk.cons format_meets (SpecsOk.cons rFormat_meets (SpecsOk.cons sameM_meets (SpecsOk.cons rmvalid_meets (SpecsOk.nil _))))))))) []) Try.func12 rfl rfl (fun _ _ => none) (fun _ => by kernel_rfl) (by decide) ?_
  rintro ⟨m, s, ⟨⟩⟩ h
  revert m s
  intro (m : List (List Int)) (s : ByteArray) (h : fitL m)
  refine by_vc (B := (List.length [m] ≤ (1000 : Nat) ∧ ∀ (v0 : List (List Int)), v0 ∈ [m] → fitL v0) ∧
  ((!List.all [m] smB) = Bool.true → True ∧ Bool.true = Bool.true) ∧
    ((!List.all [m] smB) = Bool.false →
      (Decidable.decide ((2000 : Int) < (↑(ByteArray.size s) : Int)) = Bool.true →
          (Decidable.decide ((↑(ByteArray.size s) : Int) ≤ (65536 : Int)) = Bool.true → True ∧ Bool.true = Bool.true) ∧
            (Decidable.decide ((↑(ByteArray.size s) : Int) ≤ (65536 : Int)) = Bool.false →
              True ∧
                True ∧
                  True ∧
                    True ∧
                      ((!Decidable.decide (fmtB m = fmtB m)) = Bool.true → Bool.false = Bool.true) ∧
                        ((!Decidable.decide (fmtB m = fmtB m)) = Bool.false →
                          ((Prod.fst (Prod.snd (parR s)) != Prod.fst (Prod.snd (parR s))) = Bool.true → Bool.false = Bool.true) ∧
                            ((Prod.fst (Prod.snd (parR s)) != Prod.fst (Prod.snd (parR s))) = Bool.false →
                              ((Prod.snd (Prod.snd (parR s)) != Prod.snd (Prod.snd (parR s))) = Bool.true → Bool.false = Bool.true) ∧
                                ((Prod.snd (Prod.snd (parR s)) != Prod.snd (Prod.snd (parR s))) = Bool.false →
                                  (Prod.fst (parR s) = Prod.fst (parR s) ∧ (Prod.fst (parR s) = [] ∨ validB (Prod.fst (parR s)) = Bool.true)) ∧
                                    ((!Bool.true) = Bool.true → Bool.false = Bool.true) ∧
                                      ((!Bool.true) = Bool.false →
                                        True ∧
                                          ((!validB m) = Bool.true → True ∧ Bool.true = Bool.true) ∧
                                            ((!validB m) = Bool.false →
                                              True ∧
                                                True ∧
                                                  ((Prod.snd (Prod.snd (parR (fmtB m))) == (0 : Int)) = Bool.true →
                                                      (Prod.fst (parR (fmtB m)) = m ∧ (Prod.fst (parR (fmtB m)) = [] ∨ validB (Prod.fst (parR (fmtB m))) = Bool.true)) ∧
                                                        (Bool.true = Bool.true → True ∧ Bool.true = Bool.true) ∧ (Bool.true = Bool.false → Bool.false = Bool.true)) ∧
                                                    ((Prod.snd (Prod.snd (parR (fmtB m))) == (0 : Int)) = Bool.false → Bool.false = Bool.true)))))))) ∧
        (Decidable.decide ((2000 : Int) < (↑(ByteArray.size s) : Int)) = Bool.false →
          True ∧
            True ∧
              True ∧
                True ∧
                  ((!Decidable.decide (fmtB m = fmtB m)) = Bool.true → Bool.false = Bool.true) ∧
                    ((!Decidable.decide (fmtB m = fmtB m)) = Bool.false →
                      ((Prod.fst (Prod.snd (parR s)) != Prod.fst (Prod.snd (parR s))) = Bool.true → Bool.false = Bool.true) ∧
                        ((Prod.fst (Prod.snd (parR s)) != Prod.fst (Prod.snd (parR s))) = Bool.false →
                          ((Prod.snd (Prod.snd (parR s)) != Prod.snd (Prod.snd (parR s))) = Bool.true → Bool.false = Bool.true) ∧
                            ((Prod.snd (Prod.snd (parR s)) != Prod.snd (Prod.snd (parR s))) = Bool.false →
                              (Prod.fst (parR s) = Prod.fst (parR s) ∧ (Prod.fst (parR s) = [] ∨ validB (Prod.fst (parR s)) = Bool.true)) ∧
                                ((!Bool.true) = Bool.true → Bool.false = Bool.true) ∧
                                  ((!Bool.true) = Bool.false →
                                    True ∧
                                      ((!validB m) = Bool.true → True ∧ Bool.true = Bool.true) ∧
                                        ((!validB m) = Bool.false →
                                          True ∧
                                            True ∧
                                              ((Prod.snd (Prod.snd (parR (fmtB m))) == (0 : Int)) = Bool.true →
                                                  (Prod.fst (parR (fmtB m)) = m ∧ (Prod.fst (parR (fmtB m)) = [] ∨ validB (Prod.fst (parR (fmtB m))) = Bool.true)) ∧
                                                    (Bool.true = Bool.true → True ∧ Bool.true = Bool.true) ∧ (Bool.true = Bool.false → Bool.false = Bool.true)) ∧
                                                ((Prod.snd (Prod.snd (parR (fmtB m))) == (0 : Int)) = Bool.false → Bool.false = Bool.true))))))))) (by kernel_rfl) ?_
  have hp := par_fmt (m := m)
  have hok := parR_ok s
  simp only [ne_eq, true_and, and_true, eq_self, Bool.not_eq_true', Bool.not_eq_false', decide_eq_true_eq, decide_eq_false_iff_not, Nat.le_eq, Int.not_lt, Int.not_le, Int.reduceEq, not_false_eq_true, Bool.not_eq_eq_eq_not, Bool.not_true, Bool.not_false, Int.ofNat_lt, Int.ofNat_le, Int.toNat_natCast, Int.natCast_nonneg, nthD_nth, beq_iff_eq, bne_iff_ne, beq_eq_false_iff_ne, bne_eq_false_iff_eq, Classical.not_not, List.length_cons, List.length_nil, Nat.zero_add, List.nil_append, true_implies, Nat.lt_add_one, Nat.zero_lt_succ, Int.reduceLE, Int.reduceLT]
  have fin : (¬True → false = true) ∧ (¬True → false = true) ∧ (¬True → false = true) ∧ ((parR s).1 = [] ∨ validB (parR s).1 = true) ∧ (false = true → false = true) ∧ (validB m = false → True) ∧
      (validB m = true → ((parR (fmtB m)).2.2 = 0 → ((parR (fmtB m)).1 = m ∧ ((parR (fmtB m)).1 = [] ∨ validB (parR (fmtB m)).1 = true)) ∧ (true = false → false = true)) ∧ (¬ (parR (fmtB m)).2.2 = 0 → false = true)) :=
    ⟨fun h => absurd trivial h, fun h => absurd trivial h, fun h => absurd trivial h, hok, id, fun _ => trivial, fun hv => by
      rw [hp hv]
      exact ⟨fun _ => ⟨⟨rfl, .inr hv⟩, fun h => by cases h⟩, fun h => absurd rfl h⟩⟩
  exact ⟨⟨by omega, fun v hv => (show v = m by simpa using hv) ▸ h⟩, fun _ => trivial, fun _ => ⟨fun _ => ⟨fun _ => trivial, fun _ => fin⟩, fun _ => fin⟩⟩
end Go.Proofs.Ytkkmlcengneomaa
