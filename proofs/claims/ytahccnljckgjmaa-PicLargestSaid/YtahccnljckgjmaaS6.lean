/- Sizes and steps of pic: contracts by the engine. No condition. -/
import Derived.Test.YtahccnljckgjmaaS4
import Derived.Test.YtahccnljckgjmaaKpLaw

set_option linter.unusedVariables false
set_option linter.unusedSimpArgs false

namespace Go.Proofs.Ytahccnljckgjmaa
open Go Go.RowKit Eng Ls

def smallB (B : Int) (n : Int) : Prop := -B ≤ n ∧ n ≤ B
def sSize : FSpec := tspec true none [tInt] [tInt] (fun x => smallB 100000000 x.1) (fun x => (sz x.1, ()))
theorem size_meets : Meets Try.prog 70 sSize := by
  refine meets (snd (SpecsOk.nil _) []) Try.func70 rfl rfl (fun x _ => none) (fun _ => by kernel_rfl) (by decide) ?_
  rintro ⟨n, ⟨⟩⟩ h
  revert n
  intro (n : Int) (h : smallB 100000000 n)
  refine by_vc (B := Eng.fits Go.IntKind.i64 ((0 : Int) - n) ∧ Eng.max2 Bool.true n ((0 : Int) - n) = sz n) (by kernel_rfl) ?_
  obtain ⟨h1, h2⟩ := h
  refine ⟨fits64 (by omega) (by omega), ?_⟩
  show max n (0 - n) = max n (-n)
  rw [Int.zero_sub]
def smallL (B : Int) (l : List Int) : Prop := l.length ≤ 1000 ∧ ∀ i, smallB B (nth l i)
def sTotal : FSpec := tspec true none [tInts] [tInt] (fun x => smallL 100000000 x.1) (fun x => (sumA x.1, ()))
def ivTotal (l : List Int) : Nat → Option Inv
  | 0 => some (Inv.of [3, 5, 8] 0 (fun k : Nat => [(3, .lit (.int .i64 (su (fun i => sz (nth l i)) k))), (5, .any), (8, .lit (.int .i64 k))]) (fun _ => []) (fun k => k ≤ l.length) (fun k => l.length - k))
  | _ => none
theorem sz_bd {B n : Int} (h : smallB B n) : 0 ≤ sz n ∧ sz n ≤ B := by
  obtain ⟨h1, h2⟩ := h
  unfold sz
  omega
theorem su_sz_bd {l : List Int} {B : Int} (hB : 0 ≤ B) (h : ∀ i, smallB B (nth l i)) (k : Nat) : 0 ≤ su (fun i => sz (nth l i)) k ∧ su (fun i => sz (nth l i)) k ≤ B * k := by
  induction k with
  | zero => exact ⟨Int.le_refl _, by simp [su]⟩
  | succ k ih =>
    have h1 := sz_bd (h k)
    have e : su (fun i => sz (nth l i)) (k + 1) = su (fun i => sz (nth l i)) k + sz (nth l k) := rfl
    have e2 : B * ((k + 1 : Nat) : Int) = B * k + B := by rw [Int.natCast_add, Int.mul_add]; simp
    rw [e, e2]
    omega
theorem vlist_small {l : List Int} (h : vlistB l = true) : smallL 100000000 l := by
  unfold vlistB at h
  rw [Bool.and_eq_true, inB_iff] at h
  obtain ⟨⟨h1, h2⟩, h3⟩ := h
  refine ⟨by omega, fun i => ?_⟩
  by_cases hi : i < l.length
  · have e : nth l i = l[i] := by simp [nth, hi]
    have h4 := List.all_eq_true.1 h3 _ (List.getElem_mem hi)
    rw [inB_iff] at h4
    rw [e]
    exact ⟨by omega, by omega⟩
  · rw [nth_past _ _ (by omega)]
    exact ⟨by omega, by omega⟩
theorem total_meets : Meets Try.prog 65 sTotal := by
  refine meets (snd (SpecsOk.cons size_meets (SpecsOk.nil _)) []) Try.func65 rfl rfl (fun x => ivTotal x.1) (fun _ => by kernel_rfl) (by decide) ?_
  rintro ⟨l, ⟨⟩⟩ h
  revert l
  intro (l : List Int) (h : smallL 100000000 l)
  refine by_vc (B := ∃ (v0 : Unit),
  ∃ (v1 : Nat),
    Nat.le v1 (List.length l) ∧
      (((0 : Int) = su (fun (v2 : Nat) => sz (Ls.nth l v2)) v1 ∧ True ∧ (0 : Int) = (↑v1 : Int) ∧ True) ∧ True) ∧
        ∀ (v2 : Nat),
          Nat.le v2 (List.length l) →
            (Decidable.decide ((↑v2 : Int) < (↑(List.length l) : Int)) = Bool.true →
                ((0 : Int) ≤ (↑v2 : Int) ∧ (↑v2 : Int) < (↑(List.length l) : Int)) ∧
                  smallB (100000000 : Int) (Eng.nthD (Eng.Ty.int Go.IntKind.i64) l (Int.toNat (↑v2 : Int))) ∧
                    Eng.fits Go.IntKind.i64 (su (fun (v5 : Nat) => sz (Ls.nth l v5)) v2 + sz (Eng.nthD (Eng.Ty.int Go.IntKind.i64) l (Int.toNat (↑v2 : Int)))) ∧
                      Eng.fits Go.IntKind.i64 ((↑v2 : Int) + (1 : Int)) ∧
                        ∃ (v5 : Nat),
                          Nat.le v5 (List.length l) ∧
                            List.length l - v5 < List.length l - v2 ∧
                              (su (fun (v6 : Nat) => sz (Ls.nth l v6)) v2 + sz (Eng.nthD (Eng.Ty.int Go.IntKind.i64) l (Int.toNat (↑v2 : Int))) = su (fun (v6 : Nat) => sz (Ls.nth l v6)) v5 ∧ True ∧ (↑v2 : Int) + (1 : Int) = (↑v5 : Int) ∧ True) ∧ True) ∧
              (Decidable.decide ((↑v2 : Int) < (↑(List.length l) : Int)) = Bool.false → su (fun (v5 : Nat) => sz (Ls.nth l v5)) v2 = sumA l)) (by kernel_rfl) ?_
  obtain ⟨h1, h2⟩ := h
  simp only [ne_eq, true_and, and_true, eq_self, Bool.not_eq_true', Bool.not_eq_false', decide_eq_true_eq, decide_eq_false_iff_not, Nat.le_eq, Int.not_lt, Int.not_le, Int.reduceEq, not_false_eq_true, Bool.not_eq_eq_eq_not, Bool.not_true, Bool.not_false, Int.ofNat_lt, Int.ofNat_le, Int.toNat_natCast, Int.natCast_nonneg, nthD_nth, beq_iff_eq, bne_iff_ne, beq_eq_false_iff_ne, bne_eq_false_iff_eq, Classical.not_not, List.length_cons, List.length_nil, Nat.zero_add, List.nil_append, true_implies, Nat.lt_add_one, Nat.zero_lt_succ, Int.reduceLE, Int.reduceLT]
  refine ⟨(), 0, Nat.zero_le _, ⟨rfl, rfl⟩, fun k hk => ⟨fun hlt => ⟨hlt, h2 k, ?_, fits64 (by omega) (by omega), k + 1, by omega, by omega, rfl, by omega⟩, fun hge => ?_⟩⟩
  · have h3 := su_sz_bd (l := l) (B := 100000000) (by omega) h2 k
    have h4 := su_sz_bd (l := l) (B := 100000000) (by omega) h2 (k + 1)
    have h5 : (k : Int) < 1000 := by omega
    have e : su (fun i => sz (nth l i)) (k + 1) = su (fun i => sz (nth l i)) k + sz (nth l k) := rfl
    rw [← e]
    exact fits64 (by omega) (by omega)
  · obtain rfl : k = l.length := by omega
    rfl
def sizR (l : List Int) : Int := if vlistB l then sumA l else 0
def sizE (l : List Int) : Int := if vlistB l then 0 else 1
def sSizeL : FSpec := tspec true none [tInts] [tInt, tInt] (fun _ => True) (fun x => (sizR x.1, sizE x.1, ()))
theorem Size_meets : Meets Try.prog 44 sSizeL := by
  refine meets (snd (SpecsOk.cons vlist_meets (SpecsOk.cons total_meets (SpecsOk.nil _))) []) Try.func44 rfl rfl (fun x _ => none) (fun _ => by kernel_rfl) (by decide) ?_
  rintro ⟨l, ⟨⟩⟩ -
  revert l
  intro (l : List Int)
  refine by_vc (B := True ∧
  ((!vlistB l) = Bool.true → (0 : Int) = sizR l ∧ (1 : Int) = sizE l ∧ True) ∧ ((!vlistB l) = Bool.false → smallL (100000000 : Int) l ∧ sumA l = sizR l ∧ (0 : Int) = sizE l ∧ True)) (by kernel_rfl) ?_
  simp only [ne_eq, true_and, and_true, eq_self, Bool.not_eq_true', Bool.not_eq_false', decide_eq_true_eq, decide_eq_false_iff_not, Nat.le_eq, Int.not_lt, Int.not_le, Int.reduceEq, not_false_eq_true, Bool.not_eq_eq_eq_not, Bool.not_true, Bool.not_false, Int.ofNat_lt, Int.ofNat_le, Int.toNat_natCast, Int.natCast_nonneg, nthD_nth, beq_iff_eq, bne_iff_ne, beq_eq_false_iff_ne, bne_eq_false_iff_eq, Classical.not_not, List.length_cons, List.length_nil, Nat.zero_add, List.nil_append, true_implies, Nat.lt_add_one, Nat.zero_lt_succ, Int.reduceLE, Int.reduceLT]
  refine ⟨fun h => by simp [sizR, sizE, h], fun h => ⟨vlist_small h, by simp [sizR, h], by simp [sizE, h]⟩⟩
/-- The steps from one pixel on; from the first k. -/
def stpAt (a : Nat) (l : List Int) (i : Nat) : List Int := (if 0 < (i + 1) % a then [nth l i - nth l (i + 1)] else []) ++ (if i + a < l.length then [nth l i - nth l (i + a)] else [])
def stpTo (a : Nat) (l : List Int) : Nat → List Int
  | 0 => []
  | k + 1 => stpTo a l k ++ stpAt a l k
def stpR (W H : Int) (l : List Int) : Int := if validP W H l then sumA (stpTo W.toNat l l.length) else 0
def stpE (W H : Int) (l : List Int) : Int := if validP W H l then 0 else 1
def sStep : FSpec := tspec true none [tPic] [tInt, tInt] (fun _ => True) (fun x => (stpR x.1.1 x.1.2.1 x.1.2.2, stpE x.1.1 x.1.2.1 x.1.2.2, ()))
def ivStep (W H : Int) (l : List Int) : Nat → Option Inv
  | 0 => some (Inv.of [4, 5, 6, 13] 2 (fun k : Nat => [(4, .own 1), (5, .any), (6, .any), (13, .lit (.int .i64 k))]) (fun k => [.box 30 (.cons (.lit (.int .i64 W)) (.cons (.lit (.int .i64 H)) (.cons (.dat tInt l) .nil))), .vec 3 tInt (stpTo W.toNat l k)]) (fun k => k ≤ l.length) (fun k => l.length - k))
  | _ => none
theorem stpTo_len (a : Nat) (l : List Int) (k : Nat) : (stpTo a l k).length ≤ 2 * k := by
  induction k with
  | zero => exact Nat.le_refl _
  | succ k ih =>
    have : (stpAt a l k).length ≤ 2 := by unfold stpAt; split <;> split <;> simp
    rw [stpTo, List.length_append]
    omega
theorem stpTo_small {a : Nat} {l : List Int} (h : ∀ i, -1000000 ≤ nth l i ∧ nth l i ≤ 1000000) (k : Nat) : ∀ i, smallB 100000000 (nth (stpTo a l k) i) := by
  have key : ∀ k, ∀ x ∈ stpTo a l k, smallB 100000000 x := by
    intro k
    induction k with
    | zero => intro x hx; cases hx
    | succ k ih =>
      intro x hx
      rw [stpTo] at hx
      rcases List.mem_append.1 hx with hx | hx
      · exact ih x hx
      · have h1 := h k
        have h2 := h (k + 1)
        have h3 := h (k + a)
        unfold stpAt at hx
        rcases List.mem_append.1 hx with hx | hx <;> split at hx <;> simp at hx <;> subst hx <;> exact ⟨by omega, by omega⟩
  intro i
  by_cases hi : i < (stpTo a l k).length
  · have : nth (stpTo a l k) i = (stpTo a l k)[i] := by simp [nth, hi]
    rw [this]
    exact key k _ (List.getElem_mem _)
  · rw [nth_past _ _ (by omega)]
    exact ⟨by omega, by omega⟩
theorem stp_in {a b k n : Nat} (hn : n = a * b) (ha : 1 ≤ a) (hk : k < n) (h : 0 < (k + 1) % a) : k + 1 < n := by
  rcases Nat.lt_or_ge (k + 1) n with h1 | h1
  · exact h1
  · exfalso
    have : k + 1 = a * b := by omega
    rw [this, Nat.mul_mod_right] at h
    omega
theorem steps_meets : Meets Try.prog 43 sStep := by
  refine meets (snd (SpecsOk.cons valid_meets (SpecsOk.cons total_meets (SpecsOk.nil _))) []) Try.func43 rfl rfl (fun x => ivStep x.1.1 x.1.2.1 x.1.2.2) (fun _ => by kernel_rfl) (by decide) ?_
  rintro ⟨⟨W, H, l⟩, ⟨⟩⟩ -
  revert W H l
  intro (W : Int) (H : Int) (l : List Int)
  refine by_vc (B := True ∧
  ((!validP W H l) = Bool.true → (0 : Int) = stpR W H l ∧ (1 : Int) = stpE W H l ∧ True) ∧
    ((!validP W H l) = Bool.false →
      ∃ (v1 : Unit),
        ∃ (v2 : Nat),
          Nat.le v2 (List.length l) ∧
            ((True ∧ True ∧ True ∧ (0 : Int) = (↑v2 : Int) ∧ True) ∧ (W = W ∧ H = H ∧ l = l ∧ True) ∧ stpTo (Int.toNat W) l v2 = [] ∧ True) ∧
              ∀ (v3 : Nat),
                Nat.le v3 (List.length l) →
                  (Decidable.decide ((↑v3 : Int) < (↑(List.length l) : Int)) = Bool.true →
                      ((0 : Int) ≤ (↑v3 : Int) ∧ (↑v3 : Int) < (↑(List.length l) : Int)) ∧
                        Eng.fits Go.IntKind.i64 ((↑v3 : Int) + (1 : Int)) ∧
                          W ≠ (0 : Int) ∧
                            (Decidable.decide ((0 : Int) < Int.tmod ((↑v3 : Int) + (1 : Int)) W) = Bool.true →
                                Eng.fits Go.IntKind.i64 ((↑v3 : Int) + (1 : Int)) ∧
                                  ((0 : Int) ≤ (↑v3 : Int) + (1 : Int) ∧ (↑v3 : Int) + (1 : Int) < (↑(List.length l) : Int)) ∧
                                    Eng.fits Go.IntKind.i64 (Eng.nthD (Eng.Ty.int Go.IntKind.i64) l (Int.toNat (↑v3 : Int)) - Eng.nthD tInt l (Int.toNat ((↑v3 : Int) + (1 : Int)))) ∧
                                      ((0 : Nat) < List.length [Eng.nthD (Eng.Ty.int Go.IntKind.i64) l (Int.toNat (↑v3 : Int)) - Eng.nthD tInt l (Int.toNat ((↑v3 : Int) + (1 : Int)))] ∧
                                          List.length (stpTo (Int.toNat W) l v3) + List.length [Eng.nthD (Eng.Ty.int Go.IntKind.i64) l (Int.toNat (↑v3 : Int)) - Eng.nthD tInt l (Int.toNat ((↑v3 : Int) + (1 : Int)))] ≤ (1000000 : Nat)) ∧
                                        Eng.fits Go.IntKind.i64 ((↑v3 : Int) + W) ∧
                                          (Decidable.decide ((↑v3 : Int) + W < (↑(List.length l) : Int)) = Bool.true →
                                              Eng.fits Go.IntKind.i64 ((↑v3 : Int) + W) ∧
                                                ((0 : Int) ≤ (↑v3 : Int) + W ∧ (↑v3 : Int) + W < (↑(List.length l) : Int)) ∧
                                                  Eng.fits Go.IntKind.i64 (Eng.nthD (Eng.Ty.int Go.IntKind.i64) l (Int.toNat (↑v3 : Int)) - Eng.nthD tInt l (Int.toNat ((↑v3 : Int) + W))) ∧
                                                    ((0 : Nat) < List.length [Eng.nthD (Eng.Ty.int Go.IntKind.i64) l (Int.toNat (↑v3 : Int)) - Eng.nthD tInt l (Int.toNat ((↑v3 : Int) + W))] ∧
                                                        List.length (stpTo (Int.toNat W) l v3 ++ [Eng.nthD (Eng.Ty.int Go.IntKind.i64) l (Int.toNat (↑v3 : Int)) - Eng.nthD tInt l (Int.toNat ((↑v3 : Int) + (1 : Int)))]) +
                                                            List.length [Eng.nthD (Eng.Ty.int Go.IntKind.i64) l (Int.toNat (↑v3 : Int)) - Eng.nthD tInt l (Int.toNat ((↑v3 : Int) + W))] ≤
                                                          (1000000 : Nat)) ∧
                                                      Eng.fits Go.IntKind.i64 ((↑v3 : Int) + (1 : Int)) ∧
                                                        ∃ (v8 : Nat),
                                                          Nat.le v8 (List.length l) ∧
                                                            List.length l - v8 < List.length l - v3 ∧
                                                              (True ∧ True ∧ True ∧ (↑v3 : Int) + (1 : Int) = (↑v8 : Int) ∧ True) ∧
                                                                (W = W ∧ H = H ∧ l = l ∧ True) ∧
                                                                  stpTo (Int.toNat W) l v3 ++ [Eng.nthD (Eng.Ty.int Go.IntKind.i64) l (Int.toNat (↑v3 : Int)) - Eng.nthD tInt l (Int.toNat ((↑v3 : Int) + (1 : Int)))] ++
                                                                        [Eng.nthD (Eng.Ty.int Go.IntKind.i64) l (Int.toNat (↑v3 : Int)) - Eng.nthD tInt l (Int.toNat ((↑v3 : Int) + W))] =
                                                                      stpTo (Int.toNat W) l v8 ∧
                                                                    True) ∧
                                            (Decidable.decide ((↑v3 : Int) + W < (↑(List.length l) : Int)) = Bool.false →
                                              Eng.fits Go.IntKind.i64 ((↑v3 : Int) + (1 : Int)) ∧
                                                ∃ (v8 : Nat),
                                                  Nat.le v8 (List.length l) ∧
                                                    List.length l - v8 < List.length l - v3 ∧
                                                      (True ∧ True ∧ True ∧ (↑v3 : Int) + (1 : Int) = (↑v8 : Int) ∧ True) ∧
                                                        (W = W ∧ H = H ∧ l = l ∧ True) ∧ stpTo (Int.toNat W) l v3 ++ [Eng.nthD (Eng.Ty.int Go.IntKind.i64) l (Int.toNat (↑v3 : Int)) - Eng.nthD tInt l (Int.toNat ((↑v3 : Int) + (1 : Int)))] = stpTo (Int.toNat W) l v8 ∧ True)) ∧
                              (Decidable.decide ((0 : Int) < Int.tmod ((↑v3 : Int) + (1 : Int)) W) = Bool.false →
                                Eng.fits Go.IntKind.i64 ((↑v3 : Int) + W) ∧
                                  (Decidable.decide ((↑v3 : Int) + W < (↑(List.length l) : Int)) = Bool.true →
                                      Eng.fits Go.IntKind.i64 ((↑v3 : Int) + W) ∧
                                        ((0 : Int) ≤ (↑v3 : Int) + W ∧ (↑v3 : Int) + W < (↑(List.length l) : Int)) ∧
                                          Eng.fits Go.IntKind.i64 (Eng.nthD (Eng.Ty.int Go.IntKind.i64) l (Int.toNat (↑v3 : Int)) - Eng.nthD tInt l (Int.toNat ((↑v3 : Int) + W))) ∧
                                            ((0 : Nat) < List.length [Eng.nthD (Eng.Ty.int Go.IntKind.i64) l (Int.toNat (↑v3 : Int)) - Eng.nthD tInt l (Int.toNat ((↑v3 : Int) + W))] ∧
                                                List.length (stpTo (Int.toNat W) l v3) + List.length [Eng.nthD (Eng.Ty.int Go.IntKind.i64) l (Int.toNat (↑v3 : Int)) - Eng.nthD tInt l (Int.toNat ((↑v3 : Int) + W))] ≤ (1000000 : Nat)) ∧
                                              Eng.fits Go.IntKind.i64 ((↑v3 : Int) + (1 : Int)) ∧
                                                ∃ (v8 : Nat),
                                                  Nat.le v8 (List.length l) ∧
                                                    List.length l - v8 < List.length l - v3 ∧
                                                      (True ∧ True ∧ True ∧ (↑v3 : Int) + (1 : Int) = (↑v8 : Int) ∧ True) ∧
                                                        (W = W ∧ H = H ∧ l = l ∧ True) ∧ stpTo (Int.toNat W) l v3 ++ [Eng.nthD (Eng.Ty.int Go.IntKind.i64) l (Int.toNat (↑v3 : Int)) - Eng.nthD tInt l (Int.toNat ((↑v3 : Int) + W))] = stpTo (Int.toNat W) l v8 ∧ True) ∧
                                    (Decidable.decide ((↑v3 : Int) + W < (↑(List.length l) : Int)) = Bool.false →
                                      Eng.fits Go.IntKind.i64 ((↑v3 : Int) + (1 : Int)) ∧ ∃ (v8 : Nat), Nat.le v8 (List.length l) ∧ List.length l - v8 < List.length l - v3 ∧ (True ∧ True ∧ True ∧ (↑v3 : Int) + (1 : Int) = (↑v8 : Int) ∧ True) ∧ (W = W ∧ H = H ∧ l = l ∧ True) ∧ stpTo (Int.toNat W) l v3 = stpTo (Int.toNat W) l v8 ∧ True))) ∧
                    (Decidable.decide ((↑v3 : Int) < (↑(List.length l) : Int)) = Bool.false → smallL (100000000 : Int) (stpTo (Int.toNat W) l v3) ∧ sumA (stpTo (Int.toNat W) l v3) = stpR W H l ∧ (0 : Int) = stpE W H l ∧ True))) (by kernel_rfl) ?_
  simp only [ne_eq, true_and, and_true, eq_self, Bool.not_eq_true', Bool.not_eq_false', decide_eq_true_eq, decide_eq_false_iff_not, Nat.le_eq, Int.not_lt, Int.not_le, Int.reduceEq, not_false_eq_true, Bool.not_eq_eq_eq_not, Bool.not_true, Bool.not_false, Int.ofNat_lt, Int.ofNat_le, Int.toNat_natCast, Int.natCast_nonneg, nthD_nth, beq_iff_eq, bne_iff_ne, beq_eq_false_iff_ne, bne_eq_false_iff_eq, Classical.not_not, List.length_cons, List.length_nil, Nat.zero_add, List.nil_append, true_implies, Nat.lt_add_one, Nat.zero_lt_succ, Int.reduceLE, Int.reduceLT]
  refine ⟨fun h => by simp [stpR, stpE, h], fun hv => ?_⟩
  obtain ⟨a, b, hp⟩ := IsPic.of hv
  obtain ⟨rfl, rfl, ha1, ha2, hb1, hb2, hn, hn2, hbd⟩ := hp
  have hs := nth_small hbd
  simp only [Int.toNat_natCast]
  refine ⟨(), 0, Nat.zero_le _, ⟨rfl, rfl⟩, fun k hk => ⟨fun hlt => ⟨hlt, fits64 (by omega) (by omega), by omega, fun h => ?_, fun h => ?_⟩, fun hge => ?_⟩⟩
  all_goals have hl := stpTo_len a l k
  all_goals have e : stpTo a l (k + 1) = stpTo a l k ++ stpAt a l k := rfl
  · rw [show (k : Int) + 1 = ((k + 1 : Nat) : Int) by omega] at h ⊢
    rw [tmodN] at h
    have h0 : 0 < (k + 1) % a := by omega
    have hk1 := stp_in hn ha1 hlt h0
    rw [show (k : Int) + (a : Int) = ((k + a : Nat) : Int) by omega]
    simp only [Int.toNat_natCast]
    have s1 := hs k
    have s2 := hs (k + 1)
    have s3 := hs (k + a)
    refine ⟨fits64 (by omega) (by omega), ⟨by omega, by omega⟩, fits64 (by omega) (by omega), by omega, fits64 (by omega) (by omega), fun h2 => ⟨fits64 (by omega) (by omega), ⟨by omega, by omega⟩, fits64 (by omega) (by omega), by simp; omega, fits64 (by omega) (by omega), k + 1, by omega, by omega, by omega, ?_⟩, fun h2 => ⟨fits64 (by omega) (by omega), k + 1, by omega, by omega, by omega, ?_⟩⟩
    · rw [e, stpAt, if_pos h0, if_pos (by omega), List.append_assoc]
    · rw [e, stpAt, if_pos h0, if_neg (by omega), List.append_nil]
  · rw [show (k : Int) + 1 = ((k + 1 : Nat) : Int) by omega, tmodN] at h
    rw [show (k : Int) + (a : Int) = ((k + a : Nat) : Int) by omega]
    simp only [Int.toNat_natCast]
    have s1 := hs k
    have s3 := hs (k + a)
    refine ⟨fits64 (by omega) (by omega), fun h2 => ⟨fits64 (by omega) (by omega), ⟨by omega, by omega⟩, fits64 (by omega) (by omega), by omega, fits64 (by omega) (by omega), k + 1, by omega, by omega, by omega, ?_⟩, fun h2 => ⟨fits64 (by omega) (by omega), k + 1, by omega, by omega, by omega, ?_⟩⟩
    · rw [e, stpAt, if_neg (by omega), if_pos (by omega), List.nil_append]
    · rw [e, stpAt, if_neg (by omega), if_neg (by omega), List.append_nil, List.append_nil]
  · obtain rfl : k = l.length := by omega
    exact ⟨⟨by omega, stpTo_small hs l.length⟩, by simp [stpR, hv], by simp [stpE, hv]⟩

/-! ### The steps' sum -/
theorem sumA_append (x y : List Int) : sumA (x ++ y) = sumA x + sumA y := by
  unfold sumA
  rw [List.length_append, su_split]
  congr 1
  · refine su_congr fun t ht => ?_
    have : nth (x ++ y) t = nth x t := by simp [nth, List.getElem?_append_left ht]
    rw [this]
  · refine su_congr fun t ht => ?_
    have : nth (x ++ y) (x.length + t) = nth y t := by simp [nth, List.getElem?_append_right]
    rw [this]
theorem sumA_one (u : Int) : sumA [u] = sz u := by
  show 0 + sz (nth [u] 0) = sz u
  rw [Int.zero_add]; rfl
theorem sumA_stp (a : Nat) (l : List Int) (k : Nat) : sumA (stpTo a l k) = su (fun i => hst a l i + vst a l i) k := by
  induction k with
  | zero => rfl
  | succ k ih =>
    rw [stpTo, sumA_append, ih]
    show _ = su (fun i => hst a l i + vst a l i) k + (hst a l k + vst a l k)
    congr 1
    unfold stpAt hst vst
    rw [sumA_append]
    congr 1
    · split
      · exact sumA_one _
      · rfl
    · split
      · exact sumA_one _
      · rfl
theorem stpR_eq {a b : Nat} {l : List Int} (hv : validP a b l = true) : stpR a b l = stepSum a l := by
  unfold stpR
  rw [if_pos hv, sumA_stp, Int.toNat_natCast]
  rfl
end Go.Proofs.Ytahccnljckgjmaa
