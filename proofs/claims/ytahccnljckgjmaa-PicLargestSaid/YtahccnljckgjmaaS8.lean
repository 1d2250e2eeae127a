/- Sizes, supports, steps and the largest of the reference: contracts by the engine. No condition. -/
import Derived.Test.YtahccnljckgjmaaS9

set_option linter.unusedVariables false
set_option linter.unusedSimpArgs false
namespace Go.Proofs.Ytahccnljckgjmaa
open Go Go.RowKit Eng Ls

theorem abs_meets : Meets Try.prog 72 sSize := by
  refine meets (snd (SpecsOk.nil _) []) Try.func72 rfl rfl (fun x _ => none) (fun _ => by kernel_rfl) (by decide) ?_
  rintro ⟨n, ⟨⟩⟩ h
  revert n
  intro (n : Int) (h : smallB 100000000 n)
  refine by_vc (B := Eng.fits Go.IntKind.i64 ((0 : Int) - n) ∧ Eng.max2 Bool.true n ((0 : Int) - n) = sz n) (by kernel_rfl) ?_
  obtain ⟨h1, h2⟩ := h
  refine ⟨fits64 (by omega) (by omega), ?_⟩
  show max n (0 - n) = max n (-n)
  rw [Int.zero_sub]

def ivRSize (l : List Int) : Nat → Option Inv
  | 0 => some (Inv.of [4, 12] 0 (fun k : Nat => [(4, .lit (.int .i64 (su (fun i => sz (nth l i)) k))), (12, .lit (.int .i64 k))]) (fun _ => []) (fun k => k ≤ l.length) (fun k => l.length - k))
  | _ => none
theorem rSize_meets : Meets Try.prog 46 sSizeL := by
  refine meets (snd (SpecsOk.cons rvlist_meets (SpecsOk.cons abs_meets (SpecsOk.nil _))) []) Try.func46 rfl rfl (fun x => ivRSize x.1) (fun _ => by kernel_rfl) (by decide) ?_
  rintro ⟨l, ⟨⟩⟩ -
  revert l
  intro (l : List Int)
  refine by_vc (B := True ∧
  ((!vlistB l) = Bool.true → (0 : Int) = sizR l ∧ (1 : Int) = sizE l ∧ True) ∧
    ((!vlistB l) = Bool.false →
      ∃ (v1 : Unit),
        ∃ (v2 : Nat),
          Nat.le v2 (List.length l) ∧
            (((0 : Int) = su (fun (v3 : Nat) => sz (Ls.nth l v3)) v2 ∧ (0 : Int) = (↑v2 : Int) ∧ True) ∧ True) ∧
              ∀ (v3 : Nat),
                Nat.le v3 (List.length l) →
                  (Decidable.decide ((↑v3 : Int) < (↑(List.length l) : Int)) = Bool.true →
                      ((0 : Int) ≤ (↑v3 : Int) ∧ (↑v3 : Int) < (↑(List.length l) : Int)) ∧
                        smallB (100000000 : Int) (Eng.nthD (Eng.Ty.int Go.IntKind.i64) l (Int.toNat (↑v3 : Int))) ∧
                          Eng.fits Go.IntKind.i64 (su (fun (v6 : Nat) => sz (Ls.nth l v6)) v3 + sz (Eng.nthD (Eng.Ty.int Go.IntKind.i64) l (Int.toNat (↑v3 : Int)))) ∧
                            Eng.fits Go.IntKind.i64 ((↑v3 : Int) + (1 : Int)) ∧
                              ∃ (v6 : Nat),
                                Nat.le v6 (List.length l) ∧
                                  List.length l - v6 < List.length l - v3 ∧
                                    (su (fun (v7 : Nat) => sz (Ls.nth l v7)) v3 + sz (Eng.nthD (Eng.Ty.int Go.IntKind.i64) l (Int.toNat (↑v3 : Int))) = su (fun (v7 : Nat) => sz (Ls.nth l v7)) v6 ∧ (↑v3 : Int) + (1 : Int) = (↑v6 : Int) ∧ True) ∧ True) ∧
                    (Decidable.decide ((↑v3 : Int) < (↑(List.length l) : Int)) = Bool.false → su (fun (v6 : Nat) => sz (Ls.nth l v6)) v3 = sizR l ∧ (0 : Int) = sizE l ∧ True))) (by kernel_rfl) ?_
  simp only [ne_eq, true_and, and_true, eq_self, Bool.not_eq_true', Bool.not_eq_false', decide_eq_true_eq, decide_eq_false_iff_not, Nat.le_eq, Int.not_lt, Int.not_le, Int.reduceEq, not_false_eq_true, Bool.not_eq_eq_eq_not, Bool.not_true, Bool.not_false, Int.ofNat_lt, Int.ofNat_le, Int.toNat_natCast, Int.natCast_nonneg, nthD_nth, beq_iff_eq, bne_iff_ne, beq_eq_false_iff_ne, bne_eq_false_iff_eq, Classical.not_not, List.length_cons, List.length_nil, Nat.zero_add, List.nil_append, true_implies, Nat.lt_add_one, Nat.zero_lt_succ, Int.reduceLE, Int.reduceLT]
  refine ⟨fun h => by simp [sizR, sizE, h], fun h => ?_⟩
  obtain ⟨h1, h2⟩ := vlist_small h
  refine ⟨(), 0, Nat.zero_le _, ⟨rfl, rfl⟩, fun k hk => ⟨fun hlt => ⟨hlt, h2 k, ?_, fits64 (by omega) (by omega), k + 1, by omega, by omega, rfl, by omega⟩, fun hge => ?_⟩⟩
  · have h4 := su_sz_bd (l := l) (B := 100000000) (by omega) h2 (k + 1)
    have e : su (fun i => sz (nth l i)) (k + 1) = su (fun i => sz (nth l i)) k + sz (nth l k) := rfl
    rw [← e]
    exact fits64 (by omega) (by omega)
  · obtain rfl : k = l.length := by omega
    exact ⟨by simp [sizR, h, sumA], by simp [sizE, h]⟩

/-- The places below 'k' that are not 0. -/
def supTo (l : List Int) : Nat → List Int
  | 0 => []
  | k + 1 => supTo l k ++ (if nth l k ≠ 0 then [(k : Int)] else [])
def supR (l : List Int) : List Int := if vlistB l then supTo l l.length else []
def sSup : FSpec := tspec true none [tInts] [tInts, tInt] (fun _ => True) (fun x => (supR x.1, sizE x.1, ()))
def ivSup (l : List Int) : Nat → Option Inv
  | 0 => some (Inv.of [4, 12] 1 (fun k : Nat => [(4, .own 0), (12, .lit (.int .i64 k))]) (fun k => [.vec 3 tInt (supTo l k)]) (fun k => k ≤ l.length) (fun k => l.length - k))
  | _ => none
theorem supTo_len (l : List Int) (k : Nat) : (supTo l k).length ≤ k := by
  induction k with
  | zero => exact Nat.le_refl _
  | succ k ih =>
    simp only [supTo, List.length_append]
    split <;> simp <;> omega
theorem sup_meets : Meets Try.prog 47 sSup := by
  refine meets (snd (SpecsOk.cons vlist_meets (SpecsOk.nil _)) []) Try.func47 rfl rfl (fun x => ivSup x.1) (fun _ => by kernel_rfl) (by decide) ?_
  rintro ⟨l, ⟨⟩⟩ -
  revert l
  intro (l : List Int)
  refine by_vc (B := True ∧
  ((!vlistB l) = Bool.true → supR l = [] ∧ (1 : Int) = sizE l ∧ True) ∧
    ((!vlistB l) = Bool.false →
      ∃ (v1 : Unit),
        ∃ (v2 : Nat),
          Nat.le v2 (List.length l) ∧
            ((True ∧ (0 : Int) = (↑v2 : Int) ∧ True) ∧ supTo l v2 = [] ∧ True) ∧
              ∀ (v3 : Nat),
                Nat.le v3 (List.length l) →
                  (Decidable.decide ((↑v3 : Int) < (↑(List.length l) : Int)) = Bool.true →
                      ((0 : Int) ≤ (↑v3 : Int) ∧ (↑v3 : Int) < (↑(List.length l) : Int)) ∧
                        ((Eng.nthD (Eng.Ty.int Go.IntKind.i64) l (Int.toNat (↑v3 : Int)) != (0 : Int)) = Bool.true →
                            ((0 : Nat) < List.length [(↑v3 : Int)] ∧ Nat.le (List.length (supTo l v3) + List.length [(↑v3 : Int)]) (1000000 : Nat)) ∧
                              Eng.fits Go.IntKind.i64 ((↑v3 : Int) + (1 : Int)) ∧ ∃ (v7 : Nat), Nat.le v7 (List.length l) ∧ List.length l - v7 < List.length l - v3 ∧ (True ∧ (↑v3 : Int) + (1 : Int) = (↑v7 : Int) ∧ True) ∧ supTo l v3 ++ [(↑v3 : Int)] = supTo l v7 ∧ True) ∧
                          ((Eng.nthD (Eng.Ty.int Go.IntKind.i64) l (Int.toNat (↑v3 : Int)) != (0 : Int)) = Bool.false → Eng.fits Go.IntKind.i64 ((↑v3 : Int) + (1 : Int)) ∧ ∃ (v7 : Nat), Nat.le v7 (List.length l) ∧ List.length l - v7 < List.length l - v3 ∧ (True ∧ (↑v3 : Int) + (1 : Int) = (↑v7 : Int) ∧ True) ∧ supTo l v3 = supTo l v7 ∧ True)) ∧
                    (Decidable.decide ((↑v3 : Int) < (↑(List.length l) : Int)) = Bool.false → supTo l v3 = supR l ∧ (0 : Int) = sizE l ∧ True))) (by kernel_rfl) ?_
  simp only [ne_eq, true_and, and_true, eq_self, Bool.not_eq_true', Bool.not_eq_false', decide_eq_true_eq, decide_eq_false_iff_not, Nat.le_eq, Int.not_lt, Int.not_le, Int.reduceEq, not_false_eq_true, Bool.not_eq_eq_eq_not, Bool.not_true, Bool.not_false, Int.ofNat_lt, Int.ofNat_le, Int.toNat_natCast, Int.natCast_nonneg, nthD_nth, beq_iff_eq, bne_iff_ne, beq_eq_false_iff_ne, bne_eq_false_iff_eq, Classical.not_not, List.length_cons, List.length_nil, Nat.zero_add, List.nil_append, true_implies, Nat.lt_add_one, Nat.zero_lt_succ, Int.reduceLE, Int.reduceLT]
  refine ⟨fun h => by simp [supR, sizE, h], fun h => ?_⟩
  obtain ⟨h1, h2⟩ := vlist_small h
  refine ⟨(), 0, Nat.zero_le _, ⟨rfl, rfl⟩, fun k hk => ⟨fun hlt => ⟨hlt, fun hn => ⟨?_, fits64 (by omega) (by omega), k + 1, by omega, by omega, by omega, ?_⟩, fun hn => ⟨fits64 (by omega) (by omega), k + 1, by omega, by omega, by omega, ?_⟩⟩, fun hge => ?_⟩⟩
  · have := supTo_len l k
    omega
  · rw [supTo, if_pos hn]
  · rw [supTo, if_neg (by simpa using hn), List.append_nil]
  · obtain rfl : k = l.length := by omega
    exact ⟨by simp [supR, h], by simp [sizE, h]⟩
theorem rsup_meets : Meets Try.prog 48 sSup := by
  refine meets (snd (SpecsOk.cons rvlist_meets (SpecsOk.nil _)) []) Try.func48 rfl rfl (fun x => ivSup x.1) (fun _ => by kernel_rfl) (by decide) ?_
  rintro ⟨l, ⟨⟩⟩ -
  revert l
  intro (l : List Int)
  refine by_vc (B := True ∧
  ((!vlistB l) = Bool.true → supR l = [] ∧ (1 : Int) = sizE l ∧ True) ∧
    ((!vlistB l) = Bool.false →
      ∃ (v1 : Unit),
        ∃ (v2 : Nat),
          Nat.le v2 (List.length l) ∧
            ((True ∧ (0 : Int) = (↑v2 : Int) ∧ True) ∧ supTo l v2 = [] ∧ True) ∧
              ∀ (v3 : Nat),
                Nat.le v3 (List.length l) →
                  (Decidable.decide ((↑v3 : Int) < (↑(List.length l) : Int)) = Bool.true →
                      ((0 : Int) ≤ (↑v3 : Int) ∧ (↑v3 : Int) < (↑(List.length l) : Int)) ∧
                        ((Eng.nthD (Eng.Ty.int Go.IntKind.i64) l (Int.toNat (↑v3 : Int)) != (0 : Int)) = Bool.true →
                            ((0 : Nat) < List.length [(↑v3 : Int)] ∧ Nat.le (List.length (supTo l v3) + List.length [(↑v3 : Int)]) (1000000 : Nat)) ∧
                              Eng.fits Go.IntKind.i64 ((↑v3 : Int) + (1 : Int)) ∧ ∃ (v7 : Nat), Nat.le v7 (List.length l) ∧ List.length l - v7 < List.length l - v3 ∧ (True ∧ (↑v3 : Int) + (1 : Int) = (↑v7 : Int) ∧ True) ∧ supTo l v3 ++ [(↑v3 : Int)] = supTo l v7 ∧ True) ∧
                          ((Eng.nthD (Eng.Ty.int Go.IntKind.i64) l (Int.toNat (↑v3 : Int)) != (0 : Int)) = Bool.false → Eng.fits Go.IntKind.i64 ((↑v3 : Int) + (1 : Int)) ∧ ∃ (v7 : Nat), Nat.le v7 (List.length l) ∧ List.length l - v7 < List.length l - v3 ∧ (True ∧ (↑v3 : Int) + (1 : Int) = (↑v7 : Int) ∧ True) ∧ supTo l v3 = supTo l v7 ∧ True)) ∧
                    (Decidable.decide ((↑v3 : Int) < (↑(List.length l) : Int)) = Bool.false → supTo l v3 = supR l ∧ (0 : Int) = sizE l ∧ True))) (by kernel_rfl) ?_
  simp only [ne_eq, true_and, and_true, eq_self, Bool.not_eq_true', Bool.not_eq_false', decide_eq_true_eq, decide_eq_false_iff_not, Nat.le_eq, Int.not_lt, Int.not_le, Int.reduceEq, not_false_eq_true, Bool.not_eq_eq_eq_not, Bool.not_true, Bool.not_false, Int.ofNat_lt, Int.ofNat_le, Int.toNat_natCast, Int.natCast_nonneg, nthD_nth, beq_iff_eq, bne_iff_ne, beq_eq_false_iff_ne, bne_eq_false_iff_eq, Classical.not_not, List.length_cons, List.length_nil, Nat.zero_add, List.nil_append, true_implies, Nat.lt_add_one, Nat.zero_lt_succ, Int.reduceLE, Int.reduceLT]
  refine ⟨fun h => by simp [supR, sizE, h], fun h => ?_⟩
  obtain ⟨h1, h2⟩ := vlist_small h
  refine ⟨(), 0, Nat.zero_le _, ⟨rfl, rfl⟩, fun k hk => ⟨fun hlt => ⟨hlt, fun hn => ⟨?_, fits64 (by omega) (by omega), k + 1, by omega, by omega, by omega, ?_⟩, fun hn => ⟨fits64 (by omega) (by omega), k + 1, by omega, by omega, by omega, ?_⟩⟩, fun hge => ?_⟩⟩
  · have := supTo_len l k
    omega
  · rw [supTo, if_pos hn]
  · rw [supTo, if_neg (by simpa using hn), List.append_nil]
  · obtain rfl : k = l.length := by omega
    exact ⟨by simp [supR, h], by simp [sizE, h]⟩

/-! ### Steps -/
/-- What is summed up from one pixel on; from the first k. -/
def rstAt (a : Nat) (l : List Int) (i : Nat) : Int := (if 0 < i % a then sz (nth l i - nth l (i - 1)) else 0) + (if a ≤ i then sz (nth l i - nth l (i - a)) else 0)
def rstTo (a : Nat) (l : List Int) : Nat → Int
  | 0 => 0
  | k + 1 => rstTo a l k + rstAt a l k
theorem rstTo_bd {a : Nat} {l : List Int} (hs : ∀ i, -1000000 ≤ nth l i ∧ nth l i ≤ 1000000) (k : Nat) : 0 ≤ rstTo a l k ∧ rstTo a l k ≤ 4000000 * k := by
  induction k with
  | zero => exact ⟨Int.le_refl _, by simp [rstTo]⟩
  | succ k ih =>
    have z1 : ∀ i j, 0 ≤ sz (nth l i - nth l j) ∧ sz (nth l i - nth l j) ≤ 2000000 := fun i j => by
      have s1 := hs i
      have s2 := hs j
      exact sz_bd ⟨by omega, by omega⟩
    have h1 := z1 k (k - 1)
    have h2 := z1 k (k - a)
    have e : rstTo a l (k + 1) = rstTo a l k + rstAt a l k := rfl
    rw [e]
    unfold rstAt
    split <;> split <;> omega
def rstR (W H : Int) (l : List Int) : Int := if validP W H l then rstTo W.toNat l l.length else 0
def sRStep : FSpec := tspec true none [tPic] [tInt, tInt] (fun _ => True) (fun x => (rstR x.1.1 x.1.2.1 x.1.2.2, stpE x.1.1 x.1.2.1 x.1.2.2, ()))
def ivRStep (W H : Int) (l : List Int) : Nat → Option Inv
  | 0 => some (Inv.of [1, 4, 13] 1 (fun k : Nat => [(1, .box 0 0), (4, .lit (.int .i64 (rstTo W.toNat l k))), (13, .lit (.int .i64 k))]) (fun k => [.box 30 (pAV W H (.dat tInt l))]) (fun k => k ≤ l.length) (fun k => l.length - k))
  | _ => none
theorem rsteps_meets : Meets Try.prog 50 sRStep := by
  refine meets (snd (SpecsOk.cons rvalid_meets (SpecsOk.cons abs_meets (SpecsOk.nil _))) []) Try.func50 rfl rfl (fun x => ivRStep x.1.1 x.1.2.1 x.1.2.2) (fun _ => by kernel_rfl) (by decide) ?_
  rintro ⟨⟨W, H, l⟩, ⟨⟩⟩ -
  revert W H l
  intro (W : Int) (H : Int) (l : List Int)
  refine by_vc (B := True ∧
  ((!validP W H l) = Bool.true → (0 : Int) = rstR W H l ∧ (1 : Int) = stpE W H l ∧ True) ∧
    ((!validP W H l) = Bool.false →
      ∃ (v1 : Unit),
        ∃ (v2 : Nat),
          Nat.le v2 (List.length l) ∧
            ((True ∧ (0 : Int) = rstTo (Int.toNat W) l v2 ∧ (0 : Int) = (↑v2 : Int) ∧ True) ∧ (W = W ∧ H = H ∧ l = l ∧ True) ∧ True) ∧
              ∀ (v3 : Nat),
                Nat.le v3 (List.length l) →
                  (Decidable.decide ((↑v3 : Int) < (↑(List.length l) : Int)) = Bool.true →
                      ((0 : Int) ≤ (↑v3 : Int) ∧ (↑v3 : Int) < (↑(List.length l) : Int)) ∧
                        W ≠ (0 : Int) ∧
                          (Decidable.decide ((0 : Int) < Int.tmod (↑v3 : Int) W) = Bool.true →
                              Eng.fits Go.IntKind.i64 ((↑v3 : Int) - (1 : Int)) ∧
                                ((0 : Int) ≤ (↑v3 : Int) - (1 : Int) ∧ (↑v3 : Int) - (1 : Int) < (↑(List.length l) : Int)) ∧
                                  Eng.fits Go.IntKind.i64 (Eng.nthD (Eng.Ty.int Go.IntKind.i64) l (Int.toNat (↑v3 : Int)) - Eng.nthD tInt l (Int.toNat ((↑v3 : Int) - (1 : Int)))) ∧
                                    smallB (100000000 : Int) (Eng.nthD (Eng.Ty.int Go.IntKind.i64) l (Int.toNat (↑v3 : Int)) - Eng.nthD tInt l (Int.toNat ((↑v3 : Int) - (1 : Int)))) ∧
                                      Eng.fits Go.IntKind.i64 (rstTo (Int.toNat W) l v3 + sz (Eng.nthD (Eng.Ty.int Go.IntKind.i64) l (Int.toNat (↑v3 : Int)) - Eng.nthD tInt l (Int.toNat ((↑v3 : Int) - (1 : Int))))) ∧
                                        (Decidable.decide (W ≤ (↑v3 : Int)) = Bool.true →
                                            Eng.fits Go.IntKind.i64 ((↑v3 : Int) - W) ∧
                                              ((0 : Int) ≤ (↑v3 : Int) - W ∧ (↑v3 : Int) - W < (↑(List.length l) : Int)) ∧
                                                Eng.fits Go.IntKind.i64 (Eng.nthD (Eng.Ty.int Go.IntKind.i64) l (Int.toNat (↑v3 : Int)) - Eng.nthD tInt l (Int.toNat ((↑v3 : Int) - W))) ∧
                                                  smallB (100000000 : Int) (Eng.nthD (Eng.Ty.int Go.IntKind.i64) l (Int.toNat (↑v3 : Int)) - Eng.nthD tInt l (Int.toNat ((↑v3 : Int) - W))) ∧
                                                    Eng.fits Go.IntKind.i64
                                                        (rstTo (Int.toNat W) l v3 + sz (Eng.nthD (Eng.Ty.int Go.IntKind.i64) l (Int.toNat (↑v3 : Int)) - Eng.nthD tInt l (Int.toNat ((↑v3 : Int) - (1 : Int)))) +
                                                          sz (Eng.nthD (Eng.Ty.int Go.IntKind.i64) l (Int.toNat (↑v3 : Int)) - Eng.nthD tInt l (Int.toNat ((↑v3 : Int) - W)))) ∧
                                                      Eng.fits Go.IntKind.i64 ((↑v3 : Int) + (1 : Int)) ∧
                                                        ∃ (v8 : Nat),
                                                          Nat.le v8 (List.length l) ∧
                                                            List.length l - v8 < List.length l - v3 ∧
                                                              (True ∧
                                                                  rstTo (Int.toNat W) l v3 + sz (Eng.nthD (Eng.Ty.int Go.IntKind.i64) l (Int.toNat (↑v3 : Int)) - Eng.nthD tInt l (Int.toNat ((↑v3 : Int) - (1 : Int)))) +
                                                                        sz (Eng.nthD (Eng.Ty.int Go.IntKind.i64) l (Int.toNat (↑v3 : Int)) - Eng.nthD tInt l (Int.toNat ((↑v3 : Int) - W))) =
                                                                      rstTo (Int.toNat W) l v8 ∧
                                                                    (↑v3 : Int) + (1 : Int) = (↑v8 : Int) ∧ True) ∧
                                                                (W = W ∧ H = H ∧ l = l ∧ True) ∧ True) ∧
                                          (Decidable.decide (W ≤ (↑v3 : Int)) = Bool.false →
                                            Eng.fits Go.IntKind.i64 ((↑v3 : Int) + (1 : Int)) ∧
                                              ∃ (v8 : Nat),
                                                Nat.le v8 (List.length l) ∧
                                                  List.length l - v8 < List.length l - v3 ∧
                                                    (True ∧ rstTo (Int.toNat W) l v3 + sz (Eng.nthD (Eng.Ty.int Go.IntKind.i64) l (Int.toNat (↑v3 : Int)) - Eng.nthD tInt l (Int.toNat ((↑v3 : Int) - (1 : Int)))) = rstTo (Int.toNat W) l v8 ∧ (↑v3 : Int) + (1 : Int) = (↑v8 : Int) ∧ True) ∧
                                                      (W = W ∧ H = H ∧ l = l ∧ True) ∧ True)) ∧
                            (Decidable.decide ((0 : Int) < Int.tmod (↑v3 : Int) W) = Bool.false →
                              (Decidable.decide (W ≤ (↑v3 : Int)) = Bool.true →
                                  Eng.fits Go.IntKind.i64 ((↑v3 : Int) - W) ∧
                                    ((0 : Int) ≤ (↑v3 : Int) - W ∧ (↑v3 : Int) - W < (↑(List.length l) : Int)) ∧
                                      Eng.fits Go.IntKind.i64 (Eng.nthD (Eng.Ty.int Go.IntKind.i64) l (Int.toNat (↑v3 : Int)) - Eng.nthD tInt l (Int.toNat ((↑v3 : Int) - W))) ∧
                                        smallB (100000000 : Int) (Eng.nthD (Eng.Ty.int Go.IntKind.i64) l (Int.toNat (↑v3 : Int)) - Eng.nthD tInt l (Int.toNat ((↑v3 : Int) - W))) ∧
                                          Eng.fits Go.IntKind.i64 (rstTo (Int.toNat W) l v3 + sz (Eng.nthD (Eng.Ty.int Go.IntKind.i64) l (Int.toNat (↑v3 : Int)) - Eng.nthD tInt l (Int.toNat ((↑v3 : Int) - W)))) ∧
                                            Eng.fits Go.IntKind.i64 ((↑v3 : Int) + (1 : Int)) ∧
                                              ∃ (v8 : Nat),
                                                Nat.le v8 (List.length l) ∧
                                                  List.length l - v8 < List.length l - v3 ∧
                                                    (True ∧ rstTo (Int.toNat W) l v3 + sz (Eng.nthD (Eng.Ty.int Go.IntKind.i64) l (Int.toNat (↑v3 : Int)) - Eng.nthD tInt l (Int.toNat ((↑v3 : Int) - W))) = rstTo (Int.toNat W) l v8 ∧ (↑v3 : Int) + (1 : Int) = (↑v8 : Int) ∧ True) ∧
                                                      (W = W ∧ H = H ∧ l = l ∧ True) ∧ True) ∧
                                (Decidable.decide (W ≤ (↑v3 : Int)) = Bool.false →
                                  Eng.fits Go.IntKind.i64 ((↑v3 : Int) + (1 : Int)) ∧ ∃ (v8 : Nat), Nat.le v8 (List.length l) ∧ List.length l - v8 < List.length l - v3 ∧ (True ∧ rstTo (Int.toNat W) l v3 = rstTo (Int.toNat W) l v8 ∧ (↑v3 : Int) + (1 : Int) = (↑v8 : Int) ∧ True) ∧ (W = W ∧ H = H ∧ l = l ∧ True) ∧ True))) ∧
                    (Decidable.decide ((↑v3 : Int) < (↑(List.length l) : Int)) = Bool.false → rstTo (Int.toNat W) l v3 = rstR W H l ∧ (0 : Int) = stpE W H l ∧ True))) (by kernel_rfl) ?_
  simp only [ne_eq, true_and, and_true, eq_self, Bool.not_eq_true', Bool.not_eq_false', decide_eq_true_eq, decide_eq_false_iff_not, Nat.le_eq, Int.not_lt, Int.not_le, Int.reduceEq, not_false_eq_true, Bool.not_eq_eq_eq_not, Bool.not_true, Bool.not_false, Int.ofNat_lt, Int.ofNat_le, Int.toNat_natCast, Int.natCast_nonneg, nthD_nth, beq_iff_eq, bne_iff_ne, beq_eq_false_iff_ne, bne_eq_false_iff_eq, Classical.not_not, List.length_cons, List.length_nil, Nat.zero_add, List.nil_append, true_implies, Nat.lt_add_one, Nat.zero_lt_succ, Int.reduceLE, Int.reduceLT]
  refine ⟨fun h => by simp [rstR, stpE, h], fun hv => ?_⟩
  obtain ⟨a, b, hp⟩ := IsPic.of hv
  obtain ⟨rfl, rfl, ha1, ha2, hb1, hb2, hn, hn2, hbd⟩ := hp
  have hs := nth_small hbd
  simp only [Int.toNat_natCast]
  refine ⟨(), 0, Nat.zero_le _, ⟨rfl, rfl⟩, fun k hk => ⟨fun hlt => ⟨hlt, by omega, fun h => ?_, fun h => ?_⟩, fun hge => ?_⟩⟩
  · rw [tmodN] at h
    have h0 : 0 < k % a := by omega
    have hk1 : 1 ≤ k := by
      rcases Nat.eq_zero_or_pos k with e | e
      · rw [e, Nat.zero_mod] at h0; omega
      · exact e
    rw [show (k : Int) - 1 = ((k - 1 : Nat) : Int) by omega]
    simp only [Int.toNat_natCast]
    have s1 := hs k
    have s2 := hs (k - 1)
    have z1 := sz_bd (B := 2000000) (n := nth l k - nth l (k - 1)) ⟨by omega, by omega⟩
    have hr := rstTo_bd (a := a) hs k
    have e : rstTo a l (k + 1) = rstTo a l k + rstAt a l k := rfl
    refine ⟨fits64 (by omega) (by omega), ⟨by omega, by omega⟩, fits64 (by omega) (by omega), ⟨by omega, by omega⟩, fits64 (by omega) (by omega), fun h2 => ?_, fun h2 => ⟨fits64 (by omega) (by omega), k + 1, by omega, by omega, ?_, by omega⟩⟩
    · rw [show (k : Int) - (a : Int) = ((k - a : Nat) : Int) by omega]
      simp only [Int.toNat_natCast]
      have s3 := hs (k - a)
      have z2 := sz_bd (B := 2000000) (n := nth l k - nth l (k - a)) ⟨by omega, by omega⟩
      refine ⟨fits64 (by omega) (by omega), ⟨by omega, by omega⟩, fits64 (by omega) (by omega), ⟨by omega, by omega⟩, fits64 (by omega) (by omega), fits64 (by omega) (by omega), k + 1, by omega, by omega, ?_, by omega⟩
      rw [e, rstAt, if_pos h0, if_pos (by omega)]
      omega
    · rw [e, rstAt, if_pos h0, if_neg (by omega)]
      omega
  · rw [tmodN] at h
    have s1 := hs k
    have hr := rstTo_bd (a := a) hs k
    have e : rstTo a l (k + 1) = rstTo a l k + rstAt a l k := rfl
    refine ⟨fun h2 => ?_, fun h2 => ⟨fits64 (by omega) (by omega), k + 1, by omega, by omega, ?_, by omega⟩⟩
    · rw [show (k : Int) - (a : Int) = ((k - a : Nat) : Int) by omega]
      simp only [Int.toNat_natCast]
      have s3 := hs (k - a)
      have z2 := sz_bd (B := 2000000) (n := nth l k - nth l (k - a)) ⟨by omega, by omega⟩
      refine ⟨fits64 (by omega) (by omega), ⟨by omega, by omega⟩, fits64 (by omega) (by omega), ⟨by omega, by omega⟩, fits64 (by omega) (by omega), fits64 (by omega) (by omega), k + 1, by omega, by omega, ?_, by omega⟩
      rw [e, rstAt, if_neg (by omega), if_pos (by omega)]
      omega
    · rw [e, rstAt, if_neg (by omega), if_neg (by omega)]
      omega
  · obtain rfl : k = l.length := by omega
    exact ⟨by simp [rstR, hv], by simp [stpE, hv]⟩

/-! ### The largest -/
/-- How many of the first 't' are ahead of 'k'. -/
def ahT (l : List Int) (k : Nat) : Nat → Nat
  | 0 => 0
  | t + 1 => ahT l k t + (if ltS l (t : Int) (k : Int) then 1 else 0)
def lrTo (l : List Int) (q : Int) : Nat → List Int
  | 0 => []
  | k + 1 => lrTo l q k ++ (if (ahT l k l.length : Int) < q then [(k : Int)] else [])
theorem ahT_succ (l : List Int) (k t : Nat) : ahT l k (t + 1) = ahT l k t + (if sz (nth l k) < sz (nth l t) ∨ sz (nth l t) = sz (nth l k) ∧ t < k then 1 else 0) := by
  rw [ahT]
  congr 1
  simp [ltS]
theorem ahT_le (l : List Int) (k t : Nat) : ahT l k t ≤ t := by
  induction t with
  | zero => exact Nat.le_refl _
  | succ t ih =>
    rw [ahT_succ]
    split <;> omega
theorem lrTo_len (l : List Int) (q : Int) (k : Nat) : (lrTo l q k).length ≤ k := by
  induction k with
  | zero => exact Nat.le_refl _
  | succ k ih =>
    simp only [lrTo, List.length_append]
    split <;> simp <;> omega
theorem idx_succ (n : Nat) : idx (n + 1) = idx n ++ [(n : Int)] := by
  unfold idx
  rw [List.range_succ, List.map_append]
  rfl
theorem ahT_cnt (l : List Int) (k t : Nat) : ahT l k t = (idx t).countP fun y => ltS l y (k : Int) := by
  induction t with
  | zero => rfl
  | succ t ih =>
    rw [idx_succ, List.countP_append, ← ih, ahT]
    congr 1
    rw [List.countP_singleton]
theorem lrTo_big (l : List Int) {q : Int} (hq : 0 ≤ q) : lrTo l q l.length = bigL l q.toNat := by
  have key : ∀ k, lrTo l q k = (idx k).filter fun x => decide ((idx l.length).countP (fun y => ltS l y x) < q.toNat) := by
    intro k
    induction k with
    | zero => rfl
    | succ k ih =>
      rw [idx_succ, List.filter_append, ← ih, lrTo]
      congr 1
      rw [ahT_cnt]
      by_cases h : (idx l.length).countP (fun y => ltS l y (k : Int)) < q.toNat
      · rw [if_pos (by omega), List.filter_cons_of_pos (by simpa using h)]; rfl
      · rw [if_neg (by omega), List.filter_cons_of_neg (by simpa using h)]; rfl
  exact key _
def ivRLrg (l : List Int) (q : Int) : Nat → Option Inv
  | 0 => some (Inv.of [6, 22] 1 (fun k : Nat => [(6, .own 0), (22, .lit (.int .i64 k))]) (fun k => [.vec 3 tInt (lrTo l q k)]) (fun k => k ≤ l.length) (fun k => l.length - k))
  | 1 => some ⟨Nat, Nat, [6, 9, 29], 1, fun k t => [(6, .own 0), (9, .lit (.int .i64 (ahT l k t))), (29, .lit (.int .i64 t))], fun k t => [.vec 3 tInt (lrTo l q k)], fun k t => t ≤ l.length, fun k t => l.length - t⟩
  | _ => none
theorem rlargest_meets : Meets Try.prog 49 sLrg := by
  refine meets (snd (SpecsOk.cons rvlist_meets (SpecsOk.cons qwithin_meets (SpecsOk.cons abs_meets (SpecsOk.nil _)))) []) Try.func49 rfl rfl (fun x => ivRLrg x.1 x.2.1) (fun _ => by kernel_rfl) (by decide) ?_
  rintro ⟨l, q, ⟨⟩⟩ -
  revert l q
  intro (l : List Int) (q : Int)
  refine by_vc (B := True ∧
  ((!vlistB l) = Bool.true → lrgR l q = [] ∧ (1 : Int) = lrgE l q ∧ True) ∧
    ((!vlistB l) = Bool.false →
      True ∧
        ((!inB q (0 : Int) (↑(List.length l) : Int)) = Bool.true → lrgR l q = [] ∧ (7 : Int) = lrgE l q ∧ True) ∧
          ((!inB q (0 : Int) (↑(List.length l) : Int)) = Bool.false →
            ∃ (v2 : Unit),
              ∃ (v3 : Nat),
                Nat.le v3 (List.length l) ∧
                  ((True ∧ (0 : Int) = (↑v3 : Int) ∧ True) ∧ lrTo l q v3 = [] ∧ True) ∧
                    ∀ (v4 : Nat),
                      Nat.le v4 (List.length l) →
                        (Decidable.decide ((↑v4 : Int) < (↑(List.length l) : Int)) = Bool.true →
                            ((0 : Int) ≤ (↑v4 : Int) ∧ (↑v4 : Int) < (↑(List.length l) : Int)) ∧
                              ∃ (v7 : Nat),
                                ∃ (v8 : Nat),
                                  Nat.le v8 (List.length l) ∧
                                    ((True ∧ (0 : Int) = (↑(ahT l v7 v8) : Int) ∧ (0 : Int) = (↑v8 : Int) ∧ True) ∧ lrTo l q v4 = lrTo l q v7 ∧ True) ∧
                                      ∀ (v9 : Nat),
                                        Nat.le v9 (List.length l) →
                                          (Decidable.decide ((↑v9 : Int) < (↑(List.length l) : Int)) = Bool.true →
                                              ((0 : Int) ≤ (↑v9 : Int) ∧ (↑v9 : Int) < (↑(List.length l) : Int)) ∧
                                                smallB (100000000 : Int) (Eng.nthD (Eng.Ty.int Go.IntKind.i64) l (Int.toNat (↑v9 : Int))) ∧
                                                  smallB (100000000 : Int) (Eng.nthD (Eng.Ty.int Go.IntKind.i64) l (Int.toNat (↑v4 : Int))) ∧
                                                    (Decidable.decide (sz (Eng.nthD (Eng.Ty.int Go.IntKind.i64) l (Int.toNat (↑v4 : Int))) < sz (Eng.nthD (Eng.Ty.int Go.IntKind.i64) l (Int.toNat (↑v9 : Int)))) = Bool.true →
                                                        Eng.fits Go.IntKind.i64 ((↑(ahT l v7 v9) : Int) + (1 : Int)) ∧
                                                          Eng.fits Go.IntKind.i64 ((↑v9 : Int) + (1 : Int)) ∧
                                                            ∃ (v13 : Nat),
                                                              Nat.le v13 (List.length l) ∧ List.length l - v13 < List.length l - v9 ∧ (True ∧ (↑(ahT l v7 v9) : Int) + (1 : Int) = (↑(ahT l v7 v13) : Int) ∧ (↑v9 : Int) + (1 : Int) = (↑v13 : Int) ∧ True) ∧ lrTo l q v7 = lrTo l q v7 ∧ True) ∧
                                                      (Decidable.decide (sz (Eng.nthD (Eng.Ty.int Go.IntKind.i64) l (Int.toNat (↑v4 : Int))) < sz (Eng.nthD (Eng.Ty.int Go.IntKind.i64) l (Int.toNat (↑v9 : Int)))) = Bool.false →
                                                        smallB (100000000 : Int) (Eng.nthD (Eng.Ty.int Go.IntKind.i64) l (Int.toNat (↑v9 : Int))) ∧
                                                          smallB (100000000 : Int) (Eng.nthD (Eng.Ty.int Go.IntKind.i64) l (Int.toNat (↑v4 : Int))) ∧
                                                            ((sz (Eng.nthD (Eng.Ty.int Go.IntKind.i64) l (Int.toNat (↑v9 : Int))) == sz (Eng.nthD (Eng.Ty.int Go.IntKind.i64) l (Int.toNat (↑v4 : Int)))) = Bool.true →
                                                                (Decidable.decide ((↑v9 : Int) < (↑v4 : Int)) = Bool.true →
                                                                    Eng.fits Go.IntKind.i64 ((↑(ahT l v7 v9) : Int) + (1 : Int)) ∧
                                                                      Eng.fits Go.IntKind.i64 ((↑v9 : Int) + (1 : Int)) ∧
                                                                        ∃ (v15 : Nat),
                                                                          Nat.le v15 (List.length l) ∧
                                                                            List.length l - v15 < List.length l - v9 ∧ (True ∧ (↑(ahT l v7 v9) : Int) + (1 : Int) = (↑(ahT l v7 v15) : Int) ∧ (↑v9 : Int) + (1 : Int) = (↑v15 : Int) ∧ True) ∧ lrTo l q v7 = lrTo l q v7 ∧ True) ∧
                                                                  (Decidable.decide ((↑v9 : Int) < (↑v4 : Int)) = Bool.false →
                                                                    Eng.fits Go.IntKind.i64 ((↑v9 : Int) + (1 : Int)) ∧
                                                                      ∃ (v15 : Nat),
                                                                        Nat.le v15 (List.length l) ∧ List.length l - v15 < List.length l - v9 ∧ (True ∧ (↑(ahT l v7 v9) : Int) = (↑(ahT l v7 v15) : Int) ∧ (↑v9 : Int) + (1 : Int) = (↑v15 : Int) ∧ True) ∧ lrTo l q v7 = lrTo l q v7 ∧ True)) ∧
                                                              ((sz (Eng.nthD (Eng.Ty.int Go.IntKind.i64) l (Int.toNat (↑v9 : Int))) == sz (Eng.nthD (Eng.Ty.int Go.IntKind.i64) l (Int.toNat (↑v4 : Int)))) = Bool.false →
                                                                Eng.fits Go.IntKind.i64 ((↑v9 : Int) + (1 : Int)) ∧
                                                                  ∃ (v14 : Nat),
                                                                    Nat.le v14 (List.length l) ∧ List.length l - v14 < List.length l - v9 ∧ (True ∧ (↑(ahT l v7 v9) : Int) = (↑(ahT l v7 v14) : Int) ∧ (↑v9 : Int) + (1 : Int) = (↑v14 : Int) ∧ True) ∧ lrTo l q v7 = lrTo l q v7 ∧ True))) ∧
                                            (Decidable.decide ((↑v9 : Int) < (↑(List.length l) : Int)) = Bool.false →
                                              (Decidable.decide ((↑(ahT l v7 v9) : Int) < q) = Bool.true →
                                                  ((0 : Nat) < List.length [(↑v4 : Int)] ∧ Nat.le (List.length (lrTo l q v7) + List.length [(↑v4 : Int)]) (1000000 : Nat)) ∧
                                                    Eng.fits Go.IntKind.i64 ((↑v4 : Int) + (1 : Int)) ∧ ∃ (v13 : Nat), Nat.le v13 (List.length l) ∧ List.length l - v13 < List.length l - v4 ∧ (True ∧ (↑v4 : Int) + (1 : Int) = (↑v13 : Int) ∧ True) ∧ lrTo l q v7 ++ [(↑v4 : Int)] = lrTo l q v13 ∧ True) ∧
                                                (Decidable.decide ((↑(ahT l v7 v9) : Int) < q) = Bool.false →
                                                  Eng.fits Go.IntKind.i64 ((↑v4 : Int) + (1 : Int)) ∧ ∃ (v13 : Nat), Nat.le v13 (List.length l) ∧ List.length l - v13 < List.length l - v4 ∧ (True ∧ (↑v4 : Int) + (1 : Int) = (↑v13 : Int) ∧ True) ∧ lrTo l q v7 = lrTo l q v13 ∧ True))) ∧
                          (Decidable.decide ((↑v4 : Int) < (↑(List.length l) : Int)) = Bool.false → lrTo l q v4 = lrgR l q ∧ (0 : Int) = lrgE l q ∧ True)))) (by kernel_rfl) ?_
  simp only [ne_eq, true_and, and_true, eq_self, Bool.not_eq_true', Bool.not_eq_false', decide_eq_true_eq, decide_eq_false_iff_not, Nat.le_eq, Int.not_lt, Int.not_le, Int.reduceEq, not_false_eq_true, Bool.not_eq_eq_eq_not, Bool.not_true, Bool.not_false, Int.ofNat_lt, Int.ofNat_le, Int.toNat_natCast, Int.natCast_nonneg, nthD_nth, beq_iff_eq, bne_iff_ne, beq_eq_false_iff_ne, bne_eq_false_iff_eq, Classical.not_not, List.length_cons, List.length_nil, Nat.zero_add, List.nil_append, true_implies, Nat.lt_add_one, Nat.zero_lt_succ, Int.reduceLE, Int.reduceLT]
  refine ⟨fun h => by simp [lrgR, lrgE, h], fun h1 => ⟨fun h2 => by simp [lrgR, lrgE, h1, h2], fun h2 => ?_⟩⟩
  obtain ⟨hlen, hsm⟩ := vlist_small h1
  have hq := inB_iff.1 h2
  refine ⟨(), 0, Nat.zero_le _, ⟨rfl, rfl⟩, fun k hk => ⟨fun hlt => ⟨hlt, k, 0, Nat.zero_le _, ⟨⟨rfl, rfl⟩, rfl⟩, fun t ht => ⟨fun htl => ?_, fun hge => ?_⟩⟩, fun hge => ?_⟩⟩
  · have e := ahT_succ l k t
    have hle := ahT_le l k t
    refine ⟨htl, hsm t, hsm k, fun h3 => ⟨fits64 (by omega) (by omega), fits64 (by omega) (by omega), t + 1, by omega, by omega, ?_, by omega⟩, fun h3 => ⟨hsm t, hsm k, fun h4 => ⟨fun h5 => ⟨fits64 (by omega) (by omega), fits64 (by omega) (by omega), t + 1, by omega, by omega, ?_, by omega⟩, fun h5 => ⟨fits64 (by omega) (by omega), t + 1, by omega, by omega, ?_, by omega⟩⟩, fun h4 => ⟨fits64 (by omega) (by omega), t + 1, by omega, by omega, ?_, by omega⟩⟩⟩
    · have h6 : sz (nth l k) < sz (nth l t) := of_decide_eq_true h3
      rw [e, if_pos (by omega)]; omega
    · rw [e, if_pos (by omega)]; omega
    · rw [e, if_neg (by omega)]; omega
    · have h6 : ¬ sz (nth l k) < sz (nth l t) := of_decide_eq_false h3
      rw [e, if_neg (by omega)]; omega
  · obtain rfl : t = l.length := by omega
    have hl := lrTo_len l q k
    refine ⟨fun h3 => ⟨by omega, fits64 (by omega) (by omega), k + 1, by omega, by omega, by omega, ?_⟩, fun h3 => ⟨fits64 (by omega) (by omega), k + 1, by omega, by omega, by omega, ?_⟩⟩
    · rw [lrTo, if_pos h3]
    · rw [lrTo, if_neg (by omega), List.append_nil]
  · obtain rfl : k = l.length := by omega
    exact ⟨by rw [lrTo_big l (by omega)]; simp [lrgR, h1, h2], by simp [lrgE, h1, h2]⟩
end Go.Proofs.Ytahccnljckgjmaa
