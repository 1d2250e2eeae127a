/- The law PicLargest, by the engine. No condition. -/
import Derived.Test.YtahccnljckgjmaaS8

set_option linter.unusedVariables false
set_option linter.unusedSimpArgs false
namespace Go.Proofs.Ytahccnljckgjmaa
open Go Go.RowKit Eng Ls

/-! ### What was met -/
abbrev metAt (m : List Bool) (i : Nat) : Bool := nthD .bool m i
def stepM (n : Nat) (m : List Bool) (i : Int) : List Bool := if 0 ≤ i ∧ i < n ∧ metAt m i.toNat = false then m.set i.toNat true else m
def metT (n : Nat) (s : List Int) : Nat → List Bool
  | 0 => List.replicate n false
  | t + 1 => stepM n (metT n s t) (nth s t)
theorem metT_len (n : Nat) (s : List Int) (t : Nat) : (metT n s t).length = n := by
  induction t with
  | zero => simp [metT]
  | succ t ih =>
    rw [metT, stepM]
    split <;> simp [ih]
/-- The sum of 'f' over what was met. -/
def sumM (n : Nat) (f : Int → Int) (m : List Bool) : Int := su (fun i => if metAt m i = true then f (i : Int) else 0) n
theorem metAt_set {m : List Bool} {j : Nat} (hj : j < m.length) (i : Nat) : metAt (m.set j true) i = if i = j then true else metAt m i := by
  unfold metAt nthD
  rw [List.getD_eq_getElem?_getD, List.getD_eq_getElem?_getD, List.getElem?_set]
  by_cases e : j = i
  · subst e; simp [hj]
  · rw [if_neg e, if_neg (Ne.symm e)]
theorem su_upd {f g : Nat → Int} {d : Int} {j : Nat} (hg : g j = f j + d) (ho : ∀ i, i ≠ j → g i = f i) : ∀ n, j < n → su g n = su f n + d
  | 0, h => by omega
  | n + 1, h => by
    show su g n + g n = su f n + f n + d
    by_cases e : n = j
    · subst e
      rw [hg, su_congr fun t ht => ho t (by omega)]
      omega
    · rw [su_upd hg ho n (by omega), ho n e]
      omega
theorem sumM_set {n : Nat} (f : Int → Int) {m : List Bool} {i : Int} (hl : m.length = n) (h0 : 0 ≤ i) (h1 : i < n) (h2 : metAt m i.toNat = false) : sumM n f (m.set i.toNat true) = sumM n f m + f i := by
  obtain ⟨j, rfl⟩ : ∃ j : Nat, i = j := ⟨i.toNat, by omega⟩
  rw [Int.toNat_natCast] at h2 ⊢
  have hjn : j < n := by omega
  refine su_upd ?_ (fun t ht => ?_) n hjn
  · show (if metAt (m.set j true) j = true then f j else 0) = (if metAt m j = true then f j else 0) + f j
    have hj : j < m.length := by rw [hl]; omega
    rw [metAt_set hj, if_pos rfl, h2]
    simp
  · show (if metAt (m.set j true) t = true then f t else 0) = if metAt m t = true then f t else 0
    have hj : j < m.length := by rw [hl]; omega
    rw [metAt_set hj, if_neg ht]
theorem sumM_zero (n : Nat) (f : Int → Int) : sumM n f (List.replicate n false) = 0 := by
  refine (su_congr fun t ht => ?_).trans (su_zero n)
  have : metAt (List.replicate n false) t = false := by
    unfold metAt nthD
    rw [List.getD_eq_getElem?_getD, List.getElem?_replicate, if_pos ht]; rfl
  rw [this]
  rfl
theorem sumM_filter (n : Nat) (f : Int → Int) (m : List Bool) : sumM n f m = sumF f ((idx n).filter fun x => metAt m x.toNat) := by
  have key : ∀ k, su (fun i => if metAt m i = true then f (i : Int) else 0) k = sumF f ((idx k).filter fun x => metAt m x.toNat) := by
    intro k
    induction k with
    | zero => rfl
    | succ k ih =>
      rw [idx_succ, List.filter_append, sumF_append, ← ih]
      show _ + (if metAt m k = true then f (k : Int) else 0) = _
      congr 1
      by_cases h : metAt m k = true
      · rw [if_pos h, List.filter_cons_of_pos (by simpa using h)]; simp [sumF]
      · rw [if_neg h, List.filter_cons_of_neg (by simpa using h)]; rfl
  exact key n
theorem sumF_one : ∀ l : List Int, sumF (fun _ => 1) l = l.length
  | [] => rfl
  | x :: l => by simp [sumF, sumF_one l]; omega
theorem sumF_su (f : Int → Int) (l : List Int) : sumF f l = su (fun j => f (nth l j)) l.length := by
  have key : ∀ k, k ≤ l.length → sumF f (l.take k) = su (fun j => f (nth l j)) k := by
    intro k
    induction k with
    | zero => intro _; rfl
    | succ k ih =>
      intro hk
      have e : l.take (k + 1) = l.take k ++ [nth l k] := by
        rw [List.take_add_one]
        congr 1
        rw [List.getElem?_eq_getElem (by omega)]
        simp [nth, show k < l.length by omega]
      rw [e, sumF_append, ih (by omega)]
      simp [sumF, su]
  have := key l.length (Nat.le_refl _)
  rwa [List.take_length] at this
theorem sumM_bd {n : Nat} {B : Int} (f : Int → Int) (h : ∀ i : Nat, i < n → 0 ≤ f i ∧ f i ≤ B) (hB : 0 ≤ B) (m : List Bool) : 0 ≤ sumM n f m ∧ sumM n f m ≤ B * n := by
  have key : ∀ k, k ≤ n → 0 ≤ su (fun i => if metAt m i = true then f (i : Int) else 0) k ∧ su (fun i => if metAt m i = true then f (i : Int) else 0) k ≤ B * k := by
    intro k
    induction k with
    | zero => intro _; exact ⟨Int.le_refl _, by simp [su]⟩
    | succ k ih =>
      intro hk
      have h1 := ih (by omega)
      have h2 := h k (by omega)
      have e2 : B * ((k + 1 : Nat) : Int) = B * k + B := by rw [Int.natCast_add, Int.mul_add]; simp
      have e : su (fun i => if metAt m i = true then f (i : Int) else 0) (k + 1) = su (fun i => if metAt m i = true then f (i : Int) else 0) k + (if metAt m k = true then f (k : Int) else 0) := rfl
      rw [e, e2]
      split <;> omega
  exact key n (Nat.le_refl _)

def ivPL (l s : List Int) : Nat → Option Inv
  | 0 => some (Inv.of [5, 6, 7, 29] 1 (fun t : Nat => [(5, .own 0), (6, .lit (.int .i64 (sumM l.length (fun _ => 1) (metT l.length s t)))), (7, .lit (.int .i64 (sumM l.length (szAt l) (metT l.length s t)))), (29, .lit (.int .i64 t))])
      (fun t => [.vec 4 .bool (metT l.length s t)]) (fun t => t ≤ s.length) (fun t => s.length - t))
  | 1 => some ⟨List Int × Int, Nat, [7, 82], 1, fun b t => [(7, .lit (.int .i64 (b.2 - su (fun j => szAt l (nth b.1 j)) t))), (82, .lit (.int .i64 t))], fun b t => [.dead], fun b t => t ≤ b.1.length, fun b t => b.1.length - t⟩
  | _ => none
def sLongL : FSpec := tspec true none [.list tInts] [.bool] (fun x => x.1.length ≤ 1000) (fun x => (longB x.1, ()))
def sAwakeL : FSpec := tspec true none [] [.bool] (fun _ => True) (fun _ => (true, ()))
def spL : List (Nat × FSpec) := [(13, sLongL), (15, sAwakeL), (17, sLB vlistB), (45, sLrg)]
theorem spL_ok : SpecsOk Try.prog spL := SpecsOk.cons long_meets (SpecsOk.cons awake_meets (SpecsOk.cons rvlist_meets (SpecsOk.cons largest_meets (SpecsOk.nil _))))
theorem picLargest_meets : Meets Try.prog 11 (tspec true none [tInts, tInts] [.bool] (fun _ => True) (fun _ => (true, ()))) := by
  refine meets (snd spL_ok []) Try.func11 rfl rfl (fun x => ivPL x.1 x.2.1) (fun _ => by kernel_rfl) (by decide) ?_
  rintro ⟨l, s, ⟨⟩⟩ -
  revert l s
  intro (l : List Int) (s : List Int)
  refine by_vc (B := List.length [l, s] ≤ (1000 : Nat) ∧
  (longB [l, s] = Bool.true → True ∧ Bool.true = Bool.true) ∧
    (longB [l, s] = Bool.false →
      True ∧
        ((!vlistB l) = Bool.true → True ∧ Bool.true = Bool.true) ∧
          ((!vlistB l) = Bool.false →
            ((↑(List.length l) : Int) = (↑(List.length l) : Int) ∧ (0 : Int) ≤ (↑(List.length l) : Int) ∧ (↑(List.length l) : Int) ≤ (1000000 : Int)) ∧
              ∃ (v2 : Unit),
                ∃ (v3 : Nat),
                  Nat.le v3 (List.length s) ∧
                    ((True ∧ (0 : Int) = sumM (List.length l) (fun (v4 : Int) => (1 : Int)) (metT (List.length l) s v3) ∧ (0 : Int) = sumM (List.length l) (szAt l) (metT (List.length l) s v3) ∧ (0 : Int) = (↑v3 : Int) ∧ True) ∧
                        List.replicate (Int.toNat (↑(List.length l) : Int)) (Eng.Ty.dflt (Eng.TI.ty T4)) = metT (List.length l) s v3 ∧ True) ∧
                      ∀ (v4 : Nat),
                        Nat.le v4 (List.length s) →
                          (Decidable.decide ((↑v4 : Int) < (↑(List.length s) : Int)) = Bool.true →
                              ((0 : Int) ≤ (↑v4 : Int) ∧ (↑v4 : Int) < (↑(List.length s) : Int)) ∧
                                (Decidable.decide ((0 : Int) ≤ Eng.nthD (Eng.Ty.int Go.IntKind.i64) s (Int.toNat (↑v4 : Int))) = Bool.true →
                                    (Decidable.decide (Eng.nthD (Eng.Ty.int Go.IntKind.i64) s (Int.toNat (↑v4 : Int)) < (↑(List.length l) : Int)) = Bool.true →
                                        ((0 : Int) ≤ Eng.nthD (Eng.Ty.int Go.IntKind.i64) s (Int.toNat (↑v4 : Int)) ∧ Eng.nthD (Eng.Ty.int Go.IntKind.i64) s (Int.toNat (↑v4 : Int)) < (↑(List.length (metT (List.length l) s v4)) : Int)) ∧
                                          Int.toNat (Eng.nthD (Eng.Ty.int Go.IntKind.i64) s (Int.toNat (↑v4 : Int))) < List.length (metT (List.length l) s v4) ∧
                                            ((!Eng.nthD Eng.Ty.bool (metT (List.length l) s v4) (Int.toNat (Eng.nthD (Eng.Ty.int Go.IntKind.i64) s (Int.toNat (↑v4 : Int))))) = Bool.true →
                                                ((0 : Int) ≤ Eng.nthD (Eng.Ty.int Go.IntKind.i64) s (Int.toNat (↑v4 : Int)) ∧ Eng.nthD (Eng.Ty.int Go.IntKind.i64) s (Int.toNat (↑v4 : Int)) < (↑(List.length (metT (List.length l) s v4)) : Int)) ∧
                                                  Int.toNat (Eng.nthD (Eng.Ty.int Go.IntKind.i64) s (Int.toNat (↑v4 : Int))) < List.length (metT (List.length l) s v4) ∧
                                                    Eng.fits Go.IntKind.i64 (sumM (List.length l) (fun (v10 : Int) => (1 : Int)) (metT (List.length l) s v4) + (1 : Int)) ∧
                                                      ((0 : Int) ≤ Eng.nthD (Eng.Ty.int Go.IntKind.i64) s (Int.toNat (↑v4 : Int)) ∧ Eng.nthD (Eng.Ty.int Go.IntKind.i64) s (Int.toNat (↑v4 : Int)) < (↑(List.length l) : Int)) ∧
                                                        ((0 : Int) ≤ Eng.nthD (Eng.Ty.int Go.IntKind.i64) s (Int.toNat (↑v4 : Int)) ∧ Eng.nthD (Eng.Ty.int Go.IntKind.i64) s (Int.toNat (↑v4 : Int)) < (↑(List.length l) : Int)) ∧
                                                          Eng.fits Go.IntKind.i64 ((0 : Int) - Eng.nthD (Eng.Ty.int Go.IntKind.i64) l (Int.toNat (Eng.nthD (Eng.Ty.int Go.IntKind.i64) s (Int.toNat (↑v4 : Int))))) ∧
                                                            Eng.fits Go.IntKind.i64
                                                                (sumM (List.length l) (szAt l) (metT (List.length l) s v4) +
                                                                  Eng.max2 Bool.true (Eng.nthD (Eng.Ty.int Go.IntKind.i64) l (Int.toNat (Eng.nthD (Eng.Ty.int Go.IntKind.i64) s (Int.toNat (↑v4 : Int))))) ((0 : Int) - Eng.nthD (Eng.Ty.int Go.IntKind.i64) l (Int.toNat (Eng.nthD (Eng.Ty.int Go.IntKind.i64) s (Int.toNat (↑v4 : Int)))))) ∧
                                                              Eng.fits Go.IntKind.i64 ((↑v4 : Int) + (1 : Int)) ∧
                                                                ∃ (v10 : Nat),
                                                                  Nat.le v10 (List.length s) ∧
                                                                    List.length s - v10 < List.length s - v4 ∧
                                                                      (True ∧
                                                                          sumM (List.length l) (fun (v11 : Int) => (1 : Int)) (metT (List.length l) s v4) + (1 : Int) = sumM (List.length l) (fun (v11 : Int) => (1 : Int)) (metT (List.length l) s v10) ∧
                                                                            sumM (List.length l) (szAt l) (metT (List.length l) s v4) +
                                                                                  Eng.max2 Bool.true (Eng.nthD (Eng.Ty.int Go.IntKind.i64) l (Int.toNat (Eng.nthD (Eng.Ty.int Go.IntKind.i64) s (Int.toNat (↑v4 : Int))))) ((0 : Int) - Eng.nthD (Eng.Ty.int Go.IntKind.i64) l (Int.toNat (Eng.nthD (Eng.Ty.int Go.IntKind.i64) s (Int.toNat (↑v4 : Int))))) =
                                                                                sumM (List.length l) (szAt l) (metT (List.length l) s v10) ∧
                                                                              (↑v4 : Int) + (1 : Int) = (↑v10 : Int) ∧ True) ∧
                                                                        List.set (metT (List.length l) s v4) (Int.toNat (Eng.nthD (Eng.Ty.int Go.IntKind.i64) s (Int.toNat (↑v4 : Int)))) Bool.true = metT (List.length l) s v10 ∧ True) ∧
                                              ((!Eng.nthD Eng.Ty.bool (metT (List.length l) s v4) (Int.toNat (Eng.nthD (Eng.Ty.int Go.IntKind.i64) s (Int.toNat (↑v4 : Int))))) = Bool.false →
                                                Eng.fits Go.IntKind.i64 ((↑v4 : Int) + (1 : Int)) ∧
                                                  ∃ (v10 : Nat),
                                                    Nat.le v10 (List.length s) ∧
                                                      List.length s - v10 < List.length s - v4 ∧
                                                        (True ∧
                                                            sumM (List.length l) (fun (v11 : Int) => (1 : Int)) (metT (List.length l) s v4) = sumM (List.length l) (fun (v11 : Int) => (1 : Int)) (metT (List.length l) s v10) ∧
                                                              sumM (List.length l) (szAt l) (metT (List.length l) s v4) = sumM (List.length l) (szAt l) (metT (List.length l) s v10) ∧ (↑v4 : Int) + (1 : Int) = (↑v10 : Int) ∧ True) ∧
                                                          metT (List.length l) s v4 = metT (List.length l) s v10 ∧ True)) ∧
                                      (Decidable.decide (Eng.nthD (Eng.Ty.int Go.IntKind.i64) s (Int.toNat (↑v4 : Int)) < (↑(List.length l) : Int)) = Bool.false →
                                        Eng.fits Go.IntKind.i64 ((↑v4 : Int) + (1 : Int)) ∧
                                          ∃ (v9 : Nat),
                                            Nat.le v9 (List.length s) ∧
                                              List.length s - v9 < List.length s - v4 ∧
                                                (True ∧
                                                    sumM (List.length l) (fun (v10 : Int) => (1 : Int)) (metT (List.length l) s v4) = sumM (List.length l) (fun (v10 : Int) => (1 : Int)) (metT (List.length l) s v9) ∧
                                                      sumM (List.length l) (szAt l) (metT (List.length l) s v4) = sumM (List.length l) (szAt l) (metT (List.length l) s v9) ∧ (↑v4 : Int) + (1 : Int) = (↑v9 : Int) ∧ True) ∧
                                                  metT (List.length l) s v4 = metT (List.length l) s v9 ∧ True)) ∧
                                  (Decidable.decide ((0 : Int) ≤ Eng.nthD (Eng.Ty.int Go.IntKind.i64) s (Int.toNat (↑v4 : Int))) = Bool.false →
                                    Eng.fits Go.IntKind.i64 ((↑v4 : Int) + (1 : Int)) ∧
                                      ∃ (v8 : Nat),
                                        Nat.le v8 (List.length s) ∧
                                          List.length s - v8 < List.length s - v4 ∧
                                            (True ∧
                                                sumM (List.length l) (fun (v9 : Int) => (1 : Int)) (metT (List.length l) s v4) = sumM (List.length l) (fun (v9 : Int) => (1 : Int)) (metT (List.length l) s v8) ∧
                                                  sumM (List.length l) (szAt l) (metT (List.length l) s v4) = sumM (List.length l) (szAt l) (metT (List.length l) s v8) ∧ (↑v4 : Int) + (1 : Int) = (↑v8 : Int) ∧ True) ∧
                                              metT (List.length l) s v4 = metT (List.length l) s v8 ∧ True)) ∧
                            (Decidable.decide ((↑v4 : Int) < (↑(List.length s) : Int)) = Bool.false →
                              True ∧
                                ((lrgE l (sumM (List.length l) (fun (v8 : Int) => (1 : Int)) (metT (List.length l) s v4)) != (0 : Int)) = Bool.true → Bool.false = Bool.true) ∧
                                  ((lrgE l (sumM (List.length l) (fun (v8 : Int) => (1 : Int)) (metT (List.length l) s v4)) != (0 : Int)) = Bool.false →
                                    (((↑(List.length (lrgR l (sumM (List.length l) (fun (v9 : Int) => (1 : Int)) (metT (List.length l) s v4)))) : Int) != sumM (List.length l) (fun (v9 : Int) => (1 : Int)) (metT (List.length l) s v4)) = Bool.true →
                                        Bool.false = Bool.true) ∧
                                      (((↑(List.length (lrgR l (sumM (List.length l) (fun (v9 : Int) => (1 : Int)) (metT (List.length l) s v4)))) : Int) != sumM (List.length l) (fun (v9 : Int) => (1 : Int)) (metT (List.length l) s v4)) = Bool.false →
                                        ∃ (v9 : List Int × Int),
                                          ∃ (v10 : Nat),
                                            Nat.le v10 (List.length (Prod.fst v9)) ∧
                                              ((sumM (List.length l) (szAt l) (metT (List.length l) s v4) = Prod.snd v9 - su (fun (v11 : Nat) => szAt l (Ls.nth (Prod.fst v9) v11)) v10 ∧ (0 : Int) = (↑v10 : Int) ∧ True) ∧ True ∧ True) ∧
                                                ∀ (v11 : Nat),
                                                  Nat.le v11 (List.length (Prod.fst v9)) →
                                                    (Decidable.decide ((↑v11 : Int) < (↑(List.length (lrgR l (sumM (List.length l) (fun (v14 : Int) => (1 : Int)) (metT (List.length l) s v4)))) : Int)) = Bool.true →
                                                        ((0 : Int) ≤ (↑v11 : Int) ∧ (↑v11 : Int) < (↑(List.length (lrgR l (sumM (List.length l) (fun (v14 : Int) => (1 : Int)) (metT (List.length l) s v4)))) : Int)) ∧
                                                          (Decidable.decide (Eng.nthD (Eng.Ty.int Go.IntKind.i64) (lrgR l (sumM (List.length l) (fun (v15 : Int) => (1 : Int)) (metT (List.length l) s v4))) (Int.toNat (↑v11 : Int)) < (0 : Int)) = Bool.true → Bool.false = Bool.true) ∧
                                                            (Decidable.decide (Eng.nthD (Eng.Ty.int Go.IntKind.i64) (lrgR l (sumM (List.length l) (fun (v15 : Int) => (1 : Int)) (metT (List.length l) s v4))) (Int.toNat (↑v11 : Int)) < (0 : Int)) = Bool.false →
                                                              (Decidable.decide ((↑(List.length l) : Int) ≤ Eng.nthD (Eng.Ty.int Go.IntKind.i64) (lrgR l (sumM (List.length l) (fun (v16 : Int) => (1 : Int)) (metT (List.length l) s v4))) (Int.toNat (↑v11 : Int))) = Bool.true → Bool.false = Bool.true) ∧
                                                                (Decidable.decide ((↑(List.length l) : Int) ≤ Eng.nthD (Eng.Ty.int Go.IntKind.i64) (lrgR l (sumM (List.length l) (fun (v16 : Int) => (1 : Int)) (metT (List.length l) s v4))) (Int.toNat (↑v11 : Int))) = Bool.false →
                                                                  (Decidable.decide ((0 : Int) < (↑v11 : Int)) = Bool.true →
                                                                      Eng.fits Go.IntKind.i64 ((↑v11 : Int) - (1 : Int)) ∧
                                                                        ((0 : Int) ≤ (↑v11 : Int) - (1 : Int) ∧ (↑v11 : Int) - (1 : Int) < (↑(List.length (lrgR l (sumM (List.length l) (fun (v17 : Int) => (1 : Int)) (metT (List.length l) s v4)))) : Int)) ∧
                                                                          (Decidable.decide
                                                                                  (Eng.nthD (Eng.Ty.int Go.IntKind.i64) (lrgR l (sumM (List.length l) (fun (v18 : Int) => (1 : Int)) (metT (List.length l) s v4))) (Int.toNat (↑v11 : Int)) ≤
                                                                                    Eng.nthD (Eng.Ty.int Go.IntKind.i64) (lrgR l (sumM (List.length l) (fun (v18 : Int) => (1 : Int)) (metT (List.length l) s v4))) (Int.toNat ((↑v11 : Int) - (1 : Int)))) =
                                                                                Bool.true →
                                                                              Bool.false = Bool.true) ∧
                                                                            (Decidable.decide
                                                                                  (Eng.nthD (Eng.Ty.int Go.IntKind.i64) (lrgR l (sumM (List.length l) (fun (v18 : Int) => (1 : Int)) (metT (List.length l) s v4))) (Int.toNat (↑v11 : Int)) ≤
                                                                                    Eng.nthD (Eng.Ty.int Go.IntKind.i64) (lrgR l (sumM (List.length l) (fun (v18 : Int) => (1 : Int)) (metT (List.length l) s v4))) (Int.toNat ((↑v11 : Int) - (1 : Int)))) =
                                                                                Bool.false →
                                                                              ((0 : Int) ≤ Eng.nthD (Eng.Ty.int Go.IntKind.i64) (lrgR l (sumM (List.length l) (fun (v18 : Int) => (1 : Int)) (metT (List.length l) s v4))) (Int.toNat (↑v11 : Int)) ∧
                                                                                  Eng.nthD (Eng.Ty.int Go.IntKind.i64) (lrgR l (sumM (List.length l) (fun (v18 : Int) => (1 : Int)) (metT (List.length l) s v4))) (Int.toNat (↑v11 : Int)) < (↑(List.length l) : Int)) ∧
                                                                                ((0 : Int) ≤ Eng.nthD (Eng.Ty.int Go.IntKind.i64) (lrgR l (sumM (List.length l) (fun (v18 : Int) => (1 : Int)) (metT (List.length l) s v4))) (Int.toNat (↑v11 : Int)) ∧
                                                                                    Eng.nthD (Eng.Ty.int Go.IntKind.i64) (lrgR l (sumM (List.length l) (fun (v18 : Int) => (1 : Int)) (metT (List.length l) s v4))) (Int.toNat (↑v11 : Int)) < (↑(List.length l) : Int)) ∧
                                                                                  Eng.fits Go.IntKind.i64
                                                                                      ((0 : Int) - Eng.nthD (Eng.Ty.int Go.IntKind.i64) l (Int.toNat (Eng.nthD (Eng.Ty.int Go.IntKind.i64) (lrgR l (sumM (List.length l) (fun (v18 : Int) => (1 : Int)) (metT (List.length l) s v4))) (Int.toNat (↑v11 : Int))))) ∧
                                                                                    Eng.fits Go.IntKind.i64
                                                                                        (Prod.snd v9 - su (fun (v18 : Nat) => szAt l (Ls.nth (Prod.fst v9) v18)) v11 -
                                                                                          Eng.max2 Bool.true (Eng.nthD (Eng.Ty.int Go.IntKind.i64) l (Int.toNat (Eng.nthD (Eng.Ty.int Go.IntKind.i64) (lrgR l (sumM (List.length l) (fun (v18 : Int) => (1 : Int)) (metT (List.length l) s v4))) (Int.toNat (↑v11 : Int)))))
                                                                                            ((0 : Int) - Eng.nthD (Eng.Ty.int Go.IntKind.i64) l (Int.toNat (Eng.nthD (Eng.Ty.int Go.IntKind.i64) (lrgR l (sumM (List.length l) (fun (v18 : Int) => (1 : Int)) (metT (List.length l) s v4))) (Int.toNat (↑v11 : Int)))))) ∧
                                                                                      Eng.fits Go.IntKind.i64 ((↑v11 : Int) + (1 : Int)) ∧
                                                                                        ∃ (v18 : Nat),
                                                                                          Nat.le v18 (List.length (Prod.fst v9)) ∧
                                                                                            List.length (Prod.fst v9) - v18 < List.length (Prod.fst v9) - v11 ∧
                                                                                              (Prod.snd v9 - su (fun (v19 : Nat) => szAt l (Ls.nth (Prod.fst v9) v19)) v11 -
                                                                                                      Eng.max2 Bool.true
                                                                                                        (Eng.nthD (Eng.Ty.int Go.IntKind.i64) l (Int.toNat (Eng.nthD (Eng.Ty.int Go.IntKind.i64) (lrgR l (sumM (List.length l) (fun (v19 : Int) => (1 : Int)) (metT (List.length l) s v4))) (Int.toNat (↑v11 : Int)))))
                                                                                                        ((0 : Int) -
                                                                                                          Eng.nthD (Eng.Ty.int Go.IntKind.i64) l (Int.toNat (Eng.nthD (Eng.Ty.int Go.IntKind.i64) (lrgR l (sumM (List.length l) (fun (v19 : Int) => (1 : Int)) (metT (List.length l) s v4))) (Int.toNat (↑v11 : Int))))) =
                                                                                                    Prod.snd v9 - su (fun (v19 : Nat) => szAt l (Ls.nth (Prod.fst v9) v19)) v18 ∧
                                                                                                  (↑v11 : Int) + (1 : Int) = (↑v18 : Int) ∧ True) ∧
                                                                                                True ∧ True)) ∧
                                                                    (Decidable.decide ((0 : Int) < (↑v11 : Int)) = Bool.false →
                                                                      ((0 : Int) ≤ Eng.nthD (Eng.Ty.int Go.IntKind.i64) (lrgR l (sumM (List.length l) (fun (v17 : Int) => (1 : Int)) (metT (List.length l) s v4))) (Int.toNat (↑v11 : Int)) ∧
                                                                          Eng.nthD (Eng.Ty.int Go.IntKind.i64) (lrgR l (sumM (List.length l) (fun (v17 : Int) => (1 : Int)) (metT (List.length l) s v4))) (Int.toNat (↑v11 : Int)) < (↑(List.length l) : Int)) ∧
                                                                        ((0 : Int) ≤ Eng.nthD (Eng.Ty.int Go.IntKind.i64) (lrgR l (sumM (List.length l) (fun (v17 : Int) => (1 : Int)) (metT (List.length l) s v4))) (Int.toNat (↑v11 : Int)) ∧
                                                                            Eng.nthD (Eng.Ty.int Go.IntKind.i64) (lrgR l (sumM (List.length l) (fun (v17 : Int) => (1 : Int)) (metT (List.length l) s v4))) (Int.toNat (↑v11 : Int)) < (↑(List.length l) : Int)) ∧
                                                                          Eng.fits Go.IntKind.i64 ((0 : Int) - Eng.nthD (Eng.Ty.int Go.IntKind.i64) l (Int.toNat (Eng.nthD (Eng.Ty.int Go.IntKind.i64) (lrgR l (sumM (List.length l) (fun (v17 : Int) => (1 : Int)) (metT (List.length l) s v4))) (Int.toNat (↑v11 : Int))))) ∧
                                                                            Eng.fits Go.IntKind.i64
                                                                                (Prod.snd v9 - su (fun (v17 : Nat) => szAt l (Ls.nth (Prod.fst v9) v17)) v11 -
                                                                                  Eng.max2 Bool.true (Eng.nthD (Eng.Ty.int Go.IntKind.i64) l (Int.toNat (Eng.nthD (Eng.Ty.int Go.IntKind.i64) (lrgR l (sumM (List.length l) (fun (v17 : Int) => (1 : Int)) (metT (List.length l) s v4))) (Int.toNat (↑v11 : Int)))))
                                                                                    ((0 : Int) - Eng.nthD (Eng.Ty.int Go.IntKind.i64) l (Int.toNat (Eng.nthD (Eng.Ty.int Go.IntKind.i64) (lrgR l (sumM (List.length l) (fun (v17 : Int) => (1 : Int)) (metT (List.length l) s v4))) (Int.toNat (↑v11 : Int)))))) ∧
                                                                              Eng.fits Go.IntKind.i64 ((↑v11 : Int) + (1 : Int)) ∧
                                                                                ∃ (v17 : Nat),
                                                                                  Nat.le v17 (List.length (Prod.fst v9)) ∧
                                                                                    List.length (Prod.fst v9) - v17 < List.length (Prod.fst v9) - v11 ∧
                                                                                      (Prod.snd v9 - su (fun (v18 : Nat) => szAt l (Ls.nth (Prod.fst v9) v18)) v11 -
                                                                                              Eng.max2 Bool.true
                                                                                                (Eng.nthD (Eng.Ty.int Go.IntKind.i64) l (Int.toNat (Eng.nthD (Eng.Ty.int Go.IntKind.i64) (lrgR l (sumM (List.length l) (fun (v18 : Int) => (1 : Int)) (metT (List.length l) s v4))) (Int.toNat (↑v11 : Int)))))
                                                                                                ((0 : Int) - Eng.nthD (Eng.Ty.int Go.IntKind.i64) l (Int.toNat (Eng.nthD (Eng.Ty.int Go.IntKind.i64) (lrgR l (sumM (List.length l) (fun (v18 : Int) => (1 : Int)) (metT (List.length l) s v4))) (Int.toNat (↑v11 : Int))))) =
                                                                                            Prod.snd v9 - su (fun (v18 : Nat) => szAt l (Ls.nth (Prod.fst v9) v18)) v17 ∧
                                                                                          (↑v11 : Int) + (1 : Int) = (↑v17 : Int) ∧ True) ∧
                                                                                        True ∧ True)))) ∧
                                                      (Decidable.decide ((↑v11 : Int) < (↑(List.length (lrgR l (sumM (List.length l) (fun (v14 : Int) => (1 : Int)) (metT (List.length l) s v4)))) : Int)) = Bool.false →
                                                        (Decidable.decide (Prod.snd v9 - su (fun (v15 : Nat) => szAt l (Ls.nth (Prod.fst v9) v15)) v11 ≤ (0 : Int)) = Bool.true → True ∧ Bool.true = Bool.true) ∧
                                                          (Decidable.decide (Prod.snd v9 - su (fun (v15 : Nat) => szAt l (Ls.nth (Prod.fst v9) v15)) v11 ≤ (0 : Int)) = Bool.false → Bool.false = Bool.true)))))))) (by kernel_rfl) ?_
  simp only [ne_eq, true_and, and_true, eq_self, Bool.not_eq_true', Bool.not_eq_false', decide_eq_true_eq, decide_eq_false_iff_not, Nat.le_eq, Int.not_lt, Int.not_le, Int.reduceEq, not_false_eq_true, Bool.not_eq_eq_eq_not, Bool.not_true, Bool.not_false, Int.ofNat_lt, Int.ofNat_le, Int.toNat_natCast, Int.natCast_nonneg, nthD_nth, beq_iff_eq, bne_iff_ne, beq_eq_false_iff_ne, bne_eq_false_iff_eq, Classical.not_not, List.length_cons, List.length_nil, Nat.zero_add, List.nil_append, true_implies, Nat.lt_add_one, Nat.zero_lt_succ, Int.reduceLE, Int.reduceLT]
  refine ⟨by omega, fun _ => trivial, fun hlong => ⟨fun _ => trivial, fun hv => ?_⟩⟩
  obtain ⟨hlen, hsm⟩ := vlist_small hv
  have hsl : s.length ≤ 600 := by
    simp only [longB, List.any_cons, List.any_nil, Bool.or_false, Bool.or_eq_false_iff, decide_eq_false_iff_not] at hlong
    omega
  have z1 : ∀ i, 0 ≤ szAt l i ∧ szAt l i ≤ 100000000 := fun i => sz_bd (hsm _)
  refine ⟨by omega, (), 0, Nat.zero_le _, ⟨⟨(sumM_zero _ _).symm, (sumM_zero _ _).symm, rfl⟩, rfl⟩, fun t ht => ?_⟩
  have hM := metT_len l.length s t
  have e : metT l.length s (t + 1) = stepM l.length (metT l.length s t) (nth s t) := rfl
  obtain ⟨M, hMd⟩ : ∃ M, metT l.length s t = M := ⟨_, rfl⟩
  rw [hMd] at hM e ⊢
  have b1 := sumM_bd (n := l.length) (B := 1) (fun _ => 1) (fun _ _ => ⟨by omega, by omega⟩) (by omega) M
  have b2 := sumM_bd (n := l.length) (B := 100000000) (szAt l) (fun i _ => z1 i) (by omega) M
  refine ⟨fun htl => ⟨htl, fun h0 => ?_, fun h0 => ?_⟩, fun hge => ?_⟩
  · have h0 : 0 ≤ nth s t := of_decide_eq_true h0
    refine ⟨fun h1 => ?_, fun h1 => ?_⟩
    · have h1 : nth s t < (l.length : Int) := of_decide_eq_true h1
      have hm : max2 true (nth l (nth s t).toNat) (0 - nth l (nth s t).toNat) = szAt l (nth s t) := by
        show max (nth l (nth s t).toNat) (0 - nth l (nth s t).toNat) = max _ (-_)
        rw [Int.zero_sub]
      have hb := hsm (nth s t).toNat
      obtain ⟨hb1, hb2⟩ := hb
      have z2 := z1 (nth s t)
      rw [hm, hM]
      refine ⟨⟨h0, h1⟩, by omega, fun h2 => ?_, fun h2 => ?_⟩
      · have e1 : metT l.length s (t + 1) = M.set (nth s t).toNat true := by
          rw [e, stepM, if_pos ⟨h0, h1, h2⟩]
        have e2 := sumM_set (fun _ => 1) hM h0 h1 h2
        have e3 := sumM_set (szAt l) hM h0 h1 h2
        exact ⟨⟨h0, h1⟩, by omega, fits64 (by omega) (by omega), ⟨h0, h1⟩, ⟨h0, h1⟩, fits64 (by omega) (by omega), fits64 (by omega) (by omega), fits64 (by omega) (by omega), t + 1, by omega, by omega, ⟨by rw [e1, e2], by rw [e1, e3], by omega⟩, e1.symm⟩
      · have e1 : metT l.length s (t + 1) = M := by
          rw [e, stepM, if_neg]
          rintro ⟨_, _, h3⟩
          have h2 : metAt M (nth s t).toNat = true := h2
          rw [h2] at h3; cases h3
        exact ⟨fits64 (by omega) (by omega), t + 1, by omega, by omega, ⟨by rw [e1], by rw [e1], by omega⟩, e1.symm⟩
    · have h1 : ¬ nth s t < (l.length : Int) := of_decide_eq_false h1
      have e1 : metT l.length s (t + 1) = M := by
        rw [e, stepM, if_neg (fun h => h1 h.2.1)]
      exact ⟨fits64 (by omega) (by omega), t + 1, by omega, by omega, ⟨by rw [e1], by rw [e1], by omega⟩, e1.symm⟩
  · have h0 : ¬ 0 ≤ nth s t := of_decide_eq_false h0
    have e1 : metT l.length s (t + 1) = M := by
      rw [e, stepM, if_neg (fun h => h0 h.1)]
    exact ⟨fits64 (by omega) (by omega), t + 1, by omega, by omega, ⟨by rw [e1], by rw [e1], by omega⟩, e1.symm⟩
  · clear e hMd
    obtain ⟨K, hK⟩ : ∃ K, sumM l.length (fun _ => 1) M = K := ⟨_, rfl⟩
    obtain ⟨S, hS⟩ : ∃ S, sumM l.length (szAt l) M = S := ⟨_, rfl⟩
    rw [hK] at b1
    rw [hS] at b2
    rw [hK, hS]
    have hin : inB K 0 l.length = true := inB_iff.2 ⟨by omega, by omega⟩
    have hbl := bigL_len l K.toNat (by omega)
    have hR : lrgR l K = bigL l K.toNat := by simp [lrgR, hv, hin]
    have hE : lrgE l K = 0 := by simp [lrgE, hv, hin]
    have hmost := big_most l fun x => metAt M x.toNat
    have hlf : (((idx l.length).filter fun x => metAt M x.toNat).length : Int) = K := by
      rw [← sumF_one, ← sumM_filter, hK]
    rw [← sumM_filter, hS] at hmost
    have hlf2 : ((idx l.length).filter fun x => metAt M x.toNat).length = K.toNat := by omega
    rw [hlf2, sumF_su] at hmost
    rw [hR]
    obtain ⟨B, hB⟩ : ∃ B, bigL l K.toNat = B := ⟨_, rfl⟩
    rw [hB] at hbl hmost ⊢
    have hpw : B.Pairwise (· < ·) := by rw [← hB]; exact (idx_pw _).filter _
    have hmem : ∀ j, j < B.length → 0 ≤ nth B j ∧ nth B j < l.length := fun j hj => by
      have h1 : nth B j ∈ B := by
        have : nth B j = B[j] := by simp [nth, hj]
        rw [this]; exact List.getElem_mem _
      rw [← hB] at h1
      have h2 := (List.mem_filter.1 h1).1
      unfold idx at h2
      obtain ⟨i, hi, e1⟩ := List.mem_map.1 h2
      rw [← hB, ← e1]
      have := List.mem_range.1 hi
      exact ⟨Int.natCast_nonneg _, by show (i : Int) < _; omega⟩
    have hasc : ∀ i j, i < j → j < B.length → nth B i < nth B j := fun i j hij hj => by
      have := (List.pairwise_iff_getElem.1 hpw) i j (by omega) hj hij
      have e1 : nth B i = B[i]'(by omega) := by simp [nth, show i < B.length by omega]
      have e2 : nth B j = B[j] := by simp [nth, hj]
      rw [e1, e2]; exact this
    have hsu : ∀ j, j ≤ B.length → 0 ≤ su (fun j => szAt l (nth B j)) j ∧ su (fun j => szAt l (nth B j)) j ≤ 100000000 * j := by
      intro j
      induction j with
      | zero => intro _; exact ⟨Int.le_refl _, by simp [su]⟩
      | succ j ih =>
        intro hj
        have h1 := ih (by omega)
        have h2 := z1 (nth B j)
        have e1 : su (fun j => szAt l (nth B j)) (j + 1) = su (fun j => szAt l (nth B j)) j + szAt l (nth B j) := rfl
        rw [e1]
        omega
    refine ⟨fun h => absurd hE h, fun _ => ⟨fun h => absurd (show (B.length : Int) = K by omega) h, fun _ => ⟨(B, S), 0, Nat.zero_le _, ⟨by simp [su], rfl⟩, fun j hj => ⟨fun hjl => ?_, fun hjl => ?_⟩⟩⟩⟩
    · have hj1 := hmem j hjl
      have hj2 := hsu j (by omega)
      have hm : max2 true (nth l (nth B j).toNat) (0 - nth l (nth B j).toNat) = szAt l (nth B j) := by
        show max (nth l (nth B j).toNat) (0 - nth l (nth B j).toNat) = max _ (-_)
        rw [Int.zero_sub]
      have hz := z1 (nth B j)
      obtain ⟨hb1, hb2⟩ := hsm (nth B j).toNat
      have e1 : su (fun j => szAt l (nth B j)) (j + 1) = su (fun j => szAt l (nth B j)) j + szAt l (nth B j) := rfl
      rw [hm]
      have hjB : j < B.length := hjl
      have rest : (0 ≤ nth B j ∧ nth B j < (l.length : Int)) ∧ (0 ≤ nth B j ∧ nth B j < (l.length : Int)) ∧ fits .i64 (0 - nth l (nth B j).toNat) ∧ fits .i64 (S - su (fun j => szAt l (nth B j)) j - szAt l (nth B j)) ∧ fits .i64 ((j : Int) + 1) ∧ ∃ x' : Nat, x' ≤ B.length ∧ B.length - x' < B.length - j ∧ S - su (fun j => szAt l (nth B j)) j - szAt l (nth B j) = S - su (fun j => szAt l (nth B j)) x' ∧ (j : Int) + 1 = (x' : Int) :=
        ⟨hj1, hj1, fits64 (by omega) (by omega), fits64 (by omega) (by omega), fits64 (by omega) (by omega), j + 1, by omega, by omega, by rw [e1]; omega, by omega⟩
      refine ⟨hjl, fun h => ?_, fun _ => ⟨fun h => ?_, fun _ => ⟨fun hp => ⟨fits64 (by omega) (by omega), by omega, fun h => ?_, fun _ => rest⟩, fun _ => rest⟩⟩⟩
      · have h : nth B j < 0 := of_decide_eq_true h
        omega
      · have h : (l.length : Int) ≤ nth B j := of_decide_eq_true h
        omega
      · have hp : 0 < j := by omega
        have ha := hasc (j - 1) j (by omega) hjl
        have e2 : ((j : Int) - 1).toNat = j - 1 := by omega
        have h : nth B j ≤ nth B ((j : Int) - 1).toNat := of_decide_eq_true h
        rw [e2] at h
        omega
    · have hjB : j ≤ B.length := hj
      obtain rfl : j = B.length := by omega
      refine ⟨fun _ => trivial, fun h => ?_⟩
      have h : ¬ (S - su (fun j => szAt l (nth B j)) B.length ≤ 0) := by simpa using h
      omega
end Go.Proofs.Ytahccnljckgjmaa
