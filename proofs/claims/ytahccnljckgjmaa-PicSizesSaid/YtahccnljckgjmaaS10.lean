/- The law PicSizes, by the engine. No condition. -/
import Derived.Test.YtahccnljckgjmaaS8

set_option linter.unusedVariables false
set_option linter.unusedSimpArgs false
namespace Go.Proofs.Ytahccnljckgjmaa
open Go Go.RowKit Eng Ls

/-! ### Steps forwards and backwards -/
theorem rstTo_su (a : Nat) (l : List Int) (k : Nat) : rstTo a l k = su (rstAt a l) k := by
  induction k with
  | zero => rfl
  | succ k ih => rw [rstTo, ih]; rfl
theorem su_zero' {f : Nat → Int} {k : Nat} (h : ∀ t, t < k → f t = 0) : su f k = 0 := (su_congr h).trans (su_zero k)
theorem hor_eq (a : Nat) (l : List Int) (k : Nat) : su (fun i => if 0 < i % a then sz (nth l i - nth l (i - 1)) else 0) (k + 1) = su (hst a l) k := by
  induction k with
  | zero => show 0 + (if 0 < 0 % a then _ else 0) = 0; rw [Nat.zero_mod]; rfl
  | succ k ih =>
    show su _ (k + 1) + (if 0 < (k + 1) % a then sz (nth l (k + 1) - nth l (k + 1 - 1)) else 0) = su (hst a l) k + hst a l k
    rw [ih]
    congr 1
    unfold hst
    rw [Nat.add_sub_cancel, sz_sub]
theorem ver_eq (a n : Nat) (l : List Int) (h : l.length = a + n) : su (fun i => if a ≤ i then sz (nth l i - nth l (i - a)) else 0) l.length = su (vst a l) l.length := by
  have h1 : su (fun i => if a ≤ i then sz (nth l i - nth l (i - a)) else 0) l.length = su (fun t => sz (nth l (a + t) - nth l t)) n := by
    rw [h, su_split]
    have e1 : su (fun i => if a ≤ i then sz (nth l i - nth l (i - a)) else 0) a = 0 := su_zero' fun t ht => by rw [if_neg (by omega)]
    rw [e1, Int.zero_add]
    exact su_congr fun t ht => by rw [if_pos (by omega), Nat.add_sub_cancel_left]
  have h2 : su (vst a l) l.length = su (fun t => sz (nth l (a + t) - nth l t)) n := by
    have e0 : su (vst a l) (n + a) = _ := su_split (vst a l) n a
    rw [show l.length = n + a by omega, e0]
    have e1 : su (fun t => vst a l (n + t)) a = 0 := su_zero' fun t ht => by unfold vst; rw [if_neg (by omega)]
    rw [e1, Int.add_zero]
    exact su_congr fun t ht => by unfold vst; rw [if_pos (by omega), sz_sub, Nat.add_comm]
  rw [h1, h2]
theorem rst_eq {W H : Int} {l : List Int} : stpR W H l = rstR W H l := by
  cases hv : validP W H l with
  | false => simp [stpR, rstR, hv]
  | true =>
    obtain ⟨a, b, hp⟩ := IsPic.of hv
    obtain ⟨rfl, rfl, ha1, ha2, hb1, hb2, hn, hn2, hbd⟩ := hp
    rw [stpR_eq hv]
    unfold rstR
    rw [hv, if_pos rfl, Int.toNat_natCast, rstTo_su]
    unfold stepSum rstAt
    rw [su_add, su_add]
    have hlen : l.length = a + a * (b - 1) := by
      rw [hn]
      obtain ⟨b', rfl⟩ : ∃ b', b = b' + 1 := ⟨b - 1, by omega⟩
      rw [Nat.add_sub_cancel, Nat.mul_succ]; omega
    rw [ver_eq a _ l hlen]
    congr 1
    have hpos : 1 ≤ l.length := by omega
    obtain ⟨m, hm⟩ : ∃ m, l.length = m + 1 := ⟨l.length - 1, by omega⟩
    rw [hm, hor_eq]
    show su (hst a l) m + hst a l m = su (hst a l) m
    have : hst a l m = 0 := by
      unfold hst
      rw [← hm, hn, Nat.mul_mod_right, if_neg (by omega)]
    rw [this, Int.add_zero]

def sLongZ : FSpec := tspec true none [.list tInts] [.bool] (fun x => x.1.length ≤ 1000) (fun x => (longB x.1, ()))
def sAwakeZ : FSpec := tspec true none [] [.bool] (fun _ => True) (fun _ => (true, ()))
def sSameI : FSpec := tspec true none [tInts, tInts] [.bool] (fun _ => True) (fun x => (sameB x.1 x.2.1, ()))
def spZ : List (Nat × FSpec) := [(13, sLongZ), (15, sAwakeZ), (44, sSizeL), (46, sSizeL), (47, sSup), (48, sSup), (27, sSameI), (45, sLrg), (49, sLrg), (43, sStep), (50, sRStep)]
theorem spZ_ok : SpecsOk Try.prog spZ := SpecsOk.cons long_meets (SpecsOk.cons awake_meets (SpecsOk.cons Size_meets (SpecsOk.cons rSize_meets (SpecsOk.cons sup_meets (SpecsOk.cons rsup_meets (SpecsOk.cons sameInts_meets (SpecsOk.cons largest_meets (SpecsOk.cons rlargest_meets (SpecsOk.cons steps_meets (SpecsOk.cons rsteps_meets (SpecsOk.nil _)))))))))))
theorem picSizes_meets : Meets Try.prog 12 (tspec true none [tInts, tInt, tPic] [.bool] (fun _ => True) (fun _ => (true, ()))) := by
  refine meets (snd spZ_ok []) Try.func12 rfl rfl (fun x _ => none) (fun _ => by kernel_rfl) (by decide) ?_
  rintro ⟨l, k, ⟨W, H, z⟩, ⟨⟩⟩ -
  revert l k W H z
  intro (l : List Int) (k : Int) (W : Int) (H : Int) (z : List Int)
  refine by_vc (B := List.length [z, l] ≤ (1000 : Nat) ∧
  (longB [z, l] = Bool.true → True ∧ Bool.true = Bool.true) ∧
    (longB [z, l] = Bool.false →
      True ∧
        True ∧
          True ∧
            True ∧
              ((sizR l != sizR l) = Bool.true → Bool.false = Bool.true) ∧
                ((sizR l != sizR l) = Bool.false →
                  ((sizE l != sizE l) = Bool.true → Bool.false = Bool.true) ∧
                    ((sizE l != sizE l) = Bool.false →
                      True ∧
                        ((!sameB (supR l) (supR l)) = Bool.true → Bool.false = Bool.true) ∧
                          ((!sameB (supR l) (supR l)) = Bool.false →
                            ((sizE l != sizE l) = Bool.true → Bool.false = Bool.true) ∧
                              ((sizE l != sizE l) = Bool.false →
                                True ∧
                                  True ∧
                                    True ∧
                                      True ∧
                                        ((stpR W H z == rstR W H z) = Bool.true →
                                            ((stpE W H z == stpE W H z) = Bool.true →
                                                True ∧
                                                  (sameB (lrgR l k) (lrgR l k) = Bool.true →
                                                      ((lrgE l k == lrgE l k) = Bool.true → True ∧ Bool.true = Bool.true) ∧ ((lrgE l k == lrgE l k) = Bool.false → Bool.false = Bool.true)) ∧
                                                    (sameB (lrgR l k) (lrgR l k) = Bool.false → Bool.false = Bool.true)) ∧
                                              ((stpE W H z == stpE W H z) = Bool.false → Bool.false = Bool.true)) ∧
                                          ((stpR W H z == rstR W H z) = Bool.false → Bool.false = Bool.true))))))) (by kernel_rfl) ?_
  simp only [ne_eq, true_and, and_true, eq_self, Bool.not_eq_true', Bool.not_eq_false', decide_eq_true_eq, decide_eq_false_iff_not, Nat.le_eq, Int.not_lt, Int.not_le, Int.reduceEq, not_false_eq_true, Bool.not_eq_eq_eq_not, Bool.not_true, Bool.not_false, Int.ofNat_lt, Int.ofNat_le, Int.toNat_natCast, Int.natCast_nonneg, nthD_nth, beq_iff_eq, bne_iff_ne, beq_eq_false_iff_ne, bne_eq_false_iff_eq, Classical.not_not, List.length_cons, List.length_nil, Nat.zero_add, List.nil_append, true_implies, Nat.lt_add_one, Nat.zero_lt_succ, Int.reduceLE, Int.reduceLT]
  simp [same_self, rst_eq]
end Go.Proofs.Ytahccnljckgjmaa
