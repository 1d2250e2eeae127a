/- The law PicKeeps, by the engine. No condition. -/
import Derived.Test.YtahccnljckgjmaaS6
import Derived.Test.YtahccnljckgjmaaPLiftLaw

set_option linter.unusedVariables false
set_option linter.unusedSimpArgs false
namespace Go.Proofs.Ytahccnljckgjmaa
open Go Go.RowKit Eng Ls

def sLong : FSpec := tspec true none [.list tInts] [.bool] (fun x => x.1.length ≤ 1000) (fun x => (longB x.1, ()))
def sAwake : FSpec := tspec true none [] [.bool] (fun _ => True) (fun _ => (true, ()))
def spK : List (Nat × FSpec) := [(13, sLong), (15, sAwake), (21, sPB validP), (37, sPIP true (fun q => movR (quart q)) movE), (36, sPPB samePB), (39, sPP true (movR 4) movE), (43, sStep), (44, sSizeL)]
theorem spK_ok : SpecsOk Try.prog spK := SpecsOk.cons long_meets (SpecsOk.cons awake_meets (SpecsOk.cons rvalid_meets (SpecsOk.cons turned_meets (SpecsOk.cons same_meets (SpecsOk.cons mirrored_meets (SpecsOk.cons steps_meets (SpecsOk.cons Size_meets (SpecsOk.nil _))))))))
def ivK (W H : Int) (l : List Int) (q : Int) : Nat → Option Inv
  | 0 => some (Inv.of [16, 17, 18, 19, 20, 21, 22, 92] 5 (fun k : Nat => [(16, .any), (17, .any), (18, .any), (19, .any), (20, .any), (21, .any), (22, .any), (92, .lit (.int .i64 k))])
      (fun k => [.box 30 (pAV W H (.dat tInt l)), .dead, .dead, .dead, .dead]) (fun k => k ≤ 2) (fun k => 2 - k))
  | _ => none
theorem sumA_append (x y : List Int) : sumA (x ++ y) = sumA x + sumA y := by
  unfold sumA
  rw [List.length_append, su_split]
  congr 1
  · refine su_congr fun t ht => ?_
    have : nth (x ++ y) t = nth x t := by simp [nth, List.getElem?_append_left ht]
    rw [this]
  · refine su_congr fun t ht => ?_
    have : nth (x ++ y) (x.length + t) = nth y t := by simp [nth, List.getElem?_append_right]
    rw [this]
theorem sumA_one (u : Int) : sumA [u] = sz u := by
  show 0 + sz (nth [u] 0) = sz u
  rw [Int.zero_add]; rfl
theorem sumA_stp (a : Nat) (l : List Int) (k : Nat) : sumA (stpTo a l k) = su (fun i => hst a l i + vst a l i) k := by
  induction k with
  | zero => rfl
  | succ k ih =>
    rw [stpTo, sumA_append, ih]
    show _ = su (fun i => hst a l i + vst a l i) k + (hst a l k + vst a l k)
    congr 1
    unfold stpAt hst vst
    rw [sumA_append]
    congr 1
    · split
      · exact sumA_one _
      · rfl
    · split
      · exact sumA_one _
      · rfl
theorem stpR_eq {a b : Nat} {l : List Int} (hv : validP a b l = true) : stpR a b l = stepSum a l := by
  unfold stpR
  rw [if_pos hv, sumA_stp, Int.toNat_natCast]
  rfl
theorem bnd_srcL {B : Int} {l : List Int} {f : Nat → Nat} (hB : 0 ≤ B) (h : bndB B l = true) (n : Nat) : bndB B (srcL f l n) = true := by
  refine bnd_of fun i hi => ?_
  rw [srcL_len] at hi
  rw [srcL_nth _ _ _ _ hi]
  by_cases h2 : f i < l.length
  · exact bnd_nth h _ h2
  · rw [nth_past _ _ (by omega)]; omega
theorem bnd_rotN {a b : Nat} {l : List Int} (h : bndB 1000000 l = true) (k : Nat) : bndB 1000000 (rotN a b l k).2.2 = true := by
  induction k with
  | zero => exact h
  | succ k ih => exact bnd_srcL (by omega) ih _
theorem vlist_of_validP {W H : Int} {l : List Int} (hv : validP W H l = true) : vlistB l = true := by
  obtain ⟨a, b, hp⟩ := IsPic.of hv
  obtain ⟨rfl, rfl, h1, h2, h3, h4, h5, h6, -⟩ := hp
  have := Nat.mul_pos h1 h3
  exact vlist_iff.2 ⟨by omega, h6, (validP_iff.1 hv).2.2.2⟩
theorem quart_back (q : Int) : quart q + quart (0 - q.tmod 4) = 0 ∨ quart q + quart (0 - q.tmod 4) = 4 := by
  have h : q.tmod 4 = q % 4 ∨ q.tmod 4 = q % 4 - 4 := by
    rw [Int.tmod_eq_emod]
    split
    · left; omega
    · right; rfl
  unfold quart
  omega
/-- What turning keeps. -/
theorem keep_turn {W H : Int} {l : List Int} (hv : validP W H l = true) (q : Int) : validP (movR (quart q) W H l).1 (movR (quart q) W H l).2.1 (movR (quart q) W H l).2.2 = true ∧
    movR (quart (0 - q.tmod 4)) (movR (quart q) W H l).1 (movR (quart q) W H l).2.1 (movR (quart q) W H l).2.2 = (W, H, l) ∧ stpR (movR (quart q) W H l).1 (movR (quart q) W H l).2.1 (movR (quart q) W H l).2.2 = stpR W H l ∧ sumA (movR (quart q) W H l).2.2 = sumA l := by
  have hb := (validP_iff.1 hv).2.2.2
  obtain ⟨a, b, hp⟩ := IsPic.of hv
  obtain ⟨rfl, rfl, h1, h2, h3, h4, h5, h6, -⟩ := hp
  have e1 : movR (quart q) a b l = (((rotN a b l (quart q)).1 : Int), ((rotN a b l (quart q)).2.1 : Int), (rotN a b l (quart q)).2.2) := by
    rw [← turn_same]
    unfold rturnR
    rw [if_pos hv]
    rfl
  obtain ⟨r1, r2, r3⟩ := rotN_ok a b l h5 (quart q)
  have hab : 1 ≤ (rotN a b l (quart q)).1 ∧ (rotN a b l (quart q)).1 ≤ 16 ∧ 1 ≤ (rotN a b l (quart q)).2.1 ∧ (rotN a b l (quart q)).2.1 ≤ 16 := by rcases r3 with ⟨h, h'⟩ | ⟨h, h'⟩ <;> omega
  have v1 : validP (rotN a b l (quart q)).1 (rotN a b l (quart q)).2.1 (rotN a b l (quart q)).2.2 = true := by
    refine validP_iff.2 ⟨⟨by omega, by omega⟩, ⟨by omega, by omega⟩, ?_, bnd_rotN hb _⟩
    rw [r2, ← r1]
    simp
  rw [e1]
  refine ⟨v1, ?_, ?_, (rotN_keeps h1 h3 h5 _).2⟩
  · rw [← turn_same]
    unfold rturnR
    rw [if_pos v1]
    simp only [Int.toNat_natCast]
    rw [rotN_add a b l h5]
    rcases quart_back q with h | h
    · rw [h]; rfl
    · rw [h, rotN_four h1 h2 h3 h4 h5]
  · show stpR ((rotN a b l (quart q)).1 : Int) ((rotN a b l (quart q)).2.1 : Int) (rotN a b l (quart q)).2.2 = _
    rw [stpR_eq v1, stpR_eq hv, (rotN_keeps h1 h3 h5 _).1]
/-- What mirroring keeps. -/
theorem keep_mir {W H : Int} {l : List Int} (hv : validP W H l = true) : validP (movR 4 W H l).1 (movR 4 W H l).2.1 (movR 4 W H l).2.2 = true ∧
    movR 4 (movR 4 W H l).1 (movR 4 W H l).2.1 (movR 4 W H l).2.2 = (W, H, l) ∧ stpR (movR 4 W H l).1 (movR 4 W H l).2.1 (movR 4 W H l).2.2 = stpR W H l ∧ sumA (movR 4 W H l).2.2 = sumA l := by
  have hb := (validP_iff.1 hv).2.2.2
  obtain ⟨a, b, hp⟩ := IsPic.of hv
  obtain ⟨rfl, rfl, h1, h2, h3, h4, h5, h6, -⟩ := hp
  have e1 : movR 4 a b l = ((a : Int), (b : Int), srcL (mirP a) l l.length) := by
    rw [← mirror_same]
    unfold rmirR
    rw [if_pos hv]
    rfl
  have v1 : validP a b (srcL (mirP a) l l.length) = true := by
    refine validP_iff.2 ⟨⟨by omega, by omega⟩, ⟨by omega, by omega⟩, ?_, bnd_srcL (by omega) hb _⟩
    rw [srcL_len, h5]
    simp
  rw [e1]
  refine ⟨v1, ?_, ?_, (mir_keeps h1 h5).2⟩
  · rw [← mirror_same]
    unfold rmirR
    rw [if_pos v1]
    show ((a : Int), (b : Int), srcL (mirP a) (srcL (mirP a) l l.length) (srcL (mirP a) l l.length).length) = ((a : Int), (b : Int), l)
    rw [srcL_len]
    have hm : ∀ i, i < l.length → mirP a i < l.length ∧ mirP a (mirP a i) = i := by
      intro i hi
      have m1 : i % a < a := Nat.mod_lt _ h1
      have m2 : i / a < b := Nat.div_lt_of_lt_mul (by rw [← h5]; exact hi)
      have m3 := place_lt (a := a) (b := b) (i := a - 1 - i % a) (j := i / a) (by omega) m2
      refine ⟨by rw [h5]; exact m3, ?_⟩
      have m4 : mirP a i = (a - 1 - i % a) + a * (i / a) := rfl
      have m5 := Nat.div_add_mod i a
      rw [m4]
      obtain ⟨r, hr⟩ : ∃ r, r = i % a := ⟨_, rfl⟩
      obtain ⟨s, hs⟩ : ∃ s, s = i / a := ⟨_, rfl⟩
      rw [← hr] at m1 m5 ⊢
      rw [← hs] at m5 ⊢
      have d1 : (a - 1 - r + a * s) % a = a - 1 - r := by rw [Nat.add_mul_mod_self_left]; exact Nat.mod_eq_of_lt (by omega)
      have d2 : (a - 1 - r + a * s) / a = s := by rw [Nat.add_mul_div_left _ _ h1, Nat.div_eq_of_lt (by omega), Nat.zero_add]
      unfold mirP
      rw [d1, d2]
      omega
    rw [srcL_comp _ _ _ _ fun i hi => (hm i hi).1]
    have : srcL (fun i => mirP a (mirP a i)) l l.length = l := by
      refine ext_nth (srcL_len _ _ _) fun i hi => ?_
      rw [srcL_len] at hi
      rw [srcL_nth _ _ _ _ hi, (hm i hi).2]
    rw [this]
  · show stpR (a : Int) (b : Int) (srcL (mirP a) l l.length) = _
    rw [stpR_eq v1, stpR_eq hv, (mir_keeps h1 h5).1]
theorem picKeeps_meets : Meets Try.prog 10 (tspec true none [tPic, tInt] [.bool] (fun _ => True) (fun _ => (true, ()))) := by
  refine meets (snd spK_ok []) Try.func10 rfl rfl (fun x => ivK x.1.1 x.1.2.1 x.1.2.2 x.2.1) (fun _ => by kernel_rfl) (by decide) ?_
  rintro ⟨⟨W, H, l⟩, q, ⟨⟩⟩ -
  revert W H l q
  intro (W : Int) (H : Int) (l : List Int) (q : Int)
  refine by_vc (B := List.length [l] ≤ (1000 : Nat) ∧
  (longB [l] = Bool.true → True ∧ Bool.true = Bool.true) ∧
    (longB [l] = Bool.false →
      True ∧
        ((!validP W H l) = Bool.true → True ∧ Bool.true = Bool.true) ∧
          ((!validP W H l) = Bool.false →
            True ∧
              (4 : Int) ≠ (0 : Int) ∧
                Eng.fits Go.IntKind.i64 ((0 : Int) - Int.tmod q (4 : Int)) ∧
                  True ∧
                    True ∧
                      True ∧
                        ((movE W H l != (0 : Int)) = Bool.true → Bool.false = Bool.true) ∧
                          ((movE W H l != (0 : Int)) = Bool.false →
                            ((movE (Prod.fst (movR (quart q) W H l)) (Prod.fst (Prod.snd (movR (quart q) W H l))) (Prod.snd (Prod.snd (movR (quart q) W H l))) != (0 : Int)) = Bool.true →
                                Bool.false = Bool.true) ∧
                              ((movE (Prod.fst (movR (quart q) W H l)) (Prod.fst (Prod.snd (movR (quart q) W H l))) (Prod.snd (Prod.snd (movR (quart q) W H l))) != (0 : Int)) = Bool.false →
                                ((movE W H l != (0 : Int)) = Bool.true → Bool.false = Bool.true) ∧
                                  ((movE W H l != (0 : Int)) = Bool.false →
                                    ((movE (Prod.fst (movR (4 : Nat) W H l)) (Prod.fst (Prod.snd (movR (4 : Nat) W H l))) (Prod.snd (Prod.snd (movR (4 : Nat) W H l))) != (0 : Int)) = Bool.true → Bool.false = Bool.true) ∧
                                      ((movE (Prod.fst (movR (4 : Nat) W H l)) (Prod.fst (Prod.snd (movR (4 : Nat) W H l))) (Prod.snd (Prod.snd (movR (4 : Nat) W H l))) != (0 : Int)) = Bool.false →
                                        True ∧
                                          ((!samePB
                                                    (Prod.fst
                                                      (movR (quart ((0 : Int) - Int.tmod q (4 : Int))) (Prod.fst (movR (quart q) W H l)) (Prod.fst (Prod.snd (movR (quart q) W H l)))
                                                        (Prod.snd (Prod.snd (movR (quart q) W H l)))))
                                                    (Prod.fst
                                                      (Prod.snd
                                                        (movR (quart ((0 : Int) - Int.tmod q (4 : Int))) (Prod.fst (movR (quart q) W H l)) (Prod.fst (Prod.snd (movR (quart q) W H l)))
                                                          (Prod.snd (Prod.snd (movR (quart q) W H l))))))
                                                    (Prod.snd
                                                      (Prod.snd
                                                        (movR (quart ((0 : Int) - Int.tmod q (4 : Int))) (Prod.fst (movR (quart q) W H l)) (Prod.fst (Prod.snd (movR (quart q) W H l)))
                                                          (Prod.snd (Prod.snd (movR (quart q) W H l))))))
                                                    W H l) =
                                                Bool.true →
                                              Bool.false = Bool.true) ∧
                                            ((!samePB
                                                    (Prod.fst
                                                      (movR (quart ((0 : Int) - Int.tmod q (4 : Int))) (Prod.fst (movR (quart q) W H l)) (Prod.fst (Prod.snd (movR (quart q) W H l)))
                                                        (Prod.snd (Prod.snd (movR (quart q) W H l)))))
                                                    (Prod.fst
                                                      (Prod.snd
                                                        (movR (quart ((0 : Int) - Int.tmod q (4 : Int))) (Prod.fst (movR (quart q) W H l)) (Prod.fst (Prod.snd (movR (quart q) W H l)))
                                                          (Prod.snd (Prod.snd (movR (quart q) W H l))))))
                                                    (Prod.snd
                                                      (Prod.snd
                                                        (movR (quart ((0 : Int) - Int.tmod q (4 : Int))) (Prod.fst (movR (quart q) W H l)) (Prod.fst (Prod.snd (movR (quart q) W H l)))
                                                          (Prod.snd (Prod.snd (movR (quart q) W H l))))))
                                                    W H l) =
                                                Bool.false →
                                              True ∧
                                                ((!samePB (Prod.fst (movR (4 : Nat) (Prod.fst (movR (4 : Nat) W H l)) (Prod.fst (Prod.snd (movR (4 : Nat) W H l))) (Prod.snd (Prod.snd (movR (4 : Nat) W H l)))))
                                                          (Prod.fst (Prod.snd (movR (4 : Nat) (Prod.fst (movR (4 : Nat) W H l)) (Prod.fst (Prod.snd (movR (4 : Nat) W H l))) (Prod.snd (Prod.snd (movR (4 : Nat) W H l))))))
                                                          (Prod.snd (Prod.snd (movR (4 : Nat) (Prod.fst (movR (4 : Nat) W H l)) (Prod.fst (Prod.snd (movR (4 : Nat) W H l))) (Prod.snd (Prod.snd (movR (4 : Nat) W H l)))))) W H l) =
                                                      Bool.true →
                                                    Bool.false = Bool.true) ∧
                                                  ((!samePB (Prod.fst (movR (4 : Nat) (Prod.fst (movR (4 : Nat) W H l)) (Prod.fst (Prod.snd (movR (4 : Nat) W H l))) (Prod.snd (Prod.snd (movR (4 : Nat) W H l)))))
                                                          (Prod.fst (Prod.snd (movR (4 : Nat) (Prod.fst (movR (4 : Nat) W H l)) (Prod.fst (Prod.snd (movR (4 : Nat) W H l))) (Prod.snd (Prod.snd (movR (4 : Nat) W H l))))))
                                                          (Prod.snd (Prod.snd (movR (4 : Nat) (Prod.fst (movR (4 : Nat) W H l)) (Prod.fst (Prod.snd (movR (4 : Nat) W H l))) (Prod.snd (Prod.snd (movR (4 : Nat) W H l)))))) W H l) =
                                                      Bool.false →
                                                    True ∧
                                                      ∃ (v8 : Unit),
                                                        ∃ (v9 : Nat),
                                                          Nat.le v9 (2 : Nat) ∧
                                                            ((True ∧ True ∧ True ∧ True ∧ True ∧ True ∧ True ∧ (0 : Int) = (↑v9 : Int) ∧ True) ∧ (W = W ∧ H = H ∧ l = l ∧ True) ∧ True ∧ True ∧ True ∧ True ∧ True) ∧
                                                              ∀ (v10 : Nat),
                                                                Nat.le v10 (2 : Nat) →
                                                                  (Decidable.decide
                                                                          ((↑v10 : Int) <
                                                                            (↑(List.length
                                                                                  [(Prod.fst (movR (quart q) W H l), Prod.fst (Prod.snd (movR (quart q) W H l)), Prod.snd (Prod.snd (movR (quart q) W H l))),
                                                                                    (Prod.fst (movR (4 : Nat) W H l), Prod.fst (Prod.snd (movR (4 : Nat) W H l)), Prod.snd (Prod.snd (movR (4 : Nat) W H l)))]) :
                                                                              Int)) =
                                                                        Bool.true →
                                                                      ((0 : Int) ≤ (↑v10 : Int) ∧
                                                                          (↑v10 : Int) <
                                                                            (↑(List.length
                                                                                  [(Prod.fst (movR (quart q) W H l), Prod.fst (Prod.snd (movR (quart q) W H l)), Prod.snd (Prod.snd (movR (quart q) W H l))),
                                                                                    (Prod.fst (movR (4 : Nat) W H l), Prod.fst (Prod.snd (movR (4 : Nat) W H l)), Prod.snd (Prod.snd (movR (4 : Nat) W H l)))]) :
                                                                              Int)) ∧
                                                                        True ∧
                                                                          True ∧
                                                                            True ∧
                                                                              ((stpR W H l !=
                                                                                      stpR
                                                                                        (Prod.fst
                                                                                          (Eng.nthD (Eng.TI.ty T30)
                                                                                            [(Prod.fst (movR (quart q) W H l), Prod.fst (Prod.snd (movR (quart q) W H l)), Prod.snd (Prod.snd (movR (quart q) W H l))),
                                                                                              (Prod.fst (movR (4 : Nat) W H l), Prod.fst (Prod.snd (movR (4 : Nat) W H l)), Prod.snd (Prod.snd (movR (4 : Nat) W H l)))]
                                                                                            (Int.toNat (↑v10 : Int))))
                                                                                        (Prod.fst
                                                                                          (Prod.snd
                                                                                            (Eng.nthD (Eng.TI.ty T30)
                                                                                              [(Prod.fst (movR (quart q) W H l), Prod.fst (Prod.snd (movR (quart q) W H l)), Prod.snd (Prod.snd (movR (quart q) W H l))),
                                                                                                (Prod.fst (movR (4 : Nat) W H l), Prod.fst (Prod.snd (movR (4 : Nat) W H l)), Prod.snd (Prod.snd (movR (4 : Nat) W H l)))]
                                                                                              (Int.toNat (↑v10 : Int)))))
                                                                                        (Prod.snd
                                                                                          (Prod.snd
                                                                                            (Eng.nthD (Eng.TI.ty T30)
                                                                                              [(Prod.fst (movR (quart q) W H l), Prod.fst (Prod.snd (movR (quart q) W H l)), Prod.snd (Prod.snd (movR (quart q) W H l))),
                                                                                                (Prod.fst (movR (4 : Nat) W H l), Prod.fst (Prod.snd (movR (4 : Nat) W H l)), Prod.snd (Prod.snd (movR (4 : Nat) W H l)))]
                                                                                              (Int.toNat (↑v10 : Int)))))) =
                                                                                    Bool.true →
                                                                                  Bool.false = Bool.true) ∧
                                                                                ((stpR W H l !=
                                                                                      stpR
                                                                                        (Prod.fst
                                                                                          (Eng.nthD (Eng.TI.ty T30)
                                                                                            [(Prod.fst (movR (quart q) W H l), Prod.fst (Prod.snd (movR (quart q) W H l)), Prod.snd (Prod.snd (movR (quart q) W H l))),
                                                                                              (Prod.fst (movR (4 : Nat) W H l), Prod.fst (Prod.snd (movR (4 : Nat) W H l)), Prod.snd (Prod.snd (movR (4 : Nat) W H l)))]
                                                                                            (Int.toNat (↑v10 : Int))))
                                                                                        (Prod.fst
                                                                                          (Prod.snd
                                                                                            (Eng.nthD (Eng.TI.ty T30)
                                                                                              [(Prod.fst (movR (quart q) W H l), Prod.fst (Prod.snd (movR (quart q) W H l)), Prod.snd (Prod.snd (movR (quart q) W H l))),
                                                                                                (Prod.fst (movR (4 : Nat) W H l), Prod.fst (Prod.snd (movR (4 : Nat) W H l)), Prod.snd (Prod.snd (movR (4 : Nat) W H l)))]
                                                                                              (Int.toNat (↑v10 : Int)))))
                                                                                        (Prod.snd
                                                                                          (Prod.snd
                                                                                            (Eng.nthD (Eng.TI.ty T30)
                                                                                              [(Prod.fst (movR (quart q) W H l), Prod.fst (Prod.snd (movR (quart q) W H l)), Prod.snd (Prod.snd (movR (quart q) W H l))),
                                                                                                (Prod.fst (movR (4 : Nat) W H l), Prod.fst (Prod.snd (movR (4 : Nat) W H l)), Prod.snd (Prod.snd (movR (4 : Nat) W H l)))]
                                                                                              (Int.toNat (↑v10 : Int)))))) =
                                                                                    Bool.false →
                                                                                  ((stpE
                                                                                            (Prod.fst
                                                                                              (Eng.nthD (Eng.TI.ty T30)
                                                                                                [(Prod.fst (movR (quart q) W H l), Prod.fst (Prod.snd (movR (quart q) W H l)), Prod.snd (Prod.snd (movR (quart q) W H l))),
                                                                                                  (Prod.fst (movR (4 : Nat) W H l), Prod.fst (Prod.snd (movR (4 : Nat) W H l)), Prod.snd (Prod.snd (movR (4 : Nat) W H l)))]
                                                                                                (Int.toNat (↑v10 : Int))))
                                                                                            (Prod.fst
                                                                                              (Prod.snd
                                                                                                (Eng.nthD (Eng.TI.ty T30)
                                                                                                  [(Prod.fst (movR (quart q) W H l), Prod.fst (Prod.snd (movR (quart q) W H l)), Prod.snd (Prod.snd (movR (quart q) W H l))),
                                                                                                    (Prod.fst (movR (4 : Nat) W H l), Prod.fst (Prod.snd (movR (4 : Nat) W H l)), Prod.snd (Prod.snd (movR (4 : Nat) W H l)))]
                                                                                                  (Int.toNat (↑v10 : Int)))))
                                                                                            (Prod.snd
                                                                                              (Prod.snd
                                                                                                (Eng.nthD (Eng.TI.ty T30)
                                                                                                  [(Prod.fst (movR (quart q) W H l), Prod.fst (Prod.snd (movR (quart q) W H l)), Prod.snd (Prod.snd (movR (quart q) W H l))),
                                                                                                    (Prod.fst (movR (4 : Nat) W H l), Prod.fst (Prod.snd (movR (4 : Nat) W H l)), Prod.snd (Prod.snd (movR (4 : Nat) W H l)))]
                                                                                                  (Int.toNat (↑v10 : Int))))) !=
                                                                                          (0 : Int)) =
                                                                                        Bool.true →
                                                                                      Bool.false = Bool.true) ∧
                                                                                    ((stpE
                                                                                            (Prod.fst
                                                                                              (Eng.nthD (Eng.TI.ty T30)
                                                                                                [(Prod.fst (movR (quart q) W H l), Prod.fst (Prod.snd (movR (quart q) W H l)), Prod.snd (Prod.snd (movR (quart q) W H l))),
                                                                                                  (Prod.fst (movR (4 : Nat) W H l), Prod.fst (Prod.snd (movR (4 : Nat) W H l)), Prod.snd (Prod.snd (movR (4 : Nat) W H l)))]
                                                                                                (Int.toNat (↑v10 : Int))))
                                                                                            (Prod.fst
                                                                                              (Prod.snd
                                                                                                (Eng.nthD (Eng.TI.ty T30)
                                                                                                  [(Prod.fst (movR (quart q) W H l), Prod.fst (Prod.snd (movR (quart q) W H l)), Prod.snd (Prod.snd (movR (quart q) W H l))),
                                                                                                    (Prod.fst (movR (4 : Nat) W H l), Prod.fst (Prod.snd (movR (4 : Nat) W H l)), Prod.snd (Prod.snd (movR (4 : Nat) W H l)))]
                                                                                                  (Int.toNat (↑v10 : Int)))))
                                                                                            (Prod.snd
                                                                                              (Prod.snd
                                                                                                (Eng.nthD (Eng.TI.ty T30)
                                                                                                  [(Prod.fst (movR (quart q) W H l), Prod.fst (Prod.snd (movR (quart q) W H l)), Prod.snd (Prod.snd (movR (quart q) W H l))),
                                                                                                    (Prod.fst (movR (4 : Nat) W H l), Prod.fst (Prod.snd (movR (4 : Nat) W H l)), Prod.snd (Prod.snd (movR (4 : Nat) W H l)))]
                                                                                                  (Int.toNat (↑v10 : Int))))) !=
                                                                                          (0 : Int)) =
                                                                                        Bool.false →
                                                                                      ((sizE
                                                                                                (Prod.snd
                                                                                                  (Prod.snd
                                                                                                    (Eng.nthD (Eng.TI.ty T30)
                                                                                                      [(Prod.fst (movR (quart q) W H l), Prod.fst (Prod.snd (movR (quart q) W H l)), Prod.snd (Prod.snd (movR (quart q) W H l))),
                                                                                                        (Prod.fst (movR (4 : Nat) W H l), Prod.fst (Prod.snd (movR (4 : Nat) W H l)), Prod.snd (Prod.snd (movR (4 : Nat) W H l)))]
                                                                                                      (Int.toNat (↑v10 : Int))))) !=
                                                                                              (0 : Int)) =
                                                                                            Bool.true →
                                                                                          Bool.false = Bool.true) ∧
                                                                                        ((sizE
                                                                                                (Prod.snd
                                                                                                  (Prod.snd
                                                                                                    (Eng.nthD (Eng.TI.ty T30)
                                                                                                      [(Prod.fst (movR (quart q) W H l), Prod.fst (Prod.snd (movR (quart q) W H l)), Prod.snd (Prod.snd (movR (quart q) W H l))),
                                                                                                        (Prod.fst (movR (4 : Nat) W H l), Prod.fst (Prod.snd (movR (4 : Nat) W H l)), Prod.snd (Prod.snd (movR (4 : Nat) W H l)))]
                                                                                                      (Int.toNat (↑v10 : Int))))) !=
                                                                                              (0 : Int)) =
                                                                                            Bool.false →
                                                                                          ((sizE l != (0 : Int)) = Bool.true → Bool.false = Bool.true) ∧
                                                                                            ((sizE l != (0 : Int)) = Bool.false →
                                                                                              ((sizR
                                                                                                        (Prod.snd
                                                                                                          (Prod.snd
                                                                                                            (Eng.nthD (Eng.TI.ty T30)
                                                                                                              [(Prod.fst (movR (quart q) W H l), Prod.fst (Prod.snd (movR (quart q) W H l)), Prod.snd (Prod.snd (movR (quart q) W H l))),
                                                                                                                (Prod.fst (movR (4 : Nat) W H l), Prod.fst (Prod.snd (movR (4 : Nat) W H l)), Prod.snd (Prod.snd (movR (4 : Nat) W H l)))]
                                                                                                              (Int.toNat (↑v10 : Int))))) !=
                                                                                                      sizR l) =
                                                                                                    Bool.true →
                                                                                                  Bool.false = Bool.true) ∧
                                                                                                ((sizR
                                                                                                        (Prod.snd
                                                                                                          (Prod.snd
                                                                                                            (Eng.nthD (Eng.TI.ty T30)
                                                                                                              [(Prod.fst (movR (quart q) W H l), Prod.fst (Prod.snd (movR (quart q) W H l)), Prod.snd (Prod.snd (movR (quart q) W H l))),
                                                                                                                (Prod.fst (movR (4 : Nat) W H l), Prod.fst (Prod.snd (movR (4 : Nat) W H l)), Prod.snd (Prod.snd (movR (4 : Nat) W H l)))]
                                                                                                              (Int.toNat (↑v10 : Int))))) !=
                                                                                                      sizR l) =
                                                                                                    Bool.false →
                                                                                                  Eng.fits Go.IntKind.i64 ((↑v10 : Int) + (1 : Int)) ∧ ∃ (v18 : Nat), Nat.le v18 (2 : Nat) ∧ (2 : Nat) - v18 < (2 : Nat) - v10 ∧ (True ∧ True ∧ True ∧ True ∧ True ∧ True ∧ True ∧ (↑v10 : Int) + (1 : Int) = (↑v18 : Int) ∧ True) ∧ (W = W ∧ H = H ∧ l = l ∧ True) ∧ True ∧ True ∧ True ∧ True ∧ True)))))) ∧
                                                                    (Decidable.decide
                                                                          ((↑v10 : Int) <
                                                                            (↑(List.length
                                                                                  [(Prod.fst (movR (quart q) W H l), Prod.fst (Prod.snd (movR (quart q) W H l)), Prod.snd (Prod.snd (movR (quart q) W H l))),
                                                                                    (Prod.fst (movR (4 : Nat) W H l), Prod.fst (Prod.snd (movR (4 : Nat) W H l)), Prod.snd (Prod.snd (movR (4 : Nat) W H l)))]) :
                                                                              Int)) =
                                                                        Bool.false →
                                                                      True ∧ Bool.true = Bool.true)))))))))) (by kernel_rfl) ?_
  simp only [ne_eq, true_and, and_true, eq_self, Bool.not_eq_true', Bool.not_eq_false', decide_eq_true_eq, decide_eq_false_iff_not, Nat.le_eq, Int.not_lt, Int.not_le, Int.reduceEq, not_false_eq_true, Bool.not_eq_eq_eq_not, Bool.not_true, Bool.not_false, Int.ofNat_lt, Int.ofNat_le, Int.toNat_natCast, Int.natCast_nonneg, nthD_nth, beq_iff_eq, bne_iff_ne, beq_eq_false_iff_ne, bne_eq_false_iff_eq, Classical.not_not, List.length_cons, List.length_nil, Nat.zero_add, List.nil_append, true_implies, Nat.lt_add_one, Nat.zero_lt_succ, Int.reduceLE, Int.reduceLT]
  refine ⟨by omega, fun _ => trivial, fun _ => ⟨fun _ => trivial, fun hv => ?_⟩⟩
  obtain ⟨t1, t2, t3, t4⟩ := keep_turn hv q
  obtain ⟨m1, m2, m3, m4⟩ := keep_mir hv
  have hq1 : -4 < q.tmod 4 ∧ q.tmod 4 < 4 := ⟨by have := Int.lt_tmod_of_pos q (show (0 : Int) < 4 by omega); omega, Int.tmod_lt_of_pos q (by omega)⟩
  have e0 : movE W H l = 0 := by simp [movE, hv]
  have e1 : movE (movR (quart q) W H l).1 (movR (quart q) W H l).2.1 (movR (quart q) W H l).2.2 = 0 := by simp [movE, t1]
  have e2 : movE (movR 4 W H l).1 (movR 4 W H l).2.1 (movR 4 W H l).2.2 = 0 := by simp [movE, m1]
  have e3 : ∀ {W H : Int} {l : List Int}, validP W H l = true → stpE W H l = 0 := fun h => by simp [stpE, h]
  have e4 : ∀ {W H : Int} {l : List Int}, validP W H l = true → sizE l = 0 := fun h => by simp [sizE, vlist_of_validP h]
  have e5 : ∀ {W H : Int} {l : List Int}, validP W H l = true → sizR l = sumA l := fun h => by simp [sizR, vlist_of_validP h]
  refine ⟨fits64 (by omega) (by omega), fun h => absurd e0 h, fun _ => ⟨fun h => absurd e1 h, fun _ => ⟨fun h => absurd e0 h, fun _ => ⟨fun h => absurd e2 h, fun _ => ⟨fun h => ?_, fun _ => ⟨fun h => ?_, fun _ => ?_⟩⟩⟩⟩⟩⟩
  · rw [t2, samePB_self] at h; cases h
  · rw [m2, samePB_self] at h; cases h
  · refine ⟨(), 0, by omega, rfl, fun k hk => ?_⟩
    have hT : ∀ k, k < 2 → ∃ w h z, nthD T30.ty [((movR (quart q) W H l).1, (movR (quart q) W H l).2.1, (movR (quart q) W H l).2.2), ((movR 4 W H l).1, (movR 4 W H l).2.1, (movR 4 W H l).2.2)] k = (w, h, z) ∧ validP w h z = true ∧ stpR w h z = stpR W H l ∧ sumA z = sumA l := by
      intro k hk
      have : k = 0 ∨ k = 1 := by omega
      rcases this with rfl | rfl
      · exact ⟨_, _, _, rfl, t1, t3, t4⟩
      · exact ⟨_, _, _, rfl, m1, m3, m4⟩
    refine ⟨fun hlt => ⟨hlt, ?_⟩, fun hge => ?_⟩
    · obtain ⟨w, h, z, q1, q2, q3, q4⟩ := hT k hlt
      rw [q1]
      simp only [q3, e3 q2, e3 hv, e4 q2, e4 hv, e5 q2, e5 hv, q4]
      have fin : fits .i64 ((k : Int) + 1) ∧ ∃ v18, v18 ≤ 2 ∧ 2 - v18 < 2 - k ∧ (k : Int) + 1 = (v18 : Int) := ⟨fits64 (by omega) (by omega), k + 1, by omega, by omega, by omega⟩
      simpa using fin
    · exact trivial
end Go.Proofs.Ytahccnljckgjmaa
