/- The law PicMotions, by the engine. No condition. -/
import Derived.Test.YtahccnljckgjmaaS4

set_option linter.unusedVariables false
set_option linter.unusedSimpArgs false
namespace Go.Proofs.Ytahccnljckgjmaa
open Go Go.RowKit Eng Ls

def sLong : FSpec := tspec true none [.list tInts] [.bool] (fun x => x.1.length ≤ 1000) (fun x => (longB x.1, ()))
def sAwake : FSpec := tspec true none [] [.bool] (fun _ => True) (fun _ => (true, ()))
def spM : List (Nat × FSpec) := [(13, sLong), (15, sAwake), (37, sPIP true (fun q => movR (quart q)) movE), (38, sPIP false (fun q => rturnR (quart q)) movE), (36, sPPB samePB), (39, sPP true (movR 4) movE), (40, sPP true rmirR movE), (41, sPP false halR halE), (42, sPP false rhalR halE)]
theorem spM_ok : SpecsOk Try.prog spM := SpecsOk.cons long_meets (SpecsOk.cons awake_meets (SpecsOk.cons turned_meets (SpecsOk.cons (rturned_meets (SpecsOk.cons rvalid_meets (SpecsOk.nil _))) (SpecsOk.cons same_meets (SpecsOk.cons mirrored_meets (SpecsOk.cons rmirrored_meets (SpecsOk.cons (halved_meets (SpecsOk.cons valid_meets (SpecsOk.cons rvalid_meets (SpecsOk.cons half_meets (SpecsOk.nil _))))) (SpecsOk.cons (rhalved_meets (SpecsOk.cons rvalid_meets (SpecsOk.nil _))) (SpecsOk.nil _)))))))))
theorem picMotions_meets : Meets Try.prog 9 (tspec true none [tPic, tInt] [.bool] (fun _ => True) (fun _ => (true, ()))) := by
  refine meets (snd spM_ok []) Try.func9 rfl rfl (fun x _ => none) (fun _ => by kernel_rfl) (by decide) ?_
  rintro ⟨⟨W, H, l⟩, q, ⟨⟩⟩ -
  revert W H l q
  intro (W : Int) (H : Int) (l : List Int) (q : Int)
  refine by_vc (B := Nat.le (List.length [l]) (1000 : Nat) ∧
  (longB [l] = Bool.true → True ∧ Bool.true = Bool.true) ∧
    (longB [l] = Bool.false →
      True ∧
        True ∧
          True ∧
            ((!samePB (Prod.fst (movR (quart q) W H l)) (Prod.fst (Prod.snd (movR (quart q) W H l))) (Prod.snd (Prod.snd (movR (quart q) W H l)))
                      (Prod.fst (rturnR (quart q) W H l)) (Prod.fst (Prod.snd (rturnR (quart q) W H l))) (Prod.snd (Prod.snd (rturnR (quart q) W H l)))) =
                  Bool.true →
                Bool.false = Bool.true) ∧
              ((!samePB (Prod.fst (movR (quart q) W H l)) (Prod.fst (Prod.snd (movR (quart q) W H l))) (Prod.snd (Prod.snd (movR (quart q) W H l)))
                      (Prod.fst (rturnR (quart q) W H l)) (Prod.fst (Prod.snd (rturnR (quart q) W H l))) (Prod.snd (Prod.snd (rturnR (quart q) W H l)))) =
                  Bool.false →
                ((movE W H l != movE W H l) = Bool.true → Bool.false = Bool.true) ∧
                  ((movE W H l != movE W H l) = Bool.false →
                    True ∧
                      True ∧
                        True ∧
                          ((!samePB (Prod.fst (movR (4 : Nat) W H l)) (Prod.fst (Prod.snd (movR (4 : Nat) W H l))) (Prod.snd (Prod.snd (movR (4 : Nat) W H l))) (Prod.fst (rmirR W H l)) (Prod.fst (Prod.snd (rmirR W H l)))
                                    (Prod.snd (Prod.snd (rmirR W H l)))) =
                                Bool.true →
                              Bool.false = Bool.true) ∧
                            ((!samePB (Prod.fst (movR (4 : Nat) W H l)) (Prod.fst (Prod.snd (movR (4 : Nat) W H l))) (Prod.snd (Prod.snd (movR (4 : Nat) W H l))) (Prod.fst (rmirR W H l)) (Prod.fst (Prod.snd (rmirR W H l)))
                                    (Prod.snd (Prod.snd (rmirR W H l)))) =
                                Bool.false →
                              ((movE W H l != movE W H l) = Bool.true → Bool.false = Bool.true) ∧
                                ((movE W H l != movE W H l) = Bool.false →
                                  True ∧
                                    True ∧
                                      True ∧
                                        (samePB (Prod.fst (halR W H l)) (Prod.fst (Prod.snd (halR W H l))) (Prod.snd (Prod.snd (halR W H l))) (Prod.fst (rhalR W H l)) (Prod.fst (Prod.snd (rhalR W H l)))
                                                (Prod.snd (Prod.snd (rhalR W H l))) =
                                              Bool.true →
                                            ((halE W H l == halE W H l) = Bool.true → True ∧ Bool.true = Bool.true) ∧ ((halE W H l == halE W H l) = Bool.false → Bool.false = Bool.true)) ∧
                                          (samePB (Prod.fst (halR W H l)) (Prod.fst (Prod.snd (halR W H l))) (Prod.snd (Prod.snd (halR W H l))) (Prod.fst (rhalR W H l)) (Prod.fst (Prod.snd (rhalR W H l)))
                                                (Prod.snd (Prod.snd (rhalR W H l))) =
                                              Bool.false →
                                            Bool.false = Bool.true))))))) (by kernel_rfl) ?_
  simp only [ne_eq, true_and, and_true, eq_self, Bool.not_eq_true', Bool.not_eq_false', decide_eq_true_eq, decide_eq_false_iff_not, Nat.le_eq, Int.not_lt, Int.not_le, Int.reduceEq, not_false_eq_true, Bool.not_eq_eq_eq_not, Bool.not_true, Bool.not_false, Int.ofNat_lt, Int.ofNat_le, Int.toNat_natCast, Int.natCast_nonneg, nthD_nth, beq_iff_eq, bne_iff_ne, beq_eq_false_iff_ne, bne_eq_false_iff_eq, Classical.not_not, List.length_cons, List.length_nil, Nat.zero_add, List.nil_append, true_implies, Nat.lt_add_one, Nat.zero_lt_succ, Int.reduceLE, Int.reduceLT]
  rw [turn_same, mirror_same, hal_same]
  simp [samePB_self]
end Go.Proofs.Ytahccnljckgjmaa
