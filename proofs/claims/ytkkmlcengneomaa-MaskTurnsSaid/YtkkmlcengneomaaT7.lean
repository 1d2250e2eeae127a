/- The law MaskTurns: contracts. No condition. -/
import Derived.Test.YtkkmlcengneomaaT6
import Derived.Test.YtkkmlcengneomaaTurnLaw
import Derived.Test.YtkkmlcengneomaaR3

set_option linter.unusedVariables false
set_option linter.unusedSimpArgs false
namespace Go.Proofs.Ytkkmlcengneomaa
open Go Go.RowKit Eng Ls

theorem SMF_rd {w : World} {B : Nat} {A : Option Addr} {n c : Nat} {l : List (List Int)} (h : SMF w B A n c l) : Rd (View.from w B) tMask l [.slice A n c] := by
  obtain ⟨h1, h2, h3, h4⟩ := h
  refine ⟨A, c, by rw [h1], by rw [h1]; exact h2, h3, fun hl => ?_⟩
  obtain ⟨ad, e, hB, h5⟩ := h4 (by rw [← h1]; exact hl)
  refine ⟨ad, e, fun i hi => ?_⟩
  obtain ⟨A', c', k1, k2, k3⟩ := h5 i (by rw [← h1]; exact hi)
  refine ⟨[.slice A' (nthL l i).length c'], SI_rd k2 k3, fun j v hj => ?_⟩
  cases j with
  | succ j => simp at hj
  | zero =>
    simp only [List.getElem?_cons_zero, Option.some.injEq] at hj
    subst hj
    simp only [Ty.size, Nat.mul_one, Nat.add_zero]
    have h7 : (View.from w B).cell (ad.add i) = View.cell (fun b => w.heap[b]?) (ad.add i) := by
      unfold View.cell View.from
      rw [Ls.block_add, if_pos hB]
    rw [h7]
    exact k1
theorem own_rd {w : World} {B e : Nat} {A : Option Addr} {c : Nat} {l : List Int} (h : w.ownsRow B e 1 (.slice A l.length c) l.length (ints l)) : Rd (View.from w B) tInts l [.slice A l.length c] :=
  SI_rd (own_SI h) fun ad e => by
    subst e
    rcases h.2 with ⟨h0, _⟩ | ⟨g, cap, cur, hv, hB, _⟩
    · injection h0 with h0; cases h0
    · injection hv with hv; obtain rfl := Option.some.inj hv; exact hB
theorem two_of {m : View} {w : World} (hm : m.on w) {t : Ty} {x : List (List Int)} {y : List Int} {vs : List Value} (h : RdArgs m [tMask, tInts] (x, y, ()) vs) : ∃ A c B d, vs = [.slice A x.length c, .slice B y.length d] ∧ SM w A x.length c x ∧ SI w B y.length d y := by
  obtain ⟨u, us, rfl, h1, u', us', rfl, h2, h3⟩ := h
  obtain rfl : us' = [] := h3
  obtain ⟨A, c, rfl, hs⟩ := mask_of hm h1
  obtain ⟨B, d, rfl, hs'⟩ := rd_SI hm h2
  exact ⟨A, c, B, d, rfl, hs, hs'⟩

def sMI (f : List (List Int) → List Int → List (List Int)) (e : List (List Int) → List Int → Int) : FSpec := tspec true none [tMask, tInts] [tMask, tInt] (fun _ => True) (fun x => (f x.1 x.2.1, e x.1 x.2.1, ()))
theorem permuted_meets : Meets Try.prog 49 (sMI permutedR permutedE) := meets_of ⟨_, _, Try.func49, rfl, rfl⟩ fun w m x vs hm _ hx => by
  obtain ⟨x, y, ⟨⟩⟩ := x
  obtain ⟨A, c, B, d, rfl, hs, hs'⟩ := two_of (t := tInt) hm hx
  exact (permuted_new A B _ c _ d x y w hs hs').mono fun e w' ⟨A', c', h1, h2, h3⟩ => ⟨_, h1, h3, [_, _], rfl, _, _, rfl, SMF_rd h2, _, _, rfl, rfl, rfl⟩
theorem signed_meets : Meets Try.prog 51 (sMI signedR signedE) := meets_of ⟨_, _, Try.func51, rfl, rfl⟩ fun w m x vs hm _ hx => by
  obtain ⟨x, y, ⟨⟩⟩ := x
  obtain ⟨A, c, B, d, rfl, hs, hs'⟩ := two_of (t := tInt) hm hx
  exact (signed_new A B _ c _ d x y w hs hs').mono fun e w' ⟨A', c', h1, h2, h3⟩ => ⟨_, h1, h3, [_, _], rfl, _, _, rfl, SMF_rd h2, _, _, rfl, rfl, rfl⟩
def sRead : FSpec := tspec true none [tMask, tInts] [tInts, tInt] (fun _ => True) (fun x => (readR x.1 x.2.1, shownE x.1 x.2.1, ()))
theorem read_meets : Meets Try.prog 17 sRead := meets_of ⟨_, _, Try.func17, rfl, rfl⟩ fun w m x vs hm _ hx => by
  obtain ⟨x, y, ⟨⟩⟩ := x
  obtain ⟨A, c, B, d, rfl, hs, hs'⟩ := two_of (t := tInt) hm hx
  exact (read_any A B _ c _ d x y w hs hs').mono fun e w' ⟨A', c', h1, h2, h3⟩ => ⟨_, h1, h3, [_, _], rfl, _, _, rfl, own_rd h2, _, _, rfl, rfl, rfl⟩
def sShown : FSpec := tspec true none [tMask, tInts] [.bool] (fun _ => True) (fun x => (shownE x.1 x.2.1 == 0, ()))
theorem rshown_meets : Meets Try.prog 14 sShown := meets_of ⟨_, _, Try.func14, rfl, rfl⟩ fun w m x vs hm _ hx => by
  obtain ⟨x, y, ⟨⟩⟩ := x
  obtain ⟨A, c, B, d, rfl, hs, hs'⟩ := two_of (t := tInt) hm hx
  exact (rshown_any A B _ c _ d x y w hs hs').mono fun e w' ⟨h1, h2⟩ => ⟨_, h1, by subst h2; exact Below.refl _ _, [_], rfl, _, _, rfl, rfl, rfl⟩
def sSame : FSpec := tspec true none [tInts, tInts] [.bool] (fun _ => True) (fun x => (sameB x.1 x.2.1, ()))
theorem sameInts_meets : Meets Try.prog 27 sSame := meets_of ⟨_, _, Try.func27, rfl, rfl⟩ fun w m x vs hm _ hx => by
  obtain ⟨x, y, ⟨⟩⟩ := x
  obtain ⟨u, us, rfl, h1, u', us', rfl, h2, h3⟩ := hx
  obtain rfl : us' = [] := h3
  obtain ⟨A, c, rfl, hs⟩ := rd_SI hm h1
  obtain ⟨B, d, rfl, hs'⟩ := rd_SI hm h2
  exact (same_any A B _ _ c d x y w hs hs').mono fun e w' ⟨h1, h2⟩ => ⟨_, h1, h2, [_], rfl, _, _, rfl, rfl, rfl⟩
def sLong : FSpec := tspec true none [.list tInts] [.bool] (fun _ => True) (fun x => (longB x.1, ()))
theorem long_meets : Meets Try.prog 15 sLong := meets_of ⟨_, _, Try.func15, rfl, rfl⟩ fun w m x vs hm _ hx => by
  obtain ⟨u, us, rfl, h1, h2⟩ := hx
  obtain rfl : us = [] := h2
  obtain ⟨A, c, rfl, hs⟩ := mask_of hm h1
  exact (long_any A _ c _ w hs).mono fun e w' ⟨h1, h2⟩ => ⟨_, h1, by subst h2; exact Below.refl _ _, [_], rfl, _, _, rfl, rfl, rfl⟩

def sLaw4 : FSpec := tspec true none [tMask, tInts, tInts, tInts] [.bool] (fun _ => True) (fun _ => (true, ()))
abbrev box11 (m : List (List Int)) : AObj := .box 39 (.cons (.lit (.int .i64 (cohR m).1)) (.cons (.lit (.int .i64 (cohR m).2)) .nil))
def ivTurn (m : List (List Int)) (order signs x : List Int) : Nat → Option Inv
  | 0 => some (Inv.of [15, 68] 2 (fun k : Nat => [(15, .own 1), (68, .lit (.int .i64 k))]) (fun k => [box11 m, .vec 3 tInt (permX x (order.take k))]) (fun k => k ≤ order.length) (fun k => order.length - k))
  | 1 => some (Inv.of [24, 130] 2 (fun k : Nat => [(24, .own 1), (130, .lit (.int .i64 k))]) (fun k => [box11 m, .vec 3 tInt (signRow x (signs.take k))]) (fun k => k ≤ signs.length) (fun k => signs.length - k))
  | 5001 => some (Inv.of [24, 130] 4 (fun k : Nat => [(24, .own 3), (130, .lit (.int .i64 k))]) (fun k => [box11 m, .dead, .dead, .vec 3 tInt (signRow x (signs.take k))]) (fun k => k ≤ signs.length) (fun k => signs.length - k))
  | _ => none
theorem maskTurns_meets : Meets Try.prog 11 sLaw4 := by
  refine meets (snd (SpecsOk.cons rmvalid_meets (SpecsOk.cons rshown_meets (SpecsOk.cons long_meets (SpecsOk.cons awake_meets (SpecsOk.cons read_meets (SpecsOk.cons Coherence_meets (SpecsOk.cons permuted_meets (SpecsOk.cons signed_meets (SpecsOk.cons sameInts_meets (SpecsOk.nil _)))))))))) []) Try.func11 rfl rfl (fun x => ivTurn x.1 x.2.1 x.2.2.1 x.2.2.2.1) (fun _ => by kernel_rfl) (by decide) ?_
  rintro ⟨m, order, signs, x, ⟨⟩⟩ -
  revert m order signs x
  intro (m : List (List Int)) (order : List Int) (signs : List Int) (x : List Int)
  refine by_vc (B := True ∧
  ((!validB m) = Bool.true → True ∧ Bool.true = Bool.true) ∧
    ((!validB m) = Bool.false →
      True ∧
        ((!shownE m x == (0 : Int)) = Bool.true → True ∧ Bool.true = Bool.true) ∧
          ((!shownE m x == (0 : Int)) = Bool.false →
            True ∧
              (longB [order, signs] = Bool.true → True ∧ Bool.true = Bool.true) ∧
                (longB [order, signs] = Bool.false →
                  True ∧
                    True ∧
                      True ∧
                        ((permutedE m order == (0 : Int)) = Bool.true →
                            ∃ (v4 : Unit),
                              ∃ (v5 : Nat),
                                Nat.le v5 (List.length order) ∧
                                  ((True ∧ (0 : Int) = (↑v5 : Int) ∧ True) ∧ (Prod.fst (cohR m) = Prod.fst (cohR m) ∧ Prod.snd (cohR m) = Prod.snd (cohR m) ∧ True) ∧ permX x (List.take v5 order) = [] ∧ True) ∧
                                    ∀ (v6 : Nat),
                                      Nat.le v6 (List.length order) →
                                        (Decidable.decide ((↑v6 : Int) < (↑(List.length order) : Int)) = Bool.true →
                                            ((0 : Int) ≤ (↑v6 : Int) ∧ (↑v6 : Int) < (↑(List.length order) : Int)) ∧
                                              (Decidable.decide (Eng.nthD (Eng.Ty.int Go.IntKind.i64) order (Int.toNat (↑v6 : Int)) < (0 : Int)) = Bool.true → Bool.false = Bool.true) ∧
                                                (Decidable.decide (Eng.nthD (Eng.Ty.int Go.IntKind.i64) order (Int.toNat (↑v6 : Int)) < (0 : Int)) = Bool.false →
                                                  (Decidable.decide ((↑(List.length x) : Int) ≤ Eng.nthD (Eng.Ty.int Go.IntKind.i64) order (Int.toNat (↑v6 : Int))) = Bool.true → Bool.false = Bool.true) ∧
                                                    (Decidable.decide ((↑(List.length x) : Int) ≤ Eng.nthD (Eng.Ty.int Go.IntKind.i64) order (Int.toNat (↑v6 : Int))) = Bool.false →
                                                      ((0 : Int) ≤ Eng.nthD (Eng.Ty.int Go.IntKind.i64) order (Int.toNat (↑v6 : Int)) ∧ Eng.nthD (Eng.Ty.int Go.IntKind.i64) order (Int.toNat (↑v6 : Int)) < (↑(List.length x) : Int)) ∧
                                                        ((0 : Nat) < List.length [Eng.nthD (Eng.Ty.int Go.IntKind.i64) x (Int.toNat (Eng.nthD (Eng.Ty.int Go.IntKind.i64) order (Int.toNat (↑v6 : Int))))] ∧
                                                            List.length (permX x (List.take v6 order)) + List.length [Eng.nthD (Eng.Ty.int Go.IntKind.i64) x (Int.toNat (Eng.nthD (Eng.Ty.int Go.IntKind.i64) order (Int.toNat (↑v6 : Int))))] ≤ (1000000 : Nat)) ∧
                                                          Eng.fits Go.IntKind.i64 ((↑v6 : Int) + (1 : Int)) ∧
                                                            ∃ (v11 : Nat),
                                                              Nat.le v11 (List.length order) ∧
                                                                List.length order - v11 < List.length order - v6 ∧
                                                                  (True ∧ (↑v6 : Int) + (1 : Int) = (↑v11 : Int) ∧ True) ∧
                                                                    (Prod.fst (cohR m) = Prod.fst (cohR m) ∧ Prod.snd (cohR m) = Prod.snd (cohR m) ∧ True) ∧
                                                                      permX x (List.take v6 order) ++ [Eng.nthD (Eng.Ty.int Go.IntKind.i64) x (Int.toNat (Eng.nthD (Eng.Ty.int Go.IntKind.i64) order (Int.toNat (↑v6 : Int))))] = permX x (List.take v11 order) ∧ True))) ∧
                                          (Decidable.decide ((↑v6 : Int) < (↑(List.length order) : Int)) = Bool.false →
                                            True ∧
                                              True ∧
                                                ((shownE (permutedR m order) (permX x (List.take v6 order)) != (0 : Int)) = Bool.true → Bool.false = Bool.true) ∧
                                                  ((shownE (permutedR m order) (permX x (List.take v6 order)) != (0 : Int)) = Bool.false →
                                                    True ∧
                                                      ((!sameB (readR (permutedR m order) (permX x (List.take v6 order))) (readR m x)) = Bool.true → Bool.false = Bool.true) ∧
                                                        ((!sameB (readR (permutedR m order) (permX x (List.take v6 order))) (readR m x)) = Bool.false →
                                                          ((!(Prod.fst (cohR (permutedR m order)) == Prod.fst (cohR m) && Prod.snd (cohR (permutedR m order)) == Prod.snd (cohR m))) = Bool.true → Bool.false = Bool.true) ∧
                                                            ((!(Prod.fst (cohR (permutedR m order)) == Prod.fst (cohR m) && Prod.snd (cohR (permutedR m order)) == Prod.snd (cohR m))) = Bool.false →
                                                              ((cohE (permutedR m order) != cohE m) = Bool.true → Bool.false = Bool.true) ∧
                                                                ((cohE (permutedR m order) != cohE m) = Bool.false →
                                                                  True ∧
                                                                    ((signedE m signs == (0 : Int)) = Bool.true →
                                                                        ((0 : Nat) < List.length x ∧ (0 : Nat) + List.length x ≤ (1000000 : Nat)) ∧
                                                                          ∃ (v14 : Unit),
                                                                            ∃ (v15 : Nat),
                                                                              Nat.le v15 (List.length signs) ∧
                                                                                ((True ∧ (0 : Int) = (↑v15 : Int) ∧ True) ∧
                                                                                    (Prod.fst (cohR m) = Prod.fst (cohR m) ∧ Prod.snd (cohR m) = Prod.snd (cohR m) ∧ True) ∧ True ∧ True ∧ [] ++ x = signRow x (List.take v15 signs) ∧ True) ∧
                                                                                  ∀ (v16 : Nat),
                                                                                    Nat.le v16 (List.length signs) →
                                                                                      (Decidable.decide ((↑v16 : Int) < (↑(List.length signs) : Int)) = Bool.true →
                                                                                          ((0 : Int) ≤ (↑v16 : Int) ∧ (↑v16 : Int) < (↑(List.length signs) : Int)) ∧
                                                                                            (Decidable.decide (Eng.nthD (Eng.Ty.int Go.IntKind.i64) signs (Int.toNat (↑v16 : Int)) < (0 : Int)) = Bool.true → Bool.false = Bool.true) ∧
                                                                                              (Decidable.decide (Eng.nthD (Eng.Ty.int Go.IntKind.i64) signs (Int.toNat (↑v16 : Int)) < (0 : Int)) = Bool.false →
                                                                                                (Decidable.decide ((↑(List.length x) : Int) ≤ Eng.nthD (Eng.Ty.int Go.IntKind.i64) signs (Int.toNat (↑v16 : Int))) = Bool.true → Bool.false = Bool.true) ∧
                                                                                                  (Decidable.decide ((↑(List.length x) : Int) ≤ Eng.nthD (Eng.Ty.int Go.IntKind.i64) signs (Int.toNat (↑v16 : Int))) = Bool.false →
                                                                                                    ((0 : Int) ≤ Eng.nthD (Eng.Ty.int Go.IntKind.i64) signs (Int.toNat (↑v16 : Int)) ∧ Eng.nthD (Eng.Ty.int Go.IntKind.i64) signs (Int.toNat (↑v16 : Int)) < (↑(List.length (signRow x (List.take v16 signs))) : Int)) ∧
                                                                                                      Int.toNat (Eng.nthD (Eng.Ty.int Go.IntKind.i64) signs (Int.toNat (↑v16 : Int))) < List.length (signRow x (List.take v16 signs)) ∧
                                                                                                        Eng.fits Go.IntKind.i64 ((0 : Int) - Eng.nthD tInt (signRow x (List.take v16 signs)) (Int.toNat (Eng.nthD (Eng.Ty.int Go.IntKind.i64) signs (Int.toNat (↑v16 : Int))))) ∧
                                                                                                          ((0 : Int) ≤ Eng.nthD (Eng.Ty.int Go.IntKind.i64) signs (Int.toNat (↑v16 : Int)) ∧ Eng.nthD (Eng.Ty.int Go.IntKind.i64) signs (Int.toNat (↑v16 : Int)) < (↑(List.length (signRow x (List.take v16 signs))) : Int)) ∧
                                                                                                            Int.toNat (Eng.nthD (Eng.Ty.int Go.IntKind.i64) signs (Int.toNat (↑v16 : Int))) < List.length (signRow x (List.take v16 signs)) ∧
                                                                                                              Eng.fits Go.IntKind.i64 ((↑v16 : Int) + (1 : Int)) ∧
                                                                                                                ∃ (v21 : Nat),
                                                                                                                  Nat.le v21 (List.length signs) ∧
                                                                                                                    List.length signs - v21 < List.length signs - v16 ∧
                                                                                                                      (True ∧ (↑v16 : Int) + (1 : Int) = (↑v21 : Int) ∧ True) ∧
                                                                                                                        (Prod.fst (cohR m) = Prod.fst (cohR m) ∧ Prod.snd (cohR m) = Prod.snd (cohR m) ∧ True) ∧
                                                                                                                          True ∧
                                                                                                                            True ∧
                                                                                                                              List.set (signRow x (List.take v16 signs)) (Int.toNat (Eng.nthD (Eng.Ty.int Go.IntKind.i64) signs (Int.toNat (↑v16 : Int))))
                                                                                                                                    ((0 : Int) - Eng.nthD tInt (signRow x (List.take v16 signs)) (Int.toNat (Eng.nthD (Eng.Ty.int Go.IntKind.i64) signs (Int.toNat (↑v16 : Int))))) =
                                                                                                                                  signRow x (List.take v21 signs) ∧
                                                                                                                                True))) ∧
                                                                                        (Decidable.decide ((↑v16 : Int) < (↑(List.length signs) : Int)) = Bool.false →
                                                                                          True ∧
                                                                                            True ∧
                                                                                              ((shownE (signedR m signs) (signRow x (List.take v16 signs)) != (0 : Int)) = Bool.true → Bool.false = Bool.true) ∧
                                                                                                ((shownE (signedR m signs) (signRow x (List.take v16 signs)) != (0 : Int)) = Bool.false →
                                                                                                  True ∧
                                                                                                    ((!sameB (readR (signedR m signs) (signRow x (List.take v16 signs))) (readR m x)) = Bool.true → Bool.false = Bool.true) ∧
                                                                                                      ((!sameB (readR (signedR m signs) (signRow x (List.take v16 signs))) (readR m x)) = Bool.false →
                                                                                                        ((!(Prod.fst (cohR (signedR m signs)) == Prod.fst (cohR m) && Prod.snd (cohR (signedR m signs)) == Prod.snd (cohR m))) = Bool.true →
                                                                                                            Bool.false = Bool.true) ∧
                                                                                                          ((!(Prod.fst (cohR (signedR m signs)) == Prod.fst (cohR m) && Prod.snd (cohR (signedR m signs)) == Prod.snd (cohR m))) =
                                                                                                              Bool.false →
                                                                                                            ((cohE (signedR m signs) != cohE m) = Bool.true → Bool.false = Bool.true) ∧
                                                                                                              ((cohE (signedR m signs) != cohE m) = Bool.false → True ∧ Bool.true = Bool.true)))))) ∧
                                                                      ((signedE m signs == (0 : Int)) = Bool.false → True ∧ Bool.true = Bool.true))))))) ∧
                          ((permutedE m order == (0 : Int)) = Bool.false →
                            True ∧
                              ((signedE m signs == (0 : Int)) = Bool.true →
                                  ((0 : Nat) < List.length x ∧ (0 : Nat) + List.length x ≤ (1000000 : Nat)) ∧
                                    ∃ (v5 : Unit),
                                      ∃ (v6 : Nat),
                                        Nat.le v6 (List.length signs) ∧
                                          ((True ∧ (0 : Int) = (↑v6 : Int) ∧ True) ∧ (Prod.fst (cohR m) = Prod.fst (cohR m) ∧ Prod.snd (cohR m) = Prod.snd (cohR m) ∧ True) ∧ [] ++ x = signRow x (List.take v6 signs) ∧ True) ∧
                                            ∀ (v7 : Nat),
                                              Nat.le v7 (List.length signs) →
                                                (Decidable.decide ((↑v7 : Int) < (↑(List.length signs) : Int)) = Bool.true →
                                                    ((0 : Int) ≤ (↑v7 : Int) ∧ (↑v7 : Int) < (↑(List.length signs) : Int)) ∧
                                                      (Decidable.decide (Eng.nthD (Eng.Ty.int Go.IntKind.i64) signs (Int.toNat (↑v7 : Int)) < (0 : Int)) = Bool.true → Bool.false = Bool.true) ∧
                                                        (Decidable.decide (Eng.nthD (Eng.Ty.int Go.IntKind.i64) signs (Int.toNat (↑v7 : Int)) < (0 : Int)) = Bool.false →
                                                          (Decidable.decide ((↑(List.length x) : Int) ≤ Eng.nthD (Eng.Ty.int Go.IntKind.i64) signs (Int.toNat (↑v7 : Int))) = Bool.true → Bool.false = Bool.true) ∧
                                                            (Decidable.decide ((↑(List.length x) : Int) ≤ Eng.nthD (Eng.Ty.int Go.IntKind.i64) signs (Int.toNat (↑v7 : Int))) = Bool.false →
                                                              ((0 : Int) ≤ Eng.nthD (Eng.Ty.int Go.IntKind.i64) signs (Int.toNat (↑v7 : Int)) ∧ Eng.nthD (Eng.Ty.int Go.IntKind.i64) signs (Int.toNat (↑v7 : Int)) < (↑(List.length (signRow x (List.take v7 signs))) : Int)) ∧
                                                                Int.toNat (Eng.nthD (Eng.Ty.int Go.IntKind.i64) signs (Int.toNat (↑v7 : Int))) < List.length (signRow x (List.take v7 signs)) ∧
                                                                  Eng.fits Go.IntKind.i64 ((0 : Int) - Eng.nthD tInt (signRow x (List.take v7 signs)) (Int.toNat (Eng.nthD (Eng.Ty.int Go.IntKind.i64) signs (Int.toNat (↑v7 : Int))))) ∧
                                                                    ((0 : Int) ≤ Eng.nthD (Eng.Ty.int Go.IntKind.i64) signs (Int.toNat (↑v7 : Int)) ∧ Eng.nthD (Eng.Ty.int Go.IntKind.i64) signs (Int.toNat (↑v7 : Int)) < (↑(List.length (signRow x (List.take v7 signs))) : Int)) ∧
                                                                      Int.toNat (Eng.nthD (Eng.Ty.int Go.IntKind.i64) signs (Int.toNat (↑v7 : Int))) < List.length (signRow x (List.take v7 signs)) ∧
                                                                        Eng.fits Go.IntKind.i64 ((↑v7 : Int) + (1 : Int)) ∧
                                                                          ∃ (v12 : Nat),
                                                                            Nat.le v12 (List.length signs) ∧
                                                                              List.length signs - v12 < List.length signs - v7 ∧
                                                                                (True ∧ (↑v7 : Int) + (1 : Int) = (↑v12 : Int) ∧ True) ∧
                                                                                  (Prod.fst (cohR m) = Prod.fst (cohR m) ∧ Prod.snd (cohR m) = Prod.snd (cohR m) ∧ True) ∧
                                                                                    List.set (signRow x (List.take v7 signs)) (Int.toNat (Eng.nthD (Eng.Ty.int Go.IntKind.i64) signs (Int.toNat (↑v7 : Int))))
                                                                                          ((0 : Int) - Eng.nthD tInt (signRow x (List.take v7 signs)) (Int.toNat (Eng.nthD (Eng.Ty.int Go.IntKind.i64) signs (Int.toNat (↑v7 : Int))))) =
                                                                                        signRow x (List.take v12 signs) ∧
                                                                                      True))) ∧
                                                  (Decidable.decide ((↑v7 : Int) < (↑(List.length signs) : Int)) = Bool.false →
                                                    True ∧
                                                      True ∧
                                                        ((shownE (signedR m signs) (signRow x (List.take v7 signs)) != (0 : Int)) = Bool.true → Bool.false = Bool.true) ∧
                                                          ((shownE (signedR m signs) (signRow x (List.take v7 signs)) != (0 : Int)) = Bool.false →
                                                            True ∧
                                                              ((!sameB (readR (signedR m signs) (signRow x (List.take v7 signs))) (readR m x)) = Bool.true → Bool.false = Bool.true) ∧
                                                                ((!sameB (readR (signedR m signs) (signRow x (List.take v7 signs))) (readR m x)) = Bool.false →
                                                                  ((!(Prod.fst (cohR (signedR m signs)) == Prod.fst (cohR m) && Prod.snd (cohR (signedR m signs)) == Prod.snd (cohR m))) = Bool.true → Bool.false = Bool.true) ∧
                                                                    ((!(Prod.fst (cohR (signedR m signs)) == Prod.fst (cohR m) && Prod.snd (cohR (signedR m signs)) == Prod.snd (cohR m))) = Bool.false →
                                                                      ((cohE (signedR m signs) != cohE m) = Bool.true → Bool.false = Bool.true) ∧ ((cohE (signedR m signs) != cohE m) = Bool.false → True ∧ Bool.true = Bool.true)))))) ∧
                                ((signedE m signs == (0 : Int)) = Bool.false → True ∧ Bool.true = Bool.true)))))) (by kernel_rfl) ?_
  simp only [ne_eq, true_and, and_true, eq_self, Bool.not_eq_true', Bool.not_eq_false', decide_eq_true_eq, decide_eq_false_iff_not, Nat.le_eq, Int.not_lt, Int.not_le, Int.reduceEq, not_false_eq_true, Bool.not_eq_eq_eq_not, Bool.not_true, Bool.not_false, Int.ofNat_lt, Int.ofNat_le, Int.toNat_natCast, Int.natCast_nonneg, nthD_nth, beq_iff_eq, bne_iff_ne, beq_eq_false_iff_ne, bne_eq_false_iff_eq, Classical.not_not, List.length_cons, List.length_nil, Nat.zero_add, List.nil_append, true_implies, Nat.lt_add_one, Nat.zero_lt_succ, Int.reduceLE, Int.reduceLT]
  refine ⟨fun _ => trivial, fun hv => ⟨fun _ => trivial, fun hx => ⟨fun _ => trivial, fun hlong => ?_⟩⟩⟩
  have hsl : signs.length ≤ 200 := by
    simp [longB] at hlong
    omega
  obtain ⟨hm, hl, hb⟩ := shown_mask hx
  have hp1 := hm.pix1
  have hp10 := hm.pix10
  have sgn : ∀ (hs : signedE m signs = 0) (k : Nat), k < signs.length → (0 ≤ nth signs k ∧ nth signs k < x.length) ∧ (-1000000 ≤ nth (signRow x (signs.take k)) (nth signs k).toNat ∧ nth (signRow x (signs.take k)) (nth signs k).toNat ≤ 1000000) ∧
      (signRow x (signs.take k)).set (nth signs k).toNat (0 - nth (signRow x (signs.take k)) (nth signs k).toNat) = signRow x (signs.take (k + 1)) := fun hs k hk => by
    obtain ⟨g1, g2, g3⟩ := sign_ok hs
    have g4 := g3 k hk
    rw [← hl] at g4
    have g5 := hb (nth signs k).toNat (by omega)
    refine ⟨g4, ?_, ?_⟩
    · rw [signRow_nth _ _ _ (by omega)]
      split <;> omega
    · rw [Int.zero_sub, sign_snoc' x (signs.take k) (nth signs k) ?_ g4.1, take_snoc signs k hk]
      intro hmem
      have hnd := sign_set g2
      obtain ⟨i, hi, e⟩ := List.getElem_of_mem hmem
      rw [List.length_take] at hi
      rw [List.getElem_take, nth_eq signs k hk] at e
      have := nodup_inj hnd (by omega) hk e
      omega
  have gsR : signedE m signs = 0 → signedR m signs = m.map fun r => signRow r signs := fun hs => by unfold signedR; rw [if_pos hs]
  have prR : permutedE m order = 0 → permutedR m order = pickL m order := fun hs => by unfold permutedR; rw [if_pos hs]
  refine ⟨fun hp => ⟨(), 0, Nat.zero_le _, ⟨rfl, rfl⟩, fun k hk => ⟨fun hlt => ?_, fun hge => ?_⟩⟩, fun hp => ⟨?_, fun _ => trivial⟩⟩
  · have ho := perm_ord hp
    have hk1 := ho.lt (i := k) (by rw [← ho.len]; exact hlt)
    rw [← hl] at hk1
    have hl1 : (permX x (order.take k)).length ≤ 10 := by unfold permX; rw [List.length_map, List.length_take, ho.len]; omega
    refine ⟨hlt, fun h => ?_, fun _ => ⟨fun h => ?_, fun _ => ⟨⟨hk1.1, show nth order k < (x.length : Int) by omega⟩, by omega, fits64 (by omega) (by have := ho.len; omega), k + 1, hlt, by omega, by omega, ?_⟩⟩⟩
    · have h1 : nth order k < 0 := of_decide_eq_true h; exfalso; omega
    · have h1 : (x.length : Int) ≤ nth order k := of_decide_eq_true h; exfalso; omega
    · rw [take_snoc order k hlt]; simp [permX]
  · obtain rfl : k = order.length := by omega
    have ho := perm_ord hp
    rw [List.take_length, prR hp]
    have q1 := permX_shown hp hx
    have q2 := permX_read hp hx
    have q3 := perm_coh hm hv ho
    refine ⟨fun h => absurd q1 h, fun _ => ⟨fun h => ?_, fun _ => ⟨fun h => ?_, fun _ => ⟨fun h => absurd q3.1 h, fun _ => ⟨?_, fun _ => trivial⟩⟩⟩⟩⟩
    · rw [q2] at h; simp [sameB] at h
    · rw [q3.2] at h; simp at h
    · intro hs
      refine ⟨by omega, (), 0, Nat.zero_le _, ⟨rfl, (signRow_nil x).symm⟩, fun k hk => ⟨fun hlt => ?_, fun hge => ?_⟩⟩
      · obtain ⟨s1, s2, s3⟩ := sgn hs k hlt
        have s4 : (signRow x (signs.take k)).length = x.length := signRow_len _ _
        rw [s4]
        refine ⟨hlt, fun h => ?_, fun _ => ⟨fun h => ?_, fun _ => ⟨s1, by omega, fits64 (by omega) (by omega), s1, by omega, fits64 (by omega) (by omega), k + 1, hlt, by omega, by omega, s3⟩⟩⟩
        · have h1 : nth signs k < 0 := of_decide_eq_true h; exfalso; omega
        · have h1 : (x.length : Int) ≤ nth signs k := of_decide_eq_true h; exfalso; omega
      · obtain rfl : k = signs.length := by omega
        rw [List.take_length, gsR hs]
        have q1 := sign_shown signs hx
        have q2 := sign_read signs hx
        have q3 := sign_coh signs hm hv
        refine ⟨fun h => absurd q1 h, fun _ => ⟨fun h => ?_, fun _ => ⟨fun h => ?_, fun _ => ⟨fun h => absurd q3.1 h, fun _ => trivial⟩⟩⟩⟩
        · rw [q2] at h; simp [sameB] at h
        · rw [q3.2] at h; simp at h
  · intro hs
    refine ⟨by omega, (), 0, Nat.zero_le _, ⟨rfl, (signRow_nil x).symm⟩, fun k hk => ⟨fun hlt => ?_, fun hge => ?_⟩⟩
    · obtain ⟨s1, s2, s3⟩ := sgn hs k hlt
      have s4 : (signRow x (signs.take k)).length = x.length := signRow_len _ _
      rw [s4]
      refine ⟨hlt, fun h => ?_, fun _ => ⟨fun h => ?_, fun _ => ⟨s1, by omega, fits64 (by omega) (by omega), s1, by omega, fits64 (by omega) (by omega), k + 1, hlt, by omega, by omega, s3⟩⟩⟩
      · have h1 : nth signs k < 0 := of_decide_eq_true h; exfalso; omega
      · have h1 : (x.length : Int) ≤ nth signs k := of_decide_eq_true h; exfalso; omega
    · obtain rfl : k = signs.length := by omega
      rw [List.take_length, gsR hs]
      have q1 := sign_shown signs hx
      have q2 := sign_read signs hx
      have q3 := sign_coh signs hm hv
      refine ⟨fun h => absurd q1 h, fun _ => ⟨fun h => ?_, fun _ => ⟨fun h => ?_, fun _ => ⟨fun h => absurd q3.1 h, fun _ => trivial⟩⟩⟩⟩
      · rw [q2] at h; simp [sameB] at h
      · rw [q3.2] at h; simp at h
end Go.Proofs.Ytkkmlcengneomaa
