/- The law MaskCoheres: contracts by the engine. No condition. -/
import Derived.Test.YtkkmlcengneomaaT5
import Derived.Test.YtkkmlcengneomaaCohLaw
import Derived.Test.YtkkmlcengneomaaL1

set_option linter.unusedVariables false
set_option linter.unusedSimpArgs false
namespace Go.Proofs.Ytkkmlcengneomaa
open Go Go.RowKit Eng Ls

def smK (m : List (List Int)) (k : Nat) : Int := (m.take k).foldl (fun s r => IntKind.i64.wrap (s + r.length)) m.length
def smB (m : List (List Int)) : Bool := !decide (500 < smK m m.length)
def fitL (m : List (List Int)) : Prop := m.length ≤ 9223372036854775807
def sSmall : FSpec := tspec true none [.list tMask] [.bool] (fun x => x.1.length ≤ 1000 ∧ ∀ m ∈ (x.1 : List (List (List Int))), fitL m) (fun x => ((x.1 : List (List (List Int))).all smB, ()))
def ivSmall (l : List (List (List Int))) : Nat → Option Inv
  | 0 => some (Inv.of [10] 0 (fun q : Nat => [(10, .lit (.int .i64 q))]) (fun _ => []) (fun q => q ≤ l.length ∧ (l.take q).all smB = true) (fun q => l.length - q))
  | 1 => some ⟨Nat, Nat, [5, 18], 0, fun q k => [(5, .lit (.int .i64 (smK (nthD (.list (.list (.int .i64))) l q) k))), (18, .lit (.int .i64 k))], fun _ _ => [], fun q k => k ≤ (nthD (.list (.list (.int .i64))) l q : List (List Int)).length, fun q k => (nthD (.list (.list (.int .i64))) l q : List (List Int)).length - k⟩
  | _ => none
theorem smK_succ {m : List (List Int)} {k : Nat} (hk : k < m.length) : smK m (k + 1) = IntKind.i64.wrap (smK m k + (nthD (.list (.int .i64)) m k : List Int).length) := by
  unfold smK
  rw [List.take_add_one, List.getElem?_eq_getElem hk, Option.toList_some, List.foldl_append]
  simp [nthD, hk]
theorem small_meets : Meets Try.prog 20 sSmall := by
  refine meets (snd (SpecsOk.nil _) [25]) Try.func20 rfl rfl (fun x => ivSmall x.1) (fun _ => by kernel_rfl) (by decide) ?_
  rintro ⟨l, ⟨⟩⟩ h
  revert l
  intro (l : List (List (List Int))) (h : l.length ≤ 1000 ∧ ∀ m ∈ l, fitL m)
  refine by_vc (B := ∃ (v0 : Unit),
  ∃ (v1 : Nat),
    (v1 ≤ List.length l ∧ List.all (List.take v1 l) smB = Bool.true) ∧
      (((0 : Int) = (↑v1 : Int) ∧ True) ∧ True) ∧
        ∀ (v2 : Nat),
          v2 ≤ List.length l ∧ List.all (List.take v2 l) smB = Bool.true →
            (Decidable.decide ((↑v2 : Int) < (↑(List.length l) : Int)) = Bool.true →
                ((0 : Int) ≤ (↑v2 : Int) ∧ (↑v2 : Int) < (↑(List.length l) : Int)) ∧
                  ∃ (v5 : Nat),
                    ∃ (v6 : Nat),
                      Nat.le v6 (List.length (Eng.nthD (Eng.Ty.list (Eng.Ty.list (Eng.Ty.int Go.IntKind.i64))) l v5)) ∧
                        (((↑(List.length (Eng.nthD tMask l (Int.toNat (↑v2 : Int)))) : Int) = smK (Eng.nthD (Eng.Ty.list (Eng.Ty.list (Eng.Ty.int Go.IntKind.i64))) l v5) v6 ∧ (0 : Int) = (↑v6 : Int) ∧ True) ∧ True) ∧
                          ∀ (v7 : Nat),
                            Nat.le v7 (List.length (Eng.nthD (Eng.Ty.list (Eng.Ty.list (Eng.Ty.int Go.IntKind.i64))) l v5)) →
                              (Decidable.decide ((↑v7 : Int) < (↑(List.length (Eng.nthD tMask l (Int.toNat (↑v2 : Int)))) : Int)) = Bool.true →
                                  ((0 : Int) ≤ (↑v7 : Int) ∧ (↑v7 : Int) < (↑(List.length (Eng.nthD tMask l (Int.toNat (↑v2 : Int)))) : Int)) ∧
                                    Eng.fits Go.IntKind.i64 ((↑v7 : Int) + (1 : Int)) ∧
                                      ∃ (v10 : Nat),
                                        Nat.le v10 (List.length (Eng.nthD (Eng.Ty.list (Eng.Ty.list (Eng.Ty.int Go.IntKind.i64))) l v5)) ∧
                                          List.length (Eng.nthD (Eng.Ty.list (Eng.Ty.list (Eng.Ty.int Go.IntKind.i64))) l v5) - v10 < List.length (Eng.nthD (Eng.Ty.list (Eng.Ty.list (Eng.Ty.int Go.IntKind.i64))) l v5) - v7 ∧
                                            (Go.IntKind.wrap Go.IntKind.i64 (smK (Eng.nthD (Eng.Ty.list (Eng.Ty.list (Eng.Ty.int Go.IntKind.i64))) l v5) v7 + (↑(List.length (Eng.nthD (Eng.Ty.list (Eng.Ty.int Go.IntKind.i64)) (Eng.nthD tMask l (Int.toNat (↑v2 : Int))) (Int.toNat (↑v7 : Int)))) : Int)) =
                                                  smK (Eng.nthD (Eng.Ty.list (Eng.Ty.list (Eng.Ty.int Go.IntKind.i64))) l v5) v10 ∧
                                                (↑v7 : Int) + (1 : Int) = (↑v10 : Int) ∧ True) ∧
                                              True) ∧
                                (Decidable.decide ((↑v7 : Int) < (↑(List.length (Eng.nthD tMask l (Int.toNat (↑v2 : Int)))) : Int)) = Bool.false →
                                  (Decidable.decide ((500 : Int) < smK (Eng.nthD (Eng.Ty.list (Eng.Ty.list (Eng.Ty.int Go.IntKind.i64))) l v5) v7) = Bool.true → Bool.false = List.all l smB) ∧
                                    (Decidable.decide ((500 : Int) < smK (Eng.nthD (Eng.Ty.list (Eng.Ty.list (Eng.Ty.int Go.IntKind.i64))) l v5) v7) = Bool.false →
                                      Eng.fits Go.IntKind.i64 ((↑v2 : Int) + (1 : Int)) ∧ ∃ (v11 : Nat), (v11 ≤ List.length l ∧ List.all (List.take v11 l) smB = Bool.true) ∧ List.length l - v11 < List.length l - v2 ∧ ((↑v2 : Int) + (1 : Int) = (↑v11 : Int) ∧ True) ∧ True))) ∧
              (Decidable.decide ((↑v2 : Int) < (↑(List.length l) : Int)) = Bool.false → Bool.true = List.all l smB)) (by kernel_rfl) ?_
  refine ⟨(), 0, ⟨Nat.zero_le _, rfl⟩, ⟨⟨rfl, trivial⟩, trivial⟩, fun q hq => ⟨fun hlt => ?_, fun hge => ?_⟩⟩
  · have hlt : q < l.length := by have := of_decide_eq_true hlt; omega
    have eq0 : (nthD (.list (.list (.int .i64))) l ((q : Int)).toNat : List (List Int)) = nthD (.list (.list (.int .i64))) l q := by rw [Int.toNat_natCast]
    have hsucc : (l.take (q + 1)).all smB = ((l.take q).all smB && smB (nthD (.list (.list (.int .i64))) l q)) := by
      rw [List.take_add_one, List.getElem?_eq_getElem hlt, Option.toList_some, List.all_append]
      simp [nthD, hlt]
    have hfz : (nthD (.list (.list (.int .i64))) l q : List (List Int)).length ≤ 9223372036854775807 := h.2 _ (by simp [nthD, hlt])
    have hq2 := hq.2
    have hlen := h.1
    rw [eq0]
    refine ⟨⟨by omega, by omega⟩, q, 0, Nat.zero_le _, ⟨⟨rfl, rfl, trivial⟩, trivial⟩, ?_⟩
    intro k hk
    generalize (nthD (.list (.list (.int .i64))) l q : List (List Int)) = z at *
    have hk : k ≤ z.length := hk
    refine ⟨fun hkl => ?_, fun hkl => ⟨fun hg => ?_, fun hg => ?_⟩⟩
    · have hkl : k < z.length := by have := of_decide_eq_true hkl; omega
      rw [Int.toNat_natCast]
      exact ⟨⟨by omega, by omega⟩, fits64 (by omega) (by omega), k + 1, hkl, by omega, ⟨(smK_succ hkl).symm, rfl, trivial⟩, trivial⟩
    · have hkl : k = z.length := by have := of_decide_eq_false hkl; omega
      subst hkl
      have hsm : smB z = false := by unfold smB; rw [hg]; rfl
      rw [hsm, Bool.and_false] at hsucc
      have : l.all smB = ((l.take (q + 1)).all smB && (l.drop (q + 1)).all smB) := by rw [← List.all_append, List.take_append_drop]
      rw [this, hsucc, Bool.false_and]
    · have hkl : k = z.length := by have := of_decide_eq_false hkl; omega
      subst hkl
      have hsm : smB z = true := by unfold smB; rw [hg]; rfl
      rw [hsm, hq2, Bool.and_true] at hsucc
      exact ⟨fits64 (by omega) (by omega), q + 1, ⟨hlt, hsucc⟩, by omega, ⟨rfl, trivial⟩, trivial⟩
  · have hge : q = l.length := by have := of_decide_eq_false hge; have h1 := hq.1; omega
    subst hge
    have := hq.2
    rw [List.take_length] at this
    exact this.symm
theorem awake_meets : Meets Try.prog 16 (tspec true none [] [.bool] (fun _ => True) (fun _ => (true, ()))) := meets_of ⟨_, _, Try.func16, rfl, rfl⟩ fun w m x vs hm _ hx => by
  obtain rfl : vs = [] := hx
  exact (awake_any w).mono fun e w' ⟨h1, h2⟩ => ⟨_, h1, h2, [_], rfl, _, _, rfl, rfl, rfl⟩

def sLaw1 : FSpec := tspec true none [tMask] [.bool] (fun x => fitL x.1) (fun _ => (true, ()))
def ivLaw (m : List (List Int)) : Nat → Option Inv
  | 0 => some (Inv.of [59] 2 (fun k : Nat => [(59, .lit (.int .i64 k))]) (fun _ => [.box 39 (.cons (.lit (.int .i64 (cohR m).1)) (.cons (.lit (.int .i64 (cohR m).2)) .nil)), .box 39 (.cons (.lit (.int .i64 (rcR m).1)) (.cons (.lit (.int .i64 (rcR m).2)) .nil))]) (fun k => k ≤ (alkR m).length) (fun k => (alkR m).length - k))
  | _ => none
theorem maskCoheres_meets : Meets Try.prog 7 sLaw1 := by
  refine meets (snd (SpecsOk.cons small_meets (SpecsOk.cons awake_meets (SpecsOk.cons Coherence_meets (SpecsOk.cons rCoherence_meets (SpecsOk.cons Alike_meets (SpecsOk.cons rAlike_meets (SpecsOk.nil _))))))) []) Try.func7 rfl rfl (fun x => ivLaw x.1) (fun _ => by kernel_rfl) (by decide) ?_
  rintro ⟨m, ⟨⟩⟩ h
  revert m
  intro (m : List (List Int)) (h : fitL m)
  refine by_vc (B := (List.length [m] ≤ (1000 : Nat) ∧ ∀ (v0 : List (List Int)), v0 ∈ [m] → fitL v0) ∧
  ((!List.all [m] smB) = Bool.true → True ∧ Bool.true = Bool.true) ∧
    ((!List.all [m] smB) = Bool.false →
      True ∧
        True ∧
          True ∧
            True ∧
              ((!(Prod.fst (cohR m) == Prod.fst (rcR m) && Prod.snd (cohR m) == Prod.snd (rcR m))) = Bool.true → Bool.false = Bool.true) ∧
                ((!(Prod.fst (cohR m) == Prod.fst (rcR m) && Prod.snd (cohR m) == Prod.snd (rcR m))) = Bool.false →
                  ((cohE m != rcE m) = Bool.true → Bool.false = Bool.true) ∧
                    ((cohE m != rcE m) = Bool.false →
                      ((alkE m != alkE m) = Bool.true → Bool.false = Bool.true) ∧
                        ((alkE m != alkE m) = Bool.false →
                          (((↑(List.length (alkR m)) : Int) != (↑(List.length (alkR m)) : Int)) = Bool.true → Bool.false = Bool.true) ∧
                            (((↑(List.length (alkR m)) : Int) != (↑(List.length (alkR m)) : Int)) = Bool.false →
                              ∃ (v5 : Unit),
                                ∃ (v6 : Nat),
                                  Nat.le v6 (List.length (alkR m)) ∧
                                    (((0 : Int) = (↑v6 : Int) ∧ True) ∧
                                        (Prod.fst (cohR m) = Prod.fst (cohR m) ∧ Prod.snd (cohR m) = Prod.snd (cohR m) ∧ True) ∧
                                          (Prod.fst (rcR m) = Prod.fst (rcR m) ∧ Prod.snd (rcR m) = Prod.snd (rcR m) ∧ True) ∧ True) ∧
                                      ∀ (v7 : Nat),
                                        Nat.le v7 (List.length (alkR m)) →
                                          (Decidable.decide ((↑v7 : Int) < (↑(List.length (alkR m)) : Int)) = Bool.true →
                                              ((0 : Int) ≤ (↑v7 : Int) ∧ (↑v7 : Int) < (↑(List.length (alkR m)) : Int)) ∧
                                                ((0 : Int) ≤ (↑v7 : Int) ∧ (↑v7 : Int) < (↑(List.length (alkR m)) : Int)) ∧
                                                  ((!(Prod.fst (Eng.nthD (Eng.Ty.prod tInt tInt) (alkR m) (Int.toNat (↑v7 : Int))) == Prod.fst (Eng.nthD (Eng.Ty.prod tInt tInt) (alkR m) (Int.toNat (↑v7 : Int))) &&
                                                            Prod.snd (Eng.nthD (Eng.Ty.prod tInt tInt) (alkR m) (Int.toNat (↑v7 : Int))) == Prod.snd (Eng.nthD (Eng.Ty.prod tInt tInt) (alkR m) (Int.toNat (↑v7 : Int))))) =
                                                        Bool.true →
                                                      Bool.false = Bool.true) ∧
                                                    ((!(Prod.fst (Eng.nthD (Eng.Ty.prod tInt tInt) (alkR m) (Int.toNat (↑v7 : Int))) == Prod.fst (Eng.nthD (Eng.Ty.prod tInt tInt) (alkR m) (Int.toNat (↑v7 : Int))) &&
                                                            Prod.snd (Eng.nthD (Eng.Ty.prod tInt tInt) (alkR m) (Int.toNat (↑v7 : Int))) == Prod.snd (Eng.nthD (Eng.Ty.prod tInt tInt) (alkR m) (Int.toNat (↑v7 : Int))))) =
                                                        Bool.false →
                                                      Eng.fits Go.IntKind.i64 ((↑v7 : Int) + (1 : Int)) ∧
                                                        ∃ (v11 : Nat),
                                                          Nat.le v11 (List.length (alkR m)) ∧
                                                            List.length (alkR m) - v11 < List.length (alkR m) - v7 ∧
                                                              ((↑v7 : Int) + (1 : Int) = (↑v11 : Int) ∧ True) ∧
                                                                (Prod.fst (cohR m) = Prod.fst (cohR m) ∧ Prod.snd (cohR m) = Prod.snd (cohR m) ∧ True) ∧
                                                                  (Prod.fst (rcR m) = Prod.fst (rcR m) ∧ Prod.snd (rcR m) = Prod.snd (rcR m) ∧ True) ∧ True)) ∧
                                            (Decidable.decide ((↑v7 : Int) < (↑(List.length (alkR m)) : Int)) = Bool.false →
                                              ((cohE m != (0 : Int)) = Bool.true → True ∧ Bool.true = Bool.true) ∧
                                                ((cohE m != (0 : Int)) = Bool.false →
                                                  (((Prod.fst (cohR m) == (1 : Int) && Prod.snd (cohR m) == (1 : Int)) == Decidable.decide ((0 : Int) < (↑(List.length (alkR m)) : Int))) = Bool.true → True ∧ Bool.true = Bool.true) ∧
                                                    (((Prod.fst (cohR m) == (1 : Int) && Prod.snd (cohR m) == (1 : Int)) == Decidable.decide ((0 : Int) < (↑(List.length (alkR m)) : Int))) = Bool.false → Bool.false = Bool.true))))))))) (by kernel_rfl) ?_
  have hR := cohR_same m
  have hE := cohE_same m
  have hle : (alkR m).length ≤ 100 := by
    unfold alkR
    split
    · rename_i hv
      have := alkK_le (IsMask.of hv) (prsL m).length
      unfold alkK at this
      rw [List.take_length] at this
      exact this
    · simp
  have h1 := coh_one (m := m)
  rw [← hR, ← hE]
  simp only [ne_eq, true_and, and_true, eq_self, Bool.not_eq_true', Bool.not_eq_false', decide_eq_true_eq, decide_eq_false_iff_not, Nat.le_eq, Int.not_lt, Int.not_le, Int.reduceEq, not_false_eq_true, Bool.not_eq_eq_eq_not, Bool.not_true, Bool.not_false, Int.ofNat_lt, Int.ofNat_le, Int.toNat_natCast, Int.natCast_nonneg, nthD_nth, beq_iff_eq, bne_iff_ne, beq_eq_false_iff_ne, bne_eq_false_iff_eq, Classical.not_not, List.length_cons, List.length_nil, Nat.zero_add, List.nil_append, true_implies, Nat.lt_add_one, Nat.zero_lt_succ, Int.reduceLE, Int.reduceLT]
  refine ⟨⟨by omega, fun v hv => (show v = m by simpa using hv) ▸ h⟩, fun _ => trivial, fun _ => ⟨fun e => by simp at e, fun _ => ⟨fun e => absurd trivial e, fun e => absurd trivial e, fun e => absurd trivial e, (), 0, Nat.zero_le _, rfl, fun k hk => ⟨fun hlt => ⟨hlt, hlt, fun e => by simp at e, fun _ => ⟨fits64 (by omega) (by omega), k + 1, by omega, by omega, by omega⟩⟩, fun _ => ⟨fun _ => trivial, fun h0 => ⟨fun _ => trivial, fun e => ?_⟩⟩⟩⟩⟩⟩
  refine absurd ?_ e
  rw [h1 h0]
  simp
end Go.Proofs.Ytkkmlcengneomaa
