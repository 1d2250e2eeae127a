/- The mask's coherence: contracts by the engine. No condition. -/
import Derived.Test.YtkkmlcengneomaaT1
import Derived.Test.YtkkmlcengneomaaM5

set_option linter.unusedVariables false
set_option linter.unusedSimpArgs false
namespace Go.Proofs.Ytkkmlcengneomaa
open Go Go.RowKit Eng Ls

def sPairs : FSpec := gspec false none [tMask] (fun _ => True) (fun x => .clo 112 (.cons (.imm (.cons (.dat (.list (.int .i64)) x.1) .nil) 0) .nil))
theorem pairs_meets : Meets Try.prog 83 sPairs := by
  refine meetsG (snd (SpecsOk.nil _) []) Try.func83 rfl rfl (fun x _ => none) (fun _ => by kernel_rfl) (by decide) ?_
  rintro ⟨m, ⟨⟩⟩ -
  revert m
  intro (m : List (List Int))
  refine by_vc (B := ((m = m ∧ True) ∧ (0 : Nat) = (0 : Nat)) ∧ True) (by kernel_rfl) ?_
  exact ⟨⟨⟨rfl, trivial⟩, rfl⟩, trivial⟩

theorem mask_of {m : View} {w : World} (hm : m.on w) {l : List (List Int)} {v : Value} (h : RdV m tMask l v) : ∃ A c, v = .slice A l.length c ∧ SM w A l.length c l := by
  obtain ⟨A, c, e, h2, h3, h4⟩ := h
  refine ⟨A, c, (List.cons.inj e).1, rfl, h2, h3, fun hn => ?_⟩
  obtain ⟨ad, e2, h5⟩ := h4 hn
  refine ⟨ad, e2, fun k hk => ?_⟩
  obtain ⟨cs, k1, k2⟩ := h5 k hk
  have hk1 := Rd.length k1
  obtain ⟨z, rfl⟩ := List.length_eq_one_iff.1 hk1
  obtain ⟨A', c', e3, hs⟩ := rd_SI hm k1
  have := View.cell_on hm (k2 0 z rfl)
  simp only [Ty.size, Nat.mul_one, Nat.add_zero] at this
  subst e3
  exact ⟨A', c', this, hs⟩
def sMB (f : List (List Int) → Bool) : FSpec := tspec true none [tMask] [.bool] (fun _ => True) (fun x => (f x.1, ()))
theorem mvalid_meets : Meets Try.prog 32 (sMB validB) := meets_of ⟨_, _, Try.func32, rfl, rfl⟩ fun w m x vs hm _ hx => by
  obtain ⟨u, us, rfl, h1, h2⟩ := hx
  obtain rfl : us = [] := h2
  obtain ⟨A, c, rfl, hs⟩ := mask_of hm h1
  exact (valid_any A _ c _ w hs).mono fun e w' ⟨h1, h2⟩ => ⟨_, h1, h2, [_], rfl, _, _, rfl, rfl, rfl⟩

/-- The likeness of two columns. -/
def likP (a b : List Int) : (Int × Int) × Bool := if likeD a b = 0 then ((0, 0), false) else ((ratN (likeN a b) (likeD a b), ratD (likeN a b) (likeD a b)), true)
def sLik : FSpec := tspec true none [tInts, tInts] [.prod tInt tInt, .bool] (fun x => Sm x.1 ∧ Sm x.2.1 ∧ x.1.length = x.2.1.length) (fun x => ((likP x.1 x.2.1).1, (likP x.1 x.2.1).2, ()))
theorem likeness_meets : Meets Try.prog 72 sLik := meets_of ⟨_, _, Try.func72, rfl, rfl⟩ fun w m x vs hm hp hx => by
  obtain ⟨x, y, ⟨⟩⟩ := x
  obtain ⟨u, us, rfl, h1, u', us', rfl, h2, h3⟩ := hx
  obtain rfl : us' = [] := h3
  obtain ⟨p1, p2, p3⟩ := hp
  obtain ⟨A, c, rfl, hs⟩ := rd_SI hm h1
  obtain ⟨B, d, rfl, hs'⟩ := rd_SI hm h2
  have p3 : (x : List Int).length = (y : List Int).length := p3
  simp only at hs hs' p1 p2 ⊢
  rw [← p3] at hs' ⊢
  by_cases h0 : likeD x y = 0
  · refine (likeness_no A B _ c d _ _ w p1 p2 hs hs' h0).mono fun e w' ⟨h1, h2⟩ => ⟨_, h1, h2, [_, _], rfl, ?_⟩
    have e : likP x y = ((0, 0), false) := by unfold likP; rw [if_pos h0]
    rw [e]
    exact ⟨_, _, rfl, ⟨_, rfl, [_], [_], rfl, rfl, rfl⟩, _, _, rfl, rfl, rfl⟩
  · refine (likeness_yes A B _ c d _ _ w p1 p2 hs hs' (by omega)).mono fun e w' ⟨h1, h2⟩ => ⟨_, h1, h2, [_, _], rfl, ?_⟩
    have e : likP x y = ((ratN (likeN x y) (likeD x y), ratD (likeN x y) (likeD x y)), true) := by unfold likP; rw [if_neg h0]
    rw [e]
    exact ⟨_, _, rfl, ⟨_, rfl, [_], [_], rfl, rfl, rfl⟩, _, _, rfl, rfl, rfl⟩

def ctxI (specs : List (Nat × FSpec)) (its : List (Nat × ISpec)) : Ctx := { specs := specs, tys := tys, wr := [], its := its }
theorem sndI {specs : List (Nat × FSpec)} {its : List (Nat × ISpec)} (h : SpecsOk Try.prog specs) (hi : ItsOk Try.prog its) : Sound Try.prog (ctxI specs its) := SpecsOk.sound h tys_ok (by kernel_rfl) hi

def cohStep (m : List (List Int)) (o : Option (Int × Int)) (q : Nat × Nat) : Option (Int × Int) := o.bind fun b => match (likP (colA m q.1) (colA m q.2)).2 with
  | false => none
  | true => some (if (likP (colA m q.1) (colA m q.2)).1.1 * b.2 > b.1 * (likP (colA m q.1) (colA m q.2)).1.2 then (likP (colA m q.1) (colA m q.2)).1 else b)
def cohK (m : List (List Int)) (k : Nat) : Option (Int × Int) := ((prsL m).take k).foldl (cohStep m) (some (0, 1))
def cohE (m : List (List Int)) : Int := if validB m = false then 1 else if (nthD (.list (.int .i64)) m 0 : List Int).length < 2 then 8 else if (cohK m (prsL m).length).isNone then 8 else 0
def cohR (m : List (List Int)) : Int × Int := if cohE m = 0 then (cohK m (prsL m).length).getD (0, 0) else (0, 0)
def sCoh : FSpec := tspec true none [tMask] [.prod tInt tInt, tInt] (fun _ => True) (fun x => (cohR x.1, cohE x.1, ()))
def ivCoh (m : List (List Int)) : Nat → Option Inv
  | 0 => some (Inv.of [] 3 (fun _ : Nat × (Int × Int) => []) (fun s => [.box 39 (.cons (.lit (.int .i64 0)) (.cons (.lit (.int .i64 0)) .nil)), .box 29 (.cons (.lit (.int .i64 0)) .nil), .box 39 (.cons (.lit (.int .i64 s.2.1)) (.cons (.lit (.int .i64 s.2.2)) .nil))]) (fun s => cohK m s.1 = some s.2) (fun s => s.1))
  | _ => none
theorem prs_mem {p : Nat} : ∀ {i : Nat} {q : Nat × Nat}, i ≤ p → q ∈ prs p i → q.1 < i ∧ q.1 < q.2 ∧ q.2 < p
  | 0, q, _, h => by cases h
  | i + 1, q, hi, h => by
    rcases List.mem_append.1 h with h | h
    · obtain ⟨h1, h2, h3⟩ := prs_mem (by omega) h
      exact ⟨by omega, h2, h3⟩
    · obtain ⟨d, hd, rfl⟩ := List.mem_map.1 h
      have := List.mem_range.1 hd
      exact ⟨by simp, by simp; omega, by simp; omega⟩
theorem square_of {m : List (List Int)} (h : IsMask m) : square m := ⟨by have := h.rows1; omega, by have := h.rows6; omega, by have := h.pix10; exact Nat.le_trans this (by omega), h.each⟩
theorem pair_ok {m : List (List Int)} (h : IsMask m) {k : Nat} {q : Nat × Nat} (hq : (prsL m)[k]? = some q) : Sm (colA m q.1) ∧ Sm (colA m q.2) ∧ (colA m q.1).length = (colA m q.2).length := by
  obtain ⟨h1, h2, h3⟩ := prs_mem (Nat.le_refl _) (List.mem_of_getElem? hq)
  have h3 : q.2 < (nthL m 0).length := h3
  exact ⟨colL_sm h (j := q.1) (by omega), colL_sm h h3, by simp [colA]⟩
theorem likP_bd {a b : List Int} (ha : Sm a) (hb : Sm b) : (0 ≤ (likP a b).1.1 ∧ (likP a b).1.1 ≤ 100) ∧ 0 ≤ (likP a b).1.2 ∧ (likP a b).1.2 ≤ 100 := by
  have h1 := likeD_le ha hb
  have h2 := likeN_le ha hb
  unfold likP
  split
  · simp
  · have h3 := Nat.div_le_self (likeN a b) (Nat.gcd (likeN a b) (likeD a b))
    have h4 := Nat.div_le_self (likeD a b) (Nat.gcd (likeN a b) (likeD a b))
    exact ⟨⟨Int.natCast_nonneg _, Int.ofNat_le.2 (Nat.le_trans h3 h2)⟩, Int.natCast_nonneg _, Int.ofNat_le.2 (Nat.le_trans h4 h1)⟩
theorem cohK_succ {m : List (List Int)} {k : Nat} {q : Nat × Nat} (hq : (prsL m)[k]? = some q) : cohK m (k + 1) = cohStep m (cohK m k) q := by
  unfold cohK
  rw [List.take_add_one, hq]
  simp
theorem cohK_none {m : List (List Int)} {k : Nat} (h : cohK m k = none) : cohK m (prsL m).length = none := by
  unfold cohK at h ⊢
  rw [List.take_length]
  conv => lhs; rw [← List.take_append_drop k (prsL m), List.foldl_append, h]
  generalize (prsL m).drop k = r
  induction r with
  | nil => rfl
  | cons q r ih => exact ih
theorem cohK_bd {m : List (List Int)} (h : IsMask m) : ∀ {k : Nat} {b : Int × Int}, k ≤ (prsL m).length → cohK m k = some b → (0 ≤ b.1 ∧ b.1 ≤ 100) ∧ 0 ≤ b.2 ∧ b.2 ≤ 100
  | 0, b, _, hb => by
    have hb : some (0, 1) = some b := hb
    injection hb with hb
    subst hb
    simp
  | k + 1, b, hk, hb => by
    have hq : (prsL m)[k]? = some ((prsL m)[k]) := List.getElem?_eq_getElem (by omega)
    rw [cohK_succ hq] at hb
    obtain ⟨p1, p2, -⟩ := pair_ok h hq
    have h5 := likP_bd p1 p2
    cases hc : cohK m k with
    | none => rw [hc] at hb; cases hb
    | some b0 =>
      have h6 := cohK_bd h (by omega) hc
      rw [hc] at hb
      simp only [cohStep, Option.bind_some] at hb
      split at hb
      · cases hb
      · injection hb with hb
        subst hb
        split
        · exact h5
        · exact h6
theorem Coherence_meets : Meets Try.prog 41 sCoh := by
  refine meets (sndI (SpecsOk.cons mvalid_meets (SpecsOk.cons pairs_meets (SpecsOk.cons likeness_meets (SpecsOk.nil _)))) (ItsOk.cons pairs1_says (ItsOk.nil _))) Try.func41 rfl rfl (fun x => ivCoh x.1) (fun _ => by kernel_rfl) (by decide) ?_
  rintro ⟨m, ⟨⟩⟩ -
  revert m
  intro (m : List (List Int))
  refine by_vc (B := True ∧
  ((!validB m) = Bool.true → ((0 : Int) = Prod.fst (cohR m) ∧ (0 : Int) = Prod.snd (cohR m) ∧ True) ∧ (1 : Int) = cohE m ∧ True) ∧
    ((!validB m) = Bool.false →
      ((0 : Int) ≤ (0 : Int) ∧ (0 : Int) < (↑(List.length m) : Int)) ∧
        (Decidable.decide ((↑(List.length (Eng.nthD (Eng.Ty.list (Eng.Ty.int Go.IntKind.i64)) m (0 : Nat))) : Int) < (2 : Int)) = Bool.true → ((0 : Int) = Prod.fst (cohR m) ∧ (0 : Int) = Prod.snd (cohR m) ∧ True) ∧ (8 : Int) = cohE m ∧ True) ∧
          (Decidable.decide ((↑(List.length (Eng.nthD (Eng.Ty.list (Eng.Ty.int Go.IntKind.i64)) m (0 : Nat))) : Int) < (2 : Int)) = Bool.false →
            True ∧
              square m ∧
                ∃ (v2 : Unit),
                  ∃ (v3 : Nat × Int × Int),
                    cohK m (Prod.fst v3) = Option.some (Prod.snd v3) ∧
                      Prod.fst v3 = (0 : Nat) ∧
                        (((0 : Int) = (0 : Int) ∧ (0 : Int) = (0 : Int) ∧ True) ∧ ((0 : Int) = (0 : Int) ∧ True) ∧ ((0 : Int) = Prod.fst (Prod.snd v3) ∧ (1 : Int) = Prod.snd (Prod.snd v3) ∧ True) ∧ True) ∧
                          ∀ (v4 : Nat × Int × Int),
                            cohK m (Prod.fst v4) = Option.some (Prod.snd v4) →
                              (∀ (v6 : (Int × Int) × Eng.argsTy._f [Eng.Ty.prod tInts tInts] ⟨Eng.argsTy._f [] PUnit.unit, PUnit.unit⟩),
                                  (prsA m)[Prod.fst v4]? = Option.some v6 →
                                    (Sm (Prod.fst (Prod.fst (Prod.snd v6))) ∧ Sm (Prod.snd (Prod.fst (Prod.snd v6))) ∧ List.length (Prod.fst (Prod.fst (Prod.snd v6))) = List.length (Prod.snd (Prod.fst (Prod.snd v6)))) ∧
                                      ((!Prod.snd (likP (Prod.fst (Prod.fst (Prod.snd v6))) (Prod.snd (Prod.fst (Prod.snd v6))))) = Bool.true → ((0 : Int) = Prod.fst (cohR m) ∧ (0 : Int) = Prod.snd (cohR m) ∧ True) ∧ (8 : Int) = cohE m ∧ True) ∧
                                        ((!Prod.snd (likP (Prod.fst (Prod.fst (Prod.snd v6))) (Prod.snd (Prod.fst (Prod.snd v6))))) = Bool.false →
                                          Eng.fits Go.IntKind.i64 (Prod.fst (Prod.fst (likP (Prod.fst (Prod.fst (Prod.snd v6))) (Prod.snd (Prod.fst (Prod.snd v6))))) * Prod.snd (Prod.snd v4)) ∧
                                            Eng.fits Go.IntKind.i64 (Prod.fst (Prod.snd v4) * Prod.snd (Prod.fst (likP (Prod.fst (Prod.fst (Prod.snd v6))) (Prod.snd (Prod.fst (Prod.snd v6)))))) ∧
                                              (Decidable.decide (Prod.fst (Prod.snd v4) * Prod.snd (Prod.fst (likP (Prod.fst (Prod.fst (Prod.snd v6))) (Prod.snd (Prod.fst (Prod.snd v6))))) < Prod.fst (Prod.fst (likP (Prod.fst (Prod.fst (Prod.snd v6))) (Prod.snd (Prod.fst (Prod.snd v6))))) * Prod.snd (Prod.snd v4)) = Bool.true →
                                                  ∃ (v10 : Nat × Int × Int),
                                                    cohK m (Prod.fst v10) = Option.some (Prod.snd v10) ∧
                                                      Prod.fst v10 = Prod.fst v4 + (1 : Nat) ∧
                                                        ((0 : Int) = (0 : Int) ∧ (0 : Int) = (0 : Int) ∧ True) ∧
                                                          ((0 : Int) = (0 : Int) ∧ True) ∧
                                                            (Prod.fst (Prod.fst (likP (Prod.fst (Prod.fst (Prod.snd v6))) (Prod.snd (Prod.fst (Prod.snd v6))))) = Prod.fst (Prod.snd v10) ∧ Prod.snd (Prod.fst (likP (Prod.fst (Prod.fst (Prod.snd v6))) (Prod.snd (Prod.fst (Prod.snd v6))))) = Prod.snd (Prod.snd v10) ∧ True) ∧ True) ∧
                                                (Decidable.decide (Prod.fst (Prod.snd v4) * Prod.snd (Prod.fst (likP (Prod.fst (Prod.fst (Prod.snd v6))) (Prod.snd (Prod.fst (Prod.snd v6))))) < Prod.fst (Prod.fst (likP (Prod.fst (Prod.fst (Prod.snd v6))) (Prod.snd (Prod.fst (Prod.snd v6))))) * Prod.snd (Prod.snd v4)) = Bool.false →
                                                  ∃ (v10 : Nat × Int × Int),
                                                    cohK m (Prod.fst v10) = Option.some (Prod.snd v10) ∧ Prod.fst v10 = Prod.fst v4 + (1 : Nat) ∧ ((0 : Int) = (0 : Int) ∧ (0 : Int) = (0 : Int) ∧ True) ∧ ((0 : Int) = (0 : Int) ∧ True) ∧ (Prod.fst (Prod.snd v4) = Prod.fst (Prod.snd v10) ∧ Prod.snd (Prod.snd v4) = Prod.snd (Prod.snd v10) ∧ True) ∧ True))) ∧
                                (Prod.fst v4 = List.length (prsA m) → (Prod.fst (Prod.snd v4) = Prod.fst (cohR m) ∧ Prod.snd (Prod.snd v4) = Prod.snd (cohR m) ∧ True) ∧ (0 : Int) = cohE m ∧ True)))) (by kernel_rfl) ?_
  refine ⟨trivial, fun hv => ?_, fun hv => ?_⟩
  · have hv : validB m = false := by simpa using hv
    have e : cohE m = 1 := by simp [cohE, hv]
    have e2 : cohR m = (0, 0) := by simp [cohR, e]
    rw [e, e2]
    exact ⟨⟨rfl, rfl, trivial⟩, rfl, trivial⟩
  have hv : validB m = true := by simpa using hv
  have hm := IsMask.of hv
  have hr1 := hm.rows1
  have hq1 := square_of hm
  refine ⟨⟨by omega, by omega⟩, fun h2 => ?_, fun h2 => ?_⟩
  · have h2 : (nthD (.list (.int .i64)) m 0 : List Int).length < 2 := by have := of_decide_eq_true h2; omega
    have e : cohE m = 8 := by unfold cohE; rw [if_neg (by simp [hv]), if_pos h2]
    have e2 : cohR m = (0, 0) := by simp [cohR, e]
    rw [e, e2]
    exact ⟨⟨rfl, rfl, trivial⟩, rfl, trivial⟩
  have h2 : ¬ (nthD (.list (.int .i64)) m 0 : List Int).length < 2 := by have := of_decide_eq_false h2; omega
  have hE : cohE m = if (cohK m (prsL m).length).isNone then 8 else 0 := by unfold cohE; rw [if_neg (by simp [hv]), if_neg h2]
  refine ⟨trivial, hq1, (), (0, (0, 1)), rfl, rfl, ⟨⟨rfl, rfl, trivial⟩, ⟨rfl, trivial⟩, ⟨rfl, rfl, trivial⟩, trivial⟩, ?_⟩
  rintro ⟨k, b⟩ hk
  have hk : cohK m k = some b := hk
  refine ⟨fun d hd => ?_, fun he => ?_⟩
  · have hd' : ((prsL m).map (prA m))[k]? = some d := hd
    rw [List.getElem?_map] at hd'
    obtain ⟨q, hq, e⟩ := Option.map_eq_some_iff.1 hd'
    have hd1 : d.2.1.1 = colA m q.1 := by rw [← e]; rfl
    have hd2 : d.2.1.2 = colA m q.2 := by rw [← e]; rfl
    have hkl : k < (prsL m).length := (List.getElem?_eq_some_iff.1 hq).1
    obtain ⟨p1, p2, p3⟩ := pair_ok hm hq
    have h5 := likP_bd p1 p2
    have h6 := cohK_bd hm (by omega) hk
    have hst := cohK_succ hq
    rw [hk] at hst
    simp only [cohStep, Option.bind_some] at hst
    rw [hd1, hd2]
    refine ⟨⟨p1, p2, p3⟩, fun hl => ?_, fun hl => ?_⟩
    · have hl : (likP (colA m q.1) (colA m q.2)).2 = false := by simpa using hl
      rw [hl] at hst
      have e : cohE m = 8 := by rw [hE, cohK_none hst]; rfl
      have e2 : cohR m = (0, 0) := by simp [cohR, e]
      rw [e, e2]
      exact ⟨⟨rfl, rfl, trivial⟩, rfl, trivial⟩
    · have hl : (likP (colA m q.1) (colA m q.2)).2 = true := by simpa using hl
      rw [hl] at hst
      simp only at hst
      generalize likP (colA m q.1) (colA m q.2) = z at *
      have b1 := mul_bd (x := z.1.1) (y := b.2) (K := 100) (L := 100) (by omega) (by omega) (by omega) (by omega)
      have b2 := mul_bd (x := b.1) (y := z.1.2) (K := 100) (L := 100) (by omega) (by omega) (by omega) (by omega)
      refine ⟨fits64 (by dsimp only; omega) (by dsimp only; omega), fits64 (by dsimp only; omega) (by dsimp only; omega), fun hg => ?_, fun hg => ?_⟩
      · rw [if_pos (by simpa using hg)] at hst
        exact ⟨(k + 1, z.1), hst, rfl, ⟨rfl, rfl, trivial⟩, ⟨rfl, trivial⟩, ⟨rfl, rfl, trivial⟩, trivial⟩
      · rw [if_neg (by simpa using hg)] at hst
        exact ⟨(k + 1, b), hst, rfl, ⟨rfl, rfl, trivial⟩, ⟨rfl, trivial⟩, ⟨rfl, rfl, trivial⟩, trivial⟩
  · have he : k = ((prsL m).map (prA m)).length := he
    rw [List.length_map] at he
    subst he
    have e : cohE m = 0 := by rw [hE, hk]; rfl
    have e2 : cohR m = b := by simp [cohR, e, hk]
    rw [e, e2]
    exact ⟨⟨rfl, rfl, trivial⟩, rfl, trivial⟩
end Go.Proofs.Ytkkmlcengneomaa
