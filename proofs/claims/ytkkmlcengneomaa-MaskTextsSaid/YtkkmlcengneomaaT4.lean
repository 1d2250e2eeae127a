/- The reference's coherence and alike columns: contracts by the engine. No condition. -/
import Derived.Test.YtkkmlcengneomaaT3
import Derived.Test.YtkkmlcengneomaaR4

set_option linter.unusedVariables false
set_option linter.unusedSimpArgs false
namespace Go.Proofs.Ytkkmlcengneomaa
open Go Go.RowKit Eng Ls

theorem rmvalid_meets : Meets Try.prog 13 (sMB validB) := meets_of ⟨_, _, Try.func13, rfl, rfl⟩ fun w m x vs hm _ hx => by
  obtain ⟨u, us, rfl, h1, h2⟩ := hx
  obtain rfl : us = [] := h2
  obtain ⟨A, c, rfl, hs⟩ := mask_of hm h1
  exact (rvalid_any A _ c _ w hs).mono fun e w' ⟨h1, h2⟩ => ⟨_, h1, by subst h2; exact Below.refl _ _, [_], rfl, _, _, rfl, rfl, rfl⟩
def sRLik : FSpec := tspec true none [tMask, tInt, tInt] [.prod tInt tInt, tInt] (fun _ => True) (fun x => ((likN x.1 x.2.1 x.2.2.1, likDn x.1 x.2.1 x.2.2.1), likenessE x.1 x.2.1 x.2.2.1, ()))
theorem rLikeness_meets : Meets Try.prog 26 sRLik := meets_of ⟨_, _, Try.func26, rfl, rfl⟩ fun w m x vs hm _ hx => by
  obtain ⟨u, us, rfl, h1, u', us', rfl, h2, u'', us'', rfl, h3, h4⟩ := hx
  obtain rfl : us'' = [] := h4
  obtain ⟨A, c, rfl, hs⟩ := mask_of hm h1
  obtain rfl : u' = .int .i64 x.2.1 := h2
  obtain rfl : u'' = .int .i64 x.2.2.1 := h3
  exact (rLikeness_any A _ c _ _ _ w hs).mono fun e w' ⟨h1, h2⟩ => ⟨_, h1, h2, [_, _], rfl, _, _, rfl, ⟨_, rfl, [_], [_], rfl, rfl, rfl⟩, _, _, rfl, rfl, rfl⟩

/-- The reference goes through the pairs (i, j), i below j, by j. -/
def rrow (j n : Nat) : List (Nat × Nat) := (List.range n).map fun i => (i, j)
def rprs : Nat → List (Nat × Nat)
  | 0 => []
  | j + 1 => rprs j ++ rrow j j
def cohF (m : List (List Int)) (l : List (Nat × Nat)) : Option (Int × Int) := l.foldl (cohStep m) (some (0, 1))
def rcK (m : List (List Int)) (j i : Nat) : Option (Int × Int) := cohF m (rprs j ++ rrow j i)
def rcL (m : List (List Int)) : Option (Int × Int) := cohF m (rprs (nthL m 0).length)
/-- The error of the first pair that has one. -/
def rcE (m : List (List Int)) : Int := if validB m = false then 1 else if (nthL m 0).length < 2 then 8 else if (rcL m).isNone then 8 else 0
def rcR (m : List (List Int)) : Int × Int := if rcE m = 0 then (rcL m).getD (0, 0) else (0, 0)
def sRCoh : FSpec := tspec true none [tMask] [.prod tInt tInt, tInt] (fun _ => True) (fun x => (rcR x.1, rcE x.1, ()))
def ivRCoh (m : List (List Int)) : Nat → Option Inv
  | 0 => some (Inv.of [24] 2 (fun s : Nat × (Int × Int) => [(24, .lit (.int .i64 s.1))]) (fun s => [.box 39 (.cons (.lit (.int .i64 0)) (.cons (.lit (.int .i64 0)) .nil)), .box 39 (.cons (.lit (.int .i64 s.2.1)) (.cons (.lit (.int .i64 s.2.2)) .nil))]) (fun s => s.1 ≤ (nthL m 0).length ∧ rcK m s.1 0 = some s.2) (fun s => (nthL m 0).length - s.1))
  | 1 => some ⟨Nat, Nat × (Int × Int), [28], 2, fun _ s => [(28, .lit (.int .i64 s.1))], fun _ s => [.box 39 (.cons (.lit (.int .i64 0)) (.cons (.lit (.int .i64 0)) .nil)), .box 39 (.cons (.lit (.int .i64 s.2.1)) (.cons (.lit (.int .i64 s.2.2)) .nil))], fun j s => s.1 ≤ j ∧ rcK m j s.1 = some s.2, fun j s => j - s.1⟩
  | _ => none
theorem cohF_snoc (m : List (List Int)) (l : List (Nat × Nat)) (q : Nat × Nat) : cohF m (l ++ [q]) = cohStep m (cohF m l) q := by simp [cohF]
theorem cohF_none {m : List (List Int)} {l : List (Nat × Nat)} (h : cohF m l = none) (r : List (Nat × Nat)) : cohF m (l ++ r) = none := by
  unfold cohF at h ⊢
  rw [List.foldl_append, h]
  induction r with
  | nil => rfl
  | cons q r ih => exact ih
theorem rrow_succ (j i : Nat) : rrow j (i + 1) = rrow j i ++ [(i, j)] := by simp [rrow, List.range_succ]
theorem rprs_pre {j p : Nat} (h : j ≤ p) : ∃ r, rprs p = rprs j ++ r := by
  induction p with
  | zero => obtain rfl : j = 0 := by omega
            exact ⟨[], rfl⟩
  | succ p ih =>
    by_cases e : j = p + 1
    · subst e; exact ⟨[], by simp⟩
    · obtain ⟨r, hr⟩ := ih (by omega)
      exact ⟨r ++ rrow p p, by rw [rprs, hr, List.append_assoc]⟩
theorem rrow_pre {j i n : Nat} (h : i ≤ n) : ∃ r, rrow j n = rrow j i ++ r := by
  induction n with
  | zero => obtain rfl : i = 0 := by omega
            exact ⟨[], rfl⟩
  | succ n ih =>
    by_cases e : i = n + 1
    · subst e; exact ⟨[], by simp⟩
    · obtain ⟨r, hr⟩ := ih (by omega)
      exact ⟨r ++ [(n, j)], by rw [rrow_succ, hr, List.append_assoc]⟩
theorem rcK_none {m : List (List Int)} {j i : Nat} (hi : i ≤ j) (hj : j < (nthL m 0).length) (h : rcK m j i = none) : rcL m = none := by
  obtain ⟨r, hr⟩ := rprs_pre (j := j + 1) (p := (nthL m 0).length) hj
  obtain ⟨r2, hr2⟩ := rrow_pre (j := j) hi
  unfold rcL
  have e : rprs j ++ (rrow j i ++ r2) ++ r = (rprs j ++ rrow j i) ++ (r2 ++ r) := by simp
  rw [hr, rprs, hr2, e]
  exact cohF_none h _
theorem rcK_succ (m : List (List Int)) (j i : Nat) : rcK m j (i + 1) = cohStep m (rcK m j i) (i, j) := by
  unfold rcK
  rw [rrow_succ, ← List.append_assoc, cohF_snoc]
theorem rcK_next (m : List (List Int)) (j : Nat) : rcK m j j = rcK m (j + 1) 0 := by
  unfold rcK
  simp [rprs, rrow]
theorem colSm {m : List (List Int)} (h : IsMask m) {j : Nat} (hj : j < (nthL m 0).length) : Sm (colA m j) := colL_sm h (j := j) hj
theorem cohStep_bd {m : List (List Int)} (h : IsMask m) {i j : Nat} (hi : i < (nthL m 0).length) (hj : j < (nthL m 0).length) {o : Option (Int × Int)} (ho : ∀ b, o = some b → (0 ≤ b.1 ∧ b.1 ≤ 100) ∧ 0 ≤ b.2 ∧ b.2 ≤ 100) : ∀ b, cohStep m o (i, j) = some b → (0 ≤ b.1 ∧ b.1 ≤ 100) ∧ 0 ≤ b.2 ∧ b.2 ≤ 100 := by
  intro b hb
  cases o with
  | none => cases hb
  | some b0 =>
    simp only [cohStep, Option.bind_some] at hb
    split at hb
    · cases hb
    · injection hb with hb
      subst hb
      split
      · exact likP_bd (colSm h hi) (colSm h hj)
      · exact ho b0 rfl
theorem rrow_bd {m : List (List Int)} (h : IsMask m) {j : Nat} (hj : j < (nthL m 0).length) (h0 : ∀ b, rcK m j 0 = some b → (0 ≤ b.1 ∧ b.1 ≤ 100) ∧ 0 ≤ b.2 ∧ b.2 ≤ 100) : ∀ i, i ≤ j → ∀ b, rcK m j i = some b → (0 ≤ b.1 ∧ b.1 ≤ 100) ∧ 0 ≤ b.2 ∧ b.2 ≤ 100
  | 0, _ => h0
  | i + 1, hi => by
    rw [rcK_succ]
    exact cohStep_bd h (by omega) hj (rrow_bd h hj h0 i (by omega))
theorem rprs_bd {m : List (List Int)} (h : IsMask m) : ∀ j, j ≤ (nthL m 0).length → ∀ b, rcK m j 0 = some b → (0 ≤ b.1 ∧ b.1 ≤ 100) ∧ 0 ≤ b.2 ∧ b.2 ≤ 100
  | 0, _, b, hb => by
    have hb : some (0, 1) = some b := hb
    injection hb with hb
    subst hb
    simp
  | j + 1, hj, b, hb => by
    rw [← rcK_next] at hb
    exact rrow_bd h (by omega) (rprs_bd h j (by omega)) j (Nat.le_refl _) b hb
theorem lik_eq {m : List (List Int)} (h : IsMask m) {i j : Nat} (hv : validB m = true) (hi : i < (nthL m 0).length) (hj : j < (nthL m 0).length) :
    likenessE m i j = (if (likP (colA m i) (colA m j)).2 = true then 0 else 8) ∧ ((likP (colA m i) (colA m j)).2 = true → likN m i j = (likP (colA m i) (colA m j)).1.1 ∧ likDn m i j = (likP (colA m i) (colA m j)).1.2) := by
  have hn : namedE m [(i : Int), (j : Int)] = 0 := by
    unfold namedE
    rw [if_pos hv, if_pos]
    simp only [List.all_cons, List.all_nil, Bool.and_true, Bool.and_eq_true, inB_iff]
    omega
  have hc : ∀ k : Nat, colL m (k : Int).toNat = colA m k := fun k => rfl
  have e1 : likenessE m i j = if likeD (colA m i) (colA m j) = 0 then 8 else 0 := by unfold likenessE; rw [if_pos hn, hc, hc]
  unfold likP
  by_cases h0 : likeD (colA m i) (colA m j) = 0
  · rw [if_pos h0, e1, if_pos h0]
    exact ⟨rfl, fun hh => by cases hh⟩
  · rw [if_neg h0]
    have e2 : likenessE m i j = 0 := by rw [e1, if_neg h0]
    refine ⟨by rw [e2]; rfl, fun _ => ?_⟩
    unfold likN likDn
    rw [if_pos e2, if_pos e2, hc, hc]
    exact ⟨rfl, rfl⟩
theorem rCoherence_meets : Meets Try.prog 42 sRCoh := by
  refine meets (snd (SpecsOk.cons rmvalid_meets (SpecsOk.cons rLikeness_meets (SpecsOk.nil _))) []) Try.func42 rfl rfl (fun x => ivRCoh x.1) (fun _ => by kernel_rfl) (by decide) ?_
  rintro ⟨m, ⟨⟩⟩ -
  revert m
  intro (m : List (List Int))
  refine by_vc (B := True ∧
  ((!validB m) = Bool.true → ((0 : Int) = Prod.fst (rcR m) ∧ (0 : Int) = Prod.snd (rcR m) ∧ True) ∧ (1 : Int) = rcE m ∧ True) ∧
    ((!validB m) = Bool.false →
      ((0 : Int) ≤ (0 : Int) ∧ (0 : Int) < (↑(List.length m) : Int)) ∧
        (Decidable.decide ((↑(List.length (Eng.nthD (Eng.Ty.list (Eng.Ty.int Go.IntKind.i64)) m (0 : Nat))) : Int) < (2 : Int)) = Bool.true → ((0 : Int) = Prod.fst (rcR m) ∧ (0 : Int) = Prod.snd (rcR m) ∧ True) ∧ (8 : Int) = rcE m ∧ True) ∧
          (Decidable.decide ((↑(List.length (Eng.nthD (Eng.Ty.list (Eng.Ty.int Go.IntKind.i64)) m (0 : Nat))) : Int) < (2 : Int)) = Bool.false →
            ((0 : Int) ≤ (0 : Int) ∧ (0 : Int) < (↑(List.length m) : Int)) ∧
              ∃ (v2 : Unit),
                ∃ (v3 : Nat × Int × Int),
                  (Prod.fst v3 ≤ List.length (Ls.nthL m (0 : Nat)) ∧ rcK m (Prod.fst v3) (0 : Nat) = Option.some (Prod.snd v3)) ∧
                    (((0 : Int) = (↑(Prod.fst v3) : Int) ∧ True) ∧ ((0 : Int) = (0 : Int) ∧ (0 : Int) = (0 : Int) ∧ True) ∧ ((0 : Int) = Prod.fst (Prod.snd v3) ∧ (1 : Int) = Prod.snd (Prod.snd v3) ∧ True) ∧ True) ∧
                      ∀ (v4 : Nat × Int × Int),
                        Prod.fst v4 ≤ List.length (Ls.nthL m (0 : Nat)) ∧ rcK m (Prod.fst v4) (0 : Nat) = Option.some (Prod.snd v4) →
                          (Decidable.decide ((↑(Prod.fst v4) : Int) < (↑(List.length (Eng.nthD (Eng.Ty.list (Eng.Ty.int Go.IntKind.i64)) m (0 : Nat))) : Int)) = Bool.true →
                              ∃ (v7 : Nat),
                                ∃ (v8 : Nat × Int × Int),
                                  (Prod.fst v8 ≤ v7 ∧ rcK m v7 (Prod.fst v8) = Option.some (Prod.snd v8)) ∧
                                    (((0 : Int) = (↑(Prod.fst v8) : Int) ∧ True) ∧ ((0 : Int) = (0 : Int) ∧ (0 : Int) = (0 : Int) ∧ True) ∧ (Prod.fst (Prod.snd v4) = Prod.fst (Prod.snd v8) ∧ Prod.snd (Prod.snd v4) = Prod.snd (Prod.snd v8) ∧ True) ∧ True) ∧
                                      ∀ (v9 : Nat × Int × Int),
                                        Prod.fst v9 ≤ v7 ∧ rcK m v7 (Prod.fst v9) = Option.some (Prod.snd v9) →
                                          (Decidable.decide ((↑(Prod.fst v9) : Int) < (↑(Prod.fst v4) : Int)) = Bool.true →
                                              True ∧
                                                ((likenessE m (↑(Prod.fst v9) : Int) (↑(Prod.fst v4) : Int) != (0 : Int)) = Bool.true →
                                                    ((0 : Int) = Prod.fst (rcR m) ∧ (0 : Int) = Prod.snd (rcR m) ∧ True) ∧ likenessE m (↑(Prod.fst v9) : Int) (↑(Prod.fst v4) : Int) = rcE m ∧ True) ∧
                                                  ((likenessE m (↑(Prod.fst v9) : Int) (↑(Prod.fst v4) : Int) != (0 : Int)) = Bool.false →
                                                    Eng.fits Go.IntKind.i64 (likN m (↑(Prod.fst v9) : Int) (↑(Prod.fst v4) : Int) * Prod.snd (Prod.snd v9)) ∧
                                                      Eng.fits Go.IntKind.i64 (Prod.fst (Prod.snd v9) * likDn m (↑(Prod.fst v9) : Int) (↑(Prod.fst v4) : Int)) ∧
                                                        (Decidable.decide (Prod.fst (Prod.snd v9) * likDn m (↑(Prod.fst v9) : Int) (↑(Prod.fst v4) : Int) < likN m (↑(Prod.fst v9) : Int) (↑(Prod.fst v4) : Int) * Prod.snd (Prod.snd v9)) = Bool.true →
                                                            Eng.fits Go.IntKind.i64 ((↑(Prod.fst v9) : Int) + (1 : Int)) ∧
                                                              ∃ (v14 : Nat × Int × Int),
                                                                (Prod.fst v14 ≤ v7 ∧ rcK m v7 (Prod.fst v14) = Option.some (Prod.snd v14)) ∧
                                                                  v7 - Prod.fst v14 < v7 - Prod.fst v9 ∧
                                                                    ((↑(Prod.fst v9) : Int) + (1 : Int) = (↑(Prod.fst v14) : Int) ∧ True) ∧
                                                                      ((0 : Int) = (0 : Int) ∧ (0 : Int) = (0 : Int) ∧ True) ∧ (likN m (↑(Prod.fst v9) : Int) (↑(Prod.fst v4) : Int) = Prod.fst (Prod.snd v14) ∧ likDn m (↑(Prod.fst v9) : Int) (↑(Prod.fst v4) : Int) = Prod.snd (Prod.snd v14) ∧ True) ∧ True) ∧
                                                          (Decidable.decide (Prod.fst (Prod.snd v9) * likDn m (↑(Prod.fst v9) : Int) (↑(Prod.fst v4) : Int) < likN m (↑(Prod.fst v9) : Int) (↑(Prod.fst v4) : Int) * Prod.snd (Prod.snd v9)) = Bool.false →
                                                            Eng.fits Go.IntKind.i64 ((↑(Prod.fst v9) : Int) + (1 : Int)) ∧
                                                              ∃ (v14 : Nat × Int × Int),
                                                                (Prod.fst v14 ≤ v7 ∧ rcK m v7 (Prod.fst v14) = Option.some (Prod.snd v14)) ∧
                                                                  v7 - Prod.fst v14 < v7 - Prod.fst v9 ∧ ((↑(Prod.fst v9) : Int) + (1 : Int) = (↑(Prod.fst v14) : Int) ∧ True) ∧ ((0 : Int) = (0 : Int) ∧ (0 : Int) = (0 : Int) ∧ True) ∧ (Prod.fst (Prod.snd v9) = Prod.fst (Prod.snd v14) ∧ Prod.snd (Prod.snd v9) = Prod.snd (Prod.snd v14) ∧ True) ∧ True))) ∧
                                            (Decidable.decide ((↑(Prod.fst v9) : Int) < (↑(Prod.fst v4) : Int)) = Bool.false →
                                              Eng.fits Go.IntKind.i64 ((↑(Prod.fst v4) : Int) + (1 : Int)) ∧
                                                ∃ (v12 : Nat × Int × Int),
                                                  (Prod.fst v12 ≤ List.length (Ls.nthL m (0 : Nat)) ∧ rcK m (Prod.fst v12) (0 : Nat) = Option.some (Prod.snd v12)) ∧
                                                    List.length (Ls.nthL m (0 : Nat)) - Prod.fst v12 < List.length (Ls.nthL m (0 : Nat)) - Prod.fst v4 ∧
                                                      ((↑(Prod.fst v4) : Int) + (1 : Int) = (↑(Prod.fst v12) : Int) ∧ True) ∧ ((0 : Int) = (0 : Int) ∧ (0 : Int) = (0 : Int) ∧ True) ∧ (Prod.fst (Prod.snd v9) = Prod.fst (Prod.snd v12) ∧ Prod.snd (Prod.snd v9) = Prod.snd (Prod.snd v12) ∧ True) ∧ True)) ∧
                            (Decidable.decide ((↑(Prod.fst v4) : Int) < (↑(List.length (Eng.nthD (Eng.Ty.list (Eng.Ty.int Go.IntKind.i64)) m (0 : Nat))) : Int)) = Bool.false → (Prod.fst (Prod.snd v4) = Prod.fst (rcR m) ∧ Prod.snd (Prod.snd v4) = Prod.snd (rcR m) ∧ True) ∧ (0 : Int) = rcE m ∧ True)))) (by kernel_rfl) ?_
  refine ⟨trivial, fun hv => ?_, fun hv => ?_⟩
  · have hv : validB m = false := by simpa using hv
    have e : rcE m = 1 := by simp [rcE, hv]
    have e2 : rcR m = (0, 0) := by simp [rcR, e]
    rw [e, e2]
    exact ⟨⟨rfl, rfl, trivial⟩, rfl, trivial⟩
  have hv : validB m = true := by simpa using hv
  have hm := IsMask.of hv
  have hr1 := hm.rows1
  have hp10 := hm.pix10
  have hnn : nthD (.list (.int .i64)) m 0 = nthL m 0 := rfl
  rw [hnn]
  refine ⟨⟨by omega, by omega⟩, fun h2 => ?_, fun h2 => ?_⟩
  · have h2 : (nthL m 0).length < 2 := by have := of_decide_eq_true h2; omega
    have e : rcE m = 8 := by unfold rcE; rw [if_neg (by simp [hv]), if_pos h2]
    have e2 : rcR m = (0, 0) := by simp [rcR, e]
    rw [e, e2]
    exact ⟨⟨rfl, rfl, trivial⟩, rfl, trivial⟩
  have h2 : ¬ (nthL m 0).length < 2 := by have := of_decide_eq_false h2; omega
  have hE : rcE m = if (rcL m).isNone then 8 else 0 := by unfold rcE; rw [if_neg (by simp [hv]), if_neg h2]
  refine ⟨⟨by omega, by omega⟩, (), (0, (0, 1)), ⟨Nat.zero_le _, rfl⟩, ⟨⟨rfl, trivial⟩, ⟨rfl, rfl, trivial⟩, ⟨rfl, rfl, trivial⟩, trivial⟩, ?_⟩
  rintro ⟨j, b⟩ ⟨hj, hb⟩
  have hj : j ≤ (nthL m 0).length := hj
  have hb : rcK m j 0 = some b := hb
  refine ⟨fun hlt => ?_, fun hge => ?_⟩
  · have hlt : j < (nthL m 0).length := by have := of_decide_eq_true hlt; dsimp only at this; omega
    refine ⟨j, (0, b), ⟨Nat.zero_le _, hb⟩, ⟨⟨rfl, trivial⟩, ⟨rfl, rfl, trivial⟩, ⟨rfl, rfl, trivial⟩, trivial⟩, ?_⟩
    rintro ⟨i, c⟩ ⟨hi, hc⟩
    have hi : i ≤ j := hi
    have hc : rcK m j i = some c := hc
    refine ⟨fun hil => ?_, fun hil => ?_⟩
    · have hil : i < j := by have := of_decide_eq_true hil; dsimp only at this; omega
      obtain ⟨l1, l2⟩ := lik_eq hm hv (i := i) (j := j) (by omega) hlt
      have hst := rcK_succ m j i
      have h6 := rrow_bd hm hlt (rprs_bd hm j hj) i hi c hc
      have h5 := likP_bd (colSm hm (j := i) (by omega)) (colSm hm hlt)
      rw [hc] at hst
      simp only [cohStep, Option.bind_some] at hst
      dsimp only
      refine ⟨trivial, fun hl => ?_, fun hl => ?_⟩
      · have hl0 : (likP (colA m i) (colA m j)).2 = false := by
          cases hz : (likP (colA m i) (colA m j)).2 with
          | false => rfl
          | true => rw [hz] at l1; rw [l1] at hl; simp at hl
        rw [hl0] at hst l1
        have e : rcE m = 8 := by rw [hE, rcK_none (i := i + 1) (by omega) hlt hst]; rfl
        have e2 : rcR m = (0, 0) := by simp [rcR, e]
        rw [e, e2, l1]
        exact ⟨⟨rfl, rfl, trivial⟩, rfl, trivial⟩
      · have hl0 : (likP (colA m i) (colA m j)).2 = true := by
          cases hz : (likP (colA m i) (colA m j)).2 with
          | true => rfl
          | false => rw [hz] at l1; rw [l1] at hl; simp at hl
        obtain ⟨n1, n2⟩ := l2 hl0
        rw [n1, n2]
        rw [hl0] at hst
        simp only at hst
        generalize likP (colA m i) (colA m j) = z at *
        have b1 := mul_bd (x := z.1.1) (y := c.2) (K := 100) (L := 100) (by omega) (by omega) (by omega) (by omega)
        have b2 := mul_bd (x := c.1) (y := z.1.2) (K := 100) (L := 100) (by omega) (by omega) (by omega) (by omega)
        refine ⟨fits64 (by omega) (by omega), fits64 (by omega) (by omega), fun hg => ?_, fun hg => ?_⟩
        · rw [if_pos (by simpa using hg)] at hst
          exact ⟨fits64 (by omega) (by omega), (i + 1, z.1), ⟨hil, hst⟩, by dsimp only; omega, ⟨by simp, trivial⟩, ⟨rfl, rfl, trivial⟩, ⟨rfl, rfl, trivial⟩, trivial⟩
        · rw [if_neg (by simpa using hg)] at hst
          exact ⟨fits64 (by omega) (by omega), (i + 1, c), ⟨hil, hst⟩, by dsimp only; omega, ⟨by simp, trivial⟩, ⟨rfl, rfl, trivial⟩, ⟨rfl, rfl, trivial⟩, trivial⟩
    · have hil : i = j := by have := of_decide_eq_false hil; dsimp only at this; omega
      subst hil
      rw [rcK_next] at hc
      exact ⟨fits64 (by dsimp only; omega) (by dsimp only; omega), (i + 1, c), ⟨hlt, hc⟩, by dsimp only; omega, ⟨by simp, trivial⟩, ⟨rfl, rfl, trivial⟩, ⟨rfl, rfl, trivial⟩, trivial⟩
  · have hge : j = (nthL m 0).length := by have := of_decide_eq_false hge; dsimp only at this; omega
    subst hge
    have hL : rcL m = some b := by rw [← hb]; unfold rcL rcK; simp [rrow]
    have e : rcE m = 0 := by rw [hE, hL]; rfl
    have e2 : rcR m = b := by simp [rcR, e, hL]
    rw [e, e2]
    exact ⟨⟨rfl, rfl, trivial⟩, rfl, trivial⟩
end Go.Proofs.Ytkkmlcengneomaa
