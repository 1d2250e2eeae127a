/- Small functions of pic, lightsieveref01's Halved and Turned, and long: contracts by the engine. No condition. -/
import Derived.Test.YtahccnljckgjmaaS3

set_option linter.unusedVariables false
set_option linter.unusedSimpArgs false
namespace Go.Proofs.Ytahccnljckgjmaa
open Go Go.RowKit Eng Ls

def sHalf : FSpec := tspec true none [tInt] [tInt] (fun _ => True) (fun x => (x.1 / 2, ()))
theorem half_meets : Meets Try.prog 60 sHalf := by
  refine meets (snd (SpecsOk.nil _) []) Try.func60 rfl rfl (fun x _ => none) (fun _ => by kernel_rfl) (by decide) ?_
  rintro ⟨n, ⟨⟩⟩ -
  revert n
  intro (n : Int)
  refine by_vc (B := (0 : Int) ≤ (1 : Int) ∧ Int.fdiv n (2 : Int) = n / (2 : Eng.Ty.den tInt)) (by kernel_rfl) ?_
  show (0 : Int) ≤ 1 ∧ Int.fdiv n 2 = n / 2
  rw [Int.fdiv_eq_ediv_of_nonneg _ (by omega)]
  exact ⟨by omega, rfl⟩
def spRH : List (Nat × FSpec) := [(21, sPB validP)]
def memRH (W H : Int) (l z : List Int) : List AObj := [.box 30 (pAV W H (.dat tInt l)), .box 30 (pAV 0 0 nilV), .box 30 (pAV (W.tdiv 2) (H.tdiv 2) (.own 3)), .vec 3 tInt z]
def ivRH (W H : Int) (l : List Int) : Nat → Option Inv
  | 0 => some (Inv.of [5, 6, 33] 4 (fun k : Nat => [(5, .any), (6, .any), (33, .lit (.int .i64 k))]) (fun k => memRH W H l (quadL W.toNat l k)) (fun k => k ≤ l.length / 4) (fun k => l.length / 4 - k))
  | _ => none
theorem rhalved_meets (h : SpecsOk Try.prog spRH) : Meets Try.prog 42 (sPP false rhalR halE) := by
  refine meets (SpecsOk.sound (C := { ctx spRH [] with nm := [49] }) h tys_ok (by kernel_rfl)) Try.func42 rfl rfl (fun x => ivRH x.1.1 x.1.2.1 x.1.2.2) (fun _ => by kernel_rfl) (by decide) ?_
  rintro ⟨⟨W, H, l⟩, ⟨⟩⟩ -
  revert W H l
  intro (W : Int) (H : Int) (l : List Int)
  refine by_vc (B := True ∧
  ((!validP W H l) = Bool.true → ((0 : Int) = Prod.fst (rhalR W H l) ∧ (0 : Int) = Prod.fst (Prod.snd (rhalR W H l)) ∧ Prod.snd (Prod.snd (rhalR W H l)) = [] ∧ True) ∧ (1 : Int) = halE W H l ∧ True) ∧
    ((!validP W H l) = Bool.false →
      (2 : Int) ≠ (0 : Int) ∧
        ((Int.tmod W (2 : Int) != (0 : Int)) = Bool.true → ((0 : Int) = Prod.fst (rhalR W H l) ∧ (0 : Int) = Prod.fst (Prod.snd (rhalR W H l)) ∧ Prod.snd (Prod.snd (rhalR W H l)) = [] ∧ True) ∧ (9 : Int) = halE W H l ∧ True) ∧
          ((Int.tmod W (2 : Int) != (0 : Int)) = Bool.false →
            (2 : Int) ≠ (0 : Int) ∧
              ((Int.tmod H (2 : Int) != (0 : Int)) = Bool.true → ((0 : Int) = Prod.fst (rhalR W H l) ∧ (0 : Int) = Prod.fst (Prod.snd (rhalR W H l)) ∧ Prod.snd (Prod.snd (rhalR W H l)) = [] ∧ True) ∧ (9 : Int) = halE W H l ∧ True) ∧
                ((Int.tmod H (2 : Int) != (0 : Int)) = Bool.false →
                  (2 : Int) ≠ (0 : Int) ∧
                    Eng.fits Go.IntKind.i64 (Int.tdiv W (2 : Int)) ∧
                      (2 : Int) ≠ (0 : Int) ∧
                        Eng.fits Go.IntKind.i64 (Int.tdiv H (2 : Int)) ∧
                          (4 : Int) ≠ (0 : Int) ∧
                            Eng.fits Go.IntKind.i64 (Int.tdiv (↑(List.length l) : Int) (4 : Int)) ∧
                              ∃ (v3 : Unit),
                                ∃ (v4 : Nat),
                                  Nat.le v4 (List.length l / (4 : Nat)) ∧
                                    ((True ∧ True ∧ (0 : Int) = (↑v4 : Int) ∧ True) ∧
                                        (W = W ∧ H = H ∧ l = l ∧ True) ∧
                                          ((0 : Int) = (0 : Int) ∧ (0 : Int) = (0 : Int) ∧ Go.Value.slice Option.none (0 : Nat) (0 : Nat) = Go.Value.slice Option.none (0 : Nat) (0 : Nat) ∧ True) ∧ (Int.tdiv W (2 : Int) = Int.tdiv W (2 : Int) ∧ Int.tdiv H (2 : Int) = Int.tdiv H (2 : Int) ∧ True ∧ True) ∧ quadL (Int.toNat W) l v4 = [] ∧ True) ∧
                                      ∀ (v5 : Nat),
                                        Nat.le v5 (List.length l / (4 : Nat)) →
                                          (Decidable.decide ((↑v5 : Int) < Int.tdiv (↑(List.length l) : Int) (4 : Int)) = Bool.true →
                                              Int.tdiv W (2 : Int) ≠ (0 : Int) ∧
                                                Eng.fits Go.IntKind.i64 ((2 : Int) * Int.tmod (↑v5 : Int) (Int.tdiv W (2 : Int))) ∧
                                                  Eng.fits Go.IntKind.i64 ((2 : Int) * W) ∧
                                                    Int.tdiv W (2 : Int) ≠ (0 : Int) ∧
                                                      Eng.fits Go.IntKind.i64 (Int.tdiv (↑v5 : Int) (Int.tdiv W (2 : Int))) ∧
                                                        Eng.fits Go.IntKind.i64 ((2 : Int) * W * Int.tdiv (↑v5 : Int) (Int.tdiv W (2 : Int))) ∧
                                                          Eng.fits Go.IntKind.i64 ((2 : Int) * Int.tmod (↑v5 : Int) (Int.tdiv W (2 : Int)) + (2 : Int) * W * Int.tdiv (↑v5 : Int) (Int.tdiv W (2 : Int))) ∧
                                                            ∀ (v8 : Int),
                                                              v8 = (2 : Int) * Int.tmod (↑v5 : Int) (Int.tdiv W (2 : Int)) + (2 : Int) * W * Int.tdiv (↑v5 : Int) (Int.tdiv W (2 : Int)) →
                                                                ((0 : Int) ≤ v8 ∧ v8 < (↑(List.length l) : Int)) ∧
                                                                  Eng.fits Go.IntKind.i64 (v8 + (1 : Int)) ∧
                                                                    ((0 : Int) ≤ v8 + (1 : Int) ∧ v8 + (1 : Int) < (↑(List.length l) : Int)) ∧
                                                                      Eng.fits Go.IntKind.i64 (Eng.nthD tInt l (Int.toNat v8) + Eng.nthD tInt l (Int.toNat (v8 + (1 : Int)))) ∧
                                                                        Eng.fits Go.IntKind.i64 (v8 + W) ∧
                                                                          ((0 : Int) ≤ v8 + W ∧ v8 + W < (↑(List.length l) : Int)) ∧
                                                                            Eng.fits Go.IntKind.i64 (Eng.nthD tInt l (Int.toNat v8) + Eng.nthD tInt l (Int.toNat (v8 + (1 : Int))) + Eng.nthD tInt l (Int.toNat (v8 + W))) ∧
                                                                              Eng.fits Go.IntKind.i64 (v8 + W) ∧
                                                                                Eng.fits Go.IntKind.i64 (v8 + W + (1 : Int)) ∧
                                                                                  ((0 : Int) ≤ v8 + W + (1 : Int) ∧ v8 + W + (1 : Int) < (↑(List.length l) : Int)) ∧
                                                                                    Eng.fits Go.IntKind.i64 (Eng.nthD tInt l (Int.toNat v8) + Eng.nthD tInt l (Int.toNat (v8 + (1 : Int))) + Eng.nthD tInt l (Int.toNat (v8 + W)) + Eng.nthD tInt l (Int.toNat (v8 + W + (1 : Int)))) ∧
                                                                                      (0 : Int) ≤ (2 : Int) ∧
                                                                                        ((0 : Nat) <
                                                                                              List.length
                                                                                                [Int.fdiv (Eng.nthD tInt l (Int.toNat v8) + Eng.nthD tInt l (Int.toNat (v8 + (1 : Int))) + Eng.nthD tInt l (Int.toNat (v8 + W)) + Eng.nthD tInt l (Int.toNat (v8 + W + (1 : Int)))) (4 : Int)] ∧
                                                                                            List.length (quadL (Int.toNat W) l v5) +
                                                                                                List.length
                                                                                                  [Int.fdiv (Eng.nthD tInt l (Int.toNat v8) + Eng.nthD tInt l (Int.toNat (v8 + (1 : Int))) + Eng.nthD tInt l (Int.toNat (v8 + W)) + Eng.nthD tInt l (Int.toNat (v8 + W + (1 : Int)))) (4 : Int)] ≤
                                                                                              (1000000 : Nat)) ∧
                                                                                          Eng.fits Go.IntKind.i64 ((↑v5 : Int) + (1 : Int)) ∧
                                                                                            ∃ (v10 : Nat),
                                                                                              Nat.le v10 (List.length l / (4 : Nat)) ∧
                                                                                                List.length l / (4 : Nat) - v10 < List.length l / (4 : Nat) - v5 ∧
                                                                                                  (True ∧ True ∧ (↑v5 : Int) + (1 : Int) = (↑v10 : Int) ∧ True) ∧
                                                                                                    (W = W ∧ H = H ∧ l = l ∧ True) ∧
                                                                                                      ((0 : Int) = (0 : Int) ∧ (0 : Int) = (0 : Int) ∧ Go.Value.slice Option.none (0 : Nat) (0 : Nat) = Go.Value.slice Option.none (0 : Nat) (0 : Nat) ∧ True) ∧
                                                                                                        (Int.tdiv W (2 : Int) = Int.tdiv W (2 : Int) ∧ Int.tdiv H (2 : Int) = Int.tdiv H (2 : Int) ∧ True ∧ True) ∧
                                                                                                          quadL (Int.toNat W) l v5 ++
                                                                                                                [Int.fdiv (Eng.nthD tInt l (Int.toNat v8) + Eng.nthD tInt l (Int.toNat (v8 + (1 : Int))) + Eng.nthD tInt l (Int.toNat (v8 + W)) + Eng.nthD tInt l (Int.toNat (v8 + W + (1 : Int))))
                                                                                                                    (4 : Int)] =
                                                                                                              quadL (Int.toNat W) l v10 ∧
                                                                                                            True) ∧
                                            (Decidable.decide ((↑v5 : Int) < Int.tdiv (↑(List.length l) : Int) (4 : Int)) = Bool.false →
                                              (Int.tdiv W (2 : Int) = Prod.fst (rhalR W H l) ∧ Int.tdiv H (2 : Int) = Prod.fst (Prod.snd (rhalR W H l)) ∧ quadL (Int.toNat W) l v5 = Prod.snd (Prod.snd (rhalR W H l)) ∧ True) ∧ (0 : Int) = halE W H l ∧ True))))) (by kernel_rfl) ?_
  simp only [ne_eq, true_and, and_true, eq_self, Bool.not_eq_true', Bool.not_eq_false', decide_eq_true_eq, decide_eq_false_iff_not, Nat.le_eq, Int.not_lt, Int.not_le, Int.reduceEq, not_false_eq_true, Bool.not_eq_eq_eq_not, Bool.not_true, Bool.not_false, Int.ofNat_lt, Int.ofNat_le, Int.toNat_natCast, Int.natCast_nonneg, nthD_nth, beq_iff_eq, bne_iff_ne, beq_eq_false_iff_ne, bne_eq_false_iff_eq, Classical.not_not, List.length_cons, List.length_nil, Nat.zero_add, List.nil_append, true_implies, Nat.lt_add_one, Nat.zero_lt_succ, Int.reduceLE, Int.reduceLT]
  refine ⟨fun hv => ⟨by simp [rhalR, hv], by simp [halE, hv]⟩, fun hv => ?_⟩
  obtain ⟨a, b, hp⟩ := IsPic.of hv
  obtain ⟨rfl, rfl, ha1, ha2, hb1, hb2, hn, hn2, hbd⟩ := hp
  simp only [Int.toNat_natCast]
  have he : evenP a b = (decide (a % 2 = 0) && decide (b % 2 = 0)) := evenP_nat a b
  rw [tmod2, tmod2, tdiv2, tdiv2, tdiv4]
  refine ⟨fun h => ?_, fun h1 => ⟨fun h => ?_, fun h2 => ?_⟩⟩
  · have : evenP a b = false := by rw [he]; simp; omega
    simp [rhalR, halE, hv, this]
  · have : evenP a b = false := by rw [he]; simp; omega
    simp [rhalR, halE, hv, this]
  have ev : evenP a b = true := by rw [he]; simp; omega
  obtain ⟨-, hk⟩ := hp_ok ha1 ha2 hb1 hb2 (by omega) (by omega)
  rw [← hn] at hk
  refine ⟨fits64 (by omega) (by omega), fits64 (by omega) (by omega), fits64 (by omega) (by omega), (), 0, Nat.zero_le _, ⟨rfl, rfl⟩, fun k hk' => ⟨fun hlt => ?_, fun hge => ?_⟩⟩
  · rw [tmodN, tdivN]
    obtain ⟨h5, -⟩ := hk k (by omega)
    have e4 : hsrc a k = 2 * (k % (a / 2)) + 2 * a * (k / (a / 2)) := rfl
    have m3 : k % (a / 2) < a / 2 := Nat.mod_lt _ (by omega)
    have m4 : k / (a / 2) ≤ k := Nat.div_le_self _ _
    have s1 := nth_small hbd (hsrc a k)
    have s2 := nth_small hbd (hsrc a k + 1)
    have s3 := nth_small hbd (hsrc a k + a)
    have s4 := nth_small hbd (hsrc a k + a + 1)
    have e5 : quadL a l (k + 1) = quadL a l k ++ [(nth l (hsrc a k) + nth l (hsrc a k + 1) + nth l (hsrc a k + a) + nth l (hsrc a k + a + 1)) / 4] := quadL_snoc a l k
    obtain ⟨r, hr⟩ : ∃ r, r = k % (a / 2) := ⟨_, rfl⟩
    obtain ⟨s, hs⟩ : ∃ s, s = k / (a / 2) := ⟨_, rfl⟩
    rw [← hr] at m3 e4
    rw [← hs] at m4 e4
    rw [← hr, ← hs]
    have e6 : (2 * (a : Int)) * (s : Int) = ((2 * a * s : Nat) : Int) := by simp
    rw [e6]
    refine ⟨by omega, fits64 (by omega) (by omega), fits64 (by omega) (by omega), by omega, fits64 (by omega) (by omega), fits64 (by omega) (by omega), fits64 (by omega) (by omega), fun z hz => ?_⟩
    obtain rfl : z = ((hsrc a k : Nat) : Int) := by omega
    rw [show ((hsrc a k : Nat) : Int) + 1 = ((hsrc a k + 1 : Nat) : Int) by omega, show ((hsrc a k : Nat) : Int) + a = ((hsrc a k + a : Nat) : Int) by omega, show ((hsrc a k + a : Nat) : Int) + 1 = ((hsrc a k + a + 1 : Nat) : Int) by omega]
    simp only [Int.toNat_natCast]
    refine ⟨⟨by omega, by omega⟩, fits64 (by omega) (by omega), ⟨by omega, by omega⟩, fits64 (by omega) (by omega), fits64 (by omega) (by omega), ⟨by omega, by omega⟩, fits64 (by omega) (by omega), fits64 (by omega) (by omega), fits64 (by omega) (by omega), ⟨by omega, by omega⟩, fits64 (by omega) (by omega), by rw [quadL_len]; omega, fits64 (by omega) (by omega), k + 1, by omega, by omega, by omega, ?_⟩
    rw [e5, Int.fdiv_eq_ediv_of_nonneg _ (by omega)]
  · obtain rfl : k = l.length / 4 := by omega
    simp [rhalR, halE, hv, ev]
theorem tmod44 (q : Int) : (q.tmod 4 + 4).tmod 4 = q % 4 := by
  have h : q.tmod 4 = q % 4 ∨ q.tmod 4 = q % 4 - 4 := by
    rw [Int.tmod_eq_emod]
    split
    · left; omega
    · right; rfl
  rw [Int.tmod_eq_emod_of_nonneg (by omega)]
  omega
/-- The state of the outer loop of Turned: the picture as it is now. -/
def memRT (W H : Int) (l : List Int) (a b : Nat) (z : AV) : List AObj := [.box 30 (pAV W H (.dat tInt l)), .box 30 (pAV 0 0 nilV), .dead, .dead, .dead, .dead, .dead, .dead, .dead, .dead, .dead, .box 30 (pAV a b z), .dead]
def ivRT (W H : Int) (l : List Int) (q : Int) : Nat → Option Inv
  | 0 => some (Inv.of [8, 9, 10, 28] 13 (fun k : Nat => [(8, .any), (9, .any), (10, .any), (28, .lit (.int .i64 k))]) (fun k => memRT W H l (rotN W.toNat H.toNat l k).1 (rotN W.toNat H.toNat l k).2.1 (.dat tInt (rotN W.toNat H.toNat l k).2.2)) (fun k => k ≤ quart q) (fun k => quart q - k))
  | 1 => some { Q := Nat × Nat × List Int, S := Nat, names := [8, 9, 10, 38], size := 15, slots := fun _ k => [(8, .any), (9, .any), (10, .any), (38, .lit (.int .i64 k))], mem := fun p k => memRT W H l p.1 p.2.1 (.dat tInt p.2.2) ++ [.box 30 (pAV p.2.1 p.1 (.own 14)), .vec 3 tInt (srcL (rotP p.1 p.2.1) p.2.2 k)], I := fun p k => k ≤ p.2.2.length, μ := fun p k => p.2.2.length - k }
  | _ => none
theorem rturned_meets (h : SpecsOk Try.prog spRH) : Meets Try.prog 38 (sPIP false (fun q => rturnR (quart q)) movE) := by
  refine meets (SpecsOk.sound (C := { ctx spRH [] with nm := [44, 48, 62] }) h tys_ok (by kernel_rfl)) Try.func38 rfl rfl (fun x => ivRT x.1.1 x.1.2.1 x.1.2.2 x.2.1) (fun _ => by kernel_rfl) (by decide) ?_
  rintro ⟨⟨W, H, l⟩, q, ⟨⟩⟩ -
  revert W H l q
  intro (W : Int) (H : Int) (l : List Int) (q : Int)
  refine by_vc (B := True ∧
  ((!validP W H l) = Bool.true →
      ((0 : Int) = Prod.fst (rturnR (quart q) W H l) ∧ (0 : Int) = Prod.fst (Prod.snd (rturnR (quart q) W H l)) ∧ Prod.snd (Prod.snd (rturnR (quart q) W H l)) = [] ∧ True) ∧ (1 : Int) = movE W H l ∧ True) ∧
    ((!validP W H l) = Bool.false →
      ((0 : Nat) < List.length l ∧ (0 : Nat) + List.length l ≤ (1000000 : Nat)) ∧
        (4 : Int) ≠ (0 : Int) ∧
          Eng.fits Go.IntKind.i64 (Int.tmod q (4 : Int) + (4 : Int)) ∧
            (4 : Int) ≠ (0 : Int) ∧
              ∃ (v1 : Unit),
                ∃ (v2 : Nat),
                  Nat.le v2 (quart q) ∧
                    ((True ∧ True ∧ True ∧ (0 : Int) = (↑v2 : Int) ∧ True) ∧
                        (W = W ∧ H = H ∧ l = l ∧ True) ∧
                          ((0 : Int) = (0 : Int) ∧ (0 : Int) = (0 : Int) ∧ Go.Value.slice Option.none (0 : Nat) (0 : Nat) = Go.Value.slice Option.none (0 : Nat) (0 : Nat) ∧ True) ∧
                            True ∧
                              True ∧
                                True ∧ True ∧ True ∧ True ∧ True ∧ True ∧ True ∧ (W = (↑(Prod.fst (rotN (Int.toNat W) (Int.toNat H) l v2)) : Int) ∧ H = (↑(Prod.fst (Prod.snd (rotN (Int.toNat W) (Int.toNat H) l v2))) : Int) ∧ [] ++ l = Prod.snd (Prod.snd (rotN (Int.toNat W) (Int.toNat H) l v2)) ∧ True) ∧ True ∧ True) ∧
                      ∀ (v3 : Nat),
                        Nat.le v3 (quart q) →
                          (Decidable.decide ((↑v3 : Int) < Int.tmod (Int.tmod q (4 : Int) + (4 : Int)) (4 : Int)) = Bool.true →
                              ∃ (v6 : Nat × Nat × List Int),
                                ∃ (v7 : Nat),
                                  Nat.le v7 (List.length (Prod.snd (Prod.snd v6))) ∧
                                    ((True ∧ True ∧ True ∧ (0 : Int) = (↑v7 : Int) ∧ True) ∧
                                        (W = W ∧ H = H ∧ l = l ∧ True) ∧
                                          ((0 : Int) = (0 : Int) ∧ (0 : Int) = (0 : Int) ∧ Go.Value.slice Option.none (0 : Nat) (0 : Nat) = Go.Value.slice Option.none (0 : Nat) (0 : Nat) ∧ True) ∧
                                            True ∧
                                              True ∧
                                                True ∧
                                                  True ∧
                                                    True ∧
                                                      True ∧
                                                        True ∧
                                                          True ∧
                                                            True ∧
                                                              ((↑(Prod.fst (rotN (Int.toNat W) (Int.toNat H) l v3)) : Int) = (↑(Prod.fst v6) : Int) ∧
                                                                  (↑(Prod.fst (Prod.snd (rotN (Int.toNat W) (Int.toNat H) l v3))) : Int) = (↑(Prod.fst (Prod.snd v6)) : Int) ∧ Prod.snd (Prod.snd (rotN (Int.toNat W) (Int.toNat H) l v3)) = Prod.snd (Prod.snd v6) ∧ True) ∧
                                                                True ∧
                                                                  ((↑(Prod.fst (Prod.snd (rotN (Int.toNat W) (Int.toNat H) l v3))) : Int) = (↑(Prod.fst (Prod.snd v6)) : Int) ∧ (↑(Prod.fst (rotN (Int.toNat W) (Int.toNat H) l v3)) : Int) = (↑(Prod.fst v6) : Int) ∧ True ∧ True) ∧
                                                                    srcL (rotP (Prod.fst v6) (Prod.fst (Prod.snd v6))) (Prod.snd (Prod.snd v6)) v7 = [] ∧ True) ∧
                                      ∀ (v8 : Nat),
                                        Nat.le v8 (List.length (Prod.snd (Prod.snd v6))) →
                                          (Decidable.decide ((↑v8 : Int) < (↑(List.length (Prod.snd (Prod.snd (rotN (Int.toNat W) (Int.toNat H) l v3)))) : Int)) = Bool.true →
                                              (↑(Prod.fst (Prod.snd v6)) : Int) ≠ (0 : Int) ∧
                                                ∀ (v11 : Int),
                                                  v11 = Int.tmod (↑v8 : Int) (↑(Prod.fst (Prod.snd v6)) : Int) →
                                                    (↑(Prod.fst (Prod.snd v6)) : Int) ≠ (0 : Int) ∧
                                                      Eng.fits Go.IntKind.i64 (Int.tdiv (↑v8 : Int) (↑(Prod.fst (Prod.snd v6)) : Int)) ∧
                                                        ∀ (v13 : Int),
                                                          v13 = Int.tdiv (↑v8 : Int) (↑(Prod.fst (Prod.snd v6)) : Int) →
                                                            Eng.fits Go.IntKind.i64 ((↑(Prod.fst (Prod.snd v6)) : Int) - (1 : Int)) ∧
                                                              Eng.fits Go.IntKind.i64 ((↑(Prod.fst (Prod.snd v6)) : Int) - (1 : Int) - v11) ∧
                                                                Eng.fits Go.IntKind.i64 ((↑(Prod.fst v6) : Int) * ((↑(Prod.fst (Prod.snd v6)) : Int) - (1 : Int) - v11)) ∧
                                                                  Eng.fits Go.IntKind.i64 (v13 + (↑(Prod.fst v6) : Int) * ((↑(Prod.fst (Prod.snd v6)) : Int) - (1 : Int) - v11)) ∧
                                                                    ∀ (v15 : Int),
                                                                      v15 = v13 + (↑(Prod.fst v6) : Int) * ((↑(Prod.fst (Prod.snd v6)) : Int) - (1 : Int) - v11) →
                                                                        ((0 : Int) ≤ v15 ∧ v15 < (↑(List.length (Prod.snd (Prod.snd v6))) : Int)) ∧
                                                                          ((0 : Nat) < List.length [Eng.nthD tInt (Prod.snd (Prod.snd v6)) (Int.toNat v15)] ∧
                                                                              List.length (srcL (rotP (Prod.fst v6) (Prod.fst (Prod.snd v6))) (Prod.snd (Prod.snd v6)) v8) + List.length [Eng.nthD tInt (Prod.snd (Prod.snd v6)) (Int.toNat v15)] ≤ (1000000 : Nat)) ∧
                                                                            Eng.fits Go.IntKind.i64 ((↑v8 : Int) + (1 : Int)) ∧
                                                                              ∃ (v17 : Nat),
                                                                                Nat.le v17 (List.length (Prod.snd (Prod.snd v6))) ∧
                                                                                  List.length (Prod.snd (Prod.snd v6)) - v17 < List.length (Prod.snd (Prod.snd v6)) - v8 ∧
                                                                                    (True ∧ True ∧ True ∧ (↑v8 : Int) + (1 : Int) = (↑v17 : Int) ∧ True) ∧
                                                                                      (W = W ∧ H = H ∧ l = l ∧ True) ∧
                                                                                        ((0 : Int) = (0 : Int) ∧ (0 : Int) = (0 : Int) ∧ Go.Value.slice Option.none (0 : Nat) (0 : Nat) = Go.Value.slice Option.none (0 : Nat) (0 : Nat) ∧ True) ∧
                                                                                          True ∧
                                                                                            True ∧
                                                                                              True ∧
                                                                                                True ∧
                                                                                                  True ∧
                                                                                                    True ∧
                                                                                                      True ∧
                                                                                                        True ∧
                                                                                                          True ∧
                                                                                                            ((↑(Prod.fst v6) : Int) = (↑(Prod.fst v6) : Int) ∧ (↑(Prod.fst (Prod.snd v6)) : Int) = (↑(Prod.fst (Prod.snd v6)) : Int) ∧ Prod.snd (Prod.snd v6) = Prod.snd (Prod.snd v6) ∧ True) ∧
                                                                                                              True ∧
                                                                                                                ((↑(Prod.fst (Prod.snd v6)) : Int) = (↑(Prod.fst (Prod.snd v6)) : Int) ∧ (↑(Prod.fst v6) : Int) = (↑(Prod.fst v6) : Int) ∧ True ∧ True) ∧
                                                                                                                  srcL (rotP (Prod.fst v6) (Prod.fst (Prod.snd v6))) (Prod.snd (Prod.snd v6)) v8 ++ [Eng.nthD tInt (Prod.snd (Prod.snd v6)) (Int.toNat v15)] =
                                                                                                                      srcL (rotP (Prod.fst v6) (Prod.fst (Prod.snd v6))) (Prod.snd (Prod.snd v6)) v17 ∧
                                                                                                                    True) ∧
                                            (Decidable.decide ((↑v8 : Int) < (↑(List.length (Prod.snd (Prod.snd (rotN (Int.toNat W) (Int.toNat H) l v3)))) : Int)) = Bool.false →
                                              Eng.fits Go.IntKind.i64 ((↑v3 : Int) + (1 : Int)) ∧
                                                ∃ (v11 : Nat),
                                                  Nat.le v11 (quart q) ∧
                                                    quart q - v11 < quart q - v3 ∧
                                                      (True ∧ True ∧ True ∧ (↑v3 : Int) + (1 : Int) = (↑v11 : Int) ∧ True) ∧
                                                        (W = W ∧ H = H ∧ l = l ∧ True) ∧
                                                          ((0 : Int) = (0 : Int) ∧ (0 : Int) = (0 : Int) ∧ Go.Value.slice Option.none (0 : Nat) (0 : Nat) = Go.Value.slice Option.none (0 : Nat) (0 : Nat) ∧ True) ∧
                                                            True ∧
                                                              True ∧
                                                                True ∧
                                                                  True ∧
                                                                    True ∧
                                                                      True ∧
                                                                        True ∧
                                                                          True ∧
                                                                            True ∧
                                                                              ((↑(Prod.fst (Prod.snd v6)) : Int) = (↑(Prod.fst (rotN (Int.toNat W) (Int.toNat H) l v11)) : Int) ∧
                                                                                  (↑(Prod.fst v6) : Int) = (↑(Prod.fst (Prod.snd (rotN (Int.toNat W) (Int.toNat H) l v11))) : Int) ∧
                                                                                    srcL (rotP (Prod.fst v6) (Prod.fst (Prod.snd v6))) (Prod.snd (Prod.snd v6)) v8 = Prod.snd (Prod.snd (rotN (Int.toNat W) (Int.toNat H) l v11)) ∧ True) ∧
                                                                                True ∧ True)) ∧
                            (Decidable.decide ((↑v3 : Int) < Int.tmod (Int.tmod q (4 : Int) + (4 : Int)) (4 : Int)) = Bool.false →
                              ((↑(Prod.fst (rotN (Int.toNat W) (Int.toNat H) l v3)) : Int) = Prod.fst (rturnR (quart q) W H l) ∧
                                  (↑(Prod.fst (Prod.snd (rotN (Int.toNat W) (Int.toNat H) l v3))) : Int) = Prod.fst (Prod.snd (rturnR (quart q) W H l)) ∧
                                    Prod.snd (Prod.snd (rotN (Int.toNat W) (Int.toNat H) l v3)) = Prod.snd (Prod.snd (rturnR (quart q) W H l)) ∧ True) ∧
                                (0 : Int) = movE W H l ∧ True))) (by kernel_rfl) ?_
  simp only [ne_eq, true_and, and_true, eq_self, Bool.not_eq_true', Bool.not_eq_false', decide_eq_true_eq, decide_eq_false_iff_not, Nat.le_eq, Int.not_lt, Int.not_le, Int.reduceEq, not_false_eq_true, Bool.not_eq_eq_eq_not, Bool.not_true, Bool.not_false, Int.ofNat_lt, Int.ofNat_le, Int.toNat_natCast, Int.natCast_nonneg, nthD_nth, beq_iff_eq, bne_iff_ne, beq_eq_false_iff_ne, bne_eq_false_iff_eq, Classical.not_not, List.length_cons, List.length_nil, Nat.zero_add, List.nil_append, true_implies, Nat.lt_add_one, Nat.zero_lt_succ, Int.reduceLE, Int.reduceLT]
  refine ⟨fun hv => ⟨by simp [rturnR, hv], by simp [movE, hv]⟩, fun hv => ?_⟩
  obtain ⟨a, b, hp⟩ := IsPic.of hv
  obtain ⟨rfl, rfl, ha1, ha2, hb1, hb2, hn, hn2, hbd⟩ := hp
  simp only [Int.toNat_natCast]
  have hq : (q.tmod 4 + 4).tmod 4 = ((quart q : Nat) : Int) := by
    rw [tmod44]
    unfold quart
    omega
  have hq3 : quart q < 4 := by unfold quart; omega
  have hq4 : q.tmod 4 < 4 := Int.tmod_lt_of_pos q (by omega)
  have hq5 : -4 < q.tmod 4 := by have := Int.lt_tmod_of_pos q (show (0 : Int) < 4 by omega); omega
  have hlp : 0 < l.length := by rw [hn]; exact Nat.mul_pos ha1 hb1
  rw [hq]
  refine ⟨⟨hlp, by omega⟩, fits64 (by omega) (by omega), (), 0, Nat.zero_le _, ⟨rfl, rfl, rfl, rfl⟩, fun k hk => ⟨fun hlt => ?_, fun hge => ?_⟩⟩
  · obtain ⟨r1, r2, r3⟩ := rotN_ok a b l hn k
    have e1 : rotN a b l (k + 1) = ((rotN a b l k).2.1, (rotN a b l k).1, srcL (rotP (rotN a b l k).1 (rotN a b l k).2.1) (rotN a b l k).2.2 l.length) := rfl
    refine ⟨rotN a b l k, 0, Nat.zero_le _, ⟨rfl, ⟨rfl, rfl, rfl⟩, ⟨rfl, rfl⟩, rfl⟩, fun j hj => ⟨fun hjl => ?_, fun hjl => ?_⟩⟩
    · generalize rotN a b l k = T at *
      obtain ⟨x, y, z⟩ := T
      simp only at *
      have hy : 0 < y := by
        rcases r3 with ⟨_, h⟩ | ⟨_, h⟩ <;> omega
      have hx : x ≤ 16 ∧ y ≤ 16 := by
        rcases r3 with ⟨h, h'⟩ | ⟨h, h'⟩ <;> omega
      rw [tmodN, tdivN]
      have m1 : j % y < y := Nat.mod_lt _ hy
      have m2 : j / y < x := Nat.div_lt_of_lt_mul (by rw [Nat.mul_comm, r1, ← r2]; exact hjl)
      have e2 : rotP x y j = j / y + x * (y - 1 - j % y) := rfl
      have m3 := place_lt (a := x) (b := y) (i := j / y) (j := y - 1 - j % y) m2 (by omega)
      have e3 : srcL (rotP x y) z (j + 1) = srcL (rotP x y) z j ++ [nth z (rotP x y j)] := srcL_snoc _ _ _
      have m4 : x * (y - 1 - j % y) ≤ 16 * 16 := Nat.mul_le_mul hx.1 (by omega)
      obtain ⟨r, hr⟩ : ∃ r, r = j % y := ⟨_, rfl⟩
      obtain ⟨s, hs⟩ : ∃ s, s = j / y := ⟨_, rfl⟩
      rw [← hr] at m1 m3 m4 e2
      rw [← hs] at m2 m3 e2
      rw [← hr, ← hs]
      obtain ⟨t, ht⟩ : ∃ t, t = y - 1 - r := ⟨_, rfl⟩
      rw [← ht] at m3 m4 e2
      refine ⟨by omega, fun v11 h11 => ⟨by omega, fits64 (by omega) (by omega), fun v13 h13 => ?_⟩⟩
      subst h11 h13
      rw [show (y : Int) - 1 - (r : Int) = (t : Int) by omega, show (x : Int) * (t : Int) = ((x * t : Nat) : Int) by simp]
      refine ⟨fits64 (by omega) (by omega), fits64 (by omega) (by omega), fits64 (by omega) (by omega), fits64 (by omega) (by omega), fun v15 h15 => ?_⟩
      obtain rfl : v15 = ((rotP x y j : Nat) : Int) := by omega
      rw [Int.toNat_natCast, srcL_len]
      exact ⟨⟨by omega, by omega⟩, by omega, fits64 (by omega) (by omega), j + 1, by omega, by omega, by omega, e3.symm⟩
    · have hjj : j = l.length := by omega
      subst hjj
      exact ⟨fits64 (by omega) (by omega), k + 1, by omega, by omega, by omega, by rw [e1], by rw [e1], by rw [e1]⟩
  · obtain rfl : k = quart q := by omega
    simp [rturnR, movE, hv]
/-- Some list is longer than 600. -/
def longB (l : List (List Int)) : Bool := l.any fun x => decide (600 < x.length)
def ivLong (l : List (List Int)) : Nat → Option Inv
  | 0 => some (Inv.of [3, 4, 7] 0 (fun k : Nat => [(3, .any), (4, .any), (7, .lit (.int .i64 k))]) (fun _ => []) (fun k => k ≤ l.length ∧ (l.take k).any (fun x => decide (600 < x.length)) = false) (fun k => l.length - k))
  | _ => none
theorem nthD_at {t : Ty} (l : List t.den) (k : Nat) (h : k < l.length) : nthD t l k = l[k] := by simp [nthD, h]
theorem long_meets : Meets Try.prog 13 (tspec true none [.list tInts] [.bool] (fun x => x.1.length ≤ 1000) (fun x => (longB x.1, ()))) := by
  refine meets (snd (SpecsOk.nil _) []) Try.func13 rfl rfl (fun x => ivLong x.1) (fun _ => by kernel_rfl) (by decide) ?_
  rintro ⟨l, ⟨⟩⟩ hml
  revert l
  intro (l : List (List Int)) (hml : l.length ≤ 1000)
  refine by_vc (B := ∃ (v0 : Unit),
  ∃ (v1 : Nat),
    (v1 ≤ List.length l ∧ (List.any (List.take v1 l) fun (v2 : List Int) => Decidable.decide ((600 : Nat) < List.length v2)) = Bool.false) ∧
      ((True ∧ True ∧ (0 : Int) = (↑v1 : Int) ∧ True) ∧ True) ∧
        ∀ (v2 : Nat),
          v2 ≤ List.length l ∧ (List.any (List.take v2 l) fun (v4 : List Int) => Decidable.decide ((600 : Nat) < List.length v4)) = Bool.false →
            (Decidable.decide ((↑v2 : Int) < (↑(List.length l) : Int)) = Bool.true →
                ((0 : Int) ≤ (↑v2 : Int) ∧ (↑v2 : Int) < (↑(List.length l) : Int)) ∧
                  (Decidable.decide ((600 : Int) < (↑(List.length (Eng.nthD tInts l (Int.toNat (↑v2 : Int)))) : Int)) = Bool.true → Bool.true = longB l) ∧
                    (Decidable.decide ((600 : Int) < (↑(List.length (Eng.nthD tInts l (Int.toNat (↑v2 : Int)))) : Int)) = Bool.false →
                      Eng.fits Go.IntKind.i64 ((↑v2 : Int) + (1 : Int)) ∧ ∃ (v6 : Nat), (v6 ≤ List.length l ∧ (List.any (List.take v6 l) fun (v7 : List Int) => Decidable.decide ((600 : Nat) < List.length v7)) = Bool.false) ∧ List.length l - v6 < List.length l - v2 ∧ (True ∧ True ∧ (↑v2 : Int) + (1 : Int) = (↑v6 : Int) ∧ True) ∧ True)) ∧
              (Decidable.decide ((↑v2 : Int) < (↑(List.length l) : Int)) = Bool.false → Bool.false = longB l)) (by kernel_rfl) ?_
  simp only [ne_eq, true_and, and_true, eq_self, Bool.not_eq_true', Bool.not_eq_false', decide_eq_true_eq, decide_eq_false_iff_not, Nat.le_eq, Int.not_lt, Int.not_le, Int.reduceEq, not_false_eq_true, Bool.not_eq_eq_eq_not, Bool.not_true, Bool.not_false, Int.ofNat_lt, Int.ofNat_le, Int.toNat_natCast, Int.natCast_nonneg, nthD_nth, beq_iff_eq, bne_iff_ne, beq_eq_false_iff_ne, bne_eq_false_iff_eq, Classical.not_not, List.length_cons, List.length_nil, Nat.zero_add, List.nil_append, true_implies, Nat.lt_add_one, Nat.zero_lt_succ, Int.reduceLE, Int.reduceLT]
  refine ⟨(), 0, ⟨Nat.zero_le _, by simp⟩, rfl, fun k ⟨hk, hf⟩ => ⟨fun hlt => ⟨hlt, fun h => ?_, fun h => ⟨fits64 (by omega) (by omega), k + 1, ⟨by omega, ?_⟩, by omega, by omega⟩⟩, fun hge => ?_⟩⟩
  · unfold longB
    symm
    rw [List.any_eq_true]
    exact ⟨l[k], List.getElem_mem _, by rw [nthD_at (t := tInts) l k hlt] at h; simp; omega⟩
  · rw [List.take_succ_eq_append_getElem hlt, List.any_append, hf]
    rw [nthD_at (t := tInts) l k hlt] at h
    simp; omega
  · rw [List.take_of_length_le (by omega)] at hf
    exact hf.symm
end Go.Proofs.Ytahccnljckgjmaa
