/- Halved of pic: its contract. No condition. -/
import Derived.Test.YtahccnljckgjmaaS1
import Derived.Test.YtahccnljckgjmaaPHalLaw

set_option linter.unusedVariables false
set_option linter.unusedSimpArgs false
namespace Go.Proofs.Ytahccnljckgjmaa
open Go Go.RowKit Eng Ls

def pAV (W H : Int) (v : AV) : AV := .cons (.lit (.int .i64 W)) (.cons (.lit (.int .i64 H)) (.cons v .nil))
def spH : List (Nat × FSpec) := [(20, sPB validP), (21, sPB validP), (60, tspec true none [tInt] [tInt] (fun _ => True) (fun x => (x.1 / 2, ())))]
def memH (W H : Int) (l z : List Int) : List AObj := [.box 30 (pAV W H (.dat tInt l)), .box 30 (pAV 0 0 nilV), .dead, .dead, .dead, .dead, .dead, .dead, .dead, .dead, .dead, .dead, .vec 3 tInt z, .dead, .box 30 (pAV (W.tdiv 2) (H.tdiv 2) (.own 12)), .dead]
def ivH (W H : Int) (l : List Int) : Nat → Option Inv
  | 0 => some (Inv.of [5, 6, 41] 16 (fun k : Nat => [(5, .any), (6, .any), (41, .lit (.int .i64 k))]) (fun k => memH W H l (accTo W.toNat (l.length / 4) l k)) (fun k => k ≤ l.length) (fun k => l.length - k))
  | 1 => some (Inv.of [7, 8, 69, 71] 16 (fun k : Nat => [(7, .any), (8, .any), (69, .own 12), (71, .lit (.int .i64 k))]) (fun k => memH W H l (halTo (accTo W.toNat (l.length / 4) l l.length) k)) (fun k => k ≤ l.length / 4) (fun k => l.length / 4 - k))
  | _ => none
theorem nthD_nth (l : List Int) (i : Nat) : nthD (.int .i64) l i = nth l i := rfl
theorem tmodN (q a : Nat) : (q : Int).tmod a = ((q % a : Nat) : Int) := by rw [Int.tmod_eq_emod_of_nonneg (by omega)]; simp
theorem tdivN (q a : Nat) : (q : Int).tdiv a = ((q / a : Nat) : Int) := by rw [Int.tdiv_eq_ediv_of_nonneg (by omega)]; simp
theorem tdiv2 (q : Nat) : (q : Int).tdiv 2 = ((q / 2 : Nat) : Int) := tdivN q 2
theorem tmod2 (q : Nat) : (q : Int).tmod 2 = ((q % 2 : Nat) : Int) := tmodN q 2
theorem tdiv4 (q : Nat) : (q : Int).tdiv 4 = ((q / 4 : Nat) : Int) := tdivN q 4
theorem evenP_nat (a b : Nat) : evenP a b = (decide (a % 2 = 0) && decide (b % 2 = 0)) := by
  unfold evenP
  rw [tmod2, tmod2]
  congr 1 <;> (rw [Bool.eq_iff_iff]; simp; omega)
theorem nth_small {l : List Int} (h : ∀ k, k < l.length → -1000000 ≤ nth l k ∧ nth l k ≤ 1000000) (i : Nat) : -1000000 ≤ nth l i ∧ nth l i ≤ 1000000 := by
  by_cases hi : i < l.length
  · exact h i hi
  · rw [nth_past l i (by omega)]; omega
set_option maxRecDepth 100000 in
theorem halved_meets (h : SpecsOk Try.prog spH) : Meets Try.prog 41 (sPP false halR halE) := by
  refine meets (SpecsOk.sound (C := { ctx spH [] with nm := [61] }) h tys_ok (by kernel_rfl)) Try.func41 rfl rfl (fun x => ivH x.1.1 x.1.2.1 x.1.2.2) (fun _ => by kernel_rfl) (by decide) ?_
  rintro ⟨⟨W, H, l⟩, ⟨⟩⟩ -
  revert W H l
  intro (W : Int) (H : Int) (l : List Int)
  refine by_vc (B := True ∧
  ((!validP W H l) = Bool.true → ((0 : Int) = Prod.fst (halR W H l) ∧ (0 : Int) = Prod.fst (Prod.snd (halR W H l)) ∧ Prod.snd (Prod.snd (halR W H l)) = [] ∧ True) ∧ (1 : Int) = halE W H l ∧ True) ∧
    ((!validP W H l) = Bool.false →
      (2 : Int) ≠ (0 : Int) ∧
        (Decidable.decide ((0 : Int) < Int.tmod W (2 : Int)) = Bool.true → ((0 : Int) = Prod.fst (halR W H l) ∧ (0 : Int) = Prod.fst (Prod.snd (halR W H l)) ∧ Prod.snd (Prod.snd (halR W H l)) = [] ∧ True) ∧ (9 : Int) = halE W H l ∧ True) ∧
          (Decidable.decide ((0 : Int) < Int.tmod W (2 : Int)) = Bool.false →
            (2 : Int) ≠ (0 : Int) ∧
              (Decidable.decide ((0 : Int) < Int.tmod H (2 : Int)) = Bool.true → ((0 : Int) = Prod.fst (halR W H l) ∧ (0 : Int) = Prod.fst (Prod.snd (halR W H l)) ∧ Prod.snd (Prod.snd (halR W H l)) = [] ∧ True) ∧ (9 : Int) = halE W H l ∧ True) ∧
                (Decidable.decide ((0 : Int) < Int.tmod H (2 : Int)) = Bool.false →
                  (2 : Int) ≠ (0 : Int) ∧
                    Eng.fits Go.IntKind.i64 (Int.tdiv W (2 : Int)) ∧
                      (2 : Int) ≠ (0 : Int) ∧
                        Eng.fits Go.IntKind.i64 (Int.tdiv H (2 : Int)) ∧
                          (4 : Int) ≠ (0 : Int) ∧
                            Eng.fits Go.IntKind.i64 (Int.tdiv (↑(List.length l) : Int) (4 : Int)) ∧
                              (Int.tdiv (↑(List.length l) : Int) (4 : Int) = Int.tdiv (↑(List.length l) : Int) (4 : Int) ∧ (0 : Int) ≤ Int.tdiv (↑(List.length l) : Int) (4 : Int) ∧ Int.tdiv (↑(List.length l) : Int) (4 : Int) ≤ (1000000 : Int)) ∧
                                ∃ (v3 : Unit),
                                  ∃ (v4 : Nat),
                                    Nat.le v4 (List.length l) ∧
                                      ((True ∧ True ∧ (0 : Int) = (↑v4 : Int) ∧ True) ∧
                                          (W = W ∧ H = H ∧ l = l ∧ True) ∧
                                            ((0 : Int) = (0 : Int) ∧ (0 : Int) = (0 : Int) ∧ Go.Value.slice Option.none (0 : Nat) (0 : Nat) = Go.Value.slice Option.none (0 : Nat) (0 : Nat) ∧ True) ∧
                                              True ∧
                                                True ∧
                                                  True ∧
                                                    True ∧
                                                      True ∧
                                                        True ∧
                                                          True ∧
                                                            True ∧
                                                              True ∧
                                                                True ∧
                                                                  List.replicate (Int.toNat (Int.tdiv (↑(List.length l) : Int) (4 : Int))) (Eng.Ty.dflt (Eng.TI.ty T3)) = accTo (Int.toNat W) (List.length l / (4 : Nat)) l v4 ∧
                                                                    True ∧ (Int.tdiv W (2 : Int) = Int.tdiv W (2 : Int) ∧ Int.tdiv H (2 : Int) = Int.tdiv H (2 : Int) ∧ True ∧ True) ∧ True ∧ True) ∧
                                        ∀ (v5 : Nat),
                                          Nat.le v5 (List.length l) →
                                            (Decidable.decide ((↑v5 : Int) < (↑(List.length l) : Int)) = Bool.true →
                                                ((0 : Int) ≤ (↑v5 : Int) ∧ (↑v5 : Int) < (↑(List.length l) : Int)) ∧
                                                  W ≠ (0 : Int) ∧
                                                    (2 : Int) ≠ (0 : Int) ∧
                                                      Eng.fits Go.IntKind.i64 (Int.tdiv (Int.tmod (↑v5 : Int) W) (2 : Int)) ∧
                                                        W ≠ (0 : Int) ∧
                                                          Eng.fits Go.IntKind.i64 (Int.tdiv (↑v5 : Int) W) ∧
                                                            (2 : Int) ≠ (0 : Int) ∧
                                                              Eng.fits Go.IntKind.i64 (Int.tdiv (Int.tdiv (↑v5 : Int) W) (2 : Int)) ∧
                                                                Eng.fits Go.IntKind.i64 (Int.tdiv W (2 : Int) * Int.tdiv (Int.tdiv (↑v5 : Int) W) (2 : Int)) ∧
                                                                  Eng.fits Go.IntKind.i64 (Int.tdiv (Int.tmod (↑v5 : Int) W) (2 : Int) + Int.tdiv W (2 : Int) * Int.tdiv (Int.tdiv (↑v5 : Int) W) (2 : Int)) ∧
                                                                    ∀ (v8 : Int),
                                                                      v8 = Int.tdiv (Int.tmod (↑v5 : Int) W) (2 : Int) + Int.tdiv W (2 : Int) * Int.tdiv (Int.tdiv (↑v5 : Int) W) (2 : Int) →
                                                                        ((0 : Int) ≤ v8 ∧ v8 < (↑(List.length (accTo (Int.toNat W) (List.length l / (4 : Nat)) l v5)) : Int)) ∧
                                                                          Int.toNat v8 < List.length (accTo (Int.toNat W) (List.length l / (4 : Nat)) l v5) ∧
                                                                            Eng.fits Go.IntKind.i64 (Eng.nthD tInt (accTo (Int.toNat W) (List.length l / (4 : Nat)) l v5) (Int.toNat v8) + Eng.nthD (Eng.Ty.int Go.IntKind.i64) l (Int.toNat (↑v5 : Int))) ∧
                                                                              ((0 : Int) ≤ v8 ∧ v8 < (↑(List.length (accTo (Int.toNat W) (List.length l / (4 : Nat)) l v5)) : Int)) ∧
                                                                                Int.toNat v8 < List.length (accTo (Int.toNat W) (List.length l / (4 : Nat)) l v5) ∧
                                                                                  Eng.fits Go.IntKind.i64 ((↑v5 : Int) + (1 : Int)) ∧
                                                                                    ∃ (v10 : Nat),
                                                                                      Nat.le v10 (List.length l) ∧
                                                                                        List.length l - v10 < List.length l - v5 ∧
                                                                                          (True ∧ True ∧ (↑v5 : Int) + (1 : Int) = (↑v10 : Int) ∧ True) ∧
                                                                                            (W = W ∧ H = H ∧ l = l ∧ True) ∧
                                                                                              ((0 : Int) = (0 : Int) ∧ (0 : Int) = (0 : Int) ∧ Go.Value.slice Option.none (0 : Nat) (0 : Nat) = Go.Value.slice Option.none (0 : Nat) (0 : Nat) ∧ True) ∧
                                                                                                True ∧
                                                                                                  True ∧
                                                                                                    True ∧
                                                                                                      True ∧
                                                                                                        True ∧
                                                                                                          True ∧
                                                                                                            True ∧
                                                                                                              True ∧
                                                                                                                True ∧
                                                                                                                  True ∧
                                                                                                                    List.set (accTo (Int.toNat W) (List.length l / (4 : Nat)) l v5) (Int.toNat v8)
                                                                                                                          (Eng.nthD tInt (accTo (Int.toNat W) (List.length l / (4 : Nat)) l v5) (Int.toNat v8) + Eng.nthD (Eng.Ty.int Go.IntKind.i64) l (Int.toNat (↑v5 : Int))) =
                                                                                                                        accTo (Int.toNat W) (List.length l / (4 : Nat)) l v10 ∧
                                                                                                                      True ∧ (Int.tdiv W (2 : Int) = Int.tdiv W (2 : Int) ∧ Int.tdiv H (2 : Int) = Int.tdiv H (2 : Int) ∧ True ∧ True) ∧ True ∧ True) ∧
                                              (Decidable.decide ((↑v5 : Int) < (↑(List.length l) : Int)) = Bool.false →
                                                ∃ (v8 : Unit),
                                                  ∃ (v9 : Nat),
                                                    Nat.le v9 (List.length l / (4 : Nat)) ∧
                                                      ((True ∧ True ∧ True ∧ (0 : Int) = (↑v9 : Int) ∧ True) ∧
                                                          (W = W ∧ H = H ∧ l = l ∧ True) ∧
                                                            ((0 : Int) = (0 : Int) ∧ (0 : Int) = (0 : Int) ∧ Go.Value.slice Option.none (0 : Nat) (0 : Nat) = Go.Value.slice Option.none (0 : Nat) (0 : Nat) ∧ True) ∧
                                                              True ∧
                                                                True ∧
                                                                  True ∧
                                                                    True ∧
                                                                      True ∧
                                                                        True ∧
                                                                          True ∧
                                                                            True ∧
                                                                              True ∧
                                                                                True ∧
                                                                                  accTo (Int.toNat W) (List.length l / (4 : Nat)) l v5 = halTo (accTo (Int.toNat W) (List.length l / (4 : Nat)) l (List.length l)) v9 ∧
                                                                                    True ∧ (Int.tdiv W (2 : Int) = Int.tdiv W (2 : Int) ∧ Int.tdiv H (2 : Int) = Int.tdiv H (2 : Int) ∧ True ∧ True) ∧ True ∧ True) ∧
                                                        ∀ (v10 : Nat),
                                                          Nat.le v10 (List.length l / (4 : Nat)) →
                                                            (Decidable.decide ((↑v10 : Int) < (↑(List.length (accTo (Int.toNat W) (List.length l / (4 : Nat)) l v5)) : Int)) = Bool.true →
                                                                ((0 : Int) ≤ (↑v10 : Int) ∧ (↑v10 : Int) < (↑(List.length (halTo (accTo (Int.toNat W) (List.length l / (4 : Nat)) l (List.length l)) v10)) : Int)) ∧
                                                                  Int.toNat (↑v10 : Int) < List.length (halTo (accTo (Int.toNat W) (List.length l / (4 : Nat)) l (List.length l)) v10) ∧
                                                                    True ∧
                                                                      True ∧
                                                                        ((0 : Int) ≤ (↑v10 : Int) ∧ (↑v10 : Int) < (↑(List.length (halTo (accTo (Int.toNat W) (List.length l / (4 : Nat)) l (List.length l)) v10)) : Int)) ∧
                                                                          Int.toNat (↑v10 : Int) < List.length (halTo (accTo (Int.toNat W) (List.length l / (4 : Nat)) l (List.length l)) v10) ∧
                                                                            Eng.fits Go.IntKind.i64 ((↑v10 : Int) + (1 : Int)) ∧
                                                                              ∃ (v13 : Nat),
                                                                                Nat.le v13 (List.length l / (4 : Nat)) ∧
                                                                                  List.length l / (4 : Nat) - v13 < List.length l / (4 : Nat) - v10 ∧
                                                                                    (True ∧ True ∧ True ∧ (↑v10 : Int) + (1 : Int) = (↑v13 : Int) ∧ True) ∧
                                                                                      (W = W ∧ H = H ∧ l = l ∧ True) ∧
                                                                                        ((0 : Int) = (0 : Int) ∧ (0 : Int) = (0 : Int) ∧ Go.Value.slice Option.none (0 : Nat) (0 : Nat) = Go.Value.slice Option.none (0 : Nat) (0 : Nat) ∧ True) ∧
                                                                                          True ∧
                                                                                            True ∧
                                                                                              True ∧
                                                                                                True ∧
                                                                                                  True ∧
                                                                                                    True ∧
                                                                                                      True ∧
                                                                                                        True ∧
                                                                                                          True ∧
                                                                                                            True ∧
                                                                                                              List.set (halTo (accTo (Int.toNat W) (List.length l / (4 : Nat)) l (List.length l)) v10) (Int.toNat (↑v10 : Int))
                                                                                                                    (Eng.nthD tInt (halTo (accTo (Int.toNat W) (List.length l / (4 : Nat)) l (List.length l)) v10) (Int.toNat (↑v10 : Int)) / (2 : Eng.Ty.den tInt) /
                                                                                                                      (2 : Eng.Ty.den tInt)) =
                                                                                                                  halTo (accTo (Int.toNat W) (List.length l / (4 : Nat)) l (List.length l)) v13 ∧
                                                                                                                True ∧ (Int.tdiv W (2 : Int) = Int.tdiv W (2 : Int) ∧ Int.tdiv H (2 : Int) = Int.tdiv H (2 : Int) ∧ True ∧ True) ∧ True ∧ True) ∧
                                                              (Decidable.decide ((↑v10 : Int) < (↑(List.length (accTo (Int.toNat W) (List.length l / (4 : Nat)) l v5)) : Int)) = Bool.false →
                                                                (Int.tdiv W (2 : Int) = Prod.fst (halR W H l) ∧
                                                                    Int.tdiv H (2 : Int) = Prod.fst (Prod.snd (halR W H l)) ∧ halTo (accTo (Int.toNat W) (List.length l / (4 : Nat)) l (List.length l)) v10 = Prod.snd (Prod.snd (halR W H l)) ∧ True) ∧
                                                                  (0 : Int) = halE W H l ∧ True)))))) (by kernel_rfl) ?_
  simp only [ne_eq, true_and, and_true, eq_self, Bool.not_eq_true', Bool.not_eq_false', decide_eq_true_eq, decide_eq_false_iff_not, Nat.le_eq, Int.not_lt, Int.not_le, Int.reduceEq, not_false_eq_true, Bool.not_eq_eq_eq_not, Bool.not_true, Bool.not_false, Int.ofNat_lt, Int.ofNat_le, Int.toNat_natCast, Int.natCast_nonneg, nthD_nth, beq_iff_eq, bne_iff_ne, beq_eq_false_iff_ne, bne_eq_false_iff_eq, Classical.not_not, List.length_cons, List.length_nil, Nat.zero_add, List.nil_append, true_implies, Nat.lt_add_one, Nat.zero_lt_succ, Int.reduceLE, Int.reduceLT]
  refine ⟨fun hv => ⟨by simp [halR, hv], by simp [halE, hv]⟩, fun hv => ?_⟩
  obtain ⟨a, b, hp⟩ := IsPic.of hv
  obtain ⟨rfl, rfl, ha1, ha2, hb1, hb2, hn, hn2, hbd⟩ := hp
  simp only [Int.toNat_natCast]
  have he : evenP a b = (decide (a % 2 = 0) && decide (b % 2 = 0)) := evenP_nat a b
  rw [tmod2, tmod2, tdiv2, tdiv2, tdiv4]
  refine ⟨fun h => ?_, fun h1 => ⟨fun h => ?_, fun h2 => ?_⟩⟩
  · have : evenP a b = false := by rw [he]; simp; omega
    simp [halR, halE, hv, this]
  · have : evenP a b = false := by rw [he]; simp; omega
    simp [halR, halE, hv, this]
  have ev : evenP a b = true := by rw [he]; simp; omega
  obtain ⟨hk, -⟩ := hp_ok ha1 ha2 hb1 hb2 (by omega) (by omega)
  rw [← hn] at hk
  refine ⟨fits64 (by omega) (by omega), fits64 (by omega) (by omega), fits64 (by omega) (by omega), ⟨by omega, by omega⟩, (), 0, Nat.zero_le _, ⟨rfl, rfl⟩, fun q hq => ⟨fun hlt => ?_, fun hge => ⟨(), 0, Nat.zero_le _, ⟨rfl, ?_⟩, fun k hk' => ⟨fun hlt => ?_, fun hge => ?_⟩⟩⟩⟩
  · rw [tmodN, tdivN]
    have m3 : q % a < a := Nat.mod_lt _ ha1
    have m4 : q / a ≤ q := Nat.div_le_self _ _
    have h5 := hk q hlt
    have e4 : hdst a q = q % a / 2 + a / 2 * (q / a / 2) := rfl
    have h6 := accTo_bnd (a := a) (m := l.length / 4) (l := l) (nth_small hbd) q (hdst a q)
    have h7 := hbd q hlt
    obtain ⟨r, hr⟩ : ∃ r, r = q % a := ⟨_, rfl⟩
    obtain ⟨s, hs⟩ : ∃ s, s = q / a := ⟨_, rfl⟩
    rw [← hr] at m3 e4
    rw [← hs] at m4 e4
    rw [← hr, ← hs, tdiv2, tdiv2, ← Int.natCast_mul]
    refine ⟨hlt, by omega, fits64 (by omega) (by omega), by omega, fits64 (by omega) (by omega), fits64 (by omega) (by omega), fits64 (by omega) (by omega), fits64 (by omega) (by omega), fun z hz => ?_⟩
    rw [show z = ((hdst a q : Nat) : Int) by omega, Int.toNat_natCast, accTo_len]
    refine ⟨⟨by omega, by omega⟩, by omega, fits64 (by omega) (by omega), ⟨by omega, by omega⟩, by omega, fits64 (by omega) (by omega), q + 1, by omega, by omega, by omega, rfl⟩
  · rw [show q = l.length by omega]; rfl
  · rw [accTo_len] at hlt
    rw [halTo_len, accTo_len]
    refine ⟨hlt, hlt, hlt, hlt, fits64 (by omega) (by omega), k + 1, by omega, by omega, by omega, ?_⟩
    rw [halTo, halTo_old _ _ (by rw [accTo_len]; omega)]
  · rw [accTo_len] at hge
    have hkk : k = l.length / 4 := by omega
    subst hkk

    simp [halR, halE, hv, ev]
end Go.Proofs.Ytahccnljckgjmaa
