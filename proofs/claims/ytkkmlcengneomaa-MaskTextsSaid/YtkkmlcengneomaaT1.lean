/- The mask's pairs of columns: contracts by the engine. No condition. -/
import Derived.Test.YtkkmlcengneomaaTys
import Derived.Test.YtkkmlcengneomaaEng3

set_option linter.unusedVariables false
set_option linter.unusedSimpArgs false
namespace Go.Proofs.Ytkkmlcengneomaa
open Go Go.RowKit Eng Ls

abbrev tInt : Ty := .int .i64
abbrev tInts : Ty := .list (.int .i64)
abbrev tMask : Ty := .list (.list (.int .i64))
abbrev nilV : AV := .lit (.slice .none 0 0)
def ctx (specs : List (Nat × FSpec)) (wr : List Nat) : Ctx := { specs := specs, tys := tys, wr := wr }
theorem snd {specs : List (Nat × FSpec)} (h : SpecsOk Try.prog specs) (wr : List Nat) : Sound Try.prog (ctx specs wr) := SpecsOk.sound h tys_ok (by kernel_rfl)

theorem nthD_nth (l : List Int) (i : Nat) : nthD tInt l i = nth l i := rfl
/-- The numbers of a column. -/
def colK (m : List (List Int)) (j k : Nat) : List Int := (m.take k).map fun r => nthD tInt r j
def colA (m : List (List Int)) (j : Nat) : List Int := m.map fun r => nthD tInt r j
def rowsGt (m : List (List Int)) (j : Int) : Prop := 0 ≤ j ∧ m.length ≤ 1000 ∧ ∀ k, k < m.length → j < (nthD (.list (.int .i64)) m k : List Int).length
def sColumn : FSpec := tspec false none [tMask, tInt] [tInts] (fun x => rowsGt x.1 x.2.1) (fun x => (colA x.1 x.2.1.toNat, ()))
theorem colK_succ {m : List (List Int)} {j k : Nat} (hk : k < m.length) : colK m j (k + 1) = colK m j k ++ [nthD tInt (nthD (.list (.int .i64)) m k) j] := by
  unfold colK
  rw [List.take_add_one, List.getElem?_eq_getElem hk]
  simp only [Option.toList_some, List.map_append, List.map_cons, List.map_nil]
  congr 3
  simp [nthD, hk]
def ivColumn (m : List (List Int)) (j : Int) : Nat → Option Inv
  | 0 => some (Inv.of [5, 10] 1 (fun k : Nat => [(5, .own 0), (10, .lit (.int .i64 k))]) (fun k => [.vec 3 tInt (colK m j.toNat k)]) (fun k => k ≤ m.length) (fun k => m.length - k))
  | _ => none
theorem column_meets : Meets Try.prog 68 sColumn := by
  refine meets (snd (SpecsOk.nil _) []) Try.func68 rfl rfl (fun x => ivColumn x.1 x.2.1) (fun _ => by kernel_rfl) (by decide) ?_
  rintro ⟨m, j, ⟨⟩⟩ h
  revert m j
  intro (m : List (List Int)) (j : Int) (h : rowsGt m j)
  refine by_vc (B := ∃ (v0 : Unit),
  ∃ (v1 : Nat),
    Nat.le v1 (List.length m) ∧
      ((True ∧ (0 : Int) = (↑v1 : Int) ∧ True) ∧ colK m (Int.toNat j) v1 = [] ∧ True) ∧
        ∀ (v2 : Nat),
          Nat.le v2 (List.length m) →
            (Decidable.decide ((↑v2 : Int) < (↑(List.length m) : Int)) = Bool.true →
                ((0 : Int) ≤ (↑v2 : Int) ∧ (↑v2 : Int) < (↑(List.length m) : Int)) ∧
                  ((0 : Int) ≤ j ∧ j < (↑(List.length (Eng.nthD (Eng.Ty.list (Eng.Ty.int Go.IntKind.i64)) m (Int.toNat (↑v2 : Int)))) : Int)) ∧
                    ((0 : Nat) < List.length [Eng.nthD (Eng.Ty.int Go.IntKind.i64) (Eng.nthD (Eng.Ty.list (Eng.Ty.int Go.IntKind.i64)) m (Int.toNat (↑v2 : Int))) (Int.toNat j)] ∧
                        List.length (colK m (Int.toNat j) v2) + List.length [Eng.nthD (Eng.Ty.int Go.IntKind.i64) (Eng.nthD (Eng.Ty.list (Eng.Ty.int Go.IntKind.i64)) m (Int.toNat (↑v2 : Int))) (Int.toNat j)] ≤ (1000000 : Nat)) ∧
                      Eng.fits Go.IntKind.i64 ((↑v2 : Int) + (1 : Int)) ∧
                        ∃ (v5 : Nat),
                          Nat.le v5 (List.length m) ∧ List.length m - v5 < List.length m - v2 ∧ (True ∧ (↑v2 : Int) + (1 : Int) = (↑v5 : Int) ∧ True) ∧ colK m (Int.toNat j) v2 ++ [Eng.nthD (Eng.Ty.int Go.IntKind.i64) (Eng.nthD (Eng.Ty.list (Eng.Ty.int Go.IntKind.i64)) m (Int.toNat (↑v2 : Int))) (Int.toNat j)] = colK m (Int.toNat j) v5 ∧ True) ∧
              (Decidable.decide ((↑v2 : Int) < (↑(List.length m) : Int)) = Bool.false → colK m (Int.toNat j) v2 = colA m (Int.toNat j))) (by kernel_rfl) ?_
  simp only [ne_eq, true_and, and_true, eq_self, Bool.not_eq_true', Bool.not_eq_false', decide_eq_true_eq, decide_eq_false_iff_not, Nat.le_eq, Int.not_lt, Int.not_le, Int.reduceEq, not_false_eq_true, Bool.not_eq_eq_eq_not, Bool.not_true, Bool.not_false, Int.ofNat_lt, Int.ofNat_le, Int.toNat_natCast, Int.natCast_nonneg, nthD_nth, beq_iff_eq, bne_iff_ne, beq_eq_false_iff_ne, bne_eq_false_iff_eq, Classical.not_not, List.length_cons, List.length_nil, Nat.zero_add, List.nil_append, true_implies, Nat.lt_add_one, Nat.zero_lt_succ, Int.reduceLE, Int.reduceLT]
  obtain ⟨h0, h1, h2⟩ := h
  refine ⟨(), 0, Nat.zero_le _, ⟨rfl, rfl⟩, fun k hk => ⟨fun hlt => ?_, fun hge => ?_⟩⟩
  · have h3 := h2 k (by omega)
    have hl : (colK m j.toNat k).length ≤ k := by unfold colK; simp; omega
    refine ⟨by omega, ⟨h0, h3⟩, by omega, fits64 (by omega) (by omega), k + 1, by omega, by omega, by simp, ?_⟩
    exact (colK_succ (by omega)).symm
  · obtain rfl : k = m.length := by omega
    unfold colK colA
    rw [List.take_length]

/-- The pairs of columns, one after another. -/
def rowP (i n : Nat) : List (Nat × Nat) := (List.range n).map fun d => (i, i + 1 + d)
def prs (p : Nat) : Nat → List (Nat × Nat)
  | 0 => []
  | i + 1 => prs p i ++ rowP i (p - (i + 1))
def prsL (m : List (List Int)) : List (Nat × Nat) := prs (nthD (.list (.int .i64)) m 0 : List Int).length (nthD (.list (.int .i64)) m 0 : List Int).length
abbrev tPairs : List Ty := [.prod tInt tInt, .prod tInts tInts]
def prA (m : List (List Int)) (q : Nat × Nat) : argsTy tPairs := (((q.1 : Int), (q.2 : Int)), (colA m q.1, colA m q.2), ())
def prsA (m : List (List Int)) : List (argsTy tPairs) := (prsL m).map (prA m)
def square (m : List (List Int)) : Prop := 0 < m.length ∧ m.length ≤ 1000 ∧ (nthD (.list (.int .i64)) m 0 : List Int).length ≤ 1000 ∧ ∀ k, k < m.length → (nthD (.list (.int .i64)) m k : List Int).length = (nthD (.list (.int .i64)) m 0 : List Int).length
def sPairs1 : ISpec := ispec [tMask] tPairs (fun x => square x.1) (fun x => prsA x.1)
def ivPairs (m : List (List Int)) : Nat → Option Inv
  | 0 => some (Inv.of [9] 1 (fun i : Nat => [(9, .lit (.int .i64 i))]) (fun i => [.cnt (some (prs (nthD (.list (.int .i64)) m 0 : List Int).length i).length)]) (fun i => i ≤ (nthD (.list (.int .i64)) m 0 : List Int).length) (fun i => (nthD (.list (.int .i64)) m 0 : List Int).length - i))
  | 1 => some ⟨Nat, Nat, [4], 1, fun i d => [(4, .lit (.int .i64 (i + 1 + d)))], fun i d => [.cnt (some ((prs (nthD (.list (.int .i64)) m 0 : List Int).length i).length + d))], fun i d => d ≤ (nthD (.list (.int .i64)) m 0 : List Int).length - (i + 1), fun i d => (nthD (.list (.int .i64)) m 0 : List Int).length - d⟩
  | _ => none
theorem prs_len (p : Nat) : ∀ {i j : Nat}, i ≤ j → (prs p i).length ≤ (prs p j).length
  | i, 0, h => by rw [show i = 0 by omega]; exact Nat.le_refl _
  | i, j + 1, h => by
    by_cases e : i = j + 1
    · subst e; exact Nat.le_refl _
    · have := prs_len p (i := i) (j := j) (by omega)
      simp only [prs, List.length_append]; omega
theorem prs_pre (p : Nat) : ∀ {i j : Nat} (k : Nat), i ≤ j → k < (prs p i).length → (prs p j)[k]? = (prs p i)[k]?
  | i, 0, k, h, _ => by rw [show i = 0 by omega]
  | i, j + 1, k, h, hk => by
    by_cases e : i = j + 1
    · subst e; rfl
    · have h1 := prs_len p (i := i) (j := j) (by omega)
      rw [prs, List.getElem?_append_left (by omega)]
      exact prs_pre p k (by omega) hk
theorem prs_at {p i d : Nat} (hi : i < p) (hd : d < p - (i + 1)) : (prs p p)[(prs p i).length + d]? = some (i, i + 1 + d) := by
  rw [prs_pre p (i := i + 1) (j := p) _ (by omega) (by simp [prs, rowP]; omega), prs, List.getElem?_append_right (by omega)]
  simp [rowP, hd]
theorem pairs1_says : IMeets Try.prog 112 sPairs1 := by
  refine says (snd (SpecsOk.cons column_meets (SpecsOk.nil _)) []) Try.func112 rfl rfl rfl [22] (fun x => ivPairs x.1) (fun _ => by kernel_rfl) (by decide) ?_
  rintro ⟨m, ⟨⟩⟩ l h
  revert m
  intro (m : List (List Int)) (h : square m)
  refine by_vc (B := ((0 : Int) ≤ (0 : Int) ∧ (0 : Int) < (↑(List.length m) : Int)) ∧
  ∃ (v0 : Unit),
    ∃ (v1 : Nat),
      Nat.le v1 (List.length (Eng.nthD (Eng.Ty.list (Eng.Ty.int Go.IntKind.i64)) m (0 : Nat))) ∧
        (((0 : Int) = (↑v1 : Int) ∧ True) ∧ Option.some (0 : Nat) = Option.some (List.length (prs (List.length (Eng.nthD (Eng.Ty.list (Eng.Ty.int Go.IntKind.i64)) m (0 : Nat))) v1)) ∧ True) ∧
          ∀ (v2 : Nat),
            Nat.le v2 (List.length (Eng.nthD (Eng.Ty.list (Eng.Ty.int Go.IntKind.i64)) m (0 : Nat))) →
              (Decidable.decide ((↑v2 : Int) < (↑(List.length (Eng.nthD (Eng.Ty.list (Eng.Ty.int Go.IntKind.i64)) m (0 : Nat))) : Int)) = Bool.true →
                  Eng.fits Go.IntKind.i64 ((↑v2 : Int) + (1 : Int)) ∧
                    ∃ (v5 : Nat),
                      ∃ (v6 : Nat),
                        Nat.le v6 (List.length (Eng.nthD (Eng.Ty.list (Eng.Ty.int Go.IntKind.i64)) m (0 : Nat)) - (v5 + (1 : Nat))) ∧
                          (((↑v2 : Int) + (1 : Int) = (↑v5 : Int) + (1 : Int) + (↑v6 : Int) ∧ True) ∧ Option.some (List.length (prs (List.length (Eng.nthD (Eng.Ty.list (Eng.Ty.int Go.IntKind.i64)) m (0 : Nat))) v2)) = Option.some (List.length (prs (List.length (Eng.nthD (Eng.Ty.list (Eng.Ty.int Go.IntKind.i64)) m (0 : Nat))) v5) + v6) ∧ True) ∧
                            ∀ (v7 : Nat),
                              Nat.le v7 (List.length (Eng.nthD (Eng.Ty.list (Eng.Ty.int Go.IntKind.i64)) m (0 : Nat)) - (v5 + (1 : Nat))) →
                                ((0 : Int) ≤ (0 : Int) ∧ (0 : Int) < (↑(List.length m) : Int)) ∧
                                  (Decidable.decide ((↑v5 : Int) + (1 : Int) + (↑v7 : Int) < (↑(List.length (Eng.nthD (Eng.Ty.list (Eng.Ty.int Go.IntKind.i64)) m (0 : Nat))) : Int)) = Bool.true →
                                      rowsGt m (↑v2 : Int) ∧
                                        rowsGt m ((↑v5 : Int) + (1 : Int) + (↑v7 : Int)) ∧
                                          Go.Value.func (Go.Fn.yield l) #[] #[] = Go.Value.func (Go.Fn.yield (Eng.YSpec.l (Eng.yspec [tMask] tPairs [(22 : Nat)] (m, PUnit.unit) (prsA m) l))) #[] #[] ∧
                                            (Eng.YSpec.L (Eng.yspec [tMask] tPairs [(22 : Nat)] (m, PUnit.unit) (prsA m) l))[List.length (prs (List.length (Eng.nthD (Eng.Ty.list (Eng.Ty.int Go.IntKind.i64)) m (0 : Nat))) v5) + v7]? =
                                                Option.some (((↑v2 : Int), (↑v5 : Int) + (1 : Int) + (↑v7 : Int)), (colA m (Int.toNat (↑v2 : Int)), colA m (Int.toNat ((↑v5 : Int) + (1 : Int) + (↑v7 : Int)))), ()) ∧
                                              (Eng.fits Go.IntKind.i64 ((↑v5 : Int) + (1 : Int) + (↑v7 : Int) + (1 : Int)) ∧
                                                  ∃ (v10 : Nat),
                                                    Nat.le v10 (List.length (Eng.nthD (Eng.Ty.list (Eng.Ty.int Go.IntKind.i64)) m (0 : Nat)) - (v5 + (1 : Nat))) ∧
                                                      List.length (Eng.nthD (Eng.Ty.list (Eng.Ty.int Go.IntKind.i64)) m (0 : Nat)) - v10 < List.length (Eng.nthD (Eng.Ty.list (Eng.Ty.int Go.IntKind.i64)) m (0 : Nat)) - v7 ∧
                                                        ((↑v5 : Int) + (1 : Int) + (↑v7 : Int) + (1 : Int) = (↑v5 : Int) + (1 : Int) + (↑v10 : Int) ∧ True) ∧
                                                          Option.some (List.length (prs (List.length (Eng.nthD (Eng.Ty.list (Eng.Ty.int Go.IntKind.i64)) m (0 : Nat))) v5) + v7 + (1 : Nat)) = Option.some (List.length (prs (List.length (Eng.nthD (Eng.Ty.list (Eng.Ty.int Go.IntKind.i64)) m (0 : Nat))) v5) + v10) ∧ True) ∧
                                                True) ∧
                                    (Decidable.decide ((↑v5 : Int) + (1 : Int) + (↑v7 : Int) < (↑(List.length (Eng.nthD (Eng.Ty.list (Eng.Ty.int Go.IntKind.i64)) m (0 : Nat))) : Int)) = Bool.false →
                                      Eng.fits Go.IntKind.i64 ((↑v2 : Int) + (1 : Int)) ∧
                                        ∃ (v10 : Nat),
                                          Nat.le v10 (List.length (Eng.nthD (Eng.Ty.list (Eng.Ty.int Go.IntKind.i64)) m (0 : Nat))) ∧
                                            List.length (Eng.nthD (Eng.Ty.list (Eng.Ty.int Go.IntKind.i64)) m (0 : Nat)) - v10 < List.length (Eng.nthD (Eng.Ty.list (Eng.Ty.int Go.IntKind.i64)) m (0 : Nat)) - v2 ∧
                                              ((↑v2 : Int) + (1 : Int) = (↑v10 : Int) ∧ True) ∧ Option.some (List.length (prs (List.length (Eng.nthD (Eng.Ty.list (Eng.Ty.int Go.IntKind.i64)) m (0 : Nat))) v5) + v7) = Option.some (List.length (prs (List.length (Eng.nthD (Eng.Ty.list (Eng.Ty.int Go.IntKind.i64)) m (0 : Nat))) v10)) ∧ True)) ∧
                (Decidable.decide ((↑v2 : Int) < (↑(List.length (Eng.nthD (Eng.Ty.list (Eng.Ty.int Go.IntKind.i64)) m (0 : Nat))) : Int)) = Bool.false →
                  List.length (prs (List.length (Eng.nthD (Eng.Ty.list (Eng.Ty.int Go.IntKind.i64)) m (0 : Nat))) v2) = List.length (Eng.YSpec.L (Eng.yspec [tMask] tPairs [(22 : Nat)] (m, PUnit.unit) (prsA m) l)))) (by kernel_rfl) ?_
  obtain ⟨h1, h2, h3, h4⟩ := h
  have hrows : ∀ j : Nat, j < (nthD (.list (.int .i64)) m 0 : List Int).length → rowsGt m j := fun j hj => ⟨by omega, h2, fun k hk => by rw [h4 k hk]; omega⟩
  show (0 ≤ (0 : Int) ∧ _) ∧ _
  simp only [ne_eq, true_and, and_true, eq_self, Bool.not_eq_true', Bool.not_eq_false', decide_eq_true_eq, decide_eq_false_iff_not, Nat.le_eq, Int.not_lt, Int.not_le, Int.reduceEq, not_false_eq_true, Bool.not_eq_eq_eq_not, Bool.not_true, Bool.not_false, Int.ofNat_lt, Int.ofNat_le, Int.toNat_natCast, Int.natCast_nonneg, nthD_nth, beq_iff_eq, bne_iff_ne, beq_eq_false_iff_ne, bne_eq_false_iff_eq, Classical.not_not, List.length_cons, List.length_nil, Nat.zero_add, List.nil_append, true_implies, Nat.lt_add_one, Nat.zero_lt_succ, Int.reduceLE, Int.reduceLT]
  refine ⟨by omega, (), 0, Nat.zero_le _, ⟨rfl, rfl⟩, fun i hi => ⟨fun hlt => ⟨fits64 (by omega) (by omega), i, 0, Nat.zero_le _, ⟨by omega, rfl⟩, fun d hd => ⟨by omega, fun hj => ?_, fun hj => ?_⟩⟩, fun hge => ?_⟩⟩
  · have hj2 : i + 1 + d < (nthD (.list (.int .i64)) m 0 : List Int).length := by omega
    refine ⟨hrows i (by omega), by have := hrows (i + 1 + d) hj2; rw [show ((i + 1 + d : Nat) : Int) = (i : Int) + 1 + d by omega] at this; exact this, rfl, ?_, fits64 (by omega) (by omega), d + 1, by omega, by omega, by omega, by rw [Nat.add_assoc]⟩
    have e : ((i : Int) + 1 + (d : Int)).toNat = i + 1 + d := by omega
    have e2 : ((i + 1 + d : Nat) : Int) = (i : Int) + 1 + d := by omega
    have e3 : (prsA m)[(prs (nthD (.list (.int .i64)) m 0 : List Int).length i).length + d]? = some (prA m (i, i + 1 + d)) := by
      unfold prsA prsL
      rw [List.getElem?_map, prs_at (by omega) (by omega)]
      rfl
    rw [e, ← e2]
    exact e3
  · refine ⟨fits64 (by omega) (by omega), i + 1, by omega, by omega, by omega, ?_⟩
    have : d = (nthD (.list (.int .i64)) m 0 : List Int).length - (i + 1) := by omega
    subst this
    simp [prs, rowP]
  · obtain rfl : i = (nthD (.list (.int .i64)) m 0 : List Int).length := by omega
    show _ = (prsA m).length
    unfold prsA prsL
    rw [List.length_map]
end Go.Proofs.Ytkkmlcengneomaa
