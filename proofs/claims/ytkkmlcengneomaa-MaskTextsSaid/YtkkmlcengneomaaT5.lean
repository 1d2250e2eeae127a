/- The reference's alike columns: contracts by the engine. No condition. -/
import Derived.Test.YtkkmlcengneomaaT4

set_option linter.unusedVariables false
set_option linter.unusedSimpArgs false
namespace Go.Proofs.Ytkkmlcengneomaa
open Go Go.RowKit Eng Ls

def alkF (m : List (List Int)) (l : List (Nat × Nat)) : List (Int × Int) := (l.filter (alk m)).map fun q => ((q.1 : Int), (q.2 : Int))
def eqTo (m : List (List Int)) (i j k : Nat) : Bool := (m.take k).all fun r => nth r i == nth r j
def opTo (m : List (List Int)) (i j k : Nat) : Bool := (m.take k).all fun r => nth r i == 0 - nth r j
def ivRAlk (m : List (List Int)) : Nat → Option Inv
  | 0 => some (Inv.of [4, 18] 1 (fun i : Nat => [(4, .own 0), (18, .lit (.int .i64 i))]) (fun i => [.vec 55 (.prod tInt tInt) (alkF m (prs (nthL m 0).length i))]) (fun i => i ≤ (nthL m 0).length) (fun i => (nthL m 0).length - i))
  | 1 => some ⟨Nat, Nat, [4, 6], 1, fun i d => [(4, .own 0), (6, .lit (.int .i64 (i + 1 + d)))], fun i d => [.vec 55 (.prod tInt tInt) (alkF m (prs (nthL m 0).length i ++ rowP i d))], fun i d => d ≤ (nthL m 0).length - (i + 1), fun i d => (nthL m 0).length - d⟩
  | 2 => some ⟨Nat × Nat, Nat, [4, 7, 8, 33], 1, fun q k => [(4, .own 0), (7, .lit (.bool (eqTo m q.1 (q.1 + 1 + q.2) k))), (8, .lit (.bool (opTo m q.1 (q.1 + 1 + q.2) k))), (33, .lit (.int .i64 k))], fun q k => [.vec 55 (.prod tInt tInt) (alkF m (prs (nthL m 0).length q.1 ++ rowP q.1 q.2))], fun q k => k ≤ m.length, fun q k => m.length - k⟩
  | _ => none
theorem eqTo_succ {m : List (List Int)} {i j k : Nat} (hk : k < m.length) : eqTo m i j (k + 1) = (eqTo m i j k && (nth (nthL m k) i == nth (nthL m k) j)) := by
  unfold eqTo
  rw [List.take_add_one, List.getElem?_eq_getElem hk, Option.toList_some, List.all_append, nthL_eq m k hk]
  simp only [List.all_cons, List.all_nil, Bool.and_true]
theorem opTo_succ {m : List (List Int)} {i j k : Nat} (hk : k < m.length) : opTo m i j (k + 1) = (opTo m i j k && (nth (nthL m k) i == 0 - nth (nthL m k) j)) := by
  unfold opTo
  rw [List.take_add_one, List.getElem?_eq_getElem hk, Option.toList_some, List.all_append, nthL_eq m k hk]
  simp only [List.all_cons, List.all_nil, Bool.and_true]
theorem alk_to (m : List (List Int)) (i j : Nat) : alk m (i, j) = (eqTo m i j m.length || opTo m i j m.length) := by
  have h1 : decide (colA m i = colA m j) = eqTo m i j m.length := by
    unfold eqTo colA
    rw [List.take_length]
    induction m with
    | nil => simp
    | cons r m ih => simp only [List.map_cons, List.cons.injEq, List.all_cons, Bool.decide_and, ih]; rfl
  have h2 : decide (colA m i = oppL (colA m j)) = opTo m i j m.length := by
    clear h1
    unfold opTo colA oppL
    rw [List.take_length]
    induction m with
    | nil => simp
    | cons r m ih =>
      simp only [List.map_cons, List.cons.injEq, List.all_cons, Bool.decide_and, ih, Int.zero_sub]
      rfl
  unfold alk
  rw [h1, h2]
theorem alkF_snoc (m : List (List Int)) (l : List (Nat × Nat)) (q : Nat × Nat) : alkF m (l ++ [q]) = if alk m q then alkF m l ++ [((q.1 : Int), (q.2 : Int))] else alkF m l := by
  unfold alkF
  rw [List.filter_append, List.map_append]
  split
  · rename_i h; simp [h]
  · rename_i h; simp [h]
theorem rowP_succ (i d : Nat) : rowP i (d + 1) = rowP i d ++ [(i, i + 1 + d)] := by simp [rowP, List.range_succ]
theorem alkF_le {m : List (List Int)} (h : IsMask m) {i d : Nat} (hi : i < (nthL m 0).length) (hd : d ≤ (nthL m 0).length) : (alkF m (prs (nthL m 0).length i ++ rowP i d)).length ≤ 200 := by
  have h1 := prs_le (nthL m 0).length i
  have h2 := h.pix10
  have h3 : i * (nthL m 0).length ≤ 10 * 10 := Nat.mul_le_mul (by omega) h2
  unfold alkF
  rw [List.length_map]
  refine Nat.le_trans (List.length_filter_le _ _) ?_
  simp only [List.length_append, rowP, List.length_map, List.length_range]
  omega
theorem rAlike_meets : Meets Try.prog 44 sAlk := by
  refine meets (snd (SpecsOk.cons rmvalid_meets (SpecsOk.nil _)) []) Try.func44 rfl rfl (fun x => ivRAlk x.1) (fun _ => by kernel_rfl) (by decide) ?_
  rintro ⟨m, ⟨⟩⟩ -
  revert m
  intro (m : List (List Int))
  refine by_vc (B := True ∧
  ((!validB m) = Bool.true → alkR m = [] ∧ (1 : Int) = alkE m ∧ True) ∧
    ((!validB m) = Bool.false →
      ((0 : Int) ≤ (0 : Int) ∧ (0 : Int) < (↑(List.length m) : Int)) ∧
        ∃ (v1 : Unit),
          ∃ (v2 : Nat),
            Nat.le v2 (List.length (Ls.nthL m (0 : Nat))) ∧
              ((True ∧ (0 : Int) = (↑v2 : Int) ∧ True) ∧ alkF m (prs (List.length (Ls.nthL m (0 : Nat))) v2) = [] ∧ True) ∧
                ∀ (v3 : Nat),
                  Nat.le v3 (List.length (Ls.nthL m (0 : Nat))) →
                    (Decidable.decide ((↑v3 : Int) < (↑(List.length (Eng.nthD (Eng.Ty.list (Eng.Ty.int Go.IntKind.i64)) m (0 : Nat))) : Int)) = Bool.true →
                        Eng.fits Go.IntKind.i64 ((↑v3 : Int) + (1 : Int)) ∧
                          ∃ (v6 : Nat),
                            ∃ (v7 : Nat),
                              Nat.le v7 (List.length (Ls.nthL m (0 : Nat)) - (v6 + (1 : Nat))) ∧
                                ((True ∧ (↑v3 : Int) + (1 : Int) = (↑v6 : Int) + (1 : Int) + (↑v7 : Int) ∧ True) ∧ alkF m (prs (List.length (Ls.nthL m (0 : Nat))) v3) = alkF m (prs (List.length (Ls.nthL m (0 : Nat))) v6 ++ rowP v6 v7) ∧ True) ∧
                                  ∀ (v8 : Nat),
                                    Nat.le v8 (List.length (Ls.nthL m (0 : Nat)) - (v6 + (1 : Nat))) →
                                      ((0 : Int) ≤ (0 : Int) ∧ (0 : Int) < (↑(List.length m) : Int)) ∧
                                        (Decidable.decide ((↑v6 : Int) + (1 : Int) + (↑v8 : Int) < (↑(List.length (Eng.nthD (Eng.Ty.list (Eng.Ty.int Go.IntKind.i64)) m (0 : Nat))) : Int)) = Bool.true →
                                            ∃ (v11 : Nat × Nat),
                                              ∃ (v12 : Nat),
                                                Nat.le v12 (List.length m) ∧
                                                  ((True ∧ Bool.true = eqTo m (Prod.fst v11) (Prod.fst v11 + (1 : Nat) + Prod.snd v11) v12 ∧ Bool.true = opTo m (Prod.fst v11) (Prod.fst v11 + (1 : Nat) + Prod.snd v11) v12 ∧ (0 : Int) = (↑v12 : Int) ∧ True) ∧
                                                      alkF m (prs (List.length (Ls.nthL m (0 : Nat))) v6 ++ rowP v6 v8) = alkF m (prs (List.length (Ls.nthL m (0 : Nat))) (Prod.fst v11) ++ rowP (Prod.fst v11) (Prod.snd v11)) ∧ True) ∧
                                                    ∀ (v13 : Nat),
                                                      Nat.le v13 (List.length m) →
                                                        (Decidable.decide ((↑v13 : Int) < (↑(List.length m) : Int)) = Bool.true →
                                                            ((0 : Int) ≤ (↑v13 : Int) ∧ (↑v13 : Int) < (↑(List.length m) : Int)) ∧
                                                              (eqTo m (Prod.fst v11) (Prod.fst v11 + (1 : Nat) + Prod.snd v11) v13 = Bool.true →
                                                                  ((0 : Int) ≤ (↑v3 : Int) ∧ (↑v3 : Int) < (↑(List.length (Eng.nthD (Eng.Ty.list (Eng.Ty.int Go.IntKind.i64)) m (Int.toNat (↑v13 : Int)))) : Int)) ∧
                                                                    ((0 : Int) ≤ (↑v6 : Int) + (1 : Int) + (↑v8 : Int) ∧ (↑v6 : Int) + (1 : Int) + (↑v8 : Int) < (↑(List.length (Eng.nthD (Eng.Ty.list (Eng.Ty.int Go.IntKind.i64)) m (Int.toNat (↑v13 : Int)))) : Int)) ∧
                                                                      (opTo m (Prod.fst v11) (Prod.fst v11 + (1 : Nat) + Prod.snd v11) v13 = Bool.true →
                                                                          ((0 : Int) ≤ (↑v3 : Int) ∧ (↑v3 : Int) < (↑(List.length (Eng.nthD (Eng.Ty.list (Eng.Ty.int Go.IntKind.i64)) m (Int.toNat (↑v13 : Int)))) : Int)) ∧
                                                                            ((0 : Int) ≤ (↑v6 : Int) + (1 : Int) + (↑v8 : Int) ∧ (↑v6 : Int) + (1 : Int) + (↑v8 : Int) < (↑(List.length (Eng.nthD (Eng.Ty.list (Eng.Ty.int Go.IntKind.i64)) m (Int.toNat (↑v13 : Int)))) : Int)) ∧
                                                                              Eng.fits Go.IntKind.i64 ((0 : Int) - Eng.nthD (Eng.Ty.int Go.IntKind.i64) (Eng.nthD (Eng.Ty.list (Eng.Ty.int Go.IntKind.i64)) m (Int.toNat (↑v13 : Int))) (Int.toNat ((↑v6 : Int) + (1 : Int) + (↑v8 : Int)))) ∧
                                                                                Eng.fits Go.IntKind.i64 ((↑v13 : Int) + (1 : Int)) ∧
                                                                                  ∃ (v18 : Nat),
                                                                                    Nat.le v18 (List.length m) ∧
                                                                                      List.length m - v18 < List.length m - v13 ∧
                                                                                        (True ∧
                                                                                            (Eng.nthD (Eng.Ty.int Go.IntKind.i64) (Eng.nthD (Eng.Ty.list (Eng.Ty.int Go.IntKind.i64)) m (Int.toNat (↑v13 : Int))) (Int.toNat (↑v3 : Int)) ==
                                                                                                  Eng.nthD (Eng.Ty.int Go.IntKind.i64) (Eng.nthD (Eng.Ty.list (Eng.Ty.int Go.IntKind.i64)) m (Int.toNat (↑v13 : Int))) (Int.toNat ((↑v6 : Int) + (1 : Int) + (↑v8 : Int)))) =
                                                                                                eqTo m (Prod.fst v11) (Prod.fst v11 + (1 : Nat) + Prod.snd v11) v18 ∧
                                                                                              (Eng.nthD (Eng.Ty.int Go.IntKind.i64) (Eng.nthD (Eng.Ty.list (Eng.Ty.int Go.IntKind.i64)) m (Int.toNat (↑v13 : Int))) (Int.toNat (↑v3 : Int)) ==
                                                                                                    (0 : Int) - Eng.nthD (Eng.Ty.int Go.IntKind.i64) (Eng.nthD (Eng.Ty.list (Eng.Ty.int Go.IntKind.i64)) m (Int.toNat (↑v13 : Int))) (Int.toNat ((↑v6 : Int) + (1 : Int) + (↑v8 : Int)))) =
                                                                                                  opTo m (Prod.fst v11) (Prod.fst v11 + (1 : Nat) + Prod.snd v11) v18 ∧
                                                                                                (↑v13 : Int) + (1 : Int) = (↑v18 : Int) ∧ True) ∧
                                                                                          alkF m (prs (List.length (Ls.nthL m (0 : Nat))) (Prod.fst v11) ++ rowP (Prod.fst v11) (Prod.snd v11)) =
                                                                                              alkF m (prs (List.length (Ls.nthL m (0 : Nat))) (Prod.fst v11) ++ rowP (Prod.fst v11) (Prod.snd v11)) ∧
                                                                                            True) ∧
                                                                        (opTo m (Prod.fst v11) (Prod.fst v11 + (1 : Nat) + Prod.snd v11) v13 = Bool.false →
                                                                          Eng.fits Go.IntKind.i64 ((↑v13 : Int) + (1 : Int)) ∧
                                                                            ∃ (v18 : Nat),
                                                                              Nat.le v18 (List.length m) ∧
                                                                                List.length m - v18 < List.length m - v13 ∧
                                                                                  (True ∧
                                                                                      (Eng.nthD (Eng.Ty.int Go.IntKind.i64) (Eng.nthD (Eng.Ty.list (Eng.Ty.int Go.IntKind.i64)) m (Int.toNat (↑v13 : Int))) (Int.toNat (↑v3 : Int)) ==
                                                                                            Eng.nthD (Eng.Ty.int Go.IntKind.i64) (Eng.nthD (Eng.Ty.list (Eng.Ty.int Go.IntKind.i64)) m (Int.toNat (↑v13 : Int))) (Int.toNat ((↑v6 : Int) + (1 : Int) + (↑v8 : Int)))) =
                                                                                          eqTo m (Prod.fst v11) (Prod.fst v11 + (1 : Nat) + Prod.snd v11) v18 ∧
                                                                                        Bool.false = opTo m (Prod.fst v11) (Prod.fst v11 + (1 : Nat) + Prod.snd v11) v18 ∧ (↑v13 : Int) + (1 : Int) = (↑v18 : Int) ∧ True) ∧
                                                                                    alkF m (prs (List.length (Ls.nthL m (0 : Nat))) (Prod.fst v11) ++ rowP (Prod.fst v11) (Prod.snd v11)) =
                                                                                        alkF m (prs (List.length (Ls.nthL m (0 : Nat))) (Prod.fst v11) ++ rowP (Prod.fst v11) (Prod.snd v11)) ∧
                                                                                      True)) ∧
                                                                (eqTo m (Prod.fst v11) (Prod.fst v11 + (1 : Nat) + Prod.snd v11) v13 = Bool.false →
                                                                  (opTo m (Prod.fst v11) (Prod.fst v11 + (1 : Nat) + Prod.snd v11) v13 = Bool.true →
                                                                      ((0 : Int) ≤ (↑v3 : Int) ∧ (↑v3 : Int) < (↑(List.length (Eng.nthD (Eng.Ty.list (Eng.Ty.int Go.IntKind.i64)) m (Int.toNat (↑v13 : Int)))) : Int)) ∧
                                                                        ((0 : Int) ≤ (↑v6 : Int) + (1 : Int) + (↑v8 : Int) ∧ (↑v6 : Int) + (1 : Int) + (↑v8 : Int) < (↑(List.length (Eng.nthD (Eng.Ty.list (Eng.Ty.int Go.IntKind.i64)) m (Int.toNat (↑v13 : Int)))) : Int)) ∧
                                                                          Eng.fits Go.IntKind.i64 ((0 : Int) - Eng.nthD (Eng.Ty.int Go.IntKind.i64) (Eng.nthD (Eng.Ty.list (Eng.Ty.int Go.IntKind.i64)) m (Int.toNat (↑v13 : Int))) (Int.toNat ((↑v6 : Int) + (1 : Int) + (↑v8 : Int)))) ∧
                                                                            Eng.fits Go.IntKind.i64 ((↑v13 : Int) + (1 : Int)) ∧
                                                                              ∃ (v18 : Nat),
                                                                                Nat.le v18 (List.length m) ∧
                                                                                  List.length m - v18 < List.length m - v13 ∧
                                                                                    (True ∧
                                                                                        Bool.false = eqTo m (Prod.fst v11) (Prod.fst v11 + (1 : Nat) + Prod.snd v11) v18 ∧
                                                                                          (Eng.nthD (Eng.Ty.int Go.IntKind.i64) (Eng.nthD (Eng.Ty.list (Eng.Ty.int Go.IntKind.i64)) m (Int.toNat (↑v13 : Int))) (Int.toNat (↑v3 : Int)) ==
                                                                                                (0 : Int) - Eng.nthD (Eng.Ty.int Go.IntKind.i64) (Eng.nthD (Eng.Ty.list (Eng.Ty.int Go.IntKind.i64)) m (Int.toNat (↑v13 : Int))) (Int.toNat ((↑v6 : Int) + (1 : Int) + (↑v8 : Int)))) =
                                                                                              opTo m (Prod.fst v11) (Prod.fst v11 + (1 : Nat) + Prod.snd v11) v18 ∧
                                                                                            (↑v13 : Int) + (1 : Int) = (↑v18 : Int) ∧ True) ∧
                                                                                      alkF m (prs (List.length (Ls.nthL m (0 : Nat))) (Prod.fst v11) ++ rowP (Prod.fst v11) (Prod.snd v11)) =
                                                                                          alkF m (prs (List.length (Ls.nthL m (0 : Nat))) (Prod.fst v11) ++ rowP (Prod.fst v11) (Prod.snd v11)) ∧
                                                                                        True) ∧
                                                                    (opTo m (Prod.fst v11) (Prod.fst v11 + (1 : Nat) + Prod.snd v11) v13 = Bool.false →
                                                                      Eng.fits Go.IntKind.i64 ((↑v13 : Int) + (1 : Int)) ∧
                                                                        ∃ (v18 : Nat),
                                                                          Nat.le v18 (List.length m) ∧
                                                                            List.length m - v18 < List.length m - v13 ∧
                                                                              (True ∧ Bool.false = eqTo m (Prod.fst v11) (Prod.fst v11 + (1 : Nat) + Prod.snd v11) v18 ∧ Bool.false = opTo m (Prod.fst v11) (Prod.fst v11 + (1 : Nat) + Prod.snd v11) v18 ∧ (↑v13 : Int) + (1 : Int) = (↑v18 : Int) ∧ True) ∧
                                                                                alkF m (prs (List.length (Ls.nthL m (0 : Nat))) (Prod.fst v11) ++ rowP (Prod.fst v11) (Prod.snd v11)) =
                                                                                    alkF m (prs (List.length (Ls.nthL m (0 : Nat))) (Prod.fst v11) ++ rowP (Prod.fst v11) (Prod.snd v11)) ∧
                                                                                  True))) ∧
                                                          (Decidable.decide ((↑v13 : Int) < (↑(List.length m) : Int)) = Bool.false →
                                                            (eqTo m (Prod.fst v11) (Prod.fst v11 + (1 : Nat) + Prod.snd v11) v13 = Bool.true →
                                                                ((0 : Nat) < List.length [((↑v3 : Int), (↑v6 : Int) + (1 : Int) + (↑v8 : Int))] ∧
                                                                    List.length (alkF m (prs (List.length (Ls.nthL m (0 : Nat))) (Prod.fst v11) ++ rowP (Prod.fst v11) (Prod.snd v11))) + List.length [((↑v3 : Int), (↑v6 : Int) + (1 : Int) + (↑v8 : Int))] ≤ (1000000 : Nat)) ∧
                                                                  Eng.fits Go.IntKind.i64 ((↑v6 : Int) + (1 : Int) + (↑v8 : Int) + (1 : Int)) ∧
                                                                    ∃ (v17 : Nat),
                                                                      Nat.le v17 (List.length (Ls.nthL m (0 : Nat)) - (v6 + (1 : Nat))) ∧
                                                                        List.length (Ls.nthL m (0 : Nat)) - v17 < List.length (Ls.nthL m (0 : Nat)) - v8 ∧
                                                                          (True ∧ (↑v6 : Int) + (1 : Int) + (↑v8 : Int) + (1 : Int) = (↑v6 : Int) + (1 : Int) + (↑v17 : Int) ∧ True) ∧
                                                                            alkF m (prs (List.length (Ls.nthL m (0 : Nat))) (Prod.fst v11) ++ rowP (Prod.fst v11) (Prod.snd v11)) ++ [((↑v3 : Int), (↑v6 : Int) + (1 : Int) + (↑v8 : Int))] =
                                                                                alkF m (prs (List.length (Ls.nthL m (0 : Nat))) v6 ++ rowP v6 v17) ∧
                                                                              True) ∧
                                                              (eqTo m (Prod.fst v11) (Prod.fst v11 + (1 : Nat) + Prod.snd v11) v13 = Bool.false →
                                                                (opTo m (Prod.fst v11) (Prod.fst v11 + (1 : Nat) + Prod.snd v11) v13 = Bool.true →
                                                                    ((0 : Nat) < List.length [((↑v3 : Int), (↑v6 : Int) + (1 : Int) + (↑v8 : Int))] ∧
                                                                        List.length (alkF m (prs (List.length (Ls.nthL m (0 : Nat))) (Prod.fst v11) ++ rowP (Prod.fst v11) (Prod.snd v11))) + List.length [((↑v3 : Int), (↑v6 : Int) + (1 : Int) + (↑v8 : Int))] ≤ (1000000 : Nat)) ∧
                                                                      Eng.fits Go.IntKind.i64 ((↑v6 : Int) + (1 : Int) + (↑v8 : Int) + (1 : Int)) ∧
                                                                        ∃ (v18 : Nat),
                                                                          Nat.le v18 (List.length (Ls.nthL m (0 : Nat)) - (v6 + (1 : Nat))) ∧
                                                                            List.length (Ls.nthL m (0 : Nat)) - v18 < List.length (Ls.nthL m (0 : Nat)) - v8 ∧
                                                                              (True ∧ (↑v6 : Int) + (1 : Int) + (↑v8 : Int) + (1 : Int) = (↑v6 : Int) + (1 : Int) + (↑v18 : Int) ∧ True) ∧
                                                                                alkF m (prs (List.length (Ls.nthL m (0 : Nat))) (Prod.fst v11) ++ rowP (Prod.fst v11) (Prod.snd v11)) ++ [((↑v3 : Int), (↑v6 : Int) + (1 : Int) + (↑v8 : Int))] =
                                                                                    alkF m (prs (List.length (Ls.nthL m (0 : Nat))) v6 ++ rowP v6 v18) ∧
                                                                                  True) ∧
                                                                  (opTo m (Prod.fst v11) (Prod.fst v11 + (1 : Nat) + Prod.snd v11) v13 = Bool.false →
                                                                    Eng.fits Go.IntKind.i64 ((↑v6 : Int) + (1 : Int) + (↑v8 : Int) + (1 : Int)) ∧
                                                                      ∃ (v18 : Nat),
                                                                        Nat.le v18 (List.length (Ls.nthL m (0 : Nat)) - (v6 + (1 : Nat))) ∧
                                                                          List.length (Ls.nthL m (0 : Nat)) - v18 < List.length (Ls.nthL m (0 : Nat)) - v8 ∧
                                                                            (True ∧ (↑v6 : Int) + (1 : Int) + (↑v8 : Int) + (1 : Int) = (↑v6 : Int) + (1 : Int) + (↑v18 : Int) ∧ True) ∧
                                                                              alkF m (prs (List.length (Ls.nthL m (0 : Nat))) (Prod.fst v11) ++ rowP (Prod.fst v11) (Prod.snd v11)) =
                                                                                  alkF m (prs (List.length (Ls.nthL m (0 : Nat))) v6 ++ rowP v6 v18) ∧
                                                                                True)))) ∧
                                          (Decidable.decide ((↑v6 : Int) + (1 : Int) + (↑v8 : Int) < (↑(List.length (Eng.nthD (Eng.Ty.list (Eng.Ty.int Go.IntKind.i64)) m (0 : Nat))) : Int)) = Bool.false →
                                            Eng.fits Go.IntKind.i64 ((↑v3 : Int) + (1 : Int)) ∧
                                              ∃ (v11 : Nat),
                                                Nat.le v11 (List.length (Ls.nthL m (0 : Nat))) ∧
                                                  List.length (Ls.nthL m (0 : Nat)) - v11 < List.length (Ls.nthL m (0 : Nat)) - v3 ∧
                                                    (True ∧ (↑v3 : Int) + (1 : Int) = (↑v11 : Int) ∧ True) ∧ alkF m (prs (List.length (Ls.nthL m (0 : Nat))) v6 ++ rowP v6 v8) = alkF m (prs (List.length (Ls.nthL m (0 : Nat))) v11) ∧ True)) ∧
                      (Decidable.decide ((↑v3 : Int) < (↑(List.length (Eng.nthD (Eng.Ty.list (Eng.Ty.int Go.IntKind.i64)) m (0 : Nat))) : Int)) = Bool.false → alkF m (prs (List.length (Ls.nthL m (0 : Nat))) v3) = alkR m ∧ (0 : Int) = alkE m ∧ True))) (by kernel_rfl) ?_
  refine ⟨trivial, fun hv => ?_, fun hv => ?_⟩
  · have hv : validB m = false := by simpa using hv
    exact ⟨by simp [alkR, hv], by simp [alkE, hv], trivial⟩
  have hv : validB m = true := by simpa using hv
  have hm := IsMask.of hv
  have hr1 := hm.rows1
  have hr6 := hm.rows6
  have hp10 := hm.pix10
  have hnn : nthD (.list (.int .i64)) m 0 = nthL m 0 := rfl
  rw [hnn]
  refine ⟨⟨by omega, by omega⟩, (), 0, Nat.zero_le _, ⟨⟨trivial, rfl, trivial⟩, rfl, trivial⟩, fun i hi => ⟨fun hlt => ?_, fun hge => ?_⟩⟩
  · have hi : i ≤ (nthL m 0).length := hi
    have hlt : i < (nthL m 0).length := by have := of_decide_eq_true hlt; omega
    refine ⟨fits64 (by omega) (by omega), i, 0, Nat.zero_le _, ⟨⟨trivial, by simp, trivial⟩, by simp [rowP], trivial⟩, fun d hd => ⟨⟨by omega, by omega⟩, fun hj => ?_, fun hj => ?_⟩⟩
    · have hd : d ≤ (nthL m 0).length - (i + 1) := hd
      have hj : i + 1 + d < (nthL m 0).length := by have := of_decide_eq_true hj; omega
      have ej : ((i : Int) + 1 + (d : Int)).toNat = i + 1 + d := by omega
      have fj : fits .i64 ((i : Int) + 1 + (d : Int) + 1) := fits64 (by omega) (by omega)
      refine ⟨(i, d), 0, Nat.zero_le _, ⟨⟨trivial, rfl, rfl, rfl, trivial⟩, rfl, trivial⟩, fun k hk => ⟨fun hkl => ?_, fun hkl => ?_⟩⟩
      · have hkl : k < m.length := by have := of_decide_eq_true hkl; omega
        have hrow : (nthD (.list (.int .i64)) m ((k : Int)).toNat : List Int) = nthL m k := by rw [Int.toNat_natCast]; rfl
        have hlen := hm.each k hkl
        have hsm := hm.small k hkl (i + 1 + d) hj
        have fk : fits .i64 ((k : Int) + 1) := fits64 (by omega) (by omega)
        have hnj : nthD (.int .i64) (nthL m k) (i + 1 + d) = nth (nthL m k) (i + 1 + d) := rfl
        have hni : nthD (.int .i64) (nthL m k) i = nth (nthL m k) i := rfl
        have b1 : (0 ≤ (i : Int) ∧ (i : Int) < ((nthL m k).length : Nat)) := by rw [hlen]; omega
        have b2 : (0 ≤ (i : Int) + 1 + d ∧ (i : Int) + 1 + d < ((nthL m k).length : Nat)) := by rw [hlen]; omega
        have fn : fits .i64 (0 - nth (nthL m k) (i + 1 + d)) := fits64 (by omega) (by omega)
        have q1 := eqTo_succ (i := i) (j := i + 1 + d) hkl
        have q2 := opTo_succ (i := i) (j := i + 1 + d) hkl
        have u1 : k + 1 ≤ m.length := hkl
        have u2 : m.length - (k + 1) < m.length - k := by omega
        dsimp only
        rw [hrow, ej, Int.toNat_natCast, hni, hnj]
        refine ⟨⟨by omega, by omega⟩, fun h1 => ⟨b1, b2, fun h2 => ⟨b1, b2, fn, fk, k + 1, u1, u2, ⟨trivial, ?_, ?_, rfl, trivial⟩, rfl, trivial⟩, fun h2 => ⟨fk, k + 1, u1, u2, ⟨trivial, ?_, ?_, rfl, trivial⟩, rfl, trivial⟩⟩, fun h1 => ⟨fun h2 => ⟨b1, b2, fn, fk, k + 1, u1, u2, ⟨trivial, ?_, ?_, rfl, trivial⟩, rfl, trivial⟩, fun h2 => ⟨fk, k + 1, u1, u2, ⟨trivial, ?_, ?_, rfl, trivial⟩, rfl, trivial⟩⟩⟩
        all_goals first | (rw [q1, h1]; simp) | (rw [q2, h2]; simp)
      · have hkl : k = m.length := by have := of_decide_eq_false hkl; have hk : k ≤ m.length := hk; omega
        subst hkl
        have ha := alk_to m i (i + 1 + d)
        have hs : alkF m (prs (nthL m 0).length i ++ rowP i (d + 1)) = if alk m (i, i + 1 + d) then alkF m (prs (nthL m 0).length i ++ rowP i d) ++ [((i : Int), ((i + 1 + d : Nat) : Int))] else alkF m (prs (nthL m 0).length i ++ rowP i d) := by
          rw [rowP_succ, ← List.append_assoc, alkF_snoc]
        have hle := alkF_le hm hlt (d := d) (by omega)
        have ec : ((i + 1 + d : Nat) : Int) = (i : Int) + 1 + d := by omega
        rw [ec] at hs
        have u1 : d + 1 ≤ (nthL m 0).length - (i + 1) := by omega
        have u2 : (nthL m 0).length - (d + 1) < (nthL m 0).length - d := by omega
        have u3 : (i : Int) + 1 + d + 1 = (i : Int) + 1 + ((d + 1 : Nat) : Int) := by omega
        dsimp only
        refine ⟨fun h1 => ?_, fun h1 => ⟨fun h2 => ?_, fun h2 => ?_⟩⟩
        · have h1 : eqTo m i (i + 1 + d) m.length = true := h1
          rw [ha, h1, Bool.true_or, if_pos rfl] at hs
          exact ⟨⟨by simp, by simp; omega⟩, fj, d + 1, u1, u2, ⟨trivial, u3, trivial⟩, hs.symm, trivial⟩
        · have h2 : opTo m i (i + 1 + d) m.length = true := h2
          rw [ha, h2, Bool.or_true, if_pos rfl] at hs
          exact ⟨⟨by simp, by simp; omega⟩, fj, d + 1, u1, u2, ⟨trivial, u3, trivial⟩, hs.symm, trivial⟩
        · have h1 : eqTo m i (i + 1 + d) m.length = false := h1
          have h2 : opTo m i (i + 1 + d) m.length = false := h2
          rw [ha, h1, h2, Bool.or_false, if_neg (by simp)] at hs
          exact ⟨fj, d + 1, u1, u2, ⟨trivial, u3, trivial⟩, hs.symm, trivial⟩
    · have hd : d ≤ (nthL m 0).length - (i + 1) := hd
      have hj : d = (nthL m 0).length - (i + 1) := by have := of_decide_eq_false hj; omega
      subst hj
      exact ⟨fits64 (by omega) (by omega), i + 1, hlt, by omega, ⟨trivial, by simp, trivial⟩, rfl, trivial⟩
  · have hi : i ≤ (nthL m 0).length := hi
    have hge : i = (nthL m 0).length := by have := of_decide_eq_false hge; omega
    subst hge
    refine ⟨?_, by simp [alkE, hv], trivial⟩
    unfold alkR
    rw [if_pos hv]
    rfl
end Go.Proofs.Ytkkmlcengneomaa
