/- Rows reduced: contract by the engine. No condition. -/
import Derived.Test.YtdibdlelmkcccaaV7
set_option linter.unusedVariables false
set_option linter.unusedSimpArgs false
namespace Go.Proofs.Ytdibdlelmkcccaa
open Go Go.RowKit Eng
abbrev sRed1 : FSpec := hspec [] true none [.d qb8, .cap tInt] [.bool] (fun x => 0 ≤ x.2.1 ∧ x.2.1 < x.1.length) (fun x => (nI x.1 x.2.1.toNat != 0, ()))
theorem q17 : Meets Try.prog 143 sRed1 := by
  refine meetsH (SpecsOk.nil _) (snd (SpecsOk.nil _)) Try.func143 rfl rfl (fun _ _ => none) (fun _ => by kernel_rfl) (by decide) ?_
  rintro ⟨l, j, ⟨⟩⟩ h
  revert l j
  intro (l : List Int) (j : Int) (h : 0 ≤ j ∧ j < l.length)
  refine by_vc (B := ((0 : Int) <= j/\j < (↑(List.length l) : Int))/\(nthD (Ty.int .i64) l (Int.toNat j) != (0 : Int)) = (nI l (Int.toNat j) != (0 : Int))) (by kernel_rfl) ?_
  try simp only [z0,z1,z2,z3,z4,z5,z6,z7,z8,z9,z10,Int.reduceEq,z11,z12,z13,z14,z15,z16,z17,z18,z19,z20,z21,z22,z23,z24,z25,z26,z27,z28,z29,z30,Int.reduceLE,Int.reduceLT,z31,z32,z33,z34,nilEq_true]
  try simp only [qa4, qa5, qa8, List.set_cons_zero, List.cons.injEq, and_true, true_and]
  exact h
def qg8 (rows : List (List Int)) (k j : Nat) : Int := ixT (.list (.int .i64)) (fun r => nI r j != 0) (rows.drop k)
def qx8 (rows : List (List Int)) (a b : Nat) : List (List Int) := (rows.set a (nL rows b)).set b (nL rows a)
def negL (r : List Int) : List Int := (List.range r.length).map fun i => 0 - nI r i
def swpR (rows : List (List Int)) (k j : Nat) : List (List Int) := qx8 rows k (k + (qg8 rows k j).toNat)
def qd6 (rows : List (List Int)) (k j : Nat) : List (List Int) := if nI (nL (swpR rows k j) k) j < 0 then (swpR rows k j).set k (negL (nL (swpR rows k j) k)) else swpR rows k j
def clrR (rows : List (List Int)) (k j i : Nat) : List Int := if i ≠ k ∧ nI (nL rows i) j ≠ 0 then qi2 (nL rows i) (nL rows k) j else nL rows i
def clrA (rows : List (List Int)) (k j : Nat) : List (List Int) := (List.range rows.length).map (clrR rows k j)
def qh9 (s : List (List Int) × List Int) (j : Nat) : List (List Int) × List Int := if qg8 s.1 s.2.length j < 0 then s else (clrA (qd6 s.1 s.2.length j) s.2.length j, s.2 ++ [(j : Int)])
def qb4 (rows : List (List Int)) : Nat → List (List Int) × List Int
  | 0 => (rows, [])
  | j + 1 => qh9 (qb4 rows j) j
structure q57 (rows : List (List Int)) (k j : Nat) : Prop where
  neg : ∀ x ∈ nL (swpR rows k j) k, qd1 BIG x
  clr : ∀ i, i < rows.length → i ≠ k → nI (nL (qd6 rows k j) i) j ≠ 0 → qx3 (nL (qd6 rows k j) i) (nL (qd6 rows k j) k) j
structure qp9 (rows : List (List Int)) (cols W : Nat) : Prop where
  n : rows.length ≤ 1000
  w : W ≤ 1000
  cw : cols ≤ W
  each : ∀ i, i < rows.length → (nL rows i).length = W
  step : ∀ j, j < cols → 0 ≤ qg8 (qb4 rows j).1 (qb4 rows j).2.length j → q57 (qb4 rows j).1 (qb4 rows j).2.length j
abbrev sRed : MSpec := mspec (argsB [tInt]) true false 24 3 (.int .i64) (fun rows x => 0 ≤ x.1 ∧ ∃ W, qp9 rows x.1.toNat W) (fun rows x => .dat (.int .i64) (qb4 rows x.1.toNat).2) (fun rows x => (qb4 rows x.1.toNat).1)
def q58 : List AObj := [.dead, .dead, .dead, .dead, .dead, .dead, .dead, .dead, .dead, .dead, .dead, .dead, .dead, .dead, .dead, .dead, .dead, .dead, .dead, .dead, .dead, .dead, .dead, .dead, .dead, .dead, .dead, .dead]
structure q49 (rows : List (List Int)) (k i : Nat) (r : List (List Int)) : Prop where
  le : i ≤ (nL rows k).length
  eq : r = rows.set k (ovr (.int .i64) (fun q => 0 - nI (nL rows k) q) (nL rows k) i)
structure qq0 (rows : List (List Int)) (k j i : Nat) (r : List (List Int)) : Prop where
  le : i ≤ rows.length
  eq : r = ovr (.list (.int .i64)) (clrR rows k j) rows i
structure q18 (R : List (List Int)) (c j : Nat) (r : List (List Int)) (p : List Int) : Prop where
  le : j ≤ c
  eq : qb4 R j = (r, p)
def ivRed (T : Lent) (R : List (List Int)) (c : Nat) : Nat → Option Inv
  | 0 => some (Inv.of [0, 5, 13] 2 (fun s : Nat × List (List Int) × List Int => [(0, .msl 0 .none), (5, .own 1), (13, .lit (.int .i64 s.1))]) (fun s => [.mat 24 3 (.int .i64) s.2.1 .none (some T), .vec 3 (.int .i64) s.2.2]) (fun s => q18 R c s.1 s.2.1 s.2.2) (fun s => c - s.1))
  | 1 => some (Eng.Inv.mk (Nat × Nat × List (List Int) × List Int) (Nat × List (List Int)) [0, 5, 56] 31 (fun _ s => [(0, .msl 0 .none), (5, .own 1), (56, .lit (.int .i64 s.1))]) (fun q s => .mat 24 3 (.int .i64) s.2 .none (some T) :: .vec 3 (.int .i64) q.2.2.2 :: .box 3 (.cons (.lit (.int .i64 q.1)) .nil) :: q58) (fun q s => q49 q.2.2.1 q.2.1 s.1 s.2) (fun q s => (nL q.2.2.1 q.2.1).length - s.1))
  | 2 => some (Eng.Inv.mk (Nat × Nat × List (List Int) × List Int) (Nat × List (List Int)) [0, 5, 74, 76] 31 (fun _ s => [(0, .msl 0 .none), (5, .own 1), (74, .msl 0 .none), (76, .lit (.int .i64 s.1))]) (fun q s => .mat 24 3 (.int .i64) s.2 .none (some T) :: .vec 3 (.int .i64) q.2.2.2 :: .box 3 (.cons (.lit (.int .i64 q.1)) .nil) :: q58) (fun q s => qq0 q.2.2.1 q.2.1 q.1 s.1 s.2) (fun q s => q.2.2.1.length - s.1))
  | _ => none
theorem qn1 (n : Nat) : ixLen n none = n := rfl
theorem q19 (n : Nat) (l : List Nat) : ixLen n (some l) = l.length := rfl
theorem q5a (n : Nat) : ixL n none = List.range n := rfl
theorem q5b (n : Nat) (l : List Nat) : ixL n (some l) = l := rfl
theorem qq1 (i : Nat) : ixAt none i = i := rfl
theorem q3h (l : List Nat) (i : Nat) : ixAt (some l) i = l.getD i 0 := rfl
theorem qx9 (r : List (List Int)) : matL (.int .i64) r none = r := rfl
theorem q3i (r : List (List Int)) (l : List Nat) : matL (.int .i64) r (some l) = l.map fun p => nL r p := rfl
theorem q5c (n k b : Nat) (hk : k < n) (hb : b < n) : (((List.range n).set k b).set b k).getD k 0 = b := by
  rw [List.getD_eq_getElem?_getD]
  by_cases e : b = k
  · subst e
    rw [List.getElem?_set_self (by simpa using hb)]; rfl
  · rw [List.getElem?_set_ne e, List.getElem?_set_self (by simpa using hk)]; rfl
theorem q3j (n k b : Nat) (hk : k < n) (hb : b < n) : (((List.range n).set k b).set b k).Nodup := by
  rw [List.nodup_iff_pairwise_ne, List.pairwise_iff_getElem]
  intro i j hi hj hij
  simp only [List.length_set, List.length_range] at hi hj
  simp only [List.getElem_set, List.getElem_range]
  split <;> split <;> (try split) <;> (try split) <;> omega
theorem swp_map (r : List (List Int)) (k b : Nat) (hk : k < r.length) (hb : b < r.length) : ((((List.range r.length).set k b).set b k).map fun p => nL r p) = qx8 r k b := by
  apply List.ext_getElem (by simp [qx8])
  intro i h1 h2
  have hi : i < r.length := by simpa using h1
  simp only [List.getElem_map, List.getElem_set, List.getElem_range, qx8]
  split
  · rfl
  · split
    · rfl
    · exact qe3 r i hi
theorem qy0 (r : List (List Int)) (k b : Nat) : (qx8 r k b).length = r.length := by simp [qx8]
theorem ql8 (r : List (List Int)) (k b : Nat) (hk : k < r.length) (hb : b < r.length) (i : Nat) (hi : i < r.length) : nL (qx8 r k b) i = if i = b then nL r k else if i = k then nL r b else nL r i := by
  rw [qe3 _ i (by rw [qy0]; exact hi)]
  simp only [qx8, List.getElem_set]
  by_cases e : b = i
  · rw [if_pos e, if_pos e.symm]
  · rw [if_neg e, if_neg (Ne.symm e)]
    by_cases e2 : k = i
    · rw [if_pos e2, if_pos e2.symm]
    · rw [if_neg e2, if_neg (Ne.symm e2), qe3 r i hi]
theorem qt0 (l : List Int) : (qb7 l).length = l.length := by unfold qb7; split <;> simp
theorem qt1 (r b : List Int) (c : Nat) : (qi2 r b c).length = r.length := by unfold qi2; rw [qt0, qj9]
theorem qv4 (r : List Int) : (negL r).length = r.length := by simp [negL]
theorem qo6 (r : List (List Int)) (k j : Nat) : (swpR r k j).length = r.length := qy0 _ _ _
theorem qd4 (r : List (List Int)) (k j : Nat) : (qd6 r k j).length = r.length := by
  unfold qd6; split
  · rw [List.length_set, qo6]
  · rw [qo6]
theorem qv5 (r : List (List Int)) (k : Nat) (x : List Int) (i : Nat) (hi : i < r.length) : nL (r.set k x) i = if i = k then x else nL r i := by
  rw [qe3 _ i (by rw [List.length_set]; exact hi), List.getElem_set]
  by_cases e : k = i
  · rw [if_pos e, if_pos e.symm]
  · rw [if_neg e, if_neg (Ne.symm e), qe3 r i hi]
theorem qk1 (r : List (List Int)) (k j : Nat) (hk : k ≤ r.length) (h : 0 ≤ qg8 r k j) : k + (qg8 r k j).toNat < r.length := by
  have := (q54 (.list (.int .i64)) (fun r => nI r j != 0) (r.drop k)).1
  unfold qg8 at h ⊢
  rw [List.length_drop] at this
  omega
theorem ql9 (r : List (List Int)) (k j i : Nat) (hi : i < r.length) : nL (qd6 r k j) i = if i = k ∧ nI (nL (swpR r k j) k) j < 0 then negL (nL (swpR r k j) k) else nL (swpR r k j) i := by
  unfold qd6
  split
  · rename_i h
    rw [qv5 _ _ _ _ (by rw [qo6]; exact hi)]
    by_cases e : i = k
    · rw [if_pos e, if_pos ⟨e, h⟩]
    · rw [if_neg e, if_neg fun q => e q.1]
  · rename_i h
    rw [if_neg fun q => h q.2]
theorem qv6 (r : List (List Int)) (k j : Nat) : (clrA r k j).length = r.length := by simp [clrA]
theorem q3k (r : List (List Int)) (k j i : Nat) (hi : i < r.length) : nL (clrA r k j) i = clrR r k j i := by
  rw [qe3 _ i (by rw [qv6]; exact hi)]; simp [clrA]
structure RedSh (n W : Nat) (s : List (List Int) × List Int) (j : Nat) : Prop where
  cnt : s.1.length = n
  each : ∀ i, i < n → (nL s.1 i).length = W
  piv : s.2.length ≤ n
  pivj : s.2.length ≤ j
theorem qq3 {r : List (List Int)} {k j W : Nat} (hk : k ≤ r.length) (h : 0 ≤ qg8 r k j) (he : ∀ i, i < r.length → (nL r i).length = W) : ∀ i, i < r.length → (nL (swpR r k j) i).length = W := fun i hi => by
  have hb := qk1 r k j hk h
  unfold swpR
  rw [ql8 _ _ _ (by omega) hb i hi]
  split
  · exact he _ (by omega)
  · split
    · exact he _ hb
    · exact he _ hi
theorem qk2 {r : List (List Int)} {k j W : Nat} (hk : k ≤ r.length) (h : 0 ≤ qg8 r k j) (he : ∀ i, i < r.length → (nL r i).length = W) : ∀ i, i < r.length → (nL (qd6 r k j) i).length = W := fun i hi => by
  have hb := qk1 r k j hk h
  have h1 := qq3 hk h he
  rw [ql9 _ _ _ _ hi]
  split
  · rw [qv4]; exact h1 _ (by omega)
  · exact h1 _ hi
theorem RedSh.step {n W j : Nat} {s : List (List Int) × List Int} (h : RedSh n W s j) : RedSh n W (qh9 s j) (j + 1) := by
  unfold qh9
  split
  · exact ⟨h.cnt, h.each, h.piv, by have := h.pivj; omega⟩
  · rename_i hp
    have hp : 0 ≤ qg8 s.1 s.2.length j := by omega
    have hn := h.cnt
    have hb := qk1 s.1 s.2.length j (by rw [hn]; exact h.piv) hp
    have he := qk2 (W := W) (by rw [hn]; exact h.piv) hp (fun i hi => h.each i (by omega))
    refine ⟨by rw [qv6, qd4]; exact hn, fun i hi => ?_, ?_, ?_⟩
    · rw [q3k _ _ _ _ (by rw [qd4]; omega)]
      unfold clrR
      split
      · rw [qt1]; exact he i (by omega)
      · exact he i (by omega)
    · rw [List.length_append]; simp; omega
    · rw [List.length_append]; have := h.pivj; simp; omega
theorem qk3 {R : List (List Int)} {c W : Nat} (h : qp9 R c W) : ∀ j, RedSh R.length W (qb4 R j) j
  | 0 => ⟨rfl, h.each, Nat.zero_le _, Nat.le_refl _⟩
  | j + 1 => (qk3 h j).step
theorem qm0 (r : List (List Int)) (k j : Nat) : clrR r k j k = nL r k := by unfold clrR; rw [if_neg]; exact fun h => h.1 rfl
theorem qo7 (t : Ty) (g : Nat → t.den) (l : List t.den) (k : Nat) (h : k < l.length → g k = nthD t l k) : ovr t g l k = ovr t g l (k + 1) := by
  unfold ovr
  apply List.map_congr_left
  intro i hi
  have hi := List.mem_range.1 hi
  by_cases e : i = k
  · subst e; rw [if_neg (Nat.lt_irrefl _), if_pos (by omega), h hi]
  · by_cases h2 : i < k
    · rw [if_pos h2, if_pos (by omega)]
    · rw [if_neg h2, if_neg (by omega)]
theorem qq4 : MMeets Try.prog 116 sRed := by
  refine meetsM (sndMN [17, 22] (SpecsOk.cons (qx4 (fs := [(143, sRed1)]) (SpecsOk.cons q17 (SpecsOk.nil _))) (SpecsOk.nil _)) (MutsOk.cons q0d MutsOk.nil)) Try.func116 rfl rfl (argsB_ok [tInt]) (fun T rows x => ivRed T rows x.1.toNat) (fun _ _ _ => by kernel_rfl) (by decide) ?_ rfl
  rintro T rows ⟨c, ⟨⟩⟩ h -
  revert rows c
  intro (rows : List (List Int)) (c : Int) (h : 0 ≤ c ∧ ∃ W, qp9 rows c.toNat W)
  refine by_vc (B := ∃ (v0 : Unit), ∃ (v1 : Nat × List (List Int) × List Int), q18 rows (Int.toNat c) (Prod.fst v1) (Prod.fst (Prod.snd v1)) (Prod.snd (Prod.snd v1))/\((True/\True/\(0 : Int) = (↑(Prod.fst v1) : Int)/\True)/\(rows = Prod.fst (Prod.snd v1)/\True/\T = T)/\Prod.snd (Prod.snd v1) = []/\True)/\∀ (v2 : Nat × List (List Int) × List Int), q18 rows (Int.toNat c) (Prod.fst v2) (Prod.fst (Prod.snd v2)) (Prod.snd (Prod.snd v2))->(decide ((↑(Prod.fst v2) : Int) < c) = true->∀ (v5 : Int), v5 = (↑(List.length (Prod.snd (Prod.snd v2))) : Int)->((0 : Int) <= v5/\v5 <= (↑(ixLen (List.length (Prod.fst (Prod.snd v2))) none) : Int)/\(↑(ixLen (List.length (Prod.fst (Prod.snd v2))) none) : Int) <= (↑(ixLen (List.length (Prod.fst (Prod.snd v2))) none) : Int))/\∃ (v7 : argsTy [Ty.list (Ty.int .i64)]->Prop), ∃ (v8 : argsTy [Ty.list (Ty.int .i64)]->Bool), (∀ (v9 : List Int × argsTy._f [] PUnit.unit), v7 v9->((0 : PTy.den (PTy.cap tInt)) <= (↑(Prod.fst v2) : Int)/\(↑(Prod.fst v2) : Int) < (↑(List.length (Prod.fst v9)) : PTy.den (PTy.cap tInt)))/\(nI (Prod.fst v9) (Int.toNat (↑(Prod.fst v2) : Int)) != (0 : Int)) = v8 v9)/\(List.length (List.drop (Int.toNat v5) (List.take (Int.toNat (↑(ixLen (List.length (Prod.fst (Prod.snd v2))) none) : Int)) (matL (Ty.int .i64) (Prod.fst (Prod.snd v2)) none))) <= (1000000 : Nat)/\∀ (v9 : Nat), v9 < List.length (List.drop (Int.toNat v5) (List.take (Int.toNat (↑(ixLen (List.length (Prod.fst (Prod.snd v2))) none) : Int)) (matL (Ty.int .i64) (Prod.fst (Prod.snd v2)) none)))->v7 (nthD (Ty.list (Ty.int .i64)) (List.drop (Int.toNat v5) (List.take (Int.toNat (↑(ixLen (List.length (Prod.fst (Prod.snd v2))) none) : Int)) (matL (Ty.int .i64) (Prod.fst (Prod.snd v2)) none))) v9, ()))/\∀ (v9 : Int), v9 = ixT (Ty.list (Ty.int .i64)) (fun (v11 : List Int) => v8 (v11, ())) (List.drop (Int.toNat v5) (List.take (Int.toNat (↑(ixLen (List.length (Prod.fst (Prod.snd v2))) none) : Int)) (matL (Ty.int .i64) (Prod.fst (Prod.snd v2)) none)))->(decide (v9 < (0 : Int)) = true->fits .i64 ((↑(Prod.fst v2) : Int) + (1 : Int))/\∃ (v12 : Nat × List (List Int) × List Int), q18 rows (Int.toNat c) (Prod.fst v12) (Prod.fst (Prod.snd v12)) (Prod.snd (Prod.snd v12))/\Int.toNat c - Prod.fst v12 < Int.toNat c - Prod.fst v2/\(True/\True/\(↑(Prod.fst v2) : Int) + (1 : Int) = (↑(Prod.fst v12) : Int)/\True)/\(Prod.fst (Prod.snd v2) = Prod.fst (Prod.snd v12)/\True/\T = T)/\Prod.snd (Prod.snd v2) = Prod.snd (Prod.snd v12)/\True)/\(decide (v9 < (0 : Int)) = false->fits .i64 (v5 + v9)/\fits .i64 (v5 + v9)/\((0 : Int) <= v5 + v9/\v5 + v9 < (↑(ixLen (List.length (Prod.fst (Prod.snd v2))) none) : Int))/\Int.toNat (v5 + v9) < ixLen (List.length (Prod.fst (Prod.snd v2))) none/\((0 : Int) <= v5/\v5 < (↑(ixLen (List.length (Prod.fst (Prod.snd v2))) none) : Int))/\Int.toNat v5 < ixLen (List.length (Prod.fst (Prod.snd v2))) none/\((0 : Int) <= v5/\v5 < (↑(ixLen (List.length (Prod.fst (Prod.snd v2))) none) : Int))/\Int.toNat v5 < ixLen (List.length (Prod.fst (Prod.snd v2))) none/\((0 : Int) <= v5 + v9/\v5 + v9 < (↑(ixLen (List.length (Prod.fst (Prod.snd v2))) (some (List.set (ixL (List.length (Prod.fst (Prod.snd v2))) none) (Int.toNat v5) (ixAt none (Int.toNat (v5 + v9)))))) : Int))/\Int.toNat (v5 + v9) < ixLen (List.length (Prod.fst (Prod.snd v2))) (some (List.set (ixL (List.length (Prod.fst (Prod.snd v2))) none) (Int.toNat v5) (ixAt none (Int.toNat (v5 + v9)))))/\((0 : Int) <= v5/\v5 < (↑(ixLen (List.length (Prod.fst (Prod.snd v2))) (some (List.set (ixL (List.length (Prod.fst (Prod.snd v2))) (some (List.set (ixL (List.length (Prod.fst (Prod.snd v2))) none) (Int.toNat v5) (ixAt none (Int.toNat (v5 + v9)))))) (Int.toNat (v5 + v9)) (ixAt none (Int.toNat v5))))) : Int))/\Int.toNat v5 < ixLen (List.length (Prod.fst (Prod.snd v2))) (some (List.set (ixL (List.length (Prod.fst (Prod.snd v2))) (some (List.set (ixL (List.length (Prod.fst (Prod.snd v2))) none) (Int.toNat v5) (ixAt none (Int.toNat (v5 + v9)))))) (Int.toNat (v5 + v9)) (ixAt none (Int.toNat v5))))/\((0 : Int) <= (↑(Prod.fst v2) : Int)/\(↑(Prod.fst v2) : Int) < (↑(List.length (nthD (Ty.list (Ty.int .i64)) (Prod.fst (Prod.snd v2)) (ixAt (some (List.set (ixL (List.length (Prod.fst (Prod.snd v2))) (some (List.set (ixL (List.length (Prod.fst (Prod.snd v2))) none) (Int.toNat v5) (ixAt none (Int.toNat (v5 + v9)))))) (Int.toNat (v5 + v9)) (ixAt none (Int.toNat v5)))) (Int.toNat v5)))) : Int))/\Int.toNat (↑(Prod.fst v2) : Int) < List.length (nthD (Ty.list (Ty.int .i64)) (Prod.fst (Prod.snd v2)) (ixAt (some (List.set (ixL (List.length (Prod.fst (Prod.snd v2))) (some (List.set (ixL (List.length (Prod.fst (Prod.snd v2))) none) (Int.toNat v5) (ixAt none (Int.toNat (v5 + v9)))))) (Int.toNat (v5 + v9)) (ixAt none (Int.toNat v5)))) (Int.toNat v5)))/\(decide (nthD (Ty.int .i64) (nthD (Ty.list (Ty.int .i64)) (Prod.fst (Prod.snd v2)) (ixAt (some (List.set (ixL (List.length (Prod.fst (Prod.snd v2))) (some (List.set (ixL (List.length (Prod.fst (Prod.snd v2))) none) (Int.toNat v5) (ixAt none (Int.toNat (v5 + v9)))))) (Int.toNat (v5 + v9)) (ixAt none (Int.toNat v5)))) (Int.toNat v5))) (Int.toNat (↑(Prod.fst v2) : Int)) < (0 : Int)) = true->((0 : Int) <= v5/\v5 < (↑(ixLen (List.length (Prod.fst (Prod.snd v2))) (some (List.set (ixL (List.length (Prod.fst (Prod.snd v2))) (some (List.set (ixL (List.length (Prod.fst (Prod.snd v2))) none) (Int.toNat v5) (ixAt none (Int.toNat (v5 + v9)))))) (Int.toNat (v5 + v9)) (ixAt none (Int.toNat v5))))) : Int))/\Int.toNat v5 < ixLen (List.length (Prod.fst (Prod.snd v2))) (some (List.set (ixL (List.length (Prod.fst (Prod.snd v2))) (some (List.set (ixL (List.length (Prod.fst (Prod.snd v2))) none) (Int.toNat v5) (ixAt none (Int.toNat (v5 + v9)))))) (Int.toNat (v5 + v9)) (ixAt none (Int.toNat v5))))/\∃ (v13 : Nat × Nat × List (List Int) × List Int), ∃ (v14 : Nat × List (List Int)), q49 (Prod.fst (Prod.snd (Prod.snd v13))) (Prod.fst (Prod.snd v13)) (Prod.fst v14) (Prod.snd v14)/\(List.Nodup (List.set (ixL (List.length (Prod.fst (Prod.snd v2))) (some (List.set (ixL (List.length (Prod.fst (Prod.snd v2))) none) (Int.toNat v5) (ixAt none (Int.toNat (v5 + v9)))))) (Int.toNat (v5 + v9)) (ixAt none (Int.toNat v5)))/\List.length (List.set (ixL (List.length (Prod.fst (Prod.snd v2))) (some (List.set (ixL (List.length (Prod.fst (Prod.snd v2))) none) (Int.toNat v5) (ixAt none (Int.toNat (v5 + v9)))))) (Int.toNat (v5 + v9)) (ixAt none (Int.toNat v5))) = List.length (Prod.fst (Prod.snd v2)))/\((True/\True/\(0 : Int) = (↑(Prod.fst v14) : Int)/\True)/\(matL (Ty.int .i64) (Prod.fst (Prod.snd v2)) (some (List.set (ixL (List.length (Prod.fst (Prod.snd v2))) (some (List.set (ixL (List.length (Prod.fst (Prod.snd v2))) none) (Int.toNat v5) (ixAt none (Int.toNat (v5 + v9)))))) (Int.toNat (v5 + v9)) (ixAt none (Int.toNat v5)))) = Prod.snd v14/\True/\T = T)/\Prod.snd (Prod.snd v2) = Prod.snd (Prod.snd (Prod.snd v13))/\((↑(Prod.fst v2) : Int) = (↑(Prod.fst v13) : Int)/\True)/\True/\True/\True/\True/\True/\True/\True/\True/\True/\True/\True/\True/\True/\True/\True/\True/\True/\True/\True/\True/\True/\True/\True/\True/\True/\True/\True/\True/\True)/\∀ (v15 : Nat × List (List Int)), q49 (Prod.fst (Prod.snd (Prod.snd v13))) (Prod.fst (Prod.snd v13)) (Prod.fst v15) (Prod.snd v15)->(decide ((↑(Prod.fst v15) : Int) < (↑(List.length (nthD (Ty.list (Ty.int .i64)) (Prod.fst (Prod.snd v2)) (ixAt (some (List.set (ixL (List.length (Prod.fst (Prod.snd v2))) (some (List.set (ixL (List.length (Prod.fst (Prod.snd v2))) none) (Int.toNat v5) (ixAt none (Int.toNat (v5 + v9)))))) (Int.toNat (v5 + v9)) (ixAt none (Int.toNat v5)))) (Int.toNat v5)))) : Int)) = true->((0 : Int) <= v5/\v5 < (↑(ixLen (List.length (Prod.snd v15)) none) : Int))/\Int.toNat v5 < ixLen (List.length (Prod.snd v15)) none/\((0 : Int) <= v5/\v5 < (↑(ixLen (List.length (Prod.snd v15)) none) : Int))/\Int.toNat v5 < ixLen (List.length (Prod.snd v15)) none/\((0 : Int) <= (↑(Prod.fst v15) : Int)/\(↑(Prod.fst v15) : Int) < (↑(List.length (nthD (Ty.list (Ty.int .i64)) (Prod.snd v15) (ixAt none (Int.toNat v5)))) : Int))/\Int.toNat (↑(Prod.fst v15) : Int) < List.length (nthD (Ty.list (Ty.int .i64)) (Prod.snd v15) (ixAt none (Int.toNat v5)))/\fits .i64 ((0 : Int) - nthD (Ty.int .i64) (nthD (Ty.list (Ty.int .i64)) (Prod.snd v15) (ixAt none (Int.toNat v5))) (Int.toNat (↑(Prod.fst v15) : Int)))/\((0 : Int) <= (↑(Prod.fst v15) : Int)/\(↑(Prod.fst v15) : Int) < (↑(List.length (nthD (Ty.list (Ty.int .i64)) (Prod.snd v15) (ixAt none (Int.toNat v5)))) : Int))/\Int.toNat (↑(Prod.fst v15) : Int) < List.length (nthD (Ty.list (Ty.int .i64)) (Prod.snd v15) (ixAt none (Int.toNat v5)))/\fits .i64 ((↑(Prod.fst v15) : Int) + (1 : Int))/\∃ (v18 : Nat × List (List Int)), q49 (Prod.fst (Prod.snd (Prod.snd v13))) (Prod.fst (Prod.snd v13)) (Prod.fst v18) (Prod.snd v18)/\List.length (nL (Prod.fst (Prod.snd (Prod.snd v13))) (Prod.fst (Prod.snd v13))) - Prod.fst v18 < List.length (nL (Prod.fst (Prod.snd (Prod.snd v13))) (Prod.fst (Prod.snd v13))) - Prod.fst v15/\(True/\True/\(↑(Prod.fst v15) : Int) + (1 : Int) = (↑(Prod.fst v18) : Int)/\True)/\(List.set (Prod.snd v15) (ixAt none (Int.toNat v5)) (List.set (nthD (Ty.list (Ty.int .i64)) (Prod.snd v15) (ixAt none (Int.toNat v5))) (Int.toNat (↑(Prod.fst v15) : Int)) ((0 : Int) - nthD (Ty.int .i64) (nthD (Ty.list (Ty.int .i64)) (Prod.snd v15) (ixAt none (Int.toNat v5))) (Int.toNat (↑(Prod.fst v15) : Int)))) = Prod.snd v18/\True/\T = T)/\Prod.snd (Prod.snd (Prod.snd v13)) = Prod.snd (Prod.snd (Prod.snd v13))/\((↑(Prod.fst v13) : Int) = (↑(Prod.fst v13) : Int)/\True)/\True/\True/\True/\True/\True/\True/\True/\True/\True/\True/\True/\True/\True/\True/\True/\True/\True/\True/\True/\True/\True/\True/\True/\True/\True/\True/\True/\True/\True)/\(decide ((↑(Prod.fst v15) : Int) < (↑(List.length (nthD (Ty.list (Ty.int .i64)) (Prod.fst (Prod.snd v2)) (ixAt (some (List.set (ixL (List.length (Prod.fst (Prod.snd v2))) (some (List.set (ixL (List.length (Prod.fst (Prod.snd v2))) none) (Int.toNat v5) (ixAt none (Int.toNat (v5 + v9)))))) (Int.toNat (v5 + v9)) (ixAt none (Int.toNat v5)))) (Int.toNat v5)))) : Int)) = false->∃ (v18 : Nat × Nat × List (List Int) × List Int), ∃ (v19 : Nat × List (List Int)), qq0 (Prod.fst (Prod.snd (Prod.snd v18))) (Prod.fst (Prod.snd v18)) (Prod.fst v18) (Prod.fst v19) (Prod.snd v19)/\((True/\True/\True/\(0 : Int) = (↑(Prod.fst v19) : Int)/\True)/\(Prod.snd v15 = Prod.snd v19/\True/\T = T)/\Prod.snd (Prod.snd (Prod.snd v13)) = Prod.snd (Prod.snd (Prod.snd v18))/\((↑(Prod.fst v13) : Int) = (↑(Prod.fst v18) : Int)/\True)/\True/\True/\True/\True/\True/\True/\True/\True/\True/\True/\True/\True/\True/\True/\True/\True/\True/\True/\True/\True/\True/\True/\True/\True/\True/\True/\True/\True/\True)/\∀ (v20 : Nat × List (List Int)), qq0 (Prod.fst (Prod.snd (Prod.snd v18))) (Prod.fst (Prod.snd v18)) (Prod.fst v18) (Prod.fst v20) (Prod.snd v20)->(decide ((↑(Prod.fst v20) : Int) < (↑(ixLen (List.length (Prod.snd v15)) none) : Int)) = true->((0 : Int) <= (↑(Prod.fst v20) : Int)/\(↑(Prod.fst v20) : Int) < (↑(ixLen (List.length (Prod.snd v20)) none) : Int))/\Int.toNat (↑(Prod.fst v20) : Int) < ixLen (List.length (Prod.snd v20)) none/\(((↑(Prod.fst v20) : Int) != v5) = true->((0 : Int) <= (↑(Prod.fst v18) : Int)/\(↑(Prod.fst v18) : Int) < (↑(List.length (nthD (Ty.list (Ty.int .i64)) (Prod.snd v20) (ixAt none (Int.toNat (↑(Prod.fst v20) : Int))))) : Int))/\Int.toNat (↑(Prod.fst v18) : Int) < List.length (nthD (Ty.list (Ty.int .i64)) (Prod.snd v20) (ixAt none (Int.toNat (↑(Prod.fst v20) : Int))))/\((nthD (Ty.int .i64) (nthD (Ty.list (Ty.int .i64)) (Prod.snd v20) (ixAt none (Int.toNat (↑(Prod.fst v20) : Int)))) (Int.toNat (↑(Prod.fst v18) : Int)) != (0 : Int)) = true->((0 : Int) <= v5/\v5 < (↑(ixLen (List.length (Prod.snd v20)) none) : Int))/\Int.toNat v5 < ixLen (List.length (Prod.snd v20)) none/\ixAt none (Int.toNat v5) ≠ ixAt none (Int.toNat (↑(Prod.fst v20) : Int))/\((0 : Ty.den tInt) <= (↑(Prod.fst v18) : Int)/\qx3 (nL [nthD (Ty.list (MSpec.t qp2)) (Prod.snd v20) (ixAt none (Int.toNat (↑(Prod.fst v20) : Int)))] (0 : Nat)) (nthD (Ty.list (Ty.int .i64)) (Prod.snd v20) (ixAt none (Int.toNat v5))) (Int.toNat (↑(Prod.fst v18) : Int)))/\fits .i64 ((↑(Prod.fst v20) : Int) + (1 : Int))/\∃ (v25 : Nat × List (List Int)), qq0 (Prod.fst (Prod.snd (Prod.snd v18))) (Prod.fst (Prod.snd v18)) (Prod.fst v18) (Prod.fst v25) (Prod.snd v25)/\List.length (Prod.fst (Prod.snd (Prod.snd v18))) - Prod.fst v25 < List.length (Prod.fst (Prod.snd (Prod.snd v18))) - Prod.fst v20/\(True/\True/\True/\(↑(Prod.fst v20) : Int) + (1 : Int) = (↑(Prod.fst v25) : Int)/\True)/\(List.set (Prod.snd v20) (ixAt none (Int.toNat (↑(Prod.fst v20) : Int))) (nthD (Ty.list (MSpec.t qp2)) [qi2 (nL [nthD (Ty.list (MSpec.t qp2)) (Prod.snd v20) (ixAt none (Int.toNat (↑(Prod.fst v20) : Int)))] (0 : Nat)) (nthD (Ty.list (Ty.int .i64)) (Prod.snd v20) (ixAt none (Int.toNat v5))) (Int.toNat (↑(Prod.fst v18) : Int))] (0 : Nat)) = Prod.snd v25/\True/\T = T)/\Prod.snd (Prod.snd (Prod.snd v18)) = Prod.snd (Prod.snd (Prod.snd v18))/\((↑(Prod.fst v18) : Int) = (↑(Prod.fst v18) : Int)/\True)/\True/\True/\True/\True/\True/\True/\True/\True/\True/\True/\True/\True/\True/\True/\True/\True/\True/\True/\True/\True/\True/\True/\True/\True/\True/\True/\True/\True/\True)/\((nthD (Ty.int .i64) (nthD (Ty.list (Ty.int .i64)) (Prod.snd v20) (ixAt none (Int.toNat (↑(Prod.fst v20) : Int)))) (Int.toNat (↑(Prod.fst v18) : Int)) != (0 : Int)) = false->fits .i64 ((↑(Prod.fst v20) : Int) + (1 : Int))/\∃ (v25 : Nat × List (List Int)), qq0 (Prod.fst (Prod.snd (Prod.snd v18))) (Prod.fst (Prod.snd v18)) (Prod.fst v18) (Prod.fst v25) (Prod.snd v25)/\List.length (Prod.fst (Prod.snd (Prod.snd v18))) - Prod.fst v25 < List.length (Prod.fst (Prod.snd (Prod.snd v18))) - Prod.fst v20/\(True/\True/\True/\(↑(Prod.fst v20) : Int) + (1 : Int) = (↑(Prod.fst v25) : Int)/\True)/\(Prod.snd v20 = Prod.snd v25/\True/\T = T)/\Prod.snd (Prod.snd (Prod.snd v18)) = Prod.snd (Prod.snd (Prod.snd v18))/\((↑(Prod.fst v18) : Int) = (↑(Prod.fst v18) : Int)/\True)/\True/\True/\True/\True/\True/\True/\True/\True/\True/\True/\True/\True/\True/\True/\True/\True/\True/\True/\True/\True/\True/\True/\True/\True/\True/\True/\True/\True/\True))/\(((↑(Prod.fst v20) : Int) != v5) = false->fits .i64 ((↑(Prod.fst v20) : Int) + (1 : Int))/\∃ (v24 : Nat × List (List Int)), qq0 (Prod.fst (Prod.snd (Prod.snd v18))) (Prod.fst (Prod.snd v18)) (Prod.fst v18) (Prod.fst v24) (Prod.snd v24)/\List.length (Prod.fst (Prod.snd (Prod.snd v18))) - Prod.fst v24 < List.length (Prod.fst (Prod.snd (Prod.snd v18))) - Prod.fst v20/\(True/\True/\True/\(↑(Prod.fst v20) : Int) + (1 : Int) = (↑(Prod.fst v24) : Int)/\True)/\(Prod.snd v20 = Prod.snd v24/\True/\T = T)/\Prod.snd (Prod.snd (Prod.snd v18)) = Prod.snd (Prod.snd (Prod.snd v18))/\((↑(Prod.fst v18) : Int) = (↑(Prod.fst v18) : Int)/\True)/\True/\True/\True/\True/\True/\True/\True/\True/\True/\True/\True/\True/\True/\True/\True/\True/\True/\True/\True/\True/\True/\True/\True/\True/\True/\True/\True/\True/\True))/\(decide ((↑(Prod.fst v20) : Int) < (↑(ixLen (List.length (Prod.snd v15)) none) : Int)) = false->((0 : Nat) < List.length [(↑(Prod.fst v18) : Int)]/\Nat.le (List.length (Prod.snd (Prod.snd (Prod.snd v18))) + List.length [(↑(Prod.fst v18) : Int)]) (1000000 : Nat))/\fits .i64 ((↑(Prod.fst v2) : Int) + (1 : Int))/\∃ (v23 : Nat × List (List Int) × List Int), q18 rows (Int.toNat c) (Prod.fst v23) (Prod.fst (Prod.snd v23)) (Prod.snd (Prod.snd v23))/\Int.toNat c - Prod.fst v23 < Int.toNat c - Prod.fst v2/\(True/\True/\(↑(Prod.fst v2) : Int) + (1 : Int) = (↑(Prod.fst v23) : Int)/\True)/\(Prod.snd v20 = Prod.fst (Prod.snd v23)/\True/\T = T)/\Prod.snd (Prod.snd (Prod.snd v18)) ++ [(↑(Prod.fst v18) : Int)] = Prod.snd (Prod.snd v23)/\True)))/\(decide (nthD (Ty.int .i64) (nthD (Ty.list (Ty.int .i64)) (Prod.fst (Prod.snd v2)) (ixAt (some (List.set (ixL (List.length (Prod.fst (Prod.snd v2))) (some (List.set (ixL (List.length (Prod.fst (Prod.snd v2))) none) (Int.toNat v5) (ixAt none (Int.toNat (v5 + v9)))))) (Int.toNat (v5 + v9)) (ixAt none (Int.toNat v5)))) (Int.toNat v5))) (Int.toNat (↑(Prod.fst v2) : Int)) < (0 : Int)) = false->∃ (v13 : Nat × Nat × List (List Int) × List Int), ∃ (v14 : Nat × List (List Int)), qq0 (Prod.fst (Prod.snd (Prod.snd v13))) (Prod.fst (Prod.snd v13)) (Prod.fst v13) (Prod.fst v14) (Prod.snd v14)/\(List.Nodup (List.set (ixL (List.length (Prod.fst (Prod.snd v2))) (some (List.set (ixL (List.length (Prod.fst (Prod.snd v2))) none) (Int.toNat v5) (ixAt none (Int.toNat (v5 + v9)))))) (Int.toNat (v5 + v9)) (ixAt none (Int.toNat v5)))/\List.length (List.set (ixL (List.length (Prod.fst (Prod.snd v2))) (some (List.set (ixL (List.length (Prod.fst (Prod.snd v2))) none) (Int.toNat v5) (ixAt none (Int.toNat (v5 + v9)))))) (Int.toNat (v5 + v9)) (ixAt none (Int.toNat v5))) = List.length (Prod.fst (Prod.snd v2)))/\((True/\True/\True/\(0 : Int) = (↑(Prod.fst v14) : Int)/\True)/\(matL (Ty.int .i64) (Prod.fst (Prod.snd v2)) (some (List.set (ixL (List.length (Prod.fst (Prod.snd v2))) (some (List.set (ixL (List.length (Prod.fst (Prod.snd v2))) none) (Int.toNat v5) (ixAt none (Int.toNat (v5 + v9)))))) (Int.toNat (v5 + v9)) (ixAt none (Int.toNat v5)))) = Prod.snd v14/\True/\T = T)/\Prod.snd (Prod.snd v2) = Prod.snd (Prod.snd (Prod.snd v13))/\((↑(Prod.fst v2) : Int) = (↑(Prod.fst v13) : Int)/\True)/\True/\True/\True/\True/\True/\True/\True/\True/\True/\True/\True/\True/\True/\True/\True/\True/\True/\True/\True/\True/\True/\True/\True/\True/\True/\True/\True/\True/\True)/\∀ (v15 : Nat × List (List Int)), qq0 (Prod.fst (Prod.snd (Prod.snd v13))) (Prod.fst (Prod.snd v13)) (Prod.fst v13) (Prod.fst v15) (Prod.snd v15)->(decide ((↑(Prod.fst v15) : Int) < (↑(ixLen (List.length (Prod.fst (Prod.snd v2))) (some (List.set (ixL (List.length (Prod.fst (Prod.snd v2))) (some (List.set (ixL (List.length (Prod.fst (Prod.snd v2))) none) (Int.toNat v5) (ixAt none (Int.toNat (v5 + v9)))))) (Int.toNat (v5 + v9)) (ixAt none (Int.toNat v5))))) : Int)) = true->((0 : Int) <= (↑(Prod.fst v15) : Int)/\(↑(Prod.fst v15) : Int) < (↑(ixLen (List.length (Prod.snd v15)) none) : Int))/\Int.toNat (↑(Prod.fst v15) : Int) < ixLen (List.length (Prod.snd v15)) none/\(((↑(Prod.fst v15) : Int) != v5) = true->((0 : Int) <= (↑(Prod.fst v13) : Int)/\(↑(Prod.fst v13) : Int) < (↑(List.length (nthD (Ty.list (Ty.int .i64)) (Prod.snd v15) (ixAt none (Int.toNat (↑(Prod.fst v15) : Int))))) : Int))/\Int.toNat (↑(Prod.fst v13) : Int) < List.length (nthD (Ty.list (Ty.int .i64)) (Prod.snd v15) (ixAt none (Int.toNat (↑(Prod.fst v15) : Int))))/\((nthD (Ty.int .i64) (nthD (Ty.list (Ty.int .i64)) (Prod.snd v15) (ixAt none (Int.toNat (↑(Prod.fst v15) : Int)))) (Int.toNat (↑(Prod.fst v13) : Int)) != (0 : Int)) = true->((0 : Int) <= v5/\v5 < (↑(ixLen (List.length (Prod.snd v15)) none) : Int))/\Int.toNat v5 < ixLen (List.length (Prod.snd v15)) none/\ixAt none (Int.toNat v5) ≠ ixAt none (Int.toNat (↑(Prod.fst v15) : Int))/\((0 : Ty.den tInt) <= (↑(Prod.fst v13) : Int)/\qx3 (nL [nthD (Ty.list (MSpec.t qp2)) (Prod.snd v15) (ixAt none (Int.toNat (↑(Prod.fst v15) : Int)))] (0 : Nat)) (nthD (Ty.list (Ty.int .i64)) (Prod.snd v15) (ixAt none (Int.toNat v5))) (Int.toNat (↑(Prod.fst v13) : Int)))/\fits .i64 ((↑(Prod.fst v15) : Int) + (1 : Int))/\∃ (v20 : Nat × List (List Int)), qq0 (Prod.fst (Prod.snd (Prod.snd v13))) (Prod.fst (Prod.snd v13)) (Prod.fst v13) (Prod.fst v20) (Prod.snd v20)/\List.length (Prod.fst (Prod.snd (Prod.snd v13))) - Prod.fst v20 < List.length (Prod.fst (Prod.snd (Prod.snd v13))) - Prod.fst v15/\(True/\True/\True/\(↑(Prod.fst v15) : Int) + (1 : Int) = (↑(Prod.fst v20) : Int)/\True)/\(List.set (Prod.snd v15) (ixAt none (Int.toNat (↑(Prod.fst v15) : Int))) (nthD (Ty.list (MSpec.t qp2)) [qi2 (nL [nthD (Ty.list (MSpec.t qp2)) (Prod.snd v15) (ixAt none (Int.toNat (↑(Prod.fst v15) : Int)))] (0 : Nat)) (nthD (Ty.list (Ty.int .i64)) (Prod.snd v15) (ixAt none (Int.toNat v5))) (Int.toNat (↑(Prod.fst v13) : Int))] (0 : Nat)) = Prod.snd v20/\True/\T = T)/\Prod.snd (Prod.snd (Prod.snd v13)) = Prod.snd (Prod.snd (Prod.snd v13))/\((↑(Prod.fst v13) : Int) = (↑(Prod.fst v13) : Int)/\True)/\True/\True/\True/\True/\True/\True/\True/\True/\True/\True/\True/\True/\True/\True/\True/\True/\True/\True/\True/\True/\True/\True/\True/\True/\True/\True/\True/\True/\True)/\((nthD (Ty.int .i64) (nthD (Ty.list (Ty.int .i64)) (Prod.snd v15) (ixAt none (Int.toNat (↑(Prod.fst v15) : Int)))) (Int.toNat (↑(Prod.fst v13) : Int)) != (0 : Int)) = false->fits .i64 ((↑(Prod.fst v15) : Int) + (1 : Int))/\∃ (v20 : Nat × List (List Int)), qq0 (Prod.fst (Prod.snd (Prod.snd v13))) (Prod.fst (Prod.snd v13)) (Prod.fst v13) (Prod.fst v20) (Prod.snd v20)/\List.length (Prod.fst (Prod.snd (Prod.snd v13))) - Prod.fst v20 < List.length (Prod.fst (Prod.snd (Prod.snd v13))) - Prod.fst v15/\(True/\True/\True/\(↑(Prod.fst v15) : Int) + (1 : Int) = (↑(Prod.fst v20) : Int)/\True)/\(Prod.snd v15 = Prod.snd v20/\True/\T = T)/\Prod.snd (Prod.snd (Prod.snd v13)) = Prod.snd (Prod.snd (Prod.snd v13))/\((↑(Prod.fst v13) : Int) = (↑(Prod.fst v13) : Int)/\True)/\True/\True/\True/\True/\True/\True/\True/\True/\True/\True/\True/\True/\True/\True/\True/\True/\True/\True/\True/\True/\True/\True/\True/\True/\True/\True/\True/\True/\True))/\(((↑(Prod.fst v15) : Int) != v5) = false->fits .i64 ((↑(Prod.fst v15) : Int) + (1 : Int))/\∃ (v19 : Nat × List (List Int)), qq0 (Prod.fst (Prod.snd (Prod.snd v13))) (Prod.fst (Prod.snd v13)) (Prod.fst v13) (Prod.fst v19) (Prod.snd v19)/\List.length (Prod.fst (Prod.snd (Prod.snd v13))) - Prod.fst v19 < List.length (Prod.fst (Prod.snd (Prod.snd v13))) - Prod.fst v15/\(True/\True/\True/\(↑(Prod.fst v15) : Int) + (1 : Int) = (↑(Prod.fst v19) : Int)/\True)/\(Prod.snd v15 = Prod.snd v19/\True/\T = T)/\Prod.snd (Prod.snd (Prod.snd v13)) = Prod.snd (Prod.snd (Prod.snd v13))/\((↑(Prod.fst v13) : Int) = (↑(Prod.fst v13) : Int)/\True)/\True/\True/\True/\True/\True/\True/\True/\True/\True/\True/\True/\True/\True/\True/\True/\True/\True/\True/\True/\True/\True/\True/\True/\True/\True/\True/\True/\True/\True))/\(decide ((↑(Prod.fst v15) : Int) < (↑(ixLen (List.length (Prod.fst (Prod.snd v2))) (some (List.set (ixL (List.length (Prod.fst (Prod.snd v2))) (some (List.set (ixL (List.length (Prod.fst (Prod.snd v2))) none) (Int.toNat v5) (ixAt none (Int.toNat (v5 + v9)))))) (Int.toNat (v5 + v9)) (ixAt none (Int.toNat v5))))) : Int)) = false->((0 : Nat) < List.length [(↑(Prod.fst v13) : Int)]/\Nat.le (List.length (Prod.snd (Prod.snd (Prod.snd v13))) + List.length [(↑(Prod.fst v13) : Int)]) (1000000 : Nat))/\fits .i64 ((↑(Prod.fst v2) : Int) + (1 : Int))/\∃ (v18 : Nat × List (List Int) × List Int), q18 rows (Int.toNat c) (Prod.fst v18) (Prod.fst (Prod.snd v18)) (Prod.snd (Prod.snd v18))/\Int.toNat c - Prod.fst v18 < Int.toNat c - Prod.fst v2/\(True/\True/\(↑(Prod.fst v2) : Int) + (1 : Int) = (↑(Prod.fst v18) : Int)/\True)/\(Prod.snd v15 = Prod.fst (Prod.snd v18)/\True/\T = T)/\Prod.snd (Prod.snd (Prod.snd v13)) ++ [(↑(Prod.fst v13) : Int)] = Prod.snd (Prod.snd v18)/\True))))/\(decide ((↑(Prod.fst v2) : Int) < c) = false->Prod.fst (Prod.snd v2) = Prod.fst (qb4 rows (Int.toNat c))/\T = T/\True/\Prod.snd (Prod.snd v2) = Prod.snd (qb4 rows (Int.toNat c)))) (by kernel_rfl) ?_
  try simp only [z0,z1,z2,z3,z4,z5,z6,z7,z8,z9,z10,Int.reduceEq,z11,z12,z13,z14,z15,z16,z17,z18,z19,z20,z21,z22,z23,z24,z25,z26,z27,z28,z29,z30,Int.reduceLE,Int.reduceLT,z31,z32,z33,z34,nilEq_true]
  try simp only [qa4, qa5, qa8, List.set_cons_zero, List.cons.injEq, and_true, true_and]
  simp only [qn1, q19, q5a, q5b, qq1, q3h, qx9, q3i, List.length_set, List.length_range, List.take_length]
  obtain ⟨hc0, W, hR⟩ := h
  have hRn := hR.n
  have hRw := hR.w
  refine ⟨(), (0, rows, []), ⟨Nat.zero_le _, rfl⟩, ⟨rfl, rfl, rfl⟩, ?_⟩
  rintro ⟨j, r0, piv⟩ ⟨hjc, hj⟩
  dsimp only at hjc hj ⊢
  have hsh := qk3 hR j
  rw [hj] at hsh
  have hn := hsh.cnt
  have hpn := hsh.piv
  have hpj := hsh.pivj
  dsimp only at hn hpn hpj
  refine ⟨fun hlt => ?_, fun hge => ?_⟩
  · have hjl : j < c.toNat := by omega
    have hjW : j < W := by have := hR.cw; omega
    rintro k rfl
    have he := hsh.each
    dsimp only at he
    have hdrop : ∀ q, q < (r0.drop piv.length).length → j < (nL (r0.drop piv.length) q).length := fun q hq => by
      rw [List.length_drop] at hq
      have e : nL (r0.drop piv.length) q = nL r0 (piv.length + q) := by
        rw [qe3 _ _ (by rw [List.length_drop]; exact hq), qe3 _ _ (by omega)]; simp
      rw [e, he _ (by omega)]; exact hjW
    simp only [Int.toNat_natCast]
    refine ⟨⟨by omega, by omega, Nat.le_refl _⟩, fun x => j < x.1.length, fun x => nI x.1 j != 0, fun x hx => ⟨hx, rfl⟩, ⟨by rw [List.length_drop]; omega, hdrop⟩, ?_⟩
    rintro a ha
    have ha : a = qg8 r0 piv.length j := ha
    subst ha
    refine ⟨fun hneg => ?_, fun hpos => ?_⟩
    · refine ⟨fits64 (by omega) (by omega), (j + 1, r0, piv), ⟨by dsimp only; omega, ?_⟩, by dsimp only; omega, by dsimp only; omega, rfl, rfl⟩
      rw [qb4, hj, qh9, if_pos hneg]
    have hb := qk1 r0 piv.length j (by omega) hpos
    have hso : q57 r0 piv.length j := by have := hR.step j hjl; rw [hj] at this; exact this hpos
    have hse := qq3 (W := W) (by omega) hpos (fun i hi => he i (by omega))
    have hpe := qk2 (W := W) (by omega) hpos (fun i hi => he i (by omega))
    have hab : ((piv.length : Int) + qg8 r0 piv.length j).toNat = piv.length + (qg8 r0 piv.length j).toNat := by omega
    simp only [hab]
    have hgd := q5c r0.length piv.length (piv.length + (qg8 r0 piv.length j).toNat) (by omega) hb
    have hmap := swp_map r0 piv.length (piv.length + (qg8 r0 piv.length j).toNat) (by omega) hb
    have hnd := q3j r0.length piv.length (piv.length + (qg8 r0 piv.length j).toNat) (by omega) hb
    have hk1 : nL (swpR r0 piv.length j) piv.length = nL r0 (piv.length + (qg8 r0 piv.length j).toNat) := by
      unfold swpR
      rw [ql8 _ _ _ (by omega) hb _ (by omega)]
      split
      · rename_i e; rw [← e]
      · rw [if_pos rfl]
    simp only [hgd, hmap]
    rw [← hk1]
    have hsl := qo6 r0 piv.length j
    have hkW := hse piv.length (by omega)
    refine ⟨fits64 (by omega) (by omega), fits64 (by omega) (by omega), by omega, by omega, by omega, by omega, by omega, by omega, by omega, by omega, by omega, by omega, by omega, by omega, fun hng => ?_, fun hng => ?_⟩
    · refine ⟨by omega, by omega, (j, piv.length, swpR r0 piv.length j, piv), (0, swpR r0 piv.length j), ⟨Nat.zero_le _, ?_⟩, ⟨hnd, trivial⟩, ⟨rfl, rfl, rfl, rfl⟩, ?_⟩
      · dsimp only
        have e : ovr (.int .i64) (fun q => 0 - nI (nL (swpR r0 piv.length j) piv.length) q) (nL (swpR r0 piv.length j) piv.length) 0 = nL (swpR r0 piv.length j) piv.length := qg3 (.int .i64) _ _
        rw [e, qe3 _ _ (by omega), List.set_getElem_self]
      rintro ⟨i, r⟩ ⟨hi1, hi2⟩
      dsimp only at hi1 hi2 ⊢
      have hrl : r.length = r0.length := by rw [hi2, List.length_set, hsl]
      have hrk : nL r piv.length = ovr (.int .i64) (fun q => 0 - nI (nL (swpR r0 piv.length j) piv.length) q) (nL (swpR r0 piv.length j) piv.length) i := by
        rw [hi2, qv5 _ _ _ _ (by omega), if_pos rfl]
      have hrkl : (nL r piv.length).length = W := by rw [hrk, qf5]; exact hkW
      refine ⟨fun hlt => ?_, fun hge => ?_⟩
      · have hv : nI (nL r piv.length) i = nI (nL (swpR r0 piv.length j) piv.length) i := by
          rw [hrk]
          exact (ql6 (.int .i64) _ _ _ _ hlt).trans (if_neg (Nat.lt_irrefl _))
        have hbd : qd1 BIG (nI (nL (swpR r0 piv.length j) piv.length) i) := hso.neg _ (by rw [qd3 _ i hlt]; exact List.getElem_mem hlt)
        unfold qd1 BIG at hbd
        rw [hv]
        refine ⟨by omega, by omega, by omega, by omega, by omega, by omega, fits64 (by omega) (by omega), by omega, by omega, fits64 (by omega) (by omega), (i + 1, r.set piv.length ((nL r piv.length).set i (0 - nI (nL (swpR r0 piv.length j) piv.length) i))), ⟨by dsimp only; omega, ?_⟩, by dsimp only; omega, by dsimp only; omega, rfl⟩
        dsimp only
        have e := qf8 (.int .i64) (fun q => 0 - nI (nL (swpR r0 piv.length j) piv.length) q) (nL (swpR r0 piv.length j) piv.length) i
        rw [hrk]
        refine (congrArg (r.set piv.length) e).trans ?_
        rw [hi2, List.set_set]
      · have hprep : r = qd6 r0 piv.length j := by
          unfold qd6
          rw [if_pos hng, hi2]
          refine congrArg _ ?_
          exact qi7 (.int .i64) _ _ _ (by omega)
        refine ⟨(j, piv.length, qd6 r0 piv.length j, piv), (0, qd6 r0 piv.length j), ⟨Nat.zero_le _, (qg3 (.list (.int .i64)) _ _).symm⟩, ⟨rfl, hprep, rfl, rfl⟩, ?_⟩
        rw [hprep, qd4]
        rintro ⟨i, r⟩ ⟨hi1, hi2⟩
        dsimp only at hi1 hi2 ⊢
        have hpl := qd4 r0 piv.length j
        have hrl : r.length = r0.length := by rw [hi2, qf5, qd4]
        have hi1 : i ≤ r0.length := by rw [qd4] at hi1; exact hi1
        have hat : ∀ q, q < r0.length → nL r q = if q < i then clrR (qd6 r0 piv.length j) piv.length j q else nL (qd6 r0 piv.length j) q := fun q hq => by
          rw [hi2]; exact ql6 (.list (.int .i64)) _ _ _ _ (by rw [qd4]; exact hq)
        have hk2 : nL r piv.length = nL (qd6 r0 piv.length j) piv.length := by
          rw [hat _ (by omega)]
          split
          · exact qm0 _ _ _
          · rfl
        refine ⟨fun hlt => ?_, fun hge => ?_⟩
        · have hlt : i < r0.length := by omega
          have hri : nL r i = nL (qd6 r0 piv.length j) i := by rw [hat i hlt, if_neg (Nat.lt_irrefl _)]
          have hw := hpe i hlt
          refine ⟨by omega, by omega, fun hne => ⟨by rw [hri]; omega, by rw [hri]; omega, fun hnz => ?_, fun hz => ?_⟩, fun heq => ?_⟩
          · rw [hri] at hnz
            have hne : i ≠ piv.length := by omega
            have hcl := hso.clr i hlt hne hnz
            have hcr : clrR (qd6 r0 piv.length j) piv.length j i = qi2 (nL r i) (nL r piv.length) j := by
              unfold clrR; rw [if_pos ⟨hne, hnz⟩, hri, hk2]
            refine ⟨by omega, by omega, by omega, ?_, fits64 (by omega) (by omega), (i + 1, r.set i (qi2 (nL r i) (nL r piv.length) j)), ⟨by dsimp only; omega, ?_⟩, by dsimp only; omega, by dsimp only; omega, rfl⟩
            · show qx3 (nL r i) (nL r piv.length) j
              rw [hri, hk2]; exact hcl
            · dsimp only
              rw [← hcr, hi2]
              exact qf8 (.list (.int .i64)) _ _ _
          · refine ⟨fits64 (by omega) (by omega), (i + 1, r), ⟨by dsimp only; omega, ?_⟩, by dsimp only; omega, by dsimp only; omega, rfl⟩
            dsimp only
            rw [hi2]
            refine qo7 (.list (.int .i64)) _ _ _ fun _ => ?_
            unfold clrR
            rw [if_neg]
            · rfl
            · intro h2
              rw [hri] at hz
              exact h2.2 hz
          · refine ⟨fits64 (by omega) (by omega), (i + 1, r), ⟨by dsimp only; omega, ?_⟩, by dsimp only; omega, by dsimp only; omega, rfl⟩
            dsimp only
            rw [hi2]
            refine qo7 (.list (.int .i64)) _ _ _ fun _ => ?_
            have e : i = piv.length := by omega
            rw [e]
            exact qm0 _ _ _
        · obtain rfl : i = r0.length := by omega
          refine ⟨by omega, fits64 (by omega) (by omega), (j + 1, r, piv ++ [(j : Int)]), ⟨by omega, ?_⟩, by dsimp only; omega, by dsimp only; omega, rfl, rfl⟩
          rw [qb4, hj, qh9, if_neg (by dsimp only; omega), hi2]
          refine congrArg (·, _) ?_
          rw [← qd4 r0 piv.length j]
          exact (qi7 (.list (.int .i64)) _ _ _ (Nat.le_refl _)).symm
    · have hprep : swpR r0 piv.length j = qd6 r0 piv.length j := by unfold qd6; rw [if_neg (by omega)]
      refine ⟨(j, piv.length, qd6 r0 piv.length j, piv), (0, qd6 r0 piv.length j), ⟨Nat.zero_le _, (qg3 (.list (.int .i64)) _ _).symm⟩, ⟨hnd, trivial⟩, ⟨rfl, hprep, rfl, rfl⟩, ?_⟩
      rintro ⟨i, r⟩ ⟨hi1, hi2⟩
      dsimp only at hi1 hi2 ⊢
      have hpl := qd4 r0 piv.length j
      have hrl : r.length = r0.length := by rw [hi2, qf5, qd4]
      have hi1 : i ≤ r0.length := by rw [qd4] at hi1; exact hi1
      have hat : ∀ q, q < r0.length → nL r q = if q < i then clrR (qd6 r0 piv.length j) piv.length j q else nL (qd6 r0 piv.length j) q := fun q hq => by
        rw [hi2]; exact ql6 (.list (.int .i64)) _ _ _ _ (by rw [qd4]; exact hq)
      have hk2 : nL r piv.length = nL (qd6 r0 piv.length j) piv.length := by
        rw [hat _ (by omega)]
        split
        · exact qm0 _ _ _
        · rfl
      refine ⟨fun hlt => ?_, fun hge => ?_⟩
      · have hlt : i < r0.length := by omega
        have hri : nL r i = nL (qd6 r0 piv.length j) i := by rw [hat i hlt, if_neg (Nat.lt_irrefl _)]
        have hw := hpe i hlt
        refine ⟨by omega, by omega, fun hne => ⟨by rw [hri]; omega, by rw [hri]; omega, fun hnz => ?_, fun hz => ?_⟩, fun heq => ?_⟩
        · rw [hri] at hnz
          have hne : i ≠ piv.length := by omega
          have hcl := hso.clr i hlt hne hnz
          have hcr : clrR (qd6 r0 piv.length j) piv.length j i = qi2 (nL r i) (nL r piv.length) j := by
            unfold clrR; rw [if_pos ⟨hne, hnz⟩, hri, hk2]
          refine ⟨by omega, by omega, by omega, ?_, fits64 (by omega) (by omega), (i + 1, r.set i (qi2 (nL r i) (nL r piv.length) j)), ⟨by dsimp only; omega, ?_⟩, by dsimp only; omega, by dsimp only; omega, rfl⟩
          · show qx3 (nL r i) (nL r piv.length) j
            rw [hri, hk2]; exact hcl
          · dsimp only
            rw [← hcr, hi2]
            exact qf8 (.list (.int .i64)) _ _ _
        · refine ⟨fits64 (by omega) (by omega), (i + 1, r), ⟨by dsimp only; omega, ?_⟩, by dsimp only; omega, by dsimp only; omega, rfl⟩
          dsimp only
          rw [hi2]
          refine qo7 (.list (.int .i64)) _ _ _ fun _ => ?_
          unfold clrR
          rw [if_neg]
          · rfl
          · intro h2
            rw [hri] at hz
            exact h2.2 hz
        · refine ⟨fits64 (by omega) (by omega), (i + 1, r), ⟨by dsimp only; omega, ?_⟩, by dsimp only; omega, by dsimp only; omega, rfl⟩
          dsimp only
          rw [hi2]
          refine qo7 (.list (.int .i64)) _ _ _ fun _ => ?_
          have e : i = piv.length := by omega
          rw [e]
          exact qm0 _ _ _
      · obtain rfl : i = r0.length := by omega
        refine ⟨by omega, fits64 (by omega) (by omega), (j + 1, r, piv ++ [(j : Int)]), ⟨by omega, ?_⟩, by dsimp only; omega, by dsimp only; omega, rfl, rfl⟩
        rw [qb4, hj, qh9, if_neg (by dsimp only; omega), hi2]
        refine congrArg (·, _) ?_
        rw [← qd4 r0 piv.length j]
        exact (qi7 (.list (.int .i64)) _ _ _ (Nat.le_refl _)).symm
  · obtain rfl : j = c.toNat := by omega
    rw [hj]
    exact ⟨rfl, rfl⟩
end Go.Proofs.Ytdibdlelmkcccaa
