/- Rows reduced: contract by the engine. No condition. -/
import Derived.Test.YtdibdlelmkcccaaV7
set_option linter.unusedVariables false
set_option linter.unusedSimpArgs false
namespace Go.Proofs.Ytdibdlelmkcccaa
open Go Go.RowKit Eng
abbrev xg6 : qc7 := hspec [] true none [.d qe1, .cap qf9] [.bool] (fun x => 0 <= x.2.1 /\ x.2.1 < x.1.length) (fun x => (nI x.1 x.2.1.toNat != 0, ()))
theorem wy5 : qd6 Try.prog 143 xg6 := by
  refine qs1 (SpecsOk.nil _) (snd (SpecsOk.nil _)) Try.func143 rfl rfl (fun _ _ => none) (fun _ => by kernel_rfl) (by decide) ?_
  rintro ⟨l, j, ⟨⟩⟩ h
  revert l j
  intro (l : List Int) (j : Int) (h : 0 <= j /\ j < l.length)
  refine qd7 (B := ((0:Int) <= j/\j < (↑(List.length l):Int))/\(qa1 (Ty.int .i64) l (Int.toNat j) != (0:Int))=(nI l (Int.toNat j) != (0:Int))) (by kernel_rfl) ?_
  try simp only [z0,z1,z2,z3,z4,z5,z6,z7,z8,z9,z10,Int.reduceEq,z11,z12,z13,z14,z15,z16,z17,z18,z19,z20,z21,z22,z23,z24,z25,z26,z27,z28,z29,z30,Int.reduceLE,Int.reduceLT,z31,z32,z33,z34,qa3]
  try simp only [qb4, qb5, qc9, List.set_cons_zero, List.cons.injEq, and_true, true_and]
  exact h
def qr1 (rows : List (List Int)) (k j : Nat) : Int := ixT (.list (.int .i64)) (fun r => nI r j != 0) (rows.drop k)
def wc2 (rows : List (List Int)) (a b : Nat) : List (List Int) := (rows.set a (nL rows b)).set b (nL rows a)
def w78 (r : List Int) : List Int := (List.range r.length).map fun i => 0 - nI r i
def q0p (rows : List (List Int)) (k j : Nat) : List (List Int) := wc2 rows k (k + (qr1 rows k j).toNat)
def qi2 (rows : List (List Int)) (k j : Nat) : List (List Int) := if nI (nL (q0p rows k j) k) j < 0 then (q0p rows k j).set k (w78 (nL (q0p rows k j) k)) else q0p rows k j
def q9p (rows : List (List Int)) (k j i : Nat) : List Int := if i ≠ k /\ nI (nL rows i) j ≠ 0 then qu6 (nL rows i) (nL rows k) j else nL rows i
def w5e (rows : List (List Int)) (k j : Nat) : List (List Int) := (List.range rows.length).map (q9p rows k j)
def qt7 (s : List (List Int) × List Int) (j : Nat) : List (List Int) × List Int := if qr1 s.1 s.2.length j < 0 then s else (w5e (qi2 s.1 s.2.length j) s.2.length j, s.2 ++ [(j : Int)])
def qd3 (rows : List (List Int)) : Nat -> List (List Int) × List Int
  | 0 => (rows, [])
  | j + 1 => qt7 (qd3 rows j) j
structure w79 (rows : List (List Int)) (k j : Nat) : Prop where
  neg : ∀ x ∈ nL (q0p rows k j) k, qh4 BIG x
  clr : ∀ i, i < rows.length -> i ≠ k -> nI (nL (qi2 rows k j) i) j ≠ 0 -> wb6 (nL (qi2 rows k j) i) (nL (qi2 rows k j) k) j
structure q5t (rows : List (List Int)) (cols W : Nat) : Prop where
  n : rows.length <= 1000
  w : W <= 1000
  cw : cols <= W
  each : ∀ i, i < rows.length -> (nL rows i).length = W
  step : ∀ j, j < cols -> 0 <= qr1 (qd3 rows j).1 (qd3 rows j).2.length j -> w79 (qd3 rows j).1 (qd3 rows j).2.length j
abbrev x0s : ql3 := w2w (q34 [qf9]) true false 24 3 (.int .i64) (fun rows x => 0 <= x.1 /\ ∃ W, q5t rows x.1.toNat W) (fun rows x => .dat (.int .i64) (qd3 rows x.1.toNat).2) (fun rows x => (qd3 rows x.1.toNat).1)
def w8a : List AObj := [.dead, .dead, .dead, .dead, .dead, .dead, .dead, .dead, .dead, .dead, .dead, .dead, .dead, .dead, .dead, .dead, .dead, .dead, .dead, .dead, .dead, .dead, .dead, .dead, .dead, .dead, .dead, .dead]
structure w6t (rows : List (List Int)) (k i : Nat) (r : List (List Int)) : Prop where
  le : i <= (nL rows k).length
  eq : r = rows.set k (ovr (.int .i64) (fun q => 0 - nI (nL rows k) q) (nL rows k) i)
structure q5u (rows : List (List Int)) (k j i : Nat) (r : List (List Int)) : Prop where
  le : i <= rows.length
  eq : r = ovr (.list (.int .i64)) (q9p rows k j) rows i
structure wy6 (R : List (List Int)) (c j : Nat) (r : List (List Int)) (p : List Int) : Prop where
  le : j <= c
  eq : qd3 R j = (r, p)
def xp5 (T : q6p) (R : List (List Int)) (c : Nat) : Nat -> Option Inv
  | 0 => some (Inv.of [0, 5, 13] 2 (fun s : Nat × List (List Int) × List Int => [(0, .msl 0 .none), (5, .own 1), (13, .lit (.int .i64 s.1))]) (fun s => [.mat 24 3 (.int .i64) s.2.1 .none (some T), .vec 3 (.int .i64) s.2.2]) (fun s => wy6 R c s.1 s.2.1 s.2.2) (fun s => c - s.1))
  | 1 => some (Eng.Inv.mk (Nat × Nat × List (List Int) × List Int) (Nat × List (List Int)) [0, 5, 56] 31 (fun _ s => [(0, .msl 0 .none), (5, .own 1), (56, .lit (.int .i64 s.1))]) (fun q s => .mat 24 3 (.int .i64) s.2 .none (some T) :: .vec 3 (.int .i64) q.2.2.2 :: .box 3 (.cons (.lit (.int .i64 q.1)) .nil) :: w8a) (fun q s => w6t q.2.2.1 q.2.1 s.1 s.2) (fun q s => (nL q.2.2.1 q.2.1).length - s.1))
  | 2 => some (Eng.Inv.mk (Nat × Nat × List (List Int) × List Int) (Nat × List (List Int)) [0, 5, 74, 76] 31 (fun _ s => [(0, .msl 0 .none), (5, .own 1), (74, .msl 0 .none), (76, .lit (.int .i64 s.1))]) (fun q s => .mat 24 3 (.int .i64) s.2 .none (some T) :: .vec 3 (.int .i64) q.2.2.2 :: .box 3 (.cons (.lit (.int .i64 q.1)) .nil) :: w8a) (fun q s => q5u q.2.2.1 q.2.1 q.1 s.1 s.2) (fun q s => q.2.2.1.length - s.1))
  | _ => none
theorem q3f (n : Nat) : qe7 n none = n := rfl
theorem wy7 (n : Nat) (l : List Nat) : qe7 n (some l) = l.length := rfl
theorem w6u (n : Nat) : ixL n none = List.range n := rfl
theorem w6v (n : Nat) (l : List Nat) : ixL n (some l) = l := rfl
theorem q5v (i : Nat) : qf3 none i = i := rfl
theorem w3j (l : List Nat) (i : Nat) : qf3 (some l) i = l.getD i 0 := rfl
theorem wc3 (r : List (List Int)) : q20 (.int .i64) r none = r := rfl
theorem w3k (r : List (List Int)) (l : List Nat) : q20 (.int .i64) r (some l) = l.map fun p => nL r p := rfl
theorem w6w (n k b : Nat) (hk : k < n) (hb : b < n) : (((List.range n).set k b).set b k).getD k 0 = b := by
  rw [List.getD_eq_getElem?_getD]
  by_cases e : b = k
  · subst e
    rw [List.getElem?_set_self (by simpa using hb)]; rfl
  · rw [List.getElem?_set_ne e, List.getElem?_set_self (by simpa using hk)]; rfl
theorem w3l (n k b : Nat) (hk : k < n) (hb : b < n) : (((List.range n).set k b).set b k).Nodup := by
  rw [List.nodup_iff_pairwise_ne, List.pairwise_iff_getElem]
  intro i j hi hj hij
  simp only [List.length_set, List.length_range] at hi hj
  simp only [List.getElem_set, List.getElem_range]
  split <;> split <;> (try split) <;> (try split) <;> omega
theorem w9q (r : List (List Int)) (k b : Nat) (hk : k < r.length) (hb : b < r.length) : ((((List.range r.length).set k b).set b k).map fun p => nL r p) = wc2 r k b := by
  apply List.ext_getElem (by simp [wc2])
  intro i h1 h2
  have hi : i < r.length := by simpa using h1
  simp only [List.getElem_map, List.getElem_set, List.getElem_range, wc2]
  split
  · rfl
  · split
    · rfl
    · exact qj9 r i hi
theorem wc4 (r : List (List Int)) (k b : Nat) : (wc2 r k b).length = r.length := by simp [wc2]
theorem q2q (r : List (List Int)) (k b : Nat) (hk : k < r.length) (hb : b < r.length) (i : Nat) (hi : i < r.length) : nL (wc2 r k b) i = if i = b then nL r k else if i = k then nL r b else nL r i := by
  rw [qj9 _ i (by rw [wc4]; exact hi)]
  simp only [wc2, List.getElem_set]
  by_cases e : b = i
  · rw [if_pos e, if_pos e.symm]
  · rw [if_neg e, if_neg (Ne.symm e)]
    by_cases e2 : k = i
    · rw [if_pos e2, if_pos e2.symm]
    · rw [if_neg e2, if_neg (Ne.symm e2), qj9 r i hi]
theorem q7j (l : List Int) : (qe2 l).length = l.length := by unfold qe2; split <;> simp
theorem q7k (r b : List Int) (c : Nat) : (qu6 r b c).length = r.length := by unfold qu6; rw [q7j, q0m]
theorem q85 (r : List Int) : (w78 r).length = r.length := by simp [w78]
theorem q4i (r : List (List Int)) (k j : Nat) : (q0p r k j).length = r.length := wc4 _ _ _
theorem qh9 (r : List (List Int)) (k j : Nat) : (qi2 r k j).length = r.length := by
  unfold qi2; split
  · rw [List.length_set, q4i]
  · rw [q4i]
theorem q86 (r : List (List Int)) (k : Nat) (x : List Int) (i : Nat) (hi : i < r.length) : nL (r.set k x) i = if i = k then x else nL r i := by
  rw [qj9 _ i (by rw [List.length_set]; exact hi), List.getElem_set]
  by_cases e : k = i
  · rw [if_pos e, if_pos e.symm]
  · rw [if_neg e, if_neg (Ne.symm e), qj9 r i hi]
theorem q0q (r : List (List Int)) (k j : Nat) (hk : k <= r.length) (h : 0 <= qr1 r k j) : k + (qr1 r k j).toNat < r.length := by
  have := (w75 (.list (.int .i64)) (fun r => nI r j != 0) (r.drop k)).1
  unfold qr1 at h ⊢
  rw [List.length_drop] at this
  omega
theorem q2r (r : List (List Int)) (k j i : Nat) (hi : i < r.length) : nL (qi2 r k j) i = if i = k /\ nI (nL (q0p r k j) k) j < 0 then w78 (nL (q0p r k j) k) else nL (q0p r k j) i := by
  unfold qi2
  split
  · rename_i h
    rw [q86 _ _ _ _ (by rw [q4i]; exact hi)]
    by_cases e : i = k
    · rw [if_pos e, if_pos ⟨e, h⟩]
    · rw [if_neg e, if_neg fun q => e q.1]
  · rename_i h
    rw [if_neg fun q => h q.2]
theorem q87 (r : List (List Int)) (k j : Nat) : (w5e r k j).length = r.length := by simp [w5e]
theorem w3m (r : List (List Int)) (k j i : Nat) (hi : i < r.length) : nL (w5e r k j) i = q9p r k j i := by
  rw [qj9 _ i (by rw [q87]; exact hi)]; simp [w5e]
structure RedSh (n W : Nat) (s : List (List Int) × List Int) (j : Nat) : Prop where
  cnt : s.1.length = n
  each : ∀ i, i < n -> (nL s.1 i).length = W
  piv : s.2.length <= n
  pivj : s.2.length <= j
theorem q5w {r : List (List Int)} {k j W : Nat} (hk : k <= r.length) (h : 0 <= qr1 r k j) (he : ∀ i, i < r.length -> (nL r i).length = W) : ∀ i, i < r.length -> (nL (q0p r k j) i).length = W := fun i hi => by
  have hb := q0q r k j hk h
  unfold q0p
  rw [q2q _ _ _ (by omega) hb i hi]
  split
  · exact he _ (by omega)
  · split
    · exact he _ hb
    · exact he _ hi
theorem q0r {r : List (List Int)} {k j W : Nat} (hk : k <= r.length) (h : 0 <= qr1 r k j) (he : ∀ i, i < r.length -> (nL r i).length = W) : ∀ i, i < r.length -> (nL (qi2 r k j) i).length = W := fun i hi => by
  have hb := q0q r k j hk h
  have h1 := q5w hk h he
  rw [q2r _ _ _ _ hi]
  split
  · rw [q85]; exact h1 _ (by omega)
  · exact h1 _ hi
theorem RedSh.step {n W j : Nat} {s : List (List Int) × List Int} (h : RedSh n W s j) : RedSh n W (qt7 s j) (j + 1) := by
  unfold qt7
  split
  · exact ⟨h.cnt, h.each, h.piv, by have := h.pivj; omega⟩
  · rename_i hp
    have hp : 0 <= qr1 s.1 s.2.length j := by omega
    have hn := h.cnt
    have hb := q0q s.1 s.2.length j (by rw [hn]; exact h.piv) hp
    have he := q0r (W := W) (by rw [hn]; exact h.piv) hp (fun i hi => h.each i (by omega))
    refine ⟨by rw [q87, qh9]; exact hn, fun i hi => ?_, ?_, ?_⟩
    · rw [w3m _ _ _ _ (by rw [qh9]; omega)]
      unfold q9p
      split
      · rw [q7k]; exact he i (by omega)
      · exact he i (by omega)
    · rw [List.length_append]; simp; omega
    · rw [List.length_append]; have := h.pivj; simp; omega
theorem q0s {R : List (List Int)} {c W : Nat} (h : q5t R c W) : ∀ j, RedSh R.length W (qd3 R j) j
  | 0 => ⟨rfl, h.each, Nat.zero_le _, Nat.le_refl _⟩
  | j + 1 => (q0s h j).step
theorem q2s (r : List (List Int)) (k j : Nat) : q9p r k j k = nL r k := by unfold q9p; rw [if_neg]; exact fun h => h.1 rfl
theorem q4j (t : Ty) (g : Nat -> t.den) (l : List t.den) (k : Nat) (h : k < l.length -> g k = qa1 t l k) : ovr t g l k = ovr t g l (k + 1) := by
  unfold ovr
  apply List.map_congr_left
  intro i hi
  have hi := List.mem_range.1 hi
  by_cases e : i = k
  · subst e; rw [if_neg (Nat.lt_irrefl _), if_pos (by omega), h hi]
  · by_cases h2 : i < k
    · rw [if_pos h2, if_pos (by omega)]
    · rw [if_neg h2, if_neg (by omega)]
theorem q5x : qy7 Try.prog 116 x0s := by
  refine wq3 (xo4 [17, 22] (SpecsOk.cons (wb7 (fs := [(143, xg6)]) (SpecsOk.cons wy5 (SpecsOk.nil _))) (SpecsOk.nil _)) (MutsOk.cons wi6 MutsOk.nil)) Try.func116 rfl rfl (qw7 [qf9]) (fun T rows x => xp5 T rows x.1.toNat) (fun _ _ _ => by kernel_rfl) (by decide) ?_ rfl
  rintro T rows ⟨c, ⟨⟩⟩ h -
  revert rows c
  intro (rows : List (List Int)) (c : Int) (h : 0 <= c /\ ∃ W, q5t rows c.toNat W)
  refine qd7 (B := ∃ (v0:Unit),∃ (v1 : Nat × List (List Int) × List Int),wy6 rows (Int.toNat c) (Prod.fst v1) (Prod.fst (Prod.snd v1)) (Prod.snd (Prod.snd v1))/\((True/\True/\(0:Int)=(↑(Prod.fst v1):Int)/\True)/\(rows=Prod.fst (Prod.snd v1)/\True/\T=T)/\Prod.snd (Prod.snd v1)=[]/\True)/\∀ (v2 : Nat × List (List Int) × List Int),wy6 rows (Int.toNat c) (Prod.fst v2) (Prod.fst (Prod.snd v2)) (Prod.snd (Prod.snd v2))->(decide ((↑(Prod.fst v2):Int) < c)=true->∀ (v5:Int),v5=(↑(List.length (Prod.snd (Prod.snd v2))):Int)->((0:Int) <= v5/\v5 <= (↑(qe7 (List.length (Prod.fst (Prod.snd v2))) none):Int)/\(↑(qe7 (List.length (Prod.fst (Prod.snd v2))) none):Int) <= (↑(qe7 (List.length (Prod.fst (Prod.snd v2))) none):Int))/\∃ (v7 : qa6 [Ty.list (Ty.int .i64)]->Prop),∃ (v8 : qa6 [Ty.list (Ty.int .i64)]->Bool),(∀ (v9 : List Int × qa6._f [] PUnit.unit),v7 v9->((0 : PTy.den (PTy.cap qf9)) <= (↑(Prod.fst v2):Int)/\(↑(Prod.fst v2):Int) < (↑(List.length (Prod.fst v9)) : PTy.den (PTy.cap qf9)))/\(nI (Prod.fst v9) (Int.toNat (↑(Prod.fst v2):Int)) != (0:Int))=v8 v9)/\(List.length (List.drop (Int.toNat v5) (List.take (Int.toNat (↑(qe7 (List.length (Prod.fst (Prod.snd v2))) none):Int)) (q20 (Ty.int .i64) (Prod.fst (Prod.snd v2)) none))) <= (1000000:Nat)/\∀ (v9:Nat),v9 < List.length (List.drop (Int.toNat v5) (List.take (Int.toNat (↑(qe7 (List.length (Prod.fst (Prod.snd v2))) none):Int)) (q20 (Ty.int .i64) (Prod.fst (Prod.snd v2)) none)))->v7 (qa1 (Ty.list (Ty.int .i64)) (List.drop (Int.toNat v5) (List.take (Int.toNat (↑(qe7 (List.length (Prod.fst (Prod.snd v2))) none):Int)) (q20 (Ty.int .i64) (Prod.fst (Prod.snd v2)) none))) v9,()))/\∀ (v9:Int),v9=ixT (Ty.list (Ty.int .i64)) (fun (v11 : List Int) => v8 (v11,())) (List.drop (Int.toNat v5) (List.take (Int.toNat (↑(qe7 (List.length (Prod.fst (Prod.snd v2))) none):Int)) (q20 (Ty.int .i64) (Prod.fst (Prod.snd v2)) none)))->(decide (v9 < (0:Int))=true->fits .i64 ((↑(Prod.fst v2):Int) + (1:Int))/\∃ (v12 : Nat × List (List Int) × List Int),wy6 rows (Int.toNat c) (Prod.fst v12) (Prod.fst (Prod.snd v12)) (Prod.snd (Prod.snd v12))/\Int.toNat c - Prod.fst v12 < Int.toNat c - Prod.fst v2/\(True/\True/\(↑(Prod.fst v2):Int) + (1:Int)=(↑(Prod.fst v12):Int)/\True)/\(Prod.fst (Prod.snd v2)=Prod.fst (Prod.snd v12)/\True/\T=T)/\Prod.snd (Prod.snd v2)=Prod.snd (Prod.snd v12)/\True)/\(decide (v9 < (0:Int))=false->fits .i64 (v5 + v9)/\fits .i64 (v5 + v9)/\((0:Int) <= v5 + v9/\v5 + v9 < (↑(qe7 (List.length (Prod.fst (Prod.snd v2))) none):Int))/\Int.toNat (v5 + v9) < qe7 (List.length (Prod.fst (Prod.snd v2))) none/\((0:Int) <= v5/\v5 < (↑(qe7 (List.length (Prod.fst (Prod.snd v2))) none):Int))/\Int.toNat v5 < qe7 (List.length (Prod.fst (Prod.snd v2))) none/\((0:Int) <= v5/\v5 < (↑(qe7 (List.length (Prod.fst (Prod.snd v2))) none):Int))/\Int.toNat v5 < qe7 (List.length (Prod.fst (Prod.snd v2))) none/\((0:Int) <= v5 + v9/\v5 + v9 < (↑(qe7 (List.length (Prod.fst (Prod.snd v2))) (some (List.set (ixL (List.length (Prod.fst (Prod.snd v2))) none) (Int.toNat v5) (qf3 none (Int.toNat (v5 + v9)))))):Int))/\Int.toNat (v5 + v9) < qe7 (List.length (Prod.fst (Prod.snd v2))) (some (List.set (ixL (List.length (Prod.fst (Prod.snd v2))) none) (Int.toNat v5) (qf3 none (Int.toNat (v5 + v9)))))/\((0:Int) <= v5/\v5 < (↑(qe7 (List.length (Prod.fst (Prod.snd v2))) (some (List.set (ixL (List.length (Prod.fst (Prod.snd v2))) (some (List.set (ixL (List.length (Prod.fst (Prod.snd v2))) none) (Int.toNat v5) (qf3 none (Int.toNat (v5 + v9)))))) (Int.toNat (v5 + v9)) (qf3 none (Int.toNat v5))))):Int))/\Int.toNat v5 < qe7 (List.length (Prod.fst (Prod.snd v2))) (some (List.set (ixL (List.length (Prod.fst (Prod.snd v2))) (some (List.set (ixL (List.length (Prod.fst (Prod.snd v2))) none) (Int.toNat v5) (qf3 none (Int.toNat (v5 + v9)))))) (Int.toNat (v5 + v9)) (qf3 none (Int.toNat v5))))/\((0:Int) <= (↑(Prod.fst v2):Int)/\(↑(Prod.fst v2):Int) < (↑(List.length (qa1 (Ty.list (Ty.int .i64)) (Prod.fst (Prod.snd v2)) (qf3 (some (List.set (ixL (List.length (Prod.fst (Prod.snd v2))) (some (List.set (ixL (List.length (Prod.fst (Prod.snd v2))) none) (Int.toNat v5) (qf3 none (Int.toNat (v5 + v9)))))) (Int.toNat (v5 + v9)) (qf3 none (Int.toNat v5)))) (Int.toNat v5)))):Int))/\Int.toNat (↑(Prod.fst v2):Int) < List.length (qa1 (Ty.list (Ty.int .i64)) (Prod.fst (Prod.snd v2)) (qf3 (some (List.set (ixL (List.length (Prod.fst (Prod.snd v2))) (some (List.set (ixL (List.length (Prod.fst (Prod.snd v2))) none) (Int.toNat v5) (qf3 none (Int.toNat (v5 + v9)))))) (Int.toNat (v5 + v9)) (qf3 none (Int.toNat v5)))) (Int.toNat v5)))/\(decide (qa1 (Ty.int .i64) (qa1 (Ty.list (Ty.int .i64)) (Prod.fst (Prod.snd v2)) (qf3 (some (List.set (ixL (List.length (Prod.fst (Prod.snd v2))) (some (List.set (ixL (List.length (Prod.fst (Prod.snd v2))) none) (Int.toNat v5) (qf3 none (Int.toNat (v5 + v9)))))) (Int.toNat (v5 + v9)) (qf3 none (Int.toNat v5)))) (Int.toNat v5))) (Int.toNat (↑(Prod.fst v2):Int)) < (0:Int))=true->((0:Int) <= v5/\v5 < (↑(qe7 (List.length (Prod.fst (Prod.snd v2))) (some (List.set (ixL (List.length (Prod.fst (Prod.snd v2))) (some (List.set (ixL (List.length (Prod.fst (Prod.snd v2))) none) (Int.toNat v5) (qf3 none (Int.toNat (v5 + v9)))))) (Int.toNat (v5 + v9)) (qf3 none (Int.toNat v5))))):Int))/\Int.toNat v5 < qe7 (List.length (Prod.fst (Prod.snd v2))) (some (List.set (ixL (List.length (Prod.fst (Prod.snd v2))) (some (List.set (ixL (List.length (Prod.fst (Prod.snd v2))) none) (Int.toNat v5) (qf3 none (Int.toNat (v5 + v9)))))) (Int.toNat (v5 + v9)) (qf3 none (Int.toNat v5))))/\∃ (v13 : Nat × Nat × List (List Int) × List Int),∃ (v14 : Nat × List (List Int)),w6t (Prod.fst (Prod.snd (Prod.snd v13))) (Prod.fst (Prod.snd v13)) (Prod.fst v14) (Prod.snd v14)/\(List.Nodup (List.set (ixL (List.length (Prod.fst (Prod.snd v2))) (some (List.set (ixL (List.length (Prod.fst (Prod.snd v2))) none) (Int.toNat v5) (qf3 none (Int.toNat (v5 + v9)))))) (Int.toNat (v5 + v9)) (qf3 none (Int.toNat v5)))/\List.length (List.set (ixL (List.length (Prod.fst (Prod.snd v2))) (some (List.set (ixL (List.length (Prod.fst (Prod.snd v2))) none) (Int.toNat v5) (qf3 none (Int.toNat (v5 + v9)))))) (Int.toNat (v5 + v9)) (qf3 none (Int.toNat v5)))=List.length (Prod.fst (Prod.snd v2)))/\((True/\True/\(0:Int)=(↑(Prod.fst v14):Int)/\True)/\(q20 (Ty.int .i64) (Prod.fst (Prod.snd v2)) (some (List.set (ixL (List.length (Prod.fst (Prod.snd v2))) (some (List.set (ixL (List.length (Prod.fst (Prod.snd v2))) none) (Int.toNat v5) (qf3 none (Int.toNat (v5 + v9)))))) (Int.toNat (v5 + v9)) (qf3 none (Int.toNat v5))))=Prod.snd v14/\True/\T=T)/\Prod.snd (Prod.snd v2)=Prod.snd (Prod.snd (Prod.snd v13))/\((↑(Prod.fst v2):Int)=(↑(Prod.fst v13):Int)/\True)/\True/\True/\True/\True/\True/\True/\True/\True/\True/\True/\True/\True/\True/\True/\True/\True/\True/\True/\True/\True/\True/\True/\True/\True/\True/\True/\True/\True/\True)/\∀ (v15 : Nat × List (List Int)),w6t (Prod.fst (Prod.snd (Prod.snd v13))) (Prod.fst (Prod.snd v13)) (Prod.fst v15) (Prod.snd v15)->(decide ((↑(Prod.fst v15):Int) < (↑(List.length (qa1 (Ty.list (Ty.int .i64)) (Prod.fst (Prod.snd v2)) (qf3 (some (List.set (ixL (List.length (Prod.fst (Prod.snd v2))) (some (List.set (ixL (List.length (Prod.fst (Prod.snd v2))) none) (Int.toNat v5) (qf3 none (Int.toNat (v5 + v9)))))) (Int.toNat (v5 + v9)) (qf3 none (Int.toNat v5)))) (Int.toNat v5)))):Int))=true->((0:Int) <= v5/\v5 < (↑(qe7 (List.length (Prod.snd v15)) none):Int))/\Int.toNat v5 < qe7 (List.length (Prod.snd v15)) none/\((0:Int) <= v5/\v5 < (↑(qe7 (List.length (Prod.snd v15)) none):Int))/\Int.toNat v5 < qe7 (List.length (Prod.snd v15)) none/\((0:Int) <= (↑(Prod.fst v15):Int)/\(↑(Prod.fst v15):Int) < (↑(List.length (qa1 (Ty.list (Ty.int .i64)) (Prod.snd v15) (qf3 none (Int.toNat v5)))):Int))/\Int.toNat (↑(Prod.fst v15):Int) < List.length (qa1 (Ty.list (Ty.int .i64)) (Prod.snd v15) (qf3 none (Int.toNat v5)))/\fits .i64 ((0:Int) - qa1 (Ty.int .i64) (qa1 (Ty.list (Ty.int .i64)) (Prod.snd v15) (qf3 none (Int.toNat v5))) (Int.toNat (↑(Prod.fst v15):Int)))/\((0:Int) <= (↑(Prod.fst v15):Int)/\(↑(Prod.fst v15):Int) < (↑(List.length (qa1 (Ty.list (Ty.int .i64)) (Prod.snd v15) (qf3 none (Int.toNat v5)))):Int))/\Int.toNat (↑(Prod.fst v15):Int) < List.length (qa1 (Ty.list (Ty.int .i64)) (Prod.snd v15) (qf3 none (Int.toNat v5)))/\fits .i64 ((↑(Prod.fst v15):Int) + (1:Int))/\∃ (v18 : Nat × List (List Int)),w6t (Prod.fst (Prod.snd (Prod.snd v13))) (Prod.fst (Prod.snd v13)) (Prod.fst v18) (Prod.snd v18)/\List.length (nL (Prod.fst (Prod.snd (Prod.snd v13))) (Prod.fst (Prod.snd v13))) - Prod.fst v18 < List.length (nL (Prod.fst (Prod.snd (Prod.snd v13))) (Prod.fst (Prod.snd v13))) - Prod.fst v15/\(True/\True/\(↑(Prod.fst v15):Int) + (1:Int)=(↑(Prod.fst v18):Int)/\True)/\(List.set (Prod.snd v15) (qf3 none (Int.toNat v5)) (List.set (qa1 (Ty.list (Ty.int .i64)) (Prod.snd v15) (qf3 none (Int.toNat v5))) (Int.toNat (↑(Prod.fst v15):Int)) ((0:Int) - qa1 (Ty.int .i64) (qa1 (Ty.list (Ty.int .i64)) (Prod.snd v15) (qf3 none (Int.toNat v5))) (Int.toNat (↑(Prod.fst v15):Int))))=Prod.snd v18/\True/\T=T)/\Prod.snd (Prod.snd (Prod.snd v13))=Prod.snd (Prod.snd (Prod.snd v13))/\((↑(Prod.fst v13):Int)=(↑(Prod.fst v13):Int)/\True)/\True/\True/\True/\True/\True/\True/\True/\True/\True/\True/\True/\True/\True/\True/\True/\True/\True/\True/\True/\True/\True/\True/\True/\True/\True/\True/\True/\True/\True)/\(decide ((↑(Prod.fst v15):Int) < (↑(List.length (qa1 (Ty.list (Ty.int .i64)) (Prod.fst (Prod.snd v2)) (qf3 (some (List.set (ixL (List.length (Prod.fst (Prod.snd v2))) (some (List.set (ixL (List.length (Prod.fst (Prod.snd v2))) none) (Int.toNat v5) (qf3 none (Int.toNat (v5 + v9)))))) (Int.toNat (v5 + v9)) (qf3 none (Int.toNat v5)))) (Int.toNat v5)))):Int))=false->∃ (v18 : Nat × Nat × List (List Int) × List Int),∃ (v19 : Nat × List (List Int)),q5u (Prod.fst (Prod.snd (Prod.snd v18))) (Prod.fst (Prod.snd v18)) (Prod.fst v18) (Prod.fst v19) (Prod.snd v19)/\((True/\True/\True/\(0:Int)=(↑(Prod.fst v19):Int)/\True)/\(Prod.snd v15=Prod.snd v19/\True/\T=T)/\Prod.snd (Prod.snd (Prod.snd v13))=Prod.snd (Prod.snd (Prod.snd v18))/\((↑(Prod.fst v13):Int)=(↑(Prod.fst v18):Int)/\True)/\True/\True/\True/\True/\True/\True/\True/\True/\True/\True/\True/\True/\True/\True/\True/\True/\True/\True/\True/\True/\True/\True/\True/\True/\True/\True/\True/\True/\True)/\∀ (v20 : Nat × List (List Int)),q5u (Prod.fst (Prod.snd (Prod.snd v18))) (Prod.fst (Prod.snd v18)) (Prod.fst v18) (Prod.fst v20) (Prod.snd v20)->(decide ((↑(Prod.fst v20):Int) < (↑(qe7 (List.length (Prod.snd v15)) none):Int))=true->((0:Int) <= (↑(Prod.fst v20):Int)/\(↑(Prod.fst v20):Int) < (↑(qe7 (List.length (Prod.snd v20)) none):Int))/\Int.toNat (↑(Prod.fst v20):Int) < qe7 (List.length (Prod.snd v20)) none/\(((↑(Prod.fst v20):Int) != v5)=true->((0:Int) <= (↑(Prod.fst v18):Int)/\(↑(Prod.fst v18):Int) < (↑(List.length (qa1 (Ty.list (Ty.int .i64)) (Prod.snd v20) (qf3 none (Int.toNat (↑(Prod.fst v20):Int))))):Int))/\Int.toNat (↑(Prod.fst v18):Int) < List.length (qa1 (Ty.list (Ty.int .i64)) (Prod.snd v20) (qf3 none (Int.toNat (↑(Prod.fst v20):Int))))/\((qa1 (Ty.int .i64) (qa1 (Ty.list (Ty.int .i64)) (Prod.snd v20) (qf3 none (Int.toNat (↑(Prod.fst v20):Int)))) (Int.toNat (↑(Prod.fst v18):Int)) != (0:Int))=true->((0:Int) <= v5/\v5 < (↑(qe7 (List.length (Prod.snd v20)) none):Int))/\Int.toNat v5 < qe7 (List.length (Prod.snd v20)) none/\qf3 none (Int.toNat v5) ≠ qf3 none (Int.toNat (↑(Prod.fst v20):Int))/\((0 : Ty.den qf9) <= (↑(Prod.fst v18):Int)/\wb6 (nL [qa1 (Ty.list (ql3.t q5n)) (Prod.snd v20) (qf3 none (Int.toNat (↑(Prod.fst v20):Int)))] (0:Nat)) (qa1 (Ty.list (Ty.int .i64)) (Prod.snd v20) (qf3 none (Int.toNat v5))) (Int.toNat (↑(Prod.fst v18):Int)))/\fits .i64 ((↑(Prod.fst v20):Int) + (1:Int))/\∃ (v25 : Nat × List (List Int)),q5u (Prod.fst (Prod.snd (Prod.snd v18))) (Prod.fst (Prod.snd v18)) (Prod.fst v18) (Prod.fst v25) (Prod.snd v25)/\List.length (Prod.fst (Prod.snd (Prod.snd v18))) - Prod.fst v25 < List.length (Prod.fst (Prod.snd (Prod.snd v18))) - Prod.fst v20/\(True/\True/\True/\(↑(Prod.fst v20):Int) + (1:Int)=(↑(Prod.fst v25):Int)/\True)/\(List.set (Prod.snd v20) (qf3 none (Int.toNat (↑(Prod.fst v20):Int))) (qa1 (Ty.list (ql3.t q5n)) [qu6 (nL [qa1 (Ty.list (ql3.t q5n)) (Prod.snd v20) (qf3 none (Int.toNat (↑(Prod.fst v20):Int)))] (0:Nat)) (qa1 (Ty.list (Ty.int .i64)) (Prod.snd v20) (qf3 none (Int.toNat v5))) (Int.toNat (↑(Prod.fst v18):Int))] (0:Nat))=Prod.snd v25/\True/\T=T)/\Prod.snd (Prod.snd (Prod.snd v18))=Prod.snd (Prod.snd (Prod.snd v18))/\((↑(Prod.fst v18):Int)=(↑(Prod.fst v18):Int)/\True)/\True/\True/\True/\True/\True/\True/\True/\True/\True/\True/\True/\True/\True/\True/\True/\True/\True/\True/\True/\True/\True/\True/\True/\True/\True/\True/\True/\True/\True)/\((qa1 (Ty.int .i64) (qa1 (Ty.list (Ty.int .i64)) (Prod.snd v20) (qf3 none (Int.toNat (↑(Prod.fst v20):Int)))) (Int.toNat (↑(Prod.fst v18):Int)) != (0:Int))=false->fits .i64 ((↑(Prod.fst v20):Int) + (1:Int))/\∃ (v25 : Nat × List (List Int)),q5u (Prod.fst (Prod.snd (Prod.snd v18))) (Prod.fst (Prod.snd v18)) (Prod.fst v18) (Prod.fst v25) (Prod.snd v25)/\List.length (Prod.fst (Prod.snd (Prod.snd v18))) - Prod.fst v25 < List.length (Prod.fst (Prod.snd (Prod.snd v18))) - Prod.fst v20/\(True/\True/\True/\(↑(Prod.fst v20):Int) + (1:Int)=(↑(Prod.fst v25):Int)/\True)/\(Prod.snd v20=Prod.snd v25/\True/\T=T)/\Prod.snd (Prod.snd (Prod.snd v18))=Prod.snd (Prod.snd (Prod.snd v18))/\((↑(Prod.fst v18):Int)=(↑(Prod.fst v18):Int)/\True)/\True/\True/\True/\True/\True/\True/\True/\True/\True/\True/\True/\True/\True/\True/\True/\True/\True/\True/\True/\True/\True/\True/\True/\True/\True/\True/\True/\True/\True))/\(((↑(Prod.fst v20):Int) != v5)=false->fits .i64 ((↑(Prod.fst v20):Int) + (1:Int))/\∃ (v24 : Nat × List (List Int)),q5u (Prod.fst (Prod.snd (Prod.snd v18))) (Prod.fst (Prod.snd v18)) (Prod.fst v18) (Prod.fst v24) (Prod.snd v24)/\List.length (Prod.fst (Prod.snd (Prod.snd v18))) - Prod.fst v24 < List.length (Prod.fst (Prod.snd (Prod.snd v18))) - Prod.fst v20/\(True/\True/\True/\(↑(Prod.fst v20):Int) + (1:Int)=(↑(Prod.fst v24):Int)/\True)/\(Prod.snd v20=Prod.snd v24/\True/\T=T)/\Prod.snd (Prod.snd (Prod.snd v18))=Prod.snd (Prod.snd (Prod.snd v18))/\((↑(Prod.fst v18):Int)=(↑(Prod.fst v18):Int)/\True)/\True/\True/\True/\True/\True/\True/\True/\True/\True/\True/\True/\True/\True/\True/\True/\True/\True/\True/\True/\True/\True/\True/\True/\True/\True/\True/\True/\True/\True))/\(decide ((↑(Prod.fst v20):Int) < (↑(qe7 (List.length (Prod.snd v15)) none):Int))=false->((0:Nat) < List.length [(↑(Prod.fst v18):Int)]/\Nat.le (List.length (Prod.snd (Prod.snd (Prod.snd v18))) + List.length [(↑(Prod.fst v18):Int)]) (1000000:Nat))/\fits .i64 ((↑(Prod.fst v2):Int) + (1:Int))/\∃ (v23 : Nat × List (List Int) × List Int),wy6 rows (Int.toNat c) (Prod.fst v23) (Prod.fst (Prod.snd v23)) (Prod.snd (Prod.snd v23))/\Int.toNat c - Prod.fst v23 < Int.toNat c - Prod.fst v2/\(True/\True/\(↑(Prod.fst v2):Int) + (1:Int)=(↑(Prod.fst v23):Int)/\True)/\(Prod.snd v20=Prod.fst (Prod.snd v23)/\True/\T=T)/\Prod.snd (Prod.snd (Prod.snd v18)) ++ [(↑(Prod.fst v18):Int)]=Prod.snd (Prod.snd v23)/\True)))/\(decide (qa1 (Ty.int .i64) (qa1 (Ty.list (Ty.int .i64)) (Prod.fst (Prod.snd v2)) (qf3 (some (List.set (ixL (List.length (Prod.fst (Prod.snd v2))) (some (List.set (ixL (List.length (Prod.fst (Prod.snd v2))) none) (Int.toNat v5) (qf3 none (Int.toNat (v5 + v9)))))) (Int.toNat (v5 + v9)) (qf3 none (Int.toNat v5)))) (Int.toNat v5))) (Int.toNat (↑(Prod.fst v2):Int)) < (0:Int))=false->∃ (v13 : Nat × Nat × List (List Int) × List Int),∃ (v14 : Nat × List (List Int)),q5u (Prod.fst (Prod.snd (Prod.snd v13))) (Prod.fst (Prod.snd v13)) (Prod.fst v13) (Prod.fst v14) (Prod.snd v14)/\(List.Nodup (List.set (ixL (List.length (Prod.fst (Prod.snd v2))) (some (List.set (ixL (List.length (Prod.fst (Prod.snd v2))) none) (Int.toNat v5) (qf3 none (Int.toNat (v5 + v9)))))) (Int.toNat (v5 + v9)) (qf3 none (Int.toNat v5)))/\List.length (List.set (ixL (List.length (Prod.fst (Prod.snd v2))) (some (List.set (ixL (List.length (Prod.fst (Prod.snd v2))) none) (Int.toNat v5) (qf3 none (Int.toNat (v5 + v9)))))) (Int.toNat (v5 + v9)) (qf3 none (Int.toNat v5)))=List.length (Prod.fst (Prod.snd v2)))/\((True/\True/\True/\(0:Int)=(↑(Prod.fst v14):Int)/\True)/\(q20 (Ty.int .i64) (Prod.fst (Prod.snd v2)) (some (List.set (ixL (List.length (Prod.fst (Prod.snd v2))) (some (List.set (ixL (List.length (Prod.fst (Prod.snd v2))) none) (Int.toNat v5) (qf3 none (Int.toNat (v5 + v9)))))) (Int.toNat (v5 + v9)) (qf3 none (Int.toNat v5))))=Prod.snd v14/\True/\T=T)/\Prod.snd (Prod.snd v2)=Prod.snd (Prod.snd (Prod.snd v13))/\((↑(Prod.fst v2):Int)=(↑(Prod.fst v13):Int)/\True)/\True/\True/\True/\True/\True/\True/\True/\True/\True/\True/\True/\True/\True/\True/\True/\True/\True/\True/\True/\True/\True/\True/\True/\True/\True/\True/\True/\True/\True)/\∀ (v15 : Nat × List (List Int)),q5u (Prod.fst (Prod.snd (Prod.snd v13))) (Prod.fst (Prod.snd v13)) (Prod.fst v13) (Prod.fst v15) (Prod.snd v15)->(decide ((↑(Prod.fst v15):Int) < (↑(qe7 (List.length (Prod.fst (Prod.snd v2))) (some (List.set (ixL (List.length (Prod.fst (Prod.snd v2))) (some (List.set (ixL (List.length (Prod.fst (Prod.snd v2))) none) (Int.toNat v5) (qf3 none (Int.toNat (v5 + v9)))))) (Int.toNat (v5 + v9)) (qf3 none (Int.toNat v5))))):Int))=true->((0:Int) <= (↑(Prod.fst v15):Int)/\(↑(Prod.fst v15):Int) < (↑(qe7 (List.length (Prod.snd v15)) none):Int))/\Int.toNat (↑(Prod.fst v15):Int) < qe7 (List.length (Prod.snd v15)) none/\(((↑(Prod.fst v15):Int) != v5)=true->((0:Int) <= (↑(Prod.fst v13):Int)/\(↑(Prod.fst v13):Int) < (↑(List.length (qa1 (Ty.list (Ty.int .i64)) (Prod.snd v15) (qf3 none (Int.toNat (↑(Prod.fst v15):Int))))):Int))/\Int.toNat (↑(Prod.fst v13):Int) < List.length (qa1 (Ty.list (Ty.int .i64)) (Prod.snd v15) (qf3 none (Int.toNat (↑(Prod.fst v15):Int))))/\((qa1 (Ty.int .i64) (qa1 (Ty.list (Ty.int .i64)) (Prod.snd v15) (qf3 none (Int.toNat (↑(Prod.fst v15):Int)))) (Int.toNat (↑(Prod.fst v13):Int)) != (0:Int))=true->((0:Int) <= v5/\v5 < (↑(qe7 (List.length (Prod.snd v15)) none):Int))/\Int.toNat v5 < qe7 (List.length (Prod.snd v15)) none/\qf3 none (Int.toNat v5) ≠ qf3 none (Int.toNat (↑(Prod.fst v15):Int))/\((0 : Ty.den qf9) <= (↑(Prod.fst v13):Int)/\wb6 (nL [qa1 (Ty.list (ql3.t q5n)) (Prod.snd v15) (qf3 none (Int.toNat (↑(Prod.fst v15):Int)))] (0:Nat)) (qa1 (Ty.list (Ty.int .i64)) (Prod.snd v15) (qf3 none (Int.toNat v5))) (Int.toNat (↑(Prod.fst v13):Int)))/\fits .i64 ((↑(Prod.fst v15):Int) + (1:Int))/\∃ (v20 : Nat × List (List Int)),q5u (Prod.fst (Prod.snd (Prod.snd v13))) (Prod.fst (Prod.snd v13)) (Prod.fst v13) (Prod.fst v20) (Prod.snd v20)/\List.length (Prod.fst (Prod.snd (Prod.snd v13))) - Prod.fst v20 < List.length (Prod.fst (Prod.snd (Prod.snd v13))) - Prod.fst v15/\(True/\True/\True/\(↑(Prod.fst v15):Int) + (1:Int)=(↑(Prod.fst v20):Int)/\True)/\(List.set (Prod.snd v15) (qf3 none (Int.toNat (↑(Prod.fst v15):Int))) (qa1 (Ty.list (ql3.t q5n)) [qu6 (nL [qa1 (Ty.list (ql3.t q5n)) (Prod.snd v15) (qf3 none (Int.toNat (↑(Prod.fst v15):Int)))] (0:Nat)) (qa1 (Ty.list (Ty.int .i64)) (Prod.snd v15) (qf3 none (Int.toNat v5))) (Int.toNat (↑(Prod.fst v13):Int))] (0:Nat))=Prod.snd v20/\True/\T=T)/\Prod.snd (Prod.snd (Prod.snd v13))=Prod.snd (Prod.snd (Prod.snd v13))/\((↑(Prod.fst v13):Int)=(↑(Prod.fst v13):Int)/\True)/\True/\True/\True/\True/\True/\True/\True/\True/\True/\True/\True/\True/\True/\True/\True/\True/\True/\True/\True/\True/\True/\True/\True/\True/\True/\True/\True/\True/\True)/\((qa1 (Ty.int .i64) (qa1 (Ty.list (Ty.int .i64)) (Prod.snd v15) (qf3 none (Int.toNat (↑(Prod.fst v15):Int)))) (Int.toNat (↑(Prod.fst v13):Int)) != (0:Int))=false->fits .i64 ((↑(Prod.fst v15):Int) + (1:Int))/\∃ (v20 : Nat × List (List Int)),q5u (Prod.fst (Prod.snd (Prod.snd v13))) (Prod.fst (Prod.snd v13)) (Prod.fst v13) (Prod.fst v20) (Prod.snd v20)/\List.length (Prod.fst (Prod.snd (Prod.snd v13))) - Prod.fst v20 < List.length (Prod.fst (Prod.snd (Prod.snd v13))) - Prod.fst v15/\(True/\True/\True/\(↑(Prod.fst v15):Int) + (1:Int)=(↑(Prod.fst v20):Int)/\True)/\(Prod.snd v15=Prod.snd v20/\True/\T=T)/\Prod.snd (Prod.snd (Prod.snd v13))=Prod.snd (Prod.snd (Prod.snd v13))/\((↑(Prod.fst v13):Int)=(↑(Prod.fst v13):Int)/\True)/\True/\True/\True/\True/\True/\True/\True/\True/\True/\True/\True/\True/\True/\True/\True/\True/\True/\True/\True/\True/\True/\True/\True/\True/\True/\True/\True/\True/\True))/\(((↑(Prod.fst v15):Int) != v5)=false->fits .i64 ((↑(Prod.fst v15):Int) + (1:Int))/\∃ (v19 : Nat × List (List Int)),q5u (Prod.fst (Prod.snd (Prod.snd v13))) (Prod.fst (Prod.snd v13)) (Prod.fst v13) (Prod.fst v19) (Prod.snd v19)/\List.length (Prod.fst (Prod.snd (Prod.snd v13))) - Prod.fst v19 < List.length (Prod.fst (Prod.snd (Prod.snd v13))) - Prod.fst v15/\(True/\True/\True/\(↑(Prod.fst v15):Int) + (1:Int)=(↑(Prod.fst v19):Int)/\True)/\(Prod.snd v15=Prod.snd v19/\True/\T=T)/\Prod.snd (Prod.snd (Prod.snd v13))=Prod.snd (Prod.snd (Prod.snd v13))/\((↑(Prod.fst v13):Int)=(↑(Prod.fst v13):Int)/\True)/\True/\True/\True/\True/\True/\True/\True/\True/\True/\True/\True/\True/\True/\True/\True/\True/\True/\True/\True/\True/\True/\True/\True/\True/\True/\True/\True/\True/\True))/\(decide ((↑(Prod.fst v15):Int) < (↑(qe7 (List.length (Prod.fst (Prod.snd v2))) (some (List.set (ixL (List.length (Prod.fst (Prod.snd v2))) (some (List.set (ixL (List.length (Prod.fst (Prod.snd v2))) none) (Int.toNat v5) (qf3 none (Int.toNat (v5 + v9)))))) (Int.toNat (v5 + v9)) (qf3 none (Int.toNat v5))))):Int))=false->((0:Nat) < List.length [(↑(Prod.fst v13):Int)]/\Nat.le (List.length (Prod.snd (Prod.snd (Prod.snd v13))) + List.length [(↑(Prod.fst v13):Int)]) (1000000:Nat))/\fits .i64 ((↑(Prod.fst v2):Int) + (1:Int))/\∃ (v18 : Nat × List (List Int) × List Int),wy6 rows (Int.toNat c) (Prod.fst v18) (Prod.fst (Prod.snd v18)) (Prod.snd (Prod.snd v18))/\Int.toNat c - Prod.fst v18 < Int.toNat c - Prod.fst v2/\(True/\True/\(↑(Prod.fst v2):Int) + (1:Int)=(↑(Prod.fst v18):Int)/\True)/\(Prod.snd v15=Prod.fst (Prod.snd v18)/\True/\T=T)/\Prod.snd (Prod.snd (Prod.snd v13)) ++ [(↑(Prod.fst v13):Int)]=Prod.snd (Prod.snd v18)/\True))))/\(decide ((↑(Prod.fst v2):Int) < c)=false->Prod.fst (Prod.snd v2)=Prod.fst (qd3 rows (Int.toNat c))/\T=T/\True/\Prod.snd (Prod.snd v2)=Prod.snd (qd3 rows (Int.toNat c)))) (by kernel_rfl) ?_
  try simp only [z0,z1,z2,z3,z4,z5,z6,z7,z8,z9,z10,Int.reduceEq,z11,z12,z13,z14,z15,z16,z17,z18,z19,z20,z21,z22,z23,z24,z25,z26,z27,z28,z29,z30,Int.reduceLE,Int.reduceLT,z31,z32,z33,z34,qa3]
  try simp only [qb4, qb5, qc9, List.set_cons_zero, List.cons.injEq, and_true, true_and]
  simp only [q3f, wy7, w6u, w6v, q5v, w3j, wc3, w3k, List.length_set, List.length_range, List.take_length]
  obtain ⟨hc0, W, hR⟩ := h
  have hRn := hR.n
  have hRw := hR.w
  refine ⟨(), (0, rows, []), ⟨Nat.zero_le _, rfl⟩, ⟨rfl, rfl, rfl⟩, ?_⟩
  rintro ⟨j, r0, piv⟩ ⟨hjc, hj⟩
  dsimp only at hjc hj ⊢
  have hsh := q0s hR j
  rw [hj] at hsh
  have hn := hsh.cnt
  have hpn := hsh.piv
  have hpj := hsh.pivj
  dsimp only at hn hpn hpj
  refine ⟨fun hlt => ?_, fun hge => ?_⟩
  · have hjl : j < c.toNat := by omega
    have hjW : j < W := by have := hR.cw; omega
    rintro k rfl
    have he := hsh.each
    dsimp only at he
    have hdrop : ∀ q, q < (r0.drop piv.length).length -> j < (nL (r0.drop piv.length) q).length := fun q hq => by
      rw [List.length_drop] at hq
      have e : nL (r0.drop piv.length) q = nL r0 (piv.length + q) := by
        rw [qj9 _ _ (by rw [List.length_drop]; exact hq), qj9 _ _ (by omega)]; simp
      rw [e, he _ (by omega)]; exact hjW
    simp only [Int.toNat_natCast]
    refine ⟨⟨by omega, by omega, Nat.le_refl _⟩, fun x => j < x.1.length, fun x => nI x.1 j != 0, fun x hx => ⟨hx, rfl⟩, ⟨by rw [List.length_drop]; omega, hdrop⟩, ?_⟩
    rintro a ha
    have ha : a = qr1 r0 piv.length j := ha
    subst ha
    refine ⟨fun hneg => ?_, fun hpos => ?_⟩
    · refine ⟨qa8 (by omega) (by omega), (j + 1, r0, piv), ⟨by dsimp only; omega, ?_⟩, by dsimp only; omega, by dsimp only; omega, rfl, rfl⟩
      rw [qd3, hj, qt7, if_pos hneg]
    have hb := q0q r0 piv.length j (by omega) hpos
    have hso : w79 r0 piv.length j := by have := hR.step j hjl; rw [hj] at this; exact this hpos
    have hse := q5w (W := W) (by omega) hpos (fun i hi => he i (by omega))
    have hpe := q0r (W := W) (by omega) hpos (fun i hi => he i (by omega))
    have hab : ((piv.length : Int) + qr1 r0 piv.length j).toNat = piv.length + (qr1 r0 piv.length j).toNat := by omega
    simp only [hab]
    have hgd := w6w r0.length piv.length (piv.length + (qr1 r0 piv.length j).toNat) (by omega) hb
    have hmap := w9q r0 piv.length (piv.length + (qr1 r0 piv.length j).toNat) (by omega) hb
    have hnd := w3l r0.length piv.length (piv.length + (qr1 r0 piv.length j).toNat) (by omega) hb
    have hk1 : nL (q0p r0 piv.length j) piv.length = nL r0 (piv.length + (qr1 r0 piv.length j).toNat) := by
      unfold q0p
      rw [q2q _ _ _ (by omega) hb _ (by omega)]
      split
      · rename_i e; rw [<- e]
      · rw [if_pos rfl]
    simp only [hgd, hmap]
    rw [<- hk1]
    have hsl := q4i r0 piv.length j
    have hkW := hse piv.length (by omega)
    refine ⟨qa8 (by omega) (by omega), qa8 (by omega) (by omega), by omega, by omega, by omega, by omega, by omega, by omega, by omega, by omega, by omega, by omega, by omega, by omega, fun hng => ?_, fun hng => ?_⟩
    · refine ⟨by omega, by omega, (j, piv.length, q0p r0 piv.length j, piv), (0, q0p r0 piv.length j), ⟨Nat.zero_le _, ?_⟩, ⟨hnd, trivial⟩, ⟨rfl, rfl, rfl, rfl⟩, ?_⟩
      · dsimp only
        have e : ovr (.int .i64) (fun q => 0 - nI (nL (q0p r0 piv.length j) piv.length) q) (nL (q0p r0 piv.length j) piv.length) 0 = nL (q0p r0 piv.length j) piv.length := qq8 (.int .i64) _ _
        rw [e, qj9 _ _ (by omega), List.set_getElem_self]
      rintro ⟨i, r⟩ ⟨hi1, hi2⟩
      dsimp only at hi1 hi2 ⊢
      have hrl : r.length = r0.length := by rw [hi2, List.length_set, hsl]
      have hrk : nL r piv.length = ovr (.int .i64) (fun q => 0 - nI (nL (q0p r0 piv.length j) piv.length) q) (nL (q0p r0 piv.length j) piv.length) i := by
        rw [hi2, q86 _ _ _ _ (by omega), if_pos rfl]
      have hrkl : (nL r piv.length).length = W := by rw [hrk, qo5]; exact hkW
      refine ⟨fun hlt => ?_, fun hge => ?_⟩
      · have hv : nI (nL r piv.length) i = nI (nL (q0p r0 piv.length j) piv.length) i := by
          rw [hrk]
          exact (q2n (.int .i64) _ _ _ _ hlt).trans (if_neg (Nat.lt_irrefl _))
        have hbd : qh4 BIG (nI (nL (q0p r0 piv.length j) piv.length) i) := hso.neg _ (by rw [qi1 _ i hlt]; exact List.getElem_mem hlt)
        unfold qh4 BIG at hbd
        rw [hv]
        refine ⟨by omega, by omega, by omega, by omega, by omega, by omega, qa8 (by omega) (by omega), by omega, by omega, qa8 (by omega) (by omega), (i + 1, r.set piv.length ((nL r piv.length).set i (0 - nI (nL (q0p r0 piv.length j) piv.length) i))), ⟨by dsimp only; omega, ?_⟩, by dsimp only; omega, by dsimp only; omega, rfl⟩
        dsimp only
        have e := qp2 (.int .i64) (fun q => 0 - nI (nL (q0p r0 piv.length j) piv.length) q) (nL (q0p r0 piv.length j) piv.length) i
        rw [hrk]
        refine (congrArg (r.set piv.length) e).trans ?_
        rw [hi2, List.set_set]
      · have hprep : r = qi2 r0 piv.length j := by
          unfold qi2
          rw [if_pos hng, hi2]
          refine congrArg _ ?_
          exact qw8 (.int .i64) _ _ _ (by omega)
        refine ⟨(j, piv.length, qi2 r0 piv.length j, piv), (0, qi2 r0 piv.length j), ⟨Nat.zero_le _, (qq8 (.list (.int .i64)) _ _).symm⟩, ⟨rfl, hprep, rfl, rfl⟩, ?_⟩
        rw [hprep, qh9]
        rintro ⟨i, r⟩ ⟨hi1, hi2⟩
        dsimp only at hi1 hi2 ⊢
        have hpl := qh9 r0 piv.length j
        have hrl : r.length = r0.length := by rw [hi2, qo5, qh9]
        have hi1 : i <= r0.length := by rw [qh9] at hi1; exact hi1
        have hat : ∀ q, q < r0.length -> nL r q = if q < i then q9p (qi2 r0 piv.length j) piv.length j q else nL (qi2 r0 piv.length j) q := fun q hq => by
          rw [hi2]; exact q2n (.list (.int .i64)) _ _ _ _ (by rw [qh9]; exact hq)
        have hk2 : nL r piv.length = nL (qi2 r0 piv.length j) piv.length := by
          rw [hat _ (by omega)]
          split
          · exact q2s _ _ _
          · rfl
        refine ⟨fun hlt => ?_, fun hge => ?_⟩
        · have hlt : i < r0.length := by omega
          have hri : nL r i = nL (qi2 r0 piv.length j) i := by rw [hat i hlt, if_neg (Nat.lt_irrefl _)]
          have hw := hpe i hlt
          refine ⟨by omega, by omega, fun hne => ⟨by rw [hri]; omega, by rw [hri]; omega, fun hnz => ?_, fun hz => ?_⟩, fun heq => ?_⟩
          · rw [hri] at hnz
            have hne : i ≠ piv.length := by omega
            have hcl := hso.clr i hlt hne hnz
            have hcr : q9p (qi2 r0 piv.length j) piv.length j i = qu6 (nL r i) (nL r piv.length) j := by
              unfold q9p; rw [if_pos ⟨hne, hnz⟩, hri, hk2]
            refine ⟨by omega, by omega, by omega, ?_, qa8 (by omega) (by omega), (i + 1, r.set i (qu6 (nL r i) (nL r piv.length) j)), ⟨by dsimp only; omega, ?_⟩, by dsimp only; omega, by dsimp only; omega, rfl⟩
            · show wb6 (nL r i) (nL r piv.length) j
              rw [hri, hk2]; exact hcl
            · dsimp only
              rw [<- hcr, hi2]
              exact qp2 (.list (.int .i64)) _ _ _
          · refine ⟨qa8 (by omega) (by omega), (i + 1, r), ⟨by dsimp only; omega, ?_⟩, by dsimp only; omega, by dsimp only; omega, rfl⟩
            dsimp only
            rw [hi2]
            refine q4j (.list (.int .i64)) _ _ _ fun _ => ?_
            unfold q9p
            rw [if_neg]
            · rfl
            · intro h2
              rw [hri] at hz
              exact h2.2 hz
          · refine ⟨qa8 (by omega) (by omega), (i + 1, r), ⟨by dsimp only; omega, ?_⟩, by dsimp only; omega, by dsimp only; omega, rfl⟩
            dsimp only
            rw [hi2]
            refine q4j (.list (.int .i64)) _ _ _ fun _ => ?_
            have e : i = piv.length := by omega
            rw [e]
            exact q2s _ _ _
        · obtain rfl : i = r0.length := by omega
          refine ⟨by omega, qa8 (by omega) (by omega), (j + 1, r, piv ++ [(j : Int)]), ⟨by omega, ?_⟩, by dsimp only; omega, by dsimp only; omega, rfl, rfl⟩
          rw [qd3, hj, qt7, if_neg (by dsimp only; omega), hi2]
          refine congrArg (·, _) ?_
          rw [<- qh9 r0 piv.length j]
          exact (qw8 (.list (.int .i64)) _ _ _ (Nat.le_refl _)).symm
    · have hprep : q0p r0 piv.length j = qi2 r0 piv.length j := by unfold qi2; rw [if_neg (by omega)]
      refine ⟨(j, piv.length, qi2 r0 piv.length j, piv), (0, qi2 r0 piv.length j), ⟨Nat.zero_le _, (qq8 (.list (.int .i64)) _ _).symm⟩, ⟨hnd, trivial⟩, ⟨rfl, hprep, rfl, rfl⟩, ?_⟩
      rintro ⟨i, r⟩ ⟨hi1, hi2⟩
      dsimp only at hi1 hi2 ⊢
      have hpl := qh9 r0 piv.length j
      have hrl : r.length = r0.length := by rw [hi2, qo5, qh9]
      have hi1 : i <= r0.length := by rw [qh9] at hi1; exact hi1
      have hat : ∀ q, q < r0.length -> nL r q = if q < i then q9p (qi2 r0 piv.length j) piv.length j q else nL (qi2 r0 piv.length j) q := fun q hq => by
        rw [hi2]; exact q2n (.list (.int .i64)) _ _ _ _ (by rw [qh9]; exact hq)
      have hk2 : nL r piv.length = nL (qi2 r0 piv.length j) piv.length := by
        rw [hat _ (by omega)]
        split
        · exact q2s _ _ _
        · rfl
      refine ⟨fun hlt => ?_, fun hge => ?_⟩
      · have hlt : i < r0.length := by omega
        have hri : nL r i = nL (qi2 r0 piv.length j) i := by rw [hat i hlt, if_neg (Nat.lt_irrefl _)]
        have hw := hpe i hlt
        refine ⟨by omega, by omega, fun hne => ⟨by rw [hri]; omega, by rw [hri]; omega, fun hnz => ?_, fun hz => ?_⟩, fun heq => ?_⟩
        · rw [hri] at hnz
          have hne : i ≠ piv.length := by omega
          have hcl := hso.clr i hlt hne hnz
          have hcr : q9p (qi2 r0 piv.length j) piv.length j i = qu6 (nL r i) (nL r piv.length) j := by
            unfold q9p; rw [if_pos ⟨hne, hnz⟩, hri, hk2]
          refine ⟨by omega, by omega, by omega, ?_, qa8 (by omega) (by omega), (i + 1, r.set i (qu6 (nL r i) (nL r piv.length) j)), ⟨by dsimp only; omega, ?_⟩, by dsimp only; omega, by dsimp only; omega, rfl⟩
          · show wb6 (nL r i) (nL r piv.length) j
            rw [hri, hk2]; exact hcl
          · dsimp only
            rw [<- hcr, hi2]
            exact qp2 (.list (.int .i64)) _ _ _
        · refine ⟨qa8 (by omega) (by omega), (i + 1, r), ⟨by dsimp only; omega, ?_⟩, by dsimp only; omega, by dsimp only; omega, rfl⟩
          dsimp only
          rw [hi2]
          refine q4j (.list (.int .i64)) _ _ _ fun _ => ?_
          unfold q9p
          rw [if_neg]
          · rfl
          · intro h2
            rw [hri] at hz
            exact h2.2 hz
        · refine ⟨qa8 (by omega) (by omega), (i + 1, r), ⟨by dsimp only; omega, ?_⟩, by dsimp only; omega, by dsimp only; omega, rfl⟩
          dsimp only
          rw [hi2]
          refine q4j (.list (.int .i64)) _ _ _ fun _ => ?_
          have e : i = piv.length := by omega
          rw [e]
          exact q2s _ _ _
      · obtain rfl : i = r0.length := by omega
        refine ⟨by omega, qa8 (by omega) (by omega), (j + 1, r, piv ++ [(j : Int)]), ⟨by omega, ?_⟩, by dsimp only; omega, by dsimp only; omega, rfl, rfl⟩
        rw [qd3, hj, qt7, if_neg (by dsimp only; omega), hi2]
        refine congrArg (·, _) ?_
        rw [<- qh9 r0 piv.length j]
        exact (qw8 (.list (.int .i64)) _ _ _ (Nat.le_refl _)).symm
  · obtain rfl : j = c.toNat := by omega
    rw [hj]
    exact ⟨rfl, rfl⟩
end Go.Proofs.Ytdibdlelmkcccaa
