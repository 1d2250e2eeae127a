/- The reference's sets; equal lists and fits: contracts by the engine. No condition. -/
import Derived.Test.YtdibdlelmkcccaaV16
set_option linter.unusedVariables false
set_option linter.unusedSimpArgs false
namespace Go.Proofs.Ytdibdlelmkcccaa
open Go Go.RowKit Eng
theorem qw0 : Meets Try.prog 54 qp4 := by
  refine meets (snd (SpecsOk.nil _)) Try.func54 rfl rfl (fun _ _ => none) (fun _ => by kernel_rfl) (by decide) ?_
  rintro ⟨n, lo, hi, ⟨⟩⟩ -
  revert n lo hi
  intro (n : Int) (lo : Int) (hi : Int)
  refine by_vc (B := (decide (lo <= n) = true->decide (n <= hi) = inB n lo hi)/\(decide (lo <= n) = false->false = inB n lo hi)) (by kernel_rfl) ?_
  try simp only [z0,z1,z2,z3,z4,z5,z6,z7,z8,z9,z10,Int.reduceEq,z11,z12,z13,z14,z15,z16,z17,z18,z19,z20,z21,z22,z23,z24,z25,z26,z27,z28,z29,z30,Int.reduceLE,Int.reduceLT,z31,z32,z33,z34,nilEq_true]
  try simp only [qa4, qa5, qa8, List.set_cons_zero, List.cons.injEq, and_true, true_and]
  constructor
  · intro h1
    simp [inB, h1]
  · intro h1
    have : ¬ lo ≤ n := by omega
    simp [inB, this]
def ivEqI1 (a b : List (Ty.den (.int .i64))) : Nat → Option Inv
  | 0 => some (Inv.of [13] 0 (fun k : Nat => [(13, .lit (.int .i64 k))]) (fun _ => []) (fun k => k ≤ a.length ∧ ∀ i, i < k → nthD (.int .i64) a i = nthD (.int .i64) b i) (fun k => a.length - k))
  | _ => none
abbrev sEqI1 : FSpec := tspec true none [.list (.int .i64), .list (.int .i64)] [.bool] (fun x => x.1.length ≤ 1000000) (fun x => (decide (x.1 = x.2.1), ()))
theorem qt8 : Meets Try.prog 41 sEqI1 := by
  refine meets (snd (SpecsOk.nil _)) Try.func41 rfl rfl (fun x => ivEqI1 x.1 x.2.1) (fun _ => by kernel_rfl) (by decide) ?_
  rintro ⟨a, b, ⟨⟩⟩ h
  revert a b
  intro (a : List (Ty.den (.int .i64))) (b : List (Ty.den (.int .i64))) (h : a.length ≤ 1000000)
  refine by_vc (B := (((↑(List.length a) : Int) != (↑(List.length b) : Int)) = true->false = decide (a = b))/\(((↑(List.length a) : Int) != (↑(List.length b) : Int)) = false->∃ (v1 : Unit), ∃ (v2 : Nat), (v2 <= List.length a/\∀ (v3 : Nat), Nat.le (Nat.succ v3) v2->nthD (Ty.int .i64) a v3 = nthD (Ty.int .i64) b v3)/\(((0 : Int) = (↑v2 : Int)/\True)/\True)/\∀ (v3 : Nat), (v3 <= List.length a/\∀ (v5 : Nat), Nat.le (Nat.succ v5) v3->nthD (Ty.int .i64) a v5 = nthD (Ty.int .i64) b v5)->(decide ((↑v3 : Int) < (↑(List.length a) : Int)) = true->((0 : Int) <= (↑v3 : Int)/\(↑v3 : Int) < (↑(List.length a) : Int))/\((0 : Int) <= (↑v3 : Int)/\(↑v3 : Int) < (↑(List.length b) : Int))/\((nthD (Ty.int .i64) a (Int.toNat (↑v3 : Int)) != nthD (Ty.int .i64) b (Int.toNat (↑v3 : Int))) = true->false = decide (a = b))/\((nthD (Ty.int .i64) a (Int.toNat (↑v3 : Int)) != nthD (Ty.int .i64) b (Int.toNat (↑v3 : Int))) = false->fits .i64 ((↑v3 : Int) + (1 : Int))/\∃ (v7 : Nat), (v7 <= List.length a/\∀ (v8 : Nat), Nat.le (Nat.succ v8) v7->nthD (Ty.int .i64) a v8 = nthD (Ty.int .i64) b v8)/\List.length a - v7 < List.length a - v3/\((↑v3 : Int) + (1 : Int) = (↑v7 : Int)/\True)/\True))/\(decide ((↑v3 : Int) < (↑(List.length a) : Int)) = false->true = decide (a = b)))) (by kernel_rfl) ?_
  try simp only [z0,z1,z2,z3,z4,z5,z6,z7,z8,z9,z10,Int.reduceEq,z11,z12,z13,z14,z15,z16,z17,z18,z19,z20,z21,z22,z23,z24,z25,z26,z27,z28,z29,z30,Int.reduceLE,Int.reduceLT,z31,z32,z33,z34,nilEq_true]
  try simp only [qa4, qa5, qa8, List.set_cons_zero, List.cons.injEq, and_true, true_and]
  refine ⟨fun hl => ?_, fun hl => ?_⟩
  · rw [decide_eq_false]; intro e; subst e; exact hl rfl
  · refine ⟨(), 0, ⟨Nat.zero_le _, fun i hi => absurd hi (by omega)⟩, rfl, fun k ⟨hk, hall⟩ => ⟨fun hlt => ⟨hlt, by omega, fun hne => ?_, fun he => ⟨fits64 (by omega) (by omega), k + 1, ⟨by omega, fun i hi => ?_⟩, by omega, by omega⟩⟩, fun hge => ?_⟩⟩
    · rw [decide_eq_false]; intro e; subst e; first | exact hne rfl | (revert hne; simp)
    · by_cases e : i = k
      · subst e; first | exact he | (refine Prod.ext ?_ ?_ <;> simp_all)
      · exact hall i (by omega)
    · exact (decide_eq_true (qv9 _ a b (by omega) fun i hi => hall i (by omega))).symm
def ivEqR3 (a b : List (Ty.den (.prod (.int .i64) (.int .i64)))) : Nat → Option Inv
  | 0 => some (Inv.of [13] 0 (fun k : Nat => [(13, .lit (.int .i64 k))]) (fun _ => []) (fun k => k ≤ a.length ∧ ∀ i, i < k → nthD (.prod (.int .i64) (.int .i64)) a i = nthD (.prod (.int .i64) (.int .i64)) b i) (fun k => a.length - k))
  | _ => none
abbrev sEqR3 : FSpec := tspec true none [.list (.prod (.int .i64) (.int .i64)), .list (.prod (.int .i64) (.int .i64))] [.bool] (fun x => x.1.length ≤ 1000000) (fun x => (decide (x.1 = x.2.1), ()))
theorem q2j : Meets Try.prog 42 sEqR3 := by
  refine meets (snd (SpecsOk.nil _)) Try.func42 rfl rfl (fun x => ivEqR3 x.1 x.2.1) (fun _ => by kernel_rfl) (by decide) ?_
  rintro ⟨a, b, ⟨⟩⟩ h
  revert a b
  intro (a : List (Ty.den (.prod (.int .i64) (.int .i64)))) (b : List (Ty.den (.prod (.int .i64) (.int .i64)))) (h : a.length ≤ 1000000)
  refine by_vc (B := (((↑(List.length a) : Int) != (↑(List.length b) : Int)) = true->false = decide (a = b))/\(((↑(List.length a) : Int) != (↑(List.length b) : Int)) = false->∃ (v1 : Unit), ∃ (v2 : Nat), (v2 <= List.length a/\∀ (v3 : Nat), Nat.le (Nat.succ v3) v2->nthD (Ty.prod (Ty.int .i64) (Ty.int .i64)) a v3 = nthD (Ty.prod (Ty.int .i64) (Ty.int .i64)) b v3)/\(((0 : Int) = (↑v2 : Int)/\True)/\True)/\∀ (v3 : Nat), (v3 <= List.length a/\∀ (v5 : Nat), Nat.le (Nat.succ v5) v3->nthD (Ty.prod (Ty.int .i64) (Ty.int .i64)) a v5 = nthD (Ty.prod (Ty.int .i64) (Ty.int .i64)) b v5)->(decide ((↑v3 : Int) < (↑(List.length a) : Int)) = true->((0 : Int) <= (↑v3 : Int)/\(↑v3 : Int) < (↑(List.length a) : Int))/\((0 : Int) <= (↑v3 : Int)/\(↑v3 : Int) < (↑(List.length b) : Int))/\((!(Prod.fst (nthD (Ty.prod (Ty.int .i64) (Ty.int .i64)) a (Int.toNat (↑v3 : Int))) == Prod.fst (nthD (Ty.prod (Ty.int .i64) (Ty.int .i64)) b (Int.toNat (↑v3 : Int))) && Prod.snd (nthD (Ty.prod (Ty.int .i64) (Ty.int .i64)) a (Int.toNat (↑v3 : Int))) == Prod.snd (nthD (Ty.prod (Ty.int .i64) (Ty.int .i64)) b (Int.toNat (↑v3 : Int))))) = true->false = decide (a = b))/\((!(Prod.fst (nthD (Ty.prod (Ty.int .i64) (Ty.int .i64)) a (Int.toNat (↑v3 : Int))) == Prod.fst (nthD (Ty.prod (Ty.int .i64) (Ty.int .i64)) b (Int.toNat (↑v3 : Int))) && Prod.snd (nthD (Ty.prod (Ty.int .i64) (Ty.int .i64)) a (Int.toNat (↑v3 : Int))) == Prod.snd (nthD (Ty.prod (Ty.int .i64) (Ty.int .i64)) b (Int.toNat (↑v3 : Int))))) = false->fits .i64 ((↑v3 : Int) + (1 : Int))/\∃ (v7 : Nat), (v7 <= List.length a/\∀ (v8 : Nat), Nat.le (Nat.succ v8) v7->nthD (Ty.prod (Ty.int .i64) (Ty.int .i64)) a v8 = nthD (Ty.prod (Ty.int .i64) (Ty.int .i64)) b v8)/\List.length a - v7 < List.length a - v3/\((↑v3 : Int) + (1 : Int) = (↑v7 : Int)/\True)/\True))/\(decide ((↑v3 : Int) < (↑(List.length a) : Int)) = false->true = decide (a = b)))) (by kernel_rfl) ?_
  try simp only [z0,z1,z2,z3,z4,z5,z6,z7,z8,z9,z10,Int.reduceEq,z11,z12,z13,z14,z15,z16,z17,z18,z19,z20,z21,z22,z23,z24,z25,z26,z27,z28,z29,z30,Int.reduceLE,Int.reduceLT,z31,z32,z33,z34,nilEq_true]
  try simp only [qa4, qa5, qa8, List.set_cons_zero, List.cons.injEq, and_true, true_and]
  refine ⟨fun hl => ?_, fun hl => ?_⟩
  · rw [decide_eq_false]; intro e; subst e; exact hl rfl
  · refine ⟨(), 0, ⟨Nat.zero_le _, fun i hi => absurd hi (by omega)⟩, rfl, fun k ⟨hk, hall⟩ => ⟨fun hlt => ⟨hlt, by omega, fun hne => ?_, fun he => ⟨fits64 (by omega) (by omega), k + 1, ⟨by omega, fun i hi => ?_⟩, by omega, by omega⟩⟩, fun hge => ?_⟩⟩
    · rw [decide_eq_false]; intro e; subst e; first | exact hne rfl | (revert hne; simp)
    · by_cases e : i = k
      · subst e; first | exact he | (refine Prod.ext ?_ ?_ <;> simp_all)
      · exact hall i (by omega)
    · exact (decide_eq_true (qv9 _ a b (by omega) fun i hi => hall i (by omega))).symm
structure q33 (f : List Int × List (Int × Int)) : Prop where
  pix : f.1.length ≤ 1000000
  val : f.2.length ≤ 1000000
def q0i (f g : List Int × List (Int × Int)) : Bool := decide (f.1 = g.1) && decide (f.2 = g.2)
abbrev sSameF : FSpec := tspec true none [tFit, tFit] [.bool] (fun x => q33 x.1) (fun x => (q0i x.1 x.2.1, ()))
theorem q0j : Meets Try.prog 15 sSameF := by
  refine meets (snd (SpecsOk.cons qt8 (SpecsOk.cons q2j (SpecsOk.nil _)))) Try.func15 rfl rfl (fun _ _ => none) (fun _ => by kernel_rfl) (by decide) ?_
  rintro ⟨f, g, ⟨⟩⟩ h
  revert f g
  intro (f : List Int × List (Int × Int)) (g : List Int × List (Int × Int)) (h : q33 f)
  refine by_vc (B := List.length (Prod.fst f) <= (1000000 : Nat)/\(decide (Prod.fst f = Prod.fst g) = true->List.length (Prod.snd f) <= (1000000 : Nat)/\decide (Prod.snd f = Prod.snd g) = q0i f g)/\(decide (Prod.fst f = Prod.fst g) = false->false = q0i f g)) (by kernel_rfl) ?_
  try simp only [z0,z1,z2,z3,z4,z5,z6,z7,z8,z9,z10,Int.reduceEq,z11,z12,z13,z14,z15,z16,z17,z18,z19,z20,z21,z22,z23,z24,z25,z26,z27,z28,z29,z30,Int.reduceLE,Int.reduceLT,z31,z32,z33,z34,nilEq_true]
  try simp only [qa4, qa5, qa8, List.set_cons_zero, List.cons.injEq, and_true, true_and]
  exact ⟨h.pix, fun e => ⟨h.val, by simp [q0i, e]⟩, fun e => by simp [q0i, e]⟩
abbrev tFits : Ty := .list (.prod (.list (.int .i64)) (.list (.prod (.int .i64) (.int .i64))))
def nF (l : List (List Int × List (Int × Int))) (i : Nat) : List Int × List (Int × Int) := nthD (.prod (.list (.int .i64)) (.list (.prod (.int .i64) (.int .i64)))) l i
def qe4 (s : List Int) : Int := if 0 < s.length then nI s (s.length - 1) + 1 else 0
def qe6 (n : Nat) (s : List Int) : List (List Int) := (List.range ((n : Int) - qe4 s).toNat).map fun t : Nat => s ++ [qe4 s + t]
def qa6 (n : Nat) : Nat → List (List Int)
  | 0 => [[]]
  | k + 1 => if k < (qa6 n k).length then qa6 n k ++ qe6 n (nL (qa6 n k) k) else qa6 n k
def qe2 (n : Nat) : List (List Int) := qa6 n 128
theorem qt9 (n k : Nat) : ∀ j, ∃ t, qa6 n (k + j) = qa6 n k ++ t
  | 0 => ⟨[], by simp⟩
  | j + 1 => by
    obtain ⟨t, ht⟩ := qt9 n k j
    rw [← Nat.add_assoc, qa6]
    split
    · exact ⟨t ++ qe6 n (nL (qa6 n (k + j)) (k + j)), by rw [← List.append_assoc, ← ht]⟩
    · exact ⟨t, ht⟩
theorem qq9 {n k : Nat} (h : (qa6 n k).length ≤ k) : ∀ j, qa6 n (k + j) = qa6 n k
  | 0 => rfl
  | j + 1 => by
    have := qq9 h j
    rw [← Nat.add_assoc, qa6, this, if_neg (by omega)]
def q34 (n : Nat) : Bool := decide ((qa6 n 128).length ≤ 128) && (qa6 n 128).all fun s => decide (s.length ≤ 7) && s.all fun x => decide (0 ≤ x) && decide (x < n)
theorem q0k : ((List.range 8).all fun n => q34 n) = true := by decide +kernel
theorem q2k {n : Nat} (h : n ≤ 7) : (qa6 n 128).length ≤ 128 ∧ ∀ s ∈ qa6 n 128, s.length ≤ 7 ∧ ∀ x ∈ s, 0 ≤ x ∧ x < n := by
  have := List.all_eq_true.1 q0k n (List.mem_range.2 (by omega))
  unfold q34 at this
  rw [Bool.and_eq_true, decide_eq_true_eq, List.all_eq_true] at this
  refine ⟨this.1, fun s hs => ?_⟩
  have h2 := this.2 s hs
  rw [Bool.and_eq_true, decide_eq_true_eq, List.all_eq_true] at h2
  refine ⟨h2.1, fun x hx => ?_⟩
  have := h2.2 x hx
  simpa using this
theorem qm3 {n k : Nat} (h : n ≤ 7) (hk : k ≤ 128) : (qa6 n k).length ≤ 128 ∧ ∀ s ∈ qa6 n k, s.length ≤ 7 ∧ ∀ x ∈ s, 0 ≤ x ∧ x < n := by
  obtain ⟨t, ht⟩ := qt9 n k (128 - k)
  rw [show k + (128 - k) = 128 by omega] at ht
  have := q2k h
  rw [ht] at this
  refine ⟨by have := this.1; simp at this; omega, fun s hs => this.2 s (by simp [hs])⟩
abbrev sSetsR : FSpec := tspec false none [tInt] [qd2] (fun x => 0 ≤ x.1 ∧ x.1 ≤ 7) (fun x => (qe2 x.1.toNat, ()))
def ivSetsR (n : Nat) : Nat → Option Inv
  | 0 => some (Inv.of [3, 4] 1 (fun k : Nat => [(3, .own 0), (4, .lit (.int .i64 k))]) (fun k => [.vec 24 (.list (.int .i64)) (qa6 n k)]) (fun k => k ≤ 128) (fun k => 128 - k))
  | 1 => some (Eng.Inv.mk Nat Nat [3, 7] 1 (fun k t => [(3, .own 0), (7, .lit (.int .i64 (qe4 (nL (qa6 n k) k) + t)))]) (fun k t => [.vec 24 (.list (.int .i64)) (qa6 n k ++ (qe6 n (nL (qa6 n k) k)).take t)]) (fun k t => t ≤ (qe6 n (nL (qa6 n k) k)).length) (fun k t => (qe6 n (nL (qa6 n k) k)).length - t))
  | _ => none
theorem q0l : Meets Try.prog 90 sSetsR := by
  refine meets (sndLE [8] [38] (SpecsOk.nil _)) Try.func90 rfl rfl (fun x => ivSetsR x.1.toNat) (fun _ => by kernel_rfl) (by decide) ?_
  rintro ⟨n, ⟨⟩⟩ h
  revert n
  intro (n : Int) (h : 0 ≤ n ∧ n ≤ 7)
  refine by_vc (B := Value.slice none (0 : Nat) (0 : Nat) = Value.slice none (0 : Nat) (0 : Nat)/\∃ (v0 : Unit), ∃ (v1 : Nat), Nat.le v1 (128 : Nat)/\((True/\(0 : Int) = (↑v1 : Int)/\True)/\[[]] = qa6 (Int.toNat n) v1/\True)/\∀ (v2 : Nat), Nat.le v2 (128 : Nat)->(decide ((↑v2 : Int) < (↑(List.length (qa6 (Int.toNat n) v2)) : Int)) = true->((0 : Int) <= (↑v2 : Int)/\(↑v2 : Int) < (↑(List.length (qa6 (Int.toNat n) v2)) : Int))/\Int.toNat (↑v2 : Int) < List.length (qa6 (Int.toNat n) v2)/\(decide ((0 : Int) < (↑(List.length (nthD (Ty.list (Ty.int .i64)) (qa6 (Int.toNat n) v2) (Int.toNat (↑v2 : Int)))) : Int)) = true->fits .i64 ((↑(List.length (nthD (Ty.list (Ty.int .i64)) (qa6 (Int.toNat n) v2) (Int.toNat (↑v2 : Int)))) : Int) - (1 : Int))/\((0 : Int) <= (↑(List.length (nthD (Ty.list (Ty.int .i64)) (qa6 (Int.toNat n) v2) (Int.toNat (↑v2 : Int)))) : Int) - (1 : Int)/\(↑(List.length (nthD (Ty.list (Ty.int .i64)) (qa6 (Int.toNat n) v2) (Int.toNat (↑v2 : Int)))) : Int) - (1 : Int) < (↑(List.length (nthD (Ty.list (Ty.int .i64)) (qa6 (Int.toNat n) v2) (Int.toNat (↑v2 : Int)))) : Int))/\fits .i64 (nthD (Ty.int .i64) (nthD (Ty.list (Ty.int .i64)) (qa6 (Int.toNat n) v2) (Int.toNat (↑v2 : Int))) (Int.toNat ((↑(List.length (nthD (Ty.list (Ty.int .i64)) (qa6 (Int.toNat n) v2) (Int.toNat (↑v2 : Int)))) : Int) - (1 : Int))) + (1 : Int))/\∃ (v6 : Nat), ∃ (v7 : Nat), Nat.le v7 (List.length (qe6 (Int.toNat n) (nL (qa6 (Int.toNat n) v6) v6)))/\((True/\nthD (Ty.int .i64) (nthD (Ty.list (Ty.int .i64)) (qa6 (Int.toNat n) v2) (Int.toNat (↑v2 : Int))) (Int.toNat ((↑(List.length (nthD (Ty.list (Ty.int .i64)) (qa6 (Int.toNat n) v2) (Int.toNat (↑v2 : Int)))) : Int) - (1 : Int))) + (1 : Int) = qe4 (nL (qa6 (Int.toNat n) v6) v6) + (↑v7 : Int)/\True)/\qa6 (Int.toNat n) v2 = qa6 (Int.toNat n) v6 ++ List.take v7 (qe6 (Int.toNat n) (nL (qa6 (Int.toNat n) v6) v6))/\True)/\∀ (v8 : Nat), Nat.le v8 (List.length (qe6 (Int.toNat n) (nL (qa6 (Int.toNat n) v6) v6)))->(decide (qe4 (nL (qa6 (Int.toNat n) v6) v6) + (↑v8 : Int) < n) = true->Nat.le ((0 : Nat) + List.length (nthD (Ty.list (Ty.int .i64)) (qa6 (Int.toNat n) v2) (Int.toNat (↑v2 : Int)))) (1000000 : Nat)/\((0 : Nat) < List.length [qe4 (nL (qa6 (Int.toNat n) v6) v6) + (↑v8 : Int)]/\Nat.le (List.length ([] ++ nthD (Ty.list (Ty.int .i64)) (qa6 (Int.toNat n) v2) (Int.toNat (↑v2 : Int))) + List.length [qe4 (nL (qa6 (Int.toNat n) v6) v6) + (↑v8 : Int)]) (1000000 : Nat))/\((0 : Nat) < List.length [[] ++ nthD (Ty.list (Ty.int .i64)) (qa6 (Int.toNat n) v2) (Int.toNat (↑v2 : Int)) ++ [qe4 (nL (qa6 (Int.toNat n) v6) v6) + (↑v8 : Int)]]/\Nat.le (List.length (qa6 (Int.toNat n) v6 ++ List.take v8 (qe6 (Int.toNat n) (nL (qa6 (Int.toNat n) v6) v6))) + List.length [[] ++ nthD (Ty.list (Ty.int .i64)) (qa6 (Int.toNat n) v2) (Int.toNat (↑v2 : Int)) ++ [qe4 (nL (qa6 (Int.toNat n) v6) v6) + (↑v8 : Int)]]) (1000000 : Nat))/\fits .i64 (qe4 (nL (qa6 (Int.toNat n) v6) v6) + (↑v8 : Int) + (1 : Int))/\∃ (v11 : Nat), Nat.le v11 (List.length (qe6 (Int.toNat n) (nL (qa6 (Int.toNat n) v6) v6)))/\List.length (qe6 (Int.toNat n) (nL (qa6 (Int.toNat n) v6) v6)) - v11 < List.length (qe6 (Int.toNat n) (nL (qa6 (Int.toNat n) v6) v6)) - v8/\(True/\qe4 (nL (qa6 (Int.toNat n) v6) v6) + (↑v8 : Int) + (1 : Int) = qe4 (nL (qa6 (Int.toNat n) v6) v6) + (↑v11 : Int)/\True)/\qa6 (Int.toNat n) v6 ++ List.take v8 (qe6 (Int.toNat n) (nL (qa6 (Int.toNat n) v6) v6)) ++ [[] ++ nthD (Ty.list (Ty.int .i64)) (qa6 (Int.toNat n) v2) (Int.toNat (↑v2 : Int)) ++ [qe4 (nL (qa6 (Int.toNat n) v6) v6) + (↑v8 : Int)]] = qa6 (Int.toNat n) v6 ++ List.take v11 (qe6 (Int.toNat n) (nL (qa6 (Int.toNat n) v6) v6))/\True)/\(decide (qe4 (nL (qa6 (Int.toNat n) v6) v6) + (↑v8 : Int) < n) = false->fits .i64 ((↑v2 : Int) + (1 : Int))/\∃ (v11 : Nat), Nat.le v11 (128 : Nat)/\(128 : Nat) - v11 < (128 : Nat) - v2/\(True/\(↑v2 : Int) + (1 : Int) = (↑v11 : Int)/\True)/\qa6 (Int.toNat n) v6 ++ List.take v8 (qe6 (Int.toNat n) (nL (qa6 (Int.toNat n) v6) v6)) = qa6 (Int.toNat n) v11/\True))/\(decide ((0 : Int) < (↑(List.length (nthD (Ty.list (Ty.int .i64)) (qa6 (Int.toNat n) v2) (Int.toNat (↑v2 : Int)))) : Int)) = false->∃ (v6 : Nat), ∃ (v7 : Nat), Nat.le v7 (List.length (qe6 (Int.toNat n) (nL (qa6 (Int.toNat n) v6) v6)))/\((True/\(0 : Int) = qe4 (nL (qa6 (Int.toNat n) v6) v6) + (↑v7 : Int)/\True)/\qa6 (Int.toNat n) v2 = qa6 (Int.toNat n) v6 ++ List.take v7 (qe6 (Int.toNat n) (nL (qa6 (Int.toNat n) v6) v6))/\True)/\∀ (v8 : Nat), Nat.le v8 (List.length (qe6 (Int.toNat n) (nL (qa6 (Int.toNat n) v6) v6)))->(decide (qe4 (nL (qa6 (Int.toNat n) v6) v6) + (↑v8 : Int) < n) = true->Nat.le ((0 : Nat) + List.length (nthD (Ty.list (Ty.int .i64)) (qa6 (Int.toNat n) v2) (Int.toNat (↑v2 : Int)))) (1000000 : Nat)/\((0 : Nat) < List.length [qe4 (nL (qa6 (Int.toNat n) v6) v6) + (↑v8 : Int)]/\Nat.le (List.length ([] ++ nthD (Ty.list (Ty.int .i64)) (qa6 (Int.toNat n) v2) (Int.toNat (↑v2 : Int))) + List.length [qe4 (nL (qa6 (Int.toNat n) v6) v6) + (↑v8 : Int)]) (1000000 : Nat))/\((0 : Nat) < List.length [[] ++ nthD (Ty.list (Ty.int .i64)) (qa6 (Int.toNat n) v2) (Int.toNat (↑v2 : Int)) ++ [qe4 (nL (qa6 (Int.toNat n) v6) v6) + (↑v8 : Int)]]/\Nat.le (List.length (qa6 (Int.toNat n) v6 ++ List.take v8 (qe6 (Int.toNat n) (nL (qa6 (Int.toNat n) v6) v6))) + List.length [[] ++ nthD (Ty.list (Ty.int .i64)) (qa6 (Int.toNat n) v2) (Int.toNat (↑v2 : Int)) ++ [qe4 (nL (qa6 (Int.toNat n) v6) v6) + (↑v8 : Int)]]) (1000000 : Nat))/\fits .i64 (qe4 (nL (qa6 (Int.toNat n) v6) v6) + (↑v8 : Int) + (1 : Int))/\∃ (v11 : Nat), Nat.le v11 (List.length (qe6 (Int.toNat n) (nL (qa6 (Int.toNat n) v6) v6)))/\List.length (qe6 (Int.toNat n) (nL (qa6 (Int.toNat n) v6) v6)) - v11 < List.length (qe6 (Int.toNat n) (nL (qa6 (Int.toNat n) v6) v6)) - v8/\(True/\qe4 (nL (qa6 (Int.toNat n) v6) v6) + (↑v8 : Int) + (1 : Int) = qe4 (nL (qa6 (Int.toNat n) v6) v6) + (↑v11 : Int)/\True)/\qa6 (Int.toNat n) v6 ++ List.take v8 (qe6 (Int.toNat n) (nL (qa6 (Int.toNat n) v6) v6)) ++ [[] ++ nthD (Ty.list (Ty.int .i64)) (qa6 (Int.toNat n) v2) (Int.toNat (↑v2 : Int)) ++ [qe4 (nL (qa6 (Int.toNat n) v6) v6) + (↑v8 : Int)]] = qa6 (Int.toNat n) v6 ++ List.take v11 (qe6 (Int.toNat n) (nL (qa6 (Int.toNat n) v6) v6))/\True)/\(decide (qe4 (nL (qa6 (Int.toNat n) v6) v6) + (↑v8 : Int) < n) = false->fits .i64 ((↑v2 : Int) + (1 : Int))/\∃ (v11 : Nat), Nat.le v11 (128 : Nat)/\(128 : Nat) - v11 < (128 : Nat) - v2/\(True/\(↑v2 : Int) + (1 : Int) = (↑v11 : Int)/\True)/\qa6 (Int.toNat n) v6 ++ List.take v8 (qe6 (Int.toNat n) (nL (qa6 (Int.toNat n) v6) v6)) = qa6 (Int.toNat n) v11/\True)))/\(decide ((↑v2 : Int) < (↑(List.length (qa6 (Int.toNat n) v2)) : Int)) = false->qa6 (Int.toNat n) v2 = qe2 (Int.toNat n))) (by kernel_rfl) ?_
  try simp only [z0,z1,z2,z3,z4,z5,z6,z7,z8,z9,z10,Int.reduceEq,z11,z12,z13,z14,z15,z16,z17,z18,z19,z20,z21,z22,z23,z24,z25,z26,z27,z28,z29,z30,Int.reduceLE,Int.reduceLT,z31,z32,z33,z34,nilEq_true]
  try simp only [qa4, qa5, qa8, List.set_cons_zero, List.cons.injEq, and_true, true_and]
  obtain ⟨hn0, hn7⟩ := h
  have hnn : ((n.toNat : Nat) : Int) = n := by omega
  refine ⟨(), 0, Nat.zero_le _, ⟨by first | rfl | trivial, by first | rfl | trivial⟩, fun k hk => ⟨fun hlt0 => ?_, fun hge => ?_⟩⟩
  · have hall := qm3 (n := n.toNat) (by omega) hk
    obtain ⟨s, hs⟩ : ∃ s, nL (qa6 n.toNat k) k = s := ⟨_, rfl⟩
    have hsm := hall.2 s (by rw [← hs, qe3 _ k hlt0]; exact List.getElem_mem hlt0)
    have hl1 := hall.1
    have hsl := hsm.1
    simp only [hs]
    have hel : (qe6 n.toNat s).length = (n - qe4 s).toNat := by simp [qe6, hnn]
    refine ⟨hlt0, hlt0, fun h0 => ?_, fun h0 => ?_⟩
    · have hx := hsm.2 (nI s (s.length - 1)) (by rw [qd3 s _ (by omega)]; exact List.getElem_mem _)
      have e1 : ((s.length : Int) - 1).toNat = s.length - 1 := by omega
      rw [e1]
      have hfr : qe4 s = nI s (s.length - 1) + 1 := by unfold qe4; rw [if_pos (by omega)]
      refine ⟨fits64 (by omega) (by omega), ⟨by omega, by omega⟩, fits64 (by omega) (by omega), ?_⟩
      have hfb : 0 ≤ qe4 s ∧ qe4 s ≤ n := by omega
      refine ⟨k, 0, ?_⟩
      simp only [hs]
      refine ⟨Nat.zero_le _, ⟨by rw [hfr]; simp, by simp⟩, fun t ht => ⟨fun hlt => ⟨by omega, by omega, by rw [List.length_append, List.length_take]; omega, fits64 (by omega) (by omega), t + 1, by omega, by omega, by omega, ?_⟩, fun hge => ?_⟩⟩
      · rw [List.append_assoc, takeL_snoc _ t (by omega), qe3 (qe6 n.toNat s) t (by omega)]
        simp [qe6]
      · have e : t = (qe6 n.toNat s).length := by omega
        subst e
        refine ⟨fits64 (by omega) (by omega), k + 1, by omega, by omega, by omega, ?_⟩
        rw [List.take_length, qa6, if_pos hlt0, hs]
    · have hfr : qe4 s = 0 := by unfold qe4; rw [if_neg (by omega)]
      have hfb : 0 ≤ qe4 s ∧ qe4 s ≤ n := by omega
      refine ⟨k, 0, ?_⟩
      simp only [hs]
      refine ⟨Nat.zero_le _, ⟨by rw [hfr]; simp, by simp⟩, fun t ht => ⟨fun hlt => ⟨by omega, by omega, by rw [List.length_append, List.length_take]; omega, fits64 (by omega) (by omega), t + 1, by omega, by omega, by omega, ?_⟩, fun hge => ?_⟩⟩
      · rw [List.append_assoc, takeL_snoc _ t (by omega), qe3 (qe6 n.toNat s) t (by omega)]
        simp [qe6]
      · have e : t = (qe6 n.toNat s).length := by omega
        subst e
        refine ⟨fits64 (by omega) (by omega), k + 1, by omega, by omega, by omega, ?_⟩
        rw [List.take_length, qa6, if_pos hlt0, hs]
  · have := qq9 (n := n.toNat) (k := k) (by omega) (128 - k)
    rw [show k + (128 - k) = 128 by omega] at this
    exact this.symm
end Go.Proofs.Ytdibdlelmkcccaa
