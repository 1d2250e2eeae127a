/- The reference's sets; equal lists and fits: contracts by the engine. No condition. -/
import Derived.Test.YtdibdlelmkcccaaV16
set_option linter.unusedVariables false
set_option linter.unusedSimpArgs false
namespace Go.Proofs.Ytdibdlelmkcccaa
open Go Go.RowKit Eng
def ivEqI1 (a b : List (Ty.den (.int .i64))) : Nat → Option Inv
  | 0 => some (Inv.of [13] 0 (fun k : Nat => [(13, .lit (.int .i64 k))]) (fun _ => []) (fun k => k ≤ a.length ∧ ∀ i, i < k → nthD (.int .i64) a i = nthD (.int .i64) b i) (fun k => a.length - k))
  | _ => none
abbrev sEqI1 : FSpec := tspec true none [.list (.int .i64), .list (.int .i64)] [.bool] (fun x => x.1.length ≤ 1000000) (fun x => (decide (x.1 = x.2.1), ()))
theorem eqI1_meets : Meets Try.prog 41 sEqI1 := by
  refine meets (snd (SpecsOk.nil _)) Try.func41 rfl rfl (fun x => ivEqI1 x.1 x.2.1) (fun _ => by kernel_rfl) (by decide) ?_
  rintro ⟨a, b, ⟨⟩⟩ h
  revert a b
  intro (a : List (Ty.den (.int .i64))) (b : List (Ty.den (.int .i64))) (h : a.length ≤ 1000000)
  refine by_vc (B := (((↑(List.length a) : Int) != (↑(List.length b) : Int)) = true -> false = decide (a = b)) /\ (((↑(List.length a) : Int) != (↑(List.length b) : Int)) = false -> ∃ (v1 : Unit), ∃ (v2 : Nat), (v2 <= List.length a /\ ∀ (v3 : Nat), Nat.le (Nat.succ v3) v2 -> nthD (Ty.int .i64) a v3 = nthD (Ty.int .i64) b v3) /\ (((0 : Int) = (↑v2 : Int) /\ True) /\ True) /\ ∀ (v3 : Nat), (v3 <= List.length a /\ ∀ (v5 : Nat), Nat.le (Nat.succ v5) v3 -> nthD (Ty.int .i64) a v5 = nthD (Ty.int .i64) b v5) -> (decide ((↑v3 : Int) < (↑(List.length a) : Int)) = true -> ((0 : Int) <= (↑v3 : Int) /\ (↑v3 : Int) < (↑(List.length a) : Int)) /\ ((0 : Int) <= (↑v3 : Int) /\ (↑v3 : Int) < (↑(List.length b) : Int)) /\ ((nthD (Ty.int .i64) a (Int.toNat (↑v3 : Int)) != nthD (Ty.int .i64) b (Int.toNat (↑v3 : Int))) = true -> false = decide (a = b)) /\ ((nthD (Ty.int .i64) a (Int.toNat (↑v3 : Int)) != nthD (Ty.int .i64) b (Int.toNat (↑v3 : Int))) = false -> fits .i64 ((↑v3 : Int) + (1 : Int)) /\ ∃ (v7 : Nat), (v7 <= List.length a /\ ∀ (v8 : Nat), Nat.le (Nat.succ v8) v7 -> nthD (Ty.int .i64) a v8 = nthD (Ty.int .i64) b v8) /\ List.length a - v7 < List.length a - v3 /\ ((↑v3 : Int) + (1 : Int) = (↑v7 : Int) /\ True) /\ True)) /\ (decide ((↑v3 : Int) < (↑(List.length a) : Int)) = false -> true = decide (a = b)))) (by kernel_rfl) ?_
  try simp only [z0, z1, z2, z3, z4, z5, z6, z7, z8, z9, z10, Int.reduceEq, z11, z12, z13, z14, z15, z16, z17, z18, z19, z20, z21, z22, z23, z24, z25, z26, z27, z28, z29, z30, Int.reduceLE, Int.reduceLT, z31, z32, z33, z34, nilEq_true]
  try simp only [nthD_nI, nthD_nL, nL_one, List.set_cons_zero, List.cons.injEq, and_true, true_and]
  refine ⟨fun hl => ?_, fun hl => ?_⟩
  · rw [decide_eq_false]; intro e; subst e; exact hl rfl
  · refine ⟨(), 0, ⟨Nat.zero_le _, fun i hi => absurd hi (by omega)⟩, rfl, fun k ⟨hk, hall⟩ => ⟨fun hlt => ⟨hlt, by omega, fun hne => ?_, fun he => ⟨fits64 (by omega) (by omega), k + 1, ⟨by omega, fun i hi => ?_⟩, by omega, by omega⟩⟩, fun hge => ?_⟩⟩
    · rw [decide_eq_false]; intro e; subst e; first | exact hne rfl | (revert hne; simp)
    · by_cases e : i = k
      · subst e; first | exact he | (refine Prod.ext ?_ ?_ <;> simp_all)
      · exact hall i (by omega)
    · exact (decide_eq_true (nthD_ext _ a b (by omega) fun i hi => hall i (by omega))).symm
def ivEqR3 (a b : List (Ty.den (.prod (.int .i64) (.int .i64)))) : Nat → Option Inv
  | 0 => some (Inv.of [13] 0 (fun k : Nat => [(13, .lit (.int .i64 k))]) (fun _ => []) (fun k => k ≤ a.length ∧ ∀ i, i < k → nthD (.prod (.int .i64) (.int .i64)) a i = nthD (.prod (.int .i64) (.int .i64)) b i) (fun k => a.length - k))
  | _ => none
abbrev sEqR3 : FSpec := tspec true none [.list (.prod (.int .i64) (.int .i64)), .list (.prod (.int .i64) (.int .i64))] [.bool] (fun x => x.1.length ≤ 1000000) (fun x => (decide (x.1 = x.2.1), ()))
theorem eqR3_meets : Meets Try.prog 42 sEqR3 := by
  refine meets (snd (SpecsOk.nil _)) Try.func42 rfl rfl (fun x => ivEqR3 x.1 x.2.1) (fun _ => by kernel_rfl) (by decide) ?_
  rintro ⟨a, b, ⟨⟩⟩ h
  revert a b
  intro (a : List (Ty.den (.prod (.int .i64) (.int .i64)))) (b : List (Ty.den (.prod (.int .i64) (.int .i64)))) (h : a.length ≤ 1000000)
  refine by_vc (B := (((↑(List.length a) : Int) != (↑(List.length b) : Int)) = true -> false = decide (a = b)) /\ (((↑(List.length a) : Int) != (↑(List.length b) : Int)) = false -> ∃ (v1 : Unit), ∃ (v2 : Nat), (v2 <= List.length a /\ ∀ (v3 : Nat), Nat.le (Nat.succ v3) v2 -> nthD (Ty.prod (Ty.int .i64) (Ty.int .i64)) a v3 = nthD (Ty.prod (Ty.int .i64) (Ty.int .i64)) b v3) /\ (((0 : Int) = (↑v2 : Int) /\ True) /\ True) /\ ∀ (v3 : Nat), (v3 <= List.length a /\ ∀ (v5 : Nat), Nat.le (Nat.succ v5) v3 -> nthD (Ty.prod (Ty.int .i64) (Ty.int .i64)) a v5 = nthD (Ty.prod (Ty.int .i64) (Ty.int .i64)) b v5) -> (decide ((↑v3 : Int) < (↑(List.length a) : Int)) = true -> ((0 : Int) <= (↑v3 : Int) /\ (↑v3 : Int) < (↑(List.length a) : Int)) /\ ((0 : Int) <= (↑v3 : Int) /\ (↑v3 : Int) < (↑(List.length b) : Int)) /\ ((!(Prod.fst (nthD (Ty.prod (Ty.int .i64) (Ty.int .i64)) a (Int.toNat (↑v3 : Int))) == Prod.fst (nthD (Ty.prod (Ty.int .i64) (Ty.int .i64)) b (Int.toNat (↑v3 : Int))) && Prod.snd (nthD (Ty.prod (Ty.int .i64) (Ty.int .i64)) a (Int.toNat (↑v3 : Int))) == Prod.snd (nthD (Ty.prod (Ty.int .i64) (Ty.int .i64)) b (Int.toNat (↑v3 : Int))))) = true -> false = decide (a = b)) /\ ((!(Prod.fst (nthD (Ty.prod (Ty.int .i64) (Ty.int .i64)) a (Int.toNat (↑v3 : Int))) == Prod.fst (nthD (Ty.prod (Ty.int .i64) (Ty.int .i64)) b (Int.toNat (↑v3 : Int))) && Prod.snd (nthD (Ty.prod (Ty.int .i64) (Ty.int .i64)) a (Int.toNat (↑v3 : Int))) == Prod.snd (nthD (Ty.prod (Ty.int .i64) (Ty.int .i64)) b (Int.toNat (↑v3 : Int))))) = false -> fits .i64 ((↑v3 : Int) + (1 : Int)) /\ ∃ (v7 : Nat), (v7 <= List.length a /\ ∀ (v8 : Nat), Nat.le (Nat.succ v8) v7 -> nthD (Ty.prod (Ty.int .i64) (Ty.int .i64)) a v8 = nthD (Ty.prod (Ty.int .i64) (Ty.int .i64)) b v8) /\ List.length a - v7 < List.length a - v3 /\ ((↑v3 : Int) + (1 : Int) = (↑v7 : Int) /\ True) /\ True)) /\ (decide ((↑v3 : Int) < (↑(List.length a) : Int)) = false -> true = decide (a = b)))) (by kernel_rfl) ?_
  try simp only [z0, z1, z2, z3, z4, z5, z6, z7, z8, z9, z10, Int.reduceEq, z11, z12, z13, z14, z15, z16, z17, z18, z19, z20, z21, z22, z23, z24, z25, z26, z27, z28, z29, z30, Int.reduceLE, Int.reduceLT, z31, z32, z33, z34, nilEq_true]
  try simp only [nthD_nI, nthD_nL, nL_one, List.set_cons_zero, List.cons.injEq, and_true, true_and]
  refine ⟨fun hl => ?_, fun hl => ?_⟩
  · rw [decide_eq_false]; intro e; subst e; exact hl rfl
  · refine ⟨(), 0, ⟨Nat.zero_le _, fun i hi => absurd hi (by omega)⟩, rfl, fun k ⟨hk, hall⟩ => ⟨fun hlt => ⟨hlt, by omega, fun hne => ?_, fun he => ⟨fits64 (by omega) (by omega), k + 1, ⟨by omega, fun i hi => ?_⟩, by omega, by omega⟩⟩, fun hge => ?_⟩⟩
    · rw [decide_eq_false]; intro e; subst e; first | exact hne rfl | (revert hne; simp)
    · by_cases e : i = k
      · subst e; first | exact he | (refine Prod.ext ?_ ?_ <;> simp_all)
      · exact hall i (by omega)
    · exact (decide_eq_true (nthD_ext _ a b (by omega) fun i hi => hall i (by omega))).symm
structure FitLen (f : List Int × List (Int × Int)) : Prop where
  pix : f.1.length ≤ 1000000
  val : f.2.length ≤ 1000000
def sameF (f g : List Int × List (Int × Int)) : Bool := decide (f.1 = g.1) && decide (f.2 = g.2)
abbrev sSameF : FSpec := tspec true none [tFit, tFit] [.bool] (fun x => FitLen x.1) (fun x => (sameF x.1 x.2.1, ()))
theorem sameF_meets : Meets Try.prog 15 sSameF := by
  refine meets (snd (SpecsOk.cons eqI1_meets (SpecsOk.cons eqR3_meets (SpecsOk.nil _)))) Try.func15 rfl rfl (fun _ _ => none) (fun _ => by kernel_rfl) (by decide) ?_
  rintro ⟨f, g, ⟨⟩⟩ h
  revert f g
  intro (f : List Int × List (Int × Int)) (g : List Int × List (Int × Int)) (h : FitLen f)
  refine by_vc (B := List.length (Prod.fst f) <= (1000000 : Nat) /\ (decide (Prod.fst f = Prod.fst g) = true -> List.length (Prod.snd f) <= (1000000 : Nat) /\ decide (Prod.snd f = Prod.snd g) = sameF f g) /\ (decide (Prod.fst f = Prod.fst g) = false -> false = sameF f g)) (by kernel_rfl) ?_
  try simp only [z0, z1, z2, z3, z4, z5, z6, z7, z8, z9, z10, Int.reduceEq, z11, z12, z13, z14, z15, z16, z17, z18, z19, z20, z21, z22, z23, z24, z25, z26, z27, z28, z29, z30, Int.reduceLE, Int.reduceLT, z31, z32, z33, z34, nilEq_true]
  try simp only [nthD_nI, nthD_nL, nL_one, List.set_cons_zero, List.cons.injEq, and_true, true_and]
  exact ⟨h.pix, fun e => ⟨h.val, by simp [sameF, e]⟩, fun e => by simp [sameF, e]⟩
abbrev tFits : Ty := .list (.prod (.list (.int .i64)) (.list (.prod (.int .i64) (.int .i64))))
def nF (l : List (List Int × List (Int × Int))) (i : Nat) : List Int × List (Int × Int) := nthD (.prod (.list (.int .i64)) (.list (.prod (.int .i64) (.int .i64)))) l i
def fromI (s : List Int) : Int := if 0 < s.length then nI s (s.length - 1) + 1 else 0
def extsL (n : Nat) (s : List Int) : List (List Int) := (List.range ((n : Int) - fromI s).toNat).map fun t : Nat => s ++ [fromI s + t]
def setsTo (n : Nat) : Nat → List (List Int)
  | 0 => [[]]
  | k + 1 => if k < (setsTo n k).length then setsTo n k ++ extsL n (nL (setsTo n k) k) else setsTo n k
def setsA (n : Nat) : List (List Int) := setsTo n 128
theorem setsTo_pre (n k : Nat) : ∀ j, ∃ t, setsTo n (k + j) = setsTo n k ++ t
  | 0 => ⟨[], by simp⟩
  | j + 1 => by
    obtain ⟨t, ht⟩ := setsTo_pre n k j
    rw [← Nat.add_assoc, setsTo]
    split
    · exact ⟨t ++ extsL n (nL (setsTo n (k + j)) (k + j)), by rw [← List.append_assoc, ← ht]⟩
    · exact ⟨t, ht⟩
theorem setsTo_stop {n k : Nat} (h : (setsTo n k).length ≤ k) : ∀ j, setsTo n (k + j) = setsTo n k
  | 0 => rfl
  | j + 1 => by
    have := setsTo_stop h j
    rw [← Nat.add_assoc, setsTo, this, if_neg (by omega)]
def setsChk (n : Nat) : Bool := decide ((setsTo n 128).length ≤ 128) && (setsTo n 128).all fun s => decide (s.length ≤ 7) && s.all fun x => decide (0 ≤ x) && decide (x < n)
theorem setsChk_all : ((List.range 8).all fun n => setsChk n) = true := by decide +kernel
theorem setsChk_at {n : Nat} (h : n ≤ 7) : (setsTo n 128).length ≤ 128 ∧ ∀ s ∈ setsTo n 128, s.length ≤ 7 ∧ ∀ x ∈ s, 0 ≤ x ∧ x < n := by
  have := List.all_eq_true.1 setsChk_all n (List.mem_range.2 (by omega))
  unfold setsChk at this
  rw [Bool.and_eq_true, decide_eq_true_eq, List.all_eq_true] at this
  refine ⟨this.1, fun s hs => ?_⟩
  have h2 := this.2 s hs
  rw [Bool.and_eq_true, decide_eq_true_eq, List.all_eq_true] at h2
  refine ⟨h2.1, fun x hx => ?_⟩
  have := h2.2 x hx
  simpa using this
theorem setsTo_at {n k : Nat} (h : n ≤ 7) (hk : k ≤ 128) : (setsTo n k).length ≤ 128 ∧ ∀ s ∈ setsTo n k, s.length ≤ 7 ∧ ∀ x ∈ s, 0 ≤ x ∧ x < n := by
  obtain ⟨t, ht⟩ := setsTo_pre n k (128 - k)
  rw [show k + (128 - k) = 128 by omega] at ht
  have := setsChk_at h
  rw [ht] at this
  refine ⟨by have := this.1; simp at this; omega, fun s hs => this.2 s (by simp [hs])⟩
abbrev sSetsR : FSpec := tspec false none [tInt] [tMask] (fun x => 0 ≤ x.1 ∧ x.1 ≤ 7) (fun x => (setsA x.1.toNat, ()))
def ivSetsR (n : Nat) : Nat → Option Inv
  | 0 => some (Inv.of [3, 4] 1 (fun k : Nat => [(3, .own 0), (4, .lit (.int .i64 k))]) (fun k => [.vec 24 (.list (.int .i64)) (setsTo n k)]) (fun k => k ≤ 128) (fun k => 128 - k))
  | 1 => some (Eng.Inv.mk Nat Nat [3, 7] 1 (fun k t => [(3, .own 0), (7, .lit (.int .i64 (fromI (nL (setsTo n k) k) + t)))]) (fun k t => [.vec 24 (.list (.int .i64)) (setsTo n k ++ (extsL n (nL (setsTo n k) k)).take t)]) (fun k t => t ≤ (extsL n (nL (setsTo n k) k)).length) (fun k t => (extsL n (nL (setsTo n k) k)).length - t))
  | _ => none
theorem setsR_meets : Meets Try.prog 90 sSetsR := by
  refine meets (sndLE [8] [38] (SpecsOk.nil _)) Try.func90 rfl rfl (fun x => ivSetsR x.1.toNat) (fun _ => by kernel_rfl) (by decide) ?_
  rintro ⟨n, ⟨⟩⟩ h
  revert n
  intro (n : Int) (h : 0 ≤ n ∧ n ≤ 7)
  refine by_vc (B := Value.slice none (0 : Nat) (0 : Nat) = Value.slice none (0 : Nat) (0 : Nat) /\ ∃ (v0 : Unit), ∃ (v1 : Nat), Nat.le v1 (128 : Nat) /\ ((True /\ (0 : Int) = (↑v1 : Int) /\ True) /\ [[]] = setsTo (Int.toNat n) v1 /\ True) /\ ∀ (v2 : Nat), Nat.le v2 (128 : Nat) -> (decide ((↑v2 : Int) < (↑(List.length (setsTo (Int.toNat n) v2)) : Int)) = true -> ((0 : Int) <= (↑v2 : Int) /\ (↑v2 : Int) < (↑(List.length (setsTo (Int.toNat n) v2)) : Int)) /\ Int.toNat (↑v2 : Int) < List.length (setsTo (Int.toNat n) v2) /\ (decide ((0 : Int) < (↑(List.length (nthD (Ty.list (Ty.int .i64)) (setsTo (Int.toNat n) v2) (Int.toNat (↑v2 : Int)))) : Int)) = true -> fits .i64 ((↑(List.length (nthD (Ty.list (Ty.int .i64)) (setsTo (Int.toNat n) v2) (Int.toNat (↑v2 : Int)))) : Int) - (1 : Int)) /\ ((0 : Int) <= (↑(List.length (nthD (Ty.list (Ty.int .i64)) (setsTo (Int.toNat n) v2) (Int.toNat (↑v2 : Int)))) : Int) - (1 : Int) /\ (↑(List.length (nthD (Ty.list (Ty.int .i64)) (setsTo (Int.toNat n) v2) (Int.toNat (↑v2 : Int)))) : Int) - (1 : Int) < (↑(List.length (nthD (Ty.list (Ty.int .i64)) (setsTo (Int.toNat n) v2) (Int.toNat (↑v2 : Int)))) : Int)) /\ fits .i64 (nthD (Ty.int .i64) (nthD (Ty.list (Ty.int .i64)) (setsTo (Int.toNat n) v2) (Int.toNat (↑v2 : Int))) (Int.toNat ((↑(List.length (nthD (Ty.list (Ty.int .i64)) (setsTo (Int.toNat n) v2) (Int.toNat (↑v2 : Int)))) : Int) - (1 : Int))) + (1 : Int)) /\ ∃ (v6 : Nat), ∃ (v7 : Nat), Nat.le v7 (List.length (extsL (Int.toNat n) (nL (setsTo (Int.toNat n) v6) v6))) /\ ((True /\ nthD (Ty.int .i64) (nthD (Ty.list (Ty.int .i64)) (setsTo (Int.toNat n) v2) (Int.toNat (↑v2 : Int))) (Int.toNat ((↑(List.length (nthD (Ty.list (Ty.int .i64)) (setsTo (Int.toNat n) v2) (Int.toNat (↑v2 : Int)))) : Int) - (1 : Int))) + (1 : Int) = fromI (nL (setsTo (Int.toNat n) v6) v6) + (↑v7 : Int) /\ True) /\ setsTo (Int.toNat n) v2 = setsTo (Int.toNat n) v6 ++ List.take v7 (extsL (Int.toNat n) (nL (setsTo (Int.toNat n) v6) v6)) /\ True) /\ ∀ (v8 : Nat), Nat.le v8 (List.length (extsL (Int.toNat n) (nL (setsTo (Int.toNat n) v6) v6))) -> (decide (fromI (nL (setsTo (Int.toNat n) v6) v6) + (↑v8 : Int) < n) = true -> Nat.le ((0 : Nat) + List.length (nthD (Ty.list (Ty.int .i64)) (setsTo (Int.toNat n) v2) (Int.toNat (↑v2 : Int)))) (1000000 : Nat) /\ ((0 : Nat) < List.length [fromI (nL (setsTo (Int.toNat n) v6) v6) + (↑v8 : Int)] /\ Nat.le (List.length ([] ++ nthD (Ty.list (Ty.int .i64)) (setsTo (Int.toNat n) v2) (Int.toNat (↑v2 : Int))) + List.length [fromI (nL (setsTo (Int.toNat n) v6) v6) + (↑v8 : Int)]) (1000000 : Nat)) /\ ((0 : Nat) < List.length [[] ++ nthD (Ty.list (Ty.int .i64)) (setsTo (Int.toNat n) v2) (Int.toNat (↑v2 : Int)) ++ [fromI (nL (setsTo (Int.toNat n) v6) v6) + (↑v8 : Int)]] /\ Nat.le (List.length (setsTo (Int.toNat n) v6 ++ List.take v8 (extsL (Int.toNat n) (nL (setsTo (Int.toNat n) v6) v6))) + List.length [[] ++ nthD (Ty.list (Ty.int .i64)) (setsTo (Int.toNat n) v2) (Int.toNat (↑v2 : Int)) ++ [fromI (nL (setsTo (Int.toNat n) v6) v6) + (↑v8 : Int)]]) (1000000 : Nat)) /\ fits .i64 (fromI (nL (setsTo (Int.toNat n) v6) v6) + (↑v8 : Int) + (1 : Int)) /\ ∃ (v11 : Nat), Nat.le v11 (List.length (extsL (Int.toNat n) (nL (setsTo (Int.toNat n) v6) v6))) /\ List.length (extsL (Int.toNat n) (nL (setsTo (Int.toNat n) v6) v6)) - v11 < List.length (extsL (Int.toNat n) (nL (setsTo (Int.toNat n) v6) v6)) - v8 /\ (True /\ fromI (nL (setsTo (Int.toNat n) v6) v6) + (↑v8 : Int) + (1 : Int) = fromI (nL (setsTo (Int.toNat n) v6) v6) + (↑v11 : Int) /\ True) /\ setsTo (Int.toNat n) v6 ++ List.take v8 (extsL (Int.toNat n) (nL (setsTo (Int.toNat n) v6) v6)) ++ [[] ++ nthD (Ty.list (Ty.int .i64)) (setsTo (Int.toNat n) v2) (Int.toNat (↑v2 : Int)) ++ [fromI (nL (setsTo (Int.toNat n) v6) v6) + (↑v8 : Int)]] = setsTo (Int.toNat n) v6 ++ List.take v11 (extsL (Int.toNat n) (nL (setsTo (Int.toNat n) v6) v6)) /\ True) /\ (decide (fromI (nL (setsTo (Int.toNat n) v6) v6) + (↑v8 : Int) < n) = false -> fits .i64 ((↑v2 : Int) + (1 : Int)) /\ ∃ (v11 : Nat), Nat.le v11 (128 : Nat) /\ (128 : Nat) - v11 < (128 : Nat) - v2 /\ (True /\ (↑v2 : Int) + (1 : Int) = (↑v11 : Int) /\ True) /\ setsTo (Int.toNat n) v6 ++ List.take v8 (extsL (Int.toNat n) (nL (setsTo (Int.toNat n) v6) v6)) = setsTo (Int.toNat n) v11 /\ True)) /\ (decide ((0 : Int) < (↑(List.length (nthD (Ty.list (Ty.int .i64)) (setsTo (Int.toNat n) v2) (Int.toNat (↑v2 : Int)))) : Int)) = false -> ∃ (v6 : Nat), ∃ (v7 : Nat), Nat.le v7 (List.length (extsL (Int.toNat n) (nL (setsTo (Int.toNat n) v6) v6))) /\ ((True /\ (0 : Int) = fromI (nL (setsTo (Int.toNat n) v6) v6) + (↑v7 : Int) /\ True) /\ setsTo (Int.toNat n) v2 = setsTo (Int.toNat n) v6 ++ List.take v7 (extsL (Int.toNat n) (nL (setsTo (Int.toNat n) v6) v6)) /\ True) /\ ∀ (v8 : Nat), Nat.le v8 (List.length (extsL (Int.toNat n) (nL (setsTo (Int.toNat n) v6) v6))) -> (decide (fromI (nL (setsTo (Int.toNat n) v6) v6) + (↑v8 : Int) < n) = true -> Nat.le ((0 : Nat) + List.length (nthD (Ty.list (Ty.int .i64)) (setsTo (Int.toNat n) v2) (Int.toNat (↑v2 : Int)))) (1000000 : Nat) /\ ((0 : Nat) < List.length [fromI (nL (setsTo (Int.toNat n) v6) v6) + (↑v8 : Int)] /\ Nat.le (List.length ([] ++ nthD (Ty.list (Ty.int .i64)) (setsTo (Int.toNat n) v2) (Int.toNat (↑v2 : Int))) + List.length [fromI (nL (setsTo (Int.toNat n) v6) v6) + (↑v8 : Int)]) (1000000 : Nat)) /\ ((0 : Nat) < List.length [[] ++ nthD (Ty.list (Ty.int .i64)) (setsTo (Int.toNat n) v2) (Int.toNat (↑v2 : Int)) ++ [fromI (nL (setsTo (Int.toNat n) v6) v6) + (↑v8 : Int)]] /\ Nat.le (List.length (setsTo (Int.toNat n) v6 ++ List.take v8 (extsL (Int.toNat n) (nL (setsTo (Int.toNat n) v6) v6))) + List.length [[] ++ nthD (Ty.list (Ty.int .i64)) (setsTo (Int.toNat n) v2) (Int.toNat (↑v2 : Int)) ++ [fromI (nL (setsTo (Int.toNat n) v6) v6) + (↑v8 : Int)]]) (1000000 : Nat)) /\ fits .i64 (fromI (nL (setsTo (Int.toNat n) v6) v6) + (↑v8 : Int) + (1 : Int)) /\ ∃ (v11 : Nat), Nat.le v11 (List.length (extsL (Int.toNat n) (nL (setsTo (Int.toNat n) v6) v6))) /\ List.length (extsL (Int.toNat n) (nL (setsTo (Int.toNat n) v6) v6)) - v11 < List.length (extsL (Int.toNat n) (nL (setsTo (Int.toNat n) v6) v6)) - v8 /\ (True /\ fromI (nL (setsTo (Int.toNat n) v6) v6) + (↑v8 : Int) + (1 : Int) = fromI (nL (setsTo (Int.toNat n) v6) v6) + (↑v11 : Int) /\ True) /\ setsTo (Int.toNat n) v6 ++ List.take v8 (extsL (Int.toNat n) (nL (setsTo (Int.toNat n) v6) v6)) ++ [[] ++ nthD (Ty.list (Ty.int .i64)) (setsTo (Int.toNat n) v2) (Int.toNat (↑v2 : Int)) ++ [fromI (nL (setsTo (Int.toNat n) v6) v6) + (↑v8 : Int)]] = setsTo (Int.toNat n) v6 ++ List.take v11 (extsL (Int.toNat n) (nL (setsTo (Int.toNat n) v6) v6)) /\ True) /\ (decide (fromI (nL (setsTo (Int.toNat n) v6) v6) + (↑v8 : Int) < n) = false -> fits .i64 ((↑v2 : Int) + (1 : Int)) /\ ∃ (v11 : Nat), Nat.le v11 (128 : Nat) /\ (128 : Nat) - v11 < (128 : Nat) - v2 /\ (True /\ (↑v2 : Int) + (1 : Int) = (↑v11 : Int) /\ True) /\ setsTo (Int.toNat n) v6 ++ List.take v8 (extsL (Int.toNat n) (nL (setsTo (Int.toNat n) v6) v6)) = setsTo (Int.toNat n) v11 /\ True))) /\ (decide ((↑v2 : Int) < (↑(List.length (setsTo (Int.toNat n) v2)) : Int)) = false -> setsTo (Int.toNat n) v2 = setsA (Int.toNat n))) (by kernel_rfl) ?_
  try simp only [z0, z1, z2, z3, z4, z5, z6, z7, z8, z9, z10, Int.reduceEq, z11, z12, z13, z14, z15, z16, z17, z18, z19, z20, z21, z22, z23, z24, z25, z26, z27, z28, z29, z30, Int.reduceLE, Int.reduceLT, z31, z32, z33, z34, nilEq_true]
  try simp only [nthD_nI, nthD_nL, nL_one, List.set_cons_zero, List.cons.injEq, and_true, true_and]
  obtain ⟨hn0, hn7⟩ := h
  have hnn : ((n.toNat : Nat) : Int) = n := by omega
  refine ⟨(), 0, Nat.zero_le _, ⟨by first | rfl | trivial, by first | rfl | trivial⟩, fun k hk => ⟨fun hlt0 => ?_, fun hge => ?_⟩⟩
  · have hall := setsTo_at (n := n.toNat) (by omega) hk
    obtain ⟨s, hs⟩ : ∃ s, nL (setsTo n.toNat k) k = s := ⟨_, rfl⟩
    have hsm := hall.2 s (by rw [← hs, nL_eq _ k hlt0]; exact List.getElem_mem hlt0)
    have hl1 := hall.1
    have hsl := hsm.1
    simp only [hs]
    have hel : (extsL n.toNat s).length = (n - fromI s).toNat := by simp [extsL, hnn]
    refine ⟨hlt0, hlt0, fun h0 => ?_, fun h0 => ?_⟩
    · have hx := hsm.2 (nI s (s.length - 1)) (by rw [nI_eq s _ (by omega)]; exact List.getElem_mem _)
      have e1 : ((s.length : Int) - 1).toNat = s.length - 1 := by omega
      rw [e1]
      have hfr : fromI s = nI s (s.length - 1) + 1 := by unfold fromI; rw [if_pos (by omega)]
      refine ⟨fits64 (by omega) (by omega), ⟨by omega, by omega⟩, fits64 (by omega) (by omega), ?_⟩
      have hfb : 0 ≤ fromI s ∧ fromI s ≤ n := by omega
      refine ⟨k, 0, ?_⟩
      simp only [hs]
      refine ⟨Nat.zero_le _, ⟨by rw [hfr]; simp, by simp⟩, fun t ht => ⟨fun hlt => ⟨by omega, by omega, by rw [List.length_append, List.length_take]; omega, fits64 (by omega) (by omega), t + 1, by omega, by omega, by omega, ?_⟩, fun hge => ?_⟩⟩
      · rw [List.append_assoc, takeL_snoc _ t (by omega), nL_eq (extsL n.toNat s) t (by omega)]
        simp [extsL]
      · have e : t = (extsL n.toNat s).length := by omega
        subst e
        refine ⟨fits64 (by omega) (by omega), k + 1, by omega, by omega, by omega, ?_⟩
        rw [List.take_length, setsTo, if_pos hlt0, hs]
    · have hfr : fromI s = 0 := by unfold fromI; rw [if_neg (by omega)]
      have hfb : 0 ≤ fromI s ∧ fromI s ≤ n := by omega
      refine ⟨k, 0, ?_⟩
      simp only [hs]
      refine ⟨Nat.zero_le _, ⟨by rw [hfr]; simp, by simp⟩, fun t ht => ⟨fun hlt => ⟨by omega, by omega, by rw [List.length_append, List.length_take]; omega, fits64 (by omega) (by omega), t + 1, by omega, by omega, by omega, ?_⟩, fun hge => ?_⟩⟩
      · rw [List.append_assoc, takeL_snoc _ t (by omega), nL_eq (extsL n.toNat s) t (by omega)]
        simp [extsL]
      · have e : t = (extsL n.toNat s).length := by omega
        subst e
        refine ⟨fits64 (by omega) (by omega), k + 1, by omega, by omega, by omega, ?_⟩
        rw [List.take_length, setsTo, if_pos hlt0, hs]
  · have := setsTo_stop (n := n.toNat) (k := k) (by omega) (128 - k)
    rw [show k + (128 - k) = 128 by omega] at this
    exact this.symm
end Go.Proofs.Ytdibdlelmkcccaa
