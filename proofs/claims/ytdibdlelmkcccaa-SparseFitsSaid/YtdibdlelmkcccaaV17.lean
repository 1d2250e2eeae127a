/- The reference's sets; equal lists and fits: contracts by the engine. No condition. -/
import Derived.Test.YtdibdlelmkcccaaV16
set_option linter.unusedVariables false
set_option linter.unusedSimpArgs false
namespace Go.Proofs.Ytdibdlelmkcccaa
open Go Go.RowKit Eng
theorem q9b : qd6 Try.prog 54 q5p := by
  refine meets (snd (SpecsOk.nil _)) Try.func54 rfl rfl (fun _ _ => none) (fun _ => by kernel_rfl) (by decide) ?_
  rintro ⟨n, lo, hi, ⟨⟩⟩ -
  revert n lo hi
  intro (n : Int) (lo : Int) (hi : Int)
  refine qd7 (B := (decide (lo <= n)=true->decide (n <= hi)=inB n lo hi)/\(decide (lo <= n)=false->false=inB n lo hi)) (by kernel_rfl) ?_
  try simp only [z0,z1,z2,z3,z4,z5,z6,z7,z8,z9,z10,Int.reduceEq,z11,z12,z13,z14,z15,z16,z17,z18,z19,z20,z21,z22,z23,z24,z25,z26,z27,z28,z29,z30,Int.reduceLE,Int.reduceLT,z31,z32,z33,z34,qa3]
  try simp only [qb4, qb5, qc9, List.set_cons_zero, List.cons.injEq, and_true, true_and]
  constructor
  · intro h1
    simp [inB, h1]
  · intro h1
    have : ¬ lo <= n := by omega
    simp [inB, this]
def xh7 (a b : List (Ty.den (.int .i64))) : Nat -> Option Inv
  | 0 => some (Inv.of [13] 0 (fun k : Nat => [(13, .lit (.int .i64 k))]) (fun _ => []) (fun k => k <= a.length /\ ∀ i, i < k -> qa1 (.int .i64) a i = qa1 (.int .i64) b i) (fun k => a.length - k))
  | _ => none
abbrev xr4 : qc7 := qg2 true none [.list (.int .i64), .list (.int .i64)] [.bool] (fun x => x.1.length <= 1000000) (fun x => (decide (x.1 = x.2.1), ()))
theorem w0d : qd6 Try.prog 41 xr4 := by
  refine meets (snd (SpecsOk.nil _)) Try.func41 rfl rfl (fun x => xh7 x.1 x.2.1) (fun _ => by kernel_rfl) (by decide) ?_
  rintro ⟨a, b, ⟨⟩⟩ h
  revert a b
  intro (a : List (Ty.den (.int .i64))) (b : List (Ty.den (.int .i64))) (h : a.length <= 1000000)
  refine qd7 (B := (((↑(List.length a):Int) != (↑(List.length b):Int))=true->false=decide (a=b))/\(((↑(List.length a):Int) != (↑(List.length b):Int))=false->∃ (v1:Unit),∃ (v2:Nat),(v2 <= List.length a/\∀ (v3:Nat),Nat.le (Nat.succ v3) v2->qa1 (Ty.int .i64) a v3=qa1 (Ty.int .i64) b v3)/\(((0:Int)=(↑v2:Int)/\True)/\True)/\∀ (v3:Nat),(v3 <= List.length a/\∀ (v5:Nat),Nat.le (Nat.succ v5) v3->qa1 (Ty.int .i64) a v5=qa1 (Ty.int .i64) b v5)->(decide ((↑v3:Int) < (↑(List.length a):Int))=true->((0:Int) <= (↑v3:Int)/\(↑v3:Int) < (↑(List.length a):Int))/\((0:Int) <= (↑v3:Int)/\(↑v3:Int) < (↑(List.length b):Int))/\((qa1 (Ty.int .i64) a (Int.toNat (↑v3:Int)) != qa1 (Ty.int .i64) b (Int.toNat (↑v3:Int)))=true->false=decide (a=b))/\((qa1 (Ty.int .i64) a (Int.toNat (↑v3:Int)) != qa1 (Ty.int .i64) b (Int.toNat (↑v3:Int)))=false->fits .i64 ((↑v3:Int) + (1:Int))/\∃ (v7:Nat),(v7 <= List.length a/\∀ (v8:Nat),Nat.le (Nat.succ v8) v7->qa1 (Ty.int .i64) a v8=qa1 (Ty.int .i64) b v8)/\List.length a - v7 < List.length a - v3/\((↑v3:Int) + (1:Int)=(↑v7:Int)/\True)/\True))/\(decide ((↑v3:Int) < (↑(List.length a):Int))=false->true=decide (a=b)))) (by kernel_rfl) ?_
  try simp only [z0,z1,z2,z3,z4,z5,z6,z7,z8,z9,z10,Int.reduceEq,z11,z12,z13,z14,z15,z16,z17,z18,z19,z20,z21,z22,z23,z24,z25,z26,z27,z28,z29,z30,Int.reduceLE,Int.reduceLT,z31,z32,z33,z34,qa3]
  try simp only [qb4, qb5, qc9, List.set_cons_zero, List.cons.injEq, and_true, true_and]
  refine ⟨fun hl => ?_, fun hl => ?_⟩
  · rw [decide_eq_false]; intro e; subst e; exact hl rfl
  · refine ⟨(), 0, ⟨Nat.zero_le _, fun i hi => absurd hi (by omega)⟩, rfl, fun k ⟨hk, hall⟩ => ⟨fun hlt => ⟨hlt, by omega, fun hne => ?_, fun he => ⟨qa8 (by omega) (by omega), k + 1, ⟨by omega, fun i hi => ?_⟩, by omega, by omega⟩⟩, fun hge => ?_⟩⟩
    · rw [decide_eq_false]; intro e; subst e; first | exact hne rfl | (revert hne; simp)
    · by_cases e : i = k
      · subst e; first | exact he | (refine Prod.ext ?_ ?_ <;> simp_all)
      · exact hall i (by omega)
    · exact (decide_eq_true (q4l _ a b (by omega) fun i hi => hall i (by omega))).symm
def xh8 (a b : List (Ty.den (.prod (.int .i64) (.int .i64)))) : Nat -> Option Inv
  | 0 => some (Inv.of [13] 0 (fun k : Nat => [(13, .lit (.int .i64 k))]) (fun _ => []) (fun k => k <= a.length /\ ∀ i, i < k -> qa1 (.prod (.int .i64) (.int .i64)) a i = qa1 (.prod (.int .i64) (.int .i64)) b i) (fun k => a.length - k))
  | _ => none
abbrev xr5 : qc7 := qg2 true none [.list (.prod (.int .i64) (.int .i64)), .list (.prod (.int .i64) (.int .i64))] [.bool] (fun x => x.1.length <= 1000000) (fun x => (decide (x.1 = x.2.1), ()))
theorem w0e : qd6 Try.prog 42 xr5 := by
  refine meets (snd (SpecsOk.nil _)) Try.func42 rfl rfl (fun x => xh8 x.1 x.2.1) (fun _ => by kernel_rfl) (by decide) ?_
  rintro ⟨a, b, ⟨⟩⟩ h
  revert a b
  intro (a : List (Ty.den (.prod (.int .i64) (.int .i64)))) (b : List (Ty.den (.prod (.int .i64) (.int .i64)))) (h : a.length <= 1000000)
  refine qd7 (B := (((↑(List.length a):Int) != (↑(List.length b):Int))=true->false=decide (a=b))/\(((↑(List.length a):Int) != (↑(List.length b):Int))=false->∃ (v1:Unit),∃ (v2:Nat),(v2 <= List.length a/\∀ (v3:Nat),Nat.le (Nat.succ v3) v2->qa1 (Ty.prod (Ty.int .i64) (Ty.int .i64)) a v3=qa1 (Ty.prod (Ty.int .i64) (Ty.int .i64)) b v3)/\(((0:Int)=(↑v2:Int)/\True)/\True)/\∀ (v3:Nat),(v3 <= List.length a/\∀ (v5:Nat),Nat.le (Nat.succ v5) v3->qa1 (Ty.prod (Ty.int .i64) (Ty.int .i64)) a v5=qa1 (Ty.prod (Ty.int .i64) (Ty.int .i64)) b v5)->(decide ((↑v3:Int) < (↑(List.length a):Int))=true->((0:Int) <= (↑v3:Int)/\(↑v3:Int) < (↑(List.length a):Int))/\((0:Int) <= (↑v3:Int)/\(↑v3:Int) < (↑(List.length b):Int))/\((!(Prod.fst (qa1 (Ty.prod (Ty.int .i64) (Ty.int .i64)) a (Int.toNat (↑v3:Int))) == Prod.fst (qa1 (Ty.prod (Ty.int .i64) (Ty.int .i64)) b (Int.toNat (↑v3:Int))) && Prod.snd (qa1 (Ty.prod (Ty.int .i64) (Ty.int .i64)) a (Int.toNat (↑v3:Int))) == Prod.snd (qa1 (Ty.prod (Ty.int .i64) (Ty.int .i64)) b (Int.toNat (↑v3:Int)))))=true->false=decide (a=b))/\((!(Prod.fst (qa1 (Ty.prod (Ty.int .i64) (Ty.int .i64)) a (Int.toNat (↑v3:Int))) == Prod.fst (qa1 (Ty.prod (Ty.int .i64) (Ty.int .i64)) b (Int.toNat (↑v3:Int))) && Prod.snd (qa1 (Ty.prod (Ty.int .i64) (Ty.int .i64)) a (Int.toNat (↑v3:Int))) == Prod.snd (qa1 (Ty.prod (Ty.int .i64) (Ty.int .i64)) b (Int.toNat (↑v3:Int)))))=false->fits .i64 ((↑v3:Int) + (1:Int))/\∃ (v7:Nat),(v7 <= List.length a/\∀ (v8:Nat),Nat.le (Nat.succ v8) v7->qa1 (Ty.prod (Ty.int .i64) (Ty.int .i64)) a v8=qa1 (Ty.prod (Ty.int .i64) (Ty.int .i64)) b v8)/\List.length a - v7 < List.length a - v3/\((↑v3:Int) + (1:Int)=(↑v7:Int)/\True)/\True))/\(decide ((↑v3:Int) < (↑(List.length a):Int))=false->true=decide (a=b)))) (by kernel_rfl) ?_
  try simp only [z0,z1,z2,z3,z4,z5,z6,z7,z8,z9,z10,Int.reduceEq,z11,z12,z13,z14,z15,z16,z17,z18,z19,z20,z21,z22,z23,z24,z25,z26,z27,z28,z29,z30,Int.reduceLE,Int.reduceLT,z31,z32,z33,z34,qa3]
  try simp only [qb4, qb5, qc9, List.set_cons_zero, List.cons.injEq, and_true, true_and]
  refine ⟨fun hl => ?_, fun hl => ?_⟩
  · rw [decide_eq_false]; intro e; subst e; exact hl rfl
  · refine ⟨(), 0, ⟨Nat.zero_le _, fun i hi => absurd hi (by omega)⟩, rfl, fun k ⟨hk, hall⟩ => ⟨fun hlt => ⟨hlt, by omega, fun hne => ?_, fun he => ⟨qa8 (by omega) (by omega), k + 1, ⟨by omega, fun i hi => ?_⟩, by omega, by omega⟩⟩, fun hge => ?_⟩⟩
    · rw [decide_eq_false]; intro e; subst e; first | exact hne rfl | (revert hne; simp)
    · by_cases e : i = k
      · subst e; first | exact he | (refine Prod.ext ?_ ?_ <;> simp_all)
      · exact hall i (by omega)
    · exact (decide_eq_true (q4l _ a b (by omega) fun i hi => hall i (by omega))).symm
structure q54 (f : List Int × List (Int × Int)) : Prop where
  pix : f.1.length <= 1000000
  val : f.2.length <= 1000000
def qz6 (f g : List Int × List (Int × Int)) : Bool := decide (f.1 = g.1) && decide (f.2 = g.2)
abbrev xh9 : qc7 := qg2 true none [q2m, q2m] [.bool] (fun x => q54 x.1) (fun x => (qz6 x.1 x.2.1, ()))
theorem q1m : qd6 Try.prog 15 xh9 := by
  refine meets (snd (SpecsOk.cons w0d (SpecsOk.cons w0e (SpecsOk.nil _)))) Try.func15 rfl rfl (fun _ _ => none) (fun _ => by kernel_rfl) (by decide) ?_
  rintro ⟨f, g, ⟨⟩⟩ h
  revert f g
  intro (f : List Int × List (Int × Int)) (g : List Int × List (Int × Int)) (h : q54 f)
  refine qd7 (B := List.length (Prod.fst f) <= (1000000:Nat)/\(decide (Prod.fst f=Prod.fst g)=true->List.length (Prod.snd f) <= (1000000:Nat)/\decide (Prod.snd f=Prod.snd g)=qz6 f g)/\(decide (Prod.fst f=Prod.fst g)=false->false=qz6 f g)) (by kernel_rfl) ?_
  try simp only [z0,z1,z2,z3,z4,z5,z6,z7,z8,z9,z10,Int.reduceEq,z11,z12,z13,z14,z15,z16,z17,z18,z19,z20,z21,z22,z23,z24,z25,z26,z27,z28,z29,z30,Int.reduceLE,Int.reduceLT,z31,z32,z33,z34,qa3]
  try simp only [qb4, qb5, qc9, List.set_cons_zero, List.cons.injEq, and_true, true_and]
  exact ⟨h.pix, fun e => ⟨h.val, by simp [qz6, e]⟩, fun e => by simp [qz6, e]⟩
abbrev w0f : Ty := .list (.prod (.list (.int .i64)) (.list (.prod (.int .i64) (.int .i64))))
def nF (l : List (List Int × List (Int × Int))) (i : Nat) : List Int × List (Int × Int) := qa1 (.prod (.list (.int .i64)) (.list (.prod (.int .i64) (.int .i64)))) l i
structure wj3 (l : List (List Int × List (Int × Int))) : Prop where
  len : l.length <= 1000000
  each : ∀ i, i < l.length -> q54 (nF l i)
abbrev w9y : qc7 := qg2 true none [w0f, w0f] [.bool] (fun x => wj3 x.1) (fun x => (decide (x.1 = x.2.1), ()))
def w7a (a b : List (List Int × List (Int × Int))) : Nat -> Option Inv
  | 0 => some (Inv.of [13] 0 (fun k : Nat => [(13, .lit (.int .i64 k))]) (fun _ => []) (fun k => k <= a.length /\ ∀ i, i < k -> nF a i = nF b i) (fun k => a.length - k))
  | _ => none
theorem wd1 : qd6 Try.prog 29 w9y := by
  refine meets (snd (SpecsOk.cons q1m (SpecsOk.nil _))) Try.func29 rfl rfl (fun x => w7a x.1 x.2.1) (fun _ => by kernel_rfl) (by decide) ?_
  rintro ⟨a, b, ⟨⟩⟩ h
  revert a b
  intro (a : List (List Int × List (Int × Int))) (b : List (List Int × List (Int × Int))) (h : wj3 a)
  refine qd7 (B := (((↑(List.length a):Int) != (↑(List.length b):Int))=true->false=decide (a=b))/\(((↑(List.length a):Int) != (↑(List.length b):Int))=false->∃ (v1:Unit),∃ (v2:Nat),(v2 <= List.length a/\∀ (v3:Nat),Nat.le (Nat.succ v3) v2->nF a v3=nF b v3)/\(((0:Int)=(↑v2:Int)/\True)/\True)/\∀ (v3:Nat),(v3 <= List.length a/\∀ (v5:Nat),Nat.le (Nat.succ v5) v3->nF a v5=nF b v5)->(decide ((↑v3:Int) < (↑(List.length a):Int))=true->((0:Int) <= (↑v3:Int)/\(↑v3:Int) < (↑(List.length a):Int))/\((0:Int) <= (↑v3:Int)/\(↑v3:Int) < (↑(List.length b):Int))/\q54 (Prod.fst (qa1 (Ty.prod (Ty.list (Ty.int .i64)) (Ty.list (Ty.prod (Ty.int .i64) (Ty.int .i64)))) a (Int.toNat (↑v3:Int))),Prod.snd (qa1 (Ty.prod (Ty.list (Ty.int .i64)) (Ty.list (Ty.prod (Ty.int .i64) (Ty.int .i64)))) a (Int.toNat (↑v3:Int))))/\((!qz6 (Prod.fst (qa1 (Ty.prod (Ty.list (Ty.int .i64)) (Ty.list (Ty.prod (Ty.int .i64) (Ty.int .i64)))) a (Int.toNat (↑v3:Int))),Prod.snd (qa1 (Ty.prod (Ty.list (Ty.int .i64)) (Ty.list (Ty.prod (Ty.int .i64) (Ty.int .i64)))) a (Int.toNat (↑v3:Int)))) (Prod.fst (qa1 (Ty.prod (Ty.list (Ty.int .i64)) (Ty.list (Ty.prod (Ty.int .i64) (Ty.int .i64)))) b (Int.toNat (↑v3:Int))),Prod.snd (qa1 (Ty.prod (Ty.list (Ty.int .i64)) (Ty.list (Ty.prod (Ty.int .i64) (Ty.int .i64)))) b (Int.toNat (↑v3:Int)))))=true->false=decide (a=b))/\((!qz6 (Prod.fst (qa1 (Ty.prod (Ty.list (Ty.int .i64)) (Ty.list (Ty.prod (Ty.int .i64) (Ty.int .i64)))) a (Int.toNat (↑v3:Int))),Prod.snd (qa1 (Ty.prod (Ty.list (Ty.int .i64)) (Ty.list (Ty.prod (Ty.int .i64) (Ty.int .i64)))) a (Int.toNat (↑v3:Int)))) (Prod.fst (qa1 (Ty.prod (Ty.list (Ty.int .i64)) (Ty.list (Ty.prod (Ty.int .i64) (Ty.int .i64)))) b (Int.toNat (↑v3:Int))),Prod.snd (qa1 (Ty.prod (Ty.list (Ty.int .i64)) (Ty.list (Ty.prod (Ty.int .i64) (Ty.int .i64)))) b (Int.toNat (↑v3:Int)))))=false->fits .i64 ((↑v3:Int) + (1:Int))/\∃ (v7:Nat),(v7 <= List.length a/\∀ (v8:Nat),Nat.le (Nat.succ v8) v7->nF a v8=nF b v8)/\List.length a - v7 < List.length a - v3/\((↑v3:Int) + (1:Int)=(↑v7:Int)/\True)/\True))/\(decide ((↑v3:Int) < (↑(List.length a):Int))=false->true=decide (a=b)))) (by kernel_rfl) ?_
  try simp only [z0,z1,z2,z3,z4,z5,z6,z7,z8,z9,z10,Int.reduceEq,z11,z12,z13,z14,z15,z16,z17,z18,z19,z20,z21,z22,z23,z24,z25,z26,z27,z28,z29,z30,Int.reduceLE,Int.reduceLT,z31,z32,z33,z34,qa3]
  try simp only [qb4, qb5, qc9, List.set_cons_zero, List.cons.injEq, and_true, true_and]
  refine ⟨fun hl => ?_, fun hl => ?_⟩
  · rw [decide_eq_false]; intro e; subst e; exact hl rfl
  · have hlen := h.len
    refine ⟨(), 0, ⟨Nat.zero_le _, fun i hi => absurd hi (by omega)⟩, rfl, fun k ⟨hk, hall⟩ => ⟨fun hlt => ⟨hlt, by omega, h.each k hlt, fun hne => ?_, fun he => ⟨qa8 (by omega) (by omega), k + 1, ⟨by omega, fun i hi => ?_⟩, by omega, by omega⟩⟩, fun hge => ?_⟩⟩
    · have hne : qz6 (nF a k) (nF b k) = false := hne
      rw [decide_eq_false]; intro e; subst e; simp [qz6] at hne
    · by_cases e : i = k
      · subst e
        have he : qz6 (nF a i) (nF b i) = true := he
        unfold qz6 at he
        rw [Bool.and_eq_true, decide_eq_true_eq, decide_eq_true_eq] at he
        exact Prod.ext he.1 he.2
      · exact hall i (by omega)
    · exact (decide_eq_true (q4l (.prod (.list (.int .i64)) (.list (.prod (.int .i64) (.int .i64)))) a b (by omega) fun i hi => hall i (by omega))).symm
def qk7 (s : List Int) : Int := if 0 < s.length then nI s (s.length - 1) + 1 else 0
def ql2 (n : Nat) (s : List Int) : List (List Int) := (List.range ((n : Int) - qk7 s).toNat).map fun t : Nat => s ++ [qk7 s + t]
def qc0 (n : Nat) : Nat -> List (List Int)
  | 0 => [[]]
  | k + 1 => if k < (qc0 n k).length then qc0 n k ++ ql2 n (nL (qc0 n k) k) else qc0 n k
def qj3 (n : Nat) : List (List Int) := qc0 n 128
theorem q7s (n k : Nat) : ∀ j, ∃ t, qc0 n (k + j) = qc0 n k ++ t
  | 0 => ⟨[], by simp⟩
  | j + 1 => by
    obtain ⟨t, ht⟩ := q7s n k j
    rw [<- Nat.add_assoc, qc0]
    split
    · exact ⟨t ++ ql2 n (nL (qc0 n (k + j)) (k + j)), by rw [<- List.append_assoc, <- ht]⟩
    · exact ⟨t, ht⟩
theorem q55 {n k : Nat} (h : (qc0 n k).length <= k) : ∀ j, qc0 n (k + j) = qc0 n k
  | 0 => rfl
  | j + 1 => by
    have := q55 h j
    rw [<- Nat.add_assoc, qc0, this, if_neg (by omega)]
def w36 (n : Nat) : Bool := decide ((qc0 n 128).length <= 128) && (qc0 n 128).all fun s => decide (s.length <= 7) && s.all fun x => decide (0 <= x) && decide (x < n)
theorem wj4 : ((List.range 8).all fun n => w36 n) = true := by decide +kernel
theorem w0g {n : Nat} (h : n <= 7) : (qc0 n 128).length <= 128 /\ ∀ s ∈ qc0 n 128, s.length <= 7 /\ ∀ x ∈ s, 0 <= x /\ x < n := by
  have := List.all_eq_true.1 wj4 n (List.mem_range.2 (by omega))
  unfold w36 at this
  rw [Bool.and_eq_true, decide_eq_true_eq, List.all_eq_true] at this
  refine ⟨this.1, fun s hs => ?_⟩
  have h2 := this.2 s hs
  rw [Bool.and_eq_true, decide_eq_true_eq, List.all_eq_true] at h2
  refine ⟨h2.1, fun x hx => ?_⟩
  have := h2.2 x hx
  simpa using this
theorem q2u {n k : Nat} (h : n <= 7) (hk : k <= 128) : (qc0 n k).length <= 128 /\ ∀ s ∈ qc0 n k, s.length <= 7 /\ ∀ x ∈ s, 0 <= x /\ x < n := by
  obtain ⟨t, ht⟩ := q7s n k (128 - k)
  rw [show k + (128 - k) = 128 by omega] at ht
  have := w0g h
  rw [ht] at this
  refine ⟨by have := this.1; simp at this; omega, fun s hs => this.2 s (by simp [hs])⟩
abbrev xi0 : qc7 := qg2 false none [qf9] [qh5] (fun x => 0 <= x.1 /\ x.1 <= 7) (fun x => (qj3 x.1.toNat, ()))
def w9z (n : Nat) : Nat -> Option Inv
  | 0 => some (Inv.of [3, 4] 1 (fun k : Nat => [(3, .own 0), (4, .lit (.int .i64 k))]) (fun k => [.vec 24 (.list (.int .i64)) (qc0 n k)]) (fun k => k <= 128) (fun k => 128 - k))
  | 1 => some (Eng.Inv.mk Nat Nat [3, 7] 1 (fun k t => [(3, .own 0), (7, .lit (.int .i64 (qk7 (nL (qc0 n k) k) + t)))]) (fun k t => [.vec 24 (.list (.int .i64)) (qc0 n k ++ (ql2 n (nL (qc0 n k) k)).take t)]) (fun k t => t <= (ql2 n (nL (qc0 n k) k)).length) (fun k t => (ql2 n (nL (qc0 n k) k)).length - t))
  | _ => none
theorem wj5 : qd6 Try.prog 90 xi0 := by
  refine meets (w9j [8] [38] (SpecsOk.nil _)) Try.func90 rfl rfl (fun x => w9z x.1.toNat) (fun _ => by kernel_rfl) (by decide) ?_
  rintro ⟨n, ⟨⟩⟩ h
  revert n
  intro (n : Int) (h : 0 <= n /\ n <= 7)
  refine qd7 (B := Value.slice none (0:Nat) (0:Nat)=Value.slice none (0:Nat) (0:Nat)/\∃ (v0:Unit),∃ (v1:Nat),Nat.le v1 (128:Nat)/\((True/\(0:Int)=(↑v1:Int)/\True)/\[[]]=qc0 (Int.toNat n) v1/\True)/\∀ (v2:Nat),Nat.le v2 (128:Nat)->(decide ((↑v2:Int) < (↑(List.length (qc0 (Int.toNat n) v2)):Int))=true->((0:Int) <= (↑v2:Int)/\(↑v2:Int) < (↑(List.length (qc0 (Int.toNat n) v2)):Int))/\Int.toNat (↑v2:Int) < List.length (qc0 (Int.toNat n) v2)/\(decide ((0:Int) < (↑(List.length (qa1 (Ty.list (Ty.int .i64)) (qc0 (Int.toNat n) v2) (Int.toNat (↑v2:Int)))):Int))=true->fits .i64 ((↑(List.length (qa1 (Ty.list (Ty.int .i64)) (qc0 (Int.toNat n) v2) (Int.toNat (↑v2:Int)))):Int) - (1:Int))/\((0:Int) <= (↑(List.length (qa1 (Ty.list (Ty.int .i64)) (qc0 (Int.toNat n) v2) (Int.toNat (↑v2:Int)))):Int) - (1:Int)/\(↑(List.length (qa1 (Ty.list (Ty.int .i64)) (qc0 (Int.toNat n) v2) (Int.toNat (↑v2:Int)))):Int) - (1:Int) < (↑(List.length (qa1 (Ty.list (Ty.int .i64)) (qc0 (Int.toNat n) v2) (Int.toNat (↑v2:Int)))):Int))/\fits .i64 (qa1 (Ty.int .i64) (qa1 (Ty.list (Ty.int .i64)) (qc0 (Int.toNat n) v2) (Int.toNat (↑v2:Int))) (Int.toNat ((↑(List.length (qa1 (Ty.list (Ty.int .i64)) (qc0 (Int.toNat n) v2) (Int.toNat (↑v2:Int)))):Int) - (1:Int))) + (1:Int))/\∃ (v6:Nat),∃ (v7:Nat),Nat.le v7 (List.length (ql2 (Int.toNat n) (nL (qc0 (Int.toNat n) v6) v6)))/\((True/\qa1 (Ty.int .i64) (qa1 (Ty.list (Ty.int .i64)) (qc0 (Int.toNat n) v2) (Int.toNat (↑v2:Int))) (Int.toNat ((↑(List.length (qa1 (Ty.list (Ty.int .i64)) (qc0 (Int.toNat n) v2) (Int.toNat (↑v2:Int)))):Int) - (1:Int))) + (1:Int)=qk7 (nL (qc0 (Int.toNat n) v6) v6) + (↑v7:Int)/\True)/\qc0 (Int.toNat n) v2=qc0 (Int.toNat n) v6 ++ List.take v7 (ql2 (Int.toNat n) (nL (qc0 (Int.toNat n) v6) v6))/\True)/\∀ (v8:Nat),Nat.le v8 (List.length (ql2 (Int.toNat n) (nL (qc0 (Int.toNat n) v6) v6)))->(decide (qk7 (nL (qc0 (Int.toNat n) v6) v6) + (↑v8:Int) < n)=true->Nat.le ((0:Nat) + List.length (qa1 (Ty.list (Ty.int .i64)) (qc0 (Int.toNat n) v2) (Int.toNat (↑v2:Int)))) (1000000:Nat)/\((0:Nat) < List.length [qk7 (nL (qc0 (Int.toNat n) v6) v6) + (↑v8:Int)]/\Nat.le (List.length ([] ++ qa1 (Ty.list (Ty.int .i64)) (qc0 (Int.toNat n) v2) (Int.toNat (↑v2:Int))) + List.length [qk7 (nL (qc0 (Int.toNat n) v6) v6) + (↑v8:Int)]) (1000000:Nat))/\((0:Nat) < List.length [[] ++ qa1 (Ty.list (Ty.int .i64)) (qc0 (Int.toNat n) v2) (Int.toNat (↑v2:Int)) ++ [qk7 (nL (qc0 (Int.toNat n) v6) v6) + (↑v8:Int)]]/\Nat.le (List.length (qc0 (Int.toNat n) v6 ++ List.take v8 (ql2 (Int.toNat n) (nL (qc0 (Int.toNat n) v6) v6))) + List.length [[] ++ qa1 (Ty.list (Ty.int .i64)) (qc0 (Int.toNat n) v2) (Int.toNat (↑v2:Int)) ++ [qk7 (nL (qc0 (Int.toNat n) v6) v6) + (↑v8:Int)]]) (1000000:Nat))/\fits .i64 (qk7 (nL (qc0 (Int.toNat n) v6) v6) + (↑v8:Int) + (1:Int))/\∃ (v11:Nat),Nat.le v11 (List.length (ql2 (Int.toNat n) (nL (qc0 (Int.toNat n) v6) v6)))/\List.length (ql2 (Int.toNat n) (nL (qc0 (Int.toNat n) v6) v6)) - v11 < List.length (ql2 (Int.toNat n) (nL (qc0 (Int.toNat n) v6) v6)) - v8/\(True/\qk7 (nL (qc0 (Int.toNat n) v6) v6) + (↑v8:Int) + (1:Int)=qk7 (nL (qc0 (Int.toNat n) v6) v6) + (↑v11:Int)/\True)/\qc0 (Int.toNat n) v6 ++ List.take v8 (ql2 (Int.toNat n) (nL (qc0 (Int.toNat n) v6) v6)) ++ [[] ++ qa1 (Ty.list (Ty.int .i64)) (qc0 (Int.toNat n) v2) (Int.toNat (↑v2:Int)) ++ [qk7 (nL (qc0 (Int.toNat n) v6) v6) + (↑v8:Int)]]=qc0 (Int.toNat n) v6 ++ List.take v11 (ql2 (Int.toNat n) (nL (qc0 (Int.toNat n) v6) v6))/\True)/\(decide (qk7 (nL (qc0 (Int.toNat n) v6) v6) + (↑v8:Int) < n)=false->fits .i64 ((↑v2:Int) + (1:Int))/\∃ (v11:Nat),Nat.le v11 (128:Nat)/\(128:Nat) - v11 < (128:Nat) - v2/\(True/\(↑v2:Int) + (1:Int)=(↑v11:Int)/\True)/\qc0 (Int.toNat n) v6 ++ List.take v8 (ql2 (Int.toNat n) (nL (qc0 (Int.toNat n) v6) v6))=qc0 (Int.toNat n) v11/\True))/\(decide ((0:Int) < (↑(List.length (qa1 (Ty.list (Ty.int .i64)) (qc0 (Int.toNat n) v2) (Int.toNat (↑v2:Int)))):Int))=false->∃ (v6:Nat),∃ (v7:Nat),Nat.le v7 (List.length (ql2 (Int.toNat n) (nL (qc0 (Int.toNat n) v6) v6)))/\((True/\(0:Int)=qk7 (nL (qc0 (Int.toNat n) v6) v6) + (↑v7:Int)/\True)/\qc0 (Int.toNat n) v2=qc0 (Int.toNat n) v6 ++ List.take v7 (ql2 (Int.toNat n) (nL (qc0 (Int.toNat n) v6) v6))/\True)/\∀ (v8:Nat),Nat.le v8 (List.length (ql2 (Int.toNat n) (nL (qc0 (Int.toNat n) v6) v6)))->(decide (qk7 (nL (qc0 (Int.toNat n) v6) v6) + (↑v8:Int) < n)=true->Nat.le ((0:Nat) + List.length (qa1 (Ty.list (Ty.int .i64)) (qc0 (Int.toNat n) v2) (Int.toNat (↑v2:Int)))) (1000000:Nat)/\((0:Nat) < List.length [qk7 (nL (qc0 (Int.toNat n) v6) v6) + (↑v8:Int)]/\Nat.le (List.length ([] ++ qa1 (Ty.list (Ty.int .i64)) (qc0 (Int.toNat n) v2) (Int.toNat (↑v2:Int))) + List.length [qk7 (nL (qc0 (Int.toNat n) v6) v6) + (↑v8:Int)]) (1000000:Nat))/\((0:Nat) < List.length [[] ++ qa1 (Ty.list (Ty.int .i64)) (qc0 (Int.toNat n) v2) (Int.toNat (↑v2:Int)) ++ [qk7 (nL (qc0 (Int.toNat n) v6) v6) + (↑v8:Int)]]/\Nat.le (List.length (qc0 (Int.toNat n) v6 ++ List.take v8 (ql2 (Int.toNat n) (nL (qc0 (Int.toNat n) v6) v6))) + List.length [[] ++ qa1 (Ty.list (Ty.int .i64)) (qc0 (Int.toNat n) v2) (Int.toNat (↑v2:Int)) ++ [qk7 (nL (qc0 (Int.toNat n) v6) v6) + (↑v8:Int)]]) (1000000:Nat))/\fits .i64 (qk7 (nL (qc0 (Int.toNat n) v6) v6) + (↑v8:Int) + (1:Int))/\∃ (v11:Nat),Nat.le v11 (List.length (ql2 (Int.toNat n) (nL (qc0 (Int.toNat n) v6) v6)))/\List.length (ql2 (Int.toNat n) (nL (qc0 (Int.toNat n) v6) v6)) - v11 < List.length (ql2 (Int.toNat n) (nL (qc0 (Int.toNat n) v6) v6)) - v8/\(True/\qk7 (nL (qc0 (Int.toNat n) v6) v6) + (↑v8:Int) + (1:Int)=qk7 (nL (qc0 (Int.toNat n) v6) v6) + (↑v11:Int)/\True)/\qc0 (Int.toNat n) v6 ++ List.take v8 (ql2 (Int.toNat n) (nL (qc0 (Int.toNat n) v6) v6)) ++ [[] ++ qa1 (Ty.list (Ty.int .i64)) (qc0 (Int.toNat n) v2) (Int.toNat (↑v2:Int)) ++ [qk7 (nL (qc0 (Int.toNat n) v6) v6) + (↑v8:Int)]]=qc0 (Int.toNat n) v6 ++ List.take v11 (ql2 (Int.toNat n) (nL (qc0 (Int.toNat n) v6) v6))/\True)/\(decide (qk7 (nL (qc0 (Int.toNat n) v6) v6) + (↑v8:Int) < n)=false->fits .i64 ((↑v2:Int) + (1:Int))/\∃ (v11:Nat),Nat.le v11 (128:Nat)/\(128:Nat) - v11 < (128:Nat) - v2/\(True/\(↑v2:Int) + (1:Int)=(↑v11:Int)/\True)/\qc0 (Int.toNat n) v6 ++ List.take v8 (ql2 (Int.toNat n) (nL (qc0 (Int.toNat n) v6) v6))=qc0 (Int.toNat n) v11/\True)))/\(decide ((↑v2:Int) < (↑(List.length (qc0 (Int.toNat n) v2)):Int))=false->qc0 (Int.toNat n) v2=qj3 (Int.toNat n))) (by kernel_rfl) ?_
  try simp only [z0,z1,z2,z3,z4,z5,z6,z7,z8,z9,z10,Int.reduceEq,z11,z12,z13,z14,z15,z16,z17,z18,z19,z20,z21,z22,z23,z24,z25,z26,z27,z28,z29,z30,Int.reduceLE,Int.reduceLT,z31,z32,z33,z34,qa3]
  try simp only [qb4, qb5, qc9, List.set_cons_zero, List.cons.injEq, and_true, true_and]
  obtain ⟨hn0, hn7⟩ := h
  have hnn : ((n.toNat : Nat) : Int) = n := by omega
  refine ⟨(), 0, Nat.zero_le _, ⟨by first | rfl | trivial, by first | rfl | trivial⟩, fun k hk => ⟨fun hlt0 => ?_, fun hge => ?_⟩⟩
  · have hall := q2u (n := n.toNat) (by omega) hk
    obtain ⟨s, hs⟩ : ∃ s, nL (qc0 n.toNat k) k = s := ⟨_, rfl⟩
    have hsm := hall.2 s (by rw [<- hs, qj9 _ k hlt0]; exact List.getElem_mem hlt0)
    have hl1 := hall.1
    have hsl := hsm.1
    simp only [hs]
    have hel : (ql2 n.toNat s).length = (n - qk7 s).toNat := by simp [ql2, hnn]
    refine ⟨hlt0, hlt0, fun h0 => ?_, fun h0 => ?_⟩
    · have hx := hsm.2 (nI s (s.length - 1)) (by rw [qi1 s _ (by omega)]; exact List.getElem_mem _)
      have e1 : ((s.length : Int) - 1).toNat = s.length - 1 := by omega
      rw [e1]
      have hfr : qk7 s = nI s (s.length - 1) + 1 := by unfold qk7; rw [if_pos (by omega)]
      refine ⟨qa8 (by omega) (by omega), ⟨by omega, by omega⟩, qa8 (by omega) (by omega), ?_⟩
      have hfb : 0 <= qk7 s /\ qk7 s <= n := by omega
      refine ⟨k, 0, ?_⟩
      simp only [hs]
      refine ⟨Nat.zero_le _, ⟨by rw [hfr]; simp, by simp⟩, fun t ht => ⟨fun hlt => ⟨by omega, by omega, by rw [List.length_append, List.length_take]; omega, qa8 (by omega) (by omega), t + 1, by omega, by omega, by omega, ?_⟩, fun hge => ?_⟩⟩
      · rw [List.append_assoc, takeL_snoc _ t (by omega), qj9 (ql2 n.toNat s) t (by omega)]
        simp [ql2]
      · have e : t = (ql2 n.toNat s).length := by omega
        subst e
        refine ⟨qa8 (by omega) (by omega), k + 1, by omega, by omega, by omega, ?_⟩
        rw [List.take_length, qc0, if_pos hlt0, hs]
    · have hfr : qk7 s = 0 := by unfold qk7; rw [if_neg (by omega)]
      have hfb : 0 <= qk7 s /\ qk7 s <= n := by omega
      refine ⟨k, 0, ?_⟩
      simp only [hs]
      refine ⟨Nat.zero_le _, ⟨by rw [hfr]; simp, by simp⟩, fun t ht => ⟨fun hlt => ⟨by omega, by omega, by rw [List.length_append, List.length_take]; omega, qa8 (by omega) (by omega), t + 1, by omega, by omega, by omega, ?_⟩, fun hge => ?_⟩⟩
      · rw [List.append_assoc, takeL_snoc _ t (by omega), qj9 (ql2 n.toNat s) t (by omega)]
        simp [ql2]
      · have e : t = (ql2 n.toNat s).length := by omega
        subst e
        refine ⟨qa8 (by omega) (by omega), k + 1, by omega, by omega, by omega, ?_⟩
        rw [List.take_length, qc0, if_pos hlt0, hs]
  · have := q55 (n := n.toNat) (k := k) (by omega) (128 - k)
    rw [show k + (128 - k) = 128 by omega] at this
    exact this.symm
end Go.Proofs.Ytdibdlelmkcccaa
