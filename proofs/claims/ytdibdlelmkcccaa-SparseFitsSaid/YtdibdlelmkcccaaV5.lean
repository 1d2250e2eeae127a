/- The errors of masks, readings and pixels: contracts by the engine. No condition. -/
import Derived.Test.YtdibdlelmkcccaaV4
set_option linter.unusedVariables false
set_option linter.unusedSimpArgs false
namespace Go.Proofs.Ytdibdlelmkcccaa
open Go Go.RowKit Eng
abbrev xg0 : qc7 := hspec [] true none [.d qf9, .cap qf9] [.bool] (fun x => 0 <= x.2.1 /\ x.2.1 <= BIG) (fun x => (!(inB x.1 (0 - x.2.1) x.2.1), ()))
theorem wy0 : qd6 Try.prog 113 xg0 := by
  refine qs1 (SpecsOk.nil _) (snd (SpecsOk.cons qx0 (SpecsOk.nil _))) Try.func113 rfl rfl (fun _ _ => none) (fun _ => by kernel_rfl) (by decide) ?_
  rintro ⟨n, k, ⟨⟩⟩ h
  revert n k
  intro (n : Int) (k : Int) (h : 0 <= k /\ k <= BIG)
  refine qd7 (B := fits .i64 ((0:Int) - k)/\True/\(!inB n ((0:Int) - k) k)=!inB n ((0:Int) - k) k) (by kernel_rfl) ?_
  try simp only [z0,z1,z2,z3,z4,z5,z6,z7,z8,z9,z10,Int.reduceEq,z11,z12,z13,z14,z15,z16,z17,z18,z19,z20,z21,z22,z23,z24,z25,z26,z27,z28,z29,z30,Int.reduceLE,Int.reduceLT,z31,z32,z33,z34,qa3]
  try simp only [qb4, qb5, qc9, List.set_cons_zero, List.cons.injEq, and_true, true_and]
  unfold BIG at h
  exact qa8 (by omega) (by omega)
abbrev x0j : qc7 := w6i false none [qf9] (fun _ => True) (fun x => .clo 113 (.cons (.imm (.cons (.lit (.int .i64 x.1)) .nil) 0) .nil))
theorem w3d : qd6 Try.prog 80 x0j := by
  refine wp8 (snd (SpecsOk.nil _)) Try.func80 rfl rfl (fun _ _ => none) (fun _ => by kernel_rfl) (by decide) ?_
  rintro ⟨m, ⟨⟩⟩ -
  revert m
  intro (m : Int)
  refine qd7 (B := ((m=m/\True)/\(0:Nat)=(0:Nat))/\True) (by kernel_rfl) ?_
  try simp only [z0,z1,z2,z3,z4,z5,z6,z7,z8,z9,z10,Int.reduceEq,z11,z12,z13,z14,z15,z16,z17,z18,z19,z20,z21,z22,z23,z24,z25,z26,z27,z28,z29,z30,Int.reduceLE,Int.reduceLT,z31,z32,z33,z34,qa3]
  try simp only [qb4, qb5, qc9, List.set_cons_zero, List.cons.injEq, and_true, true_and]
abbrev xg1 : qc7 := hspec [] true none [.d qf9, .cap qf9] [.bool] (fun x => 0 <= x.2.1 /\ x.2.1 <= BIG) (fun x => (!(inB x.1 0 (x.2.1 - 1)), ()))
theorem wy1 : qd6 Try.prog 134 xg1 := by
  refine qs1 (SpecsOk.nil _) (snd (SpecsOk.cons qx0 (SpecsOk.nil _))) Try.func134 rfl rfl (fun _ _ => none) (fun _ => by kernel_rfl) (by decide) ?_
  rintro ⟨n, k, ⟨⟩⟩ h
  revert n k
  intro (n : Int) (k : Int) (h : 0 <= k /\ k <= BIG)
  refine qd7 (B := fits .i64 (k - (1:Int))/\True/\(!inB n (0:Int) (k - (1:Int)))=!inB n (0:Int) (k - (1:Int))) (by kernel_rfl) ?_
  try simp only [z0,z1,z2,z3,z4,z5,z6,z7,z8,z9,z10,Int.reduceEq,z11,z12,z13,z14,z15,z16,z17,z18,z19,z20,z21,z22,z23,z24,z25,z26,z27,z28,z29,z30,Int.reduceLE,Int.reduceLT,z31,z32,z33,z34,qa3]
  try simp only [qb4, qb5, qc9, List.set_cons_zero, List.cons.injEq, and_true, true_and]
  unfold BIG at h
  exact qa8 (by omega) (by omega)
def wq7 (l : List Int) : Bool := (List.range l.length).all fun i => decide (i = 0) || decide (nI l (i - 1) < nI l i)
def q1u (n : Int) (l : List Int) : Int := if wq7 l = false then 7 else if l.any (fun p => !(inB p 0 (n - 1))) then 5 else 0
theorem q4g {l : List Int} : wq7 l = true ↔ ∀ i, 0 < i -> i < l.length -> nI l (i - 1) < nI l i := by
  unfold wq7
  rw [List.all_eq_true]
  constructor
  · intro h i h0 hi
    have := h i (List.mem_range.2 hi)
    simp only [Bool.or_eq_true, decide_eq_true_eq] at this
    exact this.resolve_left (by omega)
  · intro h i hi
    simp only [Bool.or_eq_true, decide_eq_true_eq]
    by_cases e : i = 0
    · exact .inl e
    · exact .inr (h i (by omega) (List.mem_range.1 hi))
structure AscTo (l : List Int) (k : Nat) : Prop where
  le : k <= l.length
  lt : ∀ i, 0 < i -> i < k -> nI l (i - 1) < nI l i
theorem AscTo.step {l : List Int} {k : Nat} (h : AscTo l k) (hk : k < l.length) (h1 : k = 0 \/ nI l (k - 1) < nI l k) : AscTo l (k + 1) :=
  ⟨hk, fun i h0 hi => by
    by_cases e : i = k
    · subst e; exact h1.resolve_left (by omega)
    · exact h.lt i h0 (by omega)⟩
theorem AscTo.all {l : List Int} (h : AscTo l l.length) : wq7 l = true := q4g.2 h.lt
theorem q83 {l : List Int} {k : Nat} (h0 : 0 < k) (hk : k < l.length) (h : nI l k <= nI l (k - 1)) : wq7 l = false := by
  cases e : wq7 l with
  | false => rfl
  | true => have := q4g.1 e k h0 hk; omega
def xo8 (n : Int) (l : List Int) : Nat -> Option Inv
  | 0 => some (Inv.of [9] 1 (fun k : Nat => [(9, .lit (.int .i64 k))]) (fun _ => [.box 3 (.cons (.lit (.int .i64 n)) .nil)]) (fun k => AscTo l k) (fun k => l.length - k))
  | _ => none
abbrev x0k : qc7 := qg2 true none [qf9, qe1] [qf9] (fun x => (0 <= x.1 /\ x.1 <= BIG) /\ x.2.1.length <= 1000000) (fun x => (q1u x.1 x.2.1, ()))
theorem w3e : qd6 Try.prog 104 x0k := by
  refine meets (snd (SpecsOk.cons (q5o (fs := [(134, xg1)]) (SpecsOk.cons wy1 (SpecsOk.nil _))) (SpecsOk.nil _))) Try.func104 rfl rfl (fun x => xo8 x.1 x.2.1) (fun _ => by kernel_rfl) (by decide) ?_
  rintro ⟨n, l, ⟨⟩⟩ h
  revert n l
  intro (n : Int) (l : List Int) (h : (0 <= n /\ n <= BIG) /\ l.length <= 1000000)
  refine qd7 (B := ∃ (v0:Unit),∃ (v1:Nat),AscTo l v1/\(((0:Int)=(↑v1:Int)/\True)/\(n=n/\True)/\True)/\∀ (v2:Nat),AscTo l v2->(decide ((↑v2:Int) < (↑(List.length l):Int))=true->((0:Int) <= (↑v2:Int)/\(↑v2:Int) < (↑(List.length l):Int))/\(decide ((0:Int) < (↑v2:Int))=true->fits .i64 ((↑v2:Int) - (1:Int))/\((0:Int) <= (↑v2:Int) - (1:Int)/\(↑v2:Int) - (1:Int) < (↑(List.length l):Int))/\(decide (qa1 (Ty.int .i64) l (Int.toNat (↑v2:Int)) <= qa1 (Ty.int .i64) l (Int.toNat ((↑v2:Int) - (1:Int))))=true->(7:Int)=q1u n l)/\(decide (qa1 (Ty.int .i64) l (Int.toNat (↑v2:Int)) <= qa1 (Ty.int .i64) l (Int.toNat ((↑v2:Int) - (1:Int))))=false->fits .i64 ((↑v2:Int) + (1:Int))/\∃ (v7:Nat),AscTo l v7/\List.length l - v7 < List.length l - v2/\((↑v2:Int) + (1:Int)=(↑v7:Int)/\True)/\(n=n/\True)/\True))/\(decide ((0:Int) < (↑v2:Int))=false->fits .i64 ((↑v2:Int) + (1:Int))/\∃ (v6:Nat),AscTo l v6/\List.length l - v6 < List.length l - v2/\((↑v2:Int) + (1:Int)=(↑v6:Int)/\True)/\(n=n/\True)/\True))/\(decide ((↑v2:Int) < (↑(List.length l):Int))=false->∃ (v5 : qa6 [Ty.int .i64]->Prop),∃ (v6 : qa6 [Ty.int .i64]->Bool),(∀ (v7 : Int × qa6._f [] PUnit.unit),v5 v7->((0 : PTy.den (PTy.cap qf9)) <= n/\n <= BIG)/\(!inB (Prod.fst v7) (0:Int) (n - (1:Int)))=v6 v7)/\(List.length l <= (1000000:Nat)/\∀ (v7:Nat),v7 < List.length l->v5 (qa1 (Ty.int .i64) l v7,()))/\((List.any l fun (v8:Int) => v6 (v8,()))=true->(5:Int)=q1u n l)/\((List.any l fun (v8:Int) => v6 (v8,()))=false->(0:Int)=q1u n l))) (by kernel_rfl) ?_
  try simp only [z0,z1,z2,z3,z4,z5,z6,z7,z8,z9,z10,Int.reduceEq,z11,z12,z13,z14,z15,z16,z17,z18,z19,z20,z21,z22,z23,z24,z25,z26,z27,z28,z29,z30,Int.reduceLE,Int.reduceLT,z31,z32,z33,z34,qa3]
  try simp only [qb4, qb5, qc9, List.set_cons_zero, List.cons.injEq, and_true, true_and]
  obtain ⟨hn, hl⟩ := h
  refine ⟨(), 0, ⟨Nat.zero_le _, fun i h0 hi => by omega⟩, rfl, fun k hk => ⟨fun hlt => ⟨hlt, fun h0 => ?_, fun h0 => ⟨qa8 (by omega) (by omega), k + 1, hk.step hlt (.inl (by omega)), by omega, by omega⟩⟩, fun hge => ?_⟩⟩
  · have e : ((k : Int) - 1).toNat = k - 1 := by omega
    rw [e]
    refine ⟨qa8 (by omega) (by omega), by omega, fun h1 => ?_, fun h1 => ⟨qa8 (by omega) (by omega), k + 1, hk.step hlt (.inr h1), by omega, by omega⟩⟩
    unfold q1u
    rw [if_pos (q83 (by omega) hlt h1)]
  · obtain rfl : k = l.length := by have := hk.le; omega
    refine ⟨fun _ => True, fun x => !(inB x.1 0 (n - 1)), fun x _ => ⟨hn, by simp⟩, ⟨hl, fun _ _ => trivial⟩, fun h1 => ?_, fun h1 => ?_⟩
    · unfold q1u
      rw [if_neg (by simp [hk.all]), if_pos h1]
    · unfold q1u
      rw [if_neg (by simp [hk.all]), if_neg (by rw [h1]; decide)]
end Go.Proofs.Ytdibdlelmkcccaa
