/- The errors of masks, readings and pixels: contracts by the engine. No condition. -/
import Derived.Test.YtdibdlelmkcccaaV4
set_option linter.unusedVariables false
set_option linter.unusedSimpArgs false
namespace Go.Proofs.Ytdibdlelmkcccaa
open Go Go.RowKit Eng
abbrev sBey1 : FSpec := hspec [] true none [.d tInt, .cap tInt] [.bool] (fun x => 0 ≤ x.2.1 ∧ x.2.1 ≤ BIG) (fun x => (!(inB x.1 (0 - x.2.1) x.2.1), ()))
theorem q1w : Meets Try.prog 113 sBey1 := by
  refine meetsH (SpecsOk.nil _) (snd (SpecsOk.cons qg5 (SpecsOk.nil _))) Try.func113 rfl rfl (fun _ _ => none) (fun _ => by kernel_rfl) (by decide) ?_
  rintro ⟨n, k, ⟨⟩⟩ h
  revert n k
  intro (n : Int) (k : Int) (h : 0 ≤ k ∧ k ≤ BIG)
  refine by_vc (B := fits .i64 ((0 : Int) - k)/\True/\(!inB n ((0 : Int) - k) k) = !inB n ((0 : Int) - k) k) (by kernel_rfl) ?_
  try simp only [z0,z1,z2,z3,z4,z5,z6,z7,z8,z9,z10,Int.reduceEq,z11,z12,z13,z14,z15,z16,z17,z18,z19,z20,z21,z22,z23,z24,z25,z26,z27,z28,z29,z30,Int.reduceLE,Int.reduceLT,z31,z32,z33,z34,nilEq_true]
  try simp only [qa4, qa5, qa8, List.set_cons_zero, List.cons.injEq, and_true, true_and]
  unfold BIG at h
  exact fits64 (by omega) (by omega)
abbrev sBey : FSpec := gspec false none [tInt] (fun _ => True) (fun x => .clo 113 (.cons (.imm (.cons (.lit (.int .i64 x.1)) .nil) 0) .nil))
theorem q3b : Meets Try.prog 80 sBey := by
  refine meetsG (snd (SpecsOk.nil _)) Try.func80 rfl rfl (fun _ _ => none) (fun _ => by kernel_rfl) (by decide) ?_
  rintro ⟨m, ⟨⟩⟩ -
  revert m
  intro (m : Int)
  refine by_vc (B := ((m = m/\True)/\(0 : Nat) = (0 : Nat))/\True) (by kernel_rfl) ?_
  try simp only [z0,z1,z2,z3,z4,z5,z6,z7,z8,z9,z10,Int.reduceEq,z11,z12,z13,z14,z15,z16,z17,z18,z19,z20,z21,z22,z23,z24,z25,z26,z27,z28,z29,z30,Int.reduceLE,Int.reduceLT,z31,z32,z33,z34,nilEq_true]
  try simp only [qa4, qa5, qa8, List.set_cons_zero, List.cons.injEq, and_true, true_and]
abbrev sNam1 : FSpec := hspec [] true none [.d tInt, .cap tInt] [.bool] (fun x => 0 ≤ x.2.1 ∧ x.2.1 ≤ BIG) (fun x => (!(inB x.1 0 (x.2.1 - 1)), ()))
theorem q1x : Meets Try.prog 134 sNam1 := by
  refine meetsH (SpecsOk.nil _) (snd (SpecsOk.cons qg5 (SpecsOk.nil _))) Try.func134 rfl rfl (fun _ _ => none) (fun _ => by kernel_rfl) (by decide) ?_
  rintro ⟨n, k, ⟨⟩⟩ h
  revert n k
  intro (n : Int) (k : Int) (h : 0 ≤ k ∧ k ≤ BIG)
  refine by_vc (B := fits .i64 (k - (1 : Int))/\True/\(!inB n (0 : Int) (k - (1 : Int))) = !inB n (0 : Int) (k - (1 : Int))) (by kernel_rfl) ?_
  try simp only [z0,z1,z2,z3,z4,z5,z6,z7,z8,z9,z10,Int.reduceEq,z11,z12,z13,z14,z15,z16,z17,z18,z19,z20,z21,z22,z23,z24,z25,z26,z27,z28,z29,z30,Int.reduceLE,Int.reduceLT,z31,z32,z33,z34,nilEq_true]
  try simp only [qa4, qa5, qa8, List.set_cons_zero, List.cons.injEq, and_true, true_and]
  unfold BIG at h
  exact fits64 (by omega) (by omega)
def ascB (l : List Int) : Bool := (List.range l.length).all fun i => decide (i = 0) || decide (nI l (i - 1) < nI l i)
def namE (n : Int) (l : List Int) : Int := if ascB l = false then 7 else if l.any (fun p => !(inB p 0 (n - 1))) then 5 else 0
theorem qv1 {l : List Int} : ascB l = true ↔ ∀ i, 0 < i → i < l.length → nI l (i - 1) < nI l i := by
  unfold ascB
  rw [List.all_eq_true]
  constructor
  · intro h i h0 hi
    have := h i (List.mem_range.2 hi)
    simp only [Bool.or_eq_true, decide_eq_true_eq] at this
    exact this.resolve_left (by omega)
  · intro h i hi
    simp only [Bool.or_eq_true, decide_eq_true_eq]
    by_cases e : i = 0
    · exact .inl e
    · exact .inr (h i (by omega) (List.mem_range.1 hi))
structure AscTo (l : List Int) (k : Nat) : Prop where
  le : k ≤ l.length
  lt : ∀ i, 0 < i → i < k → nI l (i - 1) < nI l i
theorem AscTo.step {l : List Int} {k : Nat} (h : AscTo l k) (hk : k < l.length) (h1 : k = 0 ∨ nI l (k - 1) < nI l k) : AscTo l (k + 1) :=
  ⟨hk, fun i h0 hi => by
    by_cases e : i = k
    · subst e; exact h1.resolve_left (by omega)
    · exact h.lt i h0 (by omega)⟩
theorem AscTo.all {l : List Int} (h : AscTo l l.length) : ascB l = true := qv1.2 h.lt
theorem q06 {l : List Int} {k : Nat} (h0 : 0 < k) (hk : k < l.length) (h : nI l k ≤ nI l (k - 1)) : ascB l = false := by
  cases e : ascB l with
  | false => rfl
  | true => have := qv1.1 e k h0 hk; omega
def ivNam (n : Int) (l : List Int) : Nat → Option Inv
  | 0 => some (Inv.of [9] 1 (fun k : Nat => [(9, .lit (.int .i64 k))]) (fun _ => [.box 3 (.cons (.lit (.int .i64 n)) .nil)]) (fun k => AscTo l k) (fun k => l.length - k))
  | _ => none
abbrev sNam : FSpec := tspec true none [tInt, qb8] [tInt] (fun x => (0 ≤ x.1 ∧ x.1 ≤ BIG) ∧ x.2.1.length ≤ 1000000) (fun x => (namE x.1 x.2.1, ()))
theorem q3c : Meets Try.prog 104 sNam := by
  refine meets (snd (SpecsOk.cons (qp3 (fs := [(134, sNam1)]) (SpecsOk.cons q1x (SpecsOk.nil _))) (SpecsOk.nil _))) Try.func104 rfl rfl (fun x => ivNam x.1 x.2.1) (fun _ => by kernel_rfl) (by decide) ?_
  rintro ⟨n, l, ⟨⟩⟩ h
  revert n l
  intro (n : Int) (l : List Int) (h : (0 ≤ n ∧ n ≤ BIG) ∧ l.length ≤ 1000000)
  refine by_vc (B := ∃ (v0 : Unit), ∃ (v1 : Nat), AscTo l v1/\(((0 : Int) = (↑v1 : Int)/\True)/\(n = n/\True)/\True)/\∀ (v2 : Nat), AscTo l v2->(decide ((↑v2 : Int) < (↑(List.length l) : Int)) = true->((0 : Int) <= (↑v2 : Int)/\(↑v2 : Int) < (↑(List.length l) : Int))/\(decide ((0 : Int) < (↑v2 : Int)) = true->fits .i64 ((↑v2 : Int) - (1 : Int))/\((0 : Int) <= (↑v2 : Int) - (1 : Int)/\(↑v2 : Int) - (1 : Int) < (↑(List.length l) : Int))/\(decide (nthD (Ty.int .i64) l (Int.toNat (↑v2 : Int)) <= nthD (Ty.int .i64) l (Int.toNat ((↑v2 : Int) - (1 : Int)))) = true->(7 : Int) = namE n l)/\(decide (nthD (Ty.int .i64) l (Int.toNat (↑v2 : Int)) <= nthD (Ty.int .i64) l (Int.toNat ((↑v2 : Int) - (1 : Int)))) = false->fits .i64 ((↑v2 : Int) + (1 : Int))/\∃ (v7 : Nat), AscTo l v7/\List.length l - v7 < List.length l - v2/\((↑v2 : Int) + (1 : Int) = (↑v7 : Int)/\True)/\(n = n/\True)/\True))/\(decide ((0 : Int) < (↑v2 : Int)) = false->fits .i64 ((↑v2 : Int) + (1 : Int))/\∃ (v6 : Nat), AscTo l v6/\List.length l - v6 < List.length l - v2/\((↑v2 : Int) + (1 : Int) = (↑v6 : Int)/\True)/\(n = n/\True)/\True))/\(decide ((↑v2 : Int) < (↑(List.length l) : Int)) = false->∃ (v5 : argsTy [Ty.int .i64]->Prop), ∃ (v6 : argsTy [Ty.int .i64]->Bool), (∀ (v7 : Int × argsTy._f [] PUnit.unit), v5 v7->((0 : PTy.den (PTy.cap tInt)) <= n/\n <= BIG)/\(!inB (Prod.fst v7) (0 : Int) (n - (1 : Int))) = v6 v7)/\(List.length l <= (1000000 : Nat)/\∀ (v7 : Nat), v7 < List.length l->v5 (nthD (Ty.int .i64) l v7, ()))/\((List.any l fun (v8 : Int) => v6 (v8, ())) = true->(5 : Int) = namE n l)/\((List.any l fun (v8 : Int) => v6 (v8, ())) = false->(0 : Int) = namE n l))) (by kernel_rfl) ?_
  try simp only [z0,z1,z2,z3,z4,z5,z6,z7,z8,z9,z10,Int.reduceEq,z11,z12,z13,z14,z15,z16,z17,z18,z19,z20,z21,z22,z23,z24,z25,z26,z27,z28,z29,z30,Int.reduceLE,Int.reduceLT,z31,z32,z33,z34,nilEq_true]
  try simp only [qa4, qa5, qa8, List.set_cons_zero, List.cons.injEq, and_true, true_and]
  obtain ⟨hn, hl⟩ := h
  refine ⟨(), 0, ⟨Nat.zero_le _, fun i h0 hi => by omega⟩, rfl, fun k hk => ⟨fun hlt => ⟨hlt, fun h0 => ?_, fun h0 => ⟨fits64 (by omega) (by omega), k + 1, hk.step hlt (.inl (by omega)), by omega, by omega⟩⟩, fun hge => ?_⟩⟩
  · have e : ((k : Int) - 1).toNat = k - 1 := by omega
    rw [e]
    refine ⟨fits64 (by omega) (by omega), by omega, fun h1 => ?_, fun h1 => ⟨fits64 (by omega) (by omega), k + 1, hk.step hlt (.inr h1), by omega, by omega⟩⟩
    unfold namE
    rw [if_pos (q06 (by omega) hlt h1)]
  · obtain rfl : k = l.length := by have := hk.le; omega
    refine ⟨fun _ => True, fun x => !(inB x.1 0 (n - 1)), fun x _ => ⟨hn, by simp⟩, ⟨hl, fun _ _ => trivial⟩, fun h1 => ?_, fun h1 => ?_⟩
    · unfold namE
      rw [if_neg (by simp [hk.all]), if_pos h1]
    · unfold namE
      rw [if_neg (by simp [hk.all]), if_neg (by rw [h1]; decide)]
end Go.Proofs.Ytdibdlelmkcccaa
