/- Twins, program and reference: contracts by the engine. No condition. -/
import Derived.Test.YtdibdlelmkcccaaV21
set_option linter.unusedVariables false
set_option linter.unusedSimpArgs false
namespace Go.Proofs.Ytdibdlelmkcccaa
open Go Go.RowKit Eng
def qo2 (l : List Int) (n k : Int) : Int := if (l.length : Int) ≠ n then 9 else if (l.all fun e => inB e (0 - k) k) = false then 7 else 0
abbrev sLis2 : FSpec := tspec true none [qb8, tInt, tInt] [tInt] (fun x => qd1 BIG x.2.2.1 ∧ x.1.length ≤ 1000000) (fun x => (qo2 x.1 x.2.1 x.2.2.1, ()))
structure q5n (l : List Int) (k : Int) (i : Nat) : Prop where
  le : i ≤ l.length
  ok : ∀ j, j < i → inB (nI l j) (0 - k) k = true
def ivLis2 (l : List Int) (k : Int) : Nat → Option Inv
  | 0 => some (Inv.of [15] 0 (fun i : Nat => [(15, .lit (.int .i64 i))]) (fun _ => []) (fun i => q5n l k i) (fun i => l.length - i))
  | _ => none
theorem q2n : Meets Try.prog 78 sLis2 := by
  refine meets (snd (SpecsOk.cons qi9 (SpecsOk.nil _))) Try.func78 rfl rfl (fun x => ivLis2 x.1 x.2.2.1) (fun _ => by kernel_rfl) (by decide) ?_
  rintro ⟨l, n, k, ⟨⟩⟩ h
  revert l n k
  intro (l : List Int) (n : Int) (k : Int) (h : qd1 BIG k ∧ l.length ≤ 1000000)
  refine by_vc (B := (((↑(List.length l) : Int) != n) = true->(9 : Int) = qo2 l n k)/\(((↑(List.length l) : Int) != n) = false->∃ (v1 : Unit), ∃ (v2 : Nat), q5n l k v2/\(((0 : Int) = (↑v2 : Int)/\True)/\True)/\∀ (v3 : Nat), q5n l k v3->(decide ((↑v3 : Int) < (↑(List.length l) : Int)) = true->((0 : Int) <= (↑v3 : Int)/\(↑v3 : Int) < (↑(List.length l) : Int))/\fits .i64 ((0 : Int) - k)/\True/\((!inB (nthD (Ty.int .i64) l (Int.toNat (↑v3 : Int))) ((0 : Int) - k) k) = true->(7 : Int) = qo2 l n k)/\((!inB (nthD (Ty.int .i64) l (Int.toNat (↑v3 : Int))) ((0 : Int) - k) k) = false->fits .i64 ((↑v3 : Int) + (1 : Int))/\∃ (v7 : Nat), q5n l k v7/\List.length l - v7 < List.length l - v3/\((↑v3 : Int) + (1 : Int) = (↑v7 : Int)/\True)/\True))/\(decide ((↑v3 : Int) < (↑(List.length l) : Int)) = false->(0 : Int) = qo2 l n k))) (by kernel_rfl) ?_
  try simp only [z0,z1,z2,z3,z4,z5,z6,z7,z8,z9,z10,Int.reduceEq,z11,z12,z13,z14,z15,z16,z17,z18,z19,z20,z21,z22,z23,z24,z25,z26,z27,z28,z29,z30,Int.reduceLE,Int.reduceLT,z31,z32,z33,z34,nilEq_true]
  try simp only [qa4, qa5, qa8, List.set_cons_zero, List.cons.injEq, and_true, true_and]
  obtain ⟨hk, hl⟩ := h
  unfold qd1 BIG at hk
  refine ⟨fun hn => by simp [qo2, hn], fun hn => ?_⟩
  refine ⟨(), 0, ⟨Nat.zero_le _, fun j hj => absurd hj (Nat.not_lt_zero _)⟩, rfl, fun i hi => ⟨fun hlt => ⟨hlt, fits64 (by omega) (by omega), fun h1 => ?_, fun h1 => ⟨fits64 (by omega) (by omega), i + 1, ⟨hlt, fun j hj => ?_⟩, by omega, by omega⟩⟩, fun hge => ?_⟩⟩
  · have : (l.all fun e => inB e (0 - k) k) = false := by
      cases e : l.all fun e => inB e (0 - k) k with
      | false => rfl
      | true =>
        have := List.all_eq_true.1 e (nI l i) (by rw [qd3 l i hlt]; exact List.getElem_mem hlt)
        rw [h1] at this; cases this
    unfold qo2; rw [if_neg (fun q => q hn), if_pos this]
  · by_cases e : j = i
    · subst e; exact h1
    · exact hi.ok j (by omega)
  · have : (l.all fun e => inB e (0 - k) k) = true := by
      rw [List.all_eq_true]
      intro x hx
      obtain ⟨j, hj, rfl⟩ := List.getElem_of_mem hx
      rw [← qd3 l j hj]
      exact hi.ok j (by omega)
    unfold qo2; rw [if_neg (fun q => q hn), if_neg (by rw [this]; decide)]
theorem qu0 {m : List (List Int)} (hv : qb5 m = true) {x : List Int} : shoE m x = qo2 x (nL m 0).length 1000000 := by simp [shoE, lisE, qo2, hv]
structure ShPre (m : List (List Int)) (x : List Int) : Prop where
  fit : FitM m
  len : x.length ≤ 1000000
abbrev sSho2 : FSpec := tspec true none [qd2, qb8] [.bool] (fun x => ShPre x.1 x.2.1) (fun x => (decide (shoE x.1 x.2.1 = 0), ()))
theorem q2o : Meets Try.prog 47 sSho2 := by
  refine meets (snd (SpecsOk.cons qv2 (SpecsOk.cons q2n (SpecsOk.nil _)))) Try.func47 rfl rfl (fun _ _ => none) (fun _ => by kernel_rfl) (by decide) ?_
  rintro ⟨m, x, ⟨⟩⟩ h
  revert m x
  intro (m : List (List Int)) (x : List Int) (h : ShPre m x)
  refine by_vc (B := FitM m/\(qb5 m = true->((0 : Int) <= (0 : Int)/\(0 : Int) < (↑(List.length m) : Int))/\(qd1 BIG (1000000 : Int)/\List.length x <= (1000000 : Nat))/\(qo2 x (↑(List.length (nthD (Ty.list (Ty.int .i64)) m (0 : Nat))) : Int) (1000000 : Int) == (0 : Int)) = decide (shoE m x = (0 : Int)))/\(qb5 m = false->false = decide (shoE m x = (0 : Int)))) (by kernel_rfl) ?_
  try simp only [z0,z1,z2,z3,z4,z5,z6,z7,z8,z9,z10,Int.reduceEq,z11,z12,z13,z14,z15,z16,z17,z18,z19,z20,z21,z22,z23,z24,z25,z26,z27,z28,z29,z30,Int.reduceLE,Int.reduceLT,z31,z32,z33,z34,nilEq_true]
  try simp only [qa4, qa5, qa8, List.set_cons_zero, List.cons.injEq, and_true, true_and]
  refine ⟨h.fit, fun hv => ⟨by have := (Mk.of hv).rows1; omega, ⟨⟨by decide, by decide⟩, h.len⟩, ?_⟩, fun hv => by simp [shoE, lisE, hv]⟩
  rw [qu0 hv]
  exact (Bool.beq_eq_decide_eq _ _)
end Go.Proofs.Ytdibdlelmkcccaa
