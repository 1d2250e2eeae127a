/- The spark, sure numbers, twins: contracts by the engine. No condition. -/
import Derived.Test.YtdibdlelmkcccaaV19
set_option linter.unusedVariables false
set_option linter.unusedSimpArgs false
namespace Go.Proofs.Ytdibdlelmkcccaa
open Go Go.RowKit Eng
def qd8 (m : List (List Int)) : List Int × Int := if (cirR m).2 ≠ 0 then ([], (cirR m).2) else if (cirR m).1 = [] then ([], 8) else (nL (cirR m).1 0, 0)
abbrev sCirc : FSpec := tspec false none [qd2] [qb8, tInt] (fun x => qb5 x.1 = true → q0m x.1) (fun x => ((qd8 x.1).1, (qd8 x.1).2, ()))
theorem q2l : Meets Try.prog 64 sCirc := by
  refine meets (snd (SpecsOk.cons q38 (SpecsOk.nil _))) Try.func64 rfl rfl (fun _ _ => none) (fun _ => by kernel_rfl) (by decide) ?_
  rintro ⟨m, ⟨⟩⟩ h
  revert m
  intro (m : List (List Int)) (h : qb5 m = true → q0m m)
  refine by_vc (B := (qb5 m = true->q0m m)/\((Prod.snd (cirR m) != (0 : Int)) = true->Prod.fst (qd8 m) = []/\Prod.snd (cirR m) = Prod.snd (qd8 m)/\True)/\((Prod.snd (cirR m) != (0 : Int)) = false->(((↑(List.length (Prod.fst (cirR m))) : Int) == (0 : Int)) = true->Prod.fst (qd8 m) = []/\(8 : Int) = Prod.snd (qd8 m)/\True)/\(((↑(List.length (Prod.fst (cirR m))) : Int) == (0 : Int)) = false->((0 : Int) <= (0 : Int)/\(0 : Int) < (↑(List.length (Prod.fst (cirR m))) : Int))/\nthD (Ty.list (Ty.int .i64)) (Prod.fst (cirR m)) (0 : Nat) = Prod.fst (qd8 m)/\(0 : Int) = Prod.snd (qd8 m)/\True))) (by kernel_rfl) ?_
  try simp only [z0,z1,z2,z3,z4,z5,z6,z7,z8,z9,z10,Int.reduceEq,z11,z12,z13,z14,z15,z16,z17,z18,z19,z20,z21,z22,z23,z24,z25,z26,z27,z28,z29,z30,Int.reduceLE,Int.reduceLT,z31,z32,z33,z34,nilEq_true]
  try simp only [qa4, qa5, qa8, List.set_cons_zero, List.cons.injEq, and_true, true_and]
  refine ⟨h, fun he => by simp [qd8, he], fun he => ⟨fun h0 => ?_, fun h0 => ?_⟩⟩
  · have e : (cirR m).1 = [] := List.eq_nil_of_length_eq_zero (by omega)
    simp [qd8, he, e]
  · have e : ¬ (cirR m).1 = [] := fun e => by rw [e] at h0; exact h0 rfl
    unfold qd8
    rw [if_neg (fun q => q he), if_neg e]
    exact ⟨by omega, rfl, rfl⟩
def nzTo (l : List Int) : Nat → Nat
  | 0 => 0
  | k + 1 => if nI l k ≠ 0 then nzTo l k + 1 else nzTo l k
theorem q0p (l : List Int) : ∀ k, nzTo l k ≤ k
  | 0 => Nat.le_refl _
  | k + 1 => by have := q0p l k; rw [nzTo]; split <;> omega
def qe8 (m : List (List Int)) : Int × Int := ((nzTo (qd8 m).1 (qd8 m).1.length : Int), (qd8 m).2)
structure q0q (m : List (List Int)) : Prop where
  cir : qb5 m = true → q0m m
  len : (qd8 m).1.length ≤ 1000
abbrev sSpark : FSpec := tspec true none [qd2] [tInt, tInt] (fun x => q0q x.1) (fun x => ((qe8 x.1).1, (qe8 x.1).2, ()))
def ivSpark (l : List Int) : Nat → Option Inv
  | 0 => some (Inv.of [6, 16] 0 (fun k : Nat => [(6, .lit (.int .i64 (nzTo l k))), (16, .lit (.int .i64 k))]) (fun _ => []) (fun k => k ≤ l.length) (fun k => l.length - k))
  | _ => none
theorem q0r : Meets Try.prog 66 sSpark := by
  refine meets (snd (SpecsOk.cons q2l (SpecsOk.nil _))) Try.func66 rfl rfl (fun x => ivSpark (qd8 x.1).1) (fun _ => by kernel_rfl) (by decide) ?_
  rintro ⟨m, ⟨⟩⟩ h
  revert m
  intro (m : List (List Int)) (h : q0q m)
  refine by_vc (B := (qb5 m = true->q0m m)/\∃ (v0 : Unit), ∃ (v1 : Nat), Nat.le v1 (List.length (Prod.fst (qd8 m)))/\(((0 : Int) = (↑(nzTo (Prod.fst (qd8 m)) v1) : Int)/\(0 : Int) = (↑v1 : Int)/\True)/\True)/\∀ (v2 : Nat), Nat.le v2 (List.length (Prod.fst (qd8 m)))->(decide ((↑v2 : Int) < (↑(List.length (Prod.fst (qd8 m))) : Int)) = true->((0 : Int) <= (↑v2 : Int)/\(↑v2 : Int) < (↑(List.length (Prod.fst (qd8 m))) : Int))/\((nthD (Ty.int .i64) (Prod.fst (qd8 m)) (Int.toNat (↑v2 : Int)) != (0 : Int)) = true->fits .i64 ((↑(nzTo (Prod.fst (qd8 m)) v2) : Int) + (1 : Int))/\fits .i64 ((↑v2 : Int) + (1 : Int))/\∃ (v6 : Nat), Nat.le v6 (List.length (Prod.fst (qd8 m)))/\List.length (Prod.fst (qd8 m)) - v6 < List.length (Prod.fst (qd8 m)) - v2/\((↑(nzTo (Prod.fst (qd8 m)) v2) : Int) + (1 : Int) = (↑(nzTo (Prod.fst (qd8 m)) v6) : Int)/\(↑v2 : Int) + (1 : Int) = (↑v6 : Int)/\True)/\True)/\((nthD (Ty.int .i64) (Prod.fst (qd8 m)) (Int.toNat (↑v2 : Int)) != (0 : Int)) = false->fits .i64 ((↑v2 : Int) + (1 : Int))/\∃ (v6 : Nat), Nat.le v6 (List.length (Prod.fst (qd8 m)))/\List.length (Prod.fst (qd8 m)) - v6 < List.length (Prod.fst (qd8 m)) - v2/\((↑(nzTo (Prod.fst (qd8 m)) v2) : Int) = (↑(nzTo (Prod.fst (qd8 m)) v6) : Int)/\(↑v2 : Int) + (1 : Int) = (↑v6 : Int)/\True)/\True))/\(decide ((↑v2 : Int) < (↑(List.length (Prod.fst (qd8 m))) : Int)) = false->(↑(nzTo (Prod.fst (qd8 m)) v2) : Int) = Prod.fst (qe8 m)/\Prod.snd (qd8 m) = Prod.snd (qe8 m)/\True)) (by kernel_rfl) ?_
  try simp only [z0,z1,z2,z3,z4,z5,z6,z7,z8,z9,z10,Int.reduceEq,z11,z12,z13,z14,z15,z16,z17,z18,z19,z20,z21,z22,z23,z24,z25,z26,z27,z28,z29,z30,Int.reduceLE,Int.reduceLT,z31,z32,z33,z34,nilEq_true]
  try simp only [qa4, qa5, qa8, List.set_cons_zero, List.cons.injEq, and_true, true_and]
  have hl := h.len
  refine ⟨h.cir, (), 0, Nat.zero_le _, ⟨rfl, rfl⟩, fun i hi => ⟨fun hlt => ?_, fun hge => ?_⟩⟩
  · have := q0p (qd8 m).1 i
    exact ⟨hlt, fun hz => ⟨fits64 (by omega) (by omega), fits64 (by omega) (by omega), i + 1, hlt, by omega, by rw [nzTo, if_pos hz]; omega, by omega⟩, fun hz => ⟨fits64 (by omega) (by omega), i + 1, hlt, by omega, by rw [nzTo, if_neg (fun q => q hz)], by omega⟩⟩
  · obtain rfl : i = (qd8 m).1.length := by omega
    exact ⟨rfl, rfl⟩
def qr3 (m : List (List Int)) : Int × Int := if (qe8 m).2 = 0 then (((qe8 m).1 - 1).tdiv 2, 0) else if (qe8 m).2 = 8 then ((nL m 0).length, 0) else (0, (qe8 m).2)
abbrev sSure : FSpec := tspec true none [qd2] [tInt, tInt] (fun x => q0q x.1) (fun x => ((qr3 x.1).1, (qr3 x.1).2, ()))
theorem q2m : Meets Try.prog 34 sSure := by
  refine meets (snd (SpecsOk.cons q0r (SpecsOk.nil _))) Try.func34 rfl rfl (fun _ _ => none) (fun _ => by kernel_rfl) (by decide) ?_
  rintro ⟨m, ⟨⟩⟩ h
  revert m
  intro (m : List (List Int)) (h : q0q m)
  refine by_vc (B := q0q m/\((Prod.snd (qe8 m) == (0 : Int)) = true->fits .i64 (Prod.fst (qe8 m) - (1 : Int))/\(2 : Int) ≠ (0 : Int)/\fits .i64 (Int.tdiv (Prod.fst (qe8 m) - (1 : Int)) (2 : Int))/\Int.tdiv (Prod.fst (qe8 m) - (1 : Int)) (2 : Int) = Prod.fst (qr3 m)/\(0 : Int) = Prod.snd (qr3 m)/\True)/\((Prod.snd (qe8 m) == (0 : Int)) = false->((Prod.snd (qe8 m) == (8 : Int)) = true->((0 : Int) <= (0 : Int)/\(0 : Int) < (↑(List.length m) : Int))/\(↑(List.length (nthD (Ty.list (Ty.int .i64)) m (0 : Nat))) : Int) = Prod.fst (qr3 m)/\(0 : Int) = Prod.snd (qr3 m)/\True)/\((Prod.snd (qe8 m) == (8 : Int)) = false->(0 : Int) = Prod.fst (qr3 m)/\Prod.snd (qe8 m) = Prod.snd (qr3 m)/\True))) (by kernel_rfl) ?_
  try simp only [z0,z1,z2,z3,z4,z5,z6,z7,z8,z9,z10,Int.reduceEq,z11,z12,z13,z14,z15,z16,z17,z18,z19,z20,z21,z22,z23,z24,z25,z26,z27,z28,z29,z30,Int.reduceLE,Int.reduceLT,z31,z32,z33,z34,nilEq_true]
  try simp only [qa4, qa5, qa8, List.set_cons_zero, List.cons.injEq, and_true, true_and]
  have hl := h.len
  have hn := q0p (qd8 m).1 (qd8 m).1.length
  have e1 : (qe8 m).1 = (nzTo (qd8 m).1 (qd8 m).1.length : Int) := rfl
  have hb : qd1 1000 ((qe8 m).1 - 1) := by unfold qd1; rw [e1]; omega
  have hb2 : qd1 1000 (((qe8 m).1 - 1).tdiv 2) := qe5 hb
  unfold qd1 at hb hb2
  refine ⟨h, fun he => ⟨fits64 (by omega) (by omega), fits64 (by omega) (by omega), by simp [qr3, he]⟩, fun he => ⟨fun h8 => ⟨?_, by simp [qr3, h8]⟩, fun h8 => by simp [qr3, he, h8]⟩⟩
  have hv : qb5 m = true := by
    cases e : qb5 m with
    | true => rfl
    | false =>
      have e2 : (qe8 m).2 = 1 := by simp [qe8, qd8, cirR, e]
      rw [e2] at h8; cases h8
  have := (Mk.of hv).rows1
  omega
end Go.Proofs.Ytdibdlelmkcccaa
