/- The spark, sure numbers, twins: contracts by the engine. No condition. -/
import Derived.Test.YtdibdlelmkcccaaV19
set_option linter.unusedVariables false
set_option linter.unusedSimpArgs false
namespace Go.Proofs.Ytdibdlelmkcccaa
open Go Go.RowKit Eng
def qi5 (m : List (List Int)) : List Int × Int := if (q56 m).2 ≠ 0 then ([], (q56 m).2) else if (q56 m).1 = [] then ([], 8) else (nL (q56 m).1 0, 0)
abbrev xr9 : qc7 := qg2 false none [qh5] [qe1, qf9] (fun x => qe6 x.1 = true -> wj6 x.1) (fun x => ((qi5 x.1).1, (qi5 x.1).2, ()))
theorem w0h : qd6 Try.prog 64 xr9 := by
  refine meets (snd (SpecsOk.cons w39 (SpecsOk.nil _))) Try.func64 rfl rfl (fun _ _ => none) (fun _ => by kernel_rfl) (by decide) ?_
  rintro ⟨m, ⟨⟩⟩ h
  revert m
  intro (m : List (List Int)) (h : qe6 m = true -> wj6 m)
  refine qd7 (B := (qe6 m=true->wj6 m)/\((Prod.snd (q56 m) != (0:Int))=true->Prod.fst (qi5 m)=[]/\Prod.snd (q56 m)=Prod.snd (qi5 m)/\True)/\((Prod.snd (q56 m) != (0:Int))=false->(((↑(List.length (Prod.fst (q56 m))):Int) == (0:Int))=true->Prod.fst (qi5 m)=[]/\(8:Int)=Prod.snd (qi5 m)/\True)/\(((↑(List.length (Prod.fst (q56 m))):Int) == (0:Int))=false->((0:Int) <= (0:Int)/\(0:Int) < (↑(List.length (Prod.fst (q56 m))):Int))/\qa1 (Ty.list (Ty.int .i64)) (Prod.fst (q56 m)) (0:Nat)=Prod.fst (qi5 m)/\(0:Int)=Prod.snd (qi5 m)/\True))) (by kernel_rfl) ?_
  try simp only [z0,z1,z2,z3,z4,z5,z6,z7,z8,z9,z10,Int.reduceEq,z11,z12,z13,z14,z15,z16,z17,z18,z19,z20,z21,z22,z23,z24,z25,z26,z27,z28,z29,z30,Int.reduceLE,Int.reduceLT,z31,z32,z33,z34,qa3]
  try simp only [qb4, qb5, qc9, List.set_cons_zero, List.cons.injEq, and_true, true_and]
  refine ⟨h, fun he => by simp [qi5, he], fun he => ⟨fun h0 => ?_, fun h0 => ?_⟩⟩
  · have e : (q56 m).1 = [] := List.eq_nil_of_length_eq_zero (by omega)
    simp [qi5, he, e]
  · have e : ¬ (q56 m).1 = [] := fun e => by rw [e] at h0; exact h0 rfl
    unfold qi5
    rw [if_neg (fun q => q he), if_neg e]
    exact ⟨by omega, rfl, rfl⟩
def wg6 (l : List Int) : Nat -> Nat
  | 0 => 0
  | k + 1 => if nI l k ≠ 0 then wg6 l k + 1 else wg6 l k
theorem wj8 (l : List Int) : ∀ k, wg6 l k <= k
  | 0 => Nat.le_refl _
  | k + 1 => by have := wj8 l k; rw [wg6]; split <;> omega
def ql8 (m : List (List Int)) : Int × Int := ((wg6 (qi5 m).1 (qi5 m).1.length : Int), (qi5 m).2)
structure wj9 (m : List (List Int)) : Prop where
  cir : qe6 m = true -> wj6 m
  len : (qi5 m).1.length <= 1000
abbrev xi1 : qc7 := qg2 true none [qh5] [qf9, qf9] (fun x => wj9 x.1) (fun x => ((ql8 x.1).1, (ql8 x.1).2, ()))
def w90 (l : List Int) : Nat -> Option Inv
  | 0 => some (Inv.of [6, 16] 0 (fun k : Nat => [(6, .lit (.int .i64 (wg6 l k))), (16, .lit (.int .i64 k))]) (fun _ => []) (fun k => k <= l.length) (fun k => l.length - k))
  | _ => none
theorem wk0 : qd6 Try.prog 66 xi1 := by
  refine meets (snd (SpecsOk.cons w0h (SpecsOk.nil _))) Try.func66 rfl rfl (fun x => w90 (qi5 x.1).1) (fun _ => by kernel_rfl) (by decide) ?_
  rintro ⟨m, ⟨⟩⟩ h
  revert m
  intro (m : List (List Int)) (h : wj9 m)
  refine qd7 (B := (qe6 m=true->wj6 m)/\∃ (v0:Unit),∃ (v1:Nat),Nat.le v1 (List.length (Prod.fst (qi5 m)))/\(((0:Int)=(↑(wg6 (Prod.fst (qi5 m)) v1):Int)/\(0:Int)=(↑v1:Int)/\True)/\True)/\∀ (v2:Nat),Nat.le v2 (List.length (Prod.fst (qi5 m)))->(decide ((↑v2:Int) < (↑(List.length (Prod.fst (qi5 m))):Int))=true->((0:Int) <= (↑v2:Int)/\(↑v2:Int) < (↑(List.length (Prod.fst (qi5 m))):Int))/\((qa1 (Ty.int .i64) (Prod.fst (qi5 m)) (Int.toNat (↑v2:Int)) != (0:Int))=true->fits .i64 ((↑(wg6 (Prod.fst (qi5 m)) v2):Int) + (1:Int))/\fits .i64 ((↑v2:Int) + (1:Int))/\∃ (v6:Nat),Nat.le v6 (List.length (Prod.fst (qi5 m)))/\List.length (Prod.fst (qi5 m)) - v6 < List.length (Prod.fst (qi5 m)) - v2/\((↑(wg6 (Prod.fst (qi5 m)) v2):Int) + (1:Int)=(↑(wg6 (Prod.fst (qi5 m)) v6):Int)/\(↑v2:Int) + (1:Int)=(↑v6:Int)/\True)/\True)/\((qa1 (Ty.int .i64) (Prod.fst (qi5 m)) (Int.toNat (↑v2:Int)) != (0:Int))=false->fits .i64 ((↑v2:Int) + (1:Int))/\∃ (v6:Nat),Nat.le v6 (List.length (Prod.fst (qi5 m)))/\List.length (Prod.fst (qi5 m)) - v6 < List.length (Prod.fst (qi5 m)) - v2/\((↑(wg6 (Prod.fst (qi5 m)) v2):Int)=(↑(wg6 (Prod.fst (qi5 m)) v6):Int)/\(↑v2:Int) + (1:Int)=(↑v6:Int)/\True)/\True))/\(decide ((↑v2:Int) < (↑(List.length (Prod.fst (qi5 m))):Int))=false->(↑(wg6 (Prod.fst (qi5 m)) v2):Int)=Prod.fst (ql8 m)/\Prod.snd (qi5 m)=Prod.snd (ql8 m)/\True)) (by kernel_rfl) ?_
  try simp only [z0,z1,z2,z3,z4,z5,z6,z7,z8,z9,z10,Int.reduceEq,z11,z12,z13,z14,z15,z16,z17,z18,z19,z20,z21,z22,z23,z24,z25,z26,z27,z28,z29,z30,Int.reduceLE,Int.reduceLT,z31,z32,z33,z34,qa3]
  try simp only [qb4, qb5, qc9, List.set_cons_zero, List.cons.injEq, and_true, true_and]
  have hl := h.len
  refine ⟨h.cir, (), 0, Nat.zero_le _, ⟨rfl, rfl⟩, fun i hi => ⟨fun hlt => ?_, fun hge => ?_⟩⟩
  · have := wj8 (qi5 m).1 i
    exact ⟨hlt, fun hz => ⟨qa8 (by omega) (by omega), qa8 (by omega) (by omega), i + 1, hlt, by omega, by rw [wg6, if_pos hz]; omega, by omega⟩, fun hz => ⟨qa8 (by omega) (by omega), i + 1, hlt, by omega, by rw [wg6, if_neg (fun q => q hz)], by omega⟩⟩
  · obtain rfl : i = (qi5 m).1.length := by omega
    exact ⟨rfl, rfl⟩
def q6a (m : List (List Int)) : Int × Int := if (ql8 m).2 = 0 then (((ql8 m).1 - 1).tdiv 2, 0) else if (ql8 m).2 = 8 then ((nL m 0).length, 0) else (0, (ql8 m).2)
abbrev xs0 : qc7 := qg2 true none [qh5] [qf9, qf9] (fun x => wj9 x.1) (fun x => ((q6a x.1).1, (q6a x.1).2, ()))
theorem w0i : qd6 Try.prog 34 xs0 := by
  refine meets (snd (SpecsOk.cons wk0 (SpecsOk.nil _))) Try.func34 rfl rfl (fun _ _ => none) (fun _ => by kernel_rfl) (by decide) ?_
  rintro ⟨m, ⟨⟩⟩ h
  revert m
  intro (m : List (List Int)) (h : wj9 m)
  refine qd7 (B := wj9 m/\((Prod.snd (ql8 m) == (0:Int))=true->fits .i64 (Prod.fst (ql8 m) - (1:Int))/\(2:Int) ≠ (0:Int)/\fits .i64 (Int.tdiv (Prod.fst (ql8 m) - (1:Int)) (2:Int))/\Int.tdiv (Prod.fst (ql8 m) - (1:Int)) (2:Int)=Prod.fst (q6a m)/\(0:Int)=Prod.snd (q6a m)/\True)/\((Prod.snd (ql8 m) == (0:Int))=false->((Prod.snd (ql8 m) == (8:Int))=true->((0:Int) <= (0:Int)/\(0:Int) < (↑(List.length m):Int))/\(↑(List.length (qa1 (Ty.list (Ty.int .i64)) m (0:Nat))):Int)=Prod.fst (q6a m)/\(0:Int)=Prod.snd (q6a m)/\True)/\((Prod.snd (ql8 m) == (8:Int))=false->(0:Int)=Prod.fst (q6a m)/\Prod.snd (ql8 m)=Prod.snd (q6a m)/\True))) (by kernel_rfl) ?_
  try simp only [z0,z1,z2,z3,z4,z5,z6,z7,z8,z9,z10,Int.reduceEq,z11,z12,z13,z14,z15,z16,z17,z18,z19,z20,z21,z22,z23,z24,z25,z26,z27,z28,z29,z30,Int.reduceLE,Int.reduceLT,z31,z32,z33,z34,qa3]
  try simp only [qb4, qb5, qc9, List.set_cons_zero, List.cons.injEq, and_true, true_and]
  have hl := h.len
  have hn := wj8 (qi5 m).1 (qi5 m).1.length
  have e1 : (ql8 m).1 = (wg6 (qi5 m).1 (qi5 m).1.length : Int) := rfl
  have hb : qh4 1000 ((ql8 m).1 - 1) := by unfold qh4; rw [e1]; omega
  have hb2 : qh4 1000 (((ql8 m).1 - 1).tdiv 2) := ql0 hb
  unfold qh4 at hb hb2
  refine ⟨h, fun he => ⟨qa8 (by omega) (by omega), qa8 (by omega) (by omega), by simp [q6a, he]⟩, fun he => ⟨fun h8 => ⟨?_, by simp [q6a, h8]⟩, fun h8 => by simp [q6a, he, h8]⟩⟩
  have hv : qe6 m = true := by
    cases e : qe6 m with
    | true => rfl
    | false =>
      have e2 : (ql8 m).2 = 1 := by simp [ql8, qi5, q56, e]
      rw [e2] at h8; cases h8
  have := (Mk.of hv).rows1
  omega
end Go.Proofs.Ytdibdlelmkcccaa
