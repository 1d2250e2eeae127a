/- What the laws of this layer leave out, and their example: contracts by the engine. No condition. -/
import Derived.Test.YtdibdlelmkcccaaV23
set_option linter.unusedVariables false
set_option linter.unusedSimpArgs false
namespace Go.Proofs.Ytdibdlelmkcccaa
open Go Go.RowKit Eng
def x06 (wr : List Nat) (specs : List (Nat × qc7)) : Ctx := { specs := specs, tys := tys, wr := wr }
theorem x07 (wr : List Nat) {specs : List (Nat × qc7)} (h : SpecsOk Try.prog specs) : Sound Try.prog (x06 wr specs) := SpecsOk.sound h q2l (by kernel_rfl)
def q9c (m : List (List Int)) : Nat -> Int
  | 0 => 0
  | k + 1 => IntKind.i64.wrap (q9c m k + IntKind.i64.wrap ((nL m k).length + 1))
def q9d (l : List Int) : Bool := decide (7 < l.length) && decide (l.length <= 10)
def qs4 (m : List (List Int)) : Bool := !(m.any q9d) && decide (q9c m m.length <= 200)
theorem q2v {m : List (List Int)} (hl : qs4 m = true) (hM : Mk m) : (nL m 0).length <= 7 := by
  unfold qs4 at hl
  rw [Bool.and_eq_true, Bool.not_eq_true', List.any_eq_false] at hl
  have h1 := hl.1 (nL m 0) (qu9 m 0 (by have := hM.rows1; omega))
  have h2 := hM.pix10
  unfold q9d at h1
  rw [Bool.and_eq_true, decide_eq_true_eq, decide_eq_true_eq] at h1
  omega
structure w4a (m : List (List Int)) (k : Nat) : Prop where
  le : k <= m.length
  ok : ∀ i, i < k -> q9d (nL m i) = false
abbrev x08 : qc7 := qg2 true none [qh5] [.bool] (fun x => q3v x.1) (fun x => (qs4 x.1, ()))
def xs1 (m : List (List Int)) : Nat -> Option Inv
  | 0 => some (Inv.of [3, 8] 0 (fun k : Nat => [(3, .lit (.int .i64 (q9c m k))), (8, .lit (.int .i64 k))]) (fun _ => []) (fun k => w4a m k) (fun k => m.length - k))
  | _ => none
theorem w4b : qd6 Try.prog 8 x08 := by
  refine meets (x07 [15, 16] (SpecsOk.nil _)) Try.func8 rfl rfl (fun x => xs1 x.1) (fun _ => by kernel_rfl) (by decide) ?_
  rintro ⟨m, ⟨⟩⟩ h
  revert m
  intro (m : List (List Int)) (h : q3v m)
  refine qd7 (B := ∃ (v0:Unit),∃ (v1:Nat),w4a m v1/\(((0:Int)=q9c m v1/\(0:Int)=(↑v1:Int)/\True)/\True)/\∀ (v2:Nat),w4a m v2->(decide ((↑v2:Int) < (↑(List.length m):Int))=true->((0:Int) <= (↑v2:Int)/\(↑v2:Int) < (↑(List.length m):Int))/\(decide ((7:Int) < (↑(List.length (qa1 (Ty.list (Ty.int .i64)) m (Int.toNat (↑v2:Int)))):Int))=true->(decide ((↑(List.length (qa1 (Ty.list (Ty.int .i64)) m (Int.toNat (↑v2:Int)))):Int) <= (10:Int))=true->false=qs4 m)/\(decide ((↑(List.length (qa1 (Ty.list (Ty.int .i64)) m (Int.toNat (↑v2:Int)))):Int) <= (10:Int))=false->fits .i64 ((↑v2:Int) + (1:Int))/\∃ (v7:Nat),w4a m v7/\List.length m - v7 < List.length m - v2/\(IntKind.wrap IntKind.i64 (q9c m v2 + IntKind.wrap IntKind.i64 ((↑(List.length (qa1 (Ty.list (Ty.int .i64)) m (Int.toNat (↑v2:Int)))):Int) + (1:Int)))=q9c m v7/\(↑v2:Int) + (1:Int)=(↑v7:Int)/\True)/\True))/\(decide ((7:Int) < (↑(List.length (qa1 (Ty.list (Ty.int .i64)) m (Int.toNat (↑v2:Int)))):Int))=false->fits .i64 ((↑v2:Int) + (1:Int))/\∃ (v6:Nat),w4a m v6/\List.length m - v6 < List.length m - v2/\(IntKind.wrap IntKind.i64 (q9c m v2 + IntKind.wrap IntKind.i64 ((↑(List.length (qa1 (Ty.list (Ty.int .i64)) m (Int.toNat (↑v2:Int)))):Int) + (1:Int)))=q9c m v6/\(↑v2:Int) + (1:Int)=(↑v6:Int)/\True)/\True))/\(decide ((↑v2:Int) < (↑(List.length m):Int))=false->decide (q9c m v2 <= (200:Int))=qs4 m)) (by kernel_rfl) ?_
  try simp only [z0,z1,z2,z3,z4,z5,z6,z7,z8,z9,z10,Int.reduceEq,z11,z12,z13,z14,z15,z16,z17,z18,z19,z20,z21,z22,z23,z24,z25,z26,z27,z28,z29,z30,Int.reduceLE,Int.reduceLT,z31,z32,z33,z34,qa3]
  try simp only [qb4, qb5, qc9, List.set_cons_zero, List.cons.injEq, and_true, true_and]
  have hr := h.rows
  have dk : ∀ k, k < m.length -> q9d (nL m k) = true -> qs4 m = false := fun k hk hd => by
    have : m.any q9d = true := List.any_eq_true.2 ⟨_, qu9 m k hk, hd⟩
    simp [qs4, this]
  refine ⟨(), 0, ⟨Nat.zero_le _, fun i hi => absurd hi (Nat.not_lt_zero _)⟩, ⟨rfl, rfl⟩, fun k hk => ⟨fun hlt => ⟨hlt, fun h7 => ⟨fun h10 => ?_, fun h10 => ⟨qa8 (by omega) (by omega), k + 1, ⟨hlt, fun i hi => ?_⟩, by omega, rfl, by omega⟩⟩, fun h7 => ⟨qa8 (by omega) (by omega), k + 1, ⟨hlt, fun i hi => ?_⟩, by omega, rfl, by omega⟩⟩, fun hge => ?_⟩⟩
  · refine (dk k hlt ?_).symm
    unfold q9d
    rw [Bool.and_eq_true, decide_eq_true_eq, decide_eq_true_eq]
    omega
  · by_cases e : i = k
    · subst e
      have : ¬ (nL m i).length <= 10 := by omega
      simp [q9d, this]
    · exact hk.ok i (by omega)
  · by_cases e : i = k
    · subst e
      have : ¬ 7 < (nL m i).length := by omega
      simp [q9d, this]
    · exact hk.ok i (by omega)
  · obtain rfl : k = m.length := by have := hk.le; omega
    have : m.any q9d = false := by
      rw [List.any_eq_false]
      intro x hx
      obtain ⟨i, hi, rfl⟩ := List.getElem_of_mem hx
      rw [<- qj9 m i hi, hk.ok i hi]; decide
    simp [qs4, this]
def q9e (l : List (List Int)) : Bool := l.any fun x => decide (100 < x.length)
abbrev xs2 : qc7 := qg2 true none [qh5] [.bool] (fun x => x.1.length <= 1000) (fun x => (q9e x.1, ()))
structure w7b (l : List (List Int)) (k : Nat) : Prop where
  le : k <= l.length
  ok : ∀ i, i < k -> (nL l i).length <= 100
def xi2 (l : List (List Int)) : Nat -> Option Inv
  | 0 => some (Inv.of [7] 0 (fun k : Nat => [(7, .lit (.int .i64 k))]) (fun _ => []) (fun k => w7b l k) (fun k => l.length - k))
  | _ => none
theorem w0j : qd6 Try.prog 9 xs2 := by
  refine meets (snd (SpecsOk.nil _)) Try.func9 rfl rfl (fun x => xi2 x.1) (fun _ => by kernel_rfl) (by decide) ?_
  rintro ⟨l, ⟨⟩⟩ h
  revert l
  intro (l : List (List Int)) (h : l.length <= 1000)
  refine qd7 (B := ∃ (v0:Unit),∃ (v1:Nat),w7b l v1/\(((0:Int)=(↑v1:Int)/\True)/\True)/\∀ (v2:Nat),w7b l v2->(decide ((↑v2:Int) < (↑(List.length l):Int))=true->((0:Int) <= (↑v2:Int)/\(↑v2:Int) < (↑(List.length l):Int))/\(decide ((100:Int) < (↑(List.length (qa1 (Ty.list (Ty.int .i64)) l (Int.toNat (↑v2:Int)))):Int))=true->true=q9e l)/\(decide ((100:Int) < (↑(List.length (qa1 (Ty.list (Ty.int .i64)) l (Int.toNat (↑v2:Int)))):Int))=false->fits .i64 ((↑v2:Int) + (1:Int))/\∃ (v6:Nat),w7b l v6/\List.length l - v6 < List.length l - v2/\((↑v2:Int) + (1:Int)=(↑v6:Int)/\True)/\True))/\(decide ((↑v2:Int) < (↑(List.length l):Int))=false->false=q9e l)) (by kernel_rfl) ?_
  try simp only [z0,z1,z2,z3,z4,z5,z6,z7,z8,z9,z10,Int.reduceEq,z11,z12,z13,z14,z15,z16,z17,z18,z19,z20,z21,z22,z23,z24,z25,z26,z27,z28,z29,z30,Int.reduceLE,Int.reduceLT,z31,z32,z33,z34,qa3]
  try simp only [qb4, qb5, qc9, List.set_cons_zero, List.cons.injEq, and_true, true_and]
  refine ⟨(), 0, ⟨Nat.zero_le _, fun i hi => absurd hi (Nat.not_lt_zero _)⟩, rfl, fun k hk => ⟨fun hlt => ⟨hlt, fun h1 => ?_, fun h1 => ⟨qa8 (by omega) (by omega), k + 1, ⟨hlt, fun i hi => ?_⟩, by omega, by omega⟩⟩, fun hge => ?_⟩⟩
  · have : q9e l = true := List.any_eq_true.2 ⟨_, qu9 l k hlt, decide_eq_true (by omega)⟩
    exact this.symm
  · by_cases e : i = k
    · subst e; omega
    · exact hk.ok i (by omega)
  · obtain rfl : k = l.length := by have := hk.le; omega
    have : q9e l = false := by
      unfold q9e
      rw [List.any_eq_false]
      intro x hx
      obtain ⟨i, hi, rfl⟩ := List.getElem_of_mem hx
      have := hk.ok i hi
      rw [qj9 l i hi] at this
      simp; omega
    exact this.symm
def q7t : List (List Int) := [[1, 1, 0], [0, 1, 1]]
abbrev x1a : qc7 := qg2 false none [] [qh5] (fun _ => True) (fun _ => (q7t, ()))
theorem w4c : qd6 Try.prog 38 x1a := by
  refine meets (snd (SpecsOk.nil _)) Try.func38 rfl rfl (fun _ _ => none) (fun _ => by kernel_rfl) (by decide) ?_
  rintro ⟨⟩ -
  refine qd7 (B := [[(1:Int),(1:Int),(0:Int)],[(0:Int),(1:Int),(1:Int)]]=q7t) (by kernel_rfl) ?_
  try simp only [z0,z1,z2,z3,z4,z5,z6,z7,z8,z9,z10,Int.reduceEq,z11,z12,z13,z14,z15,z16,z17,z18,z19,z20,z21,z22,z23,z24,z25,z26,z27,z28,z29,z30,Int.reduceLE,Int.reduceLT,z31,z32,z33,z34,qa3]
  try simp only [qb4, qb5, qc9, List.set_cons_zero, List.cons.injEq, and_true, true_and]
  rfl
end Go.Proofs.Ytdibdlelmkcccaa
