/- What the laws of this layer leave out, and their example: contracts by the engine. No condition. -/
import Derived.Test.YtdibdlelmkcccaaV23
set_option linter.unusedVariables false
set_option linter.unusedSimpArgs false
namespace Go.Proofs.Ytdibdlelmkcccaa
open Go Go.RowKit Eng
def ctxW (wr : List Nat) (specs : List (Nat × FSpec)) : Ctx := { specs := specs, tys := tys, wr := wr }
theorem sndW (wr : List Nat) {specs : List (Nat × FSpec)} (h : SpecsOk Try.prog specs) : Sound Try.prog (ctxW wr specs) := SpecsOk.sound h tys_ok (by kernel_rfl)
def qw1 (m : List (List Int)) : Nat → Int
  | 0 => 0
  | k + 1 => IntKind.i64.wrap (qw1 m k + IntKind.i64.wrap ((nL m k).length + 1))
def qw2 (l : List Int) : Bool := decide (7 < l.length) && decide (l.length ≤ 10)
def qg0 (m : List (List Int)) : Bool := !(m.any qw2) && decide (qw1 m m.length ≤ 200)
theorem qk7 {m : List (List Int)} (hl : qg0 m = true) (hM : Mk m) : (nL m 0).length ≤ 7 := by
  unfold qg0 at hl
  rw [Bool.and_eq_true, Bool.not_eq_true', List.any_eq_false] at hl
  have h1 := hl.1 (nL m 0) (qh7 m 0 (by have := hM.rows1; omega))
  have h2 := hM.pix10
  unfold qw2 at h1
  rw [Bool.and_eq_true, decide_eq_true_eq, decide_eq_true_eq] at h1
  omega
structure q39 (m : List (List Int)) (k : Nat) : Prop where
  le : k ≤ m.length
  ok : ∀ i, i < k → qw2 (nL m i) = false
abbrev sLgt : FSpec := tspec true none [qd2] [.bool] (fun x => FitM x.1) (fun x => (qg0 x.1, ()))
def ivLgt (m : List (List Int)) : Nat → Option Inv
  | 0 => some (Inv.of [3, 8] 0 (fun k : Nat => [(3, .lit (.int .i64 (qw1 m k))), (8, .lit (.int .i64 k))]) (fun _ => []) (fun k => q39 m k) (fun k => m.length - k))
  | _ => none
theorem q4a : Meets Try.prog 8 sLgt := by
  refine meets (sndW [15, 16] (SpecsOk.nil _)) Try.func8 rfl rfl (fun x => ivLgt x.1) (fun _ => by kernel_rfl) (by decide) ?_
  rintro ⟨m, ⟨⟩⟩ h
  revert m
  intro (m : List (List Int)) (h : FitM m)
  refine by_vc (B := ∃ (v0 : Unit), ∃ (v1 : Nat), q39 m v1/\(((0 : Int) = qw1 m v1/\(0 : Int) = (↑v1 : Int)/\True)/\True)/\∀ (v2 : Nat), q39 m v2->(decide ((↑v2 : Int) < (↑(List.length m) : Int)) = true->((0 : Int) <= (↑v2 : Int)/\(↑v2 : Int) < (↑(List.length m) : Int))/\(decide ((7 : Int) < (↑(List.length (nthD (Ty.list (Ty.int .i64)) m (Int.toNat (↑v2 : Int)))) : Int)) = true->(decide ((↑(List.length (nthD (Ty.list (Ty.int .i64)) m (Int.toNat (↑v2 : Int)))) : Int) <= (10 : Int)) = true->false = qg0 m)/\(decide ((↑(List.length (nthD (Ty.list (Ty.int .i64)) m (Int.toNat (↑v2 : Int)))) : Int) <= (10 : Int)) = false->fits .i64 ((↑v2 : Int) + (1 : Int))/\∃ (v7 : Nat), q39 m v7/\List.length m - v7 < List.length m - v2/\(IntKind.wrap IntKind.i64 (qw1 m v2 + IntKind.wrap IntKind.i64 ((↑(List.length (nthD (Ty.list (Ty.int .i64)) m (Int.toNat (↑v2 : Int)))) : Int) + (1 : Int))) = qw1 m v7/\(↑v2 : Int) + (1 : Int) = (↑v7 : Int)/\True)/\True))/\(decide ((7 : Int) < (↑(List.length (nthD (Ty.list (Ty.int .i64)) m (Int.toNat (↑v2 : Int)))) : Int)) = false->fits .i64 ((↑v2 : Int) + (1 : Int))/\∃ (v6 : Nat), q39 m v6/\List.length m - v6 < List.length m - v2/\(IntKind.wrap IntKind.i64 (qw1 m v2 + IntKind.wrap IntKind.i64 ((↑(List.length (nthD (Ty.list (Ty.int .i64)) m (Int.toNat (↑v2 : Int)))) : Int) + (1 : Int))) = qw1 m v6/\(↑v2 : Int) + (1 : Int) = (↑v6 : Int)/\True)/\True))/\(decide ((↑v2 : Int) < (↑(List.length m) : Int)) = false->decide (qw1 m v2 <= (200 : Int)) = qg0 m)) (by kernel_rfl) ?_
  try simp only [z0,z1,z2,z3,z4,z5,z6,z7,z8,z9,z10,Int.reduceEq,z11,z12,z13,z14,z15,z16,z17,z18,z19,z20,z21,z22,z23,z24,z25,z26,z27,z28,z29,z30,Int.reduceLE,Int.reduceLT,z31,z32,z33,z34,nilEq_true]
  try simp only [qa4, qa5, qa8, List.set_cons_zero, List.cons.injEq, and_true, true_and]
  have hr := h.rows
  have dk : ∀ k, k < m.length → qw2 (nL m k) = true → qg0 m = false := fun k hk hd => by
    have : m.any qw2 = true := List.any_eq_true.2 ⟨_, qh7 m k hk, hd⟩
    simp [qg0, this]
  refine ⟨(), 0, ⟨Nat.zero_le _, fun i hi => absurd hi (Nat.not_lt_zero _)⟩, ⟨rfl, rfl⟩, fun k hk => ⟨fun hlt => ⟨hlt, fun h7 => ⟨fun h10 => ?_, fun h10 => ⟨fits64 (by omega) (by omega), k + 1, ⟨hlt, fun i hi => ?_⟩, by omega, rfl, by omega⟩⟩, fun h7 => ⟨fits64 (by omega) (by omega), k + 1, ⟨hlt, fun i hi => ?_⟩, by omega, rfl, by omega⟩⟩, fun hge => ?_⟩⟩
  · refine (dk k hlt ?_).symm
    unfold qw2
    rw [Bool.and_eq_true, decide_eq_true_eq, decide_eq_true_eq]
    omega
  · by_cases e : i = k
    · subst e
      have : ¬ (nL m i).length ≤ 10 := by omega
      simp [qw2, this]
    · exact hk.ok i (by omega)
  · by_cases e : i = k
    · subst e
      have : ¬ 7 < (nL m i).length := by omega
      simp [qw2, this]
    · exact hk.ok i (by omega)
  · obtain rfl : k = m.length := by have := hk.le; omega
    have : m.any qw2 = false := by
      rw [List.any_eq_false]
      intro x hx
      obtain ⟨i, hi, rfl⟩ := List.getElem_of_mem hx
      rw [← qe3 m i hi, hk.ok i hi]; decide
    simp [qg0, this]
def qy7 (l : List (List Int)) : Bool := l.any fun x => decide (100 < x.length)
abbrev sLong : FSpec := tspec true none [qd2] [.bool] (fun x => x.1.length ≤ 1000) (fun x => (qy7 x.1, ()))
structure q5o (l : List (List Int)) (k : Nat) : Prop where
  le : k ≤ l.length
  ok : ∀ i, i < k → (nL l i).length ≤ 100
def ivLong (l : List (List Int)) : Nat → Option Inv
  | 0 => some (Inv.of [7] 0 (fun k : Nat => [(7, .lit (.int .i64 k))]) (fun _ => []) (fun k => q5o l k) (fun k => l.length - k))
  | _ => none
theorem q2p : Meets Try.prog 9 sLong := by
  refine meets (snd (SpecsOk.nil _)) Try.func9 rfl rfl (fun x => ivLong x.1) (fun _ => by kernel_rfl) (by decide) ?_
  rintro ⟨l, ⟨⟩⟩ h
  revert l
  intro (l : List (List Int)) (h : l.length ≤ 1000)
  refine by_vc (B := ∃ (v0 : Unit), ∃ (v1 : Nat), q5o l v1/\(((0 : Int) = (↑v1 : Int)/\True)/\True)/\∀ (v2 : Nat), q5o l v2->(decide ((↑v2 : Int) < (↑(List.length l) : Int)) = true->((0 : Int) <= (↑v2 : Int)/\(↑v2 : Int) < (↑(List.length l) : Int))/\(decide ((100 : Int) < (↑(List.length (nthD (Ty.list (Ty.int .i64)) l (Int.toNat (↑v2 : Int)))) : Int)) = true->true = qy7 l)/\(decide ((100 : Int) < (↑(List.length (nthD (Ty.list (Ty.int .i64)) l (Int.toNat (↑v2 : Int)))) : Int)) = false->fits .i64 ((↑v2 : Int) + (1 : Int))/\∃ (v6 : Nat), q5o l v6/\List.length l - v6 < List.length l - v2/\((↑v2 : Int) + (1 : Int) = (↑v6 : Int)/\True)/\True))/\(decide ((↑v2 : Int) < (↑(List.length l) : Int)) = false->false = qy7 l)) (by kernel_rfl) ?_
  try simp only [z0,z1,z2,z3,z4,z5,z6,z7,z8,z9,z10,Int.reduceEq,z11,z12,z13,z14,z15,z16,z17,z18,z19,z20,z21,z22,z23,z24,z25,z26,z27,z28,z29,z30,Int.reduceLE,Int.reduceLT,z31,z32,z33,z34,nilEq_true]
  try simp only [qa4, qa5, qa8, List.set_cons_zero, List.cons.injEq, and_true, true_and]
  refine ⟨(), 0, ⟨Nat.zero_le _, fun i hi => absurd hi (Nat.not_lt_zero _)⟩, rfl, fun k hk => ⟨fun hlt => ⟨hlt, fun h1 => ?_, fun h1 => ⟨fits64 (by omega) (by omega), k + 1, ⟨hlt, fun i hi => ?_⟩, by omega, by omega⟩⟩, fun hge => ?_⟩⟩
  · have : qy7 l = true := List.any_eq_true.2 ⟨_, qh7 l k hlt, decide_eq_true (by omega)⟩
    exact this.symm
  · by_cases e : i = k
    · subst e; omega
    · exact hk.ok i (by omega)
  · obtain rfl : k = l.length := by have := hk.le; omega
    have : qy7 l = false := by
      unfold qy7
      rw [List.any_eq_false]
      intro x hx
      obtain ⟨i, hi, rfl⟩ := List.getElem_of_mem hx
      have := hk.ok i hi
      rw [qe3 l i hi] at this
      simp; omega
    exact this.symm
def twoM : List (List Int) := [[1, 1, 0], [0, 1, 1]]
abbrev sTwo : FSpec := tspec false none [] [qd2] (fun _ => True) (fun _ => (twoM, ()))
theorem q4b : Meets Try.prog 38 sTwo := by
  refine meets (snd (SpecsOk.nil _)) Try.func38 rfl rfl (fun _ _ => none) (fun _ => by kernel_rfl) (by decide) ?_
  rintro ⟨⟩ -
  refine by_vc (B := [[(1 : Int), (1 : Int), (0 : Int)], [(0 : Int), (1 : Int), (1 : Int)]] = twoM) (by kernel_rfl) ?_
  try simp only [z0,z1,z2,z3,z4,z5,z6,z7,z8,z9,z10,Int.reduceEq,z11,z12,z13,z14,z15,z16,z17,z18,z19,z20,z21,z22,z23,z24,z25,z26,z27,z28,z29,z30,Int.reduceLE,Int.reduceLT,z31,z32,z33,z34,nilEq_true]
  try simp only [qa4, qa5, qa8, List.set_cons_zero, List.cons.injEq, and_true, true_and]
  rfl
end Go.Proofs.Ytdibdlelmkcccaa
