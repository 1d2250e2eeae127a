/- The errors of masks, readings and pixels, program and reference: contracts by the engine. No condition. -/
import Derived.Test.YtdibdlelmkcccaaV5
set_option linter.unusedVariables false
set_option linter.unusedSimpArgs false
namespace Go.Proofs.Ytdibdlelmkcccaa
open Go Go.RowKit Eng
structure Mk (m : List (List Int)) : Prop where
  rows1 : 1 ≤ m.length
  rows6 : m.length ≤ 6
  each : ∀ i, i < m.length → (nL m i).length = (nL m 0).length
  pix1 : 1 ≤ (nL m 0).length
  pix10 : (nL m 0).length ≤ 10
  small : ∀ i, i < m.length → ∀ j, j < (nL m 0).length → -1 ≤ nI (nL m i) j ∧ nI (nL m i) j ≤ 1
theorem Mk.of {m : List (List Int)} (h : qb5 m = true) : Mk m := by
  unfold qb5 at h
  rw [Bool.and_eq_true, qh8, List.all_eq_true] at h
  obtain ⟨h1, h2⟩ := h
  have each : ∀ i, i < m.length → (nL m i).length = (nL m 0).length ∧ rowB (nL m i) = true := fun i hi => by
    have := h2 (nL m i) (by unfold nL; rw [nthD_at (t := qb8) m i hi]; exact List.getElem_mem hi)
    rw [Bool.and_eq_true, decide_eq_true_eq] at this
    exact this
  have hr : ∀ i, i < m.length → (1 ≤ (nL m i).length ∧ (nL m i).length ≤ 10) ∧ ∀ j, j < (nL m i).length → -1 ≤ nI (nL m i) j ∧ nI (nL m i) j ≤ 1 := fun i hi => by
    have := (each i hi).2
    unfold rowB at this
    rw [Bool.and_eq_true, qh8, List.all_eq_true] at this
    refine ⟨by omega, fun j hj => qh8.1 (this.2 _ ?_)⟩
    unfold nI; rw [nthD_at (t := tInt) _ j hj]; exact List.getElem_mem hj
  have h0 := hr 0 (by omega)
  exact ⟨by omega, by omega, fun i hi => (each i hi).1, h0.1.1, h0.1.2, fun i hi j hj => (hr i hi).2 j (by rw [(each i hi).1]; exact hj)⟩
def pixE (m : List (List Int)) (l : List Int) : Int := if qb5 m = false then 1 else namE (nL m 0).length l
abbrev sPix : FSpec := tspec true none [qd2, qb8] [tInt] (fun x => x.2.1.length ≤ 1000000) (fun x => (pixE x.1 x.2.1, ()))
theorem q3d : Meets Try.prog 69 sPix := by
  refine meets (snd (SpecsOk.cons qv0 (SpecsOk.cons q3c (SpecsOk.nil _)))) Try.func69 rfl rfl (fun _ _ => none) (fun _ => by kernel_rfl) (by decide) ?_
  rintro ⟨m, l, ⟨⟩⟩ h
  revert m l
  intro (m : List (List Int)) (l : List Int) (h : l.length ≤ 1000000)
  refine by_vc (B := True/\((!qb5 m) = true->(1 : Int) = pixE m l)/\((!qb5 m) = false->((0 : Int) <= (0 : Int)/\(0 : Int) < (↑(List.length m) : Int))/\(((0 : Ty.den tInt) <= (↑(List.length (nthD (Ty.list (Ty.int .i64)) m (0 : Nat))) : Int)/\(↑(List.length (nthD (Ty.list (Ty.int .i64)) m (0 : Nat))) : Int) <= BIG)/\List.length l <= (1000000 : Nat))/\namE (↑(List.length (nthD (Ty.list (Ty.int .i64)) m (0 : Nat))) : Int) l = pixE m l)) (by kernel_rfl) ?_
  try simp only [z0,z1,z2,z3,z4,z5,z6,z7,z8,z9,z10,Int.reduceEq,z11,z12,z13,z14,z15,z16,z17,z18,z19,z20,z21,z22,z23,z24,z25,z26,z27,z28,z29,z30,Int.reduceLE,Int.reduceLT,z31,z32,z33,z34,nilEq_true]
  try simp only [qa4, qa5, qa8, List.set_cons_zero, List.cons.injEq, and_true, true_and]
  refine ⟨fun hv => by simp [pixE, hv], fun hv => ?_⟩
  have hM := Mk.of hv
  have h1 := hM.rows1
  have h2 := hM.pix10
  unfold BIG
  exact ⟨by omega, ⟨by omega, h⟩, by simp [pixE, hv]⟩
def outB (y : List Int) : Bool := y.any fun n => !(inB n (0 - 1000000) 1000000)
def chkE (m : List (List Int)) (y l : List Int) : Int := if qb5 m = false then 1 else if ¬ y.length = m.length then 9 else if outB y then 7 else pixE m l
abbrev sChk : FSpec := tspec true none [qd2, qb8, qb8] [tInt] (fun x => x.2.2.1.length ≤ 1000000) (fun x => (chkE x.1 x.2.1 x.2.2.1, ()))
theorem qp5 : Meets Try.prog 48 sChk := by
  refine meets (snd (SpecsOk.cons qv0 (SpecsOk.cons q3d (SpecsOk.cons q3b (SpecsOk.cons (qp3 (fs := [(113, sBey1)]) (SpecsOk.cons q1w (SpecsOk.nil _))) (SpecsOk.nil _)))))) Try.func48 rfl rfl (fun _ _ => none) (fun _ => by kernel_rfl) (by decide) ?_
  rintro ⟨m, y, l, ⟨⟩⟩ h
  revert m y l
  intro (m : List (List Int)) (y : List Int) (l : List Int) (h : l.length ≤ 1000000)
  refine by_vc (B := True/\((!qb5 m) = true->(1 : Int) = chkE m y l)/\((!qb5 m) = false->(((↑(List.length y) : Int) != (↑(List.length m) : Int)) = true->(9 : Int) = chkE m y l)/\(((↑(List.length y) : Int) != (↑(List.length m) : Int)) = false->True/\∃ (v2 : argsTy [Ty.int .i64]->Prop), ∃ (v3 : argsTy [Ty.int .i64]->Bool), (∀ (v4 : Int × argsTy._f [] PUnit.unit), v2 v4->((0 : PTy.den (PTy.cap tInt)) <= (1000000 : Int)/\(1000000 : Int) <= BIG)/\(!inB (Prod.fst v4) ((0 : Int) - (1000000 : Int)) (1000000 : Int)) = v3 v4)/\(List.length y <= (1000000 : Nat)/\∀ (v4 : Nat), v4 < List.length y->v2 (nthD (Ty.int .i64) y v4, ()))/\((List.any y fun (v5 : Int) => v3 (v5, ())) = true->(7 : Int) = chkE m y l)/\((List.any y fun (v5 : Int) => v3 (v5, ())) = false->List.length l <= (1000000 : Nat)/\pixE m l = chkE m y l)))) (by kernel_rfl) ?_
  try simp only [z0,z1,z2,z3,z4,z5,z6,z7,z8,z9,z10,Int.reduceEq,z11,z12,z13,z14,z15,z16,z17,z18,z19,z20,z21,z22,z23,z24,z25,z26,z27,z28,z29,z30,Int.reduceLE,Int.reduceLT,z31,z32,z33,z34,nilEq_true]
  try simp only [qa4, qa5, qa8, List.set_cons_zero, List.cons.injEq, and_true, true_and]
  refine ⟨fun hv => by simp [chkE, hv], fun hv => ⟨fun hl => ?_, fun hl => ?_⟩⟩
  · have hl : ¬ y.length = m.length := by omega
    simp [chkE, hv, hl]
  have hl : y.length = m.length := by omega
  have hM := Mk.of hv
  have h1 := hM.rows6
  refine ⟨fun _ => True, fun x => !(inB x.1 (0 - 1000000) 1000000), fun x _ => ⟨by decide, by simp⟩, ⟨by omega, fun _ _ => trivial⟩, fun ho => ?_, fun ho => ⟨h, ?_⟩⟩
  · have ho : outB y = true := ho
    simp [chkE, hv, hl, ho]
  · have ho : outB y = false := ho
    simp [chkE, hv, hl, ho]
structure FitM (m : List (List Int)) : Prop where
  rows : m.length ≤ 9223372036854775807
  each : ∀ i, i < m.length → (nL m i).length ≤ 9223372036854775807
structure RowTo (l : List Int) (k : Nat) : Prop where
  le : k ≤ l.length
  ok : ∀ i, i < k → inB (nI l i) (-1) 1 = true
def ivRow2 (l : List Int) : Nat → Option Inv
  | 0 => some (Inv.of [7] 0 (fun k : Nat => [(7, .lit (.int .i64 k))]) (fun _ => []) (fun k => RowTo l k) (fun k => l.length - k))
  | _ => none
theorem q3e {l : List Int} {k : Nat} (hk : k < l.length) (h : inB (nI l k) (-1) 1 = false) : rowB l = false := by
  cases e : rowB l with
  | false => rfl
  | true =>
    unfold rowB at e
    rw [Bool.and_eq_true, List.all_eq_true] at e
    have := e.2 (nI l k) (by rw [qd3 l k hk]; exact List.getElem_mem hk)
    rw [h] at this; cases this
theorem RowTo.all {l : List Int} (h : RowTo l l.length) : (l.all fun n => inB n (-1) 1) = true := by
  rw [List.all_eq_true]
  intro x hx
  obtain ⟨i, hi, rfl⟩ := List.getElem_of_mem hx
  rw [← qd3 l i hi]; exact h.ok i hi
abbrev sRow2 : FSpec := tspec true none [qb8] [.bool] (fun x => x.1.length ≤ 9223372036854775807) (fun x => (rowB x.1, ()))
theorem q1y : Meets Try.prog 97 sRow2 := by
  refine meets (snd (SpecsOk.cons qi9 (SpecsOk.nil _))) Try.func97 rfl rfl (fun x => ivRow2 x.1) (fun _ => by kernel_rfl) (by decide) ?_
  rintro ⟨l, ⟨⟩⟩ h
  revert l
  intro (l : List Int) (h : l.length ≤ 9223372036854775807)
  refine by_vc (B := ∃ (v0 : Unit), ∃ (v1 : Nat), RowTo l v1/\(((0 : Int) = (↑v1 : Int)/\True)/\True)/\∀ (v2 : Nat), RowTo l v2->(decide ((↑v2 : Int) < (↑(List.length l) : Int)) = true->((0 : Int) <= (↑v2 : Int)/\(↑v2 : Int) < (↑(List.length l) : Int))/\True/\((!inB (nthD (Ty.int .i64) l (Int.toNat (↑v2 : Int))) (-1 : Int) (1 : Int)) = true->false = rowB l)/\((!inB (nthD (Ty.int .i64) l (Int.toNat (↑v2 : Int))) (-1 : Int) (1 : Int)) = false->fits .i64 ((↑v2 : Int) + (1 : Int))/\∃ (v6 : Nat), RowTo l v6/\List.length l - v6 < List.length l - v2/\((↑v2 : Int) + (1 : Int) = (↑v6 : Int)/\True)/\True))/\(decide ((↑v2 : Int) < (↑(List.length l) : Int)) = false->True/\inB (↑(List.length l) : Int) (1 : Int) (10 : Int) = rowB l)) (by kernel_rfl) ?_
  try simp only [z0,z1,z2,z3,z4,z5,z6,z7,z8,z9,z10,Int.reduceEq,z11,z12,z13,z14,z15,z16,z17,z18,z19,z20,z21,z22,z23,z24,z25,z26,z27,z28,z29,z30,Int.reduceLE,Int.reduceLT,z31,z32,z33,z34,nilEq_true]
  try simp only [qa4, qa5, qa8, List.set_cons_zero, List.cons.injEq, and_true, true_and]
  refine ⟨(), 0, ⟨Nat.zero_le _, fun i hi => by omega⟩, rfl, fun k hk => ⟨fun hlt => ⟨hlt, fun h1 => (q3e hlt h1).symm, fun h1 => ⟨fits64 (by omega) (by omega), k + 1, ⟨hlt, fun i hi => ?_⟩, by omega, by omega⟩⟩, fun hge => ?_⟩⟩
  · by_cases e : i = k
    · subst e; exact h1
    · exact hk.ok i (by omega)
  · obtain rfl : k = l.length := by have := hk.le; omega
    rw [rowB, hk.all, Bool.and_true]
structure MkTo (m : List (List Int)) (k : Nat) : Prop where
  le : k ≤ m.length
  ok : ∀ i, i < k → rowB (nL m i) = true ∧ (nL m i).length = (nL m 0).length
def ivV2 (m : List (List Int)) : Nat → Option Inv
  | 0 => some (Inv.of [7] 0 (fun k : Nat => [(7, .lit (.int .i64 k))]) (fun _ => []) (fun k => MkTo m k) (fun k => m.length - k))
  | _ => none
theorem qp6 {m : List (List Int)} {k : Nat} (hk : k < m.length) (h : rowB (nL m k) = false ∨ ¬ (nL m k).length = (nL m 0).length) : qb5 m = false := by
  cases e : qb5 m with
  | false => rfl
  | true =>
    unfold qb5 at e
    rw [Bool.and_eq_true, List.all_eq_true] at e
    have := e.2 (nL m k) (by rw [qe3 m k hk]; exact List.getElem_mem hk)
    rw [Bool.and_eq_true, decide_eq_true_eq] at this
    rcases h with h | h
    · rw [h] at this; cases this.2
    · exact absurd this.1 h
abbrev sV2 : FSpec := tspec true none [qd2] [.bool] (fun x => FitM x.1) (fun x => (qb5 x.1, ()))
theorem qv2 : Meets Try.prog 65 sV2 := by
  refine meets (snd (SpecsOk.cons qi9 (SpecsOk.cons q1y (SpecsOk.nil _)))) Try.func65 rfl rfl (fun x => ivV2 x.1) (fun _ => by kernel_rfl) (by decide) ?_
  rintro ⟨m, ⟨⟩⟩ h
  revert m
  intro (m : List (List Int)) (h : FitM m)
  refine by_vc (B := ∃ (v0 : Unit), ∃ (v1 : Nat), MkTo m v1/\(((0 : Int) = (↑v1 : Int)/\True)/\True)/\∀ (v2 : Nat), MkTo m v2->(decide ((↑v2 : Int) < (↑(List.length m) : Int)) = true->((0 : Int) <= (↑v2 : Int)/\(↑v2 : Int) < (↑(List.length m) : Int))/\List.length (nthD (Ty.list (Ty.int .i64)) m (Int.toNat (↑v2 : Int))) <= (9223372036854775807 : Nat)/\((!rowB (nthD (Ty.list (Ty.int .i64)) m (Int.toNat (↑v2 : Int)))) = true->false = qb5 m)/\((!rowB (nthD (Ty.list (Ty.int .i64)) m (Int.toNat (↑v2 : Int)))) = false->((0 : Int) <= (0 : Int)/\(0 : Int) < (↑(List.length m) : Int))/\(((↑(List.length (nthD (Ty.list (Ty.int .i64)) m (Int.toNat (↑v2 : Int)))) : Int) != (↑(List.length (nthD (Ty.list (Ty.int .i64)) m (0 : Nat))) : Int)) = true->false = qb5 m)/\(((↑(List.length (nthD (Ty.list (Ty.int .i64)) m (Int.toNat (↑v2 : Int)))) : Int) != (↑(List.length (nthD (Ty.list (Ty.int .i64)) m (0 : Nat))) : Int)) = false->fits .i64 ((↑v2 : Int) + (1 : Int))/\∃ (v7 : Nat), MkTo m v7/\List.length m - v7 < List.length m - v2/\((↑v2 : Int) + (1 : Int) = (↑v7 : Int)/\True)/\True)))/\(decide ((↑v2 : Int) < (↑(List.length m) : Int)) = false->True/\inB (↑(List.length m) : Int) (1 : Int) (6 : Int) = qb5 m)) (by kernel_rfl) ?_
  try simp only [z0,z1,z2,z3,z4,z5,z6,z7,z8,z9,z10,Int.reduceEq,z11,z12,z13,z14,z15,z16,z17,z18,z19,z20,z21,z22,z23,z24,z25,z26,z27,z28,z29,z30,Int.reduceLE,Int.reduceLT,z31,z32,z33,z34,nilEq_true]
  try simp only [qa4, qa5, qa8, List.set_cons_zero, List.cons.injEq, and_true, true_and]
  have hr := h.rows
  refine ⟨(), 0, ⟨Nat.zero_le _, fun i hi => by omega⟩, rfl, fun k hk => ⟨fun hlt => ⟨hlt, h.each k hlt, fun h1 => (qp6 hlt (.inl h1)).symm, fun h1 => ⟨by omega, fun h2 => (qp6 hlt (.inr (by omega))).symm, fun h2 => ⟨fits64 (by omega) (by omega), k + 1, ⟨hlt, fun i hi => ?_⟩, by omega, by omega⟩⟩⟩, fun hge => ?_⟩⟩
  · by_cases e : i = k
    · subst e; exact ⟨h1, by omega⟩
    · exact hk.ok i (by omega)
  · obtain rfl : k = m.length := by have := hk.le; omega
    have : (m.all fun l => decide (l.length = (nL m 0).length) && rowB l) = true := by
      rw [List.all_eq_true]
      intro x hx
      obtain ⟨i, hi, rfl⟩ := List.getElem_of_mem hx
      have := hk.ok i hi
      rw [qe3 m i hi] at this
      rw [this.1, this.2]; simp
    rw [qb5, this, Bool.and_true]
def ivAsc (l : List Int) : Nat → Option Inv
  | 0 => some (Inv.of [3] 0 (fun k : Nat => [(3, .lit (.int .i64 k))]) (fun _ => []) (fun k => 1 ≤ k ∧ (AscTo l k ∨ (k = 1 ∧ l = []))) (fun k => l.length - k))
  | _ => none
abbrev sAsc : FSpec := tspec true none [qb8] [.bool] (fun x => x.1.length ≤ 1000000) (fun x => (ascB x.1, ()))
theorem q3f : Meets Try.prog 86 sAsc := by
  refine meets (snd (SpecsOk.nil _)) Try.func86 rfl rfl (fun x => ivAsc x.1) (fun _ => by kernel_rfl) (by decide) ?_
  rintro ⟨l, ⟨⟩⟩ h
  revert l
  intro (l : List Int) (h : l.length ≤ 1000000)
  refine by_vc (B := ∃ (v0 : Unit), ∃ (v1 : Nat), ((1 : Nat) <= v1/\(AscTo l v1 \/ v1 = (1 : Nat)/\l = []))/\(((1 : Int) = (↑v1 : Int)/\True)/\True)/\∀ (v2 : Nat), (1 : Nat) <= v2/\(AscTo l v2 \/ v2 = (1 : Nat)/\l = [])->(decide ((↑v2 : Int) < (↑(List.length l) : Int)) = true->((0 : Int) <= (↑v2 : Int)/\(↑v2 : Int) < (↑(List.length l) : Int))/\fits .i64 ((↑v2 : Int) - (1 : Int))/\((0 : Int) <= (↑v2 : Int) - (1 : Int)/\(↑v2 : Int) - (1 : Int) < (↑(List.length l) : Int))/\(decide (nthD (Ty.int .i64) l (Int.toNat (↑v2 : Int)) <= nthD (Ty.int .i64) l (Int.toNat ((↑v2 : Int) - (1 : Int)))) = true->false = ascB l)/\(decide (nthD (Ty.int .i64) l (Int.toNat (↑v2 : Int)) <= nthD (Ty.int .i64) l (Int.toNat ((↑v2 : Int) - (1 : Int)))) = false->fits .i64 ((↑v2 : Int) + (1 : Int))/\∃ (v6 : Nat), ((1 : Nat) <= v6/\(AscTo l v6 \/ v6 = (1 : Nat)/\l = []))/\List.length l - v6 < List.length l - v2/\((↑v2 : Int) + (1 : Int) = (↑v6 : Int)/\True)/\True))/\(decide ((↑v2 : Int) < (↑(List.length l) : Int)) = false->true = ascB l)) (by kernel_rfl) ?_
  try simp only [z0,z1,z2,z3,z4,z5,z6,z7,z8,z9,z10,Int.reduceEq,z11,z12,z13,z14,z15,z16,z17,z18,z19,z20,z21,z22,z23,z24,z25,z26,z27,z28,z29,z30,Int.reduceLE,Int.reduceLT,z31,z32,z33,z34,nilEq_true]
  try simp only [qa4, qa5, qa8, List.set_cons_zero, List.cons.injEq, and_true, true_and]
  refine ⟨(), 1, ⟨Nat.le_refl _, ?_⟩, rfl, fun k ⟨h1, hk⟩ => ⟨fun hlt => ?_, fun hge => ?_⟩⟩
  · cases l with
    | nil => exact .inr ⟨rfl, rfl⟩
    | cons a l => exact .inl ⟨by simp, fun i h0 hi => by omega⟩
  · have hk : AscTo l k := hk.resolve_right fun ⟨_, e⟩ => by subst e; simp at hlt
    have e : ((k : Int) - 1).toNat = k - 1 := by omega
    rw [e]
    exact ⟨hlt, fits64 (by omega) (by omega), by omega, fun h2 => (q06 (by omega) hlt h2).symm, fun h2 => ⟨fits64 (by omega) (by omega), k + 1, ⟨by omega, .inl (hk.step hlt (.inr h2))⟩, by omega, by omega⟩⟩
  · rcases hk with hk | ⟨_, rfl⟩
    · obtain rfl : k = l.length := by have := hk.le; omega
      exact hk.all.symm
    · rfl
structure q47 (y : List Int) (k : Nat) : Prop where
  le : k ≤ y.length
  ok : ∀ i, i < k → inB (nI y i) (-1000000) 1000000 = true
def rdgE (m : List (List Int)) (y : List Int) : Int := if ¬ y.length = m.length then 9 else if outB y then 7 else 0
def ivRdg (y : List Int) : Nat → Option Inv
  | 0 => some (Inv.of [14] 0 (fun k : Nat => [(14, .lit (.int .i64 k))]) (fun _ => []) (fun k => q47 y k) (fun k => y.length - k))
  | _ => none
abbrev sRdg : FSpec := tspec true none [qd2, qb8] [tInt] (fun x => x.1.length ≤ 1000000) (fun x => (rdgE x.1 x.2.1, ()))
theorem qx6 : Meets Try.prog 85 sRdg := by
  refine meets (snd (SpecsOk.cons ql7 (SpecsOk.nil _))) Try.func85 rfl rfl (fun x => ivRdg x.2.1) (fun _ => by kernel_rfl) (by decide) ?_
  rintro ⟨m, y, ⟨⟩⟩ h
  revert m y
  intro (m : List (List Int)) (y : List Int) (h : m.length ≤ 1000000)
  refine by_vc (B := (((↑(List.length y) : Int) != (↑(List.length m) : Int)) = true->(9 : Int) = rdgE m y)/\(((↑(List.length y) : Int) != (↑(List.length m) : Int)) = false->∃ (v1 : Unit), ∃ (v2 : Nat), q47 y v2/\(((0 : Int) = (↑v2 : Int)/\True)/\True)/\∀ (v3 : Nat), q47 y v3->(decide ((↑v3 : Int) < (↑(List.length y) : Int)) = true->((0 : Int) <= (↑v3 : Int)/\(↑v3 : Int) < (↑(List.length y) : Int))/\True/\((!inB (nthD (Ty.int .i64) y (Int.toNat (↑v3 : Int))) (-1000000 : Int) (1000000 : Int)) = true->(7 : Int) = rdgE m y)/\((!inB (nthD (Ty.int .i64) y (Int.toNat (↑v3 : Int))) (-1000000 : Int) (1000000 : Int)) = false->fits .i64 ((↑v3 : Int) + (1 : Int))/\∃ (v7 : Nat), q47 y v7/\List.length y - v7 < List.length y - v3/\((↑v3 : Int) + (1 : Int) = (↑v7 : Int)/\True)/\True))/\(decide ((↑v3 : Int) < (↑(List.length y) : Int)) = false->(0 : Int) = rdgE m y))) (by kernel_rfl) ?_
  try simp only [z0,z1,z2,z3,z4,z5,z6,z7,z8,z9,z10,Int.reduceEq,z11,z12,z13,z14,z15,z16,z17,z18,z19,z20,z21,z22,z23,z24,z25,z26,z27,z28,z29,z30,Int.reduceLE,Int.reduceLT,z31,z32,z33,z34,nilEq_true]
  try simp only [qa4, qa5, qa8, List.set_cons_zero, List.cons.injEq, and_true, true_and]
  refine ⟨fun hl => by rw [rdgE, if_pos (by omega)], fun hl => ?_⟩
  have hl : y.length = m.length := by omega
  have e0 : ∀ x : Int, inB x (-1000000) 1000000 = inB x (0 - 1000000) 1000000 := fun _ => rfl
  refine ⟨(), 0, ⟨Nat.zero_le _, fun i hi => by omega⟩, rfl, fun k hk => ⟨fun hlt => ⟨hlt, fun h1 => ?_, fun h1 => ⟨fits64 (by omega) (by omega), k + 1, ⟨hlt, fun i hi => ?_⟩, by omega, by omega⟩⟩, fun hge => ?_⟩⟩
  · have : outB y = true := by
      unfold outB
      rw [List.any_eq_true]
      exact ⟨nI y k, by rw [qd3 y k hlt]; exact List.getElem_mem hlt, by rw [← e0, h1]; rfl⟩
    simp [rdgE, hl, this]
  · by_cases e : i = k
    · subst e; exact h1
    · exact hk.ok i (by omega)
  · obtain rfl : k = y.length := by have := hk.le; omega
    have : outB y = false := by
      unfold outB
      rw [List.any_eq_false]
      intro x hx
      obtain ⟨i, hi, rfl⟩ := List.getElem_of_mem hx
      have := hk.ok i hi
      rw [qd3 y i hi, e0] at this
      rw [this]; simp
    simp [rdgE, hl, this]
def qg6 (m : List (List Int)) (y : List Int) : Int := if qb5 m = false then 1 else rdgE m y
abbrev sRead3 : FSpec := tspec true none [qd2, qb8] [tInt] (fun x => FitM x.1) (fun x => (qg6 x.1 x.2.1, ()))
theorem q0g : Meets Try.prog 50 sRead3 := by
  refine meets (snd (SpecsOk.cons qv2 (SpecsOk.cons qx6 (SpecsOk.nil _)))) Try.func50 rfl rfl (fun _ _ => none) (fun _ => by kernel_rfl) (by decide) ?_
  rintro ⟨m, y, ⟨⟩⟩ h
  revert m y
  intro (m : List (List Int)) (y : List Int) (h : FitM m)
  refine by_vc (B := FitM m/\((!qb5 m) = true->(1 : Int) = qg6 m y)/\((!qb5 m) = false->List.length m <= (1000000 : Nat)/\rdgE m y = qg6 m y)) (by kernel_rfl) ?_
  try simp only [z0,z1,z2,z3,z4,z5,z6,z7,z8,z9,z10,Int.reduceEq,z11,z12,z13,z14,z15,z16,z17,z18,z19,z20,z21,z22,z23,z24,z25,z26,z27,z28,z29,z30,Int.reduceLE,Int.reduceLT,z31,z32,z33,z34,nilEq_true]
  try simp only [qa4, qa5, qa8, List.set_cons_zero, List.cons.injEq, and_true, true_and]
  refine ⟨h, fun hv => by simp [qg6, hv], fun hv => ⟨?_, by simp [qg6, hv]⟩⟩
  have := (Mk.of hv).rows6
  omega
structure q48 (n : Int) (l : List Int) (k : Nat) : Prop where
  le : k ≤ l.length
  ok : ∀ i, i < k → inB (nI l i) 0 (n - 1) = true
def ivNam3 (m : List (List Int)) (l : List Int) : Nat → Option Inv
  | 0 => some (Inv.of [12] 0 (fun k : Nat => [(12, .lit (.int .i64 k))]) (fun _ => []) (fun k => q48 (nL m 0).length l k) (fun k => l.length - k))
  | _ => none
abbrev sNam3 : FSpec := tspec true none [qd2, qb8] [tInt] (fun x => (0 < x.1.length ∧ (nL x.1 0).length ≤ 1000000) ∧ x.2.1.length ≤ 1000000) (fun x => (namE (nL x.1 0).length x.2.1, ()))
theorem q14 : Meets Try.prog 51 sNam3 := by
  refine meets (snd (SpecsOk.cons ql7 (SpecsOk.cons q3f (SpecsOk.nil _)))) Try.func51 rfl rfl (fun x => ivNam3 x.1 x.2.1) (fun _ => by kernel_rfl) (by decide) ?_
  rintro ⟨m, l, ⟨⟩⟩ h
  revert m l
  intro (m : List (List Int)) (l : List Int) (h : (0 < m.length ∧ (nL m 0).length ≤ 1000000) ∧ l.length ≤ 1000000)
  refine by_vc (B := List.length l <= (1000000 : Nat)/\((!ascB l) = true->(7 : Int) = namE (↑(List.length (nL m (0 : Nat))) : Int) l)/\((!ascB l) = false->∃ (v1 : Unit), ∃ (v2 : Nat), q48 (↑(List.length (nL m (0 : Nat))) : Int) l v2/\(((0 : Int) = (↑v2 : Int)/\True)/\True)/\∀ (v3 : Nat), q48 (↑(List.length (nL m (0 : Nat))) : Int) l v3->(decide ((↑v3 : Int) < (↑(List.length l) : Int)) = true->((0 : Int) <= (↑v3 : Int)/\(↑v3 : Int) < (↑(List.length l) : Int))/\((0 : Int) <= (0 : Int)/\(0 : Int) < (↑(List.length m) : Int))/\fits .i64 ((↑(List.length (nthD (Ty.list (Ty.int .i64)) m (0 : Nat))) : Int) - (1 : Int))/\True/\((!inB (nthD (Ty.int .i64) l (Int.toNat (↑v3 : Int))) (0 : Int) ((↑(List.length (nthD (Ty.list (Ty.int .i64)) m (0 : Nat))) : Int) - (1 : Int))) = true->(5 : Int) = namE (↑(List.length (nL m (0 : Nat))) : Int) l)/\((!inB (nthD (Ty.int .i64) l (Int.toNat (↑v3 : Int))) (0 : Int) ((↑(List.length (nthD (Ty.list (Ty.int .i64)) m (0 : Nat))) : Int) - (1 : Int))) = false->fits .i64 ((↑v3 : Int) + (1 : Int))/\∃ (v7 : Nat), q48 (↑(List.length (nL m (0 : Nat))) : Int) l v7/\List.length l - v7 < List.length l - v3/\((↑v3 : Int) + (1 : Int) = (↑v7 : Int)/\True)/\True))/\(decide ((↑v3 : Int) < (↑(List.length l) : Int)) = false->(0 : Int) = namE (↑(List.length (nL m (0 : Nat))) : Int) l))) (by kernel_rfl) ?_
  try simp only [z0,z1,z2,z3,z4,z5,z6,z7,z8,z9,z10,Int.reduceEq,z11,z12,z13,z14,z15,z16,z17,z18,z19,z20,z21,z22,z23,z24,z25,z26,z27,z28,z29,z30,Int.reduceLE,Int.reduceLT,z31,z32,z33,z34,nilEq_true]
  try simp only [qa4, qa5, qa8, List.set_cons_zero, List.cons.injEq, and_true, true_and]
  obtain ⟨⟨h0, h1⟩, hl⟩ := h
  refine ⟨hl, fun ha => by simp [namE, ha], fun ha => ⟨(), 0, ⟨Nat.zero_le _, fun i hi => by omega⟩, rfl, fun k hk => ⟨fun hlt => ⟨hlt, by omega, fits64 (by omega) (by omega), fun h2 => ?_, fun h2 => ⟨fits64 (by omega) (by omega), k + 1, ⟨hlt, fun i hi => ?_⟩, by omega, by omega⟩⟩, fun hge => ?_⟩⟩⟩
  · have : (l.any fun p => !(inB p 0 ((nL m 0).length - 1))) = true := by
      rw [List.any_eq_true]
      exact ⟨nI l k, by rw [qd3 l k hlt]; exact List.getElem_mem hlt, by rw [h2]; rfl⟩
    simp [namE, ha, this]
  · by_cases e : i = k
    · subst e; exact h2
    · exact hk.ok i (by omega)
  · obtain rfl : k = l.length := by have := hk.le; omega
    have : (l.any fun p => !(inB p 0 ((nL m 0).length - 1))) = false := by
      rw [List.any_eq_false]
      intro x hx
      obtain ⟨i, hi, rfl⟩ := List.getElem_of_mem hx
      have := hk.ok i hi
      rw [qd3 l i hi] at this
      rw [this]; simp
    simp [namE, ha, this]
end Go.Proofs.Ytdibdlelmkcccaa
