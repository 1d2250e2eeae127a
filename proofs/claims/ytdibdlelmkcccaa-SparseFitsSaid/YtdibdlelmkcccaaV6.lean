/- The errors of masks, readings and pixels, program and reference: contracts by the engine. No condition. -/
import Derived.Test.YtdibdlelmkcccaaV5
set_option linter.unusedVariables false
set_option linter.unusedSimpArgs false
namespace Go.Proofs.Ytdibdlelmkcccaa
open Go Go.RowKit Eng
structure Mk (m : List (List Int)) : Prop where
  rows1 : 1 <= m.length
  rows6 : m.length <= 6
  each : ∀ i, i < m.length -> (nL m i).length = (nL m 0).length
  pix1 : 1 <= (nL m 0).length
  pix10 : (nL m 0).length <= 10
  small : ∀ i, i < m.length -> ∀ j, j < (nL m 0).length -> -1 <= nI (nL m i) j /\ nI (nL m i) j <= 1
theorem Mk.of {m : List (List Int)} (h : qe6 m = true) : Mk m := by
  unfold qe6 at h
  rw [Bool.and_eq_true, qt6, List.all_eq_true] at h
  obtain ⟨h1, h2⟩ := h
  have each : ∀ i, i < m.length -> (nL m i).length = (nL m 0).length /\ rowB (nL m i) = true := fun i hi => by
    have := h2 (nL m i) (by unfold nL; rw [qj7 (t := qe1) m i hi]; exact List.getElem_mem hi)
    rw [Bool.and_eq_true, decide_eq_true_eq] at this
    exact this
  have hr : ∀ i, i < m.length -> (1 <= (nL m i).length /\ (nL m i).length <= 10) /\ ∀ j, j < (nL m i).length -> -1 <= nI (nL m i) j /\ nI (nL m i) j <= 1 := fun i hi => by
    have := (each i hi).2
    unfold rowB at this
    rw [Bool.and_eq_true, qt6, List.all_eq_true] at this
    refine ⟨by omega, fun j hj => qt6.1 (this.2 _ ?_)⟩
    unfold nI; rw [qj7 (t := qf9) _ j hj]; exact List.getElem_mem hj
  have h0 := hr 0 (by omega)
  exact ⟨by omega, by omega, fun i hi => (each i hi).1, h0.1.1, h0.1.2, fun i hi j hj => (hr i hi).2 j (by rw [(each i hi).1]; exact hj)⟩
def wy2 (m : List (List Int)) (l : List Int) : Int := if qe6 m = false then 1 else q1u (nL m 0).length l
abbrev x0l : qc7 := qg2 true none [qh5, qe1] [qf9] (fun x => x.2.1.length <= 1000000) (fun x => (wy2 x.1 x.2.1, ()))
theorem w3f : qd6 Try.prog 69 x0l := by
  refine meets (snd (SpecsOk.cons q82 (SpecsOk.cons w3e (SpecsOk.nil _)))) Try.func69 rfl rfl (fun _ _ => none) (fun _ => by kernel_rfl) (by decide) ?_
  rintro ⟨m, l, ⟨⟩⟩ h
  revert m l
  intro (m : List (List Int)) (l : List Int) (h : l.length <= 1000000)
  refine qd7 (B := True/\((!qe6 m)=true->(1:Int)=wy2 m l)/\((!qe6 m)=false->((0:Int) <= (0:Int)/\(0:Int) < (↑(List.length m):Int))/\(((0 : Ty.den qf9) <= (↑(List.length (qa1 (Ty.list (Ty.int .i64)) m (0:Nat))):Int)/\(↑(List.length (qa1 (Ty.list (Ty.int .i64)) m (0:Nat))):Int) <= BIG)/\List.length l <= (1000000:Nat))/\q1u (↑(List.length (qa1 (Ty.list (Ty.int .i64)) m (0:Nat))):Int) l=wy2 m l)) (by kernel_rfl) ?_
  try simp only [z0,z1,z2,z3,z4,z5,z6,z7,z8,z9,z10,Int.reduceEq,z11,z12,z13,z14,z15,z16,z17,z18,z19,z20,z21,z22,z23,z24,z25,z26,z27,z28,z29,z30,Int.reduceLE,Int.reduceLT,z31,z32,z33,z34,qa3]
  try simp only [qb4, qb5, qc9, List.set_cons_zero, List.cons.injEq, and_true, true_and]
  refine ⟨fun hv => by simp [wy2, hv], fun hv => ?_⟩
  have hM := Mk.of hv
  have h1 := hM.rows1
  have h2 := hM.pix10
  unfold BIG
  exact ⟨by omega, ⟨by omega, h⟩, by simp [wy2, hv]⟩
def q9o (y : List Int) : Bool := y.any fun n => !(inB n (0 - 1000000) 1000000)
def qm8 (m : List (List Int)) (y l : List Int) : Int := if qe6 m = false then 1 else if ¬ y.length = m.length then 9 else if q9o y then 7 else wy2 m l
abbrev x0m : qc7 := qg2 true none [qh5, qe1, qe1] [qf9] (fun x => x.2.2.1.length <= 1000000) (fun x => (qm8 x.1 x.2.1 x.2.2.1, ()))
theorem qz3 : qd6 Try.prog 48 x0m := by
  refine meets (snd (SpecsOk.cons q82 (SpecsOk.cons w3f (SpecsOk.cons w3d (SpecsOk.cons (q5o (fs := [(113, xg0)]) (SpecsOk.cons wy0 (SpecsOk.nil _))) (SpecsOk.nil _)))))) Try.func48 rfl rfl (fun _ _ => none) (fun _ => by kernel_rfl) (by decide) ?_
  rintro ⟨m, y, l, ⟨⟩⟩ h
  revert m y l
  intro (m : List (List Int)) (y : List Int) (l : List Int) (h : l.length <= 1000000)
  refine qd7 (B := True/\((!qe6 m)=true->(1:Int)=qm8 m y l)/\((!qe6 m)=false->(((↑(List.length y):Int) != (↑(List.length m):Int))=true->(9:Int)=qm8 m y l)/\(((↑(List.length y):Int) != (↑(List.length m):Int))=false->True/\∃ (v2 : qa6 [Ty.int .i64]->Prop),∃ (v3 : qa6 [Ty.int .i64]->Bool),(∀ (v4 : Int × qa6._f [] PUnit.unit),v2 v4->((0 : PTy.den (PTy.cap qf9)) <= (1000000:Int)/\(1000000:Int) <= BIG)/\(!inB (Prod.fst v4) ((0:Int) - (1000000:Int)) (1000000:Int))=v3 v4)/\(List.length y <= (1000000:Nat)/\∀ (v4:Nat),v4 < List.length y->v2 (qa1 (Ty.int .i64) y v4,()))/\((List.any y fun (v5:Int) => v3 (v5,()))=true->(7:Int)=qm8 m y l)/\((List.any y fun (v5:Int) => v3 (v5,()))=false->List.length l <= (1000000:Nat)/\wy2 m l=qm8 m y l)))) (by kernel_rfl) ?_
  try simp only [z0,z1,z2,z3,z4,z5,z6,z7,z8,z9,z10,Int.reduceEq,z11,z12,z13,z14,z15,z16,z17,z18,z19,z20,z21,z22,z23,z24,z25,z26,z27,z28,z29,z30,Int.reduceLE,Int.reduceLT,z31,z32,z33,z34,qa3]
  try simp only [qb4, qb5, qc9, List.set_cons_zero, List.cons.injEq, and_true, true_and]
  refine ⟨fun hv => by simp [qm8, hv], fun hv => ⟨fun hl => ?_, fun hl => ?_⟩⟩
  · have hl : ¬ y.length = m.length := by omega
    simp [qm8, hv, hl]
  have hl : y.length = m.length := by omega
  have hM := Mk.of hv
  have h1 := hM.rows6
  refine ⟨fun _ => True, fun x => !(inB x.1 (0 - 1000000) 1000000), fun x _ => ⟨by decide, by simp⟩, ⟨by omega, fun _ _ => trivial⟩, fun ho => ?_, fun ho => ⟨h, ?_⟩⟩
  · have ho : q9o y = true := ho
    simp [qm8, hv, hl, ho]
  · have ho : q9o y = false := ho
    simp [qm8, hv, hl, ho]
structure q3v (m : List (List Int)) : Prop where
  rows : m.length <= 9223372036854775807
  each : ∀ i, i < m.length -> (nL m i).length <= 9223372036854775807
structure RowTo (l : List Int) (k : Nat) : Prop where
  le : k <= l.length
  ok : ∀ i, i < k -> inB (nI l i) (-1) 1 = true
def xg2 (l : List Int) : Nat -> Option Inv
  | 0 => some (Inv.of [7] 0 (fun k : Nat => [(7, .lit (.int .i64 k))]) (fun _ => []) (fun k => RowTo l k) (fun k => l.length - k))
  | _ => none
theorem w3g {l : List Int} {k : Nat} (hk : k < l.length) (h : inB (nI l k) (-1) 1 = false) : rowB l = false := by
  cases e : rowB l with
  | false => rfl
  | true =>
    unfold rowB at e
    rw [Bool.and_eq_true, List.all_eq_true] at e
    have := e.2 (nI l k) (by rw [qi1 l k hk]; exact List.getElem_mem hk)
    rw [h] at this; cases this
theorem RowTo.all {l : List Int} (h : RowTo l l.length) : (l.all fun n => inB n (-1) 1) = true := by
  rw [List.all_eq_true]
  intro x hx
  obtain ⟨i, hi, rfl⟩ := List.getElem_of_mem hx
  rw [<- qi1 l i hi]; exact h.ok i hi
abbrev xo9 : qc7 := qg2 true none [qe1] [.bool] (fun x => x.1.length <= 9223372036854775807) (fun x => (rowB x.1, ()))
theorem wy3 : qd6 Try.prog 97 xo9 := by
  refine meets (snd (SpecsOk.cons q2o (SpecsOk.nil _))) Try.func97 rfl rfl (fun x => xg2 x.1) (fun _ => by kernel_rfl) (by decide) ?_
  rintro ⟨l, ⟨⟩⟩ h
  revert l
  intro (l : List Int) (h : l.length <= 9223372036854775807)
  refine qd7 (B := ∃ (v0:Unit),∃ (v1:Nat),RowTo l v1/\(((0:Int)=(↑v1:Int)/\True)/\True)/\∀ (v2:Nat),RowTo l v2->(decide ((↑v2:Int) < (↑(List.length l):Int))=true->((0:Int) <= (↑v2:Int)/\(↑v2:Int) < (↑(List.length l):Int))/\True/\((!inB (qa1 (Ty.int .i64) l (Int.toNat (↑v2:Int))) (-1:Int) (1:Int))=true->false=rowB l)/\((!inB (qa1 (Ty.int .i64) l (Int.toNat (↑v2:Int))) (-1:Int) (1:Int))=false->fits .i64 ((↑v2:Int) + (1:Int))/\∃ (v6:Nat),RowTo l v6/\List.length l - v6 < List.length l - v2/\((↑v2:Int) + (1:Int)=(↑v6:Int)/\True)/\True))/\(decide ((↑v2:Int) < (↑(List.length l):Int))=false->True/\inB (↑(List.length l):Int) (1:Int) (10:Int)=rowB l)) (by kernel_rfl) ?_
  try simp only [z0,z1,z2,z3,z4,z5,z6,z7,z8,z9,z10,Int.reduceEq,z11,z12,z13,z14,z15,z16,z17,z18,z19,z20,z21,z22,z23,z24,z25,z26,z27,z28,z29,z30,Int.reduceLE,Int.reduceLT,z31,z32,z33,z34,qa3]
  try simp only [qb4, qb5, qc9, List.set_cons_zero, List.cons.injEq, and_true, true_and]
  refine ⟨(), 0, ⟨Nat.zero_le _, fun i hi => by omega⟩, rfl, fun k hk => ⟨fun hlt => ⟨hlt, fun h1 => (w3g hlt h1).symm, fun h1 => ⟨qa8 (by omega) (by omega), k + 1, ⟨hlt, fun i hi => ?_⟩, by omega, by omega⟩⟩, fun hge => ?_⟩⟩
  · by_cases e : i = k
    · subst e; exact h1
    · exact hk.ok i (by omega)
  · obtain rfl : k = l.length := by have := hk.le; omega
    rw [rowB, hk.all, Bool.and_true]
structure xl3 (m : List (List Int)) (k : Nat) : Prop where
  le : k <= m.length
  ok : ∀ i, i < k -> rowB (nL m i) = true /\ (nL m i).length = (nL m 0).length
def x0n (m : List (List Int)) : Nat -> Option Inv
  | 0 => some (Inv.of [7] 0 (fun k : Nat => [(7, .lit (.int .i64 k))]) (fun _ => []) (fun k => xl3 m k) (fun k => m.length - k))
  | _ => none
theorem q5q {m : List (List Int)} {k : Nat} (hk : k < m.length) (h : rowB (nL m k) = false \/ ¬ (nL m k).length = (nL m 0).length) : qe6 m = false := by
  cases e : qe6 m with
  | false => rfl
  | true =>
    unfold qe6 at e
    rw [Bool.and_eq_true, List.all_eq_true] at e
    have := e.2 (nL m k) (by rw [qj9 m k hk]; exact List.getElem_mem hk)
    rw [Bool.and_eq_true, decide_eq_true_eq] at this
    rcases h with h | h
    · rw [h] at this; cases this.2
    · exact absurd this.1 h
abbrev sV2 : qc7 := qg2 true none [qh5] [.bool] (fun x => q3v x.1) (fun x => (qe6 x.1, ()))
theorem wq8 : qd6 Try.prog 65 sV2 := by
  refine meets (snd (SpecsOk.cons q2o (SpecsOk.cons wy3 (SpecsOk.nil _)))) Try.func65 rfl rfl (fun x => x0n x.1) (fun _ => by kernel_rfl) (by decide) ?_
  rintro ⟨m, ⟨⟩⟩ h
  revert m
  intro (m : List (List Int)) (h : q3v m)
  refine qd7 (B := ∃ (v0:Unit),∃ (v1:Nat),xl3 m v1/\(((0:Int)=(↑v1:Int)/\True)/\True)/\∀ (v2:Nat),xl3 m v2->(decide ((↑v2:Int) < (↑(List.length m):Int))=true->((0:Int) <= (↑v2:Int)/\(↑v2:Int) < (↑(List.length m):Int))/\List.length (qa1 (Ty.list (Ty.int .i64)) m (Int.toNat (↑v2:Int))) <= (9223372036854775807:Nat)/\((!rowB (qa1 (Ty.list (Ty.int .i64)) m (Int.toNat (↑v2:Int))))=true->false=qe6 m)/\((!rowB (qa1 (Ty.list (Ty.int .i64)) m (Int.toNat (↑v2:Int))))=false->((0:Int) <= (0:Int)/\(0:Int) < (↑(List.length m):Int))/\(((↑(List.length (qa1 (Ty.list (Ty.int .i64)) m (Int.toNat (↑v2:Int)))):Int) != (↑(List.length (qa1 (Ty.list (Ty.int .i64)) m (0:Nat))):Int))=true->false=qe6 m)/\(((↑(List.length (qa1 (Ty.list (Ty.int .i64)) m (Int.toNat (↑v2:Int)))):Int) != (↑(List.length (qa1 (Ty.list (Ty.int .i64)) m (0:Nat))):Int))=false->fits .i64 ((↑v2:Int) + (1:Int))/\∃ (v7:Nat),xl3 m v7/\List.length m - v7 < List.length m - v2/\((↑v2:Int) + (1:Int)=(↑v7:Int)/\True)/\True)))/\(decide ((↑v2:Int) < (↑(List.length m):Int))=false->True/\inB (↑(List.length m):Int) (1:Int) (6:Int)=qe6 m)) (by kernel_rfl) ?_
  try simp only [z0,z1,z2,z3,z4,z5,z6,z7,z8,z9,z10,Int.reduceEq,z11,z12,z13,z14,z15,z16,z17,z18,z19,z20,z21,z22,z23,z24,z25,z26,z27,z28,z29,z30,Int.reduceLE,Int.reduceLT,z31,z32,z33,z34,qa3]
  try simp only [qb4, qb5, qc9, List.set_cons_zero, List.cons.injEq, and_true, true_and]
  have hr := h.rows
  refine ⟨(), 0, ⟨Nat.zero_le _, fun i hi => by omega⟩, rfl, fun k hk => ⟨fun hlt => ⟨hlt, h.each k hlt, fun h1 => (q5q hlt (.inl h1)).symm, fun h1 => ⟨by omega, fun h2 => (q5q hlt (.inr (by omega))).symm, fun h2 => ⟨qa8 (by omega) (by omega), k + 1, ⟨hlt, fun i hi => ?_⟩, by omega, by omega⟩⟩⟩, fun hge => ?_⟩⟩
  · by_cases e : i = k
    · subst e; exact ⟨h1, by omega⟩
    · exact hk.ok i (by omega)
  · obtain rfl : k = m.length := by have := hk.le; omega
    have : (m.all fun l => decide (l.length = (nL m 0).length) && rowB l) = true := by
      rw [List.all_eq_true]
      intro x hx
      obtain ⟨i, hi, rfl⟩ := List.getElem_of_mem hx
      have := hk.ok i hi
      rw [qj9 m i hi] at this
      rw [this.1, this.2]; simp
    rw [qe6, this, Bool.and_true]
def xp0 (l : List Int) : Nat -> Option Inv
  | 0 => some (Inv.of [3] 0 (fun k : Nat => [(3, .lit (.int .i64 k))]) (fun _ => []) (fun k => 1 <= k /\ (AscTo l k \/ (k = 1 /\ l = []))) (fun k => l.length - k))
  | _ => none
abbrev x0o : qc7 := qg2 true none [qe1] [.bool] (fun x => x.1.length <= 1000000) (fun x => (wq7 x.1, ()))
theorem w3h : qd6 Try.prog 86 x0o := by
  refine meets (snd (SpecsOk.nil _)) Try.func86 rfl rfl (fun x => xp0 x.1) (fun _ => by kernel_rfl) (by decide) ?_
  rintro ⟨l, ⟨⟩⟩ h
  revert l
  intro (l : List Int) (h : l.length <= 1000000)
  refine qd7 (B := ∃ (v0:Unit),∃ (v1:Nat),((1:Nat) <= v1/\(AscTo l v1 \/ v1=(1:Nat)/\l=[]))/\(((1:Int)=(↑v1:Int)/\True)/\True)/\∀ (v2:Nat),(1:Nat) <= v2/\(AscTo l v2 \/ v2=(1:Nat)/\l=[])->(decide ((↑v2:Int) < (↑(List.length l):Int))=true->((0:Int) <= (↑v2:Int)/\(↑v2:Int) < (↑(List.length l):Int))/\fits .i64 ((↑v2:Int) - (1:Int))/\((0:Int) <= (↑v2:Int) - (1:Int)/\(↑v2:Int) - (1:Int) < (↑(List.length l):Int))/\(decide (qa1 (Ty.int .i64) l (Int.toNat (↑v2:Int)) <= qa1 (Ty.int .i64) l (Int.toNat ((↑v2:Int) - (1:Int))))=true->false=wq7 l)/\(decide (qa1 (Ty.int .i64) l (Int.toNat (↑v2:Int)) <= qa1 (Ty.int .i64) l (Int.toNat ((↑v2:Int) - (1:Int))))=false->fits .i64 ((↑v2:Int) + (1:Int))/\∃ (v6:Nat),((1:Nat) <= v6/\(AscTo l v6 \/ v6=(1:Nat)/\l=[]))/\List.length l - v6 < List.length l - v2/\((↑v2:Int) + (1:Int)=(↑v6:Int)/\True)/\True))/\(decide ((↑v2:Int) < (↑(List.length l):Int))=false->true=wq7 l)) (by kernel_rfl) ?_
  try simp only [z0,z1,z2,z3,z4,z5,z6,z7,z8,z9,z10,Int.reduceEq,z11,z12,z13,z14,z15,z16,z17,z18,z19,z20,z21,z22,z23,z24,z25,z26,z27,z28,z29,z30,Int.reduceLE,Int.reduceLT,z31,z32,z33,z34,qa3]
  try simp only [qb4, qb5, qc9, List.set_cons_zero, List.cons.injEq, and_true, true_and]
  refine ⟨(), 1, ⟨Nat.le_refl _, ?_⟩, rfl, fun k ⟨h1, hk⟩ => ⟨fun hlt => ?_, fun hge => ?_⟩⟩
  · cases l with
    | nil => exact .inr ⟨rfl, rfl⟩
    | cons a l => exact .inl ⟨by simp, fun i h0 hi => by omega⟩
  · have hk : AscTo l k := hk.resolve_right fun ⟨_, e⟩ => by subst e; simp at hlt
    have e : ((k : Int) - 1).toNat = k - 1 := by omega
    rw [e]
    exact ⟨hlt, qa8 (by omega) (by omega), by omega, fun h2 => (q83 (by omega) hlt h2).symm, fun h2 => ⟨qa8 (by omega) (by omega), k + 1, ⟨by omega, .inl (hk.step hlt (.inr h2))⟩, by omega, by omega⟩⟩
  · rcases hk with hk | ⟨_, rfl⟩
    · obtain rfl : k = l.length := by have := hk.le; omega
      exact hk.all.symm
    · rfl
structure w6r (y : List Int) (k : Nat) : Prop where
  le : k <= y.length
  ok : ∀ i, i < k -> inB (nI y i) (-1000000) 1000000 = true
def wg1 (m : List (List Int)) (y : List Int) : Int := if ¬ y.length = m.length then 9 else if q9o y then 7 else 0
def xp1 (y : List Int) : Nat -> Option Inv
  | 0 => some (Inv.of [14] 0 (fun k : Nat => [(14, .lit (.int .i64 k))]) (fun _ => []) (fun k => w6r y k) (fun k => y.length - k))
  | _ => none
abbrev x0p : qc7 := qg2 true none [qh5, qe1] [qf9] (fun x => x.1.length <= 1000000) (fun x => (wg1 x.1 x.2.1, ()))
theorem wc0 : qd6 Try.prog 85 x0p := by
  refine meets (snd (SpecsOk.cons q2p (SpecsOk.nil _))) Try.func85 rfl rfl (fun x => xp1 x.2.1) (fun _ => by kernel_rfl) (by decide) ?_
  rintro ⟨m, y, ⟨⟩⟩ h
  revert m y
  intro (m : List (List Int)) (y : List Int) (h : m.length <= 1000000)
  refine qd7 (B := (((↑(List.length y):Int) != (↑(List.length m):Int))=true->(9:Int)=wg1 m y)/\(((↑(List.length y):Int) != (↑(List.length m):Int))=false->∃ (v1:Unit),∃ (v2:Nat),w6r y v2/\(((0:Int)=(↑v2:Int)/\True)/\True)/\∀ (v3:Nat),w6r y v3->(decide ((↑v3:Int) < (↑(List.length y):Int))=true->((0:Int) <= (↑v3:Int)/\(↑v3:Int) < (↑(List.length y):Int))/\True/\((!inB (qa1 (Ty.int .i64) y (Int.toNat (↑v3:Int))) (-1000000:Int) (1000000:Int))=true->(7:Int)=wg1 m y)/\((!inB (qa1 (Ty.int .i64) y (Int.toNat (↑v3:Int))) (-1000000:Int) (1000000:Int))=false->fits .i64 ((↑v3:Int) + (1:Int))/\∃ (v7:Nat),w6r y v7/\List.length y - v7 < List.length y - v3/\((↑v3:Int) + (1:Int)=(↑v7:Int)/\True)/\True))/\(decide ((↑v3:Int) < (↑(List.length y):Int))=false->(0:Int)=wg1 m y))) (by kernel_rfl) ?_
  try simp only [z0,z1,z2,z3,z4,z5,z6,z7,z8,z9,z10,Int.reduceEq,z11,z12,z13,z14,z15,z16,z17,z18,z19,z20,z21,z22,z23,z24,z25,z26,z27,z28,z29,z30,Int.reduceLE,Int.reduceLT,z31,z32,z33,z34,qa3]
  try simp only [qb4, qb5, qc9, List.set_cons_zero, List.cons.injEq, and_true, true_and]
  refine ⟨fun hl => by rw [wg1, if_pos (by omega)], fun hl => ?_⟩
  have hl : y.length = m.length := by omega
  have e0 : ∀ x : Int, inB x (-1000000) 1000000 = inB x (0 - 1000000) 1000000 := fun _ => rfl
  refine ⟨(), 0, ⟨Nat.zero_le _, fun i hi => by omega⟩, rfl, fun k hk => ⟨fun hlt => ⟨hlt, fun h1 => ?_, fun h1 => ⟨qa8 (by omega) (by omega), k + 1, ⟨hlt, fun i hi => ?_⟩, by omega, by omega⟩⟩, fun hge => ?_⟩⟩
  · have : q9o y = true := by
      unfold q9o
      rw [List.any_eq_true]
      exact ⟨nI y k, by rw [qi1 y k hlt]; exact List.getElem_mem hlt, by rw [<- e0, h1]; rfl⟩
    simp [wg1, hl, this]
  · by_cases e : i = k
    · subst e; exact h1
    · exact hk.ok i (by omega)
  · obtain rfl : k = y.length := by have := hk.le; omega
    have : q9o y = false := by
      unfold q9o
      rw [List.any_eq_false]
      intro x hx
      obtain ⟨i, hi, rfl⟩ := List.getElem_of_mem hx
      have := hk.ok i hi
      rw [qi1 y i hi, e0] at this
      rw [this]; simp
    simp [wg1, hl, this]
def ql6 (m : List (List Int)) (y : List Int) : Int := if qe6 m = false then 1 else wg1 m y
abbrev xg3 : qc7 := qg2 true none [qh5, qe1] [qf9] (fun x => q3v x.1) (fun x => (ql6 x.1 x.2.1, ()))
theorem q1k : qd6 Try.prog 50 xg3 := by
  refine meets (snd (SpecsOk.cons wq8 (SpecsOk.cons wc0 (SpecsOk.nil _)))) Try.func50 rfl rfl (fun _ _ => none) (fun _ => by kernel_rfl) (by decide) ?_
  rintro ⟨m, y, ⟨⟩⟩ h
  revert m y
  intro (m : List (List Int)) (y : List Int) (h : q3v m)
  refine qd7 (B := q3v m/\((!qe6 m)=true->(1:Int)=ql6 m y)/\((!qe6 m)=false->List.length m <= (1000000:Nat)/\wg1 m y=ql6 m y)) (by kernel_rfl) ?_
  try simp only [z0,z1,z2,z3,z4,z5,z6,z7,z8,z9,z10,Int.reduceEq,z11,z12,z13,z14,z15,z16,z17,z18,z19,z20,z21,z22,z23,z24,z25,z26,z27,z28,z29,z30,Int.reduceLE,Int.reduceLT,z31,z32,z33,z34,qa3]
  try simp only [qb4, qb5, qc9, List.set_cons_zero, List.cons.injEq, and_true, true_and]
  refine ⟨h, fun hv => by simp [ql6, hv], fun hv => ⟨?_, by simp [ql6, hv]⟩⟩
  have := (Mk.of hv).rows6
  omega
structure w6s (n : Int) (l : List Int) (k : Nat) : Prop where
  le : k <= l.length
  ok : ∀ i, i < k -> inB (nI l i) 0 (n - 1) = true
def xg4 (m : List (List Int)) (l : List Int) : Nat -> Option Inv
  | 0 => some (Inv.of [12] 0 (fun k : Nat => [(12, .lit (.int .i64 k))]) (fun _ => []) (fun k => w6s (nL m 0).length l k) (fun k => l.length - k))
  | _ => none
abbrev xp2 : qc7 := qg2 true none [qh5, qe1] [qf9] (fun x => (0 < x.1.length /\ (nL x.1 0).length <= 1000000) /\ x.2.1.length <= 1000000) (fun x => (q1u (nL x.1 0).length x.2.1, ()))
theorem q3e : qd6 Try.prog 51 xp2 := by
  refine meets (snd (SpecsOk.cons q2p (SpecsOk.cons w3h (SpecsOk.nil _)))) Try.func51 rfl rfl (fun x => xg4 x.1 x.2.1) (fun _ => by kernel_rfl) (by decide) ?_
  rintro ⟨m, l, ⟨⟩⟩ h
  revert m l
  intro (m : List (List Int)) (l : List Int) (h : (0 < m.length /\ (nL m 0).length <= 1000000) /\ l.length <= 1000000)
  refine qd7 (B := List.length l <= (1000000:Nat)/\((!wq7 l)=true->(7:Int)=q1u (↑(List.length (nL m (0:Nat))):Int) l)/\((!wq7 l)=false->∃ (v1:Unit),∃ (v2:Nat),w6s (↑(List.length (nL m (0:Nat))):Int) l v2/\(((0:Int)=(↑v2:Int)/\True)/\True)/\∀ (v3:Nat),w6s (↑(List.length (nL m (0:Nat))):Int) l v3->(decide ((↑v3:Int) < (↑(List.length l):Int))=true->((0:Int) <= (↑v3:Int)/\(↑v3:Int) < (↑(List.length l):Int))/\((0:Int) <= (0:Int)/\(0:Int) < (↑(List.length m):Int))/\fits .i64 ((↑(List.length (qa1 (Ty.list (Ty.int .i64)) m (0:Nat))):Int) - (1:Int))/\True/\((!inB (qa1 (Ty.int .i64) l (Int.toNat (↑v3:Int))) (0:Int) ((↑(List.length (qa1 (Ty.list (Ty.int .i64)) m (0:Nat))):Int) - (1:Int)))=true->(5:Int)=q1u (↑(List.length (nL m (0:Nat))):Int) l)/\((!inB (qa1 (Ty.int .i64) l (Int.toNat (↑v3:Int))) (0:Int) ((↑(List.length (qa1 (Ty.list (Ty.int .i64)) m (0:Nat))):Int) - (1:Int)))=false->fits .i64 ((↑v3:Int) + (1:Int))/\∃ (v7:Nat),w6s (↑(List.length (nL m (0:Nat))):Int) l v7/\List.length l - v7 < List.length l - v3/\((↑v3:Int) + (1:Int)=(↑v7:Int)/\True)/\True))/\(decide ((↑v3:Int) < (↑(List.length l):Int))=false->(0:Int)=q1u (↑(List.length (nL m (0:Nat))):Int) l))) (by kernel_rfl) ?_
  try simp only [z0,z1,z2,z3,z4,z5,z6,z7,z8,z9,z10,Int.reduceEq,z11,z12,z13,z14,z15,z16,z17,z18,z19,z20,z21,z22,z23,z24,z25,z26,z27,z28,z29,z30,Int.reduceLE,Int.reduceLT,z31,z32,z33,z34,qa3]
  try simp only [qb4, qb5, qc9, List.set_cons_zero, List.cons.injEq, and_true, true_and]
  obtain ⟨⟨h0, h1⟩, hl⟩ := h
  refine ⟨hl, fun ha => by simp [q1u, ha], fun ha => ⟨(), 0, ⟨Nat.zero_le _, fun i hi => by omega⟩, rfl, fun k hk => ⟨fun hlt => ⟨hlt, by omega, qa8 (by omega) (by omega), fun h2 => ?_, fun h2 => ⟨qa8 (by omega) (by omega), k + 1, ⟨hlt, fun i hi => ?_⟩, by omega, by omega⟩⟩, fun hge => ?_⟩⟩⟩
  · have : (l.any fun p => !(inB p 0 ((nL m 0).length - 1))) = true := by
      rw [List.any_eq_true]
      exact ⟨nI l k, by rw [qi1 l k hlt]; exact List.getElem_mem hlt, by rw [h2]; rfl⟩
    simp [q1u, ha, this]
  · by_cases e : i = k
    · subst e; exact h2
    · exact hk.ok i (by omega)
  · obtain rfl : k = l.length := by have := hk.le; omega
    have : (l.any fun p => !(inB p 0 ((nL m 0).length - 1))) = false := by
      rw [List.any_eq_false]
      intro x hx
      obtain ⟨i, hi, rfl⟩ := List.getElem_of_mem hx
      have := hk.ok i hi
      rw [qi1 l i hi] at this
      rw [this]; simp
    simp [q1u, ha, this]
end Go.Proofs.Ytdibdlelmkcccaa
