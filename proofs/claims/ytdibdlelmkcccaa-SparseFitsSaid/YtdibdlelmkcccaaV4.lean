/- Masks, and the errors of masks, readings and pixels: contracts by the engine. No condition. -/
import Derived.Test.YtdibdlelmkcccaaV3
set_option linter.unusedVariables false
set_option linter.unusedSimpArgs false
namespace Go.Proofs.Ytdibdlelmkcccaa
open Go Go.RowKit Eng
def inB (n lo hi : Int) : Bool := decide (lo <= n) && decide (n <= hi)
theorem qt6 {n lo hi : Int} : inB n lo hi = true ↔ lo <= n /\ n <= hi := by simp [inB]
abbrev q5p : qc7 := qg2 true none [qf9, qf9, qf9] [.bool] (fun _ => True) (fun x => (inB x.1 x.2.1 x.2.2.1, ()))
theorem qw9 : qd6 Try.prog 100 q5p := by
  refine meets (snd (SpecsOk.nil _)) Try.func100 rfl rfl (fun _ _ => none) (fun _ => by kernel_rfl) (by decide) ?_
  rintro ⟨n, lo, hi, ⟨⟩⟩ -
  revert n lo hi
  intro (n : Int) (lo : Int) (hi : Int)
  refine qd7 (B := (decide (lo <= n)=true->decide (n <= hi)=inB n lo hi)/\(decide (lo <= n)=false->false=inB n lo hi)) (by kernel_rfl) ?_
  try simp only [z0,z1,z2,z3,z4,z5,z6,z7,z8,z9,z10,Int.reduceEq,z11,z12,z13,z14,z15,z16,z17,z18,z19,z20,z21,z22,z23,z24,z25,z26,z27,z28,z29,z30,Int.reduceLE,Int.reduceLT,z31,z32,z33,z34,qa3]
  try simp only [qb4, qb5, qc9, List.set_cons_zero, List.cons.injEq, and_true, true_and]
  constructor
  · intro h1
    simp [inB, h1]
  · intro h1
    have : ¬ lo <= n := by omega
    simp [inB, this]
theorem qx0 : qd6 Try.prog 45 q5p := by
  refine meets (snd (SpecsOk.nil _)) Try.func45 rfl rfl (fun _ _ => none) (fun _ => by kernel_rfl) (by decide) ?_
  rintro ⟨n, lo, hi, ⟨⟩⟩ -
  revert n lo hi
  intro (n : Int) (lo : Int) (hi : Int)
  refine qd7 (B := (decide (lo <= n)=true->decide (n <= hi)=inB n lo hi)/\(decide (lo <= n)=false->false=inB n lo hi)) (by kernel_rfl) ?_
  try simp only [z0,z1,z2,z3,z4,z5,z6,z7,z8,z9,z10,Int.reduceEq,z11,z12,z13,z14,z15,z16,z17,z18,z19,z20,z21,z22,z23,z24,z25,z26,z27,z28,z29,z30,Int.reduceLE,Int.reduceLT,z31,z32,z33,z34,qa3]
  try simp only [qb4, qb5, qc9, List.set_cons_zero, List.cons.injEq, and_true, true_and]
  constructor
  · intro h1
    simp [inB, h1]
  · intro h1
    have : ¬ lo <= n := by omega
    simp [inB, this]
theorem q2o : qd6 Try.prog 98 q5p := by
  refine meets (snd (SpecsOk.nil _)) Try.func98 rfl rfl (fun _ _ => none) (fun _ => by kernel_rfl) (by decide) ?_
  rintro ⟨n, lo, hi, ⟨⟩⟩ -
  revert n lo hi
  intro (n : Int) (lo : Int) (hi : Int)
  refine qd7 (B := (decide (lo <= n)=true->decide (n <= hi)=inB n lo hi)/\(decide (lo <= n)=false->false=inB n lo hi)) (by kernel_rfl) ?_
  try simp only [z0,z1,z2,z3,z4,z5,z6,z7,z8,z9,z10,Int.reduceEq,z11,z12,z13,z14,z15,z16,z17,z18,z19,z20,z21,z22,z23,z24,z25,z26,z27,z28,z29,z30,Int.reduceLE,Int.reduceLT,z31,z32,z33,z34,qa3]
  try simp only [qb4, qb5, qc9, List.set_cons_zero, List.cons.injEq, and_true, true_and]
  constructor
  · intro h1
    simp [inB, h1]
  · intro h1
    have : ¬ lo <= n := by omega
    simp [inB, this]
theorem q2p : qd6 Try.prog 87 q5p := by
  refine meets (snd (SpecsOk.nil _)) Try.func87 rfl rfl (fun _ _ => none) (fun _ => by kernel_rfl) (by decide) ?_
  rintro ⟨n, lo, hi, ⟨⟩⟩ -
  revert n lo hi
  intro (n : Int) (lo : Int) (hi : Int)
  refine qd7 (B := (decide (lo <= n)=true->decide (n <= hi)=inB n lo hi)/\(decide (lo <= n)=false->false=inB n lo hi)) (by kernel_rfl) ?_
  try simp only [z0,z1,z2,z3,z4,z5,z6,z7,z8,z9,z10,Int.reduceEq,z11,z12,z13,z14,z15,z16,z17,z18,z19,z20,z21,z22,z23,z24,z25,z26,z27,z28,z29,z30,Int.reduceLE,Int.reduceLT,z31,z32,z33,z34,qa3]
  try simp only [qb4, qb5, qc9, List.set_cons_zero, List.cons.injEq, and_true, true_and]
  constructor
  · intro h1
    simp [inB, h1]
  · intro h1
    have : ¬ lo <= n := by omega
    simp [inB, this]
abbrev w76 (fs : List (Nat × qc7)) : qc7 := hspec fs true none [.d qf9, .capfn [qf9] .bool] [.bool] (fun x => x.2.1.1 (x.1, ())) (fun x => (!(x.2.1.2 (x.1, ())), ()))
theorem wi7 {fs : List (Nat × qc7)} (hfs : SpecsOk Try.prog fs) : qd6 Try.prog 153 (w76 fs) := by
  refine qs1 hfs (snd (SpecsOk.nil _)) Try.func153 rfl rfl (fun _ _ => none) (fun _ => by kernel_rfl) (by decide) ?_
  rintro ⟨n, ⟨p, f⟩, ⟨⟩⟩ h
  revert n p f
  intro (n : Int) (p : qa6 [.int .i64] -> Prop) (f : qa6 [.int .i64] -> Bool) (h : p (n, ()))
  refine qd7 (B := p (n,())/\(!f (n,()))=!f (n,())) (by kernel_rfl) ?_
  try simp only [z0,z1,z2,z3,z4,z5,z6,z7,z8,z9,z10,Int.reduceEq,z11,z12,z13,z14,z15,z16,z17,z18,z19,z20,z21,z22,z23,z24,z25,z26,z27,z28,z29,z30,Int.reduceLE,Int.reduceLT,z31,z32,z33,z34,qa3]
  try simp only [qb4, qb5, qc9, List.set_cons_zero, List.cons.injEq, and_true, true_and]
  exact h
abbrev w77 (fs : List (Nat × qc7)) : qc7 := hspec fs true none [.d qe1, .capfn [qe1] .bool] [.bool] (fun x => x.2.1.1 (x.1, ())) (fun x => (!(x.2.1.2 (x.1, ())), ()))
theorem wi8 {fs : List (Nat × qc7)} (hfs : SpecsOk Try.prog fs) : qd6 Try.prog 131 (w77 fs) := by
  refine qs1 hfs (snd (SpecsOk.nil _)) Try.func131 rfl rfl (fun _ _ => none) (fun _ => by kernel_rfl) (by decide) ?_
  rintro ⟨n, ⟨p, f⟩, ⟨⟩⟩ h
  revert n p f
  intro (n : List Int) (p : qa6 [.list (.int .i64)] -> Prop) (f : qa6 [.list (.int .i64)] -> Bool) (h : p (n, ()))
  refine qd7 (B := p (n,())/\(!f (n,()))=!f (n,())) (by kernel_rfl) ?_
  try simp only [z0,z1,z2,z3,z4,z5,z6,z7,z8,z9,z10,Int.reduceEq,z11,z12,z13,z14,z15,z16,z17,z18,z19,z20,z21,z22,z23,z24,z25,z26,z27,z28,z29,z30,Int.reduceLE,Int.reduceLT,z31,z32,z33,z34,qa3]
  try simp only [qb4, qb5, qc9, List.set_cons_zero, List.cons.injEq, and_true, true_and]
  exact h
abbrev fsI (fs : List (Nat × qc7)) : List (Nat × qc7) := [(153, w76 fs)]
abbrev fsL (fs : List (Nat × qc7)) : List (Nat × qc7) := [(131, w77 fs)]
abbrev xo6 (fs : List (Nat × qc7)) : qc7 := hspec fs true none [.d qe1, .fn [qf9] .bool] [.bool] (fun x => x.1.length <= 1000000 /\ ∀ i, i < x.1.length -> x.2.1.1 (nI x.1 i, ())) (fun x => (x.1.all fun e => x.2.1.2 (e, ()), ()))
abbrev xo7 (fs : List (Nat × qc7)) : qc7 := hspec fs true none [.d qh5, .fn [qe1] .bool] [.bool] (fun x => x.1.length <= 1000000 /\ ∀ i, i < x.1.length -> x.2.1.1 (nL x.1 i, ())) (fun x => (x.1.all fun e => x.2.1.2 (e, ()), ()))
theorem wx7 {fs : List (Nat × qc7)} (hfs : SpecsOk Try.prog fs) : qd6 Try.prog 132 (xo6 fs) := by
  refine qs1 hfs (snd (SpecsOk.cons (q5o (fs := fsI fs) (SpecsOk.cons (wi7 hfs) (SpecsOk.nil _))) (SpecsOk.nil _))) Try.func132 rfl rfl (fun _ _ => none) (fun _ => by kernel_rfl) (by decide) ?_
  rintro ⟨l, ⟨p, f⟩, ⟨⟩⟩ h
  revert l p f
  intro (l : List Int) (p : qa6 [.int .i64] -> Prop) (f : qa6 [.int .i64] -> Bool) (h : l.length <= 1000000 /\ ∀ i, i < l.length -> p (nI l i, ()))
  refine qd7 (B := ∃ (v0 : qa6 [Ty.int .i64]->Prop),∃ (v1 : qa6 [Ty.int .i64]->Bool),(∀ (v2 : Int × qa6._f [] PUnit.unit),v0 v2->∃ (v4 : qa6 [qf9]->Prop),∃ (v5 : qa6 [qf9]->Bool),([qf9]=[qf9]/\Ty.bool=Ty.bool/\p ≍ v4/\f ≍ v5)/\v4 (Prod.fst v2,())/\(!v5 (Prod.fst v2,()))=v1 v2)/\(List.length l <= (1000000:Nat)/\∀ (v2:Nat),v2 < List.length l->v0 (qa1 (Ty.int .i64) l v2,()))/\(!List.any l fun (v2:Int) => v1 (v2,()))=List.all l fun (v2:Int) => f (v2,())) (by kernel_rfl) ?_
  try simp only [z0,z1,z2,z3,z4,z5,z6,z7,z8,z9,z10,Int.reduceEq,z11,z12,z13,z14,z15,z16,z17,z18,z19,z20,z21,z22,z23,z24,z25,z26,z27,z28,z29,z30,Int.reduceLE,Int.reduceLT,z31,z32,z33,z34,qa3]
  try simp only [qb4, qb5, qc9, List.set_cons_zero, List.cons.injEq, and_true, true_and]
  exact ⟨p, fun x => !f x, fun x hx => ⟨p, f, ⟨HEq.rfl, HEq.rfl⟩, hx, (Bool.not_not (f x)).symm⟩, h, by simp [List.not_all_eq_any_not]⟩
theorem wx8 {fs : List (Nat × qc7)} (hfs : SpecsOk Try.prog fs) : qd6 Try.prog 101 (xo7 fs) := by
  refine qs1 hfs (snd (SpecsOk.cons (w3a (fs := fsL fs) (SpecsOk.cons (wi8 hfs) (SpecsOk.nil _))) (SpecsOk.nil _))) Try.func101 rfl rfl (fun _ _ => none) (fun _ => by kernel_rfl) (by decide) ?_
  rintro ⟨l, ⟨p, f⟩, ⟨⟩⟩ h
  revert l p f
  intro (l : List (List Int)) (p : qa6 [.list (.int .i64)] -> Prop) (f : qa6 [.list (.int .i64)] -> Bool) (h : l.length <= 1000000 /\ ∀ i, i < l.length -> p (nL l i, ()))
  refine qd7 (B := ∃ (v0 : qa6 [Ty.list (Ty.int .i64)]->Prop),∃ (v1 : qa6 [Ty.list (Ty.int .i64)]->Bool),(∀ (v2 : List Int × qa6._f [] PUnit.unit),v0 v2->∃ (v4 : qa6 [qe1]->Prop),∃ (v5 : qa6 [qe1]->Bool),([qe1]=[qe1]/\Ty.bool=Ty.bool/\p ≍ v4/\f ≍ v5)/\v4 (Prod.fst v2,())/\(!v5 (Prod.fst v2,()))=v1 v2)/\(List.length l <= (1000000:Nat)/\∀ (v2:Nat),v2 < List.length l->v0 (qa1 (Ty.list (Ty.int .i64)) l v2,()))/\(!List.any l fun (v2 : List Int) => v1 (v2,()))=List.all l fun (v2 : List Int) => f (v2,())) (by kernel_rfl) ?_
  try simp only [z0,z1,z2,z3,z4,z5,z6,z7,z8,z9,z10,Int.reduceEq,z11,z12,z13,z14,z15,z16,z17,z18,z19,z20,z21,z22,z23,z24,z25,z26,z27,z28,z29,z30,Int.reduceLE,Int.reduceLT,z31,z32,z33,z34,qa3]
  try simp only [qb4, qb5, qc9, List.set_cons_zero, List.cons.injEq, and_true, true_and]
  exact ⟨p, fun x => !f x, fun x hx => ⟨p, f, ⟨HEq.rfl, HEq.rfl⟩, hx, (Bool.not_not (f x)).symm⟩, h, by simp [List.not_all_eq_any_not]⟩
abbrev xf9 : qc7 := qg2 true none [qf9] [.bool] (fun _ => True) (fun x => (inB x.1 (-1) 1, ()))
theorem wx9 : qd6 Try.prog 133 xf9 := by
  refine meets (snd (SpecsOk.cons qw9 (SpecsOk.nil _))) Try.func133 rfl rfl (fun _ _ => none) (fun _ => by kernel_rfl) (by decide) ?_
  rintro ⟨n, ⟨⟩⟩ -
  revert n
  intro (n : Int)
  refine qd7 (B := True/\inB n (-1:Int) (1:Int)=inB n (-1:Int) (1:Int)) (by kernel_rfl) ?_
  try simp only [z0,z1,z2,z3,z4,z5,z6,z7,z8,z9,z10,Int.reduceEq,z11,z12,z13,z14,z15,z16,z17,z18,z19,z20,z21,z22,z23,z24,z25,z26,z27,z28,z29,z30,Int.reduceLE,Int.reduceLT,z31,z32,z33,z34,qa3]
  try simp only [qb4, qb5, qc9, List.set_cons_zero, List.cons.injEq, and_true, true_and]
def rowB (l : List Int) : Bool := inB l.length 1 10 && l.all fun n => inB n (-1) 1
abbrev x0i : qc7 := qg2 true none [qe1] [.bool] (fun _ => True) (fun x => (rowB x.1, ()))
theorem w3b : qd6 Try.prog 103 x0i := by
  refine meets (snd (SpecsOk.cons qw9 (SpecsOk.cons (wx7 (fs := [(133, xf9)]) (SpecsOk.cons wx9 (SpecsOk.nil _))) (SpecsOk.nil _)))) Try.func103 rfl rfl (fun _ _ => none) (fun _ => by kernel_rfl) (by decide) ?_
  rintro ⟨l, ⟨⟩⟩ -
  revert l
  intro (l : List Int)
  refine qd7 (B := True/\(inB (↑(List.length l):Int) (1:Int) (10:Int)=true->∃ (v1 : qa6 [qf9]->Prop),∃ (v2 : qa6 [qf9]->Bool),(∀ (v3 : Int × qa6._f [] PUnit.unit),v1 v3->True/\inB (Prod.fst v3) (-1:Int) (1:Int)=v2 v3)/\(List.length l <= (1000000:Nat)/\∀ (v3:Nat),v3 < List.length l->v1 (nI l v3,()))/\(List.all l fun (v3:Int) => v2 (v3,()))=rowB l)/\(inB (↑(List.length l):Int) (1:Int) (10:Int)=false->false=rowB l)) (by kernel_rfl) ?_
  try simp only [z0,z1,z2,z3,z4,z5,z6,z7,z8,z9,z10,Int.reduceEq,z11,z12,z13,z14,z15,z16,z17,z18,z19,z20,z21,z22,z23,z24,z25,z26,z27,z28,z29,z30,Int.reduceLE,Int.reduceLT,z31,z32,z33,z34,qa3]
  try simp only [qb4, qb5, qc9, List.set_cons_zero, List.cons.injEq, and_true, true_and]
  refine ⟨fun h => ⟨fun _ => True, fun x => inB x.1 (-1) 1, fun _ _ => rfl, ⟨by rw [qt6] at h; omega, fun _ _ => trivial⟩, by simp [rowB, h]⟩, fun h => by simp [rowB, h]⟩
abbrev xv2 : qc7 := hspec [] true none [.d qe1, .cap qh5] [.bool] (fun x => 0 < x.2.1.length) (fun x => (decide (x.1.length = (nL x.2.1 0).length) && rowB x.1, ()))
theorem w3c : qd6 Try.prog 102 xv2 := by
  refine qs1 (SpecsOk.nil _) (snd (SpecsOk.cons w3b (SpecsOk.nil _))) Try.func102 rfl rfl (fun _ _ => none) (fun _ => by kernel_rfl) (by decide) ?_
  rintro ⟨l, m, ⟨⟩⟩ h
  revert l m
  intro (l : List Int) (m : List (List Int)) (h : 0 < m.length)
  refine qd7 (B := ((0:Int) <= (0:Int)/\(0:Int) < (↑(List.length m):Int))/\(((↑(List.length l):Int) == (↑(List.length (qa1 (Ty.list (Ty.int .i64)) m (0:Nat))):Int))=true->True/\rowB l=(decide (List.length l=List.length (nL m (0:Nat))) && rowB l))/\(((↑(List.length l):Int) == (↑(List.length (qa1 (Ty.list (Ty.int .i64)) m (0:Nat))):Int))=false->false=(decide (List.length l=List.length (nL m (0:Nat))) && rowB l))) (by kernel_rfl) ?_
  try simp only [z0,z1,z2,z3,z4,z5,z6,z7,z8,z9,z10,Int.reduceEq,z11,z12,z13,z14,z15,z16,z17,z18,z19,z20,z21,z22,z23,z24,z25,z26,z27,z28,z29,z30,Int.reduceLE,Int.reduceLT,z31,z32,z33,z34,qa3]
  try simp only [qb4, qb5, qc9, List.set_cons_zero, List.cons.injEq, and_true, true_and]
  refine ⟨by omega, fun h1 => ?_, fun h1 => ?_⟩
  · rw [decide_eq_true (Int.ofNat.inj h1)]; simp
  · rw [decide_eq_false fun e => h1 (congrArg _ e)]; simp
def qe6 (m : List (List Int)) : Bool := inB m.length 1 6 && m.all fun l => decide (l.length = (nL m 0).length) && rowB l
abbrev sMV : qc7 := qg2 true none [qh5] [.bool] (fun _ => True) (fun x => (qe6 x.1, ()))
theorem q82 : qd6 Try.prog 68 sMV := by
  refine meets (snd (SpecsOk.cons qw9 (SpecsOk.cons (wx8 (fs := [(102, xv2)]) (SpecsOk.cons w3c (SpecsOk.nil _))) (SpecsOk.nil _)))) Try.func68 rfl rfl (fun _ _ => none) (fun _ => by kernel_rfl) (by decide) ?_
  rintro ⟨m, ⟨⟩⟩ -
  revert m
  intro (m : List (List Int))
  refine qd7 (B := True/\(inB (↑(List.length m):Int) (1:Int) (6:Int)=true->∃ (v1 : qa6 [qe1]->Prop),∃ (v2 : qa6 [qe1]->Bool),(∀ (v3 : List Int × qa6._f [] PUnit.unit),v1 v3->(0:Nat) < List.length m/\(decide (List.length (Prod.fst v3)=List.length (nL m (0:Nat))) && rowB (Prod.fst v3))=v2 v3)/\(List.length m <= (1000000:Nat)/\∀ (v3:Nat),v3 < List.length m->v1 (nL m v3,()))/\(List.all m fun (v3 : List Int) => v2 (v3,()))=qe6 m)/\(inB (↑(List.length m):Int) (1:Int) (6:Int)=false->false=qe6 m)) (by kernel_rfl) ?_
  try simp only [z0,z1,z2,z3,z4,z5,z6,z7,z8,z9,z10,Int.reduceEq,z11,z12,z13,z14,z15,z16,z17,z18,z19,z20,z21,z22,z23,z24,z25,z26,z27,z28,z29,z30,Int.reduceLE,Int.reduceLT,z31,z32,z33,z34,qa3]
  try simp only [qb4, qb5, qc9, List.set_cons_zero, List.cons.injEq, and_true, true_and]
  refine ⟨fun h => ?_, fun h => by simp [qe6, h]⟩
  have hm := qt6.1 h
  exact ⟨fun _ => True, fun x => decide (x.1.length = (nL m 0).length) && rowB x.1, fun x _ => ⟨by omega, rfl⟩, ⟨by omega, fun _ _ => trivial⟩, by simp [qe6, h]⟩
end Go.Proofs.Ytdibdlelmkcccaa
