/- Masks, and the errors of masks, readings and pixels: contracts by the engine. No condition. -/
import Derived.Test.YtdibdlelmkcccaaV3
set_option linter.unusedVariables false
set_option linter.unusedSimpArgs false
namespace Go.Proofs.Ytdibdlelmkcccaa
open Go Go.RowKit Eng
def inB (n lo hi : Int) : Bool := decide (lo ≤ n) && decide (n ≤ hi)
theorem qh8 {n lo hi : Int} : inB n lo hi = true ↔ lo ≤ n ∧ n ≤ hi := by simp [inB]
abbrev qp4 : FSpec := tspec true none [tInt, tInt, tInt] [.bool] (fun _ => True) (fun x => (inB x.1 x.2.1 x.2.2.1, ()))
theorem qi8 : Meets Try.prog 100 qp4 := by
  refine meets (snd (SpecsOk.nil _)) Try.func100 rfl rfl (fun _ _ => none) (fun _ => by kernel_rfl) (by decide) ?_
  rintro ⟨n, lo, hi, ⟨⟩⟩ -
  revert n lo hi
  intro (n : Int) (lo : Int) (hi : Int)
  refine by_vc (B := (decide (lo <= n) = true->decide (n <= hi) = inB n lo hi)/\(decide (lo <= n) = false->false = inB n lo hi)) (by kernel_rfl) ?_
  try simp only [z0,z1,z2,z3,z4,z5,z6,z7,z8,z9,z10,Int.reduceEq,z11,z12,z13,z14,z15,z16,z17,z18,z19,z20,z21,z22,z23,z24,z25,z26,z27,z28,z29,z30,Int.reduceLE,Int.reduceLT,z31,z32,z33,z34,nilEq_true]
  try simp only [qa4, qa5, qa8, List.set_cons_zero, List.cons.injEq, and_true, true_and]
  constructor
  · intro h1
    simp [inB, h1]
  · intro h1
    have : ¬ lo ≤ n := by omega
    simp [inB, this]
theorem qg5 : Meets Try.prog 45 qp4 := by
  refine meets (snd (SpecsOk.nil _)) Try.func45 rfl rfl (fun _ _ => none) (fun _ => by kernel_rfl) (by decide) ?_
  rintro ⟨n, lo, hi, ⟨⟩⟩ -
  revert n lo hi
  intro (n : Int) (lo : Int) (hi : Int)
  refine by_vc (B := (decide (lo <= n) = true->decide (n <= hi) = inB n lo hi)/\(decide (lo <= n) = false->false = inB n lo hi)) (by kernel_rfl) ?_
  try simp only [z0,z1,z2,z3,z4,z5,z6,z7,z8,z9,z10,Int.reduceEq,z11,z12,z13,z14,z15,z16,z17,z18,z19,z20,z21,z22,z23,z24,z25,z26,z27,z28,z29,z30,Int.reduceLE,Int.reduceLT,z31,z32,z33,z34,nilEq_true]
  try simp only [qa4, qa5, qa8, List.set_cons_zero, List.cons.injEq, and_true, true_and]
  constructor
  · intro h1
    simp [inB, h1]
  · intro h1
    have : ¬ lo ≤ n := by omega
    simp [inB, this]
theorem qi9 : Meets Try.prog 98 qp4 := by
  refine meets (snd (SpecsOk.nil _)) Try.func98 rfl rfl (fun _ _ => none) (fun _ => by kernel_rfl) (by decide) ?_
  rintro ⟨n, lo, hi, ⟨⟩⟩ -
  revert n lo hi
  intro (n : Int) (lo : Int) (hi : Int)
  refine by_vc (B := (decide (lo <= n) = true->decide (n <= hi) = inB n lo hi)/\(decide (lo <= n) = false->false = inB n lo hi)) (by kernel_rfl) ?_
  try simp only [z0,z1,z2,z3,z4,z5,z6,z7,z8,z9,z10,Int.reduceEq,z11,z12,z13,z14,z15,z16,z17,z18,z19,z20,z21,z22,z23,z24,z25,z26,z27,z28,z29,z30,Int.reduceLE,Int.reduceLT,z31,z32,z33,z34,nilEq_true]
  try simp only [qa4, qa5, qa8, List.set_cons_zero, List.cons.injEq, and_true, true_and]
  constructor
  · intro h1
    simp [inB, h1]
  · intro h1
    have : ¬ lo ≤ n := by omega
    simp [inB, this]
theorem ql7 : Meets Try.prog 87 qp4 := by
  refine meets (snd (SpecsOk.nil _)) Try.func87 rfl rfl (fun _ _ => none) (fun _ => by kernel_rfl) (by decide) ?_
  rintro ⟨n, lo, hi, ⟨⟩⟩ -
  revert n lo hi
  intro (n : Int) (lo : Int) (hi : Int)
  refine by_vc (B := (decide (lo <= n) = true->decide (n <= hi) = inB n lo hi)/\(decide (lo <= n) = false->false = inB n lo hi)) (by kernel_rfl) ?_
  try simp only [z0,z1,z2,z3,z4,z5,z6,z7,z8,z9,z10,Int.reduceEq,z11,z12,z13,z14,z15,z16,z17,z18,z19,z20,z21,z22,z23,z24,z25,z26,z27,z28,z29,z30,Int.reduceLE,Int.reduceLT,z31,z32,z33,z34,nilEq_true]
  try simp only [qa4, qa5, qa8, List.set_cons_zero, List.cons.injEq, and_true, true_and]
  constructor
  · intro h1
    simp [inB, h1]
  · intro h1
    have : ¬ lo ≤ n := by omega
    simp [inB, this]
abbrev q55 (fs : List (Nat × FSpec)) : FSpec := hspec fs true none [.d tInt, .capfn [tInt] .bool] [.bool] (fun x => x.2.1.1 (x.1, ())) (fun x => (!(x.2.1.2 (x.1, ())), ()))
theorem q0e {fs : List (Nat × FSpec)} (hfs : SpecsOk Try.prog fs) : Meets Try.prog 153 (q55 fs) := by
  refine meetsH hfs (snd (SpecsOk.nil _)) Try.func153 rfl rfl (fun _ _ => none) (fun _ => by kernel_rfl) (by decide) ?_
  rintro ⟨n, ⟨p, f⟩, ⟨⟩⟩ h
  revert n p f
  intro (n : Int) (p : argsTy [.int .i64] → Prop) (f : argsTy [.int .i64] → Bool) (h : p (n, ()))
  refine by_vc (B := p (n, ())/\(!f (n, ())) = !f (n, ())) (by kernel_rfl) ?_
  try simp only [z0,z1,z2,z3,z4,z5,z6,z7,z8,z9,z10,Int.reduceEq,z11,z12,z13,z14,z15,z16,z17,z18,z19,z20,z21,z22,z23,z24,z25,z26,z27,z28,z29,z30,Int.reduceLE,Int.reduceLT,z31,z32,z33,z34,nilEq_true]
  try simp only [qa4, qa5, qa8, List.set_cons_zero, List.cons.injEq, and_true, true_and]
  exact h
abbrev q56 (fs : List (Nat × FSpec)) : FSpec := hspec fs true none [.d qb8, .capfn [qb8] .bool] [.bool] (fun x => x.2.1.1 (x.1, ())) (fun x => (!(x.2.1.2 (x.1, ())), ()))
theorem q0f {fs : List (Nat × FSpec)} (hfs : SpecsOk Try.prog fs) : Meets Try.prog 131 (q56 fs) := by
  refine meetsH hfs (snd (SpecsOk.nil _)) Try.func131 rfl rfl (fun _ _ => none) (fun _ => by kernel_rfl) (by decide) ?_
  rintro ⟨n, ⟨p, f⟩, ⟨⟩⟩ h
  revert n p f
  intro (n : List Int) (p : argsTy [.list (.int .i64)] → Prop) (f : argsTy [.list (.int .i64)] → Bool) (h : p (n, ()))
  refine by_vc (B := p (n, ())/\(!f (n, ())) = !f (n, ())) (by kernel_rfl) ?_
  try simp only [z0,z1,z2,z3,z4,z5,z6,z7,z8,z9,z10,Int.reduceEq,z11,z12,z13,z14,z15,z16,z17,z18,z19,z20,z21,z22,z23,z24,z25,z26,z27,z28,z29,z30,Int.reduceLE,Int.reduceLT,z31,z32,z33,z34,nilEq_true]
  try simp only [qa4, qa5, qa8, List.set_cons_zero, List.cons.injEq, and_true, true_and]
  exact h
abbrev fsI (fs : List (Nat × FSpec)) : List (Nat × FSpec) := [(153, q55 fs)]
abbrev fsL (fs : List (Nat × FSpec)) : List (Nat × FSpec) := [(131, q56 fs)]
abbrev sAllI (fs : List (Nat × FSpec)) : FSpec := hspec fs true none [.d qb8, .fn [tInt] .bool] [.bool] (fun x => x.1.length ≤ 1000000 ∧ ∀ i, i < x.1.length → x.2.1.1 (nI x.1 i, ())) (fun x => (x.1.all fun e => x.2.1.2 (e, ()), ()))
abbrev sAllL (fs : List (Nat × FSpec)) : FSpec := hspec fs true none [.d qd2, .fn [qb8] .bool] [.bool] (fun x => x.1.length ≤ 1000000 ∧ ∀ i, i < x.1.length → x.2.1.1 (nL x.1 i, ())) (fun x => (x.1.all fun e => x.2.1.2 (e, ()), ()))
theorem q1t {fs : List (Nat × FSpec)} (hfs : SpecsOk Try.prog fs) : Meets Try.prog 132 (sAllI fs) := by
  refine meetsH hfs (snd (SpecsOk.cons (qp3 (fs := fsI fs) (SpecsOk.cons (q0e hfs) (SpecsOk.nil _))) (SpecsOk.nil _))) Try.func132 rfl rfl (fun _ _ => none) (fun _ => by kernel_rfl) (by decide) ?_
  rintro ⟨l, ⟨p, f⟩, ⟨⟩⟩ h
  revert l p f
  intro (l : List Int) (p : argsTy [.int .i64] → Prop) (f : argsTy [.int .i64] → Bool) (h : l.length ≤ 1000000 ∧ ∀ i, i < l.length → p (nI l i, ()))
  refine by_vc (B := ∃ (v0 : argsTy [Ty.int .i64]->Prop), ∃ (v1 : argsTy [Ty.int .i64]->Bool), (∀ (v2 : Int × argsTy._f [] PUnit.unit), v0 v2->∃ (v4 : argsTy [tInt]->Prop), ∃ (v5 : argsTy [tInt]->Bool), ([tInt] = [tInt]/\Ty.bool = Ty.bool/\p ≍ v4/\f ≍ v5)/\v4 (Prod.fst v2, ())/\(!v5 (Prod.fst v2, ())) = v1 v2)/\(List.length l <= (1000000 : Nat)/\∀ (v2 : Nat), v2 < List.length l->v0 (nthD (Ty.int .i64) l v2, ()))/\(!List.any l fun (v2 : Int) => v1 (v2, ())) = List.all l fun (v2 : Int) => f (v2, ())) (by kernel_rfl) ?_
  try simp only [z0,z1,z2,z3,z4,z5,z6,z7,z8,z9,z10,Int.reduceEq,z11,z12,z13,z14,z15,z16,z17,z18,z19,z20,z21,z22,z23,z24,z25,z26,z27,z28,z29,z30,Int.reduceLE,Int.reduceLT,z31,z32,z33,z34,nilEq_true]
  try simp only [qa4, qa5, qa8, List.set_cons_zero, List.cons.injEq, and_true, true_and]
  exact ⟨p, fun x => !f x, fun x hx => ⟨p, f, ⟨HEq.rfl, HEq.rfl⟩, hx, (Bool.not_not (f x)).symm⟩, h, by simp [List.not_all_eq_any_not]⟩
theorem q1u {fs : List (Nat × FSpec)} (hfs : SpecsOk Try.prog fs) : Meets Try.prog 101 (sAllL fs) := by
  refine meetsH hfs (snd (SpecsOk.cons (q27 (fs := fsL fs) (SpecsOk.cons (q0f hfs) (SpecsOk.nil _))) (SpecsOk.nil _))) Try.func101 rfl rfl (fun _ _ => none) (fun _ => by kernel_rfl) (by decide) ?_
  rintro ⟨l, ⟨p, f⟩, ⟨⟩⟩ h
  revert l p f
  intro (l : List (List Int)) (p : argsTy [.list (.int .i64)] → Prop) (f : argsTy [.list (.int .i64)] → Bool) (h : l.length ≤ 1000000 ∧ ∀ i, i < l.length → p (nL l i, ()))
  refine by_vc (B := ∃ (v0 : argsTy [Ty.list (Ty.int .i64)]->Prop), ∃ (v1 : argsTy [Ty.list (Ty.int .i64)]->Bool), (∀ (v2 : List Int × argsTy._f [] PUnit.unit), v0 v2->∃ (v4 : argsTy [qb8]->Prop), ∃ (v5 : argsTy [qb8]->Bool), ([qb8] = [qb8]/\Ty.bool = Ty.bool/\p ≍ v4/\f ≍ v5)/\v4 (Prod.fst v2, ())/\(!v5 (Prod.fst v2, ())) = v1 v2)/\(List.length l <= (1000000 : Nat)/\∀ (v2 : Nat), v2 < List.length l->v0 (nthD (Ty.list (Ty.int .i64)) l v2, ()))/\(!List.any l fun (v2 : List Int) => v1 (v2, ())) = List.all l fun (v2 : List Int) => f (v2, ())) (by kernel_rfl) ?_
  try simp only [z0,z1,z2,z3,z4,z5,z6,z7,z8,z9,z10,Int.reduceEq,z11,z12,z13,z14,z15,z16,z17,z18,z19,z20,z21,z22,z23,z24,z25,z26,z27,z28,z29,z30,Int.reduceLE,Int.reduceLT,z31,z32,z33,z34,nilEq_true]
  try simp only [qa4, qa5, qa8, List.set_cons_zero, List.cons.injEq, and_true, true_and]
  exact ⟨p, fun x => !f x, fun x hx => ⟨p, f, ⟨HEq.rfl, HEq.rfl⟩, hx, (Bool.not_not (f x)).symm⟩, h, by simp [List.not_all_eq_any_not]⟩
abbrev sRow1 : FSpec := tspec true none [tInt] [.bool] (fun _ => True) (fun x => (inB x.1 (-1) 1, ()))
theorem q1v : Meets Try.prog 133 sRow1 := by
  refine meets (snd (SpecsOk.cons qi8 (SpecsOk.nil _))) Try.func133 rfl rfl (fun _ _ => none) (fun _ => by kernel_rfl) (by decide) ?_
  rintro ⟨n, ⟨⟩⟩ -
  revert n
  intro (n : Int)
  refine by_vc (B := True/\inB n (-1 : Int) (1 : Int) = inB n (-1 : Int) (1 : Int)) (by kernel_rfl) ?_
  try simp only [z0,z1,z2,z3,z4,z5,z6,z7,z8,z9,z10,Int.reduceEq,z11,z12,z13,z14,z15,z16,z17,z18,z19,z20,z21,z22,z23,z24,z25,z26,z27,z28,z29,z30,Int.reduceLE,Int.reduceLT,z31,z32,z33,z34,nilEq_true]
  try simp only [qa4, qa5, qa8, List.set_cons_zero, List.cons.injEq, and_true, true_and]
def rowB (l : List Int) : Bool := inB l.length 1 10 && l.all fun n => inB n (-1) 1
abbrev sRow : FSpec := tspec true none [qb8] [.bool] (fun _ => True) (fun x => (rowB x.1, ()))
theorem q29 : Meets Try.prog 103 sRow := by
  refine meets (snd (SpecsOk.cons qi8 (SpecsOk.cons (q1t (fs := [(133, sRow1)]) (SpecsOk.cons q1v (SpecsOk.nil _))) (SpecsOk.nil _)))) Try.func103 rfl rfl (fun _ _ => none) (fun _ => by kernel_rfl) (by decide) ?_
  rintro ⟨l, ⟨⟩⟩ -
  revert l
  intro (l : List Int)
  refine by_vc (B := True/\(inB (↑(List.length l) : Int) (1 : Int) (10 : Int) = true->∃ (v1 : argsTy [tInt]->Prop), ∃ (v2 : argsTy [tInt]->Bool), (∀ (v3 : Int × argsTy._f [] PUnit.unit), v1 v3->True/\inB (Prod.fst v3) (-1 : Int) (1 : Int) = v2 v3)/\(List.length l <= (1000000 : Nat)/\∀ (v3 : Nat), v3 < List.length l->v1 (nI l v3, ()))/\(List.all l fun (v3 : Int) => v2 (v3, ())) = rowB l)/\(inB (↑(List.length l) : Int) (1 : Int) (10 : Int) = false->false = rowB l)) (by kernel_rfl) ?_
  try simp only [z0,z1,z2,z3,z4,z5,z6,z7,z8,z9,z10,Int.reduceEq,z11,z12,z13,z14,z15,z16,z17,z18,z19,z20,z21,z22,z23,z24,z25,z26,z27,z28,z29,z30,Int.reduceLE,Int.reduceLT,z31,z32,z33,z34,nilEq_true]
  try simp only [qa4, qa5, qa8, List.set_cons_zero, List.cons.injEq, and_true, true_and]
  refine ⟨fun h => ⟨fun _ => True, fun x => inB x.1 (-1) 1, fun _ _ => rfl, ⟨by rw [qh8] at h; omega, fun _ _ => trivial⟩, by simp [rowB, h]⟩, fun h => by simp [rowB, h]⟩
abbrev sMV1 : FSpec := hspec [] true none [.d qb8, .cap qd2] [.bool] (fun x => 0 < x.2.1.length) (fun x => (decide (x.1.length = (nL x.2.1 0).length) && rowB x.1, ()))
theorem q3a : Meets Try.prog 102 sMV1 := by
  refine meetsH (SpecsOk.nil _) (snd (SpecsOk.cons q29 (SpecsOk.nil _))) Try.func102 rfl rfl (fun _ _ => none) (fun _ => by kernel_rfl) (by decide) ?_
  rintro ⟨l, m, ⟨⟩⟩ h
  revert l m
  intro (l : List Int) (m : List (List Int)) (h : 0 < m.length)
  refine by_vc (B := ((0 : Int) <= (0 : Int)/\(0 : Int) < (↑(List.length m) : Int))/\(((↑(List.length l) : Int) == (↑(List.length (nthD (Ty.list (Ty.int .i64)) m (0 : Nat))) : Int)) = true->True/\rowB l = (decide (List.length l = List.length (nL m (0 : Nat))) && rowB l))/\(((↑(List.length l) : Int) == (↑(List.length (nthD (Ty.list (Ty.int .i64)) m (0 : Nat))) : Int)) = false->false = (decide (List.length l = List.length (nL m (0 : Nat))) && rowB l))) (by kernel_rfl) ?_
  try simp only [z0,z1,z2,z3,z4,z5,z6,z7,z8,z9,z10,Int.reduceEq,z11,z12,z13,z14,z15,z16,z17,z18,z19,z20,z21,z22,z23,z24,z25,z26,z27,z28,z29,z30,Int.reduceLE,Int.reduceLT,z31,z32,z33,z34,nilEq_true]
  try simp only [qa4, qa5, qa8, List.set_cons_zero, List.cons.injEq, and_true, true_and]
  refine ⟨by omega, fun h1 => ?_, fun h1 => ?_⟩
  · rw [decide_eq_true (Int.ofNat.inj h1)]; simp
  · rw [decide_eq_false fun e => h1 (congrArg _ e)]; simp
def qb5 (m : List (List Int)) : Bool := inB m.length 1 6 && m.all fun l => decide (l.length = (nL m 0).length) && rowB l
abbrev sMV : FSpec := tspec true none [qd2] [.bool] (fun _ => True) (fun x => (qb5 x.1, ()))
theorem qv0 : Meets Try.prog 68 sMV := by
  refine meets (snd (SpecsOk.cons qi8 (SpecsOk.cons (q1u (fs := [(102, sMV1)]) (SpecsOk.cons q3a (SpecsOk.nil _))) (SpecsOk.nil _)))) Try.func68 rfl rfl (fun _ _ => none) (fun _ => by kernel_rfl) (by decide) ?_
  rintro ⟨m, ⟨⟩⟩ -
  revert m
  intro (m : List (List Int))
  refine by_vc (B := True/\(inB (↑(List.length m) : Int) (1 : Int) (6 : Int) = true->∃ (v1 : argsTy [qb8]->Prop), ∃ (v2 : argsTy [qb8]->Bool), (∀ (v3 : List Int × argsTy._f [] PUnit.unit), v1 v3->(0 : Nat) < List.length m/\(decide (List.length (Prod.fst v3) = List.length (nL m (0 : Nat))) && rowB (Prod.fst v3)) = v2 v3)/\(List.length m <= (1000000 : Nat)/\∀ (v3 : Nat), v3 < List.length m->v1 (nL m v3, ()))/\(List.all m fun (v3 : List Int) => v2 (v3, ())) = qb5 m)/\(inB (↑(List.length m) : Int) (1 : Int) (6 : Int) = false->false = qb5 m)) (by kernel_rfl) ?_
  try simp only [z0,z1,z2,z3,z4,z5,z6,z7,z8,z9,z10,Int.reduceEq,z11,z12,z13,z14,z15,z16,z17,z18,z19,z20,z21,z22,z23,z24,z25,z26,z27,z28,z29,z30,Int.reduceLE,Int.reduceLT,z31,z32,z33,z34,nilEq_true]
  try simp only [qa4, qa5, qa8, List.set_cons_zero, List.cons.injEq, and_true, true_and]
  refine ⟨fun h => ?_, fun h => by simp [qb5, h]⟩
  have hm := qh8.1 h
  exact ⟨fun _ => True, fun x => decide (x.1.length = (nL m 0).length) && rowB x.1, fun x _ => ⟨by omega, rfl⟩, ⟨by omega, fun _ _ => trivial⟩, by simp [qb5, h]⟩
end Go.Proofs.Ytdibdlelmkcccaa
