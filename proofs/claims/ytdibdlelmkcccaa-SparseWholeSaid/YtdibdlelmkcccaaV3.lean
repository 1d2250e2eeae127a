/- The library's searches over lists, with a function: contracts by the engine. No condition. -/
import Derived.Test.YtdibdlelmkcccaaV2
set_option linter.unusedVariables false
set_option linter.unusedSimpArgs false
namespace Go.Proofs.Ytdibdlelmkcccaa
open Go Go.RowKit Eng
def ixT (t : Ty) (f : t.den → Bool) (l : List t.den) : Int := if l.any f then (l.findIdx f : Int) else -1
theorem q05 (t : Ty) (f : t.den → Bool) (l : List t.den) (k : Nat) (hk : k < l.length) (h : ∀ i, i < k → f (nthD t l i) = false) (hf : f (nthD t l k) = true) : ixT t f l = k := by
  have hk' : f l[k] = true := by rw [← nthD_at l k hk]; exact hf
  unfold ixT
  rw [if_pos (List.any_eq_true.2 ⟨_, List.getElem_mem hk, hk'⟩)]
  have : l.findIdx f = k := by
    rw [List.findIdx_eq hk]
    refine ⟨hk', fun j hj => ?_⟩
    have := h j hj
    rw [nthD_at l j (by omega)] at this
    exact this
  rw [this]
theorem qo4 (t : Ty) (f : t.den → Bool) (l : List t.den) (h : ∀ i, i < l.length → f (nthD t l i) = false) : ixT t f l = -1 := by
  unfold ixT
  rw [if_neg]
  intro he
  obtain ⟨x, hx, hf⟩ := List.any_eq_true.1 he
  obtain ⟨i, hi, rfl⟩ := List.getElem_of_mem hx
  have := h i hi
  rw [nthD_at l i hi, hf] at this
  cases this
theorem qk0 (t : Ty) (f : t.den → Bool) (l : List t.den) : decide (0 ≤ ixT t f l) = l.any f := by
  unfold ixT
  split
  · rename_i h; rw [h]; simp
  · rename_i h; simp at h ⊢; exact h
theorem q54 (t : Ty) (f : t.den → Bool) (l : List t.den) : ixT t f l < l.length ∧ -1 ≤ ixT t f l := by
  unfold ixT
  split
  · rename_i h
    have : l.findIdx f < l.length := List.findIdx_lt_length.2 (List.any_eq_true.1 h)
    omega
  · omega
def ivIx (t : Ty) (l : List t.den) (f : t.den → Bool) : Nat → Option Inv
  | 0 => some (Inv.of [8] 0 (fun k : Nat => [(8, .lit (.int .i64 k))]) (fun _ => []) (fun k => k ≤ l.length ∧ ∀ i, i < k → f (nthD t l i) = false) (fun k => l.length - k))
  | _ => none
abbrev sIxL (fs : List (Nat × FSpec)) : FSpec := hspec fs true none [.d (.list (.list (.int .i64))), .fn [.list (.int .i64)] .bool] [tInt] (fun x => x.1.length ≤ 1000000 ∧ ∀ i, i < x.1.length → x.2.1.1 (nthD (.list (.int .i64)) x.1 i, ())) (fun x => (ixT (.list (.int .i64)) (fun e => x.2.1.2 (e, ())) x.1, ()))
theorem qx4 {fs : List (Nat × FSpec)} (hfs : SpecsOk Try.prog fs) : Meets Try.prog 142 (sIxL fs) := by
  refine meetsH hfs (snd (SpecsOk.nil _)) Try.func142 rfl rfl (fun x => ivIx (.list (.int .i64)) x.1 (fun e => x.2.1.2 (e, ()))) (fun _ => by kernel_rfl) (by decide) ?_
  rintro ⟨l, ⟨p, f⟩, ⟨⟩⟩ h
  revert l p f
  intro (l : List (Ty.den (.list (.int .i64)))) (p : argsTy [.list (.int .i64)] → Prop) (f : argsTy [.list (.int .i64)] → Bool) (h : l.length ≤ 1000000 ∧ ∀ i, i < l.length → p (nthD (.list (.int .i64)) l i, ()))
  refine by_vc (B := ∃ (v0 : Unit), ∃ (v1 : Nat), (v1 <= List.length l/\∀ (v2 : Nat), Nat.le (Nat.succ v2) v1->f (nthD (Ty.list (Ty.int .i64)) l v2, ()) = false)/\(((0 : Int) = (↑v1 : Int)/\True)/\True)/\∀ (v2 : Nat), (v2 <= List.length l/\∀ (v4 : Nat), Nat.le (Nat.succ v4) v2->f (nthD (Ty.list (Ty.int .i64)) l v4, ()) = false)->(decide ((↑v2 : Int) < (↑(List.length l) : Int)) = true->((0 : Int) <= (↑v2 : Int)/\(↑v2 : Int) < (↑(List.length l) : Int))/\p (nthD (Ty.list (Ty.int .i64)) l (Int.toNat (↑v2 : Int)), ())/\(f (nthD (Ty.list (Ty.int .i64)) l (Int.toNat (↑v2 : Int)), ()) = true->(↑v2 : Int) = ixT (Ty.list (Ty.int .i64)) (fun (v6 : List Int) => f (v6, ())) l)/\(f (nthD (Ty.list (Ty.int .i64)) l (Int.toNat (↑v2 : Int)), ()) = false->fits .i64 ((↑v2 : Int) + (1 : Int))/\∃ (v6 : Nat), (v6 <= List.length l/\∀ (v7 : Nat), Nat.le (Nat.succ v7) v6->f (nthD (Ty.list (Ty.int .i64)) l v7, ()) = false)/\List.length l - v6 < List.length l - v2/\((↑v2 : Int) + (1 : Int) = (↑v6 : Int)/\True)/\True))/\(decide ((↑v2 : Int) < (↑(List.length l) : Int)) = false->(-1 : Int) = ixT (Ty.list (Ty.int .i64)) (fun (v5 : List Int) => f (v5, ())) l)) (by kernel_rfl) ?_
  try simp only [z0,z1,z2,z3,z4,z5,z6,z7,z8,z9,z10,Int.reduceEq,z11,z12,z13,z14,z15,z16,z17,z18,z19,z20,z21,z22,z23,z24,z25,z26,z27,z28,z29,z30,Int.reduceLE,Int.reduceLT,z31,z32,z33,z34,nilEq_true]
  try simp only [qa4, qa5, qa8, List.set_cons_zero, List.cons.injEq, and_true, true_and]
  obtain ⟨hl, hp⟩ := h
  refine ⟨(), 0, ⟨Nat.zero_le _, fun i hi => absurd hi (by omega)⟩, rfl, fun k ⟨hk, hall⟩ => ?_⟩
  refine ⟨fun hlt => ⟨hlt, hp k hlt, fun hf => (q05 (.list (.int .i64)) (fun e => f (e, ())) l k hlt hall hf).symm, fun hf => ⟨fits64 (by omega) (by omega), k + 1, ⟨by omega, fun i hi => ?_⟩, by omega, by omega⟩⟩, fun hge => (qo4 (.list (.int .i64)) (fun e => f (e, ())) l fun i hi => hall i (by omega)).symm⟩
  by_cases e : i = k
  · subst e; exact hf
  · exact hall i (by omega)
abbrev sIxI (fs : List (Nat × FSpec)) : FSpec := hspec fs true none [.d (.list (.int .i64)), .fn [.int .i64] .bool] [tInt] (fun x => x.1.length ≤ 1000000 ∧ ∀ i, i < x.1.length → x.2.1.1 (nthD (.int .i64) x.1 i, ())) (fun x => (ixT (.int .i64) (fun e => x.2.1.2 (e, ())) x.1, ()))
theorem qx5 {fs : List (Nat × FSpec)} (hfs : SpecsOk Try.prog fs) : Meets Try.prog 112 (sIxI fs) := by
  refine meetsH hfs (snd (SpecsOk.nil _)) Try.func112 rfl rfl (fun x => ivIx (.int .i64) x.1 (fun e => x.2.1.2 (e, ()))) (fun _ => by kernel_rfl) (by decide) ?_
  rintro ⟨l, ⟨p, f⟩, ⟨⟩⟩ h
  revert l p f
  intro (l : List (Ty.den (.int .i64))) (p : argsTy [.int .i64] → Prop) (f : argsTy [.int .i64] → Bool) (h : l.length ≤ 1000000 ∧ ∀ i, i < l.length → p (nthD (.int .i64) l i, ()))
  refine by_vc (B := ∃ (v0 : Unit), ∃ (v1 : Nat), (v1 <= List.length l/\∀ (v2 : Nat), Nat.le (Nat.succ v2) v1->f (nthD (Ty.int .i64) l v2, ()) = false)/\(((0 : Int) = (↑v1 : Int)/\True)/\True)/\∀ (v2 : Nat), (v2 <= List.length l/\∀ (v4 : Nat), Nat.le (Nat.succ v4) v2->f (nthD (Ty.int .i64) l v4, ()) = false)->(decide ((↑v2 : Int) < (↑(List.length l) : Int)) = true->((0 : Int) <= (↑v2 : Int)/\(↑v2 : Int) < (↑(List.length l) : Int))/\p (nthD (Ty.int .i64) l (Int.toNat (↑v2 : Int)), ())/\(f (nthD (Ty.int .i64) l (Int.toNat (↑v2 : Int)), ()) = true->(↑v2 : Int) = ixT (Ty.int .i64) (fun (v6 : Int) => f (v6, ())) l)/\(f (nthD (Ty.int .i64) l (Int.toNat (↑v2 : Int)), ()) = false->fits .i64 ((↑v2 : Int) + (1 : Int))/\∃ (v6 : Nat), (v6 <= List.length l/\∀ (v7 : Nat), Nat.le (Nat.succ v7) v6->f (nthD (Ty.int .i64) l v7, ()) = false)/\List.length l - v6 < List.length l - v2/\((↑v2 : Int) + (1 : Int) = (↑v6 : Int)/\True)/\True))/\(decide ((↑v2 : Int) < (↑(List.length l) : Int)) = false->(-1 : Int) = ixT (Ty.int .i64) (fun (v5 : Int) => f (v5, ())) l)) (by kernel_rfl) ?_
  try simp only [z0,z1,z2,z3,z4,z5,z6,z7,z8,z9,z10,Int.reduceEq,z11,z12,z13,z14,z15,z16,z17,z18,z19,z20,z21,z22,z23,z24,z25,z26,z27,z28,z29,z30,Int.reduceLE,Int.reduceLT,z31,z32,z33,z34,nilEq_true]
  try simp only [qa4, qa5, qa8, List.set_cons_zero, List.cons.injEq, and_true, true_and]
  obtain ⟨hl, hp⟩ := h
  refine ⟨(), 0, ⟨Nat.zero_le _, fun i hi => absurd hi (by omega)⟩, rfl, fun k ⟨hk, hall⟩ => ?_⟩
  refine ⟨fun hlt => ⟨hlt, hp k hlt, fun hf => (q05 (.int .i64) (fun e => f (e, ())) l k hlt hall hf).symm, fun hf => ⟨fits64 (by omega) (by omega), k + 1, ⟨by omega, fun i hi => ?_⟩, by omega, by omega⟩⟩, fun hge => (qo4 (.int .i64) (fun e => f (e, ())) l fun i hi => hall i (by omega)).symm⟩
  by_cases e : i = k
  · subst e; exact hf
  · exact hall i (by omega)
abbrev sIxR (fs : List (Nat × FSpec)) : FSpec := hspec fs true none [.d (.list (.prod (.int .i64) (.int .i64))), .fn [.prod (.int .i64) (.int .i64)] .bool] [tInt] (fun x => x.1.length ≤ 1000000 ∧ ∀ i, i < x.1.length → x.2.1.1 (nthD (.prod (.int .i64) (.int .i64)) x.1 i, ())) (fun x => (ixT (.prod (.int .i64) (.int .i64)) (fun e => x.2.1.2 (e, ())) x.1, ()))
theorem q26 {fs : List (Nat × FSpec)} (hfs : SpecsOk Try.prog fs) : Meets Try.prog 118 (sIxR fs) := by
  refine meetsH hfs (snd (SpecsOk.nil _)) Try.func118 rfl rfl (fun x => ivIx (.prod (.int .i64) (.int .i64)) x.1 (fun e => x.2.1.2 (e, ()))) (fun _ => by kernel_rfl) (by decide) ?_
  rintro ⟨l, ⟨p, f⟩, ⟨⟩⟩ h
  revert l p f
  intro (l : List (Ty.den (.prod (.int .i64) (.int .i64)))) (p : argsTy [.prod (.int .i64) (.int .i64)] → Prop) (f : argsTy [.prod (.int .i64) (.int .i64)] → Bool) (h : l.length ≤ 1000000 ∧ ∀ i, i < l.length → p (nthD (.prod (.int .i64) (.int .i64)) l i, ()))
  refine by_vc (B := ∃ (v0 : Unit), ∃ (v1 : Nat), (v1 <= List.length l/\∀ (v2 : Nat), Nat.le (Nat.succ v2) v1->f (nthD (Ty.prod (Ty.int .i64) (Ty.int .i64)) l v2, ()) = false)/\(((0 : Int) = (↑v1 : Int)/\True)/\True)/\∀ (v2 : Nat), (v2 <= List.length l/\∀ (v4 : Nat), Nat.le (Nat.succ v4) v2->f (nthD (Ty.prod (Ty.int .i64) (Ty.int .i64)) l v4, ()) = false)->(decide ((↑v2 : Int) < (↑(List.length l) : Int)) = true->((0 : Int) <= (↑v2 : Int)/\(↑v2 : Int) < (↑(List.length l) : Int))/\p ((Prod.fst (nthD (Ty.prod (Ty.int .i64) (Ty.int .i64)) l (Int.toNat (↑v2 : Int))), Prod.snd (nthD (Ty.prod (Ty.int .i64) (Ty.int .i64)) l (Int.toNat (↑v2 : Int)))), ())/\(f ((Prod.fst (nthD (Ty.prod (Ty.int .i64) (Ty.int .i64)) l (Int.toNat (↑v2 : Int))), Prod.snd (nthD (Ty.prod (Ty.int .i64) (Ty.int .i64)) l (Int.toNat (↑v2 : Int)))), ()) = true->(↑v2 : Int) = ixT (Ty.prod (Ty.int .i64) (Ty.int .i64)) (fun (v6 : Int × Int) => f (v6, ())) l)/\(f ((Prod.fst (nthD (Ty.prod (Ty.int .i64) (Ty.int .i64)) l (Int.toNat (↑v2 : Int))), Prod.snd (nthD (Ty.prod (Ty.int .i64) (Ty.int .i64)) l (Int.toNat (↑v2 : Int)))), ()) = false->fits .i64 ((↑v2 : Int) + (1 : Int))/\∃ (v6 : Nat), (v6 <= List.length l/\∀ (v7 : Nat), Nat.le (Nat.succ v7) v6->f (nthD (Ty.prod (Ty.int .i64) (Ty.int .i64)) l v7, ()) = false)/\List.length l - v6 < List.length l - v2/\((↑v2 : Int) + (1 : Int) = (↑v6 : Int)/\True)/\True))/\(decide ((↑v2 : Int) < (↑(List.length l) : Int)) = false->(-1 : Int) = ixT (Ty.prod (Ty.int .i64) (Ty.int .i64)) (fun (v5 : Int × Int) => f (v5, ())) l)) (by kernel_rfl) ?_
  try simp only [z0,z1,z2,z3,z4,z5,z6,z7,z8,z9,z10,Int.reduceEq,z11,z12,z13,z14,z15,z16,z17,z18,z19,z20,z21,z22,z23,z24,z25,z26,z27,z28,z29,z30,Int.reduceLE,Int.reduceLT,z31,z32,z33,z34,nilEq_true]
  try simp only [qa4, qa5, qa8, List.set_cons_zero, List.cons.injEq, and_true, true_and]
  obtain ⟨hl, hp⟩ := h
  refine ⟨(), 0, ⟨Nat.zero_le _, fun i hi => absurd hi (by omega)⟩, rfl, fun k ⟨hk, hall⟩ => ?_⟩
  refine ⟨fun hlt => ⟨hlt, hp k hlt, fun hf => (q05 (.prod (.int .i64) (.int .i64)) (fun e => f (e, ())) l k hlt hall hf).symm, fun hf => ⟨fits64 (by omega) (by omega), k + 1, ⟨by omega, fun i hi => ?_⟩, by omega, by omega⟩⟩, fun hge => (qo4 (.prod (.int .i64) (.int .i64)) (fun e => f (e, ())) l fun i hi => hall i (by omega)).symm⟩
  by_cases e : i = k
  · subst e; exact hf
  · exact hall i (by omega)
abbrev sCoL (fs : List (Nat × FSpec)) : FSpec := hspec fs true none [.d (.list (.list (.int .i64))), .fn [.list (.int .i64)] .bool] [.bool] (fun x => x.1.length ≤ 1000000 ∧ ∀ i, i < x.1.length → x.2.1.1 (nthD (.list (.int .i64)) x.1 i, ())) (fun x => (x.1.any fun e => x.2.1.2 (e, ()), ()))
theorem q27 {fs : List (Nat × FSpec)} (hfs : SpecsOk Try.prog fs) : Meets Try.prog 130 (sCoL fs) := by
  refine meetsH hfs (snd (SpecsOk.cons (qx4 (fs := fs) hfs) (SpecsOk.nil _))) Try.func130 rfl rfl (fun x => fun _ => none) (fun _ => by kernel_rfl) (by decide) ?_
  rintro ⟨l, ⟨p, f⟩, ⟨⟩⟩ h
  revert l p f
  intro (l : List (Ty.den (.list (.int .i64)))) (p : argsTy [.list (.int .i64)] → Prop) (f : argsTy [.list (.int .i64)] → Bool) (h : l.length ≤ 1000000 ∧ ∀ i, i < l.length → p (nthD (.list (.int .i64)) l i, ()))
  refine by_vc (B := ∃ (v0 : argsTy [Ty.list (Ty.int .i64)]->Prop), ∃ (v1 : argsTy [Ty.list (Ty.int .i64)]->Bool), ([Ty.list (Ty.int .i64)] = [Ty.list (Ty.int .i64)]/\Ty.bool = Ty.bool/\p ≍ v0/\f ≍ v1)/\(List.length l <= (1000000 : Nat)/\∀ (v2 : Nat), v2 < List.length l->v0 (nthD (Ty.list (Ty.int .i64)) l v2, ()))/\decide ((0 : Int) <= ixT (Ty.list (Ty.int .i64)) (fun (v2 : List Int) => v1 (v2, ())) l) = List.any l fun (v2 : List Int) => f (v2, ())) (by kernel_rfl) ?_
  try simp only [z0,z1,z2,z3,z4,z5,z6,z7,z8,z9,z10,Int.reduceEq,z11,z12,z13,z14,z15,z16,z17,z18,z19,z20,z21,z22,z23,z24,z25,z26,z27,z28,z29,z30,Int.reduceLE,Int.reduceLT,z31,z32,z33,z34,nilEq_true]
  try simp only [qa4, qa5, qa8, List.set_cons_zero, List.cons.injEq, and_true, true_and]
  exact ⟨p, f, ⟨HEq.rfl, HEq.rfl⟩, h, qk0 (.list (.int .i64)) (fun e => f (e, ())) l⟩
abbrev sCoI (fs : List (Nat × FSpec)) : FSpec := hspec fs true none [.d (.list (.int .i64)), .fn [.int .i64] .bool] [.bool] (fun x => x.1.length ≤ 1000000 ∧ ∀ i, i < x.1.length → x.2.1.1 (nthD (.int .i64) x.1 i, ())) (fun x => (x.1.any fun e => x.2.1.2 (e, ()), ()))
theorem qp3 {fs : List (Nat × FSpec)} (hfs : SpecsOk Try.prog fs) : Meets Try.prog 79 (sCoI fs) := by
  refine meetsH hfs (snd (SpecsOk.cons (qx5 (fs := fs) hfs) (SpecsOk.nil _))) Try.func79 rfl rfl (fun x => fun _ => none) (fun _ => by kernel_rfl) (by decide) ?_
  rintro ⟨l, ⟨p, f⟩, ⟨⟩⟩ h
  revert l p f
  intro (l : List (Ty.den (.int .i64))) (p : argsTy [.int .i64] → Prop) (f : argsTy [.int .i64] → Bool) (h : l.length ≤ 1000000 ∧ ∀ i, i < l.length → p (nthD (.int .i64) l i, ()))
  refine by_vc (B := ∃ (v0 : argsTy [Ty.int .i64]->Prop), ∃ (v1 : argsTy [Ty.int .i64]->Bool), ([Ty.int .i64] = [Ty.int .i64]/\Ty.bool = Ty.bool/\p ≍ v0/\f ≍ v1)/\(List.length l <= (1000000 : Nat)/\∀ (v2 : Nat), v2 < List.length l->v0 (nthD (Ty.int .i64) l v2, ()))/\decide ((0 : Int) <= ixT (Ty.int .i64) (fun (v2 : Int) => v1 (v2, ())) l) = List.any l fun (v2 : Int) => f (v2, ())) (by kernel_rfl) ?_
  try simp only [z0,z1,z2,z3,z4,z5,z6,z7,z8,z9,z10,Int.reduceEq,z11,z12,z13,z14,z15,z16,z17,z18,z19,z20,z21,z22,z23,z24,z25,z26,z27,z28,z29,z30,Int.reduceLE,Int.reduceLT,z31,z32,z33,z34,nilEq_true]
  try simp only [qa4, qa5, qa8, List.set_cons_zero, List.cons.injEq, and_true, true_and]
  exact ⟨p, f, ⟨HEq.rfl, HEq.rfl⟩, h, qk0 (.int .i64) (fun e => f (e, ())) l⟩
abbrev sCoR (fs : List (Nat × FSpec)) : FSpec := hspec fs true none [.d (.list (.prod (.int .i64) (.int .i64))), .fn [.prod (.int .i64) (.int .i64)] .bool] [.bool] (fun x => x.1.length ≤ 1000000 ∧ ∀ i, i < x.1.length → x.2.1.1 (nthD (.prod (.int .i64) (.int .i64)) x.1 i, ())) (fun x => (x.1.any fun e => x.2.1.2 (e, ()), ()))
theorem q28 {fs : List (Nat × FSpec)} (hfs : SpecsOk Try.prog fs) : Meets Try.prog 82 (sCoR fs) := by
  refine meetsH hfs (snd (SpecsOk.cons (q26 (fs := fs) hfs) (SpecsOk.nil _))) Try.func82 rfl rfl (fun x => fun _ => none) (fun _ => by kernel_rfl) (by decide) ?_
  rintro ⟨l, ⟨p, f⟩, ⟨⟩⟩ h
  revert l p f
  intro (l : List (Ty.den (.prod (.int .i64) (.int .i64)))) (p : argsTy [.prod (.int .i64) (.int .i64)] → Prop) (f : argsTy [.prod (.int .i64) (.int .i64)] → Bool) (h : l.length ≤ 1000000 ∧ ∀ i, i < l.length → p (nthD (.prod (.int .i64) (.int .i64)) l i, ()))
  refine by_vc (B := ∃ (v0 : argsTy [Ty.prod (Ty.int .i64) (Ty.int .i64)]->Prop), ∃ (v1 : argsTy [Ty.prod (Ty.int .i64) (Ty.int .i64)]->Bool), ([Ty.prod (Ty.int .i64) (Ty.int .i64)] = [Ty.prod (Ty.int .i64) (Ty.int .i64)]/\Ty.bool = Ty.bool/\p ≍ v0/\f ≍ v1)/\(List.length l <= (1000000 : Nat)/\∀ (v2 : Nat), v2 < List.length l->v0 (nthD (Ty.prod (Ty.int .i64) (Ty.int .i64)) l v2, ()))/\decide ((0 : Int) <= ixT (Ty.prod (Ty.int .i64) (Ty.int .i64)) (fun (v2 : Int × Int) => v1 (v2, ())) l) = List.any l fun (v2 : Int × Int) => f (v2, ())) (by kernel_rfl) ?_
  try simp only [z0,z1,z2,z3,z4,z5,z6,z7,z8,z9,z10,Int.reduceEq,z11,z12,z13,z14,z15,z16,z17,z18,z19,z20,z21,z22,z23,z24,z25,z26,z27,z28,z29,z30,Int.reduceLE,Int.reduceLT,z31,z32,z33,z34,nilEq_true]
  try simp only [qa4, qa5, qa8, List.set_cons_zero, List.cons.injEq, and_true, true_and]
  exact ⟨p, f, ⟨HEq.rfl, HEq.rfl⟩, h, qk0 (.prod (.int .i64) (.int .i64)) (fun e => f (e, ())) l⟩
end Go.Proofs.Ytdibdlelmkcccaa
