/- Copies, equal lists, valid fractions: contracts by the engine. No condition. -/
import Derived.Test.YtdibdlelmkcccaaV12
import Derived.Test.YtdibdlelmkcccaaVClo
set_option linter.unusedVariables false
set_option linter.unusedSimpArgs false
namespace Go.Proofs.Ytdibdlelmkcccaa
open Go Go.RowKit Eng
theorem qv9 (t : Ty) (a b : List t.den) (hl : a.length = b.length) (h : ∀ i, i < a.length → nthD t a i = nthD t b i) : a = b := by
  apply List.ext_getElem hl
  intro i h1 h2
  have := h i h1
  rwa [nthD_at a i h1, nthD_at b i h2] at this
abbrev tQ : Ty := .prod (.list (.list (.int .i64))) (.list (.int .i64))
abbrev sFit1 : FSpec := tspec true none [tRat] [.bool] (fun _ => True) (fun x => (x.1.1 == 0, ()))
theorem q2g : Meets Try.prog 83 sFit1 := by
  refine meets (snd (SpecsOk.nil _)) Try.func83 rfl rfl (fun _ _ => none) (fun _ => by kernel_rfl) (by decide) ?_
  rintro ⟨r, ⟨⟩⟩ -
  revert r
  intro (r : Int × Int)
  refine by_vc (B := (Prod.fst r == (0 : Int)) = (Prod.fst r == (0 : Ty.den (Ty.int .i64)))) (by kernel_rfl) ?_
  try simp only [z0,z1,z2,z3,z4,z5,z6,z7,z8,z9,z10,Int.reduceEq,z11,z12,z13,z14,z15,z16,z17,z18,z19,z20,z21,z22,z23,z24,z25,z26,z27,z28,z29,z30,Int.reduceLE,Int.reduceLT,z31,z32,z33,z34,nilEq_true]
  try simp only [qa4, qa5, qa8, List.set_cons_zero, List.cons.injEq, and_true, true_and]
  done
abbrev sQPix : FSpec := tspec true none [tQ] [tInt] (fun x => 0 < x.1.1.length) (fun x => ((nL x.1.1 0).length, ()))
theorem q2h : Meets Try.prog 76 sQPix := by
  refine meets (snd (SpecsOk.nil _)) Try.func76 rfl rfl (fun _ _ => none) (fun _ => by kernel_rfl) (by decide) ?_
  rintro ⟨q, ⟨⟩⟩ h
  revert q
  intro (q : List (List Int) × List Int) (h : 0 < q.1.length)
  refine by_vc (B := ((0 : Int) <= (0 : Int)/\(0 : Int) < (↑(List.length (Prod.fst q)) : Int))/\(↑(List.length (nthD (Ty.list (Ty.int .i64)) (Prod.fst q) (0 : Nat))) : Int) = (↑(List.length (nL (Prod.fst q) (0 : Nat))) : Int)) (by kernel_rfl) ?_
  try simp only [z0,z1,z2,z3,z4,z5,z6,z7,z8,z9,z10,Int.reduceEq,z11,z12,z13,z14,z15,z16,z17,z18,z19,z20,z21,z22,z23,z24,z25,z26,z27,z28,z29,z30,Int.reduceLE,Int.reduceLT,z31,z32,z33,z34,nilEq_true]
  try simp only [qa4, qa5, qa8, List.set_cons_zero, List.cons.injEq, and_true, true_and]
  omega
end Go.Proofs.Ytdibdlelmkcccaa
