/- The fit of some columns; what it is asked with: contracts by the engine. No condition. -/
import Derived.Test.YtdibdlelmkcccaaV13
set_option linter.unusedVariables false
set_option linter.unusedSimpArgs false
namespace Go.Proofs.Ytdibdlelmkcccaa
open Go Go.RowKit Eng
def fitR (m : List (List Int)) (y pix : List Int) : (List Int × List (Int × Int)) × Bool := if (solL m pix y).2 ≠ 0 ∨ ((solL m pix y).1.any fun r => r.1 == 0) = true then (([], []), false) else ((pix, (solL m pix y).1), true)
abbrev sFitQ : FSpec := tspec true none [tQ, qb8] [tFit, .bool] (fun x => qm2 x.1.1 x.2.1 x.1.2 ∧ x.2.1.length ≤ 100000) (fun x => ((fitR x.1.1 x.1.2 x.2.1).1, (fitR x.1.1 x.1.2 x.2.1).2, ()))
theorem q5i {m : List (List Int)} {pix y : List Int} (h : qm2 m pix y) : (solL m pix y).1.length ≤ 1000000 := by
  unfold solL
  split
  · rename_i he
    have hA := Asked.of he
    have hO := h.ok he
    unfold solT
    split
    · simp
    · split
      · simp
      · have hsh := (qk3 hO.red pix.length).piv
        rw [show (qa7 m pix y).length = m.length from qf1 _ _ _] at hsh
        have := hA.msk.rows6
        have e : (solR m pix y).2.length = (qb4 (qa7 m pix y) pix.length).2.length := rfl
        simp
        omega
  · simp
theorem q3u : Meets Try.prog 49 sFitQ := by
  refine meets (snd (SpecsOk.cons q3t (SpecsOk.cons clone_meets (SpecsOk.cons (q28 (fs := [(83, sFit1)]) (SpecsOk.cons q2g (SpecsOk.nil _))) (SpecsOk.nil _))))) Try.func49 rfl rfl (fun _ _ => none) (fun _ => by kernel_rfl) (by decide) ?_
  rintro ⟨q, pix, ⟨⟩⟩ h
  revert q pix
  intro (q : List (List Int) × List Int) (pix : List Int) (h : qm2 q.1 pix q.2 ∧ pix.length ≤ 100000)
  refine by_vc (B := qm2 (Prod.fst q) pix (Prod.snd q)/\((Prod.snd (solL (Prod.fst q) pix (Prod.snd q)) != (0 : Int)) = true->(Prod.fst (Prod.fst (fitR (Prod.fst q) (Prod.snd q) pix)) = []/\Prod.snd (Prod.fst (fitR (Prod.fst q) (Prod.snd q) pix)) = []/\True)/\false = Prod.snd (fitR (Prod.fst q) (Prod.snd q) pix)/\True)/\((Prod.snd (solL (Prod.fst q) pix (Prod.snd q)) != (0 : Int)) = false->∃ (v1 : argsTy [Ty.prod (Ty.int .i64) (Ty.int .i64)]->Prop), ∃ (v2 : argsTy [Ty.prod (Ty.int .i64) (Ty.int .i64)]->Bool), (∀ (v3 : (Int × Int) × argsTy._f [] PUnit.unit), v1 v3->True/\(Prod.fst (Prod.fst v3) == (0 : Ty.den (Ty.int .i64))) = v2 v3)/\(List.length (Prod.fst (solL (Prod.fst q) pix (Prod.snd q))) <= (1000000 : Nat)/\∀ (v3 : Nat), v3 < List.length (Prod.fst (solL (Prod.fst q) pix (Prod.snd q)))->v1 (nthD (Ty.prod (Ty.int .i64) (Ty.int .i64)) (Prod.fst (solL (Prod.fst q) pix (Prod.snd q))) v3, ()))/\((List.any (Prod.fst (solL (Prod.fst q) pix (Prod.snd q))) fun (v4 : Int × Int) => v2 (v4, ())) = true->(Prod.fst (Prod.fst (fitR (Prod.fst q) (Prod.snd q) pix)) = []/\Prod.snd (Prod.fst (fitR (Prod.fst q) (Prod.snd q) pix)) = []/\True)/\false = Prod.snd (fitR (Prod.fst q) (Prod.snd q) pix)/\True)/\((List.any (Prod.fst (solL (Prod.fst q) pix (Prod.snd q))) fun (v4 : Int × Int) => v2 (v4, ())) = false->List.length pix <= (100000 : Nat)/\(pix = Prod.fst (Prod.fst (fitR (Prod.fst q) (Prod.snd q) pix))/\Prod.fst (solL (Prod.fst q) pix (Prod.snd q)) = Prod.snd (Prod.fst (fitR (Prod.fst q) (Prod.snd q) pix))/\True)/\true = Prod.snd (fitR (Prod.fst q) (Prod.snd q) pix)/\True))) (by kernel_rfl) ?_
  try simp only [z0,z1,z2,z3,z4,z5,z6,z7,z8,z9,z10,Int.reduceEq,z11,z12,z13,z14,z15,z16,z17,z18,z19,z20,z21,z22,z23,z24,z25,z26,z27,z28,z29,z30,Int.reduceLE,Int.reduceLT,z31,z32,z33,z34,nilEq_true]
  try simp only [qa4, qa5, qa8, List.set_cons_zero, List.cons.injEq, and_true, true_and]
  obtain ⟨hp, hl⟩ := h
  refine ⟨hp, fun h1 => by simp [fitR, h1], fun h1 => ⟨fun _ => True, fun x => x.1.1 == 0, fun _ _ => rfl, ⟨?_, fun _ _ => trivial⟩, fun h2 => ?_, fun h2 => ⟨hl, ?_⟩⟩⟩
  · exact q5i hp
  · have h2 : ((solL q.1 pix q.2).1.any fun r => r.1 == 0) = true := h2
    unfold fitR; rw [if_pos (.inr h2)]; exact ⟨⟨rfl, rfl⟩, rfl⟩
  · have h2 : ((solL q.1 pix q.2).1.any fun r => r.1 == 0) = false := h2
    unfold fitR; rw [if_neg (by rw [h1, h2]; simp)]; exact ⟨⟨rfl, rfl⟩, rfl⟩
def cntE (m : List (List Int)) (y : List Int) (k : Int) : Int := if chkE m y [] = 0 then (if inB k 0 10 then 0 else 7) else chkE m y []
abbrev sCnt : FSpec := tspec true none [qd2, qb8, tInt] [tInt] (fun _ => True) (fun x => (cntE x.1 x.2.1 x.2.2.1, ()))
theorem q3v : Meets Try.prog 43 sCnt := by
  refine meets (snd (SpecsOk.cons qp5 (SpecsOk.cons qg5 (SpecsOk.nil _)))) Try.func43 rfl rfl (fun _ _ => none) (fun _ => by kernel_rfl) (by decide) ?_
  rintro ⟨m, y, k, ⟨⟩⟩ -
  revert m y k
  intro (m : List (List Int)) (y : List Int) (k : Int)
  refine by_vc (B := Value.slice none (0 : Nat) (0 : Nat) = Value.slice none (0 : Nat) (0 : Nat)/\(0 : Nat) <= (1000000 : Nat)/\((chkE m y [] != (0 : Int)) = true->chkE m y [] = cntE m y k)/\((chkE m y [] != (0 : Int)) = false->True/\((!inB k (0 : Int) (10 : Int)) = true->(7 : Int) = cntE m y k)/\((!inB k (0 : Int) (10 : Int)) = false->(0 : Int) = cntE m y k))) (by kernel_rfl) ?_
  try simp only [z0,z1,z2,z3,z4,z5,z6,z7,z8,z9,z10,Int.reduceEq,z11,z12,z13,z14,z15,z16,z17,z18,z19,z20,z21,z22,z23,z24,z25,z26,z27,z28,z29,z30,Int.reduceLE,Int.reduceLT,z31,z32,z33,z34,nilEq_true]
  try simp only [qa4, qa5, qa8, List.set_cons_zero, List.cons.injEq, and_true, true_and]
  exact ⟨by decide, fun he => by simp [cntE, he], fun he => ⟨fun hk => by simp [cntE, he, hk], fun hk => by simp [cntE, he, hk]⟩⟩
end Go.Proofs.Ytdibdlelmkcccaa
