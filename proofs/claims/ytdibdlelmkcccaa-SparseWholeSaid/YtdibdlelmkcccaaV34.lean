/- The laws SparseLeast and SparseWhole: contracts by the engine. No condition. -/
import Derived.Test.YtdibdlelmkcccaaV33
set_option linter.unusedVariables false
set_option linter.unusedSimpArgs false
namespace Go.Proofs.Ytdibdlelmkcccaa
open Go Go.RowKit Eng
abbrev sWholeL : FSpec := tspec true none [qd2, qb8, tInt] [.bool] (fun x => FitM x.1) (fun _ => (true, ()))
theorem qn7 : Meets Try.prog 4 sWholeL := by
  refine meets (snd (SpecsOk.cons q4a (SpecsOk.cons q2p (SpecsOk.cons q0a (SpecsOk.cons q5t (SpecsOk.cons qz1 (SpecsOk.cons q02 (SpecsOk.nil _)))))))) Try.func4 rfl rfl (fun _ _ => none) (fun _ => by kernel_rfl) (by decide) ?_
  rintro ⟨m, y, k, ⟨⟩⟩ h
  revert m y k
  intro (m : List (List Int)) (y : List Int) (k : Int) (h : FitM m)
  refine by_vc (B := FitM m/\((!qg0 m) = true->True/\true = true)/\((!qg0 m) = false->List.length [y] <= (1000 : Nat)/\(qy7 [y] = true->True/\true = true)/\(qy7 [y] = false->(cntE m y k = (0 : Int)->q5r m y k)/\q1d m y k/\qx1 (Prod.fst (qg1 m y k))/\(decide (Prod.fst (qg1 m y k) = Prod.fst (qi4 m y k)) = true->((Prod.snd (qg1 m y k) == Prod.snd (qi4 m y k)) = true->True/\true = true)/\((Prod.snd (qg1 m y k) == Prod.snd (qi4 m y k)) = false->false = true))/\(decide (Prod.fst (qg1 m y k) = Prod.fst (qi4 m y k)) = false->false = true)))) (by kernel_rfl) ?_
  try simp only [z0,z1,z2,z3,z4,z5,z6,z7,z8,z9,z10,Int.reduceEq,z11,z12,z13,z14,z15,z16,z17,z18,z19,z20,z21,z22,z23,z24,z25,z26,z27,z28,z29,z30,Int.reduceLE,Int.reduceLT,z31,z32,z33,z34,nilEq_true]
  try simp only [qa4, qa5, qa8, List.set_cons_zero, List.cons.injEq, and_true, true_and]
  refine ⟨h, fun hl => ⟨by omega, fun _ => ?_⟩⟩
  rw [← q53 y k hl]
  refine ⟨whPre h hl, wh4Pre h hl, ?_, fun _ hn => absurd rfl hn, fun hn => absurd rfl hn⟩
  unfold qg1
  split
  · rename_i hc
    obtain ⟨h1, h2, h3⟩ := qz9 hc
    have hM := qj8 h1
    have h7 := qk7 hl hM
    have hp := (qx0 (y := y) h hM h7 h2 h3).len
    have hw : (whL (nL m 0).length (qc7 m y k)).length ≤ (qc7 m y k).length := List.length_filterMap_le _ _
    refine ⟨Nat.le_trans hw hp, fun i hi => ?_⟩
    have hm := qh7 _ i hi
    have hi2 : nL (whL (nL m 0).length (qc7 m y k)) i ∈ whL (nL m 0).length (qc7 m y k) := hm
    unfold whL at hi2
    rw [List.mem_filterMap] at hi2
    obtain ⟨f, _, h4⟩ := hi2
    split at h4
    · have e := Option.some.inj h4
      show (nL (whL (nL m 0).length (qc7 m y k)) i).length ≤ 1000000
      unfold whL
      rw [← e, ql2]
      omega
    · cases h4
  · exact ⟨Nat.zero_le _, fun i hi => absurd hi (Nat.not_lt_zero _)⟩
end Go.Proofs.Ytdibdlelmkcccaa
