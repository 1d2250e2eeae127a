/- Twins, program and reference: contracts by the engine. No condition. -/
import Derived.Test.YtdibdlelmkcccaaV20
set_option linter.unusedVariables false
set_option linter.unusedSimpArgs false
namespace Go.Proofs.Ytdibdlelmkcccaa
open Go Go.RowKit Eng
def xv5 (m : List (List Int)) (l : List Int) (n k : Int) : Int := if qe6 m = false then 1 else if (l.length : Int) ≠ n then 9 else if (l.all fun e => inB e (0 - k) k) = false then 7 else 0
def xv6 (m : List (List Int)) (x : List Int) : Int := xv5 m x (nL m 0).length 1000000
structure Shw (m : List (List Int)) (x : List Int) : Prop where
  msk : Mk m
  val : qe6 m = true
  len : x.length = (nL m 0).length
  bd : ∀ i, i < x.length -> qh4 1000000 (nI x i)
theorem Shw.of {m : List (List Int)} {x : List Int} (h : xv6 m x = 0) : Shw m x := by
  unfold xv6 xv5 at h
  split at h
  · cases h
  · rename_i hv
    have hv : qe6 m = true := by cases e : qe6 m with | true => rfl | false => exact absurd e hv
    split at h
    · cases h
    · rename_i hl
      split at h
      · cases h
      · rename_i ha
        have ha : (x.all fun e => inB e (0 - 1000000) 1000000) = true := by simpa using ha
        refine ⟨Mk.of hv, hv, by omega, fun i hi => ?_⟩
        have := qt6.1 (List.all_eq_true.1 ha (nI x i) (by rw [qi1 x i hi]; exact List.getElem_mem hi))
        unfold qh4; omega
end Go.Proofs.Ytdibdlelmkcccaa
set_option linter.unusedVariables false
set_option linter.unusedSimpArgs false
namespace Go.Proofs.Ytdibdlelmkcccaa
open Go Go.RowKit Eng
end Go.Proofs.Ytdibdlelmkcccaa
