/- The whole pictures are the reference's: plain mathematics. No condition. -/
import Derived.Test.YtdibdlelmkcccaaW7
set_option linter.unusedVariables false
namespace Go.Proofs.Ytdibdlelmkcccaa
open Go Go.RowKit Eng
theorem fitsTo_mem {m : List (List Int)} {y : List Int} : ∀ K, ∀ f ∈ fitsTo m y K, ∃ pix, FitIs m y pix ∧ f = (fitR m y pix).1
  | 0, f, h => by cases h
  | K + 1, f, h => by
    rcases List.mem_append.1 h with h | h
    · exact fitsTo_mem K f h
    · obtain ⟨pix, _, h1, h2⟩ := setFits_mem h
      exact ⟨pix, h1, h2⟩
theorem fitsL_named {m : List (List Int)} {y : List Int} {k : Int} {f : Fit} (hf : f ∈ fitsL m y k) : Named (nL m 0).length f.1 ∧ FitIn (nL m 0).length f := by
  obtain ⟨pix, h1, rfl⟩ := fitsTo_mem _ f hf
  refine ⟨?_, fitIn h1⟩
  rw [h1.fst]
  exact (Asked.of h1.chk).nam
end Go.Proofs.Ytdibdlelmkcccaa
