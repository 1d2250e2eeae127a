/- The whole pictures are the reference's: plain mathematics. No condition. -/
import Derived.Test.YtdibdlelmkcccaaW7
set_option linter.unusedVariables false
namespace Go.Proofs.Ytdibdlelmkcccaa
open Go Go.RowKit Eng
theorem q7z {m : List (List Int)} {y : List Int} : ∀ K, ∀ f ∈ qi0 m y K, ∃ pix, w0t m y pix /\ f = (qq3 m y pix).1
  | 0, f, h => by cases h
  | K + 1, f, h => by
    rcases List.mem_append.1 h with h | h
    · exact q7z K f h
    · obtain ⟨pix, _, h1, h2⟩ := q6l h
      exact ⟨pix, h1, h2⟩
theorem w8f {m : List (List Int)} {y : List Int} {k : Int} (h : q9q m y k = 0) : ql6 m y = 0 /\ 0 <= k /\ k <= 10 := by
  unfold q9q at h
  rw [wl0] at h
  split at h
  · rename_i h1
    split at h
    · rename_i h2; exact ⟨h1, qt6.1 h2⟩
    · cases h
  · rename_i h1; exact absurd h h1
theorem wl1 {m : List (List Int)} {y : List Int} {k : Int} {f : Fit} (hf : f ∈ qg7 m y k) : Named (nL m 0).length f.1 /\ xj1 (nL m 0).length f := by
  obtain ⟨pix, h1, rfl⟩ := q7z _ f hf
  refine ⟨?_, xs8 h1⟩
  rw [h1.fst]
  exact (Asked.of h1.chk).nam
end Go.Proofs.Ytdibdlelmkcccaa
