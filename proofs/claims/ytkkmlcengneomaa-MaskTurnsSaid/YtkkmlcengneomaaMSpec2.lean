/- What stacking and leaving out rows compute. No program in sight. No condition. -/
import Derived.Test.YtkkmlcengneomaaMSpec
namespace Go.Proofs.Ytkkmlcengneomaa
open Go.RowKit Ls

def stackE (a b : List (List Int)) : Int := if validB a then (if validB b then (if (nthL a 0).length = (nthL b 0).length then (if a.length + b.length ≤ 6 then 0 else 4) else 9) else 1) else 1
def stackR (a b : List (List Int)) : List (List Int) := if stackE a b = 0 then a ++ b else []
theorem stack_ok {a b : List (List Int)} (h : stackE a b = 0) : IsMask a ∧ IsMask b ∧ (nthL a 0).length = (nthL b 0).length ∧ a.length + b.length ≤ 6 := by
  unfold stackE at h
  split at h
  · rename_i ha
    split at h
    · rename_i hb
      split at h
      · rename_i h1
        split at h
        · rename_i h2
          exact ⟨IsMask.of ha, IsMask.of hb, h1, h2⟩
        · omega
      · omega
    · omega
  · omega
def withoutE (m : List (List Int)) (i : Int) : Int := if validB m then (if inB i 0 (m.length - 1) then (if m.length = 1 then 8 else 0) else 5) else 1
def withoutR (m : List (List Int)) (i : Int) : List (List Int) := if withoutE m i = 0 then m.take i.toNat ++ m.drop (i.toNat + 1) else []
theorem without_ok {m : List (List Int)} {i : Int} (h : withoutE m i = 0) : IsMask m ∧ 0 ≤ i ∧ i < m.length ∧ m.length ≠ 1 := by
  unfold withoutE at h
  split at h
  · rename_i ha
    split at h
    · rename_i hb
      split at h
      · omega
      · rename_i h1
        rw [inB_iff] at hb
        exact ⟨IsMask.of ha, hb.1, by omega, h1⟩
    · omega
  · omega

end Go.Proofs.Ytkkmlcengneomaa
