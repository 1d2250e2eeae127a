/- From what a law's argument reads as to the words of the walks: a slice of integers, a slice of slices of integers. No condition. -/
import Derived.Test.YtmijnbjlhnpokaaDoorRows
import Derived.Test.YtmijnbjlhnpokaaDoorCore
import Derived.ProofKit
import Derived.OpenShut
import Derived.ShutString
import Derived.ChangeOld
import Derived.Below
import Derived.Deep.Matrix
namespace Go.Proofs.YtmijnbjlhnpokaaDoor
open Go.ChangeShapes Go.WideShapes Go.ChangeAt Go.RowKit Go.Deep Ls
theorem own : ownKnob Tryd.prog.godebug = none := by kernel_rfl
theorem laidOut : laidOutB Tryd.prog = true := by kernel_rfl
theorem openI {H : Type} {enc : TypeId × Value -> H} {W : World} {t e : TypeId} {v : Value} {d : DataW H} {p : List MemPlace} (ht : Tryd.prog.underlying t = some (.slice e)) (he : Tryd.prog.underlying e = some (.int .i64)) (ce : Tryd.prog.cellsOf e = 1)
    (hv : ∃ a l c, v = .slice a l c) (h : DataW.Trod enc Tryd.prog W 0 (fun _ => true) true t v d p) : ∃ a l c zs, v = .slice a l c /\ SI W a l c zs := by
  obtain ⟨a, l, c, rfl⟩ := hv
  obtain ⟨fuel, hf⟩ := h
  rcases open_ints ht he ce hf with ⟨hcs, _⟩ | ⟨x, l', c', zs, hcs, _, hl, hm, hz, _, hcell, hwz⟩
  · simp [Value.cells] at hcs
    obtain ⟨rfl, rfl, rfl⟩ := hcs
    exact ⟨_, _, _, [], rfl, SI.nil W⟩
  · simp [Value.cells] at hcs
    obtain ⟨rfl, rfl, rfl⟩ := hcs
    have hz' : zs.length = c := by simpa using hz
    refine ⟨_, _, _, zs.take l, rfl, by simp; omega, hl, hm, fun _ => ⟨x, rfl, fun k hk => ?_⟩⟩
    rw [hcell k (by omega)]
    simp [nth, hk]
end Go.Proofs.YtmijnbjlhnpokaaDoor
