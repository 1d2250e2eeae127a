/- The marks that loops over functions leave on an act: all are taken at the return. No condition. -/
import Derived.RangeFuncNested
import Derived.RangeFuncLeaves
import Derived.RangeFuncRecord
import Derived.Test.YtmijnbjlhnpokaaDoorCore
namespace Ls
open Go Go.RowKit
def Marks (B : Nat) (W : World) : List Deferred -> Prop
  | [] => True
  | d :: ds => (∃ D, d.target = .collected D /\ B <= D /\ W.heap[D]? = some (.deferred (some [])) /\ ∀ e ∈ ds, e.target ≠ .collected D) /\ Marks B W ds
theorem Marks.turn {B : Nat} {W W' : World} {ds : List Deferred} (h : Marks B W ds) (hk : ∀ D, (∃ e ∈ ds, e.target = .collected D) -> W.heap[D]? = some (.deferred (some [])) -> W'.heap[D]? = some (.deferred (some []))) : Marks B W' ds := by
  induction ds with
  | nil => trivial
  | cons d ds ih =>
    obtain ⟨⟨D, h1, h2, h3, h4⟩, h5⟩ := h
    exact ⟨⟨D, h1, h2, hk D ⟨d, by simp, h1⟩ h3, h4⟩, ih h5 (fun D' ⟨e, he, ht⟩ hD => hk D' ⟨e, by simp [he], ht⟩ hD)⟩
theorem Marks.lt {B : Nat} {W : World} {ds : List Deferred} (h : Marks B W ds) : ∀ D, (∃ e ∈ ds, e.target = .collected D) -> D < W.heap.size := by
  induction ds with
  | nil => rintro D ⟨e, he, _⟩; cases he
  | cons d ds ih =>
    obtain ⟨⟨D, h1, h2, h3, h4⟩, h5⟩ := h
    rintro D' ⟨e, he, ht⟩
    rcases List.mem_cons.1 he with rfl | he
    · rw [h1] at ht
      injection ht with ht
      subst ht
      exact (Array.getElem?_eq_some_iff.1 h3).1
    · exact ih h5 D' ⟨e, he, ht⟩
theorem leaves_marks {F : Fence} {n : Nat} {P : Program} {fn : Func} {tmps : Array Value} {R : Ending -> World -> Prop} {B : Nat} (I : World -> Prop)
    (hI : ∀ W D, I W -> B <= D -> W.heap[D]? = some (.deferred (some [])) -> I (W.putObj D (.deferred none))) (hbase : ∀ W, I W -> LeavesInM F n P fn tmps R [] .returning W) :
    ∀ (ds : List Deferred) (W : World), Marks B W ds -> I W -> LeavesInM F n P fn tmps R ds .returning W
  | [], W, _, h => hbase W h
  | d :: ds, W, hm, h => by
    obtain ⟨⟨D, h1, h2, h3, h4⟩, h5⟩ := hm
    refine ⟨by simp, .inl ⟨D, _, h1, run_takeDeferred h3, ?_⟩⟩
    refine leaves_marks I hI hbase ds _ (h5.turn fun D' ⟨e, he, ht⟩ hD => ?_) (hI W D h h2 h3)
    have hne : D' ≠ D := by rintro rfl; exact h4 e he ht
    exact (World.putObj_heap_other hne).trans hD
end Ls
