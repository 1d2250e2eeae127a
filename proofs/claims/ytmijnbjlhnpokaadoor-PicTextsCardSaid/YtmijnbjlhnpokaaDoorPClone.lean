/- The contract of slices.Clone at integers. No condition. -/
import Derived.Test.YtmijnbjlhnpokaaDoorProg
import Derived.Test.YtmijnbjlhnpokaaDoorApp
namespace Go.Proofs.YtmijnbjlhnpokaaDoor
open Go.RowKit Ls
theorem eltI : Elt Tryd.prog 22 3 (.int .i64 0) 1 8 := ⟨Tryd.underlying22, by kernel_rfl⟩
theorem own_empty (w : World) (t : TypeId) : (w.alloc (.cells #[] t)).ownsRow w.heap.size t 1 (.slice (some ⟨w.heap.size, 0, none⟩) 0 0) 0 [] :=
  ⟨rfl, .inr ⟨w.heap.size, 0, #[], rfl, Nat.le_refl _, heap_alloc_new w _, Nat.le_refl _, by unfold maxLen; omega, rfl, rfl⟩⟩
set_option maxRecDepth 100000 in
set_option maxHeartbeats 400000 in
theorem clone_any (X : Option Addr) (k d : Nat) (l : List Int) (w : World) (hl : SI w X k d l) (hk : k <= 100000) :
    Calls Tryd.prog 28 #[.slice X k d] w fun e w' => ∃ A' c', e = .returned (.slice A' k c') /\ w'.ownsRow w.heap.size 3 1 (.slice A' k c') k (ints l) /\ Below w.heap.size w w' := by
  have hll := hidx hl.len
  cases X with
  | none =>
    have h0 : k = 0 := by
      rcases Nat.eq_zero_or_pos k with h | h
      · exact h
      · obtain ⟨ad, e, _⟩ := hl.at_ h; cases e
    subst h0
    have hl0 : l = [] := List.eq_nil_of_length_eq_zero hll.out
    subst hl0
    have hq := fun w => Lib.run_eql_slice_nil (P := Tryd.prog) w 22 3 none 0 d 0 0 Tryd.underlying22
    go_enter Tryd.func28, Tryd.ntmps28
    go_wp2
    go_ret
    exact ⟨none, 0, rfl, World.ownsRow_nil _ _ _ _, Below.refl _ _⟩
  | some ad =>
    have sv := hl.values
    have o1 := ints_one l
    have hq := fun w => Lib.run_eql_slice_nil (P := Tryd.prog) w 22 3 (some ad) k d 0 0 Tryd.underlying22
    go_enter Tryd.func28, Tryd.ntmps28
    go_wp2_with (at_builtin; refine appN _ eltI rfl rfl _ _ rfl rfl rfl (own_empty _ _) (below_alloc _ _) (Nat.le_refl _) (sv.below (below_alloc _ _)) o1 (by omega) (by omega) ?_; intro A2 c2 w2 hown2 hb2 _; rw [Nat.zero_add] at hown2)
    go_ret
    exact ⟨A2, c2, rfl, by simpa using hown2, hb2⟩
end Go.Proofs.YtmijnbjlhnpokaaDoor
