/- Contracts of lightsieveref02's copied, Stacked, Without. No condition. -/
import Derived.Test.YtkkmlcengneomaaR3
import Derived.Test.YtkkmlcengneomaaApp
namespace Go.Proofs.Ytkkmlcengneomaa
open Go.RowKit Ls

set_option maxHeartbeats 1000000 in
theorem rcopied_any (A : Option Addr) (n c : Nat) (m : List (List Int)) (w : World) (hm : SM w A n c m) (hn : n ≤ 1000) (hl : ∀ k, k < n → (nthL m k).length ≤ 1000) :
    Calls Try.prog 81 #[.slice A n c] w fun e w' => ∃ A' c' vs, e = .returned (.slice A' n c') ∧ w'.ownsRow w.heap.size 24 1 (.slice A' n c') n vs ∧ RowsOwn w' w.heap.size 3 vs m ∧ Below w.heap.size w w' := by
  have hmn := hm.nmax
  have Hl := hidx hl
  have hml := hidx hm.len
  clear hl
  go_enter Try.func81, Try.ntmps81
  go_wp2
  go_loopw [3, 5, 8] (fun s _ i wr => ∃ (k : Nat) (A' : Option Addr) (c' : Nat) (vs : List Value), k ≤ n ∧ i = .int .i64 k ∧ s = .slice A' k c' ∧ wr.ownsRow w.heap.size 24 1 (.slice A' k c') k vs ∧ RowsOwn wr w.heap.size 3 vs (m.take k) ∧ Below w.heap.size w wr) (fun _ _ i _ => n - (intOf i).toNat)
  case atStart => exact ⟨0, none, 0, [], Nat.zero_le _, rfl, rfl, World.ownsRow_nil _ _ _ _, RowsOwn.nil _ _ _, Below.refl _ _⟩
  case round =>
    obtain ⟨k, A', c', vs, hk, rfl, rfl, hown, hrows, hb⟩ := hrel
    by_cases hlt : k < n
    · obtain ⟨ad, rfl, hca⟩ := (hm.below hb).at_ (by omega)
      obtain ⟨A1, c1, h1, h2⟩ := hca k hlt
      have hle := Hl.out k hlt
      have HS := hidx (takeL_snoc m k (by have := hml.out; omega))
      have hsz := hb.size
      have hemp : ∀ (W : World) (t : TypeId), (W.alloc (.cells #[] t)).ownsRow W.heap.size t 1 (.slice (some ⟨W.heap.size, 0, none⟩) 0 0) 0 [] := fun W t => World.ownsRow_made W #[] 0 (Nat.le_refl _) (by unfold maxLen; omega) rfl
      have s2 := h2.values
      have o1 := ints_one (nthL m k)
      clear hca h2 hm
      go_wp2_with (first
        | (at_builtin; refine appN _ eltI rfl rfl (.tmp 13) (.tmp 14) rfl rfl rfl (hemp wr _) (below_alloc wr _) (Nat.le_refl _) (s2.below (below_alloc wr _)) o1 (by omega) (by omega) ?_; intro A2 c2 w2 hown2 hb2 _; have hk2 := own_below hown hb2; have hr2 := hrows.keep (KeepsT.of_below hb2); have hb3 := step_trans hb hb2; clear hown hrows hb h1)
        | (at_builtin; refine app1 eltM rfl rfl (.tmp 12) (.tmp 16) rfl rfl rfl hk2 hb3 (Nat.le_refl _) rfl (by omega) (by omega) ?_; intro A3 c3 w3 hown3 hb4 hg3 hc2 hc2'))
      go_roundw
      case rel =>
        have hk3 : KeepsT 3 w2 w3 := KeepsT.grown (by decide) hk2 hg3
        refine ⟨k + 1, A3, c3, _, by omega, by go_num, rfl, hown3, ?_, hb4⟩
        rw [HS.out]
        refine (hr2.keep hk3).snoc (by simp) (own_keeps (own_base (by simpa using hown2) hsz) hk3)
      case measure => simp [intOf]; omega
    · have hkk : k = n := by omega
      subst hkk
      go_wp2
      go_ret
      exact ⟨_, _, vs, rfl, hown, by rw [List.take_of_length_le (by have := hml.out; omega)] at hrows; exact hrows, hb⟩

end Go.Proofs.Ytkkmlcengneomaa
