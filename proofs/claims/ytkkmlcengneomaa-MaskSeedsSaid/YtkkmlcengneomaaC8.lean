/- The contract of lightsieveref02's Same: a mask is the same as itself. No condition. -/
import Derived.Test.YtkkmlcengneomaaC7
namespace Go.Proofs.Ytkkmlcengneomaa
open Go.RowKit Ls

set_option maxRecDepth 100000 in
set_option maxHeartbeats 2000000 in
theorem sameM_self (A B : Option Addr) (n c d : Nat) (m : List (List Int)) (w : World) (ha : SM w A n c m) (hb : SM w B n d m) :
    Calls Try.prog 40 #[.slice A n c, .slice B n d] w fun e w' => e = .returned (.bool true) ∧ Below w.heap.size w w' := by
  have hn := ha.nmax
  go_enter Try.func40, Try.ntmps40
  go_wp2
  go_loopw [5, 6, 14, 28, 32, 33] (fun _ _ i _ _ _ wr => ∃ k : Nat, k ≤ n ∧ i = .int .i64 k ∧ Below w.heap.size w wr) (fun _ _ i _ _ _ _ => n - (intOf i).toNat)
  case atStart => exact ⟨0, Nat.zero_le _, rfl, Below.refl _ _⟩
  case round =>
    obtain ⟨k, hk, rfl, hbw⟩ := hrel
    by_cases hlt : k < n
    · obtain ⟨ad, rfl, hca⟩ := (ha.below hbw).at_ (by omega)
      obtain ⟨bd, rfl, hcb⟩ := (hb.below hbw).at_ (by omega)
      obtain ⟨A1, c1, h1, s1⟩ := hca k hlt
      obtain ⟨B1, d1, h2, s2⟩ := hcb k hlt
      have hl1 := s1.nmax
      have h3 : (0:Int) ≤ k := by omega
      have h4 : (k:Int) < n := by omega
      clear hca hcb
      go_wp2
      go_quiet (fail)
      go_wp2
      have hbq : ∀ q, Below w.heap.size w (wr.drewN q) := fun q => below_drewN hbw q
      go_loopw [6, 33] (fun _ i wx => ∃ j : Nat, j ≤ (nthL m k).length ∧ i = .int .i64 j ∧ Below wr.heap.size wr wx) (fun _ i _ => (nthL m k).length - (intOf i).toNat)
      case atStart => exact ⟨0, Nat.zero_le _, rfl, below_drewN (Below.refl _ _) _⟩
      case round =>
        obtain ⟨j, hj, rfl, hbx⟩ := hrel
        by_cases hlt2 : j < (nthL m k).length
        · obtain ⟨a2, rfl, hc1⟩ := s1.at_ (by omega)
          obtain ⟨b2, rfl, hc2⟩ := s2.at_ (by omega)
          have g1 := Below.cell_of hbx (hc1 j hlt2)
          have g2 := Below.cell_of hbx (hc2 j hlt2)
          have g3 := Below.cell_of hbx h1
          have g4 := Below.cell_of hbx h2
          have h5 : (0:Int) ≤ j := by omega
          have h6 : (j:Int) < (nthL m k).length := by omega
          clear hc1 hc2 s1 s2 h1 h2
          go_wp2
          go_quiet (fail)
          go_wp2
          go_roundw
          case rel => exact ⟨j + 1, by omega, by go_num, below_drewN hbx _⟩
          case measure => simp [intOf]; omega
        · go_wp2
          go_roundw
          case rel => exact ⟨k + 1, by omega, by go_num, hbw.trans (hbx.mono hbw.size)⟩
          case measure => simp [intOf]; omega
    · go_wp2
      go_ret
      exact ⟨rfl, hbw⟩

end Go.Proofs.Ytkkmlcengneomaa
