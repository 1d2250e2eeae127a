/- Contracts of the small functions of the packages mask and lightsieveref02. No condition. -/
import Derived.Test.YtkkmlcengneomaaProg
import Derived.Test.YtkkmlcengneomaaMSpec
namespace Go.Proofs.Ytkkmlcengneomaa
open Go.RowKit Ls

/-! ### what the table says -/
theorem eltI : Elt Try.prog 24 3 (.int .i64 0) 1 8 := ⟨Try.underlying24, by kernel_rfl⟩
theorem eltM : Elt Try.prog 23 24 (.slice none 0 0) 1 24 := ⟨Try.underlying23, by kernel_rfl⟩

/-! ### within -/
set_option maxHeartbeats 400000 in
theorem within_any (n lo hi : Int) (w : World) :
    Calls Try.prog 74 #[.int .i64 n, .int .i64 lo, .int .i64 hi] w fun e w' => e = .returned (.bool (inB n lo hi)) ∧ w = w' := by
  by_cases h1 : lo ≤ n
  · by_cases h2 : n ≤ hi
    · go_enter Try.func74, Try.ntmps74
      go_wp2
      go_ret
      exact ⟨ret_bool (by simp [inB, h1, h2]), rfl⟩
    · go_enter Try.func74, Try.ntmps74
      go_wp2
      go_ret
      exact ⟨ret_bool (by simp [inB, h1, h2]), rfl⟩
  · go_enter Try.func74, Try.ntmps74
    go_wp2
    go_ret
    exact ⟨ret_bool (by simp [inB]; omega), rfl⟩

set_option maxHeartbeats 400000 in
theorem times_any (A B : Option Addr) (n m c d : Nat) (xs ys : List Int) (w : World)
    (ha : SI w A n c xs) (hb : SI w B m d ys) (hnm : n ≤ m) :
    Calls Try.prog 65 #[.slice A n c, .slice B m d] w fun e w' => e = .returned (.int .i64 (wdot 0 xs ys)) ∧ w = w' := by
  have hn := ha.nmax; have hm := hb.nmax
  obtain rfl := ha.len; obtain rfl := hb.len
  go_enter Try.func65, Try.ntmps65
  go_wp2
  go_loop [5, 6, 7, 10] (fun s _ _ i => ∃ k : Nat, k ≤ xs.length ∧ i = .int .i64 k ∧ s = .int .i64 (wdot 0 (xs.take k) (ys.take k))) (fun _ _ _ i => xs.length - (intOf i).toNat)
  case atStart => exact ⟨0, Nat.zero_le _, rfl, val_i64 (by simp [wdot])⟩
  case round =>
    obtain ⟨k, hk, rfl, rfl⟩ := hrel
    by_cases hlt : k < xs.length
    · obtain ⟨ad, rfl, hca⟩ := ha.at_ (by omega)
      obtain ⟨bd, rfl, hcb⟩ := hb.at_ (by omega)
      have h1 := hca k hlt
      have h2 := hcb k (by omega)
      clear hca hcb ha hb
      have HS := hidx (wdot_take xs ys k hlt (by omega) 0)
      go_wp2
      go_round
      case rel => exact ⟨k + 1, by omega, by go_num, val_i64 (by rw [HS.out])⟩
      case measure => simp [intOf]; omega
    · go_wp2
      go_ret
      exact ⟨ret_i64 (by rw [List.take_of_length_le (by omega), ← wdot_full xs ys hnm, show k = xs.length by omega]), rfl⟩

set_option maxHeartbeats 400000 in
theorem dot_any (A B : Option Addr) (n m c d : Nat) (xs ys : List Int) (w : World)
    (ha : SI w A n c xs) (hb : SI w B m d ys) (hnm : n ≤ m) :
    Calls Try.prog 19 #[.slice A n c, .slice B m d] w fun e w' => e = .returned (.int .i64 (wdot 0 xs ys)) ∧ ∃ n, w' = w.drewN n := by
  have hn := ha.nmax; have hm := hb.nmax
  obtain rfl := ha.len; obtain rfl := hb.len
  go_enter Try.func19, Try.ntmps19
  go_wp2
  go_loopw [5, 6, 9] (fun s _ i wr => ∃ k : Nat, k ≤ xs.length ∧ i = .int .i64 k ∧ s = .int .i64 (wdot 0 (xs.take k) (ys.take k)) ∧ ∃ n, wr = w.drewN n) (fun _ _ i _ => xs.length - (intOf i).toNat)
  case atStart => exact ⟨0, Nat.zero_le _, rfl, val_i64 (by simp [wdot]), 0, rfl⟩
  case round =>
    obtain ⟨k, hk, rfl, rfl, q, rfl⟩ := hrel
    by_cases hlt : k < xs.length
    · obtain ⟨ad, rfl, hca⟩ := ha.at_ (by omega)
      obtain ⟨bd, rfl, hcb⟩ := hb.at_ (by omega)
      have h1 := hca k hlt
      have h2 := hcb k (by omega)
      clear hca hcb ha hb
      have HS := hidx (wdot_take xs ys k hlt (by omega) 0)
      have h3 : (0:Int) ≤ k := by omega
      have h4 : (k:Int) < xs.length := by omega
      have h5 : (k:Int) < ys.length := by omega
      go_wp2
      go_quiet (fail)
      go_wp2
      go_roundw
      case rel => exact ⟨k + 1, by omega, by go_num, val_i64 (by rw [HS.out]), _, rfl⟩
      case measure => simp [intOf]; omega
    · go_wp2
      go_ret
      exact ⟨ret_i64 (by rw [List.take_of_length_le (by omega), ← wdot_full xs ys hnm, show k = xs.length by omega]), q, rfl⟩

/-! ### column -/

set_option maxHeartbeats 400000 in
theorem column_any (A : Option Addr) (n c : Nat) (m : List (List Int)) (j : Nat) (w : World)
    (hm : SM w A n c m) (hj : ∀ k, k < n → j < (nthL m k).length) (hsm : n < 1000000) :
    Calls Try.prog 68 #[.slice A n c, .int .i64 j] w fun e w' => ∃ A' c', e = .returned (.slice A' n c') ∧ w'.ownsRow w.heap.size 3 1 (.slice A' n c') n (ints (colL m j)) ∧ Below w.heap.size w w' := by
  obtain rfl := hm.len
  have hnm := hm.nmax
  go_enter Try.func68, Try.ntmps68
  go_wp2
  go_loopw [5, 7, 10] (fun s _ i wr => ∃ (k : Nat) (A' : Option Addr) (c' : Nat), k ≤ m.length ∧ i = .int .i64 k ∧ s = .slice A' k c' ∧ wr.ownsRow w.heap.size 3 1 (.slice A' k c') k (ints (colL (m.take k) j)) ∧ Below w.heap.size w wr) (fun _ _ i _ => m.length - (intOf i).toNat)
  case atStart => exact ⟨0, none, 0, Nat.zero_le _, rfl, rfl, World.ownsRow_nil _ _ _ _, Below.refl _ _⟩
  case round =>
    obtain ⟨k, A', c', hk, rfl, rfl, hown, hb⟩ := hrel
    by_cases hlt : k < m.length
    · obtain ⟨ad, rfl, hca⟩ := (hm.below hb).at_ (by omega)
      obtain ⟨A1, c1, h1, h2⟩ := hca k hlt
      have hjk := hj k hlt
      obtain ⟨a1, rfl, hc1⟩ := h2.at_ (by omega)
      have h3 := hc1 j hjk
      have h4 := h2.nmax
      clear hca hc1 h2 hm hj
      have HS := hidx (colL_snoc m j k hlt)
      go_wp2_with (at_builtin; refine app1 eltI rfl rfl _ _ rfl rfl rfl hown hb (Nat.le_refl _) rfl (by omega) (by omega) ?_; intro A2 c2 w2 hown2 hb2 _ hc2 hc2'; clear hown hb h1 h3)
      go_roundw
      case rel => exact ⟨k + 1, _, _, by omega, by go_num, rfl, by rw [HS.out, ← ints_snoc]; exact hown2, hb2⟩
      case measure => simp [intOf]; omega
    · have hkk : k = m.length := by omega
      subst hkk
      go_wp2
      go_ret
      exact ⟨_, _, rfl, by simpa using hown, hb⟩

end Go.Proofs.Ytkkmlcengneomaa
