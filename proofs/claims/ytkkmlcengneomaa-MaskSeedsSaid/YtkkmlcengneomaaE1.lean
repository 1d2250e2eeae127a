/- Contracts of mask's Rolled and lightsieveref02's Rolled. No condition. -/
import Derived.Test.YtkkmlcengneomaaMSpec4
import Derived.Test.YtkkmlcengneomaaAppM
import Derived.Test.YtkkmlcengneomaaR3
namespace Go.Proofs.Ytkkmlcengneomaa
open Go.RowKit Ls

set_option maxRecDepth 100000 in
set_option maxHeartbeats 1000000 in
theorem rolled1_ok (B C : Nat) (X : Option Addr) (k d n : Nat) (l : List Int) (w : World) (hB : w.cell? ⟨B, 0, none⟩ = some (.slice X k d)) (hC : w.cell? ⟨C, 0, none⟩ = some (.int .i64 n)) (hl : SI w X k d l) (hk : 1 ≤ k) (hk2 : k ≤ 10) (hn : n ≤ 6) :
    FokT Try.prog 98 #[.pointer (some ⟨B, 0, none⟩), .pointer (some ⟨C, 0, none⟩)] n k (rollF l n) w := by
  refine ⟨(enters_of Try.func98 (by kernel_rfl) rfl), fun i j W hi hj hW => ?_⟩
  have hc := Below.cell_of hW hB
  have hd := Below.cell_of hW hC
  have hln := hl.len
  obtain ⟨ad, rfl, hca⟩ := (hl.below hW).at_ (by omega)
  obtain ⟨p, hp⟩ : ∃ p : Nat, p = k * n := ⟨_, rfl⟩
  have hp60 : p ≤ 60 := by rw [hp]; exact Nat.le_trans (Nat.mul_le_mul hk2 hn) (by omega)
  have hpn : n ≤ p := by rw [hp]; exact Nat.le_mul_of_pos_left n hk
  have hv : rollF l n i j = nth l ((j + p - i) % k) := by unfold rollF; rw [hln, hp]
  rw [hv]
  have hlt : (j + p - i) % k < k := Nat.mod_lt _ hk
  have h1 := hca _ hlt
  obtain ⟨t, ht⟩ : ∃ t, t = (j + p - i) % k := ⟨_, rfl⟩
  rw [← ht] at h1 hlt ⊢
  have hcast : (k:Int) * n = (p : Int) := by rw [hp]; push_cast; rfl
  have m1 : IntKind.i64.wrap ((k:Int) * n) = p := by rw [hcast, IntKind.wrap_i64]; omega
  have m2 : IntKind.i64.wrap ((j:Int) + p) = (j:Int) + p := by rw [IntKind.wrap_i64]; omega
  obtain ⟨q, hq⟩ : ∃ q, q = j + p - i := ⟨_, rfl⟩
  have m3 : IntKind.i64.wrap ((j:Int) + p - i) = q := by rw [IntKind.wrap_i64]; omega
  rw [← hq] at ht
  have m4 : (q:Int) % k = t := by rw [ht]; push_cast; rfl
  have m5 : (q:Int).tmod k = t := by rw [ht]; rfl
  have k0 : (0:Int) < k := by omega
  have k1 : (k:Int) ≠ 0 := by omega
  have k2 : ((k:Int) == 0) = false := by rw [beq_eq_false_iff_ne]; omega
  have k3 : ((k:Int) == -1) = false := by rw [beq_eq_false_iff_ne]; omega
  have t0 : (0:Int) ≤ t := by omega
  have t1 : (t:Int) < k := by omega
  have q0 : (0:Int) ≤ q := by omega
  have w1 : IntKind.i64.wrap (t:Int) = t := by rw [IntKind.wrap_i64]; omega
  clear hca hl hB hC hv hq ht hcast hp hpn hln hlt
  go_enter Try.func98, Try.ntmps98
  go_wp2
  go_quiet (fail)
  go_wp2
  go_ret
  exact ⟨rfl, below_drewN (Below.refl _ _) _⟩

theorem rolled_in {l : List Int} {n : Int} (h : rolledE l n = 0) : rowB l = true ∧ 1 ≤ n ∧ n ≤ 6 ∧ 1 ≤ l.length ∧ l.length ≤ 10 := by
  unfold rolledE at h
  split at h
  · rename_i hr
    split at h
    · rename_i hn
      have hr' := hr
      unfold rowB at hr'
      rw [Bool.and_eq_true, inB_iff] at hr'
      rw [inB_iff] at hn
      exact ⟨hr, hn.1, hn.2, by omega, by omega⟩
    · omega
  · omega

set_option maxRecDepth 100000 in
set_option maxHeartbeats 2000000 in
theorem rolled_any (X : Option Addr) (k d : Nat) (n : Int) (l : List Int) (w : World) (hl : SI w X k d l) :
    Calls Try.prog 53 #[.slice X k d, .int .i64 n] w fun e w' => ∃ A' c', e = .returned (.tuple #[.slice A' (rolledR l n).length c', .int .i64 (rolledE l n)]) ∧ SM w' A' (rolledR l n).length c' (rolledR l n) ∧ Below w.heap.size w w' := by
  have hz1 := fun o o' => step_trans (below_alloc w o) (below_alloc (w.alloc o) o')
  have hln := hl.nmax
  have hll := hidx hl.len
  have hR : rolledE l n ≠ 0 → rolledR l n = [] := fun h => by unfold rolledR; rw [if_neg h]
  have hlw := hl.below (hz1 (.cells #[.slice X k d] 24) (.cells #[.int .i64 n] 3))
  have hbw := hz1 (.cells #[.slice X k d] 24) (.cells #[.int .i64 n] 3)
  have rw' : ∀ W, SI W X k d l → Calls Try.prog 77 #[.slice X k d] W fun e W' => e = .returned (.bool (rowB l)) ∧ Below W.heap.size W W' := fun W h => row_any X k d l W h
  clear hl hz1
  cases hr : rowB l with
  | false =>
    have e1 : rolledE l n = 1 := by unfold rolledE; rw [hr]; rfl
    rw [hR (by omega), e1]
    rw [hr] at rw'
    have Rw := hidx rw'
    clear e1 hR hr rw'
    go_enter Try.func53, Try.ntmps53
    go_wp2_with fail
    refine (Rw.out _ hlw).mono ?_
    rintro e w1 ⟨rfl, hb1⟩
    go_wp2
    go_ret2
    exact ⟨none, 0, rfl, SM.nil _, step_trans hbw hb1⟩
  | true =>
    rw [hr] at rw'
    have Rw := hidx rw'
    clear rw'
    cases hn : inB n 1 6 with
    | false =>
      have e1 : rolledE l n = 7 := by unfold rolledE; rw [hr, hn]; rfl
      rw [hR (by omega), e1]
      have wi : ∀ W, Calls Try.prog 74 #[.int .i64 n, .int .i64 1, .int .i64 6] W fun e W' => e = .returned (.bool false) ∧ W = W' := fun W => by
        have := within_any n 1 6 W; rwa [hn] at this
      have Wi := hidx wi
      clear e1 hR hr hn wi
      go_enter Try.func53, Try.ntmps53
      go_wp2_with fail
      refine (Rw.out _ hlw).mono ?_
      rintro e w1 ⟨rfl, hb1⟩
      have hc2 : w1.cell? ⟨w.heap.size + 1, 0, none⟩ = some (.int .i64 n) := Below.cell_of hb1 (by simp)
      go_wp2_with fail
      refine (Wi.out _).mono ?_
      rintro e w2 ⟨rfl, rfl⟩
      go_wp2
      go_ret2
      exact ⟨none, 0, rfl, SM.nil _, step_trans hbw hb1⟩
    | true =>
      have wi : ∀ W, Calls Try.prog 74 #[.int .i64 n, .int .i64 1, .int .i64 6] W fun e W' => e = .returned (.bool true) ∧ W = W' := fun W => by
        have := within_any n 1 6 W; rwa [hn] at this
      have Wi := hidx wi
      have eE : rolledE l n = 0 := by unfold rolledE; rw [hr, hn]; rfl
      obtain ⟨_, n1, n6, l1, l10⟩ := rolled_in eE
      have hRR : rolledR l n = rollL l n.toNat := by unfold rolledR; rw [if_pos eE]
      obtain ⟨N, rfl⟩ := Int.eq_ofNat_of_zero_le (show 0 ≤ n by omega)
      rw [Int.toNat_natCast] at hRR
      rw [hRR, eE, rollL_len]
      have hk1 : 1 ≤ k := by have := hll.out; omega
      have hk10 : k ≤ 10 := by have := hll.out; omega
      have hN6 : N ≤ 6 := by omega
      have fin : ∀ B C Y c W, W.cell? ⟨B, 0, none⟩ = some (.slice X k d) → W.cell? ⟨C, 0, none⟩ = some (.int .i64 N) → SM W Y N c (List.replicate N []) → SI W X k d l →
          Calls Try.prog 79 #[.slice Y N c, .int .i64 k, .func (.func 98) #[] #[.pointer (some ⟨B, 0, none⟩), .pointer (some ⟨C, 0, none⟩)]] W fun e W' => ∃ A' c', e = .returned (.slice A' N c') ∧ SM W' A' N c' (rollL l N) ∧ Below W.heap.size W W' := fun B C Y c W h1 h2 h3 h4 => by
        have := copied_any Y N c k _ _ (List.replicate N []) _ W h3 (by omega) (by omega) (rolled1_ok B C X k d N l W h1 h2 h4 hk1 hk10 hN6)
        rw [← hll.out, rowsF_roll l N (by omega) (by omega) hN6] at this
        rw [← hll.out]
        exact this
      have Fin := hidx fin
      clear hRR eE hR hr hn wi fin
      go_enter Try.func53, Try.ntmps53
      go_wp2_with fail
      refine (Rw.out _ hlw).mono ?_
      rintro e w1 ⟨rfl, hb1⟩
      have hc1 : w1.cell? ⟨w.heap.size, 0, none⟩ = some (.slice X k d) := Below.cell_of hb1 (by simp)
      have hc2 : w1.cell? ⟨w.heap.size + 1, 0, none⟩ = some (.int .i64 N) := Below.cell_of hb1 (by simp)
      have hl1 := hlw.below hb1
      have hbw1 := step_trans hbw hb1
      clear hlw hbw hb1
      go_wp2_with fail
      refine (Wi.out _).mono ?_
      rintro e w2 ⟨rfl, rfl⟩
      go_wp2_with fail
      obtain ⟨w2, hmk, hown2, hb2', hlt2⟩ := make_run w1.drew eltM rfl N (by omega) (by omega)
      have hb2 := undrew hb2'
      have hcall := Fin.out _ _ _ _ _ (Below.cell_of hb2 hc1) (Below.cell_of hb2 hc2) (nil_mask hown2) (hl1.below hb2)
      have hd1 := Below.cell_of hb2 hc1
      have hd2 := Below.cell_of hb2 hc2
      have Hcall := hidx hcall
      clear hcall hb2'
      go_region_held3 (fun w' => w'.cell? ⟨w.heap.size, 0, none⟩ = some (.slice X k d) ∧ w'.cell? ⟨w.heap.size + 1, 0, none⟩ = some (.int .i64 N)) (first | go_keep | exact ⟨hc1, hc2⟩ | exact ⟨hd1, hd2⟩ | exact ⟨Below.cell_of hb3 hd1, Below.cell_of hb3 hd2⟩)
        (first | (go_at_call 79; refine Hcall.out.mono ?_; rintro e w3 ⟨A3, c3, rfl, hs3, hb3⟩))
      all_goals go_wp2
      all_goals
        go_ret2
        exact ⟨A3, c3, rfl, hs3, step_trans (step_trans hbw1 hb2) hb3⟩

end Go.Proofs.Ytkkmlcengneomaa
