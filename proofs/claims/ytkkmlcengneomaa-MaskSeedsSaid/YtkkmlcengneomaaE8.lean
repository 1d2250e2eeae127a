/- The contract of lightsieveref02's Seeded. No condition. -/
import Derived.Test.YtkkmlcengneomaaMSpec6
import Derived.Test.YtkkmlcengneomaaR3
import Derived.Test.YtkkmlcengneomaaOwn
namespace Go.Proofs.Ytkkmlcengneomaa
open Go.RowKit Ls

theorem seed_step (s k : Nat) : ((seedAt s k : Nat) : Int) * 48271 % 2147483647 = (seedAt s (k + 1) : Nat) := by
  have e : seedAt s (k + 1) = seedAt s k * 48271 % 2147483647 := rfl
  omega

set_option maxRecDepth 100000 in
set_option maxHeartbeats 4000000 in
theorem rseeded_ok (S N P : Nat) (w : World) (hS : S < 2147483647) (hN6 : N ≤ 6) (hP10 : P ≤ 10) (h1 : inB S 1 2147483646 = true) (h2 : inB N 1 6 = true) (h3 : inB P 1 10 = true) :
    Calls Try.prog 56 #[.int .i64 S, .int .i64 N, .int .i64 P] w fun e w' => ∃ A' c', e = .returned (.tuple #[.slice A' N c', .int .i64 0]) ∧ SM w' A' N c' (seedL S P N) ∧ Below w.heap.size w w' := by
  have w1 := fun W => rwithin_any S 1 2147483646 W
  have w2 := fun W => rwithin_any N 1 6 W
  have w3 := fun W => rwithin_any P 1 10 W
  rw [h1] at w1
  rw [h2] at w2
  rw [h3] at w3
  have W1 := hidx w1
  have W2 := hidx w2
  have W3 := hidx w3
  clear w1 w2 w3 h1 h2 h3
  go_enter Try.func56, Try.ntmps56
  go_wp2_with fail
  refine (W1.out _).mono ?_
  rintro e w1 ⟨rfl, rfl⟩
  go_wp2_with fail
  refine (W2.out _).mono ?_
  rintro e w1 ⟨rfl, rfl⟩
  go_wp2_with fail
  refine (W3.out _).mono ?_
  rintro e w1 ⟨rfl, rfl⟩
  go_wp2
  go_loopw [0, 8, 9, 24, 27] (fun z s _ i _ wr => ∃ (q : Nat) (A' : Option Addr) (c' : Nat) (vs : List Value), q ≤ N ∧ i = .int .i64 q ∧ s = .slice A' q c' ∧ z = .int .i64 (seedAt S (q * P)) ∧ wr.ownsRow w.heap.size 24 1 (.slice A' q c') q vs ∧ RowsOwn wr w.heap.size 3 vs (seedL S P q) ∧ Below w.heap.size w wr) (fun _ _ _ i _ _ => N - (intOf i).toNat)
  case atStart => exact ⟨0, none, 0, [], Nat.zero_le _, rfl, rfl, by rw [Nat.zero_mul]; rfl, World.ownsRow_nil _ _ _ _, RowsOwn.nil _ _ _, Below.refl _ _⟩
  case round =>
    obtain ⟨q, A', c', vs, hq, rfl, rfl, rfl, hown, hrows, hb⟩ := hrel
    by_cases hlt : q < N
    · have HS := hidx (seedL_snoc S P q)
      have hszr := hb.size
      go_wp2
      go_loopw [0, 9, 27] (fun z s j wx => ∃ (t : Nat) (B' : Option Addr) (e' : Nat), t ≤ P ∧ j = .int .i64 t ∧ s = .slice B' t e' ∧ z = .int .i64 (seedAt S (q * P + t)) ∧ wx.ownsRow wr.heap.size 3 1 (.slice B' t e') t (ints (seedRow S P q t)) ∧ Below wr.heap.size wr wx) (fun _ _ j _ => P - (intOf j).toNat)
      case atStart => exact ⟨0, none, 0, Nat.zero_le _, rfl, rfl, rfl, World.ownsRow_nil _ _ _ _, Below.refl _ _⟩
      case round =>
        obtain ⟨t, B', e', ht, rfl, rfl, rfl, hv, hbx⟩ := hrel
        by_cases htk : t < P
        · have hst := seed_step S (q * P + t)
          have HN := hidx (seedRow_snoc S P q t)
          have hZ := seedAt_lt S hS (q * P + t)
          have hT := seedAt_lt S hS (q * P + t + 1)
          have hv2 : seedV S (q * P + t) = ((seedAt S (q * P + t + 1) : Nat) : Int) % 3 - 1 := by unfold seedV; omega
          obtain ⟨T, hT2⟩ : ∃ T, T = seedAt S (q * P + (t + 1)) := ⟨_, rfl⟩
          rw [show q * P + t + 1 = q * P + (t + 1) from rfl, ← hT2] at hst hT hv2
          rw [hv2] at HN
          have HT := hidx (congrArg (fun x : Nat => Value.int .i64 (x : Int)) hT2)
          generalize seedAt S (q * P + t) = Z at *
          have i1 : (0:Int) ≤ Z := by omega
          have i2 : (0:Int) ≤ T := by omega
          have i3 : (Z:Int) < 2147483647 := by omega
          have i4 : (T:Int) < 2147483647 := by omega
          have i5 : (0:Int) ≤ (Z:Int) * 48271 := by omega
          clear hv2 hT2
          go_wp2_with (at_builtin; refine app1 eltI rfl rfl (.tmp 32) (.tmp 36) rfl rfl rfl hv hbx (Nat.le_refl _) rfl (by omega) (by omega) ?_; intro A3 c3 w3 hown3 hb3 hg3 hc3 hc3')
          go_roundw
          case rel => exact ⟨t + 1, A3, c3, by omega, by go_num, rfl, HT.out, by rw [HN.out, ← ints_snoc]; exact hown3, hb3⟩
          case measure => simp [intOf]; omega
        · have htt : t = P := by omega
          subst htt
          have hown2 := own_below hown hbx
          have hrows2 := hrows.keep (KeepsT.of_below hbx)
          have hb2 := step_trans hb hbx
          have HT : Hid (Value.int .i64 (seedAt S (q * t + t)) = Value.int .i64 (seedAt S ((q + 1) * t))) := hidx (by rw [Nat.succ_mul])
          clear hown hrows
          go_wp2_with (at_builtin; refine app1 eltM rfl rfl (.tmp 39) (.tmp 41) rfl rfl rfl hown2 hb2 (Nat.le_refl _) rfl (by omega) (by omega) ?_; intro A3 c3 w3 hown3 hb3 hg3 hc3 hc3')
          go_roundw
          case rel =>
            have hk3 : KeepsT 3 wr w3 := KeepsT.grown (by decide) hown2 hg3
            refine ⟨q + 1, A3, c3, _, by omega, by go_num, rfl, HT.out, hown3, ?_, hb3⟩
            rw [HS.out]
            exact (hrows2.keep hk3).snoc (seedRow_len _ _ _ _) (own_keeps (own_base hv hszr) hk3)
          case measure => simp [intOf]; omega
    · have hqq : q = N := by omega
      subst hqq
      go_wp2
      go_ret2
      exact ⟨A', c', rfl, own_SM hown hrows, hb⟩

set_option maxRecDepth 100000 in
set_option maxHeartbeats 4000000 in
theorem rseeded_any (s n p : Int) (w : World) :
    Calls Try.prog 56 #[.int .i64 s, .int .i64 n, .int .i64 p] w fun e w' => ∃ A' c', e = .returned (.tuple #[.slice A' (seededR s n p).length c', .int .i64 (seededE s n p)]) ∧ SM w' A' (seededR s n p).length c' (seededR s n p) ∧ Below w.heap.size w w' := by
  have wi := fun x lo hi W => rwithin_any x lo hi W
  cases h1 : inB s 1 2147483646 with
  | false =>
    have e1 : seededE s n p = 7 := by unfold seededE; rw [h1]; rfl
    have hR : seededR s n p = [] := by unfold seededR; rw [e1]; rfl
    rw [hR, e1]
    have w1 := wi s 1 2147483646
    rw [h1] at w1
    have W1 := hidx w1
    clear e1 hR h1 wi w1
    go_enter Try.func56, Try.ntmps56
    go_wp2_with fail
    refine (W1.out _).mono ?_
    rintro e w1 ⟨rfl, rfl⟩
    go_wp2
    go_ret2
    exact ⟨none, 0, rfl, SM.nil _, Below.refl _ _⟩
  | true =>
    cases h2 : inB n 1 6 with
    | false =>
      have e1 : seededE s n p = 7 := by unfold seededE; rw [h1, h2]; rfl
      have hR : seededR s n p = [] := by unfold seededR; rw [e1]; rfl
      rw [hR, e1]
      have w1 := wi s 1 2147483646
      rw [h1] at w1
      have w2 := wi n 1 6
      rw [h2] at w2
      have W1 := hidx w1
      have W2 := hidx w2
      clear e1 hR h1 h2 wi w1 w2
      go_enter Try.func56, Try.ntmps56
      go_wp2_with fail
      refine (W1.out _).mono ?_
      rintro e w1 ⟨rfl, rfl⟩
      go_wp2_with fail
      refine (W2.out _).mono ?_
      rintro e w1 ⟨rfl, rfl⟩
      go_wp2
      go_ret2
      exact ⟨none, 0, rfl, SM.nil _, Below.refl _ _⟩
    | true =>
      cases h3 : inB p 1 10 with
      | false =>
        have w1 := wi s 1 2147483646
        rw [h1] at w1
        have w2 := wi n 1 6
        rw [h2] at w2
        have W1 := hidx w1
        have W2 := hidx w2
        have w3 := wi p 1 10
        have e1 : seededE s n p = 7 := by unfold seededE; rw [h1, h2, h3]; rfl
        have hR : seededR s n p = [] := by unfold seededR; rw [e1]; rfl
        rw [hR, e1]
        rw [h3] at w3
        have W3 := hidx w3
        clear e1 hR h1 h2 h3 wi w3 w1 w2
        go_enter Try.func56, Try.ntmps56
        go_wp2_with fail
        refine (W1.out _).mono ?_
        rintro e w1 ⟨rfl, rfl⟩
        go_wp2_with fail
        refine (W2.out _).mono ?_
        rintro e w1 ⟨rfl, rfl⟩
        go_wp2_with fail
        refine (W3.out _).mono ?_
        rintro e w1 ⟨rfl, rfl⟩
        go_wp2
        go_ret2
        exact ⟨none, 0, rfl, SM.nil _, Below.refl _ _⟩
      | true =>
        have e1 : seededE s n p = 0 := by unfold seededE; rw [h1, h2, h3]; rfl
        have hR : seededR s n p = seedL s.toNat p.toNat n.toNat := by unfold seededR; rw [if_pos e1]
        rw [hR, e1, seedL_len]
        have h1' := h1
        have h2' := h2
        have h3' := h3
        rw [inB_iff] at h1' h2' h3'
        obtain ⟨S, rfl⟩ := Int.eq_ofNat_of_zero_le (show 0 ≤ s by omega)
        obtain ⟨N, rfl⟩ := Int.eq_ofNat_of_zero_le (show 0 ≤ n by omega)
        obtain ⟨P, rfl⟩ := Int.eq_ofNat_of_zero_le (show 0 ≤ p by omega)
        simp only [Int.toNat_natCast]
        exact rseeded_ok S N P w (by omega) (by omega) (by omega) h1 h2 h3

end Go.Proofs.Ytkkmlcengneomaa
