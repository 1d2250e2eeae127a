/- The contract of mask's Seeded. No condition. -/
import Derived.Test.YtkkmlcengneomaaE6
namespace Go.Proofs.Ytkkmlcengneomaa
open Go.RowKit Ls

theorem grown_set (W : World) (a : Addr) (v : Value) : W.grownBy (W.setCell a v) (some a.block) :=
  ⟨rfl, rfl, rfl, by simp, fun k _ hne => Below.heap_setCell _ _ _ _ (by intro e; subst e; exact hne rfl)⟩

set_option maxRecDepth 100000 in
theorem seeded1_ok (b s : Nat) (hs : s < 2147483647) : FokS Try.prog 91 #[.pointer (some ⟨b, 0, none⟩)] b s := by
  refine ⟨(enters_of Try.func91 (by kernel_rfl) rfl), fun i j k W hbx => ?_⟩
  have hS := seedAt_lt s hs k
  have hT := seedAt_lt s hs (k + 1)
  have hv : seedV s k = ((seedAt s (k + 1) : Nat) : Int) % 3 - 1 := by unfold seedV; omega
  rw [hv]
  have hTT : ((seedAt s k : Nat) : Int) * 48271 % 2147483647 = (seedAt s (k + 1) : Nat) := by
    have e : seedAt s (k + 1) = seedAt s k * 48271 % 2147483647 := rfl
    omega
  obtain ⟨hc, hf⟩ := hbx
  generalize seedAt s k = S at *
  generalize seedAt s (k + 1) = T at *
  have hc2 : (W.setCell ⟨b, 0, none⟩ (.int .i64 T)).cell? ⟨b, 0, none⟩ = some (.int .i64 T) := World.cell?_setCell_same' _ _ _ (by rw [hc]; rfl)
  have i1 : (0:Int) ≤ S := by omega
  have i2 : (0:Int) ≤ T := by omega
  have i3 : (S:Int) < 2147483647 := by omega
  have i4 : (T:Int) < 2147483647 := by omega
  have hw : IntKind.i64.wrap ((S:Int) * 48271) = (S:Int) * 48271 := by rw [IntKind.wrap_i64]; omega
  have i5 : (0:Int) ≤ (S:Int) * 48271 := by omega
  clear hv
  go_enter Try.func91, Try.ntmps91
  go_wp2
  go_ret
  exact ⟨rfl, grown_set W ⟨b, 0, none⟩ _, by simp, hc2, (World.frozen?_setCell _ _ _ _).trans hf⟩

set_option maxRecDepth 100000 in
set_option maxHeartbeats 4000000 in
theorem seeded_any (s n p : Int) (w : World) :
    Calls Try.prog 46 #[.int .i64 s, .int .i64 n, .int .i64 p] w fun e w' => ∃ A' c', e = .returned (.tuple #[.slice A' (seededR s n p).length c', .int .i64 (seededE s n p)]) ∧ SM w' A' (seededR s n p).length c' (seededR s n p) ∧ Below w.heap.size w w' := by
  have hz1 := fun o => below_alloc w o
  have wi := fun x lo hi W => within_any x lo hi W
  cases h1 : inB s 1 2147483646 with
  | false =>
    have e1 : seededE s n p = 7 := by unfold seededE; rw [h1]; rfl
    have hR : seededR s n p = [] := by unfold seededR; rw [e1]; rfl
    rw [hR, e1]
    have w1 := wi s 1 2147483646
    rw [h1] at w1
    have W1 := hidx w1
    clear e1 hR h1 wi w1
    go_enter Try.func46, Try.ntmps46
    go_wp2_with fail
    refine (W1.out _).mono ?_
    rintro e w1 ⟨rfl, rfl⟩
    go_wp2
    go_ret2
    exact ⟨none, 0, rfl, SM.nil _, hz1 _⟩
  | true =>
    cases h2 : inB n 1 6 with
    | false =>
      have e1 : seededE s n p = 7 := by unfold seededE; rw [h1, h2]; rfl
      have hR : seededR s n p = [] := by unfold seededR; rw [e1]; rfl
      rw [hR, e1]
      have w1 := wi s 1 2147483646
      rw [h1] at w1
      have w2 := wi n 1 6
      rw [h2] at w2
      have W1 := hidx w1
      have W2 := hidx w2
      clear e1 hR h1 h2 wi w1 w2
      go_enter Try.func46, Try.ntmps46
      go_wp2_with fail
      refine (W1.out _).mono ?_
      rintro e w1 ⟨rfl, rfl⟩
      go_wp2_with fail
      refine (W2.out _).mono ?_
      rintro e w1 ⟨rfl, rfl⟩
      go_wp2
      go_ret2
      exact ⟨none, 0, rfl, SM.nil _, hz1 _⟩
    | true =>
      have w1 := wi s 1 2147483646
      rw [h1] at w1
      have w2 := wi n 1 6
      rw [h2] at w2
      have W1 := hidx w1
      have W2 := hidx w2
      clear w1 w2
      have w3 := wi p 1 10
      cases h3 : inB p 1 10 with
      | false =>
        have e1 : seededE s n p = 7 := by unfold seededE; rw [h1, h2, h3]; rfl
        have hR : seededR s n p = [] := by unfold seededR; rw [e1]; rfl
        rw [hR, e1]
        rw [h3] at w3
        have W3 := hidx w3
        clear e1 hR h1 h2 h3 wi w3
        go_enter Try.func46, Try.ntmps46
        go_wp2_with fail
        refine (W1.out _).mono ?_
        rintro e w1 ⟨rfl, rfl⟩
        go_wp2_with fail
        refine (W2.out _).mono ?_
        rintro e w1 ⟨rfl, rfl⟩
        go_wp2_with fail
        refine (W3.out _).mono ?_
        rintro e w1 ⟨rfl, rfl⟩
        go_wp2
        go_ret2
        exact ⟨none, 0, rfl, SM.nil _, hz1 _⟩
      | true =>
        have e1 : seededE s n p = 0 := by unfold seededE; rw [h1, h2, h3]; rfl
        have hR : seededR s n p = seedL s.toNat p.toNat n.toNat := by unfold seededR; rw [if_pos e1]
        rw [hR, e1, seedL_len]
        rw [h3] at w3
        have W3 := hidx w3
        rw [inB_iff] at h1 h2 h3
        obtain ⟨S, rfl⟩ := Int.eq_ofNat_of_zero_le (show 0 ≤ s by omega)
        obtain ⟨N, rfl⟩ := Int.eq_ofNat_of_zero_le (show 0 ≤ n by omega)
        obtain ⟨P, rfl⟩ := Int.eq_ofNat_of_zero_le (show 0 ≤ p by omega)
        simp only [Int.toNat_natCast]
        have hN6 : N ≤ 6 := by omega
        have hP10 : P ≤ 10 := by omega
        have hS : S < 2147483647 := by omega
        have fin : ∀ Y c W, w.heap.size < W.heap.size → Box W w.heap.size S →
            Calls Try.prog 79 #[.slice Y N c, .int .i64 P, .func (.func 91) #[] #[.pointer (some ⟨w.heap.size, 0, none⟩)]] W fun e W' => ∃ A' c', e = .returned (.slice A' N c') ∧ SM W' A' N c' (seedL S P N) ∧ Below w.heap.size W W' := fun Y c W hlt hbx =>
          copiedS_any Y N c P _ w.heap.size S w.heap.size _ W (by omega) (by omega) (by omega) (Nat.le_refl _) hlt (seeded1_ok w.heap.size S hS) hbx
        have Fin := hidx fin
        have hbx : Box (w.alloc (.cells #[.int .i64 S] 3)) w.heap.size S := ⟨by simp, by simp⟩
        clear e1 hR h1 h2 h3 wi w3 fin
        go_enter Try.func46, Try.ntmps46
        go_wp2_with fail
        refine (W1.out _).mono ?_
        rintro e w1 ⟨rfl, rfl⟩
        go_wp2_with fail
        refine (W2.out _).mono ?_
        rintro e w1 ⟨rfl, rfl⟩
        go_wp2_with fail
        refine (W3.out _).mono ?_
        rintro e w1 ⟨rfl, rfl⟩
        go_wp2_with (first
          | (at_make; refine make1 eltM rfl rfl _ _ rfl N rfl rfl (by omega) (by omega) ?_; intro w2 hown2 hb2 hlt2)
          | (go_at_call 79; refine (Fin.out _ _ _ (by simp at hlt2; omega) (hbx.below hb2 (by simp))).mono ?_; rintro e w3 ⟨A3, c3, rfl, hs3, hb3⟩))
        go_ret2
        exact ⟨A3, c3, rfl, hs3, (step_trans (hz1 _) hb2).trans hb3⟩

end Go.Proofs.Ytkkmlcengneomaa
