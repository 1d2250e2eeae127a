/- The walk of the law PicLifts: it returns true, and writes nothing that was there. No condition. -/
import Derived.Test.YtahccnljckgjmaaP7
namespace Go.Proofs.Ytahccnljckgjmaa
open Go.RowKit Ls

set_option maxRecDepth 100000 in
set_option maxHeartbeats 4000000 in
theorem picLifts_walk {X Y : Option Addr} {k d j f : Nat} {x y : List Int} (w : World) (hx : SI w X k d x) (hy : SI w Y j f y) :
    Calls Try.prog 6 #[.slice X k d, .slice Y j f] w fun e w' => e = .returned (.bool true) ∧ Below w.heap.size w w' := by
  have hself := same_self
  have hl2 := SM.new2 22 hx hy
  have hB0 := below_alloc w (.cells #[.slice X k d, .slice Y j f] 22)
  have hx0 := hx.below hB0
  have hy0 := hy.below hB0
  clear hx hy
  go_enter Try.func6, Try.ntmps6
  go_wp2_with fail
  refine (long_any _ 2 2 [x, y] _ hl2).mono ?_
  rintro e w0 ⟨b, rfl, rfl⟩
  clear hl2
  cases b
  case true =>
    go_wp2_with fail
    refine (awake_any _).mono ?_
    rintro e w1 ⟨rfl, hb1⟩
    go_wp2
    go_ret
    exact ⟨rfl, step_trans hB0 hb1⟩
  case false =>
    go_wp2_with fail
    refine (Lift_any _ _ _ _ _ hx0).mono ?_
    rintro e w1 ⟨A1, c1, rfl, r1, hb1⟩
    have hx_1 := hx0.below hb1
    have hy_1 := hy0.below hb1
    have hB1 := step_trans hB0 hb1
    have p_1 := r1
    clear hx0 hy0 hB0 hb1
    go_wp2_with fail
    refine (rLift_any _ _ _ _ _ hx_1).mono ?_
    rintro e w2 ⟨A2, c2, rfl, r2, hb2⟩
    have hx_2 := hx_1.below hb2
    have hy_2 := hy_1.below hb2
    have p_2 := p_1.below hb2
    have hB2 := step_trans hB1 hb2
    have q_2 := r2
    clear hx_1 hy_1 p_1 hB1 hb2
    go_wp2_with fail
    refine (Unlift_any _ _ _ _ _ hy_2).mono ?_
    rintro e w3 ⟨A3, c3, rfl, r3, hb3⟩
    have hx_3 := hx_2.below hb3
    have hy_3 := hy_2.below hb3
    have p_3 := p_2.below hb3
    have q_3 := q_2.below hb3
    have hB3 := step_trans hB2 hb3
    have r_3 := r3
    clear hx_2 hy_2 p_2 q_2 hB2 hb3
    go_wp2_with fail
    refine (rUnlift_any _ _ _ _ _ hy_3).mono ?_
    rintro e w4 ⟨A4, c4, rfl, r4, hb4⟩
    have hx_4 := hx_3.below hb4
    have hy_4 := hy_3.below hb4
    have p_4 := p_3.below hb4
    have q_4 := q_3.below hb4
    have r_4 := r_3.below hb4
    have hB4 := step_trans hB3 hb4
    have s_4 := r4
    clear hx_3 hy_3 p_3 q_3 r_3 hB3 hb4
    go_wp2_with fail
    refine (same_any _ _ _ _ _ _ _ _ _ p_4 q_4).mono ?_
    rintro e w5 ⟨rfl, hb5⟩
    have hx_5 := hx_4.below hb5
    have hy_5 := hy_4.below hb5
    have p_5 := p_4.below hb5
    have q_5 := q_4.below hb5
    have r_5 := r_4.below hb5
    have s_5 := s_4.below hb5
    have hB5 := step_trans hB4 hb5
    clear hx_4 hy_4 p_4 q_4 r_4 s_4 hB4 hb5
    go_wp2_with fail
    refine (same_any _ _ _ _ _ _ _ _ _ r_5 s_5).mono ?_
    rintro e w6 ⟨rfl, hb6⟩
    have hx_6 := hx_5.below hb6
    have hy_6 := hy_5.below hb6
    have p_6 := p_5.below hb6
    have q_6 := q_5.below hb6
    have r_6 := r_5.below hb6
    have s_6 := s_5.below hb6
    have hB6 := step_trans hB5 hb6
    clear hx_5 hy_5 p_5 q_5 r_5 s_5 hB5 hb6
    go_wp2_with fail
    refine (awake_any _).mono ?_
    rintro e w7 ⟨rfl, hb7⟩
    have hx_7 := hx_6.below hb7
    have hy_7 := hy_6.below hb7
    have p_7 := p_6.below hb7
    have q_7 := q_6.below hb7
    have r_7 := r_6.below hb7
    have s_7 := s_6.below hb7
    have hB7 := step_trans hB6 hb7
    clear hx_6 hy_6 p_6 q_6 r_6 s_6 hB6 hb7
    go_wp2
    go_ret
    exact ⟨rfl, hB7⟩

end Go.Proofs.Ytahccnljckgjmaa
