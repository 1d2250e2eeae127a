/- The walk of the law PicSums: it returns true, and writes nothing that was there. No condition. -/
import Derived.Test.YtahccnljckgjmaaP9
import Derived.Test.YtahccnljckgjmaaP10
namespace Go.Proofs.Ytahccnljckgjmaa
open Go.RowKit Ls

set_option maxRecDepth 100000 in
set_option maxHeartbeats 4000000 in
theorem picSums_walk {A B : Option Addr} {n c m d : Nat} {W H W' H' : Int} {l l' : List Int} (w : World) (ha : SI w A n c l) (hb : SI w B m d l') :
    Calls Try.prog 8 #[.agg #[.int .i64 W, .int .i64 H, .slice A n c], .agg #[.int .i64 W', .int .i64 H', .slice B m d]] w fun e w' => e = .returned (.bool true) ∧ Below w.heap.size w w' := by
  have hself := same_self
  have hselfP := samePB_self
  have hb1 := below_alloc w (.cells #[.int .i64 W, .int .i64 H, .slice A n c] 30)
  have hb2 := step_trans hb1 (below_alloc _ (.cells #[.int .i64 W', .int .i64 H', .slice B m d] 30))
  have hl2 := SM.new2 22 (ha.below hb2) (hb.below hb2)
  rw [World.size_alloc, World.size_alloc] at hl2
  have hB0 := step_trans hb2 (below_alloc _ (.cells #[.slice A n c, .slice B m d] 22))
  have ha0 := ha.below hB0
  have hb0 := hb.below hB0
  have hp0 := (PBox.new w W H (.slice A n c) 30).below (step_trans (below_alloc _ (.cells #[.int .i64 W', .int .i64 H', .slice B m d] 30)) (below_alloc _ (.cells #[.slice A n c, .slice B m d] 22)))
  have hq0 := (PBox.new (w.alloc (.cells #[.int .i64 W, .int .i64 H, .slice A n c] 30)) W' H' (.slice B m d) 30).below (below_alloc _ (.cells #[.slice A n c, .slice B m d] 22))
  rw [World.size_alloc] at hq0
  clear ha hb hb1 hb2
  go_enter Try.func8, Try.ntmps8
  go_wp2_with fail
  refine (long_any _ 2 2 [l, l'] _ hl2).mono ?_
  rintro e w0 ⟨b, rfl, rfl⟩
  clear hl2
  cases b
  case true =>
    go_wp2_with fail
    refine (awake_any _).mono ?_
    rintro e w1 ⟨rfl, hb1⟩
    go_wp2
    go_ret
    exact ⟨rfl, step_trans hB0 hb1⟩
  case false =>
    obtain ⟨bx21, bx22, bx23⟩ := id hp0
    obtain ⟨bx31, bx32, bx33⟩ := id hq0
    go_wp2_with fail
    refine (Added_any _ _ _ _ _ _ _ _ _ _ _ _ _ ha0 hb0).mono ?_
    rintro e w1 ⟨A1, c1, rfl, r1, hb1⟩
    have ha_1 := ha0.below hb1
    have hb_1 := hb0.below hb1
    have p_1 := hp0.below hb1
    have q_1 := hq0.below hb1
    have hB1 := step_trans hB0 hb1
    have x_1 := r1
    clear ha0 hb0 hp0 hq0 hB0 bx21 bx22 bx23 bx31 bx32 bx33 hb1
    have hba1 := below_alloc w1 (.cells #[.int .i64 (addR W H l W' H' l').1, .int .i64 (addR W H l W' H' l').2.1, .slice A1 (addR W H l W' H' l').2.2.length c1] 30)
    have ha_a1 := ha_1.below hba1
    have hb_a1 := hb_1.below hba1
    have p_a1 := p_1.below hba1
    have q_a1 := q_1.below hba1
    have x_a1 := x_1.below hba1
    have hBa1 := step_trans hB1 hba1
    have t_a1 := PBox.new (w1) (addR W H l W' H' l').1 (addR W H l W' H' l').2.1 (.slice A1 (addR W H l W' H' l').2.2.length c1) 30
    clear ha_1 hb_1 p_1 q_1 x_1 hB1 hba1
    obtain ⟨bx21, bx22, bx23⟩ := id p_a1
    obtain ⟨bx31, bx32, bx33⟩ := id q_a1
    obtain ⟨bx51, bx52, bx53⟩ := id t_a1
    go_wp2_with fail
    refine (rAdded_any _ _ _ _ _ _ _ _ _ _ _ _ _ ha_a1 hb_a1).mono ?_
    rintro e w2 ⟨A2, c2, rfl, r2, hb2⟩
    have ha_2 := ha_a1.below hb2
    have hb_2 := hb_a1.below hb2
    have p_2 := p_a1.below hb2
    have q_2 := q_a1.below hb2
    have x_2 := x_a1.below hb2
    have t_2 := t_a1.below hb2
    have hB2 := step_trans hBa1 hb2
    have y_2 := r2
    clear ha_a1 hb_a1 p_a1 q_a1 x_a1 t_a1 hBa1 bx21 bx22 bx23 bx31 bx32 bx33 bx51 bx52 bx53 hb2
    have hba2 := below_alloc w2 (.cells #[.int .i64 (addR W H l W' H' l').1, .int .i64 (addR W H l W' H' l').2.1, .slice A2 (addR W H l W' H' l').2.2.length c2] 30)
    have ha_a2 := ha_2.below hba2
    have hb_a2 := hb_2.below hba2
    have p_a2 := p_2.below hba2
    have q_a2 := q_2.below hba2
    have x_a2 := x_2.below hba2
    have t_a2 := t_2.below hba2
    have y_a2 := y_2.below hba2
    have hBa2 := step_trans hB2 hba2
    have u_a2 := PBox.new (w2) (addR W H l W' H' l').1 (addR W H l W' H' l').2.1 (.slice A2 (addR W H l W' H' l').2.2.length c2) 30
    clear ha_2 hb_2 p_2 q_2 x_2 t_2 y_2 hB2 hba2
    obtain ⟨bx21, bx22, bx23⟩ := id p_a2
    obtain ⟨bx31, bx32, bx33⟩ := id q_a2
    obtain ⟨bx51, bx52, bx53⟩ := id t_a2
    obtain ⟨bx71, bx72, bx73⟩ := id u_a2
    go_wp2_with fail
    refine (Differ_any _ _ _ _ _ _ _ _ _ _ _ _ _ ha_a2 hb_a2).mono ?_
    rintro e w3 ⟨A3, c3, rfl, r3, hb3⟩
    have ha_3 := ha_a2.below hb3
    have hb_3 := hb_a2.below hb3
    have p_3 := p_a2.below hb3
    have q_3 := q_a2.below hb3
    have x_3 := x_a2.below hb3
    have t_3 := t_a2.below hb3
    have y_3 := y_a2.below hb3
    have u_3 := u_a2.below hb3
    have hB3 := step_trans hBa2 hb3
    have v_3 := r3
    clear ha_a2 hb_a2 p_a2 q_a2 x_a2 t_a2 y_a2 u_a2 hBa2 bx21 bx22 bx23 bx31 bx32 bx33 bx51 bx52 bx53 bx71 bx72 bx73 hb3
    obtain ⟨bx21, bx22, bx23⟩ := id p_3
    obtain ⟨bx31, bx32, bx33⟩ := id q_3
    obtain ⟨bx51, bx52, bx53⟩ := id t_3
    obtain ⟨bx71, bx72, bx73⟩ := id u_3
    go_wp2_with fail
    refine (rDiffer_any _ _ _ _ _ _ _ _ _ _ _ _ _ ha_3 hb_3).mono ?_
    rintro e w4 ⟨A4, c4, rfl, r4, hb4⟩
    have ha_4 := ha_3.below hb4
    have hb_4 := hb_3.below hb4
    have p_4 := p_3.below hb4
    have q_4 := q_3.below hb4
    have x_4 := x_3.below hb4
    have t_4 := t_3.below hb4
    have y_4 := y_3.below hb4
    have u_4 := u_3.below hb4
    have v_4 := v_3.below hb4
    have hB4 := step_trans hB3 hb4
    have z_4 := r4
    clear ha_3 hb_3 p_3 q_3 x_3 t_3 y_3 u_3 v_3 hB3 bx21 bx22 bx23 bx31 bx32 bx33 bx51 bx52 bx53 bx71 bx72 bx73 hb4
    clear ha_4
    clear hb_4
    clear p_4
    clear q_4
    obtain ⟨bx11, bx12, bx13⟩ := id t_4
    obtain ⟨bx31, bx32, bx33⟩ := id u_4
    go_wp2_with fail
    refine (Same_any _ _ _ _ _ _ _ _ _ _ _ _ _ x_4 y_4).mono ?_
    rintro e w5 ⟨rfl, hb5⟩
    have x_5 := x_4.below hb5
    have t_5 := t_4.below hb5
    have y_5 := y_4.below hb5
    have u_5 := u_4.below hb5
    have v_5 := v_4.below hb5
    have z_5 := z_4.below hb5
    have hB5 := step_trans hB4 hb5
    clear x_4 t_4 y_4 u_4 v_4 z_4 hB4 bx11 bx12 bx13 bx31 bx32 bx33 hb5
    clear x_5
    clear y_5
    clear t_5
    clear u_5
    go_wp2_with fail
    refine (same_any _ _ _ _ _ _ _ _ _ v_5 z_5).mono ?_
    rintro e w6 ⟨rfl, hb6⟩
    have v_6 := v_5.below hb6
    have z_6 := z_5.below hb6
    have hB6 := step_trans hB5 hb6
    clear v_5 z_5 hB5 hb6
    go_wp2_with fail
    refine (awake_any _).mono ?_
    rintro e w7 ⟨rfl, hb7⟩
    have v_7 := v_6.below hb7
    have z_7 := z_6.below hb7
    have hB7 := step_trans hB6 hb7
    clear v_6 z_6 hB6 hb7
    go_wp2
    go_ret
    exact ⟨rfl, hB7⟩

end Go.Proofs.Ytahccnljckgjmaa
