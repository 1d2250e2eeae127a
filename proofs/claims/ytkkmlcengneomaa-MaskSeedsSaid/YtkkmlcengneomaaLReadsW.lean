/- The walk of the law MaskReads: it returns true, and writes nothing that was there. No condition. -/
import Derived.Test.YtkkmlcengneomaaL1
namespace Go.Proofs.Ytkkmlcengneomaa
open Go.RowKit Ls

theorem same_self : ∀ l : List Int, sameB l l = true := fun l => by unfold sameB; exact decide_eq_true rfl

set_option maxRecDepth 100000 in
set_option maxHeartbeats 4000000 in
theorem reads_walk {A X Y : Option Addr} {n c k d j f : Nat} {m : List (List Int)} {x y : List Int} (w : World) (hm : SM w A n c m) (hx : SI w X k d x) (hy : SI w Y j f y) :
    Calls Try.prog 5 #[.slice A n c, .slice X k d, .slice Y j f] w fun e w' => e = .returned (.bool true) ∧ Below w.heap.size w w' := by
  have hself := same_self
  have hz0 := below_alloc w
  have hz1 := fun o o' => step_trans (below_alloc w o) (below_alloc (w.alloc o) o')
  have hl2 : ∀ o t, SM ((w.alloc o).alloc (.cells #[.slice X k d, .slice Y j f] t)) (some ⟨w.heap.size + 1, 0, none⟩) 2 2 [x, y] := fun o t => by
    have := SM.new2 t (hx.below (below_alloc w o)) (hy.below (below_alloc w o))
    rwa [World.size_alloc] at this
  go_enter Try.func5, Try.ntmps5
  go_wp2_with fail
  refine (small_any _ 1 1 [m] _ (S3.new1 _ hm)).mono ?_
  rintro e w0 ⟨b, rfl, rfl⟩
  cases b
  · go_wp2_with fail
    refine (awake_any _).mono ?_
    rintro e w1 ⟨rfl, hb1⟩
    go_wp2
    go_ret
    exact ⟨rfl, step_trans (hz0 _) hb1⟩
  · go_wp2_with fail
    refine (long_any _ 2 2 [x, y] _ (hl2 _ _)).mono ?_
    rintro e w0 ⟨rfl, rfl⟩
    cases longB [x, y]
    · have hm0 := hm.below (hz1 (.cells #[.slice A n c] 23) (.cells #[.slice X k d, .slice Y j f] 24))
      have hx0 := hx.below (hz1 (.cells #[.slice A n c] 23) (.cells #[.slice X k d, .slice Y j f] 24))
      have hy0 := hy.below (hz1 (.cells #[.slice A n c] 23) (.cells #[.slice X k d, .slice Y j f] 24))
      have hB0 := hz1 (.cells #[.slice A n c] 23) (.cells #[.slice X k d, .slice Y j f] 24)
      clear hm hx hy hz1 hl2 hz0
      go_wp2_with fail
      refine (rows_any _ _ _ _ _ hm0).mono ?_
      rintro e w1 ⟨rfl, hb1⟩
      have hm_1 := hm0.below hb1
      have hx_1 := hx0.below hb1
      have hy_1 := hy0.below hb1
      have hB1 := step_trans hB0 hb1
      clear hm0 hx0 hy0 hB0 hb1
      go_wp2_with fail
      refine (rrows_any _ _ _ _ _ hm_1).mono ?_
      rintro e w2 ⟨rfl, rfl⟩
      go_wp2_with fail
      refine (pixels_any _ _ _ _ _ hm_1).mono ?_
      rintro e w3 ⟨rfl, hb3⟩
      have hm_3 := hm_1.below hb3
      have hx_3 := hx_1.below hb3
      have hy_3 := hy_1.below hb3
      have hB3 := step_trans hB1 hb3
      clear hm_1 hx_1 hy_1 hB1 hb3
      go_wp2_with fail
      refine (rpixels_any _ _ _ _ _ hm_3).mono ?_
      rintro e w4 ⟨rfl, rfl⟩
      go_wp2_with fail
      refine (valid_any _ _ _ _ _ hm_3).mono ?_
      rintro e w5 ⟨rfl, hb5⟩
      have hm_5 := hm_3.below hb5
      have hx_5 := hx_3.below hb5
      have hy_5 := hy_3.below hb5
      have hB5 := step_trans hB3 hb5
      clear hm_3 hx_3 hy_3 hB3 hb5
      go_wp2_with fail
      refine (rvalid_any _ _ _ _ _ hm_5).mono ?_
      rintro e w6 ⟨rfl, rfl⟩
      go_wp2_with fail
      refine (Shown_any _ _ _ _ _ _ _ _ _ hm_5 hx_5).mono ?_
      rintro e w7 ⟨rfl, hb7⟩
      have hm_7 := hm_5.below hb7
      have hx_7 := hx_5.below hb7
      have hy_7 := hy_5.below hb7
      have hB7 := step_trans hB5 hb7
      clear hm_5 hx_5 hy_5 hB5 hb7
      go_wp2_with fail
      refine (rshown_any _ _ _ _ _ _ _ _ _ hm_7 hx_7).mono ?_
      rintro e w8 ⟨rfl, rfl⟩
      go_wp2_with fail
      refine (read_any _ _ _ _ _ _ _ _ _ hm_7 hx_7).mono ?_
      rintro e w9 ⟨A1, c1, rfl, hown, hb9⟩
      have hm_9 := hm_7.below hb9
      have hx_9 := hx_7.below hb9
      have hy_9 := hy_7.below hb9
      have hB9 := step_trans hB7 hb9
      have p_9 := own_SI hown
      clear hm_7 hx_7 hy_7 hB7 hb9
      go_wp2_with fail
      refine (rread_any _ _ _ _ _ _ _ _ _ hm_9 hx_9).mono ?_
      rintro e w10 ⟨A2, c2, rfl, hown2, hb10⟩
      have hm_10 := hm_9.below hb10
      have hx_10 := hx_9.below hb10
      have hy_10 := hy_9.below hb10
      have p_10 := p_9.below hb10
      have hB10 := step_trans hB9 hb10
      have q_10 := own_SI hown2
      clear hm_9 hx_9 hy_9 p_9 hB9 hb10
      go_wp2_with fail
      refine (back_any _ _ _ _ _ _ _ _ _ hm_10 hy_10).mono ?_
      rintro e w11 ⟨A3, c3, rfl, hown3, hb11⟩
      have hm_11 := hm_10.below hb11
      have hx_11 := hx_10.below hb11
      have hy_11 := hy_10.below hb11
      have p_11 := p_10.below hb11
      have q_11 := q_10.below hb11
      have hB11 := step_trans hB10 hb11
      have r_11 := own_SI hown3
      clear hm_10 hx_10 hy_10 p_10 q_10 hB10 hb11
      go_wp2_with fail
      refine (rback_any _ _ _ _ _ _ _ _ _ hm_11 hy_11).mono ?_
      rintro e w12 ⟨A4, c4, rfl, hown4, hb12⟩
      have hm_12 := hm_11.below hb12
      have hx_12 := hx_11.below hb12
      have hy_12 := hy_11.below hb12
      have p_12 := p_11.below hb12
      have q_12 := q_11.below hb12
      have r_12 := r_11.below hb12
      have hB12 := step_trans hB11 hb12
      have s_12 := own_SI hown4
      clear hm_11 hx_11 hy_11 p_11 q_11 r_11 hB11 hb12
      go_wp2_with fail
      refine (same_any _ _ _ _ _ _ _ _ _ p_12 q_12).mono ?_
      rintro e w13 ⟨rfl, hb13⟩
      have hm_13 := hm_12.below hb13
      have hx_13 := hx_12.below hb13
      have hy_13 := hy_12.below hb13
      have p_13 := p_12.below hb13
      have q_13 := q_12.below hb13
      have r_13 := r_12.below hb13
      have s_13 := s_12.below hb13
      have hB13 := step_trans hB12 hb13
      clear hm_12 hx_12 hy_12 p_12 q_12 r_12 s_12 hB12 hb13
      go_wp2_with fail
      refine (same_any _ _ _ _ _ _ _ _ _ r_13 s_13).mono ?_
      rintro e w14 ⟨rfl, hb14⟩
      have hm_14 := hm_13.below hb14
      have hx_14 := hx_13.below hb14
      have hy_14 := hy_13.below hb14
      have p_14 := p_13.below hb14
      have q_14 := q_13.below hb14
      have r_14 := r_13.below hb14
      have s_14 := s_13.below hb14
      have hB14 := step_trans hB13 hb14
      clear hm_13 hx_13 hy_13 p_13 q_13 r_13 s_13 hB13 hb14
      go_wp2_with fail
      refine (awake_any _).mono ?_
      rintro e w15 ⟨rfl, hb15⟩
      have hm_15 := hm_14.below hb15
      have hx_15 := hx_14.below hb15
      have hy_15 := hy_14.below hb15
      have p_15 := p_14.below hb15
      have q_15 := q_14.below hb15
      have r_15 := r_14.below hb15
      have s_15 := s_14.below hb15
      have hB15 := step_trans hB14 hb15
      clear hm_14 hx_14 hy_14 p_14 q_14 r_14 s_14 hB14 hb15
      go_wp2
      go_ret
      exact ⟨rfl, hB15⟩
    · go_wp2_with fail
      refine (awake_any _).mono ?_
      rintro e w1 ⟨rfl, hb1⟩
      go_wp2
      go_ret
      exact ⟨rfl, step_trans (hz1 _ _) hb1⟩

end Go.Proofs.Ytkkmlcengneomaa
