/- The walk of the law MaskColumns: it returns true, and writes nothing that was there. No condition. -/
import Derived.Test.YtkkmlcengneomaaR4
import Derived.Test.YtkkmlcengneomaaLReadsW
namespace Go.Proofs.Ytkkmlcengneomaa
open Go.RowKit Ls

set_option maxRecDepth 100000 in
set_option maxHeartbeats 4000000 in
theorem columns_walk {A : Option Addr} {n c : Nat} {m : List (List Int)} {i j : Int} (w : World) (hm : SM w A n c m) (_hi : (Lit.int .i64 i).wf = true) (_hj : (Lit.int .i64 j).wf = true) :
    Calls Try.prog 4 #[.slice A n c, .int .i64 i, .int .i64 j] w fun e w' => e = .returned (.bool true) ∧ Below w.heap.size w w' := by
  have hself := same_self
  have hz0 := below_alloc w
  go_enter Try.func4, Try.ntmps4
  go_wp2_with fail
  refine (small_any _ 1 1 [m] _ (S3.new1 _ hm)).mono ?_
  rintro e w0 ⟨b, rfl, rfl⟩
  cases b
  · go_wp2_with fail
    refine (awake_any _).mono ?_
    rintro e w1 ⟨rfl, hb1⟩
    go_wp2
    go_ret
    exact ⟨rfl, step_trans (hz0 _) hb1⟩
  · have hm0 := hm.below (hz0 (.cells #[.slice A n c] 23))
    have hB0 := hz0 (.cells #[.slice A n c] 23)
    clear hm hz0
    go_wp2_with fail
    refine (Column_any _ _ _ _ _ _ hm0).mono ?_
    rintro e w1 ⟨A1, c1, rfl, hown, hb1⟩
    have hm_1 := hm0.below hb1
    have hB1 := step_trans hB0 hb1
    have p_1 := own_SI hown
    clear hm0 hB0 hb1
    go_wp2_with fail
    refine (rColumn_any _ _ _ _ _ _ hm_1).mono ?_
    rintro e w2 ⟨A2, c2, rfl, hown2, hb2⟩
    have hm_2 := hm_1.below hb2
    have p_2 := p_1.below hb2
    have hB2 := step_trans hB1 hb2
    have q_2 := own_SI hown2
    clear hm_1 p_1 hB1 hb2
    go_wp2_with fail
    refine (Product_any _ _ _ _ _ _ _ hm_2).mono ?_
    rintro e w3 ⟨rfl, hb3⟩
    have hm_3 := hm_2.below hb3
    have p_3 := p_2.below hb3
    have q_3 := q_2.below hb3
    have hB3 := step_trans hB2 hb3
    clear hm_2 p_2 q_2 hB2 hb3
    go_wp2_with fail
    refine (rProduct_any _ _ _ _ _ _ _ hm_3).mono ?_
    rintro e w4 ⟨rfl, hb4⟩
    have hm_4 := hm_3.below hb4
    have p_4 := p_3.below hb4
    have q_4 := q_3.below hb4
    have hB4 := step_trans hB3 hb4
    clear hm_3 p_3 q_3 hB3 hb4
    go_wp2_with fail
    refine (Likeness_any _ _ _ _ _ _ _ hm_4).mono ?_
    rintro e w5 ⟨rfl, hb5⟩
    have hm_5 := hm_4.below hb5
    have p_5 := p_4.below hb5
    have q_5 := q_4.below hb5
    have hB5 := step_trans hB4 hb5
    clear hm_4 p_4 q_4 hB4 hb5
    go_wp2_with fail
    refine (rLikeness_any _ _ _ _ _ _ _ (hm_5.below (below_alloc _ _))).mono ?_
    rintro e w6 ⟨rfl, hb6⟩
    have hc6 := (step_trans (below_alloc _ _) hb6)
    have hm_6 := hm_5.below hc6
    have p_6 := p_5.below hc6
    have q_6 := q_5.below hc6
    have hB6 := step_trans hB5 hc6
    have x0_6 := (Below.cell_of hb6 (v := .int .i64 (likN m i j)) (a := ⟨w5.heap.size, 0, none⟩) (by simp))
    have x1_6 := (Below.cell_of hb6 (v := .int .i64 (likDn m i j)) (a := ⟨w5.heap.size, 1, none⟩) (by simp))
    clear hb6 hm_5 p_5 q_5 hB5 hc6
    go_wp2_with fail
    refine (same_any _ _ _ _ _ _ _ _ _ (p_6.below (below_alloc _ _)) (q_6.below (below_alloc _ _))).mono ?_
    rintro e w7 ⟨rfl, hb7⟩
    have hc7 := (step_trans (below_alloc _ _) hb7)
    have hm_7 := hm_6.below hc7
    have p_7 := p_6.below hc7
    have q_7 := q_6.below hc7
    have x0_7 := Below.cell_of hc7 x0_6
    have x1_7 := Below.cell_of hc7 x1_6
    have hB7 := step_trans hB6 hc7
    have y0_7 := (Below.cell_of hb7 (v := .int .i64 (likN m i j)) (a := ⟨w6.heap.size, 0, none⟩) (by simp))
    have y1_7 := (Below.cell_of hb7 (v := .int .i64 (likDn m i j)) (a := ⟨w6.heap.size, 1, none⟩) (by simp))
    clear hb7 hm_6 p_6 q_6 x0_6 x1_6 hB6 hc7
    go_wp2_with fail
    refine (awake_any _).mono ?_
    rintro e w8 ⟨rfl, hb8⟩
    have hm_8 := hm_7.below hb8
    have p_8 := p_7.below hb8
    have q_8 := q_7.below hb8
    have x0_8 := Below.cell_of hb8 x0_7
    have x1_8 := Below.cell_of hb8 x1_7
    have y0_8 := Below.cell_of hb8 y0_7
    have y1_8 := Below.cell_of hb8 y1_7
    have hB8 := step_trans hB7 hb8
    clear hm_7 p_7 q_7 x0_7 x1_7 y0_7 y1_7 hB7 hb8
    go_wp2
    go_ret
    exact ⟨rfl, hB8⟩

end Go.Proofs.Ytkkmlcengneomaa
