/- The walk of the law MaskBuilds: it returns true, and writes nothing that was there. No condition. -/
import Derived.Test.YtkkmlcengneomaaE2
import Derived.Test.YtkkmlcengneomaaE5
import Derived.Test.YtkkmlcengneomaaE7
import Derived.Test.YtkkmlcengneomaaE8
import Derived.Test.YtkkmlcengneomaaC8
import Derived.Test.YtkkmlcengneomaaLReadsW
namespace Go.Proofs.Ytkkmlcengneomaa
open Go.RowKit Ls

set_option maxRecDepth 100000 in
set_option maxHeartbeats 4000000 in
theorem builds_walk {X : Option Addr} {k d : Nat} {l : List Int} {n a b c : Int} (w : World) (hx : SI w X k d l) (_hn : (Lit.int .i64 n).wf = true) (_ha : (Lit.int .i64 a).wf = true ∧ (Lit.int .i64 b).wf = true ∧ (Lit.int .i64 c).wf = true) :
    Calls Try.prog 10 #[.slice X k d, .int .i64 n, .agg #[.int .i64 a, .int .i64 b, .int .i64 c]] w fun e w' => e = .returned (.bool true) ∧ Below w.heap.size w w' := by
  have hz0 := below_alloc w
  have hz1 := fun o o' => step_trans (below_alloc w o) (below_alloc (w.alloc o) o')
  have hl2 : ∀ o t, SM ((w.alloc o).alloc (.cells #[.slice X k d] t)) (some ⟨w.heap.size + 1, 0, none⟩) 1 1 [l] := fun o t => by
    have := SM.new1 t (hx.below (below_alloc w o))
    rwa [World.size_alloc] at this
  go_enter Try.func10, Try.ntmps10
  go_wp2_with fail
  refine (long_any _ 1 1 [l] _ (hl2 _ _)).mono ?_
  rintro e w0 ⟨rfl, rfl⟩
  cases longB [l]
  · have hx0 := hx.below (hz1 (.cells #[.int .i64 a, .int .i64 b, .int .i64 c] 56) (.cells #[.slice X k d] 24))
    have hB0 := hz1 (.cells #[.int .i64 a, .int .i64 b, .int .i64 c] 56) (.cells #[.slice X k d] 24)
    have b00 : ((w.alloc (.cells #[.int .i64 a, .int .i64 b, .int .i64 c] 56)).alloc (.cells #[.slice X k d] 24)).cell? ⟨w.heap.size, 0, none⟩ = some (.int .i64 a) := by simp
    have b10 : ((w.alloc (.cells #[.int .i64 a, .int .i64 b, .int .i64 c] 56)).alloc (.cells #[.slice X k d] 24)).cell? ⟨w.heap.size, 1, none⟩ = some (.int .i64 b) := by simp
    have b20 : ((w.alloc (.cells #[.int .i64 a, .int .i64 b, .int .i64 c] 56)).alloc (.cells #[.slice X k d] 24)).cell? ⟨w.heap.size, 2, none⟩ = some (.int .i64 c) := by simp
    clear hx hz1 hl2 hz0
    go_wp2_with fail
    refine (rolled_any _ _ _ _ _ _ hx0).mono ?_
    rintro e w1 ⟨A1, c1, rfl, hp, hb1⟩
    have hx_1 := hx0.below hb1
    have b0_1 := Below.cell_of hb1 b00
    have b1_1 := Below.cell_of hb1 b10
    have b2_1 := Below.cell_of hb1 b20
    have hB1 := step_trans hB0 hb1
    have p1_1 := hp
    clear hx0 b00 b10 b20 hB0 hb1
    go_wp2_with fail
    refine (rrolled_any _ _ _ _ _ _ hx_1).mono ?_
    rintro e w2 ⟨A2, c2, rfl, hq, hb2⟩
    have hx_2 := hx_1.below hb2
    have b0_2 := Below.cell_of hb2 b0_1
    have b1_2 := Below.cell_of hb2 b1_1
    have b2_2 := Below.cell_of hb2 b2_1
    have p1_2 := p1_1.below hb2
    have hB2 := step_trans hB1 hb2
    have q1_2 := hq
    clear hx_1 b0_1 b1_1 b2_1 p1_1 hB1 hb2
    go_wp2_with fail
    refine (sameM_self _ _ _ _ _ _ _ p1_2 q1_2).mono ?_
    rintro e w3 ⟨rfl, hb3⟩
    have hx_3 := hx_2.below hb3
    have b0_3 := Below.cell_of hb3 b0_2
    have b1_3 := Below.cell_of hb3 b1_2
    have b2_3 := Below.cell_of hb3 b2_2
    have p1_3 := p1_2.below hb3
    have q1_3 := q1_2.below hb3
    have hB3 := step_trans hB2 hb3
    clear hx_2 b0_2 b1_2 b2_2 p1_2 q1_2 hB2 hb3
    go_wp2_with fail
    refine (walsh_any _ _ _ _ _ _ hx_3).mono ?_
    rintro e w4 ⟨A3, c3, rfl, hp, hb4⟩
    have hx_4 := hx_3.below hb4
    have b0_4 := Below.cell_of hb4 b0_3
    have b1_4 := Below.cell_of hb4 b1_3
    have b2_4 := Below.cell_of hb4 b2_3
    have p1_4 := p1_3.below hb4
    have q1_4 := q1_3.below hb4
    have hB4 := step_trans hB3 hb4
    have p2_4 := hp
    clear hx_3 b0_3 b1_3 b2_3 p1_3 q1_3 hB3 hb4
    go_wp2_with fail
    refine (rwalsh_any _ _ _ _ _ _ hx_4).mono ?_
    rintro e w5 ⟨A4, c4, rfl, hq, hb5⟩
    have hx_5 := hx_4.below hb5
    have b0_5 := Below.cell_of hb5 b0_4
    have b1_5 := Below.cell_of hb5 b1_4
    have b2_5 := Below.cell_of hb5 b2_4
    have p1_5 := p1_4.below hb5
    have q1_5 := q1_4.below hb5
    have p2_5 := p2_4.below hb5
    have hB5 := step_trans hB4 hb5
    have q2_5 := hq
    clear hx_4 b0_4 b1_4 b2_4 p1_4 q1_4 p2_4 hB4 hb5
    go_wp2_with fail
    refine (sameM_self _ _ _ _ _ _ _ p2_5 q2_5).mono ?_
    rintro e w6 ⟨rfl, hb6⟩
    have hx_6 := hx_5.below hb6
    have b0_6 := Below.cell_of hb6 b0_5
    have b1_6 := Below.cell_of hb6 b1_5
    have b2_6 := Below.cell_of hb6 b2_5
    have p1_6 := p1_5.below hb6
    have q1_6 := q1_5.below hb6
    have p2_6 := p2_5.below hb6
    have q2_6 := q2_5.below hb6
    have hB6 := step_trans hB5 hb6
    clear hx_5 b0_5 b1_5 b2_5 p1_5 q1_5 p2_5 q2_5 hB5 hb6
    go_wp2_with fail
    refine (seeded_any _ _ _ _).mono ?_
    rintro e w7 ⟨A5, c5, rfl, hp, hb7⟩
    have hx_7 := hx_6.below hb7
    have b0_7 := Below.cell_of hb7 b0_6
    have b1_7 := Below.cell_of hb7 b1_6
    have b2_7 := Below.cell_of hb7 b2_6
    have p1_7 := p1_6.below hb7
    have q1_7 := q1_6.below hb7
    have p2_7 := p2_6.below hb7
    have q2_7 := q2_6.below hb7
    have hB7 := step_trans hB6 hb7
    have p3_7 := hp
    clear hx_6 b0_6 b1_6 b2_6 p1_6 q1_6 p2_6 q2_6 hB6 hb7
    go_wp2_with fail
    refine (rseeded_any _ _ _ _).mono ?_
    rintro e w8 ⟨A6, c6, rfl, hq, hb8⟩
    have hx_8 := hx_7.below hb8
    have b0_8 := Below.cell_of hb8 b0_7
    have b1_8 := Below.cell_of hb8 b1_7
    have b2_8 := Below.cell_of hb8 b2_7
    have p1_8 := p1_7.below hb8
    have q1_8 := q1_7.below hb8
    have p2_8 := p2_7.below hb8
    have q2_8 := q2_7.below hb8
    have p3_8 := p3_7.below hb8
    have hB8 := step_trans hB7 hb8
    have q3_8 := hq
    clear hx_7 b0_7 b1_7 b2_7 p1_7 q1_7 p2_7 q2_7 p3_7 hB7 hb8
    go_wp2_with fail
    refine (sameM_self _ _ _ _ _ _ _ p3_8 q3_8).mono ?_
    rintro e w9 ⟨rfl, hb9⟩
    have hx_9 := hx_8.below hb9
    have b0_9 := Below.cell_of hb9 b0_8
    have b1_9 := Below.cell_of hb9 b1_8
    have b2_9 := Below.cell_of hb9 b2_8
    have p1_9 := p1_8.below hb9
    have q1_9 := q1_8.below hb9
    have p2_9 := p2_8.below hb9
    have q2_9 := q2_8.below hb9
    have p3_9 := p3_8.below hb9
    have q3_9 := q3_8.below hb9
    have hB9 := step_trans hB8 hb9
    clear hx_8 b0_8 b1_8 b2_8 p1_8 q1_8 p2_8 q2_8 p3_8 q3_8 hB8 hb9
    go_wp2_with fail
    refine (awake_any _).mono ?_
    rintro e w10 ⟨rfl, hb10⟩
    have hx_10 := hx_9.below hb10
    have b0_10 := Below.cell_of hb10 b0_9
    have b1_10 := Below.cell_of hb10 b1_9
    have b2_10 := Below.cell_of hb10 b2_9
    have p1_10 := p1_9.below hb10
    have q1_10 := q1_9.below hb10
    have p2_10 := p2_9.below hb10
    have q2_10 := q2_9.below hb10
    have p3_10 := p3_9.below hb10
    have q3_10 := q3_9.below hb10
    have hB10 := step_trans hB9 hb10
    clear hx_9 b0_9 b1_9 b2_9 p1_9 q1_9 p2_9 q2_9 p3_9 q3_9 hB9 hb10
    go_wp2
    go_ret
    exact ⟨rfl, hB10⟩
  · go_wp2_with fail
    refine (awake_any _).mono ?_
    rintro e w1 ⟨rfl, hb1⟩
    go_wp2
    go_ret
    exact ⟨rfl, step_trans (hz1 _ _) hb1⟩

end Go.Proofs.Ytkkmlcengneomaa
