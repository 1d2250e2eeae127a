/- The walk of the law MaskMakes: it returns true, and writes nothing that was there. No condition. -/
import Derived.Test.YtkkmlcengneomaaD8
import Derived.Test.YtkkmlcengneomaaC8
import Derived.Test.YtkkmlcengneomaaLReadsW
namespace Go.Proofs.Ytkkmlcengneomaa
open Go.RowKit Ls

set_option maxRecDepth 100000 in
set_option maxHeartbeats 4000000 in
theorem makes_walk {A X : Option Addr} {n c j f : Nat} {m : List (List Int)} {x : List Int} (w : World) (hm : SM w A n c m) (hx : SI w X j f x) :
    Calls Try.prog 9 #[.slice A n c, .slice X j f] w fun e w' => e = .returned (.bool true) ∧ Below w.heap.size w w' := by
  have hz0 := below_alloc w
  have hz1 := fun o o' => step_trans (below_alloc w o) (below_alloc (w.alloc o) o')
  have hl2 : ∀ o t, SM ((w.alloc o).alloc (.cells #[.slice X j f] t)) (some ⟨w.heap.size + 1, 0, none⟩) 1 1 [x] := fun o t => by
    have := SM.new1 t (hx.below (below_alloc w o))
    rwa [World.size_alloc] at this
  go_enter Try.func9, Try.ntmps9
  go_wp2_with fail
  refine (small_any _ 1 1 [m] _ (S3.new1 _ hm)).mono ?_
  rintro e w0 ⟨g, rfl, rfl⟩
  cases g
  · go_wp2_with fail
    refine (awake_any _).mono ?_
    rintro e w1 ⟨rfl, hb1⟩
    go_wp2
    go_ret
    exact ⟨rfl, step_trans (hz0 _) hb1⟩
  · go_wp2_with fail
    refine (long_any _ 1 1 [x] _ (hl2 _ _)).mono ?_
    rintro e w0 ⟨rfl, rfl⟩
    cases longB [x]
    · have hm0 := hm.below (hz1 (.cells #[.slice A n c] 23) (.cells #[.slice X j f] 24))
      have hx0 := hx.below (hz1 (.cells #[.slice A n c] 23) (.cells #[.slice X j f] 24))
      have hB0 := hz1 (.cells #[.slice A n c] 23) (.cells #[.slice X j f] 24)
      clear hm hx hz1 hl2 hz0
      go_wp2_with fail
      refine (chosen_any _ _ _ _ _ _ _ _ _ hm0 hx0).mono ?_
      rintro e w1 ⟨A2, c2, rfl, hp, hb1⟩
      have hm_1 := hm0.below hb1
      have hx_1 := hx0.below hb1
      have hB1 := step_trans hB0 hb1
      have p2_1 := hp
      clear hm0 hx0 hB0 hb1
      go_wp2_with fail
      refine (rchosen_any _ _ _ _ _ _ _ _ _ hm_1 hx_1).mono ?_
      rintro e w2 ⟨A3, c3, rfl, hq, hb2⟩
      have hm_2 := hm_1.below hb2
      have hx_2 := hx_1.below hb2
      have p2_2 := p2_1.below hb2
      have hB2 := step_trans hB1 hb2
      have q2_2 := hq
      clear hm_1 hx_1 p2_1 hB1 hb2
      go_wp2_with fail
      refine (sameM_self _ _ _ _ _ _ _ p2_2 q2_2).mono ?_
      rintro e w3 ⟨rfl, hb3⟩
      have hm_3 := hm_2.below hb3
      have hx_3 := hx_2.below hb3
      have p2_3 := p2_2.below hb3
      have q2_3 := q2_2.below hb3
      have hB3 := step_trans hB2 hb3
      clear hm_2 hx_2 p2_2 q2_2 hB2 hb3
      go_wp2_with fail
      refine (permuted_any _ _ _ _ _ _ _ _ _ hm_3 hx_3).mono ?_
      rintro e w4 ⟨A4, c4, rfl, hp, hb4⟩
      have hm_4 := hm_3.below hb4
      have hx_4 := hx_3.below hb4
      have p2_4 := p2_3.below hb4
      have q2_4 := q2_3.below hb4
      have hB4 := step_trans hB3 hb4
      have p4_4 := hp
      clear hm_3 hx_3 p2_3 q2_3 hB3 hb4
      go_wp2_with fail
      refine (rpermuted_any _ _ _ _ _ _ _ _ _ hm_4 hx_4).mono ?_
      rintro e w5 ⟨A5, c5, rfl, hq, hb5⟩
      have hm_5 := hm_4.below hb5
      have hx_5 := hx_4.below hb5
      have p2_5 := p2_4.below hb5
      have q2_5 := q2_4.below hb5
      have p4_5 := p4_4.below hb5
      have hB5 := step_trans hB4 hb5
      have q4_5 := hq
      clear hm_4 hx_4 p2_4 q2_4 p4_4 hB4 hb5
      go_wp2_with fail
      refine (sameM_self _ _ _ _ _ _ _ p4_5 q4_5).mono ?_
      rintro e w6 ⟨rfl, hb6⟩
      have hm_6 := hm_5.below hb6
      have hx_6 := hx_5.below hb6
      have p2_6 := p2_5.below hb6
      have q2_6 := q2_5.below hb6
      have p4_6 := p4_5.below hb6
      have q4_6 := q4_5.below hb6
      have hB6 := step_trans hB5 hb6
      clear hm_5 hx_5 p2_5 q2_5 p4_5 q4_5 hB5 hb6
      go_wp2_with fail
      refine (signed_any _ _ _ _ _ _ _ _ _ hm_6 hx_6).mono ?_
      rintro e w7 ⟨A6, c6, rfl, hp, hb7⟩
      have hm_7 := hm_6.below hb7
      have hx_7 := hx_6.below hb7
      have p2_7 := p2_6.below hb7
      have q2_7 := q2_6.below hb7
      have p4_7 := p4_6.below hb7
      have q4_7 := q4_6.below hb7
      have hB7 := step_trans hB6 hb7
      have p6_7 := hp
      clear hm_6 hx_6 p2_6 q2_6 p4_6 q4_6 hB6 hb7
      go_wp2_with fail
      refine (rsigned_any _ _ _ _ _ _ _ _ _ hm_7 hx_7).mono ?_
      rintro e w8 ⟨A7, c7, rfl, hq, hb8⟩
      have hm_8 := hm_7.below hb8
      have hx_8 := hx_7.below hb8
      have p2_8 := p2_7.below hb8
      have q2_8 := q2_7.below hb8
      have p4_8 := p4_7.below hb8
      have q4_8 := q4_7.below hb8
      have p6_8 := p6_7.below hb8
      have hB8 := step_trans hB7 hb8
      have q6_8 := hq
      clear hm_7 hx_7 p2_7 q2_7 p4_7 q4_7 p6_7 hB7 hb8
      go_wp2_with fail
      refine (sameM_self _ _ _ _ _ _ _ p6_8 q6_8).mono ?_
      rintro e w9 ⟨rfl, hb9⟩
      have hm_9 := hm_8.below hb9
      have hx_9 := hx_8.below hb9
      have p2_9 := p2_8.below hb9
      have q2_9 := q2_8.below hb9
      have p4_9 := p4_8.below hb9
      have q4_9 := q4_8.below hb9
      have p6_9 := p6_8.below hb9
      have q6_9 := q6_8.below hb9
      have hB9 := step_trans hB8 hb9
      clear hm_8 hx_8 p2_8 q2_8 p4_8 q4_8 p6_8 q6_8 hB8 hb9
      go_wp2_with fail
      refine (awake_any _).mono ?_
      rintro e w10 ⟨rfl, hb10⟩
      have hm_10 := hm_9.below hb10
      have hx_10 := hx_9.below hb10
      have p2_10 := p2_9.below hb10
      have q2_10 := q2_9.below hb10
      have p4_10 := p4_9.below hb10
      have q4_10 := q4_9.below hb10
      have p6_10 := p6_9.below hb10
      have q6_10 := q6_9.below hb10
      have hB10 := step_trans hB9 hb10
      clear hm_9 hx_9 p2_9 q2_9 p4_9 q4_9 p6_9 q6_9 hB9 hb10
      go_wp2
      go_ret
      exact ⟨rfl, hB10⟩
    · go_wp2_with fail
      refine (awake_any _).mono ?_
      rintro e w1 ⟨rfl, hb1⟩
      go_wp2
      go_ret
      exact ⟨rfl, step_trans (hz1 _ _) hb1⟩

end Go.Proofs.Ytkkmlcengneomaa
