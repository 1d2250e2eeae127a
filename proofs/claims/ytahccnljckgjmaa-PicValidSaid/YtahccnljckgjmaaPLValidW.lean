/- The walk of the law PicValid: it returns true, and writes nothing that was there. No condition. -/
import Derived.Test.YtahccnljckgjmaaP7
namespace Go.Proofs.Ytahccnljckgjmaa
open Go.RowKit Ls

set_option maxRecDepth 100000 in
set_option maxHeartbeats 4000000 in
theorem picValid_walk {A X : Option Addr} {n c k d : Nat} {W H x y : Int} {l z : List Int} (w : World) (hp : SI w A n c l) (hx : SI w X k d z) :
    Calls Try.prog 4 #[.agg #[.int .i64 W, .int .i64 H, .slice A n c], .slice X k d, .agg #[.int .i64 x, .int .i64 y]] w fun e w' => e = .returned (.bool true) ∧ Below w.heap.size w w' := by
  have hb1 := below_alloc w (.cells #[.int .i64 W, .int .i64 H, .slice A n c] 30)
  have hb2 := step_trans hb1 (below_alloc _ (.cells #[.int .i64 x, .int .i64 y] 31))
  have hl2 := SM.new2 22 (hp.below hb2) (hx.below hb2)
  have hB0 := step_trans hb2 (below_alloc _ (.cells #[.slice A n c, .slice X k d] 22))
  have hp0 := hp.below hB0
  have hx0 := hx.below hB0
  have hc := (PBox.new w W H (.slice A n c) 30).below (step_trans (below_alloc _ (.cells #[.int .i64 x, .int .i64 y] 31)) (below_alloc _ (.cells #[.slice A n c, .slice X k d] 22)))
  rw [World.size_alloc, World.size_alloc] at hl2
  have hq1 : (((w.alloc (.cells #[.int .i64 W, .int .i64 H, .slice A n c] 30)).alloc (.cells #[.int .i64 x, .int .i64 y] 31)).alloc (.cells #[.slice A n c, .slice X k d] 22)).cell? ⟨w.heap.size + 1, 0, none⟩ = some (.int .i64 x) := by
    rw [(below_alloc _ _).cell (by simp)]; simp
  have hq2 : (((w.alloc (.cells #[.int .i64 W, .int .i64 H, .slice A n c] 30)).alloc (.cells #[.int .i64 x, .int .i64 y] 31)).alloc (.cells #[.slice A n c, .slice X k d] 22)).cell? ⟨w.heap.size + 1, 1, none⟩ = some (.int .i64 y) := by
    rw [(below_alloc _ _).cell (by simp)]; simp
  clear hp hx hb1 hb2
  go_enter Try.func4, Try.ntmps4
  go_wp2_with fail
  refine (long_any _ 2 2 [l, z] _ hl2).mono ?_
  rintro e w0 ⟨b, rfl, rfl⟩
  clear hl2
  cases b
  case true =>
    go_wp2_with fail
    refine (awake_any _).mono ?_
    rintro e w1 ⟨rfl, hb1⟩
    go_wp2
    go_ret
    exact ⟨rfl, step_trans hB0 hb1⟩
  case false =>
    go_wp2_with fail
    refine (At_any _ _ _ _ _ _ _ _ _ hp0).mono ?_
    rintro e w1 ⟨rfl, hb1⟩
    have hp1 := hp0.below hb1
    have hx1 := hx0.below hb1
    have hB1 := step_trans hB0 hb1
    obtain ⟨d0, d1, d2⟩ := hc.below hb1
    have d3 := Below.cell_of hb1 hq1
    have d4 := Below.cell_of hb1 hq2
    clear hp0 hx0 hB0
    go_wp2_with fail
    refine (rAt_any _ _ _ _ _ _ _ _ _ hp1).mono ?_
    rintro e w2 ⟨rfl, hb2⟩
    have hp2 := hp1.below hb2
    have hx2 := hx1.below hb2
    have hB2 := step_trans hB1 hb2
    have hc2 := (hc.below hb1).below hb2
    clear d0 d1 d2 d3 d4
    obtain ⟨d0, d1, d2⟩ := hc2
    clear hp1 hx1 hB1 hc hq1 hq2 hb1 hb2
    go_wp2_with fail
    have hp3 : SI w2.drew A n c l := hp2
    have hx3 : SI w2.drew X k d z := hx2
    have hB3 : Below w.heap.size w w2.drew := below_drewN hB2 1
    have K3 : w2.drew.cell? ⟨w.heap.size, 0, none⟩ = some (.int .i64 W) ∧ w2.drew.cell? ⟨w.heap.size, 1, none⟩ = some (.int .i64 H) ∧ w2.drew.cell? ⟨w.heap.size, 2, none⟩ = some (.slice A n c) := ⟨d0, d1, d2⟩
    clear hp2 hx2 hB2
    go_region_held3 (fun w' => w'.cell? ⟨w.heap.size, 0, none⟩ = some (.int .i64 W) ∧ w'.cell? ⟨w.heap.size, 1, none⟩ = some (.int .i64 H) ∧ w'.cell? ⟨w.heap.size, 2, none⟩ = some (.slice A n c))
      (first | exact K3 | exact K4 | exact K5 | exact K6 | exact K8 | exact K10 | go_keep)
      (first
        | (go_at_call 20; refine (Valid_any _ _ _ _ _ _ _ hp3).mono ?_; rintro e w4 ⟨rfl, hb4⟩; have hp4 := hp3.below hb4; have hx4 := hx3.below hb4; have hB4 := hB3.trans (hb4.mono hB3.size); have K4 := PBox.below K3 hb4; clear hb4 hp3 hx3 hB3 K3)
        | (go_at_call 21; refine (rValid_any _ _ _ _ _ _ _ hp4).mono ?_; rintro e w5 ⟨rfl, hb5⟩; have hx5 := hx4.below hb5; have hB5 := hB4.trans (hb5.mono hB4.size); have K5 := PBox.below K4 hb5; clear hb5 hp4 hx4 hB4 K4)
        | (go_at_call 22; refine (validList_any _ _ _ _ _ hx5).mono ?_; rintro e w6 ⟨rfl, hb6⟩; have hx6 := hx5.below hb6; have hB6 := hB5.trans (hb6.mono hB5.size); have K6 := PBox.below K5 hb6; clear hb6 hx5 hB5 K5)
        | (go_at_call 17; refine (rvalidList_any _ _ _ _ _ hx6).mono ?_; rintro e w7 ⟨rfl, rfl⟩)
        | (go_at_call 23; refine (Power_any _ _ _ _ _ hx6).mono ?_; rintro e w8 ⟨rfl, hb8⟩; have hx8 := hx6.below hb8; have hB8 := hB6.trans (hb8.mono hB6.size); have K8 := PBox.below K6 hb8; clear hb8 hx6 hB6 K6)
        | (go_at_call 14; refine (rPower_any _ _ _ _ _ hx8).mono ?_; rintro e w9 ⟨rfl, rfl⟩)
        | (go_at_call 15; refine (awake_any _).mono ?_; rintro e w10 ⟨rfl, hb10⟩; have hB10 := hB8.trans (hb10.mono hB8.size); have K10 := PBox.below K8 hb10; clear hb10 hx8 hB8 K8))
    all_goals
      go_wp2
      go_ret
      exact ⟨rfl, hB10⟩

end Go.Proofs.Ytahccnljckgjmaa
