/- Contracts of pic's Turned and Mirrored. No condition. -/
import Derived.Test.YtahccnljckgjmaaP12
namespace Go.Proofs.Ytahccnljckgjmaa
open Go.RowKit Ls

set_option maxRecDepth 100000 in
set_option maxHeartbeats 1000000 in
theorem moved_bad (A : Option Addr) (n c : Nat) (W H t : Int) (l : List Int) (w : World) (h : SI w A n c l) (hv : validP W H l = false) :
    Calls Try.prog 64 #[.agg #[.int .i64 W, .int .i64 H, .slice A n c], .int .i64 t] w fun e w' => e = .returned (.tuple #[.agg #[.int .i64 0, .int .i64 0, .slice none 0 0], .int .i64 1]) ∧ Below w.heap.size w w' := by
  have hb0 := step_trans (below_alloc w (.cells #[.int .i64 W, .int .i64 H, .slice A n c] 30)) (below_alloc _ (.cells #[.int .i64 0, .int .i64 0, .slice none 0 0] 30))
  have hc2 := PBox.new (w.alloc (.cells #[.int .i64 W, .int .i64 H, .slice A n c] 30)) 0 0 (.slice none 0 0) 30
  have hf2 := FBox.new (w.alloc (.cells #[.int .i64 W, .int .i64 H, .slice A n c] 30)) #[.int .i64 0, .int .i64 0, .slice none 0 0] 30
  rw [World.size_alloc] at hc2 hf2
  have va := Valid_any A n c W H l _ (h.below hb0)
  rw [hv] at va
  have Va := hidx va
  clear va hv
  go_enter Try.func64, Try.ntmps64
  go_wp2_with fail
  refine Va.out.mono ?_
  rintro e w1 ⟨rfl, hbv⟩
  have hB1 := step_trans hb0 hbv
  obtain ⟨d1, d2, d3⟩ := hc2.below hbv
  obtain ⟨-, d4⟩ := hf2.below hbv
  go_wp2
  refine bodyPost_ret (v := .tuple #[.agg #[.int .i64 0, .int .i64 0, .slice none 0 0], .int .i64 1]) (by simp [results, Try.results64, go_sem, d1, d2, d3]) rfl ⟨rfl, ?_⟩
  exact ((hB1.setCell (by simp) _).setCell (by simp) _).setCell (by simp) _

/-- moved, for every picture and motion. -/
theorem moved_any (A : Option Addr) (n c t : Nat) (W H : Int) (l : List Int) (w : World) (h : SI w A n c l) (ht : t < 5) :
    Calls Try.prog 64 #[.agg #[.int .i64 W, .int .i64 H, .slice A n c], .int .i64 t] w fun e w' => ∃ A' c', e = .returned (.tuple #[.agg #[.int .i64 (movR t W H l).1, .int .i64 (movR t W H l).2.1, .slice A' (movR t W H l).2.2.length c'], .int .i64 (movE W H l)]) ∧ SI w' A' (movR t W H l).2.2.length c' (movR t W H l).2.2 ∧ Fresh w A' ∧ Below w.heap.size w w' := by
  unfold movR movE
  cases hv : validP W H l with
  | false => exact (moved_bad A n c W H t l w h hv).mono fun e w' ⟨h1, h2⟩ => ⟨none, 0, h1, SI.nil _, Fresh.none _, h2⟩
  | true =>
    obtain ⟨a, b, hp⟩ := IsPic.of hv
    obtain ⟨rfl, rfl, p1, p2, p3, p4, p5, p6, -⟩ := hp
    have hl := h.len
    simp only [if_true, Int.toNat_natCast]
    rw [movTo_len, hl]
    rw [hl] at p5
    have ht' : t = 0 ∨ t = 1 ∨ t = 2 ∨ t = 3 ∨ t = 4 := by omega
    rcases ht' with rfl | rfl | rfl | rfl | rfl
    · exact moved0 A n c a b l w h hv p1 p2 p3 p4 p5
    · exact moved1 A n c a b l w h hv p1 p2 p3 p4 p5
    · exact moved2 A n c a b l w h hv p1 p2 p3 p4 p5
    · exact moved3 A n c a b l w h hv p1 p2 p3 p4 p5
    · exact moved4 A n c a b l w h hv p1 p2 p3 p4 p5

set_option maxRecDepth 100000 in
set_option maxHeartbeats 1000000 in
theorem Turned_any (A : Option Addr) (n c : Nat) (W H q: Int) (l : List Int) (w : World) (h : SI w A n c l) :
    Calls Try.prog 37 #[.agg #[.int .i64 W, .int .i64 H, .slice A n c], .int .i64 q] w fun e w' => ∃ A' c', e = .returned (.tuple #[.agg #[.int .i64 (movR (quart q) W H l).1, .int .i64 (movR (quart q) W H l).2.1, .slice A' (movR (quart q) W H l).2.2.length c'], .int .i64 (movE W H l)]) ∧ SI w' A' (movR (quart q) W H l).2.2.length c' (movR (quart q) W H l).2.2 ∧ Fresh w A' ∧ Below w.heap.size w w' := by
  have hb0 := step_trans (below_alloc w (.cells #[.int .i64 W, .int .i64 H, .slice A n c] 30)) (below_alloc _ (.cells #[.int .i64 0, .int .i64 0, .slice none 0 0] 30))
  have hc2 := PBox.new (w.alloc (.cells #[.int .i64 W, .int .i64 H, .slice A n c] 30)) 0 0 (.slice none 0 0) 30
  have hf2 := FBox.new (w.alloc (.cells #[.int .i64 W, .int .i64 H, .slice A n c] 30)) #[.int .i64 0, .int .i64 0, .slice none 0 0] 30
  rw [World.size_alloc] at hc2 hf2
  have mv := moved_any A n c (quart q) W H l _ (h.below hb0) (by unfold quart; omega)
  rw [show ((quart q : Nat) : Int) = q % 4 by unfold quart; omega] at mv
  obtain ⟨R, hR⟩ : ∃ R, R = movR (quart q) W H l := ⟨_, rfl⟩
  rw [← hR] at mv ⊢
  obtain ⟨R1, R2, R3⟩ := R
  dsimp only at mv ⊢
  have Mv := hidx mv
  clear mv hR
  go_enter Try.func37, Try.ntmps37
  go_wp2_with fail
  rw [i64_and3]
  refine Mv.out.mono ?_
  rintro e w1 ⟨A1, c1, rfl, r1, fr, hbv⟩
  have hB1 := step_trans hb0 hbv
  obtain ⟨d1, d2, d3⟩ := hc2.below hbv
  obtain ⟨-, d4⟩ := hf2.below hbv
  have hgl : w.heap.size + 2 ≤ w1.heap.size := by have := hbv.size; simp at this; omega
  go_wp2
  refine bodyPost_ret (v := .tuple #[.agg #[.int .i64 R1, .int .i64 R2, .slice A1 R3.length c1], .int .i64 (movE W H l)]) (by simp [results, Try.results37, go_sem, d1, d2, d3]) rfl ⟨A1, c1, rfl, ?_, fr.le (by simp; omega), ?_⟩
  · have hfr := fun ad e => fr ad e
    simp only [World.size_alloc] at hfr
    exact SI.other (SI.other (SI.other r1 _ (by intro ad e; have := hfr ad e; simp; omega) _) _ (by intro ad e; have := hfr ad e; simp; omega) _) _ (by intro ad e; have := hfr ad e; simp; omega) _
  · exact ((hB1.setCell (by simp) _).setCell (by simp) _).setCell (by simp) _

set_option maxRecDepth 100000 in
set_option maxHeartbeats 1000000 in
theorem Mirrored_any (A : Option Addr) (n c : Nat) (W H : Int) (l : List Int) (w : World) (h : SI w A n c l) :
    Calls Try.prog 39 #[.agg #[.int .i64 W, .int .i64 H, .slice A n c]] w fun e w' => ∃ A' c', e = .returned (.tuple #[.agg #[.int .i64 (movR (4) W H l).1, .int .i64 (movR (4) W H l).2.1, .slice A' (movR (4) W H l).2.2.length c'], .int .i64 (movE W H l)]) ∧ SI w' A' (movR (4) W H l).2.2.length c' (movR (4) W H l).2.2 ∧ Fresh w A' ∧ Below w.heap.size w w' := by
  have hb0 := step_trans (below_alloc w (.cells #[.int .i64 W, .int .i64 H, .slice A n c] 30)) (below_alloc _ (.cells #[.int .i64 0, .int .i64 0, .slice none 0 0] 30))
  have hc2 := PBox.new (w.alloc (.cells #[.int .i64 W, .int .i64 H, .slice A n c] 30)) 0 0 (.slice none 0 0) 30
  have hf2 := FBox.new (w.alloc (.cells #[.int .i64 W, .int .i64 H, .slice A n c] 30)) #[.int .i64 0, .int .i64 0, .slice none 0 0] 30
  rw [World.size_alloc] at hc2 hf2
  have mv := moved_any A n c (4) W H l _ (h.below hb0) (by omega)
  skip
  obtain ⟨R, hR⟩ : ∃ R, R = movR (4) W H l := ⟨_, rfl⟩
  rw [← hR] at mv ⊢
  obtain ⟨R1, R2, R3⟩ := R
  dsimp only at mv ⊢
  have Mv := hidx mv
  clear mv hR
  go_enter Try.func39, Try.ntmps39
  go_wp2_with fail
  skip
  refine Mv.out.mono ?_
  rintro e w1 ⟨A1, c1, rfl, r1, fr, hbv⟩
  have hB1 := step_trans hb0 hbv
  obtain ⟨d1, d2, d3⟩ := hc2.below hbv
  obtain ⟨-, d4⟩ := hf2.below hbv
  have hgl : w.heap.size + 2 ≤ w1.heap.size := by have := hbv.size; simp at this; omega
  go_wp2
  refine bodyPost_ret (v := .tuple #[.agg #[.int .i64 R1, .int .i64 R2, .slice A1 R3.length c1], .int .i64 (movE W H l)]) (by simp [results, Try.results39, go_sem, d1, d2, d3]) rfl ⟨A1, c1, rfl, ?_, fr.le (by simp; omega), ?_⟩
  · have hfr := fun ad e => fr ad e
    simp only [World.size_alloc] at hfr
    exact SI.other (SI.other (SI.other r1 _ (by intro ad e; have := hfr ad e; simp; omega) _) _ (by intro ad e; have := hfr ad e; simp; omega) _) _ (by intro ad e; have := hfr ad e; simp; omega) _
  · exact ((hB1.setCell (by simp) _).setCell (by simp) _).setCell (by simp) _

end Go.Proofs.Ytahccnljckgjmaa
