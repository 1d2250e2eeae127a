/- The contract of pic's Added. No condition. -/
import Derived.Test.YtahccnljckgjmaaPBox
namespace Go.Proofs.Ytahccnljckgjmaa
open Go.RowKit Ls

set_option maxRecDepth 100000 in
set_option maxHeartbeats 4000000 in
theorem Added_any (A B : Option Addr) (n m c d : Nat) (W H W' H' : Int) (l l' : List Int) (w : World) (ha : SI w A n c l) (hb : SI w B m d l') :
    Calls Try.prog 32 #[.agg #[.int .i64 W, .int .i64 H, .slice A n c], .agg #[.int .i64 W', .int .i64 H', .slice B m d]] w fun e w' => ∃ A' c', e = .returned (.tuple #[.agg #[.int .i64 (addR W H l W' H' l').1, .int .i64 (addR W H l W' H' l').2.1, .slice A' (addR W H l W' H' l').2.2.length c'], .int .i64 (addE W H l W' H' l')]) ∧ SI w' A' (addR W H l W' H' l').2.2.length c' (addR W H l W' H' l').2.2 ∧ Below w.heap.size w w' := by
  have hb0 := step_trans (below_alloc w (.cells #[.int .i64 W, .int .i64 H, .slice A n c] 30)) (below_alloc _ (.cells #[.int .i64 W', .int .i64 H', .slice B m d] 30))
  have hb00 := step_trans hb0 (below_alloc _ (.cells #[.int .i64 0, .int .i64 0, .slice none 0 0] 30))
  have hc1 := (PBox.new w W H (.slice A n c) 30).below (step_trans (below_alloc _ (.cells #[.int .i64 W', .int .i64 H', .slice B m d] 30)) (below_alloc _ (.cells #[.int .i64 0, .int .i64 0, .slice none 0 0] 30)))
  have hc2 := (PBox.new (w.alloc (.cells #[.int .i64 W, .int .i64 H, .slice A n c] 30)) W' H' (.slice B m d) 30).below (below_alloc _ (.cells #[.int .i64 0, .int .i64 0, .slice none 0 0] 30))
  have hc3 := PBox.new ((w.alloc (.cells #[.int .i64 W, .int .i64 H, .slice A n c] 30)).alloc (.cells #[.int .i64 W', .int .i64 H', .slice B m d] 30)) 0 0 (.slice none 0 0) 30
  rw [World.size_alloc] at hc2
  rw [World.size_alloc, World.size_alloc] at hc3
  have hf1 := (FBox.new w #[.int .i64 W, .int .i64 H, .slice A n c] 30).below (step_trans (below_alloc _ (.cells #[.int .i64 W', .int .i64 H', .slice B m d] 30)) (below_alloc _ (.cells #[.int .i64 0, .int .i64 0, .slice none 0 0] 30)))
  have hf3 := FBox.new ((w.alloc (.cells #[.int .i64 W, .int .i64 H, .slice A n c] 30)).alloc (.cells #[.int .i64 W', .int .i64 H', .slice B m d] 30)) #[.int .i64 0, .int .i64 0, .slice none 0 0] 30
  rw [World.size_alloc, World.size_alloc] at hf3
  have ha' := ha.below hb00
  have hb' := hb.below hb00
  have pr := pair_any A B n m c d W H W' H' l l' _ ha' hb'
  have hla := hidx ha.len
  have hlb := hidx hb.len
  clear hb0
  by_cases h0 : pairE W H l W' H' l' = 0
  · have hk := pair_ok h0
    have hE : addE W H l W' H' l' = if validP W H (addL l l' n) then 0 else 4 := by unfold addE; rw [if_pos h0, hla.out]
    rw [h0] at pr
    have Pr := hidx pr
    obtain ⟨a, b, hp⟩ := IsPic.of hk.1
    have hn : n ≤ 256 := by have := hp.le; rw [hla.out] at this; exact this
    have hn1 : 0 < n := by
      have h1 := hp.len
      rw [hla.out] at h1
      rw [h1]
      exact Nat.mul_pos hp.w1 hp.h1
    have hmn : m = n := by have := hk.2.2.2.2; rw [hla.out, hlb.out] at this; exact this.symm
    subst hmn
    have HE := hidx hE
    clear pr h0 hk hp hE
    go_enter Try.func32, Try.ntmps32
    go_wp2_with fail
    refine Pr.out.mono ?_
    rintro e w1 ⟨rfl, hb1⟩
    have hB1 := step_trans hb00 hb1
    obtain ⟨g1, g2, g3⟩ := hc1.below hb1
    have k2 := hc2.below hb1
    have k3 := hc3.below hb1
    have f1 := hf1.below hb1
    have f3 := hf3.below hb1
    have hz : w.heap.size + 3 ≤ w1.heap.size := by have := hb1.size; simp at this; omega
    clear Pr hc1 hc2 hc3 hf1 hf3
    go_wp2_with fail
    refine (clone_any A m c l _ (ha'.below hb1) (by omega)).mono ?_
    rintro e w2 ⟨A2, c2, rfl, hown0, hb2⟩
    obtain ⟨A3, c3, hv, -, -, hg⟩ := own_form hown0
    injection hv with ea _ ec
    subst ea
    subst ec
    obtain ⟨g, rfl, hg1, hg2⟩ := hg (by omega)
    have k1 := PBox.below ⟨g1, g2, g3⟩ hb2
    have k2 := k2.below hb2
    have k3 := k3.below hb2
    have hB2 := step_trans hB1 hb2
    have f1 := f1.below hb2
    have f3 := f3.below hb2
    obtain ⟨-, fz1⟩ := f1
    have f3' := f3.set ⟨w.heap.size, 2, none⟩ (.slice (some ⟨g, 0, none⟩) m c2)
    clear f3
    have hz2 := hb2.size
    obtain ⟨p1, p2, p3⟩ := k1
    clear g1 g2 g3 ha' hb' hb00 hb1 hB1 hb2 hg
    have k1' := PBox.set2 (w := w2) (b := w.heap.size) ⟨p1, p2, p3⟩ (.slice (some ⟨g, 0, none⟩) m c2)
    have k2' := k2.other ⟨w.heap.size, 2, none⟩ (by simp) (.slice (some ⟨g, 0, none⟩) m c2)
    have k3' := k3.other ⟨w.heap.size, 2, none⟩ (by simp; omega) (.slice (some ⟨g, 0, none⟩) m c2)
    have hown1 := ownsRow_setCell_below hown0 (a := ⟨w.heap.size, 2, none⟩) (by simp; omega) (.slice (some ⟨g, 0, none⟩) m c2)
    have hB3 := hB2.setCell (p := ⟨w.heap.size, 2, none⟩) (Nat.le_refl _) (.slice (some ⟨g, 0, none⟩) m c2)
    have hgB : w.heap.size ≤ g := by omega
    have hown2 : (w2.setCell ⟨w.heap.size, 2, none⟩ (.slice (some ⟨g, 0, none⟩) m c2)).ownsRow w1.heap.size 3 1 (.slice (some ⟨g, 0, none⟩) m c2) m (ints (addTo l l' 0)) := by
      simpa [addTo, addL] using hown1
    have hq3 := k2'.2.2
    clear hown0 hown1 hB2 k3 k2
    go_wp2
    go_loopw [23] (fun i wr => ∃ q : Nat, q ≤ m ∧ i = .int .i64 q ∧ wr.ownsRow w1.heap.size 3 1 (.slice (some ⟨g, 0, none⟩) m c2) m (ints (addTo l l' q)) ∧ PBox wr w.heap.size W H (.slice (some ⟨g, 0, none⟩) m c2) ∧ PBox wr (w.heap.size + 1) W' H' (.slice B m d) ∧ PBox wr (w.heap.size + 1 + 1) 0 0 (.slice none 0 0) ∧ FBox wr (w.heap.size + 1 + 1) ∧ Below w.heap.size w wr) (fun i _ => m - (intOf i).toNat)
    case atStart => exact ⟨0, Nat.zero_le _, rfl, hown2, k1', k2', k3', f3', hB3⟩
    case round =>
      obtain ⟨q, hq, rfl, hown, j1, j2, j3, jf, hbr⟩ := hrel
      clear hown2 k1' k2' k3' f3' hB3 hq3 fz1 p1 p2 p3
      by_cases hlt : q < m
      · obtain ⟨bd, rfl, hcb⟩ := (hb.below hbr).at_ (by omega)
        have x1 := hcb q hlt
        have x2 := hown.cellAt q (by omega)
        rw [ints_get _ q (by rw [addTo_len _ _ _ (by rw [hla.out]; omega), hla.out]; exact hlt), addTo_nth _ _ _ (by rw [hla.out]; exact hlt)] at x2
        have x3 := hown.frozenAt q
        have st := hown.stored q (.int .i64 (wrap64 (nth l q + nth l' q)))
        rw [← ints_set, ← addTo_snoc l l' q (by rw [hla.out]; exact hlt)] at st
        have St := hidx st
        have j1' := j1.other ⟨g, q, none⟩ (by simp; omega) (.int .i64 (wrap64 (nth l q + nth l' q)))
        have j2' := j2.other ⟨g, q, none⟩ (by simp; omega) (.int .i64 (wrap64 (nth l q + nth l' q)))
        have j3' := j3.other ⟨g, q, none⟩ (by simp; omega) (.int .i64 (wrap64 (nth l q + nth l' q)))
        have J := hidx (And.intro j1' (And.intro j2' j3'))
        obtain ⟨y1, y2, y3⟩ := j1
        obtain ⟨y4, y5, y6⟩ := j2
        clear st j1' j2' j3' j3 hcb ha hb
        go_wp2
        go_roundw
        case rel => exact ⟨q + 1, by omega, by go_num, St.out.1, J.out.1, J.out.2.1, J.out.2.2, jf.set _ _, hbr.setCell hgB _⟩
        case measure => simp [intOf]; omega
      · have hqm : q = m := by omega
        subst hqm
        have e3 : addTo l l' q = addL l l' q := by have := addTo_all l l'; rw [hla.out] at this; exact this
        rw [e3] at hown
        have hs := own_SI hown
        have vl := fun V h => Valid_any (some ⟨g, 0, none⟩) q c2 W H (addL l l' q) V h
        obtain ⟨y1, y2, y3⟩ := j1
        clear e3 hown ha hb
        cases hv : validP W H (addL l l' q) with
        | true =>
          rw [hv] at vl
          have Vl := hidx vl
          have e1 : addE W H l W' H' l' = 0 := by rw [HE.out, hv]; rfl
          have e2 : addR W H l W' H' l' = (W, H, addL l l' q) := by unfold addR; rw [if_pos e1, hla.out]
          have F := hidx (And.intro e1 e2)
          have e4 := hidx (addL_len l l' q)
          clear vl hv e1 e2
          go_wp2_with fail
          refine (Vl.out _ hs).mono ?_
          rintro e w4 ⟨rfl, hb4⟩
          obtain ⟨z1, z2, z3⟩ := PBox.below ⟨y1, y2, y3⟩ hb4
          obtain ⟨z4, z5, z6⟩ := j3.below hb4
          obtain ⟨-, z7⟩ := jf.below hb4
          have hs4 := hs.below hb4
          have hB4 := hbr.trans (hb4.mono hbr.size)
          clear y1 y2 y3 j2 j3 hs hb4
          go_wp2
          rw [F.out.1, F.out.2]
          refine bodyPost_ret (v := .tuple #[.agg #[.int .i64 W, .int .i64 H, .slice (some ⟨g, 0, none⟩) q c2], .int .i64 0]) (by simp [results, Try.results32, go_sem, z4, z5, z6]) rfl ⟨some ⟨g, 0, none⟩, c2, by simp [e4.out], ?_, ?_⟩
          · rw [e4.out]
            exact SI.other (SI.other (SI.other hs4 _ (by intro ad e; cases e; simp; omega) _) _ (by intro ad e; cases e; simp; omega) _) _ (by intro ad e; cases e; simp; omega) _
          · exact ((hB4.setCell (by simp; omega) _).setCell (by simp; omega) _).setCell (by simp; omega) _
        | false =>
          rw [hv] at vl
          have Vl := hidx vl
          have e1 : addE W H l W' H' l' = 4 := by rw [HE.out, hv]; rfl
          have e2 : addR W H l W' H' l' = (0, 0, []) := by unfold addR; rw [if_neg (by omega)]
          have F := hidx (And.intro e1 e2)
          clear vl hv e1 e2
          go_wp2_with fail
          refine (Vl.out _ hs).mono ?_
          rintro e w4 ⟨rfl, hb4⟩
          obtain ⟨z4, z5, z6⟩ := j3.below hb4
          obtain ⟨-, z7⟩ := jf.below hb4
          have hB4 := hbr.trans (hb4.mono hbr.size)
          clear y1 y2 y3 j2 j3 hs hb4
          go_wp2
          rw [F.out.1, F.out.2]
          refine bodyPost_ret (v := .tuple #[.agg #[.int .i64 0, .int .i64 0, .slice none 0 0], .int .i64 4]) (by simp [results, Try.results32, go_sem, z4, z5, z6]) rfl ⟨none, 0, rfl, SI.nil _, ?_⟩
          exact ((hB4.setCell (by simp; omega) _).setCell (by simp; omega) _).setCell (by simp; omega) _
  · have e1 : addE W H l W' H' l' = pairE W H l W' H' l' := by unfold addE; rw [if_neg h0]
    have e2 : addR W H l W' H' l' = (0, 0, []) := by unfold addR; rw [e1, if_neg h0]
    rw [e1, e2]
    have d1 : (pairE W H l W' H' l' != 0) = true := by rw [bne_iff_ne]; exact h0
    have Pr := hidx pr
    clear pr h0 e1 e2
    go_enter Try.func32, Try.ntmps32
    go_wp2_with fail
    refine Pr.out.mono ?_
    rintro e w1 ⟨rfl, hb1⟩
    have hB1 := step_trans hb00 hb1
    obtain ⟨k1, k2, k3⟩ := hc3.below hb1
    obtain ⟨-, k4⟩ := hf3.below hb1
    go_wp2
    refine bodyPost_ret (v := .tuple #[.agg #[.int .i64 0, .int .i64 0, .slice none 0 0], .int .i64 (pairE W H l W' H' l')]) (by simp [results, Try.results32, go_sem, k1, k2, k3]) rfl ⟨none, 0, rfl, SI.nil _, ?_⟩
    exact ((hB1.setCell (by simp; omega) _).setCell (by simp; omega) _).setCell (by simp; omega) _

end Go.Proofs.Ytahccnljckgjmaa
