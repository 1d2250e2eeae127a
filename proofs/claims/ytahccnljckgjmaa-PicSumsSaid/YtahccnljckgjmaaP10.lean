/- The contract of lightsieveref01's Added. No condition. -/
import Derived.Test.YtahccnljckgjmaaPBox
import Derived.Test.YtahccnljckgjmaaPSq
namespace Go.Proofs.Ytahccnljckgjmaa
open Go.RowKit Ls

set_option maxRecDepth 100000 in
set_option maxHeartbeats 4000000 in
theorem rAdded_any (A B : Option Addr) (n m c d : Nat) (W H W' H' : Int) (l l' : List Int) (w : World) (ha : SI w A n c l) (hb : SI w B m d l') :
    Calls Try.prog 33 #[.agg #[.int .i64 W, .int .i64 H, .slice A n c], .agg #[.int .i64 W', .int .i64 H', .slice B m d]] w fun e w' => ∃ A' c', e = .returned (.tuple #[.agg #[.int .i64 (addR W H l W' H' l').1, .int .i64 (addR W H l W' H' l').2.1, .slice A' (addR W H l W' H' l').2.2.length c'], .int .i64 (addE W H l W' H' l')]) ∧ SI w' A' (addR W H l W' H' l').2.2.length c' (addR W H l W' H' l').2.2 ∧ Below w.heap.size w w' := by
  have hb0 := step_trans (below_alloc w (.cells #[.int .i64 W, .int .i64 H, .slice A n c] 30)) (below_alloc _ (.cells #[.int .i64 W', .int .i64 H', .slice B m d] 30))
  have hb00 := step_trans hb0 (below_alloc _ (.cells #[.int .i64 0, .int .i64 0, .slice none 0 0] 30))
  have hc1 := (PBox.new w W H (.slice A n c) 30).below (step_trans (below_alloc _ (.cells #[.int .i64 W', .int .i64 H', .slice B m d] 30)) (below_alloc _ (.cells #[.int .i64 0, .int .i64 0, .slice none 0 0] 30)))
  have hc2 := (PBox.new (w.alloc (.cells #[.int .i64 W, .int .i64 H, .slice A n c] 30)) W' H' (.slice B m d) 30).below (below_alloc _ (.cells #[.int .i64 0, .int .i64 0, .slice none 0 0] 30))
  have hc3 := PBox.new ((w.alloc (.cells #[.int .i64 W, .int .i64 H, .slice A n c] 30)).alloc (.cells #[.int .i64 W', .int .i64 H', .slice B m d] 30)) 0 0 (.slice none 0 0) 30
  rw [World.size_alloc] at hc2
  rw [World.size_alloc, World.size_alloc] at hc3
  have hf1 := (FBox.new w #[.int .i64 W, .int .i64 H, .slice A n c] 30).below (step_trans (below_alloc _ (.cells #[.int .i64 W', .int .i64 H', .slice B m d] 30)) (below_alloc _ (.cells #[.int .i64 0, .int .i64 0, .slice none 0 0] 30)))
  have hf3 := FBox.new ((w.alloc (.cells #[.int .i64 W, .int .i64 H, .slice A n c] 30)).alloc (.cells #[.int .i64 W', .int .i64 H', .slice B m d] 30)) #[.int .i64 0, .int .i64 0, .slice none 0 0] 30
  rw [World.size_alloc, World.size_alloc] at hf3
  have ha' := ha.below hb00
  have hb' := hb.below hb00
  have pr := rboth_any A B n m c d W H W' H' l l' _ ha' hb'
  have hla := hidx ha.len
  have hlb := hidx hb.len
  clear hb0
  by_cases h0 : pairE W H l W' H' l' = 0
  · have hk := pair_ok h0
    have hE : addE W H l W' H' l' = if validP W H (addL l l' n) then 0 else 4 := by unfold addE; rw [if_pos h0, hla.out]
    rw [h0] at pr
    have Pr := hidx pr
    obtain ⟨a, b, hp⟩ := IsPic.of hk.1
    have hn : n ≤ 256 := by have := hp.le; rw [hla.out] at this; exact this
    have hn1 : 0 < n := by
      have h1 := hp.len
      rw [hla.out] at h1
      rw [h1]
      exact Nat.mul_pos hp.w1 hp.h1
    have hmn : m = n := by have := hk.2.2.2.2; rw [hla.out, hlb.out] at this; exact this.symm
    subst hmn
    have HE := hidx hE
    clear pr h0 hk hp hE
    go_enter Try.func33, Try.ntmps33
    go_wp2_with fail
    refine Pr.out.mono ?_
    rintro e w1 ⟨rfl, hb1⟩
    have hB1 := step_trans hb00 hb1
    obtain ⟨g1, g2, g3⟩ := hc1.below hb1
    have k2 := hc2.below hb1
    have k3 := hc3.below hb1
    have f1 := hf1.below hb1
    have f3 := hf3.below hb1
    have hz : w.heap.size + 3 ≤ w1.heap.size := by have := hb1.size; simp at this; omega
    clear Pr hc1 hc2 hc3 hf1 hf3
    have w3c := Below.cell_of (below_alloc w1 (.cells #[.int .i64 W, .int .i64 H, .slice none 0 0] 30)) g3
    go_wp2
    clear w3c
    have n4 := PBox.new w1 W H (.slice none 0 0) 30
    have n5 := FBox.new w1 #[.int .i64 W, .int .i64 H, .slice none 0 0] 30
    have k1 := PBox.below ⟨g1, g2, g3⟩ (below_alloc w1 (.cells #[.int .i64 W, .int .i64 H, .slice none 0 0] 30))
    have k2 := k2.below (below_alloc w1 (.cells #[.int .i64 W, .int .i64 H, .slice none 0 0] 30))
    have k3 := k3.below (below_alloc w1 (.cells #[.int .i64 W, .int .i64 H, .slice none 0 0] 30))
    have f3 := f3.below (below_alloc w1 (.cells #[.int .i64 W, .int .i64 H, .slice none 0 0] 30))
    have hB2 := step_trans hB1 (below_alloc w1 (.cells #[.int .i64 W, .int .i64 H, .slice none 0 0] 30))
    clear g1 g2 g3 ha' hb' hb00 hb1 hB1 f1
    go_loopw [24] (fun i wr => ∃ (q : Nat) (A' : Option Addr) (c' : Nat), q ≤ m ∧ i = .int .i64 q ∧ wr.ownsRow (w1.heap.size + 1) 3 1 (.slice A' q c') q (ints (addL l l' q)) ∧ PBox wr w.heap.size W H (.slice A m c) ∧ PBox wr (w.heap.size + 1) W' H' (.slice B m d) ∧ PBox wr (w.heap.size + 1 + 1) 0 0 (.slice none 0 0) ∧ FBox wr (w.heap.size + 1 + 1) ∧ PBox wr w1.heap.size W H (.slice A' q c') ∧ FBox wr w1.heap.size ∧ Below w.heap.size w wr ∧ w1.heap.size + 1 ≤ wr.heap.size) (fun i _ => m - (intOf i).toNat)
    case atStart => exact ⟨0, none, 0, Nat.zero_le _, rfl, World.ownsRow_nil _ _ _ _, k1, k2, k3, f3, n4, n5, hB2, by simp⟩
    case round =>
      obtain ⟨q, A', c', hq, rfl, hown, j1, j2, j3, jf3, j4, jf4, hbr, hsz⟩ := hrel
      clear k1 k2 k3 f3 n4 n5 hB2
      by_cases hlt : q < m
      · obtain ⟨ad, rfl, hca⟩ := (ha.below hbr).at_ (by omega)
        obtain ⟨bd, rfl, hcb⟩ := (hb.below hbr).at_ (by omega)
        have x1 := hca q hlt
        have x2 := hcb q hlt
        have i0 : (0:Int) ≤ q := by omega
        have i1 : (q:Int) < m := by omega
        have HS := hidx (addL_snoc l l' q)
        have J := hidx (And.intro j1 (And.intro j2 (And.intro j3 (And.intro jf3 (And.intro j4 jf4)))))
        obtain ⟨-, -, y3⟩ := j1
        obtain ⟨-, -, y6⟩ := j2
        obtain ⟨-, -, y9⟩ := j4
        have y10 : ∀ o, (wr.alloc o).cell? ⟨w1.heap.size, 2, none⟩ = some (.slice A' q c') := fun o => Below.cell_of (below_alloc wr o) y9
        clear j3 jf3 jf4 hca hcb ha hb
        go_wp2
        go_region_law (first | (refine step_app1 eltI rfl (by rfl) _ _ (by rfl) (by rfl) (by rfl) hown (Below.refl (w1.heap.size + 1) wr) hsz (by rfl) (by omega) (by omega) ?_; intro A2 c2 w3 hown3 hb3 _ hc2 hc2'; obtain ⟨r1, r2, r3⟩ := J.out.2.2.2.2.1.under hb3 (Nat.lt_succ_self _); obtain ⟨-, r4⟩ := J.out.2.2.2.2.2.under hb3 (Nat.lt_succ_self _)))
        all_goals go_wp2
        all_goals
          go_roundw
          case rel =>
            refine ⟨q + 1, A2, c2, by omega, by go_num, ownsRow_setCell_below (by rw [HS.out, ← ints_snoc, ← wrapEq]; exact hown3) (by simp) _, (J.out.1.under hb3 (by omega)).other _ (by simp; omega) _, (J.out.2.1.under hb3 (by omega)).other _ (by simp; omega) _, (J.out.2.2.1.under hb3 (by omega)).other _ (by simp; omega) _, (J.out.2.2.2.1.under hb3 (by omega)).set _ _, (J.out.2.2.2.2.1.under hb3 (by omega)).set2 _, (J.out.2.2.2.2.2.under hb3 (by omega)).set _ _, ?_, ?_⟩
            · exact (hbr.trans (hb3.mono (by omega))).setCell (by simp; omega) _
            · have := hb3.size; simp; omega
          case measure => simp [intOf]; omega
      · have hqm : q = m := by omega
        subst hqm
        have hs := own_SI hown
        have vl := fun V h => rValid_any A' q c' W H (addL l l' q) V h
        obtain ⟨y1, y2, y3⟩ := j4
        clear ha hb j1 j2 jf4
        have hA : ∀ ad, A' = some ad → w1.heap.size + 1 ≤ ad.block := fun ad e => by
          obtain ⟨A1, c1, hv, -, -, hg⟩ := own_form hown
          injection hv with ea _ _
          obtain ⟨g, e2, h1, h2⟩ := hg hn1
          rw [← ea, e] at e2
          cases e2
          exact h1
        clear hown
        cases hv : validP W H (addL l l' q) with
        | true =>
          rw [hv] at vl
          have Vl := hidx vl
          have e1 : addE W H l W' H' l' = 0 := by rw [HE.out, hv]; rfl
          have e2 : addR W H l W' H' l' = (W, H, addL l l' q) := by unfold addR; rw [if_pos e1, hla.out]
          have F := hidx (And.intro e1 e2)
          have e4 := hidx (addL_len l l' q)
          have HA := hidx hA
          clear vl hv e1 e2 hA
          go_wp2_with fail
          refine (Vl.out _ hs).mono ?_
          rintro e w4 ⟨rfl, hb4⟩
          obtain ⟨z1, z2, z3⟩ := PBox.below ⟨y1, y2, y3⟩ hb4
          obtain ⟨z4, z5, z6⟩ := j3.below hb4
          obtain ⟨-, z7⟩ := jf3.below hb4
          have hs4 := hs.below hb4
          have hB5 := hbr.trans (hb4.mono hbr.size)
          clear y1 y2 y3 j3 hs hb4
          go_wp2
          rw [F.out.1, F.out.2]
          refine bodyPost_ret (v := .tuple #[.agg #[.int .i64 W, .int .i64 H, .slice A' q c'], .int .i64 0]) (by simp [results, Try.results33, go_sem, z4, z5, z6]) rfl ⟨A', c', by simp [e4.out], ?_, ?_⟩
          · rw [e4.out]
            exact SI.other (SI.other (SI.other hs4 _ (by intro ad e; have := HA.out ad e; simp; omega) _) _ (by intro ad e; have := HA.out ad e; simp; omega) _) _ (by intro ad e; have := HA.out ad e; simp; omega) _
          · exact ((hB5.setCell (by simp; omega) _).setCell (by simp; omega) _).setCell (by simp; omega) _
        | false =>
          rw [hv] at vl
          have Vl := hidx vl
          have e1 : addE W H l W' H' l' = 4 := by rw [HE.out, hv]; rfl
          have e2 : addR W H l W' H' l' = (0, 0, []) := by unfold addR; rw [if_neg (by omega)]
          have F := hidx (And.intro e1 e2)
          clear vl hv e1 e2 hA
          go_wp2_with fail
          refine (Vl.out _ hs).mono ?_
          rintro e w4 ⟨rfl, hb4⟩
          obtain ⟨z4, z5, z6⟩ := j3.below hb4
          obtain ⟨-, z7⟩ := jf3.below hb4
          have hB5 := hbr.trans (hb4.mono hbr.size)
          clear y1 y2 y3 j3 hs hb4
          go_wp2
          rw [F.out.1, F.out.2]
          refine bodyPost_ret (v := .tuple #[.agg #[.int .i64 0, .int .i64 0, .slice none 0 0], .int .i64 4]) (by simp [results, Try.results33, go_sem, z4, z5, z6]) rfl ⟨none, 0, rfl, SI.nil _, ?_⟩
          exact ((hB5.setCell (by simp; omega) _).setCell (by simp; omega) _).setCell (by simp; omega) _
  · have e1 : addE W H l W' H' l' = pairE W H l W' H' l' := by unfold addE; rw [if_neg h0]
    have e2 : addR W H l W' H' l' = (0, 0, []) := by unfold addR; rw [e1, if_neg h0]
    rw [e1, e2]
    have d1 : (pairE W H l W' H' l' != 0) = true := by rw [bne_iff_ne]; exact h0
    have Pr := hidx pr
    clear pr h0 e1 e2
    go_enter Try.func33, Try.ntmps33
    go_wp2_with fail
    refine Pr.out.mono ?_
    rintro e w1 ⟨rfl, hb1⟩
    have hB1 := step_trans hb00 hb1
    obtain ⟨k1, k2, k3⟩ := hc3.below hb1
    obtain ⟨-, k4⟩ := hf3.below hb1
    go_wp2
    refine bodyPost_ret (v := .tuple #[.agg #[.int .i64 0, .int .i64 0, .slice none 0 0], .int .i64 (pairE W H l W' H' l')]) (by simp [results, Try.results33, go_sem, k1, k2, k3]) rfl ⟨none, 0, rfl, SI.nil _, ?_⟩
    exact ((hB1.setCell (by simp; omega) _).setCell (by simp; omega) _).setCell (by simp; omega) _

end Go.Proofs.Ytahccnljckgjmaa
