/- Contracts of the functions of pic and lightsieveref01 that take two pictures: Same, pair, both, Differ. No condition. -/
import Derived.Test.YtahccnljckgjmaaP7
namespace Go.Proofs.Ytahccnljckgjmaa
open Go.RowKit Ls

set_option maxHeartbeats 1000000 in
theorem Same_any (A B : Option Addr) (n m c d : Nat) (W H W' H' : Int) (l l' : List Int) (w : World) (ha : SI w A n c l) (hb : SI w B m d l') :
    Calls Try.prog 36 #[.agg #[.int .i64 W, .int .i64 H, .slice A n c], .agg #[.int .i64 W', .int .i64 H', .slice B m d]] w fun e w' => e = .returned (.bool (samePB W H l W' H' l')) ∧ Below w.heap.size w w' := by
  have hb0 := step_trans (below_alloc w (.cells #[.int .i64 W, .int .i64 H, .slice A n c] 30)) (below_alloc _ (.cells #[.int .i64 W', .int .i64 H', .slice B m d] 30))
  have sa := same_any A B n m c d l l' _ (ha.below hb0) (hb.below hb0)
  have Sa := hidx sa
  clear sa ha hb
  unfold samePB
  by_cases h1 : W = W'
  · subst h1
    by_cases h2 : H = H'
    · subst h2
      go_enter Try.func36, Try.ntmps36
      go_wp2_with fail
      refine Sa.out.mono ?_
      rintro e w1 ⟨rfl, hb1⟩
      go_wp2
      go_ret
      exact ⟨ret_bool (by simp), step_trans hb0 hb1⟩
    · have d2 : (H == H') = false := by rw [beq_eq_false_iff_ne]; exact h2
      have D2 := hidx h2
      clear h2
      go_enter Try.func36, Try.ntmps36
      go_wp2_with fail
      go_ret
      exact ⟨ret_bool (by simp [D2.out]), hb0⟩
  · have d1 : (W == W') = false := by rw [beq_eq_false_iff_ne]; exact h1
    have D1 := hidx h1
    clear h1
    go_enter Try.func36, Try.ntmps36
    go_wp2_with fail
    go_ret
    exact ⟨ret_bool (by simp [D1.out]), hb0⟩

set_option maxHeartbeats 1000000 in
theorem pair_any (A B : Option Addr) (n m c d : Nat) (W H W' H' : Int) (l l' : List Int) (w : World) (ha : SI w A n c l) (hb : SI w B m d l') :
    Calls Try.prog 62 #[.agg #[.int .i64 W, .int .i64 H, .slice A n c], .agg #[.int .i64 W', .int .i64 H', .slice B m d]] w fun e w' => e = .returned (.int .i64 (pairE W H l W' H' l')) ∧ Below w.heap.size w w' := by
  have hb0 := step_trans (below_alloc w (.cells #[.int .i64 W, .int .i64 H, .slice A n c] 30)) (below_alloc _ (.cells #[.int .i64 W', .int .i64 H', .slice B m d] 30))
  have hc1 := (PBox.new w W H (.slice A n c) 30).below (below_alloc _ (.cells #[.int .i64 W', .int .i64 H', .slice B m d] 30))
  have hc2 := PBox.new (w.alloc (.cells #[.int .i64 W, .int .i64 H, .slice A n c] 30)) W' H' (.slice B m d) 30
  rw [World.size_alloc] at hc2
  have hb' := hb.below hb0
  have va := Valid_any A n c W H l _ (ha.below hb0)
  have vb := fun V h => Valid_any B m d W' H' l' V h
  clear ha hb
  cases q1 : validP W H l with
  | false =>
    have hE : pairE W H l W' H' l' = 1 := by unfold pairE; rw [q1]; rfl
    rw [hE]
    rw [q1] at va
    have Va := hidx va
    clear va vb q1 hc1 hc2 hE
    go_enter Try.func62, Try.ntmps62
    go_wp2_with fail
    refine Va.out.mono ?_
    rintro e w1 ⟨rfl, hb1⟩
    go_wp2
    go_ret
    exact ⟨rfl, step_trans hb0 hb1⟩
  | true =>
    rw [q1] at va
    have Va := hidx va
    clear va
    cases q2 : validP W' H' l' with
    | false =>
      have hE : pairE W H l W' H' l' = 1 := by unfold pairE; rw [q1, q2]; rfl
      rw [hE]
      rw [q2] at vb
      have Vb := hidx vb
      clear vb q2 q1 hE
      go_enter Try.func62, Try.ntmps62
      go_wp2_with fail
      refine Va.out.mono ?_
      rintro e w1 ⟨rfl, hb1⟩
      obtain ⟨g1, g2, g3⟩ := hc2.below hb1
      clear hc1 hc2
      go_wp2_with fail
      refine (Vb.out _ (hb'.below hb1)).mono ?_
      rintro e w2 ⟨rfl, hb2⟩
      go_wp2
      go_ret
      exact ⟨rfl, step_trans hb0 (step_trans hb1 hb2)⟩
    | true =>
      rw [q2] at vb
      have Vb := hidx vb
      clear vb
      by_cases h1 : W = W'
      · subst h1
        by_cases h2 : H = H'
        · subst h2
          have hE : pairE W H l W H l' = 0 := by unfold pairE; rw [q1, q2]; simp
          rw [hE]
          clear q1 q2 hE
          go_enter Try.func62, Try.ntmps62
          go_wp2_with fail
          refine Va.out.mono ?_
          rintro e w1 ⟨rfl, hb1⟩
          obtain ⟨g1, g2, g3⟩ := hc2.below hb1
          go_wp2_with fail
          refine (Vb.out _ (hb'.below hb1)).mono ?_
          rintro e w2 ⟨rfl, hb2⟩
          clear g1 g2 g3
          obtain ⟨g1, g2, g3⟩ := (hc2.below hb1).below hb2
          obtain ⟨g4, g5, g6⟩ := (hc1.below hb1).below hb2
          clear hc1 hc2
          go_wp2
          go_ret
          exact ⟨rfl, step_trans hb0 (step_trans hb1 hb2)⟩
        · have hE : pairE W H l W H' l' = 9 := by unfold pairE; rw [q1, q2, decide_eq_false h2]; simp
          rw [hE]
          have d2 : (H != H') = true := by rw [bne_iff_ne]; exact h2
          clear h2 q1 q2 hE
          go_enter Try.func62, Try.ntmps62
          go_wp2_with fail
          refine Va.out.mono ?_
          rintro e w1 ⟨rfl, hb1⟩
          obtain ⟨g1, g2, g3⟩ := hc2.below hb1
          go_wp2_with fail
          refine (Vb.out _ (hb'.below hb1)).mono ?_
          rintro e w2 ⟨rfl, hb2⟩
          clear g1 g2 g3
          obtain ⟨g1, g2, g3⟩ := (hc2.below hb1).below hb2
          obtain ⟨g4, g5, g6⟩ := (hc1.below hb1).below hb2
          clear hc1 hc2
          go_wp2
          go_ret
          exact ⟨rfl, step_trans hb0 (step_trans hb1 hb2)⟩
      · have hE : pairE W H l W' H' l' = 9 := by unfold pairE; rw [q1, q2, decide_eq_false h1]; simp
        rw [hE]
        have d1 : (W != W') = true := by rw [bne_iff_ne]; exact h1
        clear h1 q1 q2 hE
        go_enter Try.func62, Try.ntmps62
        go_wp2_with fail
        refine Va.out.mono ?_
        rintro e w1 ⟨rfl, hb1⟩
        obtain ⟨g1, g2, g3⟩ := hc2.below hb1
        go_wp2_with fail
        refine (Vb.out _ (hb'.below hb1)).mono ?_
        rintro e w2 ⟨rfl, hb2⟩
        clear g1 g2 g3
        obtain ⟨g1, g2, g3⟩ := (hc2.below hb1).below hb2
        obtain ⟨g4, g5, g6⟩ := (hc1.below hb1).below hb2
        clear hc1 hc2
        go_wp2
        go_ret
        exact ⟨rfl, step_trans hb0 (step_trans hb1 hb2)⟩

set_option maxHeartbeats 1000000 in
theorem rboth_any (A B : Option Addr) (n m c d : Nat) (W H W' H' : Int) (l l' : List Int) (w : World) (ha : SI w A n c l) (hb : SI w B m d l') :
    Calls Try.prog 63 #[.agg #[.int .i64 W, .int .i64 H, .slice A n c], .agg #[.int .i64 W', .int .i64 H', .slice B m d]] w fun e w' => e = .returned (.int .i64 (pairE W H l W' H' l')) ∧ Below w.heap.size w w' := by
  have hb0 := step_trans (below_alloc w (.cells #[.int .i64 W, .int .i64 H, .slice A n c] 30)) (below_alloc _ (.cells #[.int .i64 W', .int .i64 H', .slice B m d] 30))
  have hc1 := (PBox.new w W H (.slice A n c) 30).below (below_alloc _ (.cells #[.int .i64 W', .int .i64 H', .slice B m d] 30))
  have hc2 := PBox.new (w.alloc (.cells #[.int .i64 W, .int .i64 H, .slice A n c] 30)) W' H' (.slice B m d) 30
  rw [World.size_alloc] at hc2
  have hb' := hb.below hb0
  have va := rValid_any A n c W H l _ (ha.below hb0)
  have vb := fun V h => rValid_any B m d W' H' l' V h
  clear ha hb
  cases q1 : validP W H l with
  | false =>
    have hE : pairE W H l W' H' l' = 1 := by unfold pairE; rw [q1]; rfl
    rw [hE]
    rw [q1] at va
    have Va := hidx va
    clear va vb q1 hc1 hc2 hE
    go_enter Try.func63, Try.ntmps63
    go_wp2_with fail
    refine Va.out.mono ?_
    rintro e w1 ⟨rfl, hb1⟩
    go_wp2
    go_ret
    exact ⟨rfl, step_trans hb0 hb1⟩
  | true =>
    rw [q1] at va
    have Va := hidx va
    clear va
    cases q2 : validP W' H' l' with
    | false =>
      have hE : pairE W H l W' H' l' = 1 := by unfold pairE; rw [q1, q2]; rfl
      rw [hE]
      rw [q2] at vb
      have Vb := hidx vb
      clear vb q2 q1 hE
      go_enter Try.func63, Try.ntmps63
      go_wp2_with fail
      refine Va.out.mono ?_
      rintro e w1 ⟨rfl, hb1⟩
      obtain ⟨g1, g2, g3⟩ := hc2.below hb1
      clear hc1 hc2
      go_wp2_with fail
      refine (Vb.out _ (hb'.below hb1)).mono ?_
      rintro e w2 ⟨rfl, hb2⟩
      go_wp2
      go_ret
      exact ⟨rfl, step_trans hb0 (step_trans hb1 hb2)⟩
    | true =>
      rw [q2] at vb
      have Vb := hidx vb
      clear vb
      by_cases h1 : W = W'
      · subst h1
        by_cases h2 : H = H'
        · subst h2
          have hE : pairE W H l W H l' = 0 := by unfold pairE; rw [q1, q2]; simp
          rw [hE]
          clear q1 q2 hE
          go_enter Try.func63, Try.ntmps63
          go_wp2_with fail
          refine Va.out.mono ?_
          rintro e w1 ⟨rfl, hb1⟩
          obtain ⟨g1, g2, g3⟩ := hc2.below hb1
          go_wp2_with fail
          refine (Vb.out _ (hb'.below hb1)).mono ?_
          rintro e w2 ⟨rfl, hb2⟩
          clear g1 g2 g3
          obtain ⟨g1, g2, g3⟩ := (hc2.below hb1).below hb2
          obtain ⟨g4, g5, g6⟩ := (hc1.below hb1).below hb2
          clear hc1 hc2
          go_wp2
          go_ret
          exact ⟨rfl, step_trans hb0 (step_trans hb1 hb2)⟩
        · have hE : pairE W H l W H' l' = 9 := by unfold pairE; rw [q1, q2, decide_eq_false h2]; simp
          rw [hE]
          have d2 : (H != H') = true := by rw [bne_iff_ne]; exact h2
          clear h2 q1 q2 hE
          go_enter Try.func63, Try.ntmps63
          go_wp2_with fail
          refine Va.out.mono ?_
          rintro e w1 ⟨rfl, hb1⟩
          obtain ⟨g1, g2, g3⟩ := hc2.below hb1
          go_wp2_with fail
          refine (Vb.out _ (hb'.below hb1)).mono ?_
          rintro e w2 ⟨rfl, hb2⟩
          clear g1 g2 g3
          obtain ⟨g1, g2, g3⟩ := (hc2.below hb1).below hb2
          obtain ⟨g4, g5, g6⟩ := (hc1.below hb1).below hb2
          clear hc1 hc2
          go_wp2
          go_ret
          exact ⟨rfl, step_trans hb0 (step_trans hb1 hb2)⟩
      · have hE : pairE W H l W' H' l' = 9 := by unfold pairE; rw [q1, q2, decide_eq_false h1]; simp
        rw [hE]
        have d1 : (W != W') = true := by rw [bne_iff_ne]; exact h1
        clear h1 q1 q2 hE
        go_enter Try.func63, Try.ntmps63
        go_wp2_with fail
        refine Va.out.mono ?_
        rintro e w1 ⟨rfl, hb1⟩
        obtain ⟨g1, g2, g3⟩ := hc2.below hb1
        go_wp2_with fail
        refine (Vb.out _ (hb'.below hb1)).mono ?_
        rintro e w2 ⟨rfl, hb2⟩
        clear g1 g2 g3
        obtain ⟨g1, g2, g3⟩ := (hc2.below hb1).below hb2
        obtain ⟨g4, g5, g6⟩ := (hc1.below hb1).below hb2
        clear hc1 hc2
        go_wp2
        go_ret
        exact ⟨rfl, step_trans hb0 (step_trans hb1 hb2)⟩

set_option maxRecDepth 100000 in
set_option maxHeartbeats 2000000 in
theorem Differ_any (A B : Option Addr) (n m c d : Nat) (W H W' H' : Int) (l l' : List Int) (w : World) (ha : SI w A n c l) (hb : SI w B m d l') :
    Calls Try.prog 34 #[.agg #[.int .i64 W, .int .i64 H, .slice A n c], .agg #[.int .i64 W', .int .i64 H', .slice B m d]] w fun e w' => ∃ A' c', e = .returned (.tuple #[.slice A' (diffR W H l W' H' l').length c', .int .i64 (pairE W H l W' H' l')]) ∧ SI w' A' (diffR W H l W' H' l').length c' (diffR W H l W' H' l') ∧ Below w.heap.size w w' := by
  have hb0 := step_trans (below_alloc w (.cells #[.int .i64 W, .int .i64 H, .slice A n c] 30)) (below_alloc _ (.cells #[.int .i64 W', .int .i64 H', .slice B m d] 30))
  have hc1 := (PBox.new w W H (.slice A n c) 30).below (below_alloc _ (.cells #[.int .i64 W', .int .i64 H', .slice B m d] 30))
  have hc2 := PBox.new (w.alloc (.cells #[.int .i64 W, .int .i64 H, .slice A n c] 30)) W' H' (.slice B m d) 30
  rw [World.size_alloc] at hc2
  have ha' := ha.below hb0
  have hb' := hb.below hb0
  have pr := pair_any A B n m c d W H W' H' l l' _ ha' hb'
  have hla := hidx ha.len
  have hlb := hidx hb.len
  clear ha hb
  by_cases h0 : pairE W H l W' H' l' = 0
  · have hk := pair_ok h0
    have hR : diffR W H l W' H' l' = diffL l l' l.length := by unfold diffR; rw [if_pos h0]
    rw [hR, h0]
    rw [h0] at pr
    have Pr := hidx pr
    obtain ⟨a, b, hp⟩ := IsPic.of hk.1
    have hn : n ≤ 256 := by have := hp.le; rw [hla.out] at this; exact this
    have hmn : m = n := by have := hk.2.2.2.2; rw [hla.out, hlb.out] at this; exact this.symm
    subst hmn
    clear pr hR h0 hk hp
    go_enter Try.func34, Try.ntmps34
    go_wp2_with fail
    refine Pr.out.mono ?_
    rintro e w1 ⟨rfl, hb1⟩
    obtain ⟨g1, g2, g3⟩ := hc2.below hb1
    obtain ⟨g4, g5, g6⟩ := hc1.below hb1
    have ha1 := ha'.below hb1
    have hb1' := hb'.below hb1
    have hB1 := step_trans hb0 hb1
    clear hc1 hc2 ha' hb' hb0 hb1 Pr g1 g2 g4 g5
    have hmx := ha1.nmax
    go_wp2
    go_loopw [7, 19] (fun s i wr => ∃ (q : Nat) (A' : Option Addr) (c' : Nat), q ≤ m ∧ i = .int .i64 q ∧ s = .slice A' (diffL l l' q).length c' ∧ wr.ownsRow w1.heap.size 3 1 (.slice A' (diffL l l' q).length c') (diffL l l' q).length (ints (diffL l l' q)) ∧ Below w1.heap.size w1 wr) (fun _ i _ => m - (intOf i).toNat)
    case atStart => exact ⟨0, none, 0, Nat.zero_le _, rfl, rfl, World.ownsRow_nil _ _ _ _, Below.refl _ _⟩
    case round =>
      obtain ⟨q, A', c', hq, rfl, rfl, hown, hbr⟩ := hrel
      by_cases hlt : q < m
      · obtain ⟨ad, rfl, hca⟩ := (ha1.below hbr).at_ (by omega)
        obtain ⟨bd, rfl, hcb⟩ := (hb1'.below hbr).at_ (by omega)
        have x1 := hca q hlt
        have x2 := hcb q hlt
        have x3 := Below.cell_of hbr g3
        have x4 := Below.cell_of hbr g6
        have dl := diffL_len l l' q
        have i0 : (0:Int) ≤ q := by omega
        have i1 : (q:Int) < m := by omega
        clear hca hcb ha1 hb1' g3 g6
        by_cases he : nth l q = nth l' q
        · have d1 : (nth l q != nth l' q) = false := by simp [he]
          have d2 : (nth l' q != nth l q) = false := by simp [he]
          have HS : Hid (diffL l l' (q + 1) = diffL l l' q) := hidx (by rw [diffL, if_pos he])
          clear he
          go_wp2
          skip
          go_roundw
          case rel => exact ⟨q + 1, A', c', by omega, by go_num, by rw [HS.out], by rw [HS.out]; exact hown, hbr⟩
          case measure => simp [intOf]; omega
        · have d1 : (nth l q != nth l' q) = true := by rw [bne_iff_ne]; exact he
          have d2 : (nth l' q != nth l q) = true := by rw [bne_iff_ne]; exact Ne.symm he
          have HS : Hid (diffL l l' (q + 1) = diffL l l' q ++ [(q : Int)]) := hidx (by rw [diffL, if_neg he])
          obtain ⟨L, hL⟩ : ∃ L, L = diffL l l' q := ⟨_, rfl⟩
          have HL : Hid (ints L ++ [.int .i64 (q : Int)] = ints (diffL l l' (q + 1))) := hidx (by rw [HS.out, ← hL, ints_snoc])
          have HL2 : Hid (L.length + 1 = (diffL l l' (q + 1)).length) := hidx (by rw [HS.out, ← hL]; simp)
          rw [← hL] at hown dl ⊢
          clear he hL
          skip
          go_wp2_with (at_builtin; refine app1 eltI rfl rfl _ _ rfl rfl rfl hown hbr (Nat.le_refl _) rfl (by omega) (by omega) ?_; intro A2 c2 w2 hown2 hb2 _ hc2 hc2'; clear hown hbr)
          rw [HL.out, HL2.out] at hown2
          go_roundw
          case rel => exact ⟨q + 1, A2, c2, by omega, by go_num, by rw [HL2.out], hown2, hb2⟩
          case measure => simp [intOf]; omega
      · have hkk : q = m := by omega
        subst hkk
        go_wp2
        rw [hla.out]
        go_ret2
        exact ⟨_, _, rfl, own_SI hown, step_trans hB1 hbr⟩
  · have hR : diffR W H l W' H' l' = [] := by unfold diffR; rw [if_neg h0]
    rw [hR]
    have d1 : (pairE W H l W' H' l' != 0) = true := by rw [bne_iff_ne]; exact h0
    have Pr := hidx pr
    clear pr hR h0
    go_enter Try.func34, Try.ntmps34
    go_wp2_with fail
    refine Pr.out.mono ?_
    rintro e w1 ⟨rfl, hb1⟩
    go_wp2
    go_ret2
    exact ⟨none, 0, rfl, SI.nil _, step_trans hb0 hb1⟩

set_option maxRecDepth 100000 in
set_option maxHeartbeats 2000000 in
theorem rDiffer_any (A B : Option Addr) (n m c d : Nat) (W H W' H' : Int) (l l' : List Int) (w : World) (ha : SI w A n c l) (hb : SI w B m d l') :
    Calls Try.prog 35 #[.agg #[.int .i64 W, .int .i64 H, .slice A n c], .agg #[.int .i64 W', .int .i64 H', .slice B m d]] w fun e w' => ∃ A' c', e = .returned (.tuple #[.slice A' (diffR W H l W' H' l').length c', .int .i64 (pairE W H l W' H' l')]) ∧ SI w' A' (diffR W H l W' H' l').length c' (diffR W H l W' H' l') ∧ Below w.heap.size w w' := by
  have hb0 := step_trans (below_alloc w (.cells #[.int .i64 W, .int .i64 H, .slice A n c] 30)) (below_alloc _ (.cells #[.int .i64 W', .int .i64 H', .slice B m d] 30))
  have hc1 := (PBox.new w W H (.slice A n c) 30).below (below_alloc _ (.cells #[.int .i64 W', .int .i64 H', .slice B m d] 30))
  have hc2 := PBox.new (w.alloc (.cells #[.int .i64 W, .int .i64 H, .slice A n c] 30)) W' H' (.slice B m d) 30
  rw [World.size_alloc] at hc2
  have ha' := ha.below hb0
  have hb' := hb.below hb0
  have pr := rboth_any A B n m c d W H W' H' l l' _ ha' hb'
  have hla := hidx ha.len
  have hlb := hidx hb.len
  clear ha hb
  by_cases h0 : pairE W H l W' H' l' = 0
  · have hk := pair_ok h0
    have hR : diffR W H l W' H' l' = diffL l l' l.length := by unfold diffR; rw [if_pos h0]
    rw [hR, h0]
    rw [h0] at pr
    have Pr := hidx pr
    obtain ⟨a, b, hp⟩ := IsPic.of hk.1
    have hn : n ≤ 256 := by have := hp.le; rw [hla.out] at this; exact this
    have hmn : m = n := by have := hk.2.2.2.2; rw [hla.out, hlb.out] at this; exact this.symm
    subst hmn
    clear pr hR h0 hk hp
    go_enter Try.func35, Try.ntmps35
    go_wp2_with fail
    refine Pr.out.mono ?_
    rintro e w1 ⟨rfl, hb1⟩
    obtain ⟨g1, g2, g3⟩ := hc2.below hb1
    obtain ⟨g4, g5, g6⟩ := hc1.below hb1
    have ha1 := ha'.below hb1
    have hb1' := hb'.below hb1
    have hB1 := step_trans hb0 hb1
    clear hc1 hc2 ha' hb' hb0 hb1 Pr g1 g2 g4 g5
    have hmx := ha1.nmax
    go_wp2
    go_loopw [7, 18] (fun s i wr => ∃ (q : Nat) (A' : Option Addr) (c' : Nat), q ≤ m ∧ i = .int .i64 q ∧ s = .slice A' (diffL l l' q).length c' ∧ wr.ownsRow w1.heap.size 3 1 (.slice A' (diffL l l' q).length c') (diffL l l' q).length (ints (diffL l l' q)) ∧ Below w1.heap.size w1 wr) (fun _ i _ => m - (intOf i).toNat)
    case atStart => exact ⟨0, none, 0, Nat.zero_le _, rfl, rfl, World.ownsRow_nil _ _ _ _, Below.refl _ _⟩
    case round =>
      obtain ⟨q, A', c', hq, rfl, rfl, hown, hbr⟩ := hrel
      by_cases hlt : q < m
      · obtain ⟨ad, rfl, hca⟩ := (ha1.below hbr).at_ (by omega)
        obtain ⟨bd, rfl, hcb⟩ := (hb1'.below hbr).at_ (by omega)
        have x1 := hca q hlt
        have x2 := hcb q hlt
        have x3 := Below.cell_of hbr g3
        have x4 := Below.cell_of hbr g6
        have dl := diffL_len l l' q
        have i0 : (0:Int) ≤ q := by omega
        have i1 : (q:Int) < m := by omega
        clear hca hcb ha1 hb1' g3 g6
        by_cases he : nth l q = nth l' q
        · have d1 : (nth l q != nth l' q) = false := by simp [he]
          have d2 : (nth l' q != nth l q) = false := by simp [he]
          have HS : Hid (diffL l l' (q + 1) = diffL l l' q) := hidx (by rw [diffL, if_pos he])
          clear he
          go_wp2
          go_quiet (fail)
          go_wp2
          go_roundw
          case rel => exact ⟨q + 1, A', c', by omega, by go_num, by rw [HS.out], by rw [HS.out]; exact hown, below_drewN hbr nq⟩
          case measure => simp [intOf]; omega
        · have d1 : (nth l q != nth l' q) = true := by rw [bne_iff_ne]; exact he
          have d2 : (nth l' q != nth l q) = true := by rw [bne_iff_ne]; exact Ne.symm he
          have HS : Hid (diffL l l' (q + 1) = diffL l l' q ++ [(q : Int)]) := hidx (by rw [diffL, if_neg he])
          obtain ⟨L, hL⟩ : ∃ L, L = diffL l l' q := ⟨_, rfl⟩
          have HL : Hid (ints L ++ [.int .i64 (q : Int)] = ints (diffL l l' (q + 1))) := hidx (by rw [HS.out, ← hL, ints_snoc])
          have HL2 : Hid (L.length + 1 = (diffL l l' (q + 1)).length) := hidx (by rw [HS.out, ← hL]; simp)
          rw [← hL] at hown dl ⊢
          clear he hL
          go_wp2
          go_quiet (fail)
          have hown : (wr.drewN nq).ownsRow w1.heap.size 3 1 (.slice A' L.length c') L.length (ints L) := hown
          have hbr := below_drewN hbr nq
          go_wp2_with (at_builtin; refine app1 eltI rfl rfl _ _ rfl rfl rfl hown hbr (Nat.le_refl _) rfl (by omega) (by omega) ?_; intro A2 c2 w2 hown2 hb2 _ hc2 hc2'; clear hown hbr)
          rw [HL.out, HL2.out] at hown2
          go_roundw
          case rel => exact ⟨q + 1, A2, c2, by omega, by go_num, by rw [HL2.out], hown2, hb2⟩
          case measure => simp [intOf]; omega
      · have hkk : q = m := by omega
        subst hkk
        go_wp2
        rw [hla.out]
        go_ret2
        exact ⟨_, _, rfl, own_SI hown, step_trans hB1 hbr⟩
  · have hR : diffR W H l W' H' l' = [] := by unfold diffR; rw [if_neg h0]
    rw [hR]
    have d1 : (pairE W H l W' H' l' != 0) = true := by rw [bne_iff_ne]; exact h0
    have Pr := hidx pr
    clear pr hR h0
    go_enter Try.func35, Try.ntmps35
    go_wp2_with fail
    refine Pr.out.mono ?_
    rintro e w1 ⟨rfl, hb1⟩
    go_wp2
    go_ret2
    exact ⟨none, 0, rfl, SI.nil _, step_trans hb0 hb1⟩

end Go.Proofs.Ytahccnljckgjmaa
