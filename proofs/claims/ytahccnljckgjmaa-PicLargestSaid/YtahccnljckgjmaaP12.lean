/- The contract of pic's moved. No condition. -/
import Derived.Test.YtahccnljckgjmaaP11
import Derived.Test.YtahccnljckgjmaaPMovSpec
import Derived.Test.YtahccnljckgjmaaAppM
namespace Go.Proofs.Ytahccnljckgjmaa
open Go.RowKit Ls

theorem zero_row (n : Nat) : List.replicate n (Value.int .i64 0) = ints (List.replicate n 0) := by simp [ints]

set_option maxRecDepth 100000 in
set_option maxHeartbeats 4000000 in
theorem moved0 (A : Option Addr) (n c a b : Nat) (l : List Int) (w : World) (h : SI w A n c l) (hv : validP a b l = true) (ha1 : 1 ≤ a) (ha2 : a ≤ 16) (hb1 : 1 ≤ b) (hb2 : b ≤ 16) (hn : n = a * b) :
    Calls Try.prog 64 #[.agg #[.int .i64 a, .int .i64 b, .slice A n c], .int .i64 0] w fun e w' => ∃ A' c', e = .returned (.tuple #[.agg #[.int .i64 (mvw 0 a b : Nat), .int .i64 (mvh 0 a b : Nat), .slice A' n c'], .int .i64 0]) ∧ SI w' A' n c' (movTo (mpos 0 a b) l n) ∧ Fresh w A' ∧ Below w.heap.size w w' := by
  have hb0 := step_trans (below_alloc w (.cells #[.int .i64 a, .int .i64 b, .slice A n c] 30)) (below_alloc _ (.cells #[.int .i64 0, .int .i64 0, .slice none 0 0] 30))
  have hc1 := (PBox.new w a b (.slice A n c) 30).below (below_alloc _ (.cells #[.int .i64 0, .int .i64 0, .slice none 0 0] 30))
  have hc2 := PBox.new (w.alloc (.cells #[.int .i64 a, .int .i64 b, .slice A n c] 30)) 0 0 (.slice none 0 0) 30
  have hf2 := FBox.new (w.alloc (.cells #[.int .i64 a, .int .i64 b, .slice A n c] 30)) #[.int .i64 0, .int .i64 0, .slice none 0 0] 30
  rw [World.size_alloc] at hc2 hf2
  have va := Valid_any A n c a b l _ (h.below hb0)
  rw [hv] at va
  have Va := hidx va
  have hl := hidx h.len
  have hn' : n ≤ 256 := by rw [hn]; exact Nat.mul_le_mul ha2 hb2
  have HN := hidx hn
  clear va hv hn
  go_enter Try.func64, Try.ntmps64
  go_wp2_with fail
  refine Va.out.mono ?_
  rintro e w1 ⟨rfl, hbv⟩
  have hB1 := step_trans hb0 hbv
  obtain ⟨g1, g2, g3⟩ := hc1.below hbv
  have k2 := hc2.below hbv
  have f2 := hf2.below hbv
  have hz : w.heap.size + 2 ≤ w1.heap.size := by have := hbv.size; simp at this; omega
  clear Va hc1 hc2 hf2 hb0 hbv
  go_wp2
  go_cut [6] (fun s6 wx => ∃ (B6 g : Nat), s6 = .pointer (some ⟨B6, 0, none⟩) ∧ PBox wx w.heap.size a b (.slice A n c) ∧ PBox wx (w.heap.size + 1) 0 0 (.slice none 0 0) ∧ FBox wx (w.heap.size + 1) ∧ PBox wx B6 a b (.slice (some ⟨g, 0, none⟩) n n) ∧ FBox wx B6 ∧ wx.ownsRow w1.heap.size 3 1 (.slice (some ⟨g, 0, none⟩) n n) n (List.replicate n (.int .i64 0)) ∧ g ≠ B6 ∧ w1.heap.size ≤ B6 ∧ w1.heap.size ≤ g ∧ Below w.heap.size w wx)
  case first =>
    obtain ⟨u1, hmk1, hown1, hbu1, hlt1⟩ := make_run w1.drew eltI rfl n (by omega) (by omega)
    obtain ⟨u2, hmk2, hown2, hbu2, hlt2⟩ := make_run (w1.alloc (.cells #[.int .i64 0, .int .i64 0, .slice none 0 0] 30)).drew eltI rfl n (by omega) (by omega)
    have bu1 := undrew hbu1
    have bu2 : Below (w1.alloc (.cells #[.int .i64 0, .int .i64 0, .slice none 0 0] 30)).heap.size (w1.alloc (.cells #[.int .i64 0, .int .i64 0, .slice none 0 0] 30)) u2 := undrew hbu2
    obtain ⟨p1, p2, p3⟩ := PBox.below ⟨g1, g2, g3⟩ bu1
    obtain ⟨q1, q2, q3⟩ := PBox.below ⟨g1, g2, g3⟩ (step_trans (below_alloc w1 _) bu2)
    have r1 : ∀ o, (w1.alloc o).cell? ⟨w.heap.size, 0, none⟩ = some (.int .i64 a) := fun o => Below.cell_of (below_alloc w1 o) g1
    have r2 : ∀ o, (w1.alloc o).cell? ⟨w.heap.size, 1, none⟩ = some (.int .i64 b) := fun o => Below.cell_of (below_alloc w1 o) g2
    have r3 : ∀ o, (w1.alloc o).cell? ⟨w.heap.size, 2, none⟩ = some (.slice A n c) := fun o => Below.cell_of (below_alloc w1 o) g3
    have s1 : ∀ o, (u1.alloc o).cell? ⟨w.heap.size, 0, none⟩ = some (.int .i64 a) := fun o => Below.cell_of (below_alloc u1 o) p1
    have s2 : ∀ o, (u1.alloc o).cell? ⟨w.heap.size, 1, none⟩ = some (.int .i64 b) := fun o => Below.cell_of (below_alloc u1 o) p2
    obtain ⟨z1, z2, z3⟩ := PBox.below (PBox.new w1 0 0 (.slice none 0 0) 30) bu2
    obtain ⟨-, z4⟩ := FBox.below (FBox.new w1 #[.int .i64 0, .int .i64 0, .slice none 0 0] 30) bu2
    go_region
    all_goals go_wp2_with fail
    all_goals go_meet
    · exact ⟨u1.heap.size, w1.heap.size, rfl, PBox.below ⟨p1, p2, p3⟩ (below_alloc _ _), (k2.below bu1).below (below_alloc _ _), (f2.below bu1).below (below_alloc _ _), PBox.new u1 a b _ _, FBox.new u1 _ _, hown1.alloc _, Nat.ne_of_lt hlt1, Nat.le_of_lt hlt1, Nat.le_refl _, step_trans (step_trans hB1 bu1) (below_alloc _ _)⟩
    · have hz2 : w1.heap.size + 1 < u2.heap.size := by simpa using hlt2
      refine ⟨w1.heap.size, w1.heap.size + 1, rfl, other3 ⟨q1, q2, q3⟩ (by omega) _ _ _, other3 ((k2.below (below_alloc _ _)).below bu2) (by omega) _ _ _, (((f2.below (below_alloc _ _)).below bu2).set _ _).set _ _ |>.set _ _, PBox.set012 ⟨z1, z2, z3⟩ _ _ _, FBox.set (FBox.set (FBox.set ⟨by omega, z4⟩ _ _) _ _) _ _, ?_, by omega, Nat.le_refl _, by omega, ?_⟩
      · have h2 : u2.ownsRow (w1.heap.size + 1) 3 1 (.slice (some ⟨w1.heap.size + 1, 0, none⟩) n n) n (List.replicate n (.int .i64 0)) := by simpa using hown2
        exact own_base (ownsRow_setCell_below (ownsRow_setCell_below (ownsRow_setCell_below h2 (by simp) _) (by simp) _) (by simp) _) (by omega)
      · have hBu := step_trans hB1 (step_trans (below_alloc w1 _) bu2)
        exact ((hBu.setCell (by simp; omega) _).setCell (by simp; omega) _).setCell (by simp; omega) _
  case rest =>
    obtain ⟨B6, g, rfl, k1, k2, f2, k6, f6, hown, hne, hB6, hgB, hBw⟩ := hcut
    rw [zero_row] at hown
    have hown0 : wc.ownsRow w1.heap.size 3 1 (.slice (some ⟨g, 0, none⟩) n n) n (ints (movTo (mpos 0 a b) l 0)) := by rw [movTo, hl.out]; exact hown
    clear hown g1 g2 g3 hB1
    obtain ⟨d1, d2, d3⟩ := id k1
    go_wp2_with fail
    refine (motions_any a b _ _ (by omega) (by omega) ha1 hb1).mono ?_
    rintro e w5 ⟨E, N, rfl, hE, hN, hE1, hN1, hb5⟩
    clear d1 d2 d3
    have hb5 := id hb5
    have j1 := k1.below hb5
    have j2 := k2.below hb5
    have j3 := f2.below hb5
    have j6 := k6.below hb5
    have hrow := own_below hown0 hb5
    have hgl : g < w5.heap.size := (hrow.lt g rfl).2
    have hB5 := step_trans hBw hb5
    have hgE : g ≠ E.block := Nat.ne_of_lt (Nat.lt_of_lt_of_le (hown0.lt g rfl).2 hE1)
    have hgN : g ≠ N.block := Nat.ne_of_lt (Nat.lt_of_lt_of_le (hown0.lt g rfl).2 hN1)
    have hEl := cell_lt hE
    have hNl := cell_lt hN
    clear k1 k2 f2 k6 hown0 hBw hb5 f6
    obtain ⟨d1, d2, d3⟩ := id j1
    have egf : ∀ args W, (callFunc 87 args).run Try.prog W = .ok (.enter 87 args) W := (enters_of Try.func87 (by kernel_rfl) rfl)
    have ix : ∀ W, (Instr.index 68 (.agg #[.func (.func 87) #[] #[], .func (.func 88) #[] #[.pointer (some N)], .func (.func 89) #[] #[.pointer (some E), .pointer (some N)], .func (.func 90) #[] #[.pointer (some E)], .func (.func 91) #[] #[.pointer (some E)]]) (.int .i64 0)).run Try.prog W = .ok (.func (.func 87) #[] #[]) W := fun _ => by kernel_rfl
    go_wp2
    clear d1 d2 d3 ix
    go_loopw [44] (fun i wr => ∃ q : Nat, q ≤ n ∧ i = .int .i64 q ∧ wr.ownsRow w1.heap.size 3 1 (.slice (some ⟨g, 0, none⟩) n n) n (ints (movTo (mpos 0 a b) l q)) ∧ PBox wr w.heap.size a b (.slice A n c) ∧ PBox wr (w.heap.size + 1) 0 0 (.slice none 0 0) ∧ FBox wr (w.heap.size + 1) ∧ PBox wr B6 a b (.slice (some ⟨g, 0, none⟩) n n) ∧ wr.cell? E = some (.int .i64 ((a : Int) - 1)) ∧ wr.cell? N = some (.int .i64 ((b : Int) - 1)) ∧ Below w.heap.size w wr) (fun i _ => n - (intOf i).toNat)
    case atStart => exact ⟨0, Nat.zero_le _, rfl, hrow, j1, j2, j3, j6, hE, hN, hB5⟩
    case round =>
      obtain ⟨q, hq, rfl, hown, k1, k2, f2, k6, hE', hN', hbr⟩ := hrel
      clear hrow j1 j2 j3 j6 hE hN hB5
      by_cases hlt : q < n
      · obtain ⟨ad, rfl, hca⟩ := (h.below hbr).at_ (by omega)
        have x1 := hca q hlt
        obtain ⟨m1, m2, m3, m4, m5⟩ := mv_lt (t := 0) (a := a) (b := b) (i := q) (by omega) ha1 (by rw [← HN.out]; exact hlt)
        rw [← HN.out] at m5
        obtain ⟨X, hX⟩ : ∃ X, X = mvx 0 a b q := ⟨_, rfl⟩
        obtain ⟨Y, hY⟩ : ∃ Y, Y = mvy 0 a b q := ⟨_, rfl⟩
        obtain ⟨r, hr⟩ : ∃ r, r = q % a := ⟨_, rfl⟩
        obtain ⟨s, hs⟩ : ∃ s, s = q / a := ⟨_, rfl⟩
        have cl : ∀ W, W.cell? E = some (.int .i64 ((a : Int) - 1)) → W.cell? N = some (.int .i64 ((b : Int) - 1)) → Calls Try.prog 87 #[.int .i64 (r : Int), .int .i64 (s : Int)] W fun e w' => e = .returned (.tuple #[.int .i64 (X : Int), .int .i64 (Y : Int)]) ∧ ∃ q, w' = W.drewN q := fun W hE hN => by
          rw [hX, hY]
          have := mot1_any r s W
          rw [hr, hs] at this ⊢
          exact this
        have qm : (q : Int) % a = (r : Int) := by rw [hr]; simp
        have qd : (q : Int) / a = (s : Int) := by rw [hs]; simp
        have qm2 : (q : Int).tmod a = (r : Int) := by rw [Int.tmod_eq_emod_of_nonneg (by omega)]; exact qm
        have qd2 : (q : Int).tdiv a = (s : Int) := by rw [Int.tdiv_eq_ediv_of_nonneg (by omega)]; exact qd
        have a0 : ((a : Int) == 0) = false := by rw [beq_eq_false_iff_ne]; omega
        have hp : mpos 0 a b q = X + a * Y := by rw [hX, hY]; rfl
        obtain ⟨T, hT⟩ : ∃ T, T = a * Y := ⟨_, rfl⟩
        rw [← hT] at hp
        rw [hp] at m5
        have r3 : IntKind.i64.wrap ((a : Int) * Y) = (T : Int) := by
          have : ((a * Y : Nat) : Int) = (a : Int) * Y := by simp
          rw [IntKind.wrap_i64, ← this, ← hT]; omega
        have r4 : IntKind.i64.wrap ((X : Int) + T) = ((X + T : Nat) : Int) := by
          rw [IntKind.wrap_i64]; omega
        have Cl := hidx cl
        have x2 := hown.cellAt (X + T) (by omega)
        rw [ints_get _ _ (by rw [movTo_len, hl.out]; omega)] at x2
        have x3 := hown.frozenAt (X + T)
        have st := hown.stored (X + T) (.int .i64 (nth l q))
        rw [← ints_set, ← hp, show (movTo (mpos 0 a b) l q).set (mpos 0 a b q) (nth l q) = movTo (mpos 0 a b) l (q + 1) from rfl, hp] at st
        have St := hidx st
        have J := hidx (And.intro (k1.other ⟨g, X + T, none⟩ (by simp; omega) (.int .i64 (nth l q))) (And.intro (k2.other ⟨g, X + T, none⟩ (by simp; omega) (.int .i64 (nth l q))) (And.intro (f2.set ⟨g, X + T, none⟩ (.int .i64 (nth l q))) (And.intro (k6.other ⟨g, X + T, none⟩ (by simp; omega) (.int .i64 (nth l q))) (And.intro ((World.cell?_setCell_other _ _ _ _ (by intro e; exact hgE (by rw [← e])) : (wr.setCell ⟨g, X + T, none⟩ (.int .i64 (nth l q))).cell? E = _).trans hE') ((World.cell?_setCell_other _ _ _ _ (by intro e; exact hgN (by rw [← e])) : (wr.setCell ⟨g, X + T, none⟩ (.int .i64 (nth l q))).cell? N = _).trans hN'))))))
        obtain ⟨d1, -, -⟩ := k1
        obtain ⟨d4, -, d6⟩ := k6
        clear hX hY hr hs cl hp hT st hca k2 f2
        go_wp2
        go_quiet ((go_at_call 87; exact quiet_drew (Cl.out _ hE' hN')))
        go_wp2
        go_roundw
        case rel => exact ⟨q + 1, by omega, by go_num, St.out.1, J.out.1, J.out.2.1, J.out.2.2.1, J.out.2.2.2.1, J.out.2.2.2.2.1, J.out.2.2.2.2.2, (below_drewN hbr nq).setCell (p := ⟨g, X + T, none⟩) (by simp; omega) _⟩
        case measure => simp [intOf]; omega
      · have hqn : q = n := by omega
        subst hqn
        have hs := own_SI hown
        obtain ⟨d1, d2, d3⟩ := k6
        obtain ⟨d4, d5, d6⟩ := k2
        obtain ⟨-, d7⟩ := f2
        have hA : ∀ ad, some (⟨g, 0, none⟩ : Addr) = some ad → ad.block = g := fun ad e => by cases e; rfl
        have HA := hidx hA
        clear hown hA
        go_wp2
        refine bodyPost_ret (v := .tuple #[.agg #[.int .i64 a, .int .i64 b, .slice (some ⟨g, 0, none⟩) q q], .int .i64 0]) (by simp [results, Try.results64, go_sem, d4, d5, d6]) rfl ⟨some ⟨g, 0, none⟩, q, rfl, ?_, fun ad e => by have := HA.out ad e; omega, ?_⟩
        · exact SI.other (SI.other (SI.other hs _ (by intro ad e; have := HA.out ad e; simp; omega) _) _ (by intro ad e; have := HA.out ad e; simp; omega) _) _ (by intro ad e; have := HA.out ad e; simp; omega) _
        · exact ((hbr.setCell (by simp) _).setCell (by simp) _).setCell (by simp) _

set_option maxRecDepth 100000 in
set_option maxHeartbeats 4000000 in
theorem moved1 (A : Option Addr) (n c a b : Nat) (l : List Int) (w : World) (h : SI w A n c l) (hv : validP a b l = true) (ha1 : 1 ≤ a) (ha2 : a ≤ 16) (hb1 : 1 ≤ b) (hb2 : b ≤ 16) (hn : n = a * b) :
    Calls Try.prog 64 #[.agg #[.int .i64 a, .int .i64 b, .slice A n c], .int .i64 1] w fun e w' => ∃ A' c', e = .returned (.tuple #[.agg #[.int .i64 (mvw 1 a b : Nat), .int .i64 (mvh 1 a b : Nat), .slice A' n c'], .int .i64 0]) ∧ SI w' A' n c' (movTo (mpos 1 a b) l n) ∧ Fresh w A' ∧ Below w.heap.size w w' := by
  have hb0 := step_trans (below_alloc w (.cells #[.int .i64 a, .int .i64 b, .slice A n c] 30)) (below_alloc _ (.cells #[.int .i64 0, .int .i64 0, .slice none 0 0] 30))
  have hc1 := (PBox.new w a b (.slice A n c) 30).below (below_alloc _ (.cells #[.int .i64 0, .int .i64 0, .slice none 0 0] 30))
  have hc2 := PBox.new (w.alloc (.cells #[.int .i64 a, .int .i64 b, .slice A n c] 30)) 0 0 (.slice none 0 0) 30
  have hf2 := FBox.new (w.alloc (.cells #[.int .i64 a, .int .i64 b, .slice A n c] 30)) #[.int .i64 0, .int .i64 0, .slice none 0 0] 30
  rw [World.size_alloc] at hc2 hf2
  have va := Valid_any A n c a b l _ (h.below hb0)
  rw [hv] at va
  have Va := hidx va
  have hl := hidx h.len
  have hn' : n ≤ 256 := by rw [hn]; exact Nat.mul_le_mul ha2 hb2
  have HN := hidx hn
  clear va hv hn
  go_enter Try.func64, Try.ntmps64
  go_wp2_with fail
  refine Va.out.mono ?_
  rintro e w1 ⟨rfl, hbv⟩
  have hB1 := step_trans hb0 hbv
  obtain ⟨g1, g2, g3⟩ := hc1.below hbv
  have k2 := hc2.below hbv
  have f2 := hf2.below hbv
  have hz : w.heap.size + 2 ≤ w1.heap.size := by have := hbv.size; simp at this; omega
  clear Va hc1 hc2 hf2 hb0 hbv
  go_wp2
  go_cut [6] (fun s6 wx => ∃ (B6 g : Nat), s6 = .pointer (some ⟨B6, 0, none⟩) ∧ PBox wx w.heap.size a b (.slice A n c) ∧ PBox wx (w.heap.size + 1) 0 0 (.slice none 0 0) ∧ FBox wx (w.heap.size + 1) ∧ PBox wx B6 a b (.slice (some ⟨g, 0, none⟩) n n) ∧ FBox wx B6 ∧ wx.ownsRow w1.heap.size 3 1 (.slice (some ⟨g, 0, none⟩) n n) n (List.replicate n (.int .i64 0)) ∧ g ≠ B6 ∧ w1.heap.size ≤ B6 ∧ w1.heap.size ≤ g ∧ Below w.heap.size w wx)
  case first =>
    obtain ⟨u1, hmk1, hown1, hbu1, hlt1⟩ := make_run w1.drew eltI rfl n (by omega) (by omega)
    obtain ⟨u2, hmk2, hown2, hbu2, hlt2⟩ := make_run (w1.alloc (.cells #[.int .i64 0, .int .i64 0, .slice none 0 0] 30)).drew eltI rfl n (by omega) (by omega)
    have bu1 := undrew hbu1
    have bu2 : Below (w1.alloc (.cells #[.int .i64 0, .int .i64 0, .slice none 0 0] 30)).heap.size (w1.alloc (.cells #[.int .i64 0, .int .i64 0, .slice none 0 0] 30)) u2 := undrew hbu2
    obtain ⟨p1, p2, p3⟩ := PBox.below ⟨g1, g2, g3⟩ bu1
    obtain ⟨q1, q2, q3⟩ := PBox.below ⟨g1, g2, g3⟩ (step_trans (below_alloc w1 _) bu2)
    have r1 : ∀ o, (w1.alloc o).cell? ⟨w.heap.size, 0, none⟩ = some (.int .i64 a) := fun o => Below.cell_of (below_alloc w1 o) g1
    have r2 : ∀ o, (w1.alloc o).cell? ⟨w.heap.size, 1, none⟩ = some (.int .i64 b) := fun o => Below.cell_of (below_alloc w1 o) g2
    have r3 : ∀ o, (w1.alloc o).cell? ⟨w.heap.size, 2, none⟩ = some (.slice A n c) := fun o => Below.cell_of (below_alloc w1 o) g3
    have s1 : ∀ o, (u1.alloc o).cell? ⟨w.heap.size, 0, none⟩ = some (.int .i64 a) := fun o => Below.cell_of (below_alloc u1 o) p1
    have s2 : ∀ o, (u1.alloc o).cell? ⟨w.heap.size, 1, none⟩ = some (.int .i64 b) := fun o => Below.cell_of (below_alloc u1 o) p2
    obtain ⟨z1, z2, z3⟩ := PBox.below (PBox.new w1 0 0 (.slice none 0 0) 30) bu2
    obtain ⟨-, z4⟩ := FBox.below (FBox.new w1 #[.int .i64 0, .int .i64 0, .slice none 0 0] 30) bu2
    go_region
    all_goals go_wp2_with fail
    all_goals go_meet
    · exact ⟨u1.heap.size, w1.heap.size, rfl, PBox.below ⟨p1, p2, p3⟩ (below_alloc _ _), (k2.below bu1).below (below_alloc _ _), (f2.below bu1).below (below_alloc _ _), PBox.new u1 a b _ _, FBox.new u1 _ _, hown1.alloc _, Nat.ne_of_lt hlt1, Nat.le_of_lt hlt1, Nat.le_refl _, step_trans (step_trans hB1 bu1) (below_alloc _ _)⟩
    · have hz2 : w1.heap.size + 1 < u2.heap.size := by simpa using hlt2
      refine ⟨w1.heap.size, w1.heap.size + 1, rfl, other3 ⟨q1, q2, q3⟩ (by omega) _ _ _, other3 ((k2.below (below_alloc _ _)).below bu2) (by omega) _ _ _, (((f2.below (below_alloc _ _)).below bu2).set _ _).set _ _ |>.set _ _, PBox.set012 ⟨z1, z2, z3⟩ _ _ _, FBox.set (FBox.set (FBox.set ⟨by omega, z4⟩ _ _) _ _) _ _, ?_, by omega, Nat.le_refl _, by omega, ?_⟩
      · have h2 : u2.ownsRow (w1.heap.size + 1) 3 1 (.slice (some ⟨w1.heap.size + 1, 0, none⟩) n n) n (List.replicate n (.int .i64 0)) := by simpa using hown2
        exact own_base (ownsRow_setCell_below (ownsRow_setCell_below (ownsRow_setCell_below h2 (by simp) _) (by simp) _) (by simp) _) (by omega)
      · have hBu := step_trans hB1 (step_trans (below_alloc w1 _) bu2)
        exact ((hBu.setCell (by simp; omega) _).setCell (by simp; omega) _).setCell (by simp; omega) _
  case rest =>
    obtain ⟨B6, g, rfl, k1, k2, f2, k6, f6, hown, hne, hB6, hgB, hBw⟩ := hcut
    rw [zero_row] at hown
    have hown0 : wc.ownsRow w1.heap.size 3 1 (.slice (some ⟨g, 0, none⟩) n n) n (ints (movTo (mpos 1 a b) l 0)) := by rw [movTo, hl.out]; exact hown
    clear hown g1 g2 g3 hB1
    go_wp2
    obtain ⟨d1, d2, d3⟩ := id k1
    obtain ⟨d4, d5, d6⟩ := id k6
    obtain ⟨-, d7⟩ := id f6
    have hb6 : B6 ≠ w.heap.size := by omega
    have d8 : ∀ v, (wc.setCell ⟨B6, 0, none⟩ v).cell? ⟨w.heap.size, 0, none⟩ = some (.int .i64 a) := fun v => (World.cell?_setCell_other _ _ _ _ (by intro e; injection e with e; omega)).trans d1
    have d9 : ∀ v, (wc.setCell ⟨B6, 0, none⟩ v).cell? ⟨B6, 1, none⟩ = some (.int .i64 b) := fun v => (World.cell?_setCell_other _ _ _ _ (by simp)).trans d5
    go_region
    clear d1 d2 d3 d4 d5 d6 d7 d8 d9
    have k1 := (k1.other ⟨B6, 0, none⟩ (by simp; omega) (.int .i64 b)).other ⟨B6, 1, none⟩ (by simp; omega) (.int .i64 a)
    have k2 := (k2.other ⟨B6, 0, none⟩ (by simp; omega) (.int .i64 b)).other ⟨B6, 1, none⟩ (by simp; omega) (.int .i64 a)
    have f2 := (f2.set ⟨B6, 0, none⟩ (.int .i64 b)).set ⟨B6, 1, none⟩ (.int .i64 a)
    have k6 := k6.set01 b a
    have hown0 := ownsRow_setCell_other (ownsRow_setCell_other hown0 (a := ⟨B6, 0, none⟩) (by simp [Value.ownBlock]; exact hne) (.int .i64 b)) (a := ⟨B6, 1, none⟩) (by simp [Value.ownBlock]; exact hne) (.int .i64 a)
    have hBw := (hBw.setCell (p := ⟨B6, 0, none⟩) (by simp; omega) (.int .i64 b)).setCell (p := ⟨B6, 1, none⟩) (by simp; omega) (.int .i64 a)
    obtain ⟨d1, d2, d3⟩ := id k1
    go_wp2_with fail
    refine (motions_any a b _ _ (by omega) (by omega) ha1 hb1).mono ?_
    rintro e w5 ⟨E, N, rfl, hE, hN, hE1, hN1, hb5⟩
    clear d1 d2 d3
    have hb5 := undrew hb5
    have j1 := k1.below hb5
    have j2 := k2.below hb5
    have j3 := f2.below hb5
    have j6 := k6.below hb5
    have hrow := own_below hown0 hb5
    have hgl : g < w5.heap.size := (hrow.lt g rfl).2
    have hB5 := step_trans hBw hb5
    have hgE : g ≠ E.block := Nat.ne_of_lt (Nat.lt_of_lt_of_le (hown0.lt g rfl).2 hE1)
    have hgN : g ≠ N.block := Nat.ne_of_lt (Nat.lt_of_lt_of_le (hown0.lt g rfl).2 hN1)
    have hEl := cell_lt hE
    have hNl := cell_lt hN
    clear k1 k2 f2 k6 hown0 hBw hb5 f6
    obtain ⟨d1, d2, d3⟩ := id j1
    have egf : ∀ args W, (callFunc 88 args).run Try.prog W = .ok (.enter 88 args) W := (enters_of Try.func88 (by kernel_rfl) rfl)
    have ix : ∀ W, (Instr.index 68 (.agg #[.func (.func 87) #[] #[], .func (.func 88) #[] #[.pointer (some N)], .func (.func 89) #[] #[.pointer (some E), .pointer (some N)], .func (.func 90) #[] #[.pointer (some E)], .func (.func 91) #[] #[.pointer (some E)]]) (.int .i64 1)).run Try.prog W = .ok (.func (.func 88) #[] #[.pointer (some N)]) W := fun _ => by kernel_rfl
    go_wp2
    clear d1 d2 d3 ix
    go_loopw [44] (fun i wr => ∃ q : Nat, q ≤ n ∧ i = .int .i64 q ∧ wr.ownsRow w1.heap.size 3 1 (.slice (some ⟨g, 0, none⟩) n n) n (ints (movTo (mpos 1 a b) l q)) ∧ PBox wr w.heap.size a b (.slice A n c) ∧ PBox wr (w.heap.size + 1) 0 0 (.slice none 0 0) ∧ FBox wr (w.heap.size + 1) ∧ PBox wr B6 b a (.slice (some ⟨g, 0, none⟩) n n) ∧ wr.cell? E = some (.int .i64 ((a : Int) - 1)) ∧ wr.cell? N = some (.int .i64 ((b : Int) - 1)) ∧ Below w.heap.size w wr) (fun i _ => n - (intOf i).toNat)
    case atStart => exact ⟨0, Nat.zero_le _, rfl, hrow, j1, j2, j3, j6, hE, hN, hB5⟩
    case round =>
      obtain ⟨q, hq, rfl, hown, k1, k2, f2, k6, hE', hN', hbr⟩ := hrel
      clear hrow j1 j2 j3 j6 hE hN hB5
      by_cases hlt : q < n
      · obtain ⟨ad, rfl, hca⟩ := (h.below hbr).at_ (by omega)
        have x1 := hca q hlt
        obtain ⟨m1, m2, m3, m4, m5⟩ := mv_lt (t := 1) (a := a) (b := b) (i := q) (by omega) ha1 (by rw [← HN.out]; exact hlt)
        rw [← HN.out] at m5
        obtain ⟨X, hX⟩ : ∃ X, X = mvx 1 a b q := ⟨_, rfl⟩
        obtain ⟨Y, hY⟩ : ∃ Y, Y = mvy 1 a b q := ⟨_, rfl⟩
        obtain ⟨r, hr⟩ : ∃ r, r = q % a := ⟨_, rfl⟩
        obtain ⟨s, hs⟩ : ∃ s, s = q / a := ⟨_, rfl⟩
        have cl : ∀ W, W.cell? E = some (.int .i64 ((a : Int) - 1)) → W.cell? N = some (.int .i64 ((b : Int) - 1)) → Calls Try.prog 88 #[.int .i64 (r : Int), .int .i64 (s : Int), .pointer (some N)] W fun e w' => e = .returned (.tuple #[.int .i64 (X : Int), .int .i64 (Y : Int)]) ∧ ∃ q, w' = W.drewN q := fun W hE hN => by
          rw [hX, hY]
          have := mot2_any N b r s W hN (by omega) (by omega)
          rw [hr, hs] at this ⊢
          exact this
        have qm : (q : Int) % a = (r : Int) := by rw [hr]; simp
        have qd : (q : Int) / a = (s : Int) := by rw [hs]; simp
        have qm2 : (q : Int).tmod a = (r : Int) := by rw [Int.tmod_eq_emod_of_nonneg (by omega)]; exact qm
        have qd2 : (q : Int).tdiv a = (s : Int) := by rw [Int.tdiv_eq_ediv_of_nonneg (by omega)]; exact qd
        have a0 : ((a : Int) == 0) = false := by rw [beq_eq_false_iff_ne]; omega
        have hp : mpos 1 a b q = X + b * Y := by rw [hX, hY]; rfl
        obtain ⟨T, hT⟩ : ∃ T, T = b * Y := ⟨_, rfl⟩
        rw [← hT] at hp
        rw [hp] at m5
        have r3 : IntKind.i64.wrap ((b : Int) * Y) = (T : Int) := by
          have : ((b * Y : Nat) : Int) = (b : Int) * Y := by simp
          rw [IntKind.wrap_i64, ← this, ← hT]; omega
        have r4 : IntKind.i64.wrap ((X : Int) + T) = ((X + T : Nat) : Int) := by
          rw [IntKind.wrap_i64]; omega
        have Cl := hidx cl
        have x2 := hown.cellAt (X + T) (by omega)
        rw [ints_get _ _ (by rw [movTo_len, hl.out]; omega)] at x2
        have x3 := hown.frozenAt (X + T)
        have st := hown.stored (X + T) (.int .i64 (nth l q))
        rw [← ints_set, ← hp, show (movTo (mpos 1 a b) l q).set (mpos 1 a b q) (nth l q) = movTo (mpos 1 a b) l (q + 1) from rfl, hp] at st
        have St := hidx st
        have J := hidx (And.intro (k1.other ⟨g, X + T, none⟩ (by simp; omega) (.int .i64 (nth l q))) (And.intro (k2.other ⟨g, X + T, none⟩ (by simp; omega) (.int .i64 (nth l q))) (And.intro (f2.set ⟨g, X + T, none⟩ (.int .i64 (nth l q))) (And.intro (k6.other ⟨g, X + T, none⟩ (by simp; omega) (.int .i64 (nth l q))) (And.intro ((World.cell?_setCell_other _ _ _ _ (by intro e; exact hgE (by rw [← e])) : (wr.setCell ⟨g, X + T, none⟩ (.int .i64 (nth l q))).cell? E = _).trans hE') ((World.cell?_setCell_other _ _ _ _ (by intro e; exact hgN (by rw [← e])) : (wr.setCell ⟨g, X + T, none⟩ (.int .i64 (nth l q))).cell? N = _).trans hN'))))))
        obtain ⟨d1, -, -⟩ := k1
        obtain ⟨d4, -, d6⟩ := k6
        clear hX hY hr hs cl hp hT st hca k2 f2
        go_wp2
        go_quiet ((go_at_call 88; exact quiet_drew (Cl.out _ hE' hN')))
        go_wp2
        go_roundw
        case rel => exact ⟨q + 1, by omega, by go_num, St.out.1, J.out.1, J.out.2.1, J.out.2.2.1, J.out.2.2.2.1, J.out.2.2.2.2.1, J.out.2.2.2.2.2, (below_drewN hbr nq).setCell (p := ⟨g, X + T, none⟩) (by simp; omega) _⟩
        case measure => simp [intOf]; omega
      · have hqn : q = n := by omega
        subst hqn
        have hs := own_SI hown
        obtain ⟨d1, d2, d3⟩ := k6
        obtain ⟨d4, d5, d6⟩ := k2
        obtain ⟨-, d7⟩ := f2
        have hA : ∀ ad, some (⟨g, 0, none⟩ : Addr) = some ad → ad.block = g := fun ad e => by cases e; rfl
        have HA := hidx hA
        clear hown hA
        go_wp2
        refine bodyPost_ret (v := .tuple #[.agg #[.int .i64 b, .int .i64 a, .slice (some ⟨g, 0, none⟩) q q], .int .i64 0]) (by simp [results, Try.results64, go_sem, d4, d5, d6]) rfl ⟨some ⟨g, 0, none⟩, q, rfl, ?_, fun ad e => by have := HA.out ad e; omega, ?_⟩
        · exact SI.other (SI.other (SI.other hs _ (by intro ad e; have := HA.out ad e; simp; omega) _) _ (by intro ad e; have := HA.out ad e; simp; omega) _) _ (by intro ad e; have := HA.out ad e; simp; omega) _
        · exact ((hbr.setCell (by simp) _).setCell (by simp) _).setCell (by simp) _

set_option maxRecDepth 100000 in
set_option maxHeartbeats 4000000 in
theorem moved2 (A : Option Addr) (n c a b : Nat) (l : List Int) (w : World) (h : SI w A n c l) (hv : validP a b l = true) (ha1 : 1 ≤ a) (ha2 : a ≤ 16) (hb1 : 1 ≤ b) (hb2 : b ≤ 16) (hn : n = a * b) :
    Calls Try.prog 64 #[.agg #[.int .i64 a, .int .i64 b, .slice A n c], .int .i64 2] w fun e w' => ∃ A' c', e = .returned (.tuple #[.agg #[.int .i64 (mvw 2 a b : Nat), .int .i64 (mvh 2 a b : Nat), .slice A' n c'], .int .i64 0]) ∧ SI w' A' n c' (movTo (mpos 2 a b) l n) ∧ Fresh w A' ∧ Below w.heap.size w w' := by
  have hb0 := step_trans (below_alloc w (.cells #[.int .i64 a, .int .i64 b, .slice A n c] 30)) (below_alloc _ (.cells #[.int .i64 0, .int .i64 0, .slice none 0 0] 30))
  have hc1 := (PBox.new w a b (.slice A n c) 30).below (below_alloc _ (.cells #[.int .i64 0, .int .i64 0, .slice none 0 0] 30))
  have hc2 := PBox.new (w.alloc (.cells #[.int .i64 a, .int .i64 b, .slice A n c] 30)) 0 0 (.slice none 0 0) 30
  have hf2 := FBox.new (w.alloc (.cells #[.int .i64 a, .int .i64 b, .slice A n c] 30)) #[.int .i64 0, .int .i64 0, .slice none 0 0] 30
  rw [World.size_alloc] at hc2 hf2
  have va := Valid_any A n c a b l _ (h.below hb0)
  rw [hv] at va
  have Va := hidx va
  have hl := hidx h.len
  have hn' : n ≤ 256 := by rw [hn]; exact Nat.mul_le_mul ha2 hb2
  have HN := hidx hn
  clear va hv hn
  go_enter Try.func64, Try.ntmps64
  go_wp2_with fail
  refine Va.out.mono ?_
  rintro e w1 ⟨rfl, hbv⟩
  have hB1 := step_trans hb0 hbv
  obtain ⟨g1, g2, g3⟩ := hc1.below hbv
  have k2 := hc2.below hbv
  have f2 := hf2.below hbv
  have hz : w.heap.size + 2 ≤ w1.heap.size := by have := hbv.size; simp at this; omega
  clear Va hc1 hc2 hf2 hb0 hbv
  go_wp2
  go_cut [6] (fun s6 wx => ∃ (B6 g : Nat), s6 = .pointer (some ⟨B6, 0, none⟩) ∧ PBox wx w.heap.size a b (.slice A n c) ∧ PBox wx (w.heap.size + 1) 0 0 (.slice none 0 0) ∧ FBox wx (w.heap.size + 1) ∧ PBox wx B6 a b (.slice (some ⟨g, 0, none⟩) n n) ∧ FBox wx B6 ∧ wx.ownsRow w1.heap.size 3 1 (.slice (some ⟨g, 0, none⟩) n n) n (List.replicate n (.int .i64 0)) ∧ g ≠ B6 ∧ w1.heap.size ≤ B6 ∧ w1.heap.size ≤ g ∧ Below w.heap.size w wx)
  case first =>
    obtain ⟨u1, hmk1, hown1, hbu1, hlt1⟩ := make_run w1.drew eltI rfl n (by omega) (by omega)
    obtain ⟨u2, hmk2, hown2, hbu2, hlt2⟩ := make_run (w1.alloc (.cells #[.int .i64 0, .int .i64 0, .slice none 0 0] 30)).drew eltI rfl n (by omega) (by omega)
    have bu1 := undrew hbu1
    have bu2 : Below (w1.alloc (.cells #[.int .i64 0, .int .i64 0, .slice none 0 0] 30)).heap.size (w1.alloc (.cells #[.int .i64 0, .int .i64 0, .slice none 0 0] 30)) u2 := undrew hbu2
    obtain ⟨p1, p2, p3⟩ := PBox.below ⟨g1, g2, g3⟩ bu1
    obtain ⟨q1, q2, q3⟩ := PBox.below ⟨g1, g2, g3⟩ (step_trans (below_alloc w1 _) bu2)
    have r1 : ∀ o, (w1.alloc o).cell? ⟨w.heap.size, 0, none⟩ = some (.int .i64 a) := fun o => Below.cell_of (below_alloc w1 o) g1
    have r2 : ∀ o, (w1.alloc o).cell? ⟨w.heap.size, 1, none⟩ = some (.int .i64 b) := fun o => Below.cell_of (below_alloc w1 o) g2
    have r3 : ∀ o, (w1.alloc o).cell? ⟨w.heap.size, 2, none⟩ = some (.slice A n c) := fun o => Below.cell_of (below_alloc w1 o) g3
    have s1 : ∀ o, (u1.alloc o).cell? ⟨w.heap.size, 0, none⟩ = some (.int .i64 a) := fun o => Below.cell_of (below_alloc u1 o) p1
    have s2 : ∀ o, (u1.alloc o).cell? ⟨w.heap.size, 1, none⟩ = some (.int .i64 b) := fun o => Below.cell_of (below_alloc u1 o) p2
    obtain ⟨z1, z2, z3⟩ := PBox.below (PBox.new w1 0 0 (.slice none 0 0) 30) bu2
    obtain ⟨-, z4⟩ := FBox.below (FBox.new w1 #[.int .i64 0, .int .i64 0, .slice none 0 0] 30) bu2
    go_region
    all_goals go_wp2_with fail
    all_goals go_meet
    · exact ⟨u1.heap.size, w1.heap.size, rfl, PBox.below ⟨p1, p2, p3⟩ (below_alloc _ _), (k2.below bu1).below (below_alloc _ _), (f2.below bu1).below (below_alloc _ _), PBox.new u1 a b _ _, FBox.new u1 _ _, hown1.alloc _, Nat.ne_of_lt hlt1, Nat.le_of_lt hlt1, Nat.le_refl _, step_trans (step_trans hB1 bu1) (below_alloc _ _)⟩
    · have hz2 : w1.heap.size + 1 < u2.heap.size := by simpa using hlt2
      refine ⟨w1.heap.size, w1.heap.size + 1, rfl, other3 ⟨q1, q2, q3⟩ (by omega) _ _ _, other3 ((k2.below (below_alloc _ _)).below bu2) (by omega) _ _ _, (((f2.below (below_alloc _ _)).below bu2).set _ _).set _ _ |>.set _ _, PBox.set012 ⟨z1, z2, z3⟩ _ _ _, FBox.set (FBox.set (FBox.set ⟨by omega, z4⟩ _ _) _ _) _ _, ?_, by omega, Nat.le_refl _, by omega, ?_⟩
      · have h2 : u2.ownsRow (w1.heap.size + 1) 3 1 (.slice (some ⟨w1.heap.size + 1, 0, none⟩) n n) n (List.replicate n (.int .i64 0)) := by simpa using hown2
        exact own_base (ownsRow_setCell_below (ownsRow_setCell_below (ownsRow_setCell_below h2 (by simp) _) (by simp) _) (by simp) _) (by omega)
      · have hBu := step_trans hB1 (step_trans (below_alloc w1 _) bu2)
        exact ((hBu.setCell (by simp; omega) _).setCell (by simp; omega) _).setCell (by simp; omega) _
  case rest =>
    obtain ⟨B6, g, rfl, k1, k2, f2, k6, f6, hown, hne, hB6, hgB, hBw⟩ := hcut
    rw [zero_row] at hown
    have hown0 : wc.ownsRow w1.heap.size 3 1 (.slice (some ⟨g, 0, none⟩) n n) n (ints (movTo (mpos 2 a b) l 0)) := by rw [movTo, hl.out]; exact hown
    clear hown g1 g2 g3 hB1
    obtain ⟨d1, d2, d3⟩ := id k1
    go_wp2_with fail
    refine (motions_any a b _ _ (by omega) (by omega) ha1 hb1).mono ?_
    rintro e w5 ⟨E, N, rfl, hE, hN, hE1, hN1, hb5⟩
    clear d1 d2 d3
    have hb5 := id hb5
    have j1 := k1.below hb5
    have j2 := k2.below hb5
    have j3 := f2.below hb5
    have j6 := k6.below hb5
    have hrow := own_below hown0 hb5
    have hgl : g < w5.heap.size := (hrow.lt g rfl).2
    have hB5 := step_trans hBw hb5
    have hgE : g ≠ E.block := Nat.ne_of_lt (Nat.lt_of_lt_of_le (hown0.lt g rfl).2 hE1)
    have hgN : g ≠ N.block := Nat.ne_of_lt (Nat.lt_of_lt_of_le (hown0.lt g rfl).2 hN1)
    have hEl := cell_lt hE
    have hNl := cell_lt hN
    clear k1 k2 f2 k6 hown0 hBw hb5 f6
    obtain ⟨d1, d2, d3⟩ := id j1
    have egf : ∀ args W, (callFunc 89 args).run Try.prog W = .ok (.enter 89 args) W := (enters_of Try.func89 (by kernel_rfl) rfl)
    have ix : ∀ W, (Instr.index 68 (.agg #[.func (.func 87) #[] #[], .func (.func 88) #[] #[.pointer (some N)], .func (.func 89) #[] #[.pointer (some E), .pointer (some N)], .func (.func 90) #[] #[.pointer (some E)], .func (.func 91) #[] #[.pointer (some E)]]) (.int .i64 2)).run Try.prog W = .ok (.func (.func 89) #[] #[.pointer (some E), .pointer (some N)]) W := fun _ => by kernel_rfl
    go_wp2
    clear d1 d2 d3 ix
    go_loopw [44] (fun i wr => ∃ q : Nat, q ≤ n ∧ i = .int .i64 q ∧ wr.ownsRow w1.heap.size 3 1 (.slice (some ⟨g, 0, none⟩) n n) n (ints (movTo (mpos 2 a b) l q)) ∧ PBox wr w.heap.size a b (.slice A n c) ∧ PBox wr (w.heap.size + 1) 0 0 (.slice none 0 0) ∧ FBox wr (w.heap.size + 1) ∧ PBox wr B6 a b (.slice (some ⟨g, 0, none⟩) n n) ∧ wr.cell? E = some (.int .i64 ((a : Int) - 1)) ∧ wr.cell? N = some (.int .i64 ((b : Int) - 1)) ∧ Below w.heap.size w wr) (fun i _ => n - (intOf i).toNat)
    case atStart => exact ⟨0, Nat.zero_le _, rfl, hrow, j1, j2, j3, j6, hE, hN, hB5⟩
    case round =>
      obtain ⟨q, hq, rfl, hown, k1, k2, f2, k6, hE', hN', hbr⟩ := hrel
      clear hrow j1 j2 j3 j6 hE hN hB5
      by_cases hlt : q < n
      · obtain ⟨ad, rfl, hca⟩ := (h.below hbr).at_ (by omega)
        have x1 := hca q hlt
        obtain ⟨m1, m2, m3, m4, m5⟩ := mv_lt (t := 2) (a := a) (b := b) (i := q) (by omega) ha1 (by rw [← HN.out]; exact hlt)
        rw [← HN.out] at m5
        obtain ⟨X, hX⟩ : ∃ X, X = mvx 2 a b q := ⟨_, rfl⟩
        obtain ⟨Y, hY⟩ : ∃ Y, Y = mvy 2 a b q := ⟨_, rfl⟩
        obtain ⟨r, hr⟩ : ∃ r, r = q % a := ⟨_, rfl⟩
        obtain ⟨s, hs⟩ : ∃ s, s = q / a := ⟨_, rfl⟩
        have cl : ∀ W, W.cell? E = some (.int .i64 ((a : Int) - 1)) → W.cell? N = some (.int .i64 ((b : Int) - 1)) → Calls Try.prog 89 #[.int .i64 (r : Int), .int .i64 (s : Int), .pointer (some E), .pointer (some N)] W fun e w' => e = .returned (.tuple #[.int .i64 (X : Int), .int .i64 (Y : Int)]) ∧ ∃ q, w' = W.drewN q := fun W hE hN => by
          rw [hX, hY]
          have := mot3_any E N a b r s W hE hN (by omega) (by omega) (by omega) (by omega)
          rw [hr, hs] at this ⊢
          exact this
        have qm : (q : Int) % a = (r : Int) := by rw [hr]; simp
        have qd : (q : Int) / a = (s : Int) := by rw [hs]; simp
        have qm2 : (q : Int).tmod a = (r : Int) := by rw [Int.tmod_eq_emod_of_nonneg (by omega)]; exact qm
        have qd2 : (q : Int).tdiv a = (s : Int) := by rw [Int.tdiv_eq_ediv_of_nonneg (by omega)]; exact qd
        have a0 : ((a : Int) == 0) = false := by rw [beq_eq_false_iff_ne]; omega
        have hp : mpos 2 a b q = X + a * Y := by rw [hX, hY]; rfl
        obtain ⟨T, hT⟩ : ∃ T, T = a * Y := ⟨_, rfl⟩
        rw [← hT] at hp
        rw [hp] at m5
        have r3 : IntKind.i64.wrap ((a : Int) * Y) = (T : Int) := by
          have : ((a * Y : Nat) : Int) = (a : Int) * Y := by simp
          rw [IntKind.wrap_i64, ← this, ← hT]; omega
        have r4 : IntKind.i64.wrap ((X : Int) + T) = ((X + T : Nat) : Int) := by
          rw [IntKind.wrap_i64]; omega
        have Cl := hidx cl
        have x2 := hown.cellAt (X + T) (by omega)
        rw [ints_get _ _ (by rw [movTo_len, hl.out]; omega)] at x2
        have x3 := hown.frozenAt (X + T)
        have st := hown.stored (X + T) (.int .i64 (nth l q))
        rw [← ints_set, ← hp, show (movTo (mpos 2 a b) l q).set (mpos 2 a b q) (nth l q) = movTo (mpos 2 a b) l (q + 1) from rfl, hp] at st
        have St := hidx st
        have J := hidx (And.intro (k1.other ⟨g, X + T, none⟩ (by simp; omega) (.int .i64 (nth l q))) (And.intro (k2.other ⟨g, X + T, none⟩ (by simp; omega) (.int .i64 (nth l q))) (And.intro (f2.set ⟨g, X + T, none⟩ (.int .i64 (nth l q))) (And.intro (k6.other ⟨g, X + T, none⟩ (by simp; omega) (.int .i64 (nth l q))) (And.intro ((World.cell?_setCell_other _ _ _ _ (by intro e; exact hgE (by rw [← e])) : (wr.setCell ⟨g, X + T, none⟩ (.int .i64 (nth l q))).cell? E = _).trans hE') ((World.cell?_setCell_other _ _ _ _ (by intro e; exact hgN (by rw [← e])) : (wr.setCell ⟨g, X + T, none⟩ (.int .i64 (nth l q))).cell? N = _).trans hN'))))))
        obtain ⟨d1, -, -⟩ := k1
        obtain ⟨d4, -, d6⟩ := k6
        clear hX hY hr hs cl hp hT st hca k2 f2
        go_wp2
        go_quiet ((go_at_call 89; exact quiet_drew (Cl.out _ hE' hN')))
        go_wp2
        go_roundw
        case rel => exact ⟨q + 1, by omega, by go_num, St.out.1, J.out.1, J.out.2.1, J.out.2.2.1, J.out.2.2.2.1, J.out.2.2.2.2.1, J.out.2.2.2.2.2, (below_drewN hbr nq).setCell (p := ⟨g, X + T, none⟩) (by simp; omega) _⟩
        case measure => simp [intOf]; omega
      · have hqn : q = n := by omega
        subst hqn
        have hs := own_SI hown
        obtain ⟨d1, d2, d3⟩ := k6
        obtain ⟨d4, d5, d6⟩ := k2
        obtain ⟨-, d7⟩ := f2
        have hA : ∀ ad, some (⟨g, 0, none⟩ : Addr) = some ad → ad.block = g := fun ad e => by cases e; rfl
        have HA := hidx hA
        clear hown hA
        go_wp2
        refine bodyPost_ret (v := .tuple #[.agg #[.int .i64 a, .int .i64 b, .slice (some ⟨g, 0, none⟩) q q], .int .i64 0]) (by simp [results, Try.results64, go_sem, d4, d5, d6]) rfl ⟨some ⟨g, 0, none⟩, q, rfl, ?_, fun ad e => by have := HA.out ad e; omega, ?_⟩
        · exact SI.other (SI.other (SI.other hs _ (by intro ad e; have := HA.out ad e; simp; omega) _) _ (by intro ad e; have := HA.out ad e; simp; omega) _) _ (by intro ad e; have := HA.out ad e; simp; omega) _
        · exact ((hbr.setCell (by simp) _).setCell (by simp) _).setCell (by simp) _

set_option maxRecDepth 100000 in
set_option maxHeartbeats 4000000 in
theorem moved3 (A : Option Addr) (n c a b : Nat) (l : List Int) (w : World) (h : SI w A n c l) (hv : validP a b l = true) (ha1 : 1 ≤ a) (ha2 : a ≤ 16) (hb1 : 1 ≤ b) (hb2 : b ≤ 16) (hn : n = a * b) :
    Calls Try.prog 64 #[.agg #[.int .i64 a, .int .i64 b, .slice A n c], .int .i64 3] w fun e w' => ∃ A' c', e = .returned (.tuple #[.agg #[.int .i64 (mvw 3 a b : Nat), .int .i64 (mvh 3 a b : Nat), .slice A' n c'], .int .i64 0]) ∧ SI w' A' n c' (movTo (mpos 3 a b) l n) ∧ Fresh w A' ∧ Below w.heap.size w w' := by
  have hb0 := step_trans (below_alloc w (.cells #[.int .i64 a, .int .i64 b, .slice A n c] 30)) (below_alloc _ (.cells #[.int .i64 0, .int .i64 0, .slice none 0 0] 30))
  have hc1 := (PBox.new w a b (.slice A n c) 30).below (below_alloc _ (.cells #[.int .i64 0, .int .i64 0, .slice none 0 0] 30))
  have hc2 := PBox.new (w.alloc (.cells #[.int .i64 a, .int .i64 b, .slice A n c] 30)) 0 0 (.slice none 0 0) 30
  have hf2 := FBox.new (w.alloc (.cells #[.int .i64 a, .int .i64 b, .slice A n c] 30)) #[.int .i64 0, .int .i64 0, .slice none 0 0] 30
  rw [World.size_alloc] at hc2 hf2
  have va := Valid_any A n c a b l _ (h.below hb0)
  rw [hv] at va
  have Va := hidx va
  have hl := hidx h.len
  have hn' : n ≤ 256 := by rw [hn]; exact Nat.mul_le_mul ha2 hb2
  have HN := hidx hn
  clear va hv hn
  go_enter Try.func64, Try.ntmps64
  go_wp2_with fail
  refine Va.out.mono ?_
  rintro e w1 ⟨rfl, hbv⟩
  have hB1 := step_trans hb0 hbv
  obtain ⟨g1, g2, g3⟩ := hc1.below hbv
  have k2 := hc2.below hbv
  have f2 := hf2.below hbv
  have hz : w.heap.size + 2 ≤ w1.heap.size := by have := hbv.size; simp at this; omega
  clear Va hc1 hc2 hf2 hb0 hbv
  go_wp2
  go_cut [6] (fun s6 wx => ∃ (B6 g : Nat), s6 = .pointer (some ⟨B6, 0, none⟩) ∧ PBox wx w.heap.size a b (.slice A n c) ∧ PBox wx (w.heap.size + 1) 0 0 (.slice none 0 0) ∧ FBox wx (w.heap.size + 1) ∧ PBox wx B6 a b (.slice (some ⟨g, 0, none⟩) n n) ∧ FBox wx B6 ∧ wx.ownsRow w1.heap.size 3 1 (.slice (some ⟨g, 0, none⟩) n n) n (List.replicate n (.int .i64 0)) ∧ g ≠ B6 ∧ w1.heap.size ≤ B6 ∧ w1.heap.size ≤ g ∧ Below w.heap.size w wx)
  case first =>
    obtain ⟨u1, hmk1, hown1, hbu1, hlt1⟩ := make_run w1.drew eltI rfl n (by omega) (by omega)
    obtain ⟨u2, hmk2, hown2, hbu2, hlt2⟩ := make_run (w1.alloc (.cells #[.int .i64 0, .int .i64 0, .slice none 0 0] 30)).drew eltI rfl n (by omega) (by omega)
    have bu1 := undrew hbu1
    have bu2 : Below (w1.alloc (.cells #[.int .i64 0, .int .i64 0, .slice none 0 0] 30)).heap.size (w1.alloc (.cells #[.int .i64 0, .int .i64 0, .slice none 0 0] 30)) u2 := undrew hbu2
    obtain ⟨p1, p2, p3⟩ := PBox.below ⟨g1, g2, g3⟩ bu1
    obtain ⟨q1, q2, q3⟩ := PBox.below ⟨g1, g2, g3⟩ (step_trans (below_alloc w1 _) bu2)
    have r1 : ∀ o, (w1.alloc o).cell? ⟨w.heap.size, 0, none⟩ = some (.int .i64 a) := fun o => Below.cell_of (below_alloc w1 o) g1
    have r2 : ∀ o, (w1.alloc o).cell? ⟨w.heap.size, 1, none⟩ = some (.int .i64 b) := fun o => Below.cell_of (below_alloc w1 o) g2
    have r3 : ∀ o, (w1.alloc o).cell? ⟨w.heap.size, 2, none⟩ = some (.slice A n c) := fun o => Below.cell_of (below_alloc w1 o) g3
    have s1 : ∀ o, (u1.alloc o).cell? ⟨w.heap.size, 0, none⟩ = some (.int .i64 a) := fun o => Below.cell_of (below_alloc u1 o) p1
    have s2 : ∀ o, (u1.alloc o).cell? ⟨w.heap.size, 1, none⟩ = some (.int .i64 b) := fun o => Below.cell_of (below_alloc u1 o) p2
    obtain ⟨z1, z2, z3⟩ := PBox.below (PBox.new w1 0 0 (.slice none 0 0) 30) bu2
    obtain ⟨-, z4⟩ := FBox.below (FBox.new w1 #[.int .i64 0, .int .i64 0, .slice none 0 0] 30) bu2
    go_region
    all_goals go_wp2_with fail
    all_goals go_meet
    · exact ⟨u1.heap.size, w1.heap.size, rfl, PBox.below ⟨p1, p2, p3⟩ (below_alloc _ _), (k2.below bu1).below (below_alloc _ _), (f2.below bu1).below (below_alloc _ _), PBox.new u1 a b _ _, FBox.new u1 _ _, hown1.alloc _, Nat.ne_of_lt hlt1, Nat.le_of_lt hlt1, Nat.le_refl _, step_trans (step_trans hB1 bu1) (below_alloc _ _)⟩
    · have hz2 : w1.heap.size + 1 < u2.heap.size := by simpa using hlt2
      refine ⟨w1.heap.size, w1.heap.size + 1, rfl, other3 ⟨q1, q2, q3⟩ (by omega) _ _ _, other3 ((k2.below (below_alloc _ _)).below bu2) (by omega) _ _ _, (((f2.below (below_alloc _ _)).below bu2).set _ _).set _ _ |>.set _ _, PBox.set012 ⟨z1, z2, z3⟩ _ _ _, FBox.set (FBox.set (FBox.set ⟨by omega, z4⟩ _ _) _ _) _ _, ?_, by omega, Nat.le_refl _, by omega, ?_⟩
      · have h2 : u2.ownsRow (w1.heap.size + 1) 3 1 (.slice (some ⟨w1.heap.size + 1, 0, none⟩) n n) n (List.replicate n (.int .i64 0)) := by simpa using hown2
        exact own_base (ownsRow_setCell_below (ownsRow_setCell_below (ownsRow_setCell_below h2 (by simp) _) (by simp) _) (by simp) _) (by omega)
      · have hBu := step_trans hB1 (step_trans (below_alloc w1 _) bu2)
        exact ((hBu.setCell (by simp; omega) _).setCell (by simp; omega) _).setCell (by simp; omega) _
  case rest =>
    obtain ⟨B6, g, rfl, k1, k2, f2, k6, f6, hown, hne, hB6, hgB, hBw⟩ := hcut
    rw [zero_row] at hown
    have hown0 : wc.ownsRow w1.heap.size 3 1 (.slice (some ⟨g, 0, none⟩) n n) n (ints (movTo (mpos 3 a b) l 0)) := by rw [movTo, hl.out]; exact hown
    clear hown g1 g2 g3 hB1
    go_wp2
    obtain ⟨d1, d2, d3⟩ := id k1
    obtain ⟨d4, d5, d6⟩ := id k6
    obtain ⟨-, d7⟩ := id f6
    have hb6 : B6 ≠ w.heap.size := by omega
    have d8 : ∀ v, (wc.setCell ⟨B6, 0, none⟩ v).cell? ⟨w.heap.size, 0, none⟩ = some (.int .i64 a) := fun v => (World.cell?_setCell_other _ _ _ _ (by intro e; injection e with e; omega)).trans d1
    have d9 : ∀ v, (wc.setCell ⟨B6, 0, none⟩ v).cell? ⟨B6, 1, none⟩ = some (.int .i64 b) := fun v => (World.cell?_setCell_other _ _ _ _ (by simp)).trans d5
    go_region
    clear d1 d2 d3 d4 d5 d6 d7 d8 d9
    have k1 := (k1.other ⟨B6, 0, none⟩ (by simp; omega) (.int .i64 b)).other ⟨B6, 1, none⟩ (by simp; omega) (.int .i64 a)
    have k2 := (k2.other ⟨B6, 0, none⟩ (by simp; omega) (.int .i64 b)).other ⟨B6, 1, none⟩ (by simp; omega) (.int .i64 a)
    have f2 := (f2.set ⟨B6, 0, none⟩ (.int .i64 b)).set ⟨B6, 1, none⟩ (.int .i64 a)
    have k6 := k6.set01 b a
    have hown0 := ownsRow_setCell_other (ownsRow_setCell_other hown0 (a := ⟨B6, 0, none⟩) (by simp [Value.ownBlock]; exact hne) (.int .i64 b)) (a := ⟨B6, 1, none⟩) (by simp [Value.ownBlock]; exact hne) (.int .i64 a)
    have hBw := (hBw.setCell (p := ⟨B6, 0, none⟩) (by simp; omega) (.int .i64 b)).setCell (p := ⟨B6, 1, none⟩) (by simp; omega) (.int .i64 a)
    obtain ⟨d1, d2, d3⟩ := id k1
    go_wp2_with fail
    refine (motions_any a b _ _ (by omega) (by omega) ha1 hb1).mono ?_
    rintro e w5 ⟨E, N, rfl, hE, hN, hE1, hN1, hb5⟩
    clear d1 d2 d3
    have hb5 := undrew hb5
    have j1 := k1.below hb5
    have j2 := k2.below hb5
    have j3 := f2.below hb5
    have j6 := k6.below hb5
    have hrow := own_below hown0 hb5
    have hgl : g < w5.heap.size := (hrow.lt g rfl).2
    have hB5 := step_trans hBw hb5
    have hgE : g ≠ E.block := Nat.ne_of_lt (Nat.lt_of_lt_of_le (hown0.lt g rfl).2 hE1)
    have hgN : g ≠ N.block := Nat.ne_of_lt (Nat.lt_of_lt_of_le (hown0.lt g rfl).2 hN1)
    have hEl := cell_lt hE
    have hNl := cell_lt hN
    clear k1 k2 f2 k6 hown0 hBw hb5 f6
    obtain ⟨d1, d2, d3⟩ := id j1
    have egf : ∀ args W, (callFunc 90 args).run Try.prog W = .ok (.enter 90 args) W := (enters_of Try.func90 (by kernel_rfl) rfl)
    have ix : ∀ W, (Instr.index 68 (.agg #[.func (.func 87) #[] #[], .func (.func 88) #[] #[.pointer (some N)], .func (.func 89) #[] #[.pointer (some E), .pointer (some N)], .func (.func 90) #[] #[.pointer (some E)], .func (.func 91) #[] #[.pointer (some E)]]) (.int .i64 3)).run Try.prog W = .ok (.func (.func 90) #[] #[.pointer (some E)]) W := fun _ => by kernel_rfl
    go_wp2
    clear d1 d2 d3 ix
    go_loopw [44] (fun i wr => ∃ q : Nat, q ≤ n ∧ i = .int .i64 q ∧ wr.ownsRow w1.heap.size 3 1 (.slice (some ⟨g, 0, none⟩) n n) n (ints (movTo (mpos 3 a b) l q)) ∧ PBox wr w.heap.size a b (.slice A n c) ∧ PBox wr (w.heap.size + 1) 0 0 (.slice none 0 0) ∧ FBox wr (w.heap.size + 1) ∧ PBox wr B6 b a (.slice (some ⟨g, 0, none⟩) n n) ∧ wr.cell? E = some (.int .i64 ((a : Int) - 1)) ∧ wr.cell? N = some (.int .i64 ((b : Int) - 1)) ∧ Below w.heap.size w wr) (fun i _ => n - (intOf i).toNat)
    case atStart => exact ⟨0, Nat.zero_le _, rfl, hrow, j1, j2, j3, j6, hE, hN, hB5⟩
    case round =>
      obtain ⟨q, hq, rfl, hown, k1, k2, f2, k6, hE', hN', hbr⟩ := hrel
      clear hrow j1 j2 j3 j6 hE hN hB5
      by_cases hlt : q < n
      · obtain ⟨ad, rfl, hca⟩ := (h.below hbr).at_ (by omega)
        have x1 := hca q hlt
        obtain ⟨m1, m2, m3, m4, m5⟩ := mv_lt (t := 3) (a := a) (b := b) (i := q) (by omega) ha1 (by rw [← HN.out]; exact hlt)
        rw [← HN.out] at m5
        obtain ⟨X, hX⟩ : ∃ X, X = mvx 3 a b q := ⟨_, rfl⟩
        obtain ⟨Y, hY⟩ : ∃ Y, Y = mvy 3 a b q := ⟨_, rfl⟩
        obtain ⟨r, hr⟩ : ∃ r, r = q % a := ⟨_, rfl⟩
        obtain ⟨s, hs⟩ : ∃ s, s = q / a := ⟨_, rfl⟩
        have cl : ∀ W, W.cell? E = some (.int .i64 ((a : Int) - 1)) → W.cell? N = some (.int .i64 ((b : Int) - 1)) → Calls Try.prog 90 #[.int .i64 (r : Int), .int .i64 (s : Int), .pointer (some E)] W fun e w' => e = .returned (.tuple #[.int .i64 (X : Int), .int .i64 (Y : Int)]) ∧ ∃ q, w' = W.drewN q := fun W hE hN => by
          rw [hX, hY]
          have := mot4_any E a r s W hE (by omega) (by omega)
          rw [hr, hs] at this ⊢
          exact this
        have qm : (q : Int) % a = (r : Int) := by rw [hr]; simp
        have qd : (q : Int) / a = (s : Int) := by rw [hs]; simp
        have qm2 : (q : Int).tmod a = (r : Int) := by rw [Int.tmod_eq_emod_of_nonneg (by omega)]; exact qm
        have qd2 : (q : Int).tdiv a = (s : Int) := by rw [Int.tdiv_eq_ediv_of_nonneg (by omega)]; exact qd
        have a0 : ((a : Int) == 0) = false := by rw [beq_eq_false_iff_ne]; omega
        have hp : mpos 3 a b q = X + b * Y := by rw [hX, hY]; rfl
        obtain ⟨T, hT⟩ : ∃ T, T = b * Y := ⟨_, rfl⟩
        rw [← hT] at hp
        rw [hp] at m5
        have r3 : IntKind.i64.wrap ((b : Int) * Y) = (T : Int) := by
          have : ((b * Y : Nat) : Int) = (b : Int) * Y := by simp
          rw [IntKind.wrap_i64, ← this, ← hT]; omega
        have r4 : IntKind.i64.wrap ((X : Int) + T) = ((X + T : Nat) : Int) := by
          rw [IntKind.wrap_i64]; omega
        have Cl := hidx cl
        have x2 := hown.cellAt (X + T) (by omega)
        rw [ints_get _ _ (by rw [movTo_len, hl.out]; omega)] at x2
        have x3 := hown.frozenAt (X + T)
        have st := hown.stored (X + T) (.int .i64 (nth l q))
        rw [← ints_set, ← hp, show (movTo (mpos 3 a b) l q).set (mpos 3 a b q) (nth l q) = movTo (mpos 3 a b) l (q + 1) from rfl, hp] at st
        have St := hidx st
        have J := hidx (And.intro (k1.other ⟨g, X + T, none⟩ (by simp; omega) (.int .i64 (nth l q))) (And.intro (k2.other ⟨g, X + T, none⟩ (by simp; omega) (.int .i64 (nth l q))) (And.intro (f2.set ⟨g, X + T, none⟩ (.int .i64 (nth l q))) (And.intro (k6.other ⟨g, X + T, none⟩ (by simp; omega) (.int .i64 (nth l q))) (And.intro ((World.cell?_setCell_other _ _ _ _ (by intro e; exact hgE (by rw [← e])) : (wr.setCell ⟨g, X + T, none⟩ (.int .i64 (nth l q))).cell? E = _).trans hE') ((World.cell?_setCell_other _ _ _ _ (by intro e; exact hgN (by rw [← e])) : (wr.setCell ⟨g, X + T, none⟩ (.int .i64 (nth l q))).cell? N = _).trans hN'))))))
        obtain ⟨d1, -, -⟩ := k1
        obtain ⟨d4, -, d6⟩ := k6
        clear hX hY hr hs cl hp hT st hca k2 f2
        go_wp2
        go_quiet ((go_at_call 90; exact quiet_drew (Cl.out _ hE' hN')))
        go_wp2
        go_roundw
        case rel => exact ⟨q + 1, by omega, by go_num, St.out.1, J.out.1, J.out.2.1, J.out.2.2.1, J.out.2.2.2.1, J.out.2.2.2.2.1, J.out.2.2.2.2.2, (below_drewN hbr nq).setCell (p := ⟨g, X + T, none⟩) (by simp; omega) _⟩
        case measure => simp [intOf]; omega
      · have hqn : q = n := by omega
        subst hqn
        have hs := own_SI hown
        obtain ⟨d1, d2, d3⟩ := k6
        obtain ⟨d4, d5, d6⟩ := k2
        obtain ⟨-, d7⟩ := f2
        have hA : ∀ ad, some (⟨g, 0, none⟩ : Addr) = some ad → ad.block = g := fun ad e => by cases e; rfl
        have HA := hidx hA
        clear hown hA
        go_wp2
        refine bodyPost_ret (v := .tuple #[.agg #[.int .i64 b, .int .i64 a, .slice (some ⟨g, 0, none⟩) q q], .int .i64 0]) (by simp [results, Try.results64, go_sem, d4, d5, d6]) rfl ⟨some ⟨g, 0, none⟩, q, rfl, ?_, fun ad e => by have := HA.out ad e; omega, ?_⟩
        · exact SI.other (SI.other (SI.other hs _ (by intro ad e; have := HA.out ad e; simp; omega) _) _ (by intro ad e; have := HA.out ad e; simp; omega) _) _ (by intro ad e; have := HA.out ad e; simp; omega) _
        · exact ((hbr.setCell (by simp) _).setCell (by simp) _).setCell (by simp) _

set_option maxRecDepth 100000 in
set_option maxHeartbeats 4000000 in
theorem moved4 (A : Option Addr) (n c a b : Nat) (l : List Int) (w : World) (h : SI w A n c l) (hv : validP a b l = true) (ha1 : 1 ≤ a) (ha2 : a ≤ 16) (hb1 : 1 ≤ b) (hb2 : b ≤ 16) (hn : n = a * b) :
    Calls Try.prog 64 #[.agg #[.int .i64 a, .int .i64 b, .slice A n c], .int .i64 4] w fun e w' => ∃ A' c', e = .returned (.tuple #[.agg #[.int .i64 (mvw 4 a b : Nat), .int .i64 (mvh 4 a b : Nat), .slice A' n c'], .int .i64 0]) ∧ SI w' A' n c' (movTo (mpos 4 a b) l n) ∧ Fresh w A' ∧ Below w.heap.size w w' := by
  have hb0 := step_trans (below_alloc w (.cells #[.int .i64 a, .int .i64 b, .slice A n c] 30)) (below_alloc _ (.cells #[.int .i64 0, .int .i64 0, .slice none 0 0] 30))
  have hc1 := (PBox.new w a b (.slice A n c) 30).below (below_alloc _ (.cells #[.int .i64 0, .int .i64 0, .slice none 0 0] 30))
  have hc2 := PBox.new (w.alloc (.cells #[.int .i64 a, .int .i64 b, .slice A n c] 30)) 0 0 (.slice none 0 0) 30
  have hf2 := FBox.new (w.alloc (.cells #[.int .i64 a, .int .i64 b, .slice A n c] 30)) #[.int .i64 0, .int .i64 0, .slice none 0 0] 30
  rw [World.size_alloc] at hc2 hf2
  have va := Valid_any A n c a b l _ (h.below hb0)
  rw [hv] at va
  have Va := hidx va
  have hl := hidx h.len
  have hn' : n ≤ 256 := by rw [hn]; exact Nat.mul_le_mul ha2 hb2
  have HN := hidx hn
  clear va hv hn
  go_enter Try.func64, Try.ntmps64
  go_wp2_with fail
  refine Va.out.mono ?_
  rintro e w1 ⟨rfl, hbv⟩
  have hB1 := step_trans hb0 hbv
  obtain ⟨g1, g2, g3⟩ := hc1.below hbv
  have k2 := hc2.below hbv
  have f2 := hf2.below hbv
  have hz : w.heap.size + 2 ≤ w1.heap.size := by have := hbv.size; simp at this; omega
  clear Va hc1 hc2 hf2 hb0 hbv
  go_wp2
  go_cut [6] (fun s6 wx => ∃ (B6 g : Nat), s6 = .pointer (some ⟨B6, 0, none⟩) ∧ PBox wx w.heap.size a b (.slice A n c) ∧ PBox wx (w.heap.size + 1) 0 0 (.slice none 0 0) ∧ FBox wx (w.heap.size + 1) ∧ PBox wx B6 a b (.slice (some ⟨g, 0, none⟩) n n) ∧ FBox wx B6 ∧ wx.ownsRow w1.heap.size 3 1 (.slice (some ⟨g, 0, none⟩) n n) n (List.replicate n (.int .i64 0)) ∧ g ≠ B6 ∧ w1.heap.size ≤ B6 ∧ w1.heap.size ≤ g ∧ Below w.heap.size w wx)
  case first =>
    obtain ⟨u1, hmk1, hown1, hbu1, hlt1⟩ := make_run w1.drew eltI rfl n (by omega) (by omega)
    obtain ⟨u2, hmk2, hown2, hbu2, hlt2⟩ := make_run (w1.alloc (.cells #[.int .i64 0, .int .i64 0, .slice none 0 0] 30)).drew eltI rfl n (by omega) (by omega)
    have bu1 := undrew hbu1
    have bu2 : Below (w1.alloc (.cells #[.int .i64 0, .int .i64 0, .slice none 0 0] 30)).heap.size (w1.alloc (.cells #[.int .i64 0, .int .i64 0, .slice none 0 0] 30)) u2 := undrew hbu2
    obtain ⟨p1, p2, p3⟩ := PBox.below ⟨g1, g2, g3⟩ bu1
    obtain ⟨q1, q2, q3⟩ := PBox.below ⟨g1, g2, g3⟩ (step_trans (below_alloc w1 _) bu2)
    have r1 : ∀ o, (w1.alloc o).cell? ⟨w.heap.size, 0, none⟩ = some (.int .i64 a) := fun o => Below.cell_of (below_alloc w1 o) g1
    have r2 : ∀ o, (w1.alloc o).cell? ⟨w.heap.size, 1, none⟩ = some (.int .i64 b) := fun o => Below.cell_of (below_alloc w1 o) g2
    have r3 : ∀ o, (w1.alloc o).cell? ⟨w.heap.size, 2, none⟩ = some (.slice A n c) := fun o => Below.cell_of (below_alloc w1 o) g3
    have s1 : ∀ o, (u1.alloc o).cell? ⟨w.heap.size, 0, none⟩ = some (.int .i64 a) := fun o => Below.cell_of (below_alloc u1 o) p1
    have s2 : ∀ o, (u1.alloc o).cell? ⟨w.heap.size, 1, none⟩ = some (.int .i64 b) := fun o => Below.cell_of (below_alloc u1 o) p2
    obtain ⟨z1, z2, z3⟩ := PBox.below (PBox.new w1 0 0 (.slice none 0 0) 30) bu2
    obtain ⟨-, z4⟩ := FBox.below (FBox.new w1 #[.int .i64 0, .int .i64 0, .slice none 0 0] 30) bu2
    go_region
    all_goals go_wp2_with fail
    all_goals go_meet
    · exact ⟨u1.heap.size, w1.heap.size, rfl, PBox.below ⟨p1, p2, p3⟩ (below_alloc _ _), (k2.below bu1).below (below_alloc _ _), (f2.below bu1).below (below_alloc _ _), PBox.new u1 a b _ _, FBox.new u1 _ _, hown1.alloc _, Nat.ne_of_lt hlt1, Nat.le_of_lt hlt1, Nat.le_refl _, step_trans (step_trans hB1 bu1) (below_alloc _ _)⟩
    · have hz2 : w1.heap.size + 1 < u2.heap.size := by simpa using hlt2
      refine ⟨w1.heap.size, w1.heap.size + 1, rfl, other3 ⟨q1, q2, q3⟩ (by omega) _ _ _, other3 ((k2.below (below_alloc _ _)).below bu2) (by omega) _ _ _, (((f2.below (below_alloc _ _)).below bu2).set _ _).set _ _ |>.set _ _, PBox.set012 ⟨z1, z2, z3⟩ _ _ _, FBox.set (FBox.set (FBox.set ⟨by omega, z4⟩ _ _) _ _) _ _, ?_, by omega, Nat.le_refl _, by omega, ?_⟩
      · have h2 : u2.ownsRow (w1.heap.size + 1) 3 1 (.slice (some ⟨w1.heap.size + 1, 0, none⟩) n n) n (List.replicate n (.int .i64 0)) := by simpa using hown2
        exact own_base (ownsRow_setCell_below (ownsRow_setCell_below (ownsRow_setCell_below h2 (by simp) _) (by simp) _) (by simp) _) (by omega)
      · have hBu := step_trans hB1 (step_trans (below_alloc w1 _) bu2)
        exact ((hBu.setCell (by simp; omega) _).setCell (by simp; omega) _).setCell (by simp; omega) _
  case rest =>
    obtain ⟨B6, g, rfl, k1, k2, f2, k6, f6, hown, hne, hB6, hgB, hBw⟩ := hcut
    rw [zero_row] at hown
    have hown0 : wc.ownsRow w1.heap.size 3 1 (.slice (some ⟨g, 0, none⟩) n n) n (ints (movTo (mpos 4 a b) l 0)) := by rw [movTo, hl.out]; exact hown
    clear hown g1 g2 g3 hB1
    obtain ⟨d1, d2, d3⟩ := id k1
    go_wp2_with fail
    refine (motions_any a b _ _ (by omega) (by omega) ha1 hb1).mono ?_
    rintro e w5 ⟨E, N, rfl, hE, hN, hE1, hN1, hb5⟩
    clear d1 d2 d3
    have hb5 := id hb5
    have j1 := k1.below hb5
    have j2 := k2.below hb5
    have j3 := f2.below hb5
    have j6 := k6.below hb5
    have hrow := own_below hown0 hb5
    have hgl : g < w5.heap.size := (hrow.lt g rfl).2
    have hB5 := step_trans hBw hb5
    have hgE : g ≠ E.block := Nat.ne_of_lt (Nat.lt_of_lt_of_le (hown0.lt g rfl).2 hE1)
    have hgN : g ≠ N.block := Nat.ne_of_lt (Nat.lt_of_lt_of_le (hown0.lt g rfl).2 hN1)
    have hEl := cell_lt hE
    have hNl := cell_lt hN
    clear k1 k2 f2 k6 hown0 hBw hb5 f6
    obtain ⟨d1, d2, d3⟩ := id j1
    have egf : ∀ args W, (callFunc 91 args).run Try.prog W = .ok (.enter 91 args) W := (enters_of Try.func91 (by kernel_rfl) rfl)
    have ix : ∀ W, (Instr.index 68 (.agg #[.func (.func 87) #[] #[], .func (.func 88) #[] #[.pointer (some N)], .func (.func 89) #[] #[.pointer (some E), .pointer (some N)], .func (.func 90) #[] #[.pointer (some E)], .func (.func 91) #[] #[.pointer (some E)]]) (.int .i64 4)).run Try.prog W = .ok (.func (.func 91) #[] #[.pointer (some E)]) W := fun _ => by kernel_rfl
    go_wp2
    clear d1 d2 d3 ix
    go_loopw [44] (fun i wr => ∃ q : Nat, q ≤ n ∧ i = .int .i64 q ∧ wr.ownsRow w1.heap.size 3 1 (.slice (some ⟨g, 0, none⟩) n n) n (ints (movTo (mpos 4 a b) l q)) ∧ PBox wr w.heap.size a b (.slice A n c) ∧ PBox wr (w.heap.size + 1) 0 0 (.slice none 0 0) ∧ FBox wr (w.heap.size + 1) ∧ PBox wr B6 a b (.slice (some ⟨g, 0, none⟩) n n) ∧ wr.cell? E = some (.int .i64 ((a : Int) - 1)) ∧ wr.cell? N = some (.int .i64 ((b : Int) - 1)) ∧ Below w.heap.size w wr) (fun i _ => n - (intOf i).toNat)
    case atStart => exact ⟨0, Nat.zero_le _, rfl, hrow, j1, j2, j3, j6, hE, hN, hB5⟩
    case round =>
      obtain ⟨q, hq, rfl, hown, k1, k2, f2, k6, hE', hN', hbr⟩ := hrel
      clear hrow j1 j2 j3 j6 hE hN hB5
      by_cases hlt : q < n
      · obtain ⟨ad, rfl, hca⟩ := (h.below hbr).at_ (by omega)
        have x1 := hca q hlt
        obtain ⟨m1, m2, m3, m4, m5⟩ := mv_lt (t := 4) (a := a) (b := b) (i := q) (by omega) ha1 (by rw [← HN.out]; exact hlt)
        rw [← HN.out] at m5
        obtain ⟨X, hX⟩ : ∃ X, X = mvx 4 a b q := ⟨_, rfl⟩
        obtain ⟨Y, hY⟩ : ∃ Y, Y = mvy 4 a b q := ⟨_, rfl⟩
        obtain ⟨r, hr⟩ : ∃ r, r = q % a := ⟨_, rfl⟩
        obtain ⟨s, hs⟩ : ∃ s, s = q / a := ⟨_, rfl⟩
        have cl : ∀ W, W.cell? E = some (.int .i64 ((a : Int) - 1)) → W.cell? N = some (.int .i64 ((b : Int) - 1)) → Calls Try.prog 91 #[.int .i64 (r : Int), .int .i64 (s : Int), .pointer (some E)] W fun e w' => e = .returned (.tuple #[.int .i64 (X : Int), .int .i64 (Y : Int)]) ∧ ∃ q, w' = W.drewN q := fun W hE hN => by
          rw [hX, hY]
          have := mot5_any E a r s W hE (by omega) (by omega)
          rw [hr, hs] at this ⊢
          exact this
        have qm : (q : Int) % a = (r : Int) := by rw [hr]; simp
        have qd : (q : Int) / a = (s : Int) := by rw [hs]; simp
        have qm2 : (q : Int).tmod a = (r : Int) := by rw [Int.tmod_eq_emod_of_nonneg (by omega)]; exact qm
        have qd2 : (q : Int).tdiv a = (s : Int) := by rw [Int.tdiv_eq_ediv_of_nonneg (by omega)]; exact qd
        have a0 : ((a : Int) == 0) = false := by rw [beq_eq_false_iff_ne]; omega
        have hp : mpos 4 a b q = X + a * Y := by rw [hX, hY]; rfl
        obtain ⟨T, hT⟩ : ∃ T, T = a * Y := ⟨_, rfl⟩
        rw [← hT] at hp
        rw [hp] at m5
        have r3 : IntKind.i64.wrap ((a : Int) * Y) = (T : Int) := by
          have : ((a * Y : Nat) : Int) = (a : Int) * Y := by simp
          rw [IntKind.wrap_i64, ← this, ← hT]; omega
        have r4 : IntKind.i64.wrap ((X : Int) + T) = ((X + T : Nat) : Int) := by
          rw [IntKind.wrap_i64]; omega
        have Cl := hidx cl
        have x2 := hown.cellAt (X + T) (by omega)
        rw [ints_get _ _ (by rw [movTo_len, hl.out]; omega)] at x2
        have x3 := hown.frozenAt (X + T)
        have st := hown.stored (X + T) (.int .i64 (nth l q))
        rw [← ints_set, ← hp, show (movTo (mpos 4 a b) l q).set (mpos 4 a b q) (nth l q) = movTo (mpos 4 a b) l (q + 1) from rfl, hp] at st
        have St := hidx st
        have J := hidx (And.intro (k1.other ⟨g, X + T, none⟩ (by simp; omega) (.int .i64 (nth l q))) (And.intro (k2.other ⟨g, X + T, none⟩ (by simp; omega) (.int .i64 (nth l q))) (And.intro (f2.set ⟨g, X + T, none⟩ (.int .i64 (nth l q))) (And.intro (k6.other ⟨g, X + T, none⟩ (by simp; omega) (.int .i64 (nth l q))) (And.intro ((World.cell?_setCell_other _ _ _ _ (by intro e; exact hgE (by rw [← e])) : (wr.setCell ⟨g, X + T, none⟩ (.int .i64 (nth l q))).cell? E = _).trans hE') ((World.cell?_setCell_other _ _ _ _ (by intro e; exact hgN (by rw [← e])) : (wr.setCell ⟨g, X + T, none⟩ (.int .i64 (nth l q))).cell? N = _).trans hN'))))))
        obtain ⟨d1, -, -⟩ := k1
        obtain ⟨d4, -, d6⟩ := k6
        clear hX hY hr hs cl hp hT st hca k2 f2
        go_wp2
        go_quiet ((go_at_call 91; exact quiet_drew (Cl.out _ hE' hN')))
        go_wp2
        go_roundw
        case rel => exact ⟨q + 1, by omega, by go_num, St.out.1, J.out.1, J.out.2.1, J.out.2.2.1, J.out.2.2.2.1, J.out.2.2.2.2.1, J.out.2.2.2.2.2, (below_drewN hbr nq).setCell (p := ⟨g, X + T, none⟩) (by simp; omega) _⟩
        case measure => simp [intOf]; omega
      · have hqn : q = n := by omega
        subst hqn
        have hs := own_SI hown
        obtain ⟨d1, d2, d3⟩ := k6
        obtain ⟨d4, d5, d6⟩ := k2
        obtain ⟨-, d7⟩ := f2
        have hA : ∀ ad, some (⟨g, 0, none⟩ : Addr) = some ad → ad.block = g := fun ad e => by cases e; rfl
        have HA := hidx hA
        clear hown hA
        go_wp2
        refine bodyPost_ret (v := .tuple #[.agg #[.int .i64 a, .int .i64 b, .slice (some ⟨g, 0, none⟩) q q], .int .i64 0]) (by simp [results, Try.results64, go_sem, d4, d5, d6]) rfl ⟨some ⟨g, 0, none⟩, q, rfl, ?_, fun ad e => by have := HA.out ad e; omega, ?_⟩
        · exact SI.other (SI.other (SI.other hs _ (by intro ad e; have := HA.out ad e; simp; omega) _) _ (by intro ad e; have := HA.out ad e; simp; omega) _) _ (by intro ad e; have := HA.out ad e; simp; omega) _
        · exact ((hbr.setCell (by simp) _).setCell (by simp) _).setCell (by simp) _

end Go.Proofs.Ytahccnljckgjmaa
