/- The walk of the law MaskAdjoint: it returns true, and writes nothing that was there. No condition. -/
import Derived.Test.YtkkmlcengneomaaL1
import Derived.Test.YtkkmlcengneomaaMLaw
namespace Go.Proofs.Ytkkmlcengneomaa
open Go.RowKit Ls

theorem read_ok (A X : Option Addr) (n c k d : Nat) (m : List (List Int)) (x : List Int) (w : World) (hm : SM w A n c m) (hx : SI w X k d x) (hE : shownE m x = 0) :
    Calls Try.prog 17 #[.slice A n c, .slice X k d] w fun e w' => ∃ A' c', e = .returned (.tuple #[.slice A' n c', .int .i64 0]) ∧
      w'.ownsRow w.heap.size 3 1 (.slice A' n c') n (ints (readL m x)) ∧ Below w.heap.size w w' := by
  have h := read_any A X n c k d m x w hm hx
  have hR : readR m x = readL m x := by unfold readR; rw [if_pos hE]
  rw [hR, readL_len, hE, hm.len] at h
  exact h
theorem back_ok (A X : Option Addr) (n c k d p : Nat) (m : List (List Int)) (x : List Int) (w : World) (hm : SM w A n c m) (hx : SI w X k d x) (hE : backE m x = 0) (hp : (nthL m 0).length = p) :
    Calls Try.prog 18 #[.slice A n c, .slice X k d] w fun e w' => ∃ A' c', e = .returned (.tuple #[.slice A' p c', .int .i64 0]) ∧
      w'.ownsRow w.heap.size 3 1 (.slice A' p c') p (ints (backL m x p)) ∧ Below w.heap.size w w' := by
  have h := back_any A X n c k d m x w hm hx
  have hR : backR m x = backL m x p := by unfold backR; rw [if_pos hE, hp]
  rw [hR, backL_len, hE] at h
  exact h

theorem long2 (w : World) (t : TypeId) {A B : Option Addr} {n c m d : Nat} {x y : List Int} (h : SI w A n c x) (k : SI w B m d y) :
    Calls Try.prog 15 #[.slice (some ⟨w.heap.size, 0, none⟩) 2 2] (w.alloc (.cells #[.slice A n c, .slice B m d] t)) fun e w' => e = .returned (.bool (longB [x, y])) ∧ (w.alloc (.cells #[.slice A n c, .slice B m d] t)) = w' :=
  long_any _ 2 2 [x, y] _ (SM.new2 t h k)

set_option maxRecDepth 100000 in
set_option maxHeartbeats 4000000 in
theorem adjoint_walk {A X Z Y : Option Addr} {n c k d l e j f : Nat} {m : List (List Int)} {x z y : List Int} (w : World) (hm : SM w A n c m) (hx : SI w X k d x) (hz : SI w Z l e z) (hy : SI w Y j f y) :
    Calls Try.prog 3 #[.slice A n c, .slice X k d, .slice Z l e, .slice Y j f] w fun e w' => e = .returned (.bool true) ∧ Below w.heap.size w w' := by
  have hb0 := below_alloc w
  cases hv : validB m with
  | false =>
    go_enter Try.func3, Try.ntmps3
    go_wp2_with (first
      | (go_at_call 13; refine (rvalid_any _ _ _ _ _ hm).mono ?_; rintro e w1 ⟨rfl, rfl⟩)
      | (go_at_call 16; refine (awake_any _).mono ?_; rintro e w1 ⟨rfl, hb1⟩))
    go_ret
    exact ⟨rfl, hb1⟩
  | true =>
    by_cases hE : shownE m x = 0
    case neg =>
      have he : (shownE m x == 0) = false := by simp [hE]
      go_enter Try.func3, Try.ntmps3
      go_wp2_with (first
        | (go_at_call 13; refine (rvalid_any _ _ _ _ _ hm).mono ?_; rintro e w1 ⟨rfl, rfl⟩)
        | (go_at_call 14; refine (rshown_any _ _ _ _ _ _ _ _ _ hm hx).mono ?_; rintro e w1 ⟨rfl, rfl⟩)
        | (go_at_call 16; refine (awake_any _).mono ?_; rintro e w1 ⟨rfl, hb1⟩))
      go_ret
      exact ⟨rfl, hb1⟩
    case pos =>
      cases hlong : longB [y, z] with
      | true =>
        have he : (shownE m x == 0) = true := by simp [hE]
        go_enter Try.func3, Try.ntmps3
        go_wp2_with (first
          | (go_at_call 13; refine (rvalid_any _ _ _ _ _ hm).mono ?_; rintro e w1 ⟨rfl, rfl⟩)
          | (go_at_call 14; refine (rshown_any _ _ _ _ _ _ _ _ _ hm hx).mono ?_; rintro e w1 ⟨rfl, rfl⟩)
          | (go_at_call 15; refine (long2 w _ hy hz).mono ?_; rintro e w1 ⟨rfl, rfl⟩)
          | (go_at_call 16; refine (awake_any _).mono ?_; rintro e w1 ⟨rfl, hb1⟩))
        go_ret
        exact ⟨rfl, step_trans (hb0 _) hb1⟩
      | false =>
        obtain ⟨hM, hlx, hbx⟩ := shown_mask hE
        have hk := hidx (hlx.symm.trans hx.len)
        have hxl := hidx hx.len
        have hjm := hy.nmax
        have hlm := hz.nmax
        have hnm := hm.nmax
        have hk10 : k ≤ 10 := by have := hM.pix10; have := hk.out; omega
        have hn6 : n ≤ 6 := by have := hM.rows6; have := hm.len; omega
        have hn1 : 1 ≤ n := by have := hM.rows1; have := hm.len; omega
        have hnn : ((n : Int) != (n : Int)) = false := by simp
        have HE := hidx hE
        have HM := hidx hM
        have HB := hidx hbx
        clear hM hlx hbx
        have he : (shownE m x == 0) = true := by simp [hE]
        clear hE
        go_enter Try.func3, Try.ntmps3
        go_upto_if 58 with (first
          | (go_at_call 13; refine (rvalid_any _ _ _ _ _ hm).mono ?_; rintro e w1 ⟨rfl, rfl⟩)
          | (go_at_call 14; refine (rshown_any _ _ _ _ _ _ _ _ _ hm hx).mono ?_; rintro e w1 ⟨rfl, rfl⟩)
          | (go_at_call 15; refine (long2 w _ hy hz).mono ?_; rintro e w1 ⟨rfl, rfl⟩)
          | (go_at_call 17; refine (read_ok A X n c k d m x _ (hm.below (hb0 _)) (hx.below (hb0 _)) HE.out).mono ?_; rintro e w1 ⟨A1, c1, rfl, hown1, hb1⟩; have hbw1 := step_trans (hb0 _) hb1)
          | (go_at_call 18; refine (back_any A Y n c j f m y _ (hm.below hbw1) (hy.below hbw1)).mono ?_; rintro e w2 ⟨A2, c2, rfl, hown2, hb2⟩; have hbw2 := step_trans hbw1 hb2))
        clear he hv hlong
        go_cut [] (fun wx => Below w2.heap.size w2 wx)
        case first =>
          by_cases hB : backE m y = 0
          · have hb0' : (backE m y == 0) = true := by simp [hB]
            have hly := hy.len
            have hE1 := HE.out
            have hp : (backR m y).length = k := by unfold backR; rw [if_pos hB, backL_len]; exact hk.out
            have hbR : backR m y = backL m y (nthL m 0).length := by unfold backR; rw [if_pos hB]
            have hadj : wdot 0 y (readL m x) = wdot 0 (backR m y) x := by rw [hbR]; exact adjoint HE.out hB
            have hyn : j = n := by
              obtain ⟨_, h2, _⟩ := back_mask hB
              have := hm.len; omega
            have hd1 : (wdot 0 y (readL m x) != wdot 0 (backR m y) x) = false := by rw [hadj]; simp
            have hl1 : (((backR m y).length : Int) != (k : Int)) = false := by rw [hp]; simp
            have hl2 : ((j : Int) != (n : Int)) = false := by rw [hyn]; simp
            have s1 := (own_SI hown1).below hb2
            have s2 := own_SI hown2
            have c1 := fun W h1 h2 => dot_b Y A1 j n f c1 y (readL m x) W h1 h2 (by omega)
            have c2 := fun W h1 h2 => dot_b A2 X (backR m y).length k c2 d (backR m y) x W h1 h2 (by omega)
            have C1 := hidx c1
            have C2 := hidx c2
            clear hp hbR hadj hyn c1 c2 hB hly hE1
            go_wp2_with fail
            refine (C1.out _ (hy.below hbw2) s1).mono ?_
            rintro e w3 ⟨rfl, hb3⟩
            go_wp2_with fail
            refine (C2.out _ (s2.below hb3) (hx.below (step_trans hbw2 hb3))).mono ?_
            rintro e w4 ⟨rfl, hb4⟩
            go_wp2
            go_meet
            exact step_trans hb3 hb4
          · have hb0' : (backE m y == 0) = false := by simp [hB]
            clear hB
            go_wp2
            go_meet
            exact Below.refl _ _
        case rest =>
          have hbw3 := step_trans hbw2 hcut
          have s1 := (own_SI hown1).below (step_trans hb2 hcut)
          clear hown1 hown2 hb1 hb2 hcut hbw1 hbw2
          by_cases hlk : l = k
          case neg =>
            have hlk1 : ((l : Int) != (k : Int)) = true := by simp; omega
            clear hlk
            go_wp2_with (go_at_call 16; refine (awake_any _).mono ?_; rintro e w4 ⟨rfl, hb4⟩)
            go_ret
            exact ⟨rfl, step_trans hbw3 hb4⟩
          case pos =>
            subst hlk
            have hxl2 := hidx (hxl.out.trans hz.len.symm)
            have sm := hm.below hbw3
            have sx := hx.below hbw3
            have sz := hz.below hbw3
            have hzl := hidx hz.len
            clear hm hx hz hy
            have hll : ((l : Int) != (l : Int)) = false := by simp
            go_wp2
            go_loopw [13, 14, 88] (fun s _ i wr => ∃ (q : Nat) (A' : Option Addr) (c' : Nat), q ≤ l ∧ i = .int .i64 q ∧ s = .slice A' q c' ∧ wr.ownsRow wc.heap.size 3 1 (.slice A' q c') q (ints (sumW (x.take q) (z.take q))) ∧ Below wc.heap.size wc wr) (fun _ _ i _ => l - (intOf i).toNat)
            case atStart => exact ⟨0, none, 0, Nat.zero_le _, rfl, rfl, World.ownsRow_nil _ _ _ _, Below.refl _ _⟩
            case round =>
              obtain ⟨q, A', c', hq, rfl, rfl, hown, hb⟩ := hrel
              by_cases hlt : q < l
              · obtain ⟨ad, rfl, hca⟩ := sx.at_ (by omega)
                obtain ⟨bd, rfl, hcb⟩ := sz.at_ (by omega)
                have k1 := hca q hlt
                have k2 := hcb q hlt
                have h1 := Below.cell_of hb k1
                have h2 := Below.cell_of hb k2
                have h3 : (0:Int) ≤ q := by omega
                have h4 : (q:Int) < l := by omega
                have HS := hidx (sumW_snoc x z q (by have := hxl.out; omega) (by have := hzl.out; omega))
                clear hca hcb sm sx sz s1 hbw3
                go_wp2
                go_region_held3 (fun w' => w'.cell? (ad.add q) = some (.int .i64 (nth x q)) ∧ w'.cell? (bd.add q) = some (.int .i64 (nth z q))) (first | go_keep | exact ⟨Below.cell_of hb5 k1, Below.cell_of hb5 k2⟩)
                  ((refine step_app1 eltI rfl (by rfl) _ _ (by rfl) (by rfl) (by rfl) hown hb (Nat.le_refl _) (by rfl) (by omega) (by omega) ?_; intro A2 c2 w5 hown5 hb5 _ hc2 hc2'))
                go_wp2
                go_roundw
                case rel => exact ⟨q + 1, _, _, by omega, by go_num, rfl, by rw [HS.out, ← ints_snoc, ← wrap_is]; exact hown5, hb5⟩
                case measure => simp [intOf]; omega
              · have hqq : q = l := by omega
                subst hqq
                have hsum : sumW (x.take q) (z.take q) = sumW x z := by
                  rw [List.take_of_length_le (by have := hxl.out; omega), List.take_of_length_le (by have := hzl.out; omega)]
                rw [hsum] at hown
                have ss := own_SI hown
                have sm' := sm.below hb
                have sx' := sx.below hb
                have sz' := sz.below hb
                have hbw4 := step_trans hbw3 hb
                have s1' := s1.below hb
                clear sm sx sz s1 hown hb hsum hbw3
                by_cases hEz : shownE m z = 0
                case neg =>
                  have hez : (shownE m z == 0) = false := by simp [hEz]
                  clear hEz
                  go_wp2_with (first
                    | (go_at_call 14; refine (rshown_any _ _ _ _ _ _ _ _ _ sm' sz').mono ?_; rintro e w6 ⟨rfl, rfl⟩)
                    | (go_at_call 16; refine (awake_any _).mono ?_; rintro e w6 ⟨rfl, hb6⟩))
                  go_ret
                  exact ⟨rfl, step_trans hbw4 hb6⟩
                case pos =>
                  have hez : (shownE m z == 0) = true := by simp [hEz]
                  have HEz := hidx hEz
                  clear hEz
                  by_cases hEs : shownE m (sumW x z) = 0
                  case neg =>
                    have hes : (shownE m (sumW x z) == 0) = false := by simp [hEs]
                    clear hEs
                    go_wp2_with fail
                    refine (rshown_any _ _ _ _ _ _ _ _ _ sm' sz').mono ?_
                    rintro e w6 ⟨rfl, rfl⟩
                    go_wp2_with fail
                    refine (rshown_any _ _ _ _ _ _ _ _ _ sm' ss).mono ?_
                    rintro e w6 ⟨rfl, rfl⟩
                    go_wp2_with (go_at_call 16; refine (awake_any _).mono ?_; rintro e w6 ⟨rfl, hb6⟩)
                    go_ret
                    exact ⟨rfl, step_trans hbw4 hb6⟩
                  case pos =>
                    have hes : (shownE m (sumW x z) == 0) = true := by simp [hEs]
                    have HEs := hidx hEs
                    clear hEs
                    go_wp2_with fail
                    refine (rshown_any _ _ _ _ _ _ _ _ _ sm' sz').mono ?_
                    rintro e w6 ⟨rfl, rfl⟩
                    go_wp2_with fail
                    refine (rshown_any _ _ _ _ _ _ _ _ _ sm' ss).mono ?_
                    rintro e w6 ⟨rfl, rfl⟩
                    go_wp2_with fail
                    refine (read_ok _ _ _ _ _ _ _ _ _ sm' sz' HEz.out).mono ?_
                    rintro e w7 ⟨A7, c7, rfl, hown7, hb7⟩
                    go_wp2_with fail
                    refine (read_ok _ _ _ _ _ _ _ _ _ (sm'.below hb7) (ss.below hb7) HEs.out).mono ?_
                    rintro e w8 ⟨A8, c8, rfl, hown8, hb8⟩
                    have t1 := s1'.below (step_trans hb7 hb8)
                    have t2 := (own_SI hown7).below hb8
                    have t3 := own_SI hown8
                    have hbw8 := step_trans hbw4 (step_trans hb7 hb8)
                    have hlaw := fun i hi => sum_read HE.out HEz.out HEs.out hxl2.out i hi
                    have Hlaw := hidx hlaw
                    have hml := hidx sm'.len
                    clear hown7 hown8 hb7 hb8 s1' sm' sx' sz' ss hbw4 hlaw
                    go_wp2
                    go_loopw [19, 149] (fun _ i wr => ∃ i' : Nat, i' ≤ n ∧ i = .int .i64 i' ∧ Below w8.heap.size w8 wr) (fun _ i _ => n - (intOf i).toNat)
                    case atStart => exact ⟨0, Nat.zero_le _, rfl, Below.refl _ _⟩
                    case round =>
                      obtain ⟨i, hi, rfl, hb⟩ := hrel
                      by_cases hlt : i < n
                      · obtain ⟨ad1, rfl, hc1⟩ := (t1.below hb).at_ (by omega)
                        obtain ⟨ad2, rfl, hc2⟩ := (t2.below hb).at_ (by omega)
                        obtain ⟨ad3, rfl, hc3⟩ := (t3.below hb).at_ (by omega)
                        have g1 := hc1 i hlt
                        have g2 := hc2 i hlt
                        have g3 := hc3 i hlt
                        have h3 : (0:Int) ≤ i := by omega
                        have h4 : (i:Int) < n := by omega
                        obtain ⟨e1, e2, e3, e4, e5⟩ := Hlaw.out i (by have := hml.out; omega)
                        have e6 : (nth (readL m (sumW x z)) i != nth (readL m x) i + nth (readL m z) i) = false := by rw [e1]; simp
                        clear hc1 hc2 hc3 t1 t2 t3 hbw8 e1
                        go_wp2
                        go_quiet (fail)
                        go_wp2
                        go_roundw
                        case rel => exact ⟨i + 1, by omega, by go_num, below_drewN hb _⟩
                        case measure => simp [intOf]; omega
                      · go_wp2_with (go_at_call 16; refine (awake_any _).mono ?_; rintro e w9 ⟨rfl, hb9⟩)
                        go_ret
                        exact ⟨rfl, step_trans hbw8 (step_trans hb hb9)⟩

end Go.Proofs.Ytkkmlcengneomaa
