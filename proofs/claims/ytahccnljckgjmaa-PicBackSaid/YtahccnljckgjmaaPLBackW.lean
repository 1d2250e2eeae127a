/- The walk of the law PicBack: it returns true, and writes nothing that was there. No condition. -/
import Derived.Test.YtahccnljckgjmaaP7
import Derived.Test.YtahccnljckgjmaaPLiftLaw
namespace Go.Proofs.Ytahccnljckgjmaa
open Go.RowKit Ls

theorem sum_nth {l m : List Int} (n i : Nat) (hi : i < n) (hl : -1000000 ≤ nth l i ∧ nth l i ≤ 1000000) (hm : -1000000 ≤ nth m i ∧ nth m i ≤ 1000000) : nth (addL l m n) i = nth l i + nth m i := by
  unfold addL
  rw [show nth ((List.range n).map fun i => wrap64 (nth l i + nth m i)) i = wrap64 (nth l i + nth m i) by simp [nth, hi], wrap64_small (by omega) (by omega)]

set_option maxRecDepth 100000 in
set_option maxHeartbeats 4000000 in
theorem picBack_walk {X Y : Option Addr} {k d j f : Nat} {l m : List Int} (w : World) (hx : SI w X k d l) (hy : SI w Y j f m) :
    Calls Try.prog 7 #[.slice X k d, .slice Y j f] w fun e w' => e = .returned (.bool true) ∧ Below w.heap.size w w' := by
  have hmx := hx.nmax
  have hmy := hy.nmax
  have hl1 := SM.new2 22 hx hy
  have hB0 := below_alloc w (.cells #[.slice X k d, .slice Y j f] 22)
  have hx0 := hx.below hB0
  have hy0 := hy.below hB0
  have hlx := hidx hx.len
  have hly := hidx hy.len
  have hself := same_self
  clear hx hy
  go_enter Try.func7, Try.ntmps7
  go_wp2_with fail
  refine (long_any _ 2 2 [l, m] _ hl1).mono ?_
  rintro e w0 ⟨b, rfl, rfl⟩
  clear hl1
  cases b
  case true =>
    go_wp2_with fail
    refine (awake_any _).mono ?_
    rintro e wz ⟨rfl, hbz⟩
    go_wp2
    go_ret
    exact ⟨rfl, step_trans hB0 hbz⟩
  case false =>
    go_wp2_with fail
    have pw := rPower_any X k d l _ hx0
    cases hp : powerB l with
    | false =>
      rw [hp] at pw
      have Pw := hidx pw
      clear pw hp
      refine Pw.out.mono ?_
      rintro e w0 ⟨rfl, rfl⟩
      go_wp2_with fail
      refine (awake_any _).mono ?_
      rintro e wz ⟨rfl, hbz⟩
      go_wp2
      go_ret
      exact ⟨rfl, step_trans hB0 hbz⟩
    | true =>
      rw [hp] at pw
      have Pw := hidx pw
      have HP := hidx hp
      have hpp := hp
      unfold powerB at hpp
      rw [Bool.and_eq_true, vlist_iff] at hpp
      obtain ⟨M, hM, hkM⟩ := powB_of hpp.2
      have HM := hidx hkM
      have HB := hidx (fun i (hi : i < k) => bnd_nth hpp.1.2.2 i (by rw [hlx.out]; exact hi))
      have HPP := hidx hpp.2
      have hk : k ≤ 256 := by have := hpp.1.2.1; rw [hlx.out] at this; exact this
      have c1 := fun W h => Walsh_any X k d l W h
      rw [show walE l = 0 by unfold walE; rw [hp]; rfl, show walR l = walS l by unfold walR; rw [hp]; rfl, walS_len, hlx.out] at c1
      have c2 := fun A c W h => Unwalsh_any A k c (walS l) W h
      rw [(walsh_back hp).1, (walsh_back hp).2, hlx.out] at c2
      have c3 := fun W h => Lift_any X k d l W h
      have e3 : (liftAll l).length = k := by unfold liftAll; rw [liftTo_len]; exact hlx.out
      rw [show liftE l = 0 by unfold liftE; rw [hp]; rfl, show liftR l = liftAll l by unfold liftR; rw [hp]; rfl, e3] at c3
      have c4 := fun A c W h => Unlift_any A k c (liftAll l) W h
      rw [(lift_back hp).1, (lift_back hp).2, hlx.out] at c4
      have C1 := hidx c1
      have C2 := hidx c2
      have C3 := hidx c3
      have C4 := hidx c4
      clear pw hp hpp hkM c1 c2 c3 c4 e3
      refine Pw.out.mono ?_
      rintro e w0 ⟨rfl, rfl⟩
      clear Pw
      go_wp2_with fail
      refine (C1.out _ hx0).mono ?_
      rintro e w1 ⟨A1, d1, rfl, r1, hb1⟩
      have hx1 := hx0.below hb1
      have hy1 := hy0.below hb1
      have hB1 := step_trans hB0 hb1
      clear hx0 hy0 hB0 hb1 C1
      go_wp2_with fail
      refine (C2.out _ _ _ r1).mono ?_
      rintro e w2 ⟨A2, d2, rfl, r2, hb2⟩
      have hx2 := hx1.below hb2
      have hy2 := hy1.below hb2
      have s2 := r1.below hb2
      have hB2 := step_trans hB1 hb2
      clear hx1 hy1 hB1 hb2 C2 r1
      go_wp2_with fail
      refine (C3.out _ hx2).mono ?_
      rintro e w3 ⟨A3, d3, rfl, r3, hb3⟩
      have hx3 := hx2.below hb3
      have hy3 := hy2.below hb3
      have s3 := s2.below hb3
      have t3 := r2.below hb3
      have hB3 := step_trans hB2 hb3
      clear hx2 hy2 hB2 hb3 C3 s2 r2
      go_wp2_with fail
      refine (C4.out _ _ _ r3).mono ?_
      rintro e w4 ⟨A4, d4, rfl, r4, hb4⟩
      have hx4 := hx3.below hb4
      have hy4 := hy3.below hb4
      have s4 := s3.below hb4
      have t4 := t3.below hb4
      have hB4 := step_trans hB3 hb4
      clear hx3 hy3 hB3 hb4 C4 s3 t3 r3
      go_wp2_with fail
      refine (same_any _ _ _ _ _ _ l l _ t4 hx4).mono ?_
      rintro e w5 ⟨rfl, hb5⟩
      rw [hself]
      have hx5 := hx4.below hb5
      have hy5 := hy4.below hb5
      have s5 := s4.below hb5
      have r5 := r4.below hb5
      have hB5 := step_trans hB4 hb5
      clear hx4 hy4 hB4 hb5 s4 t4 r4
      go_wp2_with fail
      refine (same_any _ _ _ _ _ _ l l _ r5 hx5).mono ?_
      rintro e w6 ⟨rfl, hb6⟩
      rw [hself]
      have hx6 := hx5.below hb6
      have hy6 := hy5.below hb6
      have s6 := s5.below hb6
      have hB6 := step_trans hB5 hb6
      clear hx5 hy5 hB5 hb6 s5 r5 hself
      by_cases hjk : j = k
      case neg =>
        have d1 : ((j : Int) != (k : Int)) = true := by rw [bne_iff_ne]; omega
        go_wp2_with fail
        refine (awake_any _).mono ?_
        rintro e wz ⟨rfl, hbz⟩
        go_wp2
        go_ret
        exact ⟨rfl, step_trans hB6 hbz⟩
      case pos =>
        subst hjk
        go_wp2_with fail
        have vl := rvalidList_any Y j f m _ hy6
        cases hv : vlistB m with
        | false =>
          rw [hv] at vl
          have Vl := hidx vl
          clear vl hv
          refine Vl.out.mono ?_
          rintro e w7 ⟨rfl, rfl⟩
          go_wp2_with fail
          refine (awake_any _).mono ?_
          rintro e wz ⟨rfl, hbz⟩
          go_wp2
          go_ret
          exact ⟨rfl, step_trans hB6 hbz⟩
        | true =>
          rw [hv] at vl
          have Vl := hidx vl
          have HBm := hidx (fun i (hi : i < j) => bnd_nth (vlist_iff.1 hv).2.2 i (by rw [hly.out]; exact hi))
          have hpm : powerB m = true := by
            unfold powerB
            rw [hv, hly.out]
            have := HPP.out
            rw [hlx.out] at this
            rw [this]; rfl
          have HPM := hidx hpm
          clear vl hv hpm
          refine Vl.out.mono ?_
          rintro e w7 ⟨rfl, rfl⟩
          clear Vl
          go_wp2
          go_loopw [13, 87] (fun s i wr => ∃ (q : Nat) (A' : Option Addr) (c' : Nat), q ≤ j ∧ i = .int .i64 q ∧ s = .slice A' q c' ∧ wr.ownsRow w6.heap.size 3 1 (.slice A' q c') q (ints (addL l m q)) ∧ Below w6.heap.size w6 wr) (fun _ i _ => j - (intOf i).toNat)
          case atStart => exact ⟨0, none, 0, Nat.zero_le _, rfl, rfl, World.ownsRow_nil _ _ _ _, Below.refl _ _⟩
          case round =>
            obtain ⟨q, A', c', hq, rfl, rfl, hown, hbr⟩ := hrel
            by_cases hlt : q < j
            · obtain ⟨ad, rfl, hc⟩ := (hx6.below hbr).at_ (by omega)
              obtain ⟨bd, rfl, hd⟩ := (hy6.below hbr).at_ (by omega)
              have h1 := hc q hlt
              have h2 := hd q hlt
              have i0 : (0:Int) ≤ q := by omega
              have i1 : (q:Int) < j := by omega
              have HS := hidx (addL_snoc l m q)
              clear hc hd hx6 hy6 s6
              go_wp2
              go_region_law (first | (refine step_app1 eltI rfl (by rfl) _ _ (by rfl) (by rfl) (by rfl) hown hbr (Nat.le_refl _) (by rfl) (by omega) (by omega) ?_; intro A2' c2' w8 hown2 hb8 _ hc2 hc2'; clear hown hbr))
              all_goals go_wp2
              all_goals
                go_roundw
                case rel => exact ⟨q + 1, _, _, by omega, by go_num, rfl, by rw [HS.out, ← ints_snoc, ← wrapEq]; exact hown2, hb8⟩
                case measure => simp [intOf]; omega
            · have hqj : q = j := by omega
              subst hqj
              obtain ⟨u, hu⟩ : ∃ u, u = addL l m q := ⟨_, rfl⟩
              have hul : u.length = q := by rw [hu, addL_len]
              rw [← hu] at hown
              have HU := hidx hu
              have HUL := hidx hul
              have hw8 := own_SI hown
              have hx8 := hx6.below hbr
              have hy8 := hy6.below hbr
              have s8 := s6.below hbr
              have hB8 := step_trans hB6 hbr
              have c1 := fun W h => Walsh_any Y q f m W h
              rw [show walE m = 0 by unfold walE; rw [HPM.out]; rfl, show walR m = walS m by unfold walR; rw [HPM.out]; rfl, walS_len, hly.out] at c1
              have c2 := fun W h => Walsh_any A' q c' u W h
              have vl := fun W h => rvalidList_any A' q c' u W h
              have hpw : powB (u.length : Int) = true := by rw [HUL.out, ← hlx.out]; exact HPP.out
              have C1 := hidx c1
              clear c1 hu hul hown hbr hx6 hy6 s6 hB6
              cases hv : vlistB u with
              | false =>
                have e1 : walE u = 1 := by unfold walE powerB; rw [hv]; rfl
                have e2 : walR u = [] := by unfold walR powerB; rw [hv]; rfl
                rw [e1, e2] at c2
                rw [hv] at vl
                have C2 := hidx c2
                have Vl := hidx vl
                clear c2 vl hv hpw e1 e2
                go_wp2_with fail
                refine (C1.out _ hy8).mono ?_
                rintro e w9 ⟨A9, d9, rfl, r9, hb9⟩
                have hw9 := hw8.below hb9
                have hB9 := step_trans hB8 hb9
                go_wp2_with fail
                refine (C2.out _ hw9).mono ?_
                rintro e w10 ⟨A10, d10, rfl, r10, hb10⟩
                have hw10 := hw9.below hb10
                have hB10 := step_trans hB9 hb10
                go_wp2_with fail
                refine (Vl.out _ hw10).mono ?_
                rintro e w11 ⟨rfl, rfl⟩
                go_wp2_with fail
                refine (awake_any _).mono ?_
                rintro e wz ⟨rfl, hbz⟩
                go_wp2
                go_ret
                exact ⟨rfl, step_trans hB10 hbz⟩
              | true =>
                have e0 : powerB u = true := by unfold powerB; rw [hv, hpw]; rfl
                have e1 : walE u = 0 := by unfold walE; rw [e0]; rfl
                have e2 : walR u = walS u := by unfold walR; rw [e0]; rfl
                rw [e1, e2, walS_len, HUL.out] at c2
                rw [hv] at vl
                have C2 := hidx c2
                have Vl := hidx vl
                have HW := hidx (fun i (hi : i < q) => show nth (walS u) i = nth (walS l) i + nth (walS m) i by
                  rw [walS_nth u i (by rw [HUL.out]; exact hi), walS_nth l i (by rw [hlx.out]; exact hi), walS_nth m i (by rw [hly.out]; exact hi), HUL.out, hlx.out, hly.out]
                  exact wal_add _ _ _ _ _ fun t ht => by rw [HU.out]; exact sum_nth q t ht (HB.out t ht) (HBm.out t ht))
                have HWb := hidx (fun i (hi : i < q) => show -512000000 ≤ nth (walS l) i + nth (walS m) i ∧ nth (walS l) i + nth (walS m) i ≤ 512000000 by
                  have g1 := walS_bd hM HM.out (B := 1000000) (by omega) (fun t ht => HB.out t (by rw [hlx.out] at ht; exact ht)) i (by rw [hlx.out]; exact hi)
                  have g2 := walS_bd (l := m) hM (by rw [hly.out, ← hlx.out]; exact HM.out) (B := 1000000) (by omega) (fun t ht => HBm.out t (by rw [hly.out] at ht; exact ht)) i (by rw [hly.out]; exact hi)
                  omega)
                obtain ⟨P, hP⟩ : ∃ P, P = walS l := ⟨_, rfl⟩
                obtain ⟨Q, hQ⟩ : ∃ Q, Q = walS m := ⟨_, rfl⟩
                obtain ⟨R, hR⟩ : ∃ R, R = walS u := ⟨_, rfl⟩
                rw [← hP] at s8 HW HWb
                rw [← hQ] at C1 HW HWb
                rw [← hR] at C2 HW
                clear c2 vl hv hpw e0 e1 e2 hP hQ hR
                go_wp2_with fail
                refine (C1.out _ hy8).mono ?_
                rintro e w9 ⟨A9, d9, rfl, r9, hb9⟩
                have hw9 := hw8.below hb9
                have s9 := s8.below hb9
                have hB9 := step_trans hB8 hb9
                clear hy8 hw8 s8 hB8 hx8 hb9
                go_wp2_with fail
                refine (C2.out _ hw9).mono ?_
                rintro e w10 ⟨A10, d10, rfl, r10, hb10⟩
                have hw10 := hw9.below hb10
                have s10 := s9.below hb10
                have p10 := r9.below hb10
                have hB10 := step_trans hB9 hb10
                clear hw9 s9 r9 hB9 hb10
                go_wp2_with fail
                refine (Vl.out _ hw10).mono ?_
                rintro e w11 ⟨rfl, rfl⟩
                go_wp2
                go_loopw [146] (fun i wr => ∃ p : Nat, p ≤ q ∧ i = .int .i64 p ∧ Below w10.heap.size w10 wr) (fun i _ => q - (intOf i).toNat)
                case atStart => exact ⟨0, Nat.zero_le _, rfl, Below.refl _ _⟩
                case round =>
                  obtain ⟨p, hp, rfl, hbr⟩ := hrel
                  by_cases hlt3 : p < q
                  · obtain ⟨ad, rfl, hc⟩ := (r10.below hbr).at_ (by omega)
                    obtain ⟨bd, rfl, hd⟩ := (s10.below hbr).at_ (by omega)
                    obtain ⟨cd, rfl, he⟩ := (p10.below hbr).at_ (by omega)
                    have h1 := hc p hlt3
                    have h2 := hd p hlt3
                    have h3 := he p hlt3
                    obtain ⟨b1, b2⟩ := HWb.out p hlt3
                    have y1 : IntKind.i64.wrap (nth P p + nth Q p) = nth P p + nth Q p := by rw [IntKind.wrap_i64]; omega
                    have d2 : (nth R p != nth P p + nth Q p) = false := by rw [HW.out p hlt3]; simp
                    have i0 : (0:Int) ≤ p := by omega
                    have i1 : (p:Int) < q := by omega
                    clear hc hd he
                    go_wp2
                    go_quiet (fail)
                    go_wp2
                    go_roundw
                    case rel => exact ⟨p + 1, by omega, by go_num, below_drewN hbr _⟩
                    case measure => simp [intOf]; omega
                  · have hB11 := step_trans hB10 hbr
                    go_wp2_with fail
                    refine (awake_any _).mono ?_
                    rintro e wz ⟨rfl, hbz⟩
                    go_wp2
                    go_ret
                    exact ⟨rfl, step_trans hB11 hbz⟩

end Go.Proofs.Ytahccnljckgjmaa
