/- Contracts of Unlift of pic and lightsieveref01. No condition. -/
import Derived.Test.YtahccnljckgjmaaP5
namespace Go.Proofs.Ytahccnljckgjmaa
open Go.RowKit Ls

theorem unAll_pow {l : List Int} {M : Nat} (h : l.length = 2 ^ M) : unAll l = unTo l M := by unfold unAll; rw [h, Nat.log2_two_pow]

set_option maxRecDepth 100000 in
set_option maxHeartbeats 4000000 in
theorem Unlift_any (X : Option Addr) (k d : Nat) (l : List Int) (w : World) (hl : SI w X k d l) :
    Calls Try.prog 30 #[.slice X k d] w fun e w' => ∃ A' c', e = .returned (.tuple #[.slice A' (unlR l).length c', .int .i64 (unlE l)]) ∧ SI w' A' (unlR l).length c' (unlR l) ∧ Below w.heap.size w w' := by
  have hmx := hl.nmax
  have po := fun W => power_any k W
  have bo := fun W h => bounded_any X k d l 2000000 W h (by omega) (by omega)
  have hll := hidx hl.len
  have hR : unlE l ≠ 0 → unlR l = [] := fun h => by unfold unlR; rw [if_neg h]
  cases hp : powB k with
  | false =>
    have e1 : unlE l = 1 := by unfold unlE; rw [hll.out, hp]; rfl
    rw [hR (by omega), e1]
    rw [hp] at po
    have Po := hidx po
    clear po bo hp e1 hR
    go_enter Try.func30, Try.ntmps30
    go_wp2_with (go_at_call 57; refine (Po.out _).mono ?_; rintro e w1 ⟨rfl, rfl⟩)
    go_ret2
    exact ⟨none, 0, rfl, SI.nil _, Below.refl _ _⟩
  | true =>
    rw [hp] at po
    have Po := hidx po
    clear po
    cases hq : bndB 2000000 l with
    | false =>
      have e1 : unlE l = 1 := by unfold unlE; rw [hll.out, hp, hq]; rfl
      rw [hR (by omega), e1]
      rw [hq] at bo
      have Bo := hidx bo
      clear bo hp hq e1 hR
      go_enter Try.func30, Try.ntmps30
      go_wp2_with fail
      refine (Po.out _).mono ?_
      rintro e w1 ⟨rfl, rfl⟩
      go_wp2_with fail
      refine (Bo.out _ hl).mono ?_
      rintro e w1 ⟨rfl, hb1⟩
      go_wp2
      go_ret2
      exact ⟨none, 0, rfl, SI.nil _, hb1⟩
    | true =>
      have e0 : unlE l = if vlistB (unAll l) then 0 else 4 := by unfold unlE; rw [hll.out, hp, hq]; rfl
      rw [hq] at bo
      have Bo := hidx bo
      obtain ⟨M, hM, hk⟩ := powB_of hp
      have h8 : 2 ^ M ≤ 256 := Nat.pow_le_pow_right (n := 2) (by omega) hM
      have hk2 : k ≤ 256 := by omega
      have hk1 : 0 < k := by rw [hk]; exact Nat.pow_pos (by omega)
      have Hk := hidx hk
      have E0 := hidx e0
      have HR := hidx hR
      clear bo hq hp h8 hk e0 hR
      go_enter Try.func30, Try.ntmps30
      go_wp2_with fail
      refine (Po.out _).mono ?_
      rintro e w1 ⟨rfl, rfl⟩
      go_wp2_with fail
      refine (Bo.out _ hl).mono ?_
      rintro e w1 ⟨rfl, hb1⟩
      go_wp2_with fail
      refine (clone_any X k d l _ (hl.below hb1) (by omega)).mono ?_
      rintro e w2 ⟨A2, c2, rfl, hown00, hb2⟩
      have hbw : Below w.heap.size w w2 := step_trans hb1 hb2
      have hown0 := own_base hown00 hb1.size
      clear hown00 hb2
      obtain ⟨A3, c3, hv, hkc, hcm, hg⟩ := own_form hown0
      injection hv with ea _ ec
      subst ea
      subst ec
      obtain ⟨g, rfl, hg1, hg2⟩ := hg (by omega)
      have hB0 : w.heap.size ≤ g := hg1
      clear hg hg1
      go_wp2
      go_loopw [5] (fun i wr => ∃ s n : Nat, s ≤ M ∧ Hid (n = 2 ^ (s + 1)) ∧ n ≤ 512 ∧ i = .int .i64 n ∧ wr.ownsRow w.heap.size 3 1 (.slice (some ⟨g, 0, none⟩) k c2) k (ints (unTo l s)) ∧ Below w.heap.size w wr) (fun i _ => 1000 - (intOf i).toNat)
      case atStart => exact ⟨0, 2, Nat.zero_le _, rfl, by omega, rfl, hown0, hbw⟩
      case round =>
        obtain ⟨s, n, hs, hn, hn5, rfl, hown, hbr⟩ := hrel
        clear hown0 hbw hl Bo
        by_cases hlt : s < M
        · obtain ⟨hf, hh⟩ : ∃ hf, hf = 2 ^ s := ⟨_, rfl⟩
          have hn2 : n = hf + hf := by rw [hn.out, hh, Nat.pow_succ]; omega
          have hpos : 0 < hf := by rw [hh]; exact Nat.pow_pos (by omega)
          have hnk : n ≤ k := by rw [hn.out, Hk.out]; exact Nat.pow_le_pow_right (by omega) (by omega)
          have Hh := hidx hh
          clear hh
          have hd2 : (n : Int) / 2 = hf := by omega
          have hnk' : (n : Int) ≤ k := by omega
          have HN2 := hidx hn2
          obtain ⟨o, ho⟩ : ∃ o, o = unTo l s := ⟨_, rfl⟩
          have hol : o.length = k := by rw [ho, unTo_len]; exact hll.out
          rw [← ho] at hown
          have HO := hidx ho
          have HOL := hidx hol
          clear ho hol hn2
          go_wp2_with fail
          refine (clone_any (some ⟨g, 0, none⟩) n c2 (o.take n) _ (SI.take (own_SI hown) hnk (by omega) (Nat.le_refl _)) (by omega)).mono ?_
          rintro e w3 ⟨A4, c4, rfl, hwas0, hb3⟩
          have hown3 := own_below hown hb3
          have hbr3 := hbr.trans (hb3.mono hbr.size)
          obtain ⟨A5, c5, hv, -, -, hg⟩ := own_form hwas0
          injection hv with ea _ ec
          subst ea
          subst ec
          obtain ⟨g2, rfl, hg3, hg4⟩ := hg (by omega)
          have hne : g ≠ g2 := by have := (hown.lt g rfl).2; omega
          clear hg hb3 hown hbr
          go_wp2
          obtain ⟨wo, rfl⟩ : ∃ wo : World, wo = wr := ⟨_, rfl⟩
          go_loopw [34] (fun i wr => ∃ j : Nat, j ≤ hf ∧ i = .int .i64 j ∧ wr.ownsRow w.heap.size 3 1 (.slice (some ⟨g, 0, none⟩) k c2) k (ints (unMid o hf j)) ∧ wr.ownsRow wo.heap.size 3 1 (.slice (some ⟨g2, 0, none⟩) n c4) n (ints (o.take n)) ∧ Below w.heap.size w wr) (fun i _ => hf - (intOf i).toNat)
          case atStart => exact ⟨0, Nat.zero_le _, rfl, hown3, hwas0, hbr3⟩
          case round =>
            obtain ⟨j, hj, rfl, hown, hwas, hbr⟩ := hrel
            clear hown3 hwas0 hbr3
            by_cases hlt2 : j < hf
            · have hnn := HN2.out
              have x1 := hwas.cellAt j (by omega)
              have x2 := hwas.cellAt (hf + j) (by omega)
              rw [ints_get _ _ (by rw [List.length_take, HOL.out]; omega)] at x1 x2
              rw [show nth (o.take n) j = nth o j by simp [nth, show j < n by omega]] at x1
              rw [show nth (o.take n) (hf + j) = nth o (hf + j) by simp [nth, show hf + j < n by omega]] at x2
              have y1 : IntKind.i64.wrap (2 * (j : Int)) = 2 * (j : Int) := by rw [IntKind.wrap_i64]; omega
              have y2 : IntKind.i64.wrap (2 * (j : Int) + 1) = 2 * (j : Int) + 1 := by rw [IntKind.wrap_i64]; omega
              have y3 : IntKind.i64.wrap ((hf : Int) + j) = (hf : Int) + j := by rw [IntKind.wrap_i64]; omega
              have z1 : (0:Int) ≤ 2 * (j : Int) := by omega
              have z2 : 2 * (j : Int) < k := by omega
              have z3 : (0:Int) ≤ 2 * (j : Int) + 1 := by omega
              have z4 : 2 * (j : Int) + 1 < k := by omega
              have t1 : (2 * (j : Int)).toNat = 2 * j := by omega
              have t2 : (2 * (j : Int) + 1).toNat = 2 * j + 1 := by omega
              have t3 : ((hf : Int) + j).toNat = hf + j := by omega
              have z5 : (hf : Int) + j < n := by omega
              have z6 : (j : Int) < n := by omega
              have z7 : (0:Int) ≤ (hf : Int) + j := by omega
              have c1 := hown.cellAt (2 * j) (by omega)
              have c2' := hown.cellAt (2 * j + 1) (by omega)
              have hml : (unMid o hf j).length = k := by rw [unMid_len]; exact HOL.out
              rw [ints_get _ _ (by rw [hml]; omega)] at c1 c2'
              have g1 := hown.frozenAt (2 * j)
              have g2' := hown.frozenAt (2 * j + 1)
              have s2 : ∀ v, (wr.setCell ⟨g, 2 * j, none⟩ v).cell? ⟨g, 2 * j + 1, none⟩ = some (.int .i64 (nth (unMid o hf j) (2 * j + 1))) := fun v => by
                rw [World.cell?_setCell_other _ _ _ _ (by intro e; injection e with _ e2; omega)]; exact c2'
              have s3 : ∀ v, (wr.setCell ⟨g, 2 * j + 1, none⟩ v).cell? ⟨g, 2 * j, none⟩ = some (.int .i64 (nth (unMid o hf j) (2 * j))) := fun v => by
                rw [World.cell?_setCell_other _ _ _ _ (by intro e; injection e with _ e2; omega)]; exact c1
              clear hnn hml
              go_wp2
              go_quiet (fail)
              go_wp2_with (go_at_call 60; refine (half_any _ _).mono ?_; rintro e w4 ⟨rfl, rfl⟩)
              have st0 := (hown.drew.stored (2 * j) (.int .i64 (wrap64 (wrap64 (nth o j - nth o (hf + j) / 2) + nth o (hf + j))))).1.stored (2 * j + 1) (.int .i64 (wrap64 (nth o j - nth o (hf + j) / 2)))
              rw [← ints_set, ← ints_set] at st0
              have st1 := st0.1
              go_roundw
              case rel =>
                refine ⟨j + 1, by omega, by go_num, st1, ownsRow_setCell_other (ownsRow_setCell_other hwas ?_ _) ?_ _, ((below_drewN hbr nq).setCell hB0 _).setCell hB0 _⟩
                · simp [Value.ownBlock]; omega
                · simp [Value.ownBlock]; omega
              case measure => simp [intOf]; omega
            · have hjh : j = hf := by omega
              subst hjh
              have hS : unMid o j j = unTo l (s + 1) := by rw [unTo, ← Hh.out, ← HO.out]
              have HS := hidx hS
              have hn3 : n * 2 ≤ 512 := by omega
              have hn4 := hidx (show n * 2 = 2 ^ (s + 1 + 1) by rw [Nat.pow_succ, ← hn.out])
              clear hS
              go_wp2
              go_roundw
              case rel => exact ⟨s + 1, n * 2, by omega, hn4, hn3, by go_num, by rw [← HS.out]; exact hown, hbr⟩
              case measure => simp [intOf]; omega
        · have hsM : s = M := by omega
          subst hsM
          have hnk : ¬ ((n : Int) ≤ k) := by rw [hn.out, Hk.out, Nat.pow_succ]; have := Nat.pow_pos (n := s) (show 0 < 2 by omega); omega
          have hown2 := own_SI hown
          have vl := fun W h => validList_any (some ⟨g, 0, none⟩) k c2 (unTo l s) W h
          have e5 := hidx (unAll_pow (l := l) (M := s) (by rw [hll.out, Hk.out]))
          have e4 := hidx (show (unTo l s).length = k by rw [unTo_len]; exact hll.out)
          clear hown
          cases hv : vlistB (unTo l s) with
          | true =>
            rw [hv] at vl
            have Vl := hidx vl
            have e1 : unlE l = 0 := by rw [E0.out, e5.out, hv]; rfl
            have e3 : unlR l = unTo l s := by unfold unlR; rw [if_pos e1, e5.out]
            have F1 := hidx (And.intro e1 (And.intro e3 e4.out))
            clear vl hv e1 e3
            go_wp2_with (go_at_call 22; refine (Vl.out _ hown2).mono ?_; rintro e w3 ⟨rfl, hb3⟩)
            rw [F1.out.1, F1.out.2.1, F1.out.2.2]
            go_ret2
            exact ⟨_, _, rfl, hown2.below hb3, hbr.trans (hb3.mono hbr.size)⟩
          | false =>
            rw [hv] at vl
            have Vl := hidx vl
            have e1 : unlE l = 4 := by rw [E0.out, e5.out, hv]; rfl
            have F1 := hidx (And.intro (HR.out (by omega)) e1)
            clear vl hv e1
            go_wp2_with (go_at_call 22; refine (Vl.out _ hown2).mono ?_; rintro e w3 ⟨rfl, hb3⟩)
            rw [F1.out.1, F1.out.2]
            go_ret2
            exact ⟨none, 0, rfl, SI.nil _, hbr.trans (hb3.mono hbr.size)⟩

set_option maxRecDepth 100000 in
set_option maxHeartbeats 4000000 in
theorem rUnlift_any (X : Option Addr) (k d : Nat) (l : List Int) (w : World) (hl : SI w X k d l) :
    Calls Try.prog 31 #[.slice X k d] w fun e w' => ∃ A' c', e = .returned (.tuple #[.slice A' (unlR l).length c', .int .i64 (unlE l)]) ∧ SI w' A' (unlR l).length c' (unlR l) ∧ Below w.heap.size w w' := by
  have hmx := hl.nmax
  have po := fun W => rpower_any k W
  have bo := fun W h => rall_any X k d l 2000000 W h (by omega) (by omega)
  have hll := hidx hl.len
  have hR : unlE l ≠ 0 → unlR l = [] := fun h => by unfold unlR; rw [if_neg h]
  cases hp : powB k with
  | false =>
    have e1 : unlE l = 1 := by unfold unlE; rw [hll.out, hp]; rfl
    rw [hR (by omega), e1]
    rw [hp] at po
    have Po := hidx po
    clear po bo hp e1 hR
    go_enter Try.func31, Try.ntmps31
    go_wp2_with (go_at_call 51; refine (Po.out _).mono ?_; rintro e w1 ⟨rfl, rfl⟩)
    go_ret2
    exact ⟨none, 0, rfl, SI.nil _, Below.refl _ _⟩
  | true =>
    rw [hp] at po
    have Po := hidx po
    clear po
    cases hq : bndB 2000000 l with
    | false =>
      have e1 : unlE l = 1 := by unfold unlE; rw [hll.out, hp, hq]; rfl
      rw [hR (by omega), e1]
      rw [hq] at bo
      have Bo := hidx bo
      clear bo hp hq e1 hR
      go_enter Try.func31, Try.ntmps31
      go_wp2_with fail
      refine (Po.out _).mono ?_
      rintro e w1 ⟨rfl, rfl⟩
      go_wp2_with fail
      refine (Bo.out _ hl).mono ?_
      rintro e w1 ⟨rfl, rfl⟩
      go_wp2
      go_ret2
      exact ⟨none, 0, rfl, SI.nil _, Below.refl _ _⟩
    | true =>
      have e0 : unlE l = if vlistB (unAll l) then 0 else 4 := by unfold unlE; rw [hll.out, hp, hq]; rfl
      rw [hq] at bo
      have Bo := hidx bo
      obtain ⟨M, hM, hk⟩ := powB_of hp
      have h8 : 2 ^ M ≤ 256 := Nat.pow_le_pow_right (n := 2) (by omega) hM
      have hk2 : k ≤ 256 := by omega
      have hk1 : 0 < k := by rw [hk]; exact Nat.pow_pos (by omega)
      have Hk := hidx hk
      have E0 := hidx e0
      have HR := hidx hR
      clear bo hq hp h8 hk e0 hR
      obtain ⟨xd, rfl, -⟩ := hl.at_ hk1
      have sv := hl.values
      have o1 := ints_one l
      go_enter Try.func31, Try.ntmps31
      go_wp2_with fail
      refine (Po.out _).mono ?_
      rintro e w1 ⟨rfl, rfl⟩
      go_wp2_with fail
      refine (Bo.out _ hl).mono ?_
      rintro e w1 ⟨rfl, rfl⟩
      go_wp2_with (at_builtin; refine appN _ eltI rfl rfl _ _ rfl rfl rfl (own_empty _ _) (below_alloc _ _) (Nat.le_refl _) (sv.below (below_alloc _ _)) o1 (by omega) (by omega) ?_; intro A2 c2 w2 hown0 hbw _; rw [Nat.zero_add] at hown0; rw [List.nil_append] at hown0; clear sv o1)
      obtain ⟨A3, c3, hv, hkc, hcm, hg⟩ := own_form hown0
      injection hv with ea _ ec
      subst ea
      subst ec
      obtain ⟨g, rfl, hg1, hg2⟩ := hg (by omega)
      have hB0 : w.heap.size ≤ g := hg1
      clear hg hg1
      go_wp2
      go_loopw [5] (fun i wr => ∃ s n : Nat, s ≤ M ∧ Hid (n = 2 ^ (s + 1)) ∧ n ≤ 512 ∧ i = .int .i64 n ∧ wr.ownsRow w.heap.size 3 1 (.slice (some ⟨g, 0, none⟩) k c2) k (ints (unTo l s)) ∧ Below w.heap.size w wr) (fun i _ => 1000 - (intOf i).toNat)
      case atStart => exact ⟨0, 2, Nat.zero_le _, rfl, by omega, rfl, hown0, hbw⟩
      case round =>
        obtain ⟨s, n, hs, hn, hn5, rfl, hown, hbr⟩ := hrel
        clear hown0 hbw hl Bo
        by_cases hlt : s < M
        · obtain ⟨hf, hh⟩ : ∃ hf, hf = 2 ^ s := ⟨_, rfl⟩
          have hn2 : n = hf + hf := by rw [hn.out, hh, Nat.pow_succ]; omega
          have hpos : 0 < hf := by rw [hh]; exact Nat.pow_pos (by omega)
          have hnk : n ≤ k := by rw [hn.out, Hk.out]; exact Nat.pow_le_pow_right (by omega) (by omega)
          have Hh := hidx hh
          clear hh
          have hd2 : (n : Int) / 2 = hf := by omega
          have hnk' : (n : Int) ≤ k := by omega
          have HN2 := hidx hn2
          obtain ⟨o, ho⟩ : ∃ o, o = unTo l s := ⟨_, rfl⟩
          have hol : o.length = k := by rw [ho, unTo_len]; exact hll.out
          rw [← ho] at hown
          have HO := hidx ho
          have HOL := hidx hol
          clear ho hol hn2
          have sv := (own_SI hown).values
          have o1 := ints_one o
          go_wp2_with (at_builtin; refine appN _ eltI rfl rfl _ _ rfl rfl rfl (own_empty _ _) (below_alloc _ _) (Nat.le_refl _) (sv.below (below_alloc _ _)) o1 (by omega) (by omega) ?_; intro A4 c4 w3 hwas0 hb3 _; rw [Nat.zero_add] at hwas0; rw [List.nil_append] at hwas0; clear sv o1)
          have hown3 := own_below hown hb3
          have hbr3 := hbr.trans (hb3.mono hbr.size)
          obtain ⟨A5, c5, hv, -, -, hg⟩ := own_form hwas0
          injection hv with ea _ ec
          subst ea
          subst ec
          obtain ⟨g2, rfl, hg3, hg4⟩ := hg (by omega)
          have hne : g ≠ g2 := by have := (hown.lt g rfl).2; omega
          clear hg hb3 hown hbr
          go_wp2
          obtain ⟨wo, rfl⟩ : ∃ wo : World, wo = wr := ⟨_, rfl⟩
          go_loopw [7] (fun i wr => ∃ j : Nat, j ≤ hf ∧ i = .int .i64 j ∧ wr.ownsRow w.heap.size 3 1 (.slice (some ⟨g, 0, none⟩) k c2) k (ints (unMid o hf j)) ∧ wr.ownsRow wo.heap.size 3 1 (.slice (some ⟨g2, 0, none⟩) k c4) k (ints (o)) ∧ Below w.heap.size w wr) (fun i _ => hf - (intOf i).toNat)
          case atStart => exact ⟨0, Nat.zero_le _, rfl, hown3, hwas0, hbr3⟩
          case round =>
            obtain ⟨j, hj, rfl, hown, hwas, hbr⟩ := hrel
            clear hown3 hwas0 hbr3
            by_cases hlt2 : j < hf
            · have hnn := HN2.out
              have x1 := hwas.cellAt j (by omega)
              have x2 := hwas.cellAt (hf + j) (by omega)
              rw [ints_get _ _ (by rw [HOL.out]; omega)] at x1 x2
              skip
              have y1 : IntKind.i64.wrap (2 * (j : Int)) = 2 * (j : Int) := by rw [IntKind.wrap_i64]; omega
              have y2 : IntKind.i64.wrap (2 * (j : Int) + 1) = 2 * (j : Int) + 1 := by rw [IntKind.wrap_i64]; omega
              have y3 : IntKind.i64.wrap ((hf : Int) + j) = (hf : Int) + j := by rw [IntKind.wrap_i64]; omega
              have z1 : (0:Int) ≤ 2 * (j : Int) := by omega
              have z2 : 2 * (j : Int) < k := by omega
              have z3 : (0:Int) ≤ 2 * (j : Int) + 1 := by omega
              have z4 : 2 * (j : Int) + 1 < k := by omega
              have t1 : (2 * (j : Int)).toNat = 2 * j := by omega
              have t2 : (2 * (j : Int) + 1).toNat = 2 * j + 1 := by omega
              have t3 : ((hf : Int) + j).toNat = hf + j := by omega
              have z5 : (hf : Int) + j < k := by omega
              have z6 : (j : Int) < k := by omega
              have z7 : (0:Int) ≤ (hf : Int) + j := by omega
              have c1 := hown.cellAt (2 * j) (by omega)
              have c2' := hown.cellAt (2 * j + 1) (by omega)
              have hml : (unMid o hf j).length = k := by rw [unMid_len]; exact HOL.out
              rw [ints_get _ _ (by rw [hml]; omega)] at c1 c2'
              have g1 := hown.frozenAt (2 * j)
              have g2' := hown.frozenAt (2 * j + 1)
              have s2 : ∀ v, (wr.setCell ⟨g, 2 * j, none⟩ v).cell? ⟨g, 2 * j + 1, none⟩ = some (.int .i64 (nth (unMid o hf j) (2 * j + 1))) := fun v => by
                rw [World.cell?_setCell_other _ _ _ _ (by intro e; injection e with _ e2; omega)]; exact c2'
              have s3 : ∀ v, (wr.setCell ⟨g, 2 * j + 1, none⟩ v).cell? ⟨g, 2 * j, none⟩ = some (.int .i64 (nth (unMid o hf j) (2 * j))) := fun v => by
                rw [World.cell?_setCell_other _ _ _ _ (by intro e; injection e with _ e2; omega)]; exact c1
              clear hnn hml
              go_wp2
              go_quiet (fail)
              go_wp2_with (go_at_call 61; refine (rhalf_any _ _).mono ?_; rintro e w4 ⟨rfl, rfl⟩)
              have st0 := (hown.drew.stored (2 * j + 1) (.int .i64 (wrap64 (nth o j - nth o (hf + j) / 2)))).1.stored (2 * j) (.int .i64 (wrap64 (wrap64 (nth o j - nth o (hf + j) / 2) + nth o (hf + j))))
              rw [← ints_set, ← ints_set, List.set_comm _ _ (by omega)] at st0
              have st1 := st0.1
              go_roundw
              case rel =>
                refine ⟨j + 1, by omega, by go_num, st1, ownsRow_setCell_other (ownsRow_setCell_other hwas ?_ _) ?_ _, ((below_drewN hbr nq).setCell hB0 _).setCell hB0 _⟩
                · simp [Value.ownBlock]; omega
                · simp [Value.ownBlock]; omega
              case measure => simp [intOf]; omega
            · have hjh : j = hf := by omega
              subst hjh
              have hS : unMid o j j = unTo l (s + 1) := by rw [unTo, ← Hh.out, ← HO.out]
              have HS := hidx hS
              have hn3 : n * 2 ≤ 512 := by omega
              have hn4 := hidx (show n * 2 = 2 ^ (s + 1 + 1) by rw [Nat.pow_succ, ← hn.out])
              clear hS
              go_wp2
              go_roundw
              case rel => exact ⟨s + 1, n * 2, by omega, hn4, hn3, by go_num, by rw [← HS.out]; exact hown, hbr⟩
              case measure => simp [intOf]; omega
        · have hsM : s = M := by omega
          subst hsM
          have hnk : ¬ ((n : Int) ≤ k) := by rw [hn.out, Hk.out, Nat.pow_succ]; have := Nat.pow_pos (n := s) (show 0 < 2 by omega); omega
          have hown2 := own_SI hown
          have vl := fun W h => rvalidList_any (some ⟨g, 0, none⟩) k c2 (unTo l s) W h
          have e5 := hidx (unAll_pow (l := l) (M := s) (by rw [hll.out, Hk.out]))
          have e4 := hidx (show (unTo l s).length = k by rw [unTo_len]; exact hll.out)
          clear hown
          cases hv : vlistB (unTo l s) with
          | true =>
            rw [hv] at vl
            have Vl := hidx vl
            have e1 : unlE l = 0 := by rw [E0.out, e5.out, hv]; rfl
            have e3 : unlR l = unTo l s := by unfold unlR; rw [if_pos e1, e5.out]
            have F1 := hidx (And.intro e1 (And.intro e3 e4.out))
            clear vl hv e1 e3
            go_wp2_with (go_at_call 17; refine (Vl.out _ hown2).mono ?_; rintro e w3 ⟨rfl, rfl⟩)
            rw [F1.out.1, F1.out.2.1, F1.out.2.2]
            go_ret2
            exact ⟨_, _, rfl, hown2, hbr⟩
          | false =>
            rw [hv] at vl
            have Vl := hidx vl
            have e1 : unlE l = 4 := by rw [E0.out, e5.out, hv]; rfl
            have F1 := hidx (And.intro (HR.out (by omega)) e1)
            clear vl hv e1
            go_wp2_with (go_at_call 17; refine (Vl.out _ hown2).mono ?_; rintro e w3 ⟨rfl, rfl⟩)
            rw [F1.out.1, F1.out.2]
            go_ret2
            exact ⟨none, 0, rfl, SI.nil _, hbr⟩

end Go.Proofs.Ytahccnljckgjmaa
