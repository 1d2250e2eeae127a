/- Contracts of Unwalsh of pic and lightsieveref01. No condition. -/
import Derived.Test.YtahccnljckgjmaaP3
namespace Go.Proofs.Ytahccnljckgjmaa
open Go.RowKit Ls

set_option maxRecDepth 100000 in
set_option maxHeartbeats 2000000 in
theorem Unwalsh_any (X : Option Addr) (k d : Nat) (l : List Int) (w : World) (hl : SI w X k d l) :
    Calls Try.prog 25 #[.slice X k d] w fun e w' => ∃ A' c', e = .returned (.tuple #[.slice A' (unwR l).length c', .int .i64 (unwE l)]) ∧ SI w' A' (unwR l).length c' (unwR l) ∧ Below w.heap.size w w' := by
  have hmx := hl.nmax
  have po := fun W => power_any k W
  have bo := fun W h => bounded_any X k d l 256000000 W h (by omega) (by omega)
  have hll := hidx hl.len
  have hR : unwE l ≠ 0 → unwR l = [] := fun h => by unfold unwR; rw [if_neg h]
  cases hp : powB k with
  | false =>
    have e1 : unwE l = 1 := by unfold unwE; rw [hll.out, hp]; rfl
    rw [hR (by omega), e1]
    rw [hp] at po
    have Po := hidx po
    clear po bo hp e1 hR
    go_enter Try.func25, Try.ntmps25
    go_wp2_with (go_at_call 57; refine (Po.out _).mono ?_; rintro e w1 ⟨rfl, rfl⟩)
    go_ret2
    exact ⟨none, 0, rfl, SI.nil _, Below.refl _ _⟩
  | true =>
    rw [hp] at po
    have Po := hidx po
    clear po
    cases hq : bndB 256000000 l with
    | false =>
      have e1 : unwE l = 1 := by unfold unwE; rw [hll.out, hp, hq]; rfl
      rw [hR (by omega), e1]
      rw [hq] at bo
      have Bo := hidx bo
      clear bo hp hq e1 hR
      go_enter Try.func25, Try.ntmps25
      go_wp2_with fail
      refine (Po.out _).mono ?_
      rintro e w1 ⟨rfl, rfl⟩
      go_wp2_with fail
      refine (Bo.out _ hl).mono ?_
      rintro e w1 ⟨rfl, hb1⟩
      go_wp2
      go_ret2
      exact ⟨none, 0, rfl, SI.nil _, hb1⟩
    | true =>
      have e0 : unwE l = if (walS l).all (fun x => x.tmod l.length == 0) then (if vlistB (divL (walS l) l.length) then 0 else 4) else 8 := by unfold unwE; rw [hll.out, hp, hq]; rfl
      rw [hq] at bo
      have Bo := hidx bo
      have HB := hidx (fun i (hi : i < k) => by
        have := bnd_nth hq i (by rw [hll.out]; exact hi)
        show -1000000000 ≤ nth l i ∧ nth l i ≤ 1000000000
        omega)
      have hk : k ≤ 256 ∧ 1 ≤ k := by
        have := hp
        unfold powB at this
        rw [Bool.and_eq_true, inB_iff] at this
        omega
      obtain ⟨hk, hk1⟩ := hk
      have hpp := hidx hp
      clear bo hq hp
      go_enter Try.func25, Try.ntmps25
      go_wp2_with fail
      refine (Po.out _).mono ?_
      rintro e w1 ⟨rfl, rfl⟩
      go_wp2_with fail
      refine (Bo.out _ hl).mono ?_
      rintro e w1 ⟨rfl, hb1⟩
      go_wp2_with fail
      refine (walsh_pow X k d l _ (hl.below hb1) hpp.out HB.out).mono ?_
      rintro e w2 ⟨A2, c2, rfl, hown0, hb2⟩
      have hbw : Below w.heap.size w w2 := step_trans hb1 hb2
      obtain ⟨A3, c3, hv, -, hcm, hg⟩ := own_form hown0
      injection hv with ea _ ec
      subst ea
      subst ec
      obtain ⟨g, rfl, hg1, hg2⟩ := hg (by omega)
      have hB0 : w.heap.size ≤ g := Nat.le_trans hb1.size hg1
      clear hg hb2
      obtain ⟨S, hS⟩ : ∃ S, S = walS l := ⟨_, rfl⟩
      have hSl : S.length = k := by rw [hS, walS_len]; exact hll.out
      rw [← hS] at hown0 e0
      have hSb : ∀ j, j < k → -256000000000 ≤ nth S j ∧ nth S j ≤ 256000000000 := fun j hj => by
        rw [hS, walS_nth l j (by rw [hll.out]; exact hj), hll.out]
        have := sgSum_bd j (nth l) 1000000000 k (fun t ht => HB.out t ht)
        omega
      have hS0 : Hid (S = walS l) := hidx hS
      have hSL := hidx hSl
      have hk0 : ((k : Int) == 0) = false := by rw [beq_eq_false_iff_ne]; omega
      clear hS hSl
      have HSb := hidx hSb
      clear hSb
      go_wp2
      go_loopw [20] (fun i wr => ∃ j : Nat, j ≤ k ∧ i = .int .i64 j ∧ Hid (∀ t, t < j → ((nth S t).tmod k == 0) = true) ∧ wr.ownsRow w.heap.size 3 1 (.slice (some ⟨g, 0, none⟩) k c2) k (ints (divTo S k j)) ∧ Below w.heap.size w wr) (fun i _ => k - (intOf i).toNat)
      case atStart => exact ⟨0, Nat.zero_le _, rfl, fun j hj => absurd hj (Nat.not_lt_zero _), by simpa [divTo] using own_base hown0 (hb1.size), hbw⟩
      case round =>
        obtain ⟨j, hj, rfl, hall, hown, hbr⟩ := hrel
        clear hown0 hbw
        by_cases hlt : j < k
        · have hc := hown.cellAt j (by omega)
          rw [ints_get _ j (by rw [divTo_len _ _ _ (by rw [hSL.out]; omega), hSL.out]; exact hlt), divTo_nth _ _ _ (by rw [hSL.out]; exact hlt)] at hc
          have hf := hown.frozenAt j
          have hb := HSb.out j hlt
          have hst := hown.stored j (.int .i64 ((nth S j).tdiv k))
          rw [← ints_set, ← divTo_snoc S k j (by rw [hSL.out]; exact hlt)] at hst
          obtain ⟨x, hx⟩ : ∃ x, x = nth S j := ⟨_, rfl⟩
          rw [← hx] at hc hb hst
          have Hst := hidx hst
          obtain ⟨hb1', hb2'⟩ := hb
          cases hm : (x.tmod k == 0) with
          | true =>
            have hm2 : (x.tmod k != 0) = false := by rw [bne, hm]; rfl
            have Hm := hidx hm
            have Hx := hidx hx
            clear hm hx hst
            go_wp2
            go_roundw
            case rel =>
              refine ⟨j + 1, by omega, by go_num, fun t ht => ?_, Hst.out.1, hbr.setCell hB0 _⟩
              by_cases e : t = j
              · subst e; rw [← Hx.out]; exact Hm.out
              · exact hall.out t (by omega)
            case measure => simp [intOf]; omega
          | false =>
            have hm2 : (x.tmod k != 0) = true := by rw [bne, hm]; rfl
            have Hm := hidx hm
            have Hx := hidx hx
            clear hm hx hst
            go_wp2
            have e1 : unwE l = 8 := by
              rw [e0, if_neg]
              intro h
              have := all_nth h j (by rw [hSL.out]; exact hlt)
              rw [hll.out, ← Hx.out, Hm.out] at this
              cases this
            rw [hR (by omega), e1]
            go_ret2
            exact ⟨none, 0, rfl, SI.nil _, hbr⟩
        · have hjk : j = k := by omega
          subst hjk
          have e1 : unwE l = if vlistB (divL S j) then 0 else 4 := by
            rw [e0, if_pos, hll.out]
            refine all_of_nth fun t ht => ?_
            rw [hll.out]
            exact hall.out t (by rw [hSL.out] at ht; exact ht)
          have hown2 := own_SI hown
          have e2 : divTo S j j = divL S j := by conv => lhs; arg 3; rw [← hSL.out]
                                                 rw [divTo_all]
          rw [e2] at hown2
          have vl := fun W h => validList_any (some ⟨g, 0, none⟩) j c2 (divL S j) W h
          clear hown hall e2
          have E1 := hidx e1
          clear e1 e0
          cases hv : vlistB (divL S j) with
          | true =>
            rw [hv] at vl
            have Vl := hidx vl
            have e1 : unwE l = 0 := by rw [E1.out, hv]; rfl
            have e3 : unwR l = divL S j := by unfold unwR; rw [if_pos e1, hll.out, ← hS0.out]
            have e4 : (divL S j).length = j := by rw [divL, List.length_map, hSL.out]
            have F1 := hidx (And.intro e1 (And.intro e3 e4))
            clear vl hv e1 e3 e4
            go_wp2_with (go_at_call 22; refine (Vl.out _ hown2).mono ?_; rintro e w3 ⟨rfl, hb3⟩)
            rw [F1.out.1, F1.out.2.1, F1.out.2.2]
            go_ret2
            exact ⟨_, _, rfl, hown2.below hb3, hbr.trans (hb3.mono hbr.size)⟩
          | false =>
            rw [hv] at vl
            have Vl := hidx vl
            have e1 : unwE l = 4 := by rw [E1.out, hv]; rfl
            have F1 := hidx (And.intro (hR (by omega)) e1)
            clear vl hv e1
            go_wp2_with (go_at_call 22; refine (Vl.out _ hown2).mono ?_; rintro e w3 ⟨rfl, hb3⟩)
            rw [F1.out.1, F1.out.2]
            go_ret2
            exact ⟨none, 0, rfl, SI.nil _, hbr.trans (hb3.mono hbr.size)⟩

set_option maxRecDepth 100000 in
set_option maxHeartbeats 2000000 in
theorem rUnwalsh_any (X : Option Addr) (k d : Nat) (l : List Int) (w : World) (hl : SI w X k d l) :
    Calls Try.prog 26 #[.slice X k d] w fun e w' => ∃ A' c', e = .returned (.tuple #[.slice A' (unwR l).length c', .int .i64 (unwE l)]) ∧ SI w' A' (unwR l).length c' (unwR l) ∧ Below w.heap.size w w' := by
  have hmx := hl.nmax
  have po := fun W => rpower_any k W
  have bo := fun W h => rall_any X k d l 256000000 W h (by omega) (by omega)
  have hll := hidx hl.len
  have hR : unwE l ≠ 0 → unwR l = [] := fun h => by unfold unwR; rw [if_neg h]
  cases hp : powB k with
  | false =>
    have e1 : unwE l = 1 := by unfold unwE; rw [hll.out, hp]; rfl
    rw [hR (by omega), e1]
    rw [hp] at po
    have Po := hidx po
    clear po bo hp e1 hR
    go_enter Try.func26, Try.ntmps26
    go_wp2_with (go_at_call 51; refine (Po.out _).mono ?_; rintro e w1 ⟨rfl, rfl⟩)
    go_ret2
    exact ⟨none, 0, rfl, SI.nil _, Below.refl _ _⟩
  | true =>
    rw [hp] at po
    have Po := hidx po
    clear po
    cases hq : bndB 256000000 l with
    | false =>
      have e1 : unwE l = 1 := by unfold unwE; rw [hll.out, hp, hq]; rfl
      rw [hR (by omega), e1]
      rw [hq] at bo
      have Bo := hidx bo
      clear bo hp hq e1 hR
      go_enter Try.func26, Try.ntmps26
      go_wp2_with fail
      refine (Po.out _).mono ?_
      rintro e w1 ⟨rfl, rfl⟩
      go_wp2_with fail
      refine (Bo.out _ hl).mono ?_
      rintro e w1 ⟨rfl, rfl⟩
      go_wp2
      go_ret2
      exact ⟨none, 0, rfl, SI.nil _, Below.refl _ _⟩
    | true =>
      have e0 : unwE l = if (walS l).all (fun x => x.tmod l.length == 0) then (if vlistB (divL (walS l) l.length) then 0 else 4) else 8 := by unfold unwE; rw [hll.out, hp, hq]; rfl
      rw [hq] at bo
      have Bo := hidx bo
      have HB := hidx (fun i (hi : i < k) => by
        have := bnd_nth hq i (by rw [hll.out]; exact hi)
        show -1000000000 ≤ nth l i ∧ nth l i ≤ 1000000000
        omega)
      have hk : k ≤ 256 ∧ 1 ≤ k := by
        have := hp
        unfold powB at this
        rw [Bool.and_eq_true, inB_iff] at this
        omega
      obtain ⟨hk, hk1⟩ := hk
      have hpp := hidx hp
      clear bo hq hp
      go_enter Try.func26, Try.ntmps26
      go_wp2_with fail
      refine (Po.out _).mono ?_
      rintro e w1 ⟨rfl, rfl⟩
      go_wp2_with fail
      refine (Bo.out _ hl).mono ?_
      rintro e w1 ⟨rfl, rfl⟩
      go_wp2_with fail
      refine (rwalsh_any X k d l _ hl hk HB.out).mono ?_
      rintro e w2 ⟨A2, c2, rfl, hown0, hb2⟩
      have hbw : Below w.heap.size w w2 := hb2
      obtain ⟨A3, c3, hv, -, hcm, hg⟩ := own_form hown0
      injection hv with ea _ ec
      subst ea
      subst ec
      obtain ⟨g, rfl, hg1, hg2⟩ := hg (by omega)
      have hB0 : w.heap.size ≤ g := hg1
      clear hg hb2
      obtain ⟨S, hS⟩ : ∃ S, S = walS l := ⟨_, rfl⟩
      have hSl : S.length = k := by rw [hS, walS_len]; exact hll.out
      rw [← hS] at hown0 e0
      have hSb : ∀ j, j < k → -256000000000 ≤ nth S j ∧ nth S j ≤ 256000000000 := fun j hj => by
        rw [hS, walS_nth l j (by rw [hll.out]; exact hj), hll.out]
        have := sgSum_bd j (nth l) 1000000000 k (fun t ht => HB.out t ht)
        omega
      have hS0 : Hid (S = walS l) := hidx hS
      have hSL := hidx hSl
      have hk0 : ((k : Int) == 0) = false := by rw [beq_eq_false_iff_ne]; omega
      clear hS hSl
      have HSb := hidx hSb
      clear hSb
      go_wp2
      go_loopw [20] (fun i wr => ∃ j : Nat, j ≤ k ∧ i = .int .i64 j ∧ Hid (∀ t, t < j → ((nth S t).tmod k == 0) = true) ∧ wr.ownsRow w.heap.size 3 1 (.slice (some ⟨g, 0, none⟩) k c2) k (ints (divTo S k j)) ∧ Below w.heap.size w wr) (fun i _ => k - (intOf i).toNat)
      case atStart => exact ⟨0, Nat.zero_le _, rfl, fun j hj => absurd hj (Nat.not_lt_zero _), by simpa [divTo] using own_base hown0 (Nat.le_refl _), hbw⟩
      case round =>
        obtain ⟨j, hj, rfl, hall, hown, hbr⟩ := hrel
        clear hown0 hbw
        by_cases hlt : j < k
        · have hc := hown.cellAt j (by omega)
          rw [ints_get _ j (by rw [divTo_len _ _ _ (by rw [hSL.out]; omega), hSL.out]; exact hlt), divTo_nth _ _ _ (by rw [hSL.out]; exact hlt)] at hc
          have hf := hown.frozenAt j
          have hb := HSb.out j hlt
          have hst := hown.stored j (.int .i64 ((nth S j).tdiv k))
          rw [← ints_set, ← divTo_snoc S k j (by rw [hSL.out]; exact hlt)] at hst
          obtain ⟨x, hx⟩ : ∃ x, x = nth S j := ⟨_, rfl⟩
          rw [← hx] at hc hb hst
          have Hst := hidx hst
          obtain ⟨hb1', hb2'⟩ := hb
          cases hm : (x.tmod k == 0) with
          | true =>
            have hm2 : (x.tmod k != 0) = false := by rw [bne, hm]; rfl
            have Hm := hidx hm
            have Hx := hidx hx
            clear hm hx hst
            go_wp2
            go_roundw
            case rel =>
              refine ⟨j + 1, by omega, by go_num, fun t ht => ?_, Hst.out.1, hbr.setCell hB0 _⟩
              by_cases e : t = j
              · subst e; rw [← Hx.out]; exact Hm.out
              · exact hall.out t (by omega)
            case measure => simp [intOf]; omega
          | false =>
            have hm2 : (x.tmod k != 0) = true := by rw [bne, hm]; rfl
            have Hm := hidx hm
            have Hx := hidx hx
            clear hm hx hst
            go_wp2
            have e1 : unwE l = 8 := by
              rw [e0, if_neg]
              intro h
              have := all_nth h j (by rw [hSL.out]; exact hlt)
              rw [hll.out, ← Hx.out, Hm.out] at this
              cases this
            rw [hR (by omega), e1]
            go_ret2
            exact ⟨none, 0, rfl, SI.nil _, hbr⟩
        · have hjk : j = k := by omega
          subst hjk
          have e1 : unwE l = if vlistB (divL S j) then 0 else 4 := by
            rw [e0, if_pos, hll.out]
            refine all_of_nth fun t ht => ?_
            rw [hll.out]
            exact hall.out t (by rw [hSL.out] at ht; exact ht)
          have hown2 := own_SI hown
          have e2 : divTo S j j = divL S j := by conv => lhs; arg 3; rw [← hSL.out]
                                                 rw [divTo_all]
          rw [e2] at hown2
          have vl := fun W h => rvalidList_any (some ⟨g, 0, none⟩) j c2 (divL S j) W h
          clear hown hall e2
          have E1 := hidx e1
          clear e1 e0
          cases hv : vlistB (divL S j) with
          | true =>
            rw [hv] at vl
            have Vl := hidx vl
            have e1 : unwE l = 0 := by rw [E1.out, hv]; rfl
            have e3 : unwR l = divL S j := by unfold unwR; rw [if_pos e1, hll.out, ← hS0.out]
            have e4 : (divL S j).length = j := by rw [divL, List.length_map, hSL.out]
            have F1 := hidx (And.intro e1 (And.intro e3 e4))
            clear vl hv e1 e3 e4
            go_wp2_with (go_at_call 17; refine (Vl.out _ hown2).mono ?_; rintro e w3 ⟨rfl, rfl⟩)
            rw [F1.out.1, F1.out.2.1, F1.out.2.2]
            go_ret2
            exact ⟨_, _, rfl, hown2, hbr⟩
          | false =>
            rw [hv] at vl
            have Vl := hidx vl
            have e1 : unwE l = 4 := by rw [E1.out, hv]; rfl
            have F1 := hidx (And.intro (hR (by omega)) e1)
            clear vl hv e1
            go_wp2_with (go_at_call 17; refine (Vl.out _ hown2).mono ?_; rintro e w3 ⟨rfl, rfl⟩)
            rw [F1.out.1, F1.out.2]
            go_ret2
            exact ⟨none, 0, rfl, SI.nil _, hbr⟩

end Go.Proofs.Ytahccnljckgjmaa
