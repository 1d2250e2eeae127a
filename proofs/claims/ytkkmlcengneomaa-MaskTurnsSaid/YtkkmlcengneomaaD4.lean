/- The contract of mask's Permuted. No condition. -/
import Derived.Test.YtkkmlcengneomaaD3
import Derived.Test.YtkkmlcengneomaaDKeys
namespace Go.Proofs.Ytkkmlcengneomaa
open Go.RowKit Go.Maps Ls

theorem wf_small {a : Int} (h : 0 ≤ a) (h2 : a ≤ 9223372036854775807) : (Lit.int .i64 a).wf = true := by
  have e1 : IntKind.i64.min = -9223372036854775808 := by decide
  have e2 : IntKind.i64.max = 9223372036854775807 := by decide
  simp only [Lit.wf, e1, e2, Bool.and_eq_true, decide_eq_true_eq]; omega
theorem perm_ok {m : List (List Int)} {l : List Int} (h : permutedE m l = 0) : validB m = true ∧ l.length = (nthL m 0).length ∧ namedE m l = 0 ∧ l.Nodup := by
  unfold permutedE at h
  split at h
  · split at h
    · split at h
      · split at h
        · exact ⟨by assumption, by assumption, by assumption, by assumption⟩
        · omega
      · omega
    · omega
  · omega

set_option maxRecDepth 100000 in
set_option maxHeartbeats 4000000 in
theorem permuted_new (A X : Option Addr) (n c k d : Nat) (m : List (List Int)) (l : List Int) (w : World) (hm : SM w A n c m) (hl : SI w X k d l) :
    Calls Try.prog 49 #[.slice A n c, .slice X k d] w fun e w' => ∃ A' c', e = .returned (.tuple #[.slice A' (permutedR m l).length c', .int .i64 (permutedE m l)]) ∧ SMF w' w.heap.size A' (permutedR m l).length c' (permutedR m l) ∧ Below w.heap.size w w' := by
  have hz1 := fun o o' => step_trans (below_alloc w o) (below_alloc (w.alloc o) o')
  have hmn := hm.nmax
  have hln := hl.nmax
  have hml := hidx hm.len
  have hll := hidx hl.len
  have hR : permutedE m l ≠ 0 → permutedR m l = [] := fun h => by unfold permutedR; rw [if_neg h]
  cases hv : validB m with
  | false =>
    have e1 : permutedE m l = 1 := by unfold permutedE; rw [hv]; rfl
    rw [hR (by omega), e1]
    clear e1 hR
    go_enter Try.func49, Try.ntmps49
    go_wp2_with fail
    refine (valid_any A n c m _ (hm.below (hz1 _ _))).mono ?_
    rintro e w1 ⟨rfl, hb1⟩
    have hc1 : w1.cell? ⟨w.heap.size, 0, none⟩ = some (.slice A n c) := Below.cell_of hb1 (by simp)
    have hc2 : w1.cell? ⟨w.heap.size + 1, 0, none⟩ = some (.slice X k d) := Below.cell_of hb1 (by simp)
    go_wp2
    go_ret2
    exact ⟨none, 0, rfl, SMF.nil _ _, step_trans (hz1 _ _) hb1⟩
  | true =>
    have hv' : ∀ W, SM W A n c m → Calls Try.prog 32 #[.slice A n c] W fun e W' => e = .returned (.bool true) ∧ Below W.heap.size W W' := fun W h => by
      have := valid_any A n c m W h
      rwa [hv] at this
    have Hv := hidx hv'
    have hM := IsMask.of hv
    have hM0 := hidx hM
    have hn1 : 0 < n := by have := hM.rows1; have := hml.out; omega
    have hn6 : n ≤ 6 := by have := hM.rows6; have := hml.out; omega
    have hp10 := hM.pix10
    have hmw := hm.below (hz1 (.cells #[.slice A n c] 23) (.cells #[.slice X k d] 24))
    have hlw := hl.below (hz1 (.cells #[.slice A n c] 23) (.cells #[.slice X k d] 24))
    have hbw := hz1 (.cells #[.slice A n c] 23) (.cells #[.slice X k d] 24)
    have hm0 : ∀ W, SM W A n c m → ∃ ad A0 c0, A = some ad ∧ W.cell? ad = some (.slice A0 (nthL m 0).length c0) := fun W hm => by
      obtain ⟨ad, rfl, hca⟩ := hm.at_ (by omega)
      obtain ⟨A0, c0, h0, _⟩ := hca 0 (by omega)
      rw [add_zero] at h0
      exact ⟨ad, A0, c0, rfl, h0⟩
    have Hm0 := hidx hm0
    clear hm hl hz1 hv' hM hm0
    by_cases hp : k = (nthL m 0).length
    case neg =>
      have e1 : permutedE m l = 9 := by unfold permutedE; rw [hv, hll.out]; simp [hp]
      rw [hR (by omega), e1]
      have hq : ((k : Int) != ((nthL m 0).length : Int)) = true := by simp; omega
      clear e1 hR hv hp
      go_enter Try.func49, Try.ntmps49
      go_wp2_with fail
      refine (Hv.out _ hmw).mono ?_
      rintro e w1 ⟨rfl, hb1⟩
      have hc1 : w1.cell? ⟨w.heap.size, 0, none⟩ = some (.slice A n c) := Below.cell_of hb1 (by simp)
      have hc2 : w1.cell? ⟨w.heap.size + 1, 0, none⟩ = some (.slice X k d) := Below.cell_of hb1 (by simp)
      obtain ⟨ad, A0, c0, rfl, h0⟩ := Hm0.out _ (hmw.below hb1)
      go_wp2
      go_quiet (fail)
      go_wp2
      go_ret2
      exact ⟨none, 0, rfl, SMF.nil _ _, below_drewN (step_trans hbw hb1) _⟩
    case pos =>
      have hq : ((k : Int) != ((nthL m 0).length : Int)) = false := by simp; omega
      have nam : ∀ W, SM W A n c m → SI W X k d l → Calls Try.prog 69 #[.slice A n c, .slice X k d] W fun e W' => e = .returned (.int .i64 (namedE m l)) ∧ Below W.heap.size W W' := fun W h h' => named_any A X n c k d m l W h h'
      rcases named_01 hv l with he | he
      case inr =>
        have e1 : permutedE m l = 5 := by unfold permutedE; rw [hv, hll.out, he]; simp [hp]
        rw [hR (by omega), e1]
        rw [he] at nam
        have Nam := hidx nam
        clear e1 hR hv hp nam he
        go_enter Try.func49, Try.ntmps49
        go_wp2_with fail
        refine (Hv.out _ hmw).mono ?_
        rintro e w1 ⟨rfl, hb1⟩
        have hc1 : w1.cell? ⟨w.heap.size, 0, none⟩ = some (.slice A n c) := Below.cell_of hb1 (by simp)
        have hc2 : w1.cell? ⟨w.heap.size + 1, 0, none⟩ = some (.slice X k d) := Below.cell_of hb1 (by simp)
        obtain ⟨ad, A0, c0, rfl, h0⟩ := Hm0.out _ (hmw.below hb1)
        go_wp2
        go_quiet (fail)
        have hmq := (hmw.below hb1).below (below_drewN (Below.refl w1.heap.size w1) nq)
        have hlq := (hlw.below hb1).below (below_drewN (Below.refl w1.heap.size w1) nq)
        have hbq := below_drewN (step_trans hbw hb1) nq
        go_wp2_with fail
        refine (Nam.out _ hmq hlq).mono ?_
        rintro e w2 ⟨rfl, hb2⟩
        go_wp2
        go_ret2
        exact ⟨none, 0, rfl, SMF.nil _ _, step_trans hbq hb2⟩
      case inl =>
        rw [he] at nam
        have Nam := hidx nam
        have hin := hidx (chosen_in he hml.out hll.out)
        have fin : ∀ B C W, W.cell? ⟨B, 0, none⟩ = some (.slice A n c) → W.cell? ⟨C, 0, none⟩ = some (.slice X k d) → SM W A n c m → SI W X k d l →
            Calls Try.prog 79 #[.slice A n c, .int .i64 k, .func (.func 95) #[] #[.pointer (some ⟨B, 0, none⟩), .pointer (some ⟨C, 0, none⟩)]] W fun e W' => ∃ A' c', e = .returned (.slice A' n c') ∧ SMF W' W.heap.size A' n c' (pickL m l) ∧ Below W.heap.size W W' := fun B C W h1 h2 h3 h4 => by
          have := copied_new A n c k _ _ m _ W h3 (by omega) (by omega) (permuted1_ok B C A X n c k d m l W h1 h2 h3 h4 hin.out)
          rw [← hml.out, ← hll.out, rowsF_pick, hml.out, hll.out] at this
          exact this
        have Fin := hidx fin
        have hsz : ∃ s : Nat, Maps.size (seenOf Unit l k) = s ∧ (l.Nodup → s = k) ∧ (¬ l.Nodup → s < k) := ⟨_, rfl, fun h => by have := seen_all Unit l h; rw [hll.out] at this; exact this, fun h => by have := seen_less Unit l h; rw [hll.out] at this; exact this⟩
        obtain ⟨s, hs, hs1, hs2⟩ := hsz
        have Hs1 := hidx hs1
        have Hs2 := hidx hs2
        have Hs := hidx hs
        have HE : permutedE m l = if l.Nodup then 0 else 7 := by unfold permutedE; rw [hv, hll.out, he]; simp [hp]
        have hRR : l.Nodup → permutedR m l = pickL m l := fun h => by unfold permutedR; rw [HE, if_pos h]; rfl
        have HE' := hidx HE
        have HR' := hidx hRR
        have HR0 := hidx hR
        have hk10 : k ≤ 10 := by omega
        clear hR hv hp nam he fin hs hs1 hs2 HE hRR
        have hmm := @run_makeMap Try.prog
        go_enter Try.func49, Try.ntmps49
        go_wp2_with fail
        refine (Hv.out _ hmw).mono ?_
        rintro e w1 ⟨rfl, hb1⟩
        have hc1 : w1.cell? ⟨w.heap.size, 0, none⟩ = some (.slice A n c) := Below.cell_of hb1 (by simp)
        have hc2 : w1.cell? ⟨w.heap.size + 1, 0, none⟩ = some (.slice X k d) := Below.cell_of hb1 (by simp)
        have hm1 := hmw.below hb1
        have hl1 := hlw.below hb1
        have hbw1 := step_trans hbw hb1
        obtain ⟨ad, A0, c0, rfl, h0⟩ := Hm0.out _ hm1
        clear hmw hlw hbw hb1
        go_wp2
        go_quiet (fail)
        have hmq := hm1.below (below_drewN (Below.refl w1.heap.size w1) nq)
        have hlq := hl1.below (below_drewN (Below.refl w1.heap.size w1) nq)
        have hbq := below_drewN hbw1 nq
        have hc1q := Below.cell_of (below_drewN (Below.refl w1.heap.size w1) nq) hc1
        have hc2q := Below.cell_of (below_drewN (Below.refl w1.heap.size w1) nq) hc2
        generalize w1.drewN nq = w1' at *
        go_wp2_with fail
        refine (Nam.out _ hmq hlq).mono ?_
        rintro e w2 ⟨rfl, hb2⟩
        have hd1 := Below.cell_of hb2 hc1q
        have hd2 := Below.cell_of hb2 hc2q
        have hm2 := hmq.below hb2
        have hl2 := hlq.below hb2
        have hbw2 := step_trans hbq hb2
        clear hmq hlq hc1q hc2q hm1 hl1 hc1 hc2 h0 hb2 hbq hbw1
        have hd1' := Below.cell_of (below_alloc w2 (.map #[] 0)) hd1
        have hd2' := Below.cell_of (below_alloc w2 (.map #[] 0)) hd2
        have hbm := (Below.refl w2.heap.size w2).alloc (Nat.le_refl _) (.map #[] 0)
        go_wp2
        go_loopw [8, 29] (fun _ i wr => ∃ q : Nat, q ≤ k ∧ i = .int .i64 q ∧ wr.ownsMap Try.prog 3 (plainElem Try.prog 4) w2.heap.size q (seenOf Unit l q) ∧ Below w2.heap.size w2 wr) (fun _ i _ => k - (intOf i).toNat)
        case atStart => exact ⟨0, Nat.zero_le _, rfl, by rw [seenOf_zero]; exact World.ownsMap_made _ _ _ _, hbm⟩
        case round =>
          obtain ⟨q, hqk, rfl, hown, hbr⟩ := hrel
          have e1 := Below.cell_of hbr hd1
          have e2 := Below.cell_of hbr hd2
          have hmr := hm2.below hbr
          have hlr := hl2.below hbr
          have hbwr := step_trans hbw2 hbr
          clear hd1' hd2' hbm hd1 hd2 hm2 hl2 hbw2
          by_cases hlt : q < k
          · obtain ⟨xd, rfl, hcx⟩ := hlr.at_ (by omega)
            have h3 := hcx q hlt
            have hin2 := hin.out 0 q hn1 hlt
            rw [hM0.out.each 0 (by rw [hml.out]; exact hn1)] at hin2
            have hkey := keyOf_int_mk (P := Try.prog) Try.underlying3 (a := nth l q) (wf_small (by omega) (by omega))
            have HS := hidx (seenOf_snoc Unit l q (by rw [hll.out]; exact hlt))
            clear hcx hin2
            go_wp2_with (at_mapUpdate; refine wpList_mapUpdate_own _ rfl _ _ _ 92 rfl 3 4 (int_keyed Try.underlying3) Try.underlying92 (plainElem (H := Unit) Try.prog 4) w2.heap.size q _ rfl hown (by unfold maxLen; omega) _ _ _ rfl rfl hkey _ [] (plainElem_bool Try.underlying4 true) ?_; intro w3 hown3 hgrow3)
            go_roundw
            case rel => exact ⟨q + 1, by omega, by go_num, by rw [HS.out]; exact hown3, hbr.grown hgrow3 hbr.size (fun j hj => by cases hj; exact Nat.le_refl _)⟩
            case measure => simp [intOf]; omega
          · have hqq : q = k := by omega
            subst hqq
            have hsq := Hs.out
            have own2 : wr.ownsMap Try.prog 3 (plainElem Try.prog 4) w2.heap.size q (seenOf Unit l q) := hown
            by_cases hnd : l.Nodup
            · have hse := Hs1.out hnd
              have hEE : permutedE m l = 0 := by rw [HE'.out, if_pos hnd]
              have HRR := hidx (HR'.out hnd)
              have HEE := hidx hEE
              clear hnd hEE
              go_wp2_with (first
                | (at_len; refine wpList_len_own _ rfl _ 92 rfl 3 4 Try.underlying92 (plainElem (H := Unit) Try.prog 4) w2.heap.size q _ rfl own2 ?_; rw [hsq, hse])
                | (go_at_call 79; refine (Fin.out _ _ _ e1 e2 hmr hlr).mono ?_; rintro e w4 ⟨A4, c4, rfl, hs4, hb4⟩))
              go_ret2
              rw [HRR.out, HEE.out, pickL_len, hml.out]
              exact ⟨A4, c4, rfl, hs4.base hbwr.size, step_trans hbwr hb4⟩
            · have hse := Hs2.out hnd
              have hEE : permutedE m l = 7 := by rw [HE'.out, if_neg hnd]
              have HRR := hidx (HR0.out (by omega))
              have HEE := hidx hEE
              have hse2 : ((s : Int) < q) := by omega
              clear hnd hEE
              go_wp2_with (first
                | (at_len; refine wpList_len_own _ rfl _ 92 rfl 3 4 Try.underlying92 (plainElem (H := Unit) Try.prog 4) w2.heap.size q _ rfl own2 ?_; rw [hsq])
                | fail)
              go_ret2
              rw [HRR.out, HEE.out]
              exact ⟨none, 0, rfl, SMF.nil _ _, hbwr⟩

theorem permuted_any (A X : Option Addr) (n c k d : Nat) (m : List (List Int)) (l : List Int) (w : World) (hm : SM w A n c m) (hl : SI w X k d l) :
    Calls Try.prog 49 #[.slice A n c, .slice X k d] w fun e w' => ∃ A' c', e = .returned (.tuple #[.slice A' (permutedR m l).length c', .int .i64 (permutedE m l)]) ∧ SM w' A' (permutedR m l).length c' (permutedR m l) ∧ Below w.heap.size w w' :=
  (permuted_new A X n c k d m l w hm hl).mono fun _ _ ⟨A', c', h1, h2, h3⟩ => ⟨A', c', h1, h2.sm, h3⟩

end Go.Proofs.Ytkkmlcengneomaa
