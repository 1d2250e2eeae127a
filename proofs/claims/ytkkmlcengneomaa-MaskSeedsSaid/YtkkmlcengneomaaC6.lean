/- Contracts of mask's Stacked. No condition. -/
import Derived.Test.YtkkmlcengneomaaC1
import Derived.Test.YtkkmlcengneomaaC5
import Derived.Test.YtkkmlcengneomaaMSpec2
namespace Go.Proofs.Ytkkmlcengneomaa
open Go.RowKit Ls

theorem rowsF_id (m : List (List Int)) (pix : Nat) (h : ∀ k, k < m.length → (nthL m k).length = pix) : rowsF (fun i j => nth (nthL m i) j) pix m.length = m := by
  apply List.ext_getElem (by simp [rowsF])
  intro i h1 h2
  simp only [rowsF, List.getElem_map, List.getElem_range, rowF]
  have hi := h i h2
  rw [nthL_eq m i h2] at hi
  apply List.ext_getElem (by simp [hi])
  intro j h3 h4
  simp only [List.getElem_map, List.getElem_range]
  rw [nthL_eq m i h2, nth_eq _ _ h4]

set_option maxHeartbeats 400000 in
theorem stacked1_ok (B : Nat) (A : Option Addr) (n c pix : Nat) (m : List (List Int)) (w : World) (hB : w.cell? ⟨B, 0, none⟩ = some (.slice A n c)) (hm : SM w A n c m) (hp : ∀ k, k < n → (nthL m k).length = pix) :
    FokT Try.prog 80 #[.pointer (some ⟨B, 0, none⟩)] n pix (fun i j => nth (nthL m i) j) w := by
  refine ⟨(enters_of Try.func80 (by kernel_rfl) rfl), fun i j W hi hj hW => ?_⟩
  have hc := Below.cell_of hW hB
  have hmx := hm.nmax
  obtain ⟨ad, rfl, hca⟩ := (hm.below hW).at_ (by omega)
  obtain ⟨A2, c2, h1, h2⟩ := hca i hi
  have hl := hp i hi
  obtain ⟨ad2, rfl, hcb⟩ := h2.at_ (by omega)
  have h3 := hcb j (by omega)
  have hj2 : j < (nthL m i).length := by omega
  have hm2 := h2.nmax
  clear hca hcb h2 hm hB hl hp
  go_enter Try.func80, Try.ntmps80
  go_wp2
  go_ret
  exact ⟨rfl, Below.refl _ _⟩

set_option maxHeartbeats 400000 in
theorem without1_ok (B : Nat) (A : Option Addr) (n c pix : Nat) (m : List (List Int)) (w : World) (hB : w.cell? ⟨B, 0, none⟩ = some (.slice A n c)) (hm : SM w A n c m) (hp : ∀ k, k < n → (nthL m k).length = pix) :
    FokT Try.prog 82 #[.pointer (some ⟨B, 0, none⟩)] n pix (fun i j => nth (nthL m i) j) w := by
  refine ⟨(enters_of Try.func82 (by kernel_rfl) rfl), fun i j W hi hj hW => ?_⟩
  have hc := Below.cell_of hW hB
  have hmx := hm.nmax
  obtain ⟨ad, rfl, hca⟩ := (hm.below hW).at_ (by omega)
  obtain ⟨A2, c2, h1, h2⟩ := hca i hi
  have hl := hp i hi
  obtain ⟨ad2, rfl, hcb⟩ := h2.at_ (by omega)
  have h3 := hcb j (by omega)
  have hj2 : j < (nthL m i).length := by omega
  have hm2 := h2.nmax
  clear hca hcb h2 hm hB hl hp
  go_enter Try.func82, Try.ntmps82
  go_wp2
  go_ret
  exact ⟨rfl, Below.refl _ _⟩

set_option maxRecDepth 100000 in
set_option maxHeartbeats 2000000 in
theorem stacked_any (A B : Option Addr) (n c k d : Nat) (a b : List (List Int)) (w : World) (ha : SM w A n c a) (hb : SM w B k d b) :
    Calls Try.prog 36 #[.slice A n c, .slice B k d] w fun e w' => ∃ A' c', e = .returned (.tuple #[.slice A' (stackR a b).length c', .int .i64 (stackE a b)]) ∧ SM w' A' (stackR a b).length c' (stackR a b) ∧ Below w.heap.size w w' := by
  have hnm := ha.nmax
  have hkm := hb.nmax
  have hla := ha.len
  have hlb := hb.len
  have Hla := hidx hla
  have Hlb := hidx hlb
  cases hva : validB a with
  | false =>
    have e1 : stackE a b = 1 := by unfold stackE; rw [hva]; rfl
    have hR : stackR a b = [] := by unfold stackR; rw [e1]; rfl
    rw [e1, hR]
    clear e1 hR hla hlb
    go_enter Try.func36, Try.ntmps36
    go_wp2_with (go_at_call 32; refine (valid_any A n c a _ ha).mono ?_; rintro e w1 ⟨rfl, hb1⟩)
    go_ret2
    exact ⟨none, 0, rfl, SM.nil _, hb1⟩
  | true =>
    cases hvb : validB b with
    | false =>
      have e1 : stackE a b = 1 := by unfold stackE; rw [hva, hvb]; rfl
      have hR : stackR a b = [] := by unfold stackR; rw [e1]; rfl
      rw [e1, hR]
      clear e1 hR hla hlb
      go_enter Try.func36, Try.ntmps36
      go_wp2_with fail
      refine (valid_any A n c a _ ha).mono ?_
      rintro e w1 ⟨rfl, hb1⟩
      go_wp2_with fail
      refine (valid_any B k d b _ (hb.below hb1)).mono ?_
      rintro e w2 ⟨rfl, hb2⟩
      go_wp2
      go_ret2
      exact ⟨none, 0, rfl, SM.nil _, step_trans hb1 hb2⟩
    | true =>
      have hA := IsMask.of hva
      have hB := IsMask.of hvb
      have ha1 := hA.rows1
      have hb1 := hB.rows1
      have hn6 : n ≤ 6 := by have := hA.rows6; omega
      have hk6 : k ≤ 6 := by have := hB.rows6; omega
      have hna : 1 ≤ n := by omega
      have hkb : 1 ≤ k := by omega
      have hcell : ∀ W, SM W A n c a → SM W B k d b → ∃ ad bd A0 c0 B0 d0, A = some ad ∧ B = some bd ∧ W.cell? ad = some (.slice A0 (nthL a 0).length c0) ∧ W.cell? bd = some (.slice B0 (nthL b 0).length d0) := fun W ha hb => by
        obtain ⟨ad, rfl, hca⟩ := ha.at_ (by omega)
        obtain ⟨A0, c0, h0, _⟩ := hca 0 (by omega)
        rw [add_zero] at h0
        obtain ⟨bd, rfl, hcb⟩ := hb.at_ (by omega)
        obtain ⟨B0, d0, h1, _⟩ := hcb 0 (by omega)
        rw [add_zero] at h1
        exact ⟨ad, bd, A0, c0, B0, d0, rfl, rfl, h0, h1⟩
      have Hcell := hidx hcell
      clear hcell
      by_cases hp : (nthL a 0).length = (nthL b 0).length
      case neg =>
        have e1 : stackE a b = 9 := by unfold stackE; rw [hva, hvb]; simp [hp]
        have hR : stackR a b = [] := by unfold stackR; rw [e1]; rfl
        rw [e1, hR]
        have hq : (((nthL a 0).length : Int) != ((nthL b 0).length : Int)) = true := by simp; omega
        clear e1 hR hla hlb hp hA hB ha1 hb1
        go_enter Try.func36, Try.ntmps36
        go_wp2_with fail
        refine (valid_any A n c a _ ha).mono ?_
        rintro e w1 ⟨rfl, hb1⟩
        go_wp2_with fail
        refine (valid_any B k d b _ (hb.below hb1)).mono ?_
        rintro e w2 ⟨rfl, hb2⟩
        obtain ⟨ad, bd, A0, c0, B0, d0, rfl, rfl, h0, h1⟩ := Hcell.out w2 (ha.below (step_trans hb1 hb2)) (hb.below (step_trans hb1 hb2))
        go_wp2_with fail
        go_quiet (fail)
        go_wp2
        go_ret2
        exact ⟨none, 0, rfl, SM.nil _, below_drewN (step_trans hb1 hb2) _⟩
      case pos =>
        have hq : (((nthL a 0).length : Int) != ((nthL b 0).length : Int)) = false := by rw [hp]; simp
        by_cases hs : n + k ≤ 6
        case neg =>
          have e1 : stackE a b = 4 := by
            unfold stackE; rw [hva, hvb]; simp [hp]; omega
          have hR : stackR a b = [] := by unfold stackR; rw [e1]; rfl
          rw [e1, hR]
          have hs2 : (6:Int) < (n:Int) + (k:Int) := by omega
          clear e1 hR hla hlb hp hA hB ha1 hb1 hs
          go_enter Try.func36, Try.ntmps36
          go_wp2_with fail
          refine (valid_any A n c a _ ha).mono ?_
          rintro e w1 ⟨rfl, hb1⟩
          go_wp2_with fail
          refine (valid_any B k d b _ (hb.below hb1)).mono ?_
          rintro e w2 ⟨rfl, hb2⟩
          obtain ⟨ad, bd, A0, c0, B0, d0, rfl, rfl, h0, h1⟩ := Hcell.out w2 (ha.below (step_trans hb1 hb2)) (hb.below (step_trans hb1 hb2))
          go_wp2_with fail
          go_quiet (fail)
          go_wp2
          go_ret2
          exact ⟨none, 0, rfl, SM.nil _, below_drewN (step_trans hb1 hb2) _⟩
        case pos =>
          have e1 : stackE a b = 0 := by
            unfold stackE; rw [hva, hvb]; simp [hp]; omega
          have hR : stackR a b = a ++ b := by unfold stackR; rw [if_pos e1]
          have hrl : (stackR a b).length = n + k := by rw [hR, List.length_append]; omega
          rw [hrl, e1, hR]
          have hsl : sumLen [a, b] = n + k := by simp [sumLen]; omega
          have hfl : [a, b].flatten = a ++ b := by simp
          have cc := fun X W h => concat_any X 2 2 [a, b] W h (by rw [hsl]; omega) (by rw [hsl]; omega)
          rw [hsl, hfl] at cc
          have hlens : ∀ i, i < n + k → (nthL (a ++ b) i).length = (nthL a 0).length := fun i hi => by
            by_cases hlt : i < a.length
            · rw [nthL_left a b i hlt]; exact hA.each i hlt
            · rw [nthL_right a b i (by omega), hB.each (i - a.length) (by omega), hp]
          have hid : rowsF (fun i j => nth (nthL (a ++ b) i) j) (nthL a 0).length (n + k) = a ++ b := by
            have := rowsF_id (a ++ b) (nthL a 0).length (fun i hi => hlens i (by simp at hi; omega))
            rw [List.length_append, hla, hlb] at this
            exact this
          have hpx := hA.pix10
          have Cc := hidx cc
          have Hlens := hidx hlens
          have Hid' := hidx hid
          clear e1 hR hrl hsl hfl cc hlens hid hla hlb hp hA hB ha1 hb1
          go_enter Try.func36, Try.ntmps36
          go_wp2_with fail
          refine (valid_any A n c a _ ha).mono ?_
          rintro e w1 ⟨rfl, hb1⟩
          go_wp2_with fail
          refine (valid_any B k d b _ (hb.below hb1)).mono ?_
          rintro e w2 ⟨rfl, hb2⟩
          have hbw2 := step_trans hb1 hb2
          obtain ⟨ad, bd, A0, c0, B0, d0, rfl, rfl, h0, h1⟩ := Hcell.out w2 (ha.below hbw2) (hb.below hbw2)
          go_wp2_with fail
          go_quiet (fail)
          have ha3 := (ha.below hbw2).below (below_drewN (Below.refl _ w2) nq)
          have hb3 := (hb.below hbw2).below (below_drewN (Below.refl _ w2) nq)
          have hbw3 := step_trans hbw2 (below_drewN (Below.refl _ w2) nq)
          have h03 : (w2.drewN nq).cell? ad = some (.slice A0 (nthL a 0).length c0) := h0
          generalize w2.drewN nq = w3 at ha3 hb3 hbw3 h03 ⊢
          clear ha hb h0 h1 hb1 hb2 hbw2
          have hS3 := S3.new2 23 ha3 hb3
          go_wp2_with fail
          refine (Cc.out _ _ hS3).mono ?_
          rintro e w4 ⟨A4, c4, rfl, hs4, hb4⟩
          have hbw4 := step_trans (below_alloc _ _) hb4
          have h04 := Below.cell_of hbw4 h03
          have hbox := stacked1_ok w4.heap.size A4 (n + k) c4 (nthL a 0).length (a ++ b) (w4.alloc (.cells #[.slice A4 (n + k) c4] 23)) (by simp) (hs4.below (below_alloc _ _)) Hlens.out
          have hcop := copied_any A4 (n + k) c4 (nthL a 0).length _ _ (a ++ b) _ (w4.alloc (.cells #[.slice A4 (n + k) c4] 23)).drew (hs4.below (below_alloc _ _).drew) (by omega) (by omega) (hbox.later (Below.refl _ _).drew)
          rw [Hid'.out] at hcop
          have Hcop := hidx hcop
          have hna0 : 0 < n := by omega
          have h04' := Below.cell_of (below_alloc w4 (.cells #[.slice A4 (n + k) c4] 23)) h04
          clear hcop hbox hS3 ha3 hb3 h03
          go_wp2_with fail
          have hbx : (w4.alloc (.cells #[.slice A4 (n + k) c4] 23)).cell? ⟨w4.heap.size, 0, none⟩ = some (.slice A4 (n + k) c4) := by simp
          go_region_held3 (fun w' => w'.cell? ⟨w4.heap.size, 0, none⟩ = some (.slice A4 (n + k) c4) ∧ w'.cell? ad = some (.slice A0 (nthL a 0).length c0)) (first | go_keep | exact ⟨hbx, h04'⟩ | exact ⟨Below.cell_of (undrew hb5) hbx, Below.cell_of (undrew hb5) h04'⟩)
            (first | (go_at_call 79; refine Hcop.out.mono ?_; rintro e w5 ⟨A5, c5, rfl, hs5, hb5⟩))
          go_wp2
          go_ret2
          exact ⟨A5, c5, rfl, hs5, step_trans hbw3 (step_trans hbw4 ((below_alloc w4 _).trans ((undrew hb5).mono (by simp))))⟩

end Go.Proofs.Ytkkmlcengneomaa
