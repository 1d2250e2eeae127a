/- Contracts of lightsieveref02's column, Read, Back, named, Column, Product and of the law's long and Small. No condition. -/
import Derived.Test.YtkkmlcengneomaaR1
namespace Go.Proofs.Ytkkmlcengneomaa
open Go.RowKit Ls

set_option maxHeartbeats 400000 in
theorem rcolumn_any (A : Option Addr) (n c : Nat) (m : List (List Int)) (j : Nat) (w : World)
    (hm : SM w A n c m) (hj : ∀ k, k < n → j < (nthL m k).length) (hsm : n < 1000000) :
    Calls Try.prog 71 #[.slice A n c, .int .i64 j] w fun e w' => ∃ A' c', e = .returned (.slice A' n c') ∧ w'.ownsRow w.heap.size 3 1 (.slice A' n c') n (ints (colL m j)) ∧ Below w.heap.size w w' := by
  obtain rfl := hm.len
  have hnm := hm.nmax
  go_enter Try.func71, Try.ntmps71
  go_wp2
  go_loopw [5, 7, 10] (fun s _ i wr => ∃ (k : Nat) (A' : Option Addr) (c' : Nat), k ≤ m.length ∧ i = .int .i64 k ∧ s = .slice A' k c' ∧ wr.ownsRow w.heap.size 3 1 (.slice A' k c') k (ints (colL (m.take k) j)) ∧ Below w.heap.size w wr) (fun _ _ i _ => m.length - (intOf i).toNat)
  case atStart => exact ⟨0, none, 0, Nat.zero_le _, rfl, rfl, World.ownsRow_nil _ _ _ _, Below.refl _ _⟩
  case round =>
    obtain ⟨k, A', c', hk, rfl, rfl, hown, hb⟩ := hrel
    by_cases hlt : k < m.length
    · obtain ⟨ad, rfl, hca⟩ := (hm.below hb).at_ (by omega)
      obtain ⟨A1, c1, h1, h2⟩ := hca k hlt
      have hjk := hj k hlt
      obtain ⟨a1, rfl, hc1⟩ := h2.at_ (by omega)
      have h3 := hc1 j hjk
      have h4 := h2.nmax
      clear hca hc1 h2 hm hj
      have HS := hidx (colL_snoc m j k hlt)
      go_wp2_with (at_builtin; refine app1 eltI rfl rfl _ _ rfl rfl rfl hown hb (Nat.le_refl _) rfl (by omega) (by omega) ?_; intro A2 c2 w2 hown2 hb2 _ hc2 hc2'; clear hown hb h1 h3)
      go_roundw
      case rel => exact ⟨k + 1, _, _, by omega, by go_num, rfl, by rw [HS.out, ← ints_snoc]; exact hown2, hb2⟩
      case measure => simp [intOf]; omega
    · have hkk : k = m.length := by omega
      subst hkk
      go_wp2
      go_ret
      exact ⟨_, _, rfl, by simpa using hown, hb⟩

set_option maxHeartbeats 400000 in
theorem rnamed_any (A X : Option Addr) (n c k d : Nat) (m : List (List Int)) (x : List Int) (w : World) (hm : SM w A n c m) (hx : SI w X k d x) :
    Calls Try.prog 70 #[.slice A n c, .slice X k d] w fun e w' => e = .returned (.int .i64 (namedE m x)) ∧ w = w' := by
  have hkm := hx.nmax
  obtain rfl := hx.len
  cases hv : validB m with
  | true =>
    have hM := IsMask.of hv
    have hn := hM.rows1
    have hp := hM.pix1
    have hp2 := hM.pix10
    have hl := hm.len
    obtain ⟨ad, rfl, hca⟩ := hm.at_ (by omega)
    obtain ⟨A2, c2, h3, h4⟩ := hca 0 (by omega)
    rw [add_zero] at h3
    have hn' : 0 < n := by omega
    clear hca h4 hM hl hn
    go_enter Try.func70, Try.ntmps70
    go_wp2_with (go_at_call 13; refine (rvalid_any _ _ _ _ _ hm).mono ?_; rintro e w1 ⟨rfl, rfl⟩)
    go_loop [6, 12] (fun _ i => ∃ k : Nat, k ≤ x.length ∧ i = .int .i64 k ∧ Hid (∀ j, j < k → inB (nth x j) 0 ((nthL m 0).length - 1) = true)) (fun _ i => x.length - (intOf i).toNat)
    case atStart => exact ⟨0, Nat.zero_le _, rfl, fun j hj => absurd hj (Nat.not_lt_zero _)⟩
    case round =>
      obtain ⟨k, hk, rfl, hall⟩ := hrel
      by_cases hlt : k < x.length
      · obtain ⟨ad, rfl, hca⟩ := hx.at_ (by omega)
        have h1 := hca k hlt
        clear hca hx
        cases hq : inB (nth x k) 0 ((nthL m 0).length - 1) with
        | true =>
          have Hq := hidx hq
          go_wp2_with (go_at_call 62; refine (rwithin_any _ _ _ _).mono ?_; rintro e w1 ⟨rfl, rfl⟩)
          go_round
          case rel =>
            refine ⟨k + 1, by omega, by go_num, ?_⟩
            intro j hj
            by_cases e : j = k
            · subst e; exact Hq.out
            · exact hall.out j (by omega)
          case measure => simp [intOf]; omega
        | false =>
          have Hf := hidx hq
          go_wp2_with (go_at_call 62; refine (rwithin_any _ _ _ _).mono ?_; rintro e w1 ⟨rfl, rfl⟩)
          go_ret
          exact ⟨ret_i64 (by unfold namedE; rw [hv, not_all_of (p := fun n => inB n 0 ((nthL m 0).length - 1)) k hlt Hf.out]; simp), rfl⟩
      · have hkk : k = x.length := by omega
        subst hkk
        go_wp2
        go_ret
        exact ⟨ret_i64 (by unfold namedE; rw [hv, all_of_nth (p := fun n => inB n 0 ((nthL m 0).length - 1)) hall.out]; simp), rfl⟩
  | false =>
    go_enter Try.func70, Try.ntmps70
    go_wp2_with (go_at_call 13; refine (rvalid_any _ _ _ _ _ hm).mono ?_; rintro e w1 ⟨rfl, rfl⟩)
    go_ret
    exact ⟨ret_i64 (by unfold namedE; rw [hv]; simp), rfl⟩

set_option maxHeartbeats 400000 in
theorem rread_any (A X : Option Addr) (n c k d : Nat) (m : List (List Int)) (x : List Int) (w : World) (hm : SM w A n c m) (hx : SI w X k d x) :
    Calls Try.prog 34 #[.slice A n c, .slice X k d] w fun e w' => ∃ A' c', e = .returned (.tuple #[.slice A' (readR m x).length c', .int .i64 (shownE m x)]) ∧
      w'.ownsRow w.heap.size 3 1 (.slice A' (readR m x).length c') (readR m x).length (ints (readR m x)) ∧ Below w.heap.size w w' := by
  cases hv : validB m with
  | false =>
    have hE : shownE m x = 1 := by unfold shownE listE; rw [hv]; rfl
    have hR : readR m x = [] := by unfold readR; rw [hE]; rfl
    rw [hR, hE]
    clear hE hR
    go_enter Try.func34, Try.ntmps34
    go_wp2_with (go_at_call 13; refine (rvalid_any _ _ _ _ _ hm).mono ?_; rintro e w1 ⟨rfl, rfl⟩)
    go_ret2
    exact ⟨none, 0, rfl, World.ownsRow_nil _ _ _ _, Below.refl _ _⟩
  | true =>
    have hE : shownE m x = listedE (nthL m 0).length 1000000 x := by unfold shownE listE; rw [hv]; rfl
    have hM := IsMask.of hv
    have hn := hM.rows1
    have hr6 := hM.rows6
    have hl := hm.len
    have hn' : 0 < n := by omega
    have hcell : ∃ ad A2 c2, A = some ad ∧ w.cell? ad = some (.slice A2 (nthL m 0).length c2) := by
      obtain ⟨ad, rfl, hca⟩ := hm.at_ hn'
      obtain ⟨A2, c2, h3, h4⟩ := hca 0 hn'
      rw [add_zero] at h3
      exact ⟨ad, A2, c2, rfl, h3⟩
    obtain ⟨ad0, A2, c2, rfl, h3⟩ := hcell
    by_cases hE0 : listedE (nthL m 0).length 1000000 x = 0
    · obtain ⟨_, hlen, hbd⟩ := shown_mask (hE.trans hE0)
      have hR : readR m x = readL m x := by unfold readR; rw [hE, if_pos hE0]
      rw [hR, hE]
      rw [readL_len]
      obtain rfl := hl
      have hxk := hx.len
      have hl := hidx hlen
      have hxk2 := hidx hxk
      clear hR hlen hxk hbd hE
      have HE := hidx hE0
      go_enter Try.func34, Try.ntmps34
      go_wp2_with (first
        | (go_at_call 13; refine (rvalid_any _ _ _ _ _ hm).mono ?_; rintro e w1 ⟨rfl, rfl⟩)
        | (go_at_call 63; refine (rlisted_any X k d x _ _ _ hx (by omega) (by omega)).mono ?_; rintro e w1 ⟨rfl, rfl⟩))
      clear hE0 h3
      go_loopw [7, 9, 24] (fun s _ i wr => ∃ (j : Nat) (A' : Option Addr) (c' : Nat), j ≤ m.length ∧ i = .int .i64 j ∧ s = .slice A' j c' ∧ wr.ownsRow w.heap.size 3 1 (.slice A' j c') j (ints (readL (m.take j) x)) ∧ Below w.heap.size w wr) (fun _ _ i _ => m.length - (intOf i).toNat)
      case atStart => exact ⟨0, none, 0, Nat.zero_le _, rfl, rfl, World.ownsRow_nil _ _ _ _, Below.refl _ _⟩
      case round =>
        obtain ⟨j, A', c', hj, rfl, rfl, hown, hb⟩ := hrel
        by_cases hlt : j < m.length
        · obtain ⟨ad, had, hca⟩ := (hm.below hb).at_ (by omega)
          injection had with had
          subst had
          obtain ⟨A1, c1, h1, h2⟩ := hca j hlt
          have hx' := hx.below hb
          have HS := hidx (readL_snoc m x j hlt)
          have hle : (nthL m j).length ≤ k := by rw [hM.each j hlt, ← hl.out, hxk2.out]; omega
          clear hca hm hx
          go_wp2_with (first
            | (go_at_call 19; refine (dot_b A1 X _ _ c1 d (nthL m j) x _ h2 hx' hle).mono ?_; rintro e w2 ⟨rfl, hb2⟩; have hown2 := own_below hown hb2; have hb3 := below_into hb (Nat.le_refl _) hb2; clear hown hb h1)
            | (at_builtin; refine app1 eltI rfl rfl _ _ rfl rfl rfl hown2 hb3 (Nat.le_refl _) rfl (by omega) (by omega) ?_; intro A2 c2 w3 hown3 hb4 _ hc2 hc2'; clear hown2 hb3))
          go_roundw
          case rel => exact ⟨j + 1, _, _, by omega, by go_num, rfl, by rw [HS.out, ← ints_snoc]; exact hown3, hb4⟩
          case measure => simp [intOf]; omega
        · have hjj : j = m.length := by omega
          subst hjj
          go_wp2
          go_ret2
          exact ⟨_, _, ret2_i64 HE.out.symm, by simpa using hown, hb⟩
    · have hR : readR m x = [] := by unfold readR; rw [hE, if_neg hE0]
      rw [hR, hE]
      have he : (listedE (nthL m 0).length 1000000 x != 0) = true := by simp [hE0]
      have he2 : (listedE (nthL m 0).length 1000000 x == 0) = false := by simp [hE0]
      clear hR hE
      go_enter Try.func34, Try.ntmps34
      go_wp2_with (first
        | (go_at_call 13; refine (rvalid_any _ _ _ _ _ hm).mono ?_; rintro e w1 ⟨rfl, rfl⟩)
        | (go_at_call 63; refine (rlisted_any X k d x _ _ _ hx (by omega) (by omega)).mono ?_; rintro e w1 ⟨rfl, rfl⟩))
      go_ret2
      exact ⟨none, 0, rfl, World.ownsRow_nil _ _ _ _, Below.refl _ _⟩

end Go.Proofs.Ytkkmlcengneomaa
