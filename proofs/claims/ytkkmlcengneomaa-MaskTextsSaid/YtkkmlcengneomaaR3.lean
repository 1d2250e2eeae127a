/- Contracts of lightsieveref02's Back, Column, Product, Rows, Pixels, divisor, Likeness and of the law's long and Small. No condition. -/
import Derived.Test.YtkkmlcengneomaaR2
import Derived.Test.YtkkmlcengneomaaM7
namespace Go.Proofs.Ytkkmlcengneomaa
open Go.RowKit Ls

theorem rcolumn_int (A : Option Addr) (n c : Nat) (m : List (List Int)) (j : Int) (w : World) (hm : SM w A n c m) (hM : IsMask m) (h0 : 0 ≤ j) (h1 : j < (nthL m 0).length) :
    Calls Try.prog 71 #[.slice A n c, .int .i64 j] w fun e w' => ∃ A' c', e = .returned (.slice A' n c') ∧ w'.ownsRow w.heap.size 3 1 (.slice A' n c') n (ints (colL m j.toNat)) ∧ Below w.heap.size w w' := by
  obtain ⟨k, rfl⟩ := Int.eq_ofNat_of_zero_le h0
  rw [Int.toNat_natCast]
  exact rcolumn_any A n c m k w hm (fun i hi => by rw [hM.each i (by rw [hm.len]; exact hi)]; omega) (by have := hM.rows6; have := hm.len; omega)

set_option maxHeartbeats 400000 in
theorem rColumn_any (A : Option Addr) (n c : Nat) (m : List (List Int)) (j : Int) (w : World) (hm : SM w A n c m) :
    Calls Try.prog 22 #[.slice A n c, .int .i64 j] w fun e w' => ∃ A' c', e = .returned (.tuple #[.slice A' (colR m j).length c', .int .i64 (namedE m [j])]) ∧
      w'.ownsRow w.heap.size 3 1 (.slice A' (colR m j).length c') (colR m j).length (ints (colR m j)) ∧ Below w.heap.size w w' := by
  have hb0 := below_alloc w
  have hs := fun t => SI.new1 w t j
  by_cases hE : namedE m [j] = 0
  · obtain ⟨hM, h0, h1⟩ := named1 hE
    have hR : colR m j = colL m j.toNat := by unfold colR; rw [if_pos hE]
    rw [hR, colL_len]
    clear hR
    have hl := hidx hm.len
    go_enter Try.func22, Try.ntmps22
    go_wp2_with (first
      | (go_at_call 70; refine (rnamed_any A _ n c 1 1 m [j] _ (hm.below (hb0 _)) (hs _)).mono ?_; rintro e w1 ⟨rfl, rfl⟩)
      | (go_at_call 71; refine (rcolumn_int A n c m j _ (hm.below (hb0 _)) hM h0 h1).mono ?_; rintro e w2 ⟨A2, c2, rfl, hown, hb2⟩))
    go_ret2
    rw [hl.out]
    refine ⟨_, _, ret2_i64 hE.symm, own_base hown (hb0 _).size, step_trans (hb0 _) hb2⟩
  · have hR : colR m j = [] := by unfold colR; rw [if_neg hE]
    rw [hR]
    have he : (namedE m [j] != 0) = true := by simp [hE]
    have he2 : (namedE m [j] == 0) = false := by simp [hE]
    clear hR
    go_enter Try.func22, Try.ntmps22
    go_wp2_with (go_at_call 70; refine (rnamed_any A _ n c 1 1 m [j] _ (hm.below (hb0 _)) (hs _)).mono ?_; rintro e w1 ⟨rfl, rfl⟩)
    go_ret2
    exact ⟨none, 0, rfl, World.ownsRow_nil _ _ _ _, hb0 _⟩

set_option maxHeartbeats 400000 in
theorem rProduct_any (A : Option Addr) (n c : Nat) (m : List (List Int)) (i j : Int) (w : World) (hm : SM w A n c m) :
    Calls Try.prog 24 #[.slice A n c, .int .i64 i, .int .i64 j] w fun e w' => e = .returned (.tuple #[.int .i64 (prodV m i j), .int .i64 (namedE m [i, j])]) ∧ Below w.heap.size w w' := by
  have hb0 := below_alloc w
  have hs := fun t => SI.new2 w t i j
  by_cases hE : namedE m [i, j] = 0
  · obtain ⟨hM, ⟨h0, h1⟩, h2, h3⟩ := named2 hE
    have hR : prodV m i j = wdot 0 (colL m i.toNat) (colL m j.toNat) := by unfold prodV; rw [if_pos hE]
    rw [hR, hE]
    clear hR
    go_enter Try.func24, Try.ntmps24
    go_wp2_with (go_at_call 70; refine (rnamed_any A _ n c 2 2 m [i, j] _ (hm.below (hb0 _)) (hs _)).mono ?_; rintro e w1 ⟨rfl, rfl⟩)
    refine (rcolumn_int A n c m i _ (hm.below (hb0 _)) hM h0 h1).mono ?_
    rintro e w2 ⟨A2, c2, rfl, hown2, hb2⟩
    have hbw2 := step_trans (hb0 _) hb2
    go_wp2_with fail
    refine (rcolumn_int A n c m j _ (hm.below hbw2) hM h2 h3).mono ?_
    rintro e w3 ⟨A3, c3, rfl, hown3, hb3⟩
    have hbw3 := step_trans hbw2 hb3
    go_wp2_with fail
    refine (dot_b A2 A3 n n c2 c3 _ _ _ ((own_SI hown2).below hb3) (own_SI hown3) (Nat.le_refl _)).mono ?_
    rintro e w4 ⟨rfl, hb4⟩
    go_wp2
    go_ret2
    exact ⟨rfl, step_trans hbw3 hb4⟩
  · have hR : prodV m i j = 0 := by unfold prodV; rw [if_neg hE]
    rw [hR]
    have he : (namedE m [i, j] != 0) = true := by simp [hE]
    have he2 : (namedE m [i, j] == 0) = false := by simp [hE]
    clear hR
    go_enter Try.func24, Try.ntmps24
    go_wp2_with (go_at_call 70; refine (rnamed_any A _ n c 2 2 m [i, j] _ (hm.below (hb0 _)) (hs _)).mono ?_; rintro e w1 ⟨rfl, rfl⟩)
    go_ret2
    exact ⟨rfl, hb0 _⟩

set_option maxHeartbeats 400000 in
theorem rrows_any (A : Option Addr) (n c : Nat) (m : List (List Int)) (w : World) (hm : SM w A n c m) :
    Calls Try.prog 29 #[.slice A n c] w fun e w' => e = .returned (.tuple #[.int .i64 (rowsV m), .int .i64 (validE m)]) ∧ w = w' := by
  have hl := hidx hm.len
  have hn := hm.nmax
  cases hv : validB m with
  | true =>
    rw [show rowsV m = n by unfold rowsV; rw [hv, hl.out]; rfl, show validE m = 0 by unfold validE; rw [hv]; rfl]
    go_enter Try.func29, Try.ntmps29
    go_wp2_with (go_at_call 13; refine (rvalid_any A n c m _ hm).mono ?_; rintro e w1 ⟨rfl, rfl⟩)
    go_ret2
    exact ⟨rfl, rfl⟩
  | false =>
    rw [show rowsV m = 0 by unfold rowsV; rw [hv]; rfl, show validE m = 1 by unfold validE; rw [hv]; rfl]
    go_enter Try.func29, Try.ntmps29
    go_wp2_with (go_at_call 13; refine (rvalid_any A n c m _ hm).mono ?_; rintro e w1 ⟨rfl, rfl⟩)
    go_ret2
    exact ⟨rfl, rfl⟩

set_option maxHeartbeats 400000 in
theorem rpixels_any (A : Option Addr) (n c : Nat) (m : List (List Int)) (w : World) (hm : SM w A n c m) :
    Calls Try.prog 31 #[.slice A n c] w fun e w' => e = .returned (.tuple #[.int .i64 (pixV m), .int .i64 (validE m)]) ∧ w = w' := by
  cases hv : validB m with
  | true =>
    rw [show pixV m = (nthL m 0).length by unfold pixV; rw [hv]; rfl, show validE m = 0 by unfold validE; rw [hv]; rfl]
    have hn : 0 < n := by have := (IsMask.of hv).rows1; have := hm.len; omega
    have hp := (IsMask.of hv).pix10
    have hm' := hm
    obtain ⟨ad, rfl, hca⟩ := hm.at_ hn
    obtain ⟨A0, c0, h0, _⟩ := hca 0 hn
    rw [add_zero] at h0
    clear hca
    go_enter Try.func31, Try.ntmps31
    go_wp2_with (go_at_call 13; refine (rvalid_any _ n c m _ hm').mono ?_; rintro e w1 ⟨rfl, rfl⟩)
    go_ret2
    exact ⟨rfl, rfl⟩
  | false =>
    rw [show pixV m = 0 by unfold pixV; rw [hv]; rfl, show validE m = 1 by unfold validE; rw [hv]; rfl]
    go_enter Try.func31, Try.ntmps31
    go_wp2_with (go_at_call 13; refine (rvalid_any A n c m _ hm).mono ?_; rintro e w1 ⟨rfl, rfl⟩)
    go_ret2
    exact ⟨rfl, rfl⟩

set_option maxHeartbeats 1000000 in
theorem rback_any (A X : Option Addr) (n c k d : Nat) (m : List (List Int)) (x : List Int) (w : World) (hm : SM w A n c m) (hx : SI w X k d x) :
    Calls Try.prog 35 #[.slice A n c, .slice X k d] w fun e w' => ∃ A' c', e = .returned (.tuple #[.slice A' (backR m x).length c', .int .i64 (backE m x)]) ∧
      w'.ownsRow w.heap.size 3 1 (.slice A' (backR m x).length c') (backR m x).length (ints (backR m x)) ∧ Below w.heap.size w w' := by
  have hmn := hm.nmax
  cases hv : validB m with
  | false =>
    have hE : backE m x = 1 := by unfold backE listE; rw [hv]; rfl
    have hR : backR m x = [] := by unfold backR; rw [hE]; rfl
    rw [hR, hE]
    clear hE hR
    go_enter Try.func35, Try.ntmps35
    go_wp2_with (go_at_call 13; refine (rvalid_any _ _ _ _ _ hm).mono ?_; rintro e w1 ⟨rfl, rfl⟩)
    go_ret2
    exact ⟨none, 0, rfl, World.ownsRow_nil _ _ _ _, Below.refl _ _⟩
  | true =>
    have hE : backE m x = listedE m.length 1000000000 x := by unfold backE listE; rw [hv]; rfl
    obtain rfl := hm.len
    by_cases hE0 : listedE m.length 1000000000 x = 0
    · obtain ⟨hM, hlen, hbd⟩ := back_mask (hE.trans hE0)
      have hR : backR m x = backL m x (nthL m 0).length := by unfold backR; rw [hE, if_pos hE0]
      rw [hR, backL_len, hE]
      have hr1 := hM.rows1
      have hp1 := hM.pix1
      have hp10 := hM.pix10
      have hl := hidx (hlen.symm.trans hx.len)
      have HE := hidx hE0
      clear hR hlen hbd hE
      have hm' := hm
      obtain ⟨ad, rfl, hca⟩ := hm.at_ (by omega)
      obtain ⟨A0, c0, h0, _⟩ := hca 0 (by omega)
      rw [add_zero] at h0
      clear hca
      go_enter Try.func35, Try.ntmps35
      go_wp2_with (first
        | (go_at_call 13; refine (rvalid_any _ _ _ _ _ hm').mono ?_; rintro e w1 ⟨rfl, rfl⟩)
        | (go_at_call 63; refine (rlisted_any X k d x _ _ _ hx (by omega) (by omega)).mono ?_; rintro e w1 ⟨rfl, rfl⟩))
      clear hE0 h0
      go_loopw [7, 8, 23] (fun s _ i wr => ∃ (j : Nat) (A' : Option Addr) (c' : Nat), j ≤ (nthL m 0).length ∧ i = .int .i64 j ∧ s = .slice A' j c' ∧ wr.ownsRow w.heap.size 3 1 (.slice A' j c') j (ints (backL m x j)) ∧ Below w.heap.size w wr) (fun _ _ i _ => (nthL m 0).length - (intOf i).toNat)
      case atStart => exact ⟨0, none, 0, Nat.zero_le _, rfl, rfl, World.ownsRow_nil _ _ _ _, Below.refl _ _⟩
      case round =>
        obtain ⟨j, A', c', hj, rfl, rfl, hown, hb⟩ := hrel
        by_cases hlt : j < (nthL m 0).length
        · have HS := hidx (backL_snoc m x j)
          have hcol := fun W h => rcolumn_any (some ad) m.length c m j W h (fun i hi => by rw [hM.each i hi]; exact hlt) (by have := hM.rows6; omega)
          have hxj := hx.below hb
          have hmj := hm'.below hb
          clear hm hm' hx
          go_wp2_with (first
            | (go_at_call 71; refine (hcol _ hmj).mono ?_; rintro e w2 ⟨A1, c1, rfl, hown1, hb2⟩; have hown2 := own_below hown hb2; have hb3 := step_trans hb hb2; have hx2 := hxj.below hb2; clear hown hb)
            | (go_at_call 19; refine (dot_b A1 X _ _ c1 d (colL m j) x _ (own_SI hown1) hx2 (by have := hl.out; omega)).mono ?_; rintro e w3 ⟨rfl, hb4⟩; have hown3 := own_below hown2 hb4; have hb5 := step_trans hb3 hb4; clear hown2 hb3)
            | (at_builtin; refine app1 eltI rfl rfl _ _ rfl rfl rfl hown3 hb5 (Nat.le_refl _) rfl (by omega) (by omega) ?_; intro A2 c2 w4 hown4 hb6 _ hc2 hc2'))
          go_roundw
          case rel => exact ⟨j + 1, _, _, by omega, by go_num, rfl, by rw [HS.out, ← ints_snoc]; exact hown4, hb6⟩
          case measure => simp [intOf]; omega
        · have hjj : j = (nthL m 0).length := by omega
          subst hjj
          go_wp2
          go_ret2
          exact ⟨_, _, ret2_i64 HE.out.symm, hown, hb⟩
    · have hR : backR m x = [] := by unfold backR; rw [hE, if_neg hE0]
      rw [hR, hE]
      have he : (listedE m.length 1000000000 x != 0) = true := by simp [hE0]
      have he2 : (listedE m.length 1000000000 x == 0) = false := by simp [hE0]
      clear hR hE
      go_enter Try.func35, Try.ntmps35
      go_wp2_with (first
        | (go_at_call 13; refine (rvalid_any _ _ _ _ _ hm).mono ?_; rintro e w1 ⟨rfl, rfl⟩)
        | (go_at_call 63; refine (rlisted_any X k d x _ _ _ hx (by omega) (by omega)).mono ?_; rintro e w1 ⟨rfl, rfl⟩))
      go_ret2
      exact ⟨none, 0, rfl, World.ownsRow_nil _ _ _ _, Below.refl _ _⟩

/-! ### the law's own helpers: they answer some bool -/
def longB (l : List (List Int)) : Bool := l.any fun x => decide ((200:Int) < x.length)
set_option maxHeartbeats 400000 in
theorem long_any (A : Option Addr) (n c : Nat) (l : List (List Int)) (w : World) (h : SM w A n c l) :
    Calls Try.prog 15 #[.slice A n c] w fun e w' => e = .returned (.bool (longB l)) ∧ w = w' := by
  obtain rfl := h.len
  have hmx := h.nmax
  go_enter Try.func15, Try.ntmps15
  go_wp2
  go_loop [4, 7] (fun _ i => ∃ k : Nat, k ≤ l.length ∧ i = .int .i64 k ∧ Hid (∀ j, j < k → ¬ (200:Int) < (nthL l j).length)) (fun _ i => l.length - (intOf i).toNat)
  case atStart => exact ⟨0, Nat.zero_le _, rfl, fun j hj => absurd hj (Nat.not_lt_zero _)⟩
  case round =>
    obtain ⟨k, hk, rfl, hall⟩ := hrel
    by_cases hlt : k < l.length
    · obtain ⟨ad, rfl, hca⟩ := h.at_ (by omega)
      obtain ⟨A1, c1, h1, h2⟩ := hca k hlt
      have hm1 := h2.nmax
      clear hca h h2
      by_cases hq : (200:Int) < (nthL l k).length
      · go_wp2
        go_ret
        have Hq := hq
        exact ⟨ret_bool (List.any_eq_true.2 ⟨nthL l k, by rw [nthL_eq l k hlt]; exact List.getElem_mem _, by simpa using Hq⟩).symm, rfl⟩
      · go_wp2
        go_round
        case rel =>
          refine ⟨k + 1, by omega, by go_num, ?_⟩
          intro j hj
          by_cases e : j = k
          · subst e; omega
          · exact hall.out j (by omega)
        case measure => simp [intOf]; omega
    · have hkk : k = l.length := by omega
      subst hkk
      go_wp2
      go_ret
      refine ⟨ret_bool (Eq.symm (List.any_eq_false.2 ?_)), rfl⟩
      intro x hx
      obtain ⟨i, hi, rfl⟩ := List.getElem_of_mem hx
      have := hall.out i hi
      rw [nthL_eq l i hi] at this
      simpa using this

end Go.Proofs.Ytkkmlcengneomaa
