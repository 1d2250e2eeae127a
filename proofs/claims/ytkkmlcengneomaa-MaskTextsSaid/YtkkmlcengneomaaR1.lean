/- Contracts of lightsieveref02's within, row, Valid, listed, Shown, column, Dot, Read, Back, named, Column, Product, of lightsieveref01.SameInts and of the law's long and Small. No condition. -/
import Derived.Test.YtkkmlcengneomaaProg
import Derived.Test.YtkkmlcengneomaaM1
namespace Go.Proofs.Ytkkmlcengneomaa
open Go.RowKit Ls

set_option maxHeartbeats 400000 in
theorem rwithin_any (n lo hi : Int) (w : World) :
    Calls Try.prog 62 #[.int .i64 n, .int .i64 lo, .int .i64 hi] w fun e w' => e = .returned (.bool (inB n lo hi)) ∧ w = w' := by
  by_cases h1 : lo ≤ n
  · by_cases h2 : n ≤ hi
    · go_enter Try.func62, Try.ntmps62
      go_wp2
      go_ret
      exact ⟨ret_bool (by simp [inB, h1, h2]), rfl⟩
    · go_enter Try.func62, Try.ntmps62
      go_wp2
      go_ret
      exact ⟨ret_bool (by simp [inB, h1, h2]), rfl⟩
  · go_enter Try.func62, Try.ntmps62
    go_wp2
    go_ret
    exact ⟨ret_bool (by simp [inB]; omega), rfl⟩

theorem dot_b (A B : Option Addr) (n m c d : Nat) (xs ys : List Int) (w : World)
    (ha : SI w A n c xs) (hb : SI w B m d ys) (hnm : n ≤ m) :
    Calls Try.prog 19 #[.slice A n c, .slice B m d] w fun e w' => e = .returned (.int .i64 (wdot 0 xs ys)) ∧ Below w.heap.size w w' :=
  (dot_any A B n m c d xs ys w ha hb hnm).mono fun _ _ ⟨h1, q, h2⟩ => ⟨h1, h2 ▸ below_drewN (Below.refl _ w) q⟩

set_option maxHeartbeats 400000 in
theorem rrow_any (A : Option Addr) (n c : Nat) (zs : List Int) (w : World) (h : SI w A n c zs) :
    Calls Try.prog 61 #[.slice A n c] w fun e w' => e = .returned (.bool (rowB zs)) ∧ w = w' := by
  obtain rfl := h.len
  have hmx := h.nmax
  go_enter Try.func61, Try.ntmps61
  go_wp2
  go_loop [4, 7] (fun _ i => ∃ k : Nat, k ≤ zs.length ∧ i = .int .i64 k ∧ Hid (∀ j, j < k → inB (nth zs j) (-1) 1 = true)) (fun _ i => zs.length - (intOf i).toNat)
  case atStart => exact ⟨0, Nat.zero_le _, rfl, fun j hj => absurd hj (Nat.not_lt_zero _)⟩
  case round =>
    obtain ⟨k, hk, rfl, hall⟩ := hrel
    by_cases hlt : k < zs.length
    · obtain ⟨ad, rfl, hca⟩ := h.at_ (by omega)
      have h1 := hca k hlt
      clear hca h
      cases hq : inB (nth zs k) (-1) 1 with
      | true =>
        have Hq := hidx hq
        go_wp2_with (go_at_call 62; refine (rwithin_any _ _ _ _).mono ?_; rintro e w1 ⟨rfl, rfl⟩)
        go_round
        case rel =>
          refine ⟨k + 1, by omega, by go_num, ?_⟩
          intro j hj
          by_cases e : j = k
          · subst e; exact Hq.out
          · exact hall.out j (by omega)
        case measure => simp [intOf]; omega
      | false =>
        have Hq := hidx hq
        go_wp2_with (go_at_call 62; refine (rwithin_any _ _ _ _).mono ?_; rintro e w1 ⟨rfl, rfl⟩)
        go_ret
        exact ⟨ret_bool (by unfold rowB; rw [not_all_of (p := fun n => inB n (-1) 1) k hlt Hq.out]; simp), rfl⟩
    · have hkk : k = zs.length := by omega
      subst hkk
      go_wp2_with (go_at_call 62; refine (rwithin_any _ _ _ _).mono ?_; rintro e w1 ⟨rfl, rfl⟩)
      go_ret
      exact ⟨ret_bool (by unfold rowB; rw [all_of_nth (p := fun n => inB n (-1) 1) hall.out]; simp), rfl⟩

set_option maxHeartbeats 400000 in
theorem rvalid_any (A : Option Addr) (n c : Nat) (m : List (List Int)) (w : World) (h : SM w A n c m) :
    Calls Try.prog 13 #[.slice A n c] w fun e w' => e = .returned (.bool (validB m)) ∧ w = w' := by
  obtain rfl := h.len
  have hmx := h.nmax
  go_enter Try.func13, Try.ntmps13
  go_wp2
  go_loop [4, 7] (fun _ i => ∃ k : Nat, k ≤ m.length ∧ i = .int .i64 k ∧ Hid (∀ j, j < k → fitB m (nthL m j) = true)) (fun _ i => m.length - (intOf i).toNat)
  case atStart => exact ⟨0, Nat.zero_le _, rfl, fun j hj => absurd hj (Nat.not_lt_zero _)⟩
  case round =>
    obtain ⟨k, hk, rfl, hall⟩ := hrel
    by_cases hlt : k < m.length
    · obtain ⟨ad, rfl, hca⟩ := h.at_ (by omega)
      obtain ⟨A1, c1, h1, h2⟩ := hca k hlt
      obtain ⟨A2, c2, h3, h4⟩ := hca 0 (by omega)
      rw [add_zero] at h3
      have hm1 := h2.nmax
      have hm2 := h4.nmax
      clear hca h h4
      cases hq : rowB (nthL m k) with
      | true =>
        have Hq := hidx hq
        by_cases hl : ((nthL m k).length : Int) = ((nthL m 0).length : Int)
        · have hfit : fitB m (nthL m k) = true := by
            unfold fitB; rw [hq]; simp; omega
          have Hf := hidx hfit
          clear hfit
          have hl1 : (((nthL m k).length : Int) != ((nthL m 0).length : Int)) = false := by simp; omega
          have Hl := hidx hl
          clear hl
          go_wp2_with (go_at_call 61; refine (rrow_any _ _ _ _ _ h2).mono ?_; rintro e w1 ⟨rfl, rfl⟩)
          go_round
          case rel =>
            refine ⟨k + 1, by omega, by go_num, ?_⟩
            intro j hj
            by_cases e : j = k
            · subst e; exact Hf.out
            · exact hall.out j (by omega)
          case measure => simp [intOf]; omega
        · have hfit : fitB m (nthL m k) = false := by
            unfold fitB; rw [hq]; simp; omega
          have Hf := hidx hfit
          clear hfit
          have hl1 : (((nthL m k).length : Int) != ((nthL m 0).length : Int)) = true := by simp; omega
          go_wp2_with (go_at_call 61; refine (rrow_any _ _ _ _ _ h2).mono ?_; rintro e w1 ⟨rfl, rfl⟩)
          go_ret
          exact ⟨ret_bool (by unfold validB; rw [not_all_ofL k hlt Hf.out]; simp), rfl⟩
      | false =>
        have hfit : fitB m (nthL m k) = false := by
          unfold fitB; rw [hq]; simp
        have Hf := hidx hfit
        clear hfit
        go_wp2_with (go_at_call 61; refine (rrow_any _ _ _ _ _ h2).mono ?_; rintro e w1 ⟨rfl, rfl⟩)
        go_ret
        exact ⟨ret_bool (by unfold validB; rw [not_all_ofL k hlt Hf.out]; simp), rfl⟩
    · have hkk : k = m.length := by omega
      subst hkk
      go_wp2_with (go_at_call 62; refine (rwithin_any _ _ _ _).mono ?_; rintro e w1 ⟨rfl, rfl⟩)
      go_ret
      exact ⟨ret_bool (by unfold validB; rw [all_of_nthL hall.out]; simp), rfl⟩

set_option maxHeartbeats 400000 in
theorem rlisted_any (X : Option Addr) (k d : Nat) (x : List Int) (len most : Int) (w : World) (hx : SI w X k d x) (hm1 : -9223372036854775807 ≤ most) (hm2 : most ≤ 9223372036854775807) :
    Calls Try.prog 63 #[.slice X k d, .int .i64 len, .int .i64 most] w fun e w' => e = .returned (.int .i64 (listedE len most x)) ∧ w = w' := by
  obtain rfl := hx.len
  have hmx := hx.nmax
  by_cases hq : (x.length : Int) = len
  · have hq1 : ((x.length : Int) != len) = false := by simp [hq]
    have Hq := hidx hq
    clear hq
    go_enter Try.func63, Try.ntmps63
    go_wp2
    go_loop [8, 15] (fun _ i => ∃ k : Nat, k ≤ x.length ∧ i = .int .i64 k ∧ Hid (∀ j, j < k → inB (nth x j) (-most) most = true)) (fun _ i => x.length - (intOf i).toNat)
    case atStart => exact ⟨0, Nat.zero_le _, rfl, fun j hj => absurd hj (Nat.not_lt_zero _)⟩
    case round =>
      obtain ⟨k, hk, rfl, hall⟩ := hrel
      by_cases hlt : k < x.length
      · obtain ⟨ad, rfl, hca⟩ := hx.at_ (by omega)
        have h1 := hca k hlt
        clear hca hx
        cases hq : inB (nth x k) (-most) most with
        | true =>
          have Hq := hidx hq
          go_wp2_with (go_at_call 62; refine (rwithin_any _ _ _ _).mono ?_; rintro e w1 ⟨rfl, rfl⟩)
          go_round
          case rel =>
            refine ⟨k + 1, by omega, by go_num, ?_⟩
            intro j hj
            by_cases e : j = k
            · subst e; exact Hq.out
            · exact hall.out j (by omega)
          case measure => simp [intOf]; omega
        | false =>
          have Hf := hidx hq
          go_wp2_with (go_at_call 62; refine (rwithin_any _ _ _ _).mono ?_; rintro e w1 ⟨rfl, rfl⟩)
          go_ret
          exact ⟨ret_i64 (by unfold listedE; rw [if_neg (by have := Hq.out; omega), not_all_of (p := fun n => inB n (-most) most) k hlt Hf.out]; simp), rfl⟩
      · have hkk : k = x.length := by omega
        subst hkk
        go_wp2
        go_ret
        exact ⟨ret_i64 (by unfold listedE; rw [if_neg (by have := Hq.out; omega), all_of_nth (p := fun n => inB n (-most) most) hall.out]; simp), rfl⟩
  · have hq1 : ((x.length : Int) != len) = true := by simp [hq]
    have Hq := hidx hq
    clear hq
    go_enter Try.func63, Try.ntmps63
    go_wp2
    go_ret
    exact ⟨ret_i64 (by unfold listedE; rw [if_pos (by have := Hq.out; omega)]), rfl⟩

set_option maxHeartbeats 400000 in
theorem rshown_any (A X : Option Addr) (n c k d : Nat) (m : List (List Int)) (x : List Int) (w : World) (hm : SM w A n c m) (hx : SI w X k d x) :
    Calls Try.prog 14 #[.slice A n c, .slice X k d] w fun e w' => e = .returned (.bool (shownE m x == 0)) ∧ w = w' := by
  unfold shownE listE
  cases hv : validB m with
  | true =>
    have hM := IsMask.of hv
    have hn := hM.rows1
    have hl := hm.len
    obtain ⟨ad, rfl, hca⟩ := hm.at_ (by omega)
    obtain ⟨A2, c2, h3, h4⟩ := hca 0 (by omega)
    rw [add_zero] at h3
    clear hca h4 hM
    have Hl := hidx hl
    have hn' : 0 < n := by omega
    clear hl hn
    go_enter Try.func14, Try.ntmps14
    go_wp2_with (first
      | (go_at_call 13; refine (rvalid_any _ _ _ _ _ hm).mono ?_; rintro e w1 ⟨rfl, rfl⟩)
      | (go_at_call 63; refine (rlisted_any X k d x _ _ _ hx (by omega) (by omega)).mono ?_; rintro e w1 ⟨rfl, rfl⟩))
    go_ret
    exact ⟨ret_bool (by simp), rfl⟩
  | false =>
    go_enter Try.func14, Try.ntmps14
    go_wp2_with (go_at_call 13; refine (rvalid_any _ _ _ _ _ hm).mono ?_; rintro e w1 ⟨rfl, rfl⟩)
    go_ret
    exact ⟨ret_bool (by simp), rfl⟩

set_option maxHeartbeats 400000 in
theorem same_any (A B : Option Addr) (n m c d : Nat) (xs ys : List Int) (w : World) (ha : SI w A n c xs) (hb : SI w B m d ys) :
    Calls Try.prog 27 #[.slice A n c, .slice B m d] w fun e w' => e = .returned (.bool (sameB xs ys)) ∧ Below w.heap.size w w' := by
  have hn := ha.nmax; have hm := hb.nmax
  obtain rfl := ha.len; obtain rfl := hb.len
  by_cases hq : (xs.length : Int) = (ys.length : Int)
  · have hq1 : ((xs.length : Int) != (ys.length : Int)) = false := by simp; omega
    have Hq := hidx hq
    have hle : xs.length ≤ ys.length := by omega
    clear hq
    go_enter Try.func27, Try.ntmps27
    go_wp2
    go_loopw [5, 13] (fun _ i wr => ∃ k : Nat, k ≤ xs.length ∧ i = .int .i64 k ∧ Hid (∀ j, j < k → nth xs j = nth ys j) ∧ Below w.heap.size w wr) (fun _ i _ => xs.length - (intOf i).toNat)
    case atStart => exact ⟨0, Nat.zero_le _, rfl, fun j hj => absurd hj (Nat.not_lt_zero _), Below.refl _ _⟩
    case round =>
      obtain ⟨k, hk, rfl, hall, hbw⟩ := hrel
      by_cases hlt : k < xs.length
      · obtain ⟨ad, rfl, hca⟩ := (ha.below hbw).at_ (by omega)
        obtain ⟨bd, rfl, hcb⟩ := (hb.below hbw).at_ (by omega)
        have h1 := hca k hlt
        have h2 := hcb k (by omega)
        clear hca hcb ha hb
        have h3 : (0:Int) ≤ k := by omega
        have h4 : (k:Int) < xs.length := by omega
        have h5 : (k:Int) < ys.length := by omega
        by_cases he : nth xs k = nth ys k
        · have he1 : (nth xs k != nth ys k) = false := by simp [he]
          have He := hidx he
          clear he
          go_wp2
          go_quiet (fail)
          go_wp2
          go_roundw
          case rel =>
            refine ⟨k + 1, by omega, by go_num, ?_, below_drewN hbw _⟩
            intro j hj
            by_cases e : j = k
            · subst e; exact He.out
            · exact hall.out j (by omega)
          case measure => simp [intOf]; omega
        · have he1 : (nth xs k != nth ys k) = true := by simp [he]
          have He := hidx he
          clear he
          go_wp2
          go_quiet (fail)
          go_wp2
          go_ret
          exact ⟨ret_bool (by unfold sameB; exact (decide_eq_false (fun e => He.out (by rw [e]))).symm), below_drewN hbw _⟩
      · have hkk : k = xs.length := by omega
        subst hkk
        go_wp2
        go_ret
        exact ⟨ret_bool (by unfold sameB; exact (decide_eq_true (same_of (by have := Hq.out; omega) hall.out)).symm), hbw⟩
  · have hq1 : ((xs.length : Int) != (ys.length : Int)) = true := by simp; omega
    have Hq := hidx hq
    clear hq
    go_enter Try.func27, Try.ntmps27
    go_wp2
    go_ret
    exact ⟨ret_bool (by unfold sameB; exact (decide_eq_false (fun e => Hq.out (by rw [e]))).symm), Below.refl _ _⟩

end Go.Proofs.Ytkkmlcengneomaa
