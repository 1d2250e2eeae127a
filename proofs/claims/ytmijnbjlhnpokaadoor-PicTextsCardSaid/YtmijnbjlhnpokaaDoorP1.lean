/- Contracts of pic's and lightsieveref01's within, bounded, all, power, ValidList, Power. No condition. -/
import Derived.Test.YtmijnbjlhnpokaaDoorPFun
namespace Go.Proofs.YtmijnbjlhnpokaaDoor
open Go.RowKit Ls
set_option maxHeartbeats 400000 in
theorem pwithin_any (n lo hi : Int) (w : World) :
    Calls Tryd.prog 35 #[.int .i64 n, .int .i64 lo, .int .i64 hi] w fun e w' => e = .returned (.bool (inB n lo hi)) /\ w = w' := by
  by_cases h1 : lo <= n
  · by_cases h2 : n <= hi
    · go_enter Tryd.func35, Tryd.ntmps35
      go_wp2
      go_ret
      exact ⟨ret_bool (by simp [inB, h1, h2]), rfl⟩
    · go_enter Tryd.func35, Tryd.ntmps35
      go_wp2
      go_ret
      exact ⟨ret_bool (by simp [inB, h1, h2]), rfl⟩
  · go_enter Tryd.func35, Tryd.ntmps35
    go_wp2
    go_ret
    exact ⟨ret_bool (by simp [inB]; omega), rfl⟩
set_option maxHeartbeats 400000 in
theorem qwithin_any (n lo hi : Int) (w : World) :
    Calls Tryd.prog 25 #[.int .i64 n, .int .i64 lo, .int .i64 hi] w fun e w' => e = .returned (.bool (inB n lo hi)) /\ w = w' := by
  by_cases h1 : lo <= n
  · by_cases h2 : n <= hi
    · go_enter Tryd.func25, Tryd.ntmps25
      go_wp2
      go_ret
      exact ⟨ret_bool (by simp [inB, h1, h2]), rfl⟩
    · go_enter Tryd.func25, Tryd.ntmps25
      go_wp2
      go_ret
      exact ⟨ret_bool (by simp [inB, h1, h2]), rfl⟩
  · go_enter Tryd.func25, Tryd.ntmps25
    go_wp2
    go_ret
    exact ⟨ret_bool (by simp [inB]; omega), rfl⟩
theorem bounded1_ok (B : Nat) (most : Int) (w : World) (hB : w.cell? ⟨B, 0, none⟩ = some (.int .i64 most)) (h0 : 0 <= most) (h1 : most <= 1000000000) :
    FokI Tryd.prog 54 #[.pointer (some ⟨B, 0, none⟩)] (fun i => !inB i (-most) most) w := by
  refine ⟨(enters_of Tryd.func54 (by kernel_rfl) rfl), fun x W hW => ?_⟩
  have hc := Below.cell_of hW hB
  have hw : IntKind.i64.wrap (-most) = -most := by rw [IntKind.wrap_i64]; omega
  clear hB
  go_enter Tryd.func54, Tryd.ntmps54
  go_wp2_with (go_at_call 35; refine (pwithin_any _ _ _ _).mono ?_; rintro e w1 ⟨rfl, rfl⟩)
  go_ret
  exact ⟨rfl, Below.refl _ _⟩
theorem any_not (most : Int) (zs : List Int) : (!zs.any fun i => !inB i (-most) most) = bndB most zs := by
  unfold bndB
  induction zs with
  | nil => rfl
  | cons a l ih => simp only [List.any_cons, List.all_cons, Bool.not_or, Bool.not_not, ih]
theorem bounded_any (A : Option Addr) (n c : Nat) (zs : List Int) (most : Int) (w : World) (h : SI w A n c zs) (h0 : 0 <= most) (h1 : most <= 1000000000) :
    Calls Tryd.prog 36 #[.slice A n c, .int .i64 most] w fun e w' => e = .returned (.bool (bndB most zs)) /\ Below w.heap.size w w' := by
  rw [<- any_not]
  have hs := h.below (below_alloc w (.cells #[.int .i64 most] 3))
  have hf := bounded1_ok w.heap.size most (w.alloc (.cells #[.int .i64 most] 3)) (by simp) h0 h1
  have HF := hidx hf
  clear hf
  go_enter Tryd.func36, Tryd.ntmps36
  go_wp2_with (go_at_call 53; refine (containsFuncI A n c _ _ _ zs _ hs HF.out).mono ?_; rintro e w1 ⟨rfl, hb1⟩)
  go_ret
  exact ⟨rfl, step_trans (below_alloc _ _) hb1⟩
set_option maxHeartbeats 400000 in
theorem rall_any (X : Option Addr) (k d : Nat) (x : List Int) (most : Int) (w : World) (hx : SI w X k d x) (h0 : 0 <= most) (h1 : most <= 1000000000) :
    Calls Tryd.prog 22 #[.slice X k d, .int .i64 most] w fun e w' => e = .returned (.bool (bndB most x)) /\ w = w' := by
  obtain rfl := hx.len
  have hmx := hx.nmax
  go_enter Tryd.func22, Tryd.ntmps22
  go_wp2
  go_loop [6, 9] (fun _ i => ∃ k : Nat, k <= x.length /\ i = .int .i64 k /\ Hid (∀ j, j < k -> inB (nth x j) (-most) most = true)) (fun _ i => x.length - (intOf i).toNat)
  case atStart => exact ⟨0, Nat.zero_le _, rfl, fun j hj => absurd hj (Nat.not_lt_zero _)⟩
  case round =>
    obtain ⟨k, hk, rfl, hall⟩ := hrel
    by_cases hlt : k < x.length
    · obtain ⟨ad, rfl, hca⟩ := hx.at_ (by omega)
      have h2 := hca k hlt
      clear hca hx
      cases hq : inB (nth x k) (-most) most with
      | true =>
        have Hq := hidx hq
        go_wp2_with (go_at_call 25; refine (qwithin_any _ _ _ _).mono ?_; rintro e w1 ⟨rfl, rfl⟩)
        go_round
        case rel =>
          refine ⟨k + 1, by omega, by go_num, ?_⟩
          intro j hj
          by_cases e : j = k
          · subst e; exact Hq.out
          · exact hall.out j (by omega)
        case measure => simp [intOf]; omega
      | false =>
        have Hf := hidx hq
        go_wp2_with (go_at_call 25; refine (qwithin_any _ _ _ _).mono ?_; rintro e w1 ⟨rfl, rfl⟩)
        go_ret
        exact ⟨ret_bool (by unfold bndB; rw [not_all_of (p := fun n => inB n (-most) most) k hlt Hf.out]), rfl⟩
    · have hkk : k = x.length := by omega
      subst hkk
      go_wp2
      go_ret
      exact ⟨ret_bool (by unfold bndB; rw [all_of_nth (p := fun n => inB n (-most) most) hall.out]), rfl⟩
theorem power_any (n : Int) (w : World) :
    Calls Tryd.prog 41 #[.int .i64 n] w fun e w' => e = .returned (.bool (powB n)) /\ w = w' := by
  have wi := fun W => pwithin_any n 1 256 W
  unfold powB
  cases hq : inB n 1 256 with
  | false =>
    rw [hq] at wi
    have Wi := hidx wi
    clear wi hq
    go_enter Tryd.func41, Tryd.ntmps41
    go_wp2_with (go_at_call 35; refine (Wi.out _).mono ?_; rintro e w1 ⟨rfl, rfl⟩)
    go_ret
    exact ⟨rfl, rfl⟩
  | true =>
    rw [hq] at wi
    have Wi := hidx wi
    rw [inB_iff] at hq
    obtain ⟨m, rfl⟩ := Int.eq_ofNat_of_zero_le (show 0 <= n by omega)
    have hon := fun W => ones_any m W (by omega)
    rw [Int.toNat_natCast]
    obtain ⟨o, ho⟩ : ∃ o, o = popc 9 m := ⟨_, rfl⟩
    rw [<- ho] at hon ⊢
    have Hon := hidx hon
    have e1 : IntKind.u64.wrap (m : Int) = m := by rw [IntKind.wrap_u64]; omega
    have hm : m <= 256 := by omega
    clear wi hq hon ho
    go_enter Tryd.func41, Tryd.ntmps41
    go_wp2_with (first | (go_at_call 35; refine (Wi.out _).mono ?_; rintro e w1 ⟨rfl, rfl⟩) | (go_at_call 58; refine (Hon.out _).mono ?_; rintro e w1 ⟨rfl, rfl⟩))
    go_ret
    exact ⟨ret_bool (by rw [Bool.true_and, Bool.eq_iff_iff]; simp; omega), rfl⟩
theorem validList_any (A : Option Addr) (n c : Nat) (zs : List Int) (w : World) (h : SI w A n c zs) :
    Calls Tryd.prog 40 #[.slice A n c] w fun e w' => e = .returned (.bool (vlistB zs)) /\ Below w.heap.size w w' := by
  have hl := hidx h.len
  have hmx := h.nmax
  have wi := fun W => pwithin_any n 1 256 W
  unfold vlistB
  rw [hl.out]
  cases hq : inB n 1 256 with
  | false =>
    rw [hq] at wi
    have Wi := hidx wi
    clear wi hq
    go_enter Tryd.func40, Tryd.ntmps40
    go_wp2_with (go_at_call 35; refine (Wi.out _).mono ?_; rintro e w1 ⟨rfl, rfl⟩)
    go_ret
    exact ⟨rfl, Below.refl _ _⟩
  | true =>
    rw [hq] at wi
    have Wi := hidx wi
    clear wi hq
    go_enter Tryd.func40, Tryd.ntmps40
    go_wp2_with (first | (go_at_call 35; refine (Wi.out _).mono ?_; rintro e w1 ⟨rfl, rfl⟩) | (go_at_call 36; refine (bounded_any A n c zs _ _ h (by omega) (by omega)).mono ?_; rintro e w1 ⟨rfl, hb1⟩))
    go_ret
    exact ⟨rfl, hb1⟩
theorem Power_any (A : Option Addr) (n c : Nat) (zs : List Int) (w : World) (h : SI w A n c zs) :
    Calls Tryd.prog 26 #[.slice A n c] w fun e w' => e = .returned (.bool (powerB zs)) /\ Below w.heap.size w w' := by
  have hl := hidx h.len
  have hmx := h.nmax
  have vl := fun W h => validList_any A n c zs W h
  unfold powerB
  rw [hl.out]
  cases hq : vlistB zs with
  | false =>
    rw [hq] at vl
    have Vl := hidx vl
    clear vl hq
    go_enter Tryd.func26, Tryd.ntmps26
    go_wp2_with (go_at_call 40; refine (Vl.out _ h).mono ?_; rintro e w1 ⟨rfl, hb1⟩)
    go_ret
    exact ⟨rfl, hb1⟩
  | true =>
    rw [hq] at vl
    have Vl := hidx vl
    clear vl hq
    go_enter Tryd.func26, Tryd.ntmps26
    go_wp2_with (first | (go_at_call 40; refine (Vl.out _ h).mono ?_; rintro e w1 ⟨rfl, hb1⟩) | (go_at_call 41; refine (power_any _ _).mono ?_; rintro e w2 ⟨rfl, rfl⟩))
    go_ret
    exact ⟨rfl, hb1⟩
end Go.Proofs.YtmijnbjlhnpokaaDoor
