/- Contracts of mask's ascending, lightsieveref02's Ascending and picked. No condition. -/
import Derived.Test.YtkkmlcengneomaaMSpec3
import Derived.Test.YtkkmlcengneomaaR3
import Derived.Test.YtkkmlcengneomaaOwn
namespace Go.Proofs.Ytkkmlcengneomaa
open Go.RowKit Ls

set_option maxHeartbeats 1000000 in
theorem ascending_any (X : Option Addr) (k d : Nat) (l : List Int) (w : World) (hl : SI w X k d l) :
    Calls Try.prog 87 #[.slice X k d] w fun e w' => e = .returned (.bool (ascB l)) ∧ w = w' := by
  have hmx := hl.nmax
  have hlen := hidx hl.len
  go_enter Try.func87, Try.ntmps87
  go_wp2
  go_loop [3, 4, 7] (fun _ _ i => ∃ q : Nat, q ≤ k ∧ i = .int .i64 q ∧ Hid (∀ j, j < q → 0 < j → nth l (j - 1) < nth l j)) (fun _ _ i => k - (intOf i).toNat)
  case atStart => exact ⟨0, Nat.zero_le _, rfl, fun j hj => absurd hj (Nat.not_lt_zero _)⟩
  case round =>
    obtain ⟨q, hq, rfl, hall⟩ := hrel
    by_cases hlt : q < k
    · obtain ⟨ad, rfl, hc⟩ := hl.at_ (by omega)
      rcases Nat.eq_zero_or_pos q with hz | hz
      · subst hz
        have h1 := hc 0 hlt
        rw [add_zero] at h1
        clear hc hl
        go_wp2
        go_round
        case rel => exact ⟨1, by omega, by go_num, fun j hj h0 => by omega⟩
        case measure => simp [intOf]; omega
      · obtain ⟨p, rfl⟩ : ∃ p, q = p + 1 := ⟨q - 1, by omega⟩
        have h1 := hc (p + 1) hlt
        rw [show ad.add (p + 1) = ⟨ad.block, ad.off + (p + 1), none⟩ by simp [Addr.add]] at h1
        have h2 := hc p (by omega)
        clear hc hl
        by_cases he : nth l p < nth l (p + 1)
        · have he1 : decide (nth l (p + 1) ≤ nth l p) = false := by simp; omega
          go_wp2
          go_round
          case rel =>
            refine ⟨p + 2, by omega, by go_num, fun j hj h0 => ?_⟩
            by_cases e : j = p + 1
            · subst e; simpa using he
            · exact hall.out j (by omega) h0
          case measure => simp [intOf]; omega
        · have he1 : decide (nth l (p + 1) ≤ nth l p) = true := by simp; omega
          have He := hidx he
          clear he
          go_wp2
          go_ret
          exact ⟨ret_bool (ascB_not (p + 1) (by rw [hlen.out]; exact hlt) (by omega) (by simpa using He.out)).symm, rfl⟩
    · go_wp2
      go_ret
      exact ⟨ret_bool (ascB_iff.2 fun j hj h0 => hall.out j (by rw [hlen.out] at hj; omega) h0).symm, rfl⟩

set_option maxHeartbeats 1000000 in
theorem rAscending_any (X : Option Addr) (k d : Nat) (l : List Int) (w : World) (hl : SI w X k d l) :
    Calls Try.prog 93 #[.slice X k d] w fun e w' => e = .returned (.bool (ascB l)) ∧ Below w.heap.size w w' := by
  have hmx := hl.nmax
  have hlen := hidx hl.len
  go_enter Try.func93, Try.ntmps93
  go_wp2
  go_loopw [3] (fun i wr => ∃ q : Nat, 1 ≤ q ∧ q ≤ k + 1 ∧ i = .int .i64 q ∧ Hid (∀ j, j < q → j < k → 0 < j → nth l (j - 1) < nth l j) ∧ Below w.heap.size w wr) (fun i _ => k + 1 - (intOf i).toNat)
  case atStart => exact ⟨1, by omega, by omega, rfl, fun j hj h1 h0 => by omega, Below.refl _ _⟩
  case round =>
    obtain ⟨q, hq0, hq, rfl, hall, hb⟩ := hrel
    by_cases hlt : q < k
    · obtain ⟨ad, rfl, hc⟩ := (hl.below hb).at_ (by omega)
      obtain ⟨p, rfl⟩ : ∃ p, q = p + 1 := ⟨q - 1, by omega⟩
      have h1 := hc (p + 1) hlt
      rw [show ad.add (p + 1) = ⟨ad.block, ad.off + (p + 1), none⟩ by simp [Addr.add]] at h1
      have h2 := hc p (by omega)
      clear hc hl
      have i1 : (p:Int) + 1 < k := by omega
      have i2 : (p:Int) < k := by omega
      have i3 : (0:Int) ≤ p := by omega
      have i4 : (0:Int) ≤ (p:Int) + 1 := by omega
      by_cases he : nth l p < nth l (p + 1)
      · have he1 : decide (nth l (p + 1) ≤ nth l p) = false := by simp; omega
        have He := hidx he
        clear he
        go_wp2
        go_quiet (fail)
        go_wp2
        go_roundw
        case rel =>
          refine ⟨p + 2, by omega, by omega, by go_num, fun j hj h1 h0 => ?_, below_drewN hb _⟩
          by_cases e : j = p + 1
          · subst e; simpa using He.out
          · exact hall.out j (by omega) h1 h0
        case measure => simp [intOf]; omega
      · have he1 : decide (nth l (p + 1) ≤ nth l p) = true := by simp; omega
        have He := hidx he
        clear he
        go_wp2
        go_quiet (fail)
        go_wp2
        go_ret
        exact ⟨ret_bool (ascB_not (p + 1) (by rw [hlen.out]; exact hlt) (by omega) (by simpa using He.out)).symm, below_drewN hb _⟩
    · go_wp2
      go_ret
      exact ⟨ret_bool (ascB_iff.2 fun j hj h0 => hall.out j (by rw [hlen.out] at hj; omega) (by rw [hlen.out] at hj; exact hj) h0).symm, hb⟩

set_option maxRecDepth 100000 in
set_option maxHeartbeats 2000000 in
theorem rpicked_any (A X : Option Addr) (n c k d : Nat) (m : List (List Int)) (l : List Int) (w : World) (hm : SM w A n c m) (hl : SI w X k d l) (hn : n ≤ 1000) (hk : k ≤ 1000)
    (hin : ∀ i j, i < n → j < k → 0 ≤ nth l j ∧ nth l j < (nthL m i).length) :
    Calls Try.prog 94 #[.slice A n c, .slice X k d] w fun e w' => ∃ A' c', e = .returned (.slice A' n c') ∧ SM w' A' n c' (pickL m l) ∧ Below w.heap.size w w' := by
  have hmn := hm.nmax
  have hln := hl.nmax
  have Hin := hidx hin
  have hml := hidx hm.len
  have hll := hidx hl.len
  clear hin
  go_enter Try.func94, Try.ntmps94
  go_wp2
  go_loopw [5, 7, 8, 10, 13] (fun s _ _ _ i wr => ∃ (q : Nat) (A' : Option Addr) (c' : Nat) (vs : List Value), q ≤ n ∧ i = .int .i64 q ∧ s = .slice A' q c' ∧ wr.ownsRow w.heap.size 24 1 (.slice A' q c') q vs ∧ RowsOwn wr w.heap.size 3 vs (pickL (m.take q) l) ∧ Below w.heap.size w wr) (fun _ _ _ _ i _ => n - (intOf i).toNat)
  case atStart => exact ⟨0, none, 0, [], Nat.zero_le _, rfl, rfl, World.ownsRow_nil _ _ _ _, RowsOwn.nil _ _ _, Below.refl _ _⟩
  case round =>
    obtain ⟨q, A', c', vs, hq, rfl, rfl, hown, hrows, hb⟩ := hrel
    by_cases hlt : q < n
    · obtain ⟨ad, rfl, hca⟩ := (hm.below hb).at_ (by omega)
      obtain ⟨A1, c1, h1, h2⟩ := hca q hlt
      have HS := hidx (pickL_snoc m l q (by have := hml.out; omega))
      have hsz := hb.size
      have hlr := hl.below hb
      have hrn := h2.nmax
      clear hca
      go_wp2
      go_loopw [8, 10, 19] (fun s _ j wx => ∃ (t : Nat) (B' : Option Addr) (e' : Nat), t ≤ k ∧ j = .int .i64 t ∧ s = .slice B' t e' ∧ wx.ownsRow wr.heap.size 3 1 (.slice B' t e') t (ints (pickR (nthL m q) l t)) ∧ Below wr.heap.size wr wx) (fun _ _ j _ => k - (intOf j).toNat)
      case atStart => exact ⟨0, none, 0, Nat.zero_le _, rfl, rfl, World.ownsRow_nil _ _ _ _, Below.refl _ _⟩
      case round =>
        obtain ⟨t, B', e', ht, rfl, rfl, hv, hbx⟩ := hrel
        by_cases htk : t < k
        · obtain ⟨xd, rfl, hcx⟩ := (hlr.below hbx).at_ (by omega)
          have h3 := hcx t htk
          obtain ⟨g1, g2⟩ := Hin.out q t hlt htk
          obtain ⟨u, hu⟩ := Int.eq_ofNat_of_zero_le g1
          have g2' : u < (nthL m q).length := by omega
          have HR := hidx (pickR_snoc (nthL m q) l t (by have := hll.out; omega))
          rw [hu, Int.toNat_natCast] at HR
          rw [hu] at h3
          obtain ⟨rd, rfl, hcr⟩ := (h2.below hbx).at_ (by omega)
          have h4 := hcr u g2'
          clear hcx hcr h2 hlr hm hl
          go_wp2_with (at_builtin; refine app1 eltI rfl rfl (.tmp 23) (.tmp 28) rfl rfl rfl hv hbx (Nat.le_refl _) rfl (by omega) (by omega) ?_; intro A3 c3 w3 hown3 hb3 hg3 hc3 hc3')
          go_roundw
          case rel => exact ⟨t + 1, A3, c3, by omega, by go_num, rfl, by rw [HR.out, ← ints_snoc]; exact hown3, hb3⟩
          case measure => simp [intOf]; omega
        · have htt : t = k := by omega
          subst htt
          have hown2 := own_below hown hbx
          have hrows2 := hrows.keep (KeepsT.of_below hbx)
          have hb2 := step_trans hb hbx
          clear hown hrows h2 hlr hm hl
          go_wp2_with (at_builtin; refine app1 eltM rfl rfl (.tmp 31) (.tmp 33) rfl rfl rfl hown2 hb2 (Nat.le_refl _) rfl (by omega) (by omega) ?_; intro A3 c3 w3 hown3 hb3 hg3 hc3 hc3')
          go_roundw
          case rel =>
            have hk3 : KeepsT 3 wr w3 := KeepsT.grown (by decide) hown2 hg3
            refine ⟨q + 1, A3, c3, _, by omega, by go_num, rfl, hown3, ?_, hb3⟩
            rw [HS.out, ← pickR_all]
            have hll2 := hll.out
            subst hll2
            exact (hrows2.keep hk3).snoc (pickR_len _ _ _ (Nat.le_refl _)) (own_keeps (own_base hv hsz) hk3)
          case measure => simp [intOf]; omega
    · have hqq : q = n := by omega
      subst hqq
      go_wp2
      go_ret
      exact ⟨_, _, rfl, own_SM hown (by rw [List.take_of_length_le (by have := hml.out; omega)] at hrows; exact hrows), hb⟩

end Go.Proofs.Ytkkmlcengneomaa
