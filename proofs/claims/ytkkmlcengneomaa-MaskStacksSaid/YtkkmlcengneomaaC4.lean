/- The contract of lightsieveref02's Without. No condition. -/
import Derived.Test.YtkkmlcengneomaaC3
namespace Go.Proofs.Ytkkmlcengneomaa
open Go.RowKit Ls

set_option maxRecDepth 100000 in
set_option maxHeartbeats 2000000 in
theorem rwithout_ok (A : Option Addr) (n c i : Nat) (m : List (List Int)) (w : World) (hm : SM w A n c m) (hE : withoutE m i = 0) :
    Calls Try.prog 39 #[.slice A n c, .int .i64 i] w fun e w' => ∃ A' c', e = .returned (.tuple #[.slice A' (withoutR m i).length c', .int .i64 (withoutE m i)]) ∧ SM w' A' (withoutR m i).length c' (withoutR m i) ∧ Below w.heap.size w w' := by
  have hmn := hm.nmax
  obtain ⟨hM, _, hi, hn1⟩ := without_ok hE
  have hv : validB m = true := by unfold withoutE at hE; split at hE <;> first | assumption | omega
  have hR : withoutR m i = m.take i ++ m.drop (i + 1) := by unfold withoutR; rw [if_pos hE]; simp
  have hR2 := hidx hR
  have hl := hm.len
  have hr6 := hM.rows6
  have hin : i < n := by omega
  have hcap := hm.cap
  have hcm := hm.max
  have h1 := hm.take i (by omega)
  have h2 := hm.drop (i + 1) (by omega)
  have h2 : SM w (if c = i + 1 then A else Option.map (fun x => { block := x.block, off := x.off + (i + 1) }) A) (n - (i + 1)) (c - (i + 1)) (m.drop (i + 1)) := by simpa [Addr.add] using h2
  have hrow : ∀ j, j < n → (nthL m j).length ≤ 10 := fun j hj => by rw [hM.each j (by omega)]; exact hM.pix10
  have ca := fun W h => rcopied_mask A i c (m.take i) W h (by omega) (fun j hj => by
    have e : nthL (m.take i) j = nthL m j := by simp [nthL, hj]
    rw [e]; exact hrow j (by omega))
  have cb := fun X W h => rcopied_mask X (n - (i + 1)) (c - (i + 1)) (m.drop (i + 1)) W h (by omega) (fun j hj => by
    have e : nthL (m.drop (i + 1)) j = nthL m (i + 1 + j) := by simp [nthL]
    rw [e]; exact hrow _ (by omega))
  have Ca := hidx ca
  have Cb := hidx cb
  have hlen : (m.take i ++ m.drop (i + 1)).length = i + (n - (i + 1)) := by simp; omega
  have Hlen := hidx hlen
  have hq1 : inB (i : Int) 0 ((n : Int) - 1) = true := by rw [inB_iff]; omega
  have hq2 : ((n : Int) == 1) = false := by simp; omega
  have i0 : (0:Int) ≤ i := by omega
  have i1 : (i:Int) < n := by omega
  have i2 : (n:Int) ≤ c := by omega
  have i3 : (i:Int) ≤ c := by omega
  have i4 : (i:Int) + 1 ≤ n := by omega
  have i5 : (0:Int) ≤ (i:Int) + 1 := by omega
  have i6 : IntKind.i64.wrap ((i:Int) + 1) = (i:Int) + 1 := by rw [IntKind.wrap_i64]; omega
  have n6 : n ≤ 6 := by omega
  have HE := hidx hE
  clear hE hR ca cb hlen hl hrow hM hi hn1 hr6
  go_enter Try.func39, Try.ntmps39
  go_wp2_with fail
  refine (rvalid_any _ n c m _ hm).mono ?_
  rintro e w1 ⟨rfl, rfl⟩
  go_wp2_with fail
  refine (rwithin_any _ _ _ _).mono ?_
  rintro e w1 ⟨rfl, rfl⟩
  go_wp2_with fail
  go_region_law (first
    | (go_simp; go_at_call 81; refine (Ca.out w.drew h1).mono ?_; rintro e w2 ⟨A3, c3, vs3, rfl, hown3, hrows3, hb3'⟩; have hb3 := undrew hb3'; clear Ca hb3')
    | (go_simp; go_at_call 81; refine (Cb.out _ _ (h2.below hb3)).mono ?_; rintro e w3 ⟨A4, c4, vs4, rfl, hown4, hrows4, hb4⟩; clear Cb)
    | (refine step_appN _ eltM rfl (by rfl) _ _ (by rfl) (by rfl) (by rfl) (own_below hown3 hb4) (Below.refl _ _) (Nat.le_trans hb3.size hb4.size) (own_SV hown4) (rows_one hrows4.read) (by omega) (by omega) ?_; intro A5 c5 w5 hown5 hb5 hg5))
  all_goals go_wp2
  all_goals
    go_ret2
    have hk5 : KeepsT 3 w3 w5 := KeepsT.grown (by decide) (own_below hown3 hb4) hg5
    have hall := ((hrows3.keep (KeepsT.of_below hb4)).keep hk5).append ((hrows4.base hb3.size).keep hk5)
    rw [hR2.out, Hlen.out]
    exact ⟨A5, c5, ret2_i64 HE.out.symm, own_SM hown5 hall, (step_trans hb3 hb4).trans (hb5.mono (Nat.le_refl _))⟩

set_option maxHeartbeats 1000000 in
theorem rwithout_any (A : Option Addr) (n c : Nat) (i : Int) (m : List (List Int)) (w : World) (hm : SM w A n c m) :
    Calls Try.prog 39 #[.slice A n c, .int .i64 i] w fun e w' => ∃ A' c', e = .returned (.tuple #[.slice A' (withoutR m i).length c', .int .i64 (withoutE m i)]) ∧ SM w' A' (withoutR m i).length c' (withoutR m i) ∧ Below w.heap.size w w' := by
  by_cases hE : withoutE m i = 0
  · obtain ⟨_, h0, _, _⟩ := without_ok hE
    obtain ⟨k, rfl⟩ := Int.eq_ofNat_of_zero_le h0
    exact rwithout_ok A n c k m w hm hE
  · have hR : withoutR m i = [] := by unfold withoutR; rw [if_neg hE]
    rw [hR]
    have hmn := hm.nmax
    have hl := hm.len
    have Hl := hidx hl
    cases hv : validB m with
    | false =>
      have e1 : withoutE m i = 1 := by unfold withoutE; rw [hv]; rfl
      rw [e1]
      clear hE e1 hR hl
      go_enter Try.func39, Try.ntmps39
      go_wp2_with (go_at_call 13; refine (rvalid_any _ n c m _ hm).mono ?_; rintro e w1 ⟨rfl, rfl⟩)
      go_ret2
      exact ⟨none, 0, rfl, SM.nil _, Below.refl _ _⟩
    | true =>
      have hr1 := (IsMask.of hv).rows1
      have hn1 : 1 ≤ n := by omega
      cases hq : inB i 0 ((n:Int) - 1) with
      | false =>
        have e1 : withoutE m i = 5 := by unfold withoutE; rw [hv, hl, hq]; rfl
        rw [e1]
        clear hE e1 hR hl hr1
        go_enter Try.func39, Try.ntmps39
        go_wp2_with (first
          | (go_at_call 13; refine (rvalid_any _ n c m _ hm).mono ?_; rintro e w1 ⟨rfl, rfl⟩)
          | (go_at_call 62; refine (rwithin_any _ _ _ _).mono ?_; rintro e w1 ⟨rfl, rfl⟩))
        go_ret2
        exact ⟨none, 0, rfl, SM.nil _, Below.refl _ _⟩
      | true =>
        have hn : n = 1 := by
          unfold withoutE at hE; rw [hv, hl, hq] at hE; simp at hE; exact hE
        subst hn
        have e1 : withoutE m i = 8 := by unfold withoutE; rw [hv, hl, hq]; rfl
        rw [e1]
        clear hE e1 hR hl hr1
        have hq' : inB i 0 0 = true := by simpa using hq
        go_enter Try.func39, Try.ntmps39
        go_wp2_with (first
          | (go_at_call 13; refine (rvalid_any _ 1 c m _ hm).mono ?_; rintro e w1 ⟨rfl, rfl⟩)
          | (go_at_call 62; refine (rwithin_any _ _ _ _).mono ?_; rintro e w1 ⟨rfl, rfl⟩))
        go_ret2
        exact ⟨none, 0, rfl, SM.nil _, Below.refl _ _⟩

end Go.Proofs.Ytkkmlcengneomaa
