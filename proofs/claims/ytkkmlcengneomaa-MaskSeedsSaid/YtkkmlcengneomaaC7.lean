/- Contracts of mask's Without. No condition. -/
import Derived.Test.YtkkmlcengneomaaC6
namespace Go.Proofs.Ytkkmlcengneomaa
open Go.RowKit Ls

theorem setEmpty {w : World} {A : Option Addr} {n c : Nat} {m : List (List Int)} (h : SM w A n c m) (p : Addr) (hp : w.cell? p = some (.slice none 0 0)) (h1 : ∀ k, k < n → (nthL m k).length ≠ 0) (v : Value) : SM (w.setCell p v) A n c m := by
  refine ⟨h.1, h.2.1, h.2.2.1, fun hn => ?_⟩
  obtain ⟨ad, rfl, hc⟩ := h.at_ hn
  refine ⟨ad, rfl, fun k hk => ?_⟩
  obtain ⟨A', c', h2, h3⟩ := hc k hk
  refine ⟨A', c', ?_, h3.1, h3.2.1, h3.2.2.1, fun hn' => ?_⟩
  · rw [World.cell?_setCell_other]
    · exact h2
    · rintro rfl; rw [hp] at h2; simp at h2; exact h1 k hk h2.2.1.symm
  · obtain ⟨ad', rfl, hc'⟩ := h3.at_ hn'
    refine ⟨ad', rfl, fun j hj => ?_⟩
    rw [World.cell?_setCell_other]
    · exact hc' j hj
    · rintro rfl; have h5 := hc' j hj; rw [hp] at h5; simp at h5

set_option maxRecDepth 100000 in
set_option maxHeartbeats 4000000 in
theorem without_ok1 (A : Option Addr) (n c i : Nat) (m : List (List Int)) (w : World) (hm : SM w A n c m) (hE : withoutE m i = 0) :
    Calls Try.prog 38 #[.slice A n c, .int .i64 i] w fun e w' => ∃ A' c', e = .returned (.tuple #[.slice A' (withoutR m i).length c', .int .i64 (withoutE m i)]) ∧ SM w' A' (withoutR m i).length c' (withoutR m i) ∧ Below w.heap.size w w' := by
  have hmn := hm.nmax
  obtain ⟨hM, _, hi, hn1⟩ := without_ok hE
  have hv : validB m = true := by unfold withoutE at hE; split at hE <;> first | assumption | omega
  have hR : withoutR m i = m.take i ++ m.drop (i + 1) := by unfold withoutR; rw [if_pos hE]; simp
  have hl := hm.len
  have hr6 := hM.rows6
  have hin : i < n := by omega
  have hcap := hm.cap
  have hcm := hm.max
  have hpx := hM.pix10
  have hp1 := hM.pix1
  have hlen : (m.take i ++ m.drop (i + 1)).length = n - 1 := by simp; omega
  rw [hR, hlen, hE]
  have hsl : sumLen [m.take i, m.drop (i + 1)] = n - 1 := by simp [sumLen]; omega
  have hfl : [m.take i, m.drop (i + 1)].flatten = m.take i ++ m.drop (i + 1) := by simp
  have cc := fun X W h => concat_any X 2 2 [m.take i, m.drop (i + 1)] W h (by rw [hsl]; omega) (by rw [hsl]; omega)
  rw [hsl, hfl] at cc
  have hlens : ∀ j, j < n - 1 → (nthL (m.take i ++ m.drop (i + 1)) j).length = (nthL m 0).length := fun j hj => by
    by_cases hlt : j < (m.take i).length
    · rw [nthL_left _ _ j hlt]
      have e : nthL (m.take i) j = nthL m j := by
        have : j < i := by simp at hlt; omega
        simp [nthL, this]
      rw [e]; exact hM.each j (by omega)
    · rw [nthL_right _ _ j (by omega)]
      have e : nthL (m.drop (i + 1)) (j - (m.take i).length) = nthL m (i + 1 + (j - (m.take i).length)) := by simp [nthL]
      rw [e]; refine hM.each _ ?_
      simp; simp at hlt; omega
  have hid : rowsF (fun i' j => nth (nthL (m.take i ++ m.drop (i + 1)) i') j) (nthL m 0).length (n - 1) = m.take i ++ m.drop (i + 1) := by
    have := rowsF_id (m.take i ++ m.drop (i + 1)) (nthL m 0).length (fun j hj => hlens j (by rw [hlen] at hj; exact hj))
    rw [hlen] at this
    exact this
  have hm0 : ∀ W, SM W A n c m → ∃ ad A0 c0, A = some ad ∧ W.cell? ad = some (.slice A0 (nthL m 0).length c0) := fun W hm => by
    obtain ⟨ad, rfl, hca⟩ := hm.at_ (by omega)
    obtain ⟨A0, c0, h0, _⟩ := hca 0 (by omega)
    rw [add_zero] at h0
    exact ⟨ad, A0, c0, rfl, h0⟩
  have f1 : ∀ W t, SM W A n c m → S3 (W.alloc (.cells #[.slice A i c, .slice (if c = i + 1 then A else Option.map (fun x => { block := x.block, off := x.off + (i + 1) }) A) (n - (i + 1)) (c - (i + 1))] t)) (some ⟨W.heap.size, 0, none⟩) 2 2 [m.take i, m.drop (i + 1)] := fun W t h =>
    S3.new2 t (h.take i (by omega)) (by simpa [Addr.add] using h.drop (i + 1) (by omega))
  have Cc := hidx cc
  have Hlens := hidx hlens
  have Hid' := hidx hid
  have Hm0 := hidx hm0
  have F1 := hidx f1
  have hq1 : inB (i : Int) 0 ((n : Int) - 1) = true := by rw [inB_iff]; omega
  have hq2 : ((n : Int) == 1) = false := by simp; omega
  have i0 : (0:Int) ≤ i := by omega
  have i1 : (i:Int) < n := by omega
  have i2 : (n:Int) ≤ c := by omega
  have i3 : (i:Int) ≤ c := by omega
  have i4 : (i:Int) + 1 ≤ n := by omega
  have i5 : (0:Int) ≤ (i:Int) + 1 := by omega
  have i6 : IntKind.i64.wrap ((i:Int) + 1) = (i:Int) + 1 := by rw [IntKind.wrap_i64]; omega
  have n6 : n ≤ 6 := by omega
  have n0 : 0 < n := by omega
  clear hE hR hlen cc hsl hfl hlens hid hm0 f1 hl hM hi hn1 hr6
  go_enter Try.func38, Try.ntmps38
  go_wp2_with fail
  refine (valid_any A n c m _ hm).mono ?_
  rintro e w1 ⟨rfl, hb1⟩
  have hm1 := hm.below hb1
  clear hm
  go_wp2_with fail
  refine (within_any _ _ _ _).mono ?_
  rintro e w2 ⟨rfl, rfl⟩
  go_wp2_with fail
  go_cut [6] (fun s6 wx => ∃ (B : Nat) (A4 : Option Addr) (c4 : Nat), s6 = .pointer (some ⟨B, 0, none⟩) ∧ wx.cell? ⟨B, 0, none⟩ = some (.slice A4 (n - 1) c4) ∧ SM wx A4 (n - 1) c4 (m.take i ++ m.drop (i + 1)) ∧ Below w1.heap.size w1 wx)
  case first =>
    obtain ⟨two, htwo⟩ : ∃ two : Obj, two = .cells #[.slice A i c, .slice (if c = i + 1 then A else Option.map (fun x => { block := x.block, off := x.off + (i + 1) }) A) (n - (i + 1)) (c - (i + 1))] 23 := ⟨_, rfl⟩
    obtain ⟨box, hbox⟩ : ∃ box : Obj, box = .cells #[.slice none 0 0] 23 := ⟨_, rfl⟩
    have sa : S3 (w1.alloc two).drew (some ⟨w1.heap.size, 0, none⟩) 2 2 [m.take i, m.drop (i + 1)] := by
      rw [htwo]; exact (F1.out w1 23 hm1).below (Below.refl _ _).drew
    have sb : S3 ((w1.alloc two).alloc box).drew (some ⟨w1.heap.size, 0, none⟩) 2 2 [m.take i, m.drop (i + 1)] := by
      rw [htwo]; exact (F1.out w1 23 hm1).below (below_alloc _ _).drew
    have sc : S3 ((w1.alloc box).alloc two).drew (some ⟨w1.heap.size + 1, 0, none⟩) 2 2 [m.take i, m.drop (i + 1)] := by
      have := (F1.out (w1.alloc box) 23 (hm1.below (below_alloc _ _))).below (Below.refl _ _).drew
      rw [World.size_alloc] at this
      rw [htwo]; exact this
    have hbk : ∀ (W : World) (g : Nat), W.heap[g]? = some (.cells #[.slice none 0 0] 23 (0, 0)) → ∀ w4, Below W.drew.heap.size W.drew w4 → w4.cell? ⟨g, 0, none⟩ = some (.slice none 0 0) ∧ w4.frozen? ⟨g, 0, none⟩ = false := fun W g hg w4 hb4 => by
      have hlt := (Array.getElem?_eq_some_iff.1 hg).1
      have h4 : w4.heap[g]? = some (.cells #[.slice none 0 0] 23 (0, 0)) := (hb4.block g hlt).trans hg
      exact ⟨by rw [cell_of_row _ _ _ _ _ _ h4]; rfl, frozen_of_row _ _ _ _ _ h4⟩
    have fb : ∀ w4, Below ((w1.alloc two).alloc box).drew.heap.size ((w1.alloc two).alloc box).drew w4 → w4.cell? ⟨w1.heap.size + 1, 0, none⟩ = some (.slice none 0 0) ∧ w4.frozen? ⟨w1.heap.size + 1, 0, none⟩ = false := by
      have h1 := heap_alloc_new (w1.alloc two) box
      rw [World.size_alloc] at h1
      exact hbk _ _ (by rw [h1, hbox])
    have fc : ∀ w4, Below ((w1.alloc box).alloc two).drew.heap.size ((w1.alloc box).alloc two).drew w4 → w4.cell? ⟨w1.heap.size, 0, none⟩ = some (.slice none 0 0) ∧ w4.frozen? ⟨w1.heap.size, 0, none⟩ = false := by
      have h1 := heap_alloc_new w1 box
      have h2 := Below.heap_alloc (w1.alloc box) two w1.heap.size (by simp)
      exact hbk _ _ (by rw [h2]; rw [h1, hbox])
    have Sa := hidx sa
    have Sb := hidx sb
    have Sc := hidx sc
    have Fb := hidx fb
    have Fc := hidx fc
    clear sa sb sc fb fc
    subst htwo hbox
    go_region_law (first
      | (go_simp; go_at_call 78; (with_reducible refine (Cc.out _ _ Sa.out).mono ?_); rintro e w4 ⟨A4, c4, rfl, hs4, hb4⟩)
      | (go_simp; go_at_call 78; (with_reducible refine (Cc.out _ _ Sb.out).mono ?_); rintro e w4 ⟨A4, c4, rfl, hs4, hb4⟩; obtain ⟨hxa, hxb⟩ := Fb.out _ hb4)
      | (go_simp; go_at_call 78; (with_reducible refine (Cc.out _ _ Sc.out).mono ?_); rintro e w4 ⟨A4, c4, rfl, hs4, hb4⟩; obtain ⟨hxa, hxb⟩ := Fc.out _ hb4))
    all_goals generalize (if c = i + 1 then A else Option.map (fun x => ({ block := x.block, off := x.off + (i + 1) } : Addr)) A) = X
    all_goals go_wp2_with fail
    all_goals go_meet
    · exact ⟨_, A4, c4, rfl, by simp, (hs4.below (below_alloc _ _)), ((below_alloc w1 _).trans ((undrew hb4).mono (by simp))).alloc (by have := hb4.size; simp at this; omega) _⟩
    · exact ⟨_, A4, c4, rfl, World.cell?_setCell_same' _ _ _ (by rw [hxa]; rfl), setEmpty hs4 _ hxa (fun k hk => by rw [Hlens.out k hk]; omega) _, ((step_trans (below_alloc w1 _) (below_alloc _ _)).trans ((undrew hb4).mono (by simp; omega))).setCell (by simp) _⟩
    · exact ⟨_, A4, c4, rfl, World.cell?_setCell_same' _ _ _ (by rw [hxa]; rfl), setEmpty hs4 _ hxa (fun k hk => by rw [Hlens.out k hk]; omega) _, ((step_trans (below_alloc w1 _) (below_alloc _ _)).trans ((undrew hb4).mono (by simp; omega))).setCell (Nat.le_refl _) _⟩
  case rest =>
    obtain ⟨B, A4, c4, rfl, hbx, hs4, hbw4⟩ := hcut
    have hm4 := hm1.below hbw4
    obtain ⟨ad, A0, c0, rfl, h04⟩ := Hm0.out _ hm4
    have hbox := without1_ok B A4 (n - 1) c4 (nthL m 0).length _ wc hbx hs4 Hlens.out
    have hcop := copied_any A4 (n - 1) c4 (nthL m 0).length _ _ _ _ wc.drew (hs4.below (Below.refl _ _).drew) (by omega) (by omega) (hbox.later (Below.refl _ _).drew)
    rw [Hid'.out] at hcop
    have Hcop := hidx hcop
    clear hcop hbox
    go_wp2_with fail
    go_region_held3 (fun w' => w'.cell? ⟨B, 0, none⟩ = some (.slice A4 (n - 1) c4) ∧ w'.cell? ad = some (.slice A0 (nthL m 0).length c0)) (first | go_keep | exact ⟨hbx, h04⟩ | exact ⟨Below.cell_of (undrew hb5) hbx, Below.cell_of (undrew hb5) h04⟩)
      (first | (go_at_call 79; refine Hcop.out.mono ?_; rintro e w5 ⟨A5, c5, rfl, hs5, hb5⟩))
    go_wp2
    go_ret2
    exact ⟨A5, c5, rfl, hs5, step_trans hb1 (step_trans hbw4 (undrew hb5))⟩

set_option maxHeartbeats 1000000 in
theorem without_any (A : Option Addr) (n c : Nat) (i : Int) (m : List (List Int)) (w : World) (hm : SM w A n c m) :
    Calls Try.prog 38 #[.slice A n c, .int .i64 i] w fun e w' => ∃ A' c', e = .returned (.tuple #[.slice A' (withoutR m i).length c', .int .i64 (withoutE m i)]) ∧ SM w' A' (withoutR m i).length c' (withoutR m i) ∧ Below w.heap.size w w' := by
  by_cases hE : withoutE m i = 0
  · obtain ⟨_, h0, _, _⟩ := without_ok hE
    obtain ⟨k, rfl⟩ := Int.eq_ofNat_of_zero_le h0
    exact without_ok1 A n c k m w hm hE
  · have hR : withoutR m i = [] := by unfold withoutR; rw [if_neg hE]
    rw [hR]
    have hmn := hm.nmax
    have hl := hm.len
    have Hl := hidx hl
    cases hv : validB m with
    | false =>
      have e1 : withoutE m i = 1 := by unfold withoutE; rw [hv]; rfl
      rw [e1]
      clear hE e1 hR hl
      go_enter Try.func38, Try.ntmps38
      go_wp2_with (go_at_call 32; refine (valid_any _ n c m _ hm).mono ?_; rintro e w1 ⟨rfl, hb1⟩; clear hm)
      go_ret2
      exact ⟨none, 0, rfl, SM.nil _, hb1⟩
    | true =>
      have hr1 := (IsMask.of hv).rows1
      have hn1 : 1 ≤ n := by omega
      cases hq : inB i 0 ((n:Int) - 1) with
      | false =>
        have e1 : withoutE m i = 5 := by unfold withoutE; rw [hv, hl, hq]; rfl
        rw [e1]
        clear hE e1 hR hl hr1
        go_enter Try.func38, Try.ntmps38
        go_wp2_with (first
          | (go_at_call 32; refine (valid_any _ n c m _ hm).mono ?_; rintro e w1 ⟨rfl, hb1⟩; clear hm)
          | (go_at_call 74; refine (within_any _ _ _ _).mono ?_; rintro e w2 ⟨rfl, rfl⟩))
        go_ret2
        exact ⟨none, 0, rfl, SM.nil _, hb1⟩
      | true =>
        have hn : n = 1 := by
          unfold withoutE at hE; rw [hv, hl, hq] at hE; simp at hE; exact hE
        subst hn
        have e1 : withoutE m i = 8 := by unfold withoutE; rw [hv, hl, hq]; rfl
        rw [e1]
        clear hE e1 hR hl hr1
        have hq' : inB i 0 0 = true := by simpa using hq
        go_enter Try.func38, Try.ntmps38
        go_wp2_with (first
          | (go_at_call 32; refine (valid_any _ 1 c m _ hm).mono ?_; rintro e w1 ⟨rfl, hb1⟩; clear hm)
          | (go_at_call 74; refine (within_any _ _ _ _).mono ?_; rintro e w2 ⟨rfl, rfl⟩))
        go_ret2
        exact ⟨none, 0, rfl, SM.nil _, hb1⟩

end Go.Proofs.Ytkkmlcengneomaa
