/- Contracts of mask's Back, Rows, Pixels. No condition. -/
import Derived.Test.YtkkmlcengneomaaM6
namespace Go.Proofs.Ytkkmlcengneomaa
open Go.RowKit Ls

theorem back1_ok (B : Nat) (A : Option Addr) (n c : Nat) (m : List (List Int)) (w : World) (hB : w.cell? ⟨B, 0, none⟩ = some (.slice A n c)) (hm : SM w A n c m) :
    FokL Try.prog 67 #[.pointer (some ⟨B, 0, none⟩)] (m.length) w := by
  refine ⟨(enters_of Try.func67 (by kernel_rfl) rfl), fun W hW => ?_⟩
  have hc := Below.cell_of hW hB
  have hn := hm.nmax
  have hl := hidx hm.len
  clear hm hB
  go_enter Try.func67, Try.ntmps67
  go_wp2
  go_ret
  exact ⟨ret_i64 (by rw [hl.out]), rfl⟩

set_option maxHeartbeats 1000000 in
theorem back_any (A X : Option Addr) (n c k d : Nat) (m : List (List Int)) (x : List Int) (w : World) (hm : SM w A n c m) (hx : SI w X k d x) :
    Calls Try.prog 18 #[.slice A n c, .slice X k d] w fun e w' => ∃ A' c', e = .returned (.tuple #[.slice A' (backR m x).length c', .int .i64 (backE m x)]) ∧
      w'.ownsRow w.heap.size 3 1 (.slice A' (backR m x).length c') (backR m x).length (ints (backR m x)) ∧ Below w.heap.size w w' := by
  have hb0 := below_alloc w
  have hgg := fun o hc => fun (_ : validB m = true) => back1_ok w.heap.size A n c m (w.alloc o) hc (hm.below (hb0 o))
  have Hgg := hidx hgg
  clear hgg
  by_cases hE : backE m x = 0
  · obtain ⟨hM, hlen, hbd⟩ := back_mask hE
    have hR : backR m x = backL m x (nthL m 0).length := by unfold backR; rw [if_pos hE]
    rw [hR, backL_len]
    obtain rfl := hm.len
    have hr1 := hM.rows1
    have hp1 := hM.pix1
    have hp10 := hM.pix10
    have hl := hidx (hlen.symm.trans hx.len)
    clear hR hlen hbd
    go_enter Try.func18, Try.ntmps18
    go_wp2_with (go_at_call 66; refine (listed_any A X _ c k d _ _ m x _ _ _ (hm.below (hb0 _)) (hx.below (hb0 _)) (by omega) (by omega) (Hgg.out _ (by simp))).mono ?_; rintro e w1 ⟨rfl, hb1⟩; have hcB := Below.cell_of hb1 (v := .slice A m.length c) (a := ⟨w.heap.size, 0, none⟩) (by simp); have hbw1 := step_trans (hb0 _) hb1; obtain ⟨ad, rfl, hca⟩ := (hm.below hbw1).at_ (by omega); obtain ⟨A0, c0, h0, _⟩ := hca 0 (by omega); rw [add_zero] at h0; clear hca; have hE' : listE m m.length 1000000000 x = 0 := hE)
    have hcs : w.heap.size < w1.heap.size := by have := hb1.size; simp at this; omega
    clear h0
    have Hb0 := hidx hb0
    clear hb0 hE'
    go_loopw [7, 8, 20] (fun s _ i wr => ∃ (j : Nat) (A' : Option Addr) (c' : Nat), j ≤ (nthL m 0).length ∧ i = .int .i64 j ∧ s = .slice A' j c' ∧ wr.ownsRow w1.heap.size 3 1 (.slice A' j c') j (ints (backL m x j)) ∧ Below w1.heap.size w1 wr) (fun _ _ i _ => (nthL m 0).length - (intOf i).toNat)
    case atStart => exact ⟨0, none, 0, Nat.zero_le _, rfl, rfl, World.ownsRow_nil _ _ _ _, Below.refl _ _⟩
    case round =>
      obtain ⟨j, A', c', hj, rfl, rfl, hown, hb⟩ := hrel
      by_cases hlt : j < (nthL m 0).length
      · have hcR := Below.cell_of hb hcB
        have hbw := step_trans hbw1 hb
        have HS := hidx (backL_snoc m x j)
        have hcol := fun W h => column_any (some ad) m.length c m j W h (fun i hi => by rw [hM.each i hi]; exact hlt) (by have := hM.rows6; omega)
        have hxj := hx.below hbw
        have hmj := hm.below hbw
        clear hm hx
        go_wp2_with (first
          | (go_at_call 68; refine (hcol _ hmj).mono ?_; rintro e w2 ⟨A1, c1, rfl, hown1, hb2⟩; have hown2 := own_below hown hb2; have hb3 := step_trans hb hb2; have hx2 := hxj.below hb2; clear hown hb hcR)
          | (go_at_call 65; refine (times_any A1 X _ _ c1 d (colL m j) x _ (own_SI hown1) hx2 (by have := hl.out; omega)).mono ?_; rintro e w3 ⟨rfl, rfl⟩)
          | (at_builtin; refine app1 eltI rfl rfl _ _ rfl rfl rfl hown2 hb3 (Nat.le_refl _) rfl (by omega) (by omega) ?_; intro A2 c2 w4 hown4 hb4 _ hc2 hc2'))
        go_roundw
        case rel => exact ⟨j + 1, _, _, by omega, by go_num, rfl, by rw [HS.out, ← ints_snoc]; exact hown4, hb4⟩
        case measure => simp [intOf]; omega
      · have hjj : j = (nthL m 0).length := by omega
        subst hjj
        go_wp2
        go_ret2
        exact ⟨_, _, ret2_i64 hE.symm, own_base hown hbw1.size, step_trans hbw1 hb⟩
  · have hR : backR m x = [] := by unfold backR; rw [if_neg hE]
    have hR2 := hidx hR
    clear hR
    have he : (listE m m.length 1000000000 x != 0) = true := by simp; exact hE
    have he2 : (listE m m.length 1000000000 x == 0) = false := by simp; exact hE
    go_enter Try.func18, Try.ntmps18
    go_wp2_with (go_at_call 66; refine (listed_any A X n c k d _ _ m x _ _ _ (hm.below (hb0 _)) (hx.below (hb0 _)) (by omega) (by omega) (Hgg.out _ (by simp))).mono ?_; rintro e w1 ⟨rfl, hb1⟩)
    go_ret2
    rw [hR2.out]
    exact ⟨none, 0, rfl, World.ownsRow_nil _ _ _ _, step_trans (hb0 _) hb1⟩

def rowsV (m : List (List Int)) : Int := if validB m then m.length else 0
def pixV (m : List (List Int)) : Int := if validB m then (nthL m 0).length else 0
def validE (m : List (List Int)) : Int := if validB m then 0 else 1

set_option maxHeartbeats 400000 in
theorem rows_any (A : Option Addr) (n c : Nat) (m : List (List Int)) (w : World) (hm : SM w A n c m) :
    Calls Try.prog 28 #[.slice A n c] w fun e w' => e = .returned (.tuple #[.int .i64 (rowsV m), .int .i64 (validE m)]) ∧ Below w.heap.size w w' := by
  have hl := hidx hm.len
  have hn := hm.nmax
  cases hv : validB m with
  | true =>
    rw [show rowsV m = n by unfold rowsV; rw [hv, hl.out]; rfl, show validE m = 0 by unfold validE; rw [hv]; rfl]
    go_enter Try.func28, Try.ntmps28
    go_wp2_with (go_at_call 32; refine (valid_any A n c m _ hm).mono ?_; rintro e w1 ⟨rfl, hb1⟩)
    go_ret2
    exact ⟨rfl, hb1⟩
  | false =>
    rw [show rowsV m = 0 by unfold rowsV; rw [hv]; rfl, show validE m = 1 by unfold validE; rw [hv]; rfl]
    go_enter Try.func28, Try.ntmps28
    go_wp2_with (go_at_call 32; refine (valid_any A n c m _ hm).mono ?_; rintro e w1 ⟨rfl, hb1⟩)
    go_ret2
    exact ⟨rfl, hb1⟩

set_option maxHeartbeats 400000 in
theorem pixels_any (A : Option Addr) (n c : Nat) (m : List (List Int)) (w : World) (hm : SM w A n c m) :
    Calls Try.prog 30 #[.slice A n c] w fun e w' => e = .returned (.tuple #[.int .i64 (pixV m), .int .i64 (validE m)]) ∧ Below w.heap.size w w' := by
  cases hv : validB m with
  | true =>
    rw [show pixV m = (nthL m 0).length by unfold pixV; rw [hv]; rfl, show validE m = 0 by unfold validE; rw [hv]; rfl]
    have hn : 0 < n := by have := (IsMask.of hv).rows1; have := hm.len; omega
    have hp := (IsMask.of hv).pix10
    go_enter Try.func30, Try.ntmps30
    go_wp2_with (go_at_call 32; refine (valid_any A n c m _ hm).mono ?_; rintro e w1 ⟨rfl, hb1⟩; obtain ⟨ad, rfl, hca⟩ := (hm.below hb1).at_ hn; obtain ⟨A0, c0, h0, _⟩ := hca 0 hn; rw [add_zero] at h0; clear hca)
    go_ret2
    exact ⟨rfl, hb1⟩
  | false =>
    rw [show pixV m = 0 by unfold pixV; rw [hv]; rfl, show validE m = 1 by unfold validE; rw [hv]; rfl]
    go_enter Try.func30, Try.ntmps30
    go_wp2_with (go_at_call 32; refine (valid_any A n c m _ hm).mono ?_; rintro e w1 ⟨rfl, hb1⟩)
    go_ret2
    exact ⟨rfl, hb1⟩

end Go.Proofs.Ytkkmlcengneomaa
