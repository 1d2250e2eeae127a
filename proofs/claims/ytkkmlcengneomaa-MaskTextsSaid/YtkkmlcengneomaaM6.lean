/- Contracts of mask's named, Column, Product, Likeness, Back. No condition. -/
import Derived.Test.YtkkmlcengneomaaM5
namespace Go.Proofs.Ytkkmlcengneomaa
open Go.RowKit Ls

theorem named1_ok (B : Nat) (A : Option Addr) (n c : Nat) (m : List (List Int)) (w : World) (hB : w.cell? ⟨B, 0, none⟩ = some (.slice A n c)) (hm : SM w A n c m) (hM : IsMask m) :
    FokI Try.prog 106 #[.pointer (some ⟨B, 0, none⟩)] (fun j => inB j 0 ((nthL m 0).length - 1)) w := by
  refine ⟨(enters_of Try.func106 (by kernel_rfl) rfl), fun x W hW => ?_⟩
  have hc := Below.cell_of hW hB
  have hn : 0 < n := by have := hM.rows1; have := hm.len; omega
  obtain ⟨ad, rfl, hca⟩ := (hm.below hW).at_ hn
  obtain ⟨A2, c2, h1, h2⟩ := hca 0 hn
  rw [add_zero] at h1
  have hp := hM.pix1
  have hp2 := hM.pix10
  clear hca h2 hm hB hM
  go_enter Try.func106, Try.ntmps106
  go_wp2_with (go_at_call 74; refine (within_any _ _ _ _).mono ?_; rintro e w1 ⟨rfl, rfl⟩)
  go_ret
  exact ⟨rfl, Below.refl _ _⟩

set_option maxHeartbeats 400000 in
theorem named_any (A X : Option Addr) (n c k d : Nat) (m : List (List Int)) (x : List Int) (w : World) (hm : SM w A n c m) (hx : SI w X k d x) :
    Calls Try.prog 69 #[.slice A n c, .slice X k d] w fun e w' => e = .returned (.int .i64 (namedE m x)) ∧ Below w.heap.size w w' := by
  have hb0 := below_alloc w
  cases hv : validB m with
  | false =>
    go_enter Try.func69, Try.ntmps69
    go_wp2_with (go_at_call 32; refine (valid_any A n c m _ (hm.below (hb0 _))).mono ?_; rintro e w1 ⟨rfl, hb1⟩)
    go_ret
    exact ⟨ret_i64 (by unfold namedE; rw [hv]; simp), step_trans (hb0 _) hb1⟩
  | true =>
    have hM := IsMask.of hv
    cases hq : x.all (fun j => inB j 0 ((nthL m 0).length - 1)) with
    | true =>
      go_enter Try.func69, Try.ntmps69
      go_wp2_with (first
        | (go_at_call 32; refine (valid_any A n c m _ (hm.below (hb0 _))).mono ?_; rintro e w1 ⟨rfl, hb1⟩; have hcB := Below.cell_of hb1 (v := .slice A n c) (a := ⟨w.heap.size, 0, none⟩) (by simp))
        | (go_at_call 88; refine (allI X k d _ _ _ x _ (hx.below (step_trans (hb0 _) hb1)) (named1_ok w.heap.size A n c m _ hcB (hm.below (step_trans (hb0 _) hb1)) hM)).mono ?_; rintro e w3 ⟨rfl, hb3⟩))
      go_ret
      exact ⟨ret_i64 (by unfold namedE; rw [hv, hq]; simp), step_trans (step_trans (hb0 _) hb1) hb3⟩
    | false =>
      go_enter Try.func69, Try.ntmps69
      go_wp2_with (first
        | (go_at_call 32; refine (valid_any A n c m _ (hm.below (hb0 _))).mono ?_; rintro e w1 ⟨rfl, hb1⟩; have hcB := Below.cell_of hb1 (v := .slice A n c) (a := ⟨w.heap.size, 0, none⟩) (by simp))
        | (go_at_call 88; refine (allI X k d _ _ _ x _ (hx.below (step_trans (hb0 _) hb1)) (named1_ok w.heap.size A n c m _ hcB (hm.below (step_trans (hb0 _) hb1)) hM)).mono ?_; rintro e w3 ⟨rfl, hb3⟩))
      go_ret
      exact ⟨ret_i64 (by unfold namedE; rw [hv, hq]; simp), step_trans (step_trans (hb0 _) hb1) hb3⟩

/-- A column of a valid mask, by an integer's number. -/
theorem column_int (A : Option Addr) (n c : Nat) (m : List (List Int)) (j : Int) (w : World) (hm : SM w A n c m) (hM : IsMask m) (h0 : 0 ≤ j) (h1 : j < (nthL m 0).length) :
    Calls Try.prog 68 #[.slice A n c, .int .i64 j] w fun e w' => ∃ A' c', e = .returned (.slice A' n c') ∧ w'.ownsRow w.heap.size 3 1 (.slice A' n c') n (ints (colL m j.toNat)) ∧ Below w.heap.size w w' := by
  obtain ⟨k, rfl⟩ := Int.eq_ofNat_of_zero_le h0
  rw [Int.toNat_natCast]
  exact column_any A n c m k w hm (fun i hi => by rw [hM.each i (by rw [hm.len]; exact hi)]; omega) (by have := hM.rows6; have := hm.len; omega)

set_option maxHeartbeats 400000 in
theorem Column_any (A : Option Addr) (n c : Nat) (m : List (List Int)) (j : Int) (w : World) (hm : SM w A n c m) :
    Calls Try.prog 21 #[.slice A n c, .int .i64 j] w fun e w' => ∃ A' c', e = .returned (.tuple #[.slice A' (colR m j).length c', .int .i64 (namedE m [j])]) ∧
      w'.ownsRow w.heap.size 3 1 (.slice A' (colR m j).length c') (colR m j).length (ints (colR m j)) ∧ Below w.heap.size w w' := by
  have hb0 := below_alloc w
  have hs := fun t => SI.new1 w t j
  by_cases hE : namedE m [j] = 0
  · obtain ⟨hM, h0, h1⟩ := named1 hE
    have hR : colR m j = colL m j.toNat := by unfold colR; rw [if_pos hE]
    rw [hR, colL_len]
    clear hR
    have hl := hidx hm.len
    go_enter Try.func21, Try.ntmps21
    go_wp2_with (first
      | (go_at_call 69; refine (named_any A _ n c 1 1 m [j] _ (hm.below (hb0 _)) (hs _)).mono ?_; rintro e w1 ⟨rfl, hb1⟩; have hbw1 := step_trans (hb0 _) hb1)
      | (go_at_call 68; refine (column_int A n c m j _ (hm.below hbw1) hM h0 h1).mono ?_; rintro e w2 ⟨A2, c2, rfl, hown, hb2⟩))
    go_ret2
    rw [hl.out]
    refine ⟨_, _, ret2_i64 hE.symm, own_base hown hbw1.size, step_trans hbw1 hb2⟩
  · have hR : colR m j = [] := by unfold colR; rw [if_neg hE]
    rw [hR]
    have he : (namedE m [j] != 0) = true := by simp [hE]
    have he2 : (namedE m [j] == 0) = false := by simp [hE]
    clear hR
    go_enter Try.func21, Try.ntmps21
    go_wp2_with (go_at_call 69; refine (named_any A _ n c 1 1 m [j] _ (hm.below (hb0 _)) (hs _)).mono ?_; rintro e w1 ⟨rfl, hb1⟩; have hbw1 := step_trans (hb0 _) hb1)
    go_ret2
    exact ⟨none, 0, rfl, World.ownsRow_nil _ _ _ _, hbw1⟩

set_option maxHeartbeats 400000 in
theorem Product_any (A : Option Addr) (n c : Nat) (m : List (List Int)) (i j : Int) (w : World) (hm : SM w A n c m) :
    Calls Try.prog 23 #[.slice A n c, .int .i64 i, .int .i64 j] w fun e w' => e = .returned (.tuple #[.int .i64 (prodV m i j), .int .i64 (namedE m [i, j])]) ∧ Below w.heap.size w w' := by
  have hb0 := below_alloc w
  have hs := fun t => SI.new2 w t i j
  by_cases hE : namedE m [i, j] = 0
  · obtain ⟨hM, ⟨h0, h1⟩, h2, h3⟩ := named2 hE
    have hR : prodV m i j = wdot 0 (colL m i.toNat) (colL m j.toNat) := by unfold prodV; rw [if_pos hE]
    rw [hR, hE]
    clear hR
    go_enter Try.func23, Try.ntmps23
    go_wp2_with (go_at_call 69; refine (named_any A _ n c 2 2 m [i, j] _ (hm.below (hb0 _)) (hs _)).mono ?_; rintro e w1 ⟨rfl, hb1⟩; have hbw1 := step_trans (hb0 _) hb1)
    refine (column_int A n c m i _ (hm.below hbw1) hM h0 h1).mono ?_
    rintro e w2 ⟨A2, c2, rfl, hown2, hb2⟩
    have hbw2 := step_trans hbw1 hb2
    go_wp2_with fail
    refine (column_int A n c m j _ (hm.below hbw2) hM h2 h3).mono ?_
    rintro e w3 ⟨A3, c3, rfl, hown3, hb3⟩
    have hbw3 := step_trans hbw2 hb3
    go_wp2_with fail
    refine (times_any A2 A3 n n c2 c3 _ _ _ ((own_SI hown2).below hb3) (own_SI hown3) (Nat.le_refl _)).mono ?_
    rintro e w4 ⟨rfl, rfl⟩
    go_wp2
    go_ret2
    exact ⟨rfl, hbw3⟩
  · have hR : prodV m i j = 0 := by unfold prodV; rw [if_neg hE]
    rw [hR]
    have he : (namedE m [i, j] != 0) = true := by simp [hE]
    have he2 : (namedE m [i, j] == 0) = false := by simp [hE]
    clear hR
    go_enter Try.func23, Try.ntmps23
    go_wp2_with (go_at_call 69; refine (named_any A _ n c 2 2 m [i, j] _ (hm.below (hb0 _)) (hs _)).mono ?_; rintro e w1 ⟨rfl, hb1⟩; have hbw1 := step_trans (hb0 _) hb1)
    go_ret2
    exact ⟨rfl, hbw1⟩

/-- The likeness as a value, and its error. -/
def likenessE (m : List (List Int)) (i j : Int) : Int := if namedE m [i, j] = 0 then (if likeD (colL m i.toNat) (colL m j.toNat) = 0 then 8 else 0) else namedE m [i, j]
def likN (m : List (List Int)) (i j : Int) : Int := if likenessE m i j = 0 then ratN (likeN (colL m i.toNat) (colL m j.toNat)) (likeD (colL m i.toNat) (colL m j.toNat)) else 0
def likDn (m : List (List Int)) (i j : Int) : Int := if likenessE m i j = 0 then ratD (likeN (colL m i.toNat) (colL m j.toNat)) (likeD (colL m i.toNat) (colL m j.toNat)) else 0

set_option maxHeartbeats 1000000 in
theorem Likeness_any (A : Option Addr) (n c : Nat) (m : List (List Int)) (i j : Int) (w : World) (hm : SM w A n c m) :
    Calls Try.prog 25 #[.slice A n c, .int .i64 i, .int .i64 j] w fun e w' => e = .returned (.tuple #[.agg #[.int .i64 (likN m i j), .int .i64 (likDn m i j)], .int .i64 (likenessE m i j)]) ∧ Below w.heap.size w w' := by
  have hb0 := below_alloc w
  have hb00 := fun o o' => (below_alloc w o).trans ((below_alloc (w.alloc o) o').mono (by simp))
  have hs : ∀ o t, SI ((w.alloc o).alloc (.cells #[.int .i64 i, .int .i64 j] t)) (some ⟨w.heap.size + 1, 0, none⟩) 2 2 [i, j] := fun o t => by
    have := SI.new2 (w.alloc o) t i j
    rwa [World.size_alloc] at this
  by_cases hE : namedE m [i, j] = 0
  · obtain ⟨hM, ⟨h0, h1⟩, h2, h3⟩ := named2 hE
    have sm1 := colL_sm hM (j := i.toNat) (by omega)
    have sm2 := colL_sm hM (j := j.toNat) (by omega)
    by_cases hD : likeD (colL m i.toNat) (colL m j.toNat) = 0
    · have e1 : likenessE m i j = 8 := by unfold likenessE; rw [if_pos hE, if_pos hD]
      have e2 : likN m i j = 0 := by unfold likN; rw [e1]; rfl
      have e3 : likDn m i j = 0 := by unfold likDn; rw [e1]; rfl
      rw [e1, e2, e3]
      clear e1 e2 e3
      go_enter Try.func25, Try.ntmps25
      go_wp2_with (go_at_call 69; refine (named_any A _ n c 2 2 m [i, j] _ (hm.below (hb00 _ _)) (hs _ _)).mono ?_; rintro e w1 ⟨rfl, hb1⟩; have hbw1 := step_trans (hb00 _ _) hb1)
      refine (column_int A n c m i _ (hm.below hbw1) hM h0 h1).mono ?_
      rintro e w2 ⟨A2, c2, rfl, hown2, hb2⟩
      have hbw2 := step_trans hbw1 hb2
      go_wp2_with fail
      refine (column_int A n c m j _ (hm.below hbw2) hM h2 h3).mono ?_
      rintro e w3 ⟨A3, c3, rfl, hown3, hb3⟩
      have hbw3 := step_trans hbw2 hb3
      go_wp2_with fail
      refine (likeness_no A2 A3 n c2 c3 _ _ _ sm1 sm2 ((own_SI hown2).below hb3) (own_SI hown3) hD).mono ?_
      rintro e w4 ⟨rfl, hb4⟩
      have hbw4 := step_trans (step_trans hb1 (step_trans hb2 hb3)) hb4
      have hx0 : w4.cell? ⟨w.heap.size, 0, none⟩ = some (.int .i64 0) := Below.cell_of hbw4 (by simp)
      have hx1 : w4.cell? ⟨w.heap.size, 1, none⟩ = some (.int .i64 0) := Below.cell_of hbw4 (by simp)
      have hx2 : w4.frozen? ⟨w.heap.size, 0, none⟩ = false := (hbw4.frozen (p := ⟨w.heap.size, 0, none⟩) (by simp; omega)).trans (by simp)
      have hx3 : w4.frozen? ⟨w.heap.size, 1, none⟩ = false := (hbw4.frozen (p := ⟨w.heap.size, 1, none⟩) (by simp; omega)).trans (by simp)
      have hsz : w.heap.size < w4.heap.size := by have := hbw4.size; simp at this; omega
      have hbB := step_trans hbw3 hb4
      go_wp2
      refine bodyPost_ret (v := .tuple #[.agg #[.int .i64 0, .int .i64 0], .int .i64 8]) (by simp [results, Try.results25, go_sem, hx0, hx1, hsz]) rfl ⟨rfl, ?_⟩
      exact ((hbB.setCell (Nat.le_refl _) _).setCell (Nat.le_refl _) _).alloc (by simp; exact hbB.size) _
    · have e1 : likenessE m i j = 0 := by unfold likenessE; rw [if_pos hE, if_neg hD]
      have e2 : likN m i j = ratN (likeN (colL m i.toNat) (colL m j.toNat)) (likeD (colL m i.toNat) (colL m j.toNat)) := by unfold likN; rw [if_pos e1]
      have e3 : likDn m i j = ratD (likeN (colL m i.toNat) (colL m j.toNat)) (likeD (colL m i.toNat) (colL m j.toNat)) := by unfold likDn; rw [if_pos e1]
      rw [e1, e2, e3]
      clear e1 e2 e3
      go_enter Try.func25, Try.ntmps25
      go_wp2_with (go_at_call 69; refine (named_any A _ n c 2 2 m [i, j] _ (hm.below (hb00 _ _)) (hs _ _)).mono ?_; rintro e w1 ⟨rfl, hb1⟩; have hbw1 := step_trans (hb00 _ _) hb1)
      refine (column_int A n c m i _ (hm.below hbw1) hM h0 h1).mono ?_
      rintro e w2 ⟨A2, c2, rfl, hown2, hb2⟩
      have hbw2 := step_trans hbw1 hb2
      go_wp2_with fail
      refine (column_int A n c m j _ (hm.below hbw2) hM h2 h3).mono ?_
      rintro e w3 ⟨A3, c3, rfl, hown3, hb3⟩
      have hbw3 := step_trans hbw2 hb3
      go_wp2_with fail
      refine (likeness_yes A2 A3 n c2 c3 _ _ _ sm1 sm2 ((own_SI hown2).below hb3) (own_SI hown3) (by omega)).mono ?_
      rintro e w4 ⟨rfl, hb4⟩
      have hbw4 := step_trans (step_trans hb1 (step_trans hb2 hb3)) hb4
      have hx0 : w4.cell? ⟨w.heap.size, 0, none⟩ = some (.int .i64 0) := Below.cell_of hbw4 (by simp)
      have hx1 : w4.cell? ⟨w.heap.size, 1, none⟩ = some (.int .i64 0) := Below.cell_of hbw4 (by simp)
      have hx2 : w4.frozen? ⟨w.heap.size, 0, none⟩ = false := (hbw4.frozen (p := ⟨w.heap.size, 0, none⟩) (by simp; omega)).trans (by simp)
      have hx3 : w4.frozen? ⟨w.heap.size, 1, none⟩ = false := (hbw4.frozen (p := ⟨w.heap.size, 1, none⟩) (by simp; omega)).trans (by simp)
      have hsz : w.heap.size < w4.heap.size := by have := hbw4.size; simp at this; omega
      have hbB := step_trans hbw3 hb4
      go_wp2
      refine bodyPost_ret (v := .tuple #[.agg #[.int .i64 (ratN (likeN (colL m i.toNat) (colL m j.toNat)) (likeD (colL m i.toNat) (colL m j.toNat))), .int .i64 (ratD (likeN (colL m i.toNat) (colL m j.toNat)) (likeD (colL m i.toNat) (colL m j.toNat)))], .int .i64 0]) (by simp [results, Try.results25, go_sem, hx0, hx1, hsz]) rfl ⟨rfl, ?_⟩
      exact ((hbB.setCell (Nat.le_refl _) _).setCell (Nat.le_refl _) _).alloc (by simp; exact hbB.size) _
  · have e1 : likenessE m i j = namedE m [i, j] := by unfold likenessE; rw [if_neg hE]
    have e2 : likN m i j = 0 := by unfold likN; rw [if_neg (by rw [e1]; exact hE)]
    have e3 : likDn m i j = 0 := by unfold likDn; rw [if_neg (by rw [e1]; exact hE)]
    rw [e1, e2, e3]
    have he : (namedE m [i, j] != 0) = true := by simp [hE]
    have he2 : (namedE m [i, j] == 0) = false := by simp [hE]
    clear e1 e2 e3
    go_enter Try.func25, Try.ntmps25
    go_wp2_with (go_at_call 69; refine (named_any A _ n c 2 2 m [i, j] _ (hm.below (hb00 _ _)) (hs _ _)).mono ?_; rintro e w1 ⟨rfl, hb1⟩; have hbw1 := step_trans (hb00 _ _) hb1; have hx0 : w1.cell? ⟨w.heap.size, 0, none⟩ = some (.int .i64 0) := Below.cell_of hb1 (by simp); have hx1 : w1.cell? ⟨w.heap.size, 1, none⟩ = some (.int .i64 0) := Below.cell_of hb1 (by simp); have hx2 : w1.frozen? ⟨w.heap.size, 0, none⟩ = false := (hb1.frozen (p := ⟨w.heap.size, 0, none⟩) (by simp; omega)).trans (by simp); have hx3 : w1.frozen? ⟨w.heap.size, 1, none⟩ = false := (hb1.frozen (p := ⟨w.heap.size, 1, none⟩) (by simp; omega)).trans (by simp))
    refine bodyPost_ret (v := .tuple #[.agg #[.int .i64 0, .int .i64 0], .int .i64 (namedE m [i, j])]) (by simp [results, Try.results25, go_sem, hx0, hx1]) rfl ⟨rfl, ?_⟩
    exact (hbw1.setCell (Nat.le_refl _) _).setCell (Nat.le_refl _) _

end Go.Proofs.Ytkkmlcengneomaa
