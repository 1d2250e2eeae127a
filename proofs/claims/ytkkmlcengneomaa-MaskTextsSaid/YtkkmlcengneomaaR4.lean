/- Contracts of lightsieveref02's divisor and Likeness. No condition. -/
import Derived.Test.YtkkmlcengneomaaR3
namespace Go.Proofs.Ytkkmlcengneomaa
open Go.RowKit Ls

set_option maxHeartbeats 400000 in
theorem divisor_any (n d : Nat) (w : World) (hn : n ≤ 1000000) (hd : d ≤ 1000000) :
    Calls Try.prog 73 #[.int .i64 n, .int .i64 d] w fun e w' => e = .returned (.int .i64 (Nat.gcd n d)) ∧ Below w.heap.size w w' := by
  go_enter Try.func73, Try.ntmps73
  go_wp2
  go_loopw [0, 1] (fun a b wr => ∃ x y : Nat, x ≤ 1000000 ∧ y ≤ 1000000 ∧ a = .int .i64 x ∧ b = .int .i64 y ∧ Hid (Nat.gcd x y = Nat.gcd n d) ∧ Below w.heap.size w wr) (fun _ b _ => (intOf b).toNat)
  case atStart => exact ⟨n, d, hn, hd, rfl, rfl, rfl, Below.refl _ _⟩
  case round =>
    obtain ⟨x, y, hx, hy, rfl, rfl, hg, hb⟩ := hrel
    by_cases h0 : y = 0
    · subst h0
      go_wp2
      go_ret
      exact ⟨ret_i64 (by rw [← hg.out]; simp), hb⟩
    · have hy0 : (0:Int) < y := by omega
      go_wp2
      go_quiet (fail)
      go_wp2
      go_roundw
      case rel =>
        have hm := Nat.mod_lt x (show 0 < y by omega)
        exact ⟨y, x % y, hy, by omega, rfl, by go_num, by unfold Hid; rw [← hg.out, Nat.gcd_comm y, ← Nat.gcd_rec, Nat.gcd_comm], below_drewN hb _⟩
      case measure =>
        have hm := Nat.mod_lt x (show 0 < y by omega)
        simp [intOf]; omega

theorem dot_sm (A B : Option Addr) (n m c d : Nat) (xs ys : List Int) (w : World) (hx : Sm xs) (hy : Sm ys)
    (ha : SI w A n c xs) (hb : SI w B m d ys) (hnm : n ≤ m) :
    Calls Try.prog 19 #[.slice A n c, .slice B m d] w fun e w' => e = .returned (.int .i64 (dotI xs ys)) ∧ Below w.heap.size w w' := by
  rw [← (wdot_sm hx hy).1]; exact dot_b A B n m c d xs ys w ha hb hnm

set_option maxRecDepth 100000 in
set_option maxHeartbeats 4000000 in
theorem rLikeness_any (A : Option Addr) (n c : Nat) (m : List (List Int)) (i j : Int) (w : World) (hm : SM w A n c m) :
    Calls Try.prog 26 #[.slice A n c, .int .i64 i, .int .i64 j] w fun e w' => e = .returned (.tuple #[.agg #[.int .i64 (likN m i j), .int .i64 (likDn m i j)], .int .i64 (likenessE m i j)]) ∧ Below w.heap.size w w' := by
  have hb00 := fun o o' => step_trans (below_alloc w o) (below_alloc (w.alloc o) o')
  have hs : ∀ o t, SI ((w.alloc o).alloc (.cells #[.int .i64 i, .int .i64 j] t)) (some ⟨w.heap.size + 1, 0, none⟩) 2 2 [i, j] := fun o t => by
    have := SI.new2 (w.alloc o) t i j
    rwa [World.size_alloc] at this
  by_cases hE : namedE m [i, j] = 0
  · obtain ⟨hM, ⟨h0, h1⟩, h2, h3⟩ := named2 hE
    have sm1 := colL_sm hM (j := i.toNat) (by omega)
    have sm2 := colL_sm hM (j := j.toNat) (by omega)
    by_cases hD : likeD (colL m i.toNat) (colL m j.toNat) = 0
    · have e1 : likenessE m i j = 8 := by unfold likenessE; rw [if_pos hE, if_pos hD]
      have e2 : likN m i j = 0 := by unfold likN; rw [e1]; rfl
      have e3 : likDn m i j = 0 := by unfold likDn; rw [e1]; rfl
      rw [e1, e2, e3]
      clear e1 e2 e3
      have hd := likeD_int (colL m i.toNat) (colL m j.toNat)
      rw [hD] at hd
      have hn := likeN_int (colL m i.toNat) (colL m j.toNat)
      have hnl := likeN_le sm1 sm2
      have d1 := fun X Y c d W h h' => dot_sm X Y n n c d _ _ W sm1 sm2 h h' (Nat.le_refl _)
      have d2 := fun X c d W h h' => dot_sm X X n n c d _ _ W sm1 sm1 h h' (Nat.le_refl _)
      have d3 := fun X c d W h h' => dot_sm X X n n c d _ _ W sm2 sm2 h h' (Nat.le_refl _)
      generalize dotI (colL m i.toNat) (colL m i.toNat) = p at hd d2
      generalize dotI (colL m j.toNat) (colL m j.toNat) = q at hd d3
      generalize dotI (colL m i.toNat) (colL m j.toNat) = r at hn d1
      have hpq : p * q = 0 := hd.symm
      have hr1 : 0 ≤ r * r := by omega
      have hr2 : r * r ≤ 100 := by omega
      clear hd hn hnl hD
      go_enter Try.func26, Try.ntmps26
      go_wp2_with (go_at_call 70; refine (rnamed_any A _ n c 2 2 m [i, j] _ (hm.below (hb00 _ _)) (hs _ _)).mono ?_; rintro e w1 ⟨rfl, rfl⟩)
      refine (rcolumn_int A n c m i _ (hm.below (hb00 _ _)) hM h0 h1).mono ?_
      rintro e w2 ⟨A2, c2, rfl, hown2, hb2⟩
      have hbw2 := step_trans (hb00 _ _) hb2
      go_wp2_with fail
      refine (rcolumn_int A n c m j _ (hm.below hbw2) hM h2 h3).mono ?_
      rintro e w3 ⟨A3, c3, rfl, hown3, hb3⟩
      have s2 := (own_SI hown2).below hb3
      have s3 := own_SI hown3
      go_wp2_with fail
      refine (d1 _ _ _ _ _ s2 s3).mono ?_
      rintro e w4 ⟨rfl, hb4⟩
      go_wp2_with fail
      refine (d1 _ _ _ _ _ (s2.below hb4) (s3.below hb4)).mono ?_
      rintro e w5 ⟨rfl, hb5⟩
      have hb45 := step_trans hb4 hb5
      go_wp2_with fail
      refine (d2 _ _ _ _ (s2.below hb45) (s2.below hb45)).mono ?_
      rintro e w6 ⟨rfl, hb6⟩
      have hb456 := step_trans hb45 hb6
      go_wp2_with fail
      refine (d3 _ _ _ _ (s3.below hb456) (s3.below hb456)).mono ?_
      rintro e w7 ⟨rfl, hb7⟩
      have hbw4 := step_trans hb2 (step_trans hb3 (step_trans hb456 hb7))
      have hx0 : w7.cell? ⟨w.heap.size, 0, none⟩ = some (.int .i64 0) := Below.cell_of hbw4 (by simp)
      have hx1 : w7.cell? ⟨w.heap.size, 1, none⟩ = some (.int .i64 0) := Below.cell_of hbw4 (by simp)
      have hx2 : w7.frozen? ⟨w.heap.size, 0, none⟩ = false := (hbw4.frozen (p := ⟨w.heap.size, 0, none⟩) (by simp; omega)).trans (by simp)
      have hx3 : w7.frozen? ⟨w.heap.size, 1, none⟩ = false := (hbw4.frozen (p := ⟨w.heap.size, 1, none⟩) (by simp; omega)).trans (by simp)
      have hbB := step_trans (hb00 _ _) hbw4
      clear d1 d2 d3 hb2 hb3 hb4 hb5 hb6 hb7 hb45 hb456 hbw2 s2 s3 hown2 hown3
      go_wp2
      refine bodyPost_ret (v := .tuple #[.agg #[.int .i64 0, .int .i64 0], .int .i64 8]) (by simp [results, Try.results26, go_sem, hx0, hx1]) rfl ⟨rfl, ?_⟩
      exact ((hbB.setCell (Nat.le_refl _) _).setCell (Nat.le_refl _) _)
    · have e1 : likenessE m i j = 0 := by unfold likenessE; rw [if_pos hE, if_neg hD]
      have e2 : likN m i j = ratN (likeN (colL m i.toNat) (colL m j.toNat)) (likeD (colL m i.toNat) (colL m j.toNat)) := by unfold likN; rw [if_pos e1]
      have e3 : likDn m i j = ratD (likeN (colL m i.toNat) (colL m j.toNat)) (likeD (colL m i.toNat) (colL m j.toNat)) := by unfold likDn; rw [if_pos e1]
      rw [e1, e2, e3]
      clear e1 e2 e3
      have hd := likeD_int (colL m i.toNat) (colL m j.toNat)
      have hn := likeN_int (colL m i.toNat) (colL m j.toNat)
      have hdl := likeD_le sm1 sm2
      have hnl := likeN_le sm1 sm2
      have d1 := fun X Y c d W h h' => dot_sm X Y n n c d _ _ W sm1 sm2 h h' (Nat.le_refl _)
      have d2 := fun X c d W h h' => dot_sm X X n n c d _ _ W sm1 sm1 h h' (Nat.le_refl _)
      have d3 := fun X c d W h h' => dot_sm X X n n c d _ _ W sm2 sm2 h h' (Nat.le_refl _)
      have d4 := fun W => divisor_any (likeN (colL m i.toNat) (colL m j.toNat)) (likeD (colL m i.toNat) (colL m j.toNat)) W (by omega) (by omega)
      rw [hd, hn] at d4
      generalize likeD (colL m i.toNat) (colL m j.toNat) = D at hd d4 hD hdl ⊢
      generalize likeN (colL m i.toNat) (colL m j.toNat) = N at hn d4 hnl ⊢
      generalize dotI (colL m i.toNat) (colL m i.toNat) = p at hd d2 d4
      generalize dotI (colL m j.toNat) (colL m j.toNat) = q at hd d3 d4
      generalize dotI (colL m i.toNat) (colL m j.toNat) = r at hn d1 d4
      have hpq1 : 1 ≤ p * q := by omega
      have hpq2 : p * q ≤ 100 := by omega
      have hr1 : 0 ≤ r * r := by omega
      have hr2 : r * r ≤ 100 := by omega
      have hp0 : (p == 0) = false := by
        cases h : p == 0
        · rfl
        · simp at h; subst h; simp at hpq1
      have hq0 : (q == 0) = false := by
        cases h : q == 0
        · rfl
        · simp at h; subst h; simp at hpq1
      have hg : 0 < Nat.gcd N D := Nat.gcd_pos_of_pos_right _ (by omega)
      have fN : ratN N D = (r * r) / (Nat.gcd N D : Int) := by unfold ratN; rw [← hn]; simp
      have fD : ratD N D = (p * q) / (Nat.gcd N D : Int) := by unfold ratD; rw [← hd]; simp
      rw [fN, fD]
      generalize hG : Nat.gcd N D = G at *
      have hG1 : (0:Int) < G := by omega
      have hG2 : ((G : Int) == 0) = false := by simp; omega
      have b1 : (0:Int) ≤ (r * r) / (G:Int) := Int.ediv_nonneg (by omega) (by omega)
      have b2 : (r * r) / (G:Int) ≤ r * r := Int.ediv_le_self _ (by omega)
      have b3 : (0:Int) ≤ (p * q) / (G:Int) := Int.ediv_nonneg (by omega) (by omega)
      have b4 : (p * q) / (G:Int) ≤ p * q := Int.ediv_le_self _ (by omega)
      clear hd hn hD hdl hnl fN fD hG hg
      go_enter Try.func26, Try.ntmps26
      go_wp2_with (go_at_call 70; refine (rnamed_any A _ n c 2 2 m [i, j] _ (hm.below (hb00 _ _)) (hs _ _)).mono ?_; rintro e w1 ⟨rfl, rfl⟩)
      refine (rcolumn_int A n c m i _ (hm.below (hb00 _ _)) hM h0 h1).mono ?_
      rintro e w2 ⟨A2, c2, rfl, hown2, hb2⟩
      have hbw2 := step_trans (hb00 _ _) hb2
      go_wp2_with fail
      refine (rcolumn_int A n c m j _ (hm.below hbw2) hM h2 h3).mono ?_
      rintro e w3 ⟨A3, c3, rfl, hown3, hb3⟩
      have s2 := (own_SI hown2).below hb3
      have s3 := own_SI hown3
      go_wp2_with fail
      refine (d1 _ _ _ _ _ s2 s3).mono ?_
      rintro e w4 ⟨rfl, hb4⟩
      go_wp2_with fail
      refine (d1 _ _ _ _ _ (s2.below hb4) (s3.below hb4)).mono ?_
      rintro e w5 ⟨rfl, hb5⟩
      have hb45 := step_trans hb4 hb5
      go_wp2_with fail
      refine (d2 _ _ _ _ (s2.below hb45) (s2.below hb45)).mono ?_
      rintro e w6 ⟨rfl, hb6⟩
      have hb456 := step_trans hb45 hb6
      go_wp2_with fail
      refine (d3 _ _ _ _ (s3.below hb456) (s3.below hb456)).mono ?_
      rintro e w7 ⟨rfl, hb7⟩
      go_wp2_with fail
      refine (d4 _).mono ?_
      rintro e w8 ⟨rfl, hb8⟩
      have hbw4 := step_trans hb2 (step_trans hb3 (step_trans hb456 (step_trans hb7 hb8)))
      have hx0 : w8.cell? ⟨w.heap.size, 0, none⟩ = some (.int .i64 0) := Below.cell_of hbw4 (by simp)
      have hx1 : w8.cell? ⟨w.heap.size, 1, none⟩ = some (.int .i64 0) := Below.cell_of hbw4 (by simp)
      have hx2 : w8.frozen? ⟨w.heap.size, 0, none⟩ = false := (hbw4.frozen (p := ⟨w.heap.size, 0, none⟩) (by simp; omega)).trans (by simp)
      have hx3 : w8.frozen? ⟨w.heap.size, 1, none⟩ = false := (hbw4.frozen (p := ⟨w.heap.size, 1, none⟩) (by simp; omega)).trans (by simp)
      have hbB := step_trans (hb00 _ _) hbw4
      clear d1 d2 d3 d4 hb2 hb3 hb4 hb5 hb6 hb7 hb8 hb45 hb456 hbw2 s2 s3 hown2 hown3
      go_wp2
      go_region
      go_wp2
      refine bodyPost_ret (v := .tuple #[.agg #[.int .i64 ((r * r) / (G:Int)), .int .i64 ((p * q) / (G:Int))], .int .i64 0]) (by simp [results, Try.results26, go_sem, hx0, hx1]) rfl ⟨rfl, ?_⟩
      exact ((hbB.drew.setCell (Nat.le_refl _) _).setCell (Nat.le_refl _) _)
  · have e1 : likenessE m i j = namedE m [i, j] := by unfold likenessE; rw [if_neg hE]
    have e2 : likN m i j = 0 := by unfold likN; rw [if_neg (by rw [e1]; exact hE)]
    have e3 : likDn m i j = 0 := by unfold likDn; rw [if_neg (by rw [e1]; exact hE)]
    rw [e1, e2, e3]
    have he : (namedE m [i, j] != 0) = true := by simp [hE]
    have he2 : (namedE m [i, j] == 0) = false := by simp [hE]
    clear e1 e2 e3
    go_enter Try.func26, Try.ntmps26
    go_wp2_with (go_at_call 70; refine (rnamed_any A _ n c 2 2 m [i, j] _ (hm.below (hb00 _ _)) (hs _ _)).mono ?_; rintro e w1 ⟨rfl, rfl⟩)
    refine bodyPost_ret (v := .tuple #[.agg #[.int .i64 0, .int .i64 0], .int .i64 (namedE m [i, j])]) (by simp [results, Try.results26, go_sem]) rfl ⟨rfl, ?_⟩
    exact hb00 _ _

end Go.Proofs.Ytkkmlcengneomaa
