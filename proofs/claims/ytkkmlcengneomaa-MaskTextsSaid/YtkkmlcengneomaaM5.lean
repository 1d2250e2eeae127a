/- Contracts of mask's lowest, likeness, Likeness, Back, named, Column, Product. No condition. -/
import Derived.Test.YtkkmlcengneomaaM4
import Derived.Test.YtkkmlcengneomaaMNum
namespace Go.Proofs.Ytkkmlcengneomaa
open Go.RowKit Ls

set_option maxHeartbeats 400000 in
theorem lowest_any (n d : Nat) (w : World) (hn : n ≤ 1000000) (hd : d ≤ 1000000) (hd0 : 0 < d) :
    Calls Try.prog 107 #[.int .i64 n, .int .i64 d] w fun e w' => e = .returned (.agg #[.int .i64 (ratN n d), .int .i64 (ratD n d)]) ∧ Below w.heap.size w w' := by
  go_enter Try.func107, Try.ntmps107
  go_wp2
  go_loopw [5, 6] (fun a b wr => ∃ x y : Nat, x ≤ 1000000 ∧ y ≤ 1000000 ∧ 0 < x + y ∧ a = .int .i64 x ∧ b = .int .i64 y ∧ Hid (Nat.gcd x y = Nat.gcd n d) ∧ ∃ q, wr = (w.alloc (.cells #[.int .i64 0, .int .i64 0] 39)).drewN q) (fun _ b _ => (intOf b).toNat)
  case atStart => exact ⟨n, d, hn, hd, by omega, rfl, rfl, rfl, 0, rfl⟩
  case round =>
    obtain ⟨x, y, hx, hy, hxy, rfl, rfl, hg, q, rfl⟩ := hrel
    by_cases h0 : y = 0
    · subst h0
      have hx0 : 0 < x := by omega
      go_wp2
      have hx1 : (0:Int) < x := by omega
      have hx2 : ((x : Int) == 0) = false := by simp; omega
      have hd1 : (0:Int) ≤ (n:Int) / (x:Int) := Int.ediv_nonneg (by omega) (by omega)
      have hd2 : (n:Int) / (x:Int) ≤ (n:Int) := Int.ediv_le_self _ (by omega)
      have hd3 : (0:Int) ≤ (d:Int) / (x:Int) := Int.ediv_nonneg (by omega) (by omega)
      have hd4 : (d:Int) / (x:Int) ≤ (d:Int) := Int.ediv_le_self _ (by omega)
      have hxg : x = Nat.gcd n d := by rw [← hg.out]; simp
      have Hx := hidx hxg
      clear hxg
      go_region
      go_wp2
      refine bodyPost_ret (v := .agg #[.int .i64 ((n:Int) / (x:Int)), .int .i64 ((d:Int) / (x:Int))]) (by simp [results, Try.results107, go_sem]) rfl ⟨?_, ?_⟩
      · rw [ratN, ratD, ← Hx.out]; simp
      · exact (((below_drewN (below_alloc w _) _).setCell (by simp) _).setCell (by simp) _)
    · have hy0 : (0:Int) < y := by omega
      go_wp2
      go_quiet (fail)
      go_wp2
      go_roundw
      case rel =>
        have hm := Nat.mod_lt x (show 0 < y by omega)
        exact ⟨y, x % y, hy, by omega, by omega, rfl, by go_num, by unfold Hid; rw [← hg.out, Nat.gcd_comm y, ← Nat.gcd_rec, Nat.gcd_comm], q + nq, by rw [World.drewN_drewN]⟩
      case measure =>
        have hm := Nat.mod_lt x (show 0 < y by omega)
        simp [intOf]; omega

theorem lowest_int (n d : Int) (w : World) (hn0 : 0 ≤ n) (hn : n ≤ 1000000) (hd : d ≤ 1000000) (hd0 : 0 < d) :
    Calls Try.prog 107 #[.int .i64 n, .int .i64 d] w fun e w' => e = .returned (.agg #[.int .i64 (ratN n.toNat d.toNat), .int .i64 (ratD n.toNat d.toNat)]) ∧ Below w.heap.size w w' := by
  have h := lowest_any n.toNat d.toNat w (by omega) (by omega) (by omega)
  rw [Int.toNat_of_nonneg hn0, Int.toNat_of_nonneg (by omega)] at h
  exact h

theorem times_sm (A B : Option Addr) (n m c d : Nat) (xs ys : List Int) (w : World) (hx : Sm xs) (hy : Sm ys)
    (ha : SI w A n c xs) (hb : SI w B m d ys) (hnm : n ≤ m) :
    Calls Try.prog 65 #[.slice A n c, .slice B m d] w fun e w' => e = .returned (.int .i64 (dotI xs ys)) ∧ w = w' := by
  rw [← (wdot_sm hx hy).1]; exact times_any A B n m c d xs ys w ha hb hnm

/-- The likeness of two columns, and whether there is one. -/
def likeV (a b : List Int) : Value := if likeD a b = 0 then .agg #[.int .i64 0, .int .i64 0] else .agg #[.int .i64 (ratN (likeN a b) (likeD a b)), .int .i64 (ratD (likeN a b) (likeD a b))]

set_option maxHeartbeats 400000 in
theorem likeness_no (A B : Option Addr) (n c d : Nat) (xs ys : List Int) (w : World) (hx : Sm xs) (hy : Sm ys)
    (ha : SI w A n c xs) (hb : SI w B n d ys) (h0 : likeD xs ys = 0) :
    Calls Try.prog 72 #[.slice A n c, .slice B n d] w fun e w' => e = .returned (.tuple #[.agg #[.int .i64 0, .int .i64 0], .bool false]) ∧ Below w.heap.size w w' := by
  have hd := likeD_int xs ys
  rw [h0] at hd
  have c1 := fun W h => times_sm A A n n c c xs xs W hx hx h h (Nat.le_refl _)
  have c2 := fun W h => times_sm B B n n d d ys ys W hy hy h h (Nat.le_refl _)
  generalize dotI xs xs = p at hd c1
  generalize dotI ys ys = q at hd c2
  have hpq : p * q = 0 := hd.symm
  have hb0 := below_alloc w
  clear hd h0
  have ha1 := fun o => ha.below (hb0 o)
  have hb1 := fun o => hb.below (hb0 o)
  go_enter Try.func72, Try.ntmps72
  go_wp2_with fail
  refine (c1 _ (ha1 _)).mono ?_
  rintro e w1 ⟨rfl, rfl⟩
  go_wp2_with fail
  refine (c2 _ (hb1 _)).mono ?_
  rintro e w1 ⟨rfl, rfl⟩
  go_wp2
  refine bodyPost_ret (v := .tuple #[.agg #[.int .i64 0, .int .i64 0], .bool false]) (by simp [results, Try.results72, go_sem]) rfl ⟨rfl, hb0 _⟩

set_option maxHeartbeats 400000 in
theorem likeness_yes (A B : Option Addr) (n c d : Nat) (xs ys : List Int) (w : World) (hx : Sm xs) (hy : Sm ys)
    (ha : SI w A n c xs) (hb : SI w B n d ys) (h0 : 0 < likeD xs ys) :
    Calls Try.prog 72 #[.slice A n c, .slice B n d] w fun e w' => e = .returned (.tuple #[.agg #[.int .i64 (ratN (likeN xs ys) (likeD xs ys)), .int .i64 (ratD (likeN xs ys) (likeD xs ys))], .bool true]) ∧ Below w.heap.size w w' := by
  have hd := likeD_int xs ys
  have hn := likeN_int xs ys
  have hdl := likeD_le hx hy
  have hnl := likeN_le hx hy
  have c1 := fun W h => times_sm A A n n c c xs xs W hx hx h h (Nat.le_refl _)
  have c2 := fun W h => times_sm B B n n d d ys ys W hy hy h h (Nat.le_refl _)
  have c3 := fun W h h' => times_sm A B n n c d xs ys W hx hy h h' (Nat.le_refl _)
  have c4 := fun W => lowest_any (likeN xs ys) (likeD xs ys) W (by omega) (by omega) h0
  rw [hd, hn] at c4
  generalize likeD xs ys = D at hd c4 h0 hdl ⊢
  generalize likeN xs ys = N at hn c4 hnl ⊢
  generalize dotI xs xs = p at hd c1 c4
  generalize dotI ys ys = q at hd c2 c4
  generalize dotI xs ys = r at hn c3 c4
  have hpq1 : 1 ≤ p * q := by omega
  have hpq2 : p * q ≤ 100 := by omega
  have hr1 : 0 ≤ r * r := by omega
  have hr2 : r * r ≤ 100 := by omega
  have hp0 : (p == 0) = false := by
    cases h : p == 0
    · rfl
    · simp at h; subst h; simp at hpq1
  have hq0 : (q == 0) = false := by
    cases h : q == 0
    · rfl
    · simp at h; subst h; simp at hpq1
  have hb0 := below_alloc w
  clear hd hn h0 hdl hnl
  have ha1 := fun o => ha.below (hb0 o)
  have hb1 := fun o => hb.below (hb0 o)
  go_enter Try.func72, Try.ntmps72
  go_wp2_with fail
  refine (c1 _ (ha1 _)).mono ?_
  rintro e w1 ⟨rfl, rfl⟩
  go_wp2_with fail
  refine (c2 _ (hb1 _)).mono ?_
  rintro e w1 ⟨rfl, rfl⟩
  go_wp2_with fail
  refine (c3 _ (ha1 _) (hb1 _)).mono ?_
  rintro e w1 ⟨rfl, rfl⟩
  go_wp2_with fail
  refine (c4 _).mono ?_
  rintro e w1 ⟨rfl, hbw⟩
  have hx0 : w1.cell? ⟨w.heap.size, 0, none⟩ = some (.int .i64 0) := Below.cell_of hbw (by simp)
  have hx1 : w1.cell? ⟨w.heap.size, 1, none⟩ = some (.int .i64 0) := Below.cell_of hbw (by simp)
  have hx2 : w1.frozen? ⟨w.heap.size, 0, none⟩ = false := (hbw.frozen (p := ⟨w.heap.size, 0, none⟩) (by simp)).trans (by simp)
  have hx3 : w1.frozen? ⟨w.heap.size, 1, none⟩ = false := (hbw.frozen (p := ⟨w.heap.size, 1, none⟩) (by simp)).trans (by simp)
  have hbB := step_trans (hb0 _) hbw
  go_wp2
  refine bodyPost_ret (v := .tuple #[.agg #[.int .i64 (ratN N D), .int .i64 (ratD N D)], .bool true]) (by simp [results, Try.results72, go_sem, hx0, hx1]) rfl ⟨rfl, ?_⟩
  exact (hbB.setCell (Nat.le_refl _) _).setCell (Nat.le_refl _) _

end Go.Proofs.Ytkkmlcengneomaa
