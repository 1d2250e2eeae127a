/- The closure by which pic.Largest sorts: No condition. -/
import Derived.Test.YtahccnljckgjmaaPFun
import Derived.Test.YtahccnljckgjmaaBigLaw
import Derived.Sort.Grow
import Derived.Test.YtahccnljckgjmaaRnd
namespace Go.Proofs.Ytahccnljckgjmaa
open Go.RowKit Go.Shelf Ls
attribute [local go_sem] Oper.semAt_some

def cmpI (x y : Int) : Int := if x < y then -1 else if y < x then 1 else 0
/-- What the closure returns. -/
def cmpS (l : List Int) (x y : Int) : Int := if cmpI (szAt l y) (szAt l x) ≠ 0 then cmpI (szAt l y) (szAt l x) else cmpI x y
theorem cmpS_lt (l : List Int) (x y : Int) : decide (cmpS l x y < 0) = ltS l x y := by
  unfold cmpS cmpI ltS szAt
  congr 1
  apply propext
  repeat' split
  all_goals omega

theorem ret_i64 {a b : Int} (h : a = b) : Ending.returned (.int .i64 a) = .returned (.int .i64 b) := by rw [h]
theorem szX (x : Int) (W : World) (h1 : -100000000 ≤ x) (h2 : x ≤ 100000000) : Calls Try.prog 70 #[.int .i64 x] W fun e w' => e = .returned (.int .i64 (sz x)) ∧ w' = W := by
  have hw : IntKind.i64.wrap (-x) = -x := by rw [IntKind.wrap_i64]; omega
  go_enter Try.func70, Try.ntmps70
  go_wp2
  · go_ret
    exact ⟨ret_i64 (by unfold sz; omega), rfl⟩
  · go_ret
    exact ⟨ret_i64 (by unfold sz; omega), rfl⟩
theorem nanX (x : Int) (W : World) : Calls Try.prog 81 #[.int .i64 x] W fun e w' => e = .returned (.bool false) ∧ w' = W := by
  go_enter Try.func81, Try.ntmps81
  go_wp2
  go_ret
  exact ⟨by simp, rfl⟩
theorem cmpX (x y : Int) (W : World) : Calls Try.prog 69 #[.int .i64 x, .int .i64 y] W fun e w' => e = .returned (.int .i64 (cmpI x y)) ∧ w' = W := by
  by_cases h1 : x < y
  · go_enter Try.func69, Try.ntmps69
    go_wp2_with (go_at_call 81; refine (nanX _ _).mono ?_; rintro e w1 ⟨rfl, rfl⟩)
    go_ret
    exact ⟨by simp [cmpI, h1], rfl⟩
  · by_cases h2 : y < x
    · go_enter Try.func69, Try.ntmps69
      go_wp2_with (go_at_call 81; refine (nanX _ _).mono ?_; rintro e w1 ⟨rfl, rfl⟩)
      go_ret
      exact ⟨by simp [cmpI, h1, h2], rfl⟩
    · go_enter Try.func69, Try.ntmps69
      go_wp2_with (go_at_call 81; refine (nanX _ _).mono ?_; rintro e w1 ⟨rfl, rfl⟩)
      go_ret
      exact ⟨ret_i64 (by unfold cmpI; rw [if_neg (by omega), if_neg (by omega)]), rfl⟩
theorem orX (a b : Int) (blk : Nat) (W : World) (ha : W.cell? ⟨blk, 0, none⟩ = some (.int .i64 a)) (hb : W.cell? ⟨blk, 1, none⟩ = some (.int .i64 b)) : Calls Try.prog 68 #[.slice (some ⟨blk, 0, none⟩) 2 2] W fun e w' => e = .returned (.int .i64 (if a ≠ 0 then a else b)) ∧ w' = W := by
  by_cases h1 : a = 0
  · by_cases h2 : b = 0
    · go_enter Try.func68, Try.ntmps68
      go_wp2
      refine wp_loop_rounds 3 ?_
      rw [rounds_succ]
      go_wp2
      rw [rounds_succ]
      go_wp2
      rw [rounds_succ]
      go_wp2
      go_ret
      exact ⟨rfl, rfl⟩
    · go_enter Try.func68, Try.ntmps68
      go_wp2
      refine wp_loop_rounds 2 ?_
      rw [rounds_succ]
      go_wp2
      rw [rounds_succ]
      go_wp2
      go_ret
      exact ⟨rfl, rfl⟩
  · go_enter Try.func68, Try.ntmps68
    go_wp2
    refine wp_loop_rounds 1 ?_
    rw [rounds_succ]
    go_wp2
    go_ret
    exact ⟨rfl, rfl⟩

theorem cell2 (W : World) (v u : Value) (t : TypeId) : (W.drew.alloc (.cells #[v, u] t)).cell? ⟨W.heap.size, 0, none⟩ = some v ∧ (W.drew.alloc (.cells #[v, u] t)).cell? ⟨W.heap.size, 1, none⟩ = some u := by
  have h := World.alloc_heap_new W.drew (.cells #[v, u] t)
  have e : W.drew.heap.size = W.heap.size := rfl
  rw [e] at h
  refine ⟨?_, ?_⟩ <;> unfold World.cell? <;> rw [h] <;> rfl

theorem alloc_grow1 (W : World) (o : Obj) : W.drew.alloc o = Sort.grow (W.drewN 1) #[o] := by
  have h : (W.drewN 1).heap ++ #[o] = W.drew.heap.push o := by rw [Array.append_singleton]; rfl
  unfold Sort.grow
  rw [h]
  rfl

set_option maxRecDepth 100000 in
set_option maxHeartbeats 4000000 in
theorem cloX (i j : Nat) (ad bd : Addr) (c : Nat) (l : List Int) (W : World) (hp : W.cell? ad = some (.slice (some bd) l.length c)) (hr : ∀ k, k < l.length → W.cell? (bd.add k) = some (.int .i64 (nth l k))) (hi : i < l.length) (hj : j < l.length) (hB : ∀ k, -100000000 ≤ nth l k ∧ nth l k ≤ 100000000) :
    Calls Try.prog 67 #[.int .i64 (i : Int), .int .i64 (j : Int), .pointer (some ad)] W fun e w' => e = .returned (.int .i64 (cmpS l i j)) ∧ ∃ q os, w' = Sort.grow (W.drewN q) os := by
  obtain ⟨p1, hp1⟩ : ∃ p1, p1 = cmpI (sz (nth l j)) (sz (nth l i)) := ⟨_, rfl⟩
  obtain ⟨p2, hp2⟩ : ∃ p2, p2 = cmpI i j := ⟨_, rfl⟩
  obtain ⟨r, hr0⟩ : ∃ r, r = if p1 ≠ 0 then p1 else p2 := ⟨_, rfl⟩
  have hres : cmpS l i j = r := by
    rw [hr0, hp1, hp2]; rfl
  rw [hres]
  have Hp1 := hidx hp1
  have Hp2 := hidx hp2
  have Hr0 := hidx hr0
  clear hres hp1 hp2 hr0
  obtain ⟨W1, hW1⟩ : ∃ W1, W1 = W.drew := ⟨_, rfl⟩
  obtain ⟨W2, hW2⟩ : ∃ W2, W2 = W1.alloc (.cells #[.int .i64 p1, .int .i64 p2] 3) := ⟨_, rfl⟩
  have hF1 : ∀ b : Bool, (bif b then W2 else W1).cell? ad = some (.slice (some bd) l.length c) := fun b => by
    cases b
    · rw [cond_false, hW1]; exact hp
    · have h1 : W1.cell? ad = some (.slice (some bd) l.length c) := by rw [hW1]; exact hp
      rw [cond_true, hW2]; simp [World.cell?_alloc_some, h1]
  have hF2 : ∀ (b : Bool) k, k < l.length → (bif b then W2 else W1).cell? (bd.add k) = some (.int .i64 (nth l k)) := fun b k hk => by
    cases b
    · rw [cond_false, hW1]; exact hr k hk
    · have h1 : W1.cell? (bd.add k) = some (.int .i64 (nth l k)) := by rw [hW1]; exact hr k hk
      rw [cond_true, hW2]; simp [World.cell?_alloc_some, h1]
  refine (callsIn_wide (n := 3)).1 ?_
  refine callsIn_of_wp Try.func67 rfl trivial ?_ rfl
  simp only [Try.ntmps67, List.size_toArray, List.length_cons, List.length_nil, Nat.reduceAdd, Nat.reduceSub, Array.replicate_succ, Array.replicate_zero, List.push_toArray, List.append_toArray, List.nil_append, List.cons_append]
  gi_wp2
  refine wpIn_region_any (by kernel_rfl) (wpAnyIn_inv (fun lst a w0 => ∃ b0 b1 b2 b3 b4 b5 b6 b7 b8 b9 b10 b11 b12 b13 b14 b15 b16 : Bool, lst = #[b0, b1, b2, b3, b4, b5, b6, b7, b8, b9, b10, b11, b12, b13, b14, b15, b16] ∧ a = { tmps := #[.int .i64 (i : Int), .int .i64 (j : Int), .pointer (some ad), undef, undef, (bif b16 then .int .i64 r else .int .i64 0), (bif b0 then .slice (some bd) l.length c else undef), (bif b1 then .int .i64 (j : Int) else undef), (bif b2 then .pointer (some (bd.add j)) else undef), (bif b3 then .int .i64 (nth l j) else undef), (bif b4 then .int .i64 (sz (nth l j)) else undef), (bif b5 then .slice (some bd) l.length c else undef), (bif b6 then .int .i64 (i : Int) else undef), (bif b7 then .pointer (some (bd.add i)) else undef), (bif b8 then .int .i64 (nth l i) else undef), (bif b9 then .int .i64 (sz (nth l i)) else undef), (bif b10 then .int .i64 p1 else undef), (bif b11 then .int .i64 (i : Int) else undef), (bif b12 then .int .i64 (j : Int) else undef), (bif b13 then .int .i64 p2 else undef), (bif b14 then .slice (some ⟨W.heap.size, 0, none⟩) 2 2 else undef), (bif b15 then .int .i64 r else undef)], defers := [] } ∧ w0 = bif b14 then W2 else W1) ?hs ?he _ _ _ _ (by rfl) (by decide) ?hz)
  case hz => exact ⟨false, false, false, false, false, false, false, false, false, false, false, false, false, false, false, false, false, rfl, rfl, hW1.symm⟩
  case he =>
    rintro lst a w0 hsz ⟨b0, b1, b2, b3, b4, b5, b6, b7, b8, b9, b10, b11, b12, b13, b14, b15, b16, rfl, rfl, hw0⟩ hr
    have hall := all_up (by kernel_rfl) hsz hr
    obtain rfl : b14 = true := hall 14 (by simp)
    obtain rfl : b16 = true := hall 16 (by simp)
    have Hw := hidx hw0
    have HW1 := hidx hW1
    have HW2 := hidx hW2
    clear hw0 hW1 hW2 hF1 hF2 hp
    gi_wp2
    go_ret
    refine ⟨rfl, 1, #[.cells #[.int .i64 p1, .int .i64 p2] 3], ?_⟩
    rw [Hw.out, cond_true, HW2.out, HW1.out]
    exact alloc_grow1 W _
  case hs =>
    rintro lst a w0 ix hsz ⟨b0, b1, b2, b3, b4, b5, b6, b7, b8, b9, b10, b11, b12, b13, b14, b15, b16, rfl, rfl, hw0⟩ hm
    have hix : ix = 0 ∨ ix = 1 ∨ ix = 2 ∨ ix = 3 ∨ ix = 4 ∨ ix = 5 ∨ ix = 6 ∨ ix = 7 ∨ ix = 8 ∨ ix = 9 ∨ ix = 10 ∨ ix = 11 ∨ ix = 12 ∨ ix = 13 ∨ ix = 14 ∨ ix = 15 ∨ ix = 16 := by have m1 := (ready_of hm).1; simp at m1; omega
    rcases hix with rfl | rfl | rfl | rfl | rfl | rfl | rfl | rfl | rfl | rfl | rfl | rfl | rfl | rfl | rfl | rfl | rfl
    · obtain ⟨m1, m2, m3⟩ := ready_of hm
      obtain rfl : b0 = false := m2
      have hc : w0.cell? ad = some (.slice (some bd) l.length c) := by rw [hw0]; exact hF1 b14
      refine wpOpIn_step rfl (fun K hK => ?_)
      have Hw := hidx hw0
      clear m1 m3 hm hsz hw0 hW1 hW2 hF1 hF2 hp hr
      go_simp
      exact hK _ _ ⟨true, b1, b2, b3, b4, b5, b6, b7, b8, b9, b10, b11, b12, b13, b14, b15, b16, rfl, rfl, Hw.out⟩
    · obtain ⟨m1, m2, m3⟩ := ready_of hm
      obtain rfl : b1 = false := m2
      refine wpOpIn_step rfl (fun K hK => ?_)
      have Hw := hidx hw0
      clear m1 m3 hm hsz hw0 hW1 hW2 hF1 hF2 hp hr
      go_simp
      exact hK _ _ ⟨b0, true, b2, b3, b4, b5, b6, b7, b8, b9, b10, b11, b12, b13, b14, b15, b16, rfl, rfl, Hw.out⟩
    · obtain ⟨m1, m2, m3⟩ := ready_of hm
      obtain rfl : b2 = false := m2
      obtain rfl : b0 = true := m3 _ rfl ⟨0, .data⟩ (by simp) rfl
      obtain rfl : b1 = true := m3 _ rfl ⟨1, .data⟩ (by simp) rfl
      have hi2 : j < l.length := hj
      refine wpOpIn_step rfl (fun K hK => ?_)
      have Hw := hidx hw0
      clear m1 m3 hm hsz hw0 hW1 hW2 hF1 hF2 hp hr
      go_simp
      exact hK _ _ ⟨true, true, true, b3, b4, b5, b6, b7, b8, b9, b10, b11, b12, b13, b14, b15, b16, rfl, rfl, Hw.out⟩
    · obtain ⟨m1, m2, m3⟩ := ready_of hm
      obtain rfl : b3 = false := m2
      obtain rfl : b2 = true := m3 _ rfl ⟨2, .data⟩ (by simp) rfl
      have hc : w0.cell? (bd.add j) = some (.int .i64 (nth l j)) := by rw [hw0]; exact hF2 b14 j hj
      refine wpOpIn_step rfl (fun K hK => ?_)
      have Hw := hidx hw0
      clear m1 m3 hm hsz hw0 hW1 hW2 hF1 hF2 hp hr
      go_simp
      exact hK _ _ ⟨b0, b1, true, true, b4, b5, b6, b7, b8, b9, b10, b11, b12, b13, b14, b15, b16, rfl, rfl, Hw.out⟩
    · obtain ⟨m1, m2, m3⟩ := ready_of hm
      obtain rfl : b4 = false := m2
      obtain rfl : b3 = true := m3 _ rfl ⟨3, .data⟩ (by simp) rfl
      have hc := fun W => szX (nth l j) W (hB j).1 (hB j).2
      refine wpOpIn_step rfl (fun K hK => ?_)
      have Hw := hidx hw0
      clear m1 m3 hm hsz hw0 hW1 hW2 hF1 hF2 hp hr
      go_simp
      refine ⟨trivial, (callsIn_wide.2 (hc _)).mono ?_⟩; rintro e w1 ⟨rfl, rfl⟩
      exact hK _ _ ⟨b0, b1, b2, true, true, b5, b6, b7, b8, b9, b10, b11, b12, b13, b14, b15, b16, rfl, rfl, Hw.out⟩
    · obtain ⟨m1, m2, m3⟩ := ready_of hm
      obtain rfl : b5 = false := m2
      have hc : w0.cell? ad = some (.slice (some bd) l.length c) := by rw [hw0]; exact hF1 b14
      refine wpOpIn_step rfl (fun K hK => ?_)
      have Hw := hidx hw0
      clear m1 m3 hm hsz hw0 hW1 hW2 hF1 hF2 hp hr
      go_simp
      exact hK _ _ ⟨b0, b1, b2, b3, b4, true, b6, b7, b8, b9, b10, b11, b12, b13, b14, b15, b16, rfl, rfl, Hw.out⟩
    · obtain ⟨m1, m2, m3⟩ := ready_of hm
      obtain rfl : b6 = false := m2
      refine wpOpIn_step rfl (fun K hK => ?_)
      have Hw := hidx hw0
      clear m1 m3 hm hsz hw0 hW1 hW2 hF1 hF2 hp hr
      go_simp
      exact hK _ _ ⟨b0, b1, b2, b3, b4, b5, true, b7, b8, b9, b10, b11, b12, b13, b14, b15, b16, rfl, rfl, Hw.out⟩
    · obtain ⟨m1, m2, m3⟩ := ready_of hm
      obtain rfl : b7 = false := m2
      obtain rfl : b5 = true := m3 _ rfl ⟨5, .data⟩ (by simp) rfl
      obtain rfl : b6 = true := m3 _ rfl ⟨6, .data⟩ (by simp) rfl
      have hi2 : i < l.length := hi
      refine wpOpIn_step rfl (fun K hK => ?_)
      have Hw := hidx hw0
      clear m1 m3 hm hsz hw0 hW1 hW2 hF1 hF2 hp hr
      go_simp
      exact hK _ _ ⟨b0, b1, b2, b3, b4, true, true, true, b8, b9, b10, b11, b12, b13, b14, b15, b16, rfl, rfl, Hw.out⟩
    · obtain ⟨m1, m2, m3⟩ := ready_of hm
      obtain rfl : b8 = false := m2
      obtain rfl : b7 = true := m3 _ rfl ⟨7, .data⟩ (by simp) rfl
      have hc : w0.cell? (bd.add i) = some (.int .i64 (nth l i)) := by rw [hw0]; exact hF2 b14 i hi
      refine wpOpIn_step rfl (fun K hK => ?_)
      have Hw := hidx hw0
      clear m1 m3 hm hsz hw0 hW1 hW2 hF1 hF2 hp hr
      go_simp
      exact hK _ _ ⟨b0, b1, b2, b3, b4, b5, b6, true, true, b9, b10, b11, b12, b13, b14, b15, b16, rfl, rfl, Hw.out⟩
    · obtain ⟨m1, m2, m3⟩ := ready_of hm
      obtain rfl : b9 = false := m2
      obtain rfl : b8 = true := m3 _ rfl ⟨8, .data⟩ (by simp) rfl
      have hc := fun W => szX (nth l i) W (hB i).1 (hB i).2
      refine wpOpIn_step rfl (fun K hK => ?_)
      have Hw := hidx hw0
      clear m1 m3 hm hsz hw0 hW1 hW2 hF1 hF2 hp hr
      go_simp
      refine ⟨trivial, (callsIn_wide.2 (hc _)).mono ?_⟩; rintro e w1 ⟨rfl, rfl⟩
      exact hK _ _ ⟨b0, b1, b2, b3, b4, b5, b6, b7, true, true, b10, b11, b12, b13, b14, b15, b16, rfl, rfl, Hw.out⟩
    · obtain ⟨m1, m2, m3⟩ := ready_of hm
      obtain rfl : b10 = false := m2
      obtain rfl : b4 = true := m3 _ rfl ⟨4, .data⟩ (by simp) rfl
      obtain rfl : b9 = true := m3 _ rfl ⟨9, .data⟩ (by simp) rfl
      have hc : ∀ W, Calls Try.prog 69 #[.int .i64 (sz (nth l j)), .int .i64 (sz (nth l i))] W fun e w1 => e = .returned (.int .i64 p1) ∧ w1 = W := fun W => by rw [Hp1.out]; exact cmpX _ _ W
      refine wpOpIn_step rfl (fun K hK => ?_)
      have Hw := hidx hw0
      clear m1 m3 hm hsz hw0 hW1 hW2 hF1 hF2 hp hr
      go_simp
      refine ⟨trivial, (callsIn_wide.2 (hc _)).mono ?_⟩; rintro e w1 ⟨rfl, rfl⟩
      exact hK _ _ ⟨b0, b1, b2, b3, true, b5, b6, b7, b8, true, true, b11, b12, b13, b14, b15, b16, rfl, rfl, Hw.out⟩
    · obtain ⟨m1, m2, m3⟩ := ready_of hm
      obtain rfl : b11 = false := m2
      refine wpOpIn_step rfl (fun K hK => ?_)
      have Hw := hidx hw0
      clear m1 m3 hm hsz hw0 hW1 hW2 hF1 hF2 hp hr
      go_simp
      exact hK _ _ ⟨b0, b1, b2, b3, b4, b5, b6, b7, b8, b9, b10, true, b12, b13, b14, b15, b16, rfl, rfl, Hw.out⟩
    · obtain ⟨m1, m2, m3⟩ := ready_of hm
      obtain rfl : b12 = false := m2
      refine wpOpIn_step rfl (fun K hK => ?_)
      have Hw := hidx hw0
      clear m1 m3 hm hsz hw0 hW1 hW2 hF1 hF2 hp hr
      go_simp
      exact hK _ _ ⟨b0, b1, b2, b3, b4, b5, b6, b7, b8, b9, b10, b11, true, b13, b14, b15, b16, rfl, rfl, Hw.out⟩
    · obtain ⟨m1, m2, m3⟩ := ready_of hm
      obtain rfl : b13 = false := m2
      obtain rfl : b11 = true := m3 _ rfl ⟨11, .data⟩ (by simp) rfl
      obtain rfl : b12 = true := m3 _ rfl ⟨12, .data⟩ (by simp) rfl
      have hc : ∀ W, Calls Try.prog 69 #[.int .i64 (i : Int), .int .i64 (j : Int)] W fun e w1 => e = .returned (.int .i64 p2) ∧ w1 = W := fun W => by rw [Hp2.out]; exact cmpX _ _ W
      refine wpOpIn_step rfl (fun K hK => ?_)
      have Hw := hidx hw0
      clear m1 m3 hm hsz hw0 hW1 hW2 hF1 hF2 hp hr
      go_simp
      refine ⟨trivial, (callsIn_wide.2 (hc _)).mono ?_⟩; rintro e w1 ⟨rfl, rfl⟩
      exact hK _ _ ⟨b0, b1, b2, b3, b4, b5, b6, b7, b8, b9, b10, true, true, true, b14, b15, b16, rfl, rfl, Hw.out⟩
    · obtain ⟨m1, m2, m3⟩ := ready_of hm
      obtain rfl : b14 = false := m2
      obtain rfl : b10 = true := m3 _ rfl ⟨10, .data⟩ (by simp) rfl
      obtain rfl : b13 = true := m3 _ rfl ⟨13, .data⟩ (by simp) rfl
      have hw1 : w0 = W.drew := by rw [hw0, ← hW1]; rfl
      subst hw1
      have HW1 := hidx hW1
      have HW2 := hidx hW2
      refine wpOpIn_step rfl (fun K hK => ?_)
      have Hw := hidx hw0
      clear m1 m3 hm hsz hw0 hW1 hW2 hF1 hF2 hp hr
      go_simp
      exact hK _ _ ⟨b0, b1, b2, b3, b4, b5, b6, b7, b8, b9, true, b11, b12, true, true, b15, b16, rfl, rfl, by rw [cond_true, HW2.out, HW1.out]; rfl⟩
    · obtain ⟨m1, m2, m3⟩ := ready_of hm
      obtain rfl : b15 = false := m2
      obtain rfl : b14 = true := m3 _ rfl ⟨14, .data⟩ (by simp) rfl
      have hwc : w0.cell? ⟨W.heap.size, 0, none⟩ = some (.int .i64 p1) ∧ w0.cell? ⟨W.heap.size, 1, none⟩ = some (.int .i64 p2) := by rw [hw0, cond_true, hW2, hW1]; exact cell2 _ _ _ _
      have hc : ∀ w, w = w0 → Calls Try.prog 68 #[.slice (some ⟨W.heap.size, 0, none⟩) 2 2] w fun e w1 => e = .returned (.int .i64 r) ∧ w1 = w := fun w hw => by rw [Hr0.out, hw]; exact orX p1 p2 _ _ hwc.1 hwc.2
      clear hwc
      refine wpOpIn_step rfl (fun K hK => ?_)
      have Hw := hidx hw0
      clear m1 m3 hm hsz hw0 hW1 hW2 hF1 hF2 hp hr
      go_simp
      refine ⟨trivial, (callsIn_wide.2 (hc _ rfl)).mono ?_⟩; rintro e w1 ⟨rfl, rfl⟩
      exact hK _ _ ⟨b0, b1, b2, b3, b4, b5, b6, b7, b8, b9, b10, b11, b12, b13, true, true, b16, rfl, rfl, Hw.out⟩
    · obtain ⟨m1, m2, m3⟩ := ready_of hm
      obtain rfl : b16 = false := m2
      obtain rfl : b15 = true := m3 _ rfl ⟨15, .data⟩ (by simp) rfl
      refine wpOpIn_step rfl (fun K hK => ?_)
      have Hw := hidx hw0
      clear m1 m3 hm hsz hw0 hW1 hW2 hF1 hF2 hp hr
      go_simp
      exact hK _ _ ⟨b0, b1, b2, b3, b4, b5, b6, b7, b8, b9, b10, b11, b12, b13, b14, true, true, rfl, rfl, Hw.out⟩
end Go.Proofs.Ytahccnljckgjmaa
