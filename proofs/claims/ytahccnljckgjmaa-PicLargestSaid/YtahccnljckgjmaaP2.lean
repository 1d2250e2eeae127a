/- Contracts of Valid and At of pic and lightsieveref01. No condition. -/
import Derived.Test.YtahccnljckgjmaaP1
namespace Go.Proofs.Ytahccnljckgjmaa
open Go.RowKit Ls

/-- What a box with a picture holds. -/
def PBox (w : World) (b : Nat) (W H : Int) (v : Value) : Prop := w.cell? ⟨b, 0, none⟩ = some (.int .i64 W) ∧ w.cell? ⟨b, 1, none⟩ = some (.int .i64 H) ∧ w.cell? ⟨b, 2, none⟩ = some v
theorem PBox.below {w w' : World} {b : Nat} {W H : Int} {v : Value} (h : PBox w b W H v) (hb : Below w.heap.size w w') : PBox w' b W H v :=
  ⟨Below.cell_of hb h.1, Below.cell_of hb h.2.1, Below.cell_of hb h.2.2⟩
theorem PBox.new (w : World) (W H : Int) (v : Value) (t : TypeId) : PBox (w.alloc (.cells #[.int .i64 W, .int .i64 H, v] t)) w.heap.size W H v := ⟨by simp, by simp, by simp⟩

set_option maxHeartbeats 1000000 in
theorem Valid_any (A : Option Addr) (n c : Nat) (W H : Int) (l : List Int) (w : World) (h : SI w A n c l) :
    Calls Try.prog 20 #[.agg #[.int .i64 W, .int .i64 H, .slice A n c]] w fun e w' => e = .returned (.bool (validP W H l)) ∧ Below w.heap.size w w' := by
  have hl := hidx h.len
  have hmx := h.nmax
  have wi := fun V => pwithin_any W 1 16 V
  have wh := fun V => pwithin_any H 1 16 V
  have hb0 := below_alloc w (.cells #[.int .i64 W, .int .i64 H, .slice A n c] 30)
  have hs := h.below hb0
  clear h
  unfold validP
  rw [hl.out]
  cases hq : inB W 1 16 with
  | false =>
    rw [hq] at wi
    have Wi := hidx wi
    clear wi hq wh
    go_enter Try.func20, Try.ntmps20
    go_wp2_with (go_at_call 55; refine (Wi.out _).mono ?_; rintro e w1 ⟨rfl, rfl⟩)
    go_ret
    exact ⟨rfl, hb0⟩
  | true =>
    rw [hq] at wi
    have Wi := hidx wi
    clear wi
    rw [inB_iff] at hq
    obtain ⟨q1, q2⟩ := hq
    cases hq2 : inB H 1 16 with
    | false =>
      rw [hq2] at wh
      have Wh := hidx wh
      clear wh hq2
      go_enter Try.func20, Try.ntmps20
      go_wp2_with fail
      refine (Wi.out _).mono ?_
      rintro e w1 ⟨rfl, rfl⟩
      go_wp2_with fail
      refine (Wh.out _).mono ?_
      rintro e w1 ⟨rfl, rfl⟩
      go_wp2
      go_ret
      exact ⟨rfl, hb0⟩
    | true =>
      rw [hq2] at wh
      have Wh := hidx wh
      clear wh
      rw [inB_iff] at hq2
      obtain ⟨q3, q4⟩ := hq2
      obtain ⟨a, rfl⟩ := Int.eq_ofNat_of_zero_le (show 0 ≤ W by omega)
      obtain ⟨b, rfl⟩ := Int.eq_ofNat_of_zero_le (show 0 ≤ H by omega)
      have hab : a * b ≤ 16 * 16 := Nat.mul_le_mul (by omega) (by omega)
      have e1 : IntKind.i64.wrap ((a : Int) * b) = (a : Int) * b := by
        rw [IntKind.wrap_i64]
        have : ((a * b : Nat) : Int) = (a : Int) * b := by simp
        omega
      cases hq3 : decide ((n : Int) = (a : Int) * b) with
      | false =>
        have d1 : ((n : Int) == (a : Int) * b) = false := by rw [beq_eq_false_iff_ne]; simpa using hq3
        clear hq3
        go_enter Try.func20, Try.ntmps20
        go_wp2_with fail
        refine (Wi.out _).mono ?_
        rintro e w1 ⟨rfl, rfl⟩
        go_wp2_with fail
        refine (Wh.out _).mono ?_
        rintro e w1 ⟨rfl, rfl⟩
        go_wp2_with fail
        go_ret
        exact ⟨rfl, hb0⟩
      | true =>
        have d1 : ((n : Int) == (a : Int) * b) = true := by rw [beq_iff_eq]; simpa using hq3
        clear hq3
        go_enter Try.func20, Try.ntmps20
        go_wp2_with fail
        refine (Wi.out _).mono ?_
        rintro e w1 ⟨rfl, rfl⟩
        go_wp2_with fail
        refine (Wh.out _).mono ?_
        rintro e w1 ⟨rfl, rfl⟩
        go_wp2_with fail
        refine (bounded_any A n c l _ _ hs (by omega) (by omega)).mono ?_
        rintro e w1 ⟨rfl, hb1⟩
        go_wp2
        go_ret
        exact ⟨rfl, step_trans hb0 hb1⟩

set_option maxHeartbeats 1000000 in
theorem rValid_any (A : Option Addr) (n c : Nat) (W H : Int) (l : List Int) (w : World) (h : SI w A n c l) :
    Calls Try.prog 21 #[.agg #[.int .i64 W, .int .i64 H, .slice A n c]] w fun e w' => e = .returned (.bool (validP W H l)) ∧ Below w.heap.size w w' := by
  have hl := hidx h.len
  have hmx := h.nmax
  have wi := fun V => qwithin_any W 1 16 V
  have wh := fun V => qwithin_any H 1 16 V
  have hb0 := below_alloc w (.cells #[.int .i64 W, .int .i64 H, .slice A n c] 30)
  have hs := h.below hb0
  clear h
  unfold validP
  rw [hl.out]
  cases hq : inB W 1 16 with
  | false =>
    rw [hq] at wi
    have Wi := hidx wi
    clear wi hq wh
    go_enter Try.func21, Try.ntmps21
    go_wp2_with (go_at_call 53; refine (Wi.out _).mono ?_; rintro e w1 ⟨rfl, rfl⟩)
    go_ret
    exact ⟨rfl, hb0⟩
  | true =>
    rw [hq] at wi
    have Wi := hidx wi
    clear wi
    rw [inB_iff] at hq
    obtain ⟨q1, q2⟩ := hq
    cases hq2 : inB H 1 16 with
    | false =>
      rw [hq2] at wh
      have Wh := hidx wh
      clear wh hq2
      go_enter Try.func21, Try.ntmps21
      go_wp2_with fail
      refine (Wi.out _).mono ?_
      rintro e w1 ⟨rfl, rfl⟩
      go_wp2_with fail
      refine (Wh.out _).mono ?_
      rintro e w1 ⟨rfl, rfl⟩
      go_wp2
      go_ret
      exact ⟨rfl, hb0⟩
    | true =>
      rw [hq2] at wh
      have Wh := hidx wh
      clear wh
      rw [inB_iff] at hq2
      obtain ⟨q3, q4⟩ := hq2
      obtain ⟨a, rfl⟩ := Int.eq_ofNat_of_zero_le (show 0 ≤ W by omega)
      obtain ⟨b, rfl⟩ := Int.eq_ofNat_of_zero_le (show 0 ≤ H by omega)
      have hab : a * b ≤ 16 * 16 := Nat.mul_le_mul (by omega) (by omega)
      have e1 : IntKind.i64.wrap ((a : Int) * b) = (a : Int) * b := by
        rw [IntKind.wrap_i64]
        have : ((a * b : Nat) : Int) = (a : Int) * b := by simp
        omega
      cases hq3 : decide ((n : Int) = (a : Int) * b) with
      | false =>
        have d1 : ((n : Int) == (a : Int) * b) = false := by rw [beq_eq_false_iff_ne]; simpa using hq3
        clear hq3
        go_enter Try.func21, Try.ntmps21
        go_wp2_with fail
        refine (Wi.out _).mono ?_
        rintro e w1 ⟨rfl, rfl⟩
        go_wp2_with fail
        refine (Wh.out _).mono ?_
        rintro e w1 ⟨rfl, rfl⟩
        go_wp2_with fail
        go_ret
        exact ⟨rfl, hb0⟩
      | true =>
        have d1 : ((n : Int) == (a : Int) * b) = true := by rw [beq_iff_eq]; simpa using hq3
        clear hq3
        go_enter Try.func21, Try.ntmps21
        go_wp2_with fail
        refine (Wi.out _).mono ?_
        rintro e w1 ⟨rfl, rfl⟩
        go_wp2_with fail
        refine (Wh.out _).mono ?_
        rintro e w1 ⟨rfl, rfl⟩
        go_wp2_with fail
        refine (rall_any A n c l _ _ hs (by omega) (by omega)).mono ?_
        rintro e w1 ⟨rfl, rfl⟩
        go_wp2
        go_ret
        exact ⟨rfl, hb0⟩

theorem place_lt {a b i j : Nat} (hi : i < a) (hj : j < b) : i + a * j < a * b := by
  have : a * (j + 1) ≤ a * b := Nat.mul_le_mul_left a hj
  rw [Nat.mul_add] at this
  omega

set_option maxRecDepth 100000 in
set_option maxHeartbeats 1000000 in
theorem At_any (A : Option Addr) (n c : Nat) (W H : Int) (l : List Int) (x y : Int) (w : World) (h : SI w A n c l) :
    Calls Try.prog 18 #[.agg #[.int .i64 W, .int .i64 H, .slice A n c], .int .i64 x, .int .i64 y] w fun e w' => e = .returned (.tuple #[.int .i64 (atV W H l x y), .int .i64 (atE W H l x y)]) ∧ Below w.heap.size w w' := by
  have hl := hidx h.len
  have hmx := h.nmax
  have hb0 := below_alloc w (.cells #[.int .i64 W, .int .i64 H, .slice A n c] 30)
  have hs := h.below hb0
  have vl := Valid_any A n c W H l _ hs
  have wi := fun V => pwithin_any x 0 (W - 1) V
  have wh := fun V => pwithin_any y 0 (H - 1) V
  have hc0 : (w.alloc (.cells #[.int .i64 W, .int .i64 H, .slice A n c] 30)).cell? ⟨w.heap.size, 0, none⟩ = some (.int .i64 W) := by simp
  have hc1 : (w.alloc (.cells #[.int .i64 W, .int .i64 H, .slice A n c] 30)).cell? ⟨w.heap.size, 1, none⟩ = some (.int .i64 H) := by simp
  have hc2 : (w.alloc (.cells #[.int .i64 W, .int .i64 H, .slice A n c] 30)).cell? ⟨w.heap.size, 2, none⟩ = some (.slice A n c) := by simp
  have HC := hidx (And.intro hc0 (And.intro hc1 hc2))
  clear h hc0 hc1 hc2
  cases hq : validP W H l with
  | false =>
    have e1 : atE W H l x y = 1 := by unfold atE; rw [hq]; rfl
    have e2 : atV W H l x y = 0 := by unfold atV; rw [e1]; rfl
    rw [e1, e2]
    rw [hq] at vl
    have Vl := hidx vl
    clear vl hq wi wh e1 e2
    go_enter Try.func18, Try.ntmps18
    go_wp2_with fail
    refine Vl.out.mono ?_
    rintro e w1 ⟨rfl, hb1⟩
    go_wp2
    go_ret2
    exact ⟨rfl, step_trans hb0 hb1⟩
  | true =>
    obtain ⟨a, b, hp⟩ := IsPic.of hq
    obtain ⟨rfl, rfl, p1, p2, p3, p4, p5, p6, -⟩ := hp
    rw [hl.out] at p5 p6
    have P5 := hidx p5
    rw [hq] at vl
    have Vl := hidx vl
    have r1 : IntKind.i64.wrap ((a : Int) - 1) = (a : Int) - 1 := by rw [IntKind.wrap_i64]; omega
    have r2 : IntKind.i64.wrap ((b : Int) - 1) = (b : Int) - 1 := by rw [IntKind.wrap_i64]; omega
    clear vl p5
    cases hx : inB x 0 ((a : Int) - 1) with
    | false =>
      have e1 : atE a b l x y = 7 := by unfold atE; rw [hq, hx]; rfl
      have e2 : atV a b l x y = 0 := by unfold atV; rw [e1]; rfl
      rw [e1, e2]
      rw [hx] at wi
      have Wi := hidx wi
      clear hq hx wi wh e1 e2
      go_enter Try.func18, Try.ntmps18
      go_wp2_with fail
      refine Vl.out.mono ?_
      rintro e w1 ⟨rfl, hb1⟩
      have hd0 := Below.cell_of hb1 HC.out.1
      have hd1 := Below.cell_of hb1 HC.out.2.1
      go_wp2_with (go_at_call 55; refine (Wi.out _).mono ?_; rintro e w1 ⟨rfl, rfl⟩)
      go_ret2
      exact ⟨rfl, step_trans hb0 hb1⟩
    | true =>
      rw [hx] at wi
      have Wi := hidx wi
      rw [inB_iff] at hx
      have hx' := inB_iff.2 hx
      clear wi
      cases hy : inB y 0 ((b : Int) - 1) with
      | false =>
        have e1 : atE a b l x y = 7 := by unfold atE; rw [hq, hx', hy]; rfl
        have e2 : atV a b l x y = 0 := by unfold atV; rw [e1]; rfl
        rw [e1, e2]
        rw [hy] at wh
        have Wh := hidx wh
        clear hq hx hx' hy wh e1 e2
        go_enter Try.func18, Try.ntmps18
        go_wp2_with fail
        refine Vl.out.mono ?_
        rintro e w1 ⟨rfl, hb1⟩
        have hd0 := Below.cell_of hb1 HC.out.1
        have hd1 := Below.cell_of hb1 HC.out.2.1
        go_wp2_with fail
        refine (Wi.out _).mono ?_
        rintro e w1 ⟨rfl, rfl⟩
        go_wp2_with fail
        refine (Wh.out _).mono ?_
        rintro e w1 ⟨rfl, rfl⟩
        go_wp2
        go_ret2
        exact ⟨rfl, step_trans hb0 hb1⟩
      | true =>
        rw [hy] at wh
        have Wh := hidx wh
        have e1 : atE a b l x y = 0 := by unfold atE; rw [hq, hx', hy]; rfl
        rw [inB_iff] at hy
        clear hx' wh hq
        obtain ⟨i, rfl⟩ := Int.eq_ofNat_of_zero_le hx.1
        obtain ⟨j, rfl⟩ := Int.eq_ofNat_of_zero_le hy.1
        obtain ⟨q, hq⟩ : ∃ q, q = a * j := ⟨_, rfl⟩
        have hlt := place_lt (a := a) (b := b) (i := i) (j := j) (by omega) (by omega)
        rw [← hq, ← P5.out] at hlt
        have e2 : atV a b l i j = nth l (i + q) := by
          unfold atV; rw [e1, if_pos rfl]
          congr 1
          have : ((a * j : Nat) : Int) = (a : Int) * j := by simp
          omega
        rw [e1, e2]
        have r3 : IntKind.i64.wrap ((a : Int) * j) = (q : Int) := by
          have : ((a * j : Nat) : Int) = (a : Int) * j := by simp
          rw [IntKind.wrap_i64, ← this, ← hq]; omega
        have r4 : IntKind.i64.wrap ((i : Int) + q) = ((i + q : Nat) : Int) := by
          rw [IntKind.wrap_i64]; omega
        clear e1 e2 hq hx hy
        go_enter Try.func18, Try.ntmps18
        go_wp2_with fail
        refine Vl.out.mono ?_
        rintro e w1 ⟨rfl, hb1⟩
        have hd0 := Below.cell_of hb1 HC.out.1
        have hd1 := Below.cell_of hb1 HC.out.2.1
        have hd2 := Below.cell_of hb1 HC.out.2.2
        obtain ⟨ad, rfl, hca⟩ := (hs.below hb1).at_ (by omega)
        have hcx := hca (i + q) hlt
        clear hca hs
        go_wp2_with fail
        refine (Wi.out _).mono ?_
        rintro e w1 ⟨rfl, rfl⟩
        go_wp2_with fail
        refine (Wh.out _).mono ?_
        rintro e w1 ⟨rfl, rfl⟩
        go_wp2
        go_ret2
        exact ⟨rfl, step_trans hb0 hb1⟩

set_option maxRecDepth 100000 in
set_option maxHeartbeats 1000000 in
theorem rAt_any (A : Option Addr) (n c : Nat) (W H : Int) (l : List Int) (x y : Int) (w : World) (h : SI w A n c l) :
    Calls Try.prog 19 #[.agg #[.int .i64 W, .int .i64 H, .slice A n c], .int .i64 x, .int .i64 y] w fun e w' => e = .returned (.tuple #[.int .i64 (atV W H l x y), .int .i64 (atE W H l x y)]) ∧ Below w.heap.size w w' := by
  have hl := hidx h.len
  have hmx := h.nmax
  have hb0 := below_alloc w (.cells #[.int .i64 W, .int .i64 H, .slice A n c] 30)
  have hs := h.below hb0
  have vl := rValid_any A n c W H l _ hs
  have wi := fun V => qwithin_any x 0 (W - 1) V
  have wh := fun V => qwithin_any y 0 (H - 1) V
  have hc0 : (w.alloc (.cells #[.int .i64 W, .int .i64 H, .slice A n c] 30)).cell? ⟨w.heap.size, 0, none⟩ = some (.int .i64 W) := by simp
  have hc1 : (w.alloc (.cells #[.int .i64 W, .int .i64 H, .slice A n c] 30)).cell? ⟨w.heap.size, 1, none⟩ = some (.int .i64 H) := by simp
  have hc2 : (w.alloc (.cells #[.int .i64 W, .int .i64 H, .slice A n c] 30)).cell? ⟨w.heap.size, 2, none⟩ = some (.slice A n c) := by simp
  have HC := hidx (And.intro hc0 (And.intro hc1 hc2))
  clear h hc0 hc1 hc2
  cases hq : validP W H l with
  | false =>
    have e1 : atE W H l x y = 1 := by unfold atE; rw [hq]; rfl
    have e2 : atV W H l x y = 0 := by unfold atV; rw [e1]; rfl
    rw [e1, e2]
    rw [hq] at vl
    have Vl := hidx vl
    clear vl hq wi wh e1 e2
    go_enter Try.func19, Try.ntmps19
    go_wp2_with fail
    refine Vl.out.mono ?_
    rintro e w1 ⟨rfl, hb1⟩
    go_wp2
    go_ret2
    exact ⟨rfl, step_trans hb0 hb1⟩
  | true =>
    obtain ⟨a, b, hp⟩ := IsPic.of hq
    obtain ⟨rfl, rfl, p1, p2, p3, p4, p5, p6, -⟩ := hp
    rw [hl.out] at p5 p6
    have P5 := hidx p5
    rw [hq] at vl
    have Vl := hidx vl
    have r1 : IntKind.i64.wrap ((a : Int) - 1) = (a : Int) - 1 := by rw [IntKind.wrap_i64]; omega
    have r2 : IntKind.i64.wrap ((b : Int) - 1) = (b : Int) - 1 := by rw [IntKind.wrap_i64]; omega
    clear vl p5
    cases hx : inB x 0 ((a : Int) - 1) with
    | false =>
      have e1 : atE a b l x y = 7 := by unfold atE; rw [hq, hx]; rfl
      have e2 : atV a b l x y = 0 := by unfold atV; rw [e1]; rfl
      rw [e1, e2]
      rw [hx] at wi
      have Wi := hidx wi
      clear hq hx wi wh e1 e2
      go_enter Try.func19, Try.ntmps19
      go_wp2_with fail
      refine Vl.out.mono ?_
      rintro e w1 ⟨rfl, hb1⟩
      have hd0 := Below.cell_of hb1 HC.out.1
      have hd1 := Below.cell_of hb1 HC.out.2.1
      go_wp2_with (go_at_call 53; refine (Wi.out _).mono ?_; rintro e w1 ⟨rfl, rfl⟩)
      go_ret2
      exact ⟨rfl, step_trans hb0 hb1⟩
    | true =>
      rw [hx] at wi
      have Wi := hidx wi
      rw [inB_iff] at hx
      have hx' := inB_iff.2 hx
      clear wi
      cases hy : inB y 0 ((b : Int) - 1) with
      | false =>
        have e1 : atE a b l x y = 7 := by unfold atE; rw [hq, hx', hy]; rfl
        have e2 : atV a b l x y = 0 := by unfold atV; rw [e1]; rfl
        rw [e1, e2]
        rw [hy] at wh
        have Wh := hidx wh
        clear hq hx hx' hy wh e1 e2
        go_enter Try.func19, Try.ntmps19
        go_wp2_with fail
        refine Vl.out.mono ?_
        rintro e w1 ⟨rfl, hb1⟩
        have hd0 := Below.cell_of hb1 HC.out.1
        have hd1 := Below.cell_of hb1 HC.out.2.1
        go_wp2_with fail
        refine (Wi.out _).mono ?_
        rintro e w1 ⟨rfl, rfl⟩
        go_wp2_with fail
        refine (Wh.out _).mono ?_
        rintro e w1 ⟨rfl, rfl⟩
        go_wp2
        go_ret2
        exact ⟨rfl, step_trans hb0 hb1⟩
      | true =>
        rw [hy] at wh
        have Wh := hidx wh
        have e1 : atE a b l x y = 0 := by unfold atE; rw [hq, hx', hy]; rfl
        rw [inB_iff] at hy
        clear hx' wh hq
        obtain ⟨i, rfl⟩ := Int.eq_ofNat_of_zero_le hx.1
        obtain ⟨j, rfl⟩ := Int.eq_ofNat_of_zero_le hy.1
        obtain ⟨q, hq⟩ : ∃ q, q = a * j := ⟨_, rfl⟩
        have hlt := place_lt (a := a) (b := b) (i := i) (j := j) (by omega) (by omega)
        rw [← hq, ← P5.out] at hlt
        have e2 : atV a b l i j = nth l (i + q) := by
          unfold atV; rw [e1, if_pos rfl]
          congr 1
          have : ((a * j : Nat) : Int) = (a : Int) * j := by simp
          omega
        rw [e1, e2]
        have r3 : IntKind.i64.wrap ((a : Int) * j) = (q : Int) := by
          have : ((a * j : Nat) : Int) = (a : Int) * j := by simp
          rw [IntKind.wrap_i64, ← this, ← hq]; omega
        have r4 : IntKind.i64.wrap ((i : Int) + q) = ((i + q : Nat) : Int) := by
          rw [IntKind.wrap_i64]; omega
        clear e1 e2 hq hx hy
        go_enter Try.func19, Try.ntmps19
        go_wp2_with fail
        refine Vl.out.mono ?_
        rintro e w1 ⟨rfl, hb1⟩
        have hd0 := Below.cell_of hb1 HC.out.1
        have hd1 := Below.cell_of hb1 HC.out.2.1
        have hd2 := Below.cell_of hb1 HC.out.2.2
        obtain ⟨ad, rfl, hca⟩ := (hs.below hb1).at_ (by omega)
        have hcx := hca (i + q) hlt
        clear hca hs
        go_wp2_with fail
        refine (Wi.out _).mono ?_
        rintro e w1 ⟨rfl, rfl⟩
        go_wp2_with fail
        refine (Wh.out _).mono ?_
        rintro e w1 ⟨rfl, rfl⟩
        go_wp2
        go_ret2
        exact ⟨rfl, step_trans hb0 hb1⟩

end Go.Proofs.Ytahccnljckgjmaa
