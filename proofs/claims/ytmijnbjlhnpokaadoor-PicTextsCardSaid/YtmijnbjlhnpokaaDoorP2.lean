/- Contracts of Valid and At of pic and lightsieveref01. No condition. -/
import Derived.Test.YtmijnbjlhnpokaaDoorP1
namespace Go.Proofs.YtmijnbjlhnpokaaDoor
open Go.RowKit Ls
def PBox (w : World) (b : Nat) (W H : Int) (v : Value) : Prop := w.cell? ⟨b, 0, none⟩ = some (.int .i64 W) /\ w.cell? ⟨b, 1, none⟩ = some (.int .i64 H) /\ w.cell? ⟨b, 2, none⟩ = some v
theorem PBox.below {w w' : World} {b : Nat} {W H : Int} {v : Value} (h : PBox w b W H v) (hb : Below w.heap.size w w') : PBox w' b W H v :=
  ⟨Below.cell_of hb h.1, Below.cell_of hb h.2.1, Below.cell_of hb h.2.2⟩
theorem PBox.new (w : World) (W H : Int) (v : Value) (t : TypeId) : PBox (w.alloc (.cells #[.int .i64 W, .int .i64 H, v] t)) w.heap.size W H v := ⟨by simp, by simp, by simp⟩
set_option maxHeartbeats 1000000 in
theorem Valid_any (A : Option Addr) (n c : Nat) (W H : Int) (l : List Int) (w : World) (h : SI w A n c l) :
    Calls Tryd.prog 19 #[.agg #[.int .i64 W, .int .i64 H, .slice A n c]] w fun e w' => e = .returned (.bool (validP W H l)) /\ Below w.heap.size w w' := by
  have hl := hidx h.len
  have hmx := h.nmax
  have wi := fun V => pwithin_any W 1 16 V
  have wh := fun V => pwithin_any H 1 16 V
  have hb0 := below_alloc w (.cells #[.int .i64 W, .int .i64 H, .slice A n c] 24)
  have hs := h.below hb0
  clear h
  unfold validP
  rw [hl.out]
  cases hq : inB W 1 16 with
  | false =>
    rw [hq] at wi
    have Wi := hidx wi
    clear wi hq wh
    go_enter Tryd.func19, Tryd.ntmps19
    go_wp2_with (go_at_call 35; refine (Wi.out _).mono ?_; rintro e w1 ⟨rfl, rfl⟩)
    go_ret
    exact ⟨rfl, hb0⟩
  | true =>
    rw [hq] at wi
    have Wi := hidx wi
    clear wi
    rw [inB_iff] at hq
    obtain ⟨q1, q2⟩ := hq
    cases hq2 : inB H 1 16 with
    | false =>
      rw [hq2] at wh
      have Wh := hidx wh
      clear wh hq2
      go_enter Tryd.func19, Tryd.ntmps19
      go_wp2_with fail
      refine (Wi.out _).mono ?_
      rintro e w1 ⟨rfl, rfl⟩
      go_wp2_with fail
      refine (Wh.out _).mono ?_
      rintro e w1 ⟨rfl, rfl⟩
      go_wp2
      go_ret
      exact ⟨rfl, hb0⟩
    | true =>
      rw [hq2] at wh
      have Wh := hidx wh
      clear wh
      rw [inB_iff] at hq2
      obtain ⟨q3, q4⟩ := hq2
      obtain ⟨a, rfl⟩ := Int.eq_ofNat_of_zero_le (show 0 <= W by omega)
      obtain ⟨b, rfl⟩ := Int.eq_ofNat_of_zero_le (show 0 <= H by omega)
      have hab : a * b <= 16 * 16 := Nat.mul_le_mul (by omega) (by omega)
      have e1 : IntKind.i64.wrap ((a : Int) * b) = (a : Int) * b := by
        rw [IntKind.wrap_i64]
        have : ((a * b : Nat) : Int) = (a : Int) * b := by simp
        omega
      cases hq3 : decide ((n : Int) = (a : Int) * b) with
      | false =>
        have d1 : ((n : Int) == (a : Int) * b) = false := by rw [beq_eq_false_iff_ne]; simpa using hq3
        clear hq3
        go_enter Tryd.func19, Tryd.ntmps19
        go_wp2_with fail
        refine (Wi.out _).mono ?_
        rintro e w1 ⟨rfl, rfl⟩
        go_wp2_with fail
        refine (Wh.out _).mono ?_
        rintro e w1 ⟨rfl, rfl⟩
        go_wp2_with fail
        go_ret
        exact ⟨rfl, hb0⟩
      | true =>
        have d1 : ((n : Int) == (a : Int) * b) = true := by rw [beq_iff_eq]; simpa using hq3
        clear hq3
        go_enter Tryd.func19, Tryd.ntmps19
        go_wp2_with fail
        refine (Wi.out _).mono ?_
        rintro e w1 ⟨rfl, rfl⟩
        go_wp2_with fail
        refine (Wh.out _).mono ?_
        rintro e w1 ⟨rfl, rfl⟩
        go_wp2_with fail
        refine (bounded_any A n c l _ _ hs (by omega) (by omega)).mono ?_
        rintro e w1 ⟨rfl, hb1⟩
        go_wp2
        go_ret
        exact ⟨rfl, step_trans hb0 hb1⟩
set_option maxHeartbeats 1000000 in
theorem rValid_any (A : Option Addr) (n c : Nat) (W H : Int) (l : List Int) (w : World) (h : SI w A n c l) :
    Calls Tryd.prog 11 #[.agg #[.int .i64 W, .int .i64 H, .slice A n c]] w fun e w' => e = .returned (.bool (validP W H l)) /\ Below w.heap.size w w' := by
  have hl := hidx h.len
  have hmx := h.nmax
  have wi := fun V => qwithin_any W 1 16 V
  have wh := fun V => qwithin_any H 1 16 V
  have hb0 := below_alloc w (.cells #[.int .i64 W, .int .i64 H, .slice A n c] 24)
  have hs := h.below hb0
  clear h
  unfold validP
  rw [hl.out]
  cases hq : inB W 1 16 with
  | false =>
    rw [hq] at wi
    have Wi := hidx wi
    clear wi hq wh
    go_enter Tryd.func11, Tryd.ntmps11
    go_wp2_with (go_at_call 25; refine (Wi.out _).mono ?_; rintro e w1 ⟨rfl, rfl⟩)
    go_ret
    exact ⟨rfl, hb0⟩
  | true =>
    rw [hq] at wi
    have Wi := hidx wi
    clear wi
    rw [inB_iff] at hq
    obtain ⟨q1, q2⟩ := hq
    cases hq2 : inB H 1 16 with
    | false =>
      rw [hq2] at wh
      have Wh := hidx wh
      clear wh hq2
      go_enter Tryd.func11, Tryd.ntmps11
      go_wp2_with fail
      refine (Wi.out _).mono ?_
      rintro e w1 ⟨rfl, rfl⟩
      go_wp2_with fail
      refine (Wh.out _).mono ?_
      rintro e w1 ⟨rfl, rfl⟩
      go_wp2
      go_ret
      exact ⟨rfl, hb0⟩
    | true =>
      rw [hq2] at wh
      have Wh := hidx wh
      clear wh
      rw [inB_iff] at hq2
      obtain ⟨q3, q4⟩ := hq2
      obtain ⟨a, rfl⟩ := Int.eq_ofNat_of_zero_le (show 0 <= W by omega)
      obtain ⟨b, rfl⟩ := Int.eq_ofNat_of_zero_le (show 0 <= H by omega)
      have hab : a * b <= 16 * 16 := Nat.mul_le_mul (by omega) (by omega)
      have e1 : IntKind.i64.wrap ((a : Int) * b) = (a : Int) * b := by
        rw [IntKind.wrap_i64]
        have : ((a * b : Nat) : Int) = (a : Int) * b := by simp
        omega
      cases hq3 : decide ((n : Int) = (a : Int) * b) with
      | false =>
        have d1 : ((n : Int) == (a : Int) * b) = false := by rw [beq_eq_false_iff_ne]; simpa using hq3
        clear hq3
        go_enter Tryd.func11, Tryd.ntmps11
        go_wp2_with fail
        refine (Wi.out _).mono ?_
        rintro e w1 ⟨rfl, rfl⟩
        go_wp2_with fail
        refine (Wh.out _).mono ?_
        rintro e w1 ⟨rfl, rfl⟩
        go_wp2_with fail
        go_ret
        exact ⟨rfl, hb0⟩
      | true =>
        have d1 : ((n : Int) == (a : Int) * b) = true := by rw [beq_iff_eq]; simpa using hq3
        clear hq3
        go_enter Tryd.func11, Tryd.ntmps11
        go_wp2_with fail
        refine (Wi.out _).mono ?_
        rintro e w1 ⟨rfl, rfl⟩
        go_wp2_with fail
        refine (Wh.out _).mono ?_
        rintro e w1 ⟨rfl, rfl⟩
        go_wp2_with fail
        refine (rall_any A n c l _ _ hs (by omega) (by omega)).mono ?_
        rintro e w1 ⟨rfl, rfl⟩
        go_wp2
        go_ret
        exact ⟨rfl, hb0⟩
end Go.Proofs.YtmijnbjlhnpokaaDoor
