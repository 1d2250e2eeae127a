/- The motions of pic are those of the reference. No program in sight. No condition. -/
import Derived.Test.YtahccnljckgjmaaPMovSpec
namespace Go.Proofs.Ytahccnljckgjmaa
open Go.RowKit Ls

/-- Where a pixel of a moved picture comes from. -/
def msrc (t a b i : Nat) : Nat := match t with | 0 => i | 1 => rotP a b i | 2 => rotP a b (rotP b a i) | 3 => rotP a b (rotP b a (rotP a b i)) | _ => mirP a i

/-- All that is to be looked through: the sources undo the places. -/
def mvOk (t a b : Nat) : Bool := (List.range (a * b)).all fun i => Nat.blt (mpos t a b i) (a * b) && Nat.beq (msrc t a b (mpos t a b i)) i && Nat.blt (msrc t a b i) (a * b) && Nat.beq (mpos t a b (msrc t a b i)) i
def mvAll : Bool := (List.range 17).all fun a => (List.range 17).all fun b => Nat.beq a 0 || Nat.beq b 0 || (mvOk 0 a b && mvOk 1 a b && mvOk 2 a b && mvOk 3 a b && mvOk 4 a b)
theorem mvAll_true : mvAll = true := by decide +kernel
theorem mv_ok {t a b : Nat} (ht : t < 5) (ha1 : 1 ≤ a) (ha2 : a ≤ 16) (hb1 : 1 ≤ b) (hb2 : b ≤ 16) (i : Nat) (hi : i < a * b) : mpos t a b i < a * b ∧ msrc t a b (mpos t a b i) = i ∧ msrc t a b i < a * b ∧ mpos t a b (msrc t a b i) = i := by
  have h := mvAll_true
  unfold mvAll at h
  have h1 := List.all_eq_true.1 h a (List.mem_range.2 (by omega))
  have h2 := List.all_eq_true.1 h1 b (List.mem_range.2 (by omega))
  simp only [Bool.or_eq_true, Nat.beq_eq, Bool.and_eq_true] at h2
  have h3 : mvOk t a b = true := by
    rcases h2 with (h2 | h2) | ⟨⟨⟨⟨h4, h5⟩, h6⟩, h7⟩, h8⟩
    · omega
    · omega
    · have : t = 0 ∨ t = 1 ∨ t = 2 ∨ t = 3 ∨ t = 4 := by omega
      rcases this with rfl | rfl | rfl | rfl | rfl <;> assumption
  unfold mvOk at h3
  have h4 := List.all_eq_true.1 h3 i (List.mem_range.2 hi)
  simp only [Bool.and_eq_true, Nat.beq_eq, Nat.blt_eq] at h4
  exact ⟨h4.1.1.1, h4.1.1.2, h4.1.2, h4.2⟩

/-- What lies at a place when all has been stored. -/
theorem movTo_src {t a b : Nat} {l : List Int} (ht : t < 5) (ha1 : 1 ≤ a) (ha2 : a ≤ 16) (hb1 : 1 ≤ b) (hb2 : b ≤ 16) (hl : l.length = a * b) : movTo (mpos t a b) l l.length = srcL (msrc t a b) l l.length := by
  have key : ∀ q, q ≤ l.length → ∀ i, i < q → nth (movTo (mpos t a b) l q) (mpos t a b i) = nth l i := by
    intro q
    induction q with
    | zero => intro _ i hi; omega
    | succ q ih =>
      intro hq i hi
      have hq' := mv_ok ht ha1 ha2 hb1 hb2 q (by omega)
      rw [movTo]
      by_cases e : i = q
      · subst e
        rw [nth_set_eq _ _ _ (by rw [movTo_len]; omega)]
      · rw [nth_set_ne _ _ _ _ ?_, ih (by omega) i (by omega)]
        intro he
        have hi' := mv_ok ht ha1 ha2 hb1 hb2 i (by omega)
        apply e
        rw [← hi'.2.1, ← he, hq'.2.1]
  refine ext_nth (by rw [movTo_len, srcL_len]) fun i hi => ?_
  rw [movTo_len] at hi
  have hi' := mv_ok ht ha1 ha2 hb1 hb2 i (by omega)
  rw [srcL_nth _ _ _ _ hi]
  have := key l.length (Nat.le_refl _) (msrc t a b i) (by omega)
  rw [hi'.2.2.2] at this
  exact this

theorem srcL_comp (f g : Nat → Nat) (l : List Int) (n : Nat) (h : ∀ i, i < n → g i < n) : srcL g (srcL f l n) n = srcL (fun i => f (g i)) l n := by
  unfold srcL
  refine List.map_congr_left fun i hi => ?_
  rw [List.mem_range] at hi
  exact srcL_nth f l n (g i) (h i hi)

theorem rot_lt {a b i : Nat} (ha1 : 1 ≤ a) (ha2 : a ≤ 16) (hb1 : 1 ≤ b) (hb2 : b ≤ 16) (hi : i < a * b) : rotP a b i < a * b := (mv_ok (t := 1) (by omega) ha1 ha2 hb1 hb2 i hi).2.2.1

/-- Turning again and again is a motion at once. -/
theorem rotN_mov {t a b : Nat} {l : List Int} (ht : t < 4) (ha1 : 1 ≤ a) (ha2 : a ≤ 16) (hb1 : 1 ≤ b) (hb2 : b ≤ 16) (hl : l.length = a * b) : rotN a b l t = (mvw t a b, mvh t a b, srcL (msrc t a b) l l.length) := by
  have hl2 : l.length = b * a := by rw [hl, Nat.mul_comm]
  have r1 : ∀ i, i < l.length → rotP a b i < l.length := fun i hi => by rw [hl] at hi ⊢; exact rot_lt ha1 ha2 hb1 hb2 hi
  have r2 : ∀ i, i < l.length → rotP b a i < l.length := fun i hi => by rw [hl2] at hi ⊢; exact rot_lt hb1 hb2 ha1 ha2 hi
  have h0 : srcL (fun i => i) l l.length = l := by
    refine ext_nth (srcL_len _ _ _) fun i hi => ?_
    rw [srcL_len] at hi
    exact srcL_nth _ _ _ _ hi
  have : t = 0 ∨ t = 1 ∨ t = 2 ∨ t = 3 := by omega
  rcases this with rfl | rfl | rfl | rfl
  · show (a, b, l) = (a, b, srcL (fun i => i) l l.length)
    rw [h0]
  · rfl
  · show (a, b, srcL (rotP b a) (srcL (rotP a b) l l.length) l.length) = (a, b, _)
    rw [srcL_comp _ _ _ _ r2]
    rfl
  · show (b, a, srcL (rotP a b) (srcL (rotP b a) (srcL (rotP a b) l l.length) l.length) l.length) = (b, a, _)
    rw [srcL_comp (rotP a b) _ _ _ r2, srcL_comp _ _ _ _ r1]
    rfl

/-- pic's motions and the reference's. -/
theorem turn_same (q : Int) (W H : Int) (l : List Int) : rturnR (quart q) W H l = movR (quart q) W H l := by
  unfold rturnR movR
  cases hv : validP W H l with
  | false => rfl
  | true =>
    obtain ⟨a, b, hp⟩ := IsPic.of hv
    obtain ⟨rfl, rfl, h1, h2, h3, h4, h5, -, -⟩ := hp
    have hq : quart q < 4 := by unfold quart; omega
    simp only [if_true, Int.toNat_natCast]
    rw [rotN_mov hq h1 h2 h3 h4 h5, movTo_src (by omega) h1 h2 h3 h4 h5]
theorem mirror_same (W H : Int) (l : List Int) : rmirR W H l = movR 4 W H l := by
  unfold rmirR movR
  cases hv : validP W H l with
  | false => rfl
  | true =>
    obtain ⟨a, b, hp⟩ := IsPic.of hv
    obtain ⟨rfl, rfl, h1, h2, h3, h4, h5, -, -⟩ := hp
    simp only [if_true, Int.toNat_natCast]
    rw [movTo_src (by omega) h1 h2 h3 h4 h5]
    rfl

end Go.Proofs.Ytahccnljckgjmaa
