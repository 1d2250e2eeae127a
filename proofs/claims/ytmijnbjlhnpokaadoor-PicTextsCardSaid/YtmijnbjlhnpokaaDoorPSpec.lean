/- What the functions of pic and lightsieveref01 compute: bounds, powers, places. No program in sight. No condition. -/
import Derived.Test.YtmijnbjlhnpokaaDoorMSpec
import Derived.Test.YtmijnbjlhnpokaaDoorOnes
namespace Go.Proofs.YtmijnbjlhnpokaaDoor
open Go.RowKit Ls
def bndB (most : Int) (l : List Int) : Bool := l.all fun n => inB n (-most) most
def powB (n : Int) : Bool := inB n 1 256 && decide (popc 9 n.toNat = 1)
def vlistB (l : List Int) : Bool := inB l.length 1 256 && bndB 1000000 l
def powerB (l : List Int) : Bool := vlistB l && powB l.length
def validP (W H : Int) (l : List Int) : Bool := inB W 1 16 && inB H 1 16 && decide ((l.length : Int) = W * H) && bndB 1000000 l
theorem pow_small : ∀ n : Nat, n < 257 -> (popc 9 n == 1) = decide (n ∈ [1, 2, 4, 8, 16, 32, 64, 128, 256]) := by decide +kernel
theorem powB_of {n : Nat} (h : powB n = true) : ∃ M, M <= 8 /\ n = 2 ^ M := by
  unfold powB at h
  rw [Bool.and_eq_true, inB_iff, decide_eq_true_iff, Int.toNat_natCast] at h
  have h1 := pow_small n (by omega)
  rw [h.2] at h1
  have h2 : n ∈ [1, 2, 4, 8, 16, 32, 64, 128, 256] := by simpa using h1.symm
  have h3 : n = 1 \/ n = 2 \/ n = 4 \/ n = 8 \/ n = 16 \/ n = 32 \/ n = 64 \/ n = 128 \/ n = 256 := by simpa using h2
  rcases h3 with rfl | rfl | rfl | rfl | rfl | rfl | rfl | rfl | rfl
  · exact ⟨0, by omega, rfl⟩
  · exact ⟨1, by omega, rfl⟩
  · exact ⟨2, by omega, rfl⟩
  · exact ⟨3, by omega, rfl⟩
  · exact ⟨4, by omega, rfl⟩
  · exact ⟨5, by omega, rfl⟩
  · exact ⟨6, by omega, rfl⟩
  · exact ⟨7, by omega, rfl⟩
  · exact ⟨8, by omega, rfl⟩
theorem bnd_nth {most : Int} {l : List Int} (h : bndB most l = true) (k : Nat) (hk : k < l.length) : -most <= nth l k /\ nth l k <= most := by
  have := all_nth h k hk; rwa [inB_iff] at this
theorem vlist_iff {l : List Int} : vlistB l = true ↔ 1 <= l.length /\ l.length <= 256 /\ bndB 1000000 l = true := by
  unfold vlistB; rw [Bool.and_eq_true, inB_iff]
  constructor
  · rintro ⟨h1, h2⟩; exact ⟨by omega, by omega, h2⟩
  · rintro ⟨h1, h2, h3⟩; exact ⟨by omega, h3⟩
theorem validP_iff {W H : Int} {l : List Int} : validP W H l = true ↔ (1 <= W /\ W <= 16) /\ (1 <= H /\ H <= 16) /\ (l.length : Int) = W * H /\ bndB 1000000 l = true := by
  unfold validP; rw [Bool.and_eq_true, Bool.and_eq_true, Bool.and_eq_true, inB_iff, inB_iff, decide_eq_true_iff]; constructor <;> (intro h; simp_all)
structure IsPic (W H : Int) (l : List Int) (a b : Nat) : Prop where
  wide : W = (a : Int)
  high : H = (b : Int)
  w1 : 1 <= a
  w2 : a <= 16
  h1 : 1 <= b
  h2 : b <= 16
  len : l.length = a * b
  le : l.length <= 256
  small : ∀ k, k < l.length -> -1000000 <= nth l k /\ nth l k <= 1000000
theorem IsPic.of {W H : Int} {l : List Int} (h : validP W H l = true) : ∃ a b, IsPic W H l a b := by
  rw [validP_iff] at h
  obtain ⟨⟨h1, h2⟩, ⟨h3, h4⟩, h5, h6⟩ := h
  obtain ⟨a, rfl⟩ := Int.eq_ofNat_of_zero_le (show 0 <= W by omega)
  obtain ⟨b, rfl⟩ := Int.eq_ofNat_of_zero_le (show 0 <= H by omega)
  have h7 : l.length = a * b := by
    have : ((a * b : Nat) : Int) = (a : Int) * b := by simp
    omega
  have hab : a * b <= 16 * 16 := Nat.mul_le_mul (by omega) (by omega)
  exact ⟨a, b, rfl, rfl, by omega, by omega, by omega, by omega, h7, by omega, fun k hk => bnd_nth h6 k hk⟩
end Go.Proofs.YtmijnbjlhnpokaaDoor
