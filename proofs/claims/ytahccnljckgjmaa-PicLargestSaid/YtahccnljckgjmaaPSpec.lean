/- What the functions of pic and lightsieveref01 compute: bounds, powers, places. No program in sight. No condition. -/
import Derived.Test.YtahccnljckgjmaaMSpec
import Derived.Test.YtahccnljckgjmaaOnes
namespace Go.Proofs.Ytahccnljckgjmaa
open Go.RowKit Ls

def bndB (most : Int) (l : List Int) : Bool := l.all fun n => inB n (-most) most
def powB (n : Int) : Bool := inB n 1 256 && decide (popc 9 n.toNat = 1)
def vlistB (l : List Int) : Bool := inB l.length 1 256 && bndB 1000000 l
def powerB (l : List Int) : Bool := vlistB l && powB l.length
def validP (W H : Int) (l : List Int) : Bool := inB W 1 16 && inB H 1 16 && decide ((l.length : Int) = W * H) && bndB 1000000 l

theorem pow_small : ∀ n : Nat, n < 257 → (popc 9 n == 1) = decide (n ∈ [1, 2, 4, 8, 16, 32, 64, 128, 256]) := by decide +kernel
theorem and_pow : ∀ n : Nat, n < 257 → 1 ≤ n → (bits BinOp.and IntKind.i64 n ((n : Int) - 1) == 0) = decide (popc 9 n = 1) := by decide +kernel
theorem powB_of {n : Nat} (h : powB n = true) : ∃ M, M ≤ 8 ∧ n = 2 ^ M := by
  unfold powB at h
  rw [Bool.and_eq_true, inB_iff, decide_eq_true_iff, Int.toNat_natCast] at h
  have h1 := pow_small n (by omega)
  rw [h.2] at h1
  have h2 : n ∈ [1, 2, 4, 8, 16, 32, 64, 128, 256] := by simpa using h1.symm
  have h3 : n = 1 ∨ n = 2 ∨ n = 4 ∨ n = 8 ∨ n = 16 ∨ n = 32 ∨ n = 64 ∨ n = 128 ∨ n = 256 := by simpa using h2
  rcases h3 with rfl | rfl | rfl | rfl | rfl | rfl | rfl | rfl | rfl
  · exact ⟨0, by omega, rfl⟩
  · exact ⟨1, by omega, rfl⟩
  · exact ⟨2, by omega, rfl⟩
  · exact ⟨3, by omega, rfl⟩
  · exact ⟨4, by omega, rfl⟩
  · exact ⟨5, by omega, rfl⟩
  · exact ⟨6, by omega, rfl⟩
  · exact ⟨7, by omega, rfl⟩
  · exact ⟨8, by omega, rfl⟩
theorem bnd_nth {most : Int} {l : List Int} (h : bndB most l = true) (k : Nat) (hk : k < l.length) : -most ≤ nth l k ∧ nth l k ≤ most := by
  have := all_nth h k hk; rwa [inB_iff] at this
theorem vlist_iff {l : List Int} : vlistB l = true ↔ 1 ≤ l.length ∧ l.length ≤ 256 ∧ bndB 1000000 l = true := by
  unfold vlistB; rw [Bool.and_eq_true, inB_iff]
  constructor
  · rintro ⟨h1, h2⟩; exact ⟨by omega, by omega, h2⟩
  · rintro ⟨h1, h2, h3⟩; exact ⟨by omega, h3⟩
theorem validP_iff {W H : Int} {l : List Int} : validP W H l = true ↔ (1 ≤ W ∧ W ≤ 16) ∧ (1 ≤ H ∧ H ≤ 16) ∧ (l.length : Int) = W * H ∧ bndB 1000000 l = true := by
  unfold validP; rw [Bool.and_eq_true, Bool.and_eq_true, Bool.and_eq_true, inB_iff, inB_iff, decide_eq_true_iff]; constructor <;> (intro h; simp_all)

def atE (W H : Int) (l : List Int) (x y : Int) : Int := if validP W H l then (if inB x 0 (W - 1) && inB y 0 (H - 1) then 0 else 7) else 1
def atV (W H : Int) (l : List Int) (x y : Int) : Int := if atE W H l x y = 0 then nth l (x + W * y).toNat else 0
/-- What a valid picture gives. -/
structure IsPic (W H : Int) (l : List Int) (a b : Nat) : Prop where
  wide : W = (a : Int)
  high : H = (b : Int)
  w1 : 1 ≤ a
  w2 : a ≤ 16
  h1 : 1 ≤ b
  h2 : b ≤ 16
  len : l.length = a * b
  le : l.length ≤ 256
  small : ∀ k, k < l.length → -1000000 ≤ nth l k ∧ nth l k ≤ 1000000
theorem IsPic.of {W H : Int} {l : List Int} (h : validP W H l = true) : ∃ a b, IsPic W H l a b := by
  rw [validP_iff] at h
  obtain ⟨⟨h1, h2⟩, ⟨h3, h4⟩, h5, h6⟩ := h
  obtain ⟨a, rfl⟩ := Int.eq_ofNat_of_zero_le (show 0 ≤ W by omega)
  obtain ⟨b, rfl⟩ := Int.eq_ofNat_of_zero_le (show 0 ≤ H by omega)
  have h7 : l.length = a * b := by
    have : ((a * b : Nat) : Int) = (a : Int) * b := by simp
    omega
  have hab : a * b ≤ 16 * 16 := Nat.mul_le_mul (by omega) (by omega)
  exact ⟨a, b, rfl, rfl, by omega, by omega, by omega, by omega, h7, by omega, fun k hk => bnd_nth h6 k hk⟩

def pairE (W H : Int) (l : List Int) (W' H' : Int) (l' : List Int) : Int := if validP W H l && validP W' H' l' then (if decide (W = W') && decide (H = H') then 0 else 9) else 1
/-- The sums of the first k numbers of two lists. -/
def addL (a b : List Int) (k : Nat) : List Int := (List.range k).map fun i => wrap64 (nth a i + nth b i)
theorem addL_len (a b : List Int) (k : Nat) : (addL a b k).length = k := by simp [addL]
theorem addL_snoc (a b : List Int) (k : Nat) : addL a b (k + 1) = addL a b k ++ [wrap64 (nth a k + nth b k)] := by simp [addL, List.range_succ]
/-- The first list when k numbers of the second have been added. -/
def addTo (a b : List Int) (k : Nat) : List Int := addL a b k ++ a.drop k
theorem addTo_len (a b : List Int) (k : Nat) (_h : k ≤ a.length) : (addTo a b k).length = a.length := by simp [addTo, addL_len]; omega
theorem addTo_nth (a b : List Int) (k : Nat) (_h : k < a.length) : nth (addTo a b k) k = nth a k := by
  unfold addTo nth
  rw [List.getD_eq_getElem?_getD, List.getElem?_append_right (by rw [addL_len]; exact Nat.le_refl _)]
  simp [addL_len]
theorem addTo_snoc (a b : List Int) (k : Nat) (h : k < a.length) : addTo a b (k + 1) = (addTo a b k).set k (wrap64 (nth a k + nth b k)) := by
  unfold addTo
  rw [List.set_append_right _ _ (by rw [addL_len]; exact Nat.le_refl _), addL_snoc]
  have e : a.drop k = nth a k :: a.drop (k + 1) := by rw [nth_eq a k h]; exact List.drop_eq_getElem_cons h
  rw [e]
  simp [addL_len]
theorem addTo_all (a b : List Int) : addTo a b a.length = addL a b a.length := by simp [addTo]
def addE (W H : Int) (l : List Int) (W' H' : Int) (l' : List Int) : Int := if pairE W H l W' H' l' = 0 then (if validP W H (addL l l' l.length) then 0 else 4) else pairE W H l W' H' l'
def addR (W H : Int) (l : List Int) (W' H' : Int) (l' : List Int) : Int × Int × List Int := if addE W H l W' H' l' = 0 then (W, H, addL l l' l.length) else (0, 0, [])
/-- The indexes below k at which two lists differ. -/
def diffL (a b : List Int) : Nat → List Int
  | 0 => []
  | k + 1 => if nth a k = nth b k then diffL a b k else diffL a b k ++ [(k : Int)]
theorem diffL_len (a b : List Int) (k : Nat) : (diffL a b k).length ≤ k := by
  induction k with
  | zero => exact Nat.le_refl _
  | succ k ih => rw [diffL]; split <;> (try simp) <;> omega
def diffR (W H : Int) (l : List Int) (W' H' : Int) (l' : List Int) : List Int := if pairE W H l W' H' l' = 0 then diffL l l' l.length else []
/-- What two pictures of one size give. -/
theorem pair_ok {W H W' H' : Int} {l l' : List Int} (h : pairE W H l W' H' l' = 0) : validP W H l = true ∧ validP W' H' l' = true ∧ W = W' ∧ H = H' ∧ l.length = l'.length := by
  unfold pairE at h
  split at h
  · rename_i h1
    split at h
    · rename_i h2
      rw [Bool.and_eq_true] at h1 h2
      rw [decide_eq_true_iff, decide_eq_true_iff] at h2
      refine ⟨h1.1, h1.2, h2.1, h2.2, ?_⟩
      have h3 := (validP_iff.1 h1.1).2.2.1
      have h4 := (validP_iff.1 h1.2).2.2.1
      rw [h2.1, h2.2, ← h4] at h3
      omega
    · omega
  · omega

end Go.Proofs.Ytahccnljckgjmaa
