/- Where the motions of a picture bring its pixels. No program in sight. No condition. -/
import Derived.Test.YtahccnljckgjmaaPSq
namespace Go.Proofs.Ytahccnljckgjmaa
open Go.RowKit Ls

/-- The list when the first q numbers of l have been stored at their places. -/
def movTo (pos : Nat → Nat) (l : List Int) : Nat → List Int
  | 0 => List.replicate l.length 0
  | q + 1 => (movTo pos l q).set (pos q) (nth l q)
theorem movTo_len (pos : Nat → Nat) (l : List Int) (q : Nat) : (movTo pos l q).length = l.length := by
  induction q with
  | zero => simp [movTo]
  | succ q ih => simp [movTo, ih]
/-- The places' coordinates: motion t, sides a and b, index i. -/
def mvx (t a b i : Nat) : Nat := match t with | 0 => i % a | 1 => b - 1 - i / a | 2 => a - 1 - i % a | 3 => i / a | _ => a - 1 - i % a
def mvy (t a b i : Nat) : Nat := match t with | 0 => i / a | 1 => i % a | 2 => b - 1 - i / a | 3 => a - 1 - i % a | _ => i / a
/-- The sides behind a motion. -/
def mvw (t a b : Nat) : Nat := match t with | 1 => b | 3 => b | _ => a
def mvh (t a b : Nat) : Nat := match t with | 1 => a | 3 => a | _ => b
def mpos (t a b i : Nat) : Nat := mvx t a b i + mvw t a b * mvy t a b i
theorem mv_lt {t a b i : Nat} (ht : t < 5) (ha : 1 ≤ a) (hi : i < a * b) : mvx t a b i < mvw t a b ∧ mvy t a b i < mvh t a b ∧ i % a < a ∧ i / a < b ∧ mpos t a b i < a * b := by
  have h1 : i % a < a := Nat.mod_lt _ ha
  have h2 : i / a < b := Nat.div_lt_of_lt_mul hi
  have h3 : mvx t a b i < mvw t a b ∧ mvy t a b i < mvh t a b := by
    have : t = 0 ∨ t = 1 ∨ t = 2 ∨ t = 3 ∨ t = 4 := by omega
    rcases this with rfl | rfl | rfl | rfl | rfl <;> (simp only [mvx, mvy, mvw, mvh]; generalize i % a = r at *; generalize i / a = s at *; omega)
  refine ⟨h3.1, h3.2, h1, h2, ?_⟩
  have h4 : mvw t a b * mvh t a b = a * b := by
    have : t = 0 ∨ t = 1 ∨ t = 2 ∨ t = 3 ∨ t = 4 := by omega
    rcases this with rfl | rfl | rfl | rfl | rfl <;> simp only [mvw, mvh] <;> first | rfl | exact Nat.mul_comm _ _
  unfold mpos
  have h5 : mvw t a b * (mvy t a b i + 1) ≤ mvw t a b * mvh t a b := Nat.mul_le_mul_left _ h3.2
  rw [Nat.mul_add] at h5
  omega

def movE (W H : Int) (l : List Int) : Int := if validP W H l then 0 else 1
/-- A picture behind a motion. -/
def movR (t : Nat) (W H : Int) (l : List Int) : Int × Int × List Int := if validP W H l then (((mvw t W.toNat H.toNat : Nat) : Int), ((mvh t W.toNat H.toNat : Nat) : Int), movTo (mpos t W.toNat H.toNat) l l.length) else (0, 0, [])
theorem i64_and3 (n : Int) : bits .and .i64 n 3 = n % 4 := by
  have h3 : (BitVec.ofInt 64 3).toNat = 2 ^ 2 - 1 := by decide
  have key : (BitVec.ofInt 64 n &&& BitVec.ofInt 64 3).toNat = (n % ((2 ^ 64 : Nat) : Int)).toNat % 2 ^ 2 := by
    rw [BitVec.toNat_and, BitVec.toNat_ofInt, h3, Nat.and_two_pow_sub_one_eq_mod]
  show IntKind.i64.wrap ((BitVec.ofInt 64 n &&& BitVec.ofInt 64 3).toNat : Nat) = n % 4
  rw [key, IntKind.wrap_i64]
  omega
/-- Which motion a number of quarters is. -/
def quart (q : Int) : Nat := (q % 4).toNat

/-- k numbers of l, each from its place. -/
def srcL (src : Nat → Nat) (l : List Int) (k : Nat) : List Int := (List.range k).map fun i => nth l (src i)
theorem srcL_len (src : Nat → Nat) (l : List Int) (k : Nat) : (srcL src l k).length = k := by simp [srcL]
theorem srcL_snoc (src : Nat → Nat) (l : List Int) (k : Nat) : srcL src l (k + 1) = srcL src l k ++ [nth l (src k)] := by simp [srcL, List.range_succ]
theorem srcL_nth (src : Nat → Nat) (l : List Int) (k i : Nat) (h : i < k) : nth (srcL src l k) i = nth l (src i) := by simp [srcL, nth, h]
/-- Where a pixel of the mirrored picture comes from. -/
def mirP (a i : Nat) : Nat := (a - 1 - i % a) + a * (i / a)
def rmirR (W H : Int) (l : List Int) : Int × Int × List Int := if validP W H l then (W, H, srcL (mirP W.toNat) l l.length) else (0, 0, [])
/-- Where a pixel of the turned picture, of sides b and a, comes from. -/
def rotP (a b i : Nat) : Nat := i / b + a * (b - 1 - i % b)
/-- A picture turned k times by a quarter. -/
def rotN (a b : Nat) (l : List Int) : Nat → Nat × Nat × List Int
  | 0 => (a, b, l)
  | k + 1 => ((rotN a b l k).2.1, (rotN a b l k).1, srcL (rotP (rotN a b l k).1 (rotN a b l k).2.1) (rotN a b l k).2.2 l.length)
def rturnR (q : Nat) (W H : Int) (l : List Int) : Int × Int × List Int := if validP W H l then (((rotN W.toNat H.toNat l q).1 : Int), ((rotN W.toNat H.toNat l q).2.1 : Int), (rotN W.toNat H.toNat l q).2.2) else (0, 0, [])

theorem rotN_ok (a b : Nat) (l : List Int) (h : l.length = a * b) (k : Nat) : (rotN a b l k).1 * (rotN a b l k).2.1 = a * b ∧ (rotN a b l k).2.2.length = a * b ∧ ((rotN a b l k).1 = a ∧ (rotN a b l k).2.1 = b ∨ (rotN a b l k).1 = b ∧ (rotN a b l k).2.1 = a) := by
  induction k with
  | zero => exact ⟨rfl, h, .inl ⟨rfl, rfl⟩⟩
  | succ k ih =>
    obtain ⟨i1, i2, i3⟩ := ih
    refine ⟨?_, ?_, ?_⟩
    · show (rotN a b l k).2.1 * (rotN a b l k).1 = a * b
      rw [Nat.mul_comm]; exact i1
    · show (srcL _ _ l.length).length = a * b
      rw [srcL_len, h]
    · show (rotN a b l k).2.1 = a ∧ (rotN a b l k).1 = b ∨ (rotN a b l k).2.1 = b ∧ (rotN a b l k).1 = a
      rcases i3 with ⟨e1, e2⟩ | ⟨e1, e2⟩
      · exact .inr ⟨e2, e1⟩
      · exact .inl ⟨e2, e1⟩

end Go.Proofs.Ytahccnljckgjmaa
