/- A picture halved: four pixels to one. No program in sight. No condition. -/
import Derived.Test.YtahccnljckgjmaaPMovSpec
namespace Go.Proofs.Ytahccnljckgjmaa
open Go.RowKit Ls

/-- The place of a pixel's quarter. -/
def hdst (a i : Nat) : Nat := i % a / 2 + a / 2 * (i / a / 2)
/-- The first pixel of a quarter. -/
def hsrc (a j : Nat) : Nat := 2 * (j % (a / 2)) + 2 * a * (j / (a / 2))
/-- The sums when the first q pixels have been added. -/
def accTo (a m : Nat) (l : List Int) : Nat → List Int
  | 0 => List.replicate m 0
  | q + 1 => (accTo a m l q).set (hdst a q) (nth (accTo a m l q) (hdst a q) + nth l q)
theorem nth_past (l : List Int) (k : Nat) (h : l.length ≤ k) : nth l k = 0 := by simp [nth, h]
theorem accTo_len (a m : Nat) (l : List Int) (q : Nat) : (accTo a m l q).length = m := by
  induction q with
  | zero => simp [accTo]
  | succ q ih => simp [accTo, ih]
/-- The first q sums shifted. -/
def halTo (l : List Int) : Nat → List Int
  | 0 => l
  | q + 1 => (halTo l q).set q (nth l q / 2 / 2)
theorem halTo_len (l : List Int) (q : Nat) : (halTo l q).length = l.length := by
  induction q with
  | zero => simp [halTo]
  | succ q ih => simp [halTo, ih]
theorem halTo_nth (l : List Int) (q i : Nat) (hi : i < l.length) : nth (halTo l q) i = if i < q then nth l i / 2 / 2 else nth l i := by
  induction q with
  | zero => simp [halTo]
  | succ q ih =>
    rw [halTo]
    by_cases e : q = i
    · subst e
      rw [nth_set_eq _ _ _ (by rw [halTo_len]; exact hi), if_pos (by omega)]
    · rw [nth_set_ne _ _ _ _ e, ih]
      by_cases h : i < q
      · rw [if_pos h, if_pos (by omega)]
      · rw [if_neg h, if_neg (by omega)]
theorem halTo_old (l : List Int) (q : Nat) (hq : q < l.length) : nth (halTo l q) q = nth l q := by rw [halTo_nth _ _ _ hq, if_neg (by omega)]
/-- The sums stay small. -/
theorem accTo_bnd {a m : Nat} {l : List Int} (hl : ∀ i, -1000000 ≤ nth l i ∧ nth l i ≤ 1000000) (q j : Nat) : -(1000000 * (q : Int)) ≤ nth (accTo a m l q) j ∧ nth (accTo a m l q) j ≤ 1000000 * (q : Int) := by
  induction q generalizing j with
  | zero =>
    have : nth (accTo a m l 0) j = 0 := by
      by_cases h : j < m
      · simp [accTo, nth, h]
      · exact nth_past _ _ (by rw [accTo_len]; omega)
    rw [this]
    omega
  | succ q ih =>
    rw [accTo]
    by_cases e : hdst a q = j
    · by_cases h : j < m
      · rw [e, nth_set_eq _ _ _ (by rw [accTo_len]; exact h)]
        have h1 := ih j
        have h2 := hl q
        omega
      · have : nth ((accTo a m l q).set (hdst a q) (nth (accTo a m l q) (hdst a q) + nth l q)) j = 0 := nth_past _ _ (by rw [List.length_set, accTo_len]; omega)
        rw [this]
        omega
    · rw [nth_set_ne _ _ _ _ e]
      have h1 := ih j
      omega
/-- The sum of a quarter's four pixels, shifted. -/
def quad (a : Nat) (l : List Int) (j : Nat) : Int := (nth l (hsrc a j) + nth l (hsrc a j + 1) + nth l (hsrc a j + a) + nth l (hsrc a j + a + 1)) / 4
def quadL (a : Nat) (l : List Int) (k : Nat) : List Int := (List.range k).map (quad a l)
theorem quadL_len (a : Nat) (l : List Int) (k : Nat) : (quadL a l k).length = k := by simp [quadL]
theorem quadL_snoc (a : Nat) (l : List Int) (k : Nat) : quadL a l (k + 1) = quadL a l k ++ [quad a l k] := by simp [quadL, List.range_succ]
theorem quadL_nth (a : Nat) (l : List Int) (k i : Nat) (h : i < k) : nth (quadL a l k) i = quad a l i := by simp [quadL, nth, h]

def evenP (W H : Int) : Bool := W.tmod 2 == 0 && H.tmod 2 == 0
def halE (W H : Int) (l : List Int) : Int := if validP W H l then (if evenP W H then 0 else 9) else 1
def halR (W H : Int) (l : List Int) : Int × Int × List Int := if validP W H l then (if evenP W H then (((W.toNat / 2 : Nat) : Int), ((H.toNat / 2 : Nat) : Int), halTo (accTo W.toNat (l.length / 4) l l.length) (l.length / 4)) else (0, 0, [])) else (0, 0, [])
def rhalR (W H : Int) (l : List Int) : Int × Int × List Int := if validP W H l then (if evenP W H then (((W.toNat / 2 : Nat) : Int), ((H.toNat / 2 : Nat) : Int), quadL W.toNat l (l.length / 4)) else (0, 0, [])) else (0, 0, [])

end Go.Proofs.Ytahccnljckgjmaa
