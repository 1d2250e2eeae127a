/- What Seeded computes. No program in sight. No condition. -/
import Derived.Test.YtkkmlcengneomaaMSpec5
namespace Go.Proofs.Ytkkmlcengneomaa
open Go.RowKit Ls

def seedN (s : Nat) : Nat := s * 48271 % 2147483647
/-- The seed behind a number of steps. -/
def seedAt (s : Nat) : Nat → Nat
  | 0 => s
  | k + 1 => seedN (seedAt s k)
theorem seedN_lt (s : Nat) : seedN s < 2147483647 := Nat.mod_lt _ (by omega)
theorem seedAt_lt (s : Nat) (h : s < 2147483647) (k : Nat) : seedAt s k < 2147483647 := by
  cases k with
  | zero => exact h
  | succ k => exact seedN_lt _
def seedV (s k : Nat) : Int := ((seedAt s (k + 1) % 3 : Nat) : Int) - 1
def seedF (s pix i j : Nat) : Int := seedV s (i * pix + j)
def seedRow (s pix i q : Nat) : List Int := (List.range q).map fun j => seedV s (i * pix + j)
def seedL (s pix n : Nat) : List (List Int) := (List.range n).map fun i => seedRow s pix i pix
theorem seedRow_snoc (s pix i q : Nat) : seedRow s pix i (q + 1) = seedRow s pix i q ++ [seedV s (i * pix + q)] := by simp [seedRow, List.range_succ]
theorem seedL_snoc (s pix n : Nat) : seedL s pix (n + 1) = seedL s pix n ++ [seedRow s pix n pix] := by simp [seedL, List.range_succ]
theorem seedRow_len (s pix i q : Nat) : (seedRow s pix i q).length = q := by simp [seedRow]
theorem seedL_len (s pix n : Nat) : (seedL s pix n).length = n := by simp [seedL]

def seededE (s n p : Int) : Int := if inB s 1 2147483646 && inB n 1 6 && inB p 1 10 then 0 else 7
def seededR (s n p : Int) : List (List Int) := if seededE s n p = 0 then seedL s.toNat p.toNat n.toNat else []

end Go.Proofs.Ytkkmlcengneomaa
