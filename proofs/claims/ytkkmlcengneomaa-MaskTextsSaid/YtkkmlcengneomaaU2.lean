/- strings.IndexByte and strings.Cut at a line's end: contracts. No condition. -/
import Derived.Test.YtkkmlcengneomaaU1
import Derived.Shelf.Strings.Search1
import Derived.Shelf.Lay
import Derived.Ground.NamesProg

set_option linter.unusedVariables false
set_option linter.unusedSimpArgs false
namespace Go.Proofs
open Go.Shelf
shelf_lay Lays.n217 Nm 217 at Try as Try.liteIndexByte
end Go.Proofs
namespace Go.Proofs.Ytkkmlcengneomaa
open Go Go.Proofs Go.RowKit Eng Ls Go.Shelf

abbrev tByte : Ty := .int .u8
/-- The place of a byte in a text; -1 if it is not there. -/
def ixB (s : ByteArray) (c : Int) : Int := Lib.indexByte s.data.toList c.toNat.toUInt8
def sIx : FSpec := tspec true none [.str, tByte] [tInt] (fun _ => True) (fun x => (ixB x.1 x.2.1, ()))
theorem lite_meets : Meets Try.prog 123 sIx := meets_of ⟨_, _, Try.func123, rfl, rfl⟩ fun w m x vs hm _ hx => by
  obtain ⟨u, us, rfl, h1, u', us', rfl, h2, h3⟩ := hx
  obtain rfl : us' = [] := h3
  obtain rfl : u = .string x.1 := h1
  obtain rfl : u' = .int .u8 x.2.1 := h2
  refine (Any.stringslite_IndexByte Try.liteIndexByte x.1 x.2.1 w).mono fun e w' ⟨h1, h2⟩ => ⟨_, h1, by subst h2; exact Below.refl _ _, [_], rfl, _, _, rfl, rfl, rfl⟩
theorem indexByte_meets : Meets Try.prog 101 sIx := by
  refine meets (snd (SpecsOk.cons lite_meets (SpecsOk.nil _)) []) Try.func101 rfl rfl (fun x _ => none) (fun _ => by kernel_rfl) (by decide) ?_
  rintro ⟨s, c, ⟨⟩⟩ -
  revert s c
  intro (s : ByteArray) (c : Int)
  refine by_vc (B := True ∧ ixB s c = ixB s c) (by kernel_rfl) ?_
  exact ⟨trivial, rfl⟩
def nlB : ByteArray := ⟨#[10]⟩
/-- A text up to the line's end, what is behind it, and whether there is one. -/
def cutR (s : ByteArray) : ByteArray × ByteArray × Bool := if 0 ≤ ixB s 10 then (s.extract 0 (ixB s 10).toNat, s.extract ((ixB s 10).toNat + 1) s.size, true) else (s, ⟨#[]⟩, false)
def sIndex : FSpec := tspec true none [.str, .str] [tInt] (fun x => x.2.1 = nlB) (fun x => (ixB x.1 10, ()))
theorem index_meets : Meets Try.prog 127 sIndex := by
  refine meets (snd (SpecsOk.cons lite_meets (SpecsOk.nil _)) []) Try.func127 rfl rfl (fun x _ => none) (fun _ => by kernel_rfl) (by decide) ?_
  rintro ⟨s, c, ⟨⟩⟩ h
  revert s c
  intro (s : ByteArray) (c : ByteArray) (h : c = nlB)
  subst h
  refine by_vc (B := (((↑(1 : Nat) : Int) == (0 : Int)) = Bool.true → (0 : Int) = ixB s (10 : Int)) ∧
  (((↑(1 : Nat) : Int) == (0 : Int)) = Bool.false →
    (Decidable.decide (nlB = s) = Bool.true → (0 : Int) = ixB s (10 : Int)) ∧
      (Decidable.decide (nlB = s) = Bool.false →
        (((↑(1 : Nat) : Int) == (1 : Int)) = Bool.true → ((0 : Int) ≤ (0 : Int) ∧ (0 : Int) < (↑(1 : Nat) : Int)) ∧ True ∧ ixB s (10 : Int) = ixB s (10 : Int)) ∧
          (((↑(1 : Nat) : Int) == (1 : Int)) = Bool.false → (Decidable.decide ((↑(ByteArray.size s) : Int) ≤ (↑(1 : Nat) : Int)) = Bool.true → (-1 : Int) = ixB s (10 : Int)) ∧ (Decidable.decide ((↑(ByteArray.size s) : Int) ≤ (↑(1 : Nat) : Int)) = Bool.false → False))))) (by kernel_rfl) ?_
  refine ⟨(fun h => by cases h), fun _ => ⟨fun h => ?_, fun _ => ⟨fun _ => ⟨⟨by omega, by omega⟩, trivial, rfl⟩, (fun h => by cases h)⟩⟩⟩
  have h : nlB = s := of_decide_eq_true h
  subst h
  rfl
theorem ixL_lt (c : UInt8) : ∀ l : List UInt8, Lib.indexByte l c < l.length
  | [] => by show (-1 : Int) < 0; omega
  | b :: l => by
    have := ixL_lt c l
    unfold Lib.indexByte
    simp only [List.length_cons]
    split
    · omega
    · split <;> omega
theorem ixB_bd (s : ByteArray) (c : Int) : -1 ≤ ixB s c ∧ ixB s c < s.size := by
  have h1 := Lib.indexByte_ge s.data.toList c.toNat.toUInt8
  have h2 := ixL_lt c.toNat.toUInt8 s.data.toList
  exact ⟨h1, h2⟩
def sCut : FSpec := tspec true none [.str, .str] [.str, .str, .bool] (fun x => x.2.1 = nlB ∧ x.1.size ≤ 1000000) (fun x => ((cutR x.1).1, (cutR x.1).2.1, (cutR x.1).2.2, ()))
theorem liteCut_meets : Meets Try.prog 119 sCut := by
  refine meets (snd (SpecsOk.cons index_meets (SpecsOk.nil _)) []) Try.func119 rfl rfl (fun x _ => none) (fun _ => by kernel_rfl) (by decide) ?_
  rintro ⟨s, c, ⟨⟩⟩ h
  revert s c
  intro (s : ByteArray) (c : ByteArray) (h : c = nlB ∧ s.size ≤ 1000000)
  obtain ⟨rfl, hs⟩ := h
  refine by_vc (B := nlB = nlB ∧
  (Decidable.decide ((0 : Int) ≤ ixB s (10 : Int)) = Bool.true →
      ((0 : Int) ≤ (0 : Int) ∧ (0 : Int) ≤ ixB s (10 : Int) ∧ ixB s (10 : Int) ≤ (↑(ByteArray.size s) : Int)) ∧
        Eng.fits Go.IntKind.i64 (ixB s (10 : Int) + (↑(1 : Nat) : Int)) ∧
          ((0 : Int) ≤ ixB s (10 : Int) + (↑(1 : Nat) : Int) ∧ ixB s (10 : Int) + (↑(1 : Nat) : Int) ≤ (↑(ByteArray.size s) : Int) ∧ (↑(ByteArray.size s) : Int) ≤ (↑(ByteArray.size s) : Int)) ∧
            Go.Value.string (ByteArray.extract s (0 : Nat) (Int.toNat (ixB s (10 : Int)))) = Go.Value.string (Prod.fst (cutR s)) ∧
              Go.Value.string (ByteArray.extract s (Int.toNat (ixB s (10 : Int) + (↑(1 : Nat) : Int))) (Int.toNat (↑(ByteArray.size s) : Int))) = Go.Value.string (Prod.fst (Prod.snd (cutR s))) ∧ Bool.true = Prod.snd (Prod.snd (cutR s)) ∧ True) ∧
    (Decidable.decide ((0 : Int) ≤ ixB s (10 : Int)) = Bool.false → Go.Value.string s = Go.Value.string (Prod.fst (cutR s)) ∧ Go.Value.string { data := #[] } = Go.Value.string (Prod.fst (Prod.snd (cutR s))) ∧ Bool.false = Prod.snd (Prod.snd (cutR s)) ∧ True)) (by kernel_rfl) ?_
  have hb := ixB_bd s 10
  refine ⟨rfl, fun h => ?_, fun h => ?_⟩
  · have h : 0 ≤ ixB s 10 := of_decide_eq_true h
    have e : cutR s = (s.extract 0 (ixB s 10).toNat, s.extract ((ixB s 10).toNat + 1) s.size, true) := by unfold cutR; rw [if_pos h]
    rw [e]
    refine ⟨⟨by omega, h, by omega⟩, fits64 (by omega) (by omega), ⟨by omega, by omega, by omega⟩, rfl, ?_, rfl, trivial⟩
    show Value.string (s.extract (ixB s 10 + 1).toNat (s.size : Int).toNat) = Value.string (s.extract ((ixB s 10).toNat + 1) s.size)
    rw [show (ixB s 10 + 1).toNat = (ixB s 10).toNat + 1 by omega, Int.toNat_natCast]
  · have h : ¬ 0 ≤ ixB s 10 := of_decide_eq_false h
    have e : cutR s = (s, ⟨#[]⟩, false) := by unfold cutR; rw [if_neg h]
    rw [e]
    exact ⟨rfl, rfl, rfl, trivial⟩
theorem cut_meets : Meets Try.prog 99 sCut := by
  refine meets (snd (SpecsOk.cons liteCut_meets (SpecsOk.nil _)) []) Try.func99 rfl rfl (fun x _ => none) (fun _ => by kernel_rfl) (by decide) ?_
  rintro ⟨s, c, ⟨⟩⟩ h
  revert s c
  intro (s : ByteArray) (c : ByteArray) (h : c = nlB ∧ s.size ≤ 1000000)
  obtain ⟨rfl, hs⟩ := h
  refine by_vc (B := (nlB = nlB ∧ ByteArray.size s ≤ (1000000 : Nat)) ∧
  Go.Value.string (Prod.fst (cutR s)) = Go.Value.string (Prod.fst (cutR s)) ∧
    Go.Value.string (Prod.fst (Prod.snd (cutR s))) = Go.Value.string (Prod.fst (Prod.snd (cutR s))) ∧ Prod.snd (Prod.snd (cutR s)) = Prod.snd (Prod.snd (cutR s)) ∧ True) (by kernel_rfl) ?_
  exact ⟨⟨rfl, hs⟩, rfl, rfl, rfl, trivial⟩
end Go.Proofs.Ytkkmlcengneomaa
