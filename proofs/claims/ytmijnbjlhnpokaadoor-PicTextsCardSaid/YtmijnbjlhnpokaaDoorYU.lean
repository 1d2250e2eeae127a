/- strings.IndexByte and strings.Cut at a line's end: contracts. No condition. -/
import Derived.Test.YtmijnbjlhnpokaaDoorYB
import Derived.Shelf.Strings.Search1
import Derived.Shelf.Lay
import Derived.Ground.NamesProg
set_option linter.unusedVariables false
set_option linter.unusedSimpArgs false
namespace Go.Proofs
open Go.Shelf
shelf_lay Lays.n217 Nm 217 at Tryd as Tryd.layLite
end Go.Proofs
namespace Go.Proofs.YtmijnbjlhnpokaaDoor
open Go Go.Proofs Go.RowKit Eng Ls Go.Shelf
abbrev tByte : Ty := .int .u8
def ixB (s : ByteArray) (c : Int) : Int := Lib.indexByte s.data.toList c.toNat.toUInt8
def sIx : FSpec := tspec true none [.str, tByte] [tInt] (fun _ => True) (fun x => (ixB x.1 x.2.1, ()))
theorem lite_meets : Meets Tryd.prog 37 sIx := meets_of ⟨_, _, Tryd.func37, rfl, rfl⟩ fun w m x vs hm _ hx => by
  obtain ⟨u, us, rfl, h1, u', us', rfl, h2, h3⟩ := hx
  obtain rfl : us' = [] := h3
  obtain rfl : u = .string x.1 := h1
  obtain rfl : u' = .int .u8 x.2.1 := h2
  refine (Any.stringslite_IndexByte Tryd.layLite x.1 x.2.1 w).mono fun e w' ⟨h1, h2⟩ => ⟨_, h1, by subst h2; exact Below.refl _ _, [_], rfl, _, _, rfl, rfl, rfl⟩
theorem indexByte_meets : Meets Tryd.prog 20 sIx := by
  refine meets (snd (SpecsOk.cons lite_meets (SpecsOk.nil _)) []) Tryd.func20 rfl rfl (fun x _ => none) (fun _ => by kernel_rfl) (by decide) ?_
  rintro ⟨s, c, ⟨⟩⟩ -
  revert s c
  intro (s : ByteArray) (c : Int)
  refine @by_vc _ (True/\ixB s c=ixB s c) (by kernel_rfl) ?_
  exact ⟨trivial, rfl⟩
def nlB : ByteArray := ⟨#[10]⟩
def cutR (s : ByteArray) : ByteArray × ByteArray × Bool := if 0 <= ixB s 10 then (s.extract 0 (ixB s 10).toNat, s.extract ((ixB s 10).toNat + 1) s.size, true) else (s, ⟨#[]⟩, false)
def sIndex : FSpec := tspec true none [.str, .str] [tInt] (fun x => x.2.1 = nlB) (fun x => (ixB x.1 10, ()))
theorem index_meets : Meets Tryd.prog 43 sIndex := by
  refine meets (snd (SpecsOk.cons lite_meets (SpecsOk.nil _)) []) Tryd.func43 rfl rfl (fun x _ => none) (fun _ => by kernel_rfl) (by decide) ?_
  rintro ⟨s, c, ⟨⟩⟩ h
  revert s c
  intro (s : ByteArray) (c : ByteArray) (h : c = nlB)
  subst h
  refine @by_vc _ ((((↑(1:Nat):Int) == (0:Int))=true->(0:Int)=ixB s (10:Int))/\(((↑(1:Nat):Int) == (0:Int))=false->(decide (nlB=s)=true->(0:Int)=ixB s (10:Int))/\(decide (nlB=s)=false->(((↑(1:Nat):Int) == (1:Int))=true->((0:Int) <= (0:Int)/\(0:Int) < (↑(1:Nat):Int))/\True/\ixB s (10:Int)=ixB s (10:Int))/\(((↑(1:Nat):Int) == (1:Int))=false->(decide ((↑(ByteArray.size s):Int) <= (↑(1:Nat):Int))=true->(-1:Int)=ixB s (10:Int))/\(decide ((↑(ByteArray.size s):Int) <= (↑(1:Nat):Int))=false->False))))) (by kernel_rfl) ?_
  refine ⟨(fun h => by cases h), fun _ => ⟨fun h => ?_, fun _ => ⟨fun _ => ⟨⟨by omega, by omega⟩, trivial, rfl⟩, (fun h => by cases h)⟩⟩⟩
  have h : nlB = s := of_decide_eq_true h
  subst h
  rfl
theorem ixL_lt (c : UInt8) : ∀ l : List UInt8, Lib.indexByte l c < l.length
  | [] => by show (-1 : Int) < 0; omega
  | b :: l => by
    have := ixL_lt c l
    unfold Lib.indexByte
    simp only [List.length_cons]
    split
    · omega
    · split <;> omega
theorem ixB_bd (s : ByteArray) (c : Int) : -1 <= ixB s c /\ ixB s c < s.size := by
  have h1 := Lib.indexByte_ge s.data.toList c.toNat.toUInt8
  have h2 := ixL_lt c.toNat.toUInt8 s.data.toList
  exact ⟨h1, h2⟩
def sCut : FSpec := tspec true none [.str, .str] [.str, .str, .bool] (fun x => x.2.1 = nlB /\ x.1.size <= 1000000) (fun x => ((cutR x.1).1, (cutR x.1).2.1, (cutR x.1).2.2, ()))
theorem liteCut_meets : Meets Tryd.prog 30 sCut := by
  refine meets (snd (SpecsOk.cons index_meets (SpecsOk.nil _)) []) Tryd.func30 rfl rfl (fun x _ => none) (fun _ => by kernel_rfl) (by decide) ?_
  rintro ⟨s, c, ⟨⟩⟩ h
  revert s c
  intro (s : ByteArray) (c : ByteArray) (h : c = nlB /\ s.size <= 1000000)
  obtain ⟨rfl, hs⟩ := h
  refine @by_vc _ (nlB=nlB/\(decide ((0:Int) <= ixB s (10:Int))=true->((0:Int) <= (0:Int)/\(0:Int) <= ixB s (10:Int)/\ixB s (10:Int) <= (↑(ByteArray.size s):Int))/\fits .i64 (ixB s (10:Int) + (↑(1:Nat):Int))/\((0:Int) <= ixB s (10:Int) + (↑(1:Nat):Int)/\ixB s (10:Int) + (↑(1:Nat):Int) <= (↑(ByteArray.size s):Int)/\(↑(ByteArray.size s):Int) <= (↑(ByteArray.size s):Int))/\Value.string (ByteArray.extract s (0:Nat) (Int.toNat (ixB s (10:Int))))=Value.string (Prod.fst (cutR s))/\Value.string (ByteArray.extract s (Int.toNat (ixB s (10:Int) + (↑(1:Nat):Int))) (Int.toNat (↑(ByteArray.size s):Int)))=Value.string (Prod.fst (Prod.snd (cutR s)))/\true=Prod.snd (Prod.snd (cutR s))/\True)/\(decide ((0:Int) <= ixB s (10:Int))=false->Value.string s=Value.string (Prod.fst (cutR s))/\Value.string { data := #[] }=Value.string (Prod.fst (Prod.snd (cutR s)))/\false=Prod.snd (Prod.snd (cutR s))/\True)) (by kernel_rfl) ?_
  have hb := ixB_bd s 10
  refine ⟨rfl, fun h => ?_, fun h => ?_⟩
  · have h : 0 <= ixB s 10 := of_decide_eq_true h
    have e : cutR s = (s.extract 0 (ixB s 10).toNat, s.extract ((ixB s 10).toNat + 1) s.size, true) := by unfold cutR; rw [if_pos h]
    rw [e]
    refine ⟨⟨by omega, h, by omega⟩, fits64 (by omega) (by omega), ⟨by omega, by omega, by omega⟩, rfl, ?_, rfl, trivial⟩
    show Value.string (s.extract (ixB s 10 + 1).toNat (s.size : Int).toNat) = Value.string (s.extract ((ixB s 10).toNat + 1) s.size)
    rw [show (ixB s 10 + 1).toNat = (ixB s 10).toNat + 1 by omega, Int.toNat_natCast]
  · have h : ¬ 0 <= ixB s 10 := of_decide_eq_false h
    have e : cutR s = (s, ⟨#[]⟩, false) := by unfold cutR; rw [if_neg h]
    rw [e]
    exact ⟨rfl, rfl, rfl, trivial⟩
theorem cut_meets : Meets Tryd.prog 15 sCut := by
  refine meets (snd (SpecsOk.cons liteCut_meets (SpecsOk.nil _)) []) Tryd.func15 rfl rfl (fun x _ => none) (fun _ => by kernel_rfl) (by decide) ?_
  rintro ⟨s, c, ⟨⟩⟩ h
  revert s c
  intro (s : ByteArray) (c : ByteArray) (h : c = nlB /\ s.size <= 1000000)
  obtain ⟨rfl, hs⟩ := h
  refine @by_vc _ ((nlB=nlB/\ByteArray.size s <= (1000000:Nat))/\Value.string (Prod.fst (cutR s))=Value.string (Prod.fst (cutR s))/\Value.string (Prod.fst (Prod.snd (cutR s)))=Value.string (Prod.fst (Prod.snd (cutR s)))/\Prod.snd (Prod.snd (cutR s))=Prod.snd (Prod.snd (cutR s))/\True) (by kernel_rfl) ?_
  exact ⟨⟨rfl, hs⟩, rfl, rfl, rfl, trivial⟩
end Go.Proofs.YtmijnbjlhnpokaaDoor
