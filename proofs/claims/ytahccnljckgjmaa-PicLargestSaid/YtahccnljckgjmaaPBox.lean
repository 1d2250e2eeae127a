/- Boxes that hold a picture, under stores elsewhere. No condition. -/
import Derived.Test.YtahccnljckgjmaaP8
namespace Go.Proofs.Ytahccnljckgjmaa
open Go.RowKit Ls

theorem PBox.other {w : World} {b : Nat} {W H : Int} {v : Value} (h : PBox w b W H v) (p : Addr) (hp : p.block ≠ b) (u : Value) : PBox (w.setCell p u) b W H v :=
  ⟨(World.cell?_setCell_other _ _ _ _ (by rintro rfl; exact hp rfl)).trans h.1, (World.cell?_setCell_other _ _ _ _ (by rintro rfl; exact hp rfl)).trans h.2.1, (World.cell?_setCell_other _ _ _ _ (by rintro rfl; exact hp rfl)).trans h.2.2⟩
theorem PBox.set2 {w : World} {b : Nat} {W H : Int} {v : Value} (h : PBox w b W H v) (u : Value) : PBox (w.setCell ⟨b, 2, none⟩ u) b W H u :=
  ⟨(World.cell?_setCell_other _ _ _ _ (by simp)).trans h.1, (World.cell?_setCell_other _ _ _ _ (by simp)).trans h.2.1, World.cell?_setCell_same' _ _ _ (by rw [h.2.2]; rfl)⟩
theorem PBox.drew {w : World} {b : Nat} {W H : Int} {v : Value} (h : PBox w b W H v) (n : Nat) : PBox (w.drewN n) b W H v := h
theorem SI.other {w : World} {A : Option Addr} {n c : Nat} {zs : List Int} (h : SI w A n c zs) (p : Addr) (hp : ∀ ad, A = some ad → p.block ≠ ad.block) (u : Value) : SI (w.setCell p u) A n c zs :=
  ⟨h.1, h.2.1, h.2.2.1, fun hn => by
    obtain ⟨ad, e, hc⟩ := h.2.2.2 hn
    refine ⟨ad, e, fun k hk => (World.cell?_setCell_other _ _ _ _ ?_).trans (hc k hk)⟩
    intro e2
    exact hp ad e (by rw [e2, block_add])⟩

/-- A block none of whose cells is frozen. -/
def FBox (w : World) (b : Nat) : Prop := b < w.heap.size ∧ ∀ o, w.frozen? ⟨b, o, none⟩ = false
theorem FBox.below {w w' : World} {b : Nat} (h : FBox w b) (hb : Below w.heap.size w w') : FBox w' b :=
  ⟨Nat.lt_of_lt_of_le h.1 hb.size, fun o => (hb.frozen (p := ⟨b, o, none⟩) h.1).trans (h.2 o)⟩
theorem FBox.new (w : World) (cs : Array Value) (t : TypeId) : FBox (w.alloc (.cells cs t)) w.heap.size := ⟨by simp, fun o => by simp⟩
theorem FBox.set {w : World} {b : Nat} (h : FBox w b) (p : Addr) (u : Value) : FBox (w.setCell p u) b := ⟨by simpa using h.1, fun o => (World.frozen?_setCell _ _ _ _).trans (h.2 o)⟩

theorem PBox.under {w w' : World} {b B : Nat} {W H : Int} {v : Value} (h : PBox w b W H v) (hb : Below B w w') (hB : b < B) : PBox w' b W H v :=
  ⟨(hb.cell (p := ⟨b, 0, none⟩) hB).trans h.1, (hb.cell (p := ⟨b, 1, none⟩) hB).trans h.2.1, (hb.cell (p := ⟨b, 2, none⟩) hB).trans h.2.2⟩
theorem FBox.under {w w' : World} {b B : Nat} (h : FBox w b) (hb : Below B w w') (hB : b < B) : FBox w' b :=
  ⟨Nat.lt_of_lt_of_le h.1 hb.size, fun o => (hb.frozen (p := ⟨b, o, none⟩) hB).trans (h.2 o)⟩

theorem PBox.set01 {w : World} {b : Nat} {W H : Int} {v : Value} (h : PBox w b W H v) (W' H' : Int) : PBox ((w.setCell ⟨b, 0, none⟩ (.int .i64 W')).setCell ⟨b, 1, none⟩ (.int .i64 H')) b W' H' v := by
  have h1 : (w.setCell ⟨b, 0, none⟩ (.int .i64 W')).cell? ⟨b, 0, none⟩ = some (.int .i64 W') := World.cell?_setCell_same' _ _ _ (by rw [h.1]; rfl)
  have h2 : (w.setCell ⟨b, 0, none⟩ (.int .i64 W')).cell? ⟨b, 1, none⟩ = some (.int .i64 H) := (World.cell?_setCell_other _ _ _ _ (by simp)).trans h.2.1
  have h3 : (w.setCell ⟨b, 0, none⟩ (.int .i64 W')).cell? ⟨b, 2, none⟩ = some v := (World.cell?_setCell_other _ _ _ _ (by simp)).trans h.2.2
  exact ⟨(World.cell?_setCell_other _ _ _ _ (by simp)).trans h1, World.cell?_setCell_same' _ _ _ (by rw [h2]; rfl), (World.cell?_setCell_other _ _ _ _ (by simp)).trans h3⟩
theorem PBox.set012 {w : World} {b : Nat} {W H : Int} {v : Value} (h : PBox w b W H v) (W' H' : Int) (v' : Value) : PBox (((w.setCell ⟨b, 0, none⟩ (.int .i64 W')).setCell ⟨b, 1, none⟩ (.int .i64 H')).setCell ⟨b, 2, none⟩ v') b W' H' v' := (h.set01 W' H').set2 v'

/-- A slice that lies in memory that a call has made. -/
def Fresh (w : World) (A : Option Addr) : Prop := ∀ ad, A = some ad → w.heap.size ≤ ad.block
theorem Fresh.none (w : World) : Fresh w none := fun ad e => by cases e
theorem Fresh.le {w w' : World} {A : Option Addr} (h : Fresh w' A) (hl : w.heap.size ≤ w'.heap.size) : Fresh w A := fun ad e => Nat.le_trans hl (h ad e)

theorem PBox.grown {w w' : World} {b : Nat} {W H : Int} {v : Value} {row : Option Nat} (h : PBox w b W H v) (hg : w.grownBy w' row) (hr : row ≠ some b) : PBox w' b W H v := by
  have hb := cell_lt h.1
  have e : w'.heap[b]? = w.heap[b]? := hg.block b hb (fun e => hr e.symm)
  exact ⟨(World.cell?_of_block (a := ⟨b, 0, none⟩) e).trans h.1, (World.cell?_of_block (a := ⟨b, 1, none⟩) e).trans h.2.1, (World.cell?_of_block (a := ⟨b, 2, none⟩) e).trans h.2.2⟩
theorem FBox.grown {w w' : World} {b : Nat} {row : Option Nat} (h : FBox w b) (hg : w.grownBy w' row) (hr : row ≠ some b) : FBox w' b :=
  ⟨Nat.lt_of_lt_of_le h.1 hg.size, fun o => (World.frozen?_of_block (a := ⟨b, o, none⟩) (hg.block b h.1 (fun e => hr e.symm))).trans (h.2 o)⟩
theorem undrewN {B k : Nat} {w w' : World} (h : Below B (w.drewN k) w') : Below B w w' := ⟨h.os, h.tape, h.output, h.size, h.block⟩
/-- Three cells, in later worlds. -/
theorem three_below {w w' : World} {B : Nat} {p1 p2 p3 : Addr} {v1 v2 v3 : Value} (h : w.cell? p1 = some v1 ∧ w.cell? p2 = some v2 ∧ w.cell? p3 = some v3) (hb : Below B w w') (h1 : p1.block < B) (h2 : p2.block < B) (h3 : p3.block < B) : w'.cell? p1 = some v1 ∧ w'.cell? p2 = some v2 ∧ w'.cell? p3 = some v3 :=
  ⟨(hb.cell h1).trans h.1, (hb.cell h2).trans h.2.1, (hb.cell h3).trans h.2.2⟩
theorem three_other {w : World} {p1 p2 p3 p : Addr} {v1 v2 v3 : Value} (h : w.cell? p1 = some v1 ∧ w.cell? p2 = some v2 ∧ w.cell? p3 = some v3) (h1 : p.block ≠ p1.block) (h2 : p.block ≠ p2.block) (h3 : p.block ≠ p3.block) (v : Value) : (w.setCell p v).cell? p1 = some v1 ∧ (w.setCell p v).cell? p2 = some v2 ∧ (w.setCell p v).cell? p3 = some v3 :=
  ⟨(World.cell?_setCell_other _ _ _ _ (by rintro rfl; exact h1 rfl)).trans h.1, (World.cell?_setCell_other _ _ _ _ (by rintro rfl; exact h2 rfl)).trans h.2.1, (World.cell?_setCell_other _ _ _ _ (by rintro rfl; exact h3 rfl)).trans h.2.2⟩

theorem SI.under {w w' : World} {A : Option Addr} {n c B : Nat} {zs : List Int} (h : SI w A n c zs) (hb : Below B w w') (hB : ∀ ad, A = some ad → ad.block < B) : SI w' A n c zs :=
  ⟨h.1, h.2.1, h.2.2.1, fun hn => by
    obtain ⟨ad, e, hc⟩ := h.2.2.2 hn
    exact ⟨ad, e, fun k hk => (hb.cell (by rw [block_add]; exact hB ad e)).trans (hc k hk)⟩⟩
theorem other3 {w : World} {b B : Nat} {W H : Int} {v : Value} (h : PBox w b W H v) (hne : B ≠ b) (x y z : Value) : PBox (((w.setCell ⟨B, 0, none⟩ x).setCell ⟨B, 1, none⟩ y).setCell ⟨B, 2, none⟩ z) b W H v :=
  ((h.other _ hne _).other _ hne _).other _ hne _

end Go.Proofs.Ytahccnljckgjmaa
