/- strconv.Itoa, strconv.Atoi, strings.Split and strings.Join, by the shelf: contracts, under what start-up lays. No condition. -/
import Derived.Test.YtmijnbjlhnpokaaDoorYU
import Derived.Test.YtmijnbjlhnpokaaDoorY0
import Derived.Test.YtmijnbjlhnpokaaDoorBld
import Derived.Shelf.Strconv.Itoa3
import Derived.Shelf.Strconv.AtoiAll
import Derived.Shelf.Strings.SplitShaped
import Derived.Shelf.Strings.OnBuilder
import Derived.Lib.ItoaLen
import Derived.Lib.AppendIntMem
import Derived.RangeFuncRecord
import Derived.Shelf.Lay
import Derived.Ground.NamesProg
set_option linter.unusedVariables false
set_option linter.unusedSimpArgs false
namespace Go.Proofs
open Go.Shelf
shelf_lay LaysM.n171 Nm 171 at Tryd as Tryd.layItoa
shelf_lay LaysC.n172 Nm 172 at Tryd as Tryd.layAtoi
shelf_lay LaysM.n146 Nm 146 at Tryd as Tryd.laySplit
shelf_lay Lays.n156 Nm 156 at Tryd as Tryd.layJoin
theorem Tryd.extraJoin : Builder.Extra Tryd.prog Tryd.layJoin_ren where
  sizeBuilder := by kernel_rfl
  liesBuilder := by kernel_rfl
  t5 := Tryd.underlying5
  a5 := Tryd.isAgg5
  z5 := Tryd.sizeOf5
  v5 := Tryd.zeroValue5
  infoByte := by kernel_rfl
  cellsByte := by kernel_rfl
  sizeByte := by kernel_rfl
  neB5 := by decide
end Go.Proofs
namespace Eng
open Go Go.RowKit
variable {P : Program} {m0 : View}
theorem meetsAt_g {f : Nat} {ins : List Ty} {pre : argsTy ins -> Prop} {g : argsTy ins -> AV} (hc : Callable P f)
    (h : ∀ (w : World) (m : View) (x : argsTy ins) (vs : List Value), m.on w -> m0.on w -> pre x -> RdArgs m ins x vs -> Calls P f vs.toArray w fun e w' => ∃ v, e = .returned v /\ Below w.heap.size w w' /\ (g x).ok P (View.from w' w.heap.size) [] [v]) : MeetsAt P m0 f (gspec true none ins pre g) := by
  refine ⟨hc, fun w m args vs k hm hle hargs hrun => ?_⟩
  obtain ⟨x, ⟨hp, hk⟩, hx⟩ := takeArgs_rd hrun hargs
  refine (h w m x vs hm (fun b o hb => hm b o (hle b o hb)) hp hx).mono fun e w' ⟨v, e1, e2, e3⟩ => ⟨v, View.from w' w.heap.size, e1, e2, View.from_on _ _, fun b o hb => ?_, ?_⟩
  · unfold View.from at hb
    split at hb
    · assumption
    · cases hb
  · exact ⟨_, hk, e3⟩
end Eng
namespace Go.Proofs.YtmijnbjlhnpokaaDoor
open Go Go.Proofs Go.RowKit Eng Go.Shelf
structure Tab (m0 : View) : Prop where
  cells : Cells m0
  tab : ∀ w, m0.on w -> Lib.TabIs Tryd.prog w "internal/strconv.uint64pow10" .u64 Lib.pow10Tab
  ml : ∃ m, m0.cell ⟨Tryd.laySplit_ren.g 1, 0, none⟩ = some (.int .i64 m)
  es : ∃ ev, m0.cell ⟨Tryd.layAtoi_ren.g 15, 0, none⟩ = some ev /\ (ev = .nilIface \/ ∃ te pe, ev = .iface te pe)
  er : ∃ ev, m0.cell ⟨Tryd.layAtoi_ren.g 16, 0, none⟩ = some ev /\ (ev = .nilIface \/ ∃ te pe, ev = .iface te pe)
def itB (n : Int) : ByteArray := ⟨(Lib.itoa n).toArray⟩
theorem itB_size {n : Int} (h0 : -9223372036854775808 <= n) (h1 : n <= 9223372036854775807) : (itB n).size <= 21 := by
  have := Lib.itoa_length_le n h0 h1
  show (Lib.itoa n).toArray.size <= 21
  simpa using this
abbrev sItoa : FSpec := tspec true none [tInt] [.str] (fun x => -9223372036854775808 <= x.1 /\ x.1 <= 9223372036854775807) (fun x => (itB x.1, ()))
theorem itoa_at {m0 : View} (hT : Tab m0) : MeetsAt Tryd.prog m0 18 sItoa := meetsAt_of ⟨_, _, Tryd.func18, rfl, rfl⟩ fun w m x vs hm h0 hp hx => by
  obtain ⟨n, ⟨⟩⟩ := x
  obtain ⟨u, us, rfl, h1, h2⟩ := hx
  obtain rfl : us = [] := h2
  obtain rfl : u = .int .i64 n := h1
  exact (Any.strconv_Itoa Tryd.layItoa n hp.1 hp.2 w (hT.tab w h0)).mono fun e w' ⟨h1, k, os, h2⟩ => ⟨_, h1, by subst h2; exact Lib.below_grow w.heap.size w (Nat.le_refl _) k os, [_], rfl, _, _, rfl, rfl, rfl⟩
def numB (s : ByteArray) : Int := numL s.data.toList
def sAtoi : FSpec := gspec true none [.str] (fun x => x.1.size <= 1000000) (fun x => .tup (.cons (.lit (.int .i64 (numB x.1))) (.cons .any .nil)))
theorem atoi_at {m0 : View} (hT : Tab m0) : MeetsAt Tryd.prog m0 17 sAtoi := meetsAt_g ⟨_, _, Tryd.func17, rfl, rfl⟩ fun w m x vs hm h0 hp hx => by
  obtain ⟨s, ⟨⟩⟩ := x
  obtain ⟨u, us, rfl, h1, h2⟩ := hx
  obtain rfl : us = [] := h2
  obtain rfl : u = .string s := h1
  have hp : s.size <= 1000000 := hp
  have key : ∀ (n : Int) (e : Value), numB s = n -> ((AV.tup (.cons (.lit (.int .i64 (numB s))) (.cons .any .nil))).ok Tryd.prog (View.from w w.heap.size) [] [.tuple #[.int .i64 n, e]]) := fun n e hn => by
    subst hn
    exact ⟨[.int .i64 (numB s), e], rfl, _, _, rfl, rfl, _, _, rfl, ⟨e, rfl⟩, rfl⟩
  cases ha : Lib.atoiAll s.data.toList with
  | ok v =>
    refine (Any.strconv_Atoi_ok Tryd.layAtoi s (by omega) v ha w).mono fun e w' ⟨h1, h2⟩ => ⟨_, h1, ?_, key v _ (by unfold numB numL; rw [ha])⟩
    rcases h2 with rfl | ⟨t, rfl⟩
    · exact Below.refl _ _
    · exact Lib.bytesWorld_below _ _ _
  | «syntax» =>
    obtain ⟨ev, h3, h4⟩ := hT.es
    exact (Any.strconv_Atoi_syntax Tryd.layAtoi s (by omega) ha ev w (View.cell_on h0 h3) h4).mono fun e w' ⟨N, h1, _, _, h2⟩ => ⟨_, h1, h2, key 0 _ (by unfold numB numL; rw [ha])⟩
  | range =>
    obtain ⟨ev, h3, h4⟩ := hT.er
    exact (Any.strconv_Atoi_range Tryd.layAtoi s (by omega) ha ev w (View.cell_on h0 h3) h4).mono fun e w' ⟨N, h1, _, _, h2⟩ => ⟨_, h1, h2, key _ _ (by unfold numB numL; rw [ha])⟩
theorem numB_bd (s : ByteArray) : -9223372036854775808 <= numB s /\ numB s <= 9223372036854775807 := numL_bd _
abbrev tStrs : Ty := .list .str
def sSplit : FSpec := tspec true none [.str, .str] [tStrs] (fun x => x.1.size <= 1000000 /\ x.2.1 = blB) (fun x => (splB x.1, ()))
theorem split_at {m0 : View} (hT : Tab m0) : MeetsAt Tryd.prog m0 16 sSplit := meetsAt_of ⟨_, _, Tryd.func16, rfl, rfl⟩ fun w m x vs hm h0 hp hx => by
  obtain ⟨s, t, ⟨⟩⟩ := x
  obtain ⟨u, us, rfl, h1, u', us', rfl, h2, h3⟩ := hx
  obtain rfl : us' = [] := h3
  obtain rfl : u = .string s := h1
  obtain rfl : u' = .string t := h2
  obtain ⟨hp, rfl⟩ : s.size <= 1000000 /\ t = blB := hp
  obtain ⟨ml, h4⟩ := hT.ml
  have hl := splB_le s
  have hn : (splB s).length = Lib.countB s blB + 1 := Lib.splitB_all blB (by decide) 0 _ s rfl
  have hc := Any.strings_Split { Tryd.laySplit with } Tryd.laySplit.i9 s blB ml w (by omega) (View.cell_on h0 h4) (by decide)
  refine hc.mono fun e w' ⟨h1, h2⟩ => ⟨_, h1, by subst h2; exact Ls.below_alloc w _, [_], rfl, _, _, rfl, ⟨some ⟨w.heap.size, 0, none⟩, Lib.countB s blB + 1, by rw [hn], by rw [hn]; exact Nat.le_refl _, by rw [<- hn]; unfold maxLen; omega, fun _ => ⟨_, rfl, fun i hi => ⟨[.string (nthD .str (splB s) i)], rfl, fun j v hj => ?_⟩⟩⟩, rfl⟩
  obtain ⟨rfl, rfl⟩ : j = 0 /\ v = .string (nthD .str (splB s) i) := by
    cases j with
    | zero => exact ⟨rfl, (Option.some.inj hj).symm⟩
    | succ j => cases hj
  subst h2
  show (View.from _ w.heap.size).cell ((⟨w.heap.size, 0, none⟩ : Addr).add (i * 1 + 0)) = some (Value.string (nthD .str (splB s) i))
  rw [Lib.add_plain]
  unfold View.cell View.from
  dsimp only
  rw [if_pos (Nat.le_refl _), World.alloc_heap_new]
  have hi2 : i < (splB s).length := hi
  have e : (splB s)[i]? = some (nthD .str (splB s) i) := by rw [nthD_at _ _ hi2]; exact List.getElem?_eq_getElem hi2
  have e2 : (Lib.splitB blB 0 (Lib.countB s blB) s)[i]? = some (nthD .str (splB s) i) := e
  simp [e2]
def joiB (xs : List ByteArray) (sep : ByteArray) : ByteArray := ⟨(Lib.join (xs.map (·.data.toList)) sep.data.toList).toArray⟩
def sJoin : FSpec := tspec true none [tStrs, .str] [.str] (fun x => x.1.length <= 1000000 /\ (joiB x.1 x.2.1).size <= 1000000000) (fun x => (joiB x.1 x.2.1, ()))
theorem join_meets : Meets Tryd.prog 38 sJoin := meets_of ⟨_, _, Tryd.func38, rfl, rfl⟩ fun w m x vs hm hp hx => by
  obtain ⟨l, t, ⟨⟩⟩ := x
  obtain ⟨u, us, rfl, h1, u', us', rfl, h2, h3⟩ := hx
  obtain rfl : us' = [] := h3
  obtain rfl : u' = .string t := h2
  revert l
  intro (l : List ByteArray) hp h1
  obtain ⟨hp1, hp2⟩ : l.length <= 1000000 /\ (joiB l t).size <= 1000000000 := hp
  obtain ⟨A, c, e1, hcap, hmax, hcell⟩ := h1
  obtain rfl : u = .slice A l.length c := (List.cons.inj e1).1
  cases hl : l with
  | nil =>
    refine (Any.strings_Join_none Tryd.layJoin Tryd.extraJoin A c t w).mono fun e w' ⟨h1, h2⟩ => ⟨_, h1, by subst h2; exact Below.refl _ _, [_], rfl, _, _, rfl, rfl, rfl⟩
  | cons x r =>
    rw [<- hl]
    have hpos : 0 < l.length := by rw [hl]; simp
    obtain ⟨ad, rfl, hc⟩ := hcell hpos
    have hcv : ∀ i, i < l.length -> m.cell (ad.add i) = some (.string (nthD .str l i)) := fun i hi => by
      obtain ⟨cs, k1, k2⟩ := hc i hi
      obtain rfl : cs = [.string (nthD .str l i)] := k1
      have := k2 0 _ rfl
      simpa [Ty.size] using this
    obtain ⟨b, o, sp⟩ := ad
    obtain rfl : sp = none := by
      cases sp with
      | none => rfl
      | some q =>
        have h0 := hcv 0 hpos
        unfold View.cell Addr.add at h0
        simp only [if_true, Option.isSome_some] at h0
        split at h0 <;> cases h0
    have hcl : ∀ i, i < l.length -> w.cell? ⟨b, o + i, none⟩ = some (.string (nthD .str l i)) := fun i hi => by
      have := View.cell_on hm (hcv i hi)
      rwa [Lib.add_plain] at this
    have hlen : (Lib.join (l.map (·.data.toList)) t.data.toList).length <= 140737488355328 := by
      have : (joiB l t).size = (Lib.join (l.map (·.data.toList)) t.data.toList).length := by unfold joiB; simp [ByteArray.size]
      omega
    refine (Any.strings_Join Tryd.layJoin Tryd.extraJoin b o c l t w (fun j x hx => ?_) (Lib.lt_of_cell (hcl 0 hpos)) (by omega) hcap hlen).mono fun e w' ⟨h1, h2⟩ => ⟨_, h1, h2, [_], rfl, _, _, rfl, rfl, rfl⟩
    have hj : j < l.length := (List.getElem?_eq_some_iff.1 hx).1
    have e : nthD .str l j = x := by rw [nthD_at _ _ hj]; exact (List.getElem?_eq_some_iff.1 hx).2
    rw [hcl j hj, e]
end Go.Proofs.YtmijnbjlhnpokaaDoor
