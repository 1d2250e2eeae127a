/- slices.SortFunc and slices.Sort of numbers, by the shelf's contracts. No condition. -/
import Derived.Test.YtahccnljckgjmaaEng3
import Derived.Test.YtahccnljckgjmaaClo
import Derived.Shelf.SlSortCmp.NoneTotal
import Derived.Shelf.SortM.Plain
import Derived.Shelf.SortM.SortNone
set_option linter.unusedVariables false
set_option linter.unusedSimpArgs false
namespace Go.Proofs.Ytahccnljckgjmaa
open Go Go.Proofs Go.RowKit Eng Ls Go.Sort Go.Shelf Go.Lib

theorem putRow_map {α : Type} [Inhabited α] (g : α → Int) (w : World) (blk : Nat) (X : List α) : putRow (fun x => i64E (g x)) w blk 0 X.toArray = putRow i64E w blk 0 (X.map g).toArray := by
  unfold putRow
  apply mapBlock_congr
  intro c e fr _
  apply Array.ext_getElem?
  intro k
  simp only [putCells, Array.getElem?_mapIdx, List.size_toArray, List.length_map]
  cases c[k]? with
  | none => rfl
  | some y =>
    simp only [Option.map_some]
    by_cases hk : 0 ≤ k ∧ k < 0 + X.length
    · rw [if_pos hk, if_pos hk]
      have hk : k < X.length := by omega
      simp [hk]
    · rw [if_neg hk, if_neg hk]

/-! ### slices.Sort -/
def srtI (zs : List Int) (c : AV) (k : List Int → Prop) : Prop := match c with
  | .nil => need (zs.length ≤ 1000000) fun _ => k (zs.mergeSort fun x y => decide (x ≤ y))
  | _ => False
theorem srtI_one (zs : List Int) (c : AV) (k : List Int → Prop) (h : srtI zs c k) : ∃ l, k l ∧ ∀ k' : List Int → Prop, k' l → srtI zs c k' := by
  unfold srtI at h
  split at h
  · exact ⟨_, h.2, fun k' hk => ⟨h.1, hk⟩⟩
  · exact h.elim
theorem sortI_meets {P : Program} {ρ : Ren} {f eh e : Nat} (hc : Callable P f) (L : SlLaysM.n5 P ρ) (hf : ρ.f 5 = f) : MMeets P f (sortSpec eh e srtI srtI_one) := by
  have nilA : ∀ {args : AV} {m : View} {vs : List Value} {zs k}, args.ok P m [] vs → srtI zs args k → vs = [] ∧ zs.length ≤ 1000000 ∧ k (zs.mergeSort fun x y => decide (x ≤ y)) := fun {args m vs zs k} h1 h2 => by
    unfold srtI at h2
    split at h2
    · exact ⟨h1, h2.1, h2.2⟩
    · exact h2.elim
  refine sort_meets hc (fun w m args vs k hargs hrun => ?_) fun w m zs args vs k blk cap hm hmb hargs hrun hH hblk hlen => ?_
  · obtain ⟨rfl, hl, hk⟩ := nilA hargs hrun
    refine ⟨by simpa using hk, ?_⟩
    have := AnyM.slices_Sort_int_none L none 0 w
    rw [hf] at this
    exact this
  · obtain ⟨rfl, hl, hk⟩ := nilA hargs hrun
    refine ⟨_, hk, by simp, ?_⟩
    have := AnyM.slices_Sort_int L blk 0 cap zs w hH hblk (by omega)
    rw [hf] at this
    exact this

/-! ### slices.SortFunc, with the closure that compares by a list's sizes -/
def srtS (F : Nat) (zs : List Int) (c : AV) (k : List Int → Prop) : Prop := match c with
  | .cons v r => match r with
    | .nil => match v with
      | .clo F' caps => match Nat.beq F' F with
        | true => takeCaps [.list (.int .i64)] caps fun x => need (zs.length ≤ 1000000 ∧ (∀ z ∈ zs, 0 ≤ z ∧ z < x.1.length) ∧ ∀ k, -100000000 ≤ nth x.1 k ∧ nth x.1 k ≤ 100000000) fun _ => k (zs.mergeSort fun a b => !ltS x.1 b a)
        | false => False
      | _ => False
    | _ => False
  | _ => False
theorem det_takeCaps : ∀ (ts : List Ty) (c : AV), Det (takeCaps ts c)
  | [], c => by cases c <;> first | exact det_false | exact det_pure ()
  | t :: r, c => by
    intro k h
    simp only [takeCaps] at h ⊢
    split at h
    case h_2 => exact h.elim
    split at h
    case h_2 => exact h.elim
    split at h
    case h_2 => exact h.elim
    refine (det_takeTyV (f := fun x z k => match z with
          | .nil => takeCaps r _ fun y => k (x, y)
          | _ => False) fun x z => ?_) k h
    split
    · exact det_bind (det_takeCaps r _) fun y => det_pure (x, y)
    · exact det_false
theorem srtS_one (F : Nat) (zs : List Int) (c : AV) (k : List Int → Prop) (h : srtS F zs c k) : ∃ l, k l ∧ ∀ k' : List Int → Prop, k' l → srtS F zs c k' := by
  unfold srtS at h ⊢
  split at h
  case h_2 => exact h.elim
  split at h
  case h_2 => exact h.elim
  split at h
  case h_2 => exact h.elim
  split at h
  case h_2 => exact h.elim
  exact (det_bind (det_takeCaps [.list (.int .i64)] _) fun x => det_need (det_pure (zs.mergeSort fun a b => !ltS x.1 b a))) k h
/-- What is asked of the closure: in whatever world the list is read. -/
def CloS (P : Program) (F : Nat) : Prop := Callable P F ∧ ∀ (W : World) (m : View) (ad : Addr) (u : Value) (l : List Int) (x y : Int), m.on W → m.cell (ad.add 0) = some u → RdV m (.list (.int .i64)) l u → (∀ k, -100000000 ≤ nth l k ∧ nth l k ≤ 100000000) → 0 ≤ x → x < l.length → 0 ≤ y → y < l.length →
  Calls P F #[.int .i64 x, .int .i64 y, .pointer (some ad)] W fun e w' => e = .returned (.int .i64 (cmpS l x y)) ∧ ∃ q os, w' = grow (W.drewN q) os
theorem sortS_meets {P : Program} {ρ : Ren} {f F eh e : Nat} (hc : Callable P f) (L : SlLaysF.n6 P ρ) (hf : ρ.f 6 = f) (hF : CloS P F) : MMeets P f (sortSpec eh e (srtS F) (srtS_one F)) := by
  have open1 : ∀ {args : AV} {m : View} {vs : List Value} {zs k}, args.ok P m [] vs → srtS F zs args k → ∃ (l : List Int) (ad : Addr) (u : Value), vs = [.func (.func F) #[] #[.pointer (some ad)]] ∧ m.cell (ad.add 0) = some u ∧ RdV m (.list (.int .i64)) l u ∧ zs.length ≤ 1000000 ∧ (∀ z ∈ zs, 0 ≤ z ∧ z < l.length) ∧ (∀ k, -100000000 ≤ nth l k ∧ nth l k ≤ 100000000) ∧ k (zs.mergeSort fun a b => !ltS l b a) := fun {args m vs zs k} h1 h2 => by
    unfold srtS at h2
    split at h2
    case h_2 => exact h2.elim
    split at h2
    case h_2 => exact h2.elim
    split at h2
    case h_2 => exact h2.elim
    split at h2
    case h_2 => exact h2.elim
    rename_i v _ _ F' caps hF'
    obtain rfl := Nat.eq_of_beq_eq_true hF'
    obtain ⟨u0, us, rfl, k1, k2⟩ := h1
    obtain rfl : us = [] := k2
    obtain ⟨cs, e1, k3⟩ := k1
    obtain ⟨x, ⟨⟨h3, h4, h4b⟩, h5⟩, h6, h7⟩ := takeCaps_ok h2 k3
    have hlen : cs.length = 1 := h6
    obtain ⟨c0, rfl⟩ : ∃ c0, cs = [c0] := by
      match cs, hlen with
      | [c0], _ => exact ⟨c0, rfl⟩
    obtain ⟨_, v, j1, j2⟩ := h7 0 (0, .imm (flatTo (.list (.int .i64)) x.1 .nil) 0) (by simp [capsFix])
    obtain rfl : c0 = v := Option.some.inj j1
    obtain ⟨cs', ad, us, i1, i2, i3, i4⟩ := inBox_ok (k := fun c => c = flatTo (.list (.int .i64)) x.1 .nil) (show inBox (.imm (flatTo (.list (.int .i64)) x.1 .nil) 0) (fun c => c = flatTo (.list (.int .i64)) x.1 .nil) from rfl) j2
    subst i1
    obtain ⟨u, rest, rfl, i5, i6⟩ := i3
    refine ⟨x.1, ad, u, ?_, i4 0 u rfl, i5, h3, h4, h4b, h5⟩
    rw [(List.cons.inj e1).1, i2]
  refine sort_meets hc (fun w m args vs k hargs hrun => ?_) fun w m zs args vs k blk cap hm hmb hargs hrun hH hblk hlen => ?_
  · obtain ⟨l, ad, u, rfl, k1, k2, k3, k4, kB, k5⟩ := open1 hargs hrun
    refine ⟨by simpa using k5, ?_⟩
    have := AnyF.slices_SortFunc_none (P := P) (ρ := ρ) { L with } none 0 (.func (.func F) #[] #[.pointer (some ad)]) w
    rw [hf] at this
    exact this
  · obtain ⟨l, ad, u, rfl, k1, k2, k3, k4, kB, k5⟩ := open1 hargs hrun
    refine ⟨_, k5, by simp, ?_⟩
    match zs, hH, k3, k4 with
    | [], hH, _, _ =>
      have := AnyF.slices_SortFunc_none (P := P) (ρ := ρ) { L with } (some ⟨blk, 0, none⟩) cap (.func (.func F) #[] #[.pointer (some ad)]) w
      rw [hf] at this
      refine this.mono fun e w' ⟨h1, h2⟩ => ⟨h1, 0, #[], ?_⟩
      subst h2
      rw [grow_empty]
      show w' = putRow i64E (Sort.ahead w' 0) blk 0 (List.mergeSort [] _).toArray
      have h0 : Sort.ahead w' 0 = w' := rfl
      rw [h0]
      symm
      unfold putRow
      apply mapBlock_id
      intro c e fr _
      apply Array.ext_getElem?
      intro k
      simp only [putCells, Array.getElem?_mapIdx]
      cases c[k]? with
      | none => rfl
      | some y =>
        simp only [Option.map_some]
        rw [if_neg]
        simp
    | z0 :: zs', hH, k3, k4 =>
      obtain ⟨zs, hzs⟩ : ∃ zs, zs = z0 :: zs' := ⟨_, rfl⟩
      rw [← hzs] at hH k3 k4 ⊢
      have hin : ∀ z ∈ zs, 0 ≤ z ∧ z < l.length := k4
      let α := {z : Int // 0 ≤ z ∧ z < l.length}
      haveI : Inhabited α := ⟨⟨z0, hin z0 (by rw [hzs]; simp)⟩⟩
      let X : List α := zs.attach.map fun z => ⟨z.1, hin z.1 z.2⟩
      have hX : X.map Subtype.val = zs := by
        show (zs.attach.map fun z => (⟨z.1, hin z.1 z.2⟩ : α)).map Subtype.val = zs
        rw [List.map_map]
        exact List.attach_map_subtype_val zs
      clear_value X
      have hXl : X.length = zs.length := by rw [← hX, List.length_map]
      have hHX : Holds (fun x : α => i64E x.val) w blk 0 X.toArray := by
        intro j hj
        have hj : j < X.length := by simpa using hj
        have := hH j (by simpa [hXl] using hj)
        refine ⟨?_, this.2⟩
        rw [this.1]
        congr 1
        have e1 : zs[j]? = (X.map Subtype.val)[j]? := by rw [hX]
        simp [hj, show j < zs.length by omega] at e1 ⊢
        rw [e1]
      have hlt : ltOf (fun x y : α => cmpS l x.val y.val) = fun x y => ltS l x.val y.val := by
        funext x y
        exact cmpS_lt l x.val y.val
      have hO : SWO (ltOf fun x y : α => cmpS l x.val y.val) := by
        rw [hlt]
        exact ⟨fun x => (ltS_tot l).irr x.val, fun x y z h1 h2 => (ltS_tot l).tr x.val y.val z.val h1 h2, fun x y z h1 h2 => (ltS_tot l).ntr h1 h2⟩
      have hcmp : CmpLays1 P F #[.pointer (some ad)] (fun x : α => i64E x.val) (fun x y => cmpS l x.val y.val) blk 0 X.toArray.size w := by
        intro mm os dk hdk x y
        have hon : m.on (sortWorld (fun x : α => i64E x.val) w blk 0 mm dk os) := fun b o hb => by
          have hne : b ≠ blk := fun e => by rw [e, hmb] at hb; cases hb
          have hlt := View.lt hm hb
          show ((putRow (fun x : α => i64E x.val) (Sort.ahead w mm) blk 0 dk).heap ++ os)[b]? = _
          rw [Array.getElem?_append_left (by simp only [putRow, mapBlock, Sort.ahead, Array.size_modify]; exact hlt)]
          simp only [putRow, mapBlock, Sort.ahead, Array.getElem?_modify]
          rw [if_neg (Ne.symm hne)]
          exact hm b o hb
        exact hF.2 _ m ad u l x.val y.val hon k1 k2 kB x.2.1 x.2.2 y.2.1 y.2.2
      have eg : ∀ args w, (callFunc F args).run P w = .ok (.enter F args) w := fun args w => enter_run hF.1 args w
      have := Any.slices_SortFunc_total L (fun x : α => i64E x.val) (fun _ => rfl) (fun x y => cmpS l x.val y.val) hO F #[.pointer (some ad)] blk 0 cap X.toArray w eg hcmp hHX hblk (by simp [hXl]; omega) (fun x y h1 h2 => by
        rw [hlt] at h1 h2
        exact Subtype.ext ((ltS_tot l).tot _ _ h1 h2))
      rw [hf] at this
      have e0 : X.toArray.size = zs.length := by simp [hXl]
      rw [e0] at this
      refine this.mono fun e w' ⟨h1, n, os, h2⟩ => ⟨h1, n, os, ?_⟩
      rw [h2]
      unfold sortWorld
      rw [putRow_map (fun x : α => x.val)]
      congr 3
      rw [hlt]
      rw [List.map_mergeSort (s := fun a b => !ltS l b a) fun a _ b _ => rfl]
      exact congrArg (fun q : List Int => q.mergeSort fun a b => !ltS l b a) hX
end Go.Proofs.Ytahccnljckgjmaa
