/- strings.Builder: what its functions do, over any program that lays them: every block but the builder's two is as it was. No condition. -/
import Derived.Test.YtmijnbjlhnpokaaDoorEng2
import Derived.Shelf.Strings.Builder1
import Derived.Maps.AppendAt
set_option linter.unusedVariables false
set_option linter.unusedSimpArgs false
namespace Eng
open Go Go.RowKit Go.Proofs Go.Shelf
variable {P : Program} {ρ : Ren}
theorem same_setCell {w : World} {b : Nat} {a : Addr} (h : a.block = b) (v : Value) : Kept (fun k => k = b) w (w.setCell a v) :=
  ⟨rfl, rfl, rfl, by simp [World.setCell], fun k hk => Below.heap_setCell _ _ _ _ (fun e => hk.2 (by rw [<- h, e]))⟩
theorem Kept.trans {D D' : Nat -> Prop} {A B C : World} (h : Kept D A B) (k : Kept D' B C) (hd : ∀ b, D' b -> D b \/ A.heap.size <= b) : Kept D A C :=
  ⟨k.os.trans h.os, k.tape.trans h.tape, k.output.trans h.output, Nat.le_trans h.size k.size, fun b hb => (k.block b ⟨Nat.lt_of_lt_of_le hb.1 h.size, fun e => (hd b e).elim hb.2 (fun x => by have := hb.1; omega)⟩).trans (h.block b hb)⟩
theorem Kept.mono {D D' : Nat -> Prop} {A B : World} (h : Kept D A B) (hd : ∀ b, D b -> D' b) : Kept D' A B := Same.mono h fun b hb => ⟨hb.1, fun e => hb.2 (hd b e)⟩
theorem bcc (L : Lays.n240 P ρ) (X : Builder.X72 P ρ) {w : World} {b : Nat} {v : Value} {q : ByteArray} (h : BldOk (fun _ => none) w 0 (ρ.t 72) (ρ.t 5) b v q) :
    Calls P (ρ.f 240) #[.pointer (some ⟨b, 0, none⟩)] w fun e w' => e = .returned (.tuple #[]) /\ (w'.heap[b]? = some (.cells #[.pointer (some ⟨b, 0, none⟩), v] (ρ.t 72) (0, 0)) /\ Kept (fun k => k = b) w w') := by
  obtain ⟨p, hp, hc⟩ := h.cell
  rcases hp with rfl | rfl
  · refine (Any.Builder_copyCheck_fresh L X b w (by simp [World.cell?, hc]) (by simp [World.shape?, hc]) (by simp [World.frozen?, hc])).mono ?_
    rintro e w' ⟨rfl, rfl⟩
    exact ⟨rfl, by simp [World.setCell, Array.getElem?_modify, hc], same_setCell (a := ⟨b, 0, none⟩) rfl _⟩
  · refine (Any.Builder_copyCheck_used L X b w (by simp [World.cell?, hc])).mono ?_
    rintro e w' ⟨rfl, rfl⟩
    exact ⟨rfl, hc, Same.refl _ _⟩
theorem bput {T e b : Nat} {v v' p : Value} {q q' : ByteArray} {w w1 w2 : World} (h : BldOk (fun _ => none) w 0 T e b v q) (hTe : T ≠ e) (k1 : Kept (fun k => k = b) w w1) (k2 : Kept (fun x => v.ownBlock = some x) w1 w2) (hb : w2.heap[b]? = some (.cells #[.pointer (some ⟨b, 0, none⟩), p] T (0, 0))) (ho : w2.ownsRow 0 e 1 v' q'.size (Lib.byteCells q'.data.toList))
    (hn : ∀ x, v'.ownBlock = some x -> v.ownBlock = some x \/ w.heap.size <= x) : BldTo w b v T e q' (w2.setCell ⟨b, 1, none⟩ v') := by
  have hne : v'.ownBlock ≠ some b := Lib.ownBlock_ne ho hb hTe
  refine ⟨Kept.trans (Kept.trans (k1.mono fun x hx => h.blkIs.2 (.inl hx)) k2 fun x hx => .inl (h.blkIs.2 (.inr hx))) (same_setCell (b := b) rfl v') fun x hx => .inl (h.blkIs.2 (.inl hx)), v', ⟨Nat.zero_le _, ⟨_, .inr rfl, ?_⟩, ?_, hne, rfl, fun _ _ => rfl⟩, hn⟩
  · simp [World.setCell, Array.getElem?_modify, hb]
  · exact ho.kept (row := some b) ⟨rfl, rfl, rfl, by simp [World.setCell], fun k _ hk => Below.heap_setCell _ _ _ _ (fun e => hk (by simp [e]))⟩ (Or.inr hne)
theorem kept_row {w w1 : World} {b e : Nat} {v : Value} {n : Nat} {xs : List Value} (h : w.ownsRow 0 e 1 v n xs) (hne : v.ownBlock ≠ some b) (k1 : Kept (fun k => k = b) w w1) : w1.ownsRow 0 e 1 v n xs :=
  own_same h fun x hx => k1.block x ⟨(own_blk h hx).2.1, fun e' => hne (by rw [<- e']; exact (blk_own h).1 hx)⟩
theorem str_at {w : World} {t u ty e : Nat} {i : TypeInfo} (ht : P.underlying t = some (.slice e)) (hu : P.underlying u = some .string) (hi : P.info? e = some i) (hz : i.zero = some (.int .u8 0)) (hsize : i.size = 1) (hby : i.bytes = 1)
    {v : Value} {n : Nat} {xs : List Value} (hown : w.ownsRow 0 e 1 v n xs) {s : ByteArray} (h63 : n + s.size <= maxLen) (hbytes : n + s.size <= 140737488355328) :
    ∃ v' w', (Builtin.append_ #[t, u] ty #[v, .string s]).run P w = .ok v' w' /\ w'.ownsRow 0 e 1 v' (n + s.size) (xs ++ Lib.strCells s) /\ w.grownBy w' v.ownBlock /\ (v'.ownBlock = v.ownBlock \/ v'.ownBlock = some w.heap.size) := by
  obtain ⟨v', w', hr, h2, h3, h4⟩ := Lib.run_append_own_string (P := P) w 0 t u ty e i ht hu hi hz hsize hby v n xs hown s h63 hbytes (Nat.zero_le _)
  refine ⟨v', w', hr, h2, h3, ?_⟩
  have hsm : n + s.size <= 9223372036854775807 := by simp only [maxLen] at h63; omega
  have same : ∀ {v1 : Value} {w1 : World}, (Builtin.append_ #[t, u] ty #[v, .string s]).run P w = .ok v1 w1 -> v' = v1 := fun h => by
    rw [h] at hr; injection hr with h; exact h.symm
  rcases hown.2 with ⟨rfl, rfl⟩ | ⟨g, cap, cur, rfl, _, hg, hnc, hcm, hcs, htake⟩
  · by_cases hm : s.size = 0
    · rw [h4.2 ⟨rfl, hm⟩]; exact .inl rfl
    · have hr' := run_append_nil_string (P := P) w t u ty e i (.int .u8 0) ht hu hi hz s (by omega) (by omega) (by rw [hby]; omega)
      rw [same hr']; exact .inr rfl
  · by_cases hroom : n + s.size <= cap
    · have hr' := Lib.run_append_room_string (P := P) w t u ty e i ht hu hi hsize g n cap cur hg s hroom (by omega)
      rw [same hr']; exact .inl rfl
    · have hr' := Lib.run_append_grow_string (P := P) w t u ty e i (.int .u8 0) ht hu hi hz ⟨g, 0, none⟩ n cap xs (by rw [hsize]; exact hown.1) (hown.cells (g := g) rfl) s (by omega) (by omega) (by rw [hby]; exact growslice_fits (by omega) (by omega))
      rw [same hr']; exact .inr rfl
theorem wpList_str_at {ops : Array Oper} {rest : List Oper} {o : Oper} {a : Act} {w : World} {Q : Exit -> Act -> World -> Prop} (hgd : o.guard = none) (sl x : Operand) (t u : TypeId)
    (ho : o.op = .call { callee := .builtin .append, args := #[sl, x], argTypes := #[t, u] })
    (e : TypeId) (i : TypeInfo) (ht : P.underlying t = some (.slice e)) (hu : P.underlying u = some .string) (hi : P.info? e = some i) (hz : i.zero = some (.int .u8 0)) (hsize : i.size = 1) (hby : i.bytes = 1)
    (v : Value) (n : Nat) (xs : List Value) (hs : a.eval sl = v) (hown : w.ownsRow 0 e 1 v n xs) (s : ByteArray) (hx : a.eval x = .string s) (h63 : n + s.size <= maxLen) (hbytes : n + s.size <= 140737488355328)
    (h : ∀ v' w', w'.ownsRow 0 e 1 v' (n + s.size) (xs ++ Lib.strCells s) -> w.grownBy w' v.ownBlock -> (v'.ownBlock = v.ownBlock \/ v'.ownBlock = some w.heap.size) -> wpList P ops Q rest (a.put o.dst v') w') : wpList P ops Q (o :: rest) a w := by
  refine wpList_plain hgd fun K hK => ?_
  obtain ⟨v', w', hr, h2, h3, h4⟩ := str_at (P := P) (ty := o.type) ht hu hi hz hsize hby hown h63 hbytes
  unfold Oper.wp execOp
  simp only [ho, resolve, invoke, builtin, Sem.run_bind, Sem.run_pure, Result.andThen_ok, List.map_toArray, List.map_cons, List.map_nil, hs, hx, hr]
  exact hK _ _ (h v' w' h2 h3 h4)
theorem kept_grown {w w' : World} {row : Option Nat} (h : w.grownBy w' row) : Kept (fun x => row = some x) w w' := kept_of_grown h fun r e => e
theorem app_cells (q s : ByteArray) : Lib.byteCells q.data.toList ++ Lib.strCells s = Lib.byteCells (q ++ s).data.toList := by
  simp [Lib.byteCells, Lib.strCells]
set_option maxHeartbeats 2000000 in
set_option maxRecDepth 100000 in
theorem bld_str (L : Lays.n166 P ρ) (X : Builder.Extra P ρ) {w : World} {b : Nat} {v : Value} {q : ByteArray} (h : BldOk (fun _ => none) w 0 (ρ.t 72) (ρ.t 5) b v q) (s : ByteArray) (hs : q.size + s.size <= 1000000000) :
    Calls P (ρ.f 166) #[.pointer (some ⟨b, 0, none⟩), .string s] w fun e w' => e = .returned (.tuple #[.int .i64 s.size, .nilIface]) /\ BldTo w b v (ρ.t 72) (ρ.t 5) (q ++ s) w' := by
  obtain ⟨i0, hi, hz0, hz1, hz2⟩ := info_parts X.infoByte
  have mixed := L.mixed
  have t72 := L.t72; have a72 := L.a72; have z72 := L.z72; have v72 := L.v72; have u72 := run_underlying L.t72
  have t70 := L.t70; have a70 := L.a70; have z70 := L.z70; have v70 := L.v70; have u70 := run_underlying L.t70
  have t37 := L.t37; have a37 := L.a37; have z37 := L.z37; have v37 := L.v37; have u37 := run_underlying L.t37
  have t3 := L.t3; have a3 := L.a3; have z3 := L.z3; have v3 := L.v3; have u3 := run_underlying L.t3
  have t9 := L.t9; have a9 := L.a9; have z9 := L.z9; have v9 := L.v9; have u9 := run_underlying L.t9
  have t4 := L.t4; have a4 := L.a4; have z4 := L.z4; have v4 := L.v4; have u4 := run_underlying L.t4
  have t164 := L.t164; have a164 := L.a164; have z164 := L.z164; have v164 := L.v164; have u164 := run_underlying L.t164
  have t5 := X.t5; have a5 := X.a5; have z5 := X.z5; have v5 := X.v5; have u5 := run_underlying X.t5
  have e240 : ∀ args w, (callFunc (ρ.f 240) args).run P w = .ok (.enter (ρ.f 240) args) w := enters_of L.f240 (by kernel_rfl) rfl
  go_enter L.f166, Body.n166_ntmps ρ
  go_wp2_with (go_at_fn (ρ.f 240); refine (bcc { L with } X.toX72 h).mono ?_)
  rintro e w1 ⟨rfl, hbk, hk1⟩
  have hown := kept_row h.own h.ne hk1
  have c0 : w1.cell? ⟨b, 0, none⟩ = some (.pointer (some ⟨b, 0, none⟩)) := by rw [Lib.cell_of_heap hbk]; rfl
  have c1 : w1.cell? ⟨b, 1, none⟩ = some v := by rw [Lib.cell_of_heap hbk]; rfl
  go_wp2_with (at_builtin; refine wpList_str_at rfl _ _ (ρ.t 37) (ρ.t 9) rfl (ρ.t 5) i0 L.t37 L.t9 hi hz0 hz1 hz2 _ _ _ rfl hown s rfl ?c3 ?c4 ?_)
  case c3 => unfold maxLen; omega
  case c4 => omega
  intro v' w2 hown' hgrow hat
  have hlt : b < w1.heap.size := (Array.getElem?_eq_some_iff.1 hbk).1
  have hb2 : w2.heap[b]? = some (.cells #[.pointer (some ⟨b, 0, none⟩), v] (ρ.t 72) (0, 0)) := by
    rw [hgrow.block b hlt (fun e => h.ne e.symm)]
    exact hbk
  have d0 : w2.cell? ⟨b, 0, none⟩ = some (.pointer (some ⟨b, 0, none⟩)) := by rw [Lib.cell_of_heap hb2]; rfl
  have d1 : w2.cell? ⟨b, 1, none⟩ = some v := by rw [Lib.cell_of_heap hb2]; rfl
  have f1 : w2.frozen? ⟨b, 1, none⟩ = false := Lib.frozen_of_heap hb2 1
  have hn : ∀ x, v'.ownBlock = some x -> v.ownBlock = some x \/ w.heap.size <= x := fun x hx => by
    rcases hat with hat | hat
    · rw [hat] at hx; exact .inl hx
    · rw [hat] at hx
      have := Option.some.inj hx
      right; rw [<- this]; exact hk1.size
  rw [app_cells] at hown'
  obtain ⟨ao, n', cap, rfl⟩ : ∃ ao n' cap, v' = .slice ao n' cap := by
    rcases hown'.2 with ⟨hv, _⟩ | ⟨g, cap, cur, hv, _⟩
    · exact ⟨_, _, _, hv⟩
    · exact ⟨_, _, _, hv⟩
  go_wp2
  go_ret2
  exact ⟨rfl, bput h X.neB5 hk1 (kept_grown hgrow) hb2 (by rw [ByteArray.size_append]; exact hown') hn⟩
set_option maxHeartbeats 1000000 in
set_option maxRecDepth 100000 in
theorem bld_out (L : Lays.n169 P ρ) (X : Builder.Extra P ρ) {w : World} {b : Nat} {v : Value} {q : ByteArray} (h : BldOk (fun _ => none) w 0 (ρ.t 72) (ρ.t 5) b v q) :
    Calls P (ρ.f 169) #[.pointer (some ⟨b, 0, none⟩)] w fun e w' => e = .returned (.string q) /\ Kept (Blk (bldV b v)) w w' := by
  obtain ⟨p, hp, hbk⟩ := h.cell
  have bel : ∀ {w' : World}, Below w.heap.size w w' -> Kept (Blk (bldV b v)) w w' := fun hb => kept_of_below hb
  obtain ⟨l, rfl⟩ : ∃ l : List UInt8, q = ⟨l.toArray⟩ := ⟨q.data.toList, rfl⟩
  have hown : w.ownsRow 0 (ρ.t 5) 1 v l.length (Lib.byteCells l) := by
    have := h.own
    rwa [show (ByteArray.mk l.toArray).size = l.length from rfl, show (ByteArray.mk l.toArray).data.toList = l from rfl] at this
  clear h
  by_cases h0 : l = []
  · subst h0
    rcases hown.2 with ⟨rfl, _⟩ | ⟨g, cap, cur, rfl, _, hg, _, _, _, _⟩
    · exact (Any.Builder_String_nil L X w.heap.size b p w hbk).mono fun e w' ⟨e1, e2⟩ => ⟨e1, bel e2⟩
    · by_cases hc0 : cap = 0
      · subst hc0
        exact (Any.Builder_String_noroom L X w.heap.size b g p cur w (Nat.le_refl _) hbk hg).mono fun e w' ⟨e1, e2⟩ => ⟨e1, bel e2⟩
      · exact (Any.Builder_String_room L X w.heap.size b g cap p w hc0 hbk).mono fun e w' ⟨e1, e2⟩ => ⟨e1, bel e2⟩
  have hl0 : l.length ≠ 0 := by simpa using h0
  obtain ⟨g, cap, cur, rfl, hg, hnc, hcm, hcs, htake⟩ : ∃ g cap cur, v = .slice (some ⟨g, 0, none⟩) l.length cap /\ w.heap[g]? = some (.cells cur (ρ.t 5) (0, 0)) /\ l.length <= cap /\ cap <= maxLen /\ cur.size = cap * 1 /\ cur.toList.take (l.length * 1) = Lib.byteCells l := by
    rcases hown.2 with ⟨_, hz⟩ | ⟨g, cap, cur, hv, _, r⟩
    · exact absurd hz hl0
    · exact ⟨g, cap, cur, hv, r⟩
  have c1 : w.drew.cell? ⟨b, 1, none⟩ = some (.slice (some ⟨g, 0, none⟩) l.length cap) := by
    have : w.drew.heap[b]? = some (.cells #[p, .slice (some ⟨g, 0, none⟩) l.length cap] (ρ.t 72) (0, 0)) := hbk
    rw [Lib.cell_of_heap this]; rfl
  have hSD : (Builtin.unsafeSliceData_ #[(ρ.t 37)] (ρ.t 127) #[.slice (some ⟨g, 0, none⟩) l.length cap]).run P w.drew = .ok (.pointer (some ⟨g, 0, none⟩)) w.drew :=
    Lib.run_unsafeSliceData_row _ _ _ _ _ _ (by omega)
  have hUS : (Builtin.unsafeString_ #[(ρ.t 127), (ρ.t 3)] (ρ.t 9) #[.pointer (some ⟨g, 0, none⟩), .int .i64 l.length]).run P w.drew = .ok (.string ⟨l.toArray⟩) (w.drew.freeze ⟨g, 0, none⟩ l.length) := by
    refine Lib.run_unsafeString_row w.drew (ρ.t 127) (ρ.t 3) (ρ.t 9) (ρ.t 5) L.t127 X.cellsByte g cur.size (by have hg' : w.drew.heap[g]? = some (.cells cur (ρ.t 5) (0, 0)) := hg; simp [World.shape?, hg']) l h0 (by omega) (by unfold maxLen at hcm; omega) ?_
    intro j x hx
    have := hown.cells (g := g) rfl j (.int .u8 x.toNat) (by simp [Lib.byteCells, hx])
    exact this
  have hfin : Kept (Blk (bldV b (.slice (some ⟨g, 0, none⟩) l.length cap))) w (w.drew.freeze ⟨g, 0, none⟩ l.length) := by
    refine Kept.mono (D := fun x => x = g) ?_ fun x hx => blk_bld.2 (.inr (by rw [hx]; rfl))
    unfold World.freeze
    split
    · exact ⟨rfl, rfl, rfl, Nat.le_refl _, fun _ _ => rfl⟩
    · refine ⟨rfl, rfl, rfl, by simp, fun x hx => ?_⟩
      show (Array.modify w.heap g _)[x]? = _
      rw [Array.getElem?_modify, if_neg (fun e => hx.2 e.symm)]
  have mixed := L.mixed
  have t72 := L.t72; have a72 := L.a72; have z72 := L.z72; have v72 := L.v72; have u72 := run_underlying L.t72
  have t70 := L.t70; have a70 := L.a70; have z70 := L.z70; have v70 := L.v70; have u70 := run_underlying L.t70
  have t37 := L.t37; have a37 := L.a37; have z37 := L.z37; have v37 := L.v37; have u37 := run_underlying L.t37
  have t127 := L.t127; have a127 := L.a127; have z127 := L.z127; have v127 := L.v127; have u127 := run_underlying L.t127
  have t3 := L.t3; have a3 := L.a3; have z3 := L.z3; have v3 := L.v3; have u3 := run_underlying L.t3
  have t9 := L.t9; have a9 := L.a9; have z9 := L.z9; have v9 := L.v9; have u9 := run_underlying L.t9
  have t5 := X.t5; have a5 := X.a5; have z5 := X.z5; have v5 := X.v5; have u5 := run_underlying X.t5
  go_enter L.f169, Body.n169_ntmps ρ
  go_wp2
  go_region_o
  all_goals (go_wp2; go_ret; exact ⟨rfl, hfin⟩)
end Eng
