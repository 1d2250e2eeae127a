/- What 'laid' gives: Itoa's table, the errors of strconv. No condition. -/
import Derived.Test.YtmijnbjlhnpokaaDoorY4
import Derived.Test.YtmijnbjlhnpokaaDoorRows
import Derived.Test.YtmijnbjlhnpokaaDoorYO
import Derived.MakeChecks
import Derived.Lib.LaidTab
import Derived.Stop.LaidErr
import Derived.LaidLaws
import Derived.SizedLaws
import Derived.LaidMore
import Derived.ShapedOpen
set_option linter.unusedVariables false
set_option linter.unusedSimpArgs false
namespace Go
variable {H : Type} {enc : TypeId × Value -> H}
theorem returnsInHanded_and_shaped {a : Assume} {C : Checked} {os : Os} {f : FuncId} {fn : Func} {s : ChangeSpec} {conds : List PathCond} {apart fresh handsOn again : Bool} {X : World -> Array Value -> Prop}
    (hX : ∀ (w w' : World) (args : Array Value), w.heap = w'.heap -> X w args -> X w' args)
    (own : ownKnob C.prog.godebug = none) (started : os.Started) (noInit : C.prog.inits.idxOf? f = none) (hfn : C.prog.funcs[f]? = some fn)
    (witness : ∃ (w : World) (tape : Tape) (i : Input), w.os = os /\ (w.forCall tape i).Shaped C.prog /\ i.vars = [] /\ Input.okWide C.prog (w.forCall tape i) .any w.heap.size f i /\
      ((s.pre enc C.prog fn conds apart (w.forCall tape i).memory i.args /\ X (w.forCall tape i).memory i.args) /\ sizedMet enc C.prog fn (OpenSpec.ofChange s) apart (w.forCall tape i).memory i.args) /\ a.holds C.prog (lone (Frame.enter C.prog f i.args .normal) [] (w.forCall tape i)))
    (contract : ∀ (W : World) (base : Nat) (args : Array Value) (ds gs : List (DataW H)) (before : List MemPlace),
      (∀ (j : Nat) t v, fn.params[j]? = some t -> args[j]? = some v -> Value.okWide C.prog W .any base t v) ->
      DataW.Whole enc C.prog fn.params.toList s.vars apart W args.toList ds gs before -> X W args -> W.ShapedOpen C.prog ->
      Calls C.prog f args W fun e W' => ∃ v, e = .returned v /\ s.post enc C.prog fn apart fresh handsOn again W args v W') :
    ReturnsInHanded a C os f .any (fun w args => (s.pre enc C.prog fn conds apart w args /\ X w args) /\ sizedMet enc C.prog fn (OpenSpec.ofChange s) apart w args) (s.post enc C.prog fn apart fresh handsOn again) := by
  refine returnsInHanded_of_calls own started noInit witness ?_
  intro w tape i _ hsh _ hok hpre hholds
  obtain ⟨_, _, _, fn', hfn', _, _, _, _, hval⟩ := hok
  obtain rfl : fn' = fn := Option.some.inj (hfn'.symm.trans hfn)
  obtain ⟨⟨⟨ds, gs, before, hw, hc⟩, hx⟩, hz⟩ := hpre
  have hw' := DataW.Whole.of_heap (w' := w.forCall tape i) (by rfl) hw
  refine (contract (w.forCall tape i) w.heap.size i.args ds gs before hval hw' (hX _ _ _ (by rfl) hx) hsh).mono fun e W' ⟨v, he, hp⟩ => ?_
  subst he
  exact ChangeSpec.post_blind hp
end Go
namespace Go.Proofs.YtmijnbjlhnpokaaDoor
open Go Go.RowKit Eng Ls Go.Proofs
theorem pow_type : (Tryd.prog.globals[Tryd.layItoa_ren.g 17]?).map (·.type) = some 108 := by kernel_rfl
theorem syn_type : (Tryd.prog.globals[Tryd.layAtoi_ren.g 15]?).map (·.type) = some 43 := by kernel_rfl
theorem rng_type : (Tryd.prog.globals[Tryd.layAtoi_ren.g 16]?).map (·.type) = some 43 := by kernel_rfl
theorem star_eq : "*" ++ "errors.errorString" = "*errors.errorString" := by decide
theorem ptr_row (u : TypeId) (h : Tryd.prog.typeName? 3 u = some "*errors.errorString") : u = 104 :=
  typeName_ptr_named (nm := "errors.errorString") (by rw [star_eq]; kernel_rfl) (by kernel_rfl) (by decide) u (by rw [star_eq]; exact h)
theorem cells_es : Tryd.prog.cellsOf 106 = 1 := by kernel_rfl
theorem cells_str : Tryd.prog.cellsOf 9 = 1 := by kernel_rfl
theorem tab_of_laid {W : World} (h : laidMetH Tryd.prog Rows.picTextsRow.laid W) (hS : W.ShapedOpen Tryd.prog) : Tab (View.cells fun b => W.heap[b]?) := by
  rw [MakeChecks.laidMetH_plain _ _ _ (by kernel_rfl)] at h
  have h3 := h.tail.tail
  have h5 := h3.tail.tail
  have h6 := h5.tail
  obtain ⟨a0, s0, hv0, -, -, -⟩ := laid_sentinel h5 Tryd.layAtoi.m16 rng_type Tryd.underlying43 ptr_row Tryd.underlying104 Tryd.underlying106 rfl rfl Tryd.underlying9 cells_es cells_str
  obtain ⟨a1, s1, hv1, -, -, -⟩ := laid_sentinel h6 Tryd.layAtoi.m15 syn_type Tryd.underlying43 ptr_row Tryd.underlying104 Tryd.underlying106 rfl rfl Tryd.underlying9 cells_es cells_str
  have hT : Lib.TabIs Tryd.prog W "internal/strconv.uint64pow10" .u64 Lib.pow10Tab := by
    obtain ⟨ps, ⟨g2, t2, cs2, f2, p2, q2, hg2, ht2, hv2, hd2, _, _⟩, _⟩ := h3
    obtain rfl := Option.some.inj (Tryd.layItoa.m17.symm.trans hg2)
    obtain rfl := Option.some.inj (pow_type.symm.trans ht2)
    unfold Lib.TabIs
    rw [hv2, <- Lib.cells_of_tab (k := .u64) (zs := Lib.pow10Tab) Tryd.underlying108 Tryd.underlying85 (by kernel_rfl) (by kernel_rfl) hd2]
  have cell : ∀ {a : Addr} {v : Value}, W.cell? a = some v -> (View.cells fun b => W.heap[b]?).cell a = some v := fun h => View.cells_cle (fun b => W.heap[b]?) _ _ h
  refine ⟨Cells.of, fun w hw => ?_, ?_, ⟨_, cell (by have h0 := World.var?_cell Tryd.layAtoi.m15 hv1 0; simpa using h0), .inr ⟨_, _, rfl⟩⟩, ⟨_, cell (by have h0 := World.var?_cell Tryd.layAtoi.m16 hv0 0; simpa using h0), .inr ⟨_, _, rfl⟩⟩⟩
  · have hg := Tryd.layItoa.m17
    unfold Lib.TabIs World.var? at *
    rw [hg] at hT ⊢
    simp only [Option.bind_some] at hT ⊢
    split at hT
    · rename_i cs t f hc
      have : w.heap[Tryd.layItoa_ren.g 17]? = some (.cells cs t f) := hw _ _ (by unfold View.cells; dsimp only; rw [hc])
      rw [this]
      exact hT
    · cases hT
  · obtain ⟨m, hm⟩ := Tryd.laySplit.s1_3 W hS
    exact ⟨m, cell hm⟩
theorem full_on (W : World) : (View.cells fun b => W.heap[b]?).on W := fun b o hb => View.cells_le _ b o hb
theorem picTexts_walk (W : World) {a0 b0 : Int} {A0 : Option Addr} {n0 c0 : Nat} {z0 : List Int} (s0 : SI W A0 n0 c0 z0) {a1 : ByteArray} (hL : laidMetH Tryd.prog Rows.picTextsRow.laid W) (hS : W.ShapedOpen Tryd.prog) : Calls Tryd.prog 3 #[.agg #[.int .i64 a0, .int .i64 b0, .slice A0 n0 c0], .string a1] W fun e W' => e = .returned (.bool true) /\ Below W.heap.size W W' := by
  obtain rfl := s0.len
  have hx : RdArgs (fun b => W.heap[b]?) [tPic, .str] ((a0, b0, z0), a1, ()) [.agg #[.int .i64 a0, .int .i64 b0, .slice A0 z0.length c0], .string a1] := ⟨_, _, rfl, pic_mk0 s0, ⟨_, _, rfl, rfl, rfl⟩⟩
  exact lawAt_walk (x := (((a0, b0, z0), a1, ()) : argsTy [tPic, .str])) (picTexts_at (tab_of_laid hL hS)) (full_on W) trivial hx
end Go.Proofs.YtmijnbjlhnpokaaDoor
