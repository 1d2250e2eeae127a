/- strings.Builder laid at this seat. Printed by program (mk_lay.py). No condition. -/
import Derived.Test.YtkkmlcengneomaaTys
import Derived.Test.YtkkmlcengneomaaBld
import Derived.Shelf.Lay
import Derived.Ground.NamesProg
set_option linter.unusedVariables false
namespace Go.Proofs
open Go.Shelf
shelf_lay Lays.n169 Nm 169 at Try as Try.layOut
def Try.layWrt_ren : Go.Shelf.Ren := ⟨fun | 167 => 102 | 240 => 124 | 276 => 129 | n => n, fun | 0 => 0 | 4 => 4 | 5 => 5 | 9 => 9 | 20 => 20 | 37 => 99 | 70 => 98 | 72 => 101 | 75 => 103 | 80 => 105 | 164 => 120 | n => n, fun n => n⟩
theorem Try.layWrt : Lays.n167 Try.prog Try.layWrt_ren where
  mixed := by kernel_rfl
  f167 := Try.func102.trans (congrArg some (by kernel_rfl))
  f240 := Try.func124.trans (congrArg some (by kernel_rfl))
  f276 := Try.func129.trans (congrArg some (by kernel_rfl))
  t0 := Try.underlying0
  a0 := Try.isAgg0
  z0 := Try.sizeOf0
  v0 := Try.zeroValue0
  t4 := Try.underlying4
  a4 := Try.isAgg4
  z4 := Try.sizeOf4
  v4 := Try.zeroValue4
  t5 := Try.underlying5
  a5 := Try.isAgg5
  z5 := Try.sizeOf5
  v5 := Try.zeroValue5
  t9 := Try.underlying9
  a9 := Try.isAgg9
  z9 := Try.sizeOf9
  v9 := Try.zeroValue9
  t20 := Try.underlying20
  a20 := Try.isAgg20
  z20 := Try.sizeOf20
  v20 := Try.zeroValue20
  t37 := Try.underlying99
  a37 := Try.isAgg99
  z37 := Try.sizeOf99
  v37 := Try.zeroValue99
  t70 := Try.underlying98
  a70 := Try.isAgg98
  z70 := Try.sizeOf98
  v70 := Try.zeroValue98
  t72 := Try.underlying101
  a72 := Try.isAgg101
  z72 := Try.sizeOf101
  v72 := Try.zeroValue101
  t75 := Try.underlying103
  a75 := Try.isAgg103
  z75 := Try.sizeOf103
  v75 := Try.zeroValue103
  t164 := Try.underlying120
  a164 := Try.isAgg120
  z164 := Try.sizeOf120
  v164 := Try.zeroValue120
theorem Try.extraWrt : Builder.Extra Try.prog Try.layWrt_ren where
  sizeBuilder := by kernel_rfl
  liesBuilder := by kernel_rfl
  t5 := Try.underlying5
  a5 := Try.isAgg5
  z5 := Try.sizeOf5
  v5 := Try.zeroValue5
  infoByte := by kernel_rfl
  cellsByte := by kernel_rfl
  sizeByte := by kernel_rfl
  neB5 := by decide
theorem Try.extraOut : Builder.Extra Try.prog Try.layOut_ren where
  sizeBuilder := by kernel_rfl
  liesBuilder := by kernel_rfl
  t5 := Try.underlying5
  a5 := Try.isAgg5
  z5 := Try.sizeOf5
  v5 := Try.zeroValue5
  infoByte := by kernel_rfl
  cellsByte := by kernel_rfl
  sizeByte := by kernel_rfl
  neB5 := by decide
end Go.Proofs
namespace Go.Proofs.Ytkkmlcengneomaa
open Go Go.Proofs Go.RowKit Eng Ls Go.Shelf
theorem wrt_ok : BMeets Try.prog 102 ⟨101, 5, 0⟩ :=
  ⟨⟨_, _, Try.func102, rfl, rfl⟩, fun w b v q h => fun c h0 h1 hs => bld_byte Try.layWrt Try.extraWrt h c h0 h1 hs⟩
theorem out_ok : BMeets Try.prog 103 ⟨101, 5, 2⟩ :=
  ⟨⟨_, _, Try.func103, rfl, rfl⟩, fun w b v q h => bld_out Try.layOut Try.extraOut h⟩
def blds : List (Nat × BSpec) := [(102, ⟨101, 5, 0⟩), (103, ⟨101, 5, 2⟩)]
theorem blds_ok : ∀ f B, find blds f = some B → BMeets Try.prog f B := by
  intro f B h
  unfold blds at h
  rcases find_cons h with ⟨rfl, rfl⟩ | h
  · exact wrt_ok
  rcases find_cons h with ⟨rfl, rfl⟩ | h
  · exact out_ok
  cases h
def ctxB (specs : List (Nat × FSpec)) : Ctx := { specs := specs, tys := tys, wr := [], blds := blds }
theorem sndB {specs : List (Nat × FSpec)} (h : SpecsOk Try.prog specs) : Sound Try.prog (ctxB specs) := SpecsOk.sound h tys_ok (by kernel_rfl) (hbl := blds_ok)
end Go.Proofs.Ytkkmlcengneomaa
