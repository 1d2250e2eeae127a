/- strings.Builder laid at this seat. Printed by program (mk_lay.py). No condition. -/
import Derived.Test.YtmijnbjlhnpokaaDoorTys
import Derived.Test.YtmijnbjlhnpokaaDoorBld
import Derived.Shelf.Lay
import Derived.Ground.NamesProg
set_option linter.unusedVariables false
namespace Go.Proofs
open Go.Shelf
shelf_lay Lays.n169 Nm 169 at Tryd as Tryd.layOut
def Tryd.layWrt_ren : Go.Shelf.Ren := ⟨fun | 166 => 23 | 240 => 39 | 276 => 57 | n => n, fun | 0 => 0 | 3 => 3 | 4 => 4 | 5 => 5 | 9 => 9 | 20 => 20 | 37 => 51 | 70 => 50 | 72 => 53 | 75 => 43 | 80 => 54 | 164 => 78 | n => n, fun n => n⟩
theorem Tryd.layWrt : Lays.n166 Tryd.prog Tryd.layWrt_ren where
  mixed := by kernel_rfl
  f166 := Tryd.func23.trans (congrArg some (by kernel_rfl))
  f240 := Tryd.func39.trans (congrArg some (by kernel_rfl))
  f276 := Tryd.func57.trans (congrArg some (by kernel_rfl))
  t0 := Tryd.underlying0
  a0 := Tryd.isAgg0
  z0 := Tryd.sizeOf0
  v0 := Tryd.zeroValue0
  t3 := Tryd.underlying3
  a3 := Tryd.isAgg3
  z3 := Tryd.sizeOf3
  v3 := Tryd.zeroValue3
  t4 := Tryd.underlying4
  a4 := Tryd.isAgg4
  z4 := Tryd.sizeOf4
  v4 := Tryd.zeroValue4
  t9 := Tryd.underlying9
  a9 := Tryd.isAgg9
  z9 := Tryd.sizeOf9
  v9 := Tryd.zeroValue9
  t20 := Tryd.underlying20
  a20 := Tryd.isAgg20
  z20 := Tryd.sizeOf20
  v20 := Tryd.zeroValue20
  t37 := Tryd.underlying51
  a37 := Tryd.isAgg51
  z37 := Tryd.sizeOf51
  v37 := Tryd.zeroValue51
  t70 := Tryd.underlying50
  a70 := Tryd.isAgg50
  z70 := Tryd.sizeOf50
  v70 := Tryd.zeroValue50
  t72 := Tryd.underlying53
  a72 := Tryd.isAgg53
  z72 := Tryd.sizeOf53
  v72 := Tryd.zeroValue53
  t75 := Tryd.underlying43
  a75 := Tryd.isAgg43
  z75 := Tryd.sizeOf43
  v75 := Tryd.zeroValue43
  t164 := Tryd.underlying78
  a164 := Tryd.isAgg78
  z164 := Tryd.sizeOf78
  v164 := Tryd.zeroValue78
theorem Tryd.extraWrt : Builder.Extra Tryd.prog Tryd.layWrt_ren where
  sizeBuilder := by kernel_rfl
  liesBuilder := by kernel_rfl
  t5 := Tryd.underlying5
  a5 := Tryd.isAgg5
  z5 := Tryd.sizeOf5
  v5 := Tryd.zeroValue5
  infoByte := by kernel_rfl
  cellsByte := by kernel_rfl
  sizeByte := by kernel_rfl
  neB5 := by decide
theorem Tryd.extraOut : Builder.Extra Tryd.prog Tryd.layOut_ren where
  sizeBuilder := by kernel_rfl
  liesBuilder := by kernel_rfl
  t5 := Tryd.underlying5
  a5 := Tryd.isAgg5
  z5 := Tryd.sizeOf5
  v5 := Tryd.zeroValue5
  infoByte := by kernel_rfl
  cellsByte := by kernel_rfl
  sizeByte := by kernel_rfl
  neB5 := by decide
end Go.Proofs
namespace Go.Proofs.YtmijnbjlhnpokaaDoor
open Go Go.Proofs Go.RowKit Eng Ls Go.Shelf
theorem wrt_ok : BMeets Tryd.prog 23 ⟨53, 5, 1⟩ :=
  ⟨⟨_, _, Tryd.func23, rfl, rfl⟩, fun w b v q h => fun u hs => bld_str Tryd.layWrt Tryd.extraWrt h u hs⟩
theorem out_ok : BMeets Tryd.prog 24 ⟨53, 5, 2⟩ :=
  ⟨⟨_, _, Tryd.func24, rfl, rfl⟩, fun w b v q h => bld_out Tryd.layOut Tryd.extraOut h⟩
def blds : List (Nat × BSpec) := [(23, ⟨53, 5, 1⟩), (24, ⟨53, 5, 2⟩)]
theorem blds_ok : ∀ f B, find blds f = some B -> BMeets Tryd.prog f B := by
  intro f B h
  unfold blds at h
  rcases find_cons h with ⟨rfl, rfl⟩ | h
  · exact wrt_ok
  rcases find_cons h with ⟨rfl, rfl⟩ | h
  · exact out_ok
  cases h
def ctxBld (specs : List (Nat × FSpec)) : Ctx := { specs := specs, tys := tys, wr := [], blds := blds }
theorem sndBldAt {m0 : View} {specs : List (Nat × FSpec)} (h : SpecsAt Tryd.prog m0 specs) : SoundAt Tryd.prog (ctxBld specs) m0 := SpecsAt.sound h tys_ok (by kernel_rfl) (hbl := blds_ok)
end Go.Proofs.YtmijnbjlhnpokaaDoor
