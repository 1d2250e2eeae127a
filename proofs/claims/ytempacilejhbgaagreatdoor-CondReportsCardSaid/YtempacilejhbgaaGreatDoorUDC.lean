/- THE TIED CARD OF CondReports. No condition. -/
import Derived.Test.YtempacilejhbgaaGreatDoorUDL
import Derived.Test.YtempacilejhbgaaGreatDoorCards
import Derived.Test.YtempacilejhbgaaGreatDoorTie
import Derived.SevenTiedAt
namespace Go.Proofs.YtempacilejhbgaaGreatDoor
open Go
theorem condReports_holds:Rows.CondReportsCardSaid:=
 Claim7.holds_tied_plain_at .later [] [.data, .data, .data] true (true, "49fb30d5db7700b62ada1724bf649469ef25550677d157e98099e28cffd86d35") false
  q0q (λ_ h=>by cases h) (by kernel_rfl) (λ_ h=>by cases h) condReports_row_tie rfl ⟨rfl,rfl⟩ (by kernel_rfl) rfl
  (λf fn hf hfn=>by
   obtain rfl : f = 3 := Option.some.inj ((show Tryz.prog.funcNamed "lightsieve/lightsievelaw06.CondReports" = some 3 by kernel_rfl).symm.trans hf) |>.symm
   obtain rfl:fn=Tryz.f3:=(Option.some.inj (Tryz.func3.symm.trans hfn)).symm
   exact⟨by kernel_rfl,λj t ht=>by
    rw[Tryz.params3] at ht
    have hm:t∈[23]:=by simpa using Array.mem_of_getElem? ht
    have hall:([23].all λu=>!Tryz.prog.wantsStandIn u)=true:=by kernel_rfl
    exact(show Tryz.prog.wantsStandIn t=false by simpa using List.all_eq_true.1 hall t hm)⟩)
  (by kernel_rfl)
#print axioms condReports_holds
end Go.Proofs.YtempacilejhbgaaGreatDoor
