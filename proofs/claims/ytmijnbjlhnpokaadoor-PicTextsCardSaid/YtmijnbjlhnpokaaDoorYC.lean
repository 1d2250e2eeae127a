/- THE TIED CARD OF PicTexts. No condition. -/
import Derived.Test.YtmijnbjlhnpokaaDoorYL
import Derived.Test.YtmijnbjlhnpokaaDoorCards
import Derived.Test.YtmijnbjlhnpokaaDoorTie
import Derived.SevenTiedAt
namespace Go.Proofs.YtmijnbjlhnpokaaDoor
open Go
theorem picTexts_holds : Rows.PicTextsCardSaid :=
  Claim7.holds_tied_plain_at .later [] [.data, .data, .data, .data, .sentinel, .sentinel, .pinned] true (true, "dfac3b6317f4aaf3a00e295c2445423a2244ab78f1bcd87627786a7d25d1af86") true
    picTexts_row (fun _ h => by cases h) (by kernel_rfl) (fun _ h => by cases h) picTexts_row_tie rfl ⟨rfl, rfl⟩ (by kernel_rfl) rfl
    (fun f fn hf hfn => by
      obtain rfl : f = 3 := Option.some.inj ((show Tryd.prog.funcNamed "lightsieve/lightsievelaw01.PicTexts" = some 3 by kernel_rfl).symm.trans hf) |>.symm
      obtain rfl : fn = Tryd.f3 := (Option.some.inj (Tryd.func3.symm.trans hfn)).symm
      exact ⟨by kernel_rfl, fun j t ht => by
        rw [Tryd.params3] at ht
        have hm : t ∈ [24, 9] := by simpa using Array.mem_of_getElem? ht
        have hall : ([24, 9].all fun u => !Tryd.prog.wantsStandIn u) = true := by kernel_rfl
        exact (show Tryd.prog.wantsStandIn t = false by simpa using List.all_eq_true.1 hall t hm)⟩)
    (by kernel_rfl)
#print axioms picTexts_holds
end Go.Proofs.YtmijnbjlhnpokaaDoor
