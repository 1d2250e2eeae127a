/- Functions that hand over what a list that they close over holds: a copy of the list's header lasts. No condition. -/
import Derived.Test.YtmijnbjlhnpokaaGreatEng3
set_option linter.unusedVariables false
set_option linter.unusedSimpArgs false
namespace Eng
open Go Go.RowKit
section
variable {P : Program} {C : Ctx}
def preS (caps:List Ty) (x:qa5 caps) (l:Nat) (u:Value):St:=⟨(0,.lit (.func (.yield l) #[] #[])) :: (1,.imm (.cons (.lit u) .nil) 0) :: (q67 caps x 1).drop 1,λ_=>.any,[.cnt (some 0)]⟩
end
end Eng
