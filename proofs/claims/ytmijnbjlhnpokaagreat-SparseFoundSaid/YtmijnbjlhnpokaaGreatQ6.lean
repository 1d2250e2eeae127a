/- The places of the greatest sizes: contracts by the engine. No condition. -/
import Derived.Test.YtmijnbjlhnpokaaGreatZ8
import Derived.Test.YtmijnbjlhnpokaaGreatV26
import Derived.Test.YtmijnbjlhnpokaaGreatEngU
set_option linter.unusedVariables false
set_option linter.unusedSimpArgs false
namespace Go.Proofs.YtmijnbjlhnpokaaGreat
open Go Go.RowKit Eng
def BxsOk (bxs:List (Nat × wc0)):Prop:=∀f B,find bxs f=some B->q5b Tryz.prog f B
theorem BxsOk.nil:BxsOk []:=λf M h=>by cases h
theorem BxsOk.cons {f:Nat} {B:wc0} {l:List (Nat × wc0)} (h:q5b Tryz.prog f B) (k:BxsOk l):BxsOk ((f,B) :: l):=by
 intro g S hg
 simp only[find] at hg
 split at hg
 ·rename_i e; obtain rfl:=Nat.eq_of_beq_eq_true e; injection hg with hg; rw[<- hg]; exact h
 ·exact k g S hg
open Go Go.RowKit Eng Ls
end Go.Proofs.YtmijnbjlhnpokaaGreat
