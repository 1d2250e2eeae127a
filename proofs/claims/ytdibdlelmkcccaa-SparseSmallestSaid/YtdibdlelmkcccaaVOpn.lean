/- Lengths of a slice of slices. No condition. -/
import Derived.Test.YtdibdlelmkcccaaV34
import Derived.Test.YtdibdlelmkcccaaOpen
set_option linter.unusedVariables false
namespace Go.Proofs.Ytdibdlelmkcccaa
open Go Go.RowKit Eng Ls
theorem xp8 {w:World} {A:Option Addr} {n c:Nat} {m:List (List Int)} (s:SM w A n c m):q51 m:=by
 have hl:=s.len
 have hn:=s.nmax
 refine⟨by omega,λi hi=>?_⟩
 obtain⟨ad,_,h⟩:=s.at_ (by omega)
 obtain⟨A',c',_,h2⟩:=h i (by omega)
 have e:nL m i=nthL m i:=by
  rw[qq0 m i hi]
  unfold nthL
  rw[List.getD_eq_getElem?_getD,List.getElem?_eq_getElem hi]
  rfl
 rw[e]
 exact h2.nmax
end Go.Proofs.Ytdibdlelmkcccaa
