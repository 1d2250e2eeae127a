/- The reference's sparsest fit, how many, the only one, the whole ones: contracts by the engine. No condition. -/
import Derived.Test.YtdibdlelmkcccaaV30
set_option linter.unusedVariables false
set_option linter.unusedSimpArgs false
namespace Go.Proofs.Ytdibdlelmkcccaa
open Go Go.RowKit Eng
def q5o (m:List (List Int)) (y:List Int) (s:List (List Int)):List Fit:=s.filterMap λpix=>if(xv3 m y pix).2=true then some (xv3 m y pix).1 else none
def xi1 (m:List (List Int)) (y:List Int):List Fit:=q5o m y (qe0 (nL m 0).length)
structure w58 (m:List (List Int)) (y:List Int):Prop where
 one:0<m.length
 pix:(nL m 0).length<=7
 each:∀s∈qe0 (nL m 0).length,xs9 m s y
theorem wk9 (m:List (List Int)) (y:List Int) (s:List (List Int)):(q5o m y s).length<=s.length:=List.length_filterMap_le _ s
def w59 (k:Int) (L:List Fit):List Fit:=L.filter λf=>decide ((f.1.length:Int)<=k)
theorem w9h {m:List (List Int)} {y:List Int} (h:w58 m y):(xi1 m y).length<=128:=by
 have h1:=wk9 m y (qe0 (nL m 0).length)
 have h2:=(q3k (n:=(nL m 0).length) (k:=128) h.pix (Nat.le_refl _)).1
 have e:qe0 (nL m 0).length=qc8 (nL m 0).length 128:=rfl
 rw[e] at h1
 unfold xi1
 rw[e]
 omega
end Go.Proofs.Ytdibdlelmkcccaa
set_option linter.unusedVariables false
set_option linter.unusedSimpArgs false
namespace Go.Proofs.Ytdibdlelmkcccaa
open Go Go.RowKit Eng
end Go.Proofs.Ytdibdlelmkcccaa
