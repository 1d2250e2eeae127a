/- The reference's sparsest fit, how many, the only one, the whole ones: contracts by the engine. No condition. -/
import Derived.Test.YtdibdlelmkcccaaV30
set_option linter.unusedVariables false
set_option linter.unusedSimpArgs false
namespace Go.Proofs.Ytdibdlelmkcccaa
open Go Go.RowKit Eng
def q4x (m:List (List Int)) (y:List Int) (s:List (List Int)):List Fit:=s.filterMap λpix=>if(xq4 m y pix).2=true then some (xq4 m y pix).1 else none
def xl9 (m:List (List Int)) (y:List Int):List Fit:=q4x m y (w2n (nL m 0).length)
structure w6t (m:List (List Int)) (y:List Int):Prop where
 one:0<m.length
 pix:(nL m 0).length<=7
 each:∀s∈w2n (nL m 0).length,xx2 m s y
theorem wj8 (m:List (List Int)) (y:List Int) (s:List (List Int)):(q4x m y s).length<=s.length:=List.length_filterMap_le _ s
def w6u (k:Int) (L:List Fit):List Fit:=L.filter λf=>decide ((f.1.length:Int)<=k)
theorem w92 {m:List (List Int)} {y:List Int} (h:w6t m y):(xl9 m y).length<=128:=by
 have h1:=wj8 m y (w2n (nL m 0).length)
 have h2:=(wj2 (n:=(nL m 0).length) (k:=128) h.pix (Nat.le_refl _)).1
 have e:w2n (nL m 0).length=qq8 (nL m 0).length 128:=rfl
 rw[e] at h1
 unfold xl9
 rw[e]
 omega
end Go.Proofs.Ytdibdlelmkcccaa
set_option linter.unusedVariables false
set_option linter.unusedSimpArgs false
namespace Go.Proofs.Ytdibdlelmkcccaa
open Go Go.RowKit Eng
end Go.Proofs.Ytdibdlelmkcccaa
