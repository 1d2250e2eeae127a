/- Twins, program and reference: contracts by the engine. No condition. -/
import Derived.Test.YtdibdlelmkcccaaV20
set_option linter.unusedVariables false
set_option linter.unusedSimpArgs false
namespace Go.Proofs.Ytdibdlelmkcccaa
open Go Go.RowKit Eng
def x4q (m:List (List Int)) (l:List Int) (n k:Int):Int:=if qe7 m=false then 1 else if(l.length:Int)≠n then 9 else if(l.all λe=>inB e (0-k) k)=false then 7 else 0
def x4r (m:List (List Int)) (x:List Int):Int:=x4q m x (nL m 0).length 1000000
structure Shw (m:List (List Int)) (x:List Int):Prop where
 msk:Mk m
 val:qe7 m=true
 len:x.length=(nL m 0).length
 bd:∀i,i<x.length->qd2 1000000 (nI x i)
theorem Shw.of {m:List (List Int)} {x:List Int} (h:x4r m x=0):Shw m x:=by
 unfold x4r x4q at h
 split at h
 ·cases h
 ·rename_i hv
  have hv:qe7 m=true:=by cases e:qe7 m with | true=>rfl | false=>exact absurd e hv
  split at h
  ·cases h
  ·rename_i hl
   split at h
   ·cases h
   ·rename_i ha
    have ha:(x.all λe=>inB e (0-1000000) 1000000)=true:=by simpa using ha
    refine⟨Mk.of hv,hv,by omega,λi hi=>?_⟩
    have:=qu6.1 (List.all_eq_true.1 ha (nI x i) (by rw[qi5 x i hi]; exact List.getElem_mem hi))
    unfold qd2; omega
end Go.Proofs.Ytdibdlelmkcccaa
set_option linter.unusedVariables false
set_option linter.unusedSimpArgs false
namespace Go.Proofs.Ytdibdlelmkcccaa
open Go Go.RowKit Eng
end Go.Proofs.Ytdibdlelmkcccaa
