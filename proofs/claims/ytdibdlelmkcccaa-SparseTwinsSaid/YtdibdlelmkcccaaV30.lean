/- The reference's solutions and fits: contracts by the engine. No condition. -/
import Derived.Test.YtdibdlelmkcccaaV28
set_option linter.unusedVariables false
set_option linter.unusedSimpArgs false
namespace Go.Proofs.Ytdibdlelmkcccaa
open Go Go.RowKit Ls Eng
def q0b (P:List Int) (n:Nat):Bool:=P.any λj=>j==(n:Int)
def q46 (n:Nat) (d:List (List Int)) (P:List Int):Nat->List (Int × Int)
 | 0=>List.replicate n (0,1)
 | i+1=>(q46 n d P i).set (nI P i).toNat (xh2 (nI (nL d i) n) (nI (nL d i) (nI P i).toNat))
def svD (m:List (List Int)) (pix y:List Int):List (List Int):=(qa1 (qg9 m pix y)).1
def svP (m:List (List Int)) (pix y:List Int):List Int:=(qa1 (qg9 m pix y)).2
def svR (m:List (List Int)) (pix y:List Int):List (Int × Int) × Int × Bool:=if q0b (svP m pix y) pix.length=true then([],0,false) else(q46 pix.length (svD m pix y) (svP m pix y) (svP m pix y).length,(pix.length:Int)-(svP m pix y).length,true)
theorem q06 (n:Nat) (d:List (List Int)) (P:List Int):∀i,(q46 n d P i).length=n
 | 0=>by simp[q46]
 | i+1=>by rw[q46,List.length_set,q06 n d P i]
structure x4v (d:List (List Int)) (P:List Int) (n:Nat):Prop where
 cnt:d.length=P.length
 lenP:P.length<=1000
 each:∀k,k<d.length->(nL d k).length=n+1
 pv:∀k,k<P.length->0<=nI P k/\nI P k<=n
 nz:∀k,k<P.length->nI (nL d k) (nI P k).toNat≠0
 bigD:∀k,k<P.length->qf3 BIG (nI (nL d k) (nI P k).toNat)
 bigN:∀k,k<P.length->qf3 BIG (nI (nL d k) n)
structure x4w (m:List (List Int)) (pix y:List Int):Prop where
 one:0<m.length
 col:w5u m pix
 pl:pix.length<=1000
 yl:y.length=m.length
 rd:w85 (qg9 m pix y)
 ar:x4v (svD m pix y) (svP m pix y) pix.length
theorem q7c (m:List (List Int)) (pix y:List Int):(qg9 m pix y).length=m.length:=qo1 _ _ _
theorem w2n (m:List (List Int)) (pix y:List Int) (k:Nat) (hk:k<m.length):nL (qg9 m pix y) k=nL (qi5 m pix) k++[nI y k]:=by
 rw[qm7 _ k (by rw[q7c]; exact hk),qp7 m pix k hk]
 simp[qg9,qb5]
end Go.Proofs.Ytdibdlelmkcccaa
set_option linter.unusedVariables false
set_option linter.unusedSimpArgs false
namespace Go.Proofs.Ytdibdlelmkcccaa
open Go Go.RowKit Eng
def svT (m:List (List Int)) (pix y:List Int):List (Int × Int) × Int:=if(svR m pix y).2.2=false then([],8) else if 0<(svR m pix y).2.1 then([],11) else((svR m pix y).1,0)
def x04 (m:List (List Int)) (pix y:List Int):List (Int × Int) × Int:=if q1v m y pix=0 then svT m pix y else([],q1v m y pix)
structure xs9 (m:List (List Int)) (pix y:List Int):Prop where
 fit:q6o m
 len:pix.length<=100000
 ok:q1v m y pix=0->x4w m pix y
def xt0 (l:List (Int × Int)):Bool:=l.any λr=>r.1==0
def x2b (s:List (Int × Int) × Int) (pix:List Int):Fit × Bool:=if s.2≠0\/xt0 s.1=true then(([],[]),false) else((pix,s.1),true)
def xv3 (m:List (List Int)) (y pix:List Int):Fit × Bool:=x2b (x04 m pix y) pix
theorem wy8 {m:List (List Int)} {y:List Int} {pix:List Int} (h:wj1 m y=0):q1v m y pix=w1o (nL m 0).length pix/\qd3 m=true:=by
 have hC:q1v m y pix=if qd3 m=false then 1 else if ¬y.length=m.length then 9 else if xa8 y then 7 else w45 m pix:=rfl
 have hN:w45 m pix=if qd3 m=false then 1 else w1o (nL m 0).length pix:=rfl
 unfold wj1 at h
 split at h
 ·cases h
 ·rename_i hv
  unfold xz2 at h
  split at h
  ·cases h
  ·rename_i hl
   split at h
   ·cases h
   ·rename_i ho
    exact⟨by rw[hC,if_neg hv,if_neg hl,if_neg ho,hN,if_neg hv],by simpa using hv⟩
theorem xi0 {m:List (List Int)} {y:List Int} {pix:List Int} (h:wj1 m y≠0):q1v m y pix=wj1 m y:=by
 have hC:q1v m y pix=if qd3 m=false then 1 else if ¬y.length=m.length then 9 else if xa8 y then 7 else w45 m pix:=rfl
 unfold wj1 xz2 at *
 split at h
 ·rename_i hv; rw[hC,if_pos hv,if_pos hv]
 ·rename_i hv
  split at h
  ·rename_i hl; rw[hC,if_neg hv,if_pos hl,if_neg hv,if_pos hl]
  ·rename_i hl
   split at h
   ·rename_i ho; rw[hC,if_neg hv,if_neg hl,if_pos ho,if_neg hv,if_neg hl,if_pos ho]
   ·exact absurd rfl h
end Go.Proofs.Ytdibdlelmkcccaa
