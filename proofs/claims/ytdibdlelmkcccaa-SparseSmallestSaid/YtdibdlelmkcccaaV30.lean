/- The reference's solutions and fits: contracts by the engine. No condition. -/
import Derived.Test.YtdibdlelmkcccaaV28
set_option linter.unusedVariables false
set_option linter.unusedSimpArgs false
namespace Go.Proofs.Ytdibdlelmkcccaa
open Go Go.RowKit Ls Eng
def qy4 (P:List Int) (n:Nat):Bool:=P.any λj=>j==(n:Int)
def q4e (n:Nat) (d:List (List Int)) (P:List Int):Nat->List (Int × Int)
 | 0=>List.replicate n (0,1)
 | i+1=>(q4e n d P i).set (nI P i).toNat (wb9 (nI (nL d i) n) (nI (nL d i) (nI P i).toNat))
def svD (m:List (List Int)) (pix y:List Int):List (List Int):=(qu1 (qd3 m pix y)).1
def svP (m:List (List Int)) (pix y:List Int):List Int:=(qu1 (qd3 m pix y)).2
def svR (m:List (List Int)) (pix y:List Int):List (Int × Int) × Int × Bool:=if qy4 (svP m pix y) pix.length=true then([],0,false) else(q4e pix.length (svD m pix y) (svP m pix y) (svP m pix y).length,(pix.length:Int)-(svP m pix y).length,true)
theorem q0h (n:Nat) (d:List (List Int)) (P:List Int):∀i,(q4e n d P i).length=n
 | 0=>by simp[q4e]
 | i+1=>by rw[q4e,List.length_set,q0h n d P i]
structure x68 (d:List (List Int)) (P:List Int) (n:Nat):Prop where
 cnt:d.length=P.length
 lenP:P.length<=1000
 each:∀k,k<d.length->(nL d k).length=n+1
 pv:∀k,k<P.length->0<=nI P k/\nI P k<=n
 nz:∀k,k<P.length->nI (nL d k) (nI P k).toNat≠0
 bigD:∀k,k<P.length->qd2 BIG (nI (nL d k) (nI P k).toNat)
 bigN:∀k,k<P.length->qd2 BIG (nI (nL d k) n)
structure x7a (m:List (List Int)) (pix y:List Int):Prop where
 one:0<m.length
 col:x2s m pix
 pl:pix.length<=1000
 yl:y.length=m.length
 rd:x4p (qd3 m pix y)
 ar:x68 (svD m pix y) (svP m pix y) pix.length
theorem q6m (m:List (List Int)) (pix y:List Int):(qd3 m pix y).length=m.length:=qm2 _ _ _
theorem q3o (m:List (List Int)) (pix y:List Int) (k:Nat) (hk:k<m.length):nL (qd3 m pix y) k=nL (w6b m pix) k++[nI y k]:=by
 rw[qq0 _ k (by rw[q6m]; exact hk),q4w m pix k hk]
 simp[qd3,qa9]
end Go.Proofs.Ytdibdlelmkcccaa
set_option linter.unusedVariables false
set_option linter.unusedSimpArgs false
namespace Go.Proofs.Ytdibdlelmkcccaa
open Go Go.RowKit Eng
def svT (m:List (List Int)) (pix y:List Int):List (Int × Int) × Int:=if(svR m pix y).2.2=false then([],8) else if 0<(svR m pix y).2.1 then([],11) else((svR m pix y).1,0)
def x3a (m:List (List Int)) (pix y:List Int):List (Int × Int) × Int:=if qt6 m y pix=0 then svT m pix y else([],qt6 m y pix)
structure xx2 (m:List (List Int)) (pix y:List Int):Prop where
 fit:q51 m
 len:pix.length<=100000
 ok:qt6 m y pix=0->x7a m pix y
def xx3 (l:List (Int × Int)):Bool:=l.any λr=>r.1==0
def x4s (s:List (Int × Int) × Int) (pix:List Int):Fit × Bool:=if s.2≠0\/xx3 s.1=true then(([],[]),false) else((pix,s.1),true)
def xq4 (m:List (List Int)) (y pix:List Int):Fit × Bool:=x4s (x3a m pix y) pix
theorem wa0 {m:List (List Int)} {y:List Int} {pix:List Int} (h:qu7 m y=0):qt6 m y pix=w11 (nL m 0).length pix/\qe7 m=true:=by
 have hC:qt6 m y pix=if qe7 m=false then 1 else if ¬y.length=m.length then 9 else if w3b y then 7 else wh5 m pix:=rfl
 have hN:wh5 m pix=if qe7 m=false then 1 else w11 (nL m 0).length pix:=rfl
 unfold qu7 at h
 split at h
 ·cases h
 ·rename_i hv
  unfold w5q at h
  split at h
  ·cases h
  ·rename_i hl
   split at h
   ·cases h
   ·rename_i ho
    exact⟨by rw[hC,if_neg hv,if_neg hl,if_neg ho,hN,if_neg hv],by simpa using hv⟩
theorem w6q {m:List (List Int)} {y:List Int} {pix:List Int} (h:qu7 m y≠0):qt6 m y pix=qu7 m y:=by
 have hC:qt6 m y pix=if qe7 m=false then 1 else if ¬y.length=m.length then 9 else if w3b y then 7 else wh5 m pix:=rfl
 unfold qu7 w5q at *
 split at h
 ·rename_i hv; rw[hC,if_pos hv,if_pos hv]
 ·rename_i hv
  split at h
  ·rename_i hl; rw[hC,if_neg hv,if_pos hl,if_neg hv,if_pos hl]
  ·rename_i hl
   split at h
   ·rename_i ho; rw[hC,if_neg hv,if_neg hl,if_pos ho,if_neg hv,if_neg hl,if_pos ho]
   ·exact absurd rfl h
def w6r (m:List (List Int)) (y:List Int) (f:Fit):Bool:=decide (qt6 m y f.1=0) && (xq4 m y f.1).2 && q1c f (xq4 m y f.1).1
abbrev x7b:qc7:=qg3 true none [ql6,qf7] [.bool] (λx=>q51 x.1) (λx=>(qu7 x.1 x.2.1==0,()))
theorem w6s:qd8 Try.prog 58 x7b:=by
 refine meets (snd (SpecsOk.cons wo6 (SpecsOk.nil _))) Try.func58 rfl rfl (λ_ _=>none) (λ_=>by kernel_rfl) (by decide) ?_
 rintro⟨m,y,⟨⟩⟩ h
 revert m y
 intro(m:List (List Int)) (y:List Int) (h:q51 m)
 refine @qe0 _ (q51 m/\(qu7 m y==(0:Int))=(qu7 m y==(0:Int))) (by kernel_rfl) ?_
 try simp only[z0,z1,z2,z3,z4,z5,z6,z7,z8,z9,z10,Int.reduceEq,z11,z12,z13,z14,z15,z16,z17,z18,z19,z20,z21,z22,z23,z24,z25,z26,z27,z28,z29,z30,Int.reduceLE,Int.reduceLT,z31,z32,z33,z34,qa3]
 try simp only[qb3,qb4,qc8,List.set_cons_zero,List.cons.injEq,and_true,true_and]
 exact h
end Go.Proofs.Ytdibdlelmkcccaa
