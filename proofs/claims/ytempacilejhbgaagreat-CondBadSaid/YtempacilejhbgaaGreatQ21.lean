/- Circuits against a picture: contracts by the engine. No condition. -/
import Derived.Test.YtempacilejhbgaaGreatQ19
import Derived.Test.YtempacilejhbgaaGreatV22
set_option linter.unusedVariables false
set_option linter.unusedSimpArgs false
namespace Go.Proofs.YtempacilejhbgaaGreat
open Go Go.RowKit Eng
def qu5 (h x:List Int):Nat->Int
 | 0=>0
 | k+1=>if 0<nI x k then qu5 h x k+nI h k else if nI x k<0 then qu5 h x k-nI h k else qu5 h x k
def qj7 (h x:List Int):Nat->Int
 | 0=>0
 | k+1=>if 0<nI x k then qj7 h x k else if nI x k<0 then qj7 h x k else qj7 h x k+qp1 (nI h k)
def agB (h x:List Int):Bool:=decide (qj7 h x h.length<=qp1 (qu5 h x h.length))
structure xl4 (h x:List Int):Prop where
 ok:HOk h
 le:h.length<=x.length
theorem w8y {h x:List Int} (hh:HOk h):∀k:Nat,qd5 (1000000*k) (qu5 h x k)/\0<=qj7 h x k/\qj7 h x k<=1000000*k
 | 0=>by unfold qd5; simp[qu5,qj7]
 | k+1=>by
  obtain⟨h1,h2,h3⟩:=w8y (x:=x) hh k
  have h4:=hh.sm k
  rw[qu5,qj7]
  unfold qd5 qp1 at *
  split
  ·omega
  ·split <;> omega
theorem w8z {h x:List Int} {k:Nat} (hh:HOk h) (hk:k<h.length):(0<nI x k->qu5 h x (k+1)=qu5 h x k+nI h k/\qj7 h x (k+1)=qj7 h x k)/\(¬0<nI x k->nI x k<0->qu5 h x (k+1)=qu5 h x k-nI h k/\qj7 h x (k+1)=qj7 h x k)/\(¬0<nI x k->¬nI x k<0->qu5 h x (k+1)=qu5 h x k/\qj7 h x (k+1)=qj7 h x k+qp1 (nI h k)):=by
 refine⟨λq=>?_,λq r=>?_,λq r=>?_⟩
 ·rw[qu5,qj7,if_pos q,if_pos q]; exact⟨rfl,rfl⟩
 ·rw[qu5,qj7,if_neg q,if_neg q,if_pos r,if_pos r]; exact⟨rfl,rfl⟩
 ·rw[qu5,qj7,if_neg q,if_neg q,if_neg r,if_neg r]; exact⟨rfl,rfl⟩
def x9d (h x:List Int):Nat->Option Inv
 | 0=>some (Inv.of [5,6,11] 0 (λk:Nat=>[(5,.lit (.int .i64 (qu5 h x k))),(6,.lit (.int .i64 (qj7 h x k))),(11,.lit (.int .i64 k))]) (λ_=>[]) (λk=>k<=h.length) (λk=>h.length-k))
 | _=>none
abbrev sAg:qc0:=qf3 true none [tInts,tInts] [.bool] (λx=>xl4 x.1 x.2.1) (λx=>(agB x.1 x.2.1,()))
theorem xh9:qd2 Tryz.prog 80 sAg:=by
 refine meets (snd (SpecsOk.cons q0c (SpecsOk.nil _))) Tryz.func80 rfl rfl (λx=>x9d x.1 x.2.1) (λ_=>by kernel_rfl) (by decide) ?_
 rintro⟨h,x,⟨⟩⟩ hh
 revert h x
 intro(h:List Int) (x:List Int) (hh:xl4 h x)
 refine @qd4 _ (∃(v0:Unit),∃(v1:Nat),Nat.le v1 h.length/\(((0:Int)=qu5 h x v1/\(0:Int)=qj7 h x v1/\(0:Int)=(↑v1:Int)/\True)/\True)/\∀(v2:Nat),Nat.le v2 h.length->(decide ((↑v2:Int)<(↑h.length:Int))=true->((0:Int)<=(↑v2:Int)/\(↑v2:Int)<(↑h.length:Int))/\((0:Int)<=(↑v2:Int)/\(↑v2:Int)<(↑x.length:Int))/\(decide ((0:Int)<nI x v2)=true->fits .i64 (qu5 h x v2+nI h v2)/\fits .i64 ((↑v2:Int)+(1:Int))/\∃(v6:Nat),Nat.le v6 h.length/\h.length-v6<h.length-v2/\(qu5 h x v2+nI h v2=qu5 h x v6/\qj7 h x v2=qj7 h x v6/\(↑v2:Int)+(1:Int)=(↑v6:Int)/\True)/\True)/\(decide ((0:Int)<nI x v2)=false->((0:Int)<=(↑v2:Int)/\(↑v2:Int)<(↑x.length:Int))/\(decide (nI x v2<(0:Int))=true->fits .i64 (qu5 h x v2-nI h v2)/\fits .i64 ((↑v2:Int)+(1:Int))/\∃(v7:Nat),Nat.le v7 h.length/\h.length-v7<h.length-v2/\(qu5 h x v2-nI h v2=qu5 h x v7/\qj7 h x v2=qj7 h x v7/\(↑v2:Int)+(1:Int)=(↑v7:Int)/\True)/\True)/\(decide (nI x v2<(0:Int))=false->qd5 (1000000000:Int) (nI h v2)/\fits .i64 (qj7 h x v2+qp1 (nI h v2))/\fits .i64 ((↑v2:Int)+(1:Int))/\∃(v7:Nat),Nat.le v7 h.length/\h.length-v7<h.length-v2/\(qu5 h x v2=qu5 h x v7/\qj7 h x v2+qp1 (nI h v2)=qj7 h x v7/\(↑v2:Int)+(1:Int)=(↑v7:Int)/\True)/\True)))/\(decide ((↑v2:Int)<(↑h.length:Int))=false->qd5 (1000000000:Int) (qu5 h x v2)/\decide (qj7 h x v2<=qp1 (qu5 h x v2))=agB h x)) (by kernel_rfl) ?_
 try simp only[z0,z1,z2,z3,z4,z5,z6,z7,z8,z9,z10,Int.reduceEq,z11,z12,z13,z14,z15,z16,z17,z18,z19,z20,z21,z22,z23,z24,z25,z26,z27,z28,z29,z30,Int.reduceLE,Int.reduceLT,z31,z32,z33,z34,qa1]
 try simp only[qb3,qb4,qb9,z31,z32,z2,z1]
 have hl:=hh.ok.len
 have hx:=hh.le
 refine⟨(),0,Nat.zero_le _,⟨rfl,rfl,rfl⟩,λk hk=>⟨λhlt=>?_,λhge=>?_⟩⟩
 ·obtain⟨s1,s2,s3⟩:=w8z (x:=x) hh.ok hlt
  have b1:=w8y (x:=x) hh.ok k
  have b3:=hh.ok.sm k
  have b4:qd5 1000000000 (nI h k):=by unfold qd5 at *; omega
  unfold qd5 at b1 b3
  have b5:qp1 (nI h k)=((nI h k).natAbs:Int):=rfl
  refine⟨hlt,by omega,λq=>?_,λq=>⟨by omega,λr=>?_,λr=>?_⟩⟩
  ·obtain⟨e1,e2⟩:=s1 q
   exact⟨qa5 (by omega) (by omega),qa5 (by omega) (by omega),k+1,hlt,by omega,e1.symm,e2.symm,by push_cast; rfl⟩
  ·obtain⟨e1,e2⟩:=s2 (Int.not_lt.2 q) r
   exact⟨qa5 (by omega) (by omega),qa5 (by omega) (by omega),k+1,hlt,by omega,e1.symm,e2.symm,by push_cast; rfl⟩
  ·obtain⟨e1,e2⟩:=s3 (Int.not_lt.2 q) (Int.not_lt.2 r)
   exact⟨b4,qa5 (by omega) (by omega),qa5 (by omega) (by omega),k+1,hlt,by omega,e1.symm,e2.symm,by push_cast; rfl⟩
 ·obtain rfl:k=h.length:=by omega
  have b1:=w8y (x:=x) hh.ok h.length
  unfold qd5 at *
  exact⟨by omega,rfl⟩
abbrev x53:qc0:=hspec [] true none [.d tInts,.cap tInts] [.bool] (λx=>xl4 x.1 x.2.1) (λx=>(agB x.1 x.2.1,()))
theorem w80:qd2 Tryz.prog 79 x53:=by
 refine qr9 (SpecsOk.nil _) (snd (SpecsOk.cons xh9 (SpecsOk.nil _))) Tryz.func79 rfl rfl (λ_ _=>none) (λ_=>by kernel_rfl) (by decide) ?_
 rintro⟨h,x,⟨⟩⟩ hh
 revert h x
 intro(h:List Int) (x:List Int) (hh:xl4 h x)
 refine @qd4 _ (xl4 h x/\agB h x=agB h x) (by kernel_rfl) ?_
 try simp only[z0,z1,z2,z3,z4,z5,z6,z7,z8,z9,z10,Int.reduceEq,z11,z12,z13,z14,z15,z16,z17,z18,z19,z20,z21,z22,z23,z24,z25,z26,z27,z28,z29,z30,Int.reduceLE,Int.reduceLT,z31,z32,z33,z34,qa1]
 try simp only[qb3,qb4,qb9,z31,z32,z2,z1]
 exact hh
structure AgPre (m:List (List Int)) (x:List Int):Prop where
 fit:qw0 m
 len:x.length<=1000
def agI (m:List (List Int)) (x:List Int):Int:=ixT (.list (.int .i64)) (λh=>agB h x) (qa9 m).1
def agC (m:List (List Int)) (x:List Int):List Int:=if agI m x<0 then[] else nL (qa9 m).1 (agI m x).toNat
def w18 (m:List (List Int)) (x:List Int):List Int × Int:=if q38 m x=0 then if agI m x<0 then([],8) else(nL (qa9 m).1 (agI m x).toNat,0) else([],q38 m x)
theorem AgPre.ag {m:List (List Int)} {x:List Int} (h:AgPre m x) (he:q38 m x=0):validB m=true/\(qa9 m).1.length<=1000000/\∀i,i<(qa9 m).1.length->xl4 (nL (qa9 m).1 i) x/\0<(nL (qa9 m).1 i).length:=by
 have hS:=Shw.of he
 refine⟨hS.val,q14 hS.val,λi hi=>?_⟩
 obtain⟨s,hc⟩:=qv6 hS.val (h.fit.n7 hS.val) hi
 have:=hS.msk.pix1
 exact⟨⟨wh2 hS.val hc,by rw[hc.len,hS.len]; exact Nat.le_refl _⟩,by rw[hc.len]; omega⟩
abbrev x56:qc0:=qf3 true none [tMask,tInts] [tInt] (λx=>AgPre x.1 x.2.1) (λx=>(q38 x.1 x.2.1,()))
theorem w81 (m:List (List Int)) (x:List Int):(readR m x).2=q38 m x:=by
 unfold readR
 split
 ·rename_i h; exact h.symm
 ·rfl
theorem w82:qd2 Tryz.prog 77 x56:=by
 refine meets (snd (SpecsOk.cons w33 (SpecsOk.nil _))) Tryz.func77 rfl rfl (λ_ _=>none) (λ_=>by kernel_rfl) (by decide) ?_
 rintro⟨m,x,⟨⟩⟩ h
 revert m x
 intro(m:List (List Int)) (x:List Int) (h:AgPre m x)
 refine @qd4 _ (x.length<=(1000000:Nat)/\(readR m x).2=q38 m x) (by kernel_rfl) ?_
 try simp only[z0,z1,z2,z3,z4,z5,z6,z7,z8,z9,z10,Int.reduceEq,z11,z12,z13,z14,z15,z16,z17,z18,z19,z20,z21,z22,z23,z24,z25,z26,z27,z28,z29,z30,Int.reduceLE,Int.reduceLT,z31,z32,z33,z34,qa1]
 try simp only[qb3,qb4,qb9,z31,z32,z2,z1]
 exact⟨by have:=h.len; omega,w81 m x⟩
theorem w39:qd2 Tryz.prog 75 x56:=by
 refine meets (snd (SpecsOk.cons wx1 (SpecsOk.nil _))) Tryz.func75 rfl rfl (λ_ _=>none) (λ_=>by kernel_rfl) (by decide) ?_
 rintro⟨m,x,⟨⟩⟩ h
 revert m x
 intro(m:List (List Int)) (x:List Int) (h:AgPre m x)
 refine @qd4 _ (xr6 m x/\(readR m x).2=q38 m x) (by kernel_rfl) ?_
 try simp only[z0,z1,z2,z3,z4,z5,z6,z7,z8,z9,z10,Int.reduceEq,z11,z12,z13,z14,z15,z16,z17,z18,z19,z20,z21,z22,z23,z24,z25,z26,z27,z28,z29,z30,Int.reduceLE,Int.reduceLT,z31,z32,z33,z34,qa1]
 try simp only[qb3,qb4,qb9,z31,z32,z2,z1]
 exact⟨⟨h.fit.fit,by have:=h.len; omega⟩,w81 m x⟩
abbrev x9e:qc0:=qf3 false none [tMask,tInts] [tInts,tInt] (λx=>AgPre x.1 x.2.1) (λx=>((w18 x.1 x.2.1).1,(w18 x.1 x.2.1).2,()))
theorem w83:qd2 Tryz.prog 31 x9e:=by
 refine meets (snd (SpecsOk.cons w82 (SpecsOk.cons qx1 (SpecsOk.cons (q69 (fs:=[(79,x53)]) (SpecsOk.cons w80 (SpecsOk.nil _))) (SpecsOk.nil _))))) Tryz.func31 rfl rfl (λ_ _=>none) (λ_=>by kernel_rfl) (by decide) ?_
 rintro⟨m,x,⟨⟩⟩ h
 revert m x
 intro(m:List (List Int)) (x:List Int) (h:AgPre m x)
 refine @qd4 _ (let Q0:=w18 m x; AgPre m x/\((q38 m x != (0:Int))=true->Q0.1=[]/\q38 m x=Q0.2/\True)/\((q38 m x != (0:Int))=false->(validB m=true->q5m m)/\∃(v1:qa6 [Ty.list (Ty.int .i64)]->Prop),∃(v2:qa6 [Ty.list (Ty.int .i64)]->Bool),(∀(v3:List Int × qa6._f [] PUnit.unit),v1 v3->xl4 v3.1 x/\agB v3.1 x=v2 v3)/\((qa9 m).1.length<=(1000000:Nat)/\∀(v3:Nat),v3<(qa9 m).1.length->v1 (nL (qa9 m).1 v3,()))/\(decide (ixT (Ty.list (Ty.int .i64)) (λ(v4:List Int)=>v2 (v4,())) (qa9 m).1<(0:Int))=true->Q0.1=[]/\(8:Int)=Q0.2/\True)/\(decide (ixT (Ty.list (Ty.int .i64)) (λ(v4:List Int)=>v2 (v4,())) (qa9 m).1<(0:Int))=false->((0:Int)<=ixT (Ty.list (Ty.int .i64)) (λ(v4:List Int)=>v2 (v4,())) (qa9 m).1/\ixT (Ty.list (Ty.int .i64)) (λ(v4:List Int)=>v2 (v4,())) (qa9 m).1<(↑(qa9 m).1.length:Int))/\nL (qa9 m).1 (ixT (Ty.list (Ty.int .i64)) (λ(v4:List Int)=>v2 (v4,())) (qa9 m).1).toNat=Q0.1/\(0:Int)=Q0.2/\True))) (by kernel_rfl) ?_
 try simp only[z0,z1,z2,z3,z4,z5,z6,z7,z8,z9,z10,Int.reduceEq,z11,z12,z13,z14,z15,z16,z17,z18,z19,z20,z21,z22,z23,z24,z25,z26,z27,z28,z29,z30,Int.reduceLE,Int.reduceLT,z31,z32,z33,z34,qa1]
 try simp only[qb3,qb4,qb9,z31,z32,z2,z1]
 refine⟨h,λhe=>?_,λhe=>?_⟩
 ·unfold w18; rw[if_neg he]; exact⟨rfl,rfl⟩
 obtain⟨hv,hl,ha⟩:=h.ag he
 refine⟨λhv=>xg5 hv,λy=>xl4 y.1 x,λy=>agB y.1 x,λy hy=>⟨hy,rfl⟩,⟨hl,λi hi=>(ha i hi).1⟩,λhn=>?_,λhn=>?_⟩
 ·have hn:agI m x<0:=hn
  unfold w18; rw[if_pos he,if_pos hn]; exact⟨rfl,rfl⟩
 ·have hn':¬agI m x<0:=Int.not_lt.2 hn
  have hlt:=(wm6 (.list (.int .i64)) (λh=>agB h x) (qa9 m).1).1
  unfold w18; rw[if_pos he,if_neg hn']; exact⟨⟨hn,hlt⟩,rfl,rfl⟩
def x4y (l:List (List Int)) (x:List Int):Nat->Option Inv
 | 0=>some (Inv.of [14] 0 (λi:Nat=>[(14,.lit (.int .i64 i))]) (λ_=>[]) (λi=>i<=l.length/\∀j,j<i->agB (nL l j) x=false) (λi=>l.length-i))
 | 1=>some (Eng.Inv.mk Nat Nat [7,8,20] 0 (λi k=>[(7,.lit (.int .i64 (qu5 (nL l i) x k))),(8,.lit (.int .i64 (qj7 (nL l i) x k))),(20,.lit (.int .i64 k))]) (λ_ _=>[]) (λi k=>k<=(nL l i).length) (λi k=>(nL l i).length-k))
 | _=>none
abbrev x9g:qc0:=w6b false none [tMask,tInts] (λx=>AgPre x.1 x.2.1/\q38 x.1 x.2.1=0) (λx=>.ndat false (.int .i64) (agC x.1 x.2.1))
theorem w84:qd2 Tryz.prog 76 x9g:=by
 refine wl7 (snd (SpecsOk.cons q47 (SpecsOk.cons q9v (SpecsOk.nil _)))) Tryz.func76 rfl rfl (λx=>x4y (qa9 x.1).1 x.2.1) (λ_=>by kernel_rfl) (by decide) ?_
 rintro⟨m,x,⟨⟩⟩ h
 revert m x
 intro(m:List (List Int)) (x:List Int) (h:AgPre m x/\q38 m x=0)
 refine @qd4 _ (qw0 m/\∃(v0:Unit),∃(v1:Nat),(v1<=(qa9 m).1.length/\∀(v2:Nat),Nat.le (Nat.succ v2) v1->agB (nL (qa9 m).1 v2) x=false)/\(((0:Int)=(↑v1:Int)/\True)/\True)/\∀(v2:Nat),(v2<=(qa9 m).1.length/\∀(v4:Nat),Nat.le (Nat.succ v4) v2->agB (nL (qa9 m).1 v4) x=false)->(decide ((↑v2:Int)<(↑(qa9 m).1.length:Int))=true->((0:Int)<=(↑v2:Int)/\(↑v2:Int)<(↑(qa9 m).1.length:Int))/\∃(v5:Nat),∃(v6:Nat),Nat.le v6 (nL (qa9 m).1 v5).length/\(((0:Int)=qu5 (nL (qa9 m).1 v5) x v6/\(0:Int)=qj7 (nL (qa9 m).1 v5) x v6/\(0:Int)=(↑v6:Int)/\True)/\True)/\∀(v7:Nat),Nat.le v7 (nL (qa9 m).1 v5).length->(decide ((↑v7:Int)<(↑(nL (qa9 m).1 v2).length:Int))=true->((0:Int)<=(↑v7:Int)/\(↑v7:Int)<(↑(nL (qa9 m).1 v2).length:Int))/\((0:Int)<=(↑v7:Int)/\(↑v7:Int)<(↑x.length:Int))/\(decide ((0:Int)<nI x v7)=true->fits .i64 (qu5 (nL (qa9 m).1 v5) x v7+nI (nL (qa9 m).1 v2) v7)/\fits .i64 ((↑v7:Int)+(1:Int))/\∃(v11:Nat),Nat.le v11 (nL (qa9 m).1 v5).length/\(nL (qa9 m).1 v5).length-v11<(nL (qa9 m).1 v5).length-v7/\(qu5 (nL (qa9 m).1 v5) x v7+nI (nL (qa9 m).1 v2) v7=qu5 (nL (qa9 m).1 v5) x v11/\qj7 (nL (qa9 m).1 v5) x v7=qj7 (nL (qa9 m).1 v5) x v11/\(↑v7:Int)+(1:Int)=(↑v11:Int)/\True)/\True)/\(decide ((0:Int)<nI x v7)=false->((0:Int)<=(↑v7:Int)/\(↑v7:Int)<(↑x.length:Int))/\(decide (nI x v7<(0:Int))=true->fits .i64 (qu5 (nL (qa9 m).1 v5) x v7-nI (nL (qa9 m).1 v2) v7)/\fits .i64 ((↑v7:Int)+(1:Int))/\∃(v12:Nat),Nat.le v12 (nL (qa9 m).1 v5).length/\(nL (qa9 m).1 v5).length-v12<(nL (qa9 m).1 v5).length-v7/\(qu5 (nL (qa9 m).1 v5) x v7-nI (nL (qa9 m).1 v2) v7=qu5 (nL (qa9 m).1 v5) x v12/\qj7 (nL (qa9 m).1 v5) x v7=qj7 (nL (qa9 m).1 v5) x v12/\(↑v7:Int)+(1:Int)=(↑v12:Int)/\True)/\True)/\(decide (nI x v7<(0:Int))=false->qd5 (1000000000:Int) (nI (nL (qa9 m).1 v2) v7)/\fits .i64 (qj7 (nL (qa9 m).1 v5) x v7+qp1 (nI (nL (qa9 m).1 v2) v7))/\fits .i64 ((↑v7:Int)+(1:Int))/\∃(v12:Nat),Nat.le v12 (nL (qa9 m).1 v5).length/\(nL (qa9 m).1 v5).length-v12<(nL (qa9 m).1 v5).length-v7/\(qu5 (nL (qa9 m).1 v5) x v7=qu5 (nL (qa9 m).1 v5) x v12/\qj7 (nL (qa9 m).1 v5) x v7+qp1 (nI (nL (qa9 m).1 v2) v7)=qj7 (nL (qa9 m).1 v5) x v12/\(↑v7:Int)+(1:Int)=(↑v12:Int)/\True)/\True)))/\(decide ((↑v7:Int)<(↑(nL (qa9 m).1 v2).length:Int))=false->qd5 (1000000000:Int) (qu5 (nL (qa9 m).1 v5) x v7)/\(decide (qj7 (nL (qa9 m).1 v5) x v7<=qp1 (qu5 (nL (qa9 m).1 v5) x v7))=true->nL (qa9 m).1 v2=agC m x/\Nat.le (1:Nat) (nL (qa9 m).1 v2).length)/\(decide (qj7 (nL (qa9 m).1 v5) x v7<=qp1 (qu5 (nL (qa9 m).1 v5) x v7))=false->fits .i64 ((↑v2:Int)+(1:Int))/\∃(v11:Nat),(v11<=(qa9 m).1.length/\∀(v12:Nat),Nat.le (Nat.succ v12) v11->agB (nL (qa9 m).1 v12) x=false)/\(qa9 m).1.length-v11<(qa9 m).1.length-v2/\((↑v2:Int)+(1:Int)=(↑v11:Int)/\True)/\True)))/\(decide ((↑v2:Int)<(↑(qa9 m).1.length:Int))=false->agC m x=[])) (by kernel_rfl) ?_
 try simp only[z0,z1,z2,z3,z4,z5,z6,z7,z8,z9,z10,Int.reduceEq,z11,z12,z13,z14,z15,z16,z17,z18,z19,z20,z21,z22,z23,z24,z25,z26,z27,z28,z29,z30,Int.reduceLE,Int.reduceLT,z31,z32,z33,z34,qa1]
 try simp only[qb3,qb4,qb9,z31,z32,z2,z1]
 obtain⟨hP,he⟩:=h
 obtain⟨hv,hll,ha⟩:=hP.ag he
 have hat:=λ(k:Nat) (hk:k<(qa9 m).1.length)=>q9c (.list (.int .i64)) (λh=>agB h x) (qa9 m).1 k hk
 have hno:=q1o (.list (.int .i64)) (λh=>agB h x) (qa9 m).1
 have hC:agC m x=if agI m x<0 then[] else nL (qa9 m).1 (agI m x).toNat:=rfl
 have hI:agI m x=ixT (.list (.int .i64)) (λh=>agB h x) (qa9 m).1:=rfl
 rw[<- hI] at hat hno
 rw[hC]
 clear hC hI
 generalize agI m x=I at *
 generalize(qa9 m).1=l at *
 refine⟨hP.fit,(),0,⟨Nat.zero_le _,λi hi=>absurd hi (Nat.not_lt_zero _)⟩,rfl,λi ⟨hi,hall⟩=>⟨λhlt=>?_,λhge=>?_⟩⟩
 ·obtain⟨hA,hpos⟩:=ha i hlt
  have hl:=hA.ok.len
  have hx:=hA.le
  refine⟨hlt,i,0,Nat.zero_le _,⟨rfl,rfl,rfl⟩,λk hk=>⟨λhkl=>?_,λhge=>?_⟩⟩
  ·obtain⟨s1,s2,s3⟩:=w8z (x:=x) hA.ok hkl
   have b1:=w8y (x:=x) hA.ok k
   have b3:=hA.ok.sm k
   generalize nL l i=h at *
   have b4:qd5 1000000000 (nI h k):=by unfold qd5 at *; omega
   unfold qd5 at b1 b3
   have b5:qp1 (nI h k)=((nI h k).natAbs:Int):=rfl
   refine⟨hkl,by omega,λq=>?_,λq=>⟨by omega,λr=>?_,λr=>?_⟩⟩
   ·obtain⟨e1,e2⟩:=s1 q
    exact⟨qa5 (by omega) (by omega),qa5 (by omega) (by omega),k+1,hkl,by omega,e1.symm,e2.symm,by push_cast; rfl⟩
   ·obtain⟨e1,e2⟩:=s2 (Int.not_lt.2 q) r
    exact⟨qa5 (by omega) (by omega),qa5 (by omega) (by omega),k+1,hkl,by omega,e1.symm,e2.symm,by push_cast; rfl⟩
   ·obtain⟨e1,e2⟩:=s3 (Int.not_lt.2 q) (Int.not_lt.2 r)
    exact⟨b4,qa5 (by omega) (by omega),qa5 (by omega) (by omega),k+1,hkl,by omega,e1.symm,e2.symm,by push_cast; rfl⟩
  ·obtain rfl:k=(nL l i).length:=by omega
   have b1:=w8y (x:=x) hA.ok (nL l i).length
   have hd:agB (nL l i) x=decide (qj7 (nL l i) x (nL l i).length<=qp1 (qu5 (nL l i) x (nL l i).length)):=rfl
   refine⟨by unfold qd5 at *; omega,λq=>?_,λq=>⟨qa5 (by omega) (by omega),i+1,⟨hlt,λj hj=>?_⟩,by omega,by push_cast; rfl⟩⟩
   ·have e:I=i:=hat i hlt (λj hj=>hall j hj) (by rw[show agB (qh7 (.list (.int .i64)) l i) x=agB (nL l i) x from rfl,hd]; exact decide_eq_true q)
    subst e
    rw[if_neg (by omega),Int.toNat_natCast]
    exact⟨rfl,hpos⟩
   ·by_cases e:j=i
    ·subst e; rw[hd]; exact decide_eq_false (Int.not_le.2 q)
    ·exact hall j (by omega)
 ·have e:I=-1:=hno λj hj=>hall j (by omega)
  rw[e]; rfl
end Go.Proofs.YtempacilejhbgaaGreat
