/- The column that comes next, and the rest, by the reference: contracts by the engine. No condition. -/
import Derived.Test.YtmijnbjlhnpokaaGreatZ9
set_option linter.unusedVariables false
set_option linter.unusedSimpArgs false
namespace Go.Proofs.YtmijnbjlhnpokaaGreat
open Go Go.RowKit Eng
def zTo (r:List Int):Nat->Bool
 | 0=>true
 | k+1=>zTo r k && (nI r k==0)
def q0b (m:List (List Int)) (j:Nat):Int:=qg8 (qg2 m j) (qg2 m j) m.length
def q1r (m:List (List Int)) (r:List Int) (j:Nat):Int:=qg8 (qg2 m j) r m.length
def qs0 (m:List (List Int)) (r:List Int):Nat->Int × Int × Int
 | 0=>(-1,0,1)
 | j+1=>if 0<q0b m j/\wo1 (q1r m r j) (q0b m j) (qs0 m r j).2.1 (qs0 m r j).2.2=true then((j:Int),q1r m r j,q0b m j) else qs0 m r j
def w73 (m:List (List Int)) (r:List Int):Int × Int:=if zTo r r.length=true then(0,8) else if(qs0 m r (nL m 0).length).1<0 then(0,10) else((qs0 m r (nL m 0).length).1,0)
def q5e (m:List (List Int)) (y C:List Int):Int × Int:=w73 m (qj2 m y C)
theorem w74 {m:List (List Int)} {r:List Int} {N:Nat} (h:∀j,j<N->qd0 1000000000000000 (q1r m r j)/\0<=q0b m j/\q0b m j<=1000):∀j,j<=N->qd0 1000000000000000 (qs0 m r j).2.1/\0<=(qs0 m r j).2.2/\(qs0 m r j).2.2<=1000
 | 0,_=>⟨by show qd0 1000000000000000 0; unfold qd0; omega,by show(0:Int)<=1; omega,by show(1:Int)<=1000; omega⟩
 | j+1,hj=>by
  rw[qs0]; split
  ·exact h j (by omega)
  ·exact w74 h j (by omega)
structure w75 (m:List (List Int)) (y C:List Int):Prop where
 rt:wt7 m y C
 one:0<m.length
 pix:(nL m 0).length<=1000
 nam:∀j:Nat,j<(nL m 0).length->wn5 m [(j:Int)]=0/\qs4 m j
 dot:∀j,j<(nL m 0).length->ql5 (qg2 m j) (qj2 m y C)/\ql5 (qg2 m j) (qg2 m j)
 cnd:∀j,j<(nL m 0).length->qd0 1000000000000000 (q1r m (qj2 m y C) j)/\0<=q0b m j/\q0b m j<=1000
def x7n (m:List (List Int)) (y C:List Int):Nat->Option Inv
 | 0=>some (Inv.of [10,29] 0 (λk:Nat=>[(10,.lit (.bool (zTo (qj2 m y C) k))),(29,.lit (.int .i64 k))]) (λ_=>[]) (λk=>k<=(qj2 m y C).length) (λk=>(qj2 m y C).length-k))
 | 1=>some (Inv.of [13,14,15,44] 0 (λj:Nat=>[(13,.lit (.int .i64 (qs0 m (qj2 m y C) j).1)),(14,.lit (.int .i64 (qs0 m (qj2 m y C) j).2.1)),(15,.lit (.int .i64 (qs0 m (qj2 m y C) j).2.2)),(44,.lit (.int .i64 j))]) (λ_=>[]) (λj=>j<=(nL m 0).length) (λj=>(nL m 0).length-j))
 | _=>none
abbrev sNr:qc7:=qg0 true none [qk2,qd4,qd4] [qf8,qf8] (λx=>w75 x.1 x.2.1 x.2.2.1) (λx=>((q5e x.1 x.2.1 x.2.2.1).1,(q5e x.1 x.2.1 x.2.2.1).2,()))
theorem xd3:Meets Tryz.prog 86 sNr:=by
 refine meets (snd (SpecsOk.cons w03 (SpecsOk.cons wn6 (SpecsOk.cons q9f (SpecsOk.cons w7v (SpecsOk.nil _)))))) Tryz.func86 rfl rfl (λx=>x7n x.1 x.2.1 x.2.2.1) (λ_=>by kernel_rfl) (by decide) ?_
 rintro⟨m,y,C,⟨⟩⟩ h
 revert m y C
 intro(m:List (List Int)) (y:List Int) (C:List Int) (h:w75 m y C)
 refine @qe0 _ (let Q0:=qj2 m y C; let Q1:=q5e m y C; wt7 m y C/\∃(v0:Unit),∃(v1:Nat),Nat.le v1 Q0.length/\((true=zTo Q0 v1/\(0:Int)=(↑v1:Int)/\True)/\True)/\∀(v2:Nat),Nat.le v2 Q0.length->(decide ((↑v2:Int)<(↑Q0.length:Int))=true->((0:Int)<=(↑v2:Int)/\(↑v2:Int)<(↑Q0.length:Int))/\(zTo Q0 v2=true->fits .i64 ((↑v2:Int)+(1:Int))/\∃(v6:Nat),Nat.le v6 Q0.length/\Q0.length-v6<Q0.length-v2/\((nI Q0 v2==(0:Int))=zTo Q0 v6/\(↑v2:Int)+(1:Int)=(↑v6:Int)/\True)/\True)/\(zTo Q0 v2=false->fits .i64 ((↑v2:Int)+(1:Int))/\∃(v6:Nat),Nat.le v6 Q0.length/\Q0.length-v6<Q0.length-v2/\(false=zTo Q0 v6/\(↑v2:Int)+(1:Int)=(↑v6:Int)/\True)/\True))/\(decide ((↑v2:Int)<(↑Q0.length:Int))=false->(zTo Q0 v2=true->(0:Int)=Q1.1/\(8:Int)=Q1.2/\True)/\(zTo Q0 v2=false->((0:Int)<=(0:Int)/\(0:Int)<(↑m.length:Int))/\∃(v6:Unit),∃(v7:Nat),Nat.le v7 (nL m (0:Nat)).length/\(((-1:Int)=(qs0 m Q0 v7).1/\(0:Int)=(qs0 m Q0 v7).2.1/\(1:Int)=(qs0 m Q0 v7).2.2/\(0:Int)=(↑v7:Int)/\True)/\True)/\∀(v8:Nat),Nat.le v8 (nL m (0:Nat)).length->(decide ((↑v8:Int)<(↑(nL m (0:Nat)).length:Int))=true->wt6 m (↑v8:Int)/\ql5 (qv9 m (↑v8:Int)).1 (qv9 m (↑v8:Int)).1/\(decide ((0:Int)<qg8 (qv9 m (↑v8:Int)).1 (qv9 m (↑v8:Int)).1 (qv9 m (↑v8:Int)).1.length)=true->ql5 (qv9 m (↑v8:Int)).1 Q0/\w02 (qg8 (qv9 m (↑v8:Int)).1 Q0 (qv9 m (↑v8:Int)).1.length) (qg8 (qv9 m (↑v8:Int)).1 (qv9 m (↑v8:Int)).1 (qv9 m (↑v8:Int)).1.length) (qs0 m Q0 v8).2.1 (qs0 m Q0 v8).2.2/\(wo1 (qg8 (qv9 m (↑v8:Int)).1 Q0 (qv9 m (↑v8:Int)).1.length) (qg8 (qv9 m (↑v8:Int)).1 (qv9 m (↑v8:Int)).1 (qv9 m (↑v8:Int)).1.length) (qs0 m Q0 v8).2.1 (qs0 m Q0 v8).2.2=true->ql5 (qv9 m (↑v8:Int)).1 Q0/\fits .i64 ((↑v8:Int)+(1:Int))/\∃(v13:Nat),Nat.le v13 (nL m (0:Nat)).length/\(nL m (0:Nat)).length-v13<(nL m (0:Nat)).length-v8/\((↑v8:Int)=(qs0 m Q0 v13).1/\qg8 (qv9 m (↑v8:Int)).1 Q0 (qv9 m (↑v8:Int)).1.length=(qs0 m Q0 v13).2.1/\qg8 (qv9 m (↑v8:Int)).1 (qv9 m (↑v8:Int)).1 (qv9 m (↑v8:Int)).1.length=(qs0 m Q0 v13).2.2/\(↑v8:Int)+(1:Int)=(↑v13:Int)/\True)/\True)/\(wo1 (qg8 (qv9 m (↑v8:Int)).1 Q0 (qv9 m (↑v8:Int)).1.length) (qg8 (qv9 m (↑v8:Int)).1 (qv9 m (↑v8:Int)).1 (qv9 m (↑v8:Int)).1.length) (qs0 m Q0 v8).2.1 (qs0 m Q0 v8).2.2=false->fits .i64 ((↑v8:Int)+(1:Int))/\∃(v13:Nat),Nat.le v13 (nL m (0:Nat)).length/\(nL m (0:Nat)).length-v13<(nL m (0:Nat)).length-v8/\((qs0 m Q0 v8).1=(qs0 m Q0 v13).1/\(qs0 m Q0 v8).2.1=(qs0 m Q0 v13).2.1/\(qs0 m Q0 v8).2.2=(qs0 m Q0 v13).2.2/\(↑v8:Int)+(1:Int)=(↑v13:Int)/\True)/\True))/\(decide ((0:Int)<qg8 (qv9 m (↑v8:Int)).1 (qv9 m (↑v8:Int)).1 (qv9 m (↑v8:Int)).1.length)=false->fits .i64 ((↑v8:Int)+(1:Int))/\∃(v12:Nat),Nat.le v12 (nL m (0:Nat)).length/\(nL m (0:Nat)).length-v12<(nL m (0:Nat)).length-v8/\((qs0 m Q0 v8).1=(qs0 m Q0 v12).1/\(qs0 m Q0 v8).2.1=(qs0 m Q0 v12).2.1/\(qs0 m Q0 v8).2.2=(qs0 m Q0 v12).2.2/\(↑v8:Int)+(1:Int)=(↑v12:Int)/\True)/\True))/\(decide ((↑v8:Int)<(↑(nL m (0:Nat)).length:Int))=false->(decide ((qs0 m Q0 v8).1<(0:Int))=true->(0:Int)=Q1.1/\(10:Int)=Q1.2/\True)/\(decide ((qs0 m Q0 v8).1<(0:Int))=false->(qs0 m Q0 v8).1=Q1.1/\(0:Int)=Q1.2/\True))))) (by kernel_rfl) ?_
 try simp only[z0,z1,z2,z3,z4,z5,z6,z7,z8,z9,z10,Int.reduceEq,z11,z12,z13,z14,z15,z16,z17,z18,z19,z20,z21,z22,z23,z24,z25,z26,z27,z28,z29,z30,Int.reduceLE,Int.reduceLT,z31,z32,z33,z34,qa1]
 try simp only[qb4,qb5,qc8,z31,z32,z2,z1]
 have hm6:=h.rt.m6
 have hp:=h.pix
 have hce:∀j:Nat,j<(nL m 0).length->(qv9 m (j:Int)).1=qg2 m j:=λj hj=>by
  unfold qv9; rw[if_pos (h.nam j hj).1,Int.toNat_natCast]
 have hcp:∀j:Nat,j<(nL m 0).length->wt6 m (j:Int):=λj hj=>⟨h.rt.fit,λ_=>(h.nam j hj).2⟩
 have hzl:(qj2 m y C).length=y.length:=by simp[qj2,rtL]
 have hyl:=h.rt.ylen
 refine⟨h.rt,(),0,Nat.zero_le _,⟨rfl,rfl⟩,λk hk=>⟨λhlt=>⟨hlt,λhz=>⟨qa7 (by omega) (by omega),k+1,by omega,by omega,by rw[zTo,hz,Bool.true_and],by omega⟩,λhz=>⟨qa7 (by omega) (by omega),k+1,by omega,by omega,by rw[zTo,hz,Bool.false_and],by omega⟩⟩,λhge=>?_⟩⟩
 obtain rfl:k=(qj2 m y C).length:=by omega
 refine⟨λhz=>?_,λhz=>⟨by have:=h.one; omega,(),0,Nat.zero_le _,⟨rfl,rfl,rfl,rfl⟩,λj hj=>⟨λhlt=>?_,λhge2=>?_⟩⟩⟩
 ·have e:q5e m y C=(0,8):=by unfold q5e w73; rw[if_pos hz]
  rw[e]; exact⟨rfl,rfl⟩
 ·rw[hce j hlt,qi6]
  have hd:=h.dot j hlt
  have hc:=h.cnd j hlt
  have hb:=w74 (m:=m) (r:=qj2 m y C) (N:=(nL m 0).length) h.cnd j (by omega)
  change wt6 m j/\_/\(0<q0b m j->_/\w02 (q1r m (qj2 m y C) j) (q0b m j) _ _/\(wo1 (q1r m (qj2 m y C) j) (q0b m j) _ _=true->_)/\(wo1 (q1r m (qj2 m y C) j) (q0b m j) _ _=false->_))/\(q0b m j<=0->_)
  refine⟨hcp j hlt,hd.2,λhpos=>⟨hd.1,⟨hc.1,hb.1,hc.2.1,hc.2.2,hb.2.1,hb.2.2⟩,λha=>⟨hd.1,qa7 (by omega) (by omega),j+1,by omega,by omega,?_⟩,λha=>⟨qa7 (by omega) (by omega),j+1,by omega,by omega,?_⟩⟩,λhneg=>⟨qa7 (by omega) (by omega),j+1,by omega,by omega,?_⟩⟩
  ·have e:qs0 m (qj2 m y C) (j+1)=((j:Int),q1r m (qj2 m y C) j,q0b m j):=by rw[qs0,if_pos ⟨hpos,ha⟩]
   rw[e]; exact⟨rfl,rfl,rfl,by omega⟩
  ·have e:qs0 m (qj2 m y C) (j+1)=qs0 m (qj2 m y C) j:=by rw[qs0,if_neg λq=>by rw[ha] at q; exact absurd q.2 (by decide)]
   rw[e]; exact⟨rfl,rfl,rfl,by omega⟩
  ·have e:qs0 m (qj2 m y C) (j+1)=qs0 m (qj2 m y C) j:=by rw[qs0,if_neg λq=>absurd q.1 (by omega)]
   rw[e]; exact⟨rfl,rfl,rfl,by omega⟩
 ·obtain rfl:j=(nL m 0).length:=by omega
  have hN:q5e m y C=if(qs0 m (qj2 m y C) (nL m 0).length).1<0 then(0,10) else((qs0 m (qj2 m y C) (nL m 0).length).1,0):=by unfold q5e w73; rw[if_neg (by rw[hz]; decide)]
  rw[hN]
  refine⟨λq=>?_,λq=>?_⟩
  ·rw[if_pos q]; exact⟨rfl,rfl⟩
  ·rw[if_neg (by omega)]; exact⟨rfl,rfl⟩
def qz8 (m:List (List Int)) (y C:List Int):Int × Int:=if qp2 m y C=0 then q5e m y C else(0,qp2 m y C)
structure xq0 (m:List (List Int)) (y C:List Int):Prop where
 fit:q1u m
 len:C.length<=100000
 nx:qp2 m y C=0->w75 m y C
abbrev x7o:qc7:=qg0 true none [qk2,qd4,qd4] [qf8,qf8] (λx=>xq0 x.1 x.2.1 x.2.2.1) (λx=>((qz8 x.1 x.2.1 x.2.2.1).1,(qz8 x.1 x.2.1 x.2.2.1).2,()))
theorem w76:Meets Tryz.prog 29 x7o:=by
 refine meets (snd (SpecsOk.cons xd3 (SpecsOk.cons q60 (SpecsOk.cons q8t (SpecsOk.nil _))))) Tryz.func29 rfl rfl (λ_ _=>none) (λ_=>by kernel_rfl) (by decide) ?_
 rintro⟨m,y,C,⟨⟩⟩ h
 revert m y C
 intro(m:List (List Int)) (y:List Int) (C:List Int) (h:xq0 m y C)
 refine @qe0 _ (let Q0:=qz8 m y C; q1u m/\((qz1 m y != (0:Int))=true->(0:Int)=Q0.1/\qz1 m y=Q0.2/\True)/\((qz1 m y != (0:Int))=false->(((0:Nat)<m.length/\(nL m (0:Nat)).length<=(1000000:Nat))/\C.length<=(1000000:Nat))/\((q4y (↑(nL m (0:Nat)).length:Int) C != (0:Int))=true->(0:Int)=Q0.1/\q4y (↑(nL m (0:Nat)).length:Int) C=Q0.2/\True)/\((q4y (↑(nL m (0:Nat)).length:Int) C != (0:Int))=false->w75 m y C/\(q5e m y C).1=Q0.1/\(q5e m y C).2=Q0.2/\True))) (by kernel_rfl) ?_
 try simp only[z0,z1,z2,z3,z4,z5,z6,z7,z8,z9,z10,Int.reduceEq,z11,z12,z13,z14,z15,z16,z17,z18,z19,z20,z21,z22,z23,z24,z25,z26,z27,z28,z29,z30,Int.reduceLE,Int.reduceLT,z31,z32,z33,z34,qa1]
 try simp only[qb4,qb5,qc8,z31,z32,z2,z1]
 have hlen:=h.len
 refine⟨h.fit,λhe=>?_,λhe=>?_⟩
 ·have e:=ws5 (pix:=C) he
  unfold qz8
  rw[if_neg (by rw[e]; exact he),e]; exact⟨rfl,rfl⟩
 ·obtain⟨e,hv⟩:=q5s (pix:=C) he
  have hM:=Mk.of hv
  have hm1:=hM.rows1
  have hn10:=hM.pix10
  refine⟨⟨⟨by omega,by omega⟩,by omega⟩,λhn=>?_,λhn=>⟨h.nx (by rw[e]; exact hn),?_⟩⟩
  ·unfold qz8
   rw[if_neg (by rw[e]; exact hn),e]; exact⟨rfl,rfl⟩
  ·unfold qz8
   rw[if_pos (by rw[e]; exact hn)]; exact⟨rfl,rfl⟩
def q72 (m:List (List Int)) (y C:List Int):List (Int × Int):=(qj2 m y C).map λn=>w8h n (qn1 m y C)
def qv3 (m:List (List Int)) (y C:List Int):List (Int × Int) × Int:=if qp2 m y C=0 then(q72 m y C,0) else([],qp2 m y C)
structure w3a (m:List (List Int)) (y C:List Int):Prop where
 fit:q1u m
 len:C.length<=100000
 rt:qp2 m y C=0->wt7 m y C
 nz:qp2 m y C=0->qn1 m y C≠0
 bd:qp2 m y C=0->qd0 BIG (qn1 m y C)/\∀i,i<y.length->qd0 BIG (nI (qj2 m y C) i)
abbrev sRg:qc7:=qg0 true none [qk2,qd4,qd4] [xk9,qf8] (λx=>w3a x.1 x.2.1 x.2.2.1) (λx=>((qv3 x.1 x.2.1 x.2.2.1).1,(qv3 x.1 x.2.1 x.2.2.1).2,()))
def x7p (m:List (List Int)) (y C:List Int):Nat->Option Inv
 | 0=>some (Inv.of [12,37] 1 (λk:Nat=>[(12,.own 0),(37,.lit (.int .i64 k))]) (λk=>[.vec 60 xz8 ((q72 m y C).take k)]) (λk=>k<=y.length) (λk=>y.length-k))
 | _=>none
theorem xd4:Meets Tryz.prog 27 sRg:=by
 refine meets (snd (SpecsOk.cons w03 (SpecsOk.cons q60 (SpecsOk.cons q8t (SpecsOk.cons q9k (SpecsOk.nil _)))))) Tryz.func27 rfl rfl (λx=>x7p x.1 x.2.1 x.2.2.1) (λ_=>by kernel_rfl) (by decide) ?_
 rintro⟨m,y,C,⟨⟩⟩ h
 revert m y C
 intro(m:List (List Int)) (y:List Int) (C:List Int) (h:w3a m y C)
 refine @qe0 _ (let Q0:=qj2 m y C; let Q1:=qn1 m y C; let Q2:=qv3 m y C; let Q3:=q72 m y C; q1u m/\((qz1 m y != (0:Int))=true->Q2.1=[]/\qz1 m y=Q2.2/\True)/\((qz1 m y != (0:Int))=false->(((0:Nat)<m.length/\(nL m (0:Nat)).length<=(1000000:Nat))/\C.length<=(1000000:Nat))/\((q4y (↑(nL m (0:Nat)).length:Int) C != (0:Int))=true->Q2.1=[]/\q4y (↑(nL m (0:Nat)).length:Int) C=Q2.2/\True)/\((q4y (↑(nL m (0:Nat)).length:Int) C != (0:Int))=false->wt7 m y C/\∃(v2:Unit),∃(v3:Nat),Nat.le v3 y.length/\((True/\(0:Int)=(↑v3:Int)/\True)/\List.take v3 Q3=[]/\True)/\∀(v4:Nat),Nat.le v4 y.length->(decide ((↑v4:Int)<(↑Q0.length:Int))=true->((0:Int)<=(↑v4:Int)/\(↑v4:Int)<(↑Q0.length:Int))/\(((-4000000000000000000:Int)<=nI Q0 v4/\nI Q0 v4<=BIG)/\(-4000000000000000000:Int)<=qn1 m y C/\qn1 m y C<=BIG)/\qd7 (nI Q0 v4) Q1≠(0:Int)/\fits .i64 (Int.tdiv (nI Q0 v4) (qd7 (nI Q0 v4) Q1))/\qd7 (nI Q0 v4) Q1≠(0:Int)/\fits .i64 (Int.tdiv Q1 (qd7 (nI Q0 v4) Q1))/\((0:Nat)<List.length [(Int.tdiv (nI Q0 v4) (qd7 (nI Q0 v4) Q1),Int.tdiv Q1 (qd7 (nI Q0 v4) Q1))]/\Nat.le ((List.take v4 Q3).length+List.length [(Int.tdiv (nI Q0 v4) (qd7 (nI Q0 v4) Q1),Int.tdiv Q1 (qd7 (nI Q0 v4) Q1))]) (1000000:Nat))/\fits .i64 ((↑v4:Int)+(1:Int))/\∃(v7:Nat),Nat.le v7 y.length/\y.length-v7<y.length-v4/\(True/\(↑v4:Int)+(1:Int)=(↑v7:Int)/\True)/\List.take v4 Q3++[(Int.tdiv (nI Q0 v4) (qd7 (nI Q0 v4) Q1),Int.tdiv Q1 (qd7 (nI Q0 v4) Q1))]=List.take v7 Q3/\True)/\(decide ((↑v4:Int)<(↑Q0.length:Int))=false->List.take v4 Q3=Q2.1/\(0:Int)=Q2.2/\True)))) (by kernel_rfl) ?_
 try simp only[z0,z1,z2,z3,z4,z5,z6,z7,z8,z9,z10,Int.reduceEq,z11,z12,z13,z14,z15,z16,z17,z18,z19,z20,z21,z22,z23,z24,z25,z26,z27,z28,z29,z30,Int.reduceLE,Int.reduceLT,z31,z32,z33,z34,qa1]
 try simp only[qb4,qb5,qc8,z31,z32,z2,z1]
 have hlen:=h.len
 refine⟨h.fit,λhe=>?_,λhe=>?_⟩
 ·have e:=ws5 (pix:=C) he
  unfold qv3
  rw[if_neg (by rw[e]; exact he),e]; exact⟨rfl,rfl⟩
 ·obtain⟨e,hv⟩:=q5s (pix:=C) he
  have hM:=Mk.of hv
  have hm1:=hM.rows1
  have hn10:=hM.pix10
  refine⟨⟨⟨by omega,by omega⟩,by omega⟩,λhn=>?_,λhn=>?_⟩
  ·unfold qv3
   rw[if_neg (by rw[e]; exact hn),e]; exact⟨rfl,rfl⟩
  ·have hc0:qp2 m y C=0:=by rw[e]; exact hn
   have hrt:=h.rt hc0
   have hm6:=hrt.m6
   have hyl:=hrt.ylen
   have hz:(qj2 m y C).length=y.length:=by simp[qj2,rtL]
   have hfl:(q72 m y C).length=y.length:=by simp[q72,hz]
   have hnz:=h.nz hc0
   have hbd:=h.bd hc0
   refine⟨hrt,(),0,Nat.zero_le _,⟨rfl,rfl⟩,λk hk=>⟨λhlt=>?_,λhge=>?_⟩⟩
   ·have h2:=hbd.2 k (by omega)
    have h1:=hbd.1
    have g1:=ql3 (a:=nI (qj2 m y C) k) (b:=qn1 m y C) (Or.inr hnz)
    have q1:qd0 BIG ((nI (qj2 m y C) k).tdiv (qd7 (nI (qj2 m y C) k) (qn1 m y C))):=qj0 h2
    have q2:qd0 BIG ((qn1 m y C).tdiv (qd7 (nI (qj2 m y C) k) (qn1 m y C))):=qj0 h1
    have hB:BIG=4000000000000000000:=rfl
    unfold qd0 at h1 h2 q1 q2
    refine⟨hlt,⟨h2,h1⟩,by omega,qa7 (by omega) (by omega),by omega,qa7 (by omega) (by omega),by rw[List.length_take]; omega,qa7 (by omega) (by omega),k+1,by omega,by omega,by omega,?_⟩
    have e2:(q72 m y C)[k]'(by omega)=w8h (nI (qj2 m y C) k) (qn1 m y C):=by simp[q72,qh2 _ k hlt]
    rw[List.take_add_one,List.getElem?_eq_getElem (by omega),e2]; rfl
   ·have e2:qv3 m y C=(q72 m y C,0):=by unfold qv3; rw[if_pos hc0]
    rw[e2,List.take_of_length_le (by omega)]; exact⟨rfl,rfl⟩
end Go.Proofs.YtmijnbjlhnpokaaGreat
