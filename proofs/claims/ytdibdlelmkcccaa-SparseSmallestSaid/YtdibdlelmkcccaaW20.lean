/- No fit is smaller than the sparsest one: plain mathematics. No condition. -/
import Derived.Test.YtdibdlelmkcccaaW18
import Derived.Test.YtdibdlelmkcccaaW17
set_option linter.unusedVariables false
set_option linter.unusedSimpArgs false
namespace Go.Proofs.Ytdibdlelmkcccaa
open Go Go.RowKit Eng
abbrev q42:=Bool × List Int × List Int
def q8w (a:q42):Int:=if a.1 then-(valL a.2.1:Int) else(valL a.2.1:Int)
def q7l (a:q42):Int:=(valL a.2.2:Int)
def qd5 (n d:Int):q42:=(decide (n<0),dgs (max n (0-n)).toNat,dgs d.toNat)
def plusX (a b:q42):Nat:=valL a.2.1*valL b.2.2
def plusY (a b:q42):Nat:=valL b.2.1*valL a.2.2
def w21 (a b:q42):Nat:=valL a.2.2*valL b.2.2
def plusV (a b:q42):q42:=
 if a.1=b.1 then(a.1,dgs (plusX a b+plusY a b),dgs (w21 a b))
 else if plusY a b<=plusX a b then(a.1,dgs (plusX a b-plusY a b),dgs (w21 a b)) else(b.1,dgs (plusY a b-plusX a b),dgs (w21 a b))
def qf6 (n:Int) (a:q42):q42:=(a.1 != decide (n<0),dgs ((max n (0-n)).toNat*valL a.2.1),a.2.2)
def wm3 (a b:q42):Int:=if(plusV a (qf6 (-1) b)).2.1.length=0 then 0 else if(plusV a (qf6 (-1) b)).1 then -1 else 1
theorem q65 (n d:Int):q8w (qd5 n d)=n:=by
 unfold q8w qd5
 dsimp only
 rw[qg9]
 by_cases h:n<0
 ·rw[if_pos (decide_eq_true h)]; omega
 ·rw[if_neg (by simpa using h)]; omega
theorem q66 {n d:Int} (h:0<=d):q7l (qd5 n d)=d:=by
 unfold q7l qd5
 dsimp only
 rw[qg9]; omega
theorem xc1 (a b:q42):q7l (plusV a b)=q7l a*q7l b:=by
 have:(plusV a b).2.2=dgs (w21 a b):=by
  unfold plusV; split
  ·rfl
  ·split <;> rfl
 unfold q7l
 rw[this,qg9,w21,Int.natCast_mul]
theorem w0v (a b:q42):q8w (plusV a b)=q8w a*q7l b+q8w b*q7l a:=by
 have ex:((plusX a b:Nat):Int)=(valL a.2.1:Int)*(valL b.2.2:Int):=Int.natCast_mul _ _
 have ey:((plusY a b:Nat):Int)=(valL b.2.1:Int)*(valL a.2.2:Int):=Int.natCast_mul _ _
 unfold plusV
 obtain⟨sa,na,da⟩:=a
 obtain⟨sb,nb,db⟩:=b
 unfold q8w q7l
 dsimp only at ex ey ⊢
 generalize plusX (sa,na,da) (sb,nb,db)=X at *
 generalize plusY (sa,na,da) (sb,nb,db)=Y at *
 generalize(valL na:Int)=A at *
 generalize(valL nb:Int)=B at *
 generalize(valL da:Int)=C at *
 generalize(valL db:Int)=D at *
 cases sa <;> cases sb <;> simp only[if_true,if_false,reduceCtorEq,Bool.false_eq_true]
 ·rw[qg9]; (try simp only[if_true,if_false,Bool.false_eq_true]); omega
 ·by_cases q:Y<=X
  ·rw[if_pos q,qg9]; simp only[if_true,if_false,Bool.false_eq_true]; rw[Int.neg_mul]; omega
  ·rw[if_neg q,qg9]; simp only[if_true,if_false,Bool.false_eq_true]; rw[Int.neg_mul]; omega
 ·by_cases q:Y<=X
  ·rw[if_pos q,qg9]; simp only[if_true,if_false,Bool.false_eq_true]; rw[Int.neg_mul]; omega
  ·rw[if_neg q,qg9]; simp only[if_true,if_false,Bool.false_eq_true]; rw[Int.neg_mul]; omega
 ·rw[qg9]; (try simp only[if_true,if_false,Bool.false_eq_true]); rw[Int.neg_mul,Int.neg_mul]; omega
theorem wl2 (n:Int) (a:q42):q7l (qf6 n a)=q7l a:=rfl
theorem wl3 (n:Int) (a:q42):q8w (qf6 n a)=n*q8w a:=by
 obtain⟨sa,na,da⟩:=a
 unfold q8w qf6
 dsimp only
 rw[qg9,Int.natCast_mul]
 generalize(valL na:Int)=A
 by_cases h:n<0
 ·rw[decide_eq_true h,show(((max n (0-n)).toNat:Nat):Int)=- n by omega]
  cases sa
  ·rw[if_pos (show(false != true)=true from rfl),if_neg (show ¬(false=true) by decide),Int.neg_mul,Int.neg_neg]
  ·rw[if_neg (show ¬((true != true)=true) by decide),if_pos (show true=true from rfl),Int.neg_mul,Int.mul_neg]
 ·rw[decide_eq_false h,show(((max n (0-n)).toNat:Nat):Int)=n by omega]
  cases sa
  ·rw[if_neg (show ¬((false != false)=true) by decide),if_neg (show ¬(false=true) by decide)]
  ·rw[if_pos (show(true != false)=true from rfl),if_pos (show true=true from rfl),Int.mul_neg]
theorem w22 (a b:q42):(plusV a b).2.1=dgs (valL (plusV a b).2.1):=by
 have:∃N,(plusV a b).2.1=dgs N:=by
  unfold plusV; split
  ·exact⟨_,rfl⟩
  ·split
   ·exact⟨_,rfl⟩
   ·exact⟨_,rfl⟩
 obtain⟨N,e⟩:=this
 rw[e,qg9]
theorem xc2 (a b:q42):wm3 a b=0↔q8w a*q7l b=q8w b*q7l a:=by
 have h1:=w0v a (qf6 (-1) b)
 rw[wl2,wl3] at h1
 have hc:=w22 a (qf6 (-1) b)
 unfold wm3
 generalize plusV a (qf6 (-1) b)=c at *
 have e:q8w c=0↔c.2.1.length=0:=by
  rw[hc,xn6]
  unfold q8w
  split <;> omega
 constructor
 ·intro h
  have:c.2.1.length=0:=Classical.byContradiction λq=>by
   rw[if_neg q] at h
   split at h <;> cases h
  rw[e.2 this] at h1
  rw[show -1*q8w b*q7l a=- (q8w b*q7l a) by rw[Int.neg_mul,Int.neg_mul,Int.one_mul]] at h1
  omega
 ·intro h
  rw[if_pos]
  refine e.1 ?_
  rw[show -1*q8w b*q7l a=- (q8w b*q7l a) by rw[Int.neg_mul,Int.neg_mul,Int.one_mul]] at h1
  omega
def nR (x:List (Int × Int)) (i:Nat):Int × Int:=qa1 (.prod (.int .i64) (.int .i64)) x i
theorem wr6 (x:List (Int × Int)) (i:Nat) (h:i<x.length):nR x i=x[i]:=ql1 (t:=.prod (.int .i64) (.int .i64)) x i h
def qd9 (r:List Int) (x:List (Int × Int)):Nat->q42
 | 0=>qd5 0 1
 | k+1=>if nI r k≠0 then plusV (qd9 r x k) (qf6 (nI r k) (qd5 (nR x k).1 (nR x k).2)) else qd9 r x k
theorem w0w {r:List Int} {x:List (Int × Int)} {L:Int} {u:Nat->Int}:∀k,(∀j,j<k->0<(nR x j).2/\L=(nR x j).2*u j)->q8w (qd9 r x k)*L=q7l (qd9 r x k)*(sm k λj=>nI r j*((nR x j).1*u j))/\0<q7l (qd9 r x k)
 | 0,_=>by
  rw[qd9,q65,q66 (by decide)]
  exact⟨by rw[sm,Int.zero_mul]; rfl,by decide⟩
 | k+1,h=>by
  obtain⟨h1,h2⟩:=w0w (r:=r) (L:=L) (u:=u) k λj hj=>h j (by omega)
  obtain⟨d1,d2⟩:=h k (by omega)
  rw[qd9,sm]
  by_cases q:nI r k≠0
  ·rw[if_pos q,w0v,xc1,wl2,wl3,q65,q66 (by omega)]
   generalize q8w (qd9 r x k)=n at *
   generalize q7l (qd9 r x k)=d at *
   generalize(sm k λj=>nI r j*((nR x j).1*u j))=S at *
   refine⟨?_,Int.mul_pos h2 d1⟩
   have e:(n*(nR x k).2+nI r k*(nR x k).1*d)*L=(nR x k).2*(n*L)+nI r k*(nR x k).1*d*L:=by grind
   rw[e,h1,d2]
   grind
  ·rw[if_neg q]
   have q:nI r k=0:=Classical.byContradiction λq2=>q q2
   rw[q,Int.zero_mul,Int.add_zero]
   exact⟨h1,h2⟩
theorem w23 {r:List Int} {x:List (Int × Int)} {y L:Int} {u:Nat->Int} {k:Nat} (hL:L≠0) (h:∀j,j<k->0<(nR x j).2/\L=(nR x j).2*u j) (hy:(sm k λj=>nI r j*((nR x j).1*u j))=y*L):wm3 (qd9 r x k) (qd5 y 1)=0:=by
 obtain⟨h1,h2⟩:=w0w (r:=r) k h
 rw[xc2,q65,q66 (by decide),Int.mul_one]
 rw[hy] at h1
 have:L*(q8w (qd9 r x k)-y*q7l (qd9 r x k))=0:=by grind
 have:=qd0 this hL
 omega
def q25 (n:Nat) (pix:List Int) (v:List (Int × Int)):Nat->List (Int × Int)
 | 0=>List.replicate n (0,1)
 | k+1=>(q25 n pix v k).set (nI pix k).toNat (nR v k)
theorem qy1 (n:Nat) (pix:List Int) (v:List (Int × Int)):∀k,(q25 n pix v k).length=n
 | 0=>by simp[q25]
 | k+1=>by rw[q25,List.length_set]; exact qy1 n pix v k
theorem xg1 (l:List (Int × Int)) {p:Nat} (hp:p<l.length) (x:Int × Int) (q:Nat):nR (l.set p x) q=if q=p then x else nR l q:=by
 by_cases h:q=p
 ·subst h
  rw[if_pos rfl,wr6 _ _ (by rw[List.length_set]; exact hp),List.getElem_set_self]
 ·rw[if_neg h]
  rcases Nat.lt_or_ge q l.length with e | e
  ·rw[wr6 _ _ (by rw[List.length_set]; exact e),List.getElem_set_ne (Ne.symm h),wr6 _ _ e]
  ·unfold nR qa1
   rw[List.getD_eq_getElem?_getD,List.getD_eq_getElem?_getD,List.getElem?_eq_none (by rw[List.length_set]; exact e),List.getElem?_eq_none e]
theorem wb1 {n:Nat} {pix:List Int} {v:List (Int × Int)} (hs:Named n pix):∀k,k<=pix.length->∀j,j<k->nR (q25 n pix v k) (nI pix j).toNat=nR v j
 | 0,_,j,hj=>absurd hj (Nat.not_lt_zero _)
 | k+1,hk,j,hj=>by
  have h1:=hs.at_ k (by omega)
  have h2:=hs.at_ j (by omega)
  rw[q25,xg1 _ (by rw[qy1]; omega)]
  rcases Nat.lt_succ_iff_lt_or_eq.1 hj with e | e
  ·have:=hs.asc j k e (by omega)
   rw[if_neg (by omega)]
   exact wb1 hs k (by omega) j e
  ·rw[if_pos (by rw[e]),e]
theorem w7v {n:Nat} {pix:List Int} {v:List (Int × Int)} (hs:Named n pix) {c:Nat} (hn:c<n) (hc:∀j,j<pix.length->nI pix j≠(c:Int)):∀k,k<=pix.length->nR (q25 n pix v k) c=(0,1)
 | 0,_=>by rw[q25,wr6 _ _ (by simpa using hn)]; simp
 | k+1,hk=>by
  have h1:=hs.at_ k (by omega)
  have h2:=hc k (by omega)
  rw[q25,xg1 _ (by rw[qy1]; omega),if_neg (by omega)]
  exact w7v hs hn hc k (by omega)
theorem w24 {n:Nat} {pix:List Int} {v:List (Int × Int)} (hs:Named n pix) (hv:∀j,j<pix.length->q14 (nR v j)=true):∀x∈q25 n pix v pix.length,q14 x=true:=λx hx=>by
 obtain⟨c,hc,rfl⟩:=List.getElem_of_mem hx
 rw[<- wr6 _ c hc]
 rw[qy1] at hc
 by_cases q:∃j,j<pix.length/\nI pix j=(c:Int)
 ·obtain⟨j,hj,e⟩:=q
  have:=wb1 (v:=v) hs _ (Nat.le_refl _) j hj
  rw[e,Int.toNat_natCast] at this
  rw[this]
  exact hv j hj
 ·rw[w7v hs hc (λj hj e=>q ⟨j,hj,e⟩) _ (Nat.le_refl _)]
  decide
theorem xc3 {m:List (List Int)} {y pix:List Int} (h:(qk0 m y pix).2=true):∃(L:Int) (u:Nat->Int),L≠0/\(∀j,j<pix.length->0<(nR (qk0 m y pix).1.2 j).2/\L=(nR (qk0 m y pix).1.2 j).2*u j) /\
  ∀a,a<m.length->(sm pix.length λj=>nI (nL m a) (nI pix j).toNat*((nR (qk0 m y pix).1.2 j).1*u j))=nI y a*L:=by
 have hI:=qy5 h
 have hA:=Asked.of hI.chk
 have hS:=qw2 hA
 have hst:=qr4 hS.toMat pix.length (by omega)
 have hpl:=hst.pl
 have hvo:=wr0 h
 have hvl:=hI.len
 unfold qk0 at h hvo hvl ⊢
 split at h
 ·cases h
 ·rename_i hno
  rw[if_neg hno] at hvo hvl ⊢
  have h0:(qt4 m pix y).2=0:=Classical.byContradiction λq=>hno (.inl q)
  have es:qt4 m pix y=wo8 (qc0 (qd3 m pix y) pix.length).1 (qc0 (qd3 m pix y) pix.length).2 pix.length:=by unfold qt4; rw[if_pos hI.chk]; rfl
  have hasc:Asc pix.length (qc0 (qd3 m pix y) pix.length).2:=⟨λq hq=>⟨(hst.pos q hq).1,(hst.pos q hq).2.1⟩,hst.asc⟩
  have hle:=hasc.le
  dsimp only at hvo hvl ⊢
  rw[es] at h0 hvo hvl ⊢
  unfold wo8 at h0 hvo hvl ⊢
  split at h0
  ·cases h0
  ·rename_i hn
   rw[if_neg hn] at hvo hvl ⊢
   split at h0
   ·cases h0
   ·rename_i hl
    rw[if_neg hl] at hvo hvl ⊢
    have hlen:(qc0 (qd3 m pix y) pix.length).2.length=pix.length:=by omega
    dsimp only at hvo hvl ⊢
    have hid:=λq (hq:q<pix.length)=>hasc.id hlen hq
    have hat:∀j,j<pix.length->nR (List.map (xe8 (qc0 (qd3 m pix y) pix.length).1 (qc0 (qd3 m pix y) pix.length).2 pix.length) (List.range (qc0 (qd3 m pix y) pix.length).2.length)) j=wb9 (nI (nL (qc0 (qd3 m pix y) pix.length).1 j) pix.length) (nI (nL (qc0 (qd3 m pix y) pix.length).1 j) j)/\0<nI (nL (qc0 (qd3 m pix y) pix.length).1 j) j:=λj hj=>by
     have hp:=(hst.pos j (by omega)).2.2.1
     rw[hid j hj,Int.toNat_natCast] at hp
     refine⟨?_,hp⟩
     rw[wr6 _ j (by simp; omega)]
     simp only[List.getElem_map,List.getElem_range]
     unfold xe8
     rw[hid j hj,Int.toNat_natCast,wp9 hp]
    generalize(List.map (xe8 (qc0 (qd3 m pix y) pix.length).1 (qc0 (qd3 m pix y) pix.length).2 pix.length) (List.range (qc0 (qd3 m pix y) pix.length).2.length))=V at *
    have hpos:∀j,j<pix.length->0<(nR V j).2:=λj hj=>by
     obtain⟨q1,_⟩:=hvo (nR V j) (by rw[wr6 V j (by omega)]; exact List.getElem_mem _)
     unfold q14 at q1
     simp only[Bool.and_eq_true,decide_eq_true_eq] at q1
     omega
    obtain⟨L,u,hL,hu⟩:=exL pix.length (λj=>(nR V j).2) λj hj=>by have:=hpos j hj; (try dsimp only); omega
    refine⟨L,u,hL,λj hj=>⟨hpos j hj,hu j hj⟩,λa ha=>?_⟩
    obtain⟨z,hz1,hz2⟩:∃z:Nat->Int,(∀j,j<pix.length->z j=(nR V j).1*u j)/\z pix.length=- L:=⟨λj=>if j<pix.length then(nR V j).1*u j else-L,λj hj=>if_pos hj,if_neg (Nat.lt_irrefl _)⟩
    have hsol:Sol m.length (pix.length+1) (rowOf (qd3 m pix y)) z:=(hst.sol z).2 λi hi=>by
     unfold dt
     rcases Nat.lt_or_ge i pix.length with q | q
     ·rw[q6n (k:=i) (l:=pix.length) (by omega) (by omega) (by omega) λc hc h1 h2=>by
       try dsimp only
       have:=(hst.pos c (by omega)).2.2.2.2 i (by omega) (Ne.symm h1)
       rw[hid c (by omega),Int.toNat_natCast] at this
       rw[this,Int.zero_mul]]
      try dsimp only
      rw[hz1 i q,hz2]
      obtain⟨e1,e2⟩:=hat i q
      have huq:=hu i q
      try dsimp only at huq
      rw[huq,e1]
      generalize nI (nL (qc0 (qd3 m pix y) pix.length).1 i) pix.length=x at *
      generalize nI (nL (qc0 (qd3 m pix y) pix.length).1 i) i=p at *
      have g1:qf2 x p*(wb9 x p).1=x:=Int.mul_tdiv_cancel' (Int.natAbs_dvd_natAbs.1 (Nat.gcd_dvd_left _ _))
      have g2:qf2 x p*(wb9 x p).2=p:=Int.mul_tdiv_cancel' (Int.natAbs_dvd_natAbs.1 (Nat.gcd_dvd_right _ _))
      generalize qf2 x p=g at *
      generalize(wb9 x p).1=n at *
      generalize(wb9 x p).2=d at *
      rw[<- g1,<- g2]
      grind
     ·refine qt0 λc hc=>?_
      try dsimp only
      rcases Nat.lt_or_ge c pix.length with q2 | q2
      ·rw[hst.zero i (by omega) hi c q2,Int.zero_mul]
      ·have hz0:nI (nL (qc0 (qd3 m pix y) pix.length).1 i) pix.length=0:=Classical.byContradiction λq3=>hn (by
        unfold q6b
        rw[List.any_eq_true]
        exact⟨i,List.mem_range.2 (by have:=hst.len; omega),by rw[Bool.and_eq_true,decide_eq_true_eq,bne_iff_ne]; exact⟨by omega,q3⟩⟩)
       rw[show c=pix.length by omega,hz0,Int.zero_mul]
    have e:=hsol a ha
    rw[sm,hz2] at e
    have hrow:∀c,c<pix.length->rowOf (qd3 m pix y) a c=nI (nL m a) (nI pix c).toNat:=λc hc=>by
     unfold rowOf
     rw[q3o m pix y a ha,q4w m pix a ha,qt3 _ _ (by rw[qn4]; exact hc),q4s _ _ _ hc]
    have hlast:rowOf (qd3 m pix y) a pix.length=nI y a:=by
     unfold rowOf
     rw[q3o m pix y a ha,q4w m pix a ha]
     have:=q0i (qu8 (nL m a) pix) (nI y a)
     rwa [qn4] at this
    rw[hlast] at e
    have e2:(sm pix.length λc=>rowOf (qd3 m pix y) a c*z c)=sm pix.length λj=>nI (nL m a) (nI pix j).toNat*((nR V j).1*u j):=qh3 λc hc=>by
     try dsimp only
     rw[hrow c hc,hz1 c hc]
    rw[e2] at e
    rw[Int.mul_neg] at e
    omega
theorem w7w {m:List (List Int)} {y pix:List Int} (h:(qk0 m y pix).2=true) {a:Nat} (ha:a<m.length):wm3 (qd9 (nL m a) (q25 (nL m 0).length pix (qk0 m y pix).1.2 pix.length) (nL m 0).length) (qd5 (nI y a) 1)=0:=by
 have hI:=qy5 h
 have hA:=Asked.of hI.chk
 have hN:=hA.nam
 obtain⟨L,u,hL,hu,hr⟩:=xc3 h
 have hr:=hr a ha
 generalize(qk0 m y pix).1.2=V at *
 -- at each pixel of the mask what its value is multiplied by
 have hx:∀c,∃t:Int,c<(nL m 0).length->0<(nR (q25 (nL m 0).length pix V pix.length) c).2/\L=(nR (q25 (nL m 0).length pix V pix.length) c).2*t/\(∀j,j<pix.length->nI pix j=(c:Int)->t=u j)/\((∀j,j<pix.length->nI pix j≠(c:Int))->(nR (q25 (nL m 0).length pix V pix.length) c).1=0):=λc=>by
  by_cases q:∃j,j<pix.length/\nI pix j=(c:Int)
  ·obtain⟨j,hj,e⟩:=q
   have e1:=wb1 (v:=V) hN _ (Nat.le_refl _) j hj
   rw[e,Int.toNat_natCast] at e1
   refine⟨u j,λ_=>⟨by rw[e1]; exact(hu j hj).1,by rw[e1]; exact(hu j hj).2,λj' hj' e'=>?_,λq=>absurd e (q j hj)⟩⟩
   rw[hN.inj hj hj' (by rw[e,e'])]
  ·refine⟨L,λhc=>?_⟩
   have e1:=w7v (v:=V) hN hc (λj hj e=>q ⟨j,hj,e⟩) _ (Nat.le_refl _)
   rw[e1]
   exact⟨by decide,by simp,λj hj e=>absurd ⟨j,hj,e⟩ q,λ_=>rfl⟩
 obtain⟨t,ht⟩:=Classical.axiomOfChoice hx
 refine w23 (u:=t) hL (λj hj=>⟨(ht j hj).1,(ht j hj).2.1⟩) ?_
 rw[<- hr]
 have hW:∀j,j<pix.length->(nI pix j).toNat<(nL m 0).length:=λj hj=>by have:=hN.at_ j hj; omega
 rw[q41 pix.length (f:=λc=>nI (nL m a) c*((nR (q25 (nL m 0).length pix V pix.length) c).1*t c)) (τ:=λj=>(nI pix j).toNat) hW (λq k hq hk e=>hN.inj hq hk e) λb hb hq=>by
  try dsimp only
  rw[(ht b hb).2.2.2 λj hj e=>hq j hj (by(try dsimp only); rw[e,Int.toNat_natCast]),Int.zero_mul,Int.mul_zero]]
 refine qh3 λj hj=>?_
 try dsimp only
 have h2:=hN.at_ j hj
 rw[wb1 (v:=V) hN _ (Nat.le_refl _) j hj,(ht _ (hW j hj)).2.2.1 j hj (by omega)]
end Go.Proofs.Ytdibdlelmkcccaa
set_option linter.unusedVariables false
namespace Go.Proofs.Ytdibdlelmkcccaa
open Go Go.RowKit Eng
def q4h (L:List Fit) (f:Fit):Nat->Bool
 | 0=>false
 | k+1=>q4h L f k || q1c (nF L k) f
theorem w0y (L:List Fit) (f:Fit):∀k,k<=L.length->(q4h L f k=true↔f∈L.take k)
 | 0,_=>by simp[q4h]
 | k+1,hk=>by
  rw[q4h,Bool.or_eq_true,w0y L f k (by omega),List.take_add_one,List.getElem?_eq_getElem (by omega),w2w L k (by omega)]
  unfold q1c
  simp only[Bool.and_eq_true,decide_eq_true_eq,Option.toList_some,List.mem_append,List.mem_singleton]
  constructor
  ·rintro(h | ⟨h1,h2⟩)
   ·exact .inl h
   ·exact .inr (Prod.ext h1.symm h2.symm)
  ·rintro(h | h)
   ·exact .inl h
   ·rw[h]; exact .inr ⟨rfl,rfl⟩
theorem xc8 (L:List Fit) (f:Fit):q4h L f L.length=true↔f∈L:=by
 rw[w0y L f _ (Nat.le_refl _),List.take_length]
theorem wl9 {m:List (List Int)} {y:List Int}:∀K,∀f∈qh6 m y K,∃pix,(qk0 m y pix).2=true/\f=(qk0 m y pix).1
 | 0,f,h=>by cases h
 | K+1,f,h=>by
  rcases List.mem_append.1 h with h | h
  ·exact wl9 K f h
  ·unfold qg5 at h
   rw[List.mem_filterMap] at h
   obtain⟨pix,_,h⟩:=h
   split at h
   ·rename_i h1
    exact⟨pix,h1,(Option.some.inj h).symm⟩
   ·cases h
theorem q8x {m:List (List Int)} {y pix:List Int} (h:(qk0 m y pix).2=true):∀K,pix.length<K->(qk0 m y pix).1∈qh6 m y K
 | 0,hk=>absurd hk (Nat.not_lt_zero _)
 | K+1,hk=>by
  rw[qh6]
  by_cases e:pix.length=K
  ·refine List.mem_append.2 (.inr ?_)
   unfold qg5
   rw[List.mem_filterMap]
   have:=w7u (Asked.of (qy5 h).chk).nam
   rw[e] at this
   exact⟨pix,this,if_pos h⟩
  ·exact List.mem_append.2 (.inl (q8x h K (by omega)))
theorem w0z {m:List (List Int)} {y:List Int} {f:Fit} (h:qj0 m y f=true):(qk0 m y f.1).2=true/\f=(qk0 m y f.1).1:=by
 unfold qj0 at h
 simp only[Bool.and_eq_true,decide_eq_true_eq] at h
 obtain⟨⟨⟨_,_⟩,h1⟩,h2⟩:=h
 exact⟨h1,Prod.ext (qy5 h1).fst.symm h2.symm⟩
theorem w73 {m:List (List Int)} {y pix:List Int} (h:(qk0 m y pix).2=true):qj0 m y (qk0 m y pix).1=true:=by
 have hI:=qy5 h
 rw[xc0]
 unfold w6r q1c
 rw[wq0,hI.fst]
 simp only[Bool.and_eq_true,decide_eq_true_eq]
 exact⟨⟨hI.chk,h⟩,hI.fst.symm,trivial⟩
theorem w74 {m:List (List Int)} {y pix:List Int} {k:Int} (h:(qk0 m y pix).2=true):pix.length<fitsN m k↔(pix.length:Int)<=k:=by
 have hI:=qy5 h
 have hA:=Asked.of hI.chk
 have h1:=hI.rows
 have h2:=hA.nam.len
 unfold fitsN
 omega
theorem q7c {m:List (List Int)} {y:List Int} {f:Fit} {k:Int} (h:qj0 m y f=true):f∈qg1 m y k↔(f.1.length:Int)<=k:=by
 obtain⟨h1,h2⟩:=w0z h
 unfold qg1
 rw[<- w74 h1]
 constructor
 ·exact λhf=>q6s _ _ hf
 ·intro hl
  rw[h2]
  exact q8x h1 _ hl
end Go.Proofs.Ytdibdlelmkcccaa
