/- What is bad, and when there is a bad picture. Plain mathematics. No condition. -/
import Derived.Test.YtnchigbbjajiiaaGreatR17
import Derived.Test.YtnchigbbjajiiaaGreatW19
import Derived.Test.YtnchigbbjajiiaaGreatR14
import Derived.Test.YtnchigbbjajiiaaGreatQ1
set_option linter.unusedVariables false
set_option linter.unusedSimpArgs false
namespace Go.Proofs.YtnchigbbjajiiaaGreat
open Go Go.RowKit Eng
theorem x1l {m:List (List Int)} {x:List Int} (hM:Mk m) {a:Nat} (ha:a<m.length):nI (qd4 m x) a=sm (nL m 0).length λc=>nI (nL m a) c*nI x c:=by
 rw[qf1 _ _ (by grind [qd4])]
 simp only[qd4,List.getElem_map,List.getElem_range]
 rw[dot_sm,hM.each a ha]
theorem wo1 {m:List (List Int)} {x:List Int} (hM:Mk m):MkN m.length (nL m 0).length (rowOf m) (nI (qd4 m x)) (nI x) 1:=λa ha=>by
 rw[x1l hM ha,ze0]; rfl
def wo8 (m:List (List Int)) (x:List Int):Fit:=(qr5 (nL m 0).length (nI x),(qr5 (nL m 0).length (nI x)).map λj=>(nI x j.toNat,1))
theorem x6k {m:List (List Int)} {x:List Int} (hM:Mk m) (h0:q4j m (qd4 m x) []=0) (hI:x6g m.length (nL m 0).length (rowOf m) (nI x)):qj4 m (qd4 m x) (qr5 (nL m 0).length (nI x))=(wo8 m x,true):=by
 obtain⟨n1,n2⟩:=qh7 (nI x) (nL m 0).length
 have n4:=qt3 (nI x) (nL m 0).length
 have hInd:=w5i hI
 have hmk:=wo1 (x:=x) hM
 unfold wo8
 generalize hS:qr5 (nL m 0).length (nI x)=S at *
 obtain⟨z,hz⟩:∃z:Nat->Int,∀c,z c=if c<S.length then nI x (nI S c).toNat else -1:=⟨_,λ_=>rfl⟩
 have hzN:z S.length=-1:=by grind
 have hs:∀a,a<m.length->(sm S.length λc=>nI (nL m a) (nI S c).toNat*z c)+nI (qd4 m x) a*z S.length=0:=λa ha=>by
  have h1:=hmk a ha
  have e0:(sm (nL m 0).length λc=>rowOf m a c*nI x c)=sm S.length λq=>rowOf m a (nI S q).toNat*nI x (nI S q).toNat:=by
   refine qx4 S.length (n:=(nL m 0).length) (f:=λc=>rowOf m a c*nI x c) (τ:=λq=>(nI S q).toNat) (λq hq=>by have:=n1.at_ q hq; omega) (λq k hq hk e=>n1.inj hq hk e) λc hc hq=>?_
   grind
  have e:(sm S.length λc=>nI (nL m a) (nI S c).toNat*z c)=sm S.length λq=>rowOf m a (nI S q).toNat*nI x (nI S q).toNat:=qe1 λq hq=>by rw[hz,zao hq]; rfl
  grind
 obtain⟨g,g2⟩:=GrdOk.of h0 n1 hInd ⟨z,hs,ow⟩
 have hv:∀k,k<S.length->ofR (nI (nL (qz0 m S (qd4 m x)).1 k) S.length) (nI (nL (qz0 m S (qd4 m x)).1 k) k)=(nI x (nI S k).toNat,1):=λk hk=>by
  obtain⟨p1,p2⟩:=g2 z hs k hk
  rw[hzN,hz,zao hk] at p2
  have e:nI (nL (qz0 m S (qd4 m x)).1 k) S.length=nI (nL (qz0 m S (qd4 m x)).1 k) k*nI x (nI S k).toNat:=ow
  grind [x6i]
 have e:(List.range S.length).map (wo5 (qz0 m S (qd4 m x)).1 (qz0 m S (qd4 m x)).2 S.length)=S.map λj=>(nI x j.toNat,1):=by
  refine zbb (by simp) λi h1 h2=>?_
  have hi:i<S.length:=by grind
  rw[zej,List.getElem_range,zej]
  unfold wo5
  rw[g.id i hi,zaq,hv i hi,qf1 _ _ hi]
 unfold qj4
 rw[g.sol,e,zak]
 rintro(q | q)
 ·omega
 ·obtain⟨r,hr,hz⟩:=zbm.1 q
  obtain⟨j,hj,rfl⟩:=zba.1 hr
  grind [xp3]
theorem q9u {m:List (List Int)} {y pix:List Int} (h:(qj4 m y pix).2=true):∃(b:Nat->Int) (E:Int),0<E/\MkN m.length (nL m 0).length (rowOf m) (nI y) b E /\
  (∀j,j<pix.length->0<(nR (qj4 m y pix).1.2 j).2/\(nR (qj4 m y pix).1.2 j).1*E=b (nI pix j).toNat*(nR (qj4 m y pix).1.2 j).2) /\
  ∀c,c<(nL m 0).length->(∀j,j<pix.length->nI pix j≠(c:Int))->b c=0:=by
 have hI:=qw1 h
 have hN:=(Asked.of hI.chk).nam
 obtain⟨L,u,hL,hu,hr⟩:=x0z h
 generalize(qj4 m y pix).1.2=V at *
 obtain⟨s,hs,hsL⟩:∃s:Int,(s=1\/s=-1)/\0<s*L:=by
  rcases Int.lt_or_lt_of_ne hL with q | q
  all_goals simp_all
 obtain⟨b,hb⟩:∃b:Nat->Int,∀c,b c=sm pix.length λj=>if(nI pix j).toNat=c then s*((nR V j).1*u j) else 0:=⟨_,λ_=>rfl⟩
 have hbj:∀j,j<pix.length->b (nI pix j).toNat=s*((nR V j).1*u j):=λj hj=>by
  rw[hb,qr0 hj λi hi hne=>zak λe=>hne (hN.inj hi hj e),zao rfl]
 refine⟨b,s*L,hsL,λa ha=>?_,λj hj=>⟨(hu j hj).1,?_⟩,λc hc hno=>?_⟩
 ·have e:=q9b (A:=rowOf m a) (σ:=λq=>(nI pix q).toNat) (w:=λj=>s*((nR V j).1*u j)) (K:=pix.length) (N:=(nL m 0).length) λq hq=>by have:=hN.at_ q hq; omega
  have e2:(sm (nL m 0).length λc=>rowOf m a c*b c)=sm (nL m 0).length λcol=>rowOf m a col*sm pix.length λq=>if(nI pix q).toNat=col then s*((nR V q).1*u q) else 0:=qe1 λcol _=>by rw[hb]
  rw[e2,e]
  have h1:=hr a ha
  have e3:(sm pix.length λk=>rowOf m a (nI pix k).toNat*(s*((nR V k).1*u k)))=s*sm pix.length λj=>nI (nL m a) (nI pix j).toNat*((nR V j).1*u j):=by
   rw[<- qk8]
   exact qe1 λq _=>by show nI (nL m a) (nI pix q).toNat*_=_; grind
  grind
 ·grind
 ·rw[hb]
  refine qm5 λj hj=>zak λe=>hno j hj ?_
  have:=(hN.at_ j hj).1
  omega
def nmD (V:List (Int × Int)):Nat->Int
 | 0=>1
 | k+1=>nmD V k*(nR V k).2
def nmN (V:List (Int × Int)):Nat->Int
 | 0=>0
 | k+1=>nmN V k*(nR V k).2+qd6 (nR V k).1*nmD V k
theorem xp8 {V:List (Int × Int)} {β:Nat->Int} {E:Int} (hE:0<E):∀k,(∀j,j<k->0<(nR V j).2/\(nR V j).1*E=β j*(nR V j).2)->0<nmD V k/\nmN V k*E=(sm k λj=>qd6 (β j))*nmD V k
 | 0,_=>⟨(show(0:Int)<1 by decide),by simp[nmN,sm]⟩
 | k+1,h=>by
  obtain⟨h1,h2⟩:=xp8 hE k λj hj=>h j ow
  obtain⟨h3,h4⟩:=h k ow
  have e1:qd6 (nR V k).1*E=qd6 (β k)*(nR V k).2:=by
   have a1:=q4v (nR V k).1 (show 0<=E by omega)
   grind [q4v,nR,Int.mul_comm]
  have es:(sm (k+1) λj=>qd6 (β j))=(sm k λj=>qd6 (β j))+qd6 (β k):=rfl
  refine⟨zb8 h1 h3,?_⟩
  grind [nmN,nmD,nR,qd6]
theorem w2o {n:Nat} {pix:List Int} {b:Nat->Int} (hN:Named n pix) (h0:∀c,c<n->(∀j,j<pix.length->nI pix j≠(c:Int))->b c=0):(sm pix.length λj=>qd6 (b (nI pix j).toNat))=sA n b:=by
 symm
 unfold sA
 refine qx4 pix.length (n:=n) (f:=λc=>qd6 (b c)) (τ:=λq=>(nI pix q).toNat) (λq hq=>by have:=hN.at_ q hq; omega) (λq k hq hk e=>hN.inj hq hk e) λc hc hq=>?_
 try dsimp only
 rw[h0 c hc λj hj e=>hq j hj ow]
 rfl
theorem w2p {n:Nat} {x:Nat->Int}:∀c,c<n->(∀j,j<(qr5 n x).length->nI (qr5 n x) j≠(c:Int))->x c=0:=λc hc hno=>zaf λhx=>by
 obtain⟨q,h1,h2⟩:=qt3 x n c hc hx
 grind
theorem xp9 {m:List (List Int)} {x:List Int} (hM:Mk m) (hgrow:∀d:Nat->Int,Sol m.length (nL m 0).length (rowOf m) d->(∃i,i<(nL m 0).length/\d i≠0)->0<fF (nL m 0).length (nI x) d) {pix:List Int} (hf:(qj4 m (qd4 m x) pix).2=true) (hne:pix≠qr5 (nL m 0).length (nI x)) :
  sA (nL m 0).length (nI x)*nmD (qj4 m (qd4 m x) pix).1.2 pix.length<nmN (qj4 m (qd4 m x) pix).1.2 pix.length:=by
 obtain⟨b,E,hE,hb,hv,h0⟩:=q9u hf
 have hI:=qw1 hf
 have hN:=(Asked.of hI.chk).nam
 have hnz:∀j,j<pix.length->b (nI pix j).toNat≠0:=λj hj hz=>by
  obtain⟨k1,k2⟩:=hv j hj
  rw[hz,zb6] at k2
  have k3:(nR (qj4 m (qd4 m x) pix).1.2 j).1=0:=by
   grind [Int.mul_eq_zero]
  unfold qj4 at hf k3
  split at hf
  ·grind
  ·rename_i hno
   rw[zak hno] at k3
   refine hno (.inr (zbm.2 ⟨nR (q6i m pix (qd4 m x)).1 j,?_,by grind⟩))
   have hlen:(q6i m pix (qd4 m x)).1.length=pix.length:=by have:=hI.len; simp_all [qj4,if_neg]
   grind [q6l,List.getElem_mem]
 have hdiff:∃i,i<(nL m 0).length/\b i≠E*nI x i:=by
  refine zaf λq=>hne ?_
  have hall:∀i,i<(nL m 0).length->b i=E*nI x i:=λi hi=>zaf λw=>q ⟨i,hi,w⟩
  refine xp6 hN (qh7 (nI x) (nL m 0).length).1 λc hc=>⟨λ⟨j,hj,e⟩=>?_,λ⟨j,hj,e⟩=>?_⟩
  ·refine qt3 (nI x) _ c hc λhz=>hnz j hj ?_
   grind
  ·refine zaf λw=>?_
   grind [qh7,nI,nL,Int.toNat_natCast,Int.mul_ne_zero]
 have hless:=xp2 hgrow (wo1 hM) hE hb hdiff
 obtain⟨d1,d2⟩:=xp8 (V:=(qj4 m (qd4 m x) pix).1.2) (β:=λj=>b (nI pix j).toNat) hE pix.length hv
 rw[w2o hN h0] at d2
 have k1:=zdx hless d1
 rw[<- d2] at k1
 refine zdz (a:=E) ?_ ow
 grind
theorem w0c {m:List (List Int)} {x:List Int} (hM:Mk m) (h0:q4j m (qd4 m x) []=0) {h:Nat->Int} (hh:Sol m.length (nL m 0).length (rowOf m) h) (hne:∃i,i<(nL m 0).length/\h i≠0) (hf:fF (nL m 0).length (nI x) h<=0) :
  ∃pix,(qj4 m (qd4 m x) pix).2=true/\nmN (qj4 m (qd4 m x) pix).1.2 pix.length<=sA (nL m 0).length (nI x)*nmD (qj4 m (qd4 m x) pix).1.2 pix.length /\
   ¬(pix=qr5 (nL m 0).length (nI x)/\∀j,j<pix.length->nR (qj4 m (qd4 m x) pix).1.2 j=(nI x (nI pix j).toNat,1)):=by
 obtain⟨b,E,hE,hb,hI,hdiff,hle⟩:=w2n (wo1 hM) hh hne hf
 obtain⟨f1,f2⟩:=xp7 h0 hE hb hI
 obtain⟨d1,d2⟩:=xp8 (V:=(qj4 m (qd4 m x) (qr5 (nL m 0).length b)).1.2) (β:=λj=>b (nI (qr5 (nL m 0).length b) j).toNat) hE (qr5 (nL m 0).length b).length f2
 rw[w2o (qh7 b _).1 w2p] at d2
 refine⟨qr5 (nL m 0).length b,f1,?_,λ⟨e1,e2⟩=>?_⟩
 ·have k1:=zai hle (show 0<=nmD (qj4 m (qd4 m x) (qr5 (nL m 0).length b)).1.2 (qr5 (nL m 0).length b).length by omega)
  rw[<- d2] at k1
  refine zd0 (a:=E) ?_ hE
  grind
 ·obtain⟨i,hi,hn⟩:=hdiff
  refine hn ?_
  by_cases hbi:b i=0
  ·have hx:nI x i=0:=w2p i hi λj hj e=>by
    grind
   grind
  ·obtain⟨j,hj,e⟩:=qt3 b _ i hi hbi
   grind
structure Gath {α:Type} (le:α->α->Prop) (L out:List α):Prop where
 none:L=[]->out=[]
 some:L≠[]->out≠[]
 least:∀f∈out,f∈L/\∀g∈L,le f g
 all:∀f∈L,(∀g∈L,le f g)->f∈out
theorem Gath.nil {α:Type} (le:α->α->Prop):Gath le [] []:=⟨λ_=>rfl,λh=>absurd rfl h,λ_ h=>(by cases h),λ_ h=>(by cases h)⟩
theorem Gath.step {α:Type} {le:α->α->Prop} (refl:∀a,le a a) (trans:∀a b c,le a b->le b c->le a c) {L out out':List α} (h:Gath le L out) (f:α)
  (h0:out=[]->out'=[f]) (h1:∀g,g∈out->¬le f g->out'=out) (h2:∀g,g∈out->¬le g f->out'=[f]) (h3:∀g,g∈out->le f g->le g f->∀x,x∈out'↔x∈out\/x=f) (total:∀a b,le a b\/le b a):Gath le (L++[f]) out':=by
 cases hout:out with
 | nil=>
  have hL:L=[]:=zaf λq=>h.some q hout
  subst hL
  rw[h0 hout]
  exact⟨λq=>(by cases q),λ_ q=>(by cases q),λa ha=>by
   grind,λa ha _=>by grind⟩
 | cons g out0=>
  have hg:g∈out:=by grind
  obtain⟨gL,gmin⟩:=h.least g hg
  by_cases c1:le f g
  ·by_cases c2:le g f
   ·have hm:=h3 g hg c1 c2
    refine⟨λq=>(by simp at q),λ_ q=>?_,λa ha=>?_,λa ha hmin=>?_⟩
    ·grind
    ·rcases(hm a).1 ha with w | w
     ·obtain⟨k1,k2⟩:=h.least a w
      grind
     grind
    ·rcases zal.1 ha with ha | ha
     ·exact(hm a).2 (.inl (h.all a ha λb hb=>hmin b (zey _ hb)))
     grind
   ·rw[h2 g hg c2]
    refine⟨λq=>(by simp at q),λ_ q=>(by cases q),λa ha=>?_,λa ha hmin=>?_⟩
    all_goals grind
  ·have c3:le g f:=(total f g).resolve_left c1
   rw[h1 g hg c1]
   refine⟨λq=>(by simp at q),λ_ q=>(by grind),λa ha=>?_,λa ha hmin=>?_⟩
   ·obtain⟨k1,k2⟩:=h.least a ha
    grind
   ·rcases zal.1 ha with ha | ha
    ·exact h.all a ha λb hb=>hmin b (zey _ hb)
    grind
theorem yd4 (h x:List Int):∀k,fF k (nI x) (nI h)=qw2 h x k+qj8 h x k/\fF k (nI x) (λi=>-(nI h i))=-qw2 h x k+qj8 h x k
 | 0=>⟨rfl,rfl⟩
 | k+1=>by
  obtain⟨h1,h2⟩:=yd4 h x k
  have e1:fF (k+1) (nI x) (nI h)=fF k (nI x) (nI h)+fT (nI x k) (nI h k):=rfl
  have e2:fF (k+1) (nI x) (λi=>-(nI h i))=fF k (nI x) (λi=>-(nI h i))+fT (nI x k) (-(nI h k)):=rfl
  grind [qw2,qj8,fT,qd6]
theorem xq0 (h x:List Int):agB h x=false↔0<fF h.length (nI x) (nI h)/\0<fF h.length (nI x) (λi=>-(nI h i)):=by
 grind [yd4,agB,qd6,decide_eq_false_iff_not]
def leF (f g:Fit):Prop:=nmN f.2 f.2.length*nmD g.2 g.2.length<=nmN g.2 g.2.length*nmD f.2 f.2.length
theorem q67 {m:List (List Int)} {y:List Int} {f:Fit}:f∈q1w m y 10↔∃pix,(qj4 m y pix).2=true/\f=(qj4 m y pix).1/\pix.length<=10:=by
 constructor
 ·intro h
  obtain⟨pix,h1,h2⟩:=q9s _ f h
  have hI:=qw1 h1
  have hN:=(Asked.of hI.chk)
  have h3:=hI.rows
  have h4:=hN.msk.rows6
  grind
 ·rintro⟨pix,h1,rfl,h2⟩
  exact wh0 h1 _ ((xp5 h1).2 ow)
theorem xq1 {m:List (List Int)} {x:List Int} {S:List Int}:∀k,k<=S.length->nmD (S.map λj=>(nI x j.toNat,(1:Int))) k=1/\nmN (S.map λj=>(nI x j.toNat,(1:Int))) k=sm k λj=>qd6 (nI x (nI S j).toNat)
 | 0,_=>⟨rfl,rfl⟩
 | k+1,hk=>by
  obtain⟨h1,h2⟩:=xq1 (m:=m) (x:=x) (S:=S) k ow
  have e:nR (S.map λj=>(nI x j.toNat,(1:Int))) k=(nI x (nI S k).toNat,1):=by
   grind [q6l,qf1]
  rw[nmD,nmN,h1,h2,e]
  refine⟨rfl,?_⟩
  show _*1+qd6 (nI x (nI S k).toNat)*1=_
  rw[Int.mul_one,Int.mul_one]; rfl
theorem x1m (m:List (List Int)) (x:List Int):nmD (wo8 m x).2 (wo8 m x).2.length=1/\nmN (wo8 m x).2 (wo8 m x).2.length=sA (nL m 0).length (nI x):=by
 obtain⟨n1,_⟩:=qh7 (nI x) (nL m 0).length
 have e:(wo8 m x).2.length=(qr5 (nL m 0).length (nI x)).length:=by simp[wo8]
 obtain⟨h1,h2⟩:=xq1 (m:=m) (x:=x) (S:=qr5 (nL m 0).length (nI x)) _ (zab _)
 rw[e]
 refine⟨h1,h2.trans ?_⟩
 exact w2o n1 w2p
theorem w8e {m:List (List Int)} {x:List Int} (hv:validB m=true) (h7:(nL m 0).length<=7) (hl:x.length=(nL m 0).length) (h0:q4j m (qd4 m x) []=0) {C:List Fit} (hC:Gath leF (q1w m (qd4 m x) 10) C) (hnd:C.Nodup) :
  C=[wo8 m x]↔∀h∈(qf2 m).1,agB h x=false:=by
 have hM:=Mk.of hv
 have hcl:∀h∈(qf2 m).1,h.length=(nL m 0).length/\Sol m.length (nL m 0).length (rowOf m) (nI h)/\∃i,i<(nL m 0).length/\nI h i≠0:=λh hh=>by
  obtain⟨i,hi,rfl⟩:=zaz hh
  obtain⟨s,hc⟩:=q2x hv h7 hi
  rw[qm3 _ i hi] at hc
  exact⟨hc.len,hc.sol,(nI s 0).toNat,by have:=hc.nam.at_ 0 hc.pos; omega,hc.on 0 hc.pos⟩
 obtain⟨x1,x2⟩:=x1m m x
 constructor
 ·intro hc h hh
  cases hag:agB h x with
  | false=>rfl
  | true=>
   exfalso
   obtain⟨k1,k2,k3⟩:=hcl h hh
   have hno:¬(0<fF (nL m 0).length (nI x) (nI h)/\0<fF (nL m 0).length (nI x) (λi=>-(nI h i))):=λq=>by
    grind [xq0]
   obtain⟨pix,f1,f2,f3⟩:∃pix,(qj4 m (qd4 m x) pix).2=true/\nmN (qj4 m (qd4 m x) pix).1.2 pix.length<=sA (nL m 0).length (nI x)*nmD (qj4 m (qd4 m x) pix).1.2 pix.length /\
     ¬(pix=qr5 (nL m 0).length (nI x)/\∀j,j<pix.length->nR (qj4 m (qd4 m x) pix).1.2 j=(nI x (nI pix j).toNat,1)):=by
    rcases zcq 0 (fF (nL m 0).length (nI x) (nI h)) with q | q
    ·refine w0c hM h0 (h:=λi=>-(nI h i)) (λa ha=>?_) ?_ (zbd.1 λw=>hno ⟨q,w⟩)
     ·have h2:=k2 a ha
      have e1:sm (nL m 0).length (λi=>rowOf m a i * -(nI h i))=(-1)*sm (nL m 0).length (λi=>rowOf m a i*nI h i):=by
       rw[<- qk8]; grind
      grind
     grind
    grind [w0c]
   have hI:=qw1 f1
   have hrow:=hI.rows
   have h6:=hM.rows6
   have hmem:(qj4 m (qd4 m x) pix).1∈q1w m (qd4 m x) 10:=q67.2 ⟨pix,f1,rfl,ow⟩
   have hxC:wo8 m x∈C:=by grind
   have hmin:=(hC.least _ hxC).2
   have hlt:∀g∈q1w m (qd4 m x) 10,leF (qj4 m (qd4 m x) pix).1 g:=λg hg=>by
    have q:=hmin g hg
    unfold leF at q ⊢
    rw[x1,x2,Int.mul_one] at q
    rw[hI.len]
    obtain⟨b,E,hE,_,hvv,_⟩:=q9u f1
    have hdp:=(xp8 (V:=(qj4 m (qd4 m x) pix).1.2) (β:=λj=>b (nI pix j).toNat) hE pix.length hvv).1
    obtain⟨pg,g1,g2,_⟩:=q67.1 hg
    obtain⟨b',E',hE',_,hvv',_⟩:=q9u g1
    have hgp:=(xp8 (V:=(qj4 m (qd4 m x) pg).1.2) (β:=λj=>b' (nI pg j).toNat) hE' pg.length hvv').1
    have hgl:=(qw1 g1).len
    rw[<- hgl,<- g2] at hgp
    have s1:=zai f2 (show 0<=nmD g.2 g.2.length by omega)
    have s2:=zai q (show 0<=nmD (qj4 m (qd4 m x) pix).1.2 pix.length by omega)
    grind
   have hin:=hC.all _ hmem hlt
   rw[hc] at hin
   have hin:=zaw.1 hin
   refine f3 ⟨?_,λj hj=>?_⟩
   ·have:=zbi Prod.fst hin
    rw[hI.fst] at this
    exact this
   ·have e1:pix=qr5 (nL m 0).length (nI x):=by
     have:=zbi Prod.fst hin
     rw[hI.fst] at this
     exact this
    rw[hin]
    show nR ((qr5 (nL m 0).length (nI x)).map _) j=_
    grind [q6l,qf1]
 ·intro hsafe
  have hgrow:∀d:Nat->Int,Sol m.length (nL m 0).length (rowOf m) d->(∃i,i<(nL m 0).length/\d i≠0)->0<fF (nL m 0).length (nI x) d:=λd hd hne=>
   w5g hv h7 (λh hh=>by
    grind [xq0]) _ d (zab _) hd hne
  have hfx:=x6k hM h0 (x1k hgrow)
  have hf2:(qj4 m (qd4 m x) (qr5 (nL m 0).length (nI x))).2=true:=by grind
  have hlen:(qr5 (nL m 0).length (nI x)).length<=10:=by
   have h1:=(qh7 (nI x) (nL m 0).length).1.len
   omega
  have hX:wo8 m x∈q1w m (qd4 m x) 10:=q67.2 ⟨_,hf2,by grind,hlen⟩
  have hother:∀g∈q1w m (qd4 m x) 10,g=wo8 m x\/(leF (wo8 m x) g/\¬leF g (wo8 m x)):=λg hg=>by
   obtain⟨pg,g1,g2,_⟩:=q67.1 hg
   by_cases e:pg=qr5 (nL m 0).length (nI x)
   ·grind
   ·right
    have h1:=xp9 hM hgrow g1 e
    have hgl:=(qw1 g1).len
    rw[<- hgl,<- g2] at h1
    unfold leF
    grind
  have hmin:wo8 m x∈C:=hC.all _ hX λg hg=>by
   rcases hother g hg with e | e
   ·rw[e]; exact zcr _
   grind
  have hall:∀f∈C,f=wo8 m x:=λf hf=>by
   obtain⟨k1,k2⟩:=hC.least f hf
   grind
  cases hC':C with
  | nil=>grind
  | cons a t=>
   rw[hC'] at hall hnd
   have ha:=hall a zbg
   cases t with
   | nil=>rw[ha]
   | cons b t=>
    simp_all
theorem x6l (a b:q4y):(0<wf6 a b↔q9x b*q9y a<q9x a*q9y b)/\(wf6 a b<0↔q9x a*q9y b<q9x b*q9y a):=by
 have h1:=w41 a (qj7 (-1) b)
 rw[xk4,xk5] at h1
 have hc:=w7p a (qj7 (-1) b)
 have e1:-1*q9x b*q9y a=-(q9x b*q9y a):=by grind
 rw[e1] at h1
 unfold wf6
 generalize plusV a (qj7 (-1) b)=c at *
 have e:c.2.1.length=0↔valL c.2.1=0:=by grind [x42]
 unfold q9x at h1
 split
 ·grind [q9x,q9y]
 ·rename_i q
  have hv:0<valL c.2.1:=zc1 λz=>q (e.2 z)
  split
  ·rename_i s
   rw[zao s] at h1
   grind [q9x,q9y]
  ·rename_i s
   rw[zak s] at h1
   grind [q9x,q9y]
theorem x1n (n d:Int):q9x (wf7 (qe5 n d))=qd6 n:=by
 unfold q9x wf7 qe5 qd6
 dsimp only
 rw[zak dc,qg7]; omega
theorem xq2 {x:List (Int × Int)}:∀k,(∀j,j<k->(nR x j).1≠0/\0<=(nR x j).2)->q9x (qi8 x k)=nmN x k/\q9y (qi8 x k)=nmD x k
 | 0,_=>⟨xk3 0 1,wy0 dc⟩
 | k+1,h=>by
  obtain⟨h1,h2⟩:=xq2 (x:=x) k λj hj=>h j ow
  obtain⟨k1,k2⟩:=h k ow
  have ed:q9y (wf7 (qe5 (nR x k).1 (nR x k).2))=(nR x k).2:=wy0 k2
  rw[qi8,zao k1,w41,x0y,x1n,ed,h1,h2]
  exact⟨rfl,rfl⟩
structure NmOk (f:Fit):Prop where
 each:∀j,j<f.2.length->(nR f.2 j).1≠0/\0<(nR f.2 j).2
theorem xq3 {V:List (Int × Int)}:∀k,(∀j,j<k->0<(nR V j).2)->0<nmD V k
 | 0,_=>(show(0:Int)<1 by decide)
 | k+1,h=>zb8 (xq3 k λj hj=>h j ow) (h k ow)
theorem NmOk.pos {f:Fit} (h:NmOk f):0<nmD f.2 f.2.length:=xq3 _ λj hj=>(h.each j hj).2
theorem x6m {f g:Fit} (hf:NmOk f) (hg:NmOk g):(0<wf6 (q5r f) (q5r g)↔¬leF f g)/\(wf6 (q5r f) (q5r g)<0↔¬leF g f):=by
 obtain⟨a1,a2⟩:=xq2 (x:=f.2) f.2.length λj hj=>⟨(hf.each j hj).1,by have:=(hf.each j hj).2; omega⟩
 obtain⟨b1,b2⟩:=xq2 (x:=g.2) g.2.length λj hj=>⟨(hg.each j hj).1,by have:=(hg.each j hj).2; omega⟩
 grind [x6l,q5r,leF]
def xr4 (f:Fit):Int × Int:=if 0<nmD f.2 f.2.length then(nmN f.2 f.2.length,nmD f.2 f.2.length) else(0,1)
theorem wo2 (f:Fit):0<(xr4 f).2:=by grind [xr4]
def leK (f g:Fit):Prop:=(xr4 f).1*(xr4 g).2<=(xr4 g).1*(xr4 f).2
theorem q9v (a b c:Fit) (h1:leK a b) (h2:leK b c):leK a c:=by
 have pa:=wo2 a
 have pb:=wo2 b
 have pc:=wo2 c
 unfold leK at *
 generalize xr4 a=A at *
 generalize xr4 b=B at *
 generalize xr4 c=C at *
 have s1:=zai h1 (show 0<=C.2 by omega)
 have s2:=zai h2 (show 0<=A.2 by omega)
 refine zd0 ?_ pb
 grind
theorem x6n {f g:Fit} (hf:NmOk f) (hg:NmOk g):leK f g↔leF f g:=by
 unfold leK xr4 leF
 rw[zao hf.pos,zao hg.pos]
theorem xq4 {l:List Fit} {j:Nat} (h:j+1<l.length):(xr2 l j).Perm l:=by
 unfold xr2
 rw[w7i l j ow,w7i l (j+1) h]
 grind
theorem w0d:∀(j:Nat) (l:List Fit),j<l.length->(xr3 j l).Perm l
 | 0,l,_=>zez l
 | j+1,l,h=>by
  rw[xr3]
  split
  ·exact(w0d j (xr2 l j) (by grind [q4s])).trans (xq4 h)
  rfl
theorem w5j {L:List Fit} (hL:∀f∈L,NmOk f) (hn:L.Nodup):∀k,k<=L.length->Gath leK (L.take k) (qf4 L k)/\(qf4 L k).Nodup
 | 0,_=>⟨Gath.nil leK,List.nodup_nil⟩
 | k+1,hk=>by
  obtain⟨h1,h2⟩:=w5j hL hn k ow
  have hkm:=qz8 L k ow
  have hf:nF L k∈L:=q2v ow
  have hnew:∀x∈qf4 L k,x≠nF L k:=λx hx e=>by
   have hx2:=(h1.least x hx).1
   grind [w7i,List.mem_iff_getElem,List.length_take,List.pairwise_iff_getElem]
  have e:L.take (k+1)=L.take k++[nF L k]:=by grind [List.take_add_one,List.getElem?_eq_getElem,w7i]
  have hc:∀g∈qf4 L k,(0<wf6 (q5r (nF L k)) (q5r g)↔¬leK (nF L k) g)/\(wf6 (q5r (nF L k)) (q5r g)<0↔¬leK g (nF L k)):=λg hg=>by
   grind [x6n,x6m]
  rw[e,qf4]
  by_cases h0:qf4 L k=[]
  ·have eS:xl2 (qf4 L k) (nF L k)=[nF L k]:=by rw[xl2,zao h0]
   rw[eS]
   exact⟨Gath.step (le:=leK) (λa=>zcr _) q9v h1 (nF L k) (λ_=>rfl) (λg hg=>by grind) (λg hg=>by simp) (λg hg=>by grind) λa b=>zew (_*_) _,by simp⟩
  ·have hlen:0<(qf4 L k).length:=List.length_pos_iff.2 h0
   have hg0:nF (qf4 L k) 0∈qf4 L k:=q2v hlen
   have hall:∀g∈qf4 L k,(leK (nF L k) g↔leK (nF L k) (nF (qf4 L k) 0))/\(leK g (nF L k)↔leK (nF (qf4 L k) 0) (nF L k)):=λg hg=>by
    obtain⟨q1,q2⟩:=h1.least g hg
    obtain⟨r1,r2⟩:=h1.least _ hg0
    grind [q9v,q2,q1]
   obtain⟨c1,c2⟩:=hc _ hg0
   have eS:xl2 (qf4 L k) (nF L k)=if 0<wf6 (q5r (nF L k)) (q5r (nF (qf4 L k) 0)) then qf4 L k else if wf6 (q5r (nF L k)) (q5r (nF (qf4 L k) 0))<0 then[nF L k] else xr3 (qf4 L k).length (qf4 L k++[nF L k]):=by rw[xl2,zak h0]
   have hp:=w0d (qf4 L k).length (qf4 L k++[nF L k]) (by simp)
   refine⟨Gath.step (le:=leK) (λa=>zcr _) q9v h1 (nF L k) (λq=>absurd q h0) (λg hg q=>?_) (λg hg q=>?_) (λg hg q1 q2 x=>?_) λa b=>zew (_*_) _,?_⟩
   all_goals grind
theorem w0e {m:List (List Int)} {y:List Int} {k:Int} {f:Fit} (h:f∈q1w m y k):NmOk f/\wy4 f.2/\f.1.length<=1000/\∃pix,(qj4 m y pix).2=true/\f=(qj4 m y pix).1:=by
 obtain⟨pix,h1,rfl⟩:=q9s _ f h
 have hI:=qw1 h1
 have hA:=Asked.of hI.chk
 have h6:=hA.msk.rows6
 have hr:=hI.rows
 have hv:=xj3 h1
 have hat:∀j,j<(qj4 m y pix).1.2.length->x6v (nR (qj4 m y pix).1.2 j)=true/\(nR (qj4 m y pix).1.2 j).1≠0:=λj hj=>by
  grind [q6l,List.getElem_mem]
 have hb:∀j,j<(qj4 m y pix).1.2.length->1<=(nR (qj4 m y pix).1.2 j).2/\(nR (qj4 m y pix).1.2 j).2<=400/\-10000000000<=(nR (qj4 m y pix).1.2 j).1/\(nR (qj4 m y pix).1.2 j).1<=10000000000:=λj hj=>by
  simp_all [x6v,Bool.and_eq_true,decide_eq_true_eq]
 refine⟨⟨λj hj=>⟨(hat j hj).2,by grind⟩⟩,⟨by rw[hI.len]; omega,λj hj=>?_⟩,by rw[hI.fst]; omega,pix,h1,rfl⟩
 have:=hb j hj
 unfold qc0 BIG
 omega
theorem w5k {m:List (List Int)} {y:List Int} (hM:Mk m) (h7:(nL m 0).length<=7):q5n m y=q1w m y 10:=by
 rw[x0s y dc h7]
 unfold xi1
 refine(List.filter_eq_self.2 λf hf=>zc9 ?_).symm
 rw[xj1 y h7] at hf
 have:=wx4 _ f hf
 omega
theorem w5l {m:List (List Int)} {y:List Int} (hM:Mk m) (h7:(nL m 0).length<=7):Gath leF (q1w m y 10) (w17 (q5n m y))/\(w17 (q5n m y)).Nodup:=by
 rw[w5k hM h7]
 have hn:(q1w m y 10).Nodup:=(List.pairwise_map.1 (w8d y 10 h7)).imp λq e=>q (by rw[e])
 have hok:∀f∈q1w m y 10,NmOk f:=λf hf=>(w0e hf).1
 obtain⟨h1,h2⟩:=w5j hok hn _ (zab _)
 rw[zcy] at h1
 refine⟨⟨h1.none,h1.some,λf hf=>?_,λf hf hg=>?_⟩,h2⟩
 ·obtain⟨k1,k2⟩:=h1.least f hf
  grind [x6n]
 ·exact h1.all f hf λg hq=>(x6n (hok f hf) (hok g hq)).2 (hg g hq)
theorem w5m (g:Int->Int):∀n,q2s g (qp8 n)=sm n λc=>g (c:Int)
 | 0=>rfl
 | n+1=>by rw[wu4,wn7,w5m g n]; simp[q2s,sm]
theorem yd5 (h:List Int) {P:List Int} (hP:Named h.length P):inL h P=sm h.length λc=>if(c:Int)∈P then qd6 (nI h c) else 0:=by
 rw[w2g]
 have hp:((qp8 h.length).filter λx=>decide (x∈P)).Perm P:=by
  rw[zcw ((q4t (xn5 _)).sublist zdw) (q4t (wn8 hP))]
  intro a
  rw[zdm,zbf]
  refine⟨λq=>q.2,λq=>⟨w2i.2 ?_,q⟩⟩
  obtain⟨i,hi,rfl⟩:=zby.1 q
  have:=hP.at_ i hi
  grind [qf1]
 have h1:q2s (λx=>if x∈P then szV h x else 0) (qp8 h.length)=sm h.length λc=>if(c:Int)∈P then qd6 (nI h c) else 0:=by
  grind [w5m,qe1,szV,Int.toNat_natCast]
 rw[<- h1,<- w5f (q:=λx=>decide (x∈P)) _ λx _ hx=>zak (zd6 hx),<- q9o _ hp]
 have:∀l:List Int,q2s (szV h) (l.filter λx=>decide (x∈P))=q2s (λx=>if x∈P then szV h x else 0) (l.filter λx=>decide (x∈P)):=λl=>by
  induction l with
  | nil=>rfl
  | cons x l ih=>
   by_cases q:x∈P
   all_goals simp_all [List.filter_cons_of_pos,q2s,if_pos,List.filter_cons_of_neg]
 grind
end Go.Proofs.YtnchigbbjajiiaaGreat
