/- A basic solution is a fit. Plain mathematics. No condition. -/
import Derived.Test.YtnchigbbjajiiaaGreatR14
import Derived.Test.YtnchigbbjajiiaaGreatW14
import Derived.Test.YtnchigbbjajiiaaGreatV23
import Derived.Test.YtnchigbbjajiiaaGreatW19
import Derived.Test.YtnchigbbjajiiaaGreatQ1
import Derived.Test.YtnchigbbjajiiaaGreatW18
import Derived.Test.YtnchigbbjajiiaaGreatQ19
import Derived.Test.YtnchigbbjajiiaaGreatW6
import Derived.Test.YtnchigbbjajiiaaGreatQ32
set_option linter.unusedVariables false
set_option linter.unusedSimpArgs false
namespace Go.Proofs.YtnchigbbjajiiaaGreat
open Go Go.RowKit Eng
def MkN (n W:Nat) (R:Nat->Nat->Int) (y:Nat->Int) (z:Nat->Int) (D:Int):Prop:=∀a,a<n->sm W (λc=>R a c*z c)=D*y a
def x6g (n W:Nat) (R:Nat->Nat->Int) (z:Nat->Int):Prop:=∀e:Nat->Int,Sol n W R e->(∀i,i<W->e i≠0->z i≠0)->∀i,i<W->e i=0
def sgS (W:Nat) (z e:Nat->Int):Int:=sm W λi=>sg (z i)*e i
theorem x6h (W:Nat) (z e:Nat->Int):sgS W z (λi=>-(e i))=-sgS W z e:=by
 unfold sgS
 have:sm W (λi=>sg (z i) * -(e i))=(-1)*sm W (λi=>sg (z i)*e i):=by
  rw[<- qk8]; grind
 grind
theorem yd2 {a b:Int} (ha:a≠0) (h:0<sg a*b):0<a*b:=by
 unfold sg at h
 split at h
 ·simp_all [Int.mul_pos_of_neg_of_neg]
 ·exact zb8 ow ow
theorem w5h {n W:Nat} {R:Nat->Nat->Int} {y z e:Nat->Int} {D:Int} (hD:0<D) (hz:MkN n W R y z D) (he:Sol n W R e) (hsup:∀i,i<W->e i≠0->z i≠0) (hne:∃i,i<W/\e i≠0) (hs:0<=sgS W z e) :
  ∃(z':Nat->Int) (D':Int),0<D'/\MkN n W R y z' D'/\(∀i,i<W->z' i≠0->z i≠0)/\q9c W z' < q9c W z/\sA W z' * D<=sA W z*D':=by
 have hex:∃i,i<W/\0<z i*e i:=by
  refine zaf λq=>?_
  have hle:∀i,i<W->sg (z i)*e i<=0:=λi hi=>zbd.1 λw=>by
   by_cases h0:z i=0
   ·grind
   ·exact q ⟨i,hi,yd2 h0 w⟩
  obtain⟨i,hi,hei⟩:=hne
  have hlt:sg (z i)*e i<0:=by
   grind [sg,Int.mul_ne_zero,yc2]
  have h3:0<sm W λi=>-(sg (z i)*e i):=xn2 (λj hj=>by grind) hi ow
  grind [sm,sg,sgS,qk8,qe1]
 obtain⟨k,hk,hpk,hcons,hkz,hp1,hp2⟩:=shrink hsup hex
 refine⟨λi=>qd6 (e k)*z i-qd6 (z k)*e i,qd6 (e k)*D,zb8 hp1 hD,λa ha=>?_,λi hi q w=>?_,?_,?_⟩
 ·have h1:=hz a ha
  have h2:=he a ha
  have e1:sm W (λi=>R a i*(qd6 (e k)*z i-qd6 (z k)*e i))=qd6 (e k)*sm W (λi=>R a i*z i)+(-qd6 (z k))*sm W (λi=>R a i*e i):=by
   rw[<- q9p]
   grind
  grind
 ·grind
 ·have hdk:z k≠0:=λq=>by grind
  exact cnt_lt (d:=λi=>qd6 (e k)*z i-qd6 (z k)*e i) (e:=z) (c0:=k) hkz hdk W hk λi hi q w=>by
   grind
 ·have h1:sA W (λi=>qd6 (e k)*z i-qd6 (z k)*e i)=qd6 (e k)*sA W z+(-qd6 (z k))*sgS W z e:=by
   unfold sA sgS
   rw[<- q9p]
   refine qe1 λi hi=>?_
   have hc:0<=(qd6 (e k)*z i-qd6 (z k)*e i)*z i:=hcons i hi
   show qd6 (qd6 (e k)*z i-qd6 (z k)*e i)=qd6 (e k)*qd6 (z i)+-qd6 (z k)*(sg (z i)*e i)
   by_cases h0:z i=0
   ·have:e i=0:=zaf λr=>hsup i hi r h0
    grind [qd6]
   ·have e2:qd6 (qd6 (e k)*z i-qd6 (z k)*e i)=sg (z i)*(qd6 (e k)*z i-qd6 (z k)*e i):=x6c (yc2 _) (by
     unfold sg
     split
     ·have:qd6 (e k)*z i-qd6 (z k)*e i<=0:=zbd.1 λw=>by have:=zbk w ‹z i<0›; omega
      omega
     ·have:0<=qd6 (e k)*z i-qd6 (z k)*e i:=zbd.1 λw=>by have:=zbt w (show 0<z i by omega); omega
      omega)
    grind [x6b]
  rw[h1]
  have h2:0<=qd6 (z k)*sgS W z e:=zbs ow hs
  have h3:qd6 (e k)*sA W z+-qd6 (z k)*sgS W z e<=qd6 (e k)*sA W z:=by grind
  have h4:=zai h3 (show 0<=D by omega)
  grind
theorem yd3 {n W:Nat} {R:Nat->Nat->Int} {y:Nat->Int}:∀(K:Nat) (z:Nat->Int) (D:Int),q9c W z<=K->0<D->MkN n W R y z D ->
  ∃(b:Nat->Int) (E:Int),0<E/\MkN n W R y b E/\(∀i,i<W->b i≠0->z i≠0)/\x6g n W R b/\sA W b*D<=sA W z*E:=by
 intro K
 induction K with
 | zero=>
  intro z D hK hD hz
  refine⟨z,D,hD,hz,λ_ _ h=>h,λe _ hsup i hi=>zaf λq=>?_,zcr _⟩
  have:=cnt_lt (d:=λ_=>0) (e:=z) (c0:=i) rfl (hsup i hi q) W hi λc _ w=>absurd rfl w
  omega
 | succ K ih=>
  intro z D hK hD hz
  by_cases hI:x6g n W R z
  ·grind
  ·obtain⟨e,he,hsup,hne⟩:∃e:Nat->Int,Sol n W R e/\(∀i,i<W->e i≠0->z i≠0)/\∃i,i<W/\e i≠0:=by
    refine zaf λq=>hI λe h1 h2 i hi=>zaf λw=>q ⟨e,h1,h2,i,hi,w⟩
   obtain⟨z',D',h1,h2,h3,h4,h5⟩:∃(z':Nat->Int) (D':Int),0<D'/\MkN n W R y z' D'/\(∀i,i<W->z' i≠0->z i≠0)/\q9c W z' < q9c W z/\sA W z' * D<=sA W z*D':=by
    rcases zew 0 (sgS W z e) with q | q
    ·grind [w5h]
    ·refine w5h (e:=λi=>-(e i)) hD hz (λa ha=>?_) (λi hi w=>hsup i hi λr=>w ow) ?_ (by grind [x6h])
     ·have h2:=he a ha
      have e1:sm W (λi=>R a i * -(e i))=(-1)*sm W (λi=>R a i*e i):=by
       rw[<- qk8]; grind
      grind
     grind
   obtain⟨b,E,b1,b2,b3,b4,b5⟩:=ih z' D' ow h1 h2
   refine⟨b,E,b1,b2,λi hi w=>h3 i hi (b3 i hi w),b4,?_⟩
   refine zbx (a:=D') ?_ h1
   have k1:=zai b5 (show 0<=D by omega)
   have k2:=zai h5 (show 0<=E by omega)
   grind
theorem yq8 {x d E:Int} (hE:0<E):E*qd6 x+fT x d<=qd6 (E*x+d):=by
 grind [fT,qd6,Int.mul_neg]
theorem xp2 {n W:Nat} {R:Nat->Nat->Int} {y x b:Nat->Int} {E:Int} (hgrow:∀d:Nat->Int,Sol n W R d->(∃i,i<W/\d i≠0)->0<fF W x d) (hx:MkN n W R y x 1) (hE:0<E) (hb:MkN n W R y b E) (hne:∃i,i<W/\b i≠E*x i):E*sA W x<sA W b:=by
 have hs:Sol n W R λi=>b i-E*x i:=λa ha=>by
  have h1:=hb a ha
  have h2:=hx a ha
  have e1:sm W (λi=>R a i*(b i-E*x i))=1*sm W (λi=>R a i*b i)+(-E)*sm W (λi=>R a i*x i):=by
   rw[<- q9p]; grind
  grind
 have hp:=hgrow _ hs (by grind)
 have hle:E*sA W x+fF W x (λi=>b i-E*x i)<=sA W b:=by
  unfold sA fF
  rw[<- qk8,<- q8p]
  have key:∀i,E*qd6 (x i)+fT (x i) (b i-E*x i)<=qd6 (b i):=λi=>by
   have h:=yq8 (x:=x i) (d:=b i-E*x i) hE
   grind
  have hnn:=wz5 (n:=W) (f:=λi=>qd6 (b i)-(E*qd6 (x i)+fT (x i) (b i-E*x i))) λi _=>by grind
  have e2:sm W (λi=>qd6 (b i)-(E*qd6 (x i)+fT (x i) (b i-E*x i)))=1*sm W (λi=>qd6 (b i))+(-1)*sm W (λi=>E*qd6 (x i)+fT (x i) (b i-E*x i)):=by
   rw[<- q9p]; grind
  grind
 omega
theorem x1k {n W:Nat} {R:Nat->Nat->Int} {x:Nat->Int} (hgrow:∀d:Nat->Int,Sol n W R d->(∃i,i<W/\d i≠0)->0<fF W x d):x6g n W R x:=λe he hsup i hi=>zaf λq=>by
 have h1:=hgrow e he ⟨i,hi,q⟩
 have h2:=hgrow (λi=>-(e i)) (λa ha=>by
  have h2:=he a ha
  have e1:sm W (λi=>R a i * -(e i))=(-1)*sm W (λi=>R a i*e i):=by
   rw[<- qk8]; grind
  grind) ⟨i,hi,λw=>q ow⟩
 have e3:fF W x (λi=>-(e i))=(-1)*fF W x e:=by
  unfold fF
  rw[<- qk8]
  refine qe1 λj hj=>?_
  by_cases h0:x j=0
  ·have:e j=0:=zaf λr=>hsup j hj r h0
   show fT (x j) (-(e j))=(-1)*fT (x j) (e j)
   rw[this]; unfold fT; rw[zao h0,zao h0]; rfl
  ·show fT (x j) (-(e j))=(-1)*fT (x j) (e j)
   unfold fT
   omega
 omega
theorem w2n {n W:Nat} {R:Nat->Nat->Int} {y x h:Nat->Int} (hx:MkN n W R y x 1) (hh:Sol n W R h) (hne:∃i,i<W/\h i≠0) (hf:fF W x h<=0) :
  ∃(b:Nat->Int) (E:Int),0<E/\MkN n W R y b E/\x6g n W R b/\(∃i,i<W/\b i≠E*x i)/\sA W b<=E*sA W x:=by
 have hex:∃i,i<W/\0<x i * -(h i):=by
  refine zaf λq=>?_
  have hnn:∀i,i<W->0<=fT (x i) (h i):=λi hi=>by
   have h1:¬0<x i * -(h i):=λw=>q ⟨i,hi,w⟩
   rw[Int.mul_neg] at h1
   unfold fT
   split
   ·exact qs7 _
   ·split
    ·exact zbd.1 λw=>by simp_all [Int.mul_neg_of_pos_of_neg]
    ·have hx0:x i<0:=ow
     have:h i<=0:=zbd.1 λw=>by simp_all [Int.mul_neg_of_neg_of_pos]
     omega
  obtain⟨i,hi,hhi⟩:=hne
  have hlt:0<fT (x i) (h i):=by
   grind [fT,xn9]
  have:=xn2 hnn hi hlt
  grind [fF]
 obtain⟨k,hk,hpk,hcons,hkz,hp1,hp2⟩:∃k,k<W/\0<x k * -(h k)/\w8b W (λi=>qd6 (-(h k))*x i-qd6 (x k) * -(h i)) x/\qd6 (-(h k))*x k-qd6 (x k) * -(h k)=0/\0<qd6 (-(h k))/\0<qd6 (x k):=xp1 hex
 obtain⟨z,hz⟩:∃z:Nat->Int,z=λi=>qd6 (-(h k))*x i-qd6 (x k) * -(h i):=⟨_,rfl⟩
 have hmk:MkN n W R y z (qd6 (-(h k))):=λa ha=>by
  have h1:=hx a ha
  have h2:=hh a ha
  have e1:sm W (λi=>R a i*z i)=qd6 (-(h k))*sm W (λi=>R a i*x i)+qd6 (x k)*sm W (λi=>R a i*h i):=by
   rw[<- q9p]
   grind
  grind
 have hnz:sA W z=qd6 (-(h k))*sA W x+qd6 (x k)*fF W x h:=by
  unfold sA fF
  rw[<- q9p]
  refine qe1 λi hi=>?_
  have hc:0<=(qd6 (-(h k))*x i-qd6 (x k) * -(h i))*x i:=hcons i hi
  rw[hz]
  show qd6 (qd6 (-(h k))*x i-qd6 (x k) * -(h i))=qd6 (-(h k))*qd6 (x i)+qd6 (x k)*fT (x i) (h i)
  unfold fT
  split
  ·rename_i h0
   have e:qd6 (-(h k))*x i-qd6 (x k) * -(h i)=qd6 (x k)*h i:=by grind
   rw[e,q4v _ ow,h0]
   simp[qd6]
  ·rename_i h0
   split
   ·rename_i hpos
    have h1:0<=qd6 (-(h k))*x i-qd6 (x k) * -(h i):=zbd.1 λw=>by have:=zbt w hpos; omega
    grind [qd6]
   ·have hneg:x i<0:=ow
    have h1:qd6 (-(h k))*x i-qd6 (x k) * -(h i)<=0:=zbd.1 λw=>by have:=zbk w hneg; omega
    grind [qd6]
 have hzle:sA W z<=qd6 (-(h k))*sA W x:=by
  have:=zbs (show 0<=qd6 (x k) by omega) (show 0<=-fF W x h by omega)
  grind
 obtain⟨b,E,b1,b2,b3,b4,b5⟩:=yd3 _ z _ (zab _) hp1 hmk
 refine⟨b,E,b1,b2,b4,⟨k,hk,λw=>?_⟩,?_⟩
 ·have hxk:x k≠0:=λq=>by grind
  grind [Int.mul_ne_zero]
 ·refine zbx (a:=qd6 (-(h k))) ?_ hp1
  have k1:=zai hzle (show 0<=E by omega)
  grind
def Ind (m:List (List Int)) (l:List Int):Prop:=∀z:Nat->Int,(∀i,i<m.length->(sm l.length λc=>nI (nL m i) (nI l c).toNat*z c)=0)->∀c,c<l.length->z c=0
theorem xp3 {l:List Int} {x:Int}:x∈l↔∃q,q<l.length/\nI l q=x:=by
 refine⟨λh=>?_,λ⟨q,hq,e⟩=>by grind [qf1,List.getElem_mem]⟩
 obtain⟨q,hq,e⟩:=zby.1 h
 exact⟨q,hq,by grind [qf1]⟩
structure GrdOk (m:List (List Int)) (y S:List Int):Prop where
 chk:q4j m y S=0
 nam:Named (nL m 0).length S
 pivs:(qz0 m S y).2.length=S.length
 id:∀k,k<S.length->nI (qz0 m S y).2 k=k
 no:q8f (qz0 m S y).1 (qz0 m S y).2 S.length=false
 sol:q6i m S y=((List.range S.length).map (wo5 (qz0 m S y).1 (qz0 m S y).2 S.length),0)
 ok:x8q m S y
theorem xp4 {m:List (List Int)} {y S:List Int} (h:q4j m y []=0) (hS:Named (nL m 0).length S):q4j m y S=0:=by
 have hA:=Asked.of h
 have ha:w6r S=true:=q6x.2 λi h0 hi=>hS.asc (i-1) i ow hi
 have hb:(S.any λp=>!(inB p 0 ((nL m 0).length-1)))=false:=by
  rw[zbr]
  intro x hx
  obtain⟨q,hq,e⟩:=xp3.1 hx
  have:=hS.at_ q hq
  grind [inB,nL,inB_iff]
 grind [q4j,x2f,wo3]
theorem GrdOk.of {m:List (List Int)} {y S:List Int} (h0:q4j m y []=0) (hN:Named (nL m 0).length S) (hI:Ind m S) (hz:∃z:Nat->Int,(∀a,a<m.length->(sm S.length λc=>nI (nL m a) (nI S c).toNat*z c)+nI y a*z S.length=0)/\z S.length≠0):GrdOk m y S/\∀z:Nat->Int,(∀a,a<m.length->(sm S.length λc=>nI (nL m a) (nI S c).toNat*z c)+nI y a*z S.length=0)->∀k,k<S.length->0<nI (nL (qz0 m S y).1 k) k/\nI (nL (qz0 m S y).1 k) k*z k+nI (nL (qz0 m S y).1 k) S.length*z S.length=0:=by
 have hc:=xp4 h0 hN
 have hA:=Asked.of hc
 have hSm:=qw0 hA
 have hst:=qt2 hSm.toMat S.length ow
 have hat:∀a,a<m.length->∀c,c<S.length->rowOf (qa8 m S y) a c=nI (nL m a) (nI S c).toNat:=λa ha c hc=>by
  grind [rowOf,qv1,qk5,qk9,qi0,qq6]
 have hlast:∀a,a<m.length->rowOf (qa8 m S y) a S.length=nI y a:=λa ha=>by
  unfold rowOf
  grind [qv1,qk5,qm0,nL,qi0,qn9]
 have hsl:∀z:Nat->Int,(∀a,a<m.length->(sm S.length λc=>nI (nL m a) (nI S c).toNat*z c)+nI y a*z S.length=0)->Sol m.length (S.length+1) (rowOf (qa8 m S y)) z:=λz h a ha=>by
  grind [sm,qe1]
 have hAs:Asc S.length (qb7 (qa8 m S y) S.length).2:=⟨λq hq=>⟨(hst.pos q hq).1,(hst.pos q hq).2.1⟩,hst.asc⟩
 have hP:(qb7 (qa8 m S y) S.length).2.length=S.length:=by
  rcases zap (qb7 (qa8 m S y) S.length).2.length S.length with q | q
  ·exfalso
   obtain⟨f,hf,hnp⟩:=Asc.free q
   obtain⟨z,z1,z2,z3⟩:=hst.free ow (f:=f) ow hnp λi h1 h2=>hst.zero i h1 h2 f hf
   have zN:z S.length=0:=z3 _ ow ow λq hq=>by have:=(hst.pos q hq).2.1; omega
   refine z2 (hI z (λi hi=>?_) f hf)
   have:=z1 i hi
   simp_all [sm,Int.mul_zero,Int.add_zero,qe1]
  ·have:=hAs.le; omega
 obtain⟨z,z1,z2⟩:=hz
 have hno:q8f (qb7 (qa8 m S y) S.length).1 (qb7 (qa8 m S y) S.length).2 S.length=false:=by
  unfold q8f
  rw[zbr]
  intro k hk
  have hk:k<m.length:=by have:=za2.1 hk; have:=hst.len; omega
  intro hb
  simp only[Bool.and_eq_true,decide_eq_true_eq,bne_iff_ne] at hb
  have:=(hst.sol z).1 (hsl z z1) k hk
  unfold dt at this
  rw[sm,qm5 λc hc=>by rw[hst.zero k hb.1 hk c hc,zb6],Int.zero_add] at this
  grind [Int.mul_eq_zero]
 have hsol:q6i m S y=((List.range S.length).map (wo5 (qz0 m S y).1 (qz0 m S y).2 S.length),0):=by
  rw[q6i,zao hc,xe1]
  show(if q8f (qb7 (qa8 m S y) S.length).1 (qb7 (qa8 m S y) S.length).2 S.length=true then _ else _)=_
  rw[zak (by grind)]
  show(if(qb7 (qa8 m S y) S.length).2.length<S.length then _ else _)=_
  rw[zak ow]
  show((List.range (qb7 (qa8 m S y) S.length).2.length).map _,_)=_
  rw[hP]
 have h10:=hA.msk.pix10
 have hpl:=hA.nam.len
 refine⟨⟨hc,hN,hP,λk hk=>hAs.id hP hk,hno,hsol,(x92 (y:=y) (m:=m) (pix:=S) ow).ok hc⟩,λz hz k hk=>?_⟩
 have hp:=hst.pos k ow
 rw[hAs.id hP hk,zaq] at hp
 refine⟨hp.2.2.1,?_⟩
 have hpl2:=hst.pl
 have h1:=(hst.sol z).1 (hsl z hz) k ow
 unfold dt at h1
 rw[q58 (k:=k) (l:=S.length) ow ow ow λc hc h1 h2=>by
  try dsimp only
  have hp2:=(hst.pos c ow).2.2.2.2 k ow ow
  rw[hAs.id hP ow,zaq] at hp2
  grind] at h1
 exact h1
theorem q9s {m:List (List Int)} {y:List Int}:∀K,∀f∈qz1 m y K,∃pix,(qj4 m y pix).2=true/\f=(qj4 m y pix).1
 | 0,f,h=>by cases h
 | K+1,f,h=>by
  rcases zal.1 h with h | h
  ·exact q9s K f h
  grind [qr2,Option.some.inj]
theorem wh0 {m:List (List Int)} {y pix:List Int} (h:(qj4 m y pix).2=true):∀K,pix.length<K->(qj4 m y pix).1∈qz1 m y K
 | 0,hk=>absurd hk (zav _)
 | K+1,hk=>by
  rw[qz1]
  by_cases e:pix.length=K
  ·refine zal.2 (.inr ?_)
   unfold qr2
   rw[zc4]
   have:=wx6 (Asked.of (qw1 h).chk).nam
   grind
  ·exact zal.2 (.inl (wh0 h K ow))
theorem xp5 {m:List (List Int)} {y pix:List Int} {k:Int} (h:(qj4 m y pix).2=true):pix.length<q1v m k↔(pix.length:Int)<=k:=by
 have hI:=qw1 h
 have hA:=Asked.of hI.chk
 have h1:=hI.rows
 have h2:=hA.nam.len
 grind [q1v]
theorem xp6 {n:Nat} {A B:List Int} (hA:Named n A) (hB:Named n B) (h:∀c:Nat,c<n->((∃q,q<A.length/\nI A q=(c:Int))↔∃q,q<B.length/\nI B q=(c:Int))):A=B:=by
 have pw:∀{l:List Int},Named n l->l.Pairwise λx y=>x<y:=λ{l} hl=>by
  rw[zcx]
  intro i j hi hj hij
  have:=hl.asc i j hij hj
  grind [qf1]
 refine List.Perm.eq_of_pairwise (le:=λx y:Int=>x<=y) (λa b _ _ h1 h2=>by omega) ((pw hA).imp λq=>ze8 q) ((pw hB).imp λq=>ze8 q) ?_
 rw[zcw ((pw hA).imp λq=>Int.ne_of_lt q) ((pw hB).imp λq=>Int.ne_of_lt q)]
 intro a
 rw[xp3,xp3]
 constructor
 ·rintro⟨q,hq,e⟩
  have h1:=hA.at_ q hq
  have e2:((nI A q).toNat:Int)=a:=ow
  have:=(h (nI A q).toNat ow).1 ⟨q,hq,ow⟩
  grind
 ·rintro⟨q,hq,e⟩
  have h1:=hB.at_ q hq
  have e2:((nI B q).toNat:Int)=a:=ow
  have:=(h (nI B q).toNat ow).2 ⟨q,hq,ow⟩
  grind
theorem x6i {b x:Int} (hb:0<b):ofR (b*x) b=(x,1):=by
 rw[q83 hb]
 refine(xj0 hb (by decide:(0:Int)<1) (show b*x*1=x*b by grind)).trans ?_
 simp_all [q4n,gcdI,Int.gcd_one_right,Int.tdiv_one]
theorem w8c:((List.range 8).all λn=>decide ((List.range (n+1)).flatMap λ(k:Nat)=>qg4 (n:Nat) (k:Nat)).Nodup)=true:=by decide +kernel
theorem q9t (m:List (List Int)) (y:List Int):∀s:List (List Int),(qr2 m y s).map (·.1)=s.filter λpix=>(qj4 m y pix).2
 | []=>rfl
 | p :: s=>by
  have ih:=q9t m y s
  unfold qr2 at ih ⊢
  rw[zdv,List.filter_cons]
  by_cases h:(qj4 m y p).2=true
  ·rw[zao h,zao h,List.map_cons,ih,(qw1 h).fst]
  grind
theorem w8d {m:List (List Int)} (y:List Int) (k:Int) (h7:(nL m 0).length<=7):((q1w m y k).map (·.1)).Nodup:=by
 unfold q1w
 rw[q84,q9t]
 refine List.Pairwise.filter _ ?_
 have hk:q1v m k<=(nL m 0).length+1:=by grind [q1v]
 have h1:((List.range ((nL m 0).length+1)).flatMap λ(k:Nat)=>qg4 (nL m 0).length (k:Nat)).Nodup:=zbn (zar.1 w8c _ (za2.2 ow))
 grind [nL,q1v,Nat.add_sub_cancel',List.range_add,List.nodup_append]
theorem x6j (n:Int) {d:Int} (hd:0<d):0<(q4n n d).2/\(q4n n d).2<=d/\(q4n n d).1.natAbs<=n.natAbs/\∃u:Int,d=(q4n n d).2*u/\n=(q4n n d).1*u:=by
 have hg:=ql9 (a:=n) (b:=d) (.inr ow)
 obtain⟨x,hx⟩:=w1z n d
 obtain⟨z,hz⟩:=w11 n d
 unfold q4n
 have a1:=q0w n (gcdI n d)
 have a2:=q0w d (gcdI n d)
 generalize gcdI n d=g at hg hx hz a1 a2 ⊢
 have e1:n.tdiv g=x:=by grind [Int.mul_tdiv_cancel_left]
 have e2:d.tdiv g=z:=by grind [Int.mul_tdiv_cancel_left]
 dsimp only
 rw[e1] at a1 ⊢
 rw[e2] at a2 ⊢
 have hz0:0<z:=q4q hg ow
 grind [Int.mul_comm]
theorem w5i {m:List (List Int)} {b:Nat->Int} (hI:x6g m.length (nL m 0).length (rowOf m) b):Ind m (qr5 (nL m 0).length b):=by
 obtain⟨n1,n2⟩:=qh7 b (nL m 0).length
 generalize qr5 (nL m 0).length b=S at *
 intro z hz c hc
 obtain⟨d,hd⟩:∃d:Nat->Int,∀col,d col=sm S.length λq=>if(nI S q).toNat=col then z q else 0:=⟨_,λ_=>rfl⟩
 have hdz:∀q,q<S.length->d (nI S q).toNat=z q:=λq hq=>by
  rw[hd,qr0 hq λi hi hne=>zak λe=>hne (n1.inj hi hq e),zao rfl]
 have hsol:Sol m.length (nL m 0).length (rowOf m) d:=λa ha=>by
  have e:=q9b (A:=rowOf m a) (σ:=λq=>(nI S q).toNat) (w:=z) (K:=S.length) (N:=(nL m 0).length) λq hq=>by have:=n1.at_ q hq; omega
  have e2:(sm (nL m 0).length λc=>rowOf m a c*d c)=sm (nL m 0).length λcol=>rowOf m a col*sm S.length λq=>if(nI S q).toNat=col then z q else 0:=qe1 λcol _=>by rw[hd]
  rw[e2,e]
  exact hz a ha
 have:=hI d hsol (λi hi hne hb=>hne (by
  rw[hd]
  refine qm5 λq hq=>zak λe=>n2 q hq (by grind))) (nI S c).toNat (by have:=n1.at_ c hc; omega)
 grind
theorem xp7 {m:List (List Int)} {y:List Int} {b:Nat->Int} {E:Int} (h0:q4j m y []=0) (hE:0<E) (hb:MkN m.length (nL m 0).length (rowOf m) (nI y) b E) (hI:x6g m.length (nL m 0).length (rowOf m) b) :
  (qj4 m y (qr5 (nL m 0).length b)).2=true/\∀k,k<(qr5 (nL m 0).length b).length->0<(nR (qj4 m y (qr5 (nL m 0).length b)).1.2 k).2/\(nR (qj4 m y (qr5 (nL m 0).length b)).1.2 k).1*E=b (nI (qr5 (nL m 0).length b) k).toNat*(nR (qj4 m y (qr5 (nL m 0).length b)).1.2 k).2:=by
 obtain⟨n1,n2⟩:=qh7 b (nL m 0).length
 have n4:=qt3 b (nL m 0).length
 have hInd:=w5i hI
 generalize qr5 (nL m 0).length b=S at *
 obtain⟨z,hz⟩:∃z:Nat->Int,∀c,z c=if c<S.length then b (nI S c).toNat else -E:=⟨_,λ_=>rfl⟩
 have hzN:z S.length=-E:=by grind
 have hs:∀a,a<m.length->(sm S.length λc=>nI (nL m a) (nI S c).toNat*z c)+nI y a*z S.length=0:=λa ha=>by
  have h1:=hb a ha
  have e0:(sm (nL m 0).length λc=>rowOf m a c*b c)=sm S.length λq=>rowOf m a (nI S q).toNat*b (nI S q).toNat:=by
   refine qx4 S.length (n:=(nL m 0).length) (f:=λc=>rowOf m a c*b c) (τ:=λq=>(nI S q).toNat) (λq hq=>by have:=n1.at_ q hq; omega) (λq k hq hk e=>n1.inj hq hk e) λc hc hq=>?_
   grind
  have e:(sm S.length λc=>nI (nL m a) (nI S c).toNat*z c)=sm S.length λq=>rowOf m a (nI S q).toNat*b (nI S q).toNat:=qe1 λq hq=>by rw[hz,zao hq]; rfl
  grind
 obtain⟨g,g2⟩:=GrdOk.of h0 n1 hInd ⟨z,hs,ow⟩
 have hv:∀k,k<S.length->0<(wo5 (qz0 m S y).1 (qz0 m S y).2 S.length k).2/\(wo5 (qz0 m S y).1 (qz0 m S y).2 S.length k).1*E=b (nI S k).toNat*(wo5 (qz0 m S y).1 (qz0 m S y).2 S.length k).2:=λk hk=>by
  obtain⟨p1,p2⟩:=g2 z hs k hk
  rw[hzN,hz,zao hk] at p2
  unfold wo5
  rw[g.id k hk,zaq,q83 p1]
  obtain⟨q1,q2,q3,u,q4,q5⟩:=x6j (nI (nL (qz0 m S y).1 k) S.length) p1
  refine⟨q1,?_⟩
  generalize q4n (nI (nL (qz0 m S y).1 k) S.length) (nI (nL (qz0 m S y).1 k) k)=v at *
  generalize nI (nL (qz0 m S y).1 k) k=d at *
  generalize nI (nL (qz0 m S y).1 k) S.length=t at *
  have hu:u≠0:=λe=>by grind
  rw[q4,q5] at p2
  have e:(v.1*E-b (nI S k).toNat*v.2)*u=0:=by grind
  grind [Int.mul_eq_zero,absurd]
 have hsolE:∀k,k<S.length->nR ((List.range S.length).map (wo5 (qz0 m S y).1 (qz0 m S y).2 S.length)) k=wo5 (qz0 m S y).1 (qz0 m S y).2 S.length k:=λk hk=>by
  grind [q6l]
 have hfit:qj4 m y S=((S,(List.range S.length).map (wo5 (qz0 m S y).1 (qz0 m S y).2 S.length)),true):=by
  unfold qj4
  rw[g.sol,zak]
  rintro(q | q)
  ·omega
  ·obtain⟨r,hr,hz⟩:=zbm.1 q
   obtain⟨j,hj,rfl⟩:=zba.1 hr
   have hj:=za2.1 hj
   obtain⟨p1,p2⟩:=hv j hj
   have hz:(wo5 (qz0 m S y).1 (qz0 m S y).2 S.length j).1=0:=by grind
   rw[hz,zb6] at p2
   grind [absurd,Int.mul_ne_zero]
 grind
end Go.Proofs.YtnchigbbjajiiaaGreat
