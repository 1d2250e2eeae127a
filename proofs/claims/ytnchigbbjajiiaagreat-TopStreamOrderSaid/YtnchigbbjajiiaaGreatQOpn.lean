/- Lengths of a slice of slices. No condition. -/
import Derived.Test.YtnchigbbjajiiaaGreatZ18
import Derived.Test.YtnchigbbjajiiaaGreatN1
import Derived.Test.YtnchigbbjajiiaaGreatTys
import Derived.Test.YtnchigbbjajiiaaGreatEng3
import Derived.Test.YtnchigbbjajiiaaGreatV0
import Derived.Test.YtnchigbbjajiiaaGreatCore
import Derived.Test.YtnchigbbjajiiaaGreatProg
import Derived.Test.YtnchigbbjajiiaaGreatV12
import Derived.Test.YtnchigbbjajiiaaGreatApp
import Derived.Test.YtnchigbbjajiiaaGreatQLay
import Derived.Test.YtnchigbbjajiiaaGreatEng2
import Derived.Shelf.Strings.Builder1
import Derived.Maps.AppendAt
import Derived.Shelf.Lay
import Derived.Ground.NamesProg
import Derived.Test.YtnchigbbjajiiaaGreatRows
import Derived.ProofKit
import Derived.OpenShut
import Derived.ShutString
import Derived.ChangeOld
import Derived.Below
import Derived.Deep.Matrix
set_option linter.unusedSimpArgs false
set_option linter.unusedVariables false
namespace Go.Proofs.YtnchigbbjajiiaaGreat
open Go Go.RowKit Eng
theorem w6m (x:List Int):∀k,ya5 x k=(qo7 k (nI x),(qo7 k (nI x)).map λj=>(nI x j.toNat,1))
 | 0=>rfl
 | k+1=>by
  rw[ya5,qo7,w6m x k]
  grind
theorem w3h {n:Nat} {A B:List Int} (hA:Named n A) (hB:Named n B) (h:∀c:Nat,c<n->((∃q,q<A.length/\nI A q=(c:Int))↔∃q,q<B.length/\nI B q=(c:Int))):A=B:=by
 have pw:∀{l:List Int},Named n l->l.Pairwise λx y=>x<y:=λ{l} hl=>by
  rw[zc3]
  intro i j hi hj hij
  have:=hl.asc i j hij hj
  grind [qf3]
 refine List.Perm.eq_of_pairwise (le:=λx y:Int=>x<=y) (λa b _ _ h1 h2=>by omega) ((pw hA).imp λq=>ze8 q) ((pw hB).imp λq=>ze8 q) ?_
 rw[zcg ((pw hA).imp λq=>Int.ne_of_lt q) ((pw hB).imp λq=>Int.ne_of_lt q)]
 intro a
 rw[w9m,w9m]
 constructor
 ·rintro⟨q,hq,e⟩
  have h1:=hA.at_ q hq
  have e2:((nI A q).toNat:Int)=a:=ow
  have:=(h (nI A q).toNat ow).1 ⟨q,hq,ow⟩
  grind
 ·rintro⟨q,hq,e⟩
  have h1:=hB.at_ q hq
  have e2:((nI B q).toNat:Int)=a:=ow
  have:=(h (nI B q).toNat ow).2 ⟨q,hq,ow⟩
  grind
theorem w6n {m:List (List Int)} (hl:q06 m=true) (hv:qb6 m=true) {d:Nat->Int} (hs:Sol m.length (nL m 0).length (rowOf m) d) (hne:∃c,c<(nL m 0).length/\d c≠0):2*(w8v m).1+1<=qs3 (nL m 0).length d:=by
 obtain⟨s,s1,s2,s3,s4⟩:=wb0 (Mk.of hv) _ _ (zac _) hs hne
 rcases w9j hl hv with⟨c1,t,t1,t2⟩ | ⟨_,_,c3⟩
 ·have h10:=t2 s s1 s2 s3
  have hn:=t1.nz
  have hp:=t1.pos
  have e:(w8v m).1=((q3g m).1-1).tdiv 2:=by
   grind [q3g,w8v]
  have e2:(q3g m).1=(qs3 (nL m 0).length (nI (q9k m).1):Int):=by
   unfold q3g
   rw[q5c,t1.len]
  grind
 grind
structure PicX (m:List (List Int)) (x:List Int):Prop where
 sh:Shw m x
 chk:qq8 m (qc8 m x) []=0
 ker:∀d:Nat->Int,Sol m.length (nL m 0).length (rowOf m) d->(∃c,c<(nL m 0).length/\d c≠0)->qs3 (nL m 0).length (nI x)<qs3 (nL m 0).length d
def qn8 (m:List (List Int)) (x:List Int):List Int:=qo7 (nL m 0).length (nI x)
theorem PicX.named {m:List (List Int)} {x:List Int} (h:PicX m x):Named (nL m 0).length (qn8 m x)/\(∀q,q<(qn8 m x).length->nI x (nI (qn8 m x) q).toNat≠0)/\(qn8 m x).length=qs3 (nL m 0).length (nI x)/\∀c,c<(nL m 0).length->nI x c≠0->∃q,q<(qn8 m x).length/\nI (qn8 m x) q=(c:Int):=
 ⟨(qf5 _ _).1,(qf5 _ _).2,q0x _ _,λc hc hx=>qo2 _ _ c hc hx⟩
theorem PicX.row {m:List (List Int)} {x:List Int} (h:PicX m x) {a:Nat} (ha:a<m.length):nI (qc8 m x) a=sm (nL m 0).length λc=>nI (nL m a) c*nI x c:=by
 rw[qf3 _ _ (by grind [qc8])]
 simp only[qc8,List.getElem_map,List.getElem_range]
 rw[xs4,h.sh.msk.each a ha]
theorem PicX.sum {m:List (List Int)} {x:List Int} (h:PicX m x) (f:Nat->Int) (g:Nat->Int) (hg:∀c,c<(nL m 0).length->nI x c=0->g c=0):(sm (nL m 0).length λc=>f c*g c)=sm (qn8 m x).length λq=>f (nI (qn8 m x) q).toNat*g (nI (qn8 m x) q).toNat:=by
 obtain⟨n1,n2,n3,n4⟩:=h.named
 refine qs9 (qn8 m x).length (n:=(nL m 0).length) (f:=λc=>f c*g c) (τ:=λq=>(nI (qn8 m x) q).toNat) (λq hq=>by have:=n1.at_ q hq; omega) (λq k hq hk e=>n1.inj hq hk e) λb hb hq=>?_
 grind
theorem PicX.ind {m:List (List Int)} {x:List Int} (h:PicX m x):Ind m (qn8 m x):=by
 obtain⟨n1,n2,n3,n4⟩:=h.named
 intro z hz c hc
 refine zae λhne=>?_
 obtain⟨d,hd⟩:∃d:Nat->Int,∀col,d col=sm (qn8 m x).length λq=>if(nI (qn8 m x) q).toNat=col then z q else 0:=⟨_,λ_=>rfl⟩
 have hdz:∀q,q<(qn8 m x).length->d (nI (qn8 m x) q).toNat=z q:=λq hq=>by
  rw[hd,qm8 hq λi hi hne=>zaj λe=>hne (n1.inj hi hq e),zam rfl]
 have h1:=h.ker d (λa ha=>?_) ⟨(nI (qn8 m x) c).toNat,by have:=n1.at_ c hc; omega,by grind⟩
 ·have h2:qs3 (nL m 0).length d<=qs3 (nL m 0).length (nI x):=cnt_le _ λb hb hdb=>λhx=>hdb (by
   rw[hd]
   refine qj9 λq hq=>zaj λe=>n2 q hq (by grind))
  omega
 ·have e:=q3h (A:=rowOf m a) (σ:=λq=>(nI (qn8 m x) q).toNat) (w:=z) (K:=(qn8 m x).length) (N:=(nL m 0).length) λq hq=>by have:=n1.at_ q hq; omega
  have e2:(sm (nL m 0).length λc=>rowOf m a c*d c)=sm (nL m 0).length λcol=>rowOf m a col*sm (qn8 m x).length λq=>if(nI (qn8 m x) q).toNat=col then z q else 0:=qd3 λcol _=>by rw[hd]
  rw[e2,e]
  exact hz a ha
theorem w3i {b x:Int} (hb:0<b):ofR (b*x) b=(x,1):=by
 rw[q90 hb]
 refine(xo8 hb (by decide:(0:Int)<1) (show b*x*1=x*b by grind)).trans ?_
 simp_all [q51,gcdI,Int.gcd_one_right,Int.tdiv_one]
theorem PicX.grd {m:List (List Int)} {x:List Int} (h:PicX m x):GrdOk m (qc8 m x) (qn8 m x)/\∀k,k<(qn8 m x).length->ofR (nI (nL (qr2 m (qn8 m x) (qc8 m x)).1 k) (qn8 m x).length) (nI (nL (qr2 m (qn8 m x) (qc8 m x)).1 k) k)=(nI x (nI (qn8 m x) k).toNat,1):=by
 obtain⟨n1,n2,n3,n4⟩:=h.named
 obtain⟨z,hz⟩:∃z:Nat->Int,∀c,z c=if c<(qn8 m x).length then nI x (nI (qn8 m x) c).toNat else -1:=⟨_,λ_=>rfl⟩
 have hzN:z (qn8 m x).length=-1:=by grind
 have hs:∀a,a<m.length->(sm (qn8 m x).length λc=>nI (nL m a) (nI (qn8 m x) c).toNat*z c)+nI (qc8 m x) a*z (qn8 m x).length=0:=λa ha=>by
  rw[hzN,h.row ha,h.sum (λc=>nI (nL m a) c) (nI x) λc _ e=>e]
  have e:(sm (qn8 m x).length λc=>nI (nL m a) (nI (qn8 m x) c).toNat*z c)=sm (qn8 m x).length λq=>nI (nL m a) (nI (qn8 m x) q).toNat*nI x (nI (qn8 m x) q).toNat:=qd3 λq hq=>by grind
  omega
 obtain⟨g1,g2⟩:=GrdOk.of h.chk n1 h.ind ⟨z,hs,ow⟩
 refine⟨g1,λk hk=>?_⟩
 obtain⟨p1,p2⟩:=g2 z hs k hk
 rw[hzN,hz,zam hk] at p2
 have e:nI (nL (qr2 m (qn8 m x) (qc8 m x)).1 k) (qn8 m x).length=nI (nL (qr2 m (qn8 m x) (qc8 m x)).1 k) k*nI x (nI (qn8 m x) k).toNat:=ow
 grind [w3i]
theorem PicX.shF {m:List (List Int)} {x:List Int} (h:PicX m x):shF x=(qn8 m x,(qn8 m x).map λj=>(nI x j.toNat,1)):=by
 unfold Go.Proofs.YtnchigbbjajiiaaGreat.shF
 rw[w6m,h.sh.len]
 rfl
theorem PicX.fit {m:List (List Int)} {x:List Int} (h:PicX m x):qg5 m (qc8 m x) (qn8 m x)=(Go.Proofs.YtnchigbbjajiiaaGreat.shF x,true):=by
 obtain⟨n1,n2,n3,n4⟩:=h.named
 obtain⟨g,hv⟩:=h.grd
 have e:(List.range (qn8 m x).length).map (q7g (qr2 m (qn8 m x) (qc8 m x)).1 (qr2 m (qn8 m x) (qc8 m x)).2 (qn8 m x).length)=(qn8 m x).map λj=>(nI x j.toNat,1):=by
  refine zbl (by simp) λi h1 h2=>?_
  have hi:i<(qn8 m x).length:=by grind
  rw[zc5,zd6,zc5]
  unfold q7g
  rw[g.id i hi,zat,hv i hi,qf3 _ _ hi]
 unfold qg5
 rw[g.sol,e,h.shF,zaj]
 rintro(q | q)
 ·omega
 ·obtain⟨r,hr,hz⟩:=zb1.1 q
  obtain⟨j,hj,rfl⟩:=zbf.1 hr
  grind [w9m]
theorem PicX.uniq {m:List (List Int)} {x:List Int} (h:PicX m x) {pix:List Int} (h2:∀d:Nat->Int,Sol m.length (nL m 0).length (rowOf m) d->(∃c,c<(nL m 0).length/\d c≠0)->qs3 (nL m 0).length (nI x)+pix.length<qs3 (nL m 0).length d) (hf:(qg5 m (qc8 m x) pix).2=true):pix=qn8 m x:=by
 obtain⟨n1,n2,n3,n4⟩:=h.named
 have hF:=qn7 hf
 have hP:=(Asked.of hF.chk).nam
 obtain⟨L,u,hL,hu,hr⟩:=w6l hf
 have hnz:∀j,j<pix.length->(nR (qg5 m (qc8 m x) pix).1.2 j).1*u j≠0:=λj hj=>by
  have h1:=(wq6 hf (nR (qg5 m (qc8 m x) pix).1.2 j) (by rw[q2b _ _ (by rw[hF.len]; omega)]; simp)).2
  intro q
  rcases zev.1 q with q | q
  all_goals grind
 obtain⟨w,hw⟩:∃w:Nat->Int,∀j,w j=(nR (qg5 m (qc8 m x) pix).1.2 j).1*u j:=⟨_,λ_=>rfl⟩
 obtain⟨e,he⟩:∃e:Nat->Int,∀col,e col=sm pix.length λq=>if(nI pix q).toNat=col then w q else 0:=⟨_,λ_=>rfl⟩
 have hej:∀j,j<pix.length->e (nI pix j).toNat=w j:=λj hj=>by
  rw[he,qm8 hj λi hi hne=>zaj λe=>hne (hP.inj hi hj e),zam rfl]
 have he0:∀c,(∀j,j<pix.length->(nI pix j).toNat≠c)->e c=0:=λc hc=>by
  simp_all [qj9,if_neg]
 have hsol:Sol m.length (nL m 0).length (rowOf m) λc=>L*nI x c-e c:=λa ha=>by
  have e1:(sm (nL m 0).length λc=>rowOf m a c*(L*nI x c-e c))=(sm (nL m 0).length λc=>L*(nI (nL m a) c*nI x c))-sm (nL m 0).length λc=>rowOf m a c*e c:=by
   rw[<- xn6]
   grind [qd3,rowOf]
  have e2:=q3h (A:=rowOf m a) (σ:=λq=>(nI pix q).toNat) (w:=w) (K:=pix.length) (N:=(nL m 0).length) λq hq=>by have:=hP.at_ q hq; omega
  have e3:(sm (nL m 0).length λc=>rowOf m a c*e c)=sm (nL m 0).length λcol=>rowOf m a col*sm pix.length λq=>if(nI pix q).toNat=col then w q else 0:=qd3 λcol _=>by rw[he]
  have e4:(sm pix.length λq=>rowOf m a (nI pix q).toNat*w q)=nI (qc8 m x) a*L:=by
   rw[<- hr a ha]
   exact qd3 λq _=>by rw[hw]; rfl
  rw[e1,qj6,e3,e2,e4,h.row ha]
  grind
 have hz:∀c,c<(nL m 0).length->L*nI x c-e c=0:=λc hc=>zae λhne=>by
  have h1:=h2 _ hsol ⟨c,hc,hne⟩
  have h3:qs3 (nL m 0).length (λc=>L*nI x c-e c)<=qs3 (nL m 0).length (nI x)+qs3 (nL m 0).length e:=xs3 _ λb hb q=>by
   grind
  have h4:qs3 (nL m 0).length e=pix.length:=x5p hP (λj hj=>by grind) λb hb hq=>he0 b λj hj q=>hq j hj (by have:=hP.at_ j hj; omega)
  omega
 refine w3h hP n1 λc hc=>⟨λ⟨q,hq,eq⟩=>?_,λ⟨q,hq,eq⟩=>?_⟩
 ·grind
 ·refine zae λhno=>?_
  have h1:=hz c hc
  have h3:=he0 c λj hj e=>hno ⟨j,hj,by have:=hP.at_ j hj; omega⟩
  have h4:=n2 q hq
  simp_all [Int.toNat_natCast,Int.sub_zero,Int.mul_eq_zero]
theorem w9n:((List.range 8).all λn=>decide ((List.range (n+1)).flatMap λ(k:Nat)=>qe9 (n:Nat) (k:Nat)).Nodup)=true:=by decide +kernel
theorem wb4 (m:List (List Int)) (y:List Int):∀s:List (List Int),(qg2 m y s).map (·.1)=s.filter λpix=>(qg5 m y pix).2
 | []=>rfl
 | p :: s=>by
  have ih:=wb4 m y s
  unfold qg2 at ih ⊢
  rw[zdx,List.filter_cons]
  by_cases h:(qg5 m y p).2=true
  ·rw[zam h,zam h,List.map_cons,ih,(qn7 h).fst]
  grind
theorem wj7 {m:List (List Int)} (y:List Int) (k:Int) (h7:(nL m 0).length<=7):((qe0 m y k).map (·.1)).Nodup:=by
 unfold qe0
 rw[q91,wb4]
 refine List.Pairwise.filter _ ?_
 have hk:fitsN m k<=(nL m 0).length+1:=by grind [fitsN]
 have h1:((List.range ((nL m 0).length+1)).flatMap λ(k:Nat)=>qe9 (nL m 0).length (k:Nat)).Nodup:=zbi (zaq.1 w9n _ (za2.2 ow))
 grind [nL,fitsN,Nat.add_sub_cancel',List.range_add,List.nodup_append]
theorem x9a (n:Int) {d:Int} (hd:0<d):0<(q51 n d).2/\(q51 n d).2<=d/\(q51 n d).1.natAbs<=n.natAbs/\∃u:Int,d=(q51 n d).2*u/\n=(q51 n d).1*u:=by
 have hg:=qo1 (a:=n) (b:=d) (.inr ow)
 obtain⟨x,hx⟩:=w29 n d
 obtain⟨z,hz⟩:=w3a n d
 unfold q51
 have a1:=q20 n (gcdI n d)
 have a2:=q20 d (gcdI n d)
 generalize gcdI n d=g at hg hx hz a1 a2 ⊢
 have e1:n.tdiv g=x:=by grind [Int.mul_tdiv_cancel_left]
 have e2:d.tdiv g=z:=by grind [Int.mul_tdiv_cancel_left]
 dsimp only
 rw[e1] at a1 ⊢
 rw[e2] at a2 ⊢
 have hz0:0<z:=q49 hg ow
 grind [Int.mul_comm]
theorem w6o {m:List (List Int)} {b:Nat->Int} (hI:x8y m.length (nL m 0).length (rowOf m) b):Ind m (qo7 (nL m 0).length b):=by
 obtain⟨n1,n2⟩:=qf5 b (nL m 0).length
 generalize qo7 (nL m 0).length b=S at *
 intro z hz c hc
 obtain⟨d,hd⟩:∃d:Nat->Int,∀col,d col=sm S.length λq=>if(nI S q).toNat=col then z q else 0:=⟨_,λ_=>rfl⟩
 have hdz:∀q,q<S.length->d (nI S q).toNat=z q:=λq hq=>by
  rw[hd,qm8 hq λi hi hne=>zaj λe=>hne (n1.inj hi hq e),zam rfl]
 have hsol:Sol m.length (nL m 0).length (rowOf m) d:=λa ha=>by
  have e:=q3h (A:=rowOf m a) (σ:=λq=>(nI S q).toNat) (w:=z) (K:=S.length) (N:=(nL m 0).length) λq hq=>by have:=n1.at_ q hq; omega
  have e2:(sm (nL m 0).length λc=>rowOf m a c*d c)=sm (nL m 0).length λcol=>rowOf m a col*sm S.length λq=>if(nI S q).toNat=col then z q else 0:=qd3 λcol _=>by rw[hd]
  rw[e2,e]
  exact hz a ha
 have:=hI d hsol (λi hi hne hb=>hne (by
  rw[hd]
  refine qj9 λq hq=>zaj λe=>n2 q hq (by grind))) (nI S c).toNat (by have:=n1.at_ c hc; omega)
 grind
theorem xt6 {m:List (List Int)} {y:List Int} {b:Nat->Int} {E:Int} (h0:qq8 m y []=0) (hE:0<E) (hb:MkN m.length (nL m 0).length (rowOf m) (nI y) b E) (hI:x8y m.length (nL m 0).length (rowOf m) b) :
  (qg5 m y (qo7 (nL m 0).length b)).2=true/\∀k,k<(qo7 (nL m 0).length b).length->0<(nR (qg5 m y (qo7 (nL m 0).length b)).1.2 k).2/\(nR (qg5 m y (qo7 (nL m 0).length b)).1.2 k).1*E=b (nI (qo7 (nL m 0).length b) k).toNat*(nR (qg5 m y (qo7 (nL m 0).length b)).1.2 k).2:=by
 obtain⟨n1,n2⟩:=qf5 b (nL m 0).length
 have n4:=qo2 b (nL m 0).length
 have hInd:=w6o hI
 generalize qo7 (nL m 0).length b=S at *
 obtain⟨z,hz⟩:∃z:Nat->Int,∀c,z c=if c<S.length then b (nI S c).toNat else -E:=⟨_,λ_=>rfl⟩
 have hzN:z S.length=-E:=by grind
 have hs:∀a,a<m.length->(sm S.length λc=>nI (nL m a) (nI S c).toNat*z c)+nI y a*z S.length=0:=λa ha=>by
  have h1:=hb a ha
  have e0:(sm (nL m 0).length λc=>rowOf m a c*b c)=sm S.length λq=>rowOf m a (nI S q).toNat*b (nI S q).toNat:=by
   refine qs9 S.length (n:=(nL m 0).length) (f:=λc=>rowOf m a c*b c) (τ:=λq=>(nI S q).toNat) (λq hq=>by have:=n1.at_ q hq; omega) (λq k hq hk e=>n1.inj hq hk e) λc hc hq=>?_
   grind
  have e:(sm S.length λc=>nI (nL m a) (nI S c).toNat*z c)=sm S.length λq=>rowOf m a (nI S q).toNat*b (nI S q).toNat:=qd3 λq hq=>by rw[hz,zam hq]; rfl
  grind
 obtain⟨g,g2⟩:=GrdOk.of h0 n1 hInd ⟨z,hs,ow⟩
 have hv:∀k,k<S.length->0<(q7g (qr2 m S y).1 (qr2 m S y).2 S.length k).2/\(q7g (qr2 m S y).1 (qr2 m S y).2 S.length k).1*E=b (nI S k).toNat*(q7g (qr2 m S y).1 (qr2 m S y).2 S.length k).2:=λk hk=>by
  obtain⟨p1,p2⟩:=g2 z hs k hk
  rw[hzN,hz,zam hk] at p2
  unfold q7g
  rw[g.id k hk,zat,q90 p1]
  obtain⟨q1,q2,q3,u,q4,q5⟩:=x9a (nI (nL (qr2 m S y).1 k) S.length) p1
  refine⟨q1,?_⟩
  generalize q51 (nI (nL (qr2 m S y).1 k) S.length) (nI (nL (qr2 m S y).1 k) k)=v at *
  generalize nI (nL (qr2 m S y).1 k) k=d at *
  generalize nI (nL (qr2 m S y).1 k) S.length=t at *
  have hu:u≠0:=λe=>by grind
  rw[q4,q5] at p2
  have e:(v.1*E-b (nI S k).toNat*v.2)*u=0:=by grind
  grind [Int.mul_eq_zero,absurd]
 have hsolE:∀k,k<S.length->nR ((List.range S.length).map (q7g (qr2 m S y).1 (qr2 m S y).2 S.length)) k=q7g (qr2 m S y).1 (qr2 m S y).2 S.length k:=λk hk=>by
  grind [q2b]
 have hfit:qg5 m y S=((S,(List.range S.length).map (q7g (qr2 m S y).1 (qr2 m S y).2 S.length)),true):=by
  unfold qg5
  rw[g.sol,zaj]
  rintro(q | q)
  ·omega
  ·obtain⟨r,hr,hz⟩:=zb1.1 q
   obtain⟨j,hj,rfl⟩:=zbf.1 hr
   have hj:=za2.1 hj
   obtain⟨p1,p2⟩:=hv j hj
   have hz:(q7g (qr2 m S y).1 (qr2 m S y).2 S.length j).1=0:=by grind
   rw[hz,zb9] at p2
   grind [absurd,Int.mul_ne_zero]
 grind
theorem w6p {m:List (List Int)} {x:List Int} (hM:Mk m) {a:Nat} (ha:a<m.length):nI (qc8 m x) a=sm (nL m 0).length λc=>nI (nL m a) c*nI x c:=by
 rw[qf3 _ _ (by grind [qc8])]
 simp only[qc8,List.getElem_map,List.getElem_range]
 rw[xs4,hM.each a ha]
theorem wr5 {m:List (List Int)} {x:List Int} (hM:Mk m):MkN m.length (nL m 0).length (rowOf m) (nI (qc8 m x)) (nI x) 1:=λa ha=>by
 rw[w6p hM ha,ze0]; rfl
def q5i (m:List (List Int)) (x:List Int):Fit:=(qo7 (nL m 0).length (nI x),(qo7 (nL m 0).length (nI x)).map λj=>(nI x j.toNat,1))
theorem x9c {m:List (List Int)} {x:List Int} (hM:Mk m) (h0:qq8 m (qc8 m x) []=0) (hI:x8y m.length (nL m 0).length (rowOf m) (nI x)):qg5 m (qc8 m x) (qo7 (nL m 0).length (nI x))=(q5i m x,true):=by
 obtain⟨n1,n2⟩:=qf5 (nI x) (nL m 0).length
 have n4:=qo2 (nI x) (nL m 0).length
 have hInd:=w6o hI
 have hmk:=wr5 (x:=x) hM
 unfold q5i
 generalize hS:qo7 (nL m 0).length (nI x)=S at *
 obtain⟨z,hz⟩:∃z:Nat->Int,∀c,z c=if c<S.length then nI x (nI S c).toNat else -1:=⟨_,λ_=>rfl⟩
 have hzN:z S.length=-1:=by grind
 have hs:∀a,a<m.length->(sm S.length λc=>nI (nL m a) (nI S c).toNat*z c)+nI (qc8 m x) a*z S.length=0:=λa ha=>by
  have h1:=hmk a ha
  have e0:(sm (nL m 0).length λc=>rowOf m a c*nI x c)=sm S.length λq=>rowOf m a (nI S q).toNat*nI x (nI S q).toNat:=by
   refine qs9 S.length (n:=(nL m 0).length) (f:=λc=>rowOf m a c*nI x c) (τ:=λq=>(nI S q).toNat) (λq hq=>by have:=n1.at_ q hq; omega) (λq k hq hk e=>n1.inj hq hk e) λc hc hq=>?_
   grind
  have e:(sm S.length λc=>nI (nL m a) (nI S c).toNat*z c)=sm S.length λq=>rowOf m a (nI S q).toNat*nI x (nI S q).toNat:=qd3 λq hq=>by rw[hz,zam hq]; rfl
  grind
 obtain⟨g,g2⟩:=GrdOk.of h0 n1 hInd ⟨z,hs,ow⟩
 have hv:∀k,k<S.length->ofR (nI (nL (qr2 m S (qc8 m x)).1 k) S.length) (nI (nL (qr2 m S (qc8 m x)).1 k) k)=(nI x (nI S k).toNat,1):=λk hk=>by
  obtain⟨p1,p2⟩:=g2 z hs k hk
  rw[hzN,hz,zam hk] at p2
  have e:nI (nL (qr2 m S (qc8 m x)).1 k) S.length=nI (nL (qr2 m S (qc8 m x)).1 k) k*nI x (nI S k).toNat:=ow
  grind [w3i]
 have e:(List.range S.length).map (q7g (qr2 m S (qc8 m x)).1 (qr2 m S (qc8 m x)).2 S.length)=S.map λj=>(nI x j.toNat,1):=by
  refine zbl (by simp) λi h1 h2=>?_
  have hi:i<S.length:=by grind
  rw[zc5,zd6,zc5]
  unfold q7g
  rw[g.id i hi,zat,hv i hi,qf3 _ _ hi]
 unfold qg5
 rw[g.sol,e,zaj]
 rintro(q | q)
 ·omega
 ·obtain⟨r,hr,hz⟩:=zb1.1 q
  obtain⟨j,hj,rfl⟩:=zbf.1 hr
  grind [w9m]
theorem wb5 {m:List (List Int)} {y pix:List Int} (h:(qg5 m y pix).2=true):∃(b:Nat->Int) (E:Int),0<E/\MkN m.length (nL m 0).length (rowOf m) (nI y) b E /\
  (∀j,j<pix.length->0<(nR (qg5 m y pix).1.2 j).2/\(nR (qg5 m y pix).1.2 j).1*E=b (nI pix j).toNat*(nR (qg5 m y pix).1.2 j).2) /\
  ∀c,c<(nL m 0).length->(∀j,j<pix.length->nI pix j≠(c:Int))->b c=0:=by
 have hI:=qn7 h
 have hN:=(Asked.of hI.chk).nam
 obtain⟨L,u,hL,hu,hr⟩:=w6l h
 generalize(qg5 m y pix).1.2=V at *
 obtain⟨s,hs,hsL⟩:∃s:Int,(s=1\/s=-1)/\0<s*L:=by
  rcases Int.lt_or_lt_of_ne hL with q | q
  all_goals simp_all
 obtain⟨b,hb⟩:∃b:Nat->Int,∀c,b c=sm pix.length λj=>if(nI pix j).toNat=c then s*((nR V j).1*u j) else 0:=⟨_,λ_=>rfl⟩
 have hbj:∀j,j<pix.length->b (nI pix j).toNat=s*((nR V j).1*u j):=λj hj=>by
  rw[hb,qm8 hj λi hi hne=>zaj λe=>hne (hN.inj hi hj e),zam rfl]
 refine⟨b,s*L,hsL,λa ha=>?_,λj hj=>⟨(hu j hj).1,?_⟩,λc hc hno=>?_⟩
 ·have e:=q3h (A:=rowOf m a) (σ:=λq=>(nI pix q).toNat) (w:=λj=>s*((nR V j).1*u j)) (K:=pix.length) (N:=(nL m 0).length) λq hq=>by have:=hN.at_ q hq; omega
  have e2:(sm (nL m 0).length λc=>rowOf m a c*b c)=sm (nL m 0).length λcol=>rowOf m a col*sm pix.length λq=>if(nI pix q).toNat=col then s*((nR V q).1*u q) else 0:=qd3 λcol _=>by rw[hb]
  rw[e2,e]
  have h1:=hr a ha
  have e3:(sm pix.length λk=>rowOf m a (nI pix k).toNat*(s*((nR V k).1*u k)))=s*sm pix.length λj=>nI (nL m a) (nI pix j).toNat*((nR V j).1*u j):=by
   rw[<- qj6]
   exact qd3 λq _=>by show nI (nL m a) (nI pix q).toNat*_=_; grind
  grind
 ·grind
 ·rw[hb]
  refine qj9 λj hj=>zaj λe=>hno j hj ?_
  have:=(hN.at_ j hj).1
  omega
def nmD (V:List (Int × Int)):Nat->Int
 | 0=>1
 | k+1=>nmD V k*(nR V k).2
def nmN (V:List (Int × Int)):Nat->Int
 | 0=>0
 | k+1=>nmN V k*(nR V k).2+qd7 (nR V k).1*nmD V k
theorem w9o {V:List (Int × Int)} {β:Nat->Int} {E:Int} (hE:0<E):∀k,(∀j,j<k->0<(nR V j).2/\(nR V j).1*E=β j*(nR V j).2)->0<nmD V k/\nmN V k*E=(sm k λj=>qd7 (β j))*nmD V k
 | 0,_=>⟨(show(0:Int)<1 by decide),by simp[nmN,sm]⟩
 | k+1,h=>by
  obtain⟨h1,h2⟩:=w9o hE k λj hj=>h j ow
  obtain⟨h3,h4⟩:=h k ow
  have e1:qd7 (nR V k).1*E=qd7 (β k)*(nR V k).2:=by
   have a1:=q5g (nR V k).1 (show 0<=E by omega)
   grind [q5g,nR,Int.mul_comm]
  have es:(sm (k+1) λj=>qd7 (β j))=(sm k λj=>qd7 (β j))+qd7 (β k):=rfl
  refine⟨zca h1 h3,?_⟩
  grind [nmN,nmD,nR,qd7]
theorem w3j {n:Nat} {pix:List Int} {b:Nat->Int} (hN:Named n pix) (h0:∀c,c<n->(∀j,j<pix.length->nI pix j≠(c:Int))->b c=0):(sm pix.length λj=>qd7 (b (nI pix j).toNat))=sA n b:=by
 symm
 unfold sA
 refine qs9 pix.length (n:=n) (f:=λc=>qd7 (b c)) (τ:=λq=>(nI pix q).toNat) (λq hq=>by have:=hN.at_ q hq; omega) (λq k hq hk e=>hN.inj hq hk e) λc hc hq=>?_
 try dsimp only
 rw[h0 c hc λj hj e=>hq j hj ow]
 rfl
theorem w3k {n:Nat} {x:Nat->Int}:∀c,c<n->(∀j,j<(qo7 n x).length->nI (qo7 n x) j≠(c:Int))->x c=0:=λc hc hno=>zae λhx=>by
 obtain⟨q,h1,h2⟩:=qo2 x n c hc hx
 grind
theorem xt7 {m:List (List Int)} {x:List Int} (hM:Mk m) (hgrow:∀d:Nat->Int,Sol m.length (nL m 0).length (rowOf m) d->(∃i,i<(nL m 0).length/\d i≠0)->0<fF (nL m 0).length (nI x) d) {pix:List Int} (hf:(qg5 m (qc8 m x) pix).2=true) (hne:pix≠qo7 (nL m 0).length (nI x)) :
  sA (nL m 0).length (nI x)*nmD (qg5 m (qc8 m x) pix).1.2 pix.length<nmN (qg5 m (qc8 m x) pix).1.2 pix.length:=by
 obtain⟨b,E,hE,hb,hv,h0⟩:=wb5 hf
 have hI:=qn7 hf
 have hN:=(Asked.of hI.chk).nam
 have hnz:∀j,j<pix.length->b (nI pix j).toNat≠0:=λj hj hz=>by
  obtain⟨k1,k2⟩:=hv j hj
  rw[hz,zb9] at k2
  have k3:(nR (qg5 m (qc8 m x) pix).1.2 j).1=0:=by
   grind [Int.mul_eq_zero]
  unfold qg5 at hf k3
  split at hf
  ·grind
  ·rename_i hno
   rw[zaj hno] at k3
   refine hno (.inr (zb1.2 ⟨nR (qy0 m pix (qc8 m x)).1 j,?_,by grind⟩))
   have hlen:(qy0 m pix (qc8 m x)).1.length=pix.length:=by have:=hI.len; simp_all [qg5,if_neg]
   grind [q2b,List.getElem_mem]
 have hdiff:∃i,i<(nL m 0).length/\b i≠E*nI x i:=by
  refine zae λq=>hne ?_
  have hall:∀i,i<(nL m 0).length->b i=E*nI x i:=λi hi=>zae λw=>q ⟨i,hi,w⟩
  refine w3h hN (qf5 (nI x) (nL m 0).length).1 λc hc=>⟨λ⟨j,hj,e⟩=>?_,λ⟨j,hj,e⟩=>?_⟩
  ·refine qo2 (nI x) _ c hc λhz=>hnz j hj ?_
   grind
  ·refine zae λw=>?_
   grind [qf5,nI,nL,Int.toNat_natCast,Int.mul_ne_zero]
 have hless:=xt3 hgrow (wr5 hM) hE hb hdiff
 obtain⟨d1,d2⟩:=w9o (V:=(qg5 m (qc8 m x) pix).1.2) (β:=λj=>b (nI pix j).toNat) hE pix.length hv
 rw[w3j hN h0] at d2
 have k1:=zdy hless d1
 rw[<- d2] at k1
 refine zd0 (a:=E) ?_ ow
 grind
theorem w1e {m:List (List Int)} {x:List Int} (hM:Mk m) (h0:qq8 m (qc8 m x) []=0) {h:Nat->Int} (hh:Sol m.length (nL m 0).length (rowOf m) h) (hne:∃i,i<(nL m 0).length/\h i≠0) (hf:fF (nL m 0).length (nI x) h<=0) :
  ∃pix,(qg5 m (qc8 m x) pix).2=true/\nmN (qg5 m (qc8 m x) pix).1.2 pix.length<=sA (nL m 0).length (nI x)*nmD (qg5 m (qc8 m x) pix).1.2 pix.length /\
   ¬(pix=qo7 (nL m 0).length (nI x)/\∀j,j<pix.length->nR (qg5 m (qc8 m x) pix).1.2 j=(nI x (nI pix j).toNat,1)):=by
 obtain⟨b,E,hE,hb,hI,hdiff,hle⟩:=w3f (wr5 hM) hh hne hf
 obtain⟨f1,f2⟩:=xt6 h0 hE hb hI
 obtain⟨d1,d2⟩:=w9o (V:=(qg5 m (qc8 m x) (qo7 (nL m 0).length b)).1.2) (β:=λj=>b (nI (qo7 (nL m 0).length b) j).toNat) hE (qo7 (nL m 0).length b).length f2
 rw[w3j (qf5 b _).1 w3k] at d2
 refine⟨qo7 (nL m 0).length b,f1,?_,λ⟨e1,e2⟩=>?_⟩
 ·have k1:=zai hle (show 0<=nmD (qg5 m (qc8 m x) (qo7 (nL m 0).length b)).1.2 (qo7 (nL m 0).length b).length by omega)
  rw[<- d2] at k1
  refine zc0 (a:=E) ?_ hE
  grind
 ·obtain⟨i,hi,hn⟩:=hdiff
  refine hn ?_
  by_cases hbi:b i=0
  ·have hx:nI x i=0:=w3k i hi λj hj e=>by
    grind
   grind
  ·obtain⟨j,hj,e⟩:=qo2 b _ i hi hbi
   grind
structure TmP (w:Int × Int) (n:Int):Prop where
 h0:0<=w.1
 h1:w.1<=100000000
 l0:0<=w.2
 l1:w.2<18446744073709551616
 n0:0<=n
 n1:n<=10000000000
abbrev y54:qa8:=qd9 true none [q3d,qc0] [q3d] (λx=>TmP x.1 x.2.1) (λx=>(spl (val x.1*x.2.1),()))
theorem w1f:Meets Tryz.prog 171 y54:=by
 refine mt0 (SpecsOk.cons wj1 (SpecsOk.cons wj2 (SpecsOk.nil _))) Tryz.func171 ?_
 rintro⟨w,n,⟨⟩⟩ h
 revert w n
 intro(w:Int × Int) (n:Int) (h:TmP w n)
 refine vcs (let Q0:=Int.natAbs n; (decide (w.1<(0:Int))=true->False)/\(decide (w.1<(0:Int))=false->qe5 BIG n/\(((0:Ty.den tU64)<=w.2/\w.2<(18446744073709551616:Ty.den tU64))/\(0:Ty.den tU64)<=(↑Q0:Int)/\(↑Q0:Int)<(18446744073709551616:Ty.den tU64))/\qe5 BIG n/\fits .i64 (↑Q0:Int)/\fits .i64 (w.1*(↑Q0:Int))/\fits .i64 (spl (w.2*(↑Q0:Int))).1/\fits .i64 (w.1*(↑Q0:Int)+(spl (w.2*(↑Q0:Int))).1)/\(decide (n<(0:Int))=true->False)/\(decide (n<(0:Int))=false->w.1*(↑Q0:Int)+(spl (w.2*(↑Q0:Int))).1=(spl (val w*n)).1/\(spl (w.2*(↑Q0:Int))).2=(spl (val w*n)).2/\True))) ?_
 obtain⟨h0,h1,l0,l1,n0,n1⟩:=h
 have hB:BIG=4000000000000000000:=rfl
 have en:((n.natAbs:Nat):Int)=n:=ow
 have hn:qe5 BIG n:=ow
 have b1:0<=w.1*n/\w.1*n<=1000000000000000000:=⟨za3 h0 n0,zcu (zby h1 n1 n0 dc) dc⟩
 have b2:0<=w.2*n/\w.2*n<=184467440737095516160000000000:=⟨za3 l0 n0,zcu (zby (show w.2<=18446744073709551616 by omega) n1 n0 dc) dc⟩
 have ev:val w*n=w.1*n*18446744073709551616+w.2*n:=by grind [val]
 grind [spl,hiU,loU,absurd,qa7]
abbrev y55:qa8:=qd9 true none [q3d] [qc0] (λ_=>True) (λx=>(qx8 x.1 (0,0),()))
theorem xt8:Meets Tryz.prog 168 y55:=by
 refine mt0 (SpecsOk.cons q21 (SpecsOk.nil _)) Tryz.func168 ?_
 rintro⟨⟨a,b⟩,⟨⟩⟩ -
 revert a b
 intro(a:Int) (b:Int)
 refine vcr (True/\qx8 (a,b) ((0:Int),(0:Int))=qx8 (a,b) ((0:Int),(0:Int))) ?_
 simp
abbrev x9d:Ty:=.prod (.prod (.int .i64) (.int .u64)) (.prod (.int .i64) (.int .u64))
abbrev y56:qa8:=qd9 true none [] [x9d] (λ_=>True) (λ_=>(((0,0),(0,1)),()))
theorem xt9:Meets Tryz.prog 166 y56:=by
 refine mt0 (SpecsOk.nil _) Tryz.func166 ?_
 rintro⟨⟩ -
 refine vcr ((0:Int)=(0:Int)/\(0:Int)=(0:Int)/\(0:Int)=(0:Int)/\(1:Int)=(1:Int)/\True) ?_
 simp
theorem q65 {x:Int} (h0:0<=x) (h1:x<=42535295865117307932921825928971026432):Wd (spl x):=by
 unfold spl hiU loU
 exact⟨ow,ow,ow⟩
structure SmP (s:(Int × Int) × (Int × Int)) (r:Int × Int) (t:Int):Prop where
 n:0<=s.1.1/\s.1.1<=1000000/\0<=s.1.2/\s.1.2<18446744073709551616
 d:s.2.1=0/\0<=s.2.2/\s.2.2<18446744073709551616
 r:0<=r.1/\r.1<=10000000000/\0<=r.2/\r.2<=400
 t:t=1
def sumW (s:(Int × Int) × (Int × Int)) (r:Int × Int):(Int × Int) × (Int × Int):=(spl (val s.1*r.2+val s.2*r.1),spl (val s.2*r.2))
abbrev y57:qa8:=qd9 true none [x9d,qx2,qc0] [x9d] (λx=>SmP x.1 x.2.1 x.2.2.1) (λx=>(sumW x.1 x.2.1,()))
set_option maxHeartbeats 8000000 in
theorem xu0:Meets Tryz.prog 167 y57:=by
 refine mt0 (SpecsOk.cons w1f (SpecsOk.cons w0q (SpecsOk.nil _))) Tryz.func167 ?_
 rintro⟨⟨⟨a,b⟩,⟨c,d⟩⟩,⟨n,q⟩,t,⟨⟩⟩ h
 revert a b c d n q t
 intro(a:Int) (b:Int) (c:Int) (d:Int) (n:Int) (q:Int) (t:Int) (h:SmP ((a,b),(c,d)) (n,q) t)
 refine vcs (let Q0:=(spl (val (spl (val (a,b)*q))+val (spl (val (c,d)*(n*t))))); let Q1:=(sumW ((a,b),c,d) (n,q)); TmP (a,b) q/\fits .i64 (n*t)/\TmP (c,d) (n*t)/\(Wd (spl (val (a,b)*q))/\Wd (spl (val (c,d)*(n*t))))/\TmP (c,d) q/\Q0.1=Q1.1.1/\Q0.2=Q1.1.2/\(spl (val (c,d)*q)).1=Q1.2.1/\(spl (val (c,d)*q)).2=Q1.2.2/\True) ?_
 obtain⟨⟨a0,a1,b0,b1⟩,⟨c0,d0,d1⟩,⟨n0,n1,q0,q1⟩,rfl⟩:=h
 dsimp only at a0 a1 b0 b1 c0 d0 d1 n0 n1 q0 q1
 subst c0
 rw[ze1,q0v,q0v]
 have e1:0<=val (a,b)/\val (a,b)<=18446762520453625325551616:=by grind [val]
 have e2:0<=val (0,d)/\val (0,d)<=18446744073709551616:=by grind [val]
 exact⟨⟨a0,ow,b0,b1,q0,ow⟩,qa7,⟨zbs _,(show(0:Int)<=100000000 by decide),d0,d1,n0,n1⟩,⟨q65 (za3 e1.1 q0) (zcu (zby e1.2 q1 q0 dc) dc),q65 (za3 e2.1 n0) (zcu (zby e2.2 n1 n0 dc) dc)⟩,⟨zbs _,(show(0:Int)<=100000000 by decide),d0,d1,q0,ow⟩,rfl,rfl,rfl,rfl⟩
structure OvP (a b:Int × Int):Prop where
 wa:Wd a
 wb:Wd b
 a0:0<=val a/\val a<=1267650600228229401496703205376
 b0:0<val b/\val b<=1267650600228229401496703205376
theorem y3q {x:Int} (h0:0<=x) (h1:x<18446744073709551616):IntKind.u64.wrap ((BitVec.ofInt 64 x &&& BitVec.ofInt 64 1).toNat:Int)=x % 2:=by
 grind [BitVec.ofInt,BitVec.toNat_ofInt,BitVec.toNat_and,Nat.and_two_pow_sub_one_eq_mod,Go.IntWalk.u64_in]
theorem w3l (i:Nat):(0:Int)<2 ^ i:=Int.pow_pos dc
theorem yl2 {a:Int × Int} {i:Nat} (hi:i<64):a.2 / 2 ^ i % 2=val a / 2 ^ i % 2:=by
 obtain⟨j,hj⟩:∃j,64=i+(j+1):=⟨63-i,ow⟩
 have e:val a=a.2+2 ^ i*(a.1*2 ^ j*2):=by
  unfold val
  rw[show(18446744073709551616:Int)=2 ^ 64 from rfl,hj,Int.pow_add,Int.pow_succ]
  grind
 rw[e,Int.add_mul_ediv_left _ _ (by have:=w3l i; omega)]
 simp
theorem yl3 {a:Int × Int} (l0:0<=a.2) (l1:a.2<18446744073709551616) {i:Nat} (hi:64<=i):a.1 / 2 ^ (i-64)=val a / 2 ^ i:=by
 obtain⟨j,rfl⟩:∃j,i=64+j:=⟨i-64,ow⟩
 rw[show 64+j-64=j by omega,Int.pow_add,<- Int.ediv_ediv_of_nonneg dc]
 congr 1
 unfold val
 omega
theorem xu1 {x:Int} (h:0<=x) (i:Nat):0<=x / 2 ^ i/\x / 2 ^ i<=x:=by
 have:=w3l i
 exact⟨Int.ediv_nonneg h ow,Int.ediv_le_self _ h⟩
theorem x3h (x:Int) (i:Nat):x / 2 ^ i=2*(x / 2 ^ (i+1))+x / 2 ^ i % 2:=by
 grind [Int.pow_succ,Int.ediv_ediv_of_nonneg,w3l]
theorem xu2 (u v:Int):0<=qx8 (spl u) (spl v)↔v<=u:=by
 grind [qx8,spl,hiU,loU]
structure OvI (a b:Int × Int) (i:Int) (q r:Int):Prop where
 lo:-1<=i
 hi:i<=127
 eq:val a / 2 ^ (i+1).toNat=q*val b+r
 r0:0<=r
 r1:r<val b
 q0:0<=q
abbrev y58:qa8:=qd9 true none [q3d,q3d] [q3d,q3d] (λx=>OvP x.1 x.2.1) (λx=>(spl (val x.1 / val x.2.1),spl (val x.1 % val x.2.1),()))
def y1a (a b:Int × Int):Nat->Option Inv
 | 0=>some (Inv.of [6] 4 (λs:Int × Int × Int=>[(6,.lit (.int .i64 s.1))]) (λs=>[.box 149 (.cons (.lit (.int .i64 a.1)) (.cons (.lit (.int .u64 a.2)) .nil)),.box 149 (.cons (.lit (.int .i64 b.1)) (.cons (.lit (.int .u64 b.2)) .nil)),.box 149 (.cons (.lit (.int .i64 (spl s.2.1).1)) (.cons (.lit (.int .u64 (spl s.2.1).2)) .nil)),.box 149 (.cons (.lit (.int .i64 (spl s.2.2).1)) (.cons (.lit (.int .u64 (spl s.2.2).2)) .nil))]) (λs=>OvI a b s.1 s.2.1 s.2.2) (λs=>(s.1+1).toNat))
 | _=>none
set_option maxHeartbeats 4000000 in
theorem xu3:Meets Tryz.prog 170 y58:=by
 refine mts (SpecsOk.cons w0q (SpecsOk.cons w0r (SpecsOk.cons q21 (SpecsOk.nil _)))) Tryz.func170 (λx=>y1a x.1 x.2.1) ?_
 rintro⟨a,b,⟨⟩⟩ h
 revert a b
 intro(a:Int × Int) (b:Int × Int) (h:OvP a b)
 refine vcs (∃(v0:Unit),∃(v1:Int × Int × Int),OvI a b v1.1 v1.2.1 v1.2.2/\(((127:Int)=v1.1/\True)/\(a.1=a.1/\a.2=a.2/\True)/\(b.1=b.1/\b.2=b.2/\True)/\((0:Int)=(spl v1.2.1).1/\(0:Int)=(spl v1.2.1).2/\True)/\((0:Int)=(spl v1.2.2).1/\(0:Int)=(spl v1.2.2).2/\True)/\True)/\∀(v2:Int × Int × Int),OvI a b v2.1 v2.2.1 v2.2.2->(decide ((0:Int)<=v2.1)=true->fits IntKind.u64 a.1/\fits .i64 (v2.1-(64:Int))/\(0:Int)<=max2 true (v2.1-(64:Int)) (0:Int)/\(decide (v2.1<(64:Int))=true->(0:Int)<=v2.1/\(Wd (spl v2.2.2)/\Wd (spl v2.2.2))/\(Wd (spl (val (spl v2.2.2)+val (spl v2.2.2)))/\Wd ((0:Int),IntKind.wrap IntKind.u64 (↑(BitVec.toNat (BitVec.ofInt (64:Nat) (Int.fdiv a.2 ((2:Int) ^ Min.min v2.1.toNat (64:Nat))) &&& BitVec.ofInt (64:Nat) (1:Int))):Int)))/\(Wd (spl v2.2.1)/\Wd (spl v2.2.1))/\True/\(decide ((0:Int)<=qx8 (spl (val (spl (val (spl v2.2.2)+val (spl v2.2.2)))+val ((0:Int),IntKind.wrap IntKind.u64 (↑(BitVec.toNat (BitVec.ofInt (64:Nat) (Int.fdiv a.2 ((2:Int) ^ Min.min v2.1.toNat (64:Nat))) &&& BitVec.ofInt (64:Nat) (1:Int))):Int)))) b)=true->Wd b/\(Wd (spl (val (spl (val (spl v2.2.2)+val (spl v2.2.2)))+val ((0:Int),IntKind.wrap IntKind.u64 (↑(BitVec.toNat (BitVec.ofInt (64:Nat) (Int.fdiv a.2 ((2:Int) ^ Min.min v2.1.toNat (64:Nat))) &&& BitVec.ofInt (64:Nat) (1:Int))):Int))))/\Wd (spl (-val b)))/\(Wd (spl (val (spl v2.2.1)+val (spl v2.2.1)))/\Wd ((0:Int),(1:Int)))/\fits .i64 (v2.1-(1:Int))/\∃(v7:Int × Int × Int),OvI a b v7.1 v7.2.1 v7.2.2/\(v7.1+(1:Int)).toNat<(v2.1+(1:Int)).toNat/\(v2.1-(1:Int)=v7.1/\True)/\(a.1=a.1/\a.2=a.2/\True)/\(b.1=b.1/\b.2=b.2/\True)/\((spl (val (spl (val (spl v2.2.1)+val (spl v2.2.1)))+val ((0:Int),(1:Int)))).1=(spl v7.2.1).1/\(spl (val (spl (val (spl v2.2.1)+val (spl v2.2.1)))+val ((0:Int),(1:Int)))).2=(spl v7.2.1).2/\True)/\((spl (val (spl (val (spl (val (spl v2.2.2)+val (spl v2.2.2)))+val ((0:Int),IntKind.wrap IntKind.u64 (↑(BitVec.toNat (BitVec.ofInt (64:Nat) (Int.fdiv a.2 ((2:Int) ^ Min.min v2.1.toNat (64:Nat))) &&& BitVec.ofInt (64:Nat) (1:Int))):Int))))+val (spl (-val b)))).1=(spl v7.2.2).1/\(spl (val (spl (val (spl (val (spl v2.2.2)+val (spl v2.2.2)))+val ((0:Int),IntKind.wrap IntKind.u64 (↑(BitVec.toNat (BitVec.ofInt (64:Nat) (Int.fdiv a.2 ((2:Int) ^ Min.min v2.1.toNat (64:Nat))) &&& BitVec.ofInt (64:Nat) (1:Int))):Int))))+val (spl (-val b)))).2=(spl v7.2.2).2/\True)/\True)/\(decide ((0:Int)<=qx8 (spl (val (spl (val (spl v2.2.2)+val (spl v2.2.2)))+val ((0:Int),IntKind.wrap IntKind.u64 (↑(BitVec.toNat (BitVec.ofInt (64:Nat) (Int.fdiv a.2 ((2:Int) ^ Min.min v2.1.toNat (64:Nat))) &&& BitVec.ofInt (64:Nat) (1:Int))):Int)))) b)=false->fits .i64 (v2.1-(1:Int))/\∃(v7:Int × Int × Int),OvI a b v7.1 v7.2.1 v7.2.2/\(v7.1+(1:Int)).toNat<(v2.1+(1:Int)).toNat/\(v2.1-(1:Int)=v7.1/\True)/\(a.1=a.1/\a.2=a.2/\True)/\(b.1=b.1/\b.2=b.2/\True)/\((spl (val (spl v2.2.1)+val (spl v2.2.1))).1=(spl v7.2.1).1/\(spl (val (spl v2.2.1)+val (spl v2.2.1))).2=(spl v7.2.1).2/\True)/\((spl (val (spl (val (spl v2.2.2)+val (spl v2.2.2)))+val ((0:Int),IntKind.wrap IntKind.u64 (↑(BitVec.toNat (BitVec.ofInt (64:Nat) (Int.fdiv a.2 ((2:Int) ^ Min.min v2.1.toNat (64:Nat))) &&& BitVec.ofInt (64:Nat) (1:Int))):Int)))).1=(spl v7.2.2).1/\(spl (val (spl (val (spl v2.2.2)+val (spl v2.2.2)))+val ((0:Int),IntKind.wrap IntKind.u64 (↑(BitVec.toNat (BitVec.ofInt (64:Nat) (Int.fdiv a.2 ((2:Int) ^ Min.min v2.1.toNat (64:Nat))) &&& BitVec.ofInt (64:Nat) (1:Int))):Int)))).2=(spl v7.2.2).2/\True)/\True))/\(decide (v2.1<(64:Int))=false->(Wd (spl v2.2.2)/\Wd (spl v2.2.2))/\(Wd (spl (val (spl v2.2.2)+val (spl v2.2.2)))/\Wd ((0:Int),IntKind.wrap IntKind.u64 (↑(BitVec.toNat (BitVec.ofInt (64:Nat) (Int.fdiv a.1 ((2:Int) ^ Min.min (max2 true (v2.1-(64:Int)) (0:Int)).toNat (64:Nat))) &&& BitVec.ofInt (64:Nat) (1:Int))):Int)))/\(Wd (spl v2.2.1)/\Wd (spl v2.2.1))/\True/\(decide ((0:Int)<=qx8 (spl (val (spl (val (spl v2.2.2)+val (spl v2.2.2)))+val ((0:Int),IntKind.wrap IntKind.u64 (↑(BitVec.toNat (BitVec.ofInt (64:Nat) (Int.fdiv a.1 ((2:Int) ^ Min.min (max2 true (v2.1-(64:Int)) (0:Int)).toNat (64:Nat))) &&& BitVec.ofInt (64:Nat) (1:Int))):Int)))) b)=true->Wd b/\(Wd (spl (val (spl (val (spl v2.2.2)+val (spl v2.2.2)))+val ((0:Int),IntKind.wrap IntKind.u64 (↑(BitVec.toNat (BitVec.ofInt (64:Nat) (Int.fdiv a.1 ((2:Int) ^ Min.min (max2 true (v2.1-(64:Int)) (0:Int)).toNat (64:Nat))) &&& BitVec.ofInt (64:Nat) (1:Int))):Int))))/\Wd (spl (-val b)))/\(Wd (spl (val (spl v2.2.1)+val (spl v2.2.1)))/\Wd ((0:Int),(1:Int)))/\fits .i64 (v2.1-(1:Int))/\∃(v7:Int × Int × Int),OvI a b v7.1 v7.2.1 v7.2.2/\(v7.1+(1:Int)).toNat<(v2.1+(1:Int)).toNat/\(v2.1-(1:Int)=v7.1/\True)/\(a.1=a.1/\a.2=a.2/\True)/\(b.1=b.1/\b.2=b.2/\True)/\((spl (val (spl (val (spl v2.2.1)+val (spl v2.2.1)))+val ((0:Int),(1:Int)))).1=(spl v7.2.1).1/\(spl (val (spl (val (spl v2.2.1)+val (spl v2.2.1)))+val ((0:Int),(1:Int)))).2=(spl v7.2.1).2/\True)/\((spl (val (spl (val (spl (val (spl v2.2.2)+val (spl v2.2.2)))+val ((0:Int),IntKind.wrap IntKind.u64 (↑(BitVec.toNat (BitVec.ofInt (64:Nat) (Int.fdiv a.1 ((2:Int) ^ Min.min (max2 true (v2.1-(64:Int)) (0:Int)).toNat (64:Nat))) &&& BitVec.ofInt (64:Nat) (1:Int))):Int))))+val (spl (-val b)))).1=(spl v7.2.2).1/\(spl (val (spl (val (spl (val (spl v2.2.2)+val (spl v2.2.2)))+val ((0:Int),IntKind.wrap IntKind.u64 (↑(BitVec.toNat (BitVec.ofInt (64:Nat) (Int.fdiv a.1 ((2:Int) ^ Min.min (max2 true (v2.1-(64:Int)) (0:Int)).toNat (64:Nat))) &&& BitVec.ofInt (64:Nat) (1:Int))):Int))))+val (spl (-val b)))).2=(spl v7.2.2).2/\True)/\True)/\(decide ((0:Int)<=qx8 (spl (val (spl (val (spl v2.2.2)+val (spl v2.2.2)))+val ((0:Int),IntKind.wrap IntKind.u64 (↑(BitVec.toNat (BitVec.ofInt (64:Nat) (Int.fdiv a.1 ((2:Int) ^ Min.min (max2 true (v2.1-(64:Int)) (0:Int)).toNat (64:Nat))) &&& BitVec.ofInt (64:Nat) (1:Int))):Int)))) b)=false->fits .i64 (v2.1-(1:Int))/\∃(v7:Int × Int × Int),OvI a b v7.1 v7.2.1 v7.2.2/\(v7.1+(1:Int)).toNat<(v2.1+(1:Int)).toNat/\(v2.1-(1:Int)=v7.1/\True)/\(a.1=a.1/\a.2=a.2/\True)/\(b.1=b.1/\b.2=b.2/\True)/\((spl (val (spl v2.2.1)+val (spl v2.2.1))).1=(spl v7.2.1).1/\(spl (val (spl v2.2.1)+val (spl v2.2.1))).2=(spl v7.2.1).2/\True)/\((spl (val (spl (val (spl v2.2.2)+val (spl v2.2.2)))+val ((0:Int),IntKind.wrap IntKind.u64 (↑(BitVec.toNat (BitVec.ofInt (64:Nat) (Int.fdiv a.1 ((2:Int) ^ Min.min (max2 true (v2.1-(64:Int)) (0:Int)).toNat (64:Nat))) &&& BitVec.ofInt (64:Nat) (1:Int))):Int)))).1=(spl v7.2.2).1/\(spl (val (spl (val (spl v2.2.2)+val (spl v2.2.2)))+val ((0:Int),IntKind.wrap IntKind.u64 (↑(BitVec.toNat (BitVec.ofInt (64:Nat) (Int.fdiv a.1 ((2:Int) ^ Min.min (max2 true (v2.1-(64:Int)) (0:Int)).toNat (64:Nat))) &&& BitVec.ofInt (64:Nat) (1:Int))):Int)))).2=(spl v7.2.2).2/\True)/\True)))/\(decide ((0:Int)<=v2.1)=false->((spl v2.2.1).1=(spl (val a / val b)).1/\(spl v2.2.1).2=(spl (val a / val b)).2/\True)/\((spl v2.2.2).1=(spl (val a % val b)).1/\(spl v2.2.2).2=(spl (val a % val b)).2/\True)/\True)) ?_
 obtain⟨wa,wb,⟨a0,a9⟩,⟨b0,b9⟩⟩:=h
 have hb:b=spl (val b):=wb.spl.symm
 have ah:0<=a.1/\a.1<18446744073709551616:=by have:=wa.l0; have:=wa.l1; grind [val]
 have v0:∀t:Int,val (0,t)=t:=λt=>by grind [val]
 have z0:spl 0=(0,0):=rfl
 refine⟨(),(127,0,0),⟨dc,dc,?_,zbs _,b0,zbs _⟩,⟨rfl,⟨rfl,rfl⟩,rfl,rfl⟩,λ⟨i,q,r⟩ hI=>?_⟩
 ·grind
 obtain⟨i0,i1,he,r0,r1,q0⟩:=hI
 dsimp only at *
 have hd:=xu1 a0 (i+1).toNat
 have hq:q<=val a:=by
  have:=Int.mul_le_mul_of_nonneg_left (show 1<=val b by omega) q0
  omega
 have wq:∀t:Int,0<=t->t<=2*q+1->Wd (spl t):=λt h0 h1=>q65 h0 ow
 have wr:∀t:Int,0<=t->t<=2*r+1->Wd (spl t):=λt h0 h1=>q65 h0 ow
 refine⟨λhp=>?_,λhn=>?_⟩
 case refine_2=>
  obtain rfl:i=-1:=ow
  rw[show(-1+1:Int).toNat=0 from rfl,Int.pow_zero,Int.ediv_one] at he
  have e1:val a / val b=q:=by rw[he,Int.add_comm,Int.add_mul_ediv_right _ _ ow,Int.ediv_eq_zero_of_lt r0 r1,Int.zero_add]
  have e2:val a % val b=r:=by rw[he,Int.add_comm,Int.add_mul_emod_self_right,Int.emod_eq_of_lt r0 r1]
  grind
 obtain⟨n,rfl⟩:∃n:Nat,i=n:=⟨i.toNat,ow⟩
 rw[show((n:Int)+1).toNat=n+1 by omega] at he hd
 have hs:=x3h (val a) n
 rw[he] at hs
 have hlo:(n:Int)<64->IntKind.u64.wrap ((BitVec.ofInt 64 (a.2.fdiv (2 ^ min (n:Int).toNat 64)) &&& BitVec.ofInt 64 1).toNat:Int)=val a / 2 ^ n % 2:=λhl=>by
  have hd2:=xu1 wa.l0 n
  have:=wa.l1
  rw[zat,zew ow,zb4 _ (by grind),y3q hd2.1 ow]
  grind [yl2]
 have hhi:64<=(n:Int)->IntKind.u64.wrap ((BitVec.ofInt 64 (a.1.fdiv (2 ^ min (max2 true ((n:Int)-64) 0).toNat 64)) &&& BitVec.ofInt 64 1).toNat:Int)=val a / 2 ^ n % 2:=λhl=>by
  have e:(max2 true ((n:Int)-64) 0).toNat=n-64:=by show(max ((n:Int)-64) 0).toNat=_; omega
  have hd2:=xu1 ah.1 (n-64)
  rw[e,zew ow,zb4 _ (by grind),y3q hd2.1 ow,yl3 wa.l0 wa.l1 ow]
 have main:∀t:Int,t=val a / 2 ^ n % 2->(Wd (spl r)/\Wd (spl r))/\(Wd (spl (r+r))/\Wd (0,t))/\(Wd (spl q)/\Wd (spl q))/\(0<=qx8 (spl (r+r+t)) b->Wd b/\(Wd (spl (r+r+t))/\Wd (spl (-val b)))/\(Wd (spl (q+q))/\Wd (0,1))/\fits .i64 ((n:Int)-1) /\
   ∃v:Int × Int × Int,OvI a b v.1 v.2.1 v.2.2/\(v.1+1).toNat<((n:Int)+1).toNat/\(n:Int)-1=v.1/\((spl (q+q+1)).1=(spl v.2.1).1/\(spl (q+q+1)).2=(spl v.2.1).2)/\(spl (r+r+t+-val b)).1=(spl v.2.2).1/\(spl (r+r+t+-val b)).2=(spl v.2.2).2) /\
   (qx8 (spl (r+r+t)) b<0->fits .i64 ((n:Int)-1)/\∃v:Int × Int × Int,OvI a b v.1 v.2.1 v.2.2/\(v.1+1).toNat<((n:Int)+1).toNat/\(n:Int)-1=v.1/\((spl (q+q)).1=(spl v.2.1).1/\(spl (q+q)).2=(spl v.2.1).2)/\(spl (r+r+t)).1=(spl v.2.2).1/\(spl (r+r+t)).2=(spl v.2.2).2):=λt ht=>by
  have ht1:t=0\/t=1:=ow
  have hc:=xu2 (r+r+t) (val b)
  rw[<- hb] at hc
  have en:((n:Int)-1+1).toNat=n:=ow
  refine⟨⟨wr _ r0 ow,wr _ r0 ow⟩,⟨wr _ ow ow,⟨ow,ow,ow⟩⟩,⟨wq _ q0 ow,wq _ q0 ow⟩,λh1=>⟨wb,⟨wr _ ow ow,?_⟩,⟨wq _ ow ow,ow,dc,dc⟩,qa7,((n:Int)-1,q+q+1,r+r+t+-val b),⟨ow,ow,?_,?_,?_,by grind⟩,by simp,rfl,⟨rfl,rfl⟩,rfl,rfl⟩,λh1=>⟨qa7,((n:Int)-1,q+q,r+r+t),⟨ow,ow,?_,by grind,?_,by grind⟩,by simp,rfl,⟨rfl,rfl⟩,rfl,rfl⟩⟩
  ·unfold spl hiU loU
   exact⟨ow,ow,ow⟩
  all_goals grind
 simp only[q0v,v0]
 refine⟨w2z ah.1 ow,qa7,by show(0:Int)<=max ((n:Int)-64) 0; omega,λhl=>⟨ow,?_⟩,λhl=>?_⟩
 ·grind
 grind
structure y1b (x:List (Int × Int)):Prop where
 len:x.length<=20
 val:∀j,j<x.length->qe5 BIG (nR x j).1/\qe5 BIG (nR x j).2
theorem wj8 {l:List Fit} {i:Nat} (h:i<l.length):nF l i∈l:=by grind [xm3,List.getElem_mem]
open Go Go.RowKit Eng Ls
abbrev tU:Ty:=.int .u64
theorem w3m {a:Int} (h0:0<=a) (h1:a<4294967296):IntKind.u64.wrap ((BitVec.ofInt 64 a &&& BitVec.ofInt 64 4294967295).toNat:Int)=a:=by
 have e1:(BitVec.ofInt 64 a).toNat=a.toNat:=by
  rw[BitVec.toNat_ofInt]
  omega
 have e2:(BitVec.ofInt 64 4294967295).toNat=2 ^ 32-1:=dc
 rw[zej,e1,e2,zcm]
 have e3:a.toNat % 2 ^ 32=a.toNat:=Nat.mod_eq_of_lt ow
 rw[e3]
 have e4:((a.toNat:Nat):Int)=a:=ow
 rw[e4]
 exact zee a ow
theorem wr6 {a:Int} (h0:0<=a) (h1:a<4294967296):a.fdiv 4294967296=0:=by
 rw[zb4 _ dc]
 omega
theorem yl4 {x:Int} (h0:0<=x) (h1:x<=18446744073709551615):fits IntKind.u64 x:=by
 first
  | exact⟨h0,h1⟩
  | (unfold fits; simp[IntKind.lo,IntKind.hi]; omega)
  | (unfold fits; exact zee x ⟨h0,h1⟩)
abbrev yl5:qa8:=qd9 true none [tU,tU] [tU,tU] (λx=>x.1=1/\0<=x.2.1/\x.2.1<=1000000) (λx=>(0,x.2.1,()))
theorem w3n:Meets Tryz.prog 220 yl5:=by
 refine mt0 (SpecsOk.nil _) Tryz.func220 ?_
 rintro⟨x,y,⟨⟩⟩ h
 revert x y
 intro(x:Int) (y:Int) (h:x=1/\0<=y/\y<=1000000)
 refine vcs ((0:Int)<=(32:Int)/\(0:Int)<=(32:Int)/\fits IntKind.u64 (IntKind.wrap IntKind.u64 (↑(BitVec.toNat (BitVec.ofInt (64:Nat) x &&& BitVec.ofInt (64:Nat) (4294967295:Int))):Int)*IntKind.wrap IntKind.u64 (↑(BitVec.toNat (BitVec.ofInt (64:Nat) y &&& BitVec.ofInt (64:Nat) (4294967295:Int))):Int))/\fits IntKind.u64 (Int.fdiv x (4294967296:Int)*IntKind.wrap IntKind.u64 (↑(BitVec.toNat (BitVec.ofInt (64:Nat) y &&& BitVec.ofInt (64:Nat) (4294967295:Int))):Int))/\(0:Int)<=(32:Int)/\fits IntKind.u64 (Int.fdiv x (4294967296:Int)*IntKind.wrap IntKind.u64 (↑(BitVec.toNat (BitVec.ofInt (64:Nat) y &&& BitVec.ofInt (64:Nat) (4294967295:Int))):Int)+Int.fdiv (IntKind.wrap IntKind.u64 (↑(BitVec.toNat (BitVec.ofInt (64:Nat) x &&& BitVec.ofInt (64:Nat) (4294967295:Int))):Int)*IntKind.wrap IntKind.u64 (↑(BitVec.toNat (BitVec.ofInt (64:Nat) y &&& BitVec.ofInt (64:Nat) (4294967295:Int))):Int)) (4294967296:Int))/\(0:Int)<=(32:Int)/\fits IntKind.u64 (IntKind.wrap IntKind.u64 (↑(BitVec.toNat (BitVec.ofInt (64:Nat) x &&& BitVec.ofInt (64:Nat) (4294967295:Int))):Int)*Int.fdiv y (4294967296:Int))/\fits IntKind.u64 (IntKind.wrap IntKind.u64 (↑(BitVec.toNat (BitVec.ofInt (64:Nat) (Int.fdiv x (4294967296:Int)*IntKind.wrap IntKind.u64 (↑(BitVec.toNat (BitVec.ofInt (64:Nat) y &&& BitVec.ofInt (64:Nat) (4294967295:Int))):Int)+Int.fdiv (IntKind.wrap IntKind.u64 (↑(BitVec.toNat (BitVec.ofInt (64:Nat) x &&& BitVec.ofInt (64:Nat) (4294967295:Int))):Int)*IntKind.wrap IntKind.u64 (↑(BitVec.toNat (BitVec.ofInt (64:Nat) y &&& BitVec.ofInt (64:Nat) (4294967295:Int))):Int)) (4294967296:Int)) &&& BitVec.ofInt (64:Nat) (4294967295:Int))):Int)+IntKind.wrap IntKind.u64 (↑(BitVec.toNat (BitVec.ofInt (64:Nat) x &&& BitVec.ofInt (64:Nat) (4294967295:Int))):Int)*Int.fdiv y (4294967296:Int))/\fits IntKind.u64 (Int.fdiv x (4294967296:Int)*Int.fdiv y (4294967296:Int))/\fits IntKind.u64 (Int.fdiv x (4294967296:Int)*Int.fdiv y (4294967296:Int)+Int.fdiv (Int.fdiv x (4294967296:Int)*IntKind.wrap IntKind.u64 (↑(BitVec.toNat (BitVec.ofInt (64:Nat) y &&& BitVec.ofInt (64:Nat) (4294967295:Int))):Int)+Int.fdiv (IntKind.wrap IntKind.u64 (↑(BitVec.toNat (BitVec.ofInt (64:Nat) x &&& BitVec.ofInt (64:Nat) (4294967295:Int))):Int)*IntKind.wrap IntKind.u64 (↑(BitVec.toNat (BitVec.ofInt (64:Nat) y &&& BitVec.ofInt (64:Nat) (4294967295:Int))):Int)) (4294967296:Int)) (4294967296:Int))/\(0:Int)<=(32:Int)/\fits IntKind.u64 (Int.fdiv x (4294967296:Int)*Int.fdiv y (4294967296:Int)+Int.fdiv (Int.fdiv x (4294967296:Int)*IntKind.wrap IntKind.u64 (↑(BitVec.toNat (BitVec.ofInt (64:Nat) y &&& BitVec.ofInt (64:Nat) (4294967295:Int))):Int)+Int.fdiv (IntKind.wrap IntKind.u64 (↑(BitVec.toNat (BitVec.ofInt (64:Nat) x &&& BitVec.ofInt (64:Nat) (4294967295:Int))):Int)*IntKind.wrap IntKind.u64 (↑(BitVec.toNat (BitVec.ofInt (64:Nat) y &&& BitVec.ofInt (64:Nat) (4294967295:Int))):Int)) (4294967296:Int)) (4294967296:Int)+Int.fdiv (IntKind.wrap IntKind.u64 (↑(BitVec.toNat (BitVec.ofInt (64:Nat) (Int.fdiv x (4294967296:Int)*IntKind.wrap IntKind.u64 (↑(BitVec.toNat (BitVec.ofInt (64:Nat) y &&& BitVec.ofInt (64:Nat) (4294967295:Int))):Int)+Int.fdiv (IntKind.wrap IntKind.u64 (↑(BitVec.toNat (BitVec.ofInt (64:Nat) x &&& BitVec.ofInt (64:Nat) (4294967295:Int))):Int)*IntKind.wrap IntKind.u64 (↑(BitVec.toNat (BitVec.ofInt (64:Nat) y &&& BitVec.ofInt (64:Nat) (4294967295:Int))):Int)) (4294967296:Int)) &&& BitVec.ofInt (64:Nat) (4294967295:Int))):Int)+IntKind.wrap IntKind.u64 (↑(BitVec.toNat (BitVec.ofInt (64:Nat) x &&& BitVec.ofInt (64:Nat) (4294967295:Int))):Int)*Int.fdiv y (4294967296:Int)) (4294967296:Int))/\fits IntKind.u64 (x*y)/\Int.fdiv x (4294967296:Int)*Int.fdiv y (4294967296:Int)+Int.fdiv (Int.fdiv x (4294967296:Int)*IntKind.wrap IntKind.u64 (↑(BitVec.toNat (BitVec.ofInt (64:Nat) y &&& BitVec.ofInt (64:Nat) (4294967295:Int))):Int)+Int.fdiv (IntKind.wrap IntKind.u64 (↑(BitVec.toNat (BitVec.ofInt (64:Nat) x &&& BitVec.ofInt (64:Nat) (4294967295:Int))):Int)*IntKind.wrap IntKind.u64 (↑(BitVec.toNat (BitVec.ofInt (64:Nat) y &&& BitVec.ofInt (64:Nat) (4294967295:Int))):Int)) (4294967296:Int)) (4294967296:Int)+Int.fdiv (IntKind.wrap IntKind.u64 (↑(BitVec.toNat (BitVec.ofInt (64:Nat) (Int.fdiv x (4294967296:Int)*IntKind.wrap IntKind.u64 (↑(BitVec.toNat (BitVec.ofInt (64:Nat) y &&& BitVec.ofInt (64:Nat) (4294967295:Int))):Int)+Int.fdiv (IntKind.wrap IntKind.u64 (↑(BitVec.toNat (BitVec.ofInt (64:Nat) x &&& BitVec.ofInt (64:Nat) (4294967295:Int))):Int)*IntKind.wrap IntKind.u64 (↑(BitVec.toNat (BitVec.ofInt (64:Nat) y &&& BitVec.ofInt (64:Nat) (4294967295:Int))):Int)) (4294967296:Int)) &&& BitVec.ofInt (64:Nat) (4294967295:Int))):Int)+IntKind.wrap IntKind.u64 (↑(BitVec.toNat (BitVec.ofInt (64:Nat) x &&& BitVec.ofInt (64:Nat) (4294967295:Int))):Int)*Int.fdiv y (4294967296:Int)) (4294967296:Int)=(0:Ty.den tU)/\x*y=y/\True) ?_
 obtain⟨rfl,h0,h1⟩:=h
 have e1:=w3m (a:=1) dc dc
 have e2:=w3m (a:=y) h0 ow
 have e0:=w3m (a:=0) dc dc
 have d1:=wr6 (a:=1) dc dc
 have d2:=wr6 (a:=y) h0 ow
 have d0:=wr6 (a:=0) dc dc
 simp only[e1,e2,d1,d2,Int.zero_mul,Int.mul_zero,Int.one_mul,Int.zero_add,Int.add_zero,e0,d0]
 have f0:fits IntKind.u64 0:=yl4 dc dc
 have f1:fits IntKind.u64 y:=yl4 h0 ow
 exact⟨f1,f0,f0,f0,f0,f0,f0,f0,f1,trivial,trivial⟩
theorem xu4:Meets Tryz.prog 263 yl5:=by
 refine mt0 (SpecsOk.cons w3n (SpecsOk.nil _)) Tryz.func263 ?_
 rintro⟨x,y,⟨⟩⟩ h
 revert x y
 intro(x:Int) (y:Int) (h:x=1/\0<=y/\y<=1000000)
 refine vcs ((x=(1:Ty.den tU)/\(0:Ty.den tU)<=y/\y<=(1000000:Ty.den tU))/\(0:Ty.den tU)=(0:Ty.den tU)/\y=y/\True) ?_
 exact h
theorem w3o {P:Program} (w:World) (dT sT ty elem:TypeId) (sz g o dLen dCap:Nat) (a:Addr) (sLen sCap:Nat) (cur:Array Value) (t:TypeId) (cs:List Value)
  (hu:P.underlying dT=some (.slice elem)) (hs:(P.info? elem).map (·.size)=some sz)
  (hg:w.heap[g]? = some (.cells cur t (0,0))) (hn:cs.length=Nat.min sLen dLen*sz)
  (hsrc:∀j v,cs[j]? = some v->w.cell? (a.add j)=some v) (hfit:o+cs.length<=cur.size) (h1:∀v∈cs,v.oneCell'=true) :
  (Builtin.copy_ #[dT,sT] ty #[.slice (some ⟨g,o,none⟩) dLen dCap,.slice (some a) sLen sCap]).run P w =
   .ok (goInt (Nat.min sLen dLen)) (w.setRow g (cur.toList.take o++cs++cur.toList.drop (o+cs.length)).toArray):=by
 have hl:=run_loadCells_list (P:=P) w a cs hsrc
 have hst:=run_storeCells_at P g o t cs 0 cur w hg (by simpa using hfit) h1
 cases hq:P.info? elem with
 | none=>simp[hq] at hs
 | some i=>
  have hi:i.size=sz:=by simpa[hq] using hs
  simp[Builtin.copy_,run_underlying hu,Builtin.lenOf,Builtin.firstCells,sizeOf,typeInfo,hq,hi,<- hn,hl,hst]
theorem xu5 (n:Nat) (hn:n<=1000000) (w:World):Calls Tryz.prog 263 #[.int .u64 1,.int .u64 n] w λe w'=>e=.returned (.tuple #[.int .u64 0,.int .u64 n])/\Below w.heap.size w w':=by
 have hx:qt8 (λb=>w.heap[b]?) [tU,tU] ((1:Int),(n:Int),()) [.int .u64 1,.int .u64 n]:=⟨_,_,rfl,rfl,_,_,rfl,rfl,rfl⟩
 refine(wn6 (x:=(((1:Int),(n:Int),()):qa3 [tU,tU])) xu4 (View.full_on w) ⟨rfl,zb3 _,zd4.2 hn⟩ hx).mono λe w' ⟨v,m',e1,e2,_,_,e5⟩=>⟨?_,e2⟩
 obtain⟨cs,e6,e7⟩:=e5
 obtain⟨v1,r1,rfl,e8,e9⟩:=e7
 obtain⟨v2,r2,rfl,e10,e11⟩:=e9
 have e11:r2=[]:=e11
 have e8:[v1]=[.int .u64 0]:=e8
 have e10:[v2]=[.int .u64 n]:=e10
 rw[e1,(zad e6).1,(zad e8).1,(zad e10).1,e11]
def rp (n:Nat) (a b:Int):List Value:=(List.replicate n [Value.int .i64 a,.int .i64 b]).flatten
theorem y59:Elt Tryz.prog 53 43 (.agg #[.int .i64 0,.int .i64 0]) 2 16:=⟨Tryz.underlying53,kr⟩
theorem x9e {P:Program} (w:World) {t e:TypeId} {z:Value} {sz bytes:Nat} (E:Elt P t e z sz bytes) (n:Nat) (hb:n<=1000000) (hby:bytes<=1000000) :
  ∃w' cur,(Instr.makeSlice t (.int .i64 (n:Int)) (.int .i64 (n:Int))).run P w=.ok (.slice (some ⟨w.heap.size,0,none⟩) n n) w'/\w'.heap[w.heap.size]? = some (.cells cur e (0,0))/\cur.size=n*sz/\Below w.heap.size w w':=by
 obtain⟨i,hi,hz0,hz1,hz2⟩:=info_parts E.info
 have hbb:bytes*n<=1000000*1000000:=zbg hby hb
 obtain⟨w',hrun,h1,h2⟩:=run_make_full (P:=P) w w.heap.size t e i z sz E.under hi hz0 hz1 .i64 .i64 n (by rw[hz2]; omega) (by unfold maxLen; omega) (zac _)
 rcases h1.2 with⟨e1,_⟩ | ⟨g,cap,cur,e1,_,hg,_,_,hs,_⟩
 ·cases e1
 ·injection e1 with e2 e3 e4
  injection e2 with e2
  injection e2 with e2
  refine⟨w',cur,hrun,by rw[e2]; exact hg,by rw[hs,<- e4],below_none h2⟩
theorem x5s (n:Nat) (a b:Int):(rp n a b).length=n*2:=by simp[rp]
theorem x5t (m n:Nat) (a b:Int):rp m a b++rp n a b=rp (m+n) a b:=by
 unfold rp
 rw[<- List.replicate_append_replicate,List.flatten_append]
theorem yl6 (n:Nat) (a b:Int):∀v∈rp n a b,v.oneCell'=true:=by
 intro v hv
 unfold rp at hv
 obtain⟨l,hl,hv⟩:=List.mem_flatten.1 hv
 obtain⟨_,rfl⟩:=zda.1 hl
 simp at hv
 rcases hv with rfl | rfl <;> rfl
def ya6 (w:World) (g n k:Nat) (a b:Int):Prop:=∃cur:Array Value,w.heap[g]? = some (.cells cur 43 (0,0))/\cur.size=n*2/\cur.toList.take (k*2)=rp k a b
theorem xu6 {w:World} {g n k m:Nat} {a b:Int} (h:ya6 w g n k a b) (hk:k+m<=n) (a0:Addr) (sLen sCap dCap:Nat) (hmin:Nat.min sLen (n-k)=m) (hsrc:∀j v,(rp m a b)[j]? = some v->w.cell? (a0.add j)=some v) :
  ∃w',(Builtin.copy_ #[53,53] 3 #[.slice (some ⟨g,k*2,none⟩) (n-k) dCap,.slice (some a0) sLen sCap]).run Tryz.prog w=.ok (.int .i64 (m:Int)) w'/\ya6 w' g n (k+m) a b/\∀B w0,B<=g->Below B w0 w->Below B w0 w':=by
 obtain⟨cur,hg,hs,ht⟩:=h
 have hl:=x5s m a b
 have hr:=w3o (P:=Tryz.prog) w 53 53 3 43 2 g (k*2) (n-k) dCap a0 sLen sCap cur 43 (rp m a b) Tryz.underlying53 kr hg (by rw[hl,hmin]) hsrc (by rw[hl,hs]; omega) (yl6 m a b)
 rw[hmin] at hr
 refine⟨_,hr,⟨_,setRow_heap w g cur _ _ _ hg,?_,?_⟩,λB w0 hB hb=>⟨hb.os,hb.tape,hb.output,by rw[setRow_size]; exact hb.size,λx hx=>(setRow_other w g x _ ow).trans (hb.block x hx)⟩⟩
 ·simp only[List.size_toArray,List.length_append,List.length_take,List.length_drop,Array.length_toList]
  omega
 ·have e1:(cur.toList.take (k*2)).length=k*2:=by simp; omega
  rw[<- x5t k m a b,<- ht]
  show List.take ((k+m)*2) (cur.toList.take (k*2)++rp m a b++cur.toList.drop (k*2+(rp m a b).length))=_
  rw[List.take_append_of_le_length (by rw[zaw,e1,hl]; omega),zcr (by rw[zaw,e1,hl]; omega)]
theorem x9g {w:World} {g n k m:Nat} {a b:Int} (h:ya6 w g n k a b) (hm:m<=k):∀j v,(rp m a b)[j]? = some v->w.cell? ((⟨g,0,none⟩:Addr).add j)=some v:=by
 obtain⟨cur,hg,hs,ht⟩:=h
 intro j v hj
 have hj2:(rp k a b)[j]? = some v:=by
  have e:=x5t m (k-m) a b
  rw[show m+(k-m)=k by omega] at e
  rw[<- e,zb7 (zag.1 hj).1]
  exact hj
 rw[<- ht,zdb] at hj2
 split at hj2
 ·have hadd:(⟨g,0,none⟩:Addr).add j=⟨g,j,none⟩:=by unfold Addr.add; split <;> simp_all
  rw[hadd]
  simp only[World.cell?,hg]
  simpa using hj2
 ·cases hj2
set_option maxRecDepth 100000 in
set_option maxHeartbeats 1000000 in
theorem w9p (ad:Addr) (d:Nat) (a b:Int) (n:Nat) (hn:1<=n) (hn2:n<=1000) (w:World) (h0:w.cell? ad=some (.int .i64 a)) (h1:w.cell? (ad.add 1)=some (.int .i64 b)) :
  Calls Tryz.prog 211 #[.slice (some ad) 1 d,.int .i64 n] w λe w'=>∃b' c',e=.returned (.slice (some ⟨b',0,none⟩) n c')/\w'.ownsRow w.heap.size 43 2 (.slice (some ⟨b',0,none⟩) n c') n (rp n a b)/\Below w.heap.size w w':=by
 have first:∀w1,Below w.heap.size w w1->∃w2 w3,(Instr.makeSlice 53 (.int .i64 (n:Int)) (.int .i64 (n:Int))).run Tryz.prog w1=.ok (.slice (some ⟨w1.heap.size,0,none⟩) n n) w2 /\
   (Builtin.copy_ #[53,53] 3 #[.slice (some ⟨w1.heap.size,0,none⟩) n n,.slice (some ad) 1 d]).run Tryz.prog w2=.ok (.int .i64 1) w3/\ya6 w3 w1.heap.size n 1 a b/\Below w.heap.size w w3:=λw1 hb1=>by
  obtain⟨w2,cur,hmk,hg,hsz,hb2⟩:=x9e w1 y59 n ow dc
  have hB:Below w.heap.size w w2:=Ls.step_trans hb1 hb2
  have c0:=Below.cell_of hB h0
  have c1:=Below.cell_of hB h1
  have hadd:ad.add 0=ad:=by unfold Addr.add; split <;> simp_all
  obtain⟨w3,e1,e2,e3⟩:=xu6 (w:=w2) (g:=w1.heap.size) (n:=n) (k:=0) (m:=1) (a:=a) (b:=b) ⟨cur,hg,hsz,by simp[rp]⟩ ow ad 1 d n (by show Nat.min 1 (n-0)=1; exact zew ow) (λj v hj=>by
   match j,hj with
   | 0,hj=>
    rw[hadd]
    simp[rp] at hj
    rw[c0,hj]
   | 1,hj=>
    simp[rp] at hj
    rw[c1,hj]
   | j+2,hj=>simp[rp] at hj)
  exact⟨w2,w3,hmk,e1,e2,e3 _ _ hb1.size hB⟩
 go_enter Tryz.func211,Tryz.ntmps211
 go_wp2_with (first
  | (go_at_call 263; refine(xu5 n ow _).mono ?_; rintro e w1 ⟨rfl,hb1⟩; obtain⟨w2,w3,hmk,hcp,hR,hB⟩:=first w1 hb1)
  | (at_builtin; refine Hid.out ?_))
 go_loopw [8] (λs wr=>∃k:Nat,1<=k/\k<=n/\s=.int .i64 k/\ya6 wr w1.heap.size n k a b/\Below w.heap.size w wr) (λs _=>n-(intOf s).toNat)
 case atStart=>exact⟨1,zac _,hn,rfl,hR,hB⟩
 case round=>
  obtain⟨k,hk1,hk,rfl,hr,hb⟩:=hrel
  by_cases hlt:k<n
  ·have k0:(0:Int)<=(k:Int):=zb3 k
   have k1:(k:Int)<=(n:Int):=zd4.2 hk
   have k2:(k:Int)<(n:Int):=Int.ofNat_lt.2 hlt
   obtain⟨m,hm⟩:∃m,Nat.min k (n-k)=m:=⟨_,rfl⟩
   have hm1:1<=m:=by have:m=Nat.min k (n-k):=hm.symm; rw[this]; exact Nat.le_min.2 ⟨hk1,ow⟩
   have hm2:m<=k:=by rw[<- hm]; exact Nat.min_le_left _ _
   have hm4:m<=n-k:=by rw[<- hm]; exact Nat.min_le_right _ _
   have hm3:k+m<=n:=ow
   have hrd:ya6 wr.drew w1.heap.size n k a b:=hr
   obtain⟨w5,hcp5,hR5,hB5⟩:=xu6 hrd hm3 ⟨w1.heap.size,0,none⟩ k n (n-k) hm (x9g hrd hm2)
   have hB5':=hB5 _ _ hb1.size hb.drew
   go_wp2_with fail
   have hbd:Below w.heap.size w wr.drew:=hb.drew
   have hwk:IntKind.i64.wrap ((k:Int)+(m:Int))=(k:Int)+(m:Int):=Go.IntWalk.i64_in _ ow
   go_region_held3 (λw'=>Below w.heap.size w w') (first | exact hbd | exact hB5' | exact hbd.drew | exact hB5'.drew) (first | (at_builtin; refine Hid.out ?_))
   go_roundw
   case rel=>
    repeat apply Exists.intro
    exact⟨⟨k+m,ow,hm3,za1 (Value.int .i64) (Int.natCast_add k m).symm,hR5,hB5'⟩,rfl⟩
   case measure=>simp[intOf]; omega
  ·have hkk:k=n:=ow
   subst hkk
   go_wp2
   go_ret
   obtain⟨cur,hg,hsz,hpre⟩:=hr
   exact⟨_,_,rfl,⟨x5s _ _ _,.inr ⟨_,_,cur,rfl,hb1.size,hg,zac _,by unfold maxLen; omega,hsz,hpre⟩⟩,hb⟩
abbrev y6a:qa8:=qd9 true (some 43) [.list (.prod (.int .i64) (.int .i64)),.int .i64] [.list (.prod (.int .i64) (.int .i64))] (λx=>x.1.length=1/\1<=x.2.1/\x.2.1<=1000) (λx=>(List.replicate x.2.1.toNat (qf0 (.prod (.int .i64) (.int .i64)) x.1 0),()))
theorem x5u (m:View) (a b:Int):∀n:Nat,RdL m (.prod (.int .i64) (.int .i64)) (List.replicate n ((a,b):Int × Int)) (rp n a b)
 | 0=>rfl
 | n+1=>⟨[.int .i64 a,.int .i64 b],rp n a b,rfl,⟨[.int .i64 a],[.int .i64 b],rfl,rfl,rfl⟩,x5u m a b n⟩
theorem w1g:Meets Tryz.prog 211 y6a:=by
 refine⟨⟨_,_,Tryz.func211,rfl,rfl⟩,λw m args vs k hm hargs hrun=>?_⟩
 obtain⟨⟨l,n,⟨⟩⟩,⟨hp,hk⟩,hx⟩:=qj3 hrun hargs
 revert l n
 intro(l:List (Int × Int)) (n:Int) hx hp hk
 have hp:l.length=1/\1<=n/\n<=1000:=hp
 obtain⟨u,us,rfl,h1,h2⟩:=hx
 obtain⟨u2,us2,rfl,h3,h4⟩:=h2
 obtain rfl:us2=[]:=h4
 obtain rfl:u2=.int .i64 n:=h3
 obtain⟨A,c,e,_,_,h5⟩:=h1
 obtain rfl:u=.slice A l.length c:=(zad e).1
 obtain⟨ad,rfl,h6⟩:=h5 (by rw[hp.1]; decide)
 obtain⟨cs,k1,k2⟩:=h6 0 (by rw[hp.1]; decide)
 obtain⟨p,q,rfl,k3,k4⟩:=k1
 obtain rfl:p=[.int .i64 (qf0 (.prod (.int .i64) (.int .i64)) l 0).1]:=k3
 obtain rfl:q=[.int .i64 (qf0 (.prod (.int .i64) (.int .i64)) l 0).2]:=k4
 have c0:=View.cell_on hm (k2 0 (.int .i64 (qf0 (.prod (.int .i64) (.int .i64)) l 0).1) rfl)
 have c1:=View.cell_on hm (k2 1 (.int .i64 (qf0 (.prod (.int .i64) (.int .i64)) l 0).2) rfl)
 have hadd:ad.add (0*Ty.size (.prod (.int .i64) (.int .i64))+0)=ad:=by
  rw[zdk,zcc]
  unfold Addr.add; split <;> simp_all
 have hadd1:ad.add (0*Ty.size (.prod (.int .i64) (.int .i64))+1)=ad.add 1:=by rw[zdk,zcc]
 rw[hadd] at c0
 rw[hadd1] at c1
 obtain⟨nn,rfl⟩:∃nn:Nat,n=(nn:Int):=⟨n.toNat,ow⟩
 rw[hp.1]
 refine(w9p ad c _ _ nn ow ow w c0 c1).mono λe w' ⟨b',c',e1,e2,e3⟩=>?_
 refine⟨_,λ_=>none,e1,e3,(λb o h=>by cases h),(λb o h=>by cases h),.inl ⟨.prod (.int .i64) (.int .i64),List.replicate nn (qf0 (.prod (.int .i64) (.int .i64)) l 0),_,hk,?_,x5u _ _ _ nn,λ_ _=>rfl⟩⟩
 rw[zct]
 exact e2
open Go Go.RowKit Eng
structure x3i (n:Int) (pix:List Int) (v:List (Int × Int)):Prop where
 n1:1<=n
 n2:n<=1000
 len:pix.length<=v.length
 big:pix.length<=1000000
 at_:∀k,k<pix.length->0<=nI pix k/\nI pix k<n
abbrev y6b:qa8:=qd9 true (some 43) [qc0,qf1,q3b] [q3b] (λx=>x3i x.1 x.2.1 x.2.2.1) (λx=>(wc8 x.1.toNat x.2.1 x.2.2.1 x.2.1.length,()))
def y1c (n:Int) (pix:List Int) (v:List (Int × Int)):Nat->Option Inv
 | 0=>some (Inv.of [7,16] 1 (λk:Nat=>[(7,.own 0),(16,.lit (.int .i64 k))]) (λk=>[.vec 43 qx2 (wc8 n.toNat pix v k)]) (λk=>k<=pix.length) (λk=>pix.length-k))
 | _=>none
theorem xu7:Meets Tryz.prog 161 y6b:=by
 refine mts (SpecsOk.cons w1g (SpecsOk.nil _)) Tryz.func161 (λx=>y1c x.1 x.2.1 x.2.2.1) ?_
 rintro⟨n,pix,v,⟨⟩⟩ h
 revert n pix v
 intro(n:Int) (pix:List Int) (v:List (Int × Int)) (h:x3i n pix v)
 refine vcs ((List.length [((0:Int),(1:Int))]=(1:Nat)/\(1:Ty.den (Ty.int .i64))<=n/\n<=(1000:Ty.den (Ty.int .i64)))/\∃(v0:Unit),∃(v1:Nat),Nat.le v1 pix.length/\((True/\(0:Int)=(↑v1:Int)/\True)/\List.replicate n.toNat (qf0 (Ty.prod (Ty.int .i64) (Ty.int .i64)) [((0:Int),(1:Int))] (0:Nat))=wc8 n.toNat pix v v1/\True)/\∀(v2:Nat),Nat.le v2 pix.length->(decide ((↑v2:Int)<(↑pix.length:Int))=true->((0:Int)<=(↑v2:Int)/\(↑v2:Int)<(↑pix.length:Int))/\((0:Int)<=(↑v2:Int)/\(↑v2:Int)<(↑v.length:Int))/\((0:Int)<=nI pix v2/\nI pix v2<(↑(wc8 n.toNat pix v v2).length:Int))/\(nI pix v2).toNat<(wc8 n.toNat pix v v2).length/\fits .i64 ((↑v2:Int)+(1:Int))/\∃(v5:Nat),Nat.le v5 pix.length/\pix.length-v5<pix.length-v2/\(True/\(↑v2:Int)+(1:Int)=(↑v5:Int)/\True)/\List.set (wc8 n.toNat pix v v2) (nI pix v2).toNat ((qf0 (Ty.prod (Ty.int .i64) (Ty.int .i64)) v v2).1,(qf0 (Ty.prod (Ty.int .i64) (Ty.int .i64)) v v2).2)=wc8 n.toNat pix v v5/\True)/\(decide ((↑v2:Int)<(↑pix.length:Int))=false->wc8 n.toNat pix v v2=wc8 n.toNat pix v pix.length)) ?_
 obtain⟨h1,h2,h3,h4,h5⟩:=h
 have e1:(n.toNat:Int)=n:=ow
 refine⟨⟨h1,h2⟩,(),0,zaf _,⟨rfl,rfl⟩,λk hk=>⟨λhlt=>?_,λhge=>?_⟩⟩
 ·have ha:=h5 k hlt
  rw[q28,e1]
  exact⟨hlt,ow,ha,ow,qa7,k+1,hlt,ow,by push_cast; rfl,rfl⟩
 ·obtain rfl:k=pix.length:=ow
  rfl
end Go.Proofs.YtnchigbbjajiiaaGreat
namespace Go.Proofs.YtnchigbbjajiiaaGreat.K
open Go Go.RowKit Eng Ls
open Go.RowKit Ls
end Go.Proofs.YtnchigbbjajiiaaGreat.K
namespace Go.Proofs.YtnchigbbjajiiaaGreat
open Go Go.RowKit Eng
def cq (m:List (List Int)) (i j:Nat):Int:=sm m.length λa=>nI (nL m a) i*nI (nL m a) j
def wj9 (m:List (List Int)):Int × Int:=if(qs1 m).2=8 then((nL m 0).length,0) else if(qs1 m).2≠0 then(0,(qs1 m).2) else(((qs1 m).1-1).tdiv 2,0)
theorem xu8 {m:List (List Int)} (hl:q06 m=true):wj9 m=w8v m:=by
 grind [wj9,w8v,x3b,qs1]
def spF (m:List (List Int)) (f:Fit):List (Int × Int):=wc8 (nL m 0).length f.1 f.2 f.1.length
def w99 (l:List (List (Int × Int))):List (Int × Int):=qf0 q3b l 0
def yl7 (l:List (List (Int × Int))) (x:List Int):Bool:=(List.range (w99 l).length).all λj=>decide (nR (w99 l) j=(nI x j,1))
structure x3j (l:List (Int × Int)) (x:List Int) (k:Nat):Prop where
 le:k<=l.length
 ok:∀j,j<k->nR l j=(nI x j,1)
theorem x9h {m:List (List Int)} (h7:qb6 m=true->(nL m 0).length<=7):q7j m=qh9 m:=by
 by_cases hv:qb6 m=true
 ·have e1:qh9 m=(q3c m (nL m 0).length (q55 m),0):=by grind [qh9]
  grind [q7j,q6y,nL,q53,q72,w57]
 grind [qb6,qh9,q7j]
structure xy3 (m:List (List Int)):Prop where
 fit:x1h m
 n7:qb6 m=true->(nL m 0).length<=7
def x3k (h x:List Int):Nat->Int
 | 0=>0
 | k+1=>if 0<nI x k then x3k h x k+nI h k else if nI x k<0 then x3k h x k-nI h k else x3k h x k
def wr7 (h x:List Int):Nat->Int
 | 0=>0
 | k+1=>if 0<nI x k then wr7 h x k else if nI x k<0 then wr7 h x k else wr7 h x k+qd7 (nI h k)
def agB (h x:List Int):Bool:=decide (wr7 h x h.length<=qd7 (x3k h x h.length))
def agI (m:List (List Int)) (x:List Int):Int:=ixT (.list (.int .i64)) (λh=>agB h x) (qh9 m).1
theorem w3p {h p:List Int} (hh:xp7 h p):hlf (shR h p)=decide (szL h<=2*inL h p):=by
 have k:=q95 hh
 have hp:=q94 hh.ok hh.ne
 have e:=k.eq
 have h1:=k.pos
 unfold hlf
 generalize shR h p=r at *
 generalize inL h p=n at *
 generalize szL h=d at *
 have e2:2*r.1*d=2*n*r.2:=by grind
 rw[decide_eq_decide]
 constructor
 ·intro q
  have q2:=zai q (c:=d) ow
  rw[e2] at q2
  refine zbz (a:=r.2) ?_ ow
  grind
 ·intro q
  have q2:=zai q (c:=r.2) ow
  rw[<- e2] at q2
  refine zbz (a:=d) ?_ hp
  grind
theorem yl8:hlf (0,1)=false:=by rfl
theorem w6q (h:List Int) {k j:Nat} (hkj:k<=j):inL h (q19 h k)<=inL h (q19 h j):=by
 rw[q5e,q5e]
 have:∀(l:List Int) (k j:Nat),k<=j->q0y (szV h) (l.take k)<=q0y (szV h) (l.take j):=λl=>by
  induction l with
  | nil=>simp
  | cons x l ih=>
   intro k j hkj
   have hx:0<=szV h x:=zb3 _
   have nn:∀l:List Int,0<=q0y (szV h) l:=λl=>by
    induction l with
    | nil=>exact zbs _
    | cons y l ih2=>have:0<=szV h y:=zb3 _; grind [q0y]
   cases k with
   | zero=>grind [q0y,List.take]
   | succ k=>
    cases j with
    | zero=>omega
    | succ j=>
     grind [q0y]
 simp_all
theorem w3q {l:List (List Int)} {k:Nat} (hk:hlf (qk1 l k l.length)=true):∀f j,j<k->ordF l f j<k
 | 0,j,hj=>hj
 | f+1,j,hj=>by
  rw[ordF]
  split
  ·rename_i q
   have:j+1≠k:=λe=>by grind
   exact w3q hk f (j+1) ow
  omega
theorem xu9 (m:List (List Int)):ordL m<=(nL m 0).length:=by
 have:∀l f k,ordF l f k<=k+f:=λl f=>by
  induction f with
  | zero=>exact λk=>zac _
  | succ f ih=>
   grind [ordF]
 grind [qh9,nL,ordL]
theorem x3l {m:List (List Int)} (hv:qb6 m=true) (h7:(nL m 0).length<=7):hlf (qk1 (qh9 m).1 0 (qh9 m).1.length)=false:=by
 have hT:=(ya4 (m:=m) λ_=>h7).shs hv 0 (zaf _)
 rcases(q5f hT _ (zac _)).2 with e | ⟨i,hi,e⟩
 ·grind [yl8]
 ·rw[e]
  obtain⟨s,hc⟩:=q3j hv h7 hi
  have hs:=w09 hv hc (w6g hc 0)
  rw[w3p hs]
  have:inL (nL (qh9 m).1 i) (q19 (nL (qh9 m).1 i) 0)=0:=by rw[q5e]; rfl
  rw[this]
  have:=xs6 hc
  grind
theorem x3m {m:List (List Int)} (hv:qb6 m=true) (h7:(nL m 0).length<=7) {k:Nat} (hk:k<=ordL m):hlf (qk1 (qh9 m).1 k (qh9 m).1.length)=false:=by
 rcases zbt k with e | e
 ·grind [x3l]
 ·cases q:hlf (qk1 (qh9 m).1 k (qh9 m).1.length) with
  | false=>rfl
  | true=>
   have:=w3q q (nL m 0).length 0 e
   grind [ordL]
theorem yl9 {m:List (List Int)} (hv:qb6 m=true) (h7:(nL m 0).length<=7) {p:List Int} (hp:Named (nL m 0).length p):leQ (xq0 (qh9 m).1 p (qh9 m).1.length) (qk1 (qh9 m).1 p.length (qh9 m).1.length):=by
 have hpl:=hp.len
 have hT:=(ya4 (m:=m) λ_=>h7).shs hv p.length hpl
 have om:yo7 (qh9 m).1 p:=⟨q74 hv,λi hi=>by
  grind [q3j,w09]⟩
 have lt:=qw6 hT _ (zac _)
 rw[zat] at lt
 rcases(wr1 om _ (zac _)).2 with e | ⟨i,hi,e⟩
 ·grind [x3d]
 ·rw[e]
  obtain⟨s,hc⟩:=q3j hv h7 hi
  have hs:=om.ok i hi
  have hl:=w09 hv hc (w6g hc p.length)
  have:=q94 hs.ok hs.ne
  exact wb3 (q95 hs).pos (q95 hl).pos lt.pos (y06 hs hl (zai (wr0 (by rw[hc.len]; omega)) ow)) ((q5f hT _ (zac _)).1 i hi)
theorem x5v {m:List (List Int)} (hv:qb6 m=true) (h7:(nL m 0).length<=7) {p:List Int} (hp:Named (nL m 0).length p):q25 (xq0 (qh9 m).1 p (qh9 m).1.length):=
 q71 ⟨q74 hv,λi hi=>by
  grind [q3j,w09]⟩ _ (zac _)
theorem x9i {m:List (List Int)} (hv:qb6 m=true) (h7:(nL m 0).length<=7) {p:List Int} (hp:Named (nL m 0).length p) (hk:p.length<=ordL m):hlf (xq0 (qh9 m).1 p (qh9 m).1.length)=false:=by
 have hT:=(ya4 (m:=m) λ_=>h7).shs hv p.length hp.len
 have lt:=qw6 hT _ (zac _)
 rw[zat] at lt
 exact w3d (x5v hv h7 hp).pos lt.pos (yl9 hv h7 hp) (x3m hv h7 hk)
theorem wr9 {f:Int->Int} {q:Int->Bool}:∀l:List Int,(∀x∈l,q x=false->f x=0)->q0y f (l.filter q)=q0y f l
 | [],_=>rfl
 | x :: l,h=>by
  have ih:=wr9 (q:=q) l λy hy=>h y (by grind)
  cases e:q x with
  | true=>grind [List.filter_cons_of_pos,q0y]
  | false=>
   simp_all [List.filter_cons_of_neg,q0y,Int.zero_add]
theorem x3n {m:List (List Int)} {s h:List Int} (hc:w04 m s h):szL h=inL h s:=by
 rw[q2c]
 have e1:szL h=inL h (qp1 h.length):=by
  rw[<- y08,<- y07 rfl]
  grind [sA,sB,qf6,qd3,q31,Int.toNat_natCast]
 rw[e1,q2c]
 have hp:((qp1 h.length).filter λx=>decide (x∈s)).Perm s:=by
  rw[zcg ((q00 (w6f _)).sublist zc6) (q00 (q27 hc.nam))]
  intro a
  rw[zdt,za5]
  refine⟨λq=>q.2,λq=>⟨wb1.2 ?_,q⟩⟩
  obtain⟨i,hi,rfl⟩:=zbh.1 q
  have:=hc.nam.at_ i hi
  rw[qf3 s i hi] at this
  rw[hc.len]; omega
 rw[<- q5d _ hp]
 refine(wr9 _ λx hx hn=>?_).symm
 have hx:=wb1.1 hx
 rw[hc.len] at hx
 have hn:¬x∈s:=zde hn
 have:=hc.off x.toNat ow λj hj e=>hn (by
  grind [nI,q4a])
 show qd7 (nI h x.toNat)=0
 rw[this]; rfl
theorem w9q {n:Nat} {p:List Int} (h:Named n p) (k:Nat):Named n (p.take k):=by
 refine q4b ((q27 h).sublist (List.take_sublist _ _)) λx hx=>?_
 obtain⟨i,hi,rfl⟩:=zbh.1 (zdq hx)
 have:=h.at_ i hi
 grind [qf3]
theorem w9r {n:Nat} {p:List Int} (h:Named n p) (k:Nat):Named n (p.drop k):=by
 refine q4b ((q27 h).sublist (List.drop_sublist _ _)) λx hx=>?_
 obtain⟨i,hi,rfl⟩:=zbh.1 (zc1 hx)
 have:=h.at_ i hi
 grind [qf3]
theorem xv0 {m:List (List Int)} {s h:List Int} (hc:w04 m s h) {k:Nat} (hk:s.length<=2*k):szL h<=2*inL h (q19 h k):=by
 have e:szL h=inL h (s.take k)+inL h (s.drop k):=by
  rw[x3n hc,q2c,q2c,q2c,<- q73,zet]
 have h1:=wr0 (h:=h) (p:=s.take k) (by rw[hc.len]; exact w9q hc.nam k)
 have h2:=wr0 (h:=h) (p:=s.drop k) (by rw[hc.len]; exact w9r hc.nam k)
 have m1:=w6q h (k:=(s.take k).length) (j:=k) (by grind)
 have m2:=w6q h (k:=(s.drop k).length) (j:=k) (by grind)
 omega
theorem x3o {m:List (List Int)} (hv:qb6 m=true) (h7:(nL m 0).length<=7) {i:Nat} (hi:i<(qh9 m).1.length) {s:List Int} (hc:w04 m s (nL (qh9 m).1 i)):2*ordL m+1<=s.length:=by
 have hl:=hc.nam.len
 have hpos:=hc.pos
 obtain⟨k,hk⟩:∃k,k=(s.length+1) / 2:=⟨_,rfl⟩
 have hT:=(ya4 (m:=m) λ_=>h7).shs hv k ow
 have lt:=qw6 hT _ (zac _)
 rw[zat] at lt
 have hsh:=w09 hv hc (w6g hc k)
 have h1:hlf (shR (nL (qh9 m).1 i) (q19 (nL (qh9 m).1 i) k))=true:=by
  grind [w3p,decide_eq_true,xv0]
 have h2:hlf (qk1 (qh9 m).1 k (qh9 m).1.length)=true:=by
  cases q:hlf (qk1 (qh9 m).1 k (qh9 m).1.length) with
  | true=>rfl
  | false=>have:=w3d (q95 hsh).pos lt.pos ((q5f hT _ (zac _)).1 i hi) q; grind
 have:=w3q h2 (nL m 0).length 0 ow
 grind [ordL]
structure Gath {α:Type} (le:α->α->Prop) (L out:List α):Prop where
 none:L=[]->out=[]
 some:L≠[]->out≠[]
 least:∀f∈out,f∈L/\∀g∈L,le f g
 all:∀f∈L,(∀g∈L,le f g)->f∈out
theorem Gath.nil {α:Type} (le:α->α->Prop):Gath le [] []:=⟨λ_=>rfl,λh=>absurd rfl h,λ_ h=>(by cases h),λ_ h=>(by cases h)⟩
theorem Gath.step {α:Type} {le:α->α->Prop} (refl:∀a,le a a) (trans:∀a b c,le a b->le b c->le a c) {L out out':List α} (h:Gath le L out) (f:α)
  (h0:out=[]->out'=[f]) (h1:∀g,g∈out->¬le f g->out'=out) (h2:∀g,g∈out->¬le g f->out'=[f]) (h3:∀g,g∈out->le f g->le g f->∀x,x∈out'↔x∈out\/x=f) (total:∀a b,le a b\/le b a):Gath le (L++[f]) out':=by
 cases hout:out with
 | nil=>
  have hL:L=[]:=zae λq=>h.some q hout
  subst hL
  rw[h0 hout]
  exact⟨λq=>(by cases q),λ_ q=>(by cases q),λa ha=>by
   grind,λa ha _=>by grind⟩
 | cons g out0=>
  have hg:g∈out:=by grind
  obtain⟨gL,gmin⟩:=h.least g hg
  by_cases c1:le f g
  ·by_cases c2:le g f
   ·have hm:=h3 g hg c1 c2
    refine⟨λq=>(by simp at q),λ_ q=>?_,λa ha=>?_,λa ha hmin=>?_⟩
    ·grind
    ·rcases(hm a).1 ha with w | w
     ·obtain⟨k1,k2⟩:=h.least a w
      grind
     grind
    ·rcases zak.1 ha with ha | ha
     ·exact(hm a).2 (.inl (h.all a ha λb hb=>hmin b (zez _ hb)))
     grind
   ·rw[h2 g hg c2]
    refine⟨λq=>(by simp at q),λ_ q=>(by cases q),λa ha=>?_,λa ha hmin=>?_⟩
    all_goals grind
  ·have c3:le g f:=(total f g).resolve_left c1
   rw[h1 g hg c1]
   refine⟨λq=>(by simp at q),λ_ q=>(by grind),λa ha=>?_,λa ha hmin=>?_⟩
   ·obtain⟨k1,k2⟩:=h.least a ha
    grind
   ·rcases zak.1 ha with ha | ha
    ·exact h.all a ha λb hb=>hmin b (zez _ hb)
    grind
theorem ym0 (h x:List Int):∀k,fF k (nI x) (nI h)=x3k h x k+wr7 h x k/\fF k (nI x) (λi=>-(nI h i))=-x3k h x k+wr7 h x k
 | 0=>⟨rfl,rfl⟩
 | k+1=>by
  obtain⟨h1,h2⟩:=ym0 h x k
  have e1:fF (k+1) (nI x) (nI h)=fF k (nI x) (nI h)+fT (nI x k) (nI h k):=rfl
  have e2:fF (k+1) (nI x) (λi=>-(nI h i))=fF k (nI x) (λi=>-(nI h i))+fT (nI x k) (-(nI h k)):=rfl
  grind [x3k,wr7,fT,qd7]
theorem xv1 (h x:List Int):agB h x=false↔0<fF h.length (nI x) (nI h)/\0<fF h.length (nI x) (λi=>-(nI h i)):=by
 grind [ym0,agB,qd7,decide_eq_false_iff_not]
def leF (f g:Fit):Prop:=nmN f.2 f.2.length*nmD g.2 g.2.length<=nmN g.2 g.2.length*nmD f.2 f.2.length
theorem q75 {m:List (List Int)} {y:List Int} {f:Fit}:f∈qe0 m y 10↔∃pix,(qg5 m y pix).2=true/\f=(qg5 m y pix).1/\pix.length<=10:=by
 constructor
 ·intro h
  obtain⟨pix,h1,h2⟩:=q5h _ f h
  have hI:=qn7 h1
  have hN:=(Asked.of hI.chk)
  have h3:=hI.rows
  have h4:=hN.msk.rows6
  grind
 ·rintro⟨pix,h1,rfl,h2⟩
  exact q6d h1 _ ((w1c h1).2 ow)
theorem xv2 {m:List (List Int)} {x:List Int} {S:List Int}:∀k,k<=S.length->nmD (S.map λj=>(nI x j.toNat,(1:Int))) k=1/\nmN (S.map λj=>(nI x j.toNat,(1:Int))) k=sm k λj=>qd7 (nI x (nI S j).toNat)
 | 0,_=>⟨rfl,rfl⟩
 | k+1,hk=>by
  obtain⟨h1,h2⟩:=xv2 (m:=m) (x:=x) (S:=S) k ow
  have e:nR (S.map λj=>(nI x j.toNat,(1:Int))) k=(nI x (nI S k).toNat,1):=by
   grind [q2b,qf3]
  rw[nmD,nmN,h1,h2,e]
  refine⟨rfl,?_⟩
  show _*1+qd7 (nI x (nI S k).toNat)*1=_
  rw[ze1,ze1]; rfl
theorem w6r (m:List (List Int)) (x:List Int):nmD (q5i m x).2 (q5i m x).2.length=1/\nmN (q5i m x).2 (q5i m x).2.length=sA (nL m 0).length (nI x):=by
 obtain⟨n1,_⟩:=qf5 (nI x) (nL m 0).length
 have e:(q5i m x).2.length=(qo7 (nL m 0).length (nI x)).length:=by simp[q5i]
 obtain⟨h1,h2⟩:=xv2 (m:=m) (x:=x) (S:=qo7 (nL m 0).length (nI x)) _ (zac _)
 rw[e]
 refine⟨h1,h2.trans ?_⟩
 exact w3j n1 w3k
theorem w9s {m:List (List Int)} {x:List Int} (hv:qb6 m=true) (h7:(nL m 0).length<=7) (hl:x.length=(nL m 0).length) (h0:qq8 m (qc8 m x) []=0) {C:List Fit} (hC:Gath leF (qe0 m (qc8 m x) 10) C) (hnd:C.Nodup) :
  C=[q5i m x]↔∀h∈(qh9 m).1,agB h x=false:=by
 have hM:=Mk.of hv
 have hcl:∀h∈(qh9 m).1,h.length=(nL m 0).length/\Sol m.length (nL m 0).length (rowOf m) (nI h)/\∃i,i<(nL m 0).length/\nI h i≠0:=λh hh=>by
  obtain⟨i,hi,rfl⟩:=zbu hh
  obtain⟨s,hc⟩:=q3j hv h7 hi
  rw[ql6 _ i hi] at hc
  exact⟨hc.len,hc.sol,(nI s 0).toNat,by have:=hc.nam.at_ 0 hc.pos; omega,hc.on 0 hc.pos⟩
 obtain⟨x1,x2⟩:=w6r m x
 constructor
 ·intro hc h hh
  cases hag:agB h x with
  | false=>rfl
  | true=>
   exfalso
   obtain⟨k1,k2,k3⟩:=hcl h hh
   have hno:¬(0<fF (nL m 0).length (nI x) (nI h)/\0<fF (nL m 0).length (nI x) (λi=>-(nI h i))):=λq=>by
    grind [xv1]
   obtain⟨pix,f1,f2,f3⟩:∃pix,(qg5 m (qc8 m x) pix).2=true/\nmN (qg5 m (qc8 m x) pix).1.2 pix.length<=sA (nL m 0).length (nI x)*nmD (qg5 m (qc8 m x) pix).1.2 pix.length /\
     ¬(pix=qo7 (nL m 0).length (nI x)/\∀j,j<pix.length->nR (qg5 m (qc8 m x) pix).1.2 j=(nI x (nI pix j).toNat,1)):=by
    rcases zc7 0 (fF (nL m 0).length (nI x) (nI h)) with q | q
    ·refine w1e hM h0 (h:=λi=>-(nI h i)) (λa ha=>?_) ?_ (zbo.1 λw=>hno ⟨q,w⟩)
     ·have h2:=k2 a ha
      have e1:sm (nL m 0).length (λi=>rowOf m a i * -(nI h i))=(-1)*sm (nL m 0).length (λi=>rowOf m a i*nI h i):=by
       rw[<- qj6]; grind
      grind
     grind
    grind [w1e]
   have hI:=qn7 f1
   have hrow:=hI.rows
   have h6:=hM.rows6
   have hmem:(qg5 m (qc8 m x) pix).1∈qe0 m (qc8 m x) 10:=q75.2 ⟨pix,f1,rfl,ow⟩
   have hxC:q5i m x∈C:=by grind
   have hmin:=(hC.least _ hxC).2
   have hlt:∀g∈qe0 m (qc8 m x) 10,leF (qg5 m (qc8 m x) pix).1 g:=λg hg=>by
    have q:=hmin g hg
    unfold leF at q ⊢
    rw[x1,x2,ze1] at q
    rw[hI.len]
    obtain⟨b,E,hE,_,hvv,_⟩:=wb5 f1
    have hdp:=(w9o (V:=(qg5 m (qc8 m x) pix).1.2) (β:=λj=>b (nI pix j).toNat) hE pix.length hvv).1
    obtain⟨pg,g1,g2,_⟩:=q75.1 hg
    obtain⟨b',E',hE',_,hvv',_⟩:=wb5 g1
    have hgp:=(w9o (V:=(qg5 m (qc8 m x) pg).1.2) (β:=λj=>b' (nI pg j).toNat) hE' pg.length hvv').1
    have hgl:=(qn7 g1).len
    rw[<- hgl,<- g2] at hgp
    have s1:=zai f2 (show 0<=nmD g.2 g.2.length by omega)
    have s2:=zai q (show 0<=nmD (qg5 m (qc8 m x) pix).1.2 pix.length by omega)
    grind
   have hin:=hC.all _ hmem hlt
   rw[hc] at hin
   have hin:=zav.1 hin
   refine f3 ⟨?_,λj hj=>?_⟩
   ·have:=za1 Prod.fst hin
    rw[hI.fst] at this
    exact this
   ·have e1:pix=qo7 (nL m 0).length (nI x):=by
     have:=za1 Prod.fst hin
     rw[hI.fst] at this
     exact this
    rw[hin]
    show nR ((qo7 (nL m 0).length (nI x)).map _) j=_
    grind [q2b,qf3]
 ·intro hsafe
  have hgrow:∀d:Nat->Int,Sol m.length (nL m 0).length (rowOf m) d->(∃i,i<(nL m 0).length/\d i≠0)->0<fF (nL m 0).length (nI x) d:=λd hd hne=>
   w6j hv h7 (λh hh=>by
    grind [xv1]) _ d (zac _) hd hne
  have hfx:=x9c hM h0 (x3f hgrow)
  have hf2:(qg5 m (qc8 m x) (qo7 (nL m 0).length (nI x))).2=true:=by grind
  have hlen:(qo7 (nL m 0).length (nI x)).length<=10:=by
   have h1:=(qf5 (nI x) (nL m 0).length).1.len
   omega
  have hX:q5i m x∈qe0 m (qc8 m x) 10:=q75.2 ⟨_,hf2,by grind,hlen⟩
  have hother:∀g∈qe0 m (qc8 m x) 10,g=q5i m x\/(leF (q5i m x) g/\¬leF g (q5i m x)):=λg hg=>by
   obtain⟨pg,g1,g2,_⟩:=q75.1 hg
   by_cases e:pg=qo7 (nL m 0).length (nI x)
   ·grind
   ·right
    have h1:=xt7 hM hgrow g1 e
    have hgl:=(qn7 g1).len
    rw[<- hgl,<- g2] at h1
    unfold leF
    grind
  have hmin:q5i m x∈C:=hC.all _ hX λg hg=>by
   rcases hother g hg with e | e
   ·rw[e]; exact zbs _
   grind
  have hall:∀f∈C,f=q5i m x:=λf hf=>by
   obtain⟨k1,k2⟩:=hC.least f hf
   grind
  cases hC':C with
  | nil=>grind
  | cons a t=>
   rw[hC'] at hall hnd
   have ha:=hall a zbc
   cases t with
   | nil=>rw[ha]
   | cons b t=>
    simp_all
structure NmOk (f:Fit):Prop where
 each:∀j,j<f.2.length->(nR f.2 j).1≠0/\0<(nR f.2 j).2
theorem xv3 {V:List (Int × Int)}:∀k,(∀j,j<k->0<(nR V j).2)->0<nmD V k
 | 0,_=>(show(0:Int)<1 by decide)
 | k+1,h=>zca (xv3 k λj hj=>h j ow) (h k ow)
theorem NmOk.pos {f:Fit} (h:NmOk f):0<nmD f.2 f.2.length:=xv3 _ λj hj=>(h.each j hj).2
def xy4 (f:Fit):Int × Int:=if 0<nmD f.2 f.2.length then(nmN f.2 f.2.length,nmD f.2 f.2.length) else(0,1)
theorem ws0 (f:Fit):0<(xy4 f).2:=by grind [xy4]
def leK (f g:Fit):Prop:=(xy4 f).1*(xy4 g).2<=(xy4 g).1*(xy4 f).2
theorem wb6 (a b c:Fit) (h1:leK a b) (h2:leK b c):leK a c:=by
 have pa:=ws0 a
 have pb:=ws0 b
 have pc:=ws0 c
 unfold leK at *
 generalize xy4 a=A at *
 generalize xy4 b=B at *
 generalize xy4 c=C at *
 have s1:=zai h1 (show 0<=C.2 by omega)
 have s2:=zai h2 (show 0<=A.2 by omega)
 refine zc0 ?_ pb
 grind
theorem x3p {f g:Fit} (hf:NmOk f) (hg:NmOk g):leK f g↔leF f g:=by
 unfold leK xy4 leF
 rw[zam hf.pos,zam hg.pos]
theorem x5w {m:List (List Int)} {y:List Int} {k:Int} {f:Fit} (h:f∈qe0 m y k):NmOk f/\y1b f.2/\f.1.length<=1000/\∃pix,(qg5 m y pix).2=true/\f=(qg5 m y pix).1:=by
 obtain⟨pix,h1,rfl⟩:=q5h _ f h
 have hI:=qn7 h1
 have hA:=Asked.of hI.chk
 have h6:=hA.msk.rows6
 have hr:=hI.rows
 have hv:=wq6 h1
 have hat:∀j,j<(qg5 m y pix).1.2.length->q7h (nR (qg5 m y pix).1.2 j)=true/\(nR (qg5 m y pix).1.2 j).1≠0:=λj hj=>by
  grind [q2b,List.getElem_mem]
 have hb:∀j,j<(qg5 m y pix).1.2.length->1<=(nR (qg5 m y pix).1.2 j).2/\(nR (qg5 m y pix).1.2 j).2<=400/\-10000000000<=(nR (qg5 m y pix).1.2 j).1/\(nR (qg5 m y pix).1.2 j).1<=10000000000:=λj hj=>by
  simp_all [q7h,Bool.and_eq_true,decide_eq_true_eq]
 refine⟨⟨λj hj=>⟨(hat j hj).2,by grind⟩⟩,⟨by rw[hI.len]; omega,λj hj=>?_⟩,by rw[hI.fst]; omega,pix,h1,rfl⟩
 have:=hb j hj
 unfold qe5 BIG
 omega
theorem x9j {w:Int × Int} (h:0<=val w) (hw:Wd w):¬qx8 w (0,0)<0:=by
 have:=(xu2 (val w) 0).2 h
 rw[hw.spl] at this
 exact zbo.2 this
theorem x3q {w:Int × Int} (hw:Wd w):qx8 w (0,0)=0↔val w=0:=by
 obtain⟨h1,h2,h3⟩:=hw
 unfold qe5 at h1
 grind [qx8,val]
theorem ws1 {n d:Int} (h0:0<=n) (hd:0<d):∃P Q g:Nat,ofR n d=((P:Int),(Q:Int))/\n=((P*g:Nat):Int)/\d=((Q*g:Nat):Int)/\0<g/\0<Q/\Nat.Coprime P Q:=by
 obtain⟨N,rfl⟩:=zba h0
 obtain⟨M,rfl⟩:=zba (show 0<=d by omega)
 have hM:0<M:=ow
 have hg:0<Nat.gcd N M:=Nat.gcd_pos_of_pos_right _ hM
 have eg:gcdI (N:Int) (M:Int)=((Nat.gcd N M:Nat):Int):=rfl
 have h2:M / Nat.gcd N M*Nat.gcd N M=M:=Nat.div_mul_cancel (zb2 N M)
 refine⟨N / Nat.gcd N M,M / Nat.gcd N M,Nat.gcd N M,?_,by rw[Nat.div_mul_cancel (zb0 N M)],by rw[h2],hg,zc9 λz=>by grind,Nat.gcd_div_gcd_div_gcd_of_pos_right hM⟩
 rfl
theorem x3r {P Q g k:Nat} (hg:0<g) (hc:Nat.Coprime P Q):(P*g) % (Q*g)*k % (Q*g)=0↔Q∣k:=by
 rw[Nat.mod_mul_mod,<- Nat.dvd_iff_mod_eq_zero,Nat.mul_right_comm]
 constructor
 ·intro h
  have h2:Q∣P*k:=Nat.dvd_of_mul_dvd_mul_right hg h
  exact Nat.Coprime.dvd_of_dvd_mul_left hc.symm h2
 ·rintro⟨j,rfl⟩
  exact Nat.mul_dvd_mul_right ⟨P*j,by grind⟩ g
theorem x3s {P Q g:Nat} (hg:0<g) (hQ:0<Q):(P*g) / (Q*g)*Q+(P*g) % (Q*g)*Q / (Q*g)=P:=by
 have h1:=Nat.div_add_mod (P*g) (Q*g)
 have hp:0<Q*g:=Nat.mul_pos hQ hg
 have e:(P*g) % (Q*g)*Q / (Q*g)=(P*g) % (Q*g) / g:=by grind [Nat.mul_comm,Nat.mul_div_mul_left]
 rw[e]
 generalize hx:P*g / (Q*g)=x at *
 generalize hy:P*g % (Q*g)=y at *
 have h2:P=(Q*g*x+y) / g:=by simp_all
 conv=>rhs; rw[h2]
 rw[show Q*g*x+y=y+g*(x*Q) by grind,Nat.add_mul_div_left _ _ hg,Nat.add_comm]
structure RtP (s:(Int × Int) × (Int × Int)):Prop where
 wn:Wd s.1
 wd:Wd s.2
 n0:0<=val s.1/\val s.1<=1267650600228229401496703205376
 d0:0<val s.2/\val s.2<=18446744073709551615
 r1:(ofR (val s.1) (val s.2)).1<=10000000000
 r2:(ofR (val s.1) (val s.2)).2<=400
abbrev y6c:qa8:=qd9 true none [x9d] [qx2,.bool] (λx=>RtP x.1) (λx=>(ofR (val x.1.1) (val x.1.2),true,()))
structure RtI (n d k:Int):Prop where
 lo:1<=k
 hi:k<=400
 no:∀j:Int,1<=j->j<k->¬n % d*j % d=0
def y1d (s:(Int × Int) × (Int × Int)):Nat->Option Inv
 | 0=>some (Inv.of [7] 5 (λk:Int=>[(7,.lit (.int .i64 k))]) (λ_=>[.box 151 (.cons (.lit (.int .i64 s.1.1)) (.cons (.lit (.int .u64 s.1.2)) (.cons (.lit (.int .i64 s.2.1)) (.cons (.lit (.int .u64 s.2.2)) .nil)))),.box 43 (.cons (.lit (.int .i64 0)) (.cons (.lit (.int .i64 0)) .nil)),.box 149 (.cons (.lit (.int .i64 s.1.1)) (.cons (.lit (.int .u64 s.1.2)) .nil)),
   .box 149 (.cons (.lit (.int .i64 (spl (val s.1 / val s.2)).1)) (.cons (.lit (.int .u64 (spl (val s.1 / val s.2)).2)) .nil)),.box 149 (.cons (.lit (.int .i64 (spl (val s.1 % val s.2)).1)) (.cons (.lit (.int .u64 (spl (val s.1 % val s.2)).2)) .nil))]) (λk=>RtI (val s.1) (val s.2) k) (λk=>(400-k).toNat))
 | _=>none
set_option maxHeartbeats 4000000 in
theorem xv4:Meets Tryz.prog 122 y6c:=by
 refine mts (SpecsOk.cons xt8 (SpecsOk.cons w0r (SpecsOk.cons xu3 (SpecsOk.cons w1f (SpecsOk.cons wn8 (SpecsOk.cons w8o (SpecsOk.nil _))))))) Tryz.func122 (λx=>y1d x.1) ?_
 rintro⟨s,⟨⟩⟩ h
 revert s
 intro(s:(Int × Int) × (Int × Int)) (h:RtP s)
 refine vcs (let Q0:=spl (val s.1 % val s.2); let Q1:=spl (val s.1 / val s.2); let Q2:=ofR (val s.1) (val s.2); True/\(decide (qx8 s.1 ((0:Int),(0:Int))<(0:Int))=true->Wd s.1/\OvP (spl (-val s.1)) s.2/\(((spl (val (spl (-val s.1)) / val s.2)).1 != (0:Int))=true->((0:Int)=Q2.1/\(0:Int)=Q2.2/\True)/\false=true/\True)/\(((spl (val (spl (-val s.1)) / val s.2)).1 != (0:Int))=false->(decide ((10000000000:Int)<(spl (val (spl (-val s.1)) / val s.2)).2)=true->((0:Int)=Q2.1/\(0:Int)=Q2.2/\True)/\false=true/\True)/\(decide ((10000000000:Int)<(spl (val (spl (-val s.1)) / val s.2)).2)=false->∃(v3:Unit),∃(v4:Int),RtI (val s.1) (val s.2) v4/\(((1:Int)=v4/\True)/\(s.1.1=s.1.1/\s.1.2=s.1.2/\s.2.1=s.2.1/\s.2.2=s.2.2/\True)/\((0:Int)=(0:Int)/\(0:Int)=(0:Int)/\True)/\((spl (-val s.1)).1=s.1.1/\(spl (-val s.1)).2=s.1.2/\True)/\((spl (val (spl (-val s.1)) / val s.2)).1=Q1.1/\(spl (val (spl (-val s.1)) / val s.2)).2=Q1.2/\True)/\((spl (val (spl (-val s.1)) % val s.2)).1=Q0.1/\(spl (val (spl (-val s.1)) % val s.2)).2=Q0.2/\True)/\True)/\∀(v5:Int),RtI (val s.1) (val s.2) v5->(decide (v5<=(400:Int))=true->TmP Q0 v5/\OvP (spl (val Q0*v5)) s.2/\True/\((qx8 (spl (val (spl (val Q0*v5)) % val s.2)) ((0:Int),(0:Int)) != (0:Int))=true->fits .i64 (v5+(1:Int))/\∃(v9:Int),RtI (val s.1) (val s.2) v9/\((400:Int)-v9).toNat<((400:Int)-v5).toNat/\(v5+(1:Int)=v9/\True)/\(s.1.1=s.1.1/\s.1.2=s.1.2/\s.2.1=s.2.1/\s.2.2=s.2.2/\True)/\((0:Int)=(0:Int)/\(0:Int)=(0:Int)/\True)/\(s.1.1=s.1.1/\s.1.2=s.1.2/\True)/\(Q1.1=Q1.1/\Q1.2=Q1.2/\True)/\(Q0.1=Q0.1/\Q0.2=Q0.2/\True)/\True)/\((qx8 (spl (val (spl (val Q0*v5)) % val s.2)) ((0:Int),(0:Int)) != (0:Int))=false->fits .i64 Q1.2/\fits .i64 (Q1.2*v5)/\fits .i64 (spl (val (spl (val Q0*v5)) / val s.2)).2/\fits .i64 (Q1.2*v5+(spl (val (spl (val Q0*v5)) / val s.2)).2)/\(((-4000000000000000000:Int)<=Q1.2*v5+(spl (val (spl (val Q0*v5)) / val s.2)).2/\Q1.2*v5+(spl (val (spl (val Q0*v5)) / val s.2)).2<=BIG)/\((-4000000000000000000:Int)<=v5/\v5<=BIG)/\v5≠(0:Ty.den qc0))/\True/\(decide (qx8 s.1 ((0:Int),(0:Int))<(0:Int))=true->fits .i64 ((0:Int)-(ofR (Q1.2*v5+(spl (val (spl (val Q0*v5)) / val s.2)).2) v5).1)/\True/\((0:Int)-(ofR (Q1.2*v5+(spl (val (spl (val Q0*v5)) / val s.2)).2) v5).1=Q2.1/\(ofR (Q1.2*v5+(spl (val (spl (val Q0*v5)) / val s.2)).2) v5).2=Q2.2/\True)/\q7h ((0:Int)-(ofR (Q1.2*v5+(spl (val (spl (val Q0*v5)) / val s.2)).2) v5).1,(ofR (Q1.2*v5+(spl (val (spl (val Q0*v5)) / val s.2)).2) v5).2)=true/\True)/\(decide (qx8 s.1 ((0:Int),(0:Int))<(0:Int))=false->True/\((ofR (Q1.2*v5+(spl (val (spl (val Q0*v5)) / val s.2)).2) v5).1=Q2.1/\(ofR (Q1.2*v5+(spl (val (spl (val Q0*v5)) / val s.2)).2) v5).2=Q2.2/\True)/\q7h (ofR (Q1.2*v5+(spl (val (spl (val Q0*v5)) / val s.2)).2) v5)=true/\True)))/\(decide (v5<=(400:Int))=false->((0:Int)=Q2.1/\(0:Int)=Q2.2/\True)/\false=true/\True))))/\(decide (qx8 s.1 ((0:Int),(0:Int))<(0:Int))=false->OvP s.1 s.2/\((Q1.1 != (0:Int))=true->((0:Int)=Q2.1/\(0:Int)=Q2.2/\True)/\false=true/\True)/\((Q1.1 != (0:Int))=false->(decide ((10000000000:Int)<Q1.2)=true->((0:Int)=Q2.1/\(0:Int)=Q2.2/\True)/\false=true/\True)/\(decide ((10000000000:Int)<Q1.2)=false->∃(v3:Unit),∃(v4:Int),RtI (val s.1) (val s.2) v4/\(((1:Int)=v4/\True)/\(s.1.1=s.1.1/\s.1.2=s.1.2/\s.2.1=s.2.1/\s.2.2=s.2.2/\True)/\((0:Int)=(0:Int)/\(0:Int)=(0:Int)/\True)/\(s.1.1=s.1.1/\s.1.2=s.1.2/\True)/\(Q1.1=Q1.1/\Q1.2=Q1.2/\True)/\(Q0.1=Q0.1/\Q0.2=Q0.2/\True)/\True)/\∀(v5:Int),RtI (val s.1) (val s.2) v5->(decide (v5<=(400:Int))=true->TmP Q0 v5/\OvP (spl (val Q0*v5)) s.2/\True/\((qx8 (spl (val (spl (val Q0*v5)) % val s.2)) ((0:Int),(0:Int)) != (0:Int))=true->fits .i64 (v5+(1:Int))/\∃(v9:Int),RtI (val s.1) (val s.2) v9/\((400:Int)-v9).toNat<((400:Int)-v5).toNat/\(v5+(1:Int)=v9/\True)/\(s.1.1=s.1.1/\s.1.2=s.1.2/\s.2.1=s.2.1/\s.2.2=s.2.2/\True)/\((0:Int)=(0:Int)/\(0:Int)=(0:Int)/\True)/\(s.1.1=s.1.1/\s.1.2=s.1.2/\True)/\(Q1.1=Q1.1/\Q1.2=Q1.2/\True)/\(Q0.1=Q0.1/\Q0.2=Q0.2/\True)/\True)/\((qx8 (spl (val (spl (val Q0*v5)) % val s.2)) ((0:Int),(0:Int)) != (0:Int))=false->fits .i64 Q1.2/\fits .i64 (Q1.2*v5)/\fits .i64 (spl (val (spl (val Q0*v5)) / val s.2)).2/\fits .i64 (Q1.2*v5+(spl (val (spl (val Q0*v5)) / val s.2)).2)/\(((-4000000000000000000:Int)<=Q1.2*v5+(spl (val (spl (val Q0*v5)) / val s.2)).2/\Q1.2*v5+(spl (val (spl (val Q0*v5)) / val s.2)).2<=BIG)/\((-4000000000000000000:Int)<=v5/\v5<=BIG)/\v5≠(0:Ty.den qc0))/\True/\(decide (qx8 s.1 ((0:Int),(0:Int))<(0:Int))=true->fits .i64 ((0:Int)-(ofR (Q1.2*v5+(spl (val (spl (val Q0*v5)) / val s.2)).2) v5).1)/\True/\((0:Int)-(ofR (Q1.2*v5+(spl (val (spl (val Q0*v5)) / val s.2)).2) v5).1=Q2.1/\(ofR (Q1.2*v5+(spl (val (spl (val Q0*v5)) / val s.2)).2) v5).2=Q2.2/\True)/\q7h ((0:Int)-(ofR (Q1.2*v5+(spl (val (spl (val Q0*v5)) / val s.2)).2) v5).1,(ofR (Q1.2*v5+(spl (val (spl (val Q0*v5)) / val s.2)).2) v5).2)=true/\True)/\(decide (qx8 s.1 ((0:Int),(0:Int))<(0:Int))=false->True/\((ofR (Q1.2*v5+(spl (val (spl (val Q0*v5)) / val s.2)).2) v5).1=Q2.1/\(ofR (Q1.2*v5+(spl (val (spl (val Q0*v5)) / val s.2)).2) v5).2=Q2.2/\True)/\q7h (ofR (Q1.2*v5+(spl (val (spl (val Q0*v5)) / val s.2)).2) v5)=true/\True)))/\(decide (v5<=(400:Int))=false->((0:Int)=Q2.1/\(0:Int)=Q2.2/\True)/\false=true/\True))))) ?_
 obtain⟨wn,wd,⟨n0,n9⟩,⟨d0,d9⟩,r1,r2⟩:=h
 have hneg:=x9j n0 wn
 have hOv:OvP s.1 s.2:=⟨wn,wd,⟨n0,n9⟩,d0,ow⟩
 obtain⟨P,Q,g,e,en,ed,hg,hQ,hc⟩:=ws1 n0 d0
 rw[e] at r1 r2
 dsimp only at r1 r2
 have hw:0<=val s.1 / val s.2/\val s.1 / val s.2<=P:=by
  rw[en,ed,<- Int.natCast_ediv]
  have:P*g / (Q*g)<=P:=by simp_all [Nat.mul_div_mul_right,Nat.div_le_self]
  grind
 have hm:=zdu (val s.1) (show val s.2≠0 by omega)
 have hm2:=zdd (val s.1) d0
 have sm:∀x:Int,0<=x->x<18446744073709551616->spl x=(0,x):=λx h0 h1=>by unfold spl hiU loU; grind
 have hdv:∀j:Nat,val s.1 % val s.2*(j:Int) % val s.2=0↔Q∣j:=λj=>by
  rw[<- x3r hg hc,en,ed,<- Int.natCast_emod,<- Int.natCast_mul,<- Int.natCast_emod]
  omega
 have hwh:val s.1 / val s.2*(Q:Int)+val s.1 % val s.2*(Q:Int) / val s.2=P:=by
  have:=x3s (P:=P) hg hQ
  grind
 have hPQ:ofR (P:Int) (Q:Int)=((P:Int),(Q:Int)):=by
  simp_all [gcdI,congrArg,Nat.cast,ofR,if_neg,Int.tdiv_one]
 have hv:q7h ((P:Int),(Q:Int))=true:=by
  have eg:gcdI (P:Int) (Q:Int)=1:=za1 Nat.cast hc
  unfold q7h
  grind
 simp only[q0v,e,sm _ hw.1 ow]
 refine⟨λq=>absurd q hneg,λ_=>⟨hOv,λq=>absurd trivial q,λ_=>⟨λq=>absurd q ow,λ_=>⟨(),1,⟨dc,dc,λj a b=>by omega⟩,rfl,λk hk=>⟨λhle=>?_,λhgt=>by have:=hk.hi; omega⟩⟩⟩⟩⟩
 obtain⟨K,rfl⟩:∃K:Nat,k=K:=⟨k.toNat,by have:=hk.lo; omega⟩
 have hk1:=hk.lo
 have hb:0<=val s.1 % val s.2*(K:Int)/\val s.1 % val s.2*(K:Int)<=7378697629483820646400:=⟨za3 hm ow,zcu (zby (show val s.1 % val s.2<=18446744073709551616 by omega) hle ow dc) dc⟩
 have hb2:=zdu (val s.1 % val s.2*(K:Int)) (show val s.2≠0 by omega)
 have hb3:=zdd (val s.1 % val s.2*(K:Int)) d0
 have hz:=x3q (q65 (x:=val s.1 % val s.2*(K:Int) % val s.2) hb2 ow)
 rw[q0v,hdv] at hz
 refine⟨by rw[sm _ hm ow]; exact⟨zbs _,(show(0:Int)<=100000000 by decide),hm,ow,ow,ow⟩,⟨q65 hb.1 ow,wd,by grind [q0v],d0,ow⟩,λhne=>?_,λhe=>?_⟩
 ·have hlt:K<400:=zae λw=>by
   have hK:K=400:=ow
   rcases zap Q K with q | q
   ·exact hk.no Q ow ow ((hdv Q).2 (ze5 Q))
   grind [Nat.dvd_refl]
  refine⟨qa7,(K:Int)+1,⟨ow,ow,λj j1 j2=>?_⟩,ow,rfl⟩
  by_cases q:j<(K:Int)
  ·exact hk.no j j1 q
  grind
 ·have hQK:=hz.1 he
  obtain rfl:K=Q:=by
   have h1:=zdc ow hQK
   rcases zap Q K with q | q
   ·exact absurd ((hdv Q).2 (ze5 Q)) (hk.no Q ow ow)
   omega
  have hy:0<=val s.1 % val s.2*(K:Int) / val s.2:=Int.ediv_nonneg hb.1 ow
  have hx:0<=val s.1 / val s.2*(K:Int):=za3 hw.1 ow
  have hB:BIG=4000000000000000000:=rfl
  simp only[sm _ hy ow,hwh,hPQ,hv]
  exact⟨qa7,qa7,qa7,qa7,⟨⟨ow,ow⟩,⟨ow,ow⟩,ow⟩,λq=>absurd q hneg,λ_=>⟨⟨trivial,trivial⟩,trivial⟩⟩
structure DnP (x:List (Int × Int)):Prop where
 len:x.length<=6
 val:∀j,j<x.length->-10000000000<=(nR x j).1/\(nR x j).1<=10000000000/\1<=(nR x j).2/\(nR x j).2<=400
theorem DnP.bd {x:List (Int × Int)} (h:DnP x):∀k,k<=x.length->(1<=nmD x k/\nmD x k<=400 ^ k)/\0<=nmN x k/\nmN x k<=10000000000*k*400 ^ k
 | 0,_=>⟨⟨zbs 1,zbs 1⟩,zbs 0,by simp[nmN]⟩
 | k+1,hk=>by
  obtain⟨⟨d1,d2⟩,n1,n2⟩:=h.bd k ow
  obtain⟨v1,v2,v3,v4⟩:=h.val k ow
  have ha:0<=qd7 (nR x k).1/\qd7 (nR x k).1<=10000000000:=by grind [qd7]
  have hp:(0:Int)<400 ^ k:=Int.pow_pos dc
  rw[nmD,nmN,Int.pow_succ]
  have q1:=zby d2 v4 ow ow
  have q2:=zby n2 v4 ow (za3 ow ow)
  have q3:=zby ha.2 d2 ow dc
  have q4:=za3 n1 (show 0<=(nR x k).2 by omega)
  have q5:=za3 ha.1 (show 0<=nmD x k by omega)
  have q6:=zby d1 v3 dc ow
  grind
theorem y1e:∀k:Nat,k<7->(400:Int) ^ k<=4096000000000000/\10000000000*(k:Int)*400 ^ k<=245760000000000000000000000:=by decide +kernel
theorem y1f:∀k:Nat,k<6->(400:Int) ^ k<=10240000000000/\10000000000*(k:Int)*400 ^ k<=512000000000000000000000:=by decide +kernel
theorem DnP.step {x:List (Int × Int)} (h:DnP x) {k:Nat} (hk:k<x.length) {a:Int} (ha:a=qd7 (nR x k).1):SmP (spl (nmN x k),spl (nmD x k)) (a,(nR x k).2) 1/\sumW (spl (nmN x k),spl (nmD x k)) (a,(nR x k).2)=(spl (nmN x (k+1)),spl (nmD x (k+1))):=by
 obtain⟨⟨d1,d2⟩,n1,n2⟩:=h.bd k ow
 obtain⟨v1,v2,v3,v4⟩:=h.val k hk
 obtain⟨p1,p2⟩:=y1f k (by have:=h.len; omega)
 refine⟨⟨?_,?_,?_,rfl⟩,?_⟩
 ·grind [spl,hiU,loU]
 ·grind [spl,hiU,loU]
 all_goals grind [qd7,sumW,q0v,nmN,nmD,Int.mul_comm]
abbrev y1g:qa8:=qd9 true none [q3b] [x9d] (λx=>DnP x.1) (λx=>((spl (nmN x.1 x.1.length),spl (nmD x.1 x.1.length)),()))
def x5x (s:(Int × Int) × (Int × Int)):AV:=.cons (.lit (.int .i64 s.1.1)) (.cons (.lit (.int .u64 s.1.2)) (.cons (.lit (.int .i64 s.2.1)) (.cons (.lit (.int .u64 s.2.2)) .nil)))
def ym1 (x:List (Int × Int)):Nat->Option Inv
 | 0=>some (Inv.of [9] 2 (λk:Nat=>[(9,.lit (.int .i64 k))]) (λk=>[.box 151 (x5x ((0,0),(0,0))),.box 151 (x5x (spl (nmN x k),spl (nmD x k)))]) (λk=>k<=x.length) (λk=>x.length-k))
 | _=>none
theorem w9t:Meets Tryz.prog 121 y1g:=by
 refine mts (SpecsOk.cons xt9 (SpecsOk.cons xu0 (SpecsOk.nil _))) Tryz.func121 (λx=>ym1 x.1) ?_
 rintro⟨x,⟨⟩⟩ h
 revert x
 intro(x:List (Int × Int)) (h:DnP x)
 refine vcs (let Q0:=spl (nmN x x.length); let Q1:=spl (nmD x x.length); True/\∃(v0:Unit),∃(v1:Nat),Nat.le v1 x.length/\(((0:Int)=(↑v1:Int)/\True)/\((0:Int)=(0:Int)/\(0:Int)=(0:Int)/\(0:Int)=(0:Int)/\(0:Int)=(0:Int)/\True)/\((0:Int)=(spl (nmN x v1)).1/\(0:Int)=(spl (nmN x v1)).2/\(0:Int)=(spl (nmD x v1)).1/\(1:Int)=(spl (nmD x v1)).2/\True)/\True)/\∀(v2:Nat),Nat.le v2 x.length->(decide ((↑v2:Int)<(↑x.length:Int))=true->((0:Int)<=(↑v2:Int)/\(↑v2:Int)<(↑x.length:Int))/\(decide ((nR x v2).1<(0:Int))=true->fits .i64 ((0:Int)-(nR x v2).1)/\SmP ((spl (nmN x v2)),(spl (nmD x v2)).1,(spl (nmD x v2)).2) ((0:Int)-(nR x v2).1,(nR x v2).2) (1:Int)/\fits .i64 ((↑v2:Int)+(1:Int))/\∃(v6:Nat),Nat.le v6 x.length/\x.length-v6<x.length-v2/\((↑v2:Int)+(1:Int)=(↑v6:Int)/\True)/\((0:Int)=(0:Int)/\(0:Int)=(0:Int)/\(0:Int)=(0:Int)/\(0:Int)=(0:Int)/\True)/\((sumW ((spl (nmN x v2)),(spl (nmD x v2)).1,(spl (nmD x v2)).2) ((0:Int)-(nR x v2).1,(nR x v2).2)).1.1=(spl (nmN x v6)).1/\(sumW ((spl (nmN x v2)),(spl (nmD x v2)).1,(spl (nmD x v2)).2) ((0:Int)-(nR x v2).1,(nR x v2).2)).1.2=(spl (nmN x v6)).2/\(sumW ((spl (nmN x v2)),(spl (nmD x v2)).1,(spl (nmD x v2)).2) ((0:Int)-(nR x v2).1,(nR x v2).2)).2.1=(spl (nmD x v6)).1/\(sumW ((spl (nmN x v2)),(spl (nmD x v2)).1,(spl (nmD x v2)).2) ((0:Int)-(nR x v2).1,(nR x v2).2)).2.2=(spl (nmD x v6)).2/\True)/\True)/\(decide ((nR x v2).1<(0:Int))=false->SmP ((spl (nmN x v2)),(spl (nmD x v2)).1,(spl (nmD x v2)).2) (nR x v2) (1:Int)/\fits .i64 ((↑v2:Int)+(1:Int))/\∃(v6:Nat),Nat.le v6 x.length/\x.length-v6<x.length-v2/\((↑v2:Int)+(1:Int)=(↑v6:Int)/\True)/\((0:Int)=(0:Int)/\(0:Int)=(0:Int)/\(0:Int)=(0:Int)/\(0:Int)=(0:Int)/\True)/\((sumW ((spl (nmN x v2)),(spl (nmD x v2)).1,(spl (nmD x v2)).2) (nR x v2)).1.1=(spl (nmN x v6)).1/\(sumW ((spl (nmN x v2)),(spl (nmD x v2)).1,(spl (nmD x v2)).2) (nR x v2)).1.2=(spl (nmN x v6)).2/\(sumW ((spl (nmN x v2)),(spl (nmD x v2)).1,(spl (nmD x v2)).2) (nR x v2)).2.1=(spl (nmD x v6)).1/\(sumW ((spl (nmN x v2)),(spl (nmD x v2)).1,(spl (nmD x v2)).2) (nR x v2)).2.2=(spl (nmD x v6)).2/\True)/\True))/\(decide ((↑v2:Int)<(↑x.length:Int))=false->(spl (nmN x v2)).1=Q0.1/\(spl (nmN x v2)).2=Q0.2/\(spl (nmD x v2)).1=Q1.1/\(spl (nmD x v2)).2=Q1.2/\True)) ?_
 refine⟨(),0,zaf _,⟨rfl,rfl,rfl,rfl,rfl⟩,λk hk=>⟨λhlt=>⟨hlt,λhn=>?_,λhn=>?_⟩,λhge=>?_⟩⟩
 ·have hl:=h.len
  have hv:=h.val k hlt
  obtain⟨q1,q2⟩:=h.step hlt (a:=0-(nR x k).1) (by grind [nR,qd7])
  exact⟨qa7,q1,qa7,k+1,hlt,ow,by rfl,za1 (λs=>s.1.1) q2,za1 (λs=>s.1.2) q2,za1 (λs=>s.2.1) q2,za1 (λs=>s.2.2) q2⟩
 ·have hl:=h.len
  obtain⟨q1,q2⟩:=h.step hlt (a:=(nR x k).1) (by grind [nR,qd7])
  exact⟨q1,qa7,k+1,hlt,ow,by rfl,za1 (λs=>s.1.1) q2,za1 (λs=>s.1.2) q2,za1 (λs=>s.2.1) q2,za1 (λs=>s.2.2) q2⟩
 grind
theorem w6s (g:Int->Int):∀n,q0y g (qp1 n)=sm n λc=>g (c:Int)
 | 0=>rfl
 | n+1=>by rw[wy0,q73,w6s g n]; simp[q0y,sm]
theorem ym2 (h:List Int) {P:List Int} (hP:Named h.length P):inL h P=sm h.length λc=>if(c:Int)∈P then qd7 (nI h c) else 0:=by
 rw[q2c]
 have hp:((qp1 h.length).filter λx=>decide (x∈P)).Perm P:=by
  rw[zcg ((q00 (w6f _)).sublist zc6) (q00 (q27 hP))]
  intro a
  rw[zdt,za5]
  refine⟨λq=>q.2,λq=>⟨wb1.2 ?_,q⟩⟩
  obtain⟨i,hi,rfl⟩:=zbh.1 q
  have:=hP.at_ i hi
  grind [qf3]
 have h1:q0y (λx=>if x∈P then szV h x else 0) (qp1 h.length)=sm h.length λc=>if(c:Int)∈P then qd7 (nI h c) else 0:=by
  grind [w6s,qd3,szV,Int.toNat_natCast]
 rw[<- h1,<- wr9 (q:=λx=>decide (x∈P)) _ λx _ hx=>zaj (zde hx),<- q5d _ hp]
 have:∀l:List Int,q0y (szV h) (l.filter λx=>decide (x∈P))=q0y (λx=>if x∈P then szV h x else 0) (l.filter λx=>decide (x∈P)):=λl=>by
  induction l with
  | nil=>rfl
  | cons x l ih=>
   by_cases q:x∈P
   all_goals simp_all [List.filter_cons_of_pos,q0y,if_pos,List.filter_cons_of_neg]
 grind
theorem x3t {m:List (List Int)} {x:List Int} (hM:Mk m) (hl:x.length=(nL m 0).length) {f:Fit} (hf:f∈qe0 m (qc8 m x) 10):yl7 [spF m f] x=true↔f=q5i m x:=by
 obtain⟨h1,_,_,pix,k1,rfl⟩:=x5w hf
 have hI:=qn7 k1
 have hN:=(Asked.of hI.chk).nam
 obtain⟨n1,n2⟩:=qf5 (nI x) (nL m 0).length
 have n4:=qo2 (nI x) (nL m 0).length
 have hsp:spF m (qg5 m (qc8 m x) pix).1=wc8 (nL m 0).length pix (qg5 m (qc8 m x) pix).1.2 pix.length:=by unfold spF; rw[hI.fst]
 have hB:yl7 [spF m (qg5 m (qc8 m x) pix).1] x=true↔∀c,c<(nL m 0).length->nR (spF m (qg5 m (qc8 m x) pix).1) c=(nI x c,1):=by
  unfold yl7
  rw[zaq]
  have e:w99 [spF m (qg5 m (qc8 m x) pix).1]=spF m (qg5 m (qc8 m x) pix).1:=rfl
  rw[e,show(spF m (qg5 m (qc8 m x) pix).1).length=(nL m 0).length by rw[hsp,q28]]
  simp
 rw[hB,hsp]
 constructor
 ·intro h
  have hv:∀j,j<pix.length->nR (qg5 m (qc8 m x) pix).1.2 j=(nI x (nI pix j).toNat,1):=λj hj=>by
   have hp:=hN.at_ j hj
   rw[<- w3g hN (v:=(qg5 m (qc8 m x) pix).1.2) _ (zac _) j hj]
   grind
  have hz:∀c,c<(nL m 0).length->(∀j,j<pix.length->nI pix j≠(c:Int))->nI x c=0:=λc hc hno=>by
   have:=xt5 hN (v:=(qg5 m (qc8 m x) pix).1.2) hc hno _ (zac _)
   grind
  have hpix:pix=qo7 (nL m 0).length (nI x):=w3h hN n1 λc hc=>by
   constructor
   ·rintro⟨j,hj,e⟩
    refine n4 c hc λq=>?_
    have:=(h1.each j (by rw[hI.len]; omega)).1
    grind
   grind
  refine Prod.ext (hI.fst.trans hpix) ?_
  show _=(qo7 (nL m 0).length (nI x)).map _
  rw[<- hpix]
  refine zbl (by rw[hI.len,za4]) λi h2 h3=>?_
  grind [q2b,qf3]
 ·intro e c hc
  have e1:pix=qo7 (nL m 0).length (nI x):=hI.fst.symm.trans (za1 Prod.fst e)
  have e2:(qg5 m (qc8 m x) pix).1.2=pix.map λj=>(nI x j.toNat,1):=by rw[e]; show(qo7 _ _).map _=_; grind
  by_cases q:∃j,j<pix.length/\nI pix j=(c:Int)
  ·obtain⟨j,hj,w⟩:=q
   have:=w3g hN (v:=(qg5 m (qc8 m x) pix).1.2) _ (zac _) j hj
   grind [Int.toNat_natCast,q2b,qf3]
  ·rw[xt5 hN hc (λj hj w=>q ⟨j,hj,w⟩) _ (zac _)]
   grind
theorem xv5 (m:List (List Int)) (x:List Int):agI m x<0↔∀h∈(qh9 m).1,agB h x=false:=by
 have h1:=qy8 (.list (.int .i64)) (λh=>agB h x) (qh9 m).1
 have h2:(agI m x<0)↔(decide (0<=ixT (.list (.int .i64)) (λh=>agB h x) (qh9 m).1)=false):=by
  rw[decide_eq_false_iff_not,zdr]; rfl
 grind
def yo9 (m:List (List Int)) (x:List Int):Bool:=decide (q7i m x=0) && decide (agI m x<0)
theorem x3u {m:List (List Int)} {x:List Int} (hF:xy3 m) (he:q7i m x=0) (hk:nzTo x x.length<=ordL m):yo9 m x=true:=by
 have hS:=Shw.of he
 have hn:=hF.n7 hS.val
 have hs:yo9 m x=decide (agI m x<0):=by grind [yo9,decide_eq_true]
 rw[hs]
 refine zcq ((xv5 m x).2 λh hh=>?_)
 obtain⟨n1,n2⟩:=qf5 (nI x) (nL m 0).length
 have n4:=qo2 (nI x) (nL m 0).length
 have hlen:(qo7 (nL m 0).length (nI x)).length<=ordL m:=by rw[q0x,<- q5c,<- hS.len]; omega
 have hsafe:=x9i hS.val hn n1 hlen
 have hO:yo7 (qh9 m).1 (qo7 (nL m 0).length (nI x)):=⟨q74 hS.val,λi hi=>by
  obtain⟨s,hc⟩:=q3j hS.val hn hi
  exact w09 hS.val hc n1⟩
 obtain⟨i,hi,rfl⟩:=zbu hh
 obtain⟨s,hc⟩:=q3j hS.val hn hi
 rw[ql6 _ i hi] at hc
 have hsh:=w09 hS.val hc n1
 have hge:=(wr1 hO _ (zac _)).1 i hi
 rw[ql6 _ i hi] at hge
 have hq:=w3d (wj3 hsh).pos (x5v hS.val hn n1).pos hge hsafe
 rw[w3p hsh,decide_eq_false_iff_not] at hq
 have hin:=ym2 (qh9 m).1[i] (P:=qo7 (nL m 0).length (nI x)) (by rw[hc.len]; omega)
 generalize(qh9 m).1[i]=h at *
 have hmem:∀c,c<h.length->((c:Int)∈qo7 (nL m 0).length (nI x)↔nI x c≠0):=λc hcl=>by
  rw[w9m]
  constructor
  ·grind
  ·exact λq=>n4 c (by rw[<- hc.len]; omega) q
 have hsum:∀k,k<=h.length->qd7 (x3k h x k)<=(sm k λc=>if(c:Int)∈qo7 (nL m 0).length (nI x) then qd7 (nI h c) else 0)/\wr7 h x k+(sm k λc=>if(c:Int)∈qo7 (nL m 0).length (nI x) then qd7 (nI h c) else 0)=wb9 h k:=λk=>by
  induction k with
  | zero=>exact λ_=>⟨zbs 0,rfl⟩
  | succ k ih=>
   intro hk2
   obtain⟨a1,a2⟩:=ih ow
   have hmk:=hmem k ow
   rw[x3k,wr7,wb9,sm]
   unfold qd7 at *
   grind
 obtain⟨s1,s2⟩:=hsum h.length (zac _)
 rw[<- hin] at s1 s2
 unfold agB
 refine zep ?_
 have e:szL h=wb9 h h.length:=rfl
 omega
def nrQ (f:Fit):Int × Int:=ofR (nmN f.2 f.2.length) (nmD f.2 f.2.length)
def dn (d:Int):Int:=if d<1 then 1 else d
def q66 (a b:Int × Int):Int:=wj0 (a.1,dn a.2) (b.1,dn b.2)
def xv6 (out:List Fit) (f:Fit):List Fit:=if out=[]\/q66 (nrQ f) (nrQ (nF out 0))<0 then[f] else if q66 (nrQ f) (nrQ (nF out 0))=0 then out++[f] else out
def qf9 (L:List Fit):Nat->List Fit
 | 0=>[]
 | k+1=>xv6 (qf9 L k) (nF L k)
def xv7 (L:List Fit):List Fit:=qf9 L L.length
theorem xv8 (out:List Fit) (f:Fit):(xv6 out f).length<=out.length+1/\∀x∈xv6 out f,x∈out\/x=f:=by
 grind [xv6,List.mem_singleton]
theorem q6e (L:List Fit):∀k,k<=L.length->(qf9 L k).length<=k/\∀x∈qf9 L k,x∈L
 | 0,_=>⟨zac _,λx hx=>by cases hx⟩
 | k+1,hk=>by
  obtain⟨h1,h2⟩:=q6e L k ow
  obtain⟨k1,k2⟩:=xv8 (qf9 L k) (nF L k)
  rw[qf9]
  refine⟨ow,λx hx=>?_⟩
  rcases k2 x hx with q | rfl
  all_goals grind [wj8]
theorem xv9 (L:List Fit) (k:Nat):0<(qf9 L (k+1)).length:=by
 rw[qf9]; unfold xv6
 grind
structure ya7 (f:Fit):Prop where
 dn:DnP f.2
 nm:NmOk f
 n0:0<=(nrQ f).1
 n1:(nrQ f).1<=5760000000
 d0:1<=(nrQ f).2
 d1:(nrQ f).2<=160
theorem ym3 {m:List (List Int)} {y:List Int} {k:Int} {f:Fit} (h:f∈qe0 m y k):ya7 f:=by
 obtain⟨hm,_,_,pix,h1,rfl⟩:=x5w h
 have hI:=qn7 h1
 have hA:=Asked.of hI.chk
 have h6:=hA.msk.rows6
 have hr:=hI.rows
 obtain⟨E,e0,e1,hE⟩:=xr5 h1
 have hdn:DnP (qg5 m y pix).1.2:=⟨by rw[hI.len]; omega,λj hj=>by
  obtain⟨_,_,_,hv,_⟩:=hE j hj
  simp_all [q7h,Bool.and_eq_true,decide_eq_true_eq]⟩
 obtain⟨X,hX⟩:∃X:Nat->Int,∀j,j<(qg5 m y pix).1.2.length->(X j).natAbs<=960000000/\(nR (qg5 m y pix).1.2 j).1*E=X j*(nR (qg5 m y pix).1.2 j).2:=
  ⟨λj=>if hj:j<(qg5 m y pix).1.2.length then Classical.choose (hE j hj) else 0,λj hj=>by
   grind⟩
 have hlen:=hdn.len
 obtain⟨b1,b2⟩:=hdn.bd _ (zac _)
 obtain⟨p0,p1⟩:=w9o (V:=(qg5 m y pix).1.2) (β:=X) e0 _ λj hj=>⟨(hm.each j hj).2,(hX j hj).2⟩
 have hS:(sm (qg5 m y pix).1.2.length λj=>qd7 (X j)).natAbs<=(qg5 m y pix).1.2.length*960000000:=xn7 λj hj=>by
  grind [qd7]
 unfold nrQ at *
 generalize(qg5 m y pix).1=f at *
 obtain⟨P,Q,g,q1,q2,q3,q4,q5,q6⟩:=ws1 b2.1 p0
 have hP:(P:Int)*E=(sm f.2.length λj=>qd7 (X j))*Q:=by
  rw[q2,q3] at p1
  have:(g:Int)*((P:Int)*E)=g*((sm f.2.length λj=>qd7 (X j))*Q):=by grind
  grind [Int.eq_of_mul_eq_mul_left]
 generalize(sm f.2.length λj=>qd7 (X j))=S at *
 have hn:P*E.natAbs=S.natAbs*Q:=by
  have:=za1 Int.natAbs hP
  grind [Int.natAbs_mul,Int.natAbs_natCast]
 have d1:Q∣E.natAbs:=q6.symm.dvd_of_dvd_mul_left ⟨S.natAbs,by grind⟩
 have d2:P∣S.natAbs:=q6.dvd_of_dvd_mul_right ⟨E.natAbs,hn.symm⟩
 have l1:=zdc ow d1
 have l2:P<=S.natAbs:=by
  rcases zbt S.natAbs with z | z
  ·rw[z,zdk] at hn
   grind [Nat.mul_eq_zero]
  simp_all [Nat.le_of_dvd]
 refine⟨hdn,hm,?_,?_,?_,?_⟩ <;> (grind [nrQ,q1])
theorem x3v {f g:Fit} (hf:ya7 f) (hg:ya7 g):(q66 (nrQ f) (nrQ g)<0↔¬leF g f)/\(q66 (nrQ f) (nrQ g)=0↔leF f g/\leF g f):=by
 have f1:=hf.d0
 have g1:=hg.d0
 have e1:dn (nrQ f).2=(nrQ f).2:=zaj ow
 have e2:dn (nrQ g).2=(nrQ g).2:=zaj ow
 obtain⟨P,Q,a,q1,q2,q3,q4,_,_⟩:=ws1 (hf.dn.bd _ (zac _)).2.1 hf.nm.pos
 obtain⟨P',Q',b,r1,r2,r3,r4,_,_⟩:=ws1 (hg.dn.bd _ (zac _)).2.1 hg.nm.pos
 unfold q66 leF
 rw[e1,e2,show nrQ f=((P:Int),(Q:Int)) from q1,show nrQ g=((P':Int),(Q':Int)) from r1,q2,q3,r2,r3]
 have hab:(0:Int)<(a*b:Nat):=by have:=Nat.mul_pos q4 r4; omega
 have m1:((P*a:Nat):Int)*((Q' * b:Nat):Int)=(P:Int)*Q' * (a*b:Nat):=by grind
 have m2:((P' * b:Nat):Int)*((Q*a:Nat):Int)=(P':Int)*Q*(a*b:Nat):=by grind
 rw[m1,m2]
 have c1:∀u v:Int,u*(a*b:Nat)<=v*(a*b:Nat)↔u<=v:=λu v=>⟨λh=>zc0 h hab,λh=>zai h ow⟩
 rw[c1,c1]
 grind [wj0]
theorem w6t {L:List Fit} (hL:∀f∈L,ya7 f) (hn:L.Nodup):∀k,k<=L.length->Gath leK (L.take k) (qf9 L k)/\(qf9 L k).Nodup
 | 0,_=>⟨Gath.nil leK,List.nodup_nil⟩
 | k+1,hk=>by
  obtain⟨h1,h2⟩:=w6t hL hn k ow
  have hkm:=q6e L k ow
  have hf:nF L k∈L:=wj8 ow
  have hnew:∀x∈qf9 L k,x≠nF L k:=λx hx e=>by
   have hx2:=(h1.least x hx).1
   grind [xm3,List.mem_iff_getElem,List.length_take,List.pairwise_iff_getElem]
  have e:L.take (k+1)=L.take k++[nF L k]:=by grind [List.take_add_one,List.getElem?_eq_getElem,xm3]
  have hc:∀g∈qf9 L k,(q66 (nrQ (nF L k)) (nrQ g)<0↔¬leK g (nF L k))/\(q66 (nrQ (nF L k)) (nrQ g)=0↔leK (nF L k) g/\leK g (nF L k)):=λg hg=>by
   have k1:=hL _ hf
   have k2:=hL _ (hkm.2 g hg)
   rw[x3p k1.nm k2.nm,x3p k2.nm k1.nm]
   grind [x3v]
  rw[e,qf9]
  by_cases h0:qf9 L k=[]
  ·have eS:xv6 (qf9 L k) (nF L k)=[nF L k]:=by simp_all [xv6,if_pos]
   rw[eS]
   exact⟨Gath.step (le:=leK) (λa=>zbs _) wb6 h1 (nF L k) (λ_=>rfl) (λg hg=>by grind) (λg hg=>by simp) (λg hg=>by grind) λa b=>zd7 (_*_) _,by simp⟩
  ·have hlen:0<(qf9 L k).length:=zdz.2 h0
   have hg0:nF (qf9 L k) 0∈qf9 L k:=wj8 hlen
   have hall:∀g∈qf9 L k,(leK (nF L k) g↔leK (nF L k) (nF (qf9 L k) 0))/\(leK g (nF L k)↔leK (nF (qf9 L k) 0) (nF L k)):=λg hg=>by
    obtain⟨q1,q2⟩:=h1.least g hg
    obtain⟨r1,r2⟩:=h1.least _ hg0
    grind [wb6,q2,q1]
   obtain⟨c1,c2⟩:=hc _ hg0
   have eS:xv6 (qf9 L k) (nF L k)=if q66 (nrQ (nF L k)) (nrQ (nF (qf9 L k) 0))<0 then[nF L k] else if q66 (nrQ (nF L k)) (nrQ (nF (qf9 L k) 0))=0 then qf9 L k++[nF L k] else qf9 L k:=by
    unfold xv6
    grind
   refine⟨Gath.step (le:=leK) (λa=>zbs _) wb6 h1 (nF L k) (λq=>absurd q h0) (λg hg q=>?_) (λg hg q=>?_) (λg hg q1 q2 x=>?_) λa b=>zd7 (_*_) _,?_⟩
   ·have q:=λw=>q ((hall g hg).1.2 w)
    have t:leK (nF (qf9 L k) 0) (nF L k):=(zd7 _ _).resolve_left q
    grind
   all_goals grind
theorem w6u {m:List (List Int)} {y:List Int} (h7:(nL m 0).length<=7):Gath leF (qe0 m y 10) (xv7 (qe0 m y 10))/\(xv7 (qe0 m y 10)).Nodup:=by
 have hn:(qe0 m y 10).Nodup:=(List.pairwise_map.1 (wj7 y 10 h7)).imp λq e=>q (by rw[e])
 have hok:∀f∈qe0 m y 10,ya7 f:=λf hf=>ym3 hf
 obtain⟨h1,h2⟩:=w6t hok hn _ (zac _)
 rw[zel] at h1
 refine⟨⟨h1.none,h1.some,λf hf=>?_,λf hf hg=>?_⟩,h2⟩
 ·obtain⟨k1,k2⟩:=h1.least f hf
  exact⟨k1,λg hg=>(x3p (hok f k1).nm (hok g hg).nm).1 (k2 g hg)⟩
 ·exact h1.all f hf λg hq=>(x3p (hok f hf).nm (hok g hq).nm).2 (hg g hq)
open Go Go.Proofs Go.RowKit Eng
structure CmP (a:Int × Int):Prop where
 n0:0<=a.1
 n1:a.1<=10000000000
 d0:0<=a.2
 d1:a.2<=400
abbrev ym4:qa8:=qd9 true none [qx2,qx2] [qc0] (λx=>CmP x.1/\CmP x.2.1) (λx=>(q66 x.1 x.2.1,()))
theorem x3w (u v:Int):qx8 (spl u) (spl v)=if u=v then 0 else if u<v then -1 else 1:=by
 unfold qx8 spl hiU loU
 omega
theorem CmP.prd {a:Int × Int} (ha:CmP a) {d:Int} (h0:0<=d) (h1:d<=400):qw4 a.1 d:=by
 obtain⟨a1,a2,a3,a4⟩:=ha
 have hB:BIG=4000000000000000000:=rfl
 refine⟨?_,?_,?_⟩
 all_goals grind
theorem w3r:Meets Tryz.prog 173 ym4:=by
 refine mt0 (SpecsOk.cons w88 (SpecsOk.cons q21 (SpecsOk.nil _))) Tryz.func173 ?_
 rintro⟨⟨a,b⟩,⟨c,d⟩,⟨⟩⟩ h
 revert a b c d
 intro(a:Int) (b:Int) (c:Int) (d:Int) (h:CmP (a,b)/\CmP (c,d))
 refine vcs (let Q0:=((spl (c*b)).1,(spl (c*b)).2); let Q1:=((spl (a*d)).1,(spl (a*d)).2); (decide (b<(1:Int))=true->(decide (d<(1:Int))=true->qw4 a (1:Int)/\qw4 c (1:Int)/\True/\qx8 ((spl (a*(1:Int))).1,(spl (a*(1:Int))).2) ((spl (c*(1:Int))).1,(spl (c*(1:Int))).2)=q66 (a,b) (c,d))/\(decide (d<(1:Int))=false->qw4 a d/\qw4 c (1:Int)/\True/\qx8 Q1 ((spl (c*(1:Int))).1,(spl (c*(1:Int))).2)=q66 (a,b) (c,d)))/\(decide (b<(1:Int))=false->(decide (d<(1:Int))=true->qw4 a (1:Int)/\qw4 c b/\True/\qx8 ((spl (a*(1:Int))).1,(spl (a*(1:Int))).2) Q0=q66 (a,b) (c,d))/\(decide (d<(1:Int))=false->qw4 a d/\qw4 c b/\True/\qx8 Q1 Q0=q66 (a,b) (c,d)))) ?_
 obtain⟨h1,h2⟩:=h
 have key:∀x y:Int,x=dn b->y=dn d->qx8 ((spl (a*y)).1,(spl (a*y)).2) ((spl (c*x)).1,(spl (c*x)).2)=q66 (a,b) (c,d):=λx y hx hy=>by
  subst hx hy
  exact x3w _ _
 have b1:b<1->1=dn b:=λq=>(zam q).symm
 have b2:1<=b->b=dn b:=λq=>(zaj ow).symm
 have d1:d<1->1=dn d:=λq=>(zam q).symm
 have d2:1<=d->d=dn d:=λq=>(zaj ow).symm
 have e1:qw4 a 1:=h1.prd dc dc
 have e2:qw4 c 1:=h2.prd dc dc
 have e3:qw4 a d:=h1.prd h2.d0 h2.d1
 have e4:qw4 c b:=h2.prd h1.d0 h1.d1
 grind
theorem w3s:Meets Tryz.prog 123 ym4:=by
 refine mt0 (SpecsOk.cons w3r (SpecsOk.nil _)) Tryz.func123 ?_
 rintro⟨⟨a,b⟩,⟨c,d⟩,⟨⟩⟩ h
 revert a b c d
 intro(a:Int) (b:Int) (c:Int) (d:Int) (h:CmP (a,b)/\CmP (c,d))
 refine vcr ((CmP (a,b)/\CmP (c,d))/\q66 (a,b) (c,d)=q66 (a,b) (c,d)) ?_
 grind
abbrev y6d:qa8:=qd9 false none [tQ] [w8s] (λx=>q1y x.1.1 x.1.2 10=0->qk5 x.1.1 x.1.2 10) (λx=>((qh3 x.1.1 x.1.2 10).1,()))
theorem xw0:Meets Tryz.prog 120 y6d:=by
 refine mt0 (SpecsOk.cons w2s (SpecsOk.nil _)) Tryz.func120 ?_
 rintro⟨⟨m,y⟩,⟨⟩⟩ h
 revert m y
 intro(m:List (List Int)) (y:List Int) (h:q1y m y 10=0->qk5 m y 10)
 refine vcr ((q1y m y (10:Int)=(0:Int)->qk5 m y (10:Int))/\(qh3 m y (10:Int)).1=(qh3 m y (10:Int)).1) ?_
 grind
structure w6v (m:List (List Int)) (f:Fit):Prop where
 pos:0<m.length
 spr:x3i (nL m 0).length f.1 f.2
abbrev y6e:qa8:=qd9 true (some 43) [tQ,qt5] [q3b] (λx=>w6v x.1.1 x.2.1) (λx=>(spF x.1.1 x.2.1,()))
theorem xw1:Meets Tryz.prog 118 y6e:=by
 refine mt0 (SpecsOk.cons xu7 (SpecsOk.nil _)) Tryz.func118 ?_
 rintro⟨⟨m,y⟩,⟨p,v⟩,⟨⟩⟩ h
 revert m y p v
 intro(m:List (List Int)) (y:List Int) (p:List Int) (v:List (Int × Int)) (h:w6v m (p,v))
 refine vcs (((0:Int)<=(0:Int)/\(0:Int)<(↑m.length:Int))/\x3i (↑(nL m (0:Nat)).length:Int) p v/\wc8 (↑(nL m (0:Nat)).length:Int).toNat p v p.length=spF m (p,v)) ?_
 have:=h.pos
 exact⟨ow,h.spr,rfl⟩
set_option maxRecDepth 100000 in
theorem xw2 {x:Int} (h:x=0\/x=1) (w:World):Calls Tryz.prog 232 #[.int .u64 x] w λe w'=>e=.returned (.int .i64 x)/\w=w':=by
 rcases h with rfl | rfl <;> (go_enter Tryz.func232,Tryz.ntmps232; go_wp2; go_ret)
 ·exact⟨za1 (λz=>Ending.returned (Value.int .i64 z)) (show wrap64 (wrap64 (Lib.len8 0))=0 by decide +kernel),rfl⟩
 ·exact⟨za1 (λz=>Ending.returned (Value.int .i64 z)) (show wrap64 (wrap64 (Lib.len8 1))=1 by decide +kernel),rfl⟩
theorem len_any {x:Int} (h:x=0\/x=1) (w:World):Calls Tryz.prog 175 #[.int .u64 x] w λe w'=>e=.returned (.int .i64 x)/\w=w':=by
 go_enter Tryz.func175,Tryz.ntmps175
 go_wp2_with fail
 refine(xw2 h w).mono ?_
 rintro e w1 ⟨rfl,rfl⟩
 go_wp2
 go_ret
 simp
abbrev sLen:qa8:=qd9 true none [tU64] [qc0] (λx=>x.1=0\/x.1=1) (λx=>(x.1,()))
theorem xw3:Meets Tryz.prog 175 sLen:=q2r ⟨_,_,Tryz.func175,rfl,rfl⟩ λw m x vs hm hp hx=>by
 obtain⟨x,⟨⟩⟩:=x
 obtain⟨u,rest,rfl,h1,rfl⟩:=hx
 obtain rfl:u=.int .u64 x:=h1
 exact(len_any hp w).mono λe w' ⟨h1,h2⟩=>⟨_,h1,by grind [Below.refl],[_],rfl,_,[],rfl,rfl,rfl⟩
abbrev x9k:PTy:=.fn [qt5,qt5] qc0
abbrev y1h (fs:List (Nat × qa8)):qa8:=hspec fs true none [.d w8s,.d qc0,.d qc0,x9k] [] (λx=>x.2.1=0/\x.2.2.1<=1) (λ_=>())
def ym5:Nat->Option Inv
 | 0=>some (Inv.of [8] 0 (λk:Nat=>[(8,.lit (.int .i64 k))]) (λ_=>[]) (λk=>k=1) (λ_=>0))
 | _=>none
theorem w9u {fs:List (Nat × qa8)} (hfs:SpecsOk Tryz.prog fs):Meets Tryz.prog 223 (y1h fs):=by
 refine ql2 hfs (snd (SpecsOk.nil _)) Tryz.func223 rfl rfl (λ_=>ym5) (λ_=>by kernel_rfl) dc ?_
 rintro⟨l,a,b,⟨p,f⟩,⟨⟩⟩ h
 revert l a b p f
 intro(l:List Fit) (a:Int) (b:Int) (p:qa3 [qt5,qt5]->Prop) (f:qa3 [qt5,qt5]->Int) (h:a=0/\b<=1)
 refine vcs (fits .i64 (a+(1:Int))/\∃(v0:Unit),∃(v1:Nat),v1=(1:Nat)/\((a+(1:Int)=(↑v1:Int)/\True)/\True)/\∀(v2:Nat),v2=(1:Nat)->(decide ((↑v2:Int)<b)=true->False)/\(decide ((↑v2:Int)<b)=false->True)) ?_
 obtain⟨rfl,hb⟩:=h
 exact⟨qa7 dc dc,(),1,rfl,rfl,λk hk hlt=>by omega⟩
abbrev y1i (fs:List (Nat × qa8)):qa8:=hspec fs true none [.d w8s,.d qc0,.d qc0,.d qc0,x9k] [] (λx=>x.2.1=0/\0<=x.2.2.1/\x.2.2.1<=1) (λ_=>())
def ym6 (n:Int):Nat->Option Inv
 | 0=>some (Inv.of [1,2] 0 (λ_:Nat=>[(1,.lit (.int .i64 0)),(2,.lit (.int .i64 n))]) (λ_=>[]) (λk=>k=0) (λ_=>0))
 | _=>none
theorem w9v {fs:List (Nat × qa8)} (hfs:SpecsOk Tryz.prog fs):Meets Tryz.prog 174 (y1i fs):=by
 refine ql2 hfs (snd (SpecsOk.cons (w9u (fs:=fs) hfs) (SpecsOk.nil _))) Tryz.func174 rfl rfl (λx=>ym6 x.2.2.1) (λ_=>by kernel_rfl) dc ?_
 rintro⟨l,a,b,c,⟨p,f⟩,⟨⟩⟩ h
 revert l a b c p f
 intro(l:List Fit) (a:Int) (b:Int) (c:Int) (p:qa3 [qt5,qt5]->Prop) (f:qa3 [qt5,qt5]->Int) (h:a=0/\0<=b/\b<=1)
 refine vcs (∃(v0:Unit),∃(v1:Nat),v1=(0:Nat)/\((a=(0:Int)/\b=b/\True)/\True)/\∀(v2:Nat),v2=(0:Nat)->fits .i64 (b-(0:Int))/\(decide (b-(0:Int)<=(12:Int))=true->∃(v5:qa3 [qt5,qt5]->Prop),∃(v6:qa3 [qt5,qt5]->Int),([qt5,qt5]=[qt5,qt5]/\qc0=qc0/\p ≍ v5/\f ≍ v6)/\((0:Int)=(0:PTy.den (PTy.d qc0))/\b<=(1:PTy.den (PTy.d qc0)))/\True)/\(decide (b-(0:Int)<=(12:Int))=false->False)) ?_
 obtain⟨rfl,h0,h1⟩:=h
 exact⟨(),0,rfl,rfl,λk hk=>⟨qa7,λ_=>⟨p,f,⟨HEq.rfl,HEq.rfl⟩,h1⟩,λq=>by omega⟩⟩
abbrev y1j (fs:List (Nat × qa8)):qa8:=hspec fs true none [.d w8s,x9k] [] (λx=>x.1.length<=1) (λ_=>())
theorem w9w {fs:List (Nat × qa8)} (hfs:SpecsOk Tryz.prog fs):Meets Tryz.prog 124 (y1j fs):=by
 refine ql2 hfs (snd (SpecsOk.cons xw3 (SpecsOk.cons (w9v (fs:=fs) hfs) (SpecsOk.nil _)))) Tryz.func124 rfl rfl (λ_ _=>none) (λ_=>by kernel_rfl) dc ?_
 rintro⟨l,⟨p,f⟩,⟨⟩⟩ h
 revert l p f
 intro(l:List Fit) (p:qa3 [qt5,qt5]->Prop) (f:qa3 [qt5,qt5]->Int) (h:l.length<=1)
 refine vcs (fits IntKind.u64 (↑l.length:Int)/\((↑l.length:Int)=(0:Ty.den tU64)\/(↑l.length:Int)=(1:Ty.den tU64))/\∃(v0:qa3 [qt5,qt5]->Prop),∃(v1:qa3 [qt5,qt5]->Int),([qt5,qt5]=[qt5,qt5]/\qc0=qc0/\p ≍ v0/\f ≍ v1)/\((0:Int)=(0:PTy.den (PTy.d qc0))/\(0:PTy.den (PTy.d qc0))<=(↑l.length:Int)/\(↑l.length:Int)<=(1:PTy.den (PTy.d qc0)))/\True) ?_
 exact⟨w2z ow ow,ow,p,f,⟨HEq.rfl,HEq.rfl⟩,ow⟩
abbrev y6f:Ty:=.prod tQ (.prod qx2 w8s)
abbrev Ans:=(List (List Int) × List Int) × (Int × Int) × List Fit
abbrev ym7:qa8:=qd9 true none [qt5,qt5] [qc0] (λ_=>False) (λ_=>(0,()))
theorem w9x:Meets Tryz.prog 125 ym7:=q2r ⟨_,_,Tryz.func125,rfl,rfl⟩ λw m x vs hm hp hx=>hp.elim
def nmS (x:List (Int × Int)):(Int × Int) × (Int × Int):=(spl (nmN x x.length),spl (nmD x x.length))
def rtQ (s:(Int × Int) × (Int × Int)):Int × Int:=ofR (val s.1) (val s.2)
abbrev y1k:qa8:=qd9 true none [q3b] [x9d] (λx=>DnP x.1) (λx=>(nmS x.1,()))
theorem w9y:Meets Tryz.prog 121 y1k:=w9t
abbrev y6g:qa8:=qd9 true none [x9d] [qx2,.bool] (λx=>RtP x.1) (λx=>(rtQ x.1,true,()))
theorem xw4:Meets Tryz.prog 122 y6g:=xv4
theorem ym8 (f:Fit):rtQ (nmS f.2)=nrQ f:=by
 grind [rtQ,nmS,nrQ,q0v]
def yp0:Ans:=(([],[]),(0,0),[])
def yp1 (m:List (List Int)) (y:List Int):Ans:=((m,y),nrQ (nF (xv7 (qe0 m y 10)) 0),xv7 (qe0 m y 10))
def w1h (m:List (List Int)) (y:List Int):Ans × Int:=if qq8 m y []≠0 then(yp0,qq8 m y []) else if xv7 (qe0 m y 10)=[] then(yp0,10) else(yp1 m y,0)
structure x9l (m:List (List Int)) (y:List Int):Prop where
 pre:qq8 m y []=0->qk5 m y 10
 nq:qq8 m y []=0->∀f∈qe0 m y 10,ya7 f
 one:qq8 m y []=0->(xv7 (qe0 m y 10)).length<=1
def y3r (m:List (List Int)) (y:List Int) (q:Int × Int) (c:AV):AV:=.cons (.dat (.list (.int .i64)) m) (.cons (.dat (.int .i64) y) (.cons (.lit (.int .i64 q.1)) (.cons (.lit (.int .i64 q.2)) (.cons c .nil))))
def y6h:AV:=.cons (.lit (.slice none 0 0)) (.cons (.lit (.slice none 0 0)) (.cons (.lit (.int .i64 0)) (.cons (.lit (.int .i64 0)) (.cons (.lit (.slice none 0 0)) .nil))))
abbrev y6i:qa8:=qd9 false none [qg1,qf1] [y6f,qc0] (λx=>x9l x.1 x.2.1) (λx=>((w1h x.1 x.2.1).1,(w1h x.1 x.2.1).2,()))
def y1l:Option Inv:=some (Inv.of [] 1 (λ_:Nat=>[]) (λ_=>[]) (λ_=>False) (λ_=>0))
def y1m (m:List (List Int)) (y:List Int) (L:List Fit):Nat->Option Inv
 | 0=>some (Inv.of [28] 11 (λk:Nat=>[(28,.lit (.int .i64 k))]) (λk=>[.box 110 y6h,.box 110 (y3r m y (nrQ (nF (qf9 L k) 0)) (.own 6)),.dead,.dead,.dead,.dead,.vec 55 qt5 (qf9 L k),.dead,.dead,.dead,.dead]) (λk=>1<=k/\k<=L.length) (λk=>L.length-k))
 | 5000=>y1l
 | 6000=>y1l
 | 900000=>y1l
 | _=>none
theorem xw5:Meets Tryz.prog 77 y6i:=by
 refine meets (y3f [53] (SpecsOk.cons q82 (SpecsOk.cons xw0 (SpecsOk.cons w9y (SpecsOk.cons xw4 (SpecsOk.cons w3s (SpecsOk.cons (w9w (fs:=[(125,ym7)]) (SpecsOk.cons w9x (SpecsOk.nil _))) (SpecsOk.nil _)))))))) Tryz.func77 rfl rfl (λx=>y1m x.1 x.2.1 (qe0 x.1 x.2.1 10)) (λ_=>by kernel_rfl) dc ?_
 rintro⟨m,y,⟨⟩⟩ h
 revert m y
 intro(m:List (List Int)) (y:List Int) (h:x9l m y)
 refine vcs (let Q0:=w1h m y; Value.slice none (0:Nat) (0:Nat)=Value.slice none (0:Nat) (0:Nat)/\(0:Nat)<=(1000000:Nat)/\((qq8 m y [] != (0:Int))=true->(Q0.1.1.1=[]/\Q0.1.1.2=[]/\(0:Int)=Q0.1.2.1.1/\(0:Int)=Q0.1.2.1.2/\Q0.1.2.2=[]/\True)/\qq8 m y []=Q0.2/\True)/\((qq8 m y [] != (0:Int))=false->(q1y m y (10:Int)=(0:Int)->qk5 m y (10:Int))/\(decide ((0:Int)<(↑(qh3 m y (10:Int)).1.length:Int))=true->((0:Int)<=(0:Int)/\(0:Int)<(↑(qh3 m y (10:Int)).1.length:Int))/\DnP (nF (qh3 m y (10:Int)).1 (0:Nat)).2/\RtP ((nmS (nF (qh3 m y (10:Int)).1 (0:Nat)).2).1,(nmS (nF (qh3 m y (10:Int)).1 (0:Nat)).2).2.1,(nmS (nF (qh3 m y (10:Int)).1 (0:Nat)).2).2.2)/\(CmP (rtQ ((nmS (nF (qh3 m y (10:Int)).1 (0:Nat)).2).1,(nmS (nF (qh3 m y (10:Int)).1 (0:Nat)).2).2.1,(nmS (nF (qh3 m y (10:Int)).1 (0:Nat)).2).2.2))/\CmP ((0:Int),(0:Int)))/\fits .i64 (1:Int)/\∃(v2:Unit),∃(v3:Nat),((1:Nat)<=v3/\Nat.le v3 (qe0 m y (10:Int)).length)/\(((1:Int)=(↑v3:Int)/\True)/\(Value.slice none (0:Nat) (0:Nat)=Value.slice none (0:Nat) (0:Nat)/\Value.slice none (0:Nat) (0:Nat)=Value.slice none (0:Nat) (0:Nat)/\(0:Int)=(0:Int)/\(0:Int)=(0:Int)/\Value.slice none (0:Nat) (0:Nat)=Value.slice none (0:Nat) (0:Nat)/\True)/\(m=m/\y=y/\(rtQ ((nmS (nF (qh3 m y (10:Int)).1 (0:Nat)).2).1,(nmS (nF (qh3 m y (10:Int)).1 (0:Nat)).2).2.1,(nmS (nF (qh3 m y (10:Int)).1 (0:Nat)).2).2.2)).1=(nrQ (nF (qf9 (qe0 m y (10:Int)) v3) (0:Nat))).1/\(rtQ ((nmS (nF (qh3 m y (10:Int)).1 (0:Nat)).2).1,(nmS (nF (qh3 m y (10:Int)).1 (0:Nat)).2).2.1,(nmS (nF (qh3 m y (10:Int)).1 (0:Nat)).2).2.2)).2=(nrQ (nF (qf9 (qe0 m y (10:Int)) v3) (0:Nat))).2/\True/\True)/\True/\True/\True/\True/\[(nF (qh3 m y (10:Int)).1 (0:Nat))]=qf9 (qe0 m y (10:Int)) v3/\True/\True/\True/\True/\True)/\∀(v4:Nat),(1:Nat)<=v4/\Nat.le v4 (qe0 m y (10:Int)).length->(decide ((↑v4:Int)<(↑(qh3 m y (10:Int)).1.length:Int))=true->((0:Int)<=(↑v4:Int)/\(↑v4:Int)<(↑(qh3 m y (10:Int)).1.length:Int))/\DnP (nF (qh3 m y (10:Int)).1 v4).2/\RtP ((nmS (nF (qh3 m y (10:Int)).1 v4).2).1,(nmS (nF (qh3 m y (10:Int)).1 v4).2).2.1,(nmS (nF (qh3 m y (10:Int)).1 v4).2).2.2)/\(CmP (rtQ ((nmS (nF (qh3 m y (10:Int)).1 v4).2).1,(nmS (nF (qh3 m y (10:Int)).1 v4).2).2.1,(nmS (nF (qh3 m y (10:Int)).1 v4).2).2.2))/\CmP (nrQ (nF (qf9 (qe0 m y (10:Int)) v4) (0:Nat))))/\(0:Nat)<(qf9 (qe0 m y (10:Int)) v4).length/\(decide (q66 (rtQ ((nmS (nF (qh3 m y (10:Int)).1 v4).2).1,(nmS (nF (qh3 m y (10:Int)).1 v4).2).2.1,(nmS (nF (qh3 m y (10:Int)).1 v4).2).2.2)) (nrQ (nF (qf9 (qe0 m y (10:Int)) v4) (0:Nat)))<(0:Int))=true->fits .i64 ((↑v4:Int)+(1:Int))/\∃(v8:Nat),((1:Nat)<=v8/\Nat.le v8 (qe0 m y (10:Int)).length)/\(qe0 m y (10:Int)).length-v8<(qe0 m y (10:Int)).length-v4/\((↑v4:Int)+(1:Int)=(↑v8:Int)/\True)/\(Value.slice none (0:Nat) (0:Nat)=Value.slice none (0:Nat) (0:Nat)/\Value.slice none (0:Nat) (0:Nat)=Value.slice none (0:Nat) (0:Nat)/\(0:Int)=(0:Int)/\(0:Int)=(0:Int)/\Value.slice none (0:Nat) (0:Nat)=Value.slice none (0:Nat) (0:Nat)/\True)/\(m=m/\y=y/\(rtQ ((nmS (nF (qh3 m y (10:Int)).1 v4).2).1,(nmS (nF (qh3 m y (10:Int)).1 v4).2).2.1,(nmS (nF (qh3 m y (10:Int)).1 v4).2).2.2)).1=(nrQ (nF (qf9 (qe0 m y (10:Int)) v8) (0:Nat))).1/\(rtQ ((nmS (nF (qh3 m y (10:Int)).1 v4).2).1,(nmS (nF (qh3 m y (10:Int)).1 v4).2).2.1,(nmS (nF (qh3 m y (10:Int)).1 v4).2).2.2)).2=(nrQ (nF (qf9 (qe0 m y (10:Int)) v8) (0:Nat))).2/\True/\True)/\True/\True/\True/\True/\[(nF (qh3 m y (10:Int)).1 v4)]=qf9 (qe0 m y (10:Int)) v8/\True/\True/\True/\True/\True)/\(decide (q66 (rtQ ((nmS (nF (qh3 m y (10:Int)).1 v4).2).1,(nmS (nF (qh3 m y (10:Int)).1 v4).2).2.1,(nmS (nF (qh3 m y (10:Int)).1 v4).2).2.2)) (nrQ (nF (qf9 (qe0 m y (10:Int)) v4) (0:Nat)))<(0:Int))=false->((q66 (rtQ ((nmS (nF (qh3 m y (10:Int)).1 v4).2).1,(nmS (nF (qh3 m y (10:Int)).1 v4).2).2.1,(nmS (nF (qh3 m y (10:Int)).1 v4).2).2.2)) (nrQ (nF (qf9 (qe0 m y (10:Int)) v4) (0:Nat)))==(0:Int))=true->((0:Nat)<List.length [(nF (qh3 m y (10:Int)).1 v4)]/\Nat.le ((qf9 (qe0 m y (10:Int)) v4).length+List.length [(nF (qh3 m y (10:Int)).1 v4)]) (1000000:Nat))/\fits .i64 ((↑v4:Int)+(1:Int))/\∃(v9:Nat),((1:Nat)<=v9/\Nat.le v9 (qe0 m y (10:Int)).length)/\(qe0 m y (10:Int)).length-v9<(qe0 m y (10:Int)).length-v4/\((↑v4:Int)+(1:Int)=(↑v9:Int)/\True)/\(Value.slice none (0:Nat) (0:Nat)=Value.slice none (0:Nat) (0:Nat)/\Value.slice none (0:Nat) (0:Nat)=Value.slice none (0:Nat) (0:Nat)/\(0:Int)=(0:Int)/\(0:Int)=(0:Int)/\Value.slice none (0:Nat) (0:Nat)=Value.slice none (0:Nat) (0:Nat)/\True)/\(m=m/\y=y/\(nrQ (nF (qf9 (qe0 m y (10:Int)) v4) (0:Nat))).1=(nrQ (nF (qf9 (qe0 m y (10:Int)) v9) (0:Nat))).1/\(nrQ (nF (qf9 (qe0 m y (10:Int)) v4) (0:Nat))).2=(nrQ (nF (qf9 (qe0 m y (10:Int)) v9) (0:Nat))).2/\True/\True)/\True/\True/\True/\True/\qf9 (qe0 m y (10:Int)) v4++[(nF (qh3 m y (10:Int)).1 v4)]=qf9 (qe0 m y (10:Int)) v9/\True/\True/\True/\True/\True)/\((q66 (rtQ ((nmS (nF (qh3 m y (10:Int)).1 v4).2).1,(nmS (nF (qh3 m y (10:Int)).1 v4).2).2.1,(nmS (nF (qh3 m y (10:Int)).1 v4).2).2.2)) (nrQ (nF (qf9 (qe0 m y (10:Int)) v4) (0:Nat)))==(0:Int))=false->fits .i64 ((↑v4:Int)+(1:Int))/\∃(v9:Nat),((1:Nat)<=v9/\Nat.le v9 (qe0 m y (10:Int)).length)/\(qe0 m y (10:Int)).length-v9<(qe0 m y (10:Int)).length-v4/\((↑v4:Int)+(1:Int)=(↑v9:Int)/\True)/\(Value.slice none (0:Nat) (0:Nat)=Value.slice none (0:Nat) (0:Nat)/\Value.slice none (0:Nat) (0:Nat)=Value.slice none (0:Nat) (0:Nat)/\(0:Int)=(0:Int)/\(0:Int)=(0:Int)/\Value.slice none (0:Nat) (0:Nat)=Value.slice none (0:Nat) (0:Nat)/\True)/\(m=m/\y=y/\(nrQ (nF (qf9 (qe0 m y (10:Int)) v4) (0:Nat))).1=(nrQ (nF (qf9 (qe0 m y (10:Int)) v9) (0:Nat))).1/\(nrQ (nF (qf9 (qe0 m y (10:Int)) v4) (0:Nat))).2=(nrQ (nF (qf9 (qe0 m y (10:Int)) v9) (0:Nat))).2/\True/\True)/\True/\True/\True/\True/\qf9 (qe0 m y (10:Int)) v4=qf9 (qe0 m y (10:Int)) v9/\True/\True/\True/\True/\True)))/\(decide ((↑v4:Int)<(↑(qh3 m y (10:Int)).1.length:Int))=false->(0:Nat)<(qf9 (qe0 m y (10:Int)) v4).length/\∃(v7:qa3 [qt5,qt5]->Prop),∃(v8:qa3 [qt5,qt5]->Int),(∀(v9:(List Int × List (Int × Int)) × qa3._f [qt5] ⟨qa3._f [] PUnit.unit,PUnit.unit⟩),v7 v9->False/\(0:Ty.den qc0)=v8 v9)/\(qf9 (qe0 m y (10:Int)) v4).length<=(1:Nat)/\(m=Q0.1.1.1/\y=Q0.1.1.2/\(nrQ (nF (qf9 (qe0 m y (10:Int)) v4) (0:Nat))).1=Q0.1.2.1.1/\(nrQ (nF (qf9 (qe0 m y (10:Int)) v4) (0:Nat))).2=Q0.1.2.1.2/\qf9 (qe0 m y (10:Int)) v4=Q0.1.2.2/\True)/\(0:Int)=Q0.2/\True))/\(decide ((0:Int)<(↑(qh3 m y (10:Int)).1.length:Int))=false->(Q0.1.1.1=[]/\Q0.1.1.2=[]/\(0:Int)=Q0.1.2.1.1/\(0:Int)=Q0.1.2.1.2/\Q0.1.2.2=[]/\True)/\(10:Int)=Q0.2/\True))) ?_
 have hR:w1h m y=if qq8 m y []≠0 then(yp0,qq8 m y []) else if xv7 (qe0 m y 10)=[] then(yp0,10) else(yp1 m y,0):=rfl
 refine⟨dc,λhe=>by rw[hR,zam he]; exact⟨⟨rfl,rfl,rfl,rfl,rfl⟩,rfl⟩,λhe=>⟨λ_=>h.pre he,?_⟩⟩
 have hL:(qh3 m y 10).1=qe0 m y 10:=by
  have hc:q1y m y 10=0:=by unfold q1y; rw[zam he]; rfl
  simp_all [qh3,if_pos]
 have hq:=h.nq he
 have h1:=h.one he
 have hlen:=(h.pre he).len
 rw[hL,hR,zaj (λq=>q he)]
 unfold yp1
 clear hR hL
 revert hq h1 hlen
 generalize qe0 m y 10=L
 intro hq h1 hlen
 have hn:∀k,k<L.length->DnP (nF L k).2/\RtP (nmS (nF L k).2)/\CmP (nrQ (nF L k)):=λk hk=>by
  have hk:=hq _ (wj8 hk)
  obtain⟨k1,k2,k3,k4,k5,k6⟩:=hk
  obtain⟨⟨b1,b2⟩,b3,b4⟩:=k1.bd _ (zac _)
  obtain⟨p1,p2⟩:=y1e (nF L k).2.length (by have:=k1.len; omega)
  refine⟨k1,⟨q65 b3 ow,q65 ow ow,?_,?_,?_,?_⟩,k3,ow,ow,ow⟩
  all_goals grind [nmS,q0v,rtQ,nF,ym8,Int.le_trans]
 have rt:∀k,rtQ (nmS (nF L k).2)=nrQ (nF L k):=λk=>ym8 _
 have keep:=q6e L
 have h0:CmP (0,0):=⟨dc,dc,dc,dc⟩
 refine⟨λhpos=>⟨hpos,(hn 0 ow).1,(hn 0 ow).2.1,⟨?_,h0⟩,?_⟩,λhz=>?_⟩
 ·grind
 ·have e1:qf9 L 1=[nF L 0]:=rfl
  refine⟨qa7 dc dc,(),1,⟨zac _,ow⟩,⟨rfl,⟨?_,?_⟩,rfl⟩,λk ⟨k1,k2⟩=>?_⟩
  ·show(rtQ (nmS (nF L 0).2)).1=_; rw[rt,e1]; rfl
  ·show(rtQ (nmS (nF L 0).2)).2=_; rw[rt,e1]; rfl
  obtain⟨j,rfl⟩:∃j,k=j+1:=⟨k-1,ow⟩
  have hpj:=xv9 L j
  obtain⟨c1,c2⟩:=keep (j+1) k2
  have hlt0:nF (qf9 L (j+1)) 0∈L:=c2 _ (wj8 hpj)
  have hne:qf9 L (j+1)≠[]:=zdz.1 hpj
  have hS:qf9 L (j+2)=xv6 (qf9 L (j+1)) (nF L (j+1)):=rfl
  unfold xv6 at hS
  refine⟨λhlt=>⟨hlt,(hn _ hlt).1,(hn _ hlt).2.1,⟨?_,?_⟩,hpj,λhc=>?_,λhc=>⟨λhd=>?_,λhd=>?_⟩⟩,λhge=>⟨hpj,?_⟩⟩
  ·grind
  ·have k:=hq _ hlt0
   exact⟨k.n0,by have:=k.n1; omega,by have:=k.d0; omega,by have:=k.d1; omega⟩
  ·have hc:q66 (rtQ (nmS (nF L (j+1)).2)) (nrQ (nF (qf9 L (j+1)) 0))<0:=hc
   rw[rt] at hc
   rw[zam (.inr hc)] at hS
   refine⟨qa7,j+2,⟨ow,ow⟩,ow,by rfl,⟨?_,?_⟩,hS.symm⟩
   ·show(rtQ (nmS (nF L (j+1)).2)).1=_; rw[rt,hS]; rfl
   ·show(rtQ (nmS (nF L (j+1)).2)).2=_; rw[rt,hS]; rfl
  ·have hc:0<=q66 (rtQ (nmS (nF L (j+1)).2)) (nrQ (nF (qf9 L (j+1)) 0)):=hc
   have hd:q66 (rtQ (nmS (nF L (j+1)).2)) (nrQ (nF (qf9 L (j+1)) 0))=0:=hd
   rw[rt] at hc hd
   rw[zaj (by grind),zam hd] at hS
   grind [nF,qf9,xm3,List.getElem_append_left,qa7]
  ·have hc:0<=q66 (rtQ (nmS (nF L (j+1)).2)) (nrQ (nF (qf9 L (j+1)) 0)):=hc
   have hd:¬q66 (rtQ (nmS (nF L (j+1)).2)) (nrQ (nF (qf9 L (j+1)) 0))=0:=hd
   rw[rt] at hc hd
   rw[zaj (by grind),zaj hd] at hS
   grind [qa7]
  ·have hA:qf9 L (j+1)=xv7 L:=by grind [xv7]
   rw[hA] at hne ⊢
   rw[zaj hne]
   exact⟨λ_=>False,λ_=>0,λ_ q=>q.elim,h1,⟨rfl,rfl,rfl,rfl,rfl⟩,rfl⟩
 ·have hA:xv7 L=[]:=by
   have:L=[]:=zay ow
   subst this; rfl
  rw[zam hA]
  exact⟨⟨rfl,rfl,rfl,rfl,rfl⟩,rfl⟩
structure yp2 (m:List (List Int)) (y:List Int):Prop where
 ask:x9l m y
 spr:∀f∈(w1h m y).1.2.2,w6v (w1h m y).1.1.1 f
theorem x3x {m:List (List Int)} {y:List Int} (h:x9l m y):(w1h m y).1.2.2.length<=1:=by
 unfold w1h
 split
 ·exact zaf _
 ·rename_i h0
  split
  ·exact zaf _
  ·exact h.one (Classical.not_not.1 h0)
def wc0 (m:List (List Int)) (y:List Int):List (List (Int × Int)) × Int:=((w1h m y).1.2.2.map (spF (w1h m y).1.1.1),(w1h m y).2)
abbrev y6j:qa8:=qd9 false none [qg1,qf1] [.list q3b,qc0] (λx=>yp2 x.1 x.2.1) (λx=>((wc0 x.1 x.2.1).1,(wc0 x.1 x.2.1).2,()))
def y1n (a:Ans):Nat->Option Inv
 | 0=>some (Inv.of [8,20] 2 (λk:Nat=>[(8,.own 1),(20,.lit (.int .i64 k))]) (λk=>[.box 110 (y3r a.1.1 a.1.2 a.2.1 (.dat qt5 a.2.2)),.vec 53 q3b ((a.2.2.take k).map (spF a.1.1))]) (λk=>k<=a.2.2.length) (λk=>a.2.2.length-k))
 | _=>none
theorem xw6:Meets Tryz.prog 75 y6j:=by
 refine mts (SpecsOk.cons xw5 (SpecsOk.cons xw1 (SpecsOk.nil _))) Tryz.func75 (λx=>y1n (w1h x.1 x.2.1).1) ?_
 rintro⟨m,y,⟨⟩⟩ h
 revert m y
 intro(m:List (List Int)) (y:List Int) (h:yp2 m y)
 refine vcs (let Q0:=w1h m y; let Q1:=spF Q0.1.1.1; x9l m y/\∃(v0:Unit),∃(v1:Nat),Nat.le v1 Q0.1.2.2.length/\((True/\(0:Int)=(↑v1:Int)/\True)/\(Q0.1.1.1=Q0.1.1.1/\Q0.1.1.2=Q0.1.1.2/\Q0.1.2.1.1=Q0.1.2.1.1/\Q0.1.2.1.2=Q0.1.2.1.2/\Q0.1.2.2=Q0.1.2.2/\True)/\List.map Q1 (List.take v1 Q0.1.2.2)=[]/\True)/\∀(v2:Nat),Nat.le v2 Q0.1.2.2.length->(decide ((↑v2:Int)<(↑Q0.1.2.2.length:Int))=true->((0:Int)<=(↑v2:Int)/\(↑v2:Int)<(↑Q0.1.2.2.length:Int))/\w6v Q0.1.1.1 (nF Q0.1.2.2 v2)/\((0:Nat)<(0:Nat)+(1:Nat)/\Nat.le ((List.map Q1 (List.take v2 Q0.1.2.2)).length+((0:Nat)+(1:Nat))) (1000000:Nat))/\fits .i64 ((↑v2:Int)+(1:Int))/\∃(v5:Nat),Nat.le v5 Q0.1.2.2.length/\Q0.1.2.2.length-v5<Q0.1.2.2.length-v2/\(True/\(↑v2:Int)+(1:Int)=(↑v5:Int)/\True)/\(Q0.1.1.1=Q0.1.1.1/\Q0.1.1.2=Q0.1.1.2/\Q0.1.2.1.1=Q0.1.2.1.1/\Q0.1.2.1.2=Q0.1.2.1.2/\Q0.1.2.2=Q0.1.2.2/\True)/\List.map Q1 (List.take v2 Q0.1.2.2)++[spF Q0.1.1.1 (nF Q0.1.2.2 v2)]=List.map Q1 (List.take v5 Q0.1.2.2)/\True)/\(decide ((↑v2:Int)<(↑Q0.1.2.2.length:Int))=false->List.map Q1 (List.take v2 Q0.1.2.2)=(wc0 m y).1/\Q0.2=(wc0 m y).2/\True)) ?_
 have hl:=x3x h.ask
 have hs:=h.spr
 refine⟨h.ask,?_⟩
 unfold wc0
 generalize w1h m y=R at *
 obtain⟨⟨⟨m',y'⟩,q,C⟩,e⟩:=R
 dsimp only at *
 refine⟨(),0,zaf _,⟨rfl,rfl⟩,λk hk=>⟨λhlt=>⟨hlt,hs _ (wj8 hlt),by grind,qa7,k+1,hlt,ow,by rfl,?_⟩,λhge=>?_⟩⟩
 ·grind [List.take_add_one,List.getElem?_eq_getElem,xm3]
 grind
def fdR (m:List (List Int)) (x:List Int):Bool × Int:=
 if q7i m x≠0 then(false,q7i m x) else if wx9 (qc8 m x)=true then(false,10) else if(wc0 m (qc8 m x)).2≠0\/(wc0 m (qc8 m x)).1.length≠1 then(false,(wc0 m (qc8 m x)).2) else(yl7 (wc0 m (qc8 m x)).1 x,0)
structure FdP (m:List (List Int)) (x:List Int):Prop where
 len:x.length<=1000
 crd:q7i m x=0->wx9 (qc8 m x)=false->yp2 m (qc8 m x)/\((wc0 m (qc8 m x)).2=0->(wc0 m (qc8 m x)).1.length=1->(w99 (wc0 m (qc8 m x)).1).length<=x.length)
def y6k (l:List (Int × Int)) (x:List Int):Nat->Option Inv
 | 0=>some (Inv.of [41] 0 (λk:Nat=>[(41,.lit (.int .i64 k))]) (λ_=>[]) (λk=>x3j l x k) (λk=>l.length-k))
 | _=>none
abbrev sFd:qa8:=qd9 true none [qg1,qf1] [.bool,qc0] (λx=>FdP x.1 x.2.1) (λx=>((fdR x.1 x.2.1).1,(fdR x.1 x.2.1).2,()))
theorem x3y:Meets Tryz.prog 29 sFd:=by
 refine mts (SpecsOk.cons wi3 (SpecsOk.cons wx8 (SpecsOk.cons (q1x (fs:=[(116,x7l)]) (SpecsOk.cons wh1 (SpecsOk.nil _))) (SpecsOk.cons xw6 (SpecsOk.nil _))))) Tryz.func29 (λx=>y6k (w99 (wc0 x.1 (qc8 x.1 x.2.1)).1) x.2.1) ?_
 rintro⟨m,x,⟨⟩⟩ h
 revert m x
 intro(m:List (List Int)) (x:List Int) (h:FdP m x)
 refine vcs (let Q0:=wc0 m (qz0 m x).1; let Q1:=w99 (wc0 m (qc8 m x)).1; let Q2:=qz0 m x; x.length<=(1000000:Nat)/\((Q2.2 != (0:Int))=true->false=(fdR m x).1/\Q2.2=(fdR m x).2/\True)/\((Q2.2 != (0:Int))=false->True/\∃(v1:qa3 [Ty.int .i64]->Prop),∃(v2:qa3 [Ty.int .i64]->Bool),(∀(v3:Int × qa3._f [] PUnit.unit),v1 v3->((0:PTy.den (PTy.cap qc0))<=(1000000:Int)/\(1000000:Int)<=BIG)/\(!inB v3.1 ((0:Int)-(1000000:Int)) (1000000:Int))=v2 v3)/\(Q2.1.length<=(1000000:Nat)/\∀(v3:Nat),v3<Q2.1.length->v1 (nI Q2.1 v3,()))/\((List.any Q2.1 λ(v4:Int)=>v2 (v4,()))=true->false=(fdR m x).1/\(10:Int)=(fdR m x).2/\True)/\((List.any Q2.1 λ(v4:Int)=>v2 (v4,()))=false->yp2 m Q2.1/\((Q0.2 != (0:Int))=true->false=(fdR m x).1/\Q0.2=(fdR m x).2/\True)/\((Q0.2 != (0:Int))=false->(((↑Q0.1.length:Int) != (1:Int))=true->false=(fdR m x).1/\Q0.2=(fdR m x).2/\True)/\(((↑Q0.1.length:Int) != (1:Int))=false->((0:Int)<=(0:Int)/\(0:Int)<(↑Q0.1.length:Int))/\∃(v6:Unit),∃(v7:Nat),x3j Q1 x v7/\(((0:Int)=(↑v7:Int)/\True)/\True)/\∀(v8:Nat),x3j Q1 x v8->(decide ((↑v8:Int)<(↑(qf0 q3b Q0.1 (0:Nat)).length:Int))=true->((0:Int)<=(↑v8:Int)/\(↑v8:Int)<(↑(qf0 q3b Q0.1 (0:Nat)).length:Int))/\((0:Int)<=(↑v8:Int)/\(↑v8:Int)<(↑x.length:Int))/\((!((nR (qf0 q3b Q0.1 (0:Nat)) v8).1==nI x v8 && (nR (qf0 q3b Q0.1 (0:Nat)) v8).2==(1:Int)))=true->false=(fdR m x).1/\(0:Int)=(fdR m x).2/\True)/\((!((nR (qf0 q3b Q0.1 (0:Nat)) v8).1==nI x v8 && (nR (qf0 q3b Q0.1 (0:Nat)) v8).2==(1:Int)))=false->fits .i64 ((↑v8:Int)+(1:Int))/\∃(v12:Nat),x3j Q1 x v12/\Q1.length-v12<Q1.length-v8/\((↑v8:Int)+(1:Int)=(↑v12:Int)/\True)/\True))/\(decide ((↑v8:Int)<(↑(qf0 q3b Q0.1 (0:Nat)).length:Int))=false->true=(fdR m x).1/\(0:Int)=(fdR m x).2/\True)))))) ?_
 have hlx:=h.len
 have hlen:(qz0 m x).1.length<=1000000:=by
  unfold qz0
  split
  ·rename_i he
   have:=(Shw.of he).msk.rows6
   grind [qc8,List.length_map,List.length_range]
  simp
 have hR:fdR m x=if q7i m x≠0 then(false,q7i m x) else if wx9 (qc8 m x)=true then(false,10) else if(wc0 m (qc8 m x)).2≠0\/(wc0 m (qc8 m x)).1.length≠1 then(false,(wc0 m (qc8 m x)).2) else(yl7 (wc0 m (qc8 m x)).1 x,0):=rfl
 rw[xl9]
 refine⟨ow,λhe=>by grind,λhe=>⟨λ_=>True,λv=>!inB v.1 (0-1000000) 1000000,λv _=>⟨by grind [BIG],by simp⟩,⟨hlen,λ_ _=>trivial⟩,?_⟩⟩
 have hc:=h.crd he
 rw[w0e he,hR,zaj (λq=>q he)]
 clear hR hlen h
 generalize qc8 m x=y at *
 refine⟨λho=>by have ho:wx9 y=true:=ho; grind,λho=>?_⟩
 obtain⟨hp,hx⟩:=hc ho
 have ho2:¬wx9 y=true:=by grind [wx9]
 rw[zaj ho2]
 refine⟨hp,?_⟩
 clear hc hp ho ho2
 generalize wc0 m y=R at *
 obtain⟨l,e⟩:=R
 dsimp only at *
 refine⟨λhe=>by grind,λhe=>⟨λhl=>by grind,λhl=>?_⟩⟩
 have h1:l.length=1:=ow
 have hxl:=hx he h1
 rw[zaj ow]
 have hB:∀k,k<(w99 l).length->(((nR (w99 l) k).1==nI x k) && ((nR (w99 l) k).2==1))=decide (nR (w99 l) k=(nI x k,1)):=λk _=>by
  grind
 refine⟨ow,(),0,⟨zaf _,ow⟩,rfl,λk hk=>⟨λhlt=>?_,λhge=>?_⟩⟩
 ·have hlt:k<(w99 l).length:=hlt
  refine⟨hlt,ow,λhf=>⟨?_,rfl⟩,λht=>⟨qa7,k+1,⟨hlt,λj hj=>?_⟩,ow,by rfl⟩⟩
  ·have hf:=(hB k hlt).symm.trans hf
   symm
   exact List.all_eq_false.2 ⟨k,za2.2 hlt,by grind⟩
  ·by_cases q:j=k
   ·subst q; exact zbi ((hB j hlt).symm.trans ht)
   ·exact hk.ok j ow
 ·have hge:¬k<(w99 l).length:=hge
  refine⟨?_,rfl⟩
  symm
  exact zaq.2 λj hj=>zcq (hk.ok j (by grind))
open Go Go.RowKit Eng
open Go Go.Proofs Go.RowKit Eng Ls Go.Sort Go.Shelf
theorem x5y {m:List (List Int)} {x:List Int} (h:Shw m x):nzTo x x.length=qs3 (nL m 0).length (nI x):=by rw[q5c,h.len]
theorem xw7 {m:List (List Int)} {x:List Int} (hl:q06 m=true) (hx:q7i m x=0) (hy:wc5 m (qc8 m x)=0) (hs:(nzTo x x.length:Int)<=(w8v m).1):PicX m x/\∀d:Nat->Int,Sol m.length (nL m 0).length (rowOf m) d->(∃c,c<(nL m 0).length/\d c≠0)->2*qs3 (nL m 0).length (nI x)<qs3 (nL m 0).length d:=by
 have hS:=Shw.of hx
 rw[x5y hS] at hs
 have key:∀d:Nat->Int,Sol m.length (nL m 0).length (rowOf m) d->(∃c,c<(nL m 0).length/\d c≠0)->2*qs3 (nL m 0).length (nI x)<qs3 (nL m 0).length d:=λd hd hne=>by
  have:=w6n hl hS.val hd hne
  omega
 exact⟨⟨hS,by rw[w2x]; exact hy,λd hd hne=>by have:=key d hd hne; omega⟩,key⟩
theorem x9m {m:List (List Int)} (h:xy3 m):(qb6 m=false/\qw2 m=([],1))\/(qb6 m=true/\(qh9 m).1=[]/\qw2 m=([],8))\/(qb6 m=true/\0<(qh9 m).1.length/\qw2 m=(nL (qh9 m).1 0,0)):=by
 have e:=x9h h.n7
 cases hv:qb6 m with
 | false=>
  have e1:qh9 m=([],1):=by simp[qh9,hv]
  refine .inl ⟨rfl,?_⟩
  unfold qw2
  rw[e,e1,zam dc]
 | true=>
  have e1:(qh9 m).2=0:=by simp[qh9,hv]
  by_cases q:(qh9 m).1=[]
  ·refine .inr (.inl ⟨rfl,q,?_⟩)
   unfold qw2
   rw[e,zaj (λz=>z e1),zam q]
  ·refine .inr (.inr ⟨rfl,zdz.2 q,?_⟩)
   unfold qw2
   rw[e,zaj (λz=>z e1),zaj q]
theorem x9o {m:List (List Int)} (h:xy3 m):(qb6 m=false/\qs1 m=(0,1))\/(qb6 m=true/\(qh9 m).1=[]/\qs1 m=(0,8))\/(qb6 m=true/\∃s,0<(qh9 m).1.length/\w04 m s (nL (qh9 m).1 0)/\qs1 m=(((s.length:Nat):Int),0)):=by
 rcases x9m h with⟨hv,e⟩ | ⟨hv,hl,e⟩ | ⟨hv,hl,e⟩
 ·refine .inl ⟨hv,?_⟩
  unfold qs1
  rw[e,zam dc]
 ·refine .inr (.inl ⟨hv,hl,?_⟩)
  unfold qs1
  rw[e,zam dc]
 ·obtain⟨s,hc⟩:=q3j hv (h.n7 hv) hl
  refine .inr (.inr ⟨hv,s,hl,hc,?_⟩)
  unfold qs1
  rw[e,zaj λq=>q rfl]
  show((nzTo (nL (qh9 m).1 0) (nL (qh9 m).1 0).length:Int),(0:Int))=_
  rw[q5c,hc.len,hc.nz]
theorem x3z {m:List (List Int)} (h:xy3 m) (hv:qb6 m=true):(wj9 m).2=0/\((ordL m:Nat):Int)<=(wj9 m).1:=by
 rcases x9o h with⟨q,_⟩ | ⟨_,_,e⟩ | ⟨_,s,hl,hc,e⟩
 ·rw[hv] at q; cases q
 ·have:=xu9 m
  unfold wj9
  rw[e,zam rfl]
  exact⟨rfl,by dsimp only; omega⟩
 ·have:=x3o hv (h.n7 hv) hl hc
  unfold wj9
  rw[e,zaj (show ¬((0:Int)=8) by decide),zaj (λq=>q rfl)]
  refine⟨rfl,?_⟩
  dsimp only
  rw[zcy ow]
  omega
def y1o (mats:List Nat) (specs:List (Nat × qa8)) (muts:List (Nat × qm2)):Ctx:={ specs:=specs,tys:=tys,wr:=[],mats:=mats,muts:=muts }
theorem y1p (mats:List Nat) {specs:List (Nat × qa8)} {muts:List (Nat × qm2)} (h:SpecsOk Tryz.prog specs) (hm:MutsOk muts):Sound Tryz.prog (y1o mats specs muts):=SpecsOk.sound h q03 kr (hmu:=hm)
abbrev qr3:Ty:=.prod (.int .i64) (.prod (.int .i64) (.int .i64))
abbrev Flt:=Int × Int × Int
theorem ws3:Meets Tryz.prog 247 wo0:=by
 refine mt0 (SpecsOk.nil _) Tryz.func247 ?_
 rintro⟨n,lo,hi,⟨⟩⟩ -
 revert n lo hi
 intro(n:Int) (lo:Int) (hi:Int)
 refine vcs ((decide (lo<=n)=true->decide (n<=hi)=inB n lo hi)/\(decide (lo<=n)=false->false=inB n lo hi)) ?_
 grind [inB]
def w9z (m:List (List Int)) (f:Flt):Bool:=inB f.2.1 0 ((m.length:Int)-1)
def w90 (m:List (List Int)) (f:Flt):Bool:=inB f.2.2 0 (((nL m 0).length:Int)-1)
def x33 (m:List (List Int)) (i j:Int):Int:=nI (nL m i.toNat) j.toNat
def fvB (m:List (List Int)) (f:Flt):Bool:=
 if f.1=0 then decide (f.2.1=0) && decide (f.2.2=0) else if f.1=1 then w9z m f && decide (f.2.2=0) else if f.1=2 then w90 m f && decide (f.2.1=0)
 else if f.1=3 then w9z m f && w90 m f && decide (x33 m f.2.1 f.2.2≠0) else false
abbrev sFv:qa8:=qd9 true none [qg1,qr3] [.bool] (λx=>qb6 x.1=true) (λx=>(fvB x.1 x.2.1,()))
theorem ws4 (a b:Int):(a==b)=decide (a=b):=rfl
theorem x35:Meets Tryz.prog 184 sFv:=by
 refine mt0 (SpecsOk.cons ws3 (SpecsOk.nil _)) Tryz.func184 ?_
 rintro⟨m,⟨kd,r,p⟩,⟨⟩⟩ hv
 revert m kd r p
 intro(m:List (List Int)) (kd:Int) (r:Int) (p:Int) (hv:qb6 m=true)
 refine vcs (fits .i64 ((↑m.length:Int)-(1:Int))/\True/\((0:Int)<=(0:Int)/\(0:Int)<(↑m.length:Int))/\fits .i64 ((↑(nL m (0:Nat)).length:Int)-(1:Int))/\True/\((kd==(0:Int))=true->(kd==(0:Int) && (r==(0:Int) && p==(0:Int)))=fvB m (kd,r,p))/\((kd==(0:Int))=false->((kd==(1:Int))=true->(inB r (0:Int) ((↑m.length:Int)-(1:Int))=true->(p==(0:Int))=fvB m (kd,r,p))/\(inB r (0:Int) ((↑m.length:Int)-(1:Int))=false->false=fvB m (kd,r,p)))/\((kd==(1:Int))=false->((kd==(2:Int))=true->(inB p (0:Int) ((↑(nL m (0:Nat)).length:Int)-(1:Int))=true->(r==(0:Int))=fvB m (kd,r,p))/\(inB p (0:Int) ((↑(nL m (0:Nat)).length:Int)-(1:Int))=false->false=fvB m (kd,r,p)))/\((kd==(2:Int))=false->((kd==(3:Int))=true->(inB r (0:Int) ((↑m.length:Int)-(1:Int))=true->(inB p (0:Int) ((↑(nL m (0:Nat)).length:Int)-(1:Int))=true->((0:Int)<=r/\r<(↑m.length:Int))/\((0:Int)<=p/\p<(↑(nL m r.toNat).length:Int))/\(nI (nL m r.toNat) p.toNat != (0:Int))=fvB m (kd,r,p))/\(inB p (0:Int) ((↑(nL m (0:Nat)).length:Int)-(1:Int))=false->false=fvB m (kd,r,p)))/\(inB r (0:Int) ((↑m.length:Int)-(1:Int))=false->false=fvB m (kd,r,p)))/\((kd==(3:Int))=false->false=fvB m (kd,r,p)))))) ?_
 have hM:=Mk.of hv
 have m1:=hM.rows1
 have m6:=hM.rows6
 have p1:=hM.pix1
 have p10:=hM.pix10
 refine⟨qa7,ow,qa7,λh0=>?_,λh0=>⟨λh1=>?_,λh1=>⟨λh2=>?_,λh2=>⟨λh3=>?_,λh3=>?_⟩⟩⟩⟩
 ·simp_all [fvB,ws4]
 ·simp_all [fvB,w9z,ws4]
 ·simp_all [fvB,w90,ws4]
 ·subst h3
  refine⟨λc=>⟨λd=>?_,λd=>by simp[fvB,w90,d]⟩,λc=>by simp[fvB,w9z,c]⟩
  have c1:=qh1.1 c
  have d1:=qh1.1 d
  refine⟨ow,⟨d1.1,by rw[hM.each _ ow]; omega⟩,?_⟩
  simp[fvB,w9z,w90,c,d,x33,ws4]; grind
 grind [fvB]
def xw8 (l:List Int):List Int:=List.replicate l.length 0
def qm9 (rows:List (List Int)) (p:Nat) (k:Nat):List (List Int):=(List.range rows.length).map λi=>if i<k then(nL rows i).set p 0 else nL rows i
def qt2 (rows:List (List Int)) (f:Flt):List (List Int):=
 if f.1=1 then rows.set f.2.1.toNat (xw8 (nL rows f.2.1.toNat)) else if f.1=2 then qm9 rows f.2.2.toNat rows.length
 else if f.1=3 then rows.set f.2.1.toNat ((nL rows f.2.1.toNat).set f.2.2.toNat (-(x33 rows f.2.1 f.2.2))) else rows
structure DeedPre (rows:List (List Int)) (f:Flt) (k:Int):Prop where
 kind:f.1=k
 valid:qb6 rows=true
 ok:fvB rows f=true
theorem DeedPre.row {rows:List (List Int)} {kd r p k:Int} (h:DeedPre rows (kd,r,p) k) (hk:kd=1\/kd=3):0<=r/\r<=(rows.length:Int)-1:=by
 have h1:=h.ok
 unfold fvB w9z at h1
 rcases hk with rfl | rfl <;> simp at h1
 all_goals grind [qh1]
theorem DeedPre.pix {rows:List (List Int)} {kd r p k:Int} (h:DeedPre rows (kd,r,p) k) (hk:kd=2\/kd=3):0<=p/\p<=((nL rows 0).length:Int)-1:=by
 have h1:=h.ok
 unfold fvB w90 at h1
 rcases hk with rfl | rfl <;> simp at h1
 all_goals grind [qh1]
abbrev ym9:qm2:=q7e (q1u [qr3]) true false 24 3 (.int .i64) (λrows x=>DeedPre rows x.1 0) (λ_ _=>.tup .nil) (λrows x=>qt2 rows x.1)
abbrev yn0:qm2:=q7e (q1u [qr3]) true false 24 3 (.int .i64) (λrows x=>DeedPre rows x.1 1) (λ_ _=>.tup .nil) (λrows x=>qt2 rows x.1)
abbrev yn1:qm2:=q7e (q1u [qr3]) true false 24 3 (.int .i64) (λrows x=>DeedPre rows x.1 2) (λ_ _=>.tup .nil) (λrows x=>qt2 rows x.1)
abbrev yn2:qm2:=q7e (q1u [qr3]) true false 24 3 (.int .i64) (λrows x=>DeedPre rows x.1 3) (λ_ _=>.tup .nil) (λrows x=>qt2 rows x.1)
theorem w3t:qq3 Tryz.prog 249 ym9:=by
 refine q1w (snd (SpecsOk.nil _)) Tryz.func249 rfl rfl (qm5 [qr3]) (λT rows x=>λ_=>none) (λ_ _ _=>by kernel_rfl) dc ?_ rfl
 rintro T rows ⟨⟨kd,r,p⟩,⟨⟩⟩ h -
 revert rows kd r p
 intro(rows:List (List Int)) (kd:Int) (r:Int) (p:Int) (h:DeedPre rows (kd,r,p) 0)
 refine vcs (rows=qt2 rows (kd,r,p)/\T=T/\True/\True) ?_
 obtain rfl:kd=0:=h.kind
 rfl
theorem w3u:qq3 Tryz.prog 250 yn0:=by
 refine q1w (snd (SpecsOk.nil _)) Tryz.func250 rfl rfl (qm5 [qr3]) (λT rows x=>λ_=>none) (λ_ _ _=>by kernel_rfl) dc ?_ rfl
 rintro T rows ⟨⟨kd,r,p⟩,⟨⟩⟩ h -
 revert rows kd r p
 intro(rows:List (List Int)) (kd:Int) (r:Int) (p:Int) (h:DeedPre rows (kd,r,p) 1)
 refine vcs (let Q0:=qe8 (qn2 true) r.toNat; ((0:Int)<=r/\r<(↑(qe1 rows.length (qn2 true)):Int))/\r.toNat<qe1 rows.length (qn2 true)/\List.set rows Q0 (List.replicate (nL rows Q0).length (0:Int))=qt2 rows (kd,r,p)/\T=T/\True/\True) ?_
 obtain rfl:kd=1:=h.kind
 have hr:0<=r/\r<=(rows.length:Int)-1:=h.row (.inl rfl)
 grind [qn2,qe1,qe8,qt2,xw8]
abbrev x5z (f:Flt):AObj:=.box 170 (.cons (.lit (.int .i64 f.1)) (.cons (.lit (.int .i64 f.2.1)) (.cons (.lit (.int .i64 f.2.2)) .nil)))
def yn3 (T:q67) (rows:List (List Int)) (f:Flt):Nat->Option Inv
 | 0=>some (Inv.of [6,8] 2 (λk:Nat=>[(6,.msl 0 .none),(8,.lit (.int .i64 k))]) (λk=>[.mat 24 3 (.int .i64) (qm9 rows f.2.2.toNat k) .none (some T),x5z f]) (λk=>k<=rows.length) (λk=>rows.length-k))
 | _=>none
theorem q76 (rows:List (List Int)) (p k:Nat):(qm9 rows p k).length=rows.length:=by simp[qm9]
theorem xw9 {rows:List (List Int)} {p k i:Nat} (h:i<rows.length):nL (qm9 rows p k) i=if i<k then(nL rows i).set p 0 else nL rows i:=by
 grind [ql6,q76,qm9]
theorem xx0 (rows:List (List Int)) (p:Nat):qm9 rows p 0=rows:=by
 grind [List.ext_getElem,q76,qm9,ql6]
theorem x36 {rows:List (List Int)} {p k:Nat} (hk:k<rows.length):(qm9 rows p k).set k ((nL (qm9 rows p k) k).set p 0)=qm9 rows p (k+1):=by
 rw[xw9 hk,zaj (zbe k)]
 apply zbl (by grind [List.length_set,q76])
 intro i h1 h2
 rw[zc4]
 simp only[qm9,List.getElem_map,List.getElem_range]
 grind
theorem w3v:qq3 Tryz.prog 251 yn1:=by
 refine q1w (snd (SpecsOk.nil _)) Tryz.func251 rfl rfl (qm5 [qr3]) (λT rows x=>yn3 T rows x.1) (λ_ _ _=>by kernel_rfl) dc ?_ rfl
 rintro T rows ⟨⟨kd,r,p⟩,⟨⟩⟩ h -
 revert rows kd r p
 intro(rows:List (List Int)) (kd:Int) (r:Int) (p:Int) (h:DeedPre rows (kd,r,p) 2)
 refine vcs (let Q0:=qe1 rows.length (qn2 true); ∃(v0:Unit),∃(v1:Nat),Nat.le v1 rows.length/\((True/\(0:Int)=(↑v1:Int)/\True)/\(rows=qm9 rows p.toNat v1/\True/\T=T)/\(kd=kd/\r=r/\p=p/\True)/\True)/\∀(v2:Nat),Nat.le v2 rows.length->(decide ((↑v2:Int)<(↑Q0:Int))=true->((0:Int)<=(↑v2:Int)/\(↑v2:Int)<(↑(qe1 (qm9 rows p.toNat v2).length none):Int))/\v2<qe1 (qm9 rows p.toNat v2).length none/\((0:Int)<=p/\p<(↑(nL (qm9 rows p.toNat v2) (qe8 none v2)).length:Int))/\p.toNat<(nL (qm9 rows p.toNat v2) (qe8 none v2)).length/\fits .i64 ((↑v2:Int)+(1:Int))/\∃(v5:Nat),Nat.le v5 rows.length/\rows.length-v5<rows.length-v2/\(True/\(↑v2:Int)+(1:Int)=(↑v5:Int)/\True)/\(List.set (qm9 rows p.toNat v2) (qe8 none v2) (List.set (nL (qm9 rows p.toNat v2) (qe8 none v2)) p.toNat (0:Int))=qm9 rows p.toNat v5/\True/\T=T)/\(kd=kd/\r=r/\p=p/\True)/\True)/\(decide ((↑v2:Int)<(↑Q0:Int))=false->qm9 rows p.toNat v2=qt2 rows (kd,r,p)/\T=T/\True/\True)) ?_
 obtain rfl:kd=2:=h.kind
 have hM:=Mk.of h.valid
 have m6:=hM.rows6
 have hp:0<=p/\p<=((nL rows 0).length:Int)-1:=h.pix (.inl rfl)
 simp only[qn2,qe1,qe8,q76]
 refine⟨(),0,zaf _,⟨rfl,(xx0 _ _).symm⟩,λk hk=>⟨λhlt=>?_,λhge=>?_⟩⟩
 ·have hl:=hM.each k hlt
  have e:nL (qm9 rows p.toNat k) k=nL rows k:=by rw[xw9 hlt,zaj (zbe k)]
  grind [qa7,x36]
 ·obtain rfl:k=rows.length:=ow
  rfl
theorem w3w:qq3 Tryz.prog 252 yn2:=by
 refine q1w (snd (SpecsOk.nil _)) Tryz.func252 rfl rfl (qm5 [qr3]) (λT rows x=>λ_=>none) (λ_ _ _=>by kernel_rfl) dc ?_ rfl
 rintro T rows ⟨⟨kd,r,p⟩,⟨⟩⟩ h -
 revert rows kd r p
 intro(rows:List (List Int)) (kd:Int) (r:Int) (p:Int) (h:DeedPre rows (kd,r,p) 3)
 refine vcs (let Q0:=nL rows (qe8 (qn2 true) r.toNat); let Q1:=qn2 true; ((0:Int)<=r/\r<(↑(qe1 rows.length Q1):Int))/\r.toNat<qe1 rows.length Q1/\((0:Int)<=p/\p<(↑Q0.length:Int))/\p.toNat<Q0.length/\fits .i64 (nI Q0 p.toNat*(-1:Int))/\((0:Int)<=p/\p<(↑Q0.length:Int))/\p.toNat<Q0.length/\List.set rows (qe8 Q1 r.toNat) (List.set Q0 p.toNat (nI Q0 p.toNat*(-1:Int)))=qt2 rows (kd,r,p)/\T=T/\True/\True) ?_
 obtain rfl:kd=3:=h.kind
 have hM:=Mk.of h.valid
 have hr:0<=r/\r<=(rows.length:Int)-1:=h.row (.inr rfl)
 have hp:0<=p/\p<=((nL rows 0).length:Int)-1:=h.pix (.inr rfl)
 have hl:=hM.each r.toNat ow
 have hs:=hM.small r.toNat ow p.toNat ow
 simp only[qn2,qe1,qe8]
 grind [nI,nL,qa7,qt2,x33]
abbrev yn4:qa8:=ww6 false none [] (λ_=>True) (λ_=>.agg (.cons (.clo 249 .nil) (.cons (.clo 250 .nil) (.cons (.clo 251 .nil) (.cons (.clo 252 .nil) .nil)))))
theorem w3x:Meets Tryz.prog 187 yn4:=by
 refine q6s (snd (SpecsOk.nil _)) Tryz.func187 rfl rfl (λ_ _=>none) (λ_=>by kernel_rfl) dc ?_
 rintro⟨⟩ -
 refine vcr (True/\True/\True/\True/\True) ?_
 simp
structure xx1 (m:List (List Int)) (f:Flt):Prop where
 valid:qb6 m=true
 ok:fvB m f=true
abbrev y6l:qa8:=q7d (q1u [qg1,qr3]) true (some 24) (some 3) (λx=>xx1 x.1 x.2.1) (λx=>.dat (.list (.int .i64)) (qt2 x.1 x.2.1))
def y1q (m:List (List Int)) (f:Flt):Nat->Option Inv
 | 0=>some (Inv.of [5,10] 2 (λk:Nat=>[(5,.msl 1 .none),(10,.lit (.int .i64 k))]) (λk=>[x5z f,.mat 24 3 (.int .i64) (m.take k) .none .none]) (λk=>k<=m.length) (λk=>m.length-k))
 | _=>none
theorem kd3 {kd:Int} (h0:¬kd=↑0) (h1:¬kd=↑1) (h2:¬kd=↑2) (h:kd=0\/kd=1\/kd=2\/kd=3):kd=↑3:=by
 omega
theorem xx2:Meets Tryz.prog 140 y6l:=by
 refine q6r (y1p [17] (SpecsOk.cons q9c (SpecsOk.cons w3x (SpecsOk.nil _))) (MutsOk.cons w3t (MutsOk.cons w3u (MutsOk.cons w3v (MutsOk.cons w3w MutsOk.nil))))) Tryz.func140 rfl rfl (qm5 _) (λx=>y1q x.1 x.2.1) (λ_=>by kernel_rfl) dc ?_
 rintro⟨m,⟨kd,r,p⟩,⟨⟩⟩ h
 revert m kd r p
 intro(m:List (List Int)) (kd:Int) (r:Int) (p:Int) (h:xx1 m (kd,r,p))
 refine vcs (∃(v0:Unit),∃(v1:Nat),Nat.le v1 m.length/\((True/\(0:Int)=(↑v1:Int)/\True)/\(kd=kd/\r=r/\p=p/\True)/\List.take v1 m=[]/\True)/\∀(v2:Nat),Nat.le v2 m.length->(decide ((↑v2:Int)<(↑m.length:Int))=true->((0:Int)<=(↑v2:Int)/\(↑v2:Int)<(↑m.length:Int))/\(nL m v2).length<=(100000:Nat)/\((0:Nat)<(0:Nat)+(1:Nat)/\(List.take v2 m).length+((0:Nat)+(1:Nat))<=(1000000:Nat))/\fits .i64 ((↑v2:Int)+(1:Int))/\∃(v5:Nat),Nat.le v5 m.length/\m.length-v5<m.length-v2/\(True/\(↑v2:Int)+(1:Int)=(↑v5:Int)/\True)/\(kd=kd/\r=r/\p=p/\True)/\(List.take v2 m++[nL m v2]=List.take v5 m/\True/\True)/\True)/\(decide ((↑v2:Int)<(↑m.length:Int))=false->True/\(decide (kd=(↑(0:Nat):Int))=true->DeedPre (List.take v2 m) (kd,r,p) (0:Int)/\qt2 (List.take v2 m) (kd,r,p)=qt2 m (kd,r,p))/\(decide (kd=(↑(0:Nat):Int))=false->(decide (kd=(↑(1:Nat):Int))=true->DeedPre (List.take v2 m) (kd,r,p) (1:Int)/\qt2 (List.take v2 m) (kd,r,p)=qt2 m (kd,r,p))/\(decide (kd=(↑(1:Nat):Int))=false->(decide (kd=(↑(2:Nat):Int))=true->DeedPre (List.take v2 m) (kd,r,p) (2:Int)/\qt2 (List.take v2 m) (kd,r,p)=qt2 m (kd,r,p))/\(decide (kd=(↑(2:Nat):Int))=false->kd=(↑(3:Nat):Int)/\DeedPre (List.take v2 m) (kd,r,p) (3:Int)/\qt2 (List.take v2 m) (kd,r,p)=qt2 m (kd,r,p)))))) ?_
 have hM:=Mk.of h.valid
 have m6:=hM.rows6
 have p10:=hM.pix10
 refine⟨(),0,zaf _,⟨rfl,rfl⟩,λk hk=>⟨λhlt=>?_,λhge=>?_⟩⟩
 ·have hl:=hM.each k hlt
  exact⟨hlt,ow,by grind,qa7,k+1,hlt,ow,by rfl,(q2u m k hlt).symm⟩
 ·rw[zcr ow]
  have hkd:kd=0\/kd=1\/kd=2\/kd=3:=by
   have h1:=h.ok
   grind [fvB]
  exact⟨λe=>⟨⟨e,h.valid,h.ok⟩,rfl⟩,λn0=>⟨λe=>⟨⟨e,h.valid,h.ok⟩,rfl⟩,λn1=>⟨λe=>⟨⟨e,h.valid,h.ok⟩,rfl⟩,λn2=>⟨kd3 n0 n1 n2 hkd,⟨kd3 n0 n1 n2 hkd,h.valid,h.ok⟩,rfl⟩⟩⟩⟩
def q7m (m:List (List Int)) (k i:Nat):Nat->List Flt
 | 0=>[]
 | j+1=>q7m m k i j++if fvB m ((k:Int),(i:Int),(j:Int)) then[((k:Int),(i:Int),(j:Int))] else[]
def q6f (m:List (List Int)) (k:Nat):Nat->List Flt
 | 0=>[]
 | i+1=>q6f m k i++q7m m k i (nL m 0).length
def ql4 (m:List (List Int)):Nat->List Flt
 | 0=>[]
 | k+1=>ql4 m k++q6f m k m.length
theorem x9p (m:List (List Int)) (k i:Nat) {a b:Nat} (h:a<=b):q7m m k i a <+: q7m m k i b:=by
 induction h with
 | refl=>simp
 | step _ ih=>exact ih.trans (List.prefix_append _ _)
theorem x9q (m:List (List Int)) (k:Nat) {a b:Nat} (h:a<=b):q6f m k a <+: q6f m k b:=by
 induction h with
 | refl=>simp
 | step _ ih=>exact ih.trans (List.prefix_append _ _)
theorem x9r (m:List (List Int)) {a b:Nat} (h:a<=b):ql4 m a <+: ql4 m b:=by
 induction h with
 | refl=>simp
 | step _ ih=>exact ih.trans (List.prefix_append _ _)
theorem yn5 {m:List (List Int)} {k i j:Nat} (hk:k<4) (hi:i<m.length) (hj:j<(nL m 0).length) (h:fvB m ((k:Int),(i:Int),(j:Int))=true):(ql4 m 4)[(ql4 m k).length+(q6f m k i).length+(q7m m k i j).length]? = some ((k:Int),(i:Int),(j:Int)):=by
 have p1:q7m m k i (j+1) <+: q7m m k i (nL m 0).length:=x9p m k i hj
 have p2:q6f m k i++q7m m k i (j+1) <+: q6f m k m.length:=((List.prefix_append_right_inj _).2 p1).trans (x9q m k (show i+1<=m.length from hi))
 have p3:ql4 m k++(q6f m k i++q7m m k i (j+1)) <+: ql4 m 4:=((List.prefix_append_right_inj _).2 p2).trans (x9r m (show k+1<=4 from hk))
 obtain⟨t,e⟩:=p3
 rw[<- e,q7m,zam h]
 grind
abbrev fA (f:Flt):qa3 [qr3]:=(f,())
abbrev y6m:q1e:=w2d [qg1] [qr3] (λx=>qb6 x.1=true) (λx=>(ql4 x.1 4).map fA)
def y6n (m:List (List Int)):Nat->Option Inv
 | 0=>some (Inv.of [7] 1 (λk:Nat=>[(7,.lit (.int .i64 k))]) (λk=>[.cnt (some (ql4 m k).length)]) (λk=>k<=4) (λk=>4-k))
 | 1=>some ⟨Nat,Nat,[12],1,λk i=>[(12,.lit (.int .i64 i))],λk i=>[.cnt (some ((ql4 m k).length+(q6f m k i).length))],λk i=>i<=m.length,λk i=>m.length-i⟩
 | 2=>some ⟨Nat × Nat,Nat,[19],1,λq j=>[(19,.lit (.int .i64 j))],λq j=>[.cnt (some ((ql4 m q.1).length+(q6f m q.1 q.2).length+(q7m m q.1 q.2 j).length))],λq j=>j<=(nL m 0).length,λq j=>(nL m 0).length-j⟩
 | _=>none
theorem x37:q02 Tryz.prog 183 y6m:=by
 refine says (snd (SpecsOk.cons x35 (SpecsOk.nil _))) Tryz.func183 rfl rfl rfl [30] (λx=>y6n x.1) (λ_=>by kernel_rfl) dc ?_
 rintro⟨m,⟨⟩⟩ l h
 revert m
 intro(m:List (List Int)) (h:qb6 m=true)
 refine vcs (let Q0:=(m,PUnit.unit); ∃(v0:Unit),∃(v1:Nat),Nat.le v1 (4:Nat)/\(((0:Int)=(↑v1:Int)/\True)/\some (0:Nat)=some (ql4 m v1).length/\True)/\∀(v2:Nat),Nat.le v2 (4:Nat)->(decide ((↑v2:Int)<(4:Int))=true->∃(v5:Nat),∃(v6:Nat),Nat.le v6 m.length/\(((0:Int)=(↑v6:Int)/\True)/\some (ql4 m v2).length=some ((ql4 m v5).length+(q6f m v5 v6).length)/\True)/\∀(v7:Nat),Nat.le v7 m.length->(decide ((↑v7:Int)<(↑m.length:Int))=true->((0:Int)<=(0:Int)/\(0:Int)<(↑m.length:Int))/\∃(v10:Nat × Nat),∃(v11:Nat),Nat.le v11 (nL m (0:Nat)).length/\(((0:Int)=(↑v11:Int)/\True)/\some ((ql4 m v5).length+(q6f m v5 v7).length)=some ((ql4 m v10.1).length+(q6f m v10.1 v10.2).length+(q7m m v10.1 v10.2 v11).length)/\True)/\∀(v12:Nat),Nat.le v12 (nL m (0:Nat)).length->(decide ((↑v12:Int)<(↑(nL m (0:Nat)).length:Int))=true->qb6 m=true/\(fvB m ((↑v2:Int),(↑v7:Int),(↑v12:Int))=true->Value.func (Fn.yield l) #[] #[]=Value.func (Fn.yield (qh5.l (q1a [qg1] [qr3] [(30:Nat)] Q0 (List.map fA (ql4 m (4:Nat))) l))) #[] #[]/\(qh5.L (q1a [qg1] [qr3] [(30:Nat)] Q0 (List.map fA (ql4 m (4:Nat))) l))[(ql4 m v10.1).length+(q6f m v10.1 v10.2).length+(q7m m v10.1 v10.2 v12).length]?=some (((↑v2:Int),(↑v7:Int),(↑v12:Int)),())/\(fits .i64 ((↑v12:Int)+(1:Int))/\∃(v16:Nat),Nat.le v16 (nL m (0:Nat)).length/\(nL m (0:Nat)).length-v16<(nL m (0:Nat)).length-v12/\((↑v12:Int)+(1:Int)=(↑v16:Int)/\True)/\some ((ql4 m v10.1).length+(q6f m v10.1 v10.2).length+(q7m m v10.1 v10.2 v12).length+(1:Nat))=some ((ql4 m v10.1).length+(q6f m v10.1 v10.2).length+(q7m m v10.1 v10.2 v16).length)/\True)/\True)/\(fvB m ((↑v2:Int),(↑v7:Int),(↑v12:Int))=false->fits .i64 ((↑v12:Int)+(1:Int))/\∃(v16:Nat),Nat.le v16 (nL m (0:Nat)).length/\(nL m (0:Nat)).length-v16<(nL m (0:Nat)).length-v12/\((↑v12:Int)+(1:Int)=(↑v16:Int)/\True)/\some ((ql4 m v10.1).length+(q6f m v10.1 v10.2).length+(q7m m v10.1 v10.2 v12).length)=some ((ql4 m v10.1).length+(q6f m v10.1 v10.2).length+(q7m m v10.1 v10.2 v16).length)/\True))/\(decide ((↑v12:Int)<(↑(nL m (0:Nat)).length:Int))=false->fits .i64 ((↑v7:Int)+(1:Int))/\∃(v15:Nat),Nat.le v15 m.length/\m.length-v15<m.length-v7/\((↑v7:Int)+(1:Int)=(↑v15:Int)/\True)/\some ((ql4 m v10.1).length+(q6f m v10.1 v10.2).length+(q7m m v10.1 v10.2 v12).length)=some ((ql4 m v5).length+(q6f m v5 v15).length)/\True))/\(decide ((↑v7:Int)<(↑m.length:Int))=false->fits .i64 ((↑v2:Int)+(1:Int))/\∃(v10:Nat),Nat.le v10 (4:Nat)/\(4:Nat)-v10<(4:Nat)-v2/\((↑v2:Int)+(1:Int)=(↑v10:Int)/\True)/\some ((ql4 m v5).length+(q6f m v5 v7).length)=some (ql4 m v10).length/\True))/\(decide ((↑v2:Int)<(4:Int))=false->(ql4 m v2).length=(qh5.L (q1a [qg1] [qr3] [(30:Nat)] Q0 (List.map fA (ql4 m (4:Nat))) l)).length)) ?_
 have hM:=Mk.of h
 have m1:=hM.rows1
 have m6:=hM.rows6
 have p10:=hM.pix10
 refine⟨(),0,zaf _,⟨rfl,rfl⟩,λk hk=>⟨λhk4=>⟨k,0,zaf _,⟨rfl,rfl⟩,λi hi=>⟨λhi6=>⟨ow,(k,i),0,zaf _,⟨rfl,rfl⟩,λj hj=>⟨λhj10=>⟨h,λhv=>⟨rfl,?_,qa7,j+1,hj10,ow,ow,?_⟩,λhv=>⟨qa7,j+1,hj10,ow,ow,?_⟩⟩,λhj10=>⟨qa7,i+1,hi6,ow,ow,?_⟩⟩⟩,λhi6=>⟨qa7,k+1,ow,ow,ow,?_⟩⟩⟩,λhk4=>?_⟩⟩
 ·show((ql4 m 4).map fA)[(ql4 m k).length+(q6f m k i).length+(q7m m k i j).length]? = some (fA ((k:Int),(i:Int),(j:Int)))
  grind [yn5]
 ·rw[q7m,zam hv,zaw]; rfl
 ·simp_all [q7m,if_neg,List.append_nil]
 ·obtain rfl:j=(nL m 0).length:=ow
  rw[q6f,zaw,zcn]
 ·obtain rfl:i=m.length:=ow
  rw[ql4,zaw]
 ·obtain rfl:k=4:=ow
  show _=((ql4 m 4).map fA).length
  simp
abbrev y1r:qa8:=ww6 false none [qg1] (λ_=>True) (λx=>.clo 183 (.cons (.imm (.cons (.dat (.list (.int .i64)) x.1) .nil) 0) .nil))
theorem w91:Meets Tryz.prog 138 y1r:=by
 refine q6s (snd (SpecsOk.nil _)) Tryz.func138 rfl rfl (λx _=>none) (λ_=>by kernel_rfl) dc ?_
 rintro⟨m,⟨⟩⟩ -
 revert m
 intro(m:List (List Int))
 refine vcr (((m=m/\True)/\(0:Nat)=(0:Nat))/\True) ?_
 simp
end Go.Proofs.YtnchigbbjajiiaaGreat
namespace Eng
open Go Go.RowKit Go.Proofs Go.Shelf
variable {P : Program} {ρ : Ren}
theorem same_setCell {w:World} {b:Nat} {a:Addr} (h:a.block=b) (v:Value):Kept (λk=>k=b) w (w.setCell a v):=
 ⟨rfl,rfl,rfl,by simp,λk hk=>zdf _ _ _ _ (λe=>hk.2 ow)⟩
theorem Kept.trans {D D':Nat->Prop} {A B C:World} (h:Kept D A B) (k:Kept D' B C) (hd:∀b,D' b->D b\/A.heap.size<=b):Kept D A C:=
 ⟨k.os.trans h.os,k.tape.trans h.tape,k.output.trans h.output,zal h.size k.size,λb hb=>(k.block b ⟨zbb hb.1 h.size,λe=>(hd b e).elim hb.2 (λx=>by omega)⟩).trans (h.block b hb)⟩
theorem wb7 {D D':Nat->Prop} {A B:World} (h:Kept D A B) (hd:∀b,D b->D' b):Kept D' A B:=Same.mono h λb hb=>⟨hb.1,λe=>hb.2 (hd b e)⟩
theorem kept_alloc (w:World) (o:Obj):Kept (λ_=>False) w (w.alloc o):=by
 have:=Ls.below_alloc w o
 exact⟨this.os,this.tape,this.output,this.size,λb hb=>this.block b hb.1⟩
theorem bcc (L:Lays.n240 P ρ) (X:Builder.X72 P ρ) {w:World} {b:Nat} {v:Value} {q:ByteArray} (h:BldOk (λ_=>none) w 0 (ρ.t 72) (ρ.t 5) b v q) :
  Calls P (ρ.f 240) #[.pointer (some ⟨b,0,none⟩)] w λe w'=>e=.returned (.tuple #[])/\(w'.heap[b]? = some (.cells #[.pointer (some ⟨b,0,none⟩),v] (ρ.t 72) (0,0))/\Kept (λk=>k=b) w w'):=by
 obtain⟨p,hp,hc⟩:=h.cell
 rcases hp with rfl | rfl
 ·refine(Any.Builder_copyCheck_fresh L X b w (by grind [World.cell?]) (by grind [World.shape?]) (by grind [World.frozen?])).mono ?_
  rintro e w' ⟨rfl,rfl⟩
  exact⟨rfl,by grind [World.setCell],same_setCell (a:=⟨b,0,none⟩) rfl _⟩
 ·refine(Any.Builder_copyCheck_used L X b w (by grind [World.cell?])).mono ?_
  rintro e w' ⟨rfl,rfl⟩
  exact⟨rfl,hc,Same.refl _ _⟩
theorem y6o {T e b:Nat} {v v' p:Value} {q q':ByteArray} {w w1 w2:World} (h:BldOk (λ_=>none) w 0 T e b v q) (hTe:T≠e) (k1:Kept (λk=>k=b) w w1) (k2:Kept (λx=>v.ownBlock=some x) w1 w2) (hb:w2.heap[b]? = some (.cells #[.pointer (some ⟨b,0,none⟩),p] T (0,0))) (ho:w2.ownsRow 0 e 1 v' q'.size (Lib.byteCells q'.data.toList))
  (hn:∀x,v'.ownBlock=some x->v.ownBlock=some x\/w.heap.size<=x):xc9 w b v T e q' (w2.setCell ⟨b,1,none⟩ v'):=by
 have hne:v'.ownBlock≠some b:=Lib.ownBlock_ne ho hb hTe
 refine⟨Kept.trans (Kept.trans (wb7 k1 λx hx=>h.blkIs.2 (.inl hx)) k2 λx hx=>.inl (h.blkIs.2 (.inr hx))) (same_setCell (b:=b) rfl v') λx hx=>.inl (h.blkIs.2 (.inl hx)),v',⟨zaf _,⟨_,.inr rfl,?_⟩,?_,hne,rfl,λ_ _=>rfl⟩,hn⟩
 ·grind [World.setCell]
 ·exact ho.kept (row:=some b) ⟨rfl,rfl,rfl,by simp,λk _ hk=>zdf _ _ _ _ (λe=>hk (by grind))⟩ (Or.inr hne)
theorem x4a {w w1:World} {b e:Nat} {v:Value} {n:Nat} {xs:List Value} (h:w.ownsRow 0 e 1 v n xs) (hne:v.ownBlock≠some b) (k1:Kept (λk=>k=b) w w1):w1.ownsRow 0 e 1 v n xs:=
 qp9 h λx hx=>k1.block x ⟨(own_blk h hx).2.1,λe'=>hne (by grind [ql0])⟩
theorem w92 {w w':World} {row:Option Nat} (h:w.grownBy w' row):Kept (λx=>row=some x) w w':=qu1 h λr e=>e
theorem w93 (q:ByteArray) {c:Int} (h0:0<=c) (h1:c<256):Lib.byteCells q.data.toList++[.int .u8 c]=Lib.byteCells (q.push c.toNat.toUInt8).data.toList:=by
 have:((c.toNat.toUInt8).toNat:Int)=c:=by
  grind [Nat.toUInt8_eq,UInt8.toNat_ofNat']
 simp_all [Lib.byteCells,ByteArray.push,Array.toList_push,List.map_append,List.map_cons,List.map_nil]
set_option maxHeartbeats 2000000 in
set_option maxRecDepth 100000 in
theorem x4b (L:Lays.n167 P ρ) (X:Builder.Extra P ρ) {w:World} {b:Nat} {v:Value} {q:ByteArray} (h:BldOk (λ_=>none) w 0 (ρ.t 72) (ρ.t 5) b v q) (c:Int) (h0:0<=c) (h1:c<256) (hs:q.size+1<=1000000000) :
  Calls P (ρ.f 167) #[.pointer (some ⟨b,0,none⟩),.int .u8 c] w λe w'=>e=.returned .nilIface/\xc9 w b v (ρ.t 72) (ρ.t 5) (q.push c.toNat.toUInt8) w':=by
 obtain⟨i0,hi,hz0,hz1,hz2⟩:=info_parts X.infoByte
 have mixed:=L.mixed
 have t72:=L.t72; have a72:=L.a72; have z72:=L.z72; have v72:=L.v72; have u72:=run_underlying L.t72
 have t70:=L.t70; have a70:=L.a70; have z70:=L.z70; have v70:=L.v70; have u70:=run_underlying L.t70
 have t5:=L.t5; have a5:=L.a5; have z5:=L.z5; have v5:=L.v5; have u5:=run_underlying L.t5
 have t37:=L.t37; have a37:=L.a37; have z37:=L.z37; have v37:=L.v37; have u37:=run_underlying L.t37
 have t9:=L.t9; have a9:=L.a9; have z9:=L.z9; have v9:=L.v9; have u9:=run_underlying L.t9
 have t4:=L.t4; have a4:=L.a4; have z4:=L.z4; have v4:=L.v4; have u4:=run_underlying L.t4
 have t164:=L.t164; have a164:=L.a164; have z164:=L.z164; have v164:=L.v164; have u164:=run_underlying L.t164
 have e240:∀args w,(callFunc (ρ.f 240) args).run P w=.ok (.enter (ρ.f 240) args) w:=enters_of L.f240 kr rfl
 go_enter L.f167,Body.n167_ntmps ρ
 go_wp2_with (go_at_fn (ρ.f 240); refine(bcc { L with } X.toX72 h).mono ?_)
 rintro e w1 ⟨rfl,hbk,hk1⟩
 have hown:=x4a h.own h.ne hk1
 have c0:w1.cell? ⟨b,0,none⟩=some (.pointer (some ⟨b,0,none⟩)):=by rw[Lib.cell_of_heap hbk]; rfl
 have c1:w1.cell? ⟨b,1,none⟩=some v:=by rw[Lib.cell_of_heap hbk]; rfl
 go_wp2_with (at_builtin; refine wpList_append_own_at _ rfl _ _ (ρ.t 37) rfl 0 (ρ.t 5) i0 (.int .u8 0) 1 1 L.t37 hi hz0 hz1 hz2 rfl dc _ _ _ rfl (hown.alloc _) ⟨w1.heap.size,0,none⟩ 1 1 [.int .u8 c] rfl rfl ?c1 ?c2 ?c3 ?c4 ?c5 ?_)
 case c1=>grind [cell_one_new]
 case c2=>intro u hu; simp at hu; subst hu; rfl
 case c3=>grind [maxLen]
 case c4=>omega
 case c5=>simp
 intro v' w2 hown' hgrow _ hat
 have hlt:b<w1.heap.size:=(zao.1 hbk).1
 have hb2:w2.heap[b]? = some (.cells #[.pointer (some ⟨b,0,none⟩),v] (ρ.t 72) (0,0)):=by
  rw[hgrow.block b (by simp; omega) (λe=>h.ne e.symm),Lib.alloc_old w1 _ b hlt]
  omega
 have d0:w2.cell? ⟨b,0,none⟩=some (.pointer (some ⟨b,0,none⟩)):=by rw[Lib.cell_of_heap hb2]; rfl
 have d1:w2.cell? ⟨b,1,none⟩=some v:=by rw[Lib.cell_of_heap hb2]; rfl
 have f1:w2.frozen? ⟨b,1,none⟩=false:=Lib.frozen_of_heap hb2 1
 have hk2:Kept (λx=>v.ownBlock=some x) w1 w2:=Kept.trans (wb7 (kept_alloc w1 _) λ_ h=>h.elim) (w92 hgrow) λx hx=>.inl hx
 have hn:∀x,v'.ownBlock=some x->v.ownBlock=some x\/w.heap.size<=x:=λx hx=>by
  rcases hat with hat | hat
  ·grind
  ·rw[hat] at hx
   have:=zaa hx
   right; rw[<- this]; have:=hk1.size; omega
 rw[w93 q h0 h1] at hown'
 obtain⟨g,cap,rfl⟩:∃g cap,v'=.slice (some ⟨g,0,none⟩) (q.size+1) cap:=by
  rcases hown'.2 with⟨_,h0⟩ | ⟨g,cap,cur,hv,_⟩
  all_goals grind
 go_wp2
 go_ret
 exact⟨rfl,y6o h X.neB5 hk1 hk2 hb2 (by simp_all) hn⟩
set_option maxHeartbeats 1000000 in
set_option maxRecDepth 100000 in
theorem x9s (L:Lays.n169 P ρ) (X:Builder.Extra P ρ) {w:World} {b:Nat} {v:Value} {q:ByteArray} (h:BldOk (λ_=>none) w 0 (ρ.t 72) (ρ.t 5) b v q) :
  Calls P (ρ.f 169) #[.pointer (some ⟨b,0,none⟩)] w λe w'=>e=.returned (.string q)/\Kept (Blk (q7n b v)) w w':=by
 obtain⟨p,hp,hbk⟩:=h.cell
 have bel:∀{w':World},Below w.heap.size w w'->Kept (Blk (q7n b v)) w w':=λhb=>wk8 hb
 obtain⟨l,rfl⟩:∃l:List UInt8,q=⟨l.toArray⟩:=⟨q.data.toList,rfl⟩
 have hown:w.ownsRow 0 (ρ.t 5) 1 v l.length (Lib.byteCells l):=by
  have:=h.own
  rwa [show(ByteArray.mk l.toArray).size=l.length from rfl,show(ByteArray.mk l.toArray).data.toList=l from rfl] at this
 clear h
 by_cases h0:l=[]
 ·subst h0
  rcases hown.2 with⟨rfl,_⟩ | ⟨g,cap,cur,rfl,_,hg,_,_,_,_⟩
  ·exact(Any.Builder_String_nil L X w.heap.size b p w hbk).mono λe w' ⟨e1,e2⟩=>⟨e1,bel e2⟩
  ·by_cases hc0:cap=0
   ·subst hc0
    exact(Any.Builder_String_noroom L X w.heap.size b g p cur w (zac _) hbk hg).mono λe w' ⟨e1,e2⟩=>⟨e1,bel e2⟩
   ·exact(Any.Builder_String_room L X w.heap.size b g cap p w hc0 hbk).mono λe w' ⟨e1,e2⟩=>⟨e1,bel e2⟩
 have hl0:l.length≠0:=by grind
 obtain⟨g,cap,cur,rfl,hg,hnc,hcm,hcs,htake⟩:∃g cap cur,v=.slice (some ⟨g,0,none⟩) l.length cap/\w.heap[g]? = some (.cells cur (ρ.t 5) (0,0))/\l.length<=cap/\cap<=maxLen/\cur.size=cap*1/\cur.toList.take (l.length*1)=Lib.byteCells l:=by
  rcases hown.2 with⟨_,hz⟩ | ⟨g,cap,cur,hv,_,r⟩
  all_goals grind
 have c1:w.drew.cell? ⟨b,1,none⟩=some (.slice (some ⟨g,0,none⟩) l.length cap):=by
  have:w.drew.heap[b]? = some (.cells #[p,.slice (some ⟨g,0,none⟩) l.length cap] (ρ.t 72) (0,0)):=hbk
  rw[Lib.cell_of_heap this]; rfl
 have hSD:(Builtin.unsafeSliceData_ #[(ρ.t 37)] (ρ.t 127) #[.slice (some ⟨g,0,none⟩) l.length cap]).run P w.drew=.ok (.pointer (some ⟨g,0,none⟩)) w.drew:=
  Lib.run_unsafeSliceData_row _ _ _ _ _ _ ow
 have hUS:(Builtin.unsafeString_ #[(ρ.t 127),(ρ.t 3)] (ρ.t 9) #[.pointer (some ⟨g,0,none⟩),.int .i64 l.length]).run P w.drew=.ok (.string ⟨l.toArray⟩) (w.drew.freeze ⟨g,0,none⟩ l.length):=by
  refine Lib.run_unsafeString_row w.drew (ρ.t 127) (ρ.t 3) (ρ.t 9) (ρ.t 5) L.t127 X.cellsByte g cur.size (by have hg':w.drew.heap[g]? = some (.cells cur (ρ.t 5) (0,0)):=hg; grind [World.shape?]) l h0 ow (by grind [maxLen]) ?_
  intro j x hx
  have:=hown.cells (g:=g) rfl j (.int .u8 x.toNat) (by grind [Lib.byteCells])
  exact this
 have hfin:Kept (Blk (q7n b (.slice (some ⟨g,0,none⟩) l.length cap))) w (w.drew.freeze ⟨g,0,none⟩ l.length):=by
  refine wb7 (D:=λx=>x=g) ?_ λx hx=>q8d.2 (.inr (by rw[hx]; rfl))
  unfold World.freeze
  split
  ·omega
  ·refine⟨rfl,rfl,rfl,by simp,λx hx=>?_⟩
   show(Array.modify w.heap g _)[x]? = _
   grind
 have mixed:=L.mixed
 have t72:=L.t72; have a72:=L.a72; have z72:=L.z72; have v72:=L.v72; have u72:=run_underlying L.t72
 have t70:=L.t70; have a70:=L.a70; have z70:=L.z70; have v70:=L.v70; have u70:=run_underlying L.t70
 have t37:=L.t37; have a37:=L.a37; have z37:=L.z37; have v37:=L.v37; have u37:=run_underlying L.t37
 have t127:=L.t127; have a127:=L.a127; have z127:=L.z127; have v127:=L.v127; have u127:=run_underlying L.t127
 have t3:=L.t3; have a3:=L.a3; have z3:=L.z3; have v3:=L.v3; have u3:=run_underlying L.t3
 have t9:=L.t9; have a9:=L.a9; have z9:=L.z9; have v9:=L.v9; have u9:=run_underlying L.t9
 have t5:=X.t5; have a5:=X.a5; have z5:=X.z5; have v5:=X.v5; have u5:=run_underlying X.t5
 go_enter L.f169,Body.n169_ntmps ρ
 go_wp2
 go_region_o
 all_goals (go_wp2; go_ret; simp_all)
end Eng
namespace Go.Proofs
open Go.Shelf
shelf_lay Lays.n169 Nm 169 at Tryz as Tryz.layOut
def Tryz.layWrt_ren:Go.Shelf.Ren:=⟨fun | 167=>185 | 240=>248 | 276=>278 | n=>n,fun | 0=>0 | 4=>4 | 5=>5 | 9=>9 | 20=>20 | 37=>208 | 70=>207 | 72=>210 | 75=>212 | 80=>214 | 164=>283 | n=>n,λn=>n⟩
theorem Tryz.layWrt:Lays.n167 Tryz.prog Tryz.layWrt_ren where
 mixed:=kr
 f167:=Tryz.func185.trans (za1 some kr)
 f240:=Tryz.func248.trans (za1 some kr)
 f276:=Tryz.func278.trans (za1 some kr)
 t0:=Tryz.underlying0
 a0:=Tryz.isAgg0
 z0:=Tryz.sizeOf0
 v0:=Tryz.zeroValue0
 t4:=Tryz.underlying4
 a4:=Tryz.isAgg4
 z4:=Tryz.sizeOf4
 v4:=Tryz.zeroValue4
 t5:=Tryz.underlying5
 a5:=Tryz.isAgg5
 z5:=Tryz.sizeOf5
 v5:=Tryz.zeroValue5
 t9:=Tryz.underlying9
 a9:=Tryz.isAgg9
 z9:=Tryz.sizeOf9
 v9:=Tryz.zeroValue9
 t20:=Tryz.underlying20
 a20:=Tryz.isAgg20
 z20:=Tryz.sizeOf20
 v20:=Tryz.zeroValue20
 t37:=Tryz.underlying208
 a37:=Tryz.isAgg208
 z37:=Tryz.sizeOf208
 v37:=Tryz.zeroValue208
 t70:=Tryz.underlying207
 a70:=Tryz.isAgg207
 z70:=Tryz.sizeOf207
 v70:=Tryz.zeroValue207
 t72:=Tryz.underlying210
 a72:=Tryz.isAgg210
 z72:=Tryz.sizeOf210
 v72:=Tryz.zeroValue210
 t75:=Tryz.underlying212
 a75:=Tryz.isAgg212
 z75:=Tryz.sizeOf212
 v75:=Tryz.zeroValue212
 t164:=Tryz.underlying283
 a164:=Tryz.isAgg283
 z164:=Tryz.sizeOf283
 v164:=Tryz.zeroValue283
theorem Tryz.extraWrt:Builder.Extra Tryz.prog Tryz.layWrt_ren where
 sizeBuilder:=kr
 liesBuilder:=kr
 t5:=Tryz.underlying5
 a5:=Tryz.isAgg5
 z5:=Tryz.sizeOf5
 v5:=Tryz.zeroValue5
 infoByte:=kr
 cellsByte:=kr
 sizeByte:=kr
 neB5:=dc
theorem Tryz.extraOut:Builder.Extra Tryz.prog Tryz.layOut_ren where
 sizeBuilder:=kr
 liesBuilder:=kr
 t5:=Tryz.underlying5
 a5:=Tryz.isAgg5
 z5:=Tryz.sizeOf5
 v5:=Tryz.zeroValue5
 infoByte:=kr
 cellsByte:=kr
 sizeByte:=kr
 neB5:=dc
end Go.Proofs
namespace Go.Proofs.YtnchigbbjajiiaaGreat
open Go Go.Proofs Go.RowKit Eng Ls Go.Shelf
theorem yn6:q6n Tryz.prog 185 ⟨210,5,0⟩:=
 ⟨⟨_,_,Tryz.func185,rfl,rfl⟩,λw b v q h=>λc h0 h1 hs=>x4b Tryz.layWrt Tryz.extraWrt h c h0 h1 hs⟩
theorem out_ok:q6n Tryz.prog 186 ⟨210,5,2⟩:=
 ⟨⟨_,_,Tryz.func186,rfl,rfl⟩,λw b v q h=>x9s Tryz.layOut Tryz.extraOut h⟩
def x9t:List (Nat × w1n):=[(185,⟨210,5,0⟩),(186,⟨210,5,2⟩)]
theorem x4c:∀f B,find x9t f=some B->q6n Tryz.prog f B:=by
 intro f B h
 unfold x9t at h
 rcases q8x h with⟨rfl,rfl⟩ | h
 ·exact yn6
 rcases q8x h with⟨rfl,rfl⟩ | h
 ·exact out_ok
 cases h
def y1s (specs:List (Nat × qa8)):Ctx:={ specs:=specs,tys:=tys,wr:=[],blds:=x9t }
theorem y1t {specs:List (Nat × qa8)} (h:SpecsOk Tryz.prog specs):Sound Tryz.prog (y1s specs):=SpecsOk.sound h q03 kr (hbl:=x4c)
open Go Go.Proofs Go.RowKit Eng Ls
def yn7:ByteArray:=⟨#[45,46,43]⟩
def x9u (i:Nat):Int:=Eng.byteAt yn7 i
theorem w94 (s:ByteArray) (i:Nat):0<=byteAt s i/\byteAt s i<256:=by
 unfold byteAt
 split
 ·rename_i b _; have:=b.toNat_lt; omega
 simp
def rowT (s:ByteArray) (r:List Int):Nat->ByteArray
 | 0=>s
 | k+1=>(rowT s r k).push (x9u (nI r k+1).toNat).toNat.toUInt8
def w1i (m:List (List Int)):Nat->ByteArray
 | 0=>⟨#[]⟩
 | k+1=>(rowT (w1i m k) (nL m k) (nL m k).length).push 10
theorem wb8 (s:ByteArray) (r:List Int):∀k,(rowT s r k).size=s.size+k
 | 0=>rfl
 | k+1=>by rw[rowT,ByteArray.size_push,wb8 s r k]; omega
theorem w1j {m:List (List Int)} (h:Mk m):∀k,k<=m.length->(w1i m k).size=k*((nL m 0).length+1)
 | 0,_=>by rw[zdk]; rfl
 | k+1,hk=>by rw[w1i,ByteArray.size_push,wb8,w1j h k ow,h.each k ow,zd2]; omega
def xa1 (m:List (List Int)):ByteArray:=if qb6 m then w1i m m.length else⟨#[]⟩
abbrev y6p:qa8:=qd9 true none [qg1] [.str] (λ_=>True) (λx=>(xa1 x.1,()))
def y1u (m:List (List Int)):Nat->Option Inv
 | 0=>some (Inv.of [3,13] 1 (λk:Nat=>[(3,.msl 0 none),(13,.lit (.int .i64 k))]) (λk=>[.bld 210 5 (w1i m k)]) (λk=>k<=m.length) (λk=>m.length-k))
 | 1=>some ⟨Nat,Nat,[3,19],1,λk t=>[(3,.msl 0 none),(19,.lit (.int .i64 t))],λk t=>[.bld 210 5 (rowT (w1i m k) (nL m k) t)],λk t=>t<=(nL m k).length,λk t=>(nL m k).length-t⟩
 | _=>none
theorem w1k:Meets Tryz.prog 139 y6p:=by
 refine meets (y1t (SpecsOk.cons qx3 (SpecsOk.nil _))) Tryz.func139 rfl rfl (λx=>y1u x.1) (λ_=>by kernel_rfl) dc ?_
 rintro⟨m,⟨⟩⟩ -
 revert m
 intro(m:List (List Int))
 refine vcs (True/\((!qb6 m)=true->Value.string { data:=#[] }=Value.string (xa1 m))/\((!qb6 m)=false->∃(v1:Unit),∃(v2:Nat),Nat.le v2 m.length/\((True/\(0:Int)=(↑v2:Int)/\True)/\{ data:=#[] }=w1i m v2/\True)/\∀(v3:Nat),Nat.le v3 m.length->(decide ((↑v3:Int)<(↑m.length:Int))=true->((0:Int)<=(↑v3:Int)/\(↑v3:Int)<(↑m.length:Int))/\∃(v6:Nat),∃(v7:Nat),Nat.le v7 (nL m v6).length/\((True/\(0:Int)=(↑v7:Int)/\True)/\w1i m v3=rowT (w1i m v6) (nL m v6) v7/\True)/\∀(v8:Nat),Nat.le v8 (nL m v6).length->(decide ((↑v8:Int)<(↑(nL m v3).length:Int))=true->((0:Int)<=(↑v8:Int)/\(↑v8:Int)<(↑(nL m v3).length:Int))/\fits .i64 (nI (nL m v3) v8+(1:Int))/\((0:Int)<=nI (nL m v3) v8+(1:Int)/\nI (nL m v3) v8+(1:Int)<(↑(3:Nat):Int))/\((0:Int)<=byteAt { data:=#[(45:UInt8),(46:UInt8),(43:UInt8)] } (nI (nL m v3) v8+(1:Int)).toNat/\byteAt { data:=#[(45:UInt8),(46:UInt8),(43:UInt8)] } (nI (nL m v3) v8+(1:Int)).toNat<(256:Int)/\ByteArray.size (rowT (w1i m v6) (nL m v6) v8)+(1:Nat)<=(1000000000:Nat))/\fits .i64 ((↑v8:Int)+(1:Int))/\∃(v11:Nat),Nat.le v11 (nL m v6).length/\(nL m v6).length-v11<(nL m v6).length-v8/\(True/\(↑v8:Int)+(1:Int)=(↑v11:Int)/\True)/\ByteArray.push (rowT (w1i m v6) (nL m v6) v8) (Nat.toUInt8 (byteAt { data:=#[(45:UInt8),(46:UInt8),(43:UInt8)] } (nI (nL m v3) v8+(1:Int)).toNat).toNat)=rowT (w1i m v6) (nL m v6) v11/\True)/\(decide ((↑v8:Int)<(↑(nL m v3).length:Int))=false->((0:Int)<=(10:Int)/\(10:Int)<(256:Int)/\ByteArray.size (rowT (w1i m v6) (nL m v6) v8)+(1:Nat)<=(1000000000:Nat))/\fits .i64 ((↑v3:Int)+(1:Int))/\∃(v11:Nat),Nat.le v11 m.length/\m.length-v11<m.length-v3/\(True/\(↑v3:Int)+(1:Int)=(↑v11:Int)/\True)/\ByteArray.push (rowT (w1i m v6) (nL m v6) v8) (Nat.toUInt8 (10:Nat))=w1i m v11/\True))/\(decide ((↑v3:Int)<(↑m.length:Int))=false->Value.string (w1i m v3)=Value.string (xa1 m)))) ?_
 refine⟨λh=>by simp[xa1,h],λhv=>?_⟩
 have hM:=Mk.of hv
 have hsz:=w1j hM
 have m6:=hM.rows6
 have p10:=hM.pix10
 refine⟨(),0,zaf _,⟨rfl,rfl⟩,λk hk=>⟨λhlt=>⟨hlt,k,0,zaf _,⟨rfl,rfl⟩,λt ht=>?_⟩,λhge=>?_⟩⟩
 ·have hs0:=hsz k hk
  have hk6:k*((nL m 0).length+1)<=6*11:=zbg ow ow
  have hl:=hM.each k hlt
  have hs1:=wb8 (w1i m k) (nL m k) t
  refine⟨λh1=>?_,λh1=>?_⟩
  ·have hb:=hM.small k hlt t ow
   have hby:=w94 ⟨#[45,46,43]⟩ (Int.toNat (nI (nL m k) t+1))
   exact⟨h1,qa7,⟨ow,by grind⟩,⟨hby.1,hby.2,ow⟩,qa7,t+1,ow,ow,ow,rfl⟩
  ·obtain rfl:t=(nL m k).length:=ow
   exact⟨ow,qa7,k+1,ow,ow,ow,rfl⟩
 ·obtain rfl:k=m.length:=ow
  grind [xa1]
def textF (m:List (List Int)) (f:Flt):ByteArray:=xa1 (qt2 m f)
abbrev nFt (l:List Flt) (k:Nat):Flt:=l.getD k (0,0,0)
def q5j (m:List (List Int)) (L:List Flt):Nat->List (ByteArray × Bool)
 | 0=>[]
 | k+1=>q7b (q5j m L k) (textF m (nFt L k)) true
def y1v (m:List (List Int)) (L:List Flt) (k:Nat):Bool:=(q5m (q5j m L k) (textF m (nFt L k))).getD false
def w1l (m:List (List Int)) (L:List Flt):Nat->List Flt
 | 0=>[]
 | k+1=>w1l m L k++if y1v m L k then[] else[nFt L k]
theorem w6w (m:List (List Int)) (L:List Flt):∀k,(w1l m L k).length<=k
 | 0=>zac _
 | k+1=>by
  have:=w6w m L k
  grind [w1l,List.length_append]
theorem w6x (m:List (List Int)) (k i:Nat):∀j,(q7m m k i j).length<=j
 | 0=>zac _
 | j+1=>by
  have:=w6x m k i j
  grind [q7m,List.length_append]
theorem w6y {m:List (List Int)} (h:Mk m) (k:Nat):∀i,(q6f m k i).length<=i*10
 | 0=>zaf _
 | i+1=>by
  have h1:=w6y h k i
  have h2:=w6x m k i (nL m 0).length
  have h3:=h.pix10
  grind [q6f,List.length_append]
theorem x4d {m:List (List Int)} (h:Mk m):(ql4 m 4).length<=240:=by
 have h1:=h.rows6
 grind [w6y,ql4,List.length_append,List.length_nil]
theorem w6z {m:List (List Int)} {k i:Nat} {f:Flt}:∀j,f∈q7m m k i j->fvB m f=true
 | 0,h=>by cases h
 | j+1,h=>by
  rw[q7m] at h
  rcases zak.1 h with h | h
  ·exact w6z j h
  grind
theorem w60 {m:List (List Int)} {k:Nat} {f:Flt}:∀i,f∈q6f m k i->fvB m f=true
 | 0,h=>by cases h
 | i+1,h=>by
  rw[q6f] at h
  rcases zak.1 h with h | h
  ·exact w60 i h
  grind [w6z]
theorem w61 {m:List (List Int)} {f:Flt}:∀k,f∈ql4 m k->fvB m f=true
 | 0,h=>by cases h
 | k+1,h=>by
  rw[ql4] at h
  rcases zak.1 h with h | h
  ·exact w61 k h
  grind [w60]
abbrev sAl:qa8:=qd9 true (some 170) [qg1] [.list qr3] (λx=>qb6 x.1=true) (λx=>(w1l x.1 (ql4 x.1 4) (ql4 x.1 4).length,()))
def y1w (m:List (List Int)) (k:Nat):List AObj:=[.box 23 (.cons (.dat (.list (.int .i64)) m) .nil),.box 70 (.cons (.own 4) .nil),.mp .bool (q5j m (ql4 m 4) k),.box 166 (.cons (.own 2) .nil),.vec 170 qr3 (w1l m (ql4 m 4) k)]
def y6q (m:List (List Int)):Nat->Option Inv
 | 0=>some (Inv.of [] 5 (λ_=>[]) (λc:Nat=>y1w m c) (λc=>c<=(ql4 m 4).length) (λc=>c))
 | _=>none
theorem x4e:Meets Tryz.prog 92 sAl:=by
 refine meets (yo3 (SpecsOk.cons w91 (SpecsOk.cons xx2 (SpecsOk.cons w1k (SpecsOk.nil _)))) (ItsOk.cons x37 ItsOk.nil)) Tryz.func92 rfl rfl (λx=>y6q x.1) (λ_=>by kernel_rfl) dc ?_
 rintro⟨m,⟨⟩⟩ h
 revert m
 intro(m:List (List Int)) (h:qb6 m=true)
 refine vcs (True/\qb6 m=true/\∃(v0:Unit),∃(v1:Nat),Nat.le v1 (ql4 m (4:Nat)).length/\v1=(0:Nat)/\((m=m/\True)/\(True/\True)/\[]=q5j m (ql4 m (4:Nat)) v1/\(True/\True)/\w1l m (ql4 m (4:Nat)) v1=[]/\True)/\∀(v2:Nat),Nat.le v2 (ql4 m (4:Nat)).length->(∀(v4:(Int × Int × Int) × qa3._f [] PUnit.unit),(List.map fA (ql4 m (4:Nat)))[v2]?=some v4->xx1 m (v4.1.1,v4.1.2.1,v4.1.2.2)/\True/\((!Option.getD (q5m (q5j m (ql4 m (4:Nat)) v2) (xa1 (q3l (Ty.int .i64) (qt2 m (v4.1.1,v4.1.2.1,v4.1.2.2)) none))) (Ty.dflt Ty.bool))=true->((0:Nat)<List.length [(v4.1.1,v4.1.2.1,v4.1.2.2)]/\Nat.le ((w1l m (ql4 m (4:Nat)) v2).length+List.length [(v4.1.1,v4.1.2.1,v4.1.2.2)]) (1000000:Nat))/\∃(v7:Nat),Nat.le v7 (ql4 m (4:Nat)).length/\v7=v2+(1:Nat)/\(m=m/\True)/\(True/\True)/\q7b (q5j m (ql4 m (4:Nat)) v2) (xa1 (q3l (Ty.int .i64) (qt2 m (v4.1.1,v4.1.2.1,v4.1.2.2)) none)) true=q5j m (ql4 m (4:Nat)) v7/\(True/\True)/\w1l m (ql4 m (4:Nat)) v2++[(v4.1.1,v4.1.2.1,v4.1.2.2)]=w1l m (ql4 m (4:Nat)) v7/\True)/\((!Option.getD (q5m (q5j m (ql4 m (4:Nat)) v2) (xa1 (q3l (Ty.int .i64) (qt2 m (v4.1.1,v4.1.2.1,v4.1.2.2)) none))) (Ty.dflt Ty.bool))=false->∃(v7:Nat),Nat.le v7 (ql4 m (4:Nat)).length/\v7=v2+(1:Nat)/\(m=m/\True)/\(True/\True)/\q7b (q5j m (ql4 m (4:Nat)) v2) (xa1 (q3l (Ty.int .i64) (qt2 m (v4.1.1,v4.1.2.1,v4.1.2.2)) none)) true=q5j m (ql4 m (4:Nat)) v7/\(True/\True)/\w1l m (ql4 m (4:Nat)) v2=w1l m (ql4 m (4:Nat)) v7/\True))/\(v2=(List.map fA (ql4 m (4:Nat))).length->w1l m (ql4 m (4:Nat)) v2=w1l m (ql4 m (4:Nat)) (ql4 m (4:Nat)).length)) ?_
 have hM:=Mk.of h
 have hle:=x4d hM
 refine⟨h,(),0,zaf _,rfl,⟨rfl,rfl⟩,λk hk=>⟨?_,λe=>?_⟩⟩
 ·rintro⟨⟨kd,r,p⟩,⟨⟩⟩ hf
  rw[zbm] at hf
  obtain⟨f',h1,h2⟩:=zb5.1 hf
  obtain rfl:f'=(kd,r,p):=za1 Prod.fst h2
  have hlt:=(zag.1 h1).1
  have hn:nFt (ql4 m 4) k=(kd,r,p):=by grind
  have hv:fvB m (kd,r,p)=true:=w61 4 (zah h1)
  have hlen:=w6w m (ql4 m 4) k
  have e1:y1v m (ql4 m 4) k=(q5m (q5j m (ql4 m 4) k) (xa1 (qt2 m (kd,r,p)))).getD false:=by grind [y1v,textF]
  have e2:q7b (q5j m (ql4 m 4) k) (xa1 (qt2 m (kd,r,p))) true=q5j m (ql4 m 4) (k+1):=by rw[q5j,textF,hn]
  refine⟨⟨h,hv⟩,λhb=>⟨ow,k+1,hlt,rfl,e2,?_⟩,λhb=>⟨k+1,hlt,rfl,e2,?_⟩⟩
  ·rw[w1l,zaj (by rw[e1]; exact ne_true_of_eq_false hb),hn]
  ·rw[w1l,zam (e1.trans hb),zb8]
 grind
def x9v (m:List (List Int)):List Flt × Int:=if qb6 m then(w1l m (ql4 m 4) (ql4 m 4).length,0) else([],1)
abbrev y1x:qa8:=qd9 false none [qg1] [.list qr3,qc0] (λ_=>True) (λx=>((x9v x.1).1,(x9v x.1).2,()))
theorem w95:Meets Tryz.prog 43 y1x:=by
 refine mt0 (SpecsOk.cons qx3 (SpecsOk.cons x4e (SpecsOk.nil _))) Tryz.func43 ?_
 rintro⟨m,⟨⟩⟩ -
 revert m
 intro(m:List (List Int))
 refine vcs (True/\((!qb6 m)=true->(x9v m).1=[]/\(1:Int)=(x9v m).2/\True)/\((!qb6 m)=false->qb6 m=true/\w1l m (ql4 m (4:Nat)) (ql4 m (4:Nat)).length=(x9v m).1/\(0:Int)=(x9v m).2/\True)) ?_
 grind [x9v]
def smB (m:List (List Int)) (n:Int):Bool:=(m.all λl=>decide ((l.length:Int)<=n)) && decide (m.length<=6)
structure yp3 (m:List (List Int)) (n:Int) (k:Nat):Prop where
 le:k<=m.length
 all:∀i,i<k->((nL m i).length:Int)<=n
def y6r (m:List (List Int)) (n:Int):Nat->Option Inv
 | 0=>some (Inv.of [9] 0 (λk:Nat=>[(9,.lit (.int .i64 k))]) (λ_=>[]) (λk=>yp3 m n k) (λk=>m.length-k))
 | _=>none
abbrev sSm:qa8:=qd9 true none [qg1,qc0] [.bool] (λx=>x.1.length<=9223372036854775807) (λx=>(smB x.1 x.2.1,()))
theorem x4f:Meets Tryz.prog 8 sSm:=by
 refine mts (SpecsOk.nil _) Tryz.func8 (λx=>y6r x.1 x.2.1) ?_
 rintro⟨m,n,⟨⟩⟩ h
 revert m n
 intro(m:List (List Int)) (n:Int) (h:m.length<=9223372036854775807)
 refine vcs (∃(v0:Unit),∃(v1:Nat),yp3 m n v1/\(((0:Int)=(↑v1:Int)/\True)/\True)/\∀(v2:Nat),yp3 m n v2->(decide ((↑v2:Int)<(↑m.length:Int))=true->((0:Int)<=(↑v2:Int)/\(↑v2:Int)<(↑m.length:Int))/\(decide (n<(↑(nL m v2).length:Int))=true->false=smB m n)/\(decide (n<(↑(nL m v2).length:Int))=false->fits .i64 ((↑v2:Int)+(1:Int))/\∃(v6:Nat),yp3 m n v6/\m.length-v6<m.length-v2/\((↑v2:Int)+(1:Int)=(↑v6:Int)/\True)/\True))/\(decide ((↑v2:Int)<(↑m.length:Int))=false->decide ((↑m.length:Int)<=(6:Int))=smB m n)) ?_
 refine⟨(),0,⟨zaf _,λi hi=>absurd hi ow⟩,rfl,λk hk=>⟨λhlt=>⟨hlt,λhn=>?_,λhn=>?_⟩,λhge=>?_⟩⟩
 ·grind [smB,decide,List.all_eq_false,nL,ql6,List.getElem_mem]
 ·refine⟨qa7,k+1,⟨hlt,λi hi=>?_⟩,ow,ow⟩
  by_cases q:i=k
  ·grind
  ·exact hk.all i ow
 ·have hkl:=hk.le
  have:(m.all λl=>decide ((l.length:Int)<=n))=true:=by
   rw[zaq]
   intro l hl
   obtain⟨i,hi,rfl⟩:=zbu hl
   have:=hk.all i ow
   grind [ql6,decide_eq_true]
  unfold smB
  grind
def x9w (l:List (List Int)) (k:Nat):Nat->Int × Int
 | 0=>(0,1)
 | i+1=>wp3 (x9w l k i) (ofR (q0y (szV (nL l i)) ((xs8 (nL l i)).take k)) (szL (nL l i)))
theorem w62 (l:List (List Int)) (k:Nat):∀n,qk1 l k n=x9w l k n
 | 0=>rfl
 | n+1=>by
  rw[qk1,x9w,w62 l k n]
  grind [shR,q5e]
abbrev m9:List (List Int):=[[1,1,0],[0,1,1]]
abbrev p9:List (List Int):=[[0,0,0],[0,5,0]]
theorem y6s:q64 m9=(1,0):=by
 have hc:(qh9 m9).1=[[1,-1,1]]:=by rfl
 have hv:qb6 m9=true:=by rfl
 unfold q64 ordL
 rw[zam hv,hc]
 show(((ordF [[1,-1,1]] 3 0:Nat):Int),(0:Int))=(1,0)
 simp only[ordF,w62]
 rfl
theorem cc9:x2q m9:=ya4 λ_=>by show 3<=7; decide
theorem y6t:w0h m9 p9 2 1=(true,0):=by rfl
theorem wh9:xm7 m9 (qm0 m9 p9 2 2) 1:=by
 intro i hi h1 h2
 have hi:i<2:=hi
 match i,hi,h1 with
 | 0,_,h1=>cases h1
 | 1,_,_=>
  show wp0 m9 [5,5] 1
  have hL:qe0 m9 [5,5] 1=[([1],[(5,1)])]:=by rfl
  refine⟨⟨⟨dc,dc,dc,dc,dc,λj hj s hs=>?_⟩,by grind⟩,λf hf=>?_⟩
  ·have hN:fitsN m9 1=2:=by rfl
   have:=q5a hs
   grind [xo9]
  ·rw[hL] at hf
   obtain rfl:=zav.1 hf
   refine⟨rfl,dc,λj hj=>?_⟩
   obtain rfl:j=0:=by grind
   exact⟨dc,dc⟩
abbrev y1y:qa8:=qd9 true none [] [.bool] (λ_=>True) (λ_=>(true,()))
theorem w96:Meets Tryz.prog 10 y1y:=by
 refine mt0 (SpecsOk.cons q99 (SpecsOk.cons w95 (SpecsOk.cons w0i (SpecsOk.nil _)))) Tryz.func10 ?_
 rintro⟨⟩ -
 refine vcs (x2q [[(1:Int),(1:Int),(0:Int)],[(0:Int),(1:Int),(1:Int)]]/\True/\((0:Int)=(0:Int)->∀(v1:Nat),Nat.le (Nat.succ v1) (2:Nat)->(nFr (qm0 [[(1:Int),(1:Int),(0:Int)],[(0:Int),(1:Int),(1:Int)]] [[(0:Int),(0:Int),(0:Int)],[(0:Int),(5:Int),(0:Int)]] (2:Nat) (2:Nat)) v1).1=false->q1y [[(1:Int),(1:Int),(0:Int)],[(0:Int),(1:Int),(1:Int)]] (nFr (qm0 [[(1:Int),(1:Int),(0:Int)],[(0:Int),(1:Int),(1:Int)]] [[(0:Int),(0:Int),(0:Int)],[(0:Int),(5:Int),(0:Int)]] (2:Nat) (2:Nat)) v1).2 (1:Int)=(0:Int)->wp0 [[(1:Int),(1:Int),(0:Int)],[(0:Int),(1:Int),(1:Int)]] (nFr (qm0 [[(1:Int),(1:Int),(0:Int)],[(0:Int),(1:Int),(1:Int)]] [[(0:Int),(0:Int),(0:Int)],[(0:Int),(5:Int),(0:Int)]] (2:Nat) (2:Nat)) v1).2 (1:Int))/\(((0:Int)==(0:Int))=true->(((q64 [[(1:Int),(1:Int),(0:Int)],[(0:Int),(1:Int),(1:Int)]]).1==(1:Int))=true->(((0:Int)==(0:Int))=true->(((↑(6:Nat):Int)==(6:Int))=true->(((0:Int)==(0:Int))=true->(w0h [[(1:Int),(1:Int),(0:Int)],[(0:Int),(1:Int),(1:Int)]] [[(0:Int),(0:Int),(0:Int)],[(0:Int),(5:Int),(0:Int)]] (2:Int) (1:Int)).1=true)/\(((0:Int)==(0:Int))=false->false=true))/\(((↑(6:Nat):Int)==(6:Int))=false->false=true))/\(((0:Int)==(0:Int))=false->false=true))/\(((q64 [[(1:Int),(1:Int),(0:Int)],[(0:Int),(1:Int),(1:Int)]]).1==(1:Int))=false->false=true))/\(((0:Int)==(0:Int))=false->false=true)) ?_
 have ho:(q64 m9).1=1:=za1 Prod.fst y6s
 have hs:(w0h m9 p9 2 1).1=true:=za1 Prod.fst y6t
 exact⟨cc9,wh9,⟨⟨λ_=>⟨⟨λ_=>⟨hs,λq=>absurd trivial q⟩,λq=>absurd rfl q⟩,λq=>absurd trivial q⟩,λq=>absurd ho q⟩,λq=>absurd trivial q⟩⟩
theorem xx3 {m p:List (List Int)} (h:Vp m p) {i j:Nat} (hi:i<p.length) (hj:j<p.length):q7i m (qs0 (nL p i) (nL p j))=0:=by
 have h1:=h.len i hi
 have h2:=h.len j hj
 have hl:(qs0 (nL p i) (nL p j)).length=(nL m 0).length:=(qw1 _ _ _).trans h2
 unfold q7i w98
 rw[zaj (by rw[h.val]; decide),zaj (by rw[hl]; exact λq=>q rfl),zaj]
 rw[Bool.not_eq_false,zaq]
 intro x hx
 unfold qs0 q56 at hx
 obtain⟨k,hk,rfl⟩:=zbf.1 hx
 have hk:=za2.1 hk
 have b1:=h.bd i hi k ow
 have b2:=h.bd j hj k ow
 unfold qe5 at b1 b2
 exact qh1.2 ow
open Go Go.Proofs Go.RowKit Eng
open Go Go.RowKit Eng Ls
open Go Go.RowKit Eng
theorem wrap_small {x:Int} (h0:0<=x) (h1:x<=1000):IntKind.i64.wrap x=x:=by
 have hm:x % 18446744073709551616=x:=ow
 show(if(true && decide (x % 18446744073709551616 ≥ 9223372036854775808))=true then x % 18446744073709551616-18446744073709551616 else x % 18446744073709551616)=x
 grind
theorem w63 {m:List (List Int)} (hM:Mk m) (h7:(nL m 0).length<=7):q06 m=true:=by
 have m6:=hM.rows6
 have key:∀k,k<=m.length->0<=w2q m k/\w2q m k<=8*k:=by
  intro k
  induction k with
  | zero=>simp_all [Int.le_refl,w2q]
  | succ k ih=>
   intro hk
   have h1:=ih ow
   have h2:=hM.each k ow
   grind [nL,wrap_small,w2q]
 have hk:=key m.length (zac _)
 unfold q06
 rw[zcq (show w2q m m.length<=200 by omega),Bool.and_true,zec,zbx]
 intro l hl
 obtain⟨i,hi,rfl⟩:=zbu hl
 have:=hM.each i hi
 grind [ql6,x7y,decide_eq_false]
theorem xx4 {m:List (List Int)} {n:Nat} (h:smB m n=true) (h1:1<=m.length):(nL m 0).length<=n:=by
 unfold smB at h
 rw[zax,zaq] at h
 have:=zbi (h.1 (nL m 0) (by grind [ql6,List.getElem_mem]))
 omega
theorem x9y {m:List (List Int)} {x:List Int} (hF:xy3 m) (he:q7i m x=0) (hr:qq8 m (qc8 m x) []=0) (hk:nzTo x x.length<=ordL m):xv7 (qe0 m (qc8 m x) 10)=[q5i m x]:=by
 have hS:=Shw.of he
 have hn:=hF.n7 hS.val
 have hs:=x3u hF he hk
 unfold yo9 at hs
 rw[zax,za5,za5] at hs
 obtain⟨g1,g2⟩:=w6u (m:=m) (y:=qc8 m x) hn
 exact(w9s hS.val hn hS.len hr g1 g2).2 ((xv5 m x).1 hs.2)
theorem y1z (a:Int):ofR a 1=(a,1):=by
 have:=w3i (b:=1) (x:=a) dc
 grind
theorem x4g (m:List (List Int)) (x:List Int):nrQ (q5i m x)=(sA (nL m 0).length (nI x),1):=by
 grind [w6r,nrQ,y1z]
structure y6u (m:List (List Int)) (x:List Int):Prop where
 sh:Shw m x
 ask:w1h m (qc8 m x)=(((m,qc8 m x),(sA (nL m 0).length (nI x),1),[q5i m x]),0)
 askP:x9l m (qc8 m x)
 fd:fdR m x=(true,0)
 fdP:FdP m x
theorem y6v {m:List (List Int)} {x:List Int} (hF:xy3 m) (he:q7i m x=0) (hr:qq8 m (qc8 m x) []=0) (hk:nzTo x x.length<=ordL m):y6u m x:=by
 have hS:=Shw.of he
 have hn:=hF.n7 hS.val
 have hM:=hS.msk
 have h10:=hM.pix10
 have h1:=x9y hF he hr hk
 have hA:w1h m (qc8 m x)=(((m,qc8 m x),(sA (nL m 0).length (nI x),1),[q5i m x]),0):=by
  unfold w1h yp1
  rw[zaj (λq=>q hr),h1,zaj (by simp)]
  show(((m,qc8 m x),nrQ (q5i m x),[q5i m x]),_)=_
  rw[x4g]
 have hmem:q5i m x∈qe0 m (qc8 m x) 10:=((w6u (m:=m) (y:=qc8 m x) hn).1.least (q5i m x) (by grind)).1
 have hP:x9l m (qc8 m x):=⟨λ_=>w5v hF.fit hM hn dc dc,λ_ f hf=>ym3 hf,λ_=>by grind⟩
 have hC:wc0 m (qc8 m x)=([spF m (q5i m x)],0):=by grind [wc0]
 have hout:wx9 (qc8 m x)=false:=by
  cases q:wx9 (qc8 m x) with
  | false=>rfl
  | true=>
   unfold qq8 at hr
   grind
 obtain⟨n1,n2⟩:=qf5 (nI x) (nL m 0).length
 have hlen:(spF m (q5i m x)).length=(nL m 0).length:=by grind [spF,q28]
 refine⟨hS,hA,hP,?_,by have:=hS.len; omega,λ_ _=>⟨⟨hP,λf hf=>?_⟩,λ_ _=>?_⟩⟩
 ·unfold fdR
  rw[zaj (λq=>q he),hout,zaj dc,hC,zaj (by simp)]
  rw[(x3t hM hS.len hmem).2 rfl]
 ·rw[hA] at hf ⊢
  obtain rfl:=zav.1 hf
  have:=hM.rows1
  have:=hM.pix1
  refine⟨by grind,by grind,by grind,by simp[q5i],?_,n1.at_⟩
  have:=n1.len
  show(qo7 (nL m 0).length (nI x)).length<=_
  omega
 ·rw[hC]
  show(spF m (q5i m x)).length<=_
  rw[hlen,hS.len]; simp
def y6w (p:List (List Int)) (i:Nat):Int:=((nzTo (qs0 (nL p i) (nL p (i+1))) (nL p (i+1)).length:Nat):Int)
def wc9 (p:List (List Int)) (k:Nat):List Int:=(List.range k).map (y6w p)
def szR (m p:List (List Int)):List Int × Int:=if vpB m p then(wc9 p (p.length-1),0) else([],1)
def y10 (p:List (List Int)):Nat->Option Inv
 | 0=>some (Inv.of [6,19] 1 (λk:Nat=>[(6,.own 0),(19,.lit (.int .i64 k))]) (λk=>[.vec 3 (.int .i64) (wc9 p k)]) (λk=>k+1<=p.length) (λk=>p.length-k))
 | 1=>some (Eng.Inv.mk Nat Nat [6,9,29,31] 2 (λk i=>[(6,.own 0),(9,.lit (.int .i64 (nzTo (qs0 (nL p k) (nL p (k+1))) i))),(29,.own 1),(31,.lit (.int .i64 i))]) (λk i=>[.vec 3 (.int .i64) (wc9 p k),.vec 3 (.int .i64) (qs0 (nL p k) (nL p (k+1)))]) (λk i=>i<=(nL p (k+1)).length) (λk i=>(nL p (k+1)).length-i))
 | _=>none
abbrev y6x:qa8:=qd9 true none [qg1,qg1] [qf1,qc0] (λ_=>True) (λx=>((szR x.1 x.2.1).1,(szR x.1 x.2.1).2,()))
theorem xx5:Meets Tryz.prog 32 y6x:=by
 refine mts (SpecsOk.cons q7x (SpecsOk.cons q9l (SpecsOk.nil _))) Tryz.func32 (λx=>y10 x.2.1) ?_
 rintro⟨m,p,⟨⟩⟩ -
 revert m p
 intro(m:List (List Int)) (p:List (List Int))
 refine vcs (True/\((!vpB m p)=true->(szR m p).1=[]/\(1:Int)=(szR m p).2/\True)/\((!vpB m p)=false->((0:Int)<=(1:Int)/\(1:Int)<=(↑p.length:Int)/\(↑p.length:Int)<=(↑p.length:Int))/\∃(v1:Unit),∃(v2:Nat),Nat.le (v2+(1:Nat)) p.length/\((True/\(0:Int)=(↑v2:Int)/\True)/\wc9 p v2=[]/\True)/\∀(v3:Nat),Nat.le (v3+(1:Nat)) p.length->(decide ((↑v3:Int)<(↑(List.drop (1:Nat) (List.take (↑p.length:Int).toNat p)).length:Int))=true->((0:Int)<=(↑v3:Int)/\(↑v3:Int)<(↑(List.drop (1:Nat) (List.take (↑p.length:Int).toNat p)).length:Int))/\((0:Int)<=(↑v3:Int)/\(↑v3:Int)<(↑p.length:Int))/\wi4 (nL p v3) (nL (List.drop (1:Nat) (List.take (↑p.length:Int).toNat p)) v3)/\∃(v6:Nat),∃(v7:Nat),Nat.le v7 (nL p (v6+(1:Nat))).length/\((True/\(0:Int)=(↑(nzTo (qs0 (nL p v6) (nL p (v6+(1:Nat)))) v7):Int)/\True/\(0:Int)=(↑v7:Int)/\True)/\wc9 p v3=wc9 p v6/\qs0 (nL p v3) (nL (List.drop (1:Nat) (List.take (↑p.length:Int).toNat p)) v3)=qs0 (nL p v6) (nL p (v6+(1:Nat)))/\True)/\∀(v8:Nat),Nat.le v8 (nL p (v6+(1:Nat))).length->(decide ((↑v8:Int)<(↑(qs0 (nL p v3) (nL (List.drop (1:Nat) (List.take (↑p.length:Int).toNat p)) v3)).length:Int))=true->((0:Int)<=(↑v8:Int)/\(↑v8:Int)<(↑(qs0 (nL p v6) (nL p (v6+(1:Nat)))).length:Int))/\v8<(qs0 (nL p v6) (nL p (v6+(1:Nat)))).length/\((nI (qs0 (nL p v6) (nL p (v6+(1:Nat)))) v8 != (0:Int))=true->fits .i64 ((↑(nzTo (qs0 (nL p v6) (nL p (v6+(1:Nat)))) v8):Int)+(1:Int))/\fits .i64 ((↑v8:Int)+(1:Int))/\∃(v12:Nat),Nat.le v12 (nL p (v6+(1:Nat))).length/\(nL p (v6+(1:Nat))).length-v12<(nL p (v6+(1:Nat))).length-v8/\(True/\(↑(nzTo (qs0 (nL p v6) (nL p (v6+(1:Nat)))) v8):Int)+(1:Int)=(↑(nzTo (qs0 (nL p v6) (nL p (v6+(1:Nat)))) v12):Int)/\True/\(↑v8:Int)+(1:Int)=(↑v12:Int)/\True)/\wc9 p v6=wc9 p v6/\qs0 (nL p v6) (nL p (v6+(1:Nat)))=qs0 (nL p v6) (nL p (v6+(1:Nat)))/\True)/\((nI (qs0 (nL p v6) (nL p (v6+(1:Nat)))) v8 != (0:Int))=false->fits .i64 ((↑v8:Int)+(1:Int))/\∃(v12:Nat),Nat.le v12 (nL p (v6+(1:Nat))).length/\(nL p (v6+(1:Nat))).length-v12<(nL p (v6+(1:Nat))).length-v8/\(True/\(↑(nzTo (qs0 (nL p v6) (nL p (v6+(1:Nat)))) v8):Int)=(↑(nzTo (qs0 (nL p v6) (nL p (v6+(1:Nat)))) v12):Int)/\True/\(↑v8:Int)+(1:Int)=(↑v12:Int)/\True)/\wc9 p v6=wc9 p v6/\qs0 (nL p v6) (nL p (v6+(1:Nat)))=qs0 (nL p v6) (nL p (v6+(1:Nat)))/\True))/\(decide ((↑v8:Int)<(↑(qs0 (nL p v3) (nL (List.drop (1:Nat) (List.take (↑p.length:Int).toNat p)) v3)).length:Int))=false->((0:Nat)<List.length [(↑(nzTo (qs0 (nL p v6) (nL p (v6+(1:Nat)))) v8):Int)]/\Nat.le ((wc9 p v6).length+List.length [(↑(nzTo (qs0 (nL p v6) (nL p (v6+(1:Nat)))) v8):Int)]) (1000000:Nat))/\fits .i64 ((↑v3:Int)+(1:Int))/\∃(v11:Nat),Nat.le (v11+(1:Nat)) p.length/\p.length-v11<p.length-v3/\(True/\(↑v3:Int)+(1:Int)=(↑v11:Int)/\True)/\wc9 p v6++[(↑(nzTo (qs0 (nL p v6) (nL p (v6+(1:Nat)))) v8):Int)]=wc9 p v11/\True))/\(decide ((↑v3:Int)<(↑(List.drop (1:Nat) (List.take (↑p.length:Int).toNat p)).length:Int))=false->wc9 p v3=(szR m p).1/\(0:Int)=(szR m p).2/\True))) ?_
 refine⟨λhv=>by unfold szR; grind,λhv=>?_⟩
 have hV:=Vp.of hv
 have lo:=hV.lo
 have hi:=hV.hi
 have h10:=hV.msk.pix10
 have hR:szR m p=(wc9 p (p.length-1),0):=by simp_all [szR,if_pos]
 have hlen:(List.drop 1 (List.take p.length p)).length=p.length-1:=by simp
 have hat:∀k,k+1<p.length->nL (List.drop 1 (List.take p.length p)) k=nL p (k+1):=λk hk=>by
  grind [ql6]
 rw[hR,hlen]
 refine⟨⟨ow,zac _⟩,(),0,ow,⟨rfl,rfl⟩,λk hk=>⟨λhlt=>?_,λhge=>?_⟩⟩
 ·have hl:=hV.len (k+1) ow
  have hcl:(qs0 (nL p k) (nL p (k+1))).length=(nL p (k+1)).length:=qw1 _ _ _
  rw[hat k ow]
  refine⟨hlt,ow,hV.chg ow ow,k,0,zaf _,⟨⟨rfl,rfl⟩,rfl,rfl⟩,λi hi2=>?_⟩
  rw[hcl]
  have hn:=xl3 (qs0 (nL p k) (nL p (k+1))) i
  refine⟨λhl2=>⟨hl2,hl2,λhz=>⟨qa7,qa7,i+1,hl2,ow,by simp_all [nzTo,if_pos],by rfl⟩,λhz=>⟨qa7,i+1,hl2,ow,by simp_all [nzTo,if_neg],by rfl⟩⟩,λhge=>⟨by grind [wc9],qa7,k+1,ow,ow,by rfl,?_⟩⟩
  obtain rfl:i=(nL p (k+1)).length:=ow
  unfold wc9
  rw[zcl,List.map_append]; rfl
 grind
open Go Go.RowKit Eng
theorem yn8 {n:Nat} {f:Fit} (hn:Named n f.1) {c:Nat} (hc:c<n):∀i,i<=f.1.length->(∀j,j<i->nI f.1 j≠(c:Int))->nI (whX n f i) c=0
 | 0,_,_=>by grind [qf3,whX]
 | i+1,hi,h=>by
  have h1:=hn.at_ i ow
  have h2:=h i ow
  rw[whX,q46 _ ow]
  exact yn8 hn hc i ow λj hj=>h j ow
theorem x9z {α:Type} {L:List α} (hn:L.Nodup) {a:α} (ha:a∈L) (h:∀b∈L,b=a):L=[a]:=by
 cases L with
 | nil=>grind
 | cons x t=>
  cases t with
  | nil=>grind
  | cons y t=>
   simp_all
theorem xx6 {m:List (List Int)} {x:List Int} (hF:xy3 m) (he:q7i m x=0) (hr:qq8 m (qc8 m x) []=0) (hk:nzTo x x.length<=ordL m):qk7 m (qc8 m x) ((ordL m:Nat):Int)=([x],0):=by
 have hS:=Shw.of he
 have hn:=hF.n7 hS.val
 have hl:=w63 hS.msk hn
 have hle:=xu9 m
 have h10:=hS.msk.pix10
 have ho:=(x3z hF hS.val).2
 rw[xu8 hl] at ho
 obtain⟨p1,p2⟩:=xw7 hl he (by grind [w2x]) ow
 have hfit:=p1.fit
 have hnz:(qn8 m x).length<=ordL m:=by rw[p1.named.2.2.1,<- x5y hS]; omega
 have hok:(qg5 m (qc8 m x) (qn8 m x)).2=true:=by grind
 have hL:qe0 m (qc8 m x) ((ordL m:Nat):Int)=[Go.Proofs.YtnchigbbjajiiaaGreat.shF x]:=by
  have hnd:(qe0 m (qc8 m x) ((ordL m:Nat):Int)).Nodup:=(List.pairwise_map.1 (wj7 (qc8 m x) _ hn)).imp λq e=>q (by rw[e])
  refine x9z hnd ?_ λf hf=>?_
  ·have h3:=w1b hok
   rw[hfit] at h3
   refine(w1d h3).2 ?_
   rw[p1.shF]
   grind
  ·obtain⟨pix,q1,rfl⟩:=q5h _ f hf
   have h4:=(w1d (w1b q1)).1 hf
   rw[(qn7 q1).fst] at h4
   have h5:pix=qn8 m x:=p1.uniq (λd hd hne=>by
    have:=w6n hl hS.val hd hne
    grind) q1
   grind
 have hN:=p1.named.1
 have hc:q1y m (qc8 m x) ((ordL m:Nat):Int)=0:=by
  unfold q1y
  rw[zam hr,zam (qh1.2 ⟨ow,ow⟩)]
 have hsh:=p1.shF
 have e1:(Go.Proofs.YtnchigbbjajiiaaGreat.shF x).1=qn8 m x:=by grind
 have hv:∀j,j<(qn8 m x).length->nQ (Go.Proofs.YtnchigbbjajiiaaGreat.shF x).2 j=(nI x (nI (qn8 m x) j).toNat,1):=λj hj=>by
  show nR (Go.Proofs.YtnchigbbjajiiaaGreat.shF x).2 j=_
  grind [q2b,qf3]
 have hB:whB (Go.Proofs.YtnchigbbjajiiaaGreat.shF x) (qn8 m x).length=true:=(xp2 _ _).2 λj hj=>by
  rw[hv j hj]
  have hat:=hN.at_ j hj
  have:=hS.bd (nI (qn8 m x) j).toNat (by rw[hS.len]; omega)
  unfold qe5 at this
  exact⟨rfl,qh1.2 ⟨ow,ow⟩⟩
 have hX:whX (nL m 0).length (Go.Proofs.YtnchigbbjajiiaaGreat.shF x) (qn8 m x).length=x:=by
  refine zbl (by rw[q0t,hS.len]) λc h1 h2=>?_
  rw[<- qf3 _ _ h1,<- qf3 _ _ h2]
  rw[q0t] at h1
  have hN2:Named (nL m 0).length (Go.Proofs.YtnchigbbjajiiaaGreat.shF x).1:=by grind
  by_cases q:∃j,j<(qn8 m x).length/\nI (qn8 m x) j=(c:Int)
  ·obtain⟨j,hj,e⟩:=q
   have:=x5f hN2 (qn8 m x).length (by grind) j hj
   grind
  ·rw[yn8 hN2 h1 (qn8 m x).length (by grind) λj hj e=>q ⟨j,hj,by grind⟩]
   refine(zae λw=>?_)
   obtain⟨j,hj,r⟩:=p1.named.2.2.2 c h1 (λz=>w z.symm)
   grind
 unfold qk7
 rw[zam hc,hL]
 unfold whL
 grind
theorem w64 (a b:List Int):∀(k c:Nat),k<=a.length->c<k->nI (qr1 a b k) c=nI a c+nI b c
 | 0,c,_,h=>absurd h (zar _)
 | k+1,c,hk,h=>by
  rw[qr1]
  by_cases q:c=k
  ·subst q
   rw[qf3 _ _ (by grind [List.length_set,q17]),zdo,q7y a b c c (zac _)]
  ·rw[q46 _ ow]
   exact w64 a b k c ow ow
theorem x50 {m p:List (List Int)} (hV:Vp m p) (h7:(nL m 0).length<=7) {i:Nat} (hi:i+1<p.length):q7i m (qs0 (nL p i) (nL p (i+1)))=0/\qq8 m (qc8 m (qs0 (nL p i) (nL p (i+1)))) []=0:=by
 have l1:=hV.len i ow
 have l2:=hV.len (i+1) hi
 have hl:(qs0 (nL p i) (nL p (i+1))).length=(nL m 0).length:=(qw1 _ _ _).trans l2
 have hat:∀j,j<(nL m 0).length->qe5 2000 (nI (qs0 (nL p i) (nL p (i+1))) j):=λj hj=>by
  have b1:=hV.bd i ow j hj
  have b2:=hV.bd (i+1) hi j hj
  have e:nI (qs0 (nL p i) (nL p (i+1))) j=nI (nL p (i+1)) j-nI (nL p i) j:=by
   grind [qf3,qs0,q56]
  omega
 have hs:=xx3 hV (i:=i) (j:=i+1) ow hi
 generalize qs0 (nL p i) (nL p (i+1))=x at *
 refine⟨hs,?_⟩
 have hM:=hV.msk
 have hout:wx9 (qc8 m x)=false:=by
  unfold wx9
  rw[zbx]
  intro n hn
  obtain⟨r,hr,rfl⟩:=zbh.1 hn
  have hrl:r<m.length:=by grind [qc8]
  have e:=w6p (x:=x) hM hrl
  rw[qf3 _ _ hr] at e
  have hb:(sm (nL m 0).length λc=>rowOf m r c*nI x c).natAbs<=(nL m 0).length*2000:=xn7 λc hc=>by
   have h1:=hM.small r hrl c hc
   have h2:=hat c hc
   unfold qe5 at h2
   show(nI (nL m r) c*nI x c).natAbs<=_
   rw[zbp]
   have:(nI (nL m r) c).natAbs<=1:=ow
   have:(nI x c).natAbs<=2000:=ow
   exact zal (zbg ‹_› ‹_›) dc
  rw[e]
  have:inB (sm (nL m 0).length λc=>rowOf m r c*nI x c) (0-1000000) 1000000=true:=qh1.2 ⟨ow,ow⟩
  have e2:(sm (nL m 0).length λc=>nI (nL m r) c*nI x c)=sm (nL m 0).length λc=>rowOf m r c*nI x c:=rfl
  grind
 unfold qq8
 rw[hV.val,zaj dc,zaj (by simp[qc8]),hout,zaj dc]
 show w5c m []=0
 unfold w5c
 rw[hV.val,zaj dc]
 rfl
theorem x4h {m p:List (List Int)} (hF:xy3 m) (hv:vpB m p=true) {e:Nat} (hs:∀i,i+1<p.length->nzTo (qs0 (nL p i) (nL p (i+1))) (nL p (i+1)).length<=ordL m):∀k,k<p.length->qp6 m (qm0 m p e p.length) ((ordL m:Nat):Int) (k+1)=nL p k:=λk=>by
 have hV:=Vp.of hv
 have h7:=hF.n7 hV.val
 have hM:=hV.msk
 have px:=hM.pix1
 have r1:=hM.rows1
 have hat:∀i,i<p.length->nFr (qm0 m p e p.length) i=xy1 m p e i:=λi hi=>by
  simp_all [nFr,qo3,q14,qm0]
 have hpic:∀i,i<p.length->q44 m (nL p i)=true:=λi hi=>by
  simp_all [vpB,Bool.and_eq_true,List.all_eq_true,ql6,List.getElem_mem]
 induction k with
 | zero=>
  intro hk
  have hl:=hV.len 0 hk
  rw[qp6,hat 0 hk]
  unfold xy1 nextL
  simp
 | succ k ih=>
  intro hk
  have ih:=ih ow
  have hl:=hV.len (k+1) hk
  have hl0:=hV.len k ow
  rw[qp6,hat (k+1) hk,ih]
  unfold xy1
  by_cases q:(k+1) % e=0
  ·rw[zam q]
   unfold nextL
   simp
  ·obtain⟨c1,c2⟩:=x50 hV h7 hk
   have hcl:(qs0 (nL p k) (nL p (k+1))).length=(nL p (k+1)).length:=qw1 _ _ _
   have hw:=xx6 hF c1 c2 (by grind)
   have hgt:∀j,j<(nL m 0).length->nI (qs0 (nL p k) (nL p (k+1))) j=nI (nL p (k+1)) j-nI (nL p k) j:=λj hj=>by
    grind [qf3,qs0,q56]
   rw[zaj q,show k+1-1=k from rfl,w0e c1]
   generalize qs0 (nL p k) (nL p (k+1))=x at *
   have hadd:qr1 x (nL p k) (nL p k).length=nL p (k+1):=by
    refine zbl (by grind [q17]) λc k1 k2=>?_
    grind [q17,qf3,w64]
   unfold nextL
   have hrl:(qc8 m x).length=m.length:=by simp[qc8]
   rw[zaj (by grind),zaj (by simp),zaj (λz=>by grind)]
   dsimp only
   rw[hw,zam ⟨rfl,rfl⟩,q8y,hadd,hpic (k+1) hk,zam rfl]
theorem x4i {m p:List (List Int)} (hF:xy3 m) (hv:vpB m p=true) {e:Int} (h1:1<=e) (h2:e<=60) (hs:∀i,i+1<p.length->nzTo (qs0 (nL p i) (nL p (i+1))) (nL p (i+1)).length<=ordL m):w0h m p e ((ordL m:Nat):Int)=(true,0):=by
 have hle:=xu9 m
 have hR:xn1 m p e ((ordL m:Nat):Int)=true:=zaq.2 λi hi=>zcq (x4h hF hv hs i (za2.1 hi))
 simp_all [inB,qh1,ordL,nL,w0h,if_neg]
structure yp4 (l:List Int) (n:Int) (k:Nat):Prop where
 le:k<=l.length
 all:∀i,i<k->nI l i<=n
def y11 (m p:List (List Int)):Nat->Option Inv
 | 0=>some (Inv.of [62] 0 (λk:Nat=>[(62,.lit (.int .i64 k))]) (λ_=>[]) (λk=>yp4 (szR m p).1 (q64 m).1 k) (λk=>(szR m p).1.length-k))
 | 1=>some (Inv.of [17] 0 (λk:Nat=>[(17,.lit (.int .i64 k))]) (λ_=>[]) (λk=>1<=k/\(k<=p.length\/k=1)) (λk=>p.length-k))
 | _=>none
abbrev y6y:qa8:=qd9 true none [qg1,qg1,qc0] [.bool] (λx=>x1h x.1/\x.2.1.length<=9223372036854775807) (λ_=>(true,()))
theorem xx7:Meets Tryz.prog 6 y6y:=by
 refine mts (SpecsOk.cons x4f (SpecsOk.cons w96 (SpecsOk.cons q99 (SpecsOk.cons xx5 (SpecsOk.cons w8z (SpecsOk.cons w0i (SpecsOk.cons w8y (SpecsOk.cons x3y (SpecsOk.nil _))))))))) Tryz.func6 (λx=>y11 x.1 x.2.1) ?_
 rintro⟨m,p,e,⟨⟩⟩ h
 revert m p e
 intro(m:List (List Int)) (p:List (List Int)) (e:Int) (h:x1h m/\p.length<=9223372036854775807)
 refine vcs (let Q0:=w0h m p e (q64 m).1; let Q1:=qm0 m p e.toNat p.length; let Q2:=encR m p e; m.length<=(9223372036854775807:Nat)/\((!smB m (5:Int))=true->True/\true=true)/\((!smB m (5:Int))=false->(decide ((6:Int)<(↑p.length:Int))=true->True/\true=true)/\(decide ((6:Int)<(↑p.length:Int))=false->x2q m/\True/\True/\(((q64 m).2 != (0:Int))=true->True/\true=true)/\(((q64 m).2 != (0:Int))=false->(((szR m p).2 != (0:Int))=true->True/\true=true)/\(((szR m p).2 != (0:Int))=false->((Q2.2 != (0:Int))=true->True/\true=true)/\((Q2.2 != (0:Int))=false->∃(v5:Unit),∃(v6:Nat),yp4 (szR m p).1 (q64 m).1 v6/\(((0:Int)=(↑v6:Int)/\True)/\True)/\∀(v7:Nat),yp4 (szR m p).1 (q64 m).1 v7->(decide ((↑v7:Int)<(↑(szR m p).1.length:Int))=true->((0:Int)<=(↑v7:Int)/\(↑v7:Int)<(↑(szR m p).1.length:Int))/\(decide ((q64 m).1<nI (szR m p).1 v7)=true->True/\true=true)/\(decide ((q64 m).1<nI (szR m p).1 v7)=false->fits .i64 ((↑v7:Int)+(1:Int))/\∃(v11:Nat),yp4 (szR m p).1 (q64 m).1 v11/\(szR m p).1.length-v11<(szR m p).1.length-v7/\((↑v7:Int)+(1:Int)=(↑v11:Int)/\True)/\True))/\(decide ((↑v7:Int)<(↑(szR m p).1.length:Int))=false->(Q0.2=(0:Int)->∀(v11:Nat),Nat.le (Nat.succ v11) Q1.length->(nFr Q1 v11).1=false->q1y m (nFr Q1 v11).2 (q64 m).1=(0:Int)->wp0 m (nFr Q1 v11).2 (q64 m).1)/\((Q0.2 != (0:Int))=true->false=true)/\((Q0.2 != (0:Int))=false->((!Q0.1)=true->false=true)/\((!Q0.1)=false->(((↑Q2.1.length:Int) != (↑p.length:Int))=true->false=true)/\(((↑Q2.1.length:Int) != (↑p.length:Int))=false->∃(v13:Unit),∃(v14:Nat),((1:Nat)<=v14/\(v14<=p.length\/v14=(1:Nat)))/\(((1:Int)=(↑v14:Int)/\True)/\True)/\∀(v15:Nat),(1:Nat)<=v15/\(v15<=p.length\/v15=(1:Nat))->(decide ((↑v15:Int)<(↑p.length:Int))=true->fits .i64 ((↑v15:Int)-(1:Int))/\((0:Int)<=(↑v15:Int)-(1:Int)/\(↑v15:Int)-(1:Int)<(↑p.length:Int))/\((0:Int)<=(↑v15:Int)/\(↑v15:Int)<(↑p.length:Int))/\True/\(((w5i m (nL p ((↑v15:Int)-(1:Int)).toNat) (nL p v15)).2 != (0:Int))=true->false=true)/\(((w5i m (nL p ((↑v15:Int)-(1:Int)).toNat) (nL p v15)).2 != (0:Int))=false->FdP m (w5i m (nL p ((↑v15:Int)-(1:Int)).toNat) (nL p v15)).1/\(((fdR m (w5i m (nL p ((↑v15:Int)-(1:Int)).toNat) (nL p v15)).1).2 != (0:Int))=true->false=true)/\(((fdR m (w5i m (nL p ((↑v15:Int)-(1:Int)).toNat) (nL p v15)).1).2 != (0:Int))=false->((!(fdR m (w5i m (nL p ((↑v15:Int)-(1:Int)).toNat) (nL p v15)).1).1)=true->false=true)/\((!(fdR m (w5i m (nL p ((↑v15:Int)-(1:Int)).toNat) (nL p v15)).1).1)=false->fits .i64 ((↑v15:Int)+(1:Int))/\∃(v21:Nat),((1:Nat)<=v21/\(v21<=p.length\/v21=(1:Nat)))/\p.length-v21<p.length-v15/\((↑v15:Int)+(1:Int)=(↑v21:Int)/\True)/\True))))/\(decide ((↑v15:Int)<(↑p.length:Int))=false->True/\true=true))))))))))) ?_
 obtain⟨hf,_⟩:=h
 refine⟨hf.rows,λhsm hp6=>⟨ya4 λhv=>?_,λho hz he=>?_⟩⟩
 ·have:=xx4 (n:=5) hsm (Mk.of hv).rows1; omega
 have hv:vpB m p=true:=by
  grind [szR]
 have hV:=Vp.of hv
 have hn:=xx4 (n:=5) hsm hV.msk.rows1
 have hF:xy3 m:=⟨hf,λ_=>by omega⟩
 have hl:=w63 hV.msk ow
 have hO:q64 m=(((ordL m:Nat):Int),0):=by unfold q64; rw[zam hV.val]
 have hZ:szR m p=(wc9 p (p.length-1),0):=by simp_all [szR,if_pos]
 have hzl:(wc9 p (p.length-1)).length=p.length-1:=by simp[wc9]
 have hlo:=hV.lo
 have hee:inB e 1 60=true:=by
  unfold encR at he
  grind
 have hE:encR m p e=(qm0 m p e.toNat p.length,0):=by simp_all [encR,if_neg,if_pos]
 have hee:=qh1.1 hee
 rw[hZ,hO,hE]
 dsimp only
 rw[hzl,q14]
 refine⟨(),0,⟨zaf _,λi hi=>absurd hi ow⟩,rfl,λk hk=>⟨λhlt=>⟨hlt,λhle=>⟨qa7,k+1,⟨ow,λi hi=>?_⟩,ow,by rfl⟩⟩,λhge=>?_⟩⟩
 ·by_cases q:i=k
  ·grind
  ·exact hk.all i ow
 have hs:∀i,i+1<p.length->nzTo (qs0 (nL p i) (nL p (i+1))) (nL p (i+1)).length<=ordL m:=λi hi=>by
  have h1:=hk.all i ow
  rw[qf3 _ _ ow] at h1
  simp only[wc9,List.getElem_map,List.getElem_range] at h1
  exact zd4.1 h1
 have hS:=x4i hF hv hee.1 hee.2 hs
 rw[hS]
 refine⟨λ_ i _ _ hc=>y0h hf hl hc,λq=>absurd rfl q,λ_=>⟨λq=>(by cases q),λ_=>⟨λq=>absurd rfl q,λ_=>⟨(),1,⟨zac _,.inr rfl⟩,rfl,λj hj hlt=>?_⟩⟩⟩⟩
 obtain⟨i,rfl⟩:∃i,j=i+1:=⟨j-1,ow⟩
 have ej:(((i+1:Nat):Int)-1).toNat=i:=ow
 rw[ej]
 have hc:w5i m (nL p i) (nL p (i+1))=(qs0 (nL p i) (nL p (i+1)),0):=by
  have hpic:∀i,i<p.length->q44 m (nL p i)=true:=λi hi=>by
   simp_all [vpB,Bool.and_eq_true,List.all_eq_true,ql6,List.getElem_mem]
  have:vpB m [nL p i,nL p (i+1)]=true:=by
   unfold vpB
   simp only[hV.val,List.all_cons,List.all_nil,hpic i ow,hpic (i+1) hlt]
   rfl
  unfold w5i
  grind
 obtain⟨c1,c2⟩:=x50 hV ow hlt
 have hcl:(qs0 (nL p i) (nL p (i+1))).length=(nL p (i+1)).length:=qw1 _ _ _
 have hX:=y6v hF c1 c2 (by grind)
 rw[hc,hX.fd]
 exact⟨qa7,⟨ow,ow⟩,hlt,λq=>absurd rfl q,λ_=>⟨hX.fdP,λq=>absurd rfl q,λ_=>⟨λq=>(by cases q),λ_=>⟨qa7,i+2,⟨ow,ow⟩,ow,by rfl⟩⟩⟩⟩
open Go.ChangeShapes Go.WideShapes Go.ChangeAt Go.RowKit Go.Deep Ls
theorem own:ownKnob Tryz.prog.godebug=none:=kr
theorem laidOut:laidOutB Tryz.prog=true:=kr
theorem yn9 {H:Type} {enc:TypeId × Value->H} {W:World} {t e q:TypeId} {v:Value} {d:DataW H} {p:List MemPlace} (ht:Tryz.prog.underlying t=some (.slice e)) (he:Tryz.prog.underlying e=some (.slice q)) (hq:Tryz.prog.underlying q=some (.int .i64))
  (ce:Tryz.prog.cellsOf e=1) (cq:Tryz.prog.cellsOf q=1)
  (hv:∃a l c,v=.slice a l c) (h:DataW.Trod enc Tryz.prog W 0 (λ_=>true) true t v d p):∃a l c m,v=.slice a l c/\SM W a l c m:=by
 obtain⟨a,l,c,rfl⟩:=hv
 obtain⟨fuel,hf⟩:=h
 rcases open_int_rows ht he hq ce cq hf with⟨hcs,_⟩ | ⟨x,l',c',A,L,C,Z,hcs,_,hl,hm,_,hr⟩
 ·simp[Value.cells] at hcs
  obtain⟨rfl,rfl,rfl⟩:=hcs
  exact⟨_,_,_,[],rfl,SM.nil W⟩
 ·simp[Value.cells] at hcs
  obtain⟨rfl,rfl,rfl⟩:=hcs
  refine⟨_,_,_,(List.range l).map (λr=>(Z r).take (L r)),rfl,by simp,hl,hm,λ_=>⟨x,rfl,λk hk=>?_⟩⟩
  obtain⟨h1,h2,h3,h4,_,h6,h7⟩:=hr k ow
  have e0:nthL ((List.range l).map (λr=>(Z r).take (L r))) k=(Z k).take (L k):=by grind [nthL]
  have e1:((Z k).take (L k)).length=L k:=by grind
  rw[e0,e1]
  refine⟨A k,C k,h1,e1,h2,h3,λhp=>?_⟩
  cases hA:A k with
  | none=>grind
  | some a'=>
   refine⟨a',rfl,λj hj=>?_⟩
   grind [nth]
open Go Go.RowKit Eng Ls
theorem xx8 {w:World} {A:Option Addr} {n c:Nat} {m:List (List Int)} (s:SM w A n c m):x1h m:=by
 have hl:=s.len
 have hn:=s.nmax
 refine⟨ow,λi hi=>?_⟩
 obtain⟨ad,_,h⟩:=s.at_ ow
 obtain⟨A',c',_,h2⟩:=h i ow
 have e:nL m i=nthL m i:=by
  rw[ql6 m i hi]
  unfold nthL
  rw[za0,zan hi]
  rfl
 rw[e]
 exact h2.nmax
end Go.Proofs.YtnchigbbjajiiaaGreat
