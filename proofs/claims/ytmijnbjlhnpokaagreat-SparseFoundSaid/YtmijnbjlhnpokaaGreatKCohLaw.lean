/- The coherence of a mask: the plain law. No condition. -/
import Derived.Test.YtmijnbjlhnpokaaGreatZ18
import Derived.Test.YtmijnbjlhnpokaaGreatW23
import Derived.Test.YtmijnbjlhnpokaaGreatTys
import Derived.Test.YtmijnbjlhnpokaaGreatEng3
import Derived.Test.YtmijnbjlhnpokaaGreatV0
import Derived.Test.YtmijnbjlhnpokaaGreatCore
import Derived.Test.YtmijnbjlhnpokaaGreatProg
import Derived.Test.YtmijnbjlhnpokaaGreatV5
import Derived.Test.YtmijnbjlhnpokaaGreatApp
set_option linter.unusedVariables false
namespace Go.Proofs.YtmijnbjlhnpokaaGreat
open Go Go.RowKit Eng
theorem w2x (x:List Int):∀k,q2c x k=(wa3 k (nI x),(wa3 k (nI x)).map λj=>(nI x j.toNat,1))
 | 0=>rfl
 | k+1=>by
  rw[q2c,wa3,w2x x k]
  by_cases h:nI x k=0
  ·rw[if_pos h,if_neg (λq=>q h)]
  ·rw[if_neg h,if_pos h]
   simp
theorem xb1 {n:Nat} {A B:List Int} (hA:Named n A) (hB:Named n B) (h:∀c:Nat,c<n->((∃q,q<A.length/\nI A q=(c:Int))↔∃q,q<B.length/\nI B q=(c:Int))):A=B:=by
 have pw:∀{l:List Int},Named n l->l.Pairwise λx y=>x<y:=λ{l} hl=>by
  rw[List.pairwise_iff_getElem]
  intro i j hi hj hij
  have:=hl.asc i j hij hj
  rw[qg1 _ _ hi,qg1 _ _ hj] at this
  exact this
 refine List.Perm.eq_of_pairwise (le:=λx y:Int=>x<=y) (λa b _ _ h1 h2=>by omega) ((pw hA).imp λq=>Int.le_of_lt q) ((pw hB).imp λq=>Int.le_of_lt q) ?_
 rw[List.perm_ext_iff_of_nodup ((pw hA).imp λq=>Int.ne_of_lt q) ((pw hB).imp λq=>Int.ne_of_lt q)]
 intro a
 rw[q25,q25]
 constructor
 ·rintro⟨q,hq,e⟩
  have h1:=hA.at_ q hq
  have e2:((nI A q).toNat:Int)=a:=by omega
  have:=(h (nI A q).toNat (by omega)).1 ⟨q,hq,by omega⟩
  rw[e2] at this
  exact this
 ·rintro⟨q,hq,e⟩
  have h1:=hB.at_ q hq
  have e2:((nI B q).toNat:Int)=a:=by omega
  have:=(h (nI B q).toNat (by omega)).2 ⟨q,hq,by omega⟩
  rw[e2] at this
  exact this
theorem x0v {m:List (List Int)} (hl:qp1 m=true) (hv:validB m=true):(qs8 m).2=0:=by
 rcases q41 hl hv with⟨c1,_⟩ | ⟨c1,_⟩
 ·have:(qo2 m).2=0:=c1
  simp[qs8,this]
 ·have:(qo2 m).2=8:=c1
  simp[qs8,this]
theorem xo8 {m:List (List Int)} (hl:qp1 m=true) (hv:validB m=true) {d:Nat->Int} (hs:Sol m.length (nL m 0).length (rowOf m) d) (hne:∃c,c<(nL m 0).length/\d c≠0):2*(qs8 m).1+1<=cntN (nL m 0).length d:=by
 obtain⟨s,s1,s2,s3,s4⟩:=q8f (Mk.of hv) _ _ (Nat.le_refl _) hs hne
 rcases q41 hl hv with⟨c1,t,t1,t2⟩ | ⟨_,_,c3⟩
 ·have h10:=t2 s s1 s2 s3
  have hn:=t1.nz
  have hp:=t1.pos
  have e:(qs8 m).1=((qo2 m).1-1).tdiv 2:=by
   have:(qo2 m).2=0:=c1
   simp[qs8,this]
  have e2:(qo2 m).1=(cntN (nL m 0).length (nI (qh7 m).1):Int):=by
   unfold qo2
   rw[wi7,t1.len]
  rw[e,e2,hn,Int.tdiv_eq_ediv_of_nonneg (by omega)]
  omega
 ·exact absurd s3 (c3 s s1 s2)
structure PicX (m:List (List Int)) (x:List Int):Prop where
 sh:Shw m x
 chk:qr5 m (qg8 m x) []=0
 ker:∀d:Nat->Int,Sol m.length (nL m 0).length (rowOf m) d->(∃c,c<(nL m 0).length/\d c≠0)->cntN (nL m 0).length (nI x)<cntN (nL m 0).length d
def qm8 (m:List (List Int)) (x:List Int):List Int:=wa3 (nL m 0).length (nI x)
theorem PicX.named {m:List (List Int)} {x:List Int} (h:PicX m x):Named (nL m 0).length (qm8 m x)/\(∀q,q<(qm8 m x).length->nI x (nI (qm8 m x) q).toNat≠0)/\(qm8 m x).length=cntN (nL m 0).length (nI x)/\∀c,c<(nL m 0).length->nI x c≠0->∃q,q<(qm8 m x).length/\nI (qm8 m x) q=(c:Int):=
 ⟨(qq1 _ _).1,(qq1 _ _).2,q34 _ _,λc hc hx=>q6e _ _ c hc hx⟩
theorem PicX.row {m:List (List Int)} {x:List Int} (h:PicX m x) {a:Nat} (ha:a<m.length):nI (qg8 m x) a=sm (nL m 0).length λc=>nI (nL m a) c*nI x c:=by
 rw[qg1 _ _ (by simp[qg8]; exact ha)]
 simp only[qg8,List.getElem_map,List.getElem_range]
 rw[dot_sm,h.sh.msk.each a ha]
theorem PicX.sum {m:List (List Int)} {x:List Int} (h:PicX m x) (f:Nat->Int) (g:Nat->Int) (hg:∀c,c<(nL m 0).length->nI x c=0->g c=0):(sm (nL m 0).length λc=>f c*g c)=sm (qm8 m x).length λq=>f (nI (qm8 m x) q).toNat*g (nI (qm8 m x) q).toNat:=by
 obtain⟨n1,n2,n3,n4⟩:=h.named
 refine qv4 (qm8 m x).length (n:=(nL m 0).length) (f:=λc=>f c*g c) (τ:=λq=>(nI (qm8 m x) q).toNat) (λq hq=>by have:=n1.at_ q hq; (try dsimp only); omega) (λq k hq hk e=>n1.inj hq hk e) λb hb hq=>?_
 try dsimp only
 rw[hg b hb (Classical.byContradiction λhx=>?_),Int.mul_zero]
 obtain⟨q,h1,h2⟩:=n4 b hb hx
 exact hq q h1 (by(try dsimp only); rw[h2]; rfl)
theorem PicX.ind {m:List (List Int)} {x:List Int} (h:PicX m x):Ind m (qm8 m x):=by
 obtain⟨n1,n2,n3,n4⟩:=h.named
 intro z hz c hc
 refine Classical.byContradiction λhne=>?_
 obtain⟨d,hd⟩:∃d:Nat->Int,∀col,d col=sm (qm8 m x).length λq=>if(nI (qm8 m x) q).toNat=col then z q else 0:=⟨_,λ_=>rfl⟩
 have hdz:∀q,q<(qm8 m x).length->d (nI (qm8 m x) q).toNat=z q:=λq hq=>by
  rw[hd,qk1 hq λi hi hne=>if_neg λe=>hne (n1.inj hi hq e),if_pos rfl]
 have h1:=h.ker d (λa ha=>?_) ⟨(nI (qm8 m x) c).toNat,by have:=n1.at_ c hc; omega,by rw[hdz c hc]; exact hne⟩
 ·have h2:cntN (nL m 0).length d<=cntN (nL m 0).length (nI x):=cnt_le _ λb hb hdb=>λhx=>hdb (by
   rw[hd]
   refine sm_zero λq hq=>if_neg λe=>n2 q hq (by rw[e]; exact hx))
  omega
 ·have e:=q5m (A:=rowOf m a) (σ:=λq=>(nI (qm8 m x) q).toNat) (w:=z) (K:=(qm8 m x).length) (N:=(nL m 0).length) λq hq=>by have:=n1.at_ q hq; (try dsimp only); omega
  have e2:(sm (nL m 0).length λc=>rowOf m a c*d c)=sm (nL m 0).length λcol=>rowOf m a col*sm (qm8 m x).length λq=>if(nI (qm8 m x) q).toNat=col then z q else 0:=qa7 λcol _=>by rw[hd]
  rw[e2,e]
  exact hz a ha
theorem x0w {b x:Int} (hb:0<b):ofR (b*x) b=(x,1):=by
 rw[wi5 hb]
 refine(wy0 hb (by decide:(0:Int)<1) (show b*x*1=x*b by grind)).trans ?_
 unfold q91
 have e:qd8 x 1=1:=by unfold qd8; rw[Int.gcd_one_right]; rfl
 rw[e,Int.tdiv_one]
 rfl
theorem PicX.grd {m:List (List Int)} {x:List Int} (h:PicX m x):GrdOk m (qg8 m x) (qm8 m x)/\∀k,k<(qm8 m x).length->ofR (nI (nL (q0c m (qm8 m x) (qg8 m x)).1 k) (qm8 m x).length) (nI (nL (q0c m (qm8 m x) (qg8 m x)).1 k) k)=(nI x (nI (qm8 m x) k).toNat,1):=by
 obtain⟨n1,n2,n3,n4⟩:=h.named
 obtain⟨z,hz⟩:∃z:Nat->Int,∀c,z c=if c<(qm8 m x).length then nI x (nI (qm8 m x) c).toNat else -1:=⟨_,λ_=>rfl⟩
 have hzN:z (qm8 m x).length=-1:=by rw[hz,if_neg (Nat.lt_irrefl _)]
 have hs:∀a,a<m.length->(sm (qm8 m x).length λc=>nI (nL m a) (nI (qm8 m x) c).toNat*z c)+nI (qg8 m x) a*z (qm8 m x).length=0:=λa ha=>by
  rw[hzN,h.row ha,h.sum (λc=>nI (nL m a) c) (nI x) λc _ e=>e]
  have e:(sm (qm8 m x).length λc=>nI (nL m a) (nI (qm8 m x) c).toNat*z c)=sm (qm8 m x).length λq=>nI (nL m a) (nI (qm8 m x) q).toNat*nI x (nI (qm8 m x) q).toNat:=qa7 λq hq=>by rw[hz,if_pos hq]
  rw[e]
  omega
 obtain⟨g1,g2⟩:=GrdOk.of h.chk n1 h.ind ⟨z,hs,by rw[hzN]; decide⟩
 refine⟨g1,λk hk=>?_⟩
 obtain⟨p1,p2⟩:=g2 z hs k hk
 rw[hzN,hz,if_pos hk] at p2
 have e:nI (nL (q0c m (qm8 m x) (qg8 m x)).1 k) (qm8 m x).length=nI (nL (q0c m (qm8 m x) (qg8 m x)).1 k) k*nI x (nI (qm8 m x) k).toNat:=by omega
 rw[e]
 exact x0w p1
theorem PicX.shF {m:List (List Int)} {x:List Int} (h:PicX m x):shF x=(qm8 m x,(qm8 m x).map λj=>(nI x j.toNat,1)):=by
 unfold Go.Proofs.YtmijnbjlhnpokaaGreat.shF
 rw[w2x,h.sh.len]
 rfl
theorem PicX.fit {m:List (List Int)} {x:List Int} (h:PicX m x):qp2 m (qg8 m x) (qm8 m x)=(Go.Proofs.YtmijnbjlhnpokaaGreat.shF x,true):=by
 obtain⟨n1,n2,n3,n4⟩:=h.named
 obtain⟨g,hv⟩:=h.grd
 have e:(List.range (qm8 m x).length).map (w5n (q0c m (qm8 m x) (qg8 m x)).1 (q0c m (qm8 m x) (qg8 m x)).2 (qm8 m x).length)=(qm8 m x).map λj=>(nI x j.toNat,1):=by
  refine List.ext_getElem (by simp) λi h1 h2=>?_
  have hi:i<(qm8 m x).length:=by simpa using h1
  rw[List.getElem_map,List.getElem_range,List.getElem_map]
  unfold w5n
  rw[g.id i hi,Int.toNat_natCast,hv i hi,qg1 _ _ hi]
 unfold qp2
 rw[g.sol,e,h.shF,if_neg]
 rintro(q | q)
 ·exact q rfl
 ·obtain⟨r,hr,hz⟩:=List.any_eq_true.1 q
  obtain⟨j,hj,rfl⟩:=List.mem_map.1 hr
  obtain⟨k,hk,e2⟩:=q25.1 hj
  have:=n2 k hk
  rw[e2] at this
  exact this (by simpa using hz)
theorem PicX.uniq {m:List (List Int)} {x:List Int} (h:PicX m x) (h2:∀d:Nat->Int,Sol m.length (nL m 0).length (rowOf m) d->(∃c,c<(nL m 0).length/\d c≠0)->2*cntN (nL m 0).length (nI x)<cntN (nL m 0).length d) {pix:List Int} (hf:(qp2 m (qg8 m x) pix).2=true) (hle:pix.length<=(qm8 m x).length):pix=qm8 m x:=by
 obtain⟨n1,n2,n3,n4⟩:=h.named
 have hF:=q0f hf
 have hP:=(Asked.of hF.chk).nam
 obtain⟨L,u,hL,hu,hr⟩:=xo4 hf
 have hnz:∀j,j<pix.length->(nR (qp2 m (qg8 m x) pix).1.2 j).1*u j≠0:=λj hj=>by
  have h1:=(wy6 hf (nR (qp2 m (qg8 m x) pix).1.2 j) (by rw[x0u _ _ (by rw[hF.len]; exact hj)]; exact List.getElem_mem _)).2
  intro q
  rcases Int.mul_eq_zero.1 q with q | q
  ·exact h1 q
  ·have:=(hu j hj).2
   rw[q,Int.mul_zero] at this
   exact hL this
 obtain⟨w,hw⟩:∃w:Nat->Int,∀j,w j=(nR (qp2 m (qg8 m x) pix).1.2 j).1*u j:=⟨_,λ_=>rfl⟩
 obtain⟨e,he⟩:∃e:Nat->Int,∀col,e col=sm pix.length λq=>if(nI pix q).toNat=col then w q else 0:=⟨_,λ_=>rfl⟩
 have hej:∀j,j<pix.length->e (nI pix j).toNat=w j:=λj hj=>by
  rw[he,qk1 hj λi hi hne=>if_neg λe=>hne (hP.inj hi hj e),if_pos rfl]
 have he0:∀c,(∀j,j<pix.length->(nI pix j).toNat≠c)->e c=0:=λc hc=>by
  rw[he]; exact sm_zero λq hq=>if_neg (hc q hq)
 have hsol:Sol m.length (nL m 0).length (rowOf m) λc=>L*nI x c-e c:=λa ha=>by
  have e1:(sm (nL m 0).length λc=>rowOf m a c*(L*nI x c-e c))=(sm (nL m 0).length λc=>L*(nI (nL m a) c*nI x c))-sm (nL m 0).length λc=>rowOf m a c*e c:=by
   rw[<- w1u]
   refine qa7 λc _=>?_
   unfold rowOf; grind
  have e2:=q5m (A:=rowOf m a) (σ:=λq=>(nI pix q).toNat) (w:=w) (K:=pix.length) (N:=(nL m 0).length) λq hq=>by have:=hP.at_ q hq; (try dsimp only); omega
  have e3:(sm (nL m 0).length λc=>rowOf m a c*e c)=sm (nL m 0).length λcol=>rowOf m a col*sm pix.length λq=>if(nI pix q).toNat=col then w q else 0:=qa7 λcol _=>by rw[he]
  have e4:(sm pix.length λq=>rowOf m a (nI pix q).toNat*w q)=nI (qg8 m x) a*L:=by
   rw[<- hr a ha]
   exact qa7 λq _=>by rw[hw]; rfl
  rw[e1,qf7,e3,e2,e4,h.row ha]
  grind
 have hz:∀c,c<(nL m 0).length->L*nI x c-e c=0:=λc hc=>Classical.byContradiction λhne=>by
  have h1:=h2 _ hsol ⟨c,hc,hne⟩
  have h3:cntN (nL m 0).length (λc=>L*nI x c-e c)<=cntN (nL m 0).length (nI x)+cntN (nL m 0).length e:=w9u _ λb hb q=>by
   by_cases hx:nI x b=0
   ·right
    intro hb2
    exact q (by rw[hx,hb2]; omega)
   ·exact .inl hx
  have h4:cntN (nL m 0).length e=pix.length:=xs6 hP (λj hj=>by rw[hej j hj,hw]; exact hnz j hj) λb hb hq=>he0 b λj hj q=>hq j hj (by have:=hP.at_ j hj; omega)
  omega
 refine xb1 hP n1 λc hc=>⟨λ⟨q,hq,eq⟩=>?_,λ⟨q,hq,eq⟩=>?_⟩
 ·refine n4 c hc λhx=>?_
  have h1:=hz c hc
  have h3:=hej q hq
  rw[eq,Int.toNat_natCast] at h3
  rw[hx,Int.mul_zero,h3,hw] at h1
  exact hnz q hq (by omega)
 ·refine Classical.byContradiction λhno=>?_
  have h1:=hz c hc
  have h3:=he0 c λj hj e=>hno ⟨j,hj,by have:=hP.at_ j hj; omega⟩
  have h4:=n2 q hq
  rw[eq,Int.toNat_natCast] at h4
  rw[h3,Int.sub_zero] at h1
  rcases Int.mul_eq_zero.1 h1 with k | k
  ·exact hL k
  ·exact h4 k
theorem w5a:((List.range 8).all λn=>decide ((List.range (n+1)).flatMap λ(k:Nat)=>qe7 (n:Nat) (k:Nat)).Nodup)=true:=by decide +kernel
theorem q8i (m:List (List Int)) (y:List Int):∀s:List (List Int),(qg0 m y s).map (·.1)=s.filter λpix=>(qp2 m y pix).2
 | []=>rfl
 | p :: s=>by
  have ih:=q8i m y s
  unfold qg0 at ih ⊢
  rw[List.filterMap_cons,List.filter_cons]
  by_cases h:(qp2 m y p).2=true
  ·rw[if_pos h,if_pos h,List.map_cons,ih,(q0f h).fst]
  ·rw[if_neg h,if_neg h,ih]
theorem w5b {m:List (List Int)} (y:List Int) (k:Int) (h7:(nL m 0).length<=7):((qi8 m y k).map (·.1)).Nodup:=by
 unfold qi8
 rw[q76,q8i]
 refine List.Pairwise.filter _ ?_
 have hk:fitsN m k<=(nL m 0).length+1:=by unfold fitsN; omega
 have h1:((List.range ((nL m 0).length+1)).flatMap λ(k:Nat)=>qe7 (nL m 0).length (k:Nat)).Nodup:=of_decide_eq_true (List.all_eq_true.1 w5a _ (List.mem_range.2 (by omega)))
 obtain⟨d,hd⟩:∃d,(nL m 0).length+1=fitsN m k+d:=⟨_,(Nat.add_sub_cancel' hk).symm⟩
 rw[hd,List.range_add,List.flatMap_append] at h1
 exact(List.nodup_append.1 h1).1
theorem PicX.only {m:List (List Int)} {x:List Int} (h:PicX m x) (h7:(nL m 0).length<=7) (h2:∀d:Nat->Int,Sol m.length (nL m 0).length (rowOf m) d->(∃c,c<(nL m 0).length/\d c≠0)->2*cntN (nL m 0).length (nI x)<cntN (nL m 0).length d):w5p m (qg8 m x)=(Go.Proofs.YtmijnbjlhnpokaaGreat.shF x,0):=by
 have hfit:=h.fit
 have hok:(qp2 m (qg8 m x) (qm8 m x)).2=true:=by rw[hfit]
 have h10:=h.sh.msk.pix10
 have hnl:=h.named.1.len
 have hin:Go.Proofs.YtmijnbjlhnpokaaGreat.shF x∈qi8 m (qg8 m x) 10:=by
  have h3:=xa8 hok
  rw[hfit] at h3
  refine(xb0 h3).2 ?_
  rw[h.shF]
  show((qm8 m x).length:Int)<=10
  omega
 have hmem:∀f∈qi8 m (qg8 m x) 10,f.1.length<=(qm8 m x).length->f=Go.Proofs.YtmijnbjlhnpokaaGreat.shF x:=λf hf hl=>by
  obtain⟨pix,p1,rfl⟩:=ws8 _ f hf
  have e:=(q0f p1).fst
  rw[e] at hl
  rw[h.uniq h2 p1 hl,hfit]
 have hnd:=w5b (qg8 m x) 10 h7
 have hasc:=wa1 m (qg8 m x) (fitsN m 10)
 change(qi8 m (qg8 m x) 10).Pairwise _ at hasc
 have hsr:qx2 m (qg8 m x)=(spL (qi8 m (qg8 m x) 10),0):=by
  unfold qx2
  rw[if_pos h.chk,if_neg]
  intro e
  rw[e] at hin
  cases hin
 generalize qi8 m (qg8 m x) 10=L at *
 obtain⟨f0,t,rfl⟩:∃f0 t,L=f0 :: t:=by
  cases L with
  | nil=>cases hin
  | cons f0 t=>exact⟨f0,t,rfl⟩
 have hf0:f0=Go.Proofs.YtmijnbjlhnpokaaGreat.shF x:=by
  rcases List.mem_cons.1 hin with q | q
  ·exact q.symm
  ·refine hmem f0 List.mem_cons_self ?_
   have:=(List.pairwise_cons.1 hasc).1 _ q
   rw[h.shF] at this
   exact this
 have hl0:f0.1.length=(qm8 m x).length:=by rw[hf0,h.shF]
 have hsp:spL (f0 :: t)=[f0]:=by
  unfold spL
  show List.takeWhile (λf=>decide (f.1.length<=f0.1.length)) (f0 :: t)=[f0]
  rw[List.takeWhile_cons,if_pos (by simp)]
  congr 1
  cases t with
  | nil=>rfl
  | cons f1 r=>
   rw[List.takeWhile_cons,if_neg]
   intro hd
   have hd:f1.1.length<=f0.1.length:=of_decide_eq_true hd
   have e1:=hmem f1 (by simp) (by omega)
   rw[List.map_cons,List.map_cons,e1,hf0] at hnd
   exact(List.nodup_cons.1 hnd).1 List.mem_cons_self
 unfold w5p
 rw[hsr,hsp,if_neg (λq=>q rfl),if_neg (show ¬1<(([f0],(0:Int)):List Fit × Int).1.length from Nat.lt_irrefl 1)]
 show(f0,(0:Int))=_
 rw[hf0]
end Go.Proofs.YtmijnbjlhnpokaaGreat
set_option linter.unusedSimpArgs false
namespace Go.Proofs.YtmijnbjlhnpokaaGreat.K
open Go Go.RowKit Eng Ls
abbrev tInt:Ty:=.int .i64
abbrev tInts:Ty:=.list (.int .i64)
abbrev tMask:Ty:=.list (.list (.int .i64))
def ctx (specs:List (Nat × qb9)) (wr:List Nat):Ctx:={ specs:=specs,tys:=tys,wr:=wr }
theorem snd {specs:List (Nat × qb9)} (h:SpecsOk Tryz.prog specs) (wr:List Nat):Sound Tryz.prog (ctx specs wr):=SpecsOk.sound h q2h (by kernel_rfl)
theorem w2y (l:List Int) (i:Nat):qd4 tInt l i=nth l i:=rfl
def w5r (m:List (List Int)) (j k:Nat):List Int:=(m.take k).map λr=>qd4 tInt r j
def colA (m:List (List Int)) (j:Nat):List Int:=m.map λr=>qd4 tInt r j
def ws9 (m:List (List Int)) (j:Int):Prop:=0<=j/\m.length<=1000/\∀k,k<m.length->j<(qd4 (.list (.int .i64)) m k:List Int).length
def x0x:qb9:=qg2 false none [tMask,tInt] [tInts] (λx=>ws9 x.1 x.2.1) (λx=>(colA x.1 x.2.1.toNat,()))
theorem xb3 {m:List (List Int)} {j k:Nat} (hk:k<m.length):w5r m j (k+1)=w5r m j k++[qd4 tInt (qd4 (.list (.int .i64)) m k) j]:=by
 unfold w5r
 rw[List.take_add_one,List.getElem?_eq_getElem hk]
 simp only[Option.toList_some,List.map_append,List.map_cons,List.map_nil]
 congr 3
 simp[qd4,hk]
def xo9 (m:List (List Int)) (j:Int):Nat->Option Inv
 | 0=>some (Inv.of [5,10] 1 (λk:Nat=>[(5,.own 0),(10,.lit (.int .i64 k))]) (λk=>[.vec 3 tInt (w5r m j.toNat k)]) (λk=>k<=m.length) (λk=>m.length-k))
 | _=>none
theorem wt0:Meets Tryz.prog 217 x0x:=by
 refine meets (snd (SpecsOk.nil _) []) Tryz.func217 rfl rfl (λx=>xo9 x.1 x.2.1) (λ_=>by kernel_rfl) (by decide) ?_
 rintro⟨m,j,⟨⟩⟩ h
 revert m j
 intro(m:List (List Int)) (j:Int) (h:ws9 m j)
 refine @qe1 _ (∃(v0:Unit),∃(v1:Nat),Nat.le v1 m.length/\((True/\(0:Int)=(↑v1:Int)/\True)/\w5r m j.toNat v1=[]/\True)/\∀(v2:Nat),Nat.le v2 m.length->(decide ((↑v2:Int)<(↑m.length:Int))=true->((0:Int)<=(↑v2:Int)/\(↑v2:Int)<(↑m.length:Int))/\((0:Int)<=j/\j<(↑(qd4 (Ty.list (Ty.int .i64)) m v2).length:Int))/\((0:Nat)<List.length [qd4 (Ty.int .i64) (qd4 (Ty.list (Ty.int .i64)) m v2) j.toNat]/\(w5r m j.toNat v2).length+List.length [qd4 (Ty.int .i64) (qd4 (Ty.list (Ty.int .i64)) m v2) j.toNat]<=(1000000:Nat))/\fits .i64 ((↑v2:Int)+(1:Int))/\∃(v5:Nat),Nat.le v5 m.length/\m.length-v5<m.length-v2/\(True/\(↑v2:Int)+(1:Int)=(↑v5:Int)/\True)/\w5r m j.toNat v2++[qd4 (Ty.int .i64) (qd4 (Ty.list (Ty.int .i64)) m v2) j.toNat]=w5r m j.toNat v5/\True)/\(decide ((↑v2:Int)<(↑m.length:Int))=false->w5r m j.toNat v2=colA m j.toNat)) (by kernel_rfl) ?_
 simp only[ne_eq,true_and,and_true,eq_self,Bool.not_eq_true',Bool.not_eq_false',decide_eq_true_eq,decide_eq_false_iff_not,Nat.le_eq,Int.not_lt,Int.not_le,Int.reduceEq,not_false_eq_true,Bool.not_eq_eq_eq_not,Bool.not_true,Bool.not_false,Int.ofNat_lt,Int.ofNat_le,Int.toNat_natCast,Int.natCast_nonneg,w2y,beq_iff_eq,bne_iff_ne,beq_eq_false_iff_ne,bne_eq_false_iff_eq,Classical.not_not,List.length_cons,List.length_nil,Nat.zero_add,List.nil_append,true_implies,Nat.lt_add_one,Nat.zero_lt_succ,Int.reduceLE,Int.reduceLT]
 obtain⟨h0,h1,h2⟩:=h
 refine⟨(),0,Nat.zero_le _,⟨rfl,rfl⟩,λk hk=>⟨λhlt=>?_,λhge=>?_⟩⟩
 ·have h3:=h2 k (by omega)
  have hl:(w5r m j.toNat k).length<=k:=by unfold w5r; simp; omega
  refine⟨by omega,⟨h0,h3⟩,by omega,qa9 (by omega) (by omega),k+1,by omega,by omega,by simp,?_⟩
  exact(xb3 (by omega)).symm
 ·obtain rfl:k=m.length:=by omega
  unfold w5r colA
  rw[List.take_length]
def rowP (i n:Nat):List (Nat × Nat):=(List.range n).map λd=>(i,i+1+d)
def prs (p:Nat):Nat->List (Nat × Nat)
 | 0=>[]
 | i+1=>prs p i++rowP i (p-(i+1))
def prsL (m:List (List Int)):List (Nat × Nat):=prs (qd4 (.list (.int .i64)) m 0:List Int).length (qd4 (.list (.int .i64)) m 0:List Int).length
abbrev wb2:List Ty:=[.prod tInt tInt,.prod tInts tInts]
def prA (m:List (List Int)) (q:Nat × Nat):qa5 wb2:=(((q.1:Int),(q.2:Int)),(colA m q.1,colA m q.2),())
def xe0 (m:List (List Int)):List (qa5 wb2):=(prsL m).map (prA m)
def square (m:List (List Int)):Prop:=0<m.length/\m.length<=1000/\(qd4 (.list (.int .i64)) m 0:List Int).length<=1000/\∀k,k<m.length->(qd4 (.list (.int .i64)) m k:List Int).length=(qd4 (.list (.int .i64)) m 0:List Int).length
def x0y:q0m:=xi2 [tMask] wb2 (λx=>square x.1) (λx=>xe0 x.1)
def x0z (m:List (List Int)):Nat->Option Inv
 | 0=>some (Inv.of [9] 1 (λi:Nat=>[(9,.lit (.int .i64 i))]) (λi=>[.cnt (some (prs (qd4 (.list (.int .i64)) m 0:List Int).length i).length)]) (λi=>i<=(qd4 (.list (.int .i64)) m 0:List Int).length) (λi=>(qd4 (.list (.int .i64)) m 0:List Int).length-i))
 | 1=>some ⟨Nat,Nat,[4],1,λi d=>[(4,.lit (.int .i64 (i+1+d)))],λi d=>[.cnt (some ((prs (qd4 (.list (.int .i64)) m 0:List Int).length i).length+d))],λi d=>d<=(qd4 (.list (.int .i64)) m 0:List Int).length-(i+1),λi d=>(qd4 (.list (.int .i64)) m 0:List Int).length-d⟩
 | _=>none
theorem xb4 (p:Nat):∀{i j:Nat},i<=j->(prs p i).length<=(prs p j).length
 | i,0,h=>by rw[show i=0 by omega]; exact Nat.le_refl _
 | i,j+1,h=>by
  by_cases e:i=j+1
  ·subst e; exact Nat.le_refl _
  ·have:=xb4 p (i:=i) (j:=j) (by omega)
   simp only[prs,List.length_append]; omega
theorem xb5 (p:Nat):∀{i j:Nat} (k:Nat),i<=j->k<(prs p i).length->(prs p j)[k]? = (prs p i)[k]?
 | i,0,k,h,_=>by rw[show i=0 by omega]
 | i,j+1,k,h,hk=>by
  by_cases e:i=j+1
  ·subst e; rfl
  ·have h1:=xb4 p (i:=i) (j:=j) (by omega)
   rw[prs,List.getElem?_append_left (by omega)]
   exact xb5 p k (by omega) hk
theorem x4y {p i d:Nat} (hi:i<p) (hd:d<p-(i+1)):(prs p p)[(prs p i).length+d]? = some (i,i+1+d):=by
 rw[xb5 p (i:=i+1) (j:=p) _ (by omega) (by simp[prs,rowP]; omega),prs,List.getElem?_append_right (by omega)]
 simp[rowP,hd]
theorem wz9:q0a Tryz.prog 216 x0y:=by
 refine says (snd (SpecsOk.cons wt0 (SpecsOk.nil _)) []) Tryz.func216 rfl rfl rfl [22] (λx=>x0z x.1) (λ_=>by kernel_rfl) (by decide) ?_
 rintro⟨m,⟨⟩⟩ l h
 revert m
 intro(m:List (List Int)) (h:square m)
 refine @qe1 _ (((0:Int)<=(0:Int)/\(0:Int)<(↑m.length:Int))/\∃(v0:Unit),∃(v1:Nat),Nat.le v1 (qd4 (Ty.list (Ty.int .i64)) m (0:Nat)).length/\(((0:Int)=(↑v1:Int)/\True)/\some (0:Nat)=some (prs (qd4 (Ty.list (Ty.int .i64)) m (0:Nat)).length v1).length/\True)/\∀(v2:Nat),Nat.le v2 (qd4 (Ty.list (Ty.int .i64)) m (0:Nat)).length->(decide ((↑v2:Int)<(↑(qd4 (Ty.list (Ty.int .i64)) m (0:Nat)).length:Int))=true->fits .i64 ((↑v2:Int)+(1:Int))/\∃(v5:Nat),∃(v6:Nat),Nat.le v6 ((qd4 (Ty.list (Ty.int .i64)) m (0:Nat)).length-(v5+(1:Nat)))/\(((↑v2:Int)+(1:Int)=(↑v5:Int)+(1:Int)+(↑v6:Int)/\True)/\some (prs (qd4 (Ty.list (Ty.int .i64)) m (0:Nat)).length v2).length=some ((prs (qd4 (Ty.list (Ty.int .i64)) m (0:Nat)).length v5).length+v6)/\True)/\∀(v7:Nat),Nat.le v7 ((qd4 (Ty.list (Ty.int .i64)) m (0:Nat)).length-(v5+(1:Nat)))->((0:Int)<=(0:Int)/\(0:Int)<(↑m.length:Int))/\(decide ((↑v5:Int)+(1:Int)+(↑v7:Int)<(↑(qd4 (Ty.list (Ty.int .i64)) m (0:Nat)).length:Int))=true->ws9 m (↑v2:Int)/\ws9 m ((↑v5:Int)+(1:Int)+(↑v7:Int))/\Value.func (Fn.yield l) #[] #[]=Value.func (Fn.yield (qk2.l (q4l [tMask] wb2 [(22:Nat)] (m,PUnit.unit) (xe0 m) l))) #[] #[]/\(qk2.L (q4l [tMask] wb2 [(22:Nat)] (m,PUnit.unit) (xe0 m) l))[(prs (qd4 (Ty.list (Ty.int .i64)) m (0:Nat)).length v5).length+v7]?=some (((↑v2:Int),(↑v5:Int)+(1:Int)+(↑v7:Int)),(colA m v2,colA m ((↑v5:Int)+(1:Int)+(↑v7:Int)).toNat),())/\(fits .i64 ((↑v5:Int)+(1:Int)+(↑v7:Int)+(1:Int))/\∃(v10:Nat),Nat.le v10 ((qd4 (Ty.list (Ty.int .i64)) m (0:Nat)).length-(v5+(1:Nat)))/\(qd4 (Ty.list (Ty.int .i64)) m (0:Nat)).length-v10<(qd4 (Ty.list (Ty.int .i64)) m (0:Nat)).length-v7/\((↑v5:Int)+(1:Int)+(↑v7:Int)+(1:Int)=(↑v5:Int)+(1:Int)+(↑v10:Int)/\True)/\some ((prs (qd4 (Ty.list (Ty.int .i64)) m (0:Nat)).length v5).length+v7+(1:Nat))=some ((prs (qd4 (Ty.list (Ty.int .i64)) m (0:Nat)).length v5).length+v10)/\True)/\True)/\(decide ((↑v5:Int)+(1:Int)+(↑v7:Int)<(↑(qd4 (Ty.list (Ty.int .i64)) m (0:Nat)).length:Int))=false->fits .i64 ((↑v2:Int)+(1:Int))/\∃(v10:Nat),Nat.le v10 (qd4 (Ty.list (Ty.int .i64)) m (0:Nat)).length/\(qd4 (Ty.list (Ty.int .i64)) m (0:Nat)).length-v10<(qd4 (Ty.list (Ty.int .i64)) m (0:Nat)).length-v2/\((↑v2:Int)+(1:Int)=(↑v10:Int)/\True)/\some ((prs (qd4 (Ty.list (Ty.int .i64)) m (0:Nat)).length v5).length+v7)=some (prs (qd4 (Ty.list (Ty.int .i64)) m (0:Nat)).length v10).length/\True))/\(decide ((↑v2:Int)<(↑(qd4 (Ty.list (Ty.int .i64)) m (0:Nat)).length:Int))=false->(prs (qd4 (Ty.list (Ty.int .i64)) m (0:Nat)).length v2).length=(qk2.L (q4l [tMask] wb2 [(22:Nat)] (m,PUnit.unit) (xe0 m) l)).length)) (by kernel_rfl) ?_
 obtain⟨h1,h2,h3,h4⟩:=h
 have hrows:∀j:Nat,j<(qd4 (.list (.int .i64)) m 0:List Int).length->ws9 m j:=λj hj=>⟨by omega,h2,λk hk=>by rw[h4 k hk]; omega⟩
 show(0<=(0:Int)/\_)/\_
 simp only[ne_eq,true_and,and_true,eq_self,Bool.not_eq_true',Bool.not_eq_false',decide_eq_true_eq,decide_eq_false_iff_not,Nat.le_eq,Int.not_lt,Int.not_le,Int.reduceEq,not_false_eq_true,Bool.not_eq_eq_eq_not,Bool.not_true,Bool.not_false,Int.ofNat_lt,Int.ofNat_le,Int.toNat_natCast,Int.natCast_nonneg,w2y,beq_iff_eq,bne_iff_ne,beq_eq_false_iff_ne,bne_eq_false_iff_eq,Classical.not_not,List.length_cons,List.length_nil,Nat.zero_add,List.nil_append,true_implies,Nat.lt_add_one,Nat.zero_lt_succ,Int.reduceLE,Int.reduceLT]
 refine⟨by omega,(),0,Nat.zero_le _,⟨rfl,rfl⟩,λi hi=>⟨λhlt=>⟨qa9 (by omega) (by omega),i,0,Nat.zero_le _,⟨by omega,rfl⟩,λd hd=>⟨by omega,λhj=>?_,λhj=>?_⟩⟩,λhge=>?_⟩⟩
 ·have hj2:i+1+d<(qd4 (.list (.int .i64)) m 0:List Int).length:=by omega
  refine⟨hrows i (by omega),by have:=hrows (i+1+d) hj2; rw[show((i+1+d:Nat):Int)=(i:Int)+1+d by omega] at this; exact this,rfl,?_,qa9 (by omega) (by omega),d+1,by omega,by omega,by omega,by rw[Nat.add_assoc]⟩
  have e:((i:Int)+1+(d:Int)).toNat=i+1+d:=by omega
  have e2:((i+1+d:Nat):Int)=(i:Int)+1+d:=by omega
  have e3:(xe0 m)[(prs (qd4 (.list (.int .i64)) m 0:List Int).length i).length+d]? = some (prA m (i,i+1+d)):=by
   unfold xe0 prsL
   rw[List.getElem?_map,x4y (by omega) (by omega)]
   rfl
  rw[e,<- e2]
  exact e3
 ·refine⟨qa9 (by omega) (by omega),i+1,by omega,by omega,by omega,?_⟩
  have:d=(qd4 (.list (.int .i64)) m 0:List Int).length-(i+1):=by omega
  subst this
  simp[prs,rowP]
 ·obtain rfl:i=(qd4 (.list (.int .i64)) m 0:List Int).length:=by omega
  show _=(xe0 m).length
  unfold xe0 prsL
  rw[List.length_map]
open Go.RowKit Ls
def inB (n lo hi:Int):Bool:=decide (lo<=n) && decide (n<=hi)
theorem inB_iff {n lo hi:Int}:inB n lo hi=true↔lo<=n/\n<=hi:=by simp[inB]
def q8j (s:Int):List Int->List Int->Int
 | a :: l,b :: r=>q8j (wrap64 (s+wrap64 (a*b))) l r
 | _,_=>s
theorem wt1 (A B:List Int) (k:Nat) (h:k<A.length) (h2:k<B.length) (s:Int) :
  q8j s (A.take (k+1)) (B.take (k+1))=wrap64 (q8j s (A.take k) (B.take k)+wrap64 (nth A k*nth B k)):=by
 induction A generalizing B k s with
 | nil=>simp at h
 | cons a l ih=>
  cases B with
  | nil=>simp at h2
  | cons b r=>
   cases k with
   | zero=>simp[q8j,nth]
   | succ k=>
    simp only[List.take_succ_cons,q8j]
    have:=ih r k (by simpa using h) (by simpa using h2) (wrap64 (s+wrap64 (a*b)))
    rw[this]; simp[nth]
theorem wt2 (A B:List Int) (h:A.length<=B.length) (s:Int):q8j s A (B.take A.length)=q8j s A B:=by
 induction A generalizing B s with
 | nil=>cases B <;> simp[q8j]
 | cons a l ih=>
  cases B with
  | nil=>simp[q8j]
  | cons b r=>simp only[List.length_cons,List.take_succ_cons,q8j]; exact ih r (by simpa using h) _
def colL (m:List (List Int)) (j:Nat):List Int:=m.map λl=>nth l j
theorem colL_len (m:List (List Int)) (j:Nat):(colL m j).length=m.length:=by simp[colL]
def rowB (l:List Int):Bool:=inB l.length 1 10 && l.all λn=>inB n (-1) 1
def yb0 (m:List (List Int)) (l:List Int):Bool:=decide (l.length=(nthL m 0).length) && rowB l
def validB (m:List (List Int)):Bool:=inB m.length 1 6 && m.all (yb0 m)
structure IsMask (m:List (List Int)):Prop where
 rows1:1<=m.length
 rows6:m.length<=6
 pix1:1<=(nthL m 0).length
 pix10:(nthL m 0).length<=10
 each:∀k,k<m.length->(nthL m k).length=(nthL m 0).length
 small:∀k,k<m.length->∀j,j<(nthL m 0).length->-1<=nth (nthL m k) j/\nth (nthL m k) j<=1
theorem xp0 {p:List Int->Bool} {m:List (List Int)} (h:m.all p=true) (k:Nat) (hk:k<m.length):p (nthL m k)=true:=by
 rw[wu3 m k hk]; exact List.all_eq_true.1 h _ (List.getElem_mem _)
theorem x00 {p:Int->Bool} {l:List Int} (h:l.all p=true) (k:Nat) (hk:k<l.length):p (nth l k)=true:=by
 rw[xp5 l k hk]; exact List.all_eq_true.1 h _ (List.getElem_mem _)
theorem IsMask.of {m:List (List Int)} (h:validB m=true):IsMask m:=by
 unfold validB at h
 rw[Bool.and_eq_true,inB_iff] at h
 have hf:=λk hk=>xp0 h.2 k hk
 have h0:=hf 0 (by omega)
 simp only[yb0,rowB,Bool.and_eq_true,decide_eq_true_eq,inB_iff] at hf h0
 exact⟨by omega,by omega,by omega,by omega,λk hk=>(hf k hk).1,λk hk j hj=>by
  have:=x00 (hf k hk).2.2 j (by rw[(hf k hk).1]; exact hj)
  rwa [inB_iff] at this⟩
def listedE (len most:Int) (l:List Int):Int:=if(l.length:Int)≠len then 9 else if l.all (λn=>inB n (-most) most) then 0 else 7
def x8i (m:List (List Int)) (len most:Int) (x:List Int):Int:=if validB m then listedE len most x else 1
def x4z (m:List (List Int)) (x:List Int):Int:=x8i m (nthL m 0).length 1000000 x
def x8j (m:List (List Int)) (x:List Int):List Int:=m.map λl=>q8j 0 l x
def readR (m:List (List Int)) (x:List Int):List Int:=if x4z m x=0 then x8j m x else[]
set_option maxHeartbeats 400000 in
theorem times_any (A B:Option Addr) (n m c d:Nat) (xs ys:List Int) (w:World)
  (ha:SI w A n c xs) (hb:SI w B m d ys) (hnm:n<=m) :
  Calls Tryz.prog 172 #[.slice A n c,.slice B m d] w λe w'=>e=.returned (.int .i64 (q8j 0 xs ys))/\w=w':=by
 have hn:=ha.nmax; have hm:=hb.nmax
 obtain rfl:=ha.len; obtain rfl:=hb.len
 go_enter Tryz.func172,Tryz.ntmps172
 go_wp2
 go_loop [5,6,7,10] (λs _ _ i=>∃k:Nat,k<=xs.length/\i=.int .i64 k/\s=.int .i64 (q8j 0 (xs.take k) (ys.take k))) (λ_ _ _ i=>xs.length-(intOf i).toNat)
 case atStart=>exact⟨0,Nat.zero_le _,rfl,wb7 (by simp[q8j])⟩
 case round=>
  obtain⟨k,hk,rfl,rfl⟩:=hrel
  by_cases hlt:k<xs.length
  ·obtain⟨ad,rfl,hca⟩:=ha.at_ (by omega)
   obtain⟨bd,rfl,hcb⟩:=hb.at_ (by omega)
   have h1:=hca k hlt
   have h2:=hcb k (by omega)
   clear hca hcb ha hb
   have HS:=hidx (wt1 xs ys k hlt (by omega) 0)
   go_wp2
   go_round
   case rel=>exact⟨k+1,by omega,by go_num,wb7 (by rw[HS.out])⟩
   case measure=>simp[intOf]; omega
  ·go_wp2
   go_ret
   exact⟨w5t (by rw[List.take_of_length_le (by omega),<- wt2 xs ys hnm,show k=xs.length by omega]),rfl⟩
set_option maxHeartbeats 400000 in
theorem x01 (A B:Option Addr) (n m c d:Nat) (xs ys:List Int) (w:World)
  (ha:SI w A n c xs) (hb:SI w B m d ys) (hnm:n<=m) :
  Calls Tryz.prog 98 #[.slice A n c,.slice B m d] w λe w'=>e=.returned (.int .i64 (q8j 0 xs ys))/\∃n,w'=w.drewN n:=by
 have hn:=ha.nmax; have hm:=hb.nmax
 obtain rfl:=ha.len; obtain rfl:=hb.len
 go_enter Tryz.func98,Tryz.ntmps98
 go_wp2
 go_loopw [5,6,9] (λs _ i wr=>∃k:Nat,k<=xs.length/\i=.int .i64 k/\s=.int .i64 (q8j 0 (xs.take k) (ys.take k))/\∃n,wr=w.drewN n) (λ_ _ i _=>xs.length-(intOf i).toNat)
 case atStart=>exact⟨0,Nat.zero_le _,rfl,wb7 (by simp[q8j]),0,rfl⟩
 case round=>
  obtain⟨k,hk,rfl,rfl,q,rfl⟩:=hrel
  by_cases hlt:k<xs.length
  ·obtain⟨ad,rfl,hca⟩:=ha.at_ (by omega)
   obtain⟨bd,rfl,hcb⟩:=hb.at_ (by omega)
   have h1:=hca k hlt
   have h2:=hcb k (by omega)
   clear hca hcb ha hb
   have HS:=hidx (wt1 xs ys k hlt (by omega) 0)
   have h3:(0:Int)<=k:=by omega
   have h4:(k:Int)<xs.length:=by omega
   have h5:(k:Int)<ys.length:=by omega
   go_wp2
   go_quiet (fail)
   go_wp2
   go_roundw
   case rel=>exact⟨k+1,by omega,by go_num,wb7 (by rw[HS.out]),_,rfl⟩
   case measure=>simp[intOf]; omega
  ·go_wp2
   go_ret
   exact⟨w5t (by rw[List.take_of_length_le (by omega),<- wt2 xs ys hnm,show k=xs.length by omega]),q,rfl⟩
def dotI:List Int->List Int->Int
 | a :: l,b :: r=>a*b+dotI l r
 | _,_=>0
theorem wb3 {x y K L:Int} (hx1:-K<=x) (hx2:x<=K) (hy1:-L<=y) (hy2:y<=L):-(K*L)<=x*y/\x*y<=K*L:=by
 have hK:0<=K:=by omega
 have hL:0<=L:=by omega
 obtain⟨k,rfl⟩:=Int.eq_ofNat_of_zero_le hK
 obtain⟨l,rfl⟩:=Int.eq_ofNat_of_zero_le hL
 have h1:x.natAbs<=k:=by omega
 have h2:y.natAbs<=l:=by omega
 have h3:(x*y).natAbs<=k*l:=by rw[Int.natAbs_mul]; exact Nat.mul_le_mul h1 h2
 have h4:((k*l:Nat):Int)=(k:Int)*(l:Int):=by simp
 omega
def Bd (K:Int) (l:List Int):Prop:=∀k,k<l.length->-K<=nth l k/\nth l k<=K
theorem Bd.cons {K a:Int} {l:List Int} (h:Bd K (a :: l)):(-K<=a/\a<=K)/\Bd K l:=
 ⟨by simpa[nth] using h 0 (by simp),λk hk=>by simpa[nth] using h (k+1) (by simpa using hk)⟩
theorem x02 {K L:Int} (a b:List Int) (hKL:0<=K*L) (ha:Bd K a) (hb:Bd L b):-(a.length*(K*L))<=dotI a b/\dotI a b<=a.length*(K*L):=by
 induction a generalizing b with
 | nil=>simp[dotI]
 | cons x l ih=>
  cases b with
  | nil=>
   have:0<=((x :: l).length:Int)*(K*L):=Int.mul_nonneg (by omega) hKL
   simp only[dotI]; omega
  | cons y r=>
   obtain⟨h1,h2⟩:=ha.cons
   obtain⟨h3,h4⟩:=hb.cons
   have h5:=wb3 h1.1 h1.2 h3.1 h3.2
   have h6:=ih r h2 h4
   have h7:((x :: l).length:Int)*(K*L)=(l.length:Int)*(K*L)+K*L:=by
    simp only[List.length_cons]; rw[Int.natCast_add,Int.add_mul]; simp
   simp only[dotI]; rw[h7]; omega
theorem x03 {K L:Int} (a b:List Int) (s:Int) (hKL:0<=K*L) (ha:Bd K a) (hb:Bd L b)
  (h1:-9223372036854775807+a.length*(K*L)<=s) (h2:s+a.length*(K*L)<=9223372036854775807):q8j s a b=s+dotI a b:=by
 induction a generalizing b s with
 | nil=>cases b <;> simp[q8j,dotI]
 | cons x l ih=>
  cases b with
  | nil=>simp[q8j,dotI]
  | cons y r=>
   obtain⟨hx,hl⟩:=ha.cons
   obtain⟨hy,hr⟩:=hb.cons
   have h5:=wb3 hx.1 hx.2 hy.1 hy.2
   have h7:((x :: l).length:Int)*(K*L)=(l.length:Int)*(K*L)+K*L:=by
    simp only[List.length_cons]; rw[Int.natCast_add,Int.add_mul]; simp
   have h8:0<=(l.length:Int)*(K*L):=Int.mul_nonneg (by omega) hKL
   rw[h7] at h1 h2
   have e1:wrap64 (x*y)=x*y:=IntWalk.wrap64_in _ ⟨by omega,by omega⟩
   have e2:wrap64 (s+x*y)=s+x*y:=IntWalk.wrap64_in _ ⟨by omega,by omega⟩
   simp only[q8j,dotI]
   rw[e1,e2,ih r _ hl hr (by omega) (by omega)]
   omega
theorem wt3 (a:List Int):0<=dotI a a:=by
 induction a with
 | nil=>simp[dotI]
 | cons x l ih=>
  simp only[dotI]
  have:0<=x*x:=by
   rcases Int.le_total 0 x with h | h
   ·exact Int.mul_nonneg h h
   ·exact Int.mul_nonneg_of_nonpos_of_nonpos h h
  omega
structure Sm (l:List Int):Prop where
 len:l.length<=10
 bd:Bd 1 l
theorem q8k {a b:List Int} (ha:Sm a) (hb:Sm b):q8j 0 a b=dotI a b/\-10<=dotI a b/\dotI a b<=10:=by
 have h1:=x02 a b (K:=1) (L:=1) (by omega) ha.bd hb.bd
 have h2:=x03 a b 0 (K:=1) (L:=1) (by omega) ha.bd hb.bd (by have:=ha.len; omega) (by have:=ha.len; omega)
 have:=ha.len
 omega
theorem xb6 {m:List (List Int)} (h:IsMask m) {j:Nat} (hj:j<(nthL m 0).length):Sm (colL m j):=by
 refine⟨by rw[colL_len]; have:=h.rows6; omega,λk hk=>?_⟩
 rw[colL_len] at hk
 have:nth (colL m j) k=nth (nthL m k) j:=by
  rw[xp5 _ _ (by rw[colL_len]; exact hk),wu3 _ _ hk]; simp[colL]
 rw[this]
 exact h.small k hk j hj
def ratN (n d:Nat):Int:=((n / Nat.gcd n d:Nat):Int)
def ratD (n d:Nat):Int:=((d / Nat.gcd n d:Nat):Int)
def likeD (a b:List Int):Nat:=(dotI a a*dotI b b).toNat
def likeN (a b:List Int):Nat:=(dotI a b*dotI a b).toNat
theorem xb7 (x:Int):0<=x*x:=by
 rcases Int.le_total 0 x with h | h
 ·exact Int.mul_nonneg h h
 ·exact Int.mul_nonneg_of_nonpos_of_nonpos h h
theorem q8l (a b:List Int):((likeD a b:Nat):Int)=dotI a a*dotI b b:=by
 unfold likeD; exact Int.toNat_of_nonneg (Int.mul_nonneg (wt3 a) (wt3 b))
theorem wt4 (a b:List Int):((likeN a b:Nat):Int)=dotI a b*dotI a b:=by
 unfold likeN; exact Int.toNat_of_nonneg (xb7 _)
theorem w2z {a b:List Int} (ha:Sm a) (hb:Sm b):likeD a b<=100:=by
 have h1:=(q8k ha ha).2
 have h2:=(q8k hb hb).2
 have h3:=wb3 h1.1 h1.2 h2.1 h2.2
 have:=q8l a b
 omega
theorem w20 {a b:List Int} (ha:Sm a) (hb:Sm b):likeN a b<=100:=by
 have h1:=(q8k ha hb).2
 have h3:=wb3 h1.1 h1.2 h1.1 h1.2
 have:=wt4 a b
 omega
set_option maxHeartbeats 400000 in
theorem w5c (n d:Nat) (w:World) (hn:n<=1000000) (hd:d<=1000000) (hd0:0<d) :
  Calls Tryz.prog 218 #[.int .i64 n,.int .i64 d] w λe w'=>e=.returned (.agg #[.int .i64 (ratN n d),.int .i64 (ratD n d)])/\Below w.heap.size w w':=by
 go_enter Tryz.func218,Tryz.ntmps218
 go_wp2
 go_loopw [5,6] (λa b wr=>∃x y:Nat,x<=1000000/\y<=1000000/\0<x+y/\a=.int .i64 x/\b=.int .i64 y/\Hid (Nat.gcd x y=Nat.gcd n d)/\∃q,wr=(w.alloc (.cells #[.int .i64 0,.int .i64 0] 60)).drewN q) (λ_ b _=>(intOf b).toNat)
 case atStart=>exact⟨n,d,hn,hd,by omega,rfl,rfl,rfl,0,rfl⟩
 case round=>
  obtain⟨x,y,hx,hy,hxy,rfl,rfl,hg,q,rfl⟩:=hrel
  by_cases h0:y=0
  ·subst h0
   have hx0:0<x:=by omega
   go_wp2
   have hx1:(0:Int)<x:=by omega
   have hx2:((x:Int)==0)=false:=by simp; omega
   have hd1:(0:Int)<=(n:Int) / (x:Int):=Int.ediv_nonneg (by omega) (by omega)
   have hd2:(n:Int) / (x:Int)<=(n:Int):=Int.ediv_le_self _ (by omega)
   have hd3:(0:Int)<=(d:Int) / (x:Int):=Int.ediv_nonneg (by omega) (by omega)
   have hd4:(d:Int) / (x:Int)<=(d:Int):=Int.ediv_le_self _ (by omega)
   have hxg:x=Nat.gcd n d:=by rw[<- hg.out]; simp
   have Hx:=hidx hxg
   clear hxg
   go_region
   go_wp2
   refine bodyPost_ret (v:=.agg #[.int .i64 ((n:Int) / (x:Int)),.int .i64 ((d:Int) / (x:Int))]) (by simp[results,Tryz.results218,go_sem]) rfl ⟨?_,?_⟩
   ·rw[ratN,ratD,<- Hx.out]; simp
   ·exact(((below_drewN (below_alloc w _) _).setCell (by simp) _).setCell (by simp) _)
  ·have hy0:(0:Int)<y:=by omega
   go_wp2
   go_quiet (fail)
   go_wp2
   go_roundw
   case rel=>
    have hm:=Nat.mod_lt x (show 0<y by omega)
    exact⟨y,x % y,hy,by omega,by omega,rfl,by go_num,by unfold Hid; rw[<- hg.out,Nat.gcd_comm y,<- Nat.gcd_rec,Nat.gcd_comm],q+nq,by rw[World.drewN_drewN]⟩
   case measure=>
    have hm:=Nat.mod_lt x (show 0<y by omega)
    simp[intOf]; omega
theorem q39 (A B:Option Addr) (n m c d:Nat) (xs ys:List Int) (w:World) (hx:Sm xs) (hy:Sm ys)
  (ha:SI w A n c xs) (hb:SI w B m d ys) (hnm:n<=m) :
  Calls Tryz.prog 172 #[.slice A n c,.slice B m d] w λe w'=>e=.returned (.int .i64 (dotI xs ys))/\w=w':=by
 rw[<- (q8k hx hy).1]; exact times_any A B n m c d xs ys w ha hb hnm
set_option maxHeartbeats 400000 in
theorem w0a (A B:Option Addr) (n c d:Nat) (xs ys:List Int) (w:World) (hx:Sm xs) (hy:Sm ys)
  (ha:SI w A n c xs) (hb:SI w B n d ys) (h0:likeD xs ys=0) :
  Calls Tryz.prog 161 #[.slice A n c,.slice B n d] w λe w'=>e=.returned (.tuple #[.agg #[.int .i64 0,.int .i64 0],.bool false])/\Below w.heap.size w w':=by
 have hd:=q8l xs ys
 rw[h0] at hd
 have c1:=λW h=>q39 A A n n c c xs xs W hx hx h h (Nat.le_refl _)
 have c2:=λW h=>q39 B B n n d d ys ys W hy hy h h (Nat.le_refl _)
 generalize dotI xs xs=p at hd c1
 generalize dotI ys ys=q at hd c2
 have hpq:p*q=0:=hd.symm
 have hb0:=below_alloc w
 clear hd h0
 have ha1:=λo=>ha.below (hb0 o)
 have hb1:=λo=>hb.below (hb0 o)
 go_enter Tryz.func161,Tryz.ntmps161
 go_wp2_with fail
 refine(c1 _ (ha1 _)).mono ?_
 rintro e w1 ⟨rfl,rfl⟩
 go_wp2_with fail
 refine(c2 _ (hb1 _)).mono ?_
 rintro e w1 ⟨rfl,rfl⟩
 go_wp2
 refine bodyPost_ret (v:=.tuple #[.agg #[.int .i64 0,.int .i64 0],.bool false]) (by simp[results,Tryz.results161,go_sem]) rfl ⟨rfl,hb0 _⟩
set_option maxHeartbeats 400000 in
theorem wt5 (A B:Option Addr) (n c d:Nat) (xs ys:List Int) (w:World) (hx:Sm xs) (hy:Sm ys)
  (ha:SI w A n c xs) (hb:SI w B n d ys) (h0:0<likeD xs ys) :
  Calls Tryz.prog 161 #[.slice A n c,.slice B n d] w λe w'=>e=.returned (.tuple #[.agg #[.int .i64 (ratN (likeN xs ys) (likeD xs ys)),.int .i64 (ratD (likeN xs ys) (likeD xs ys))],.bool true])/\Below w.heap.size w w':=by
 have hd:=q8l xs ys
 have hn:=wt4 xs ys
 have hdl:=w2z hx hy
 have hnl:=w20 hx hy
 have c1:=λW h=>q39 A A n n c c xs xs W hx hx h h (Nat.le_refl _)
 have c2:=λW h=>q39 B B n n d d ys ys W hy hy h h (Nat.le_refl _)
 have c3:=λW h h'=>q39 A B n n c d xs ys W hx hy h h' (Nat.le_refl _)
 have c4:=λW=>w5c (likeN xs ys) (likeD xs ys) W (by omega) (by omega) h0
 rw[hd,hn] at c4
 generalize likeD xs ys=D at hd c4 h0 hdl ⊢
 generalize likeN xs ys=N at hn c4 hnl ⊢
 generalize dotI xs xs=p at hd c1 c4
 generalize dotI ys ys=q at hd c2 c4
 generalize dotI xs ys=r at hn c3 c4
 have hpq1:1<=p*q:=by omega
 have hpq2:p*q<=100:=by omega
 have hr1:0<=r*r:=by omega
 have hr2:r*r<=100:=by omega
 have hp0:(p==0)=false:=by
  cases h:p==0
  ·rfl
  ·simp at h; subst h; simp at hpq1
 have hq0:(q==0)=false:=by
  cases h:q==0
  ·rfl
  ·simp at h; subst h; simp at hpq1
 have hb0:=below_alloc w
 clear hd hn h0 hdl hnl
 have ha1:=λo=>ha.below (hb0 o)
 have hb1:=λo=>hb.below (hb0 o)
 go_enter Tryz.func161,Tryz.ntmps161
 go_wp2_with fail
 refine(c1 _ (ha1 _)).mono ?_
 rintro e w1 ⟨rfl,rfl⟩
 go_wp2_with fail
 refine(c2 _ (hb1 _)).mono ?_
 rintro e w1 ⟨rfl,rfl⟩
 go_wp2_with fail
 refine(c3 _ (ha1 _) (hb1 _)).mono ?_
 rintro e w1 ⟨rfl,rfl⟩
 go_wp2_with fail
 refine(c4 _).mono ?_
 rintro e w1 ⟨rfl,hbw⟩
 have hx0:w1.cell? ⟨w.heap.size,0,none⟩=some (.int .i64 0):=Below.cell_of hbw (by simp)
 have hx1:w1.cell? ⟨w.heap.size,1,none⟩=some (.int .i64 0):=Below.cell_of hbw (by simp)
 have hx2:w1.frozen? ⟨w.heap.size,0,none⟩=false:=(hbw.frozen (p:=⟨w.heap.size,0,none⟩) (by simp)).trans (by simp)
 have hx3:w1.frozen? ⟨w.heap.size,1,none⟩=false:=(hbw.frozen (p:=⟨w.heap.size,1,none⟩) (by simp)).trans (by simp)
 have hbB:=w26 (hb0 _) hbw
 go_wp2
 refine bodyPost_ret (v:=.tuple #[.agg #[.int .i64 (ratN N D),.int .i64 (ratD N D)],.bool true]) (by simp[results,Tryz.results161,go_sem,hx0,hx1]) rfl ⟨rfl,?_⟩
 exact(hbB.setCell (Nat.le_refl _) _).setCell (Nat.le_refl _) _
end Go.Proofs.YtmijnbjlhnpokaaGreat.K
set_option linter.unusedVariables false
set_option linter.unusedSimpArgs false
namespace Go.Proofs.YtmijnbjlhnpokaaGreat.K
open Go Go.RowKit Eng Ls
def x42:qb9:=w7i false none [tMask] (λ_=>True) (λx=>.clo 216 (.cons (.imm (.cons (.dat (.list (.int .i64)) x.1) .nil) 0) .nil))
theorem w0b:Meets Tryz.prog 160 x42:=by
 refine wn3 (snd (SpecsOk.nil _) []) Tryz.func160 rfl rfl (λx _=>none) (λ_=>by kernel_rfl) (by decide) ?_
 rintro⟨m,⟨⟩⟩ -
 revert m
 intro(m:List (List Int))
 refine @qe1 _ (((m=m/\True)/\(0:Nat)=(0:Nat))/\True) (by kernel_rfl) ?_
 exact⟨⟨⟨rfl,trivial⟩,rfl⟩,trivial⟩
def sMB (f:List (List Int)->Bool):qb9:=qg2 true none [tMask] [.bool] (λ_=>True) (λx=>(f x.1,()))
theorem wt6:Meets Tryz.prog 65 (sMB validB):=q54
def likP (a b:List Int):(Int × Int) × Bool:=if likeD a b=0 then((0,0),false) else((ratN (likeN a b) (likeD a b),ratD (likeN a b) (likeD a b)),true)
def yf8:qb9:=qg2 true none [tInts,tInts] [.prod tInt tInt,.bool] (λx=>Sm x.1/\Sm x.2.1/\x.1.length=x.2.1.length) (λx=>((likP x.1 x.2.1).1,(likP x.1 x.2.1).2,()))
theorem q8w:Meets Tryz.prog 161 yf8:=xi4 ⟨_,_,Tryz.func161,rfl,rfl⟩ λw m x vs hm hp hx=>by
 obtain⟨x,y,⟨⟩⟩:=x
 obtain⟨u,us,rfl,h1,u',us',rfl,h2,h3⟩:=hx
 obtain rfl:us'=[]:=h3
 obtain⟨p1,p2,p3⟩:=hp
 obtain⟨A,c,rfl,hs⟩:=xw9 hm h1
 obtain⟨B,d,rfl,hs'⟩:=xw9 hm h2
 have p3:(x:List Int).length=(y:List Int).length:=p3
 simp only at hs hs' p1 p2 ⊢
 rw[<- p3] at hs' ⊢
 by_cases h0:likeD x y=0
 ·refine(w0a A B _ c d _ _ w p1 p2 hs hs' h0).mono λe w' ⟨h1,h2⟩=>⟨_,h1,h2,[_,_],rfl,?_⟩
  have e:likP x y=((0,0),false):=by unfold likP; rw[if_pos h0]
  rw[e]
  exact⟨_,_,rfl,⟨_,rfl,[_],[_],rfl,rfl,rfl⟩,_,_,rfl,rfl,rfl⟩
 ·refine(wt5 A B _ c d _ _ w p1 p2 hs hs' (by omega)).mono λe w' ⟨h1,h2⟩=>⟨_,h1,h2,[_,_],rfl,?_⟩
  have e:likP x y=((ratN (likeN x y) (likeD x y),ratD (likeN x y) (likeD x y)),true):=by unfold likP; rw[if_neg h0]
  rw[e]
  exact⟨_,_,rfl,⟨_,rfl,[_],[_],rfl,rfl,rfl⟩,_,_,rfl,rfl,rfl⟩
def ctxI (specs:List (Nat × qb9)) (its:List (Nat × q0m)):Ctx:={ specs:=specs,tys:=tys,wr:=[],its:=its }
def qu2 (m:List (List Int)) (o:Option (Int × Int)) (q:Nat × Nat):Option (Int × Int):=o.bind λb=>match(likP (colA m q.1) (colA m q.2)).2 with
 | false=>none
 | true=>some (if(likP (colA m q.1) (colA m q.2)).1.1*b.2 > b.1*(likP (colA m q.1) (colA m q.2)).1.2 then(likP (colA m q.1) (colA m q.2)).1 else b)
def wb4 (m:List (List Int)) (k:Nat):Option (Int × Int):=((prsL m).take k).foldl (qu2 m) (some (0,1))
def cohE (m:List (List Int)):Int:=if validB m=false then 1 else if(qd4 (.list (.int .i64)) m 0:List Int).length<2 then 8 else if(wb4 m (prsL m).length).isNone then 8 else 0
def cohR (m:List (List Int)):Int × Int:=if cohE m=0 then(wb4 m (prsL m).length).getD (0,0) else(0,0)
def yf9:qb9:=qg2 true none [tMask] [.prod tInt tInt,tInt] (λ_=>True) (λx=>(cohR x.1,cohE x.1,()))
def x8k (m:List (List Int)):Nat->Option Inv
 | 0=>some (Inv.of [] 3 (λ_:Nat × (Int × Int)=>[]) (λs=>[.box 60 (.cons (.lit (.int .i64 0)) (.cons (.lit (.int .i64 0)) .nil)),.box 28 (.cons (.lit (.int .i64 0)) .nil),.box 60 (.cons (.lit (.int .i64 s.2.1)) (.cons (.lit (.int .i64 s.2.2)) .nil))]) (λs=>wb4 m s.1=some s.2) (λs=>s.1))
 | _=>none
theorem xb8 {p:Nat}:∀{i:Nat} {q:Nat × Nat},i<=p->q∈prs p i->q.1<i/\q.1<q.2/\q.2<p
 | 0,q,_,h=>by cases h
 | i+1,q,hi,h=>by
  rcases List.mem_append.1 h with h | h
  ·obtain⟨h1,h2,h3⟩:=xb8 (by omega) h
   exact⟨by omega,h2,h3⟩
  ·obtain⟨d,hd,rfl⟩:=List.mem_map.1 h
   have:=List.mem_range.1 hd
   exact⟨by simp,by simp; omega,by simp; omega⟩
theorem xb9 {m:List (List Int)} (h:IsMask m):square m:=⟨by have:=h.rows1; omega,by have:=h.rows6; omega,by have:=h.pix10; exact Nat.le_trans this (by omega),h.each⟩
theorem xc0 {m:List (List Int)} (h:IsMask m) {k:Nat} {q:Nat × Nat} (hq:(prsL m)[k]? = some q):Sm (colA m q.1)/\Sm (colA m q.2)/\(colA m q.1).length=(colA m q.2).length:=by
 obtain⟨h1,h2,h3⟩:=xb8 (Nat.le_refl _) (List.mem_of_getElem? hq)
 have h3:q.2<(nthL m 0).length:=h3
 exact⟨xb6 h (j:=q.1) (by omega),xb6 h h3,by simp[colA]⟩
theorem xc1 {a b:List Int} (ha:Sm a) (hb:Sm b):(0<=(likP a b).1.1/\(likP a b).1.1<=100)/\0<=(likP a b).1.2/\(likP a b).1.2<=100:=by
 have h1:=w2z ha hb
 have h2:=w20 ha hb
 unfold likP
 split
 ·simp
 ·have h3:=Nat.div_le_self (likeN a b) (Nat.gcd (likeN a b) (likeD a b))
  have h4:=Nat.div_le_self (likeD a b) (Nat.gcd (likeN a b) (likeD a b))
  exact⟨⟨Int.natCast_nonneg _,Int.ofNat_le.2 (Nat.le_trans h3 h2)⟩,Int.natCast_nonneg _,Int.ofNat_le.2 (Nat.le_trans h4 h1)⟩
theorem wt7 {m:List (List Int)} {k:Nat} {q:Nat × Nat} (hq:(prsL m)[k]? = some q):wb4 m (k+1)=qu2 m (wb4 m k) q:=by
 unfold wb4
 rw[List.take_add_one,hq]
 simp
theorem xc2 {m:List (List Int)} {k:Nat} (h:wb4 m k=none):wb4 m (prsL m).length=none:=by
 unfold wb4 at h ⊢
 rw[List.take_length]
 conv=>lhs; rw[<- List.take_append_drop k (prsL m),List.foldl_append,h]
 generalize(prsL m).drop k=r
 induction r with
 | nil=>rfl
 | cons q r ih=>exact ih
theorem cohK_bd {m:List (List Int)} (h:IsMask m):∀{k:Nat} {b:Int × Int},k<=(prsL m).length->wb4 m k=some b->(0<=b.1/\b.1<=100)/\0<=b.2/\b.2<=100
 | 0,b,_,hb=>by
  have hb:some (0,1)=some b:=hb
  injection hb with hb
  subst hb
  simp
 | k+1,b,hk,hb=>by
  have hq:(prsL m)[k]? = some ((prsL m)[k]):=List.getElem?_eq_getElem (by omega)
  rw[wt7 hq] at hb
  obtain⟨p1,p2,-⟩:=xc0 h hq
  have h5:=xc1 p1 p2
  cases hc:wb4 m k with
  | none=>rw[hc] at hb; cases hb
  | some b0=>
   have h6:=cohK_bd h (by omega) hc
   rw[hc] at hb
   simp only[qu2,Option.bind_some] at hb
   split at hb
   ·cases hb
   ·injection hb with hb
    subst hb
    split
    ·exact h5
    ·exact h6
theorem Coherence_meets:Meets Tryz.prog 100 yf9:=by
 refine meets (x6u (SpecsOk.cons wt6 (SpecsOk.cons w0b (SpecsOk.cons q8w (SpecsOk.nil _)))) (ItsOk.cons wz9 ItsOk.nil)) Tryz.func100 rfl rfl (λx=>x8k x.1) (λ_=>by kernel_rfl) (by decide) ?_
 rintro⟨m,⟨⟩⟩ -
 revert m
 intro(m:List (List Int))
 refine @qe1 _ (True/\((!validB m)=true->((0:Int)=(cohR m).1/\(0:Int)=(cohR m).2/\True)/\(1:Int)=cohE m/\True)/\((!validB m)=false->((0:Int)<=(0:Int)/\(0:Int)<(↑m.length:Int))/\(decide ((↑(qd4 (Ty.list (Ty.int .i64)) m (0:Nat)).length:Int)<(2:Int))=true->((0:Int)=(cohR m).1/\(0:Int)=(cohR m).2/\True)/\(8:Int)=cohE m/\True)/\(decide ((↑(qd4 (Ty.list (Ty.int .i64)) m (0:Nat)).length:Int)<(2:Int))=false->True/\square m/\∃(v2:Unit),∃(v3:Nat × Int × Int),wb4 m v3.1=some v3.2/\v3.1=(0:Nat)/\(((0:Int)=(0:Int)/\(0:Int)=(0:Int)/\True)/\((0:Int)=(0:Int)/\True)/\((0:Int)=v3.2.1/\(1:Int)=v3.2.2/\True)/\True)/\∀(v4:Nat × Int × Int),wb4 m v4.1=some v4.2->(∀(v6:(Int × Int) × qa5._f [Ty.prod tInts tInts] ⟨qa5._f [] PUnit.unit,PUnit.unit⟩),(xe0 m)[v4.1]?=some v6->(Sm v6.2.1.1/\Sm v6.2.1.2/\v6.2.1.1.length=v6.2.1.2.length)/\((!(likP v6.2.1.1 v6.2.1.2).2)=true->((0:Int)=(cohR m).1/\(0:Int)=(cohR m).2/\True)/\(8:Int)=cohE m/\True)/\((!(likP v6.2.1.1 v6.2.1.2).2)=false->fits .i64 ((likP v6.2.1.1 v6.2.1.2).1.1*v4.2.2)/\fits .i64 (v4.2.1*(likP v6.2.1.1 v6.2.1.2).1.2)/\(decide (v4.2.1*(likP v6.2.1.1 v6.2.1.2).1.2<(likP v6.2.1.1 v6.2.1.2).1.1*v4.2.2)=true->∃(v10:Nat × Int × Int),wb4 m v10.1=some v10.2/\v10.1=v4.1+(1:Nat)/\((0:Int)=(0:Int)/\(0:Int)=(0:Int)/\True)/\((0:Int)=(0:Int)/\True)/\((likP v6.2.1.1 v6.2.1.2).1.1=v10.2.1/\(likP v6.2.1.1 v6.2.1.2).1.2=v10.2.2/\True)/\True)/\(decide (v4.2.1*(likP v6.2.1.1 v6.2.1.2).1.2<(likP v6.2.1.1 v6.2.1.2).1.1*v4.2.2)=false->∃(v10:Nat × Int × Int),wb4 m v10.1=some v10.2/\v10.1=v4.1+(1:Nat)/\((0:Int)=(0:Int)/\(0:Int)=(0:Int)/\True)/\((0:Int)=(0:Int)/\True)/\(v4.2.1=v10.2.1/\v4.2.2=v10.2.2/\True)/\True)))/\(v4.1=(xe0 m).length->(v4.2.1=(cohR m).1/\v4.2.2=(cohR m).2/\True)/\(0:Int)=cohE m/\True)))) (by kernel_rfl) ?_
 refine⟨trivial,λhv=>?_,λhv=>?_⟩
 ·have hv:validB m=false:=by simpa using hv
  have e:cohE m=1:=by simp[cohE,hv]
  have e2:cohR m=(0,0):=by simp[cohR,e]
  rw[e,e2]
  exact⟨⟨rfl,rfl,trivial⟩,rfl,trivial⟩
 have hv:validB m=true:=by simpa using hv
 have hm:=IsMask.of hv
 have hr1:=hm.rows1
 have hq1:=xb9 hm
 refine⟨⟨by omega,by omega⟩,λh2=>?_,λh2=>?_⟩
 ·have h2:(qd4 (.list (.int .i64)) m 0:List Int).length<2:=by have:=of_decide_eq_true h2; omega
  have e:cohE m=8:=by unfold cohE; rw[if_neg (by simp[hv]),if_pos h2]
  have e2:cohR m=(0,0):=by simp[cohR,e]
  rw[e,e2]
  exact⟨⟨rfl,rfl,trivial⟩,rfl,trivial⟩
 have h2:¬(qd4 (.list (.int .i64)) m 0:List Int).length<2:=by have:=of_decide_eq_false h2; omega
 have hE:cohE m=if(wb4 m (prsL m).length).isNone then 8 else 0:=by unfold cohE; rw[if_neg (by simp[hv]),if_neg h2]
 refine⟨trivial,hq1,(),(0,(0,1)),rfl,rfl,⟨⟨rfl,rfl,trivial⟩,⟨rfl,trivial⟩,⟨rfl,rfl,trivial⟩,trivial⟩,?_⟩
 rintro⟨k,b⟩ hk
 have hk:wb4 m k=some b:=hk
 refine⟨λd hd=>?_,λhe=>?_⟩
 ·have hd':((prsL m).map (prA m))[k]? = some d:=hd
  rw[List.getElem?_map] at hd'
  obtain⟨q,hq,e⟩:=Option.map_eq_some_iff.1 hd'
  have hd1:d.2.1.1=colA m q.1:=by rw[<- e]; rfl
  have hd2:d.2.1.2=colA m q.2:=by rw[<- e]; rfl
  have hkl:k<(prsL m).length:=(List.getElem?_eq_some_iff.1 hq).1
  obtain⟨p1,p2,p3⟩:=xc0 hm hq
  have h5:=xc1 p1 p2
  have h6:=cohK_bd hm (by omega) hk
  have hst:=wt7 hq
  rw[hk] at hst
  simp only[qu2,Option.bind_some] at hst
  rw[hd1,hd2]
  refine⟨⟨p1,p2,p3⟩,λhl=>?_,λhl=>?_⟩
  ·have hl:(likP (colA m q.1) (colA m q.2)).2=false:=by simpa using hl
   rw[hl] at hst
   have e:cohE m=8:=by rw[hE,xc2 hst]; rfl
   have e2:cohR m=(0,0):=by simp[cohR,e]
   rw[e,e2]
   exact⟨⟨rfl,rfl,trivial⟩,rfl,trivial⟩
  ·have hl:(likP (colA m q.1) (colA m q.2)).2=true:=by simpa using hl
   rw[hl] at hst
   simp only at hst
   generalize likP (colA m q.1) (colA m q.2)=z at *
   have b1:=wb3 (x:=z.1.1) (y:=b.2) (K:=100) (L:=100) (by omega) (by omega) (by omega) (by omega)
   have b2:=wb3 (x:=b.1) (y:=z.1.2) (K:=100) (L:=100) (by omega) (by omega) (by omega) (by omega)
   refine⟨qa9 (by dsimp only; omega) (by dsimp only; omega),qa9 (by dsimp only; omega) (by dsimp only; omega),λhg=>?_,λhg=>?_⟩
   ·rw[if_pos (by simpa using hg)] at hst
    exact⟨(k+1,z.1),hst,rfl,⟨rfl,rfl,trivial⟩,⟨rfl,trivial⟩,⟨rfl,rfl,trivial⟩,trivial⟩
   ·rw[if_neg (by simpa using hg)] at hst
    exact⟨(k+1,b),hst,rfl,⟨rfl,rfl,trivial⟩,⟨rfl,trivial⟩,⟨rfl,rfl,trivial⟩,trivial⟩
 ·have he:k=((prsL m).map (prA m)).length:=he
  rw[List.length_map] at he
  subst he
  have e:cohE m=0:=by rw[hE,hk]; rfl
  have e2:cohR m=b:=by simp[cohR,e,hk]
  rw[e,e2]
  exact⟨⟨rfl,rfl,trivial⟩,rfl,trivial⟩
open Go.RowKit Ls
end Go.Proofs.YtmijnbjlhnpokaaGreat.K
set_option linter.unusedVariables false
set_option linter.unusedSimpArgs false
namespace Go.Proofs.YtmijnbjlhnpokaaGreat.K
open Go Go.RowKit Eng Ls
theorem rdL_ints {m:View}:∀l:List Int,RdL m tInt l (ints l)
 | []=>rfl
 | x :: r=>⟨[.int .i64 x],ints r,rfl,rfl,rdL_ints r⟩
open Go.RowKit Ls
theorem x8l (A B:Option Addr) (n m c d:Nat) (xs ys:List Int) (w:World)
  (ha:SI w A n c xs) (hb:SI w B m d ys) (hnm:n<=m) :
  Calls Tryz.prog 98 #[.slice A n c,.slice B m d] w λe w'=>e=.returned (.int .i64 (q8j 0 xs ys))/\Below w.heap.size w w':=
 (x01 A B n m c d xs ys w ha hb hnm).mono λ_ _ ⟨h1,q,h2⟩=>⟨h1,h2 ▸ below_drewN (Below.refl _ w) q⟩
theorem dot_sm (A B:Option Addr) (n m c d:Nat) (xs ys:List Int) (w:World) (hx:Sm xs) (hy:Sm ys)
  (ha:SI w A n c xs) (hb:SI w B m d ys) (hnm:n<=m) :
  Calls Tryz.prog 98 #[.slice A n c,.slice B m d] w λe w'=>e=.returned (.int .i64 (dotI xs ys))/\Below w.heap.size w w':=by
 rw[<- (q8k hx hy).1]; exact x8l A B n m c d xs ys w ha hb hnm
def yb1 (j n:Nat):List (Nat × Nat):=(List.range n).map λi=>(i,j)
def x04:Nat->List (Nat × Nat)
 | 0=>[]
 | j+1=>x04 j++yb1 j j
def w5d (m:List (List Int)) (l:List (Nat × Nat)):Option (Int × Int):=l.foldl (qu2 m) (some (0,1))
def rcL (m:List (List Int)):Option (Int × Int):=w5d m (x04 (nthL m 0).length)
open Go.RowKit Ls
def Lo (b:Int × Int):Prop:=0<=b.1/\0<b.2/\Nat.gcd b.1.toNat b.2.toNat=1
theorem yg0:Lo (0,1):=by unfold Lo; simp
theorem x8m {a b:Int × Int} (ha:Lo a) (hb:Lo b) (h:a.1*b.2=b.1*a.2):a=b:=by
 obtain⟨a1,a2⟩:=a
 obtain⟨b1,b2⟩:=b
 obtain⟨h1,h2,h3⟩:=ha
 obtain⟨k1,k2,k3⟩:=hb
 simp only at *
 obtain⟨x1,rfl⟩:=Int.eq_ofNat_of_zero_le h1
 obtain⟨x2,rfl⟩:=Int.eq_ofNat_of_zero_le (Int.le_of_lt h2)
 obtain⟨y1,rfl⟩:=Int.eq_ofNat_of_zero_le k1
 obtain⟨y2,rfl⟩:=Int.eq_ofNat_of_zero_le (Int.le_of_lt k2)
 simp only[Int.toNat_natCast] at h3 k3
 have hn:x1*y2=y1*x2:=by exact_mod_cast h
 have d1:x2∣y2:=Nat.Coprime.dvd_of_dvd_mul_left (show Nat.Coprime x2 x1 by rw[Nat.Coprime,Nat.gcd_comm]; exact h3) ⟨y1,by rw[hn,Nat.mul_comm]⟩
 have d2:y2∣x2:=Nat.Coprime.dvd_of_dvd_mul_left (show Nat.Coprime y2 y1 by rw[Nat.Coprime,Nat.gcd_comm]; exact k3) ⟨x1,by rw[<- hn,Nat.mul_comm]⟩
 have e:x2=y2:=Nat.dvd_antisymm d1 d2
 subst e
 have hp:0<x2:=by omega
 have:x1=y1:=Nat.eq_of_mul_eq_mul_right hp hn
 rw[this]
theorem xc3 {a b:List Int} (h:(likP a b).2=true):Lo (likP a b).1:=by
 unfold likP at h ⊢
 split at h
 ·cases h
 ·rename_i h0
  rw[if_neg h0]
  have hp:0<likeD a b:=by omega
  have hg:0<Nat.gcd (likeN a b) (likeD a b):=Nat.gcd_pos_of_pos_right _ hp
  refine⟨Int.natCast_nonneg _,?_,?_⟩
  ·unfold ratD
   have:0<likeD a b / Nat.gcd (likeN a b) (likeD a b):=Nat.div_pos (Nat.le_of_dvd hp (Nat.gcd_dvd_right _ _)) hg
   exact Int.natCast_pos.2 this
  ·unfold ratN ratD
   simp only[Int.toNat_natCast]
   exact Nat.coprime_div_gcd_div_gcd hg
def lk (m:List (List Int)) (q:Nat × Nat):(Int × Int) × Bool:=likP (colA m q.1) (colA m q.2)
structure Best (m:List (List Int)) (l:List (Nat × Nat)) (b:Int × Int):Prop where
 lo:Lo b
 mem:b=(0,1)\/∃q∈l,b=(lk m q).1
 all:∀q∈l,(lk m q).2=true/\(lk m q).1.1*b.2<=b.1*(lk m q).1.2
theorem xp1 {r1 r2 b1 b2 q1 q2:Int} (hr2:0<r2) (hb2:0<b2) (hq2:0<q2) (h1:r1*b2<=b1*r2) (h2:b1*q2<q1*b2):r1*q2<=q1*r2:=by
 have e1:r1*b2*q2<=b1*r2*q2:=Int.mul_le_mul_of_nonneg_right h1 (Int.le_of_lt hq2)
 have e2:b1*q2*r2<=q1*b2*r2:=Int.mul_le_mul_of_nonneg_right (Int.le_of_lt h2) (Int.le_of_lt hr2)
 have e3:b1*r2*q2=b1*q2*r2:=by rw[Int.mul_assoc,Int.mul_comm r2 q2,<- Int.mul_assoc]
 have e4:r1*b2*q2=r1*q2*b2:=by rw[Int.mul_assoc,Int.mul_comm b2 q2,<- Int.mul_assoc]
 have e5:q1*b2*r2=q1*r2*b2:=by rw[Int.mul_assoc,Int.mul_comm b2 r2,<- Int.mul_assoc]
 have e6:r1*q2*b2<=q1*r2*b2:=by omega
 exact Int.le_of_mul_le_mul_right e6 hb2
theorem wb5 (m:List (List Int)) (b:Int × Int) (q:Nat × Nat):qu2 m (some b) q=if(lk m q).2=true then some (if(lk m q).1.1*b.2 > b.1*(lk m q).1.2 then(lk m q).1 else b) else none:=by
 show(match(lk m q).2 with
  | false=>none
  | true=>some (if(lk m q).1.1*b.2 > b.1*(lk m q).1.2 then(lk m q).1 else b))=_
 cases(lk m q).2 <;> rfl
theorem xc4 {m:List (List Int)} {l:List (Nat × Nat)} {b b':Int × Int} {q:Nat × Nat} (h:Best m l b) (hs:qu2 m (some b) q=some b'):Best m (l++[q]) b':=by
 rw[wb5] at hs
 split at hs
 ·rename_i hq
  have hlo:Lo (lk m q).1:=xc3 hq
  injection hs with hs
  split at hs
  ·rename_i hg
   subst hs
   refine⟨hlo,.inr ⟨q,by simp,rfl⟩,λr hr=>?_⟩
   rcases List.mem_append.1 hr with hr | hr
   ·obtain⟨r1,r2⟩:=h.all r hr
    exact⟨r1,xp1 (xc3 r1).2.1 h.lo.2.1 hlo.2.1 r2 hg⟩
   ·obtain rfl:r=q:=by simpa using hr
    exact⟨hq,Int.le_refl _⟩
  ·rename_i hg
   subst hs
   refine⟨h.lo,h.mem.imp id λ⟨r,hr,e⟩=>⟨r,by simp[hr],e⟩,λr hr=>?_⟩
   rcases List.mem_append.1 hr with hr | hr
   ·exact h.all r hr
   ·obtain rfl:r=q:=by simpa using hr
    exact⟨hq,by omega⟩
 ·cases hs
theorem xc5 {m:List (List Int)}:∀(r l:List (Nat × Nat)) (b b':Int × Int),Best m l b->r.foldl (qu2 m) (some b)=some b'->Best m (l++r) b'
 | [],l,b,b',h,hs=>by
  simp at hs
  subst hs
  simpa using h
 | q :: r,l,b,b',h,hs=>by
  rw[List.foldl_cons] at hs
  cases hc:qu2 m (some b) q with
  | none=>
   rw[hc] at hs
   have:∀r:List (Nat × Nat),r.foldl (qu2 m) none=none:=λr=>by induction r with
    | nil=>rfl
    | cons q r ih=>exact ih
   rw[this] at hs; cases hs
  | some b1=>
   rw[hc] at hs
   have:=xc5 r (l++[q]) b1 b' (xc4 h hc) hs
   simpa using this
theorem cohF_best {m:List (List Int)} {l:List (Nat × Nat)} {b:Int × Int} (h:w5d m l=some b):Best m l b:=by
 have:=xc5 l [] (0,1) b ⟨yg0,.inl rfl,λq hq=>by cases hq⟩ h
 simpa using this
theorem w21 {m:List (List Int)}:∀(r:List (Nat × Nat)) (b:Int × Int),(∀q∈r,(lk m q).2=true)->∃b',r.foldl (qu2 m) (some b)=some b'
 | [],b,_=>⟨b,rfl⟩
 | q :: r,b,h=>by
  rw[List.foldl_cons,wb5,if_pos (h q (by simp))]
  exact w21 r _ λq' hq'=>h q' (by simp[hq'])
theorem xc6 {m:List (List Int)} {l l':List (Nat × Nat)} {b b':Int × Int} (h:Best m l b) (h':Best m l' b') (hm:∀q,q∈l↔q∈l'):b=b':=by
 have one:∀{l l':List (Nat × Nat)} {b b':Int × Int},Best m l b->Best m l' b'->(∀q,q∈l->q∈l')->b.1*b'.2<=b'.1*b.2:=by
  intro l l' b b' h h' hm
  rcases h.mem with rfl | ⟨q,hq,e⟩
  ·have:=h'.lo.1
   simp only[Int.zero_mul,Int.mul_one]; omega
  ·rw[e]
   exact(h'.all q (hm q hq)).2
 refine x8m h.lo h'.lo ?_
 have h1:=one h h' λq=>(hm q).1
 have h2:=one h' h λq=>(hm q).2
 omega
theorem mem_prs {p i:Nat} {q:Nat × Nat}:q∈prs p i↔q.1<i/\q.1<q.2/\q.2<p:=by
 induction i with
 | zero=>simp[prs]
 | succ i ih=>
  rw[prs,List.mem_append,ih]
  obtain⟨a,b⟩:=q
  simp only[rowP,List.mem_map,List.mem_range,Prod.mk.injEq]
  constructor
  ·rintro(h | ⟨d,hd,rfl,rfl⟩)
   ·omega
   ·omega
  ·rintro⟨h1,h2,h3⟩
   by_cases e:a=i
   ·exact .inr ⟨b-(i+1),by omega,by omega,by omega⟩
   ·exact .inl (by omega)
theorem xp2 {j:Nat} {q:Nat × Nat}:q∈x04 j↔q.1<q.2/\q.2<j:=by
 induction j with
 | zero=>simp[x04]
 | succ j ih=>
  rw[x04,List.mem_append,ih]
  obtain⟨a,b⟩:=q
  simp only[yb1,List.mem_map,List.mem_range,Prod.mk.injEq]
  constructor
  ·rintro(h | ⟨d,hd,rfl,rfl⟩)
   ·omega
   ·omega
  ·rintro⟨h1,h2⟩
   by_cases e:b=j
   ·exact .inr ⟨a,by omega,rfl,e.symm⟩
   ·exact .inl (by omega)
theorem wj3 (m:List (List Int)) (q:Nat × Nat):q∈prsL m↔q∈x04 (nthL m 0).length:=by
 show q∈prs (nthL m 0).length (nthL m 0).length↔_
 rw[mem_prs,xp2]
 omega
theorem cohK_all (m:List (List Int)):wb4 m (prsL m).length=w5d m (prsL m):=by
 unfold wb4 w5d
 rw[List.take_length]
theorem q4a {m:List (List Int)} {l:List (Nat × Nat)}:(w5d m l).isNone=false↔∀q∈l,(lk m q).2=true:=by
 constructor
 ·intro h q hq
  cases hc:w5d m l with
  | none=>rw[hc] at h; cases h
  | some b=>exact((cohF_best hc).all q hq).1
 ·intro h
  obtain⟨b,hb⟩:=w21 l (0,1) h
  have:w5d m l=some b:=hb
  rw[this]; rfl
theorem w5e (m:List (List Int)):(wb4 m (prsL m).length).isNone=(rcL m).isNone:=by
 rw[cohK_all]
 unfold rcL
 cases h:(w5d m (prsL m)).isNone with
 | false=>
  have h1:=q4a.1 h
  exact(q4a.2 λq hq=>h1 q ((wj3 m q).2 hq)).symm
 | true=>
  cases h':(w5d m (x04 (nthL m 0).length)).isNone with
  | true=>rfl
  | false=>
   have h1:=q4a.1 h'
   have:=q4a.2 λq hq=>h1 q ((wj3 m q).1 hq)
   rw[this] at h; cases h
theorem coh_some {m:List (List Int)} (h:cohE m=0):validB m=true/\∃b,w5d m (prsL m)=some b/\cohR m=b/\rcL m=some b:=by
 have hv:validB m=true:=by
  cases hv:validB m with
  | true=>rfl
  | false=>simp[cohE,hv] at h
 have hn:(w5d m (prsL m)).isNone=false:=by
  unfold cohE at h
  rw[if_neg (by simp[hv])] at h
  split at h
  ·cases h
  ·split at h
   ·cases h
   ·rename_i hh
    rw[cohK_all] at hh
    cases hz:(w5d m (prsL m)).isNone with
    | false=>rfl
    | true=>exact absurd hz hh
 cases hb:w5d m (prsL m) with
 | none=>rw[hb] at hn; cases hn
 | some b=>
  have hn':=w5e m
  rw[cohK_all,hb] at hn'
  cases hb':rcL m with
  | none=>rw[hb'] at hn'; cases hn'
  | some b'=>
   have e:=xc6 (cohF_best hb) (cohF_best hb') (wj3 m)
   subst e
   refine⟨hv,b,rfl,?_,rfl⟩
   unfold cohR
   rw[if_pos h,cohK_all,hb]
   rfl
end Go.Proofs.YtmijnbjlhnpokaaGreat.K
