/- The kernels of the program and of the reference are the same lists. Plain mathematics. No condition. -/
import Derived.Test.YtnchigbbjajiiaaGreatW14
set_option linter.unusedSimpArgs false
set_option linter.unusedVariables false
namespace Go.Proofs.YtnchigbbjajiiaaGreat
open Go Go.RowKit Eng
theorem xj5 {P:List Int} {f:Nat}:(P.any λe=>(f:Int)==e)=true↔isP P f:=by
 rw[zbm]
 constructor
 ·rintro⟨x,hx,e⟩
  obtain⟨q,hq,rfl⟩:=q8z hx
  exact⟨q,hq,(beq_iff_eq.1 e).symm⟩
 ·rintro⟨q,hq,e⟩
  exact⟨nI P q,q8y hq,beq_iff_eq.2 e.symm⟩
theorem wx5 (P:List Int) (f:Nat):∀k,qp2 P f k=true↔∀q,q<k->nI P q≠(f:Int)
 | 0=>⟨λ_ q hq=>absurd hq (zav _),λ_=>rfl⟩
 | k+1=>by
  rw[qp2,za3,wx5 P f k,bne_iff_ne]
  grind
theorem q5p {P:List Int} {f:Nat}:qp2 P f P.length=true↔¬isP P f:=by rw[wx5,wm7]
def q05 (n f:Nat) (t:Int) (P:List Int) (val:Nat->Int):Nat->List Int
 | 0=>(List.replicate n 0).set f t
 | k+1=>(q05 n f t P val k).set (nI P k).toNat (val k)
theorem qz5 (n f:Nat) (t:Int) (P:List Int) (val:Nat->Int):∀k,(q05 n f t P val k).length=n
 | 0=>by simp[q05]
 | k+1=>by rw[q05,za7]; exact qz5 n f t P val k
theorem x2q (n c:Nat):nI (List.replicate n (0:Int)) c=0:=by
 grind [Nat.lt_or_ge,qf1,wm6]
theorem q86 {n f:Nat} {t:Int} {P:List Int} {val:Nat->Int} (hf:f<n) (hP:∀k,k<P.length->0<=nI P k/\nI P k<n) (hnp:¬isP P f):∀k,k<=P.length->nI (q05 n f t P val k) f=t
 | 0,_=>by rw[q05,q85 _ (by grind),zao rfl]
 | k+1,hk=>by
  have:=hP k ow
  rw[q05,q85 _ (by grind [qz5]),zak λe=>hnp ⟨k,ow,ow⟩]
  exact q86 hf hP hnp k ow
theorem w1x {n f:Nat} {t:Int} {P:List Int} {val:Nat->Int} (hf:f<n) (hP:∀k,k<P.length->0<=nI P k/\nI P k<n) {c:Nat} (hc:c≠f) (hnp:¬isP P c):∀k,k<=P.length->nI (q05 n f t P val k) c=0
 | 0,_=>by simp_all [q05,q85,if_neg,x2q]
 | k+1,hk=>by
  have:=hP k ow
  rw[q05,q85 _ (by grind [qz5]),zak λe=>hnp ⟨k,ow,ow⟩]
  exact w1x hf hP hc hnp k ow
theorem w1y {n f:Nat} {t:Int} {P:List Int} {val:Nat->Int} (hP:∀k,k<P.length->0<=nI P k/\nI P k<n) (hinj:∀q k,q<P.length->k<P.length->nI P q=nI P k->q=k):∀k,k<=P.length->∀q,q<k->nI (q05 n f t P val k) (nI P q).toNat=val q
 | 0,_,q,hq=>absurd hq (zav _)
 | k+1,hk,q,hq=>by
  have h1:=hP k ow
  have h2:=hP q ow
  rw[q05,q85 _ (by grind [qz5])]
  rcases zat.1 hq with e | e
  ·rw[zak λe2=>by grind]
   exact w1y hP hinj k ow q e
  grind
theorem xj6 (r:List (List Int)) (P:List Int) (n f:Nat):∀k,hTo r P n f k=q05 n f (qf7 r P f P.length) P (λk=>((0-nI (nL r k) f)*qf7 r P f P.length).tdiv (nI (nL r k) (nI P k).toNat)) k
 | 0=>rfl
 | k+1=>by rw[hTo,q05,xj6 r P n f k]
theorem w4t (r:List (List Int)) (P:List Int) (n f:Nat):∀k,q9w r P n f k=q05 n f (ql4 r P P.length) P (λk=>(0-nI (nL r k) f)*(ql4 r P P.length).tdiv (q8j r P k)) k
 | 0=>rfl
 | k+1=>by rw[q9w,q05,w4t r P n f k]
theorem w1z (a b:Int):∃x,a=gcdI a b*x:=by
 have h:gcdI a b∣a:=za5.1 (zb0 _ _)
 exact h
theorem w11 (a b:Int):∃x,b=gcdI a b*x:=by
 have h:gcdI a b∣b:=za5.1 (zb3 _ _)
 exact h
theorem x2r {a d:Int} (ha:0<a) (hd:0<d):0<a*d.tdiv (gcdI a d)/\a∣a*d.tdiv (gcdI a d)/\d∣a*d.tdiv (gcdI a d)/\(a*d.tdiv (gcdI a d)).natAbs<=a.natAbs*d.natAbs/\a.tdiv (gcdI a d)*d=a*d.tdiv (gcdI a d):=by
 have hg:=ql9 (a:=a) (b:=d) (.inl ow)
 obtain⟨x,hx⟩:=w1z a d
 obtain⟨y,hy⟩:=w11 a d
 generalize gcdI a d=g at hg hx hy ⊢
 have e1:d.tdiv g=y:=by grind [Int.mul_tdiv_cancel_left]
 have e2:a.tdiv g=x:=by grind [Int.mul_tdiv_cancel_left]
 have hy0:0<y:=q4q hg ow
 rw[e1,e2]
 refine⟨zb8 ha hy0,⟨y,rfl⟩,⟨x,by grind⟩,?_,by grind⟩
 rw[zbp]
 refine zdr _ ?_
 rw[<- e1]
 exact q0w _ _
theorem w4u {p r:Int} (hp:0<p):0<p.tdiv (gcdI p r)/\(p.tdiv (gcdI p r)).natAbs<=p.natAbs/\∀t,p.tdiv (gcdI p r)∣t->p∣(0-r)*t:=by
 have hg:=ql9 (a:=p) (b:=r) (.inl ow)
 obtain⟨x,hx⟩:=w1z p r
 obtain⟨y,hy⟩:=w11 p r
 refine⟨?_,q0w _ _,λt ht=>?_⟩
 ·generalize gcdI p r=g at hg hx hy ⊢
  rw[hx,zed _ ow]
  exact q4q hg ow
 ·generalize gcdI p r=g at hg hx hy ht
  rw[hx,zed _ ow] at ht
  obtain⟨u,hu⟩:=ht
  exact⟨- (y*u),by grind⟩
theorem q5q {r:List (List Int)} {P:List Int} {f:Nat} (hp:∀k,k<P.length->0<nI (nL r k) (nI P k).toNat/\(nI (nL r k) (nI P k).toNat).natAbs<=160):∀k,k<=P.length->0<qf7 r P f k/\(qf7 r P f k).natAbs<=160 ^ k/\∀q,q<k->q6h r P f q∣qf7 r P f k
 | 0,_=>⟨by show(0:Int)<1; decide,by show(1:Int).natAbs<=160 ^ 0; decide,λq hq=>absurd hq (zav _)⟩
 | k+1,hk=>by
  obtain⟨a1,a2,a3⟩:=q5q hp k ow
  obtain⟨b1,b2⟩:=hp k ow
  obtain⟨c1,c2,_⟩:=w4u (r:=nI (nL r k) f) b1
  change 0<q6h r P f k at c1
  change(q6h r P f k).natAbs<=_ at c2
  obtain⟨d1,d2,d3,d4,_⟩:=x2r a1 c1
  rw[qf7]
  refine⟨d1,?_,λq hq=>?_⟩
  ·rw[zb1]
   exact zaj d4 (zbj a2 ow)
  grind [Nat.lt_succ_iff_lt_or_eq,Int.dvd_trans,d3]
theorem wm8 {r:List (List Int)} {P:List Int} (hp:∀k,k<P.length->0<q8j r P k/\(q8j r P k).natAbs<=160):∀k,k<=P.length->0<ql4 r P k/\(ql4 r P k).natAbs<=160 ^ k/\∀q,q<k->q8j r P q∣ql4 r P k
 | 0,_=>⟨by show(0:Int)<1; decide,by show(1:Int).natAbs<=160 ^ 0; decide,λq hq=>absurd hq (zav _)⟩
 | k+1,hk=>by
  obtain⟨a1,a2,a3⟩:=wm8 hp k ow
  obtain⟨b1,b2⟩:=hp k ow
  obtain⟨d1,d2,d3,d4,d5⟩:=x2r a1 b1
  rw[ql4,d5]
  refine⟨d1,?_,λq hq=>?_⟩
  ·rw[zb1]
   exact zaj d4 (zbj a2 b2)
  grind [Nat.lt_succ_iff_lt_or_eq,Int.dvd_trans,d3]
theorem w4v {k:Nat} (h:k<=6):160 ^ k<=16777216000000:=zaj (zdk dc h) dc
structure Ones (n W:Nat) (M:List (List Int)):Prop extends Mat n W M where
 n1:0<n
 n6:n<=6
 w1:0<W
 w:W<=1000
 one:∀a c,a<n->c<W->(nI (nL M a) c).natAbs<=1
theorem Ones.small {n W:Nat} {M:List (List Int)} (h:Ones n W M):Small n W W M:=⟨h.toMat,h.n6,zab _,h.w,h.one,λa c ha hc=>by have:=h.one a c ha hc; omega⟩
theorem Ones.small2 {n W:Nat} {M:List (List Int)} (h:Ones n W M):Small n (W-1) (W-1+1) M:=by
 have h1:=h.w1
 have e:W-1+1=W:=ow
 rw[e]
 exact⟨h.toMat,h.n6,ow,h.w,λa c ha hc=>h.one a c ha ow,λa c ha hc=>by have:=h.one a c ha hc; omega⟩
theorem Ones.rdW {n W:Nat} {M:List (List Int)} (h:Ones n W M):rdW M=W:=h.each 0 h.n1
theorem Ones.stP {n W:Nat} {M:List (List Int)} (h:Ones n W M):St n W (rowOf M) W (qb7 M W).1 (qb7 M W).2:=qt2 h.toMat W (zab _)
theorem Ones.stR {n W:Nat} {M:List (List Int)} (h:Ones n W M):St n W (rowOf M) W ((qf9 M W).done_++(qf9 M W).left) (qf9 M W).piv:=(qx3 h.toMat W (zab _)).st
theorem Ones.at_ {n W:Nat} {M:List (List Int)} (h:Ones n W M) {k:Nat} (hk:k<(qf9 M W).piv.length):nL ((qf9 M W).done_++(qf9 M W).left) k=nL (qf9 M W).done_ k:=qo0 _ _ (by rw[(qx3 h.toMat W (zab _)).cnt]; omega)
theorem Ones.redOk {n W:Nat} {M:List (List Int)} (h:Ones n W M):q78 M W W:=wx1 h.small
theorem Ones.rdOk {n W:Nat} {M:List (List Int)} (h:Ones n W M):xe5 M:=(w4r h.small2 h.n1).1
theorem Ones.pP {n W:Nat} {M:List (List Int)} (h:Ones n W M):∀k,k<(qb7 M W).2.length->0<nI (nL (qb7 M W).1 k) (nI (qb7 M W).2 k).toNat/\(nI (nL (qb7 M W).1 k) (nI (qb7 M W).2 k).toNat).natAbs<=160:=λk hk=>
 ⟨(h.stP.pos k hk).2.2.1,h.stP.piv_160 h.n6 h.one hk⟩
theorem Ones.pR {n W:Nat} {M:List (List Int)} (h:Ones n W M):∀k,k<(qf9 M W).piv.length->0<q8j (qf9 M W).done_ (qf9 M W).piv k/\(q8j (qf9 M W).done_ (qf9 M W).piv k).natAbs<=160:=λk hk=>by
 have h1:=(h.stR.pos k hk).2.2.1
 have h2:=h.stR.piv_160 h.n6 h.one hk
 rw[h.at_ hk] at h1 h2
 exact⟨h1,h2⟩
theorem Ones.kvP {n W:Nat} {M:List (List Int)} (h:Ones n W M) {f:Nat} (hf:f<W) (hnp:¬isP (qb7 M W).2 f):KV n W (rowOf M) (qb7 M W).2 f (hTo (qb7 M W).1 (qb7 M W).2 W f (qb7 M W).2.length):=by
 have hst:=h.stP
 have hP:∀k,k<(qb7 M W).2.length->0<=nI (qb7 M W).2 k/\nI (qb7 M W).2 k<W:=λk hk=>by have:=hst.pos k hk; omega
 have hT:=q5q (f:=f) h.pP _ (zab _)
 rw[xj6]
 have h0:∀c,c<W->c≠f->¬isP (qb7 M W).2 c->nI (q05 W f (qf7 (qb7 M W).1 (qb7 M W).2 f (qb7 M W).2.length) (qb7 M W).2 (λk=>((0-nI (nL (qb7 M W).1 k) f)*qf7 (qb7 M W).1 (qb7 M W).2 f (qb7 M W).2.length).tdiv (nI (nL (qb7 M W).1 k) (nI (qb7 M W).2 k).toNat)) (qb7 M W).2.length) c=0:=λc hc h1 h2=>w1x hf hP h1 h2 _ (zab _)
 refine⟨qz5 _ _ _ _ _ _,hst.sol_mk hf hnp h0 λk hk=>?_,h0,?_⟩
 ·rw[w1y hP (λq k hq hk=>hst.inj hq hk) _ (zab _) k hk,q86 hf hP hnp _ (zab _)]
  have hp:=(h.pP k hk).1
  have hd:=(w4u (r:=nI (nL (qb7 M W).1 k) f) hp).2.2 _ (hT.2.2 k hk)
  grind [Int.mul_tdiv_cancel']
 simp_all [q86,Nat.le_refl]
theorem Ones.kvR {n W:Nat} {M:List (List Int)} (h:Ones n W M) {f:Nat} (hf:f<W) (hnp:¬isP (qf9 M W).piv f):KV n W (rowOf M) (qf9 M W).piv f (q9w (qf9 M W).done_ (qf9 M W).piv W f (qf9 M W).piv.length):=by
 have hst:=h.stR
 have hP:∀k,k<(qf9 M W).piv.length->0<=nI (qf9 M W).piv k/\nI (qf9 M W).piv k<W:=λk hk=>by have:=hst.pos k hk; omega
 have hT:=wm8 h.pR _ (zab _)
 rw[w4t]
 have h0:∀c,c<W->c≠f->¬isP (qf9 M W).piv c->nI (q05 W f (ql4 (qf9 M W).done_ (qf9 M W).piv (qf9 M W).piv.length) (qf9 M W).piv (λk=>(0-nI (nL (qf9 M W).done_ k) f)*(ql4 (qf9 M W).done_ (qf9 M W).piv (qf9 M W).piv.length).tdiv (q8j (qf9 M W).done_ (qf9 M W).piv k)) (qf9 M W).piv.length) c=0:=λc hc h1 h2=>w1x hf hP h1 h2 _ (zab _)
 refine⟨qz5 _ _ _ _ _ _,hst.sol_mk hf hnp h0 λk hk=>?_,h0,?_⟩
 ·rw[w1y hP (λq k hq hk=>hst.inj hq hk) _ (zab _) k hk,q86 hf hP hnp _ (zab _),h.at_ hk]
  have hd:q8j (qf9 M W).done_ (qf9 M W).piv k*(ql4 (qf9 M W).done_ (qf9 M W).piv (qf9 M W).piv.length).tdiv (q8j (qf9 M W).done_ (qf9 M W).piv k)=_:=za9 (hT.2.2 k hk)
  have e:nI (nL (qf9 M W).done_ k) (nI (qf9 M W).piv k).toNat=q8j (qf9 M W).done_ (qf9 M W).piv k:=rfl
  grind
 simp_all [q86,Nat.le_refl]
theorem Ones.piv {n W:Nat} {M:List (List Int)} (h:Ones n W M) (c:Nat):isP (qb7 M W).2 c↔isP (qf9 M W).piv c:=⟨h.stP.piv_same h.stR,h.stR.piv_same h.stP⟩
theorem Ones.ker {n W:Nat} {M:List (List Int)} (h:Ones n W M):∀f,f<=W->qp5 (qb7 M W).1 (qb7 M W).2 W f=qh4 (qf9 M W).done_ (qf9 M W).piv W f
 | 0,_=>rfl
 | f+1,hf=>by
  have ih:=h.ker f ow
  rw[qp5,qh4,ih]
  by_cases q:isP (qb7 M W).2 f
  ·rw[zao (xj5.2 q),zak λq2=>q5p.1 q2 ((h.piv f).1 q)]
  ·have q2:¬isP (qf9 M W).piv f:=λq3=>q ((h.piv f).2 q3)
   rw[zak λq3=>q (xj5.1 q3),zao (q5p.2 q2),q6b]
   have a:=(h.kvP ow q).prim ow
   have b:=((h.kvR ow q2).prim ow).trans λc=>(h.piv c).symm
   rw[a.uniq h.stP ow q b (qp3 _) (qp3 _)]
theorem Ones.kernel {n W:Nat} {M:List (List Int)} (h:Ones n W M):qp5 (qb7 M W).1 (qb7 M W).2 W W=qf8 M:=by
 rw[h.ker W (zab _)]
 unfold qf8 qb5
 rw[h.rdW]
theorem Ones.kerAr {n W:Nat} {M:List (List Int)} (h:Ones n W M):xy1 (qb7 M W).1 (qb7 M W).2 W:=by
 have hB:BIG=4000000000000000000:=rfl
 have hst:=h.stP
 have hpl:=hst.pl
 have hn:=h.n6
 have hsm:=λ{k} (hk:k<(qb7 M W).2.length)=>(hst.small h.small (zab _) (i:=k) ow).1
 have hT:=λf=>q5q (f:=f) h.pP
 refine⟨λk hk=>?_,λk hk i hi=>?_,λf hf _ k hk=>?_,λf hf _ k hk=>?_⟩
 ·have:=(h.pP k hk).1; omega
 ·grind
 ·grind [w4v]
 ·obtain⟨a,b,_⟩:=hT f _ (zab _)
  have:=w4v (k:=(qb7 M W).2.length) ow
  have h1:=hsm hk f hf
  have:=q0v (a:=0-nI (nL (qb7 M W).1 k) f) (A:=46656) ow (zaj b this)
  omega
theorem Ones.krOk {n W:Nat} {M:List (List Int)} (h:Ones n W M):x6x M:=by
 have hB:BIG=4000000000000000000:=rfl
 have hrst:=qx3 h.toMat W (zab _)
 have hst:=h.stR
 have hpl:=hst.pl
 have hn:=h.n6
 have h1:=h.n1
 have hlen:=h.len
 have hsm:=λ{k} (hk:k<(qf9 M W).piv.length)=>(hst.small h.small (zab _) (i:=k) ow).1
 have hT:=wm8 h.pR
 refine⟨h.rdOk,ow,?_⟩
 unfold qb5
 rw[h.rdW]
 refine⟨hrst.cnt,λk hk=>?_,λk hk=>?_,λk hk=>?_,λk hk i hi=>?_,λf hf _ k hk=>?_,λf hf _ k hk=>?_⟩
 ·try dsimp only at hk
  rw[hrst.cnt] at hk
  try dsimp only
  rw[<- h.at_ hk]
  exact hst.each k ow
 ·have:=hst.pos k hk; grind
 ·have:=(h.pR k hk).1; grind
 ·have hk:k<(qf9 M W).piv.length:=hk
  have:=hsm hk i hi
  rw[h.at_ hk] at this
  grind
 ·grind [qf9,w4v]
 ·have hk:k<(qf9 M W).piv.length:=hk
  obtain⟨a,b,_⟩:=hT _ (zab _)
  have h2:=w4v (k:=(qf9 M W).piv.length) ow
  have h3:=hsm hk f hf
  rw[h.at_ hk] at h3
  have:=q0v (a:=0-nI (nL (qf9 M W).done_ k) f) (b:=(ql4 (qf9 M W).done_ (qf9 M W).piv (qf9 M W).piv.length).tdiv (q8j (qf9 M W).done_ (qf9 M W).piv k)) (A:=46656) (B:=16777216000000) ow (zaj (q0w _ _) (zaj b h2))
  grind
def q87 (M:List (List Int)) (W:Nat):List Nat:=(List.range W).filter λc=>qp2 (qf9 M W).piv c (qf9 M W).piv.length
theorem wf4 (d:List (List Int)) (P:List Int) (n:Nat):∀f,qh4 d P n f=((List.range f).filter λc=>qp2 P c P.length).map λc=>qk1 (q9w d P n c P.length)
 | 0=>rfl
 | f+1=>by
  rw[qh4,wf4 d P n f,zc3,List.filter_append,List.map_append]
  grind
theorem Ones.kernel_map {n W:Nat} {M:List (List Int)} (h:Ones n W M):qf8 M=(q87 M W).map λc=>qk1 (q9w (qf9 M W).done_ (qf9 M W).piv W c (qf9 M W).piv.length):=by
 unfold qf8 qb5
 rw[h.rdW,wf4]
 rfl
theorem qz6 {M:List (List Int)} {W c:Nat}:c∈q87 M W↔c<W/\¬isP (qf9 M W).piv c:=by
 grind [q87,q5p]
theorem Ones.one_free {n W:Nat} {M:List (List Int)} (h:Ones n W M) (h1:(qf8 M).length=1):∃f,f<W/\¬isP (qf9 M W).piv f/\(∀c,c<W->c≠f->isP (qf9 M W).piv c)/\KV n W (rowOf M) (qf9 M W).piv f (nL (qf8 M) 0)/\Prim (nL (qf8 M) 0):=by
 rw[h.kernel_map] at h1 ⊢
 rw[za8] at h1
 obtain⟨f,hf⟩:=zc5.1 h1
 have hm:f∈q87 M W:=by grind
 obtain⟨hfW,hnp⟩:=qz6.1 hm
 refine⟨f,hfW,hnp,λc hc hne=>zaf λq=>?_,?_,?_⟩
 ·have:c∈q87 M W:=qz6.2 ⟨hc,q⟩
  grind
 ·rw[hf]
  exact(h.kvR hfW hnp).prim hfW
 ·rw[hf]
  exact qp3 _
theorem Ones.ker_small {n W:Nat} {M:List (List Int)} (h:Ones n W M) {v:List Int} (hv:v∈qf8 M):v.length=W/\∀x∈v,x.natAbs<=160:=by
 rw[h.kernel_map] at hv
 obtain⟨f,hf,rfl⟩:=zba.1 hv
 obtain⟨hfW,hnp⟩:=qz6.1 hf
 have hk:=(h.kvR hfW hnp).prim hfW
 exact⟨hk.len,hk.small h.stR h.n6 h.one hfW hnp (qp3 _)⟩
theorem Ones.one_mk {n W:Nat} {M:List (List Int)} (h:Ones n W M) {u:Nat->Int} (hu:Sol n W (rowOf M) u) (hu0:∀c,c<W->u c≠0) (hmin:∀z,Sol n W (rowOf M) z->(∃c,c<W/\z c=0)->∀c,c<W->z c=0):(qf8 M).length=1/\∀c,c<W->nI (nL (qf8 M) 0) c≠0:=by
 have hw:=h.w1
 have two:∀f g,f∈q87 M W->g∈q87 M W->f=g:=λf g hf hg=>zaf λhne=>by
  obtain⟨hfW,hfn⟩:=qz6.1 hf
  obtain⟨hgW,hgn⟩:=qz6.1 hg
  have hk:=h.kvR hfW hfn
  have:=hmin _ hk.sol ⟨g,hgW,hk.free g hgW (zdd hne) hgn⟩ f hfW
  have:=hk.pos
  omega
 have ex:∃f,f∈q87 M W:=zaf λhno=>by
  have hall:∀c,c<W->isP (qf9 M W).piv c:=λc hc=>zaf λq=>hno ⟨c,qz6.2 ⟨hc,q⟩⟩
  obtain⟨k,hk,e⟩:=hall 0 hw
  have hst:=h.stR
  have hpl:=hst.pl
  have hp:=hst.pos k hk
  have h1:=(hst.sol u).1 hu k ow
  unfold dt at h1
  rw[e,zaq] at hp
  rw[qr0 (k:=0) hw λc hc hne=>?_] at h1
  ·grind [qc9]
  ·try dsimp only
   obtain⟨q,hq,e2⟩:=hall c hc
   have:=(hst.pos q hq).2.2.2.2 k ow λe3=>hne (by grind)
   grind
 obtain⟨f,hf⟩:=ex
 have hnd:(q87 M W).Nodup:=List.nodup_range.filter _
 have h1:(q87 M W).length=1:=by
  match hl:q87 M W,hnd with
  | [],_=>grind
  | [a],_=>rfl
  | a :: b :: t,hnd=>
   have:=two a b (by grind) (by grind)
   grind
 have hk1:(qf8 M).length=1:=by rw[h.kernel_map,za8]; omega
 refine⟨hk1,λc hc q=>?_⟩
 obtain⟨f,hfW,hfn,_,hv,_⟩:=h.one_free hk1
 have:=hmin _ hv.sol ⟨c,hc,q⟩ f hfW
 have:=hv.pos
 omega
end Go.Proofs.YtnchigbbjajiiaaGreat
