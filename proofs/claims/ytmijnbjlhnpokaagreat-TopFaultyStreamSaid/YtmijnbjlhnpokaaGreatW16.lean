/- The circuits of the program and of the reference are the same lists. Plain mathematics. No condition. -/
import Derived.Test.YtmijnbjlhnpokaaGreatW14
set_option linter.unusedVariables false
namespace Go.Proofs.YtmijnbjlhnpokaaGreat
open Go Go.RowKit Eng
theorem xa7 {P:List Int} {f:Nat}:(P.any λe=>(f:Int)==e)=true↔isP P f:=by
 rw[List.any_eq_true]
 constructor
 ·rintro⟨x,hx,e⟩
  obtain⟨q,hq,rfl⟩:=q72 hx
  exact⟨q,hq,(beq_iff_eq.1 e).symm⟩
 ·rintro⟨q,hq,e⟩
  exact⟨nI P q,q71 hq,beq_iff_eq.2 e.symm⟩
theorem ws4 (P:List Int) (f:Nat):∀k,q3t P f k=true↔∀q,q<k->nI P q≠(f:Int)
 | 0=>⟨λ_ q hq=>absurd hq (Nat.not_lt_zero _),λ_=>rfl⟩
 | k+1=>by
  rw[q3t,Bool.and_eq_true,ws4 P f k,bne_iff_ne]
  constructor
  ·rintro⟨h1,h2⟩ q hq
   rcases Nat.lt_succ_iff_lt_or_eq.1 hq with e | e
   ·exact h1 q e
   ·rw[e]; exact h2
  ·exact λh=>⟨λq hq=>h q (by omega),h k (by omega)⟩
theorem q4u {P:List Int} {f:Nat}:q3t P f P.length=true↔¬isP P f:=by rw[ws4,wg8]
def qz8 (n f:Nat) (t:Int) (P:List Int) (val:Nat->Int):Nat->List Int
 | 0=>(List.replicate n 0).set f t
 | k+1=>(qz8 n f t P val k).set (nI P k).toNat (val k)
theorem qx3 (n f:Nat) (t:Int) (P:List Int) (val:Nat->Int):∀k,(qz8 n f t P val k).length=n
 | 0=>by simp[qz8]
 | k+1=>by rw[qz8,List.length_set]; exact qx3 n f t P val k
theorem xt1 (n c:Nat):nI (List.replicate n (0:Int)) c=0:=by
 rcases Nat.lt_or_ge c n with h | h
 ·rw[qh0 _ _ (by simpa using h)]; simp
 ·exact q4t _ (by simpa using h)
theorem q8a {n f:Nat} {t:Int} {P:List Int} {val:Nat->Int} (hf:f<n) (hP:∀k,k<P.length->0<=nI P k/\nI P k<n) (hnp:¬isP P f):∀k,k<=P.length->nI (qz8 n f t P val k) f=t
 | 0,_=>by rw[qz8,q79 _ (by simpa using hf),if_pos rfl]
 | k+1,hk=>by
  have:=hP k (by omega)
  rw[qz8,q79 _ (by rw[qx3]; omega),if_neg λe=>hnp ⟨k,by omega,by omega⟩]
  exact q8a hf hP hnp k (by omega)
theorem wz6 {n f:Nat} {t:Int} {P:List Int} {val:Nat->Int} (hf:f<n) (hP:∀k,k<P.length->0<=nI P k/\nI P k<n) {c:Nat} (hc:c≠f) (hnp:¬isP P c):∀k,k<=P.length->nI (qz8 n f t P val k) c=0
 | 0,_=>by rw[qz8,q79 _ (by simpa using hf),if_neg hc,xt1]
 | k+1,hk=>by
  have:=hP k (by omega)
  rw[qz8,q79 _ (by rw[qx3]; omega),if_neg λe=>hnp ⟨k,by omega,by omega⟩]
  exact wz6 hf hP hc hnp k (by omega)
theorem wz7 {n f:Nat} {t:Int} {P:List Int} {val:Nat->Int} (hP:∀k,k<P.length->0<=nI P k/\nI P k<n) (hinj:∀q k,q<P.length->k<P.length->nI P q=nI P k->q=k):∀k,k<=P.length->∀q,q<k->nI (qz8 n f t P val k) (nI P q).toNat=val q
 | 0,_,q,hq=>absurd hq (Nat.not_lt_zero _)
 | k+1,hk,q,hq=>by
  have h1:=hP k (by omega)
  have h2:=hP q (by omega)
  rw[qz8,q79 _ (by rw[qx3]; omega)]
  rcases Nat.lt_succ_iff_lt_or_eq.1 hq with e | e
  ·rw[if_neg λe2=>by have:=hinj q k (by omega) (by omega) (by omega); omega]
   exact wz7 hP hinj k (by omega) q e
  ·rw[if_pos (by rw[e]),e]
theorem xa8 (r:List (List Int)) (P:List Int) (n f:Nat):∀k,hTo r P n f k=qz8 n f (qf4 r P f P.length) P (λk=>((0-nI (nL r k) f)*qf4 r P f P.length).tdiv (nI (nL r k) (nI P k).toNat)) k
 | 0=>rfl
 | k+1=>by rw[hTo,qz8,xa8 r P n f k]
theorem w2p (r:List (List Int)) (P:List Int) (n f:Nat):∀k,xz8 r P n f k=qz8 n f (q4l r P P.length) P (λk=>(0-nI (nL r k) f)*(q4l r P P.length).tdiv (w4r r P k)) k
 | 0=>rfl
 | k+1=>by rw[xz8,qz8,w2p r P n f k]
theorem xa9 (a b:Int):∃x,a=gcdI a b*x:=by
 have h:gcdI a b∣a:=Int.natAbs_dvd_natAbs.1 (Nat.gcd_dvd_left _ _)
 exact h
theorem xb0 (a b:Int):∃x,b=gcdI a b*x:=by
 have h:gcdI a b∣b:=Int.natAbs_dvd_natAbs.1 (Nat.gcd_dvd_right _ _)
 exact h
theorem xt2 {a d:Int} (ha:0<a) (hd:0<d):0<a*d.tdiv (gcdI a d)/\a∣a*d.tdiv (gcdI a d)/\d∣a*d.tdiv (gcdI a d)/\(a*d.tdiv (gcdI a d)).natAbs<=a.natAbs*d.natAbs/\a.tdiv (gcdI a d)*d=a*d.tdiv (gcdI a d):=by
 have hg:=qq0 (a:=a) (b:=d) (.inl (by omega))
 obtain⟨x,hx⟩:=xa9 a d
 obtain⟨y,hy⟩:=xb0 a d
 generalize gcdI a d=g at hg hx hy ⊢
 have e1:d.tdiv g=y:=by rw[hy]; exact Int.mul_tdiv_cancel_left _ (by omega)
 have e2:a.tdiv g=x:=by rw[hx]; exact Int.mul_tdiv_cancel_left _ (by omega)
 have hy0:0<y:=q70 hg (by omega)
 rw[e1,e2]
 refine⟨Int.mul_pos ha hy0,⟨y,rfl⟩,⟨x,by rw[hx,hy]; grind⟩,?_,by rw[hx,hy]; grind⟩
 rw[Int.natAbs_mul]
 refine Nat.mul_le_mul_left _ ?_
 rw[<- e1]
 exact q52 _ _
theorem w2q {p r:Int} (hp:0<p):0<p.tdiv (gcdI p r)/\(p.tdiv (gcdI p r)).natAbs<=p.natAbs/\∀t,p.tdiv (gcdI p r)∣t->p∣(0-r)*t:=by
 have hg:=qq0 (a:=p) (b:=r) (.inl (by omega))
 obtain⟨x,hx⟩:=xa9 p r
 obtain⟨y,hy⟩:=xb0 p r
 refine⟨?_,q52 _ _,λt ht=>?_⟩
 ·generalize gcdI p r=g at hg hx hy ⊢
  rw[hx,Int.mul_tdiv_cancel_left _ (by omega)]
  exact q70 hg (by omega)
 ·generalize gcdI p r=g at hg hx hy ht
  rw[hx,Int.mul_tdiv_cancel_left _ (by omega)] at ht
  obtain⟨u,hu⟩:=ht
  exact⟨- (y*u),by rw[hu,hx,hy]; grind⟩
theorem q4v {r:List (List Int)} {P:List Int} {f:Nat} (hp:∀k,k<P.length->0<nI (nL r k) (nI P k).toNat/\(nI (nL r k) (nI P k).toNat).natAbs<=160):∀k,k<=P.length->0<qf4 r P f k/\(qf4 r P f k).natAbs<=160 ^ k/\∀q,q<k->q5i r P f q∣qf4 r P f k
 | 0,_=>⟨by show(0:Int)<1; decide,by show(1:Int).natAbs<=160 ^ 0; decide,λq hq=>absurd hq (Nat.not_lt_zero _)⟩
 | k+1,hk=>by
  obtain⟨a1,a2,a3⟩:=q4v hp k (by omega)
  obtain⟨b1,b2⟩:=hp k (by omega)
  obtain⟨c1,c2,_⟩:=w2q (r:=nI (nL r k) f) b1
  change 0<q5i r P f k at c1
  change(q5i r P f k).natAbs<=_ at c2
  obtain⟨d1,d2,d3,d4,_⟩:=xt2 a1 c1
  rw[qf4]
  refine⟨d1,?_,λq hq=>?_⟩
  ·rw[Nat.pow_succ]
   exact Nat.le_trans d4 (Nat.mul_le_mul a2 (by omega))
  ·rcases Nat.lt_succ_iff_lt_or_eq.1 hq with e | e
   ·exact Int.dvd_trans (a3 q e) d2
   ·rw[e]; exact d3
theorem w2r {r:List (List Int)} {P:List Int} (hp:∀k,k<P.length->0<w4r r P k/\(w4r r P k).natAbs<=160):∀k,k<=P.length->0<q4l r P k/\(q4l r P k).natAbs<=160 ^ k/\∀q,q<k->w4r r P q∣q4l r P k
 | 0,_=>⟨by show(0:Int)<1; decide,by show(1:Int).natAbs<=160 ^ 0; decide,λq hq=>absurd hq (Nat.not_lt_zero _)⟩
 | k+1,hk=>by
  obtain⟨a1,a2,a3⟩:=w2r hp k (by omega)
  obtain⟨b1,b2⟩:=hp k (by omega)
  obtain⟨d1,d2,d3,d4,d5⟩:=xt2 a1 b1
  rw[q4l,d5]
  refine⟨d1,?_,λq hq=>?_⟩
  ·rw[Nat.pow_succ]
   exact Nat.le_trans d4 (Nat.mul_le_mul a2 b2)
  ·rcases Nat.lt_succ_iff_lt_or_eq.1 hq with e | e
   ·exact Int.dvd_trans (a3 q e) d2
   ·rw[e]; exact d3
theorem xt3 {k:Nat} (h:k<=6):160 ^ k<=16777216000000:=Nat.le_trans (Nat.pow_le_pow_right (by decide) h) (by decide)
structure Ones (n W:Nat) (M:List (List Int)):Prop extends Mat n W M where
 n1:0<n
 n6:n<=6
 w1:0<W
 w:W<=1000
 one:∀a c,a<n->c<W->(nI (nL M a) c).natAbs<=1
theorem Ones.small {n W:Nat} {M:List (List Int)} (h:Ones n W M):Small n W W M:=⟨h.toMat,h.n6,Nat.le_refl _,h.w,h.one,λa c ha hc=>by have:=h.one a c ha hc; omega⟩
theorem Ones.rdW {n W:Nat} {M:List (List Int)} (h:Ones n W M):rdW M=W:=h.each 0 h.n1
theorem Ones.stP {n W:Nat} {M:List (List Int)} (h:Ones n W M):St n W (rowOf M) W (qc7 M W).1 (qc7 M W).2:=qz3 h.toMat W (Nat.le_refl _)
theorem Ones.stR {n W:Nat} {M:List (List Int)} (h:Ones n W M):St n W (rowOf M) W ((qg9 M W).done_++(qg9 M W).left) (qg9 M W).piv:=(qz4 h.toMat W (Nat.le_refl _)).st
theorem Ones.at_ {n W:Nat} {M:List (List Int)} (h:Ones n W M) {k:Nat} (hk:k<(qg9 M W).piv.length):nL ((qg9 M W).done_++(qg9 M W).left) k=nL (qg9 M W).done_ k:=ql3 _ _ (by rw[(qz4 h.toMat W (Nat.le_refl _)).cnt]; exact hk)
theorem Ones.redOk {n W:Nat} {M:List (List Int)} (h:Ones n W M):q4h M W W:=ws0 h.small
theorem Ones.pP {n W:Nat} {M:List (List Int)} (h:Ones n W M):∀k,k<(qc7 M W).2.length->0<nI (nL (qc7 M W).1 k) (nI (qc7 M W).2 k).toNat/\(nI (nL (qc7 M W).1 k) (nI (qc7 M W).2 k).toNat).natAbs<=160:=λk hk=>
 ⟨(h.stP.pos k hk).2.2.1,h.stP.piv_160 h.n6 h.one hk⟩
theorem Ones.pR {n W:Nat} {M:List (List Int)} (h:Ones n W M):∀k,k<(qg9 M W).piv.length->0<w4r (qg9 M W).done_ (qg9 M W).piv k/\(w4r (qg9 M W).done_ (qg9 M W).piv k).natAbs<=160:=λk hk=>by
 have h1:=(h.stR.pos k hk).2.2.1
 have h2:=h.stR.piv_160 h.n6 h.one hk
 rw[h.at_ hk] at h1 h2
 exact⟨h1,h2⟩
theorem Ones.kvP {n W:Nat} {M:List (List Int)} (h:Ones n W M) {f:Nat} (hf:f<W) (hnp:¬isP (qc7 M W).2 f):KV n W (rowOf M) (qc7 M W).2 f (hTo (qc7 M W).1 (qc7 M W).2 W f (qc7 M W).2.length):=by
 have hst:=h.stP
 have hP:∀k,k<(qc7 M W).2.length->0<=nI (qc7 M W).2 k/\nI (qc7 M W).2 k<W:=λk hk=>by have:=hst.pos k hk; omega
 have hT:=q4v (f:=f) h.pP _ (Nat.le_refl _)
 rw[xa8]
 have h0:∀c,c<W->c≠f->¬isP (qc7 M W).2 c->nI (qz8 W f (qf4 (qc7 M W).1 (qc7 M W).2 f (qc7 M W).2.length) (qc7 M W).2 (λk=>((0-nI (nL (qc7 M W).1 k) f)*qf4 (qc7 M W).1 (qc7 M W).2 f (qc7 M W).2.length).tdiv (nI (nL (qc7 M W).1 k) (nI (qc7 M W).2 k).toNat)) (qc7 M W).2.length) c=0:=λc hc h1 h2=>wz6 hf hP h1 h2 _ (Nat.le_refl _)
 refine⟨qx3 _ _ _ _ _ _,hst.sol_mk hf hnp h0 λk hk=>?_,h0,?_⟩
 ·rw[wz7 hP (λq k hq hk=>hst.inj hq hk) _ (Nat.le_refl _) k hk,q8a hf hP hnp _ (Nat.le_refl _)]
  have hp:=(h.pP k hk).1
  have hd:=(w2q (r:=nI (nL (qc7 M W).1 k) f) hp).2.2 _ (hT.2.2 k hk)
  rw[Int.mul_tdiv_cancel' hd]
  grind
 ·rw[q8a hf hP hnp _ (Nat.le_refl _)]
  exact hT.1
theorem Ones.kvR {n W:Nat} {M:List (List Int)} (h:Ones n W M) {f:Nat} (hf:f<W) (hnp:¬isP (qg9 M W).piv f):KV n W (rowOf M) (qg9 M W).piv f (xz8 (qg9 M W).done_ (qg9 M W).piv W f (qg9 M W).piv.length):=by
 have hst:=h.stR
 have hP:∀k,k<(qg9 M W).piv.length->0<=nI (qg9 M W).piv k/\nI (qg9 M W).piv k<W:=λk hk=>by have:=hst.pos k hk; omega
 have hT:=w2r h.pR _ (Nat.le_refl _)
 rw[w2p]
 have h0:∀c,c<W->c≠f->¬isP (qg9 M W).piv c->nI (qz8 W f (q4l (qg9 M W).done_ (qg9 M W).piv (qg9 M W).piv.length) (qg9 M W).piv (λk=>(0-nI (nL (qg9 M W).done_ k) f)*(q4l (qg9 M W).done_ (qg9 M W).piv (qg9 M W).piv.length).tdiv (w4r (qg9 M W).done_ (qg9 M W).piv k)) (qg9 M W).piv.length) c=0:=λc hc h1 h2=>wz6 hf hP h1 h2 _ (Nat.le_refl _)
 refine⟨qx3 _ _ _ _ _ _,hst.sol_mk hf hnp h0 λk hk=>?_,h0,?_⟩
 ·rw[wz7 hP (λq k hq hk=>hst.inj hq hk) _ (Nat.le_refl _) k hk,q8a hf hP hnp _ (Nat.le_refl _),h.at_ hk]
  have hd:w4r (qg9 M W).done_ (qg9 M W).piv k*(q4l (qg9 M W).done_ (qg9 M W).piv (qg9 M W).piv.length).tdiv (w4r (qg9 M W).done_ (qg9 M W).piv k)=_:=Int.mul_tdiv_cancel' (hT.2.2 k hk)
  have e:nI (nL (qg9 M W).done_ k) (nI (qg9 M W).piv k).toNat=w4r (qg9 M W).done_ (qg9 M W).piv k:=rfl
  rw[e]
  grind
 ·rw[q8a hf hP hnp _ (Nat.le_refl _)]
  exact hT.1
theorem Ones.piv {n W:Nat} {M:List (List Int)} (h:Ones n W M) (c:Nat):isP (qc7 M W).2 c↔isP (qg9 M W).piv c:=⟨h.stP.piv_same h.stR,h.stR.piv_same h.stP⟩
theorem Ones.ker {n W:Nat} {M:List (List Int)} (h:Ones n W M):∀f,f<=W->qn9 (qc7 M W).1 (qc7 M W).2 W f=q7d (qg9 M W).done_ (qg9 M W).piv W f
 | 0,_=>rfl
 | f+1,hf=>by
  have ih:=h.ker f (by omega)
  rw[qn9,q7d,ih]
  by_cases q:isP (qc7 M W).2 f
  ·rw[if_pos (xa7.2 q),if_neg λq2=>q4u.1 q2 ((h.piv f).1 q)]
  ·have q2:¬isP (qg9 M W).piv f:=λq3=>q ((h.piv f).2 q3)
   rw[if_neg λq3=>q (xa7.1 q3),if_pos (q4u.2 q2),q5a]
   have a:=(h.kvP (by omega) q).prim (by omega)
   have b:=((h.kvR (by omega) q2).prim (by omega)).trans λc=>(h.piv c).symm
   rw[a.uniq h.stP (by omega) q b (qn7 _) (qn7 _)]
theorem Ones.kernel {n W:Nat} {M:List (List Int)} (h:Ones n W M):qn9 (qc7 M W).1 (qc7 M W).2 W W=qk3 M:=by
 rw[h.ker W (Nat.le_refl _)]
 unfold qk3 qs4
 rw[h.rdW]
theorem Ones.kerAr {n W:Nat} {M:List (List Int)} (h:Ones n W M):xj5 (qc7 M W).1 (qc7 M W).2 W:=by
 have hB:BIG=4000000000000000000:=rfl
 have hst:=h.stP
 have hpl:=hst.pl
 have hn:=h.n6
 have hsm:=λ{k} (hk:k<(qc7 M W).2.length)=>(hst.small h.small (Nat.le_refl _) (i:=k) (by omega)).1
 have hT:=λf=>q4v (f:=f) h.pP
 refine⟨λk hk=>?_,λk hk i hi=>?_,λf hf _ k hk=>?_,λf hf _ k hk=>?_⟩
 ·have:=(h.pP k hk).1; omega
 ·have:=hsm hk i hi
  constructor <;> omega
 ·obtain⟨a,b,_⟩:=hT f k hk
  have:=xt3 (k:=k) (by omega)
  exact⟨by constructor <;> omega,by omega⟩
 ·obtain⟨a,b,_⟩:=hT f _ (Nat.le_refl _)
  have:=xt3 (k:=(qc7 M W).2.length) (by omega)
  have h1:=hsm hk f hf
  have:=q2v (a:=0-nI (nL (qc7 M W).1 k) f) (A:=46656) (by omega) (Nat.le_trans b this)
  constructor <;> omega
def xb1 (M:List (List Int)) (W:Nat):List Nat:=(List.range W).filter λc=>q3t (qg9 M W).piv c (qg9 M W).piv.length
theorem q91 (d:List (List Int)) (P:List Int) (n:Nat):∀f,q7d d P n f=((List.range f).filter λc=>q3t P c P.length).map λc=>qr3 (xz8 d P n c P.length)
 | 0=>rfl
 | f+1=>by
  rw[q7d,q91 d P n f,List.range_succ,List.filter_append,List.map_append]
  by_cases q:q3t P f P.length=true
  ·rw[if_pos q]
   simp[List.filter,q]
  ·rw[if_neg q]
   have q:q3t P f P.length=false:=by simpa using q
   simp[List.filter,q]
theorem Ones.kernel_map {n W:Nat} {M:List (List Int)} (h:Ones n W M):qk3 M=(xb1 M W).map λc=>qr3 (xz8 (qg9 M W).done_ (qg9 M W).piv W c (qg9 M W).piv.length):=by
 unfold qk3 qs4
 rw[h.rdW,q91]
 rfl
theorem q8b {M:List (List Int)} {W c:Nat}:c∈xb1 M W↔c<W/\¬isP (qg9 M W).piv c:=by
 unfold xb1
 rw[List.mem_filter,List.mem_range,q4u]
theorem Ones.one_free {n W:Nat} {M:List (List Int)} (h:Ones n W M) (h1:(qk3 M).length=1):∃f,f<W/\¬isP (qg9 M W).piv f/\(∀c,c<W->c≠f->isP (qg9 M W).piv c)/\KV n W (rowOf M) (qg9 M W).piv f (nL (qk3 M) 0)/\Prim (nL (qk3 M) 0):=by
 rw[h.kernel_map] at h1 ⊢
 rw[List.length_map] at h1
 obtain⟨f,hf⟩:=List.length_eq_one_iff.1 h1
 have hm:f∈xb1 M W:=by rw[hf]; simp
 obtain⟨hfW,hnp⟩:=q8b.1 hm
 refine⟨f,hfW,hnp,λc hc hne=>Classical.byContradiction λq=>?_,?_,?_⟩
 ·have:c∈xb1 M W:=q8b.2 ⟨hc,q⟩
  rw[hf] at this
  exact hne (by simpa using this)
 ·rw[hf]
  exact(h.kvR hfW hnp).prim hfW
 ·rw[hf]
  exact qn7 _
theorem Ones.ker_small {n W:Nat} {M:List (List Int)} (h:Ones n W M) {v:List Int} (hv:v∈qk3 M):v.length=W/\∀x∈v,x.natAbs<=160:=by
 rw[h.kernel_map] at hv
 obtain⟨f,hf,rfl⟩:=List.mem_map.1 hv
 obtain⟨hfW,hnp⟩:=q8b.1 hf
 have hk:=(h.kvR hfW hnp).prim hfW
 exact⟨hk.len,hk.small h.stR h.n6 h.one hfW hnp (qn7 _)⟩
theorem ql4 {m:List (List Int)} {s:List Int} (hM:Mk m) (hs:Named (nL m 0).length s) (h1:0<s.length):Ones m.length s.length (qq5 m s):=by
 have hl:=hs.len
 have h10:=hM.pix10
 refine⟨⟨wn3 m s,λi hi=>by rw[qz0 m s i hi,qt7]⟩,hM.rows1,hM.rows6,h1,by omega,λa c ha hc=>?_⟩
 rw[qz0 m s a ha,q1j _ _ _ hc]
 have:=hs.at_ c hc
 have:=hM.small a ha (nI s c).toNat (by omega)
 omega
theorem qt0 (m:List (List Int)) (s:List Int):q2p m s=qq5 m s:=by
 unfold q2p qb3 qq5
 simp
theorem xb3 {m:List (List Int)} {s:List Int} (hM:Mk m) (hs:Named (nL m 0).length s) (h1:0<s.length):qk7 m s=qz1 m s:=by
 unfold qk7 qj2 qz1
 rw[qt0]
 exact(ql4 hM hs h1).kernel
theorem q54 {n k:Nat} {s:List Int} (h:s∈qe9 (n:Nat) (k:Nat)):Named n s/\s.length=k:=by
 have hl:=(q76 h).1
 unfold qe9 at h
 split at h
 ·have hc:=w1p h
  have he:=hc.len
  simp only[Int.toNat_natCast] at hc he
  have step:∀d i,i+d+1<k->nI s i<nI s (i+d+1):=λd=>by
   induction d with
   | zero=>intro i hi; have:=hc.asc (i+1) (by omega) (by omega); simpa using this
   | succ d ih=>
    intro i hi
    have h1:=ih i (by omega)
    have h2:=hc.asc (i+(d+1)+1) (by omega) (by omega)
    rw[show i+(d+1)+1-1=i+d+1 by omega] at h2
    omega
  refine⟨⟨λj hj=>?_,λi j hij hj=>?_⟩,hl⟩
  ·have h1:=hc.lo j (by omega)
   have h2:=hc.hi j (by omega)
   omega
  ·have:=step (j-i-1) i (by omega)
   rwa [show i+(j-i-1)+1=j by omega] at this
 ·cases h
theorem yb2 {m:List (List Int)} (hv:qb9 m=true):wn6 m:=by
 have hM:=Mk.of hv
 have h1:=hM.pix1
 have h10:=hM.pix10
 refine⟨⟨?_⟩,λk hk set hset=>?_⟩
 ·have:=(ql4 hM (Named.idx _) (by rw[qf1]; exact h1)).redOk
  rw[qf1] at this
  rw[qt0]
  exact this
 ·obtain⟨hn,hl⟩:=q54 hset
  have hO:=ql4 hM hn (by omega)
  refine⟨ChoOk.of hM hn λ_ _=>⟨trivial,Nat.zero_le _⟩,by rw[qt0]; exact hO.redOk,?_⟩
  unfold qj2
  rw[qt0]
  exact hO.kerAr
theorem q8c {n:Nat} {s v:List Int} (hs:Named n s):∀k,k<=s.length->∀j,j<k->nI (qg1 n s v k) (nI s j).toNat=nI v j
 | 0,_,j,hj=>absurd hj (Nat.not_lt_zero _)
 | k+1,hk,j,hj=>by
  have h1:=hs.at_ k (by omega)
  have h2:=hs.at_ j (by omega)
  rw[qg1,q79 _ (by rw[qk8]; omega)]
  rcases Nat.lt_succ_iff_lt_or_eq.1 hj with e | e
  ·have:=hs.asc j k e (by omega)
   rw[if_neg (by omega)]
   exact q8c hs k (by omega) j e
  ·rw[if_pos (by rw[e]),e]
theorem wg9 {n:Nat} {s v:List Int} (hs:Named n s) {c:Nat} (hc:∀j,j<s.length->nI s j≠(c:Int)):∀k,k<=s.length->nI (qg1 n s v k) c=0
 | 0,_=>xt1 n c
 | k+1,hk=>by
  have h1:=hs.at_ k (by omega)
  have h2:=hc k (by omega)
  rw[qg1,q79 _ (by rw[qk8]; omega),if_neg (by omega)]
  exact wg9 hs hc k (by omega)
theorem q8d {v:List Int}:∀k,k<=v.length->(we0 v k=true↔∀c,c<k->nI v c≠0)
 | 0,_=>⟨λ_ c hc=>absurd hc (Nat.not_lt_zero _),λ_=>rfl⟩
 | k+1,hk=>by
  rw[we0,Bool.and_eq_true,q8d k (by omega),bne_iff_ne]
  constructor
  ·rintro⟨h1,h2⟩ c hc
   rcases Nat.lt_succ_iff_lt_or_eq.1 hc with e | e
   ·exact h1 c e
   ·rw[e]; exact h2
  ·exact λh=>⟨λc hc=>h c (by omega),h k (by omega)⟩
theorem xo3 {v:List Int}:(v.any λe=>(0:Int)==e)=false↔∀c,c<v.length->nI v c≠0:=by
 rw[List.any_eq_false]
 constructor
 ·intro h c hc e
  have:=h _ (q71 hc)
  rw[e] at this
  exact this rfl
 ·intro h x hx q
  obtain⟨c,hc,rfl⟩:=q72 hx
  exact h c hc (beq_iff_eq.1 q).symm
structure IsC (m:List (List Int)) (s:List Int):Prop where
 one:(qz1 m s).length=1
 nz:∀c,c<s.length->nI (nL (qz1 m s) 0) c≠0
theorem q1s {m:List (List Int)} {s:List Int} (hM:Mk m) (hs:Named (nL m 0).length s) (hok:wo9 m s=true):wp0 m s=true↔IsC m s:=by
 have h1:0<s.length:=by
  unfold wo9 at hok
  rw[Bool.and_eq_true,decide_eq_true_eq] at hok
  omega
 have hO:=ql4 hM hs h1
 unfold wp0
 rw[hok,Bool.true_and,Bool.and_eq_true,decide_eq_true_eq]
 constructor
 ·rintro⟨a,b⟩
  have hl:=(hO.ker_small (qu9 (qk3 (qq5 m s)) 0 (by show 0<(qz1 m s).length; omega))).1
  exact⟨a,(q8d _ (by show s.length<=(nL (qk3 (qq5 m s)) 0).length; omega)).1 b⟩
 ·intro h
  have hl:=(hO.ker_small (qu9 (qk3 (qq5 m s)) 0 (by have:=h.one; show 0<(qz1 m s).length; omega))).1
  exact⟨h.one,(q8d _ (by show s.length<=(nL (qk3 (qq5 m s)) 0).length; omega)).2 h.nz⟩
theorem ws5 {m:List (List Int)} {s:List Int} (hM:Mk m) (hs:Named (nL m 0).length s) (h1:0<s.length):q8m (qk7 m s)=true↔IsC m s:=by
 have hO:=ql4 hM hs h1
 rw[xb3 hM hs h1]
 unfold q8m
 rw[Bool.and_eq_true,decide_eq_true_eq,Bool.not_eq_true',xo3]
 constructor
 ·rintro⟨a,b⟩
  have hl:=(hO.ker_small (qu9 (qk3 (qq5 m s)) 0 (by show 0<(qz1 m s).length; omega))).1
  exact⟨a,λc hc=>b c (by show c<(nL (qk3 (qq5 m s)) 0).length; omega)⟩
 ·intro h
  have hl:=(hO.ker_small (qu9 (qk3 (qq5 m s)) 0 (by have:=h.one; show 0<(qz1 m s).length; omega))).1
  exact⟨h.one,λc hc=>h.nz c (by have:c<(nL (qk3 (qq5 m s)) 0).length:=hc; omega)⟩
theorem x1g {l:List Int} (h:∀d:Nat,(∀c,c<l.length->d∣(nI l c).natAbs)->d=1):qe3 l=l:=by
 have h1:(gcdL l).natAbs=1:=h _ λc hc=>(x5e l 0).2.1 _ (q71 hc)
 unfold qe3
 rw[if_neg (by omega)]
theorem xb4 (l:List Int):xi6 l=q7c l (-1):=by
 refine List.ext_getElem (by rw[q5v,qs8]) λi h1 h2=>?_
 rw[<- qh0 _ i h1,<- qh0 _ i h2,q9x,q53]
 omega
theorem x1h {m:List (List Int)} {s:List Int} (hM:Mk m) (hs:Named (nL m 0).length s) (h1:0<s.length) (hc:IsC m s):x5x m (nL m 0).length s=w87 m (nL m 0).length s:=by
 have hO:=ql4 hM hs h1
 obtain⟨f,hf,hnp,ho,hv,hp⟩:=hO.one_free hc.one
 have hnz:=hc.nz
 unfold x5x w87 q7l
 rw[xb3 hM hs h1]
 change KV _ _ _ _ _ (nL (qz1 m s) 0) at hv
 change Prim (nL (qz1 m s) 0) at hp
 generalize nL (qz1 m s) 0=v at *
 have hat:=λj (hj:j<s.length)=>q8c (v:=v) hs _ (Nat.le_refl _) j hj
 have ho2:∀c:Nat,(∀j,j<s.length->nI s j≠(c:Int))->nI (qg1 (nL m 0).length s v s.length) c=0:=λc hc=>wg9 hs hc _ (Nat.le_refl _)
 have hlen:=qk8 (nL m 0).length s v s.length
 generalize qg1 (nL m 0).length s v s.length=u at *
 have hsh:qe3 u=u:=x1g λd hd=>hp.gcd hv.len hf hv.pos d λc hc=>by
  have h2:=hs.at_ c hc
  rw[<- hat c hc]
  exact hd _ (by omega)
 have h0:=hs.at_ 0 h1
 have hfst:qv5 u=nI s 0:=by
  have:=q9h (.int .i64) (λe=>e != 0) u (nI s 0).toNat (by omega) (λi hi=>by
   have:nI u i=0:=ho2 i λj hj e=>by
    rcases Nat.eq_zero_or_pos j with q | q
    ·rw[q] at e; omega
    ·have:=hs.asc 0 j q hj
     omega
   show(nI u i != 0)=false
   rw[this]; rfl) (by
   show(nI u (nI s 0).toNat != 0)=true
   rw[hat 0 h1]
   exact bne_iff_ne.2 (hnz 0 h1))
  unfold qv5
  rw[this]
  omega
 unfold q7a
 rw[hsh,hfst]
 by_cases q:nI u (nI s 0).toNat<0
 ·rw[if_pos ⟨h0.1,q⟩,if_pos q,xb4]
 ·rw[if_neg λk=>q k.2,if_neg q]
theorem w2s {N K:Nat} {A:Nat->Int} {σ:Nat->Nat} {w:Nat->Int} (hσ:∀q,q<K->σ q<N):(sm N λcol=>A col*sm K λq=>if σ q=col then w q else 0)=sm K λq=>A (σ q)*w q:=by
 have e:(sm N λcol=>A col*sm K λq=>if σ q=col then w q else 0)=sm N λcol=>sm K λq=>A col*if σ q=col then w q else 0:=qg7 λc hc=>by
  try dsimp only
  rw[qu0]
 rw[e,w9v]
 refine qg7 λq hq=>?_
 try dsimp only
 rw[qu1 (k:=σ q) (hσ q hq) λi hi hne=>by
  try dsimp only
  rw[if_neg (Ne.symm hne),Int.mul_zero]]
 try dsimp only
 rw[if_pos rfl]
theorem xo4 {m:List (List Int)} {s:List Int} (hM:Mk m) (hs:Named (nL m 0).length s) (h1:0<s.length):(qg9 (qq5 m s) s.length).piv.length<=(qj2 m (qp1 (nL m 0).length)).2.length:=Nat.le_of_not_lt λhgt=>by
 have hO:=ql4 hM hs h1
 have hF:=(ql4 hM (Named.idx (nL m 0).length) (by rw[qf1]; exact hM.pix1))
 have hstF:=hF.stP
 unfold qj2 at hgt
 rw[qt0] at hgt
 have hst:=hO.stR
 rw[qf1] at hstF hgt
 generalize qc7 (qq5 m (qp1 (nL m 0).length)) (nL m 0).length=F at hstF hgt
 obtain⟨rF,PF⟩:=F
 dsimp only at hstF hgt
 generalize(qg9 (qq5 m s) s.length).piv=P at hst hgt
 generalize(qg9 (qq5 m s) s.length).done_++(qg9 (qq5 m s) s.length).left=rows at hst
 have hpl:=hst.pl
 have hplF:=hstF.pl
 have hPs:∀q,q<P.length->(nI P q).toNat<s.length:=λq hq=>by have:=hst.pos q hq; omega
 have hσ:∀q,q<P.length->(nI s (nI P q).toNat).toNat<(nL m 0).length:=λq hq=>by have:=hs.at_ _ (hPs q hq); omega
 obtain⟨w,w1,q0,hq0,w2⟩:=wz5 (n:=PF.length) (W:=P.length) (λk q=>nI (nL rF k) (nI s (nI P q).toNat).toNat) hgt
 have hF2:Sol m.length (nL m 0).length (rowOf (qq5 m (qp1 (nL m 0).length))) λcol=>sm P.length λq=>if(nI s (nI P q).toNat).toNat=col then w q else 0:=(hstF.sol _).2 λi hi=>by
  rcases Nat.lt_or_ge i PF.length with q | q
  ·unfold dt
   rw[w2s hσ]
   exact w1 i q
  ·refine qt9 λc hc=>?_
   try dsimp only
   rw[hstF.zero i q hi c hc,Int.zero_mul]
 have hsub:Sol m.length s.length (rowOf (qq5 m s)) λc=>sm P.length λq=>if(nI P q).toNat=c then w q else 0:=λa ha=>by
  rw[w2s hPs]
  have e1:=hF2 a ha
  rw[w2s hσ] at e1
  rw[<- e1]
  refine qg7 λq hq=>?_
  have h2:=hs.at_ _ (hPs q hq)
  unfold rowOf
  rw[qz0 m s a ha,qz0 m _ a ha,q1j _ _ _ (hPs q hq),q1j _ _ _ (by rw[qf1]; exact hσ q hq),q0y _ _ (hσ q hq),Int.toNat_natCast]
 have e:=(hst.sol _).1 hsub q0 (by omega)
 unfold dt at e
 rw[w2s hPs,qu1 (k:=q0) hq0 λi hi hne=>by
  try dsimp only
  rw[(hst.pos i hi).2.2.2.2 q0 (by omega) (Ne.symm hne),Int.zero_mul]] at e
 exact w2 (qd2 e (by have:=(hst.pos q0 hq0).2.2.1; omega))
theorem xo5 {m:List (List Int)} {s:List Int} (hM:Mk m) (hs:Named (nL m 0).length s) (h1:0<s.length) (hc:IsC m s):s.length<=(qj2 m (qp1 (nL m 0).length)).2.length+1:=by
 have hO:=ql4 hM hs h1
 have hr:=xo4 hM hs h1
 obtain⟨f,hf,hnp,ho,_,_⟩:=hO.one_free hc.one
 generalize(qg9 (qq5 m s) s.length).piv=P at *
 refine Nat.le_of_not_lt λhgt=>?_
 have hx:∀a,∃q,a<s.length-1->q<P.length/\nI P q=(skp f a:Int):=λa=>by
  by_cases ha:a<s.length-1
  ·obtain⟨q,hq,e⟩:=ho (skp f a) (by have:=q7t (n:=s.length-1) (i:=f) ha; omega) (xs7 f a)
   exact⟨q,λ_=>⟨hq,e⟩⟩
  ·exact⟨0,λq=>absurd q ha⟩
 obtain⟨g,hg⟩:=Classical.axiomOfChoice hx
 obtain⟨i,j,k1,k2,k3⟩:=q7s P.length (s.length-1) g (λi hi=>(hg i hi).1) (by omega)
 have e1:=(hg i (by omega)).2
 have e2:=(hg j k2).2
 rw[k3] at e1
 have:skp f i=skp f j:=by omega
 unfold skp at this
 split at this <;> split at this <;> omega
def x1x (m:List (List Int)) (s:List Int):Option (List Int):=if q8m (qk7 m s) then some (x5x m (nL m 0).length s) else none
def xb5 (m:List (List Int)) (s:List Int):Option (List Int):=if wp0 m s then some (w87 m (nL m 0).length s) else none
theorem ws6 (m:List (List Int)) (L:List (List Int)):∀c,c<=L.length->qq7 m (nL m 0).length L c=(L.take c).filterMap (x1x m)
 | 0,_=>rfl
 | c+1,hc=>by
  rw[qq7,takeL_snoc L c (by omega),List.filterMap_append,ws6 m L c (by omega)]
  unfold x1x
  by_cases q:q8m (qk7 m (nL L c))=true
  ·rw[if_pos q]
   simp[List.filterMap,q]
  ·rw[if_neg q]
   have q:q8m (qk7 m (nL L c))=false:=by simpa using q
   simp[List.filterMap,q]
def xo6 (m:List (List Int)) (k:Nat):List (List Int):=(qe9 (nL m 0).length (k:Nat)).filterMap (xb5 m)
theorem w2t (m:List (List Int)):∀K,q2q m (nL m 0).length K=(List.range K).flatMap λ(k:Nat)=>(qe9 (nL m 0).length (k+1:Nat)).filterMap (x1x m)
 | 0=>rfl
 | K+1=>by
  rw[q2q,w2t m K,List.range_succ,List.flatMap_append,ws6 m _ _ (Nat.le_refl _),List.take_length]
  simp
theorem x1i {m:List (List Int)} {s:List Int} (hM:Mk m) (hs:Named (nL m 0).length s) (h1:0<s.length) (hr:s.length<=m.length+1):x1x m s=xb5 m s:=by
 have hok:wo9 m s=true:=by
  unfold wo9
  rw[Bool.and_eq_true,decide_eq_true_eq,decide_eq_true_eq]
  omega
 unfold x1x xb5
 by_cases q:IsC m s
 ·rw[if_pos ((ws5 hM hs h1).2 q),if_pos ((q1s hM hs hok).2 q),x1h hM hs h1 q]
 ·rw[if_neg λk=>q ((ws5 hM hs h1).1 k),if_neg λk=>q ((q1s hM hs hok).1 k)]
theorem x1j {m:List (List Int)} (hM:Mk m):(qj2 m (qp1 (nL m 0).length)).2.length<=m.length:=by
 have hF:=(ql4 hM (Named.idx (nL m 0).length) (by rw[qf1]; exact hM.pix1))
 have:=hF.stP.pl
 unfold qj2
 rw[qt0]
 exact this
theorem xb6 {m:List (List Int)} (hM:Mk m) {k:Nat} (hk:q31 m<=k) (hn:k<(nL m 0).length):xo6 m (k+1)=[]:=by
 unfold xo6
 rw[List.filterMap_eq_nil_iff]
 intro s hs
 obtain⟨hN,hl⟩:=q54 hs
 unfold xb5
 rw[if_neg]
 intro q
 have hok:wo9 m s=true:=by
  unfold wp0 at q
  rw[Bool.and_eq_true,Bool.and_eq_true] at q
  exact q.1.1
 have:=xo5 hM hN (by omega) ((q1s hM hN hok).1 q)
 unfold q31 at hk
 omega
theorem ws7 {f:Nat->List (List Int)} {K:Nat}:∀d,(∀k,K<=k->k<K+d->f k=[])->(List.range (K+d)).flatMap f=(List.range K).flatMap f
 | 0,_=>rfl
 | d+1,h=>by
  rw[<- Nat.add_assoc,List.range_succ,List.flatMap_append,ws7 d λk h1 h2=>h k h1 (by omega)]
  simp[h (K+d) (by omega) (by omega)]
theorem w2u {f g:List Int->Option (List Int)}:∀l:List (List Int),(∀x∈l,f x=g x)->l.filterMap f=l.filterMap g
 | [],_=>rfl
 | x :: l,h=>by rw[List.filterMap_cons,List.filterMap_cons,h x (by simp),w2u l λy hy=>h y (by simp[hy])]
theorem xo7 {m:List (List Int)} (hv:qb9 m=true) (h7:(nL m 0).length<=7):q2q m (nL m 0).length (q31 m)=(List.range (nL m 0).length).flatMap λk=>xo6 m (k+1):=by
 have hM:=Mk.of hv
 have hcn:q31 m<=(nL m 0).length:=by unfold q31; omega
 have e:=ws7 (f:=λk=>xo6 m (k+1)) (K:=q31 m) ((nL m 0).length-q31 m) λk h1 h2=>xb6 hM h1 (by omega)
 rw[show q31 m+((nL m 0).length-q31 m)=(nL m 0).length by omega] at e
 rw[e,w2t]
 have hr:=x1j hM
 have key:∀K,K<=q31 m->((List.range K).flatMap λ(k:Nat)=>(qe9 (nL m 0).length (k+1:Nat)).filterMap (x1x m))=(List.range K).flatMap λk=>xo6 m (k+1):=λK=>by
  induction K with
  | zero=>exact λ_=>rfl
  | succ K ih=>
   intro hK
   rw[List.range_succ,List.flatMap_append,List.flatMap_append,ih (by omega)]
   congr 1
   simp only[List.flatMap_cons,List.flatMap_nil,List.append_nil]
   unfold xo6
   refine w2u _ λs hs=>?_
   obtain⟨hN,hl⟩:=q54 hs
   exact x1i hM hN (by omega) (by unfold q31 at hK; omega)
 exact key _ (Nat.le_refl _)
end Go.Proofs.YtmijnbjlhnpokaaGreat
