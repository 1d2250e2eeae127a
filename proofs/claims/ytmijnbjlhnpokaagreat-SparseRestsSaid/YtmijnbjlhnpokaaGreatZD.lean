/- The rest of a reading after some columns: what program and reference reckon. No condition. -/
import Derived.Test.YtmijnbjlhnpokaaGreatW14
import Derived.Test.YtmijnbjlhnpokaaGreatV24
set_option linter.unusedVariables false
namespace Go.Proofs.YtmijnbjlhnpokaaGreat
open Go Go.RowKit Eng
theorem w7g {P:List Int} {f:Nat}:(P.any λe=>(f:Int)==e)=true↔isP P f:=by
 rw[List.any_eq_true]
 constructor
 ·rintro⟨x,hx,e⟩
  obtain⟨q,hq,rfl⟩:=q43 hx
  exact⟨q,hq,(beq_iff_eq.1 e).symm⟩
 ·rintro⟨q,hq,e⟩
  exact⟨nI P q,q7f hq,beq_iff_eq.2 e.symm⟩
theorem wm3 (P:List Int) (f:Nat):∀k,wl1 P f k=true↔∀q,q<k->nI P q≠(f:Int)
 | 0=>⟨λ_ q hq=>absurd hq (Nat.not_lt_zero _),λ_=>rfl⟩
 | k+1=>by
  rw[wl1,Bool.and_eq_true,wm3 P f k,bne_iff_ne]
  constructor
  ·rintro⟨h1,h2⟩ q hq
   rcases Nat.lt_succ_iff_lt_or_eq.1 hq with e | e
   ·exact h1 q e
   ·rw[e]; exact h2
  ·exact λh=>⟨λq hq=>h q (by omega),h k (by omega)⟩
theorem q9a {P:List Int} {f:Nat}:wl1 P f P.length=true↔¬isP P f:=by rw[wm3,q7k]
def q0a (n f:Nat) (t:Int) (P:List Int) (val:Nat->Int):Nat->List Int
 | 0=>(List.replicate n 0).set f t
 | k+1=>(q0a n f t P val k).set (nI P k).toNat (val k)
theorem qx1 (n f:Nat) (t:Int) (P:List Int) (val:Nat->Int):∀k,(q0a n f t P val k).length=n
 | 0=>by simp[q0a]
 | k+1=>by rw[q0a,List.length_set]; exact qx1 n f t P val k
theorem xx9 (n c:Nat):nI (List.replicate n (0:Int)) c=0:=by
 rcases Nat.lt_or_ge c n with h | h
 ·rw[qh2 _ _ (by simpa using h)]; simp
 ·exact q4l _ (by simpa using h)
theorem q7l {n f:Nat} {t:Int} {P:List Int} {val:Nat->Int} (hf:f<n) (hP:∀k,k<P.length->0<=nI P k/\nI P k<n) (hnp:¬isP P f):∀k,k<=P.length->nI (q0a n f t P val k) f=t
 | 0,_=>by rw[q0a,wm2 _ (by simpa using hf),if_pos rfl]
 | k+1,hk=>by
  have:=hP k (by omega)
  rw[q0a,wm2 _ (by rw[qx1]; omega),if_neg λe=>hnp ⟨k,by omega,by omega⟩]
  exact q7l hf hP hnp k (by omega)
theorem wt1 {n f:Nat} {t:Int} {P:List Int} {val:Nat->Int} (hf:f<n) (hP:∀k,k<P.length->0<=nI P k/\nI P k<n) {c:Nat} (hc:c≠f) (hnp:¬isP P c):∀k,k<=P.length->nI (q0a n f t P val k) c=0
 | 0,_=>by rw[q0a,wm2 _ (by simpa using hf),if_neg hc,xx9]
 | k+1,hk=>by
  have:=hP k (by omega)
  rw[q0a,wm2 _ (by rw[qx1]; omega),if_neg λe=>hnp ⟨k,by omega,by omega⟩]
  exact wt1 hf hP hc hnp k (by omega)
theorem wt2 {n f:Nat} {t:Int} {P:List Int} {val:Nat->Int} (hP:∀k,k<P.length->0<=nI P k/\nI P k<n) (hinj:∀q k,q<P.length->k<P.length->nI P q=nI P k->q=k):∀k,k<=P.length->∀q,q<k->nI (q0a n f t P val k) (nI P q).toNat=val q
 | 0,_,q,hq=>absurd hq (Nat.not_lt_zero _)
 | k+1,hk,q,hq=>by
  have h1:=hP k (by omega)
  have h2:=hP q (by omega)
  rw[q0a,wm2 _ (by rw[qx1]; omega)]
  rcases Nat.lt_succ_iff_lt_or_eq.1 hq with e | e
  ·rw[if_neg λe2=>by have:=hinj q k (by omega) (by omega) (by omega); omega]
   exact wt2 hP hinj k (by omega) q e
  ·rw[if_pos (by rw[e]),e]
theorem w7h (r:List (List Int)) (P:List Int) (n f:Nat):∀k,hTo r P n f k=q0a n f (qf5 r P f P.length) P (λk=>((0-nI (nL r k) f)*qf5 r P f P.length).tdiv (nI (nL r k) (nI P k).toNat)) k
 | 0=>rfl
 | k+1=>by rw[hTo,q0a,w7h r P n f k]
theorem w0u (r:List (List Int)) (P:List Int) (n f:Nat):∀k,xw1 r P n f k=q0a n f (q4j r P P.length) P (λk=>(0-nI (nL r k) f)*(q4j r P P.length).tdiv (w2s r P k)) k
 | 0=>rfl
 | k+1=>by rw[xw1,q0a,w0u r P n f k]
theorem w7i (a b:Int):∃x,a=qd7 a b*x:=by
 have h:qd7 a b∣a:=Int.natAbs_dvd_natAbs.1 (Nat.gcd_dvd_left _ _)
 exact h
theorem w7j (a b:Int):∃x,b=qd7 a b*x:=by
 have h:qd7 a b∣b:=Int.natAbs_dvd_natAbs.1 (Nat.gcd_dvd_right _ _)
 exact h
theorem w7k {a d:Int} (ha:0<a) (hd:0<d):0<a*d.tdiv (qd7 a d)/\a∣a*d.tdiv (qd7 a d)/\d∣a*d.tdiv (qd7 a d)/\(a*d.tdiv (qd7 a d)).natAbs<=a.natAbs*d.natAbs/\a.tdiv (qd7 a d)*d=a*d.tdiv (qd7 a d):=by
 have hg:=ql3 (a:=a) (b:=d) (.inl (by omega))
 obtain⟨x,hx⟩:=w7i a d
 obtain⟨y,hy⟩:=w7j a d
 generalize qd7 a d=g at hg hx hy ⊢
 have e1:d.tdiv g=y:=by rw[hy]; exact Int.mul_tdiv_cancel_left _ (by omega)
 have e2:a.tdiv g=x:=by rw[hx]; exact Int.mul_tdiv_cancel_left _ (by omega)
 have hy0:0<y:=q41 hg (by omega)
 rw[e1,e2]
 refine⟨Int.mul_pos ha hy0,⟨y,rfl⟩,⟨x,by rw[hx,hy]; grind⟩,?_,by rw[hx,hy]; grind⟩
 rw[Int.natAbs_mul]
 refine Nat.mul_le_mul_left _ ?_
 rw[<- e1]
 exact q5u _ _
theorem w0v {p r:Int} (hp:0<p):0<p.tdiv (qd7 p r)/\(p.tdiv (qd7 p r)).natAbs<=p.natAbs/\∀t,p.tdiv (qd7 p r)∣t->p∣(0-r)*t:=by
 have hg:=ql3 (a:=p) (b:=r) (.inl (by omega))
 obtain⟨x,hx⟩:=w7i p r
 obtain⟨y,hy⟩:=w7j p r
 refine⟨?_,q5u _ _,λt ht=>?_⟩
 ·generalize qd7 p r=g at hg hx hy ⊢
  rw[hx,Int.mul_tdiv_cancel_left _ (by omega)]
  exact q41 hg (by omega)
 ·generalize qd7 p r=g at hg hx hy ht
  rw[hx,Int.mul_tdiv_cancel_left _ (by omega)] at ht
  obtain⟨u,hu⟩:=ht
  exact⟨- (y*u),by rw[hu,hx,hy]; grind⟩
theorem q9b {r:List (List Int)} {P:List Int} {f:Nat} (hp:∀k,k<P.length->0<nI (nL r k) (nI P k).toNat/\(nI (nL r k) (nI P k).toNat).natAbs<=160):∀k,k<=P.length->0<qf5 r P f k/\(qf5 r P f k).natAbs<=160 ^ k/\∀q,q<k->q47 r P f q∣qf5 r P f k
 | 0,_=>⟨by show(0:Int)<1; decide,by show(1:Int).natAbs<=160 ^ 0; decide,λq hq=>absurd hq (Nat.not_lt_zero _)⟩
 | k+1,hk=>by
  obtain⟨a1,a2,a3⟩:=q9b hp k (by omega)
  obtain⟨b1,b2⟩:=hp k (by omega)
  obtain⟨c1,c2,_⟩:=w0v (r:=nI (nL r k) f) b1
  change 0<q47 r P f k at c1
  change(q47 r P f k).natAbs<=_ at c2
  obtain⟨d1,d2,d3,d4,_⟩:=w7k a1 c1
  rw[qf5]
  refine⟨d1,?_,λq hq=>?_⟩
  ·rw[Nat.pow_succ]
   exact Nat.le_trans d4 (Nat.mul_le_mul a2 (by omega))
  ·rcases Nat.lt_succ_iff_lt_or_eq.1 hq with e | e
   ·exact Int.dvd_trans (a3 q e) d2
   ·rw[e]; exact d3
theorem w0w {r:List (List Int)} {P:List Int} (hp:∀k,k<P.length->0<w2s r P k/\(w2s r P k).natAbs<=160):∀k,k<=P.length->0<q4j r P k/\(q4j r P k).natAbs<=160 ^ k/\∀q,q<k->w2s r P q∣q4j r P k
 | 0,_=>⟨by show(0:Int)<1; decide,by show(1:Int).natAbs<=160 ^ 0; decide,λq hq=>absurd hq (Nat.not_lt_zero _)⟩
 | k+1,hk=>by
  obtain⟨a1,a2,a3⟩:=w0w hp k (by omega)
  obtain⟨b1,b2⟩:=hp k (by omega)
  obtain⟨d1,d2,d3,d4,d5⟩:=w7k a1 b1
  rw[q4j,d5]
  refine⟨d1,?_,λq hq=>?_⟩
  ·rw[Nat.pow_succ]
   exact Nat.le_trans d4 (Nat.mul_le_mul a2 b2)
  ·rcases Nat.lt_succ_iff_lt_or_eq.1 hq with e | e
   ·exact Int.dvd_trans (a3 q e) d2
   ·rw[e]; exact d3
structure Ones (n W:Nat) (M:List (List Int)):Prop extends Mat n W M where
 n1:0<n
 n6:n<=6
 w1:0<W
 w:W<=1000
 one:∀a c,a<n->c<W->(nI (nL M a) c).natAbs<=1
theorem Ones.small {n W:Nat} {M:List (List Int)} (h:Ones n W M):Small n W W M:=⟨h.toMat,h.n6,Nat.le_refl _,h.w,h.one,λa c ha hc=>by have:=h.one a c ha hc; omega⟩
theorem Ones.small2 {n W:Nat} {M:List (List Int)} (h:Ones n W M):Small n (W-1) (W-1+1) M:=by
 have h1:=h.w1
 have e:W-1+1=W:=by omega
 rw[e]
 exact⟨h.toMat,h.n6,by omega,h.w,λa c ha hc=>h.one a c ha (by omega),λa c ha hc=>by have:=h.one a c ha hc; omega⟩
theorem Ones.rdW {n W:Nat} {M:List (List Int)} (h:Ones n W M):rdW M=W:=h.each 0 h.n1
theorem Ones.stP {n W:Nat} {M:List (List Int)} (h:Ones n W M):St n W (rowOf M) W (qa6 M W).1 (qa6 M W).2:=qp1 h.toMat W (Nat.le_refl _)
theorem Ones.stR {n W:Nat} {M:List (List Int)} (h:Ones n W M):St n W (rowOf M) W ((qh1 M W).done_++(qh1 M W).left) (qh1 M W).piv:=(qt0 h.toMat W (Nat.le_refl _)).st
theorem Ones.at_ {n W:Nat} {M:List (List Int)} (h:Ones n W M) {k:Nat} (hk:k<(qh1 M W).piv.length):nL ((qh1 M W).done_++(qh1 M W).left) k=nL (qh1 M W).done_ k:=ql8 _ _ (by rw[(qt0 h.toMat W (Nat.le_refl _)).cnt]; exact hk)
theorem Ones.rdOk {n W:Nat} {M:List (List Int)} (h:Ones n W M):w6p M:=(w0r h.small2 h.n1).1
theorem Ones.pP {n W:Nat} {M:List (List Int)} (h:Ones n W M):∀k,k<(qa6 M W).2.length->0<nI (nL (qa6 M W).1 k) (nI (qa6 M W).2 k).toNat/\(nI (nL (qa6 M W).1 k) (nI (qa6 M W).2 k).toNat).natAbs<=160:=λk hk=>
 ⟨(h.stP.pos k hk).2.2.1,h.stP.piv_160 h.n6 h.one hk⟩
theorem Ones.pR {n W:Nat} {M:List (List Int)} (h:Ones n W M):∀k,k<(qh1 M W).piv.length->0<w2s (qh1 M W).done_ (qh1 M W).piv k/\(w2s (qh1 M W).done_ (qh1 M W).piv k).natAbs<=160:=λk hk=>by
 have h1:=(h.stR.pos k hk).2.2.1
 have h2:=h.stR.piv_160 h.n6 h.one hk
 rw[h.at_ hk] at h1 h2
 exact⟨h1,h2⟩
theorem Ones.kvP {n W:Nat} {M:List (List Int)} (h:Ones n W M) {f:Nat} (hf:f<W) (hnp:¬isP (qa6 M W).2 f):KV n W (rowOf M) (qa6 M W).2 f (hTo (qa6 M W).1 (qa6 M W).2 W f (qa6 M W).2.length):=by
 have hst:=h.stP
 have hP:∀k,k<(qa6 M W).2.length->0<=nI (qa6 M W).2 k/\nI (qa6 M W).2 k<W:=λk hk=>by have:=hst.pos k hk; omega
 have hT:=q9b (f:=f) h.pP _ (Nat.le_refl _)
 rw[w7h]
 have h0:∀c,c<W->c≠f->¬isP (qa6 M W).2 c->nI (q0a W f (qf5 (qa6 M W).1 (qa6 M W).2 f (qa6 M W).2.length) (qa6 M W).2 (λk=>((0-nI (nL (qa6 M W).1 k) f)*qf5 (qa6 M W).1 (qa6 M W).2 f (qa6 M W).2.length).tdiv (nI (nL (qa6 M W).1 k) (nI (qa6 M W).2 k).toNat)) (qa6 M W).2.length) c=0:=λc hc h1 h2=>wt1 hf hP h1 h2 _ (Nat.le_refl _)
 refine⟨qx1 _ _ _ _ _ _,hst.sol_mk hf hnp h0 λk hk=>?_,h0,?_⟩
 ·rw[wt2 hP (λq k hq hk=>hst.inj hq hk) _ (Nat.le_refl _) k hk,q7l hf hP hnp _ (Nat.le_refl _)]
  have hp:=(h.pP k hk).1
  have hd:=(w0v (r:=nI (nL (qa6 M W).1 k) f) hp).2.2 _ (hT.2.2 k hk)
  rw[Int.mul_tdiv_cancel' hd]
  grind
 ·rw[q7l hf hP hnp _ (Nat.le_refl _)]
  exact hT.1
theorem Ones.kvR {n W:Nat} {M:List (List Int)} (h:Ones n W M) {f:Nat} (hf:f<W) (hnp:¬isP (qh1 M W).piv f):KV n W (rowOf M) (qh1 M W).piv f (xw1 (qh1 M W).done_ (qh1 M W).piv W f (qh1 M W).piv.length):=by
 have hst:=h.stR
 have hP:∀k,k<(qh1 M W).piv.length->0<=nI (qh1 M W).piv k/\nI (qh1 M W).piv k<W:=λk hk=>by have:=hst.pos k hk; omega
 have hT:=w0w h.pR _ (Nat.le_refl _)
 rw[w0u]
 have h0:∀c,c<W->c≠f->¬isP (qh1 M W).piv c->nI (q0a W f (q4j (qh1 M W).done_ (qh1 M W).piv (qh1 M W).piv.length) (qh1 M W).piv (λk=>(0-nI (nL (qh1 M W).done_ k) f)*(q4j (qh1 M W).done_ (qh1 M W).piv (qh1 M W).piv.length).tdiv (w2s (qh1 M W).done_ (qh1 M W).piv k)) (qh1 M W).piv.length) c=0:=λc hc h1 h2=>wt1 hf hP h1 h2 _ (Nat.le_refl _)
 refine⟨qx1 _ _ _ _ _ _,hst.sol_mk hf hnp h0 λk hk=>?_,h0,?_⟩
 ·rw[wt2 hP (λq k hq hk=>hst.inj hq hk) _ (Nat.le_refl _) k hk,q7l hf hP hnp _ (Nat.le_refl _),h.at_ hk]
  have hd:w2s (qh1 M W).done_ (qh1 M W).piv k*(q4j (qh1 M W).done_ (qh1 M W).piv (qh1 M W).piv.length).tdiv (w2s (qh1 M W).done_ (qh1 M W).piv k)=_:=Int.mul_tdiv_cancel' (hT.2.2 k hk)
  have e:nI (nL (qh1 M W).done_ k) (nI (qh1 M W).piv k).toNat=w2s (qh1 M W).done_ (qh1 M W).piv k:=rfl
  rw[e]
  grind
 ·rw[q7l hf hP hnp _ (Nat.le_refl _)]
  exact hT.1
theorem Ones.piv {n W:Nat} {M:List (List Int)} (h:Ones n W M) (c:Nat):isP (qa6 M W).2 c↔isP (qh1 M W).piv c:=⟨h.stP.piv_same h.stR,h.stR.piv_same h.stP⟩
theorem Ones.ker {n W:Nat} {M:List (List Int)} (h:Ones n W M):∀f,f<=W->qo3 (qa6 M W).1 (qa6 M W).2 W f=wl2 (qh1 M W).done_ (qh1 M W).piv W f
 | 0,_=>rfl
 | f+1,hf=>by
  have ih:=h.ker f (by omega)
  rw[qo3,wl2,ih]
  by_cases q:isP (qa6 M W).2 f
  ·rw[if_pos (w7g.2 q),if_neg λq2=>q9a.1 q2 ((h.piv f).1 q)]
  ·have q2:¬isP (qh1 M W).piv f:=λq3=>q ((h.piv f).2 q3)
   rw[if_neg λq3=>q (w7g.1 q3),if_pos (q9a.2 q2),q44]
   have a:=(h.kvP (by omega) q).prim (by omega)
   have b:=((h.kvR (by omega) q2).prim (by omega)).trans λc=>(h.piv c).symm
   rw[a.uniq h.stP (by omega) q b (qq4 _) (qq4 _)]
theorem Ones.kernel {n W:Nat} {M:List (List Int)} (h:Ones n W M):qo3 (qa6 M W).1 (qa6 M W).2 W W=w6t M:=by
 rw[h.ker W (Nat.le_refl _)]
 unfold w6t qb7
 rw[h.rdW]
theorem Named.inj {n:Nat} {s:List Int} (h:Named n s) {i j:Nat} (hi:i<s.length) (hj:j<s.length) (e:(nI s i).toNat=(nI s j).toNat):i=j:=by
 have h1:=h.at_ i hi
 have h2:=h.at_ j hj
 rcases Nat.lt_trichotomy i j with q | q | q
 ·have:=h.asc i j q hj; omega
 ·exact q
 ·have:=h.asc j i q hi; omega
theorem wm4 (a b:List Int):∀k,qg8 a b k=sm k λi=>nI a i*nI b i
 | 0=>rfl
 | k+1=>by rw[qg8,sm,wm4 a b k]
def qg2 (m:List (List Int)) (j:Nat):List Int:=(List.range m.length).map λi=>nI (nL m i) j
theorem qi6 (m:List (List Int)) (j:Nat):(qg2 m j).length=m.length:=by simp[qg2]
theorem q4n (m:List (List Int)) (j i:Nat) (hi:i<m.length):nI (qg2 m j) i=nI (nL m i) j:=by
 rw[qh2 _ _ (by rw[qi6]; exact hi)]; simp[qg2]
def qe4 (m:List (List Int)) (C:List Int):List Int:=(qi1 m C).2.map λk=>nI C k.toNat
def wm5 (m:List (List Int)) (C:List Int):Bool:=(((qb7 (qg7 m C)).2.length:Int)==(C.length:Int))
def qn8 (m:List (List Int)) (C:List Int):Nat->List Int
 | 0=>[]
 | j+1=>if wm5 m (qn8 m C j++[nI C j])=true then qn8 m C j++[nI C j] else qn8 m C j
def gRow (m:List (List Int)) (y l:List Int) (x:Nat):List Int:=((List.range l.length).map λc=>qg8 (qg2 m (nI l x).toNat) (qg2 m (nI l c).toNat) m.length)++[qg8 (qg2 m (nI l x).toNat) y m.length]
def qb9 (m:List (List Int)) (y l:List Int):List (List Int):=(List.range l.length).map (gRow m y l)
def qx5 (r:List (List Int)) (n k:Nat):Int:=(nI (nL r k) k).tdiv (qd7 (nI (nL r k) k) (nI (nL r k) n))
def q7m (r:List (List Int)) (n k:Nat):Int:=(nI (nL r k) n).tdiv (qd7 (nI (nL r k) k) (nI (nL r k) n))
def qh5 (r:List (List Int)) (n:Nat):Nat->Int
 | 0=>1
 | k+1=>qh5 r n k*(qx5 r n k).tdiv (qd7 (qh5 r n k) (qx5 r n k))
def q0c (d:List (List Int)):Nat->Int
 | 0=>1
 | k+1=>(q0c d k).tdiv (qd7 (q0c d k) (nI (nL d k) k))*nI (nL d k) k
def rsE (m:List (List Int)) (y l:List Int) (r:List (List Int)) (T:Int):Nat->Nat->Int
 | 0,i=>nI y i*T
 | k+1,i=>rsE m y l r T k i-nI (qg2 m (nI l k).toNat) i*((T.tdiv (qx5 r l.length k))*q7m r l.length k)
def rsL (m:List (List Int)) (y l:List Int) (r:List (List Int)) (T:Int) (k:Nat):List Int:=(List.range y.length).map (rsE m y l r T k)
def rtE (m:List (List Int)) (y l:List Int) (d:List (List Int)) (A:Int):Nat->Nat->Int
 | 0,i=>nI y i*A
 | k+1,i=>rtE m y l d A k i-(nI (qg2 m (nI l k).toNat) i*nI (nL d k) l.length)*A.tdiv (nI (nL d k) k)
def rtL (m:List (List Int)) (y l:List Int) (d:List (List Int)) (A:Int):List Int:=(List.range y.length).map (rtE m y l d A d.length)
def gP (m:List (List Int)) (y C:List Int):List (List Int):=(qa6 (qb9 m y (qe4 m C)) (qe4 m C).length).1
def qj5 (m:List (List Int)) (y C:List Int):Int:=qh5 (gP m y C) (qe4 m C).length (qe4 m C).length
def qh9 (m:List (List Int)) (y C:List Int):List Int:=rsL m y (qe4 m C) (gP m y C) (qj5 m y C) (qe4 m C).length
def gre (m:List (List Int)) (C:List Int):List Int:=qn8 m C C.length
def gR (m:List (List Int)) (y C:List Int):List (List Int):=(qb7 (qb9 m y (gre m C))).1
def qn1 (m:List (List Int)) (y C:List Int):Int:=q0c (gR m y C) (gR m y C).length
def qj2 (m:List (List Int)) (y C:List Int):List Int:=rtL m y (gre m C) (gR m y C) (qn1 m y C)
theorem q05 (m:List (List Int)) (y C:List Int):(qh9 m y C).length=y.length:=by simp[qh9,rsL]
end Go.Proofs.YtmijnbjlhnpokaaGreat
