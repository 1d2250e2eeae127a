/- The kernels of the program and of the reference are the same lists. Plain mathematics. No condition. -/
import Derived.Test.YtempacilejhbgaaGreatW14
set_option linter.unusedVariables false
namespace Go.Proofs.YtempacilejhbgaaGreat
open Go Go.RowKit Eng
theorem w73 {P:List Int} {f:Nat}:(P.any λe=>(f:Int)==e)=true↔isP P f:=by
 rw[List.any_eq_true]
 constructor
 ·rintro⟨x,hx,e⟩
  obtain⟨q,hq,rfl⟩:=q9p hx
  exact⟨q,hq,(beq_iff_eq.1 e).symm⟩
 ·rintro⟨q,hq,e⟩
  exact⟨nI P q,q9o hq,beq_iff_eq.2 e.symm⟩
theorem wp6 (P:List Int) (f:Nat):∀k,ql8 P f k=true↔∀q,q<k->nI P q≠(f:Int)
 | 0=>⟨λ_ q hq=>absurd hq (Nat.not_lt_zero _),λ_=>rfl⟩
 | k+1=>by
  rw[ql8,Bool.and_eq_true,wp6 P f k,bne_iff_ne]
  constructor
  ·rintro⟨h1,h2⟩ q hq
   rcases Nat.lt_succ_iff_lt_or_eq.1 hq with e | e
   ·exact h1 q e
   ·rw[e]; exact h2
  ·exact λh=>⟨λq hq=>h q (by omega),h k (by omega)⟩
theorem q4s {P:List Int} {f:Nat}:ql8 P f P.length=true↔¬isP P f:=by rw[wp6,we9]
def q0b (n f:Nat) (t:Int) (P:List Int) (val:Nat->Int):Nat->List Int
 | 0=>(List.replicate n 0).set f t
 | k+1=>(q0b n f t P val k).set (nI P k).toNat (val k)
theorem qx0 (n f:Nat) (t:Int) (P:List Int) (val:Nat->Int):∀k,(q0b n f t P val k).length=n
 | 0=>by simp[q0b]
 | k+1=>by rw[q0b,List.length_set]; exact qx0 n f t P val k
theorem xm0 (n c:Nat):nI (List.replicate n (0:Int)) c=0:=by
 rcases Nat.lt_or_ge c n with h | h
 ·rw[qg4 _ _ (by simpa using h)]; simp
 ·exact q4r _ (by simpa using h)
theorem q7r {n f:Nat} {t:Int} {P:List Int} {val:Nat->Int} (hf:f<n) (hP:∀k,k<P.length->0<=nI P k/\nI P k<n) (hnp:¬isP P f):∀k,k<=P.length->nI (q0b n f t P val k) f=t
 | 0,_=>by rw[q0b,q7q _ (by simpa using hf),if_pos rfl]
 | k+1,hk=>by
  have:=hP k (by omega)
  rw[q0b,q7q _ (by rw[qx0]; omega),if_neg λe=>hnp ⟨k,by omega,by omega⟩]
  exact q7r hf hP hnp k (by omega)
theorem ww3 {n f:Nat} {t:Int} {P:List Int} {val:Nat->Int} (hf:f<n) (hP:∀k,k<P.length->0<=nI P k/\nI P k<n) {c:Nat} (hc:c≠f) (hnp:¬isP P c):∀k,k<=P.length->nI (q0b n f t P val k) c=0
 | 0,_=>by rw[q0b,q7q _ (by simpa using hf),if_neg hc,xm0]
 | k+1,hk=>by
  have:=hP k (by omega)
  rw[q0b,q7q _ (by rw[qx0]; omega),if_neg λe=>hnp ⟨k,by omega,by omega⟩]
  exact ww3 hf hP hc hnp k (by omega)
theorem ww4 {n f:Nat} {t:Int} {P:List Int} {val:Nat->Int} (hP:∀k,k<P.length->0<=nI P k/\nI P k<n) (hinj:∀q k,q<P.length->k<P.length->nI P q=nI P k->q=k):∀k,k<=P.length->∀q,q<k->nI (q0b n f t P val k) (nI P q).toNat=val q
 | 0,_,q,hq=>absurd hq (Nat.not_lt_zero _)
 | k+1,hk,q,hq=>by
  have h1:=hP k (by omega)
  have h2:=hP q (by omega)
  rw[q0b,q7q _ (by rw[qx0]; omega)]
  rcases Nat.lt_succ_iff_lt_or_eq.1 hq with e | e
  ·rw[if_neg λe2=>by have:=hinj q k (by omega) (by omega) (by omega); omega]
   exact ww4 hP hinj k (by omega) q e
  ·rw[if_pos (by rw[e]),e]
theorem w74 (r:List (List Int)) (P:List Int) (n f:Nat):∀k,hTo r P n f k=q0b n f (qf3 r P f P.length) P (λk=>((0-nI (nL r k) f)*qf3 r P f P.length).tdiv (nI (nL r k) (nI P k).toNat)) k
 | 0=>rfl
 | k+1=>by rw[hTo,q0b,w74 r P n f k]
theorem w1m (r:List (List Int)) (P:List Int) (n f:Nat):∀k,q77 r P n f k=q0b n f (qj8 r P P.length) P (λk=>(0-nI (nL r k) f)*(qj8 r P P.length).tdiv (q67 r P k)) k
 | 0=>rfl
 | k+1=>by rw[q77,q0b,w1m r P n f k]
theorem w75 (a b:Int):∃x,a=gcdI a b*x:=by
 have h:gcdI a b∣a:=Int.natAbs_dvd_natAbs.1 (Nat.gcd_dvd_left _ _)
 exact h
theorem w76 (a b:Int):∃x,b=gcdI a b*x:=by
 have h:gcdI a b∣b:=Int.natAbs_dvd_natAbs.1 (Nat.gcd_dvd_right _ _)
 exact h
theorem xm1 {a d:Int} (ha:0<a) (hd:0<d):0<a*d.tdiv (gcdI a d)/\a∣a*d.tdiv (gcdI a d)/\d∣a*d.tdiv (gcdI a d)/\(a*d.tdiv (gcdI a d)).natAbs<=a.natAbs*d.natAbs/\a.tdiv (gcdI a d)*d=a*d.tdiv (gcdI a d):=by
 have hg:=qp9 (a:=a) (b:=d) (.inl (by omega))
 obtain⟨x,hx⟩:=w75 a d
 obtain⟨y,hy⟩:=w76 a d
 generalize gcdI a d=g at hg hx hy ⊢
 have e1:d.tdiv g=y:=by rw[hy]; exact Int.mul_tdiv_cancel_left _ (by omega)
 have e2:a.tdiv g=x:=by rw[hx]; exact Int.mul_tdiv_cancel_left _ (by omega)
 have hy0:0<y:=wp3 hg (by omega)
 rw[e1,e2]
 refine⟨Int.mul_pos ha hy0,⟨y,rfl⟩,⟨x,by rw[hx,hy]; grind⟩,?_,by rw[hx,hy]; grind⟩
 rw[Int.natAbs_mul]
 refine Nat.mul_le_mul_left _ ?_
 rw[<- e1]
 exact q3u _ _
theorem w1n {p r:Int} (hp:0<p):0<p.tdiv (gcdI p r)/\(p.tdiv (gcdI p r)).natAbs<=p.natAbs/\∀t,p.tdiv (gcdI p r)∣t->p∣(0-r)*t:=by
 have hg:=qp9 (a:=p) (b:=r) (.inl (by omega))
 obtain⟨x,hx⟩:=w75 p r
 obtain⟨y,hy⟩:=w76 p r
 refine⟨?_,q3u _ _,λt ht=>?_⟩
 ·generalize gcdI p r=g at hg hx hy ⊢
  rw[hx,Int.mul_tdiv_cancel_left _ (by omega)]
  exact wp3 hg (by omega)
 ·generalize gcdI p r=g at hg hx hy ht
  rw[hx,Int.mul_tdiv_cancel_left _ (by omega)] at ht
  obtain⟨u,hu⟩:=ht
  exact⟨- (y*u),by rw[hu,hx,hy]; grind⟩
theorem q4t {r:List (List Int)} {P:List Int} {f:Nat} (hp:∀k,k<P.length->0<nI (nL r k) (nI P k).toNat/\(nI (nL r k) (nI P k).toNat).natAbs<=160):∀k,k<=P.length->0<qf3 r P f k/\(qf3 r P f k).natAbs<=160 ^ k/\∀q,q<k->q46 r P f q∣qf3 r P f k
 | 0,_=>⟨by show(0:Int)<1; decide,by show(1:Int).natAbs<=160 ^ 0; decide,λq hq=>absurd hq (Nat.not_lt_zero _)⟩
 | k+1,hk=>by
  obtain⟨a1,a2,a3⟩:=q4t hp k (by omega)
  obtain⟨b1,b2⟩:=hp k (by omega)
  obtain⟨c1,c2,_⟩:=w1n (r:=nI (nL r k) f) b1
  change 0<q46 r P f k at c1
  change(q46 r P f k).natAbs<=_ at c2
  obtain⟨d1,d2,d3,d4,_⟩:=xm1 a1 c1
  rw[qf3]
  refine⟨d1,?_,λq hq=>?_⟩
  ·rw[Nat.pow_succ]
   exact Nat.le_trans d4 (Nat.mul_le_mul a2 (by omega))
  ·rcases Nat.lt_succ_iff_lt_or_eq.1 hq with e | e
   ·exact Int.dvd_trans (a3 q e) d2
   ·rw[e]; exact d3
theorem wf4 {r:List (List Int)} {P:List Int} (hp:∀k,k<P.length->0<q67 r P k/\(q67 r P k).natAbs<=160):∀k,k<=P.length->0<qj8 r P k/\(qj8 r P k).natAbs<=160 ^ k/\∀q,q<k->q67 r P q∣qj8 r P k
 | 0,_=>⟨by show(0:Int)<1; decide,by show(1:Int).natAbs<=160 ^ 0; decide,λq hq=>absurd hq (Nat.not_lt_zero _)⟩
 | k+1,hk=>by
  obtain⟨a1,a2,a3⟩:=wf4 hp k (by omega)
  obtain⟨b1,b2⟩:=hp k (by omega)
  obtain⟨d1,d2,d3,d4,d5⟩:=xm1 a1 b1
  rw[qj8,d5]
  refine⟨d1,?_,λq hq=>?_⟩
  ·rw[Nat.pow_succ]
   exact Nat.le_trans d4 (Nat.mul_le_mul a2 b2)
  ·rcases Nat.lt_succ_iff_lt_or_eq.1 hq with e | e
   ·exact Int.dvd_trans (a3 q e) d2
   ·rw[e]; exact d3
theorem w1o {k:Nat} (h:k<=6):160 ^ k<=16777216000000:=Nat.le_trans (Nat.pow_le_pow_right (by decide) h) (by decide)
structure Ones (n W:Nat) (M:List (List Int)):Prop extends Mat n W M where
 n1:0<n
 n6:n<=6
 w1:0<W
 w:W<=1000
 one:∀a c,a<n->c<W->(nI (nL M a) c).natAbs<=1
theorem Ones.small {n W:Nat} {M:List (List Int)} (h:Ones n W M):Small n W W M:=⟨h.toMat,h.n6,Nat.le_refl _,h.w,h.one,λa c ha hc=>by have:=h.one a c ha hc; omega⟩
theorem Ones.small2 {n W:Nat} {M:List (List Int)} (h:Ones n W M):Small n (W-1) (W-1+1) M:=by
 have h1:=h.w1
 have e:W-1+1=W:=by omega
 rw[e]
 exact⟨h.toMat,h.n6,by omega,h.w,λa c ha hc=>h.one a c ha (by omega),λa c ha hc=>by have:=h.one a c ha hc; omega⟩
theorem Ones.rdW {n W:Nat} {M:List (List Int)} (h:Ones n W M):rdW M=W:=h.each 0 h.n1
theorem Ones.stP {n W:Nat} {M:List (List Int)} (h:Ones n W M):St n W (rowOf M) W (qd2 M W).1 (qd2 M W).2:=q5n h.toMat W (Nat.le_refl _)
theorem Ones.stR {n W:Nat} {M:List (List Int)} (h:Ones n W M):St n W (rowOf M) W ((qg8 M W).done_++(qg8 M W).left) (qg8 M W).piv:=(q1j h.toMat W (Nat.le_refl _)).st
theorem Ones.at_ {n W:Nat} {M:List (List Int)} (h:Ones n W M) {k:Nat} (hk:k<(qg8 M W).piv.length):nL ((qg8 M W).done_++(qg8 M W).left) k=nL (qg8 M W).done_ k:=qm8 _ _ (by rw[(q1j h.toMat W (Nat.le_refl _)).cnt]; exact hk)
theorem Ones.redOk {n W:Nat} {M:List (List Int)} (h:Ones n W M):wc8 M W W:=w7y h.small
theorem Ones.rdOk {n W:Nat} {M:List (List Int)} (h:Ones n W M):xl2 M:=(xg1 h.small2 h.n1).1
theorem Ones.pP {n W:Nat} {M:List (List Int)} (h:Ones n W M):∀k,k<(qd2 M W).2.length->0<nI (nL (qd2 M W).1 k) (nI (qd2 M W).2 k).toNat/\(nI (nL (qd2 M W).1 k) (nI (qd2 M W).2 k).toNat).natAbs<=160:=λk hk=>
 ⟨(h.stP.pos k hk).2.2.1,h.stP.piv_160 h.n6 h.one hk⟩
theorem Ones.pR {n W:Nat} {M:List (List Int)} (h:Ones n W M):∀k,k<(qg8 M W).piv.length->0<q67 (qg8 M W).done_ (qg8 M W).piv k/\(q67 (qg8 M W).done_ (qg8 M W).piv k).natAbs<=160:=λk hk=>by
 have h1:=(h.stR.pos k hk).2.2.1
 have h2:=h.stR.piv_160 h.n6 h.one hk
 rw[h.at_ hk] at h1 h2
 exact⟨h1,h2⟩
theorem Ones.kvP {n W:Nat} {M:List (List Int)} (h:Ones n W M) {f:Nat} (hf:f<W) (hnp:¬isP (qd2 M W).2 f):KV n W (rowOf M) (qd2 M W).2 f (hTo (qd2 M W).1 (qd2 M W).2 W f (qd2 M W).2.length):=by
 have hst:=h.stP
 have hP:∀k,k<(qd2 M W).2.length->0<=nI (qd2 M W).2 k/\nI (qd2 M W).2 k<W:=λk hk=>by have:=hst.pos k hk; omega
 have hT:=q4t (f:=f) h.pP _ (Nat.le_refl _)
 rw[w74]
 have h0:∀c,c<W->c≠f->¬isP (qd2 M W).2 c->nI (q0b W f (qf3 (qd2 M W).1 (qd2 M W).2 f (qd2 M W).2.length) (qd2 M W).2 (λk=>((0-nI (nL (qd2 M W).1 k) f)*qf3 (qd2 M W).1 (qd2 M W).2 f (qd2 M W).2.length).tdiv (nI (nL (qd2 M W).1 k) (nI (qd2 M W).2 k).toNat)) (qd2 M W).2.length) c=0:=λc hc h1 h2=>ww3 hf hP h1 h2 _ (Nat.le_refl _)
 refine⟨qx0 _ _ _ _ _ _,hst.sol_mk hf hnp h0 λk hk=>?_,h0,?_⟩
 ·rw[ww4 hP (λq k hq hk=>hst.inj hq hk) _ (Nat.le_refl _) k hk,q7r hf hP hnp _ (Nat.le_refl _)]
  have hp:=(h.pP k hk).1
  have hd:=(w1n (r:=nI (nL (qd2 M W).1 k) f) hp).2.2 _ (hT.2.2 k hk)
  rw[Int.mul_tdiv_cancel' hd]
  grind
 ·rw[q7r hf hP hnp _ (Nat.le_refl _)]
  exact hT.1
theorem Ones.kvR {n W:Nat} {M:List (List Int)} (h:Ones n W M) {f:Nat} (hf:f<W) (hnp:¬isP (qg8 M W).piv f):KV n W (rowOf M) (qg8 M W).piv f (q77 (qg8 M W).done_ (qg8 M W).piv W f (qg8 M W).piv.length):=by
 have hst:=h.stR
 have hP:∀k,k<(qg8 M W).piv.length->0<=nI (qg8 M W).piv k/\nI (qg8 M W).piv k<W:=λk hk=>by have:=hst.pos k hk; omega
 have hT:=wf4 h.pR _ (Nat.le_refl _)
 rw[w1m]
 have h0:∀c,c<W->c≠f->¬isP (qg8 M W).piv c->nI (q0b W f (qj8 (qg8 M W).done_ (qg8 M W).piv (qg8 M W).piv.length) (qg8 M W).piv (λk=>(0-nI (nL (qg8 M W).done_ k) f)*(qj8 (qg8 M W).done_ (qg8 M W).piv (qg8 M W).piv.length).tdiv (q67 (qg8 M W).done_ (qg8 M W).piv k)) (qg8 M W).piv.length) c=0:=λc hc h1 h2=>ww3 hf hP h1 h2 _ (Nat.le_refl _)
 refine⟨qx0 _ _ _ _ _ _,hst.sol_mk hf hnp h0 λk hk=>?_,h0,?_⟩
 ·rw[ww4 hP (λq k hq hk=>hst.inj hq hk) _ (Nat.le_refl _) k hk,q7r hf hP hnp _ (Nat.le_refl _),h.at_ hk]
  have hd:q67 (qg8 M W).done_ (qg8 M W).piv k*(qj8 (qg8 M W).done_ (qg8 M W).piv (qg8 M W).piv.length).tdiv (q67 (qg8 M W).done_ (qg8 M W).piv k)=_:=Int.mul_tdiv_cancel' (hT.2.2 k hk)
  have e:nI (nL (qg8 M W).done_ k) (nI (qg8 M W).piv k).toNat=q67 (qg8 M W).done_ (qg8 M W).piv k:=rfl
  rw[e]
  grind
 ·rw[q7r hf hP hnp _ (Nat.le_refl _)]
  exact hT.1
theorem Ones.piv {n W:Nat} {M:List (List Int)} (h:Ones n W M) (c:Nat):isP (qd2 M W).2 c↔isP (qg8 M W).piv c:=⟨h.stP.piv_same h.stR,h.stR.piv_same h.stP⟩
theorem Ones.ker {n W:Nat} {M:List (List Int)} (h:Ones n W M):∀f,f<=W->qo0 (qd2 M W).1 (qd2 M W).2 W f=qg9 (qg8 M W).done_ (qg8 M W).piv W f
 | 0,_=>rfl
 | f+1,hf=>by
  have ih:=h.ker f (by omega)
  rw[qo0,qg9,ih]
  by_cases q:isP (qd2 M W).2 f
  ·rw[if_pos (w73.2 q),if_neg λq2=>q4s.1 q2 ((h.piv f).1 q)]
  ·have q2:¬isP (qg8 M W).piv f:=λq3=>q ((h.piv f).2 q3)
   rw[if_neg λq3=>q (w73.1 q3),if_pos (q4s.2 q2),q44]
   have a:=(h.kvP (by omega) q).prim (by omega)
   have b:=((h.kvR (by omega) q2).prim (by omega)).trans λc=>(h.piv c).symm
   rw[a.uniq h.stP (by omega) q b (qn7 _) (qn7 _)]
theorem Ones.kernel {n W:Nat} {M:List (List Int)} (h:Ones n W M):qo0 (qd2 M W).1 (qd2 M W).2 W W=qg3 M:=by
 rw[h.ker W (Nat.le_refl _)]
 unfold qg3 qe8
 rw[h.rdW]
theorem Ones.kerAr {n W:Nat} {M:List (List Int)} (h:Ones n W M):xc8 (qd2 M W).1 (qd2 M W).2 W:=by
 have hB:BIG=4000000000000000000:=rfl
 have hst:=h.stP
 have hpl:=hst.pl
 have hn:=h.n6
 have hsm:=λ{k} (hk:k<(qd2 M W).2.length)=>(hst.small h.small (Nat.le_refl _) (i:=k) (by omega)).1
 have hT:=λf=>q4t (f:=f) h.pP
 refine⟨λk hk=>?_,λk hk i hi=>?_,λf hf _ k hk=>?_,λf hf _ k hk=>?_⟩
 ·have:=(h.pP k hk).1; omega
 ·have:=hsm hk i hi
  constructor <;> omega
 ·obtain⟨a,b,_⟩:=hT f k hk
  have:=w1o (k:=k) (by omega)
  exact⟨by constructor <;> omega,by omega⟩
 ·obtain⟨a,b,_⟩:=hT f _ (Nat.le_refl _)
  have:=w1o (k:=(qd2 M W).2.length) (by omega)
  have h1:=hsm hk f hf
  have:=q0x (a:=0-nI (nL (qd2 M W).1 k) f) (A:=46656) (by omega) (Nat.le_trans b this)
  constructor <;> omega
theorem Ones.krOk {n W:Nat} {M:List (List Int)} (h:Ones n W M):xw3 M:=by
 have hB:BIG=4000000000000000000:=rfl
 have hrst:=q1j h.toMat W (Nat.le_refl _)
 have hst:=h.stR
 have hpl:=hst.pl
 have hn:=h.n6
 have h1:=h.n1
 have hlen:=h.len
 have hsm:=λ{k} (hk:k<(qg8 M W).piv.length)=>(hst.small h.small (Nat.le_refl _) (i:=k) (by omega)).1
 have hT:=wf4 h.pR
 refine⟨h.rdOk,by omega,?_⟩
 unfold qe8
 rw[h.rdW]
 refine⟨hrst.cnt,λk hk=>?_,λk hk=>?_,λk hk=>?_,λk hk i hi=>?_,λf hf _ k hk=>?_,λf hf _ k hk=>?_⟩
 ·try dsimp only at hk
  rw[hrst.cnt] at hk
  try dsimp only
  rw[<- h.at_ hk]
  exact hst.each k (by omega)
 ·have:=hst.pos k hk; try dsimp only
  omega
 ·have:=(h.pR k hk).1; try dsimp only
  omega
 ·have hk:k<(qg8 M W).piv.length:=hk
  have:=hsm hk i hi
  rw[h.at_ hk] at this
  try dsimp only
  constructor <;> omega
 ·have hk:k<=(qg8 M W).piv.length:=hk
  obtain⟨a,b,_⟩:=hT k hk
  have:=w1o (k:=k) (by omega)
  try dsimp only
  constructor <;> omega
 ·have hk:k<(qg8 M W).piv.length:=hk
  obtain⟨a,b,_⟩:=hT _ (Nat.le_refl _)
  have h2:=w1o (k:=(qg8 M W).piv.length) (by omega)
  have h3:=hsm hk f hf
  rw[h.at_ hk] at h3
  have:=q0x (a:=0-nI (nL (qg8 M W).done_ k) f) (b:=(qj8 (qg8 M W).done_ (qg8 M W).piv (qg8 M W).piv.length).tdiv (q67 (qg8 M W).done_ (qg8 M W).piv k)) (A:=46656) (B:=16777216000000) (by omega) (Nat.le_trans (q3u _ _) (Nat.le_trans b h2))
  try dsimp only
  constructor <;> omega
def w77 (M:List (List Int)) (W:Nat):List Nat:=(List.range W).filter λc=>ql8 (qg8 M W).piv c (qg8 M W).piv.length
theorem q9t (d:List (List Int)) (P:List Int) (n:Nat):∀f,qg9 d P n f=((List.range f).filter λc=>ql8 P c P.length).map λc=>qj2 (q77 d P n c P.length)
 | 0=>rfl
 | f+1=>by
  rw[qg9,q9t d P n f,List.range_succ,List.filter_append,List.map_append]
  by_cases q:ql8 P f P.length=true
  ·rw[if_pos q]
   simp[List.filter,q]
  ·rw[if_neg q]
   have q:ql8 P f P.length=false:=by simpa using q
   simp[List.filter,q]
theorem Ones.kernel_map {n W:Nat} {M:List (List Int)} (h:Ones n W M):qg3 M=(w77 M W).map λc=>qj2 (q77 (qg8 M W).done_ (qg8 M W).piv W c (qg8 M W).piv.length):=by
 unfold qg3 qe8
 rw[h.rdW,q9t]
 rfl
theorem q7s {M:List (List Int)} {W c:Nat}:c∈w77 M W↔c<W/\¬isP (qg8 M W).piv c:=by
 unfold w77
 rw[List.mem_filter,List.mem_range,q4s]
theorem Ones.one_free {n W:Nat} {M:List (List Int)} (h:Ones n W M) (h1:(qg3 M).length=1):∃f,f<W/\¬isP (qg8 M W).piv f/\(∀c,c<W->c≠f->isP (qg8 M W).piv c)/\KV n W (rowOf M) (qg8 M W).piv f (nL (qg3 M) 0)/\Prim (nL (qg3 M) 0):=by
 rw[h.kernel_map] at h1 ⊢
 rw[List.length_map] at h1
 obtain⟨f,hf⟩:=List.length_eq_one_iff.1 h1
 have hm:f∈w77 M W:=by rw[hf]; simp
 obtain⟨hfW,hnp⟩:=q7s.1 hm
 refine⟨f,hfW,hnp,λc hc hne=>Classical.byContradiction λq=>?_,?_,?_⟩
 ·have:c∈w77 M W:=q7s.2 ⟨hc,q⟩
  rw[hf] at this
  exact hne (by simpa using this)
 ·rw[hf]
  exact(h.kvR hfW hnp).prim hfW
 ·rw[hf]
  exact qn7 _
theorem Ones.ker_small {n W:Nat} {M:List (List Int)} (h:Ones n W M) {v:List Int} (hv:v∈qg3 M):v.length=W/\∀x∈v,x.natAbs<=160:=by
 rw[h.kernel_map] at hv
 obtain⟨f,hf,rfl⟩:=List.mem_map.1 hv
 obtain⟨hfW,hnp⟩:=q7s.1 hf
 have hk:=(h.kvR hfW hnp).prim hfW
 exact⟨hk.len,hk.small h.stR h.n6 h.one hfW hnp (qn7 _)⟩
end Go.Proofs.YtempacilejhbgaaGreat
