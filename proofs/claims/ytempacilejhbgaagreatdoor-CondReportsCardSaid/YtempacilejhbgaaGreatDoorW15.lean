/- The kernels of the program and of the reference are the same lists. Plain mathematics. No condition. -/
import Derived.Test.YtempacilejhbgaaGreatDoorW14
set_option linter.unusedVariables false
namespace Go.Proofs.YtempacilejhbgaaGreatDoor
open Go Go.RowKit Eng
theorem w6u {P:List Int} {f:Nat}:(P.any λe=>(f:Int)==e)=true↔isP P f:=by
 rw[List.any_eq_true]
 constructor
 ·rintro⟨x,hx,e⟩
  obtain⟨q,hq,rfl⟩:=q8t hx
  exact⟨q,hq,(beq_iff_eq.1 e).symm⟩
 ·rintro⟨q,hq,e⟩
  exact⟨nI P q,q8s hq,beq_iff_eq.2 e.symm⟩
theorem wk8 (P:List Int) (f:Nat):∀k,ql8 P f k=true↔∀q,q<k->nI P q≠(f:Int)
 | 0=>⟨λ_ q hq=>absurd hq (Nat.not_lt_zero _),λ_=>rfl⟩
 | k+1=>by
  rw[ql8,Bool.and_eq_true,wk8 P f k,bne_iff_ne]
  constructor
  ·rintro⟨h1,h2⟩ q hq
   rcases Nat.lt_succ_iff_lt_or_eq.1 hq with e | e
   ·exact h1 q e
   ·rw[e]; exact h2
  ·exact λh=>⟨λq hq=>h q (by omega),h k (by omega)⟩
theorem q38 {P:List Int} {f:Nat}:ql8 P f P.length=true↔¬isP P f:=by rw[wk8,wa7]
def qz3 (n f:Nat) (t:Int) (P:List Int) (val:Nat->Int):Nat->List Int
 | 0=>(List.replicate n 0).set f t
 | k+1=>(qz3 n f t P val k).set (nI P k).toNat (val k)
theorem qw4 (n f:Nat) (t:Int) (P:List Int) (val:Nat->Int):∀k,(qz3 n f t P val k).length=n
 | 0=>by simp[qz3]
 | k+1=>by rw[qz3,List.length_set]; exact qw4 n f t P val k
theorem xe5 (n c:Nat):nI (List.replicate n (0:Int)) c=0:=by
 rcases Nat.lt_or_ge c n with h | h
 ·rw[qg4 _ _ (by simpa using h)]; simp
 ·exact q36 _ (by simpa using h)
theorem q67 {n f:Nat} {t:Int} {P:List Int} {val:Nat->Int} (hf:f<n) (hP:∀k,k<P.length->0<=nI P k/\nI P k<n) (hnp:¬isP P f):∀k,k<=P.length->nI (qz3 n f t P val k) f=t
 | 0,_=>by rw[qz3,q66 _ (by simpa using hf),if_pos rfl]
 | k+1,hk=>by
  have:=hP k (by omega)
  rw[qz3,q66 _ (by rw[qw4]; omega),if_neg λe=>hnp ⟨k,by omega,by omega⟩]
  exact q67 hf hP hnp k (by omega)
theorem wr5 {n f:Nat} {t:Int} {P:List Int} {val:Nat->Int} (hf:f<n) (hP:∀k,k<P.length->0<=nI P k/\nI P k<n) {c:Nat} (hc:c≠f) (hnp:¬isP P c):∀k,k<=P.length->nI (qz3 n f t P val k) c=0
 | 0,_=>by rw[qz3,q66 _ (by simpa using hf),if_neg hc,xe5]
 | k+1,hk=>by
  have:=hP k (by omega)
  rw[qz3,q66 _ (by rw[qw4]; omega),if_neg λe=>hnp ⟨k,by omega,by omega⟩]
  exact wr5 hf hP hc hnp k (by omega)
theorem wr6 {n f:Nat} {t:Int} {P:List Int} {val:Nat->Int} (hP:∀k,k<P.length->0<=nI P k/\nI P k<n) (hinj:∀q k,q<P.length->k<P.length->nI P q=nI P k->q=k):∀k,k<=P.length->∀q,q<k->nI (qz3 n f t P val k) (nI P q).toNat=val q
 | 0,_,q,hq=>absurd hq (Nat.not_lt_zero _)
 | k+1,hk,q,hq=>by
  have h1:=hP k (by omega)
  have h2:=hP q (by omega)
  rw[qz3,q66 _ (by rw[qw4]; omega)]
  rcases Nat.lt_succ_iff_lt_or_eq.1 hq with e | e
  ·rw[if_neg λe2=>by have:=hinj q k (by omega) (by omega) (by omega); omega]
   exact wr6 hP hinj k (by omega) q e
  ·rw[if_pos (by rw[e]),e]
theorem w6v (r:List (List Int)) (P:List Int) (n f:Nat):∀k,hTo r P n f k=qz3 n f (qf2 r P f P.length) P (λk=>((0-nI (nL r k) f)*qf2 r P f P.length).tdiv (nI (nL r k) (nI P k).toNat)) k
 | 0=>rfl
 | k+1=>by rw[hTo,qz3,w6v r P n f k]
theorem w0e (r:List (List Int)) (P:List Int) (n f:Nat):∀k,q7h r P n f k=qz3 n f (qj6 r P P.length) P (λk=>(0-nI (nL r k) f)*(qj6 r P P.length).tdiv (q6j r P k)) k
 | 0=>rfl
 | k+1=>by rw[q7h,qz3,w0e r P n f k]
theorem w6w (a b:Int):∃x,a=gcdI a b*x:=by
 have h:gcdI a b∣a:=Int.natAbs_dvd_natAbs.1 (Nat.gcd_dvd_left _ _)
 exact h
theorem w6x (a b:Int):∃x,b=gcdI a b*x:=by
 have h:gcdI a b∣b:=Int.natAbs_dvd_natAbs.1 (Nat.gcd_dvd_right _ _)
 exact h
theorem xe6 {a d:Int} (ha:0<a) (hd:0<d):0<a*d.tdiv (gcdI a d)/\a∣a*d.tdiv (gcdI a d)/\d∣a*d.tdiv (gcdI a d)/\(a*d.tdiv (gcdI a d)).natAbs<=a.natAbs*d.natAbs/\a.tdiv (gcdI a d)*d=a*d.tdiv (gcdI a d):=by
 have hg:=qp6 (a:=a) (b:=d) (.inl (by omega))
 obtain⟨x,hx⟩:=w6w a d
 obtain⟨y,hy⟩:=w6x a d
 generalize gcdI a d=g at hg hx hy ⊢
 have e1:d.tdiv g=y:=by rw[hy]; exact Int.mul_tdiv_cancel_left _ (by omega)
 have e2:a.tdiv g=x:=by rw[hx]; exact Int.mul_tdiv_cancel_left _ (by omega)
 have hy0:0<y:=wk5 hg (by omega)
 rw[e1,e2]
 refine⟨Int.mul_pos ha hy0,⟨y,rfl⟩,⟨x,by rw[hx,hy]; grind⟩,?_,by rw[hx,hy]; grind⟩
 rw[Int.natAbs_mul]
 refine Nat.mul_le_mul_left _ ?_
 rw[<- e1]
 exact q3f _ _
theorem w0f {p r:Int} (hp:0<p):0<p.tdiv (gcdI p r)/\(p.tdiv (gcdI p r)).natAbs<=p.natAbs/\∀t,p.tdiv (gcdI p r)∣t->p∣(0-r)*t:=by
 have hg:=qp6 (a:=p) (b:=r) (.inl (by omega))
 obtain⟨x,hx⟩:=w6w p r
 obtain⟨y,hy⟩:=w6x p r
 refine⟨?_,q3f _ _,λt ht=>?_⟩
 ·generalize gcdI p r=g at hg hx hy ⊢
  rw[hx,Int.mul_tdiv_cancel_left _ (by omega)]
  exact wk5 hg (by omega)
 ·generalize gcdI p r=g at hg hx hy ht
  rw[hx,Int.mul_tdiv_cancel_left _ (by omega)] at ht
  obtain⟨u,hu⟩:=ht
  exact⟨- (y*u),by rw[hu,hx,hy]; grind⟩
theorem q39 {r:List (List Int)} {P:List Int} {f:Nat} (hp:∀k,k<P.length->0<nI (nL r k) (nI P k).toNat/\(nI (nL r k) (nI P k).toNat).natAbs<=160):∀k,k<=P.length->0<qf2 r P f k/\(qf2 r P f k).natAbs<=160 ^ k/\∀q,q<k->q4m r P f q∣qf2 r P f k
 | 0,_=>⟨by show(0:Int)<1; decide,by show(1:Int).natAbs<=160 ^ 0; decide,λq hq=>absurd hq (Nat.not_lt_zero _)⟩
 | k+1,hk=>by
  obtain⟨a1,a2,a3⟩:=q39 hp k (by omega)
  obtain⟨b1,b2⟩:=hp k (by omega)
  obtain⟨c1,c2,_⟩:=w0f (r:=nI (nL r k) f) b1
  change 0<q4m r P f k at c1
  change(q4m r P f k).natAbs<=_ at c2
  obtain⟨d1,d2,d3,d4,_⟩:=xe6 a1 c1
  rw[qf2]
  refine⟨d1,?_,λq hq=>?_⟩
  ·rw[Nat.pow_succ]
   exact Nat.le_trans d4 (Nat.mul_le_mul a2 (by omega))
  ·rcases Nat.lt_succ_iff_lt_or_eq.1 hq with e | e
   ·exact Int.dvd_trans (a3 q e) d2
   ·rw[e]; exact d3
theorem wa8 {r:List (List Int)} {P:List Int} (hp:∀k,k<P.length->0<q6j r P k/\(q6j r P k).natAbs<=160):∀k,k<=P.length->0<qj6 r P k/\(qj6 r P k).natAbs<=160 ^ k/\∀q,q<k->q6j r P q∣qj6 r P k
 | 0,_=>⟨by show(0:Int)<1; decide,by show(1:Int).natAbs<=160 ^ 0; decide,λq hq=>absurd hq (Nat.not_lt_zero _)⟩
 | k+1,hk=>by
  obtain⟨a1,a2,a3⟩:=wa8 hp k (by omega)
  obtain⟨b1,b2⟩:=hp k (by omega)
  obtain⟨d1,d2,d3,d4,d5⟩:=xe6 a1 b1
  rw[qj6,d5]
  refine⟨d1,?_,λq hq=>?_⟩
  ·rw[Nat.pow_succ]
   exact Nat.le_trans d4 (Nat.mul_le_mul a2 b2)
  ·rcases Nat.lt_succ_iff_lt_or_eq.1 hq with e | e
   ·exact Int.dvd_trans (a3 q e) d2
   ·rw[e]; exact d3
theorem w0g {k:Nat} (h:k<=6):160 ^ k<=16777216000000:=Nat.le_trans (Nat.pow_le_pow_right (by decide) h) (by decide)
structure Ones (n W:Nat) (M:List (List Int)):Prop extends Mat n W M where
 n1:0<n
 n6:n<=6
 w1:0<W
 w:W<=1000
 one:∀a c,a<n->c<W->(nI (nL M a) c).natAbs<=1
theorem Ones.small {n W:Nat} {M:List (List Int)} (h:Ones n W M):Small n W W M:=⟨h.toMat,h.n6,Nat.le_refl _,h.w,h.one,λa c ha hc=>by have:=h.one a c ha hc; omega⟩
theorem Ones.small2 {n W:Nat} {M:List (List Int)} (h:Ones n W M):Small n (W-1) (W-1+1) M:=by
 have h1:=h.w1
 have e:W-1+1=W:=by omega
 rw[e]
 exact⟨h.toMat,h.n6,by omega,h.w,λa c ha hc=>h.one a c ha (by omega),λa c ha hc=>by have:=h.one a c ha hc; omega⟩
theorem Ones.rdW {n W:Nat} {M:List (List Int)} (h:Ones n W M):rdW M=W:=h.each 0 h.n1
theorem Ones.stP {n W:Nat} {M:List (List Int)} (h:Ones n W M):St n W (rowOf M) W (qd2 M W).1 (qd2 M W).2:=q46 h.toMat W (Nat.le_refl _)
theorem Ones.stR {n W:Nat} {M:List (List Int)} (h:Ones n W M):St n W (rowOf M) W ((qg7 M W).done_++(qg7 M W).left) (qg7 M W).piv:=(q1d h.toMat W (Nat.le_refl _)).st
theorem Ones.at_ {n W:Nat} {M:List (List Int)} (h:Ones n W M) {k:Nat} (hk:k<(qg7 M W).piv.length):nL ((qg7 M W).done_++(qg7 M W).left) k=nL (qg7 M W).done_ k:=qo4 _ _ (by rw[(q1d h.toMat W (Nat.le_refl _)).cnt]; exact hk)
theorem Ones.redOk {n W:Nat} {M:List (List Int)} (h:Ones n W M):q7m M W W:=w6p h.small
theorem Ones.rdOk {n W:Nat} {M:List (List Int)} (h:Ones n W M):w9k M:=(xa1 h.small2 h.n1).1
theorem Ones.pP {n W:Nat} {M:List (List Int)} (h:Ones n W M):∀k,k<(qd2 M W).2.length->0<nI (nL (qd2 M W).1 k) (nI (qd2 M W).2 k).toNat/\(nI (nL (qd2 M W).1 k) (nI (qd2 M W).2 k).toNat).natAbs<=160:=λk hk=>
 ⟨(h.stP.pos k hk).2.2.1,h.stP.piv_160 h.n6 h.one hk⟩
theorem Ones.pR {n W:Nat} {M:List (List Int)} (h:Ones n W M):∀k,k<(qg7 M W).piv.length->0<q6j (qg7 M W).done_ (qg7 M W).piv k/\(q6j (qg7 M W).done_ (qg7 M W).piv k).natAbs<=160:=λk hk=>by
 have h1:=(h.stR.pos k hk).2.2.1
 have h2:=h.stR.piv_160 h.n6 h.one hk
 rw[h.at_ hk] at h1 h2
 exact⟨h1,h2⟩
theorem Ones.kvP {n W:Nat} {M:List (List Int)} (h:Ones n W M) {f:Nat} (hf:f<W) (hnp:¬isP (qd2 M W).2 f):KV n W (rowOf M) (qd2 M W).2 f (hTo (qd2 M W).1 (qd2 M W).2 W f (qd2 M W).2.length):=by
 have hst:=h.stP
 have hP:∀k,k<(qd2 M W).2.length->0<=nI (qd2 M W).2 k/\nI (qd2 M W).2 k<W:=λk hk=>by have:=hst.pos k hk; omega
 have hT:=q39 (f:=f) h.pP _ (Nat.le_refl _)
 rw[w6v]
 have h0:∀c,c<W->c≠f->¬isP (qd2 M W).2 c->nI (qz3 W f (qf2 (qd2 M W).1 (qd2 M W).2 f (qd2 M W).2.length) (qd2 M W).2 (λk=>((0-nI (nL (qd2 M W).1 k) f)*qf2 (qd2 M W).1 (qd2 M W).2 f (qd2 M W).2.length).tdiv (nI (nL (qd2 M W).1 k) (nI (qd2 M W).2 k).toNat)) (qd2 M W).2.length) c=0:=λc hc h1 h2=>wr5 hf hP h1 h2 _ (Nat.le_refl _)
 refine⟨qw4 _ _ _ _ _ _,hst.sol_mk hf hnp h0 λk hk=>?_,h0,?_⟩
 ·rw[wr6 hP (λq k hq hk=>hst.inj hq hk) _ (Nat.le_refl _) k hk,q67 hf hP hnp _ (Nat.le_refl _)]
  have hp:=(h.pP k hk).1
  have hd:=(w0f (r:=nI (nL (qd2 M W).1 k) f) hp).2.2 _ (hT.2.2 k hk)
  rw[Int.mul_tdiv_cancel' hd]
  grind
 ·rw[q67 hf hP hnp _ (Nat.le_refl _)]
  exact hT.1
theorem Ones.kvR {n W:Nat} {M:List (List Int)} (h:Ones n W M) {f:Nat} (hf:f<W) (hnp:¬isP (qg7 M W).piv f):KV n W (rowOf M) (qg7 M W).piv f (q7h (qg7 M W).done_ (qg7 M W).piv W f (qg7 M W).piv.length):=by
 have hst:=h.stR
 have hP:∀k,k<(qg7 M W).piv.length->0<=nI (qg7 M W).piv k/\nI (qg7 M W).piv k<W:=λk hk=>by have:=hst.pos k hk; omega
 have hT:=wa8 h.pR _ (Nat.le_refl _)
 rw[w0e]
 have h0:∀c,c<W->c≠f->¬isP (qg7 M W).piv c->nI (qz3 W f (qj6 (qg7 M W).done_ (qg7 M W).piv (qg7 M W).piv.length) (qg7 M W).piv (λk=>(0-nI (nL (qg7 M W).done_ k) f)*(qj6 (qg7 M W).done_ (qg7 M W).piv (qg7 M W).piv.length).tdiv (q6j (qg7 M W).done_ (qg7 M W).piv k)) (qg7 M W).piv.length) c=0:=λc hc h1 h2=>wr5 hf hP h1 h2 _ (Nat.le_refl _)
 refine⟨qw4 _ _ _ _ _ _,hst.sol_mk hf hnp h0 λk hk=>?_,h0,?_⟩
 ·rw[wr6 hP (λq k hq hk=>hst.inj hq hk) _ (Nat.le_refl _) k hk,q67 hf hP hnp _ (Nat.le_refl _),h.at_ hk]
  have hd:q6j (qg7 M W).done_ (qg7 M W).piv k*(qj6 (qg7 M W).done_ (qg7 M W).piv (qg7 M W).piv.length).tdiv (q6j (qg7 M W).done_ (qg7 M W).piv k)=_:=Int.mul_tdiv_cancel' (hT.2.2 k hk)
  have e:nI (nL (qg7 M W).done_ k) (nI (qg7 M W).piv k).toNat=q6j (qg7 M W).done_ (qg7 M W).piv k:=rfl
  rw[e]
  grind
 ·rw[q67 hf hP hnp _ (Nat.le_refl _)]
  exact hT.1
theorem Ones.piv {n W:Nat} {M:List (List Int)} (h:Ones n W M) (c:Nat):isP (qd2 M W).2 c↔isP (qg7 M W).piv c:=⟨h.stP.piv_same h.stR,h.stR.piv_same h.stP⟩
theorem Ones.ker {n W:Nat} {M:List (List Int)} (h:Ones n W M):∀f,f<=W->qn5 (qd2 M W).1 (qd2 M W).2 W f=qg9 (qg7 M W).done_ (qg7 M W).piv W f
 | 0,_=>rfl
 | f+1,hf=>by
  have ih:=h.ker f (by omega)
  rw[qn5,qg9,ih]
  by_cases q:isP (qd2 M W).2 f
  ·rw[if_pos (w6u.2 q),if_neg λq2=>q38.1 q2 ((h.piv f).1 q)]
  ·have q2:¬isP (qg7 M W).piv f:=λq3=>q ((h.piv f).2 q3)
   rw[if_neg λq3=>q (w6u.1 q3),if_pos (q38.2 q2),q4j]
   have a:=(h.kvP (by omega) q).prim (by omega)
   have b:=((h.kvR (by omega) q2).prim (by omega)).trans λc=>(h.piv c).symm
   rw[a.uniq h.stP (by omega) q b (qn3 _) (qn3 _)]
theorem Ones.kernel {n W:Nat} {M:List (List Int)} (h:Ones n W M):qn5 (qd2 M W).1 (qd2 M W).2 W W=qg0 M:=by
 rw[h.ker W (Nat.le_refl _)]
 unfold qg0 qe6
 rw[h.rdW]
theorem Ones.kerAr {n W:Nat} {M:List (List Int)} (h:Ones n W M):w9g (qd2 M W).1 (qd2 M W).2 W:=by
 have hB:BIG=4000000000000000000:=rfl
 have hst:=h.stP
 have hpl:=hst.pl
 have hn:=h.n6
 have hsm:=λ{k} (hk:k<(qd2 M W).2.length)=>(hst.small h.small (Nat.le_refl _) (i:=k) (by omega)).1
 have hT:=λf=>q39 (f:=f) h.pP
 refine⟨λk hk=>?_,λk hk i hi=>?_,λf hf _ k hk=>?_,λf hf _ k hk=>?_⟩
 ·have:=(h.pP k hk).1; omega
 ·have:=hsm hk i hi
  constructor <;> omega
 ·obtain⟨a,b,_⟩:=hT f k hk
  have:=w0g (k:=k) (by omega)
  exact⟨by constructor <;> omega,by omega⟩
 ·obtain⟨a,b,_⟩:=hT f _ (Nat.le_refl _)
  have:=w0g (k:=(qd2 M W).2.length) (by omega)
  have h1:=hsm hk f hf
  have:=q0o (a:=0-nI (nL (qd2 M W).1 k) f) (A:=46656) (by omega) (Nat.le_trans b this)
  constructor <;> omega
theorem Ones.krOk {n W:Nat} {M:List (List Int)} (h:Ones n W M):xn9 M:=by
 have hB:BIG=4000000000000000000:=rfl
 have hrst:=q1d h.toMat W (Nat.le_refl _)
 have hst:=h.stR
 have hpl:=hst.pl
 have hn:=h.n6
 have h1:=h.n1
 have hlen:=h.len
 have hsm:=λ{k} (hk:k<(qg7 M W).piv.length)=>(hst.small h.small (Nat.le_refl _) (i:=k) (by omega)).1
 have hT:=wa8 h.pR
 refine⟨h.rdOk,by omega,?_⟩
 unfold qe6
 rw[h.rdW]
 refine⟨hrst.cnt,λk hk=>?_,λk hk=>?_,λk hk=>?_,λk hk i hi=>?_,λf hf _ k hk=>?_,λf hf _ k hk=>?_⟩
 ·try dsimp only at hk
  rw[hrst.cnt] at hk
  try dsimp only
  rw[<- h.at_ hk]
  exact hst.each k (by omega)
 ·have:=hst.pos k hk; try dsimp only
  omega
 ·have:=(h.pR k hk).1; try dsimp only
  omega
 ·have hk:k<(qg7 M W).piv.length:=hk
  have:=hsm hk i hi
  rw[h.at_ hk] at this
  try dsimp only
  constructor <;> omega
 ·have hk:k<=(qg7 M W).piv.length:=hk
  obtain⟨a,b,_⟩:=hT k hk
  have:=w0g (k:=k) (by omega)
  try dsimp only
  constructor <;> omega
 ·have hk:k<(qg7 M W).piv.length:=hk
  obtain⟨a,b,_⟩:=hT _ (Nat.le_refl _)
  have h2:=w0g (k:=(qg7 M W).piv.length) (by omega)
  have h3:=hsm hk f hf
  rw[h.at_ hk] at h3
  have:=q0o (a:=0-nI (nL (qg7 M W).done_ k) f) (b:=(qj6 (qg7 M W).done_ (qg7 M W).piv (qg7 M W).piv.length).tdiv (q6j (qg7 M W).done_ (qg7 M W).piv k)) (A:=46656) (B:=16777216000000) (by omega) (Nat.le_trans (q3f _ _) (Nat.le_trans b h2))
  try dsimp only
  constructor <;> omega
def w6y (M:List (List Int)) (W:Nat):List Nat:=(List.range W).filter λc=>ql8 (qg7 M W).piv c (qg7 M W).piv.length
theorem q8x (d:List (List Int)) (P:List Int) (n:Nat):∀f,qg9 d P n f=((List.range f).filter λc=>ql8 P c P.length).map λc=>qj0 (q7h d P n c P.length)
 | 0=>rfl
 | f+1=>by
  rw[qg9,q8x d P n f,List.range_succ,List.filter_append,List.map_append]
  by_cases q:ql8 P f P.length=true
  ·rw[if_pos q]
   simp[List.filter,q]
  ·rw[if_neg q]
   have q:ql8 P f P.length=false:=by simpa using q
   simp[List.filter,q]
theorem Ones.kernel_map {n W:Nat} {M:List (List Int)} (h:Ones n W M):qg0 M=(w6y M W).map λc=>qj0 (q7h (qg7 M W).done_ (qg7 M W).piv W c (qg7 M W).piv.length):=by
 unfold qg0 qe6
 rw[h.rdW,q8x]
 rfl
theorem q68 {M:List (List Int)} {W c:Nat}:c∈w6y M W↔c<W/\¬isP (qg7 M W).piv c:=by
 unfold w6y
 rw[List.mem_filter,List.mem_range,q38]
theorem Ones.one_free {n W:Nat} {M:List (List Int)} (h:Ones n W M) (h1:(qg0 M).length=1):∃f,f<W/\¬isP (qg7 M W).piv f/\(∀c,c<W->c≠f->isP (qg7 M W).piv c)/\KV n W (rowOf M) (qg7 M W).piv f (nL (qg0 M) 0)/\Prim (nL (qg0 M) 0):=by
 rw[h.kernel_map] at h1 ⊢
 rw[List.length_map] at h1
 obtain⟨f,hf⟩:=List.length_eq_one_iff.1 h1
 have hm:f∈w6y M W:=by rw[hf]; simp
 obtain⟨hfW,hnp⟩:=q68.1 hm
 refine⟨f,hfW,hnp,λc hc hne=>Classical.byContradiction λq=>?_,?_,?_⟩
 ·have:c∈w6y M W:=q68.2 ⟨hc,q⟩
  rw[hf] at this
  exact hne (by simpa using this)
 ·rw[hf]
  exact(h.kvR hfW hnp).prim hfW
 ·rw[hf]
  exact qn3 _
theorem Ones.ker_small {n W:Nat} {M:List (List Int)} (h:Ones n W M) {v:List Int} (hv:v∈qg0 M):v.length=W/\∀x∈v,x.natAbs<=160:=by
 rw[h.kernel_map] at hv
 obtain⟨f,hf,rfl⟩:=List.mem_map.1 hv
 obtain⟨hfW,hnp⟩:=q68.1 hf
 have hk:=(h.kvR hfW hnp).prim hfW
 exact⟨hk.len,hk.small h.stR h.n6 h.one hfW hnp (qn3 _)⟩
end Go.Proofs.YtempacilejhbgaaGreatDoor
