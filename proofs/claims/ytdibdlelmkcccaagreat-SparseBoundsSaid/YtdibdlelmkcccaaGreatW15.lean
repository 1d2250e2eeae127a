/- The kernels of the program and of the reference are the same lists. Plain mathematics. No condition. -/
import Derived.Test.YtdibdlelmkcccaaGreatW14
set_option linter.unusedVariables false
namespace Go.Proofs.YtdibdlelmkcccaaGreat
open Go Go.RowKit Eng
theorem w8p {P:List Int} {f:Nat}:(P.any λe=>(f:Int)==e)=true↔isP P f:=by
 rw[List.any_eq_true]
 constructor
 ·rintro⟨x,hx,e⟩
  obtain⟨q,hq,rfl⟩:=q7c hx
  exact⟨q,hq,(beq_iff_eq.1 e).symm⟩
 ·rintro⟨q,hq,e⟩
  exact⟨nI P q,q7b hq,beq_iff_eq.2 e.symm⟩
theorem wp0 (P:List Int) (f:Nat):∀k,qm2 P f k=true↔∀q,q<k->nI P q≠(f:Int)
 | 0=>⟨λ_ q hq=>absurd hq (Nat.not_lt_zero _),λ_=>rfl⟩
 | k+1=>by
  rw[qm2,Bool.and_eq_true,wp0 P f k,bne_iff_ne]
  constructor
  ·rintro⟨h1,h2⟩ q hq
   rcases Nat.lt_succ_iff_lt_or_eq.1 hq with e | e
   ·exact h1 q e
   ·rw[e]; exact h2
  ·exact λh=>⟨λq hq=>h q (by omega),h k (by omega)⟩
theorem q4h {P:List Int} {f:Nat}:qm2 P f P.length=true↔¬isP P f:=by rw[wp0,we7]
def qz0 (n f:Nat) (t:Int) (P:List Int) (val:Nat->Int):Nat->List Int
 | 0=>(List.replicate n 0).set f t
 | k+1=>(qz0 n f t P val k).set (nI P k).toNat (val k)
theorem qw9 (n f:Nat) (t:Int) (P:List Int) (val:Nat->Int):∀k,(qz0 n f t P val k).length=n
 | 0=>by simp[qz0]
 | k+1=>by rw[qz0,List.length_set]; exact qw9 n f t P val k
theorem xm5 (n c:Nat):nI (List.replicate n (0:Int)) c=0:=by
 rcases Nat.lt_or_ge c n with h | h
 ·rw[qh7 _ _ (by simpa using h)]; simp
 ·exact q0r _ (by simpa using h)
theorem q7p {n f:Nat} {t:Int} {P:List Int} {val:Nat->Int} (hf:f<n) (hP:∀k,k<P.length->0<=nI P k/\nI P k<n) (hnp:¬isP P f):∀k,k<=P.length->nI (qz0 n f t P val k) f=t
 | 0,_=>by rw[qz0,q7i _ (by simpa using hf),if_pos rfl]
 | k+1,hk=>by
  have:=hP k (by omega)
  rw[qz0,q7i _ (by rw[qw9]; omega),if_neg λe=>hnp ⟨k,by omega,by omega⟩]
  exact q7p hf hP hnp k (by omega)
theorem ww2 {n f:Nat} {t:Int} {P:List Int} {val:Nat->Int} (hf:f<n) (hP:∀k,k<P.length->0<=nI P k/\nI P k<n) {c:Nat} (hc:c≠f) (hnp:¬isP P c):∀k,k<=P.length->nI (qz0 n f t P val k) c=0
 | 0,_=>by rw[qz0,q7i _ (by simpa using hf),if_neg hc,xm5]
 | k+1,hk=>by
  have:=hP k (by omega)
  rw[qz0,q7i _ (by rw[qw9]; omega),if_neg λe=>hnp ⟨k,by omega,by omega⟩]
  exact ww2 hf hP hc hnp k (by omega)
theorem ww3 {n f:Nat} {t:Int} {P:List Int} {val:Nat->Int} (hP:∀k,k<P.length->0<=nI P k/\nI P k<n) (hinj:∀q k,q<P.length->k<P.length->nI P q=nI P k->q=k):∀k,k<=P.length->∀q,q<k->nI (qz0 n f t P val k) (nI P q).toNat=val q
 | 0,_,q,hq=>absurd hq (Nat.not_lt_zero _)
 | k+1,hk,q,hq=>by
  have h1:=hP k (by omega)
  have h2:=hP q (by omega)
  rw[qz0,q7i _ (by rw[qw9]; omega)]
  rcases Nat.lt_succ_iff_lt_or_eq.1 hq with e | e
  ·rw[if_neg λe2=>by have:=hinj q k (by omega) (by omega) (by omega); omega]
   exact ww3 hP hinj k (by omega) q e
  ·rw[if_pos (by rw[e]),e]
theorem w8q (r:List (List Int)) (P:List Int) (n f:Nat):∀k,hTo r P n f k=qz0 n f (qf1 r P f P.length) P (λk=>((0-nI (nL r k) f)*qf1 r P f P.length).tdiv (nI (nL r k) (nI P k).toNat)) k
 | 0=>rfl
 | k+1=>by rw[hTo,qz0,w8q r P n f k]
theorem w1z (r:List (List Int)) (P:List Int) (n f:Nat):∀k,q71 r P n f k=qz0 n f (qk1 r P P.length) P (λk=>(0-nI (nL r k) f)*(qk1 r P P.length).tdiv (q61 r P k)) k
 | 0=>rfl
 | k+1=>by rw[q71,qz0,w1z r P n f k]
theorem w8r (a b:Int):∃x,a=qf2 a b*x:=by
 have h:qf2 a b∣a:=Int.natAbs_dvd_natAbs.1 (Nat.gcd_dvd_left _ _)
 exact h
theorem w8s (a b:Int):∃x,b=qf2 a b*x:=by
 have h:qf2 a b∣b:=Int.natAbs_dvd_natAbs.1 (Nat.gcd_dvd_right _ _)
 exact h
theorem xm6 {a d:Int} (ha:0<a) (hd:0<d):0<a*d.tdiv (qf2 a d)/\a∣a*d.tdiv (qf2 a d)/\d∣a*d.tdiv (qf2 a d)/\(a*d.tdiv (qf2 a d)).natAbs<=a.natAbs*d.natAbs/\a.tdiv (qf2 a d)*d=a*d.tdiv (qf2 a d):=by
 have hg:=qq7 (a:=a) (b:=d) (.inl (by omega))
 obtain⟨x,hx⟩:=w8r a d
 obtain⟨y,hy⟩:=w8s a d
 generalize qf2 a d=g at hg hx hy ⊢
 have e1:d.tdiv g=y:=by rw[hy]; exact Int.mul_tdiv_cancel_left _ (by omega)
 have e2:a.tdiv g=x:=by rw[hx]; exact Int.mul_tdiv_cancel_left _ (by omega)
 have hy0:0<y:=q7a hg (by omega)
 rw[e1,e2]
 refine⟨Int.mul_pos ha hy0,⟨y,rfl⟩,⟨x,by rw[hx,hy]; grind⟩,?_,by rw[hx,hy]; grind⟩
 rw[Int.natAbs_mul]
 refine Nat.mul_le_mul_left _ ?_
 rw[<- e1]
 exact q3g _ _
theorem w11 {p r:Int} (hp:0<p):0<p.tdiv (qf2 p r)/\(p.tdiv (qf2 p r)).natAbs<=p.natAbs/\∀t,p.tdiv (qf2 p r)∣t->p∣(0-r)*t:=by
 have hg:=qq7 (a:=p) (b:=r) (.inl (by omega))
 obtain⟨x,hx⟩:=w8r p r
 obtain⟨y,hy⟩:=w8s p r
 refine⟨?_,q3g _ _,λt ht=>?_⟩
 ·generalize qf2 p r=g at hg hx hy ⊢
  rw[hx,Int.mul_tdiv_cancel_left _ (by omega)]
  exact q7a hg (by omega)
 ·generalize qf2 p r=g at hg hx hy ht
  rw[hx,Int.mul_tdiv_cancel_left _ (by omega)] at ht
  obtain⟨u,hu⟩:=ht
  exact⟨- (y*u),by rw[hu,hx,hy]; grind⟩
theorem q4i {r:List (List Int)} {P:List Int} {f:Nat} (hp:∀k,k<P.length->0<nI (nL r k) (nI P k).toNat/\(nI (nL r k) (nI P k).toNat).natAbs<=160):∀k,k<=P.length->0<qf1 r P f k/\(qf1 r P f k).natAbs<=160 ^ k/\∀q,q<k->q44 r P f q∣qf1 r P f k
 | 0,_=>⟨by show(0:Int)<1; decide,by show(1:Int).natAbs<=160 ^ 0; decide,λq hq=>absurd hq (Nat.not_lt_zero _)⟩
 | k+1,hk=>by
  obtain⟨a1,a2,a3⟩:=q4i hp k (by omega)
  obtain⟨b1,b2⟩:=hp k (by omega)
  obtain⟨c1,c2,_⟩:=w11 (r:=nI (nL r k) f) b1
  change 0<q44 r P f k at c1
  change(q44 r P f k).natAbs<=_ at c2
  obtain⟨d1,d2,d3,d4,_⟩:=xm6 a1 c1
  rw[qf1]
  refine⟨d1,?_,λq hq=>?_⟩
  ·rw[Nat.pow_succ]
   exact Nat.le_trans d4 (Nat.mul_le_mul a2 (by omega))
  ·rcases Nat.lt_succ_iff_lt_or_eq.1 hq with e | e
   ·exact Int.dvd_trans (a3 q e) d2
   ·rw[e]; exact d3
theorem we8 {r:List (List Int)} {P:List Int} (hp:∀k,k<P.length->0<q61 r P k/\(q61 r P k).natAbs<=160):∀k,k<=P.length->0<qk1 r P k/\(qk1 r P k).natAbs<=160 ^ k/\∀q,q<k->q61 r P q∣qk1 r P k
 | 0,_=>⟨by show(0:Int)<1; decide,by show(1:Int).natAbs<=160 ^ 0; decide,λq hq=>absurd hq (Nat.not_lt_zero _)⟩
 | k+1,hk=>by
  obtain⟨a1,a2,a3⟩:=we8 hp k (by omega)
  obtain⟨b1,b2⟩:=hp k (by omega)
  obtain⟨d1,d2,d3,d4,d5⟩:=xm6 a1 b1
  rw[qk1,d5]
  refine⟨d1,?_,λq hq=>?_⟩
  ·rw[Nat.pow_succ]
   exact Nat.le_trans d4 (Nat.mul_le_mul a2 b2)
  ·rcases Nat.lt_succ_iff_lt_or_eq.1 hq with e | e
   ·exact Int.dvd_trans (a3 q e) d2
   ·rw[e]; exact d3
theorem w13 {k:Nat} (h:k<=6):160 ^ k<=16777216000000:=Nat.le_trans (Nat.pow_le_pow_right (by decide) h) (by decide)
structure Ones (n W:Nat) (M:List (List Int)):Prop extends Mat n W M where
 n1:0<n
 n6:n<=6
 w1:0<W
 w:W<=1000
 one:∀a c,a<n->c<W->(nI (nL M a) c).natAbs<=1
theorem Ones.small {n W:Nat} {M:List (List Int)} (h:Ones n W M):Small n W W M:=⟨h.toMat,h.n6,Nat.le_refl _,h.w,h.one,λa c ha hc=>by have:=h.one a c ha hc; omega⟩
theorem Ones.small2 {n W:Nat} {M:List (List Int)} (h:Ones n W M):Small n (W-1) (W-1+1) M:=by
 have h1:=h.w1
 have e:W-1+1=W:=by omega
 rw[e]
 exact⟨h.toMat,h.n6,by omega,h.w,λa c ha hc=>h.one a c ha (by omega),λa c ha hc=>by have:=h.one a c ha hc; omega⟩
theorem Ones.rdW {n W:Nat} {M:List (List Int)} (h:Ones n W M):rdW M=W:=h.each 0 h.n1
theorem Ones.stP {n W:Nat} {M:List (List Int)} (h:Ones n W M):St n W (rowOf M) W (qc7 M W).1 (qc7 M W).2:=qy4 h.toMat W (Nat.le_refl _)
theorem Ones.stR {n W:Nat} {M:List (List Int)} (h:Ones n W M):St n W (rowOf M) W ((qg0 M W).done_++(qg0 M W).left) (qg0 M W).piv:=(qv4 h.toMat W (Nat.le_refl _)).st
theorem Ones.at_ {n W:Nat} {M:List (List Int)} (h:Ones n W M) {k:Nat} (hk:k<(qg0 M W).piv.length):nL ((qg0 M W).done_++(qg0 M W).left) k=nL (qg0 M W).done_ k:=ql2 _ _ (by rw[(qv4 h.toMat W (Nat.le_refl _)).cnt]; exact hk)
theorem Ones.redOk {n W:Nat} {M:List (List Int)} (h:Ones n W M):q43 M W W:=q3h h.small
theorem Ones.rdOk {n W:Nat} {M:List (List Int)} (h:Ones n W M):xf1 M:=(w1p h.small2 h.n1).1
theorem Ones.pP {n W:Nat} {M:List (List Int)} (h:Ones n W M):∀k,k<(qc7 M W).2.length->0<nI (nL (qc7 M W).1 k) (nI (qc7 M W).2 k).toNat/\(nI (nL (qc7 M W).1 k) (nI (qc7 M W).2 k).toNat).natAbs<=160:=λk hk=>
 ⟨(h.stP.pos k hk).2.2.1,h.stP.piv_160 h.n6 h.one hk⟩
theorem Ones.pR {n W:Nat} {M:List (List Int)} (h:Ones n W M):∀k,k<(qg0 M W).piv.length->0<q61 (qg0 M W).done_ (qg0 M W).piv k/\(q61 (qg0 M W).done_ (qg0 M W).piv k).natAbs<=160:=λk hk=>by
 have h1:=(h.stR.pos k hk).2.2.1
 have h2:=h.stR.piv_160 h.n6 h.one hk
 rw[h.at_ hk] at h1 h2
 exact⟨h1,h2⟩
theorem Ones.kvP {n W:Nat} {M:List (List Int)} (h:Ones n W M) {f:Nat} (hf:f<W) (hnp:¬isP (qc7 M W).2 f):KV n W (rowOf M) (qc7 M W).2 f (hTo (qc7 M W).1 (qc7 M W).2 W f (qc7 M W).2.length):=by
 have hst:=h.stP
 have hP:∀k,k<(qc7 M W).2.length->0<=nI (qc7 M W).2 k/\nI (qc7 M W).2 k<W:=λk hk=>by have:=hst.pos k hk; omega
 have hT:=q4i (f:=f) h.pP _ (Nat.le_refl _)
 rw[w8q]
 have h0:∀c,c<W->c≠f->¬isP (qc7 M W).2 c->nI (qz0 W f (qf1 (qc7 M W).1 (qc7 M W).2 f (qc7 M W).2.length) (qc7 M W).2 (λk=>((0-nI (nL (qc7 M W).1 k) f)*qf1 (qc7 M W).1 (qc7 M W).2 f (qc7 M W).2.length).tdiv (nI (nL (qc7 M W).1 k) (nI (qc7 M W).2 k).toNat)) (qc7 M W).2.length) c=0:=λc hc h1 h2=>ww2 hf hP h1 h2 _ (Nat.le_refl _)
 refine⟨qw9 _ _ _ _ _ _,hst.sol_mk hf hnp h0 λk hk=>?_,h0,?_⟩
 ·rw[ww3 hP (λq k hq hk=>hst.inj hq hk) _ (Nat.le_refl _) k hk,q7p hf hP hnp _ (Nat.le_refl _)]
  have hp:=(h.pP k hk).1
  have hd:=(w11 (r:=nI (nL (qc7 M W).1 k) f) hp).2.2 _ (hT.2.2 k hk)
  rw[Int.mul_tdiv_cancel' hd]
  grind
 ·rw[q7p hf hP hnp _ (Nat.le_refl _)]
  exact hT.1
theorem Ones.kvR {n W:Nat} {M:List (List Int)} (h:Ones n W M) {f:Nat} (hf:f<W) (hnp:¬isP (qg0 M W).piv f):KV n W (rowOf M) (qg0 M W).piv f (q71 (qg0 M W).done_ (qg0 M W).piv W f (qg0 M W).piv.length):=by
 have hst:=h.stR
 have hP:∀k,k<(qg0 M W).piv.length->0<=nI (qg0 M W).piv k/\nI (qg0 M W).piv k<W:=λk hk=>by have:=hst.pos k hk; omega
 have hT:=we8 h.pR _ (Nat.le_refl _)
 rw[w1z]
 have h0:∀c,c<W->c≠f->¬isP (qg0 M W).piv c->nI (qz0 W f (qk1 (qg0 M W).done_ (qg0 M W).piv (qg0 M W).piv.length) (qg0 M W).piv (λk=>(0-nI (nL (qg0 M W).done_ k) f)*(qk1 (qg0 M W).done_ (qg0 M W).piv (qg0 M W).piv.length).tdiv (q61 (qg0 M W).done_ (qg0 M W).piv k)) (qg0 M W).piv.length) c=0:=λc hc h1 h2=>ww2 hf hP h1 h2 _ (Nat.le_refl _)
 refine⟨qw9 _ _ _ _ _ _,hst.sol_mk hf hnp h0 λk hk=>?_,h0,?_⟩
 ·rw[ww3 hP (λq k hq hk=>hst.inj hq hk) _ (Nat.le_refl _) k hk,q7p hf hP hnp _ (Nat.le_refl _),h.at_ hk]
  have hd:q61 (qg0 M W).done_ (qg0 M W).piv k*(qk1 (qg0 M W).done_ (qg0 M W).piv (qg0 M W).piv.length).tdiv (q61 (qg0 M W).done_ (qg0 M W).piv k)=_:=Int.mul_tdiv_cancel' (hT.2.2 k hk)
  have e:nI (nL (qg0 M W).done_ k) (nI (qg0 M W).piv k).toNat=q61 (qg0 M W).done_ (qg0 M W).piv k:=rfl
  rw[e]
  grind
 ·rw[q7p hf hP hnp _ (Nat.le_refl _)]
  exact hT.1
theorem Ones.piv {n W:Nat} {M:List (List Int)} (h:Ones n W M) (c:Nat):isP (qc7 M W).2 c↔isP (qg0 M W).piv c:=⟨h.stP.piv_same h.stR,h.stR.piv_same h.stP⟩
theorem Ones.ker {n W:Nat} {M:List (List Int)} (h:Ones n W M):∀f,f<=W->qo2 (qc7 M W).1 (qc7 M W).2 W f=qh0 (qg0 M W).done_ (qg0 M W).piv W f
 | 0,_=>rfl
 | f+1,hf=>by
  have ih:=h.ker f (by omega)
  rw[qo2,qh0,ih]
  by_cases q:isP (qc7 M W).2 f
  ·rw[if_pos (w8p.2 q),if_neg λq2=>q4h.1 q2 ((h.piv f).1 q)]
  ·have q2:¬isP (qg0 M W).piv f:=λq3=>q ((h.piv f).2 q3)
   rw[if_neg λq3=>q (w8p.1 q3),if_pos (q4h.2 q2),q4x]
   have a:=(h.kvP (by omega) q).prim (by omega)
   have b:=((h.kvR (by omega) q2).prim (by omega)).trans λc=>(h.piv c).symm
   rw[a.uniq h.stP (by omega) q b (qn9 _) (qn9 _)]
theorem Ones.kernel {n W:Nat} {M:List (List Int)} (h:Ones n W M):qo2 (qc7 M W).1 (qc7 M W).2 W W=qg6 M:=by
 rw[h.ker W (Nat.le_refl _)]
 unfold qg6 qd6
 rw[h.rdW]
theorem Ones.kerAr {n W:Nat} {M:List (List Int)} (h:Ones n W M):w7h (qc7 M W).1 (qc7 M W).2 W:=by
 have hB:BIG=4000000000000000000:=rfl
 have hst:=h.stP
 have hpl:=hst.pl
 have hn:=h.n6
 have hsm:=λ{k} (hk:k<(qc7 M W).2.length)=>(hst.small h.small (Nat.le_refl _) (i:=k) (by omega)).1
 have hT:=λf=>q4i (f:=f) h.pP
 refine⟨λk hk=>?_,λk hk i hi=>?_,λf hf _ k hk=>?_,λf hf _ k hk=>?_⟩
 ·have:=(h.pP k hk).1; omega
 ·have:=hsm hk i hi
  constructor <;> omega
 ·obtain⟨a,b,_⟩:=hT f k hk
  have:=w13 (k:=k) (by omega)
  exact⟨by constructor <;> omega,by omega⟩
 ·obtain⟨a,b,_⟩:=hT f _ (Nat.le_refl _)
  have:=w13 (k:=(qc7 M W).2.length) (by omega)
  have h1:=hsm hk f hf
  have:=q0s (a:=0-nI (nL (qc7 M W).1 k) f) (A:=46656) (by omega) (Nat.le_trans b this)
  constructor <;> omega
theorem Ones.krOk {n W:Nat} {M:List (List Int)} (h:Ones n W M):xx8 M:=by
 have hB:BIG=4000000000000000000:=rfl
 have hrst:=qv4 h.toMat W (Nat.le_refl _)
 have hst:=h.stR
 have hpl:=hst.pl
 have hn:=h.n6
 have h1:=h.n1
 have hlen:=h.len
 have hsm:=λ{k} (hk:k<(qg0 M W).piv.length)=>(hst.small h.small (Nat.le_refl _) (i:=k) (by omega)).1
 have hT:=we8 h.pR
 refine⟨h.rdOk,by omega,?_⟩
 unfold qd6
 rw[h.rdW]
 refine⟨hrst.cnt,λk hk=>?_,λk hk=>?_,λk hk=>?_,λk hk i hi=>?_,λf hf _ k hk=>?_,λf hf _ k hk=>?_⟩
 ·try dsimp only at hk
  rw[hrst.cnt] at hk
  try dsimp only
  rw[<- h.at_ hk]
  exact hst.each k (by omega)
 ·have:=hst.pos k hk; try dsimp only
  omega
 ·have:=(h.pR k hk).1; try dsimp only
  omega
 ·have hk:k<(qg0 M W).piv.length:=hk
  have:=hsm hk i hi
  rw[h.at_ hk] at this
  try dsimp only
  constructor <;> omega
 ·have hk:k<=(qg0 M W).piv.length:=hk
  obtain⟨a,b,_⟩:=hT k hk
  have:=w13 (k:=k) (by omega)
  try dsimp only
  constructor <;> omega
 ·have hk:k<(qg0 M W).piv.length:=hk
  obtain⟨a,b,_⟩:=hT _ (Nat.le_refl _)
  have h2:=w13 (k:=(qg0 M W).piv.length) (by omega)
  have h3:=hsm hk f hf
  rw[h.at_ hk] at h3
  have:=q0s (a:=0-nI (nL (qg0 M W).done_ k) f) (b:=(qk1 (qg0 M W).done_ (qg0 M W).piv (qg0 M W).piv.length).tdiv (q61 (qg0 M W).done_ (qg0 M W).piv k)) (A:=46656) (B:=16777216000000) (by omega) (Nat.le_trans (q3g _ _) (Nat.le_trans b h2))
  try dsimp only
  constructor <;> omega
def w8t (M:List (List Int)) (W:Nat):List Nat:=(List.range W).filter λc=>qm2 (qg0 M W).piv c (qg0 M W).piv.length
theorem q9j (d:List (List Int)) (P:List Int) (n:Nat):∀f,qh0 d P n f=((List.range f).filter λc=>qm2 P c P.length).map λc=>qj5 (q71 d P n c P.length)
 | 0=>rfl
 | f+1=>by
  rw[qh0,q9j d P n f,List.range_succ,List.filter_append,List.map_append]
  by_cases q:qm2 P f P.length=true
  ·rw[if_pos q]
   simp[List.filter,q]
  ·rw[if_neg q]
   have q:qm2 P f P.length=false:=by simpa using q
   simp[List.filter,q]
theorem Ones.kernel_map {n W:Nat} {M:List (List Int)} (h:Ones n W M):qg6 M=(w8t M W).map λc=>qj5 (q71 (qg0 M W).done_ (qg0 M W).piv W c (qg0 M W).piv.length):=by
 unfold qg6 qd6
 rw[h.rdW,q9j]
 rfl
theorem q7q {M:List (List Int)} {W c:Nat}:c∈w8t M W↔c<W/\¬isP (qg0 M W).piv c:=by
 unfold w8t
 rw[List.mem_filter,List.mem_range,q4h]
theorem Ones.one_free {n W:Nat} {M:List (List Int)} (h:Ones n W M) (h1:(qg6 M).length=1):∃f,f<W/\¬isP (qg0 M W).piv f/\(∀c,c<W->c≠f->isP (qg0 M W).piv c)/\KV n W (rowOf M) (qg0 M W).piv f (nL (qg6 M) 0)/\Prim (nL (qg6 M) 0):=by
 rw[h.kernel_map] at h1 ⊢
 rw[List.length_map] at h1
 obtain⟨f,hf⟩:=List.length_eq_one_iff.1 h1
 have hm:f∈w8t M W:=by rw[hf]; simp
 obtain⟨hfW,hnp⟩:=q7q.1 hm
 refine⟨f,hfW,hnp,λc hc hne=>Classical.byContradiction λq=>?_,?_,?_⟩
 ·have:c∈w8t M W:=q7q.2 ⟨hc,q⟩
  rw[hf] at this
  exact hne (by simpa using this)
 ·rw[hf]
  exact(h.kvR hfW hnp).prim hfW
 ·rw[hf]
  exact qn9 _
theorem Ones.ker_small {n W:Nat} {M:List (List Int)} (h:Ones n W M) {v:List Int} (hv:v∈qg6 M):v.length=W/\∀x∈v,x.natAbs<=160:=by
 rw[h.kernel_map] at hv
 obtain⟨f,hf,rfl⟩:=List.mem_map.1 hv
 obtain⟨hfW,hnp⟩:=q7q.1 hf
 have hk:=(h.kvR hfW hnp).prim hfW
 exact⟨hk.len,hk.small h.stR h.n6 h.one hfW hnp (qn9 _)⟩
end Go.Proofs.YtdibdlelmkcccaaGreat
