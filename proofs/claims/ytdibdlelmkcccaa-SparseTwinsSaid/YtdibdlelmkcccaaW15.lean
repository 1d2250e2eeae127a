/- The kernels of the program and of the reference are the same lists. Plain mathematics. No condition. -/
import Derived.Test.YtdibdlelmkcccaaW14
set_option linter.unusedVariables false
namespace Go.Proofs.Ytdibdlelmkcccaa
open Go Go.RowKit Eng
theorem w6v {P:List Int} {f:Nat}:(P.any λe=>(f:Int)==e)=true↔isP P f:=by
 rw[List.any_eq_true]
 constructor
 ·rintro⟨x,hx,e⟩
  obtain⟨q,hq,rfl⟩:=q3p hx
  exact⟨q,hq,(beq_iff_eq.1 e).symm⟩
 ·rintro⟨q,hq,e⟩
  exact⟨nI P q,q7f hq,beq_iff_eq.2 e.symm⟩
theorem wl8 (P:List Int) (f:Nat):∀k,qn0 P f k=true↔∀q,q<k->nI P q≠(f:Int)
 | 0=>⟨λ_ q hq=>absurd hq (Nat.not_lt_zero _),λ_=>rfl⟩
 | k+1=>by
  rw[qn0,Bool.and_eq_true,wl8 P f k,bne_iff_ne]
  constructor
  ·rintro⟨h1,h2⟩ q hq
   rcases Nat.lt_succ_iff_lt_or_eq.1 hq with e | e
   ·exact h1 q e
   ·rw[e]; exact h2
  ·exact λh=>⟨λq hq=>h q (by omega),h k (by omega)⟩
theorem q4m {P:List Int} {f:Nat}:qn0 P f P.length=true↔¬isP P f:=by rw[wl8,wc7]
def q0f (n f:Nat) (t:Int) (P:List Int) (val:Nat->Int):Nat->List Int
 | 0=>(List.replicate n 0).set f t
 | k+1=>(q0f n f t P val k).set (nI P k).toNat (val k)
theorem qx4 (n f:Nat) (t:Int) (P:List Int) (val:Nat->Int):∀k,(q0f n f t P val k).length=n
 | 0=>by simp[q0f]
 | k+1=>by rw[q0f,List.length_set]; exact qx4 n f t P val k
theorem q41 (n c:Nat):nI (List.replicate n (0:Int)) c=0:=by
 rcases Nat.lt_or_ge c n with h | h
 ·rw[qh9 _ _ (by simpa using h)]; simp
 ·exact qw2 _ (by simpa using h)
theorem q7r {n f:Nat} {t:Int} {P:List Int} {val:Nat->Int} (hf:f<n) (hP:∀k,k<P.length->0<=nI P k/\nI P k<n) (hnp:¬isP P f):∀k,k<=P.length->nI (q0f n f t P val k) f=t
 | 0,_=>by rw[q0f,q1y _ (by simpa using hf),if_pos rfl]
 | k+1,hk=>by
  have:=hP k (by omega)
  rw[q0f,q1y _ (by rw[qx4]; omega),if_neg λe=>hnp ⟨k,by omega,by omega⟩]
  exact q7r hf hP hnp k (by omega)
theorem wr9 {n f:Nat} {t:Int} {P:List Int} {val:Nat->Int} (hf:f<n) (hP:∀k,k<P.length->0<=nI P k/\nI P k<n) {c:Nat} (hc:c≠f) (hnp:¬isP P c):∀k,k<=P.length->nI (q0f n f t P val k) c=0
 | 0,_=>by rw[q0f,q1y _ (by simpa using hf),if_neg hc,q41]
 | k+1,hk=>by
  have:=hP k (by omega)
  rw[q0f,q1y _ (by rw[qx4]; omega),if_neg λe=>hnp ⟨k,by omega,by omega⟩]
  exact wr9 hf hP hc hnp k (by omega)
theorem ws0 {n f:Nat} {t:Int} {P:List Int} {val:Nat->Int} (hP:∀k,k<P.length->0<=nI P k/\nI P k<n) (hinj:∀q k,q<P.length->k<P.length->nI P q=nI P k->q=k):∀k,k<=P.length->∀q,q<k->nI (q0f n f t P val k) (nI P q).toNat=val q
 | 0,_,q,hq=>absurd hq (Nat.not_lt_zero _)
 | k+1,hk,q,hq=>by
  have h1:=hP k (by omega)
  have h2:=hP q (by omega)
  rw[q0f,q1y _ (by rw[qx4]; omega)]
  rcases Nat.lt_succ_iff_lt_or_eq.1 hq with e | e
  ·rw[if_neg λe2=>by have:=hinj q k (by omega) (by omega) (by omega); omega]
   exact ws0 hP hinj k (by omega) q e
  ·rw[if_pos (by rw[e]),e]
theorem w6w (r:List (List Int)) (P:List Int) (n f:Nat):∀k,hTo r P n f k=q0f n f (qf7 r P f P.length) P (λk=>((0-nI (nL r k) f)*qf7 r P f P.length).tdiv (nI (nL r k) (nI P k).toNat)) k
 | 0=>rfl
 | k+1=>by rw[hTo,q0f,w6w r P n f k]
theorem w0g (r:List (List Int)) (P:List Int) (n f:Nat):∀k,q7y r P n f k=q0f n f (ql2 r P P.length) P (λk=>(0-nI (nL r k) f)*(ql2 r P P.length).tdiv (q63 r P k)) k
 | 0=>rfl
 | k+1=>by rw[q7y,q0f,w0g r P n f k]
theorem w6x (a b:Int):∃x,a=qf8 a b*x:=by
 have h:qf8 a b∣a:=Int.natAbs_dvd_natAbs.1 (Nat.gcd_dvd_left _ _)
 exact h
theorem w6y (a b:Int):∃x,b=qf8 a b*x:=by
 have h:qf8 a b∣b:=Int.natAbs_dvd_natAbs.1 (Nat.gcd_dvd_right _ _)
 exact h
theorem xb7 {a d:Int} (ha:0<a) (hd:0<d):0<a*d.tdiv (qf8 a d)/\a∣a*d.tdiv (qf8 a d)/\d∣a*d.tdiv (qf8 a d)/\(a*d.tdiv (qf8 a d)).natAbs<=a.natAbs*d.natAbs/\a.tdiv (qf8 a d)*d=a*d.tdiv (qf8 a d):=by
 have hg:=qr4 (a:=a) (b:=d) (.inl (by omega))
 obtain⟨x,hx⟩:=w6x a d
 obtain⟨y,hy⟩:=w6y a d
 generalize qf8 a d=g at hg hx hy ⊢
 have e1:d.tdiv g=y:=by rw[hy]; exact Int.mul_tdiv_cancel_left _ (by omega)
 have e2:a.tdiv g=x:=by rw[hx]; exact Int.mul_tdiv_cancel_left _ (by omega)
 have hy0:0<y:=q7e hg (by omega)
 rw[e1,e2]
 refine⟨Int.mul_pos ha hy0,⟨y,rfl⟩,⟨x,by rw[hx,hy]; grind⟩,?_,by rw[hx,hy]; grind⟩
 rw[Int.natAbs_mul]
 refine Nat.mul_le_mul_left _ ?_
 rw[<- e1]
 exact q3q _ _
theorem w0h {p r:Int} (hp:0<p):0<p.tdiv (qf8 p r)/\(p.tdiv (qf8 p r)).natAbs<=p.natAbs/\∀t,p.tdiv (qf8 p r)∣t->p∣(0-r)*t:=by
 have hg:=qr4 (a:=p) (b:=r) (.inl (by omega))
 obtain⟨x,hx⟩:=w6x p r
 obtain⟨y,hy⟩:=w6y p r
 refine⟨?_,q3q _ _,λt ht=>?_⟩
 ·generalize qf8 p r=g at hg hx hy ⊢
  rw[hx,Int.mul_tdiv_cancel_left _ (by omega)]
  exact q7e hg (by omega)
 ·generalize qf8 p r=g at hg hx hy ht
  rw[hx,Int.mul_tdiv_cancel_left _ (by omega)] at ht
  obtain⟨u,hu⟩:=ht
  exact⟨- (y*u),by rw[hu,hx,hy]; grind⟩
theorem q4n {r:List (List Int)} {P:List Int} {f:Nat} (hp:∀k,k<P.length->0<nI (nL r k) (nI P k).toNat/\(nI (nL r k) (nI P k).toNat).natAbs<=160):∀k,k<=P.length->0<qf7 r P f k/\(qf7 r P f k).natAbs<=160 ^ k/\∀q,q<k->q44 r P f q∣qf7 r P f k
 | 0,_=>⟨by show(0:Int)<1; decide,by show(1:Int).natAbs<=160 ^ 0; decide,λq hq=>absurd hq (Nat.not_lt_zero _)⟩
 | k+1,hk=>by
  obtain⟨a1,a2,a3⟩:=q4n hp k (by omega)
  obtain⟨b1,b2⟩:=hp k (by omega)
  obtain⟨c1,c2,_⟩:=w0h (r:=nI (nL r k) f) b1
  change 0<q44 r P f k at c1
  change(q44 r P f k).natAbs<=_ at c2
  obtain⟨d1,d2,d3,d4,_⟩:=xb7 a1 c1
  rw[qf7]
  refine⟨d1,?_,λq hq=>?_⟩
  ·rw[Nat.pow_succ]
   exact Nat.le_trans d4 (Nat.mul_le_mul a2 (by omega))
  ·rcases Nat.lt_succ_iff_lt_or_eq.1 hq with e | e
   ·exact Int.dvd_trans (a3 q e) d2
   ·rw[e]; exact d3
theorem wc8 {r:List (List Int)} {P:List Int} (hp:∀k,k<P.length->0<q63 r P k/\(q63 r P k).natAbs<=160):∀k,k<=P.length->0<ql2 r P k/\(ql2 r P k).natAbs<=160 ^ k/\∀q,q<k->q63 r P q∣ql2 r P k
 | 0,_=>⟨by show(0:Int)<1; decide,by show(1:Int).natAbs<=160 ^ 0; decide,λq hq=>absurd hq (Nat.not_lt_zero _)⟩
 | k+1,hk=>by
  obtain⟨a1,a2,a3⟩:=wc8 hp k (by omega)
  obtain⟨b1,b2⟩:=hp k (by omega)
  obtain⟨d1,d2,d3,d4,d5⟩:=xb7 a1 b1
  rw[ql2,d5]
  refine⟨d1,?_,λq hq=>?_⟩
  ·rw[Nat.pow_succ]
   exact Nat.le_trans d4 (Nat.mul_le_mul a2 b2)
  ·rcases Nat.lt_succ_iff_lt_or_eq.1 hq with e | e
   ·exact Int.dvd_trans (a3 q e) d2
   ·rw[e]; exact d3
theorem w0i {k:Nat} (h:k<=6):160 ^ k<=16777216000000:=Nat.le_trans (Nat.pow_le_pow_right (by decide) h) (by decide)
structure Ones (n W:Nat) (M:List (List Int)):Prop extends Mat n W M where
 n1:0<n
 n6:n<=6
 w1:0<W
 w:W<=1000
 one:∀a c,a<n->c<W->(nI (nL M a) c).natAbs<=1
theorem Ones.small {n W:Nat} {M:List (List Int)} (h:Ones n W M):Small n W W M:=⟨h.toMat,h.n6,Nat.le_refl _,h.w,h.one,λa c ha hc=>by have:=h.one a c ha hc; omega⟩
theorem Ones.small2 {n W:Nat} {M:List (List Int)} (h:Ones n W M):Small n (W-1) (W-1+1) M:=by
 have h1:=h.w1
 have e:W-1+1=W:=by omega
 rw[e]
 exact⟨h.toMat,h.n6,by omega,h.w,λa c ha hc=>h.one a c ha (by omega),λa c ha hc=>by have:=h.one a c ha hc; omega⟩
theorem Ones.rdW {n W:Nat} {M:List (List Int)} (h:Ones n W M):rdW M=W:=h.each 0 h.n1
theorem Ones.stP {n W:Nat} {M:List (List Int)} (h:Ones n W M):St n W (rowOf M) W (qd0 M W).1 (qd0 M W).2:=qz7 h.toMat W (Nat.le_refl _)
theorem Ones.stR {n W:Nat} {M:List (List Int)} (h:Ones n W M):St n W (rowOf M) W ((qg6 M W).done_++(qg6 M W).left) (qg6 M W).piv:=(qv7 h.toMat W (Nat.le_refl _)).st
theorem Ones.at_ {n W:Nat} {M:List (List Int)} (h:Ones n W M) {k:Nat} (hk:k<(qg6 M W).piv.length):nL ((qg6 M W).done_++(qg6 M W).left) k=nL (qg6 M W).done_ k:=qm0 _ _ (by rw[(qv7 h.toMat W (Nat.le_refl _)).cnt]; exact hk)
theorem Ones.redOk {n W:Nat} {M:List (List Int)} (h:Ones n W M):q43 M W W:=q3r h.small
theorem Ones.rdOk {n W:Nat} {M:List (List Int)} (h:Ones n W M):w85 M:=(wz7 h.small2 h.n1).1
theorem Ones.pP {n W:Nat} {M:List (List Int)} (h:Ones n W M):∀k,k<(qd0 M W).2.length->0<nI (nL (qd0 M W).1 k) (nI (qd0 M W).2 k).toNat/\(nI (nL (qd0 M W).1 k) (nI (qd0 M W).2 k).toNat).natAbs<=160:=λk hk=>
 ⟨(h.stP.pos k hk).2.2.1,h.stP.piv_160 h.n6 h.one hk⟩
theorem Ones.pR {n W:Nat} {M:List (List Int)} (h:Ones n W M):∀k,k<(qg6 M W).piv.length->0<q63 (qg6 M W).done_ (qg6 M W).piv k/\(q63 (qg6 M W).done_ (qg6 M W).piv k).natAbs<=160:=λk hk=>by
 have h1:=(h.stR.pos k hk).2.2.1
 have h2:=h.stR.piv_160 h.n6 h.one hk
 rw[h.at_ hk] at h1 h2
 exact⟨h1,h2⟩
theorem Ones.kvP {n W:Nat} {M:List (List Int)} (h:Ones n W M) {f:Nat} (hf:f<W) (hnp:¬isP (qd0 M W).2 f):KV n W (rowOf M) (qd0 M W).2 f (hTo (qd0 M W).1 (qd0 M W).2 W f (qd0 M W).2.length):=by
 have hst:=h.stP
 have hP:∀k,k<(qd0 M W).2.length->0<=nI (qd0 M W).2 k/\nI (qd0 M W).2 k<W:=λk hk=>by have:=hst.pos k hk; omega
 have hT:=q4n (f:=f) h.pP _ (Nat.le_refl _)
 rw[w6w]
 have h0:∀c,c<W->c≠f->¬isP (qd0 M W).2 c->nI (q0f W f (qf7 (qd0 M W).1 (qd0 M W).2 f (qd0 M W).2.length) (qd0 M W).2 (λk=>((0-nI (nL (qd0 M W).1 k) f)*qf7 (qd0 M W).1 (qd0 M W).2 f (qd0 M W).2.length).tdiv (nI (nL (qd0 M W).1 k) (nI (qd0 M W).2 k).toNat)) (qd0 M W).2.length) c=0:=λc hc h1 h2=>wr9 hf hP h1 h2 _ (Nat.le_refl _)
 refine⟨qx4 _ _ _ _ _ _,hst.sol_mk hf hnp h0 λk hk=>?_,h0,?_⟩
 ·rw[ws0 hP (λq k hq hk=>hst.inj hq hk) _ (Nat.le_refl _) k hk,q7r hf hP hnp _ (Nat.le_refl _)]
  have hp:=(h.pP k hk).1
  have hd:=(w0h (r:=nI (nL (qd0 M W).1 k) f) hp).2.2 _ (hT.2.2 k hk)
  rw[Int.mul_tdiv_cancel' hd]
  grind
 ·rw[q7r hf hP hnp _ (Nat.le_refl _)]
  exact hT.1
theorem Ones.kvR {n W:Nat} {M:List (List Int)} (h:Ones n W M) {f:Nat} (hf:f<W) (hnp:¬isP (qg6 M W).piv f):KV n W (rowOf M) (qg6 M W).piv f (q7y (qg6 M W).done_ (qg6 M W).piv W f (qg6 M W).piv.length):=by
 have hst:=h.stR
 have hP:∀k,k<(qg6 M W).piv.length->0<=nI (qg6 M W).piv k/\nI (qg6 M W).piv k<W:=λk hk=>by have:=hst.pos k hk; omega
 have hT:=wc8 h.pR _ (Nat.le_refl _)
 rw[w0g]
 have h0:∀c,c<W->c≠f->¬isP (qg6 M W).piv c->nI (q0f W f (ql2 (qg6 M W).done_ (qg6 M W).piv (qg6 M W).piv.length) (qg6 M W).piv (λk=>(0-nI (nL (qg6 M W).done_ k) f)*(ql2 (qg6 M W).done_ (qg6 M W).piv (qg6 M W).piv.length).tdiv (q63 (qg6 M W).done_ (qg6 M W).piv k)) (qg6 M W).piv.length) c=0:=λc hc h1 h2=>wr9 hf hP h1 h2 _ (Nat.le_refl _)
 refine⟨qx4 _ _ _ _ _ _,hst.sol_mk hf hnp h0 λk hk=>?_,h0,?_⟩
 ·rw[ws0 hP (λq k hq hk=>hst.inj hq hk) _ (Nat.le_refl _) k hk,q7r hf hP hnp _ (Nat.le_refl _),h.at_ hk]
  have hd:q63 (qg6 M W).done_ (qg6 M W).piv k*(ql2 (qg6 M W).done_ (qg6 M W).piv (qg6 M W).piv.length).tdiv (q63 (qg6 M W).done_ (qg6 M W).piv k)=_:=Int.mul_tdiv_cancel' (hT.2.2 k hk)
  have e:nI (nL (qg6 M W).done_ k) (nI (qg6 M W).piv k).toNat=q63 (qg6 M W).done_ (qg6 M W).piv k:=rfl
  rw[e]
  grind
 ·rw[q7r hf hP hnp _ (Nat.le_refl _)]
  exact hT.1
theorem Ones.piv {n W:Nat} {M:List (List Int)} (h:Ones n W M) (c:Nat):isP (qd0 M W).2 c↔isP (qg6 M W).piv c:=⟨h.stP.piv_same h.stR,h.stR.piv_same h.stP⟩
theorem Ones.ker {n W:Nat} {M:List (List Int)} (h:Ones n W M):∀f,f<=W->qo8 (qd0 M W).1 (qd0 M W).2 W f=qh8 (qg6 M W).done_ (qg6 M W).piv W f
 | 0,_=>rfl
 | f+1,hf=>by
  have ih:=h.ker f (by omega)
  rw[qo8,qh8,ih]
  by_cases q:isP (qd0 M W).2 f
  ·rw[if_pos (w6v.2 q),if_neg λq2=>q4m.1 q2 ((h.piv f).1 q)]
  ·have q2:¬isP (qg6 M W).piv f:=λq3=>q ((h.piv f).2 q3)
   rw[if_neg λq3=>q (w6v.1 q3),if_pos (q4m.2 q2),q40]
   have a:=(h.kvP (by omega) q).prim (by omega)
   have b:=((h.kvR (by omega) q2).prim (by omega)).trans λc=>(h.piv c).symm
   rw[a.uniq h.stP (by omega) q b (qo6 _) (qo6 _)]
theorem Ones.kernel {n W:Nat} {M:List (List Int)} (h:Ones n W M):qo8 (qd0 M W).1 (qd0 M W).2 W W=qg5 M:=by
 rw[h.ker W (Nat.le_refl _)]
 unfold qg5 qa1
 rw[h.rdW]
theorem Ones.kerAr {n W:Nat} {M:List (List Int)} (h:Ones n W M):w5k (qd0 M W).1 (qd0 M W).2 W:=by
 have hB:BIG=4000000000000000000:=rfl
 have hst:=h.stP
 have hpl:=hst.pl
 have hn:=h.n6
 have hsm:=λ{k} (hk:k<(qd0 M W).2.length)=>(hst.small h.small (Nat.le_refl _) (i:=k) (by omega)).1
 have hT:=λf=>q4n (f:=f) h.pP
 refine⟨λk hk=>?_,λk hk i hi=>?_,λf hf _ k hk=>?_,λf hf _ k hk=>?_⟩
 ·have:=(h.pP k hk).1; omega
 ·have:=hsm hk i hi
  constructor <;> omega
 ·obtain⟨a,b,_⟩:=hT f k hk
  have:=w0i (k:=k) (by omega)
  exact⟨by constructor <;> omega,by omega⟩
 ·obtain⟨a,b,_⟩:=hT f _ (Nat.le_refl _)
  have:=w0i (k:=(qd0 M W).2.length) (by omega)
  have h1:=hsm hk f hf
  have:=q07 (a:=0-nI (nL (qd0 M W).1 k) f) (A:=46656) (by omega) (Nat.le_trans b this)
  constructor <;> omega
theorem Ones.krOk {n W:Nat} {M:List (List Int)} (h:Ones n W M):xl8 M:=by
 have hB:BIG=4000000000000000000:=rfl
 have hrst:=qv7 h.toMat W (Nat.le_refl _)
 have hst:=h.stR
 have hpl:=hst.pl
 have hn:=h.n6
 have h1:=h.n1
 have hlen:=h.len
 have hsm:=λ{k} (hk:k<(qg6 M W).piv.length)=>(hst.small h.small (Nat.le_refl _) (i:=k) (by omega)).1
 have hT:=wc8 h.pR
 refine⟨h.rdOk,by omega,?_⟩
 unfold qa1
 rw[h.rdW]
 refine⟨hrst.cnt,λk hk=>?_,λk hk=>?_,λk hk=>?_,λk hk i hi=>?_,λf hf _ k hk=>?_,λf hf _ k hk=>?_⟩
 ·try dsimp only at hk
  rw[hrst.cnt] at hk
  try dsimp only
  rw[<- h.at_ hk]
  exact hst.each k (by omega)
 ·have:=hst.pos k hk; try dsimp only
  omega
 ·have:=(h.pR k hk).1; try dsimp only
  omega
 ·have hk:k<(qg6 M W).piv.length:=hk
  have:=hsm hk i hi
  rw[h.at_ hk] at this
  try dsimp only
  constructor <;> omega
 ·have hk:k<=(qg6 M W).piv.length:=hk
  obtain⟨a,b,_⟩:=hT k hk
  have:=w0i (k:=k) (by omega)
  try dsimp only
  constructor <;> omega
 ·have hk:k<(qg6 M W).piv.length:=hk
  obtain⟨a,b,_⟩:=hT _ (Nat.le_refl _)
  have h2:=w0i (k:=(qg6 M W).piv.length) (by omega)
  have h3:=hsm hk f hf
  rw[h.at_ hk] at h3
  have:=q07 (a:=0-nI (nL (qg6 M W).done_ k) f) (b:=(ql2 (qg6 M W).done_ (qg6 M W).piv (qg6 M W).piv.length).tdiv (q63 (qg6 M W).done_ (qg6 M W).piv k)) (A:=46656) (B:=16777216000000) (by omega) (Nat.le_trans (q3q _ _) (Nat.le_trans b h2))
  try dsimp only
  constructor <;> omega
def q7s (M:List (List Int)) (W:Nat):List Nat:=(List.range W).filter λc=>qn0 (qg6 M W).piv c (qg6 M W).piv.length
theorem q9e (d:List (List Int)) (P:List Int) (n:Nat):∀f,qh8 d P n f=((List.range f).filter λc=>qn0 P c P.length).map λc=>qj7 (q7y d P n c P.length)
 | 0=>rfl
 | f+1=>by
  rw[qh8,q9e d P n f,List.range_succ,List.filter_append,List.map_append]
  by_cases q:qn0 P f P.length=true
  ·rw[if_pos q]
   simp[List.filter,q]
  ·rw[if_neg q]
   have q:qn0 P f P.length=false:=by simpa using q
   simp[List.filter,q]
theorem Ones.kernel_map {n W:Nat} {M:List (List Int)} (h:Ones n W M):qg5 M=(q7s M W).map λc=>qj7 (q7y (qg6 M W).done_ (qg6 M W).piv W c (qg6 M W).piv.length):=by
 unfold qg5 qa1
 rw[h.rdW,q9e]
 rfl
theorem qx5 {M:List (List Int)} {W c:Nat}:c∈q7s M W↔c<W/\¬isP (qg6 M W).piv c:=by
 unfold q7s
 rw[List.mem_filter,List.mem_range,q4m]
theorem Ones.one_free {n W:Nat} {M:List (List Int)} (h:Ones n W M) (h1:(qg5 M).length=1):∃f,f<W/\¬isP (qg6 M W).piv f/\(∀c,c<W->c≠f->isP (qg6 M W).piv c)/\KV n W (rowOf M) (qg6 M W).piv f (nL (qg5 M) 0)/\Prim (nL (qg5 M) 0):=by
 rw[h.kernel_map] at h1 ⊢
 rw[List.length_map] at h1
 obtain⟨f,hf⟩:=List.length_eq_one_iff.1 h1
 have hm:f∈q7s M W:=by rw[hf]; simp
 obtain⟨hfW,hnp⟩:=qx5.1 hm
 refine⟨f,hfW,hnp,λc hc hne=>Classical.byContradiction λq=>?_,?_,?_⟩
 ·have:c∈q7s M W:=qx5.2 ⟨hc,q⟩
  rw[hf] at this
  exact hne (by simpa using this)
 ·rw[hf]
  exact(h.kvR hfW hnp).prim hfW
 ·rw[hf]
  exact qo6 _
theorem Ones.ker_small {n W:Nat} {M:List (List Int)} (h:Ones n W M) {v:List Int} (hv:v∈qg5 M):v.length=W/\∀x∈v,x.natAbs<=160:=by
 rw[h.kernel_map] at hv
 obtain⟨f,hf,rfl⟩:=List.mem_map.1 hv
 obtain⟨hfW,hnp⟩:=qx5.1 hf
 have hk:=(h.kvR hfW hnp).prim hfW
 exact⟨hk.len,hk.small h.stR h.n6 h.one hfW hnp (qo6 _)⟩
theorem Ones.one_mk {n W:Nat} {M:List (List Int)} (h:Ones n W M) {u:Nat->Int} (hu:Sol n W (rowOf M) u) (hu0:∀c,c<W->u c≠0) (hmin:∀z,Sol n W (rowOf M) z->(∃c,c<W/\z c=0)->∀c,c<W->z c=0):(qg5 M).length=1/\∀c,c<W->nI (nL (qg5 M) 0) c≠0:=by
 have hw:=h.w1
 have two:∀f g,f∈q7s M W->g∈q7s M W->f=g:=λf g hf hg=>Classical.byContradiction λhne=>by
  obtain⟨hfW,hfn⟩:=qx5.1 hf
  obtain⟨hgW,hgn⟩:=qx5.1 hg
  have hk:=h.kvR hfW hfn
  have:=hmin _ hk.sol ⟨g,hgW,hk.free g hgW (Ne.symm hne) hgn⟩ f hfW
  have:=hk.pos
  omega
 have ex:∃f,f∈q7s M W:=Classical.byContradiction λhno=>by
  have hall:∀c,c<W->isP (qg6 M W).piv c:=λc hc=>Classical.byContradiction λq=>hno ⟨c,qx5.2 ⟨hc,q⟩⟩
  obtain⟨k,hk,e⟩:=hall 0 hw
  have hst:=h.stR
  have hpl:=hst.pl
  have hp:=hst.pos k hk
  have h1:=(hst.sol u).1 hu k (by omega)
  unfold dt at h1
  rw[e,Int.toNat_natCast] at hp
  rw[qs2 (k:=0) hw λc hc hne=>?_] at h1
  ·exact hu0 0 hw (qd4 h1 (by omega))
  ·try dsimp only
   obtain⟨q,hq,e2⟩:=hall c hc
   have:=(hst.pos q hq).2.2.2.2 k (by omega) λe3=>hne (by rw[e3,e2] at e; omega)
   rw[e2,Int.toNat_natCast] at this
   rw[this,Int.zero_mul]
 obtain⟨f,hf⟩:=ex
 have hnd:(q7s M W).Nodup:=List.nodup_range.filter _
 have h1:(q7s M W).length=1:=by
  match hl:q7s M W,hnd with
  | [],_=>rw[hl] at hf; cases hf
  | [a],_=>rfl
  | a :: b :: t,hnd=>
   have:=two a b (by rw[hl]; simp) (by rw[hl]; simp)
   rw[this] at hnd
   simp at hnd
 have hk1:(qg5 M).length=1:=by rw[h.kernel_map,List.length_map]; exact h1
 refine⟨hk1,λc hc q=>?_⟩
 obtain⟨f,hfW,hfn,_,hv,_⟩:=h.one_free hk1
 have:=hmin _ hv.sol ⟨c,hc,q⟩ f hfW
 have:=hv.pos
 omega
end Go.Proofs.Ytdibdlelmkcccaa
