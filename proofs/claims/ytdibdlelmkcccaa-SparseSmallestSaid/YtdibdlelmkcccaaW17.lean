/- Circuits are the least solutions; twins. Plain mathematics. No condition. -/
import Derived.Test.YtdibdlelmkcccaaW14
set_option linter.unusedVariables false
namespace Go.Proofs.Ytdibdlelmkcccaa
open Go Go.RowKit Eng
theorem w7q {P:List Int} {f:Nat}:(P.any λe=>(f:Int)==e)=true↔isP P f:=by
 rw[List.any_eq_true]
 constructor
 ·rintro⟨x,hx,e⟩
  obtain⟨q,hq,rfl⟩:=q8m hx
  exact⟨q,hq,(beq_iff_eq.1 e).symm⟩
 ·rintro⟨q,hq,e⟩
  exact⟨nI P q,wz9 hq,beq_iff_eq.2 e.symm⟩
theorem wl1 (P:List Int) (f:Nat):∀k,wj3 P f k=true↔∀q,q<k->nI P q≠(f:Int)
 | 0=>⟨λ_ q hq=>absurd hq (Nat.not_lt_zero _),λ_=>rfl⟩
 | k+1=>by
  rw[wj3,Bool.and_eq_true,wl1 P f k,bne_iff_ne]
  constructor
  ·rintro⟨h1,h2⟩ q hq
   rcases Nat.lt_succ_iff_lt_or_eq.1 hq with e | e
   ·exact h1 q e
   ·rw[e]; exact h2
  ·exact λh=>⟨λq hq=>h q (by omega),h k (by omega)⟩
theorem q8u {P:List Int} {f:Nat}:wj3 P f P.length=true↔¬isP P f:=by rw[wl1,wb0]
def qy7 (n f:Nat) (t:Int) (P:List Int) (val:Nat->Int):Nat->List Int
 | 0=>(List.replicate n 0).set f t
 | k+1=>(qy7 n f t P val k).set (nI P k).toNat (val k)
theorem qw3 (n f:Nat) (t:Int) (P:List Int) (val:Nat->Int):∀k,(qy7 n f t P val k).length=n
 | 0=>by simp[qy7]
 | k+1=>by rw[qy7,List.length_set]; exact qw3 n f t P val k
theorem xz0 (n c:Nat):nI (List.replicate n (0:Int)) c=0:=by
 rcases Nat.lt_or_ge c n with h | h
 ·rw[qi5 _ _ (by simpa using h)]; simp
 ·exact q3p _ (by simpa using h)
theorem q63 {n f:Nat} {t:Int} {P:List Int} {val:Nat->Int} (hf:f<n) (hP:∀k,k<P.length->0<=nI P k/\nI P k<n) (hnp:¬isP P f):∀k,k<=P.length->nI (qy7 n f t P val k) f=t
 | 0,_=>by rw[qy7,wk7 _ (by simpa using hf),if_pos rfl]
 | k+1,hk=>by
  have:=hP k (by omega)
  rw[qy7,wk7 _ (by rw[qw3]; omega),if_neg λe=>hnp ⟨k,by omega,by omega⟩]
  exact q63 hf hP hnp k (by omega)
theorem wr1 {n f:Nat} {t:Int} {P:List Int} {val:Nat->Int} (hf:f<n) (hP:∀k,k<P.length->0<=nI P k/\nI P k<n) {c:Nat} (hc:c≠f) (hnp:¬isP P c):∀k,k<=P.length->nI (qy7 n f t P val k) c=0
 | 0,_=>by rw[qy7,wk7 _ (by simpa using hf),if_neg hc,xz0]
 | k+1,hk=>by
  have:=hP k (by omega)
  rw[qy7,wk7 _ (by rw[qw3]; omega),if_neg λe=>hnp ⟨k,by omega,by omega⟩]
  exact wr1 hf hP hc hnp k (by omega)
theorem wr5 {n f:Nat} {t:Int} {P:List Int} {val:Nat->Int} (hP:∀k,k<P.length->0<=nI P k/\nI P k<n) (hinj:∀q k,q<P.length->k<P.length->nI P q=nI P k->q=k):∀k,k<=P.length->∀q,q<k->nI (qy7 n f t P val k) (nI P q).toNat=val q
 | 0,_,q,hq=>absurd hq (Nat.not_lt_zero _)
 | k+1,hk,q,hq=>by
  have h1:=hP k (by omega)
  have h2:=hP q (by omega)
  rw[qy7,wk7 _ (by rw[qw3]; omega)]
  rcases Nat.lt_succ_iff_lt_or_eq.1 hq with e | e
  ·rw[if_neg λe2=>by have:=hinj q k (by omega) (by omega) (by omega); omega]
   exact wr5 hP hinj k (by omega) q e
  ·rw[if_pos (by rw[e]),e]
theorem w7r (r:List (List Int)) (P:List Int) (n f:Nat):∀k,hTo r P n f k=qy7 n f (qf4 r P f P.length) P (λk=>((0-nI (nL r k) f)*qf4 r P f P.length).tdiv (nI (nL r k) (nI P k).toNat)) k
 | 0=>rfl
 | k+1=>by rw[hTo,qy7,w7r r P n f k]
theorem w0s (r:List (List Int)) (P:List Int) (n f:Nat):∀k,xw1 r P n f k=qy7 n f (q3n r P P.length) P (λk=>(0-nI (nL r k) f)*(q3n r P P.length).tdiv (w2p r P k)) k
 | 0=>rfl
 | k+1=>by rw[xw1,qy7,w0s r P n f k]
theorem w7s (a b:Int):∃x,a=qf2 a b*x:=by
 have h:qf2 a b∣a:=Int.natAbs_dvd_natAbs.1 (Nat.gcd_dvd_left _ _)
 exact h
theorem w7t (a b:Int):∃x,b=qf2 a b*x:=by
 have h:qf2 a b∣b:=Int.natAbs_dvd_natAbs.1 (Nat.gcd_dvd_right _ _)
 exact h
theorem xg0 {a d:Int} (ha:0<a) (hd:0<d):0<a*d.tdiv (qf2 a d)/\a∣a*d.tdiv (qf2 a d)/\d∣a*d.tdiv (qf2 a d)/\(a*d.tdiv (qf2 a d)).natAbs<=a.natAbs*d.natAbs/\a.tdiv (qf2 a d)*d=a*d.tdiv (qf2 a d):=by
 have hg:=qp3 (a:=a) (b:=d) (.inl (by omega))
 obtain⟨x,hx⟩:=w7s a d
 obtain⟨y,hy⟩:=w7t a d
 generalize qf2 a d=g at hg hx hy ⊢
 have e1:d.tdiv g=y:=by rw[hy]; exact Int.mul_tdiv_cancel_left _ (by omega)
 have e2:a.tdiv g=x:=by rw[hx]; exact Int.mul_tdiv_cancel_left _ (by omega)
 have hy0:0<y:=q38 hg (by omega)
 rw[e1,e2]
 refine⟨Int.mul_pos ha hy0,⟨y,rfl⟩,⟨x,by rw[hx,hy]; grind⟩,?_,by rw[hx,hy]; grind⟩
 rw[Int.natAbs_mul]
 refine Nat.mul_le_mul_left _ ?_
 rw[<- e1]
 exact q4y _ _
theorem w0t {p r:Int} (hp:0<p):0<p.tdiv (qf2 p r)/\(p.tdiv (qf2 p r)).natAbs<=p.natAbs/\∀t,p.tdiv (qf2 p r)∣t->p∣(0-r)*t:=by
 have hg:=qp3 (a:=p) (b:=r) (.inl (by omega))
 obtain⟨x,hx⟩:=w7s p r
 obtain⟨y,hy⟩:=w7t p r
 refine⟨?_,q4y _ _,λt ht=>?_⟩
 ·generalize qf2 p r=g at hg hx hy ⊢
  rw[hx,Int.mul_tdiv_cancel_left _ (by omega)]
  exact q38 hg (by omega)
 ·generalize qf2 p r=g at hg hx hy ht
  rw[hx,Int.mul_tdiv_cancel_left _ (by omega)] at ht
  obtain⟨u,hu⟩:=ht
  exact⟨- (y*u),by rw[hu,hx,hy]; grind⟩
theorem q8v {r:List (List Int)} {P:List Int} {f:Nat} (hp:∀k,k<P.length->0<nI (nL r k) (nI P k).toNat/\(nI (nL r k) (nI P k).toNat).natAbs<=160):∀k,k<=P.length->0<qf4 r P f k/\(qf4 r P f k).natAbs<=160 ^ k/\∀q,q<k->q4c r P f q∣qf4 r P f k
 | 0,_=>⟨by show(0:Int)<1; decide,by show(1:Int).natAbs<=160 ^ 0; decide,λq hq=>absurd hq (Nat.not_lt_zero _)⟩
 | k+1,hk=>by
  obtain⟨a1,a2,a3⟩:=q8v hp k (by omega)
  obtain⟨b1,b2⟩:=hp k (by omega)
  obtain⟨c1,c2,_⟩:=w0t (r:=nI (nL r k) f) b1
  change 0<q4c r P f k at c1
  change(q4c r P f k).natAbs<=_ at c2
  obtain⟨d1,d2,d3,d4,_⟩:=xg0 a1 c1
  rw[qf4]
  refine⟨d1,?_,λq hq=>?_⟩
  ·rw[Nat.pow_succ]
   exact Nat.le_trans d4 (Nat.mul_le_mul a2 (by omega))
  ·rcases Nat.lt_succ_iff_lt_or_eq.1 hq with e | e
   ·exact Int.dvd_trans (a3 q e) d2
   ·rw[e]; exact d3
theorem w0u {r:List (List Int)} {P:List Int} (hp:∀k,k<P.length->0<w2p r P k/\(w2p r P k).natAbs<=160):∀k,k<=P.length->0<q3n r P k/\(q3n r P k).natAbs<=160 ^ k/\∀q,q<k->w2p r P q∣q3n r P k
 | 0,_=>⟨by show(0:Int)<1; decide,by show(1:Int).natAbs<=160 ^ 0; decide,λq hq=>absurd hq (Nat.not_lt_zero _)⟩
 | k+1,hk=>by
  obtain⟨a1,a2,a3⟩:=w0u hp k (by omega)
  obtain⟨b1,b2⟩:=hp k (by omega)
  obtain⟨d1,d2,d3,d4,d5⟩:=xg0 a1 b1
  rw[q3n,d5]
  refine⟨d1,?_,λq hq=>?_⟩
  ·rw[Nat.pow_succ]
   exact Nat.le_trans d4 (Nat.mul_le_mul a2 b2)
  ·rcases Nat.lt_succ_iff_lt_or_eq.1 hq with e | e
   ·exact Int.dvd_trans (a3 q e) d2
   ·rw[e]; exact d3
structure Ones (n W:Nat) (M:List (List Int)):Prop extends Mat n W M where
 n1:0<n
 n6:n<=6
 w1:0<W
 w:W<=1000
 one:∀a c,a<n->c<W->(nI (nL M a) c).natAbs<=1
theorem Ones.small {n W:Nat} {M:List (List Int)} (h:Ones n W M):Small n W W M:=⟨h.toMat,h.n6,Nat.le_refl _,h.w,h.one,λa c ha hc=>by have:=h.one a c ha hc; omega⟩
theorem Ones.rdW {n W:Nat} {M:List (List Int)} (h:Ones n W M):rdW M=W:=h.each 0 h.n1
theorem Ones.stP {n W:Nat} {M:List (List Int)} (h:Ones n W M):St n W (rowOf M) W (qc0 M W).1 (qc0 M W).2:=qr4 h.toMat W (Nat.le_refl _)
theorem Ones.stR {n W:Nat} {M:List (List Int)} (h:Ones n W M):St n W (rowOf M) W ((qh9 M W).done_++(qh9 M W).left) (qh9 M W).piv:=(qy0 h.toMat W (Nat.le_refl _)).st
theorem Ones.at_ {n W:Nat} {M:List (List Int)} (h:Ones n W M) {k:Nat} (hk:k<(qh9 M W).piv.length):nL ((qh9 M W).done_++(qh9 M W).left) k=nL (qh9 M W).done_ k:=qk2 _ _ (by rw[(qy0 h.toMat W (Nat.le_refl _)).cnt]; exact hk)
theorem Ones.pP {n W:Nat} {M:List (List Int)} (h:Ones n W M):∀k,k<(qc0 M W).2.length->0<nI (nL (qc0 M W).1 k) (nI (qc0 M W).2 k).toNat/\(nI (nL (qc0 M W).1 k) (nI (qc0 M W).2 k).toNat).natAbs<=160:=λk hk=>
 ⟨(h.stP.pos k hk).2.2.1,h.stP.piv_160 h.n6 h.one hk⟩
theorem Ones.pR {n W:Nat} {M:List (List Int)} (h:Ones n W M):∀k,k<(qh9 M W).piv.length->0<w2p (qh9 M W).done_ (qh9 M W).piv k/\(w2p (qh9 M W).done_ (qh9 M W).piv k).natAbs<=160:=λk hk=>by
 have h1:=(h.stR.pos k hk).2.2.1
 have h2:=h.stR.piv_160 h.n6 h.one hk
 rw[h.at_ hk] at h1 h2
 exact⟨h1,h2⟩
theorem Ones.kvP {n W:Nat} {M:List (List Int)} (h:Ones n W M) {f:Nat} (hf:f<W) (hnp:¬isP (qc0 M W).2 f):KV n W (rowOf M) (qc0 M W).2 f (hTo (qc0 M W).1 (qc0 M W).2 W f (qc0 M W).2.length):=by
 have hst:=h.stP
 have hP:∀k,k<(qc0 M W).2.length->0<=nI (qc0 M W).2 k/\nI (qc0 M W).2 k<W:=λk hk=>by have:=hst.pos k hk; omega
 have hT:=q8v (f:=f) h.pP _ (Nat.le_refl _)
 rw[w7r]
 have h0:∀c,c<W->c≠f->¬isP (qc0 M W).2 c->nI (qy7 W f (qf4 (qc0 M W).1 (qc0 M W).2 f (qc0 M W).2.length) (qc0 M W).2 (λk=>((0-nI (nL (qc0 M W).1 k) f)*qf4 (qc0 M W).1 (qc0 M W).2 f (qc0 M W).2.length).tdiv (nI (nL (qc0 M W).1 k) (nI (qc0 M W).2 k).toNat)) (qc0 M W).2.length) c=0:=λc hc h1 h2=>wr1 hf hP h1 h2 _ (Nat.le_refl _)
 refine⟨qw3 _ _ _ _ _ _,hst.sol_mk hf hnp h0 λk hk=>?_,h0,?_⟩
 ·rw[wr5 hP (λq k hq hk=>hst.inj hq hk) _ (Nat.le_refl _) k hk,q63 hf hP hnp _ (Nat.le_refl _)]
  have hp:=(h.pP k hk).1
  have hd:=(w0t (r:=nI (nL (qc0 M W).1 k) f) hp).2.2 _ (hT.2.2 k hk)
  rw[Int.mul_tdiv_cancel' hd]
  grind
 ·rw[q63 hf hP hnp _ (Nat.le_refl _)]
  exact hT.1
theorem Ones.kvR {n W:Nat} {M:List (List Int)} (h:Ones n W M) {f:Nat} (hf:f<W) (hnp:¬isP (qh9 M W).piv f):KV n W (rowOf M) (qh9 M W).piv f (xw1 (qh9 M W).done_ (qh9 M W).piv W f (qh9 M W).piv.length):=by
 have hst:=h.stR
 have hP:∀k,k<(qh9 M W).piv.length->0<=nI (qh9 M W).piv k/\nI (qh9 M W).piv k<W:=λk hk=>by have:=hst.pos k hk; omega
 have hT:=w0u h.pR _ (Nat.le_refl _)
 rw[w0s]
 have h0:∀c,c<W->c≠f->¬isP (qh9 M W).piv c->nI (qy7 W f (q3n (qh9 M W).done_ (qh9 M W).piv (qh9 M W).piv.length) (qh9 M W).piv (λk=>(0-nI (nL (qh9 M W).done_ k) f)*(q3n (qh9 M W).done_ (qh9 M W).piv (qh9 M W).piv.length).tdiv (w2p (qh9 M W).done_ (qh9 M W).piv k)) (qh9 M W).piv.length) c=0:=λc hc h1 h2=>wr1 hf hP h1 h2 _ (Nat.le_refl _)
 refine⟨qw3 _ _ _ _ _ _,hst.sol_mk hf hnp h0 λk hk=>?_,h0,?_⟩
 ·rw[wr5 hP (λq k hq hk=>hst.inj hq hk) _ (Nat.le_refl _) k hk,q63 hf hP hnp _ (Nat.le_refl _),h.at_ hk]
  have hd:w2p (qh9 M W).done_ (qh9 M W).piv k*(q3n (qh9 M W).done_ (qh9 M W).piv (qh9 M W).piv.length).tdiv (w2p (qh9 M W).done_ (qh9 M W).piv k)=_:=Int.mul_tdiv_cancel' (hT.2.2 k hk)
  have e:nI (nL (qh9 M W).done_ k) (nI (qh9 M W).piv k).toNat=w2p (qh9 M W).done_ (qh9 M W).piv k:=rfl
  rw[e]
  grind
 ·rw[q63 hf hP hnp _ (Nat.le_refl _)]
  exact hT.1
theorem Ones.piv {n W:Nat} {M:List (List Int)} (h:Ones n W M) (c:Nat):isP (qc0 M W).2 c↔isP (qh9 M W).piv c:=⟨h.stP.piv_same h.stR,h.stR.piv_same h.stP⟩
theorem Ones.ker {n W:Nat} {M:List (List Int)} (h:Ones n W M):∀f,f<=W->qm8 (qc0 M W).1 (qc0 M W).2 W f=wj4 (qh9 M W).done_ (qh9 M W).piv W f
 | 0,_=>rfl
 | f+1,hf=>by
  have ih:=h.ker f (by omega)
  rw[qm8,wj4,ih]
  by_cases q:isP (qc0 M W).2 f
  ·rw[if_pos (w7q.2 q),if_neg λq2=>q8u.1 q2 ((h.piv f).1 q)]
  ·have q2:¬isP (qh9 M W).piv f:=λq3=>q ((h.piv f).2 q3)
   rw[if_neg λq3=>q (w7q.1 q3),if_pos (q8u.2 q2),q39]
   have a:=(h.kvP (by omega) q).prim (by omega)
   have b:=((h.kvR (by omega) q2).prim (by omega)).trans λc=>(h.piv c).symm
   rw[a.uniq h.stP (by omega) q b (qr8 _) (qr8 _)]
theorem Ones.kernel {n W:Nat} {M:List (List Int)} (h:Ones n W M):qm8 (qc0 M W).1 (qc0 M W).2 W W=w6e M:=by
 rw[h.ker W (Nat.le_refl _)]
 unfold w6e qu1
 rw[h.rdW]
end Go.Proofs.Ytdibdlelmkcccaa
set_option linter.unusedVariables false
namespace Go.Proofs.Ytdibdlelmkcccaa
open Go Go.RowKit Eng
theorem q64:∀(m k:Nat) (a:Int) (l:List Int),l.length=k->(∀i,i<k->a<=nI l i/\nI l i<a+m)->(∀i j,i<j->j<k->nI l i<nI l j)->l∈qn5 m k a
 | m,0,a,l,hl,_,_=>by
  have:l=[]:=List.eq_nil_of_length_eq_zero hl
  rw[w2a,this]; simp
 | 0,k+1,a,l,hl,hb,_=>by
  have:=hb 0 (by omega)
  omega
 | m+1,k+1,a,l,hl,hb,ha=>by
  match l,hl with
  | x :: t,hl=>
  have hl:t.length=k:=by simpa using hl
  rw[qn5,List.mem_append,List.mem_map]
  by_cases e:x=a
  ·refine .inl ⟨t,q64 m k (a+1) t hl (λi hi=>?_) (λi j hij hj=>ha (i+1) (j+1) (by omega) (by omega)),by rw[e]⟩
   have h1:=hb (i+1) (by omega)
   have h2:=ha 0 (i+1) (by omega) (by omega)
   rw[qq5] at h1
   rw[qs6,qq5] at h2
   omega
  ·refine .inr (q64 m (k+1) (a+1) (x :: t) (by simp[hl]) (λi hi=>?_) ha)
   have h0:=hb 0 (by omega)
   rw[qs6] at h0
   have h1:=hb i hi
   rcases Nat.eq_zero_or_pos i with q | q
   ·rw[q,qs6]; omega
   ·have h2:=ha 0 i q hi
    rw[qs6] at h2
    omega
theorem w7u {n:Nat} {s:List Int} (h:Named n s):s∈qe8 (n:Nat) (s.length:Nat):=by
 have hl:=h.len
 unfold qe8
 rw[if_pos (by omega)]
 refine q64 _ _ _ _ (by rw[Int.toNat_natCast]) (λi hi=>?_) λi j hij hj=>h.asc i j hij (by simpa using hj)
 rw[Int.toNat_natCast] at hi
 have:=h.at_ i hi
 rw[Int.toNat_natCast]
 omega
end Go.Proofs.Ytdibdlelmkcccaa
set_option linter.unusedVariables false
namespace Go.Proofs.Ytdibdlelmkcccaa
open Go Go.RowKit Eng
theorem Named.inj {n:Nat} {s:List Int} (h:Named n s) {i j:Nat} (hi:i<s.length) (hj:j<s.length) (e:(nI s i).toNat=(nI s j).toNat):i=j:=by
 have h1:=h.at_ i hi
 have h2:=h.at_ j hj
 rcases Nat.lt_trichotomy i j with q | q | q
 ·have:=h.asc i j q hj; omega
 ·exact q
 ·have:=h.asc j i q hi; omega
end Go.Proofs.Ytdibdlelmkcccaa
