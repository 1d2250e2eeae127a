/- The kernels of the program and of the reference are the same lists. Plain mathematics. No condition. -/
import Derived.Test.YtempacilejhbgaaW14
set_option linter.unusedVariables false
namespace Go.Proofs.Ytempacilejhbgaa
open Go Go.RowKit Eng
theorem w46 {P:List Int} {f:Nat}:(P.any λe=>(f:Int)==e)=true↔isP P f:=by
 rw[List.any_eq_true]
 constructor
 ·rintro⟨x,hx,e⟩
  obtain⟨q,hq,rfl⟩:=wh3 hx
  exact⟨q,hq,(beq_iff_eq.1 e).symm⟩
 ·rintro⟨q,hq,e⟩
  exact⟨nI P q,q6a hq,beq_iff_eq.2 e.symm⟩
theorem wh7 (P:List Int) (f:Nat):∀k,q2h P f k=true↔∀q,q<k->nI P q≠(f:Int)
 | 0=>⟨λ_ q hq=>absurd hq (Nat.not_lt_zero _),λ_=>rfl⟩
 | k+1=>by
  rw[q2h,Bool.and_eq_true,wh7 P f k,bne_iff_ne]
  constructor
  ·rintro⟨h1,h2⟩ q hq
   rcases Nat.lt_succ_iff_lt_or_eq.1 hq with e | e
   ·exact h1 q e
   ·rw[e]; exact h2
  ·exact λh=>⟨λq hq=>h q (by omega),h k (by omega)⟩
theorem q3d {P:List Int} {f:Nat}:q2h P f P.length=true↔¬isP P f:=by rw[wh7,q9o]
def qx8 (n f:Nat) (t:Int) (P:List Int) (val:Nat->Int):Nat->List Int
 | 0=>(List.replicate n 0).set f t
 | k+1=>(qx8 n f t P val k).set (nI P k).toNat (val k)
theorem qu9 (n f:Nat) (t:Int) (P:List Int) (val:Nat->Int):∀k,(qx8 n f t P val k).length=n
 | 0=>by simp[qx8]
 | k+1=>by rw[qx8,List.length_set]; exact qu9 n f t P val k
theorem w9s (n c:Nat):nI (List.replicate n (0:Int)) c=0:=by
 rcases Nat.lt_or_ge c n with h | h
 ·rw[qf9 _ _ (by simpa using h)]; simp
 ·exact q1h _ (by simpa using h)
theorem q6e {n f:Nat} {t:Int} {P:List Int} {val:Nat->Int} (hf:f<n) (hP:∀k,k<P.length->0<=nI P k/\nI P k<n) (hnp:¬isP P f):∀k,k<=P.length->nI (qx8 n f t P val k) f=t
 | 0,_=>by rw[qx8,q6d _ (by simpa using hf),if_pos rfl]
 | k+1,hk=>by
  have:=hP k (by omega)
  rw[qx8,q6d _ (by rw[qu9]; omega),if_neg λe=>hnp ⟨k,by omega,by omega⟩]
  exact q6e hf hP hnp k (by omega)
theorem wm5 {n f:Nat} {t:Int} {P:List Int} {val:Nat->Int} (hf:f<n) (hP:∀k,k<P.length->0<=nI P k/\nI P k<n) {c:Nat} (hc:c≠f) (hnp:¬isP P c):∀k,k<=P.length->nI (qx8 n f t P val k) c=0
 | 0,_=>by rw[qx8,q6d _ (by simpa using hf),if_neg hc,w9s]
 | k+1,hk=>by
  have:=hP k (by omega)
  rw[qx8,q6d _ (by rw[qu9]; omega),if_neg λe=>hnp ⟨k,by omega,by omega⟩]
  exact wm5 hf hP hc hnp k (by omega)
theorem wm6 {n f:Nat} {t:Int} {P:List Int} {val:Nat->Int} (hP:∀k,k<P.length->0<=nI P k/\nI P k<n) (hinj:∀q k,q<P.length->k<P.length->nI P q=nI P k->q=k):∀k,k<=P.length->∀q,q<k->nI (qx8 n f t P val k) (nI P q).toNat=val q
 | 0,_,q,hq=>absurd hq (Nat.not_lt_zero _)
 | k+1,hk,q,hq=>by
  have h1:=hP k (by omega)
  have h2:=hP q (by omega)
  rw[qx8,q6d _ (by rw[qu9]; omega)]
  rcases Nat.lt_succ_iff_lt_or_eq.1 hq with e | e
  ·rw[if_neg λe2=>by have:=hinj q k (by omega) (by omega) (by omega); omega]
   exact wm6 hP hinj k (by omega) q e
  ·rw[if_pos (by rw[e]),e]
theorem w47 (r:List (List Int)) (P:List Int) (n f:Nat):∀k,hTo r P n f k=qx8 n f (qe8 r P f P.length) P (λk=>((0-nI (nL r k) f)*qe8 r P f P.length).tdiv (nI (nL r k) (nI P k).toNat)) k
 | 0=>rfl
 | k+1=>by rw[hTo,qx8,w47 r P n f k]
theorem wu4 (r:List (List Int)) (P:List Int) (n f:Nat):∀k,xe5 r P n f k=qx8 n f (q27 r P P.length) P (λk=>(0-nI (nL r k) f)*(q27 r P P.length).tdiv (w0w r P k)) k
 | 0=>rfl
 | k+1=>by rw[xe5,qx8,wu4 r P n f k]
theorem w48 (a b:Int):∃x,a=gcdI a b*x:=by
 have h:gcdI a b∣a:=Int.natAbs_dvd_natAbs.1 (Nat.gcd_dvd_left _ _)
 exact h
theorem w49 (a b:Int):∃x,b=gcdI a b*x:=by
 have h:gcdI a b∣b:=Int.natAbs_dvd_natAbs.1 (Nat.gcd_dvd_right _ _)
 exact h
theorem w9t {a d:Int} (ha:0<a) (hd:0<d):0<a*d.tdiv (gcdI a d)/\a∣a*d.tdiv (gcdI a d)/\d∣a*d.tdiv (gcdI a d)/\(a*d.tdiv (gcdI a d)).natAbs<=a.natAbs*d.natAbs/\a.tdiv (gcdI a d)*d=a*d.tdiv (gcdI a d):=by
 have hg:=qs5 (a:=a) (b:=d) (.inl (by omega))
 obtain⟨x,hx⟩:=w48 a d
 obtain⟨y,hy⟩:=w49 a d
 generalize gcdI a d=g at hg hx hy ⊢
 have e1:d.tdiv g=y:=by rw[hy]; exact Int.mul_tdiv_cancel_left _ (by omega)
 have e2:a.tdiv g=x:=by rw[hx]; exact Int.mul_tdiv_cancel_left _ (by omega)
 have hy0:0<y:=wh2 hg (by omega)
 rw[e1,e2]
 refine⟨Int.mul_pos ha hy0,⟨y,rfl⟩,⟨x,by rw[hx,hy]; grind⟩,?_,by rw[hx,hy]; grind⟩
 rw[Int.natAbs_mul]
 refine Nat.mul_le_mul_left _ ?_
 rw[<- e1]
 exact q4c _ _
theorem wu5 {p r:Int} (hp:0<p):0<p.tdiv (gcdI p r)/\(p.tdiv (gcdI p r)).natAbs<=p.natAbs/\∀t,p.tdiv (gcdI p r)∣t->p∣(0-r)*t:=by
 have hg:=qs5 (a:=p) (b:=r) (.inl (by omega))
 obtain⟨x,hx⟩:=w48 p r
 obtain⟨y,hy⟩:=w49 p r
 refine⟨?_,q4c _ _,λt ht=>?_⟩
 ·generalize gcdI p r=g at hg hx hy ⊢
  rw[hx,Int.mul_tdiv_cancel_left _ (by omega)]
  exact wh2 hg (by omega)
 ·generalize gcdI p r=g at hg hx hy ht
  rw[hx,Int.mul_tdiv_cancel_left _ (by omega)] at ht
  obtain⟨u,hu⟩:=ht
  exact⟨- (y*u),by rw[hu,hx,hy]; grind⟩
theorem q3e {r:List (List Int)} {P:List Int} {f:Nat} (hp:∀k,k<P.length->0<nI (nL r k) (nI P k).toNat/\(nI (nL r k) (nI P k).toNat).natAbs<=160):∀k,k<=P.length->0<qe8 r P f k/\(qe8 r P f k).natAbs<=160 ^ k/\∀q,q<k->q3r r P f q∣qe8 r P f k
 | 0,_=>⟨by show(0:Int)<1; decide,by show(1:Int).natAbs<=160 ^ 0; decide,λq hq=>absurd hq (Nat.not_lt_zero _)⟩
 | k+1,hk=>by
  obtain⟨a1,a2,a3⟩:=q3e hp k (by omega)
  obtain⟨b1,b2⟩:=hp k (by omega)
  obtain⟨c1,c2,_⟩:=wu5 (r:=nI (nL r k) f) b1
  change 0<q3r r P f k at c1
  change(q3r r P f k).natAbs<=_ at c2
  obtain⟨d1,d2,d3,d4,_⟩:=w9t a1 c1
  rw[qe8]
  refine⟨d1,?_,λq hq=>?_⟩
  ·rw[Nat.pow_succ]
   exact Nat.le_trans d4 (Nat.mul_le_mul a2 (by omega))
  ·rcases Nat.lt_succ_iff_lt_or_eq.1 hq with e | e
   ·exact Int.dvd_trans (a3 q e) d2
   ·rw[e]; exact d3
theorem wu6 {r:List (List Int)} {P:List Int} (hp:∀k,k<P.length->0<w0w r P k/\(w0w r P k).natAbs<=160):∀k,k<=P.length->0<q27 r P k/\(q27 r P k).natAbs<=160 ^ k/\∀q,q<k->w0w r P q∣q27 r P k
 | 0,_=>⟨by show(0:Int)<1; decide,by show(1:Int).natAbs<=160 ^ 0; decide,λq hq=>absurd hq (Nat.not_lt_zero _)⟩
 | k+1,hk=>by
  obtain⟨a1,a2,a3⟩:=wu6 hp k (by omega)
  obtain⟨b1,b2⟩:=hp k (by omega)
  obtain⟨d1,d2,d3,d4,d5⟩:=w9t a1 b1
  rw[q27,d5]
  refine⟨d1,?_,λq hq=>?_⟩
  ·rw[Nat.pow_succ]
   exact Nat.le_trans d4 (Nat.mul_le_mul a2 b2)
  ·rcases Nat.lt_succ_iff_lt_or_eq.1 hq with e | e
   ·exact Int.dvd_trans (a3 q e) d2
   ·rw[e]; exact d3
theorem w9u {k:Nat} (h:k<=6):160 ^ k<=16777216000000:=Nat.le_trans (Nat.pow_le_pow_right (by decide) h) (by decide)
structure Ones (n W:Nat) (M:List (List Int)):Prop extends Mat n W M where
 n1:0<n
 n6:n<=6
 w1:0<W
 w:W<=1000
 one:∀a c,a<n->c<W->(nI (nL M a) c).natAbs<=1
theorem Ones.small {n W:Nat} {M:List (List Int)} (h:Ones n W M):Small n W W M:=⟨h.toMat,h.n6,Nat.le_refl _,h.w,h.one,λa c ha hc=>by have:=h.one a c ha hc; omega⟩
theorem Ones.rdW {n W:Nat} {M:List (List Int)} (h:Ones n W M):rdW M=W:=h.each 0 h.n1
theorem Ones.stP {n W:Nat} {M:List (List Int)} (h:Ones n W M):St n W (rowOf M) W (qc9 M W).1 (qc9 M W).2:=q4b h.toMat W (Nat.le_refl _)
theorem Ones.stR {n W:Nat} {M:List (List Int)} (h:Ones n W M):St n W (rowOf M) W ((qk4 M W).done_++(qk4 M W).left) (qk4 M W).piv:=(q9n h.toMat W (Nat.le_refl _)).st
theorem Ones.at_ {n W:Nat} {M:List (List Int)} (h:Ones n W M) {k:Nat} (hk:k<(qk4 M W).piv.length):nL ((qk4 M W).done_++(qk4 M W).left) k=nL (qk4 M W).done_ k:=qu8 _ _ (by rw[(q9n h.toMat W (Nat.le_refl _)).cnt]; exact hk)
theorem Ones.redOk {n W:Nat} {M:List (List Int)} (h:Ones n W M):q87 M W W:=w43 h.small
theorem Ones.pP {n W:Nat} {M:List (List Int)} (h:Ones n W M):∀k,k<(qc9 M W).2.length->0<nI (nL (qc9 M W).1 k) (nI (qc9 M W).2 k).toNat/\(nI (nL (qc9 M W).1 k) (nI (qc9 M W).2 k).toNat).natAbs<=160:=λk hk=>
 ⟨(h.stP.pos k hk).2.2.1,h.stP.piv_160 h.n6 h.one hk⟩
theorem Ones.pR {n W:Nat} {M:List (List Int)} (h:Ones n W M):∀k,k<(qk4 M W).piv.length->0<w0w (qk4 M W).done_ (qk4 M W).piv k/\(w0w (qk4 M W).done_ (qk4 M W).piv k).natAbs<=160:=λk hk=>by
 have h1:=(h.stR.pos k hk).2.2.1
 have h2:=h.stR.piv_160 h.n6 h.one hk
 rw[h.at_ hk] at h1 h2
 exact⟨h1,h2⟩
theorem Ones.kvP {n W:Nat} {M:List (List Int)} (h:Ones n W M) {f:Nat} (hf:f<W) (hnp:¬isP (qc9 M W).2 f):KV n W (rowOf M) (qc9 M W).2 f (hTo (qc9 M W).1 (qc9 M W).2 W f (qc9 M W).2.length):=by
 have hst:=h.stP
 have hP:∀k,k<(qc9 M W).2.length->0<=nI (qc9 M W).2 k/\nI (qc9 M W).2 k<W:=λk hk=>by have:=hst.pos k hk; omega
 have hT:=q3e (f:=f) h.pP _ (Nat.le_refl _)
 rw[w47]
 have h0:∀c,c<W->c≠f->¬isP (qc9 M W).2 c->nI (qx8 W f (qe8 (qc9 M W).1 (qc9 M W).2 f (qc9 M W).2.length) (qc9 M W).2 (λk=>((0-nI (nL (qc9 M W).1 k) f)*qe8 (qc9 M W).1 (qc9 M W).2 f (qc9 M W).2.length).tdiv (nI (nL (qc9 M W).1 k) (nI (qc9 M W).2 k).toNat)) (qc9 M W).2.length) c=0:=λc hc h1 h2=>wm5 hf hP h1 h2 _ (Nat.le_refl _)
 refine⟨qu9 _ _ _ _ _ _,hst.sol_mk hf hnp h0 λk hk=>?_,h0,?_⟩
 ·rw[wm6 hP (λq k hq hk=>hst.inj hq hk) _ (Nat.le_refl _) k hk,q6e hf hP hnp _ (Nat.le_refl _)]
  have hp:=(h.pP k hk).1
  have hd:=(wu5 (r:=nI (nL (qc9 M W).1 k) f) hp).2.2 _ (hT.2.2 k hk)
  rw[Int.mul_tdiv_cancel' hd]
  grind
 ·rw[q6e hf hP hnp _ (Nat.le_refl _)]
  exact hT.1
theorem Ones.kvR {n W:Nat} {M:List (List Int)} (h:Ones n W M) {f:Nat} (hf:f<W) (hnp:¬isP (qk4 M W).piv f):KV n W (rowOf M) (qk4 M W).piv f (xe5 (qk4 M W).done_ (qk4 M W).piv W f (qk4 M W).piv.length):=by
 have hst:=h.stR
 have hP:∀k,k<(qk4 M W).piv.length->0<=nI (qk4 M W).piv k/\nI (qk4 M W).piv k<W:=λk hk=>by have:=hst.pos k hk; omega
 have hT:=wu6 h.pR _ (Nat.le_refl _)
 rw[wu4]
 have h0:∀c,c<W->c≠f->¬isP (qk4 M W).piv c->nI (qx8 W f (q27 (qk4 M W).done_ (qk4 M W).piv (qk4 M W).piv.length) (qk4 M W).piv (λk=>(0-nI (nL (qk4 M W).done_ k) f)*(q27 (qk4 M W).done_ (qk4 M W).piv (qk4 M W).piv.length).tdiv (w0w (qk4 M W).done_ (qk4 M W).piv k)) (qk4 M W).piv.length) c=0:=λc hc h1 h2=>wm5 hf hP h1 h2 _ (Nat.le_refl _)
 refine⟨qu9 _ _ _ _ _ _,hst.sol_mk hf hnp h0 λk hk=>?_,h0,?_⟩
 ·rw[wm6 hP (λq k hq hk=>hst.inj hq hk) _ (Nat.le_refl _) k hk,q6e hf hP hnp _ (Nat.le_refl _),h.at_ hk]
  have hd:w0w (qk4 M W).done_ (qk4 M W).piv k*(q27 (qk4 M W).done_ (qk4 M W).piv (qk4 M W).piv.length).tdiv (w0w (qk4 M W).done_ (qk4 M W).piv k)=_:=Int.mul_tdiv_cancel' (hT.2.2 k hk)
  have e:nI (nL (qk4 M W).done_ k) (nI (qk4 M W).piv k).toNat=w0w (qk4 M W).done_ (qk4 M W).piv k:=rfl
  rw[e]
  grind
 ·rw[q6e hf hP hnp _ (Nat.le_refl _)]
  exact hT.1
theorem Ones.piv {n W:Nat} {M:List (List Int)} (h:Ones n W M) (c:Nat):isP (qc9 M W).2 c↔isP (qk4 M W).piv c:=⟨h.stP.piv_same h.stR,h.stR.piv_same h.stP⟩
theorem Ones.ker {n W:Nat} {M:List (List Int)} (h:Ones n W M):∀f,f<=W->qm0 (qc9 M W).1 (qc9 M W).2 W f=q5s (qk4 M W).done_ (qk4 M W).piv W f
 | 0,_=>rfl
 | f+1,hf=>by
  have ih:=h.ker f (by omega)
  rw[qm0,q5s,ih]
  by_cases q:isP (qc9 M W).2 f
  ·rw[if_pos (w46.2 q),if_neg λq2=>q3d.1 q2 ((h.piv f).1 q)]
  ·have q2:¬isP (qk4 M W).piv f:=λq3=>q ((h.piv f).2 q3)
   rw[if_neg λq3=>q (w46.1 q3),if_pos (q3d.2 q2),q3p]
   have a:=(h.kvP (by omega) q).prim (by omega)
   have b:=((h.kvR (by omega) q2).prim (by omega)).trans λc=>(h.piv c).symm
   rw[a.uniq h.stP (by omega) q b (ql7 _) (ql7 _)]
theorem Ones.kernel {n W:Nat} {M:List (List Int)} (h:Ones n W M):qm0 (qc9 M W).1 (qc9 M W).2 W W=qi2 M:=by
 rw[h.ker W (Nat.le_refl _)]
 unfold qi2 q4a
 rw[h.rdW]
theorem Ones.kerAr {n W:Nat} {M:List (List Int)} (h:Ones n W M):w70 (qc9 M W).1 (qc9 M W).2 W:=by
 have hB:BIG=4000000000000000000:=rfl
 have hst:=h.stP
 have hpl:=hst.pl
 have hn:=h.n6
 have hsm:=λ{k} (hk:k<(qc9 M W).2.length)=>(hst.small h.small (Nat.le_refl _) (i:=k) (by omega)).1
 have hT:=λf=>q3e (f:=f) h.pP
 refine⟨λk hk=>?_,λk hk i hi=>?_,λf hf _ k hk=>?_,λf hf _ k hk=>?_⟩
 ·have:=(h.pP k hk).1; omega
 ·have:=hsm hk i hi
  constructor <;> omega
 ·obtain⟨a,b,_⟩:=hT f k hk
  have:=w9u (k:=k) (by omega)
  exact⟨by constructor <;> omega,by omega⟩
 ·obtain⟨a,b,_⟩:=hT f _ (Nat.le_refl _)
  have:=w9u (k:=(qc9 M W).2.length) (by omega)
  have h1:=hsm hk f hf
  have:=wm3 (a:=0-nI (nL (qc9 M W).1 k) f) (A:=46656) (by omega) (Nat.le_trans b this)
  constructor <;> omega
def q6f (M:List (List Int)) (W:Nat):List Nat:=(List.range W).filter λc=>q2h (qk4 M W).piv c (qk4 M W).piv.length
theorem q7y (d:List (List Int)) (P:List Int) (n:Nat):∀f,q5s d P n f=((List.range f).filter λc=>q2h P c P.length).map λc=>qr5 (xe5 d P n c P.length)
 | 0=>rfl
 | f+1=>by
  rw[q5s,q7y d P n f,List.range_succ,List.filter_append,List.map_append]
  by_cases q:q2h P f P.length=true
  ·rw[if_pos q]
   simp[List.filter,q]
  ·rw[if_neg q]
   have q:q2h P f P.length=false:=by simpa using q
   simp[List.filter,q]
theorem Ones.kernel_map {n W:Nat} {M:List (List Int)} (h:Ones n W M):qi2 M=(q6f M W).map λc=>qr5 (xe5 (qk4 M W).done_ (qk4 M W).piv W c (qk4 M W).piv.length):=by
 unfold qi2 q4a
 rw[h.rdW,q7y]
 rfl
theorem qv0 {M:List (List Int)} {W c:Nat}:c∈q6f M W↔c<W/\¬isP (qk4 M W).piv c:=by
 unfold q6f
 rw[List.mem_filter,List.mem_range,q3d]
theorem Ones.one_free {n W:Nat} {M:List (List Int)} (h:Ones n W M) (h1:(qi2 M).length=1):∃f,f<W/\¬isP (qk4 M W).piv f/\(∀c,c<W->c≠f->isP (qk4 M W).piv c)/\KV n W (rowOf M) (qk4 M W).piv f (nL (qi2 M) 0)/\Prim (nL (qi2 M) 0):=by
 rw[h.kernel_map] at h1 ⊢
 rw[List.length_map] at h1
 obtain⟨f,hf⟩:=List.length_eq_one_iff.1 h1
 have hm:f∈q6f M W:=by rw[hf]; simp
 obtain⟨hfW,hnp⟩:=qv0.1 hm
 refine⟨f,hfW,hnp,λc hc hne=>Classical.byContradiction λq=>?_,?_,?_⟩
 ·have:c∈q6f M W:=qv0.2 ⟨hc,q⟩
  rw[hf] at this
  exact hne (by simpa using this)
 ·rw[hf]
  exact(h.kvR hfW hnp).prim hfW
 ·rw[hf]
  exact ql7 _
theorem Ones.ker_small {n W:Nat} {M:List (List Int)} (h:Ones n W M) {v:List Int} (hv:v∈qi2 M):v.length=W/\∀x∈v,x.natAbs<=160:=by
 rw[h.kernel_map] at hv
 obtain⟨f,hf,rfl⟩:=List.mem_map.1 hv
 obtain⟨hfW,hnp⟩:=qv0.1 hf
 have hk:=(h.kvR hfW hnp).prim hfW
 exact⟨hk.len,hk.small h.stR h.n6 h.one hfW hnp (ql7 _)⟩
theorem Ones.one_mk {n W:Nat} {M:List (List Int)} (h:Ones n W M) {u:Nat->Int} (hu:Sol n W (rowOf M) u) (hu0:∀c,c<W->u c≠0) (hmin:∀z,Sol n W (rowOf M) z->(∃c,c<W/\z c=0)->∀c,c<W->z c=0):(qi2 M).length=1/\∀c,c<W->nI (nL (qi2 M) 0) c≠0:=by
 have hw:=h.w1
 have two:∀f g,f∈q6f M W->g∈q6f M W->f=g:=λf g hf hg=>Classical.byContradiction λhne=>by
  obtain⟨hfW,hfn⟩:=qv0.1 hf
  obtain⟨hgW,hgn⟩:=qv0.1 hg
  have hk:=h.kvR hfW hfn
  have:=hmin _ hk.sol ⟨g,hgW,hk.free g hgW (Ne.symm hne) hgn⟩ f hfW
  have:=hk.pos
  omega
 have ex:∃f,f∈q6f M W:=Classical.byContradiction λhno=>by
  have hall:∀c,c<W->isP (qk4 M W).piv c:=λc hc=>Classical.byContradiction λq=>hno ⟨c,qv0.2 ⟨hc,q⟩⟩
  obtain⟨k,hk,e⟩:=hall 0 hw
  have hst:=h.stR
  have hpl:=hst.pl
  have hp:=hst.pos k hk
  have h1:=(hst.sol u).1 hu k (by omega)
  unfold dt at h1
  rw[e,Int.toNat_natCast] at hp
  rw[qr7 (k:=0) hw λc hc hne=>?_] at h1
  ·exact hu0 0 hw (qd1 h1 (by omega))
  ·try dsimp only
   obtain⟨q,hq,e2⟩:=hall c hc
   have:=(hst.pos q hq).2.2.2.2 k (by omega) λe3=>hne (by rw[e3,e2] at e; omega)
   rw[e2,Int.toNat_natCast] at this
   rw[this,Int.zero_mul]
 obtain⟨f,hf⟩:=ex
 have hnd:(q6f M W).Nodup:=List.nodup_range.filter _
 have h1:(q6f M W).length=1:=by
  match hl:q6f M W,hnd with
  | [],_=>rw[hl] at hf; cases hf
  | [a],_=>rfl
  | a :: b :: t,hnd=>
   have:=two a b (by rw[hl]; simp) (by rw[hl]; simp)
   rw[this] at hnd
   simp at hnd
 have hk1:(qi2 M).length=1:=by rw[h.kernel_map,List.length_map]; exact h1
 refine⟨hk1,λc hc q=>?_⟩
 obtain⟨f,hfW,hfn,_,hv,_⟩:=h.one_free hk1
 have:=hmin _ hv.sol ⟨c,hc,q⟩ f hfW
 have:=hv.pos
 omega
end Go.Proofs.Ytempacilejhbgaa
