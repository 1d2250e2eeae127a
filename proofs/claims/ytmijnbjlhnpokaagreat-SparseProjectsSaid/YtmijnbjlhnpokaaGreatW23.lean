/- The rest of a reading: the program's is the reference's, and how great its numbers are. Plain mathematics. No condition. -/
import Derived.Test.YtmijnbjlhnpokaaGreatZD
set_option linter.unusedVariables false
namespace Go.Proofs.YtmijnbjlhnpokaaGreat
open Go Go.RowKit Eng
structure InW (w:Nat) (C:List Int):Prop where
 at_:∀j,j<C.length->0<=nI C j/\nI C j<w
 len:C.length<=100
def Ind (m:List (List Int)) (l:List Int):Prop:=∀z:Nat->Int,(∀i,i<m.length->(sm l.length λc=>nI (nL m i) (nI l c).toNat*z c)=0)->∀c,c<l.length->z c=0
theorem qw1 (m:List (List Int)) (C:List Int):qq6 m C=qj9 m C:=by simp[qq6,qa9,qj9]
theorem q2y (m:List (List Int)) (C:List Int) {a c:Nat} (ha:a<m.length) (hc:c<C.length):rowOf (qj9 m C) a c=nI (nL m a) (nI C c).toNat:=by
 unfold rowOf; rw[q17 _ _ _ ha,q55 _ _ _ hc]
theorem wo5 {m:List (List Int)} {C:List Int} (hM:Mk m) (hC:InW (nL m 0).length C) (h1:1<=C.length):Ones m.length C.length (qj9 m C):=by
 have hl:=hC.len
 refine⟨⟨q4a _ _,λi hi=>by rw[q17 _ _ _ hi,qn5]⟩,hM.rows1,hM.rows6,h1,by omega,λa c ha hc=>?_⟩
 have h2:=q2y m C ha hc
 unfold rowOf at h2
 rw[h2]
 have h3:=hC.at_ c hc
 have:=hM.small a ha (nI C c).toNat (by omega)
 omega
theorem St.piv_ind {n W j:Nat} {R:Nat->Nat->Int} {rows:List (List Int)} {P:List Int} (h:St n W R j rows P) (hj:j<=W) {z':Nat->Int} (hz:∀a,a<n->(sm P.length λq=>R a (nI P q).toNat*z' q)=0):∀q,q<P.length->z' q=0:=by
 have hpl:=h.pl
 obtain⟨z,hzd⟩:∃z:Nat->Int,∀c,z c=sm P.length λq=>if nI P q=(c:Int) then z' q else 0:=⟨_,λ_=>rfl⟩
 have zq:∀q,q<P.length->z (nI P q).toNat=z' q:=λq hq=>by
  have hp:=h.pos q hq
  rw[hzd,qo7 hq λi hi hne=>if_neg λk=>hne (h.inj hi hq (by omega)),if_pos (by omega)]
 have z0:∀c,(∀q,q<P.length->(nI P q).toNat≠c)->z c=0:=λc hc=>by
  rw[hzd]
  refine sm_zero λq hq=>if_neg λk=>hc q hq (by omega)
 have him:∀f:Nat->Int,(sm W λc=>f c*z c)=sm P.length λq=>f (nI P q).toNat*z' q:=λf=>by
  rw[q6b P.length (n:=W) (f:=λc=>f c*z c) (τ:=λq=>(nI P q).toNat) (λq hq=>by have:=h.pos q hq; (try dsimp only); omega) (λq k hq hk e=>h.inj hq hk (by have:=h.pos q hq; have:=h.pos k hk; (try dsimp only at e); omega)) λb hb hq=>by
   try dsimp only
   rw[z0 b hq,Int.mul_zero]]
  refine qb4 λq hq=>?_
  try dsimp only
  rw[zq q hq]
 have hsol:=(h.sol z).1 λa ha=>by rw[him]; exact hz a ha
 intro q hq
 have h1:=hsol q (by omega)
 unfold dt at h1
 rw[him,qo7 hq λi hi hne=>by
  try dsimp only
  rw[(h.pos i hi).2.2.2.2 q (by omega) (Ne.symm hne),Int.zero_mul]] at h1
 exact qd3 h1 (by have:=(h.pos q hq).2.2.1; omega)
theorem St.ind_iff {n W:Nat} {R:Nat->Nat->Int} {rows:List (List Int)} {P:List Int} (h:St n W R W rows P):P.length=W↔∀z,Sol n W R z->∀c,c<W->z c=0:=by
 have hA:Asc W P:=⟨λq hq=>⟨(h.pos q hq).1,(h.pos q hq).2.1⟩,h.asc⟩
 refine⟨λhl z hz c hc=>?_,λhz=>?_⟩
 ·refine h.piv_ind (Nat.le_refl _) (z':=z) (λa ha=>?_) c (by omega)
  rw[<- hz a ha,hl]
  refine qb4 λq hq=>?_
  rw[hA.id hl hq,Int.toNat_natCast]
 ·rcases Nat.lt_or_ge P.length W with q | q
  ·obtain⟨f,hf,hnp⟩:=Asc.free q
   obtain⟨z,z1,z2,_⟩:=h.free (Nat.le_refl _) hf hnp λi h1 h2=>h.zero i h1 h2 f hf
   exact absurd (hz z z1 f hf) z2
  ·have:=hA.le; omega
theorem St.ind_map {m:List (List Int)} {C:List Int} {j:Nat} {rows:List (List Int)} {P:List Int} (h:St m.length C.length (rowOf (qj9 m C)) j rows P) (hj:j<=C.length):Ind m (P.map λk=>nI C k.toNat):=by
 intro z hz c hc
 rw[List.length_map] at hc
 refine h.piv_ind hj (z':=z) (λa ha=>?_) c hc
 have h1:=hz a ha
 rw[List.length_map] at h1
 rw[<- h1]
 refine qb4 λq hq=>?_
 have hp:=h.pos q hq
 rw[q2y m C ha (by omega),q7u (f:=λk=>nI C k.toNat) hq]
theorem wf6 {m:List (List Int)} {C:List Int} (hM:Mk m) (hC:InW (nL m 0).length C):InW (nL m 0).length (qf0 m C)/\Ind m (qf0 m C)/\(qf0 m C).length<=m.length/\(qf0 m C).length<=C.length/\∀q,q<(qf0 m C).length->∃k,k<C.length/\nI (qf0 m C) q=nI C k:=by
 have hCl:=hC.len
 have hMat:Mat m.length C.length (qj9 m C):=⟨q4a _ _,λi hi=>by rw[q17 _ _ _ hi,qn5]⟩
 have hst:=qt8 hMat C.length (Nat.le_refl _)
 have e:qf0 m C=(qa6 (qj9 m C) C.length).2.map λk=>nI C k.toNat:=by unfold qf0 qi8; rw[qw1]
 have hl:=(⟨λq hq=>⟨(hst.pos q hq).1,(hst.pos q hq).2.1⟩,hst.asc⟩:Asc C.length _).le
 have hpl:=hst.pl
 rw[e,List.length_map]
 have hq:∀q,q<(qa6 (qj9 m C) C.length).2.length->∃k,k<C.length/\nI ((qa6 (qj9 m C) C.length).2.map λk=>nI C k.toNat) q=nI C k:=λq hq=>by
  have:=hst.pos q hq
  exact⟨_,by omega,q7u (f:=λk=>nI C k.toNat) hq⟩
 refine⟨⟨λq h=>?_,by rw[List.length_map]; omega⟩,hst.ind_map (Nat.le_refl _),hpl,hl,hq⟩
 rw[List.length_map] at h
 obtain⟨k,h1,h2⟩:=hq q h
 rw[h2]; exact hC.at_ k h1
theorem q71 (x:Int):0<=x*x:=by
 rcases Int.le_total 0 x with h | h
 ·exact Int.mul_nonneg h h
 ·have:=Int.mul_nonneg (show 0<=-x by omega) (show 0<=-x by omega)
  rwa [Int.neg_mul_neg] at this
theorem w8j:∀(n:Nat) {f:Nat->Int},(sm n λi=>f i*f i)=0->∀i,i<n->f i=0
 | 0,_,_,i,hi=>absurd hi (Nat.not_lt_zero _)
 | n+1,f,h,i,hi=>by
  have h0:∀k,0<=sm k λi=>f i*f i:=λk=>by
   induction k with
   | zero=>exact Int.le_refl _
   | succ k ih=>rw[sm]; have:=q71 (f k); omega
  rw[sm] at h
  have h1:=h0 n
  have h2:=q71 (f n)
  rcases Nat.lt_succ_iff_lt_or_eq.1 hi with q | q
  ·exact w8j n (by omega) i q
  ·rw[q]
   have:f n*f n=0:=by omega
   exact(Int.mul_eq_zero.1 this).elim id id
theorem w1q (m:List (List Int)) (y l:List Int) (x:Nat):(gRow m y l x).length=l.length+1:=by simp[gRow]
theorem q72 (m:List (List Int)) (y l:List Int):(qd0 m y l).length=l.length:=by simp[qd0]
theorem wf7 (m:List (List Int)) (y l:List Int) {x:Nat} (hx:x<l.length):nL (qd0 m y l) x=gRow m y l x:=by
 rw[qn4 _ _ (by rw[q72]; exact hx)]; simp[qd0]
theorem xt4 (m:List (List Int)) (y l:List Int) (x:Nat) {c:Nat} (hc:c<l.length):nI (gRow m y l x) c=ql0 (qi1 m (nI l x).toNat) (qi1 m (nI l c).toNat) m.length:=by
 unfold gRow
 rw[qp8 _ _ (by simp; exact hc),qh7 _ _ (by simp; exact hc)]; simp
theorem w8k (m:List (List Int)) (y l:List Int) (x:Nat):nI (gRow m y l x) l.length=ql0 (qi1 m (nI l x).toNat) y m.length:=by
 have:=qu7 ((List.range l.length).map λc=>ql0 (qi1 m (nI l x).toNat) (qi1 m (nI l c).toNat) m.length) (ql0 (qi1 m (nI l x).toNat) y m.length)
 simp only[List.length_map,List.length_range] at this
 exact this
def aN (m:List (List Int)) (l:List Int) (i x:Nat):Int:=nI (nL m i) (nI l x).toNat
def bN (m:List (List Int)) (y l:List Int) (i c:Nat):Int:=if c<l.length then aN m l i c else nI y i
theorem qu8 (m:List (List Int)) (y l:List Int) {x c:Nat} (hx:x<l.length) (hc:c<l.length+1):rowOf (qd0 m y l) x c=sm m.length λi=>aN m l i x*bN m y l i c:=by
 unfold rowOf
 rw[wf7 m y l hx]
 rcases Nat.lt_succ_iff_lt_or_eq.1 hc with q | q
 ·rw[xt4 m y l x q,q9t]
  refine qb4 λi hi=>?_
  unfold bN aN
  rw[if_pos q,q0d _ _ _ hi,q0d _ _ _ hi]
 ·rw[q,w8k,q9t]
  refine qb4 λi hi=>?_
  unfold bN aN
  rw[if_neg (Nat.lt_irrefl _),q0d _ _ _ hi]
structure GrOk (m:List (List Int)) (y l:List Int):Prop where
 msk:Mk m
 ylen:y.length=m.length
 ybd:∀i,i<m.length->(nI y i).natAbs<=1000000
 inw:InW (nL m 0).length l
 ind:Ind m l
 n6:l.length<=6
theorem GrOk.one {m:List (List Int)} {y l:List Int} (h:GrOk m y l):∀i x,i<m.length->x<l.length->(aN m l i x).natAbs<=1:=λi x hi hx=>by
 have h3:=h.inw.at_ x hx
 have:=h.msk.small i hi (nI l x).toNat (by omega)
 unfold aN; omega
theorem GrOk.gram {m:List (List Int)} {y l:List Int} (h:GrOk m y l):Gram l.length m.length (l.length+1) (rowOf (qd0 m y l)) (aN m l) (bN m y l) (· < l.length):=
 ⟨h.n6,h.msk.rows6,λx c hx hc=>qu8 m y l hx hc,h.one,λi c hi hc ho=>by unfold bN; rw[if_pos ho]; exact h.one i c hi ho⟩
theorem St.gram {n m W j C:Nat} {R a b:Nat->Nat->Int} {rows:List (List Int)} {P:List Int} (h:St n W R j rows P) (hG:Gram n m W R a b (· < C)) (hj:j<=C) {i c B:Nat} (hi:i<n) (hc:c<W) (hB1:1<=B) (hB:∀i,i<m->(b i c).natAbs<=B):(nI (nL rows i) c).natAbs<=691200*B:=by
 obtain⟨ρ,pv,τ,hE,t1,t2,t3,t4,t5,t6⟩:=h.tag
 rw[<- t4 i hi c hc]
 refine hG.bound hE (λt p ht hp=>?_) (t1 i hi) ?_ hc hB1 hB
 ·obtain⟨q,hq,rfl⟩:=t3 t ht
  rw[t5 q hq] at hp
  split at hp
  ·rename_i hqP
   obtain rfl:=Option.some.inj hp
   have:=h.pos q hqP
   (try dsimp only); omega
  ·cases hp
 ·rcases t6 i hi with⟨s,hs,hr⟩ | hr | hr
  ·exact .inl ⟨s,hs,λc hc=>by rw[t4 i hi c hc]; exact hr c hc⟩
  ·exact .inr (.inl λc hc=>by rw[t4 i hi c hc]; exact hr c hc)
  ·exact .inr (.inr λd hd=>hr d λc hc=>by rw[<- t4 i hi c hc]; exact hd c hc)
theorem GrOk.bB {m:List (List Int)} {y l:List Int} (h:GrOk m y l):∀i c,i<m.length->(bN m y l i c).natAbs<=1000000:=λi c hi=>by
 unfold bN; split
 ·rename_i q; have:=h.one i c hi q; omega
 ·exact h.ybd i hi
theorem GrOk.mat {m:List (List Int)} {y l:List Int}:Mat l.length (l.length+1) (qd0 m y l):=⟨q72 _ _ _,λi hi=>by rw[wf7 _ _ _ hi,w1q]⟩
theorem GrOk.sml {m:List (List Int)} {y l:List Int} (h:GrOk m y l):Sml l.length l.length (l.length+1) 691200 691200000000 (qd0 m y l):=by
 have h6:=h.n6
 have hr6:=h.msk.rows6
 refine⟨GrOk.mat,h6,by omega,by omega,by decide,by decide,by decide,by decide,λa c ha hc=>?_,λj rows P hj hs i hi=>⟨λc hc=>?_,λc hc=>?_⟩⟩
 ·have e:=qu8 m y l ha hc
  unfold rowOf at e
  rw[e]
  have:=wc8 (n:=m.length) (f:=λi=>aN m l i a*bN m y l i c) (B:=1000000) λi hi=>by
   rw[Int.natAbs_mul]
   have:=Nat.mul_le_mul (h.one i a hi ha) (h.bB i c hi)
   omega
  have h2:m.length*1000000<=6*1000000:=Nat.mul_le_mul_right _ hr6
  omega
 ·have:=hs.gram h.gram hj hi (show c<l.length+1 by omega) (B:=1) (Nat.le_refl _) λi hi=>by
   unfold bN; rw[if_pos hc]; exact h.one i c hi hc
  omega
 ·have:=hs.gram h.gram hj hi hc (B:=1000000) (by decide) λi hi=>h.bB i c hi
  omega
theorem GrOk.nons {m:List (List Int)} {y l:List Int} (h:GrOk m y l) {z:Nat->Int} (hz:Sol l.length (l.length+1) (rowOf (qd0 m y l)) z) (h0:z l.length=0):∀c,c<l.length->z c=0:=by
 obtain⟨u,hu⟩:∃u:Nat->Int,∀i,u i=sm l.length λc=>aN m l i c*z c:=⟨_,λ_=>rfl⟩
 have h1:∀x,x<l.length->(sm m.length λi=>aN m l i x*u i)=0:=λx hx=>by
  have e:=hz x hx
  rw[sm,h0,Int.mul_zero,Int.add_zero] at e
  rw[<- e]
  have e2:(sm l.length λc=>rowOf (qd0 m y l) x c*z c)=sm l.length λc=>sm m.length λi=>(aN m l i x*aN m l i c)*z c:=qb4 λc hc=>by
   rw[qu8 m y l hx (by omega),Int.mul_comm,<- qg5]
   refine qb4 λi hi=>?_
   unfold bN; rw[if_pos hc,Int.mul_comm]
  rw[e2,qs7]
  refine qb4 λi hi=>?_
  rw[hu,<- qg5]
  exact qb4 λc hc=>by rw[Int.mul_assoc]
 have h2:(sm m.length λi=>u i*u i)=0:=by
  have e:(sm m.length λi=>u i*u i)=sm m.length λi=>sm l.length λx=>z x*(aN m l i x*u i):=qb4 λi hi=>by
   have:u i*u i=u i*sm l.length λc=>aN m l i c*z c:=by rw[<- hu]
   rw[this,<- qg5]
   refine qb4 λx _=>?_
   grind
  rw[e,qs7]
  refine sm_zero λx hx=>?_
  rw[qg5,h1 x hx,Int.mul_zero]
 have h3:=w8j _ h2
 exact h.ind z λi hi=>by
  have:=h3 i hi
  rw[hu] at this
  exact this
theorem GrOk.full {m:List (List Int)} {y l:List Int} (h:GrOk m y l) {rows:List (List Int)} {P:List Int} (hst:St l.length (l.length+1) (rowOf (qd0 m y l)) l.length rows P):P.length=l.length:=by
 rcases Nat.lt_or_ge P.length l.length with q | q
 ·obtain⟨f,hf,hnp⟩:=Asc.free q
  obtain⟨z,z1,z2,z3⟩:=hst.free (by omega) (f:=f) (by omega) hnp λi h1 h2=>hst.zero i h1 h2 f hf
  exact absurd (h.nons z1 (z3 l.length (by omega) (by omega) λq hq=>by have:=(hst.pos q hq).2.1; omega) f hf) z2
 ·have:=hst.pl; omega
theorem GrOk.good {m:List (List Int)} {y l:List Int} (h:GrOk m y l) {rows:List (List Int)} {P:List Int} (hst:St l.length (l.length+1) (rowOf (qd0 m y l)) l.length rows P):Good l.length l.length (rowOf (qd0 m y l)) rows P:=
 ⟨⟨l.length,Nat.le_refl _,by omega,hst⟩,λq hq=>(hst.pos q hq).2.1,λi h1 h2=>absurd h1 (by rw[h.full hst]; omega)⟩
theorem w8l {left:List (List Int)} {j:Nat} {a:Int} (h:Prim (nL left a.toNat)):Prim (qu1 left j a):=by
 unfold qu1
 split
 ·rcases h with h | h
  ·exact .inl λc hc=>by rw[qu2] at hc; rw[q6a,h c hc,Int.zero_mul]
  ·refine .inr λd hd=>h d λc hc=>?_
   have:=hd c (by rw[qu2]; exact hc)
   rw[q6a,Int.natAbs_mul] at this
   simpa using this
 ·exact h
theorem wo6 {n W:Nat} {M:List (List Int)} (h:Mat n W M):∀j,j<=W->∀x∈(qh5 M j).done_,Prim x
 | 0,_,x,hx=>by cases hx
 | j+1,hj,x,hx=>by
  have ih:=wo6 h j (by omega)
  obtain⟨hst,hcnt,hprim⟩:=qr3 h j (by omega)
  rw[qh5,q5q] at hx
  split at hx
  ·exact ih x hx
  ·rename_i hne
   have hlt:=(qx7 (qh5 M j).left j (qh5 M j).left.length).1
   rcases List.mem_append.1 hx with hx | hx
   ·obtain⟨r,_,rfl⟩:=List.mem_map.1 hx
    exact qq7 _
   ·rw[List.mem_singleton.1 hx]
    exact w8l (hprim _ (qx8 _ _ (by omega)))
theorem xh2 {a d D:Int} (ha:a∣D) (hd:d∣D):a*d.tdiv (qe2 a d)∣D:=by
 refine Int.natAbs_dvd_natAbs.1 ?_
 have h1:=Nat.lcm_dvd (Int.natAbs_dvd_natAbs.2 ha) (Int.natAbs_dvd_natAbs.2 hd)
 have h2:(a*d.tdiv (qe2 a d)).natAbs=Nat.lcm a.natAbs d.natAbs:=by
  rw[Int.natAbs_mul,Int.natAbs_tdiv,wn7,Nat.lcm,Nat.mul_div_assoc _ (Nat.gcd_dvd_right _ _)]; rfl
 rw[h2]; exact h1
theorem w8m (a b:Int):qe2 a b=qe2 b a:=by unfold qe2; rw[Int.gcd_comm]
structure RsOk (m:List (List Int)) (y l:List Int):Prop where
 len:((qd8 (qd0 m y l)).1).length=l.length
 pos:∀k,k<l.length->0<nI (nL (qa6 (qd0 m y l) l.length).1 k) k
 row:∀k,k<l.length->∀c,c<l.length+1->(nI (nL (qa6 (qd0 m y l) l.length).1 k) c).natAbs<=691200000000
 tms:∀k,k<=l.length->0<qi2 (qa6 (qd0 m y l) l.length).1 l.length k/\qi2 (qa6 (qd0 m y l) l.length).1 l.length k<=691200/\qi2 (qa6 (qd0 m y l) l.length).1 l.length k=x1m (qd8 (qd0 m y l)).1 k
 den:∀k,k<l.length->q0e (qa6 (qd0 m y l) l.length).1 l.length k=nI (nL (qd8 (qd0 m y l)).1 k) k/\0<q0e (qa6 (qd0 m y l) l.length).1 l.length k/\q0e (qa6 (qd0 m y l) l.length).1 l.length k∣qi2 (qa6 (qd0 m y l) l.length).1 l.length l.length
 num:∀k,k<l.length->q8d (qa6 (qd0 m y l) l.length).1 l.length k=nI (nL (qd8 (qd0 m y l)).1 k) l.length/\(q8d (qa6 (qd0 m y l) l.length).1 l.length k).natAbs<=691200000000
 mul:∀k,k<l.length->((qi2 (qa6 (qd0 m y l) l.length).1 l.length l.length).tdiv (q0e (qa6 (qd0 m y l) l.length).1 l.length k)*q8d (qa6 (qd0 m y l) l.length).1 l.length k).natAbs<=691200000000
 each:∀k,k<l.length->(nL (qd8 (qd0 m y l)).1 k).length=l.length+1
 dvd:qi2 (qa6 (qd0 m y l) l.length).1 l.length l.length∣det l.length (rowOf (qd0 m y l))
 sol:∃z,Sol l.length (l.length+1) (rowOf (qd0 m y l)) z/\z l.length≠0/\∀k,k<l.length->q0e (qa6 (qd0 m y l) l.length).1 l.length k*z k+q8d (qa6 (qd0 m y l) l.length).1 l.length k*z l.length=0
theorem GrOk.rs {m:List (List Int)} {y l:List Int} (h:GrOk m y l):RsOk m y l:=by
 have hG:=h.gram
 have hs:=h.sml
 have hst:=qt8 (GrOk.mat (m:=m) (y:=y) (l:=l)) l.length (by omega)
 obtain⟨hrs,hcnt,hprim⟩:=qr3 (GrOk.mat (m:=m) (y:=y) (l:=l)) l.length (by omega)
 have hpr:=wo6 (GrOk.mat (m:=m) (y:=y) (l:=l)) l.length (by omega)
 have hP:=h.full hst
 have hP3:=h.full hrs
 have hlen:=hrs.len
 rw[List.length_append] at hlen
 have hleft:(qh5 (qd0 m y l) l.length).left=[]:=List.length_eq_zero_iff.1 (by omega)
 rw[hleft,List.append_nil] at hrs
 have hg:=h.good hst
 have hg3:=h.good hrs
 have hred:(qd8 (qd0 m y l)).1=(qh5 (qd0 m y l) l.length).done_:=by
  unfold qd8
  rcases Nat.eq_zero_or_pos l.length with q | q
  ·have e0:qd0 m y l=[]:=List.length_eq_zero_iff.1 (by rw[q72]; exact q)
   have e1:rdW (qd0 m y l)=0:=by rw[e0]; rfl
   rw[e1,q]
  ·have e1:rdW (qd0 m y l)=l.length+1:=by unfold rdW; rw[wf7 _ _ _ q,w1q]
   rw[e1,q7m rfl hleft 1]
 rw[show RsOk m y l↔RsOk m y l from Iff.rfl]
 have i1:=λq (hq:q<l.length)=>hg.asc.id hP hq
 have i3:=λq (hq:q<l.length)=>hg3.asc.id hP3 hq
 obtain⟨z,z1,z2⟩:=hg.last
 have hdl:(qh5 (qd0 m y l) l.length).done_.length=l.length:=by omega
 have key:∀k,k<l.length->0<nI (nL (qa6 (qd0 m y l) l.length).1 k) k/\q0e (qa6 (qd0 m y l) l.length).1 l.length k=nI (nL (qd8 (qd0 m y l)).1 k) k/\0<q0e (qa6 (qd0 m y l) l.length).1 l.length k/\q8d (qa6 (qd0 m y l) l.length).1 l.length k=nI (nL (qd8 (qd0 m y l)).1 k) l.length/\qe2 (nI (nL (qd8 (qd0 m y l)).1 k) l.length) (nI (nL (qd8 (qd0 m y l)).1 k) k)=1/\nI (nL (qd8 (qd0 m y l)).1 k) k*z k+nI (nL (qd8 (qd0 m y l)).1 k) l.length*z l.length=0:=λk hk=>by
  rw[hred]
  have p1:=(hg.row hP z1 hk).1
  obtain⟨p3,p4⟩:=hg3.row hP3 z1 hk
  have hv:=hg.val hg3 hP hP3 hk
  have hgc:qe2 (nI (nL (qh5 (qd0 m y l) l.length).done_ k) l.length) (nI (nL (qh5 (qd0 m y l) l.length).done_ k) k)=1:=by
   have hp:=hpr _ (qx8 _ k (by omega))
   have h1:=hp.gcd (W:=l.length+1) (f:=k) (hrs.each k hk) (by omega) p3 (Nat.gcd (nI (nL (qh5 (qd0 m y l) l.length).done_ k) l.length).natAbs (nI (nL (qh5 (qd0 m y l) l.length).done_ k) k).natAbs) λc hc=>by
    by_cases q1:c=l.length
    ·rw[q1]; exact Nat.gcd_dvd_left _ _
    ·by_cases q2:c=k
     ·rw[q2]; exact Nat.gcd_dvd_right _ _
     ·have hp2:=(hrs.pos c (by omega)).2.2.2.2 k hk (Ne.symm q2)
      rw[i3 c (by omega),Int.toNat_natCast] at hp2
      rw[hp2]; exact Nat.dvd_zero _
   show((Int.gcd _ _:Nat):Int)=1
   unfold Int.gcd
   rw[h1]; rfl
  have he:=w8c p1 p3 hv
  unfold q8c at he
  rw[hgc,Int.tdiv_one,Int.tdiv_one,w8m] at he
  obtain⟨e1,e2⟩:=Prod.mk.inj he
  refine⟨p1,e2,by rw[show q0e (qa6 (qd0 m y l) l.length).1 l.length k=_ from e2]; exact p3,e1,hgc,p4⟩
 have dl:∀x b,lfm (rowOf (qd0 m y l)) (λb=>some b) x b=rowOf (qd0 m y l) x b:=λx b=>rfl
 have hsym:∀x c,x<l.length->c<l.length->rowOf (qd0 m y l) x c=rowOf (qd0 m y l) c x:=λx c hx hc=>by
  rw[qu8 m y l hx (by omega),qu8 m y l hc (by omega)]
  refine qb4 λi _=>?_
  unfold bN; rw[if_pos hx,if_pos hc,Int.mul_comm]
 obtain⟨D,hD⟩:∃D,D=det l.length (rowOf (qd0 m y l)):=⟨_,rfl⟩
 have hD0:D≠0:=by
  rw[hD]
  refine wf5 λlam hl i hi=>?_
  have:=h.nons (z:=λc=>if c<l.length then lam c else 0) (λa ha=>?_) (if_neg (Nat.lt_irrefl _)) i hi
  ·(try dsimp only at this); rw[if_pos hi] at this; exact this
  ·rw[sm]
   refine Eq.trans ?_ (hl a ha)
   try dsimp only
   rw[if_neg (Nat.lt_irrefl _),Int.mul_zero,Int.add_zero]
   refine qb4 λc hc=>?_
   rw[if_pos hc,hsym a c ha hc,Int.mul_comm]
 have hcr:∀k,k<l.length->z l.length*det l.length (qr4 (rowOf (qd0 m y l)) k λx=>rowOf (qd0 m y l) x l.length)=- z k*D:=λk hk=>by
  have e1:=q4e (rowOf (qd0 m y l)) hk (λc=>- z c) (λc x=>rowOf (qd0 m y l) x c) l.length
  rw[qo7 hk λc hc hne=>by
   have:det l.length (qr4 (rowOf (qd0 m y l)) k λx=>rowOf (qd0 m y l) x c)=0:=wf4 hk hc (Ne.symm hne) λi hi=>by
    unfold qr4; rw[if_pos rfl,if_neg hne]
   (try dsimp only); rw[this,Int.mul_zero]] at e1
  have e2:det l.length (qr4 (rowOf (qd0 m y l)) k λx=>rowOf (qd0 m y l) x k)=D:=by
   rw[hD]
   refine qf7 _ λi j hi hj=>?_
   unfold qr4; split
   ·rename_i q; rw[q]
   ·rfl
  rw[e2] at e1
  rw[<- e1]
  have e3:=q6c l.length (rowOf (qd0 m y l)) k hk (z l.length) 0 (λx=>rowOf (qd0 m y l) x l.length) (λ_=>0)
  rw[Int.zero_mul (det _ _),Int.add_zero] at e3
  rw[<- e3]
  refine qf7 _ λi j hi hj=>?_
  unfold qr4; split
  ·have:=z1 i hi
   rw[sm] at this
   have e4:(sm l.length λc=>- z c*rowOf (qd0 m y l) i c)=- sm l.length λc=>rowOf (qd0 m y l) i c*z c:=by
    have:=qg5 l.length (-1) λc=>rowOf (qd0 m y l) i c*z c
    rw[show(-1:Int)*sm l.length (λc=>rowOf (qd0 m y l) i c*z c)=- sm l.length λc=>rowOf (qd0 m y l) i c*z c by omega] at this
    rw[<- this]
    exact qb4 λc _=>by grind
   try dsimp only
   rw[e4,Int.zero_mul,Int.add_zero,Int.mul_comm]
   omega
  ·rfl
 have hAD:∀k,k<l.length->nI (nL (qd8 (qd0 m y l)).1 k) k*det l.length (qr4 (rowOf (qd0 m y l)) k λx=>rowOf (qd0 m y l) x l.length)=nI (nL (qd8 (qd0 m y l)).1 k) l.length*D:=λk hk=>by
  obtain⟨_,_,_,_,_,hz⟩:=key k hk
  have hc:=hcr k hk
  generalize det l.length (qr4 (rowOf (qd0 m y l)) k λx=>rowOf (qd0 m y l) x l.length)=Dk at hc ⊢
  generalize nI (nL (qd8 (qd0 m y l)).1 k) k=A at hz ⊢
  generalize nI (nL (qd8 (qd0 m y l)).1 k) l.length=C at hz ⊢
  have:z l.length*(A*Dk-C*D)=0:=by grind
  have:=qd3 this z2
  omega
 have hdv:∀k,k<l.length->nI (nL (qd8 (qd0 m y l)).1 k) k∣D:=λk hk=>by
  obtain⟨_,_,_,_,hgc,_⟩:=key k hk
  have h1:nI (nL (qd8 (qd0 m y l)).1 k) k∣nI (nL (qd8 (qd0 m y l)).1 k) l.length*D:=⟨_,(hAD k hk).symm⟩
  have h2:Nat.Coprime (nI (nL (qd8 (qd0 m y l)).1 k) k).natAbs (nI (nL (qd8 (qd0 m y l)).1 k) l.length).natAbs:=by
   have:((Int.gcd (nI (nL (qd8 (qd0 m y l)).1 k) l.length) (nI (nL (qd8 (qd0 m y l)).1 k) k):Nat):Int)=1:=hgc
   rw[Int.gcd_comm] at this
   exact Int.ofNat.inj this
  have h3:=Int.natAbs_dvd_natAbs.2 h1
  rw[Int.natAbs_mul] at h3
  exact Int.natAbs_dvd_natAbs.1 (h2.dvd_of_dvd_mul_left h3)
 have hall:∀k,k<=l.length->0<qi2 (qa6 (qd0 m y l) l.length).1 l.length k/\qi2 (qa6 (qd0 m y l) l.length).1 l.length k=x1m (qd8 (qd0 m y l)).1 k/\qi2 (qa6 (qd0 m y l) l.length).1 l.length k∣D/\∀q,q<k->q0e (qa6 (qd0 m y l) l.length).1 l.length q∣qi2 (qa6 (qd0 m y l) l.length).1 l.length k:=λk=>by
  induction k with
  | zero=>exact λ_=>⟨by show(0:Int)<1; decide,rfl,Int.one_dvd _,λq hq=>absurd hq (Nat.not_lt_zero _)⟩
  | succ k ih=>
   intro hk
   obtain⟨a1,a2,a3,a4⟩:=ih (by omega)
   obtain⟨_,k1,k2,_⟩:=key k (by omega)
   have hdk:=hdv k (by omega)
   rw[<- k1] at hdk
   obtain⟨d1,d2,d3,_,d5⟩:=w8i a1 k2
   rw[qi2,x1m,<- a2,<- k1,d5]
   refine⟨d1,rfl,xh2 a3 hdk,λq hq=>?_⟩
   rcases Nat.lt_succ_iff_lt_or_eq.1 hq with e | e
   ·exact Int.dvd_trans (a4 q e) d2
   ·rw[e]; exact d3
 have hDb:l.length≠0->D.natAbs<=691200:=λhn=>by
  have:=hG.detB (pv:=λb=>some b) (t:=0) (c:=0) (B:=1) (λt p ht hp=>by obtain rfl:=Option.some.inj hp; omega) (λt p ht hp=>by obtain rfl:=Option.some.inj hp; exact ht) (by omega) (by omega) (Nat.le_refl _) λi hi=>by
   unfold bN; rw[if_pos (by omega)]; exact h.one i 0 hi (by omega)
  have e2:det l.length (qr4 (lfm (rowOf (qd0 m y l)) λb=>some b) 0 λx=>rowOf (qd0 m y l) x 0)=D:=by
   rw[hD]
   refine qf7 _ λi j hi hj=>?_
   unfold qr4; split
   ·rename_i q; rw[q]
   ·rfl
  rw[e2] at this
  omega
 have hDkb:∀k,k<l.length->(det l.length (qr4 (rowOf (qd0 m y l)) k λx=>rowOf (qd0 m y l) x l.length)).natAbs<=691200000000:=λk hk=>by
  have:=hG.detB (pv:=λb=>some b) (t:=k) (c:=l.length) (B:=1000000) (λt p ht hp=>by obtain rfl:=Option.some.inj hp; omega) (λt p ht hp=>by obtain rfl:=Option.some.inj hp; exact ht) hk (by omega) (by decide) λi hi=>h.bB i _ hi
  have e2:det l.length (qr4 (lfm (rowOf (qd0 m y l)) λb=>some b) k λx=>rowOf (qd0 m y l) x l.length)=det l.length (qr4 (rowOf (qd0 m y l)) k λx=>rowOf (qd0 m y l) x l.length):=rfl
  rw[e2] at this
  omega
 have hT:∀k,k<=l.length->qi2 (qa6 (qd0 m y l) l.length).1 l.length k<=691200:=λk hk=>by
  obtain⟨a1,a2,a3,a4⟩:=hall k hk
  rcases Nat.eq_zero_or_pos l.length with q | q
  ·rw[show k=0 by omega]; show(1:Int)<=_; decide
  ·have:=hDb (by omega)
   have h2:=Nat.le_of_dvd (by omega) (Int.natAbs_dvd_natAbs.2 a3)
   omega
 have hmul:∀k,k<l.length->((qi2 (qa6 (qd0 m y l) l.length).1 l.length l.length).tdiv (q0e (qa6 (qd0 m y l) l.length).1 l.length k)*q8d (qa6 (qd0 m y l) l.length).1 l.length k).natAbs<=691200000000/\(q8d (qa6 (qd0 m y l) l.length).1 l.length k).natAbs<=691200000000:=λk hk=>by
  obtain⟨_,k1,k2,k3,_⟩:=key k hk
  obtain⟨a1,a2,⟨e,he⟩,a4⟩:=hall l.length (Nat.le_refl _)
  obtain⟨t,ht⟩:=a4 k hk
  have hb:=hDkb k hk
  have hA:=hAD k hk
  rw[<- k1,<- k3] at hA
  generalize q0e (qa6 (qd0 m y l) l.length).1 l.length k=A at k2 hA ht ⊢
  generalize q8d (qa6 (qd0 m y l) l.length).1 l.length k=C at hA ⊢
  generalize det l.length (qr4 (rowOf (qd0 m y l)) k λx=>rowOf (qd0 m y l) x l.length)=Dk at hb hA
  generalize qi2 (qa6 (qd0 m y l) l.length).1 l.length l.length=T at a1 he ht ⊢
  have ht0:0<t:=q4b k2 (by omega)
  have e1:T.tdiv A=t:=by rw[ht]; exact Int.mul_tdiv_cancel_left _ (by omega)
  have e2:A*(Dk-(t*C)*e)=0:=by rw[he,ht] at hA; grind
  have e3:=qd3 e2 (by omega)
  have he0:e≠0:=λq=>hD0 (by rw[he,q,Int.mul_zero])
  have e4:Dk.natAbs=(t*C).natAbs*e.natAbs:=by rw[<- Int.natAbs_mul,show Dk=t*C*e by omega]
  have e5:(t*C).natAbs<=Dk.natAbs:=by rw[e4]; exact Nat.le_mul_of_pos_right _ (by omega)
  rw[e1]
  refine⟨by omega,?_⟩
  have e6:C.natAbs<=(t*C).natAbs:=by rw[Int.natAbs_mul]; exact Nat.le_mul_of_pos_left _ (by omega)
  omega
 refine⟨by rw[hred]; exact hdl,λk hk=>(key k hk).1,λk hk c hc=>?_,λk hk=>⟨(hall k hk).1,hT k hk,(hall k hk).2.1⟩,λk hk=>⟨(key k hk).2.1,(key k hk).2.2.1,(hall _ (Nat.le_refl _)).2.2.2 k hk⟩,λk hk=>⟨(key k hk).2.2.2.1,(hmul k hk).2⟩,λk hk=>(hmul k hk).1,λk hk=>by rw[hred]; exact hrs.each k hk,by rw[<- hD]; exact(hall _ (Nat.le_refl _)).2.2.1,z,z1,z2,λk hk=>?_⟩
 ·exact(hs.small _ _ _ (Nat.le_refl _) hst k hk).2 c hc
 ·obtain⟨_,k1,_,k3,_,k5⟩:=key k hk
  rw[k1,k3]; exact k5
end Go.Proofs.YtmijnbjlhnpokaaGreat
