/- A permuted mask and a signed one have the same order and the same greatest shares. Plain mathematics. No condition. -/
import Derived.Test.YtempacilejhbgaaR4
import Derived.Test.YtempacilejhbgaaQ12
set_option linter.unusedVariables false
set_option linter.unusedSimpArgs false
namespace Go.Proofs.Ytempacilejhbgaa
open Go Go.RowKit Eng
theorem xo3 (d:Nat->Int) (p:List Int):sB p d=q1j (λx=>qf8 (d x.toNat)) p:=by
 have:∀k,k<=p.length->(sm k λj=>qf8 (d (nI p j).toNat))=q1j (λx=>qf8 (d x.toNat)) (p.take k):=λk=>by
  induction k with
  | zero=>exact λ_=>by simp[sm,q1j]
  | succ k ih=>
   intro hk
   have hs:p.take (k+1)=p.take k++[nI p k]:=by
    rw[List.take_add_one,List.getElem?_eq_getElem (by omega),qf9 p k (by omega)]; rfl
   rw[hs,q9r,<- ih (by omega)]
   simp[q1j]
   rfl
 rw[sB,this _ (Nat.le_refl _),List.take_length]
structure Maps (a m:List (List Int)):Prop where
 va:qb9 a=true
 vm:qb9 m=true
 n7:(nL m 0).length<=7
 same:(nL a 0).length=(nL m 0).length
 mp:∀s h,w5g a s h->∃d:Nat->Int,Sol m.length (nL m 0).length (rowOf m) d/\sA (nL m 0).length d=szL h/\(∃c,c<(nL m 0).length/\d c≠0)/\∀p,Named (nL m 0).length p->∃p',Named (nL m 0).length p'/\p'.length=p.length/\sB p' d=inL h p
theorem ww4 {a m:List (List Int)} (h:Maps a m) {k:Nat} (hk:k<=(nL m 0).length):leQ (qh7 (qp1 a).1 k (qp1 a).1.length) (qh7 (qp1 m).1 k (qp1 m).1.length):=by
 have a7:(nL a 0).length<=7:=by rw[h.same]; exact h.n7
 have oa:=(w9x (m:=a) λ_=>a7).shs h.va k (by rw[h.same]; exact hk)
 have om:=(w9x (m:=m) λ_=>h.n7).shs h.vm k hk
 have la:=qu6 oa _ (Nat.le_refl _)
 have lm:=qu6 om _ (Nat.le_refl _)
 rw[Int.toNat_natCast] at la lm
 rcases(q2l oa _ (Nat.le_refl _)).2 with e | ⟨i,hi,e⟩
 ·rw[e]; exact w8v lm
 ·rw[e]
  obtain⟨s,hc⟩:=wv9 h.va a7 hi
  have hso:=xg7 h.va hc (ww0 hc k)
  obtain⟨d,d1,d2,d3,d4⟩:=h.mp s _ hc
  obtain⟨p',p1,p2,p3⟩:=d4 (q0u (nL (qp1 a).1 i) k) (by have:=ww0 hc k; rwa [h.same] at this)
  have hlen:(q0u (nL (qp1 a).1 i) k).length=k:=wt1 (by rw[hc.len,h.same]; exact hk)
  obtain⟨c,hcm,hle⟩:=wv8 h.vm h.n7 p1 _ d (Nat.le_refl _) d1 d3
  obtain⟨j,hj,rfl⟩:=List.mem_iff_getElem.1 hcm
  obtain⟨t,hd⟩:=wv9 h.vm h.n7 hj
  rw[<- qk3 _ _ hj,xo1 hd.len,xw0,d2,p3] at hle
  have hmost:=w8s (h:=nL (qp1 m).1 j) (p:=p') (by rw[hd.len]; exact p1)
  rw[p2,hlen] at hmost
  have hsm:=xg7 h.vm hd (ww0 hd k)
  refine wi6 (wf7 hso).pos (wf7 hsm).pos lm.pos (xv9 hso hsm (Int.le_trans hle (Int.mul_le_mul_of_nonneg_right hmost ?_))) ((q2l om _ (Nat.le_refl _)).1 j hj)
  have:=q9e hso.ok hso.ne
  omega
structure xo4 (x:Int × Int):Prop where
 pos:1<=x.2
 n0:0<=x.1
 one:gcdI x.1 x.2=1
theorem xo5 {x y:Int × Int} (hx:xo4 x) (hy:xo4 y) (h1:leQ x y) (h2:leQ y x):x=y:=by
 have e:x.1*y.2=y.1*x.2:=Int.le_antisymm h1 h2
 have cx:Int.gcd x.1 x.2=1:=by have:=hx.one; unfold gcdI at this; omega
 have cy:Int.gcd y.1 y.2=1:=by have:=hy.one; unfold gcdI at this; omega
 have px:=hx.pos
 have py:=hy.pos
 have key:∀a b c:Int,Int.gcd b a=1->a∣c*b->a∣c:=λa b c h1 h2=>by
  rw[<- Int.natAbs_dvd_natAbs] at h2 ⊢
  rw[Int.natAbs_mul] at h2
  exact Nat.Coprime.dvd_of_dvd_mul_right (by rw[Nat.Coprime,Nat.gcd_comm]; exact h1) h2
 have d1:x.2∣y.2:=key x.2 x.1 y.2 cx ⟨y.1,by rw[Int.mul_comm y.2,e,Int.mul_comm]⟩
 have d2:y.2∣x.2:=key y.2 y.1 x.2 cy ⟨x.1,by rw[Int.mul_comm x.2,<- e,Int.mul_comm]⟩
 have e2:x.2=y.2:=Int.le_antisymm (Int.le_of_dvd (by omega) d1) (Int.le_of_dvd (by omega) d2)
 rw[e2] at e
 have e1:x.1=y.1:=Int.eq_of_mul_eq_mul_right (by omega) e
 exact Prod.ext e1 e2
theorem xo6 {h p:List Int} (k:w6a h p):xo4 (shR h p):=by
 have:=wt0 k
 exact⟨this.pos,this.n0,this.one⟩
theorem xo7:xo4 (0,1):=⟨by decide,by decide,by decide⟩
theorem w51 {m:List (List Int)} (hv:qb9 m=true) (h7:(nL m 0).length<=7) {k:Nat} (hk:k<=(nL m 0).length):xo4 (qh7 (qp1 m).1 k (qp1 m).1.length):=by
 have om:=(w9x (m:=m) λ_=>h7).shs hv k hk
 rcases(q2l om _ (Nat.le_refl _)).2 with e | ⟨i,hi,e⟩
 ·rw[e]; exact xo7
 ·rw[e]
  have:=om.shr i hi
  rw[Int.toNat_natCast] at this
  exact xo6 this
theorem ww5 {a m:List (List Int)} (h1:Maps a m) (h2:Maps m a) {k:Nat} (hk:k<=(nL m 0).length):qh7 (qp1 a).1 k (qp1 a).1.length=qh7 (qp1 m).1 k (qp1 m).1.length:=
 xo5 (w51 h1.va (by rw[h1.same]; exact h1.n7) (by rw[h1.same]; exact hk)) (w51 h1.vm h1.n7 hk) (ww4 h1 hk) (ww4 h2 (by rw[h1.same]; exact hk))
theorem wi7 {a m:List (List Int)} {n:Nat} (h:∀k,k<=n->qh7 a k a.length=qh7 m k m.length):∀f k,k+f<=n->ordF a f k=ordF m f k
 | 0,k,_=>by rw[ordF,ordF]
 | f+1,k,hk=>by rw[ordF,ordF,h (k+1) (by omega),wi7 h f (k+1) (by omega)]
theorem w8y {a m:List (List Int)} (h1:Maps a m) (h2:Maps m a):ordL a=ordL m:=by
 have:=@ww5 a m h1 h2
 have hs:=h1.same
 unfold ordL
 rw[hs]
 generalize(qp1 a).1=A at *
 generalize(qp1 m).1=M at *
 exact wi7 (λk hk=>this hk) _ _ (by omega)
theorem w91 {n:Nat} {σ τ:Nat->Nat} (hσ:∀q,q<n->σ q<n/\τ (σ q)=q) (hτ:∀c,c<n->τ c<n/\σ (τ c)=c) (f:Nat->Int):sm n f=sm n λq=>f (σ q):=
 q2k n (λq hq=>(hσ q hq).1) (λq k hq hk e=>by rw[<- (hσ q hq).2,e,(hσ k hk).2]) λb hb hq=>absurd (hτ b hb).2 (hq _ (hτ b hb).1)
theorem ww6 {e x:Int} (h:e=1\/e=-1):qf8 (e*x)=qf8 x:=by unfold qf8; rcases h with rfl | rfl <;> omega
theorem q4j {a m:List (List Int)} (va:qb9 a=true) (vm:qb9 m=true) (n7:(nL m 0).length<=7) (same:(nL a 0).length=(nL m 0).length) (rows:a.length=m.length) {σ τ:Nat->Nat} {ε:Nat->Int}
  (hσ:∀q,q<(nL m 0).length->σ q<(nL m 0).length/\τ (σ q)=q) (hτ:∀c,c<(nL m 0).length->τ c<(nL m 0).length/\σ (τ c)=c) (hε:∀q,ε q=1\/ε q=-1)
  (hrow:∀i,i<m.length->∀q,q<(nL m 0).length->rowOf a i q=ε q*rowOf m i (σ q)):Maps a m:=by
 refine⟨va,vm,n7,same,λs h hc=>?_⟩
 have hsol:=hc.sol
 have hlen:=hc.len
 have hon:=hc.on 0 hc.pos
 have hn0:=hc.nam.at_ 0 hc.pos
 rw[same] at hsol hlen hn0
 rw[rows] at hsol
 generalize(nL m 0).length=n at *
 refine⟨λc=>ε (τ c)*nI h (τ c),λi hi=>?_,?_,⟨σ (nI s 0).toNat,(hσ _ (by omega)).1,?_⟩,λp hp=>?_⟩
 ·rw[w91 hσ hτ,<- hsol i hi]
  refine qe0 λq hq=>?_
  show rowOf m i (σ q)*(ε (τ (σ q))*nI h (τ (σ q)))=rowOf a i q*nI h q
  rw[(hσ q hq).2,hrow i hi q hq]; grind
 ·rw[<- xo1 hlen]
  unfold sA
  rw[w91 hτ hσ (λq=>qf8 (nI h q))]
  exact qe0 λc hc=>ww6 (hε _)
 ·show ε (τ (σ (nI s 0).toNat))*nI h (τ (σ (nI s 0).toNat))≠0
  rw[(hσ _ (by omega)).2]
  rcases hε (nI s 0).toNat with e | e <;> rw[e] <;> omega
 ·obtain⟨P,hP⟩:∃P:List Int,P=p.map λx=>(σ x.toNat:Int):=⟨_,rfl⟩
  have hpb:∀x∈p,0<=x/\x<n:=λx hx=>by
   obtain⟨i,hi,rfl⟩:=List.mem_iff_getElem.1 hx
   have:=hp.at_ i hi
   rwa [qf9 p i hi] at this
  have hPb:∀x∈P,0<=x/\x<n:=λx hx=>by
   rw[hP] at hx
   obtain⟨y,hy,rfl⟩:=List.mem_map.1 hx
   have:=hpb y hy
   have:=(hσ y.toNat (by omega)).1
   omega
  have hPn:P.Nodup:=by
   rw[hP]
   have h2:p.Pairwise (· < ·):=q4g hp
   rw[List.Nodup,List.pairwise_map]
   refine(List.Pairwise.and_mem.1 h2).imp λ{x y} ⟨hx,hy,hxy⟩ e=>?_
   have k1:=hpb x hx
   have k2:=hpb y hy
   have e2:σ x.toNat=σ y.toNat:=by omega
   have:=(hσ x.toNat (by omega)).2
   rw[e2,(hσ y.toNat (by omega)).2] at this
   omega
  have hperm:(P.mergeSort λx y=>decide (x<=y)).Perm P:=List.mergeSort_perm ..
  refine⟨P.mergeSort λx y=>decide (x<=y),?_,by rw[hperm.length_eq,hP,List.length_map],?_⟩
  ·have hsrt:(P.mergeSort λx y=>decide (x<=y)).Pairwise (·<=·):=by
    have:=List.pairwise_mergeSort (le:=λx y:Int=>decide (x<=y)) (λa b c h1 h2=>by simp only[decide_eq_true_eq] at *; omega) (λa b=>by
     rcases Int.le_total a b with q | q
     ·simp[q]
     ·simp[q]) P
    exact this.imp λ{a b} q=>of_decide_eq_true q
   exact q1k (List.Pairwise.imp₂ (λa b h1 h2=>by omega) hsrt (hPn.perm hperm.symm)) λx hx=>hPb x (hperm.mem_iff.1 hx)
  ·rw[xo3,q6j _ hperm,hP,wm8]
   clear hP hPb hPn hperm
   induction p with
   | nil=>rfl
   | cons x p ih=>
    have k1:=hpb x (by simp)
    have hp2:Named n p:=q1k (List.pairwise_cons.1 (q4g hp)).2 λy hy=>hpb y (by simp[hy])
    rw[List.map_cons,q1j,q1j,ih hp2 λy hy=>hpb y (by simp[hy])]
    congr 1
    show qf8 (ε (τ ((σ x.toNat:Int)).toNat)*nI h (τ ((σ x.toNat:Int)).toNat))=qf8 (nI h x.toNat)
    rw[Int.toNat_natCast,(hσ x.toNat (by omega)).2]
    exact ww6 (hε _)
theorem ww7 {a:List (List Int)} {n:Nat} (h1:1<=a.length) (h6:a.length<=6) (n1:1<=n) (n10:n<=10) (hl:∀i,i<a.length->(nL a i).length=n) (hs:∀i,i<a.length->∀j,j<n->-1<=nI (nL a i) j/\nI (nL a i) j<=1):qb9 a=true:=by
 unfold qb9
 rw[Bool.and_eq_true,qn3,List.all_eq_true]
 refine⟨by omega,λx hx=>?_⟩
 obtain⟨i,hi,rfl⟩:=List.mem_iff_getElem.1 hx
 rw[<- qk3 _ _ hi,Bool.and_eq_true,decide_eq_true_eq,hl i hi,hl 0 (by omega)]
 refine⟨rfl,?_⟩
 unfold rowB
 rw[Bool.and_eq_true,qn3,List.all_eq_true,hl i hi]
 refine⟨by omega,λy hy=>?_⟩
 obtain⟨j,hj,rfl⟩:=List.mem_iff_getElem.1 hy
 rw[<- qf9 _ _ hj]
 exact qn3.2 (hs i hi j (by rw[hl i hi] at hj; exact hj))
theorem w8z {n:Nat} {p:List Int} (hl:p.length=n) (hb:∀k,k<n->0<=nI p k/\nI p k<n) (hd:p.Nodup):∃τ:Nat->Nat,(∀q,q<n->(nI p q).toNat<n/\τ (nI p q).toNat=q)/\∀c,c<n->τ c<n/\(nI p (τ c)).toNat=c:=by
 classical
 have inj:∀a b,a<n->b<n->(nI p a).toNat=(nI p b).toNat->a=b:=λa b ha hb' e=>by
  have k1:=hb a ha
  have k2:=hb b hb'
  rcases Nat.lt_trichotomy a b with q | q | q
  ·exact absurd (by omega) (q4h.1 hd b a q (by omega))
  ·exact q
  ·exact absurd (by omega) (q4h.1 hd a b q (by omega))
 have sur:∀c,c<n->∃q,q<n/\(nI p q).toNat=c:=λc hc=>by
  by_cases h:∃q,q<n/\(nI p q).toNat=c
  ·exact h
  ·exfalso
   obtain⟨i,j,hij,hj,e⟩:=q3o n (n+1) (λi=>if i<n then(nI p i).toNat else c) (λi _=>by
    show(if i<n then(nI p i).toNat else c)<n
    split
    ·rename_i q
     have:=hb i q
     omega
    ·exact hc) (by omega)
   have e:(if i<n then(nI p i).toNat else c)=(if j<n then(nI p j).toNat else c):=e
   rw[if_pos (by omega)] at e
   split at e
   ·rename_i q
    exact absurd (inj i j (by omega) q e) (by omega)
   ·exact h ⟨i,by omega,e⟩
 refine⟨λc=>if h:∃q,q<n/\(nI p q).toNat=c then Classical.choose h else 0,λq hq=>⟨by have:=hb q hq; omega,?_⟩,λc hc=>?_⟩
 ·have h:∃r,r<n/\(nI p r).toNat=(nI p q).toNat:=⟨q,hq,rfl⟩
  show(if h:∃r,r<n/\(nI p r).toNat=(nI p q).toNat then Classical.choose h else 0)=q
  rw[dif_pos h]
  have:=Classical.choose_spec h
  exact inj _ _ this.1 hq this.2
 ·show(if h:∃q,q<n/\(nI p q).toNat=c then Classical.choose h else 0)<n/\(nI p (if h:∃q,q<n/\(nI p q).toNat=c then Classical.choose h else 0)).toNat=c
  rw[dif_pos (sur c hc)]
  exact Classical.choose_spec (sur c hc)
structure AlikeM (a m:List (List Int)):Prop where
 fwd:Maps a m
 back:Maps m a
theorem w80 {m:List (List Int)} {p:List Int} (h:q71 m p=0) (n7:(nL m 0).length<=7):AlikeM (qz7 m p) m:=by
 obtain⟨hv,hl,ho,hd⟩:=w90 h
 have hM:=Mk.of hv
 have m1:=hM.rows1
 have m6:=hM.rows6
 have n1:=hM.pix1
 have hb:∀k,k<(nL m 0).length->0<=nI p k/\nI p k<(nL m 0).length:=λk hk=>q6k ho (by omega)
 obtain⟨τ,t1,t2⟩:=w8z hl hb hd
 have hrow:∀i,i<m.length->∀q,q<(nL m 0).length->rowOf (qz7 m p) i q=rowOf m i (nI p q).toNat:=λi hi q hq=>by
  show nI (nL (qz7 m p) i) q=nI (nL m i) (nI p q).toNat
  rw[q4i hi,qq0 _ _ _ (by omega)]
 have hw:(nL (qz7 m p) 0).length=(nL m 0).length:=by rw[q4i (by omega),qo5,hl]
 have va:qb9 (qz7 m p)=true:=by
  refine ww7 (n:=(nL m 0).length) (by rw[qk9]; exact m1) (by rw[qk9]; exact m6) n1 (by omega) (λi hi=>?_) λi hi j hj=>?_
  ·rw[qk9] at hi
   rw[q4i hi,qo5,hl]
  ·rw[qk9] at hi
   have:=hrow i hi j hj
   unfold rowOf at this
   rw[this]
   exact hM.small i hi _ (t1 j hj).1
 refine⟨q4j va hv n7 hw (qk9 m p) (σ:=λq=>(nI p q).toNat) (τ:=τ) (ε:=λ_=>1) t1 t2 (λ_=>.inl rfl) λi hi q hq=>?_,q4j hv va (by omega) hw.symm (qk9 m p).symm (σ:=τ) (τ:=λq=>(nI p q).toNat) (ε:=λ_=>1) (by rw[hw]; exact t2) (by rw[hw]; exact t1) (λ_=>.inl rfl) λi hi q hq=>?_⟩
 ·show _=1*_
  rw[Int.one_mul]; exact hrow i hi q hq
 ·rw[qk9] at hi
  rw[hw] at hq
  show _=1*rowOf (qz7 m p) i (τ q)
  rw[Int.one_mul,hrow i hi _ (t2 q hq).1,(t2 q hq).2]
def sgE (p:List Int):Nat->Nat->Int
 | 0,_=>1
 | k+1,q=>if q=(nI p k).toNat then-sgE p k q else sgE p k q
theorem q6m (p:List Int):∀k q,sgE p k q=1\/sgE p k q=-1
 | 0,_=>.inl rfl
 | k+1,q=>by
  have:=q6m p k q
  rw[sgE]
  split <;> omega
theorem w52 {r p:List Int} (hp:∀i,i<p.length->0<=nI p i/\nI p i<r.length):∀k,k<=p.length->∀q,nI (qs0 r p k) q=sgE p k q*nI r q
 | 0,_,q=>(Int.one_mul _).symm
 | k+1,hk,q=>by
  have:=hp k hk
  rw[qs0,w5u (by rw[qz8]; omega),sgE]
  split
  ·rename_i e
   rw[<- e,w52 hp k (by omega)]
   rw[Int.neg_mul]; omega
  ·exact w52 hp k (by omega) q
theorem qt1 (m:List (List Int)) (p:List Int):(w5x m p).length=m.length:=by simp[w5x]
theorem w53 {m:List (List Int)} {p:List Int} {i:Nat} (h:i<m.length):nL (w5x m p) i=xh5 (nL m i) p:=by
 rw[qk3 _ _ (by rw[qt1]; exact h),qk3 m i h]; simp[w5x]
theorem w81 {m:List (List Int)} {p:List Int} (h:q72 m p=0) (n7:(nL m 0).length<=7):AlikeM (w5x m p) m:=by
 obtain⟨hv,_,ho⟩:=w50 h
 have hM:=Mk.of hv
 have m1:=hM.rows1
 have m6:=hM.rows6
 have n1:=hM.pix1
 have hb:∀k,k<p.length->0<=nI p k/\nI p k<(nL m 0).length:=λk hk=>q6k ho hk
 have hrow:∀i,i<m.length->∀q,q<(nL m 0).length->rowOf (w5x m p) i q=sgE p p.length q*rowOf m i q:=λi hi q hq=>by
  show nI (nL (w5x m p) i) q=_*nI (nL m i) q
  rw[w53 hi]
  exact w52 (by rw[hM.each i hi]; exact hb) _ (Nat.le_refl _) q
 have hlen:∀i,i<m.length->(nL (w5x m p) i).length=(nL m 0).length:=λi hi=>by
  rw[w53 hi]; unfold xh5; rw[qz8,hM.each i hi]
 have hw:=hlen 0 (by omega)
 have va:qb9 (w5x m p)=true:=by
  refine ww7 (n:=(nL m 0).length) (by rw[qt1]; exact m1) (by rw[qt1]; exact m6) n1 (by omega) (λi hi=>hlen i (by rwa [qt1] at hi)) λi hi j hj=>?_
  rw[qt1] at hi
  have:=hrow i hi j hj
  unfold rowOf at this
  rw[this]
  have h2:=hM.small i hi j hj
  rcases q6m p p.length j with e | e <;> rw[e] <;> omega
 have id1:∀q,q<(nL m 0).length->(λx:Nat=>x) q<(nL m 0).length/\(λx:Nat=>x) ((λx:Nat=>x) q)=q:=λq hq=>⟨hq,rfl⟩
 refine⟨q4j va hv n7 hw (qt1 m p) (σ:=λq=>q) (τ:=λq=>q) (ε:=sgE p p.length) id1 id1 (q6m p _) hrow,q4j hv va (by omega) hw.symm (qt1 m p).symm (σ:=λq=>q) (τ:=λq=>q) (ε:=sgE p p.length) (by rw[hw]; exact id1) (by rw[hw]; exact id1) (q6m p _) λi hi q hq=>?_⟩
 rw[qt1] at hi
 rw[hw] at hq
 rw[hrow i hi q hq]
 rcases q6m p p.length q with e | e <;> rw[e] <;> omega
theorem AlikeM.ord {a m:List (List Int)} (h:AlikeM a m):qx2 a=qx2 m:=by
 unfold qx2
 rw[if_pos h.fwd.va,if_pos h.fwd.vm,w8y h.fwd h.back]
theorem AlikeM.cnt {a m:List (List Int)} (h:AlikeM a m) (k:Int):q0v a k 0=q0v m k 0:=by
 unfold q0v
 rw[h.fwd.va,h.fwd.vm,h.fwd.same]
theorem AlikeM.gr {a m:List (List Int)} (h:AlikeM a m) (k:Int):grQ a k=grQ m k:=by
 unfold grQ
 rw[h.cnt]
 split
 ·rename_i q
  obtain⟨_,j,rfl,hj⟩:=w4n q
  rw[Int.toNat_natCast]
  exact ww5 h.fwd h.back hj
 ·rfl
theorem AlikeM.n7 {a m:List (List Int)} (h:AlikeM a m):(nL a 0).length<=7:=by rw[h.fwd.same]; exact h.fwd.n7
end Go.Proofs.Ytempacilejhbgaa
