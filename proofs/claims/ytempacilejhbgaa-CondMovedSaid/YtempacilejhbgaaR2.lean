/- No set of k places has a greater sum of sizes than that of the k greatest. Plain mathematics. No condition. -/
import Derived.Test.YtempacilejhbgaaW16
import Derived.Test.YtempacilejhbgaaQ9
set_option linter.unusedVariables false
namespace Go.Proofs.Ytempacilejhbgaa
open Go Go.RowKit Eng
def q9y:Nat->(Nat->Int)->Nat
 | 0,_=>0
 | k+1,d=>if d k≠0 then q9y k d+1 else q9y k d
theorem cnt_le {d e:Nat->Int}:∀k,(∀c,c<k->d c≠0->e c≠0)->q9y k d<=q9y k e
 | 0,_=>Nat.le_refl _
 | k+1,h=>by
  have ih:=cnt_le k λc hc=>h c (by omega)
  rw[q9y,q9y]
  by_cases q:d k≠0
  ·rw[if_pos q,if_pos (h k (by omega) q)]; omega
  ·rw[if_neg q]; split <;> omega
theorem cnt_lt {d e:Nat->Int} {c0:Nat} (h1:d c0=0) (h2:e c0≠0):∀k,c0<k->(∀c,c<k->d c≠0->e c≠0)->q9y k d<q9y k e
 | k+1,hk,h=>by
  rw[q9y,q9y]
  by_cases q:c0=k
  ·have ih:=cnt_le (d:=d) (e:=e) k λc hc=>h c (by omega)
   rw[<- q,if_neg (by rw[h1]; exact λk=>k rfl),if_pos h2,q]
   omega
  ·have ih:=cnt_lt h1 h2 k (by omega) λc hc=>h c (by omega)
   by_cases q2:d k≠0
   ·rw[if_pos q2,if_pos (h k (by omega) q2)]; omega
   ·rw[if_neg q2]; split <;> omega
def wi8:Nat->(Nat->Int)->List Int
 | 0,_=>[]
 | k+1,d=>if d k≠0 then wi8 k d++[(k:Int)] else wi8 k d
theorem q4f (d:Nat->Int):∀k,(wi8 k d).length=q9y k d
 | 0=>rfl
 | k+1=>by
  rw[wi8,q9y]
  split
  ·rw[List.length_append,q4f d k]; rfl
  ·exact q4f d k
theorem qv2 (d:Nat->Int):∀k,Named k (wi8 k d)/\∀j,j<(wi8 k d).length->d (nI (wi8 k d) j).toNat≠0
 | 0=>⟨⟨λj hj=>absurd hj (Nat.not_lt_zero _),λi j _ hj=>absurd hj (Nat.not_lt_zero _)⟩,λj hj=>absurd hj (Nat.not_lt_zero _)⟩
 | k+1=>by
  obtain⟨h1,h2⟩:=qv2 d k
  rw[wi8]
  by_cases q:d k≠0
  ·rw[if_pos q]
   have hl:(wi8 k d++[(k:Int)]).length=(wi8 k d).length+1:=by simp
   refine⟨⟨λj hj=>?_,λi j hij hj=>?_⟩,λj hj=>?_⟩
   ·rw[hl] at hj
    rcases Nat.lt_succ_iff_lt_or_eq.1 hj with e | e
    ·rw[qk8 _ _ e]; have:=h1.at_ j e; omega
    ·rw[e,qr8]; omega
   ·rw[hl] at hj
    rw[qk8 _ _ (show i<(wi8 k d).length by omega)]
    rcases Nat.lt_succ_iff_lt_or_eq.1 hj with e | e
    ·rw[qk8 _ _ e]; exact h1.asc i j hij e
    ·rw[e,qr8]; exact(h1.at_ i (by omega)).2
   ·rw[hl] at hj
    rcases Nat.lt_succ_iff_lt_or_eq.1 hj with e | e
    ·rw[qk8 _ _ e]; exact h2 j e
    ·rw[e,qr8,Int.toNat_natCast]; exact q
  ·rw[if_neg q]
   exact⟨⟨λj hj=>by have:=h1.at_ j hj; omega,h1.asc⟩,h2⟩
theorem q9q (d:Nat->Int):∀k c,c<k->d c≠0->∃j,j<(wi8 k d).length/\nI (wi8 k d) j=(c:Int)
 | k+1,c,hc,hd=>by
  rw[wi8]
  by_cases q:c=k
  ·rw[if_pos (by rw[<- q]; exact hd)]
   exact⟨(wi8 k d).length,by simp,by rw[qr8,q]⟩
  ·obtain⟨j,h1,h2⟩:=q9q d k c (by omega) hd
   split
   ·exact⟨j,by rw[List.length_append]; omega,by rw[qk8 _ _ h1]; exact h2⟩
   ·exact⟨j,h1,h2⟩
theorem Named.inj {n:Nat} {s:List Int} (h:Named n s) {i j:Nat} (hi:i<s.length) (hj:j<s.length) (e:(nI s i).toNat=(nI s j).toNat):i=j:=by
 have h1:=h.at_ i hi
 have h2:=h.at_ j hj
 rcases Nat.lt_trichotomy i j with q | q | q
 ·have:=h.asc i j q hj; omega
 ·exact q
 ·have:=h.asc j i q hi; omega
structure w5g (m:List (List Int)) (s h:List Int):Prop where
 nam:Named (nL m 0).length s
 pos:0<s.length
 isc:IsC m s
 len:h.length=(nL m 0).length
 nz:q9y (nL m 0).length (nI h)=s.length
 sol:Sol m.length (nL m 0).length (rowOf m) (nI h)
 on:∀j,j<s.length->nI h (nI s j).toNat≠0
 off:∀c,c<(nL m 0).length->(∀j,j<s.length->nI s j≠(c:Int))->nI h c=0
 small:∀c,(nI h c).natAbs<=160
theorem xn7 {N:Nat} {s:List Int} (hs:Named N s) {d:Nat->Int} (hon:∀j,j<s.length->d (nI s j).toNat≠0) (hoff:∀c,c<N->(∀j,j<s.length->nI s j≠(c:Int))->d c=0):q9y N d=s.length:=by
 have h1:=(qv2 d N).1
 have h2:=(qv2 d N).2
 have h3:=q9q d N
 rw[<- q4f]
 have sub:∀(s t:List Int),Named N s->Named N t->(∀j,j<s.length->∃i,i<t.length/\nI t i=nI s j)->s.length<=t.length:=λs t hs ht h=>Nat.le_of_not_lt λhgt=>by
  have hx:∀j,∃i,j<s.length->i<t.length/\nI t i=nI s j:=λj=>by
   by_cases hj:j<s.length
   ·obtain⟨i,hi⟩:=h j hj; exact⟨i,λ_=>hi⟩
   ·exact⟨0,λq=>absurd q hj⟩
  obtain⟨g,hg⟩:=Classical.axiomOfChoice hx
  obtain⟨i,j,k1,k2,k3⟩:=q3o t.length s.length g (λi hi=>(hg i hi).1) hgt
  have e1:=(hg i (by omega)).2
  have e2:=(hg j k2).2
  rw[k3] at e1
  have:=hs.asc i j k1 k2
  omega
 refine Nat.le_antisymm (sub _ _ h1 hs λj hj=>?_) (sub _ _ hs h1 λj hj=>?_)
 ·have hb:=h1.at_ j hj
  refine Classical.byContradiction λq=>h2 j hj (hoff _ (by omega) λi hi e=>q ⟨i,hi,by omega⟩)
 ·have hb:=hs.at_ j hj
  obtain⟨i,hi,e⟩:=h3 _ (by omega) (hon j hj)
  exact⟨i,hi,by omega⟩
theorem w5h {m:List (List Int)} {s:List Int} (hM:Mk m) (hs:Named (nL m 0).length s) (h1:0<s.length) (hc:IsC m s):w5g m s (w08 m (nL m 0).length s):=by
 have hO:=qi9 hM hs h1
 obtain⟨f,hf,hnp,ho,hv,hp⟩:=hO.one_free hc.one
 have hsm:=(hO.ker_small (qs7 (qi2 (qn4 m s)) 0 (by have:=hc.one; show 0<(qx3 m s).length; omega))).2
 have hnz:=hc.nz
 unfold w08 q59
 change KV _ _ _ _ _ (nL (qx3 m s) 0) at hv
 change Prim (nL (qx3 m s) 0) at hp
 change ∀x∈nL (qx3 m s) 0,_ at hsm
 generalize nL (qx3 m s) 0=v at *
 have hat:=λj (hj:j<s.length)=>q6h (v:=v) hs _ (Nat.le_refl _) j hj
 have ho2:∀c:Nat,(∀j,j<s.length->nI s j≠(c:Int))->nI (qf5 (nL m 0).length s v s.length) c=0:=λc hc=>q9p hs hc _ (Nat.le_refl _)
 have hlen:=qj4 (nL m 0).length s v s.length
 generalize qf5 (nL m 0).length s v s.length=u at *
 have hsW:∀c,c<s.length->(nI s c).toNat<(nL m 0).length:=λc hc=>by have:=hs.at_ c hc; omega
 have hsol:Sol m.length (nL m 0).length (rowOf m) (nI u):=λa ha=>by
  rw[q2k s.length (f:=λc=>rowOf m a c*nI u c) (τ:=λc=>(nI s c).toNat) hsW (λq k hq hk e=>hs.inj hq hk e) λb hb hq=>by
   try dsimp only
   rw[ho2 b λj hj e=>hq j hj (by(try dsimp only); rw[e,Int.toNat_natCast]),Int.mul_zero]]
  rw[<- hv.sol a ha]
  refine qe0 λc hc=>?_
  try dsimp only
  unfold rowOf
  rw[hat c hc,qx0 m s a ha,qq0 _ _ _ hc]
 have hsmall:∀c,(nI u c).natAbs<=160:=λc=>by
  by_cases q:∃j,j<s.length/\nI s j=(c:Int)
  ·obtain⟨j,hj,e⟩:=q
   have:=hat j hj
   rw[e,Int.toNat_natCast] at this
   rw[this]
   exact hsm _ (q6a (by rw[hv.len]; exact hj))
  ·rw[ho2 c λj hj e=>q ⟨j,hj,e⟩]; decide
 have both:∀h:List Int,h.length=u.length->∀sg:Int,(sg=1\/sg=-1)->(∀c,nI h c=nI u c*sg)->w5g m s h:=λh hl sg hsg he=>by
  have hsg0:sg≠0:=by rcases hsg with rfl | rfl <;> decide
  have hon:∀j,j<s.length->nI h (nI s j).toNat≠0:=λj hj=>by
   rw[he,hat j hj]; exact qs9 (hnz j hj) hsg0
  have hoff:∀c,c<(nL m 0).length->(∀j,j<s.length->nI s j≠(c:Int))->nI h c=0:=λc hc hj=>by
   rw[he,ho2 c hj,Int.zero_mul]
  refine⟨hs,h1,hc,by omega,xn7 hs hon hoff,λa ha=>?_,hon,hoff,λc=>?_⟩
  ·have e:=hsol a ha
   have e2:(sm (nL m 0).length λc=>rowOf m a c*nI h c)=sg*sm (nL m 0).length λc=>rowOf m a c*nI u c:=by
    rw[<- qi8]
    refine qe0 λc hc=>?_
    try dsimp only
    rw[he]; grind
   rw[e2,e,Int.mul_zero]
  ·rw[he,Int.natAbs_mul]
   have:=hsmall c
   rcases hsg with rfl | rfl
   ·simpa using this
   ·simpa using this
 split
 ·exact both _ (qu5 _ _) (-1) (.inr rfl) λc=>q4d u (-1) c
 ·exact both _ rfl 1 (.inl rfl) λc=>by omega
theorem w8p {m:List (List Int)} (hM:Mk m) {k:Nat} {h:List Int} (hh:h∈w5d m k):∃s,w5g m s h/\s.length=k:=by
 unfold w5d at hh
 rw[List.mem_filterMap] at hh
 obtain⟨s,hs,e⟩:=hh
 obtain⟨hN,hl⟩:=q4e hs
 unfold w09 at e
 split at e
 ·rename_i q
  obtain rfl:=Option.some.inj e
  have hok:q6v m s=true:=by
   have q:=q
   unfold wh1 at q
   rw[Bool.and_eq_true,Bool.and_eq_true] at q
   exact q.1.1
  have h1:0<s.length:=by
   unfold q6v at hok
   rw[Bool.and_eq_true,decide_eq_true_eq] at hok
   omega
  exact⟨s,w5h hM hN h1 ((qv1 hM hN hok).1 q),hl⟩
 ·cases e
theorem w8q {m:List (List Int)} (hM:Mk m) {s:List Int} (hs:Named (nL m 0).length s) (h1:0<s.length) (hc:IsC m s):w08 m (nL m 0).length s∈w5d m s.length:=by
 have hr:=wu7 hM hs h1 hc
 have hr2:=w5e hM
 have hok:q6v m s=true:=by
  unfold q6v
  rw[Bool.and_eq_true,decide_eq_true_eq,decide_eq_true_eq]
  omega
 unfold w5d
 rw[List.mem_filterMap]
 refine⟨s,w5b hs,?_⟩
 unfold w09
 rw[if_pos ((qv1 hM hs hok).2 hc)]
end Go.Proofs.Ytempacilejhbgaa
set_option linter.unusedSimpArgs false
namespace Go.Proofs.Ytempacilejhbgaa
open Go Go.RowKit Eng
theorem wv0 {m:List (List Int)} (hv:qb9 m=true) (h7:(nL m 0).length<=7):(qp1 m).1=(List.range (nL m 0).length).flatMap λk=>w5d m (k+1):=by
 have e1:qp1 m=(q1f m (nL m 0).length (q2m m),0):=by simp[qp1,hv]
 rw[e1]
 exact w8o hv h7
theorem xn8 {m:List (List Int)} (hv:qb9 m=true) (h7:(nL m 0).length<=7) {h:List Int} (hh:h∈(qp1 m).1):∃s,w5g m s h:=by
 rw[wv0 hv h7,List.mem_flatMap] at hh
 obtain⟨k,_,hk⟩:=hh
 obtain⟨s,hs,_⟩:=w8p (Mk.of hv) hk
 exact⟨s,hs⟩
theorem xg3 {m:List (List Int)} (hv:qb9 m=true) (h7:(nL m 0).length<=7) {s:List Int} (hs:Named (nL m 0).length s) (h1:0<s.length) (hc:IsC m s):∃h∈(qp1 m).1,w5g m s h:=by
 refine⟨_,?_,w5h (Mk.of hv) hs h1 hc⟩
 rw[wv0 hv h7,List.mem_flatMap]
 have:=hs.len
 refine⟨s.length-1,List.mem_range.2 (by omega),?_⟩
 rw[show s.length-1+1=s.length by omega]
 exact w8q (Mk.of hv) hs h1 hc
theorem wv3 {m:List (List Int)} (hv:qb9 m=true) {s h:List Int} (hc:w5g m s h):HOk h:=by
 have:=(Mk.of hv).pix10
 refine⟨by rw[hc.len]; omega,λi=>?_⟩
 have:=hc.small i
 unfold qj0; omega
theorem wm7 (h:List Int):∀k,q9d h k=sm k λi=>qf8 (nI h i)
 | 0=>rfl
 | k+1=>by rw[q9d,wm7 h k]; rfl
theorem wi2 {n:Nat} {f:Nat->Int} (h:∀i,i<n->0<=f i):0<=sm n f:=by
 induction n with
 | zero=>exact Int.le_refl _
 | succ n ih=>
  have h1:=ih λi hi=>h i (by omega)
  have h2:=h n (by omega)
  show 0<=sm n f+f n
  omega
theorem w9v {n:Nat} {f:Nat->Int} (h:∀i,i<n->0<=f i) {k:Nat} (hk:k<n) (hf:0<f k):0<sm n f:=by
 induction n with
 | zero=>omega
 | succ n ih=>
  have h2:=h n (by omega)
  have h1:=wi2 (n:=n) λi hi=>h i (by omega)
  show 0<sm n f+f n
  rcases Nat.lt_succ_iff_lt_or_eq.1 hk with e | e
  ·have:=ih (λi hi=>h i (by omega)) e; omega
  ·subst e; omega
theorem qi3 (x:Int):0<=qf8 x:=Int.natCast_nonneg _
theorem xn9 {h:List Int} {i:Nat} (hi:i<h.length) (hx:nI h i≠0):0<szL h:=by
 unfold szL
 rw[wm7]
 refine w9v (λi _=>qi3 _) hi ?_
 show 0<qf8 (nI h i)
 unfold qf8; omega
theorem xg4 {m:List (List Int)} {s h:List Int} (hc:w5g m s h):0<szL h:=by
 have h1:=hc.nam.at_ 0 hc.pos
 exact xn9 (i:=(nI s 0).toNat) (by rw[hc.len]; omega) (hc.on 0 hc.pos)
theorem w8r {l:List Int} {j:Nat} (h:j+1<l.length):(swp l j).Perm l:=by
 unfold swp
 rw[qf9 l j (by omega),qf9 l (j+1) h]
 have e1:l=l.take j++l[j] :: l[j+1] :: l.drop (j+2):=by
  rw[<- List.drop_eq_getElem_cons h,<- List.drop_eq_getElem_cons (by omega),List.take_append_drop]
 generalize hx:l[j]=x at *
 generalize hy:l[j+1]=y at *
 have hlt:(l.take j).length=j:=by rw[List.length_take]; omega
 generalize l.take j=a at *
 generalize l.drop (j+2)=b at *
 subst e1
 have e2:(a++x :: y :: b).set (j+1) x=a++x :: x :: b:=by
  rw[List.set_append_right _ _ (by omega),hlt,show j+1-j=1 by omega]; rfl
 have e3:(a++x :: x :: b).set j y=a++y :: x :: b:=by
  rw[List.set_append_right _ _ (by omega),hlt,Nat.sub_self]; rfl
 rw[e2,e3]
 exact List.Perm.append_left a (List.Perm.swap x y b)
theorem wi3 (f:Int->Int->Int):∀(j:Nat) (l:List Int),j<l.length->(qs8 f j l).Perm l
 | 0,l,_=>List.Perm.refl l
 | j+1,l,h=>by
  rw[qs8]
  split
  ·exact(wi3 f j (swp l j) (by rw[q5x]; omega)).trans (w8r h)
  ·exact List.Perm.refl l
theorem wv4 (f:Int->Int->Int) (l:List Int):∀k,k<l.length\/k=0->(qr9 f l k).Perm l
 | 0,_=>List.Perm.refl l
 | k+1,h=>by
  have h1:=(qx1 f l k (by omega)).1
  exact(wi3 f (k+1) (qr9 f l k) (by omega)).trans (wv4 f l k (by omega))
theorem wv5 {l:List Int} {j i:Nat} (h:j+1<l.length):nI (swp l j) i=if i=j then nI l (j+1) else if i=j+1 then nI l j else nI l i:=by
 unfold swp
 by_cases e:i=j
 ·subst e
  rw[if_pos rfl]
  exact qp5 (t:=.int .i64) _ _ _ (by rw[List.length_set]; omega)
 ·rw[if_neg e]
  refine(qv4 (t:=.int .i64) _ _ _ _ e).trans ?_
  by_cases e2:i=j+1
  ·subst e2
   rw[if_pos rfl]
   exact qp5 (t:=.int .i64) _ _ _ (by omega)
  ·rw[if_neg e2]
   exact qv4 (t:=.int .i64) _ _ _ _ e2
structure xo0 (v:Int->Int) (l:List Int) (j n:Nat):Prop where
 lo:∀a b,a<b->b<n->a≠j->b≠j->v (nI l b)<=v (nI l a)
 hi:∀b,j<b->b<n->v (nI l b)<=v (nI l j)
theorem wi4 {v:Int->Int} {n:Nat}:∀(j:Nat) (l:List Int),j<n->n<=l.length->xo0 v l j n->∀a b,a<b->b<n->v (nI (qs8 (λx y=>v y-v x) j l) b)<=v (nI (qs8 (λx y=>v y-v x) j l) a)
 | 0,l,hj,hn,h=>λa b hab hb=>by
  show v (nI l b)<=v (nI l a)
  by_cases e:a=0
  ·subst e; exact h.hi b hab hb
  ·exact h.lo a b hab hb e (by omega)
 | j+1,l,hj,hn,h=>λa b hab hb=>by
  rw[qs8]
  split
  ·rename_i hc
   refine wi4 j (swp l j) (by omega) (by rw[q5x]; omega) ⟨λa b hab hb ha hb'=>?_,λb hjb hb=>?_⟩ a b hab hb
   ·rw[wv5 (by omega),wv5 (by omega),if_neg ha,if_neg hb']
    by_cases e1:b=j+1
    ·rw[if_pos e1,if_neg (by omega)]
     exact h.lo a j (by omega) (by omega) (by omega) (by omega)
    ·rw[if_neg e1]
     by_cases e2:a=j+1
     ·rw[if_pos e2]
      exact h.lo j b (by omega) hb (by omega) e1
     ·rw[if_neg e2]; exact h.lo a b hab hb e2 e1
   ·rw[wv5 (by omega),wv5 (by omega),if_neg (by omega),if_pos rfl]
    by_cases e1:b=j+1
    ·rw[if_pos e1]
     omega
    ·rw[if_neg e1]; exact h.hi b (by omega) hb
  ·rename_i hc
   have hge:v (nI l (j+1))<=v (nI l j):=by omega
   by_cases e1:b=j+1
   ·subst e1
    by_cases e2:a=j
    ·subst e2; exact hge
    ·exact Int.le_trans hge (h.lo a j (by omega) (by omega) (by omega) (by omega))
   ·by_cases e2:a=j+1
    ·subst e2; exact h.hi b hab hb
    ·exact h.lo a b hab hb e2 e1
theorem wv6 {v:Int->Int} (l:List Int):∀k,k<l.length->∀a b,a<b->b<k+1->v (nI (qr9 (λx y=>v y-v x) l k) b)<=v (nI (qr9 (λx y=>v y-v x) l k) a)
 | 0,_=>λa b hab hb=>by omega
 | k+1,hk=>by
  have h1:=wv6 (v:=v) l k (by omega)
  have h2:=(qx1 (λx y=>v y-v x) l k (by omega)).1
  rw[qr9]
  exact wi4 (k+1) _ (by omega) (by omega) ⟨λa b hab hb ha hb'=>h1 a b hab (by omega),λb h3 h4=>by omega⟩
def q1j (f:Int->Int):List Int->Int
 | []=>0
 | x :: r=>f x+q1j f r
theorem q6j (f:Int->Int) {a b:List Int} (h:a.Perm b):q1j f a=q1j f b:=by
 induction h with
 | nil=>rfl
 | cons x _ ih=>simp[q1j,ih]
 | swap x y l=>simp[q1j]; omega
 | trans _ _ ih1 ih2=>exact ih1.trans ih2
theorem q9r (f:Int->Int):∀a b:List Int,q1j f (a++b)=q1j f a+q1j f b
 | [],b=>by simp[q1j]
 | x :: a,b=>by simp[q1j,q9r f a b]; omega
theorem q7z (f:Int->Int) (a:Int):∀(s:List Int) (m:Nat),(∀y∈s,f y<=f a)->m<s.length->q1j f (s.take (m+1))<=f a+q1j f (s.take m)
 | [],m,_,h=>by simp at h
 | x :: s,0,h,_=>by simpa[q1j] using h x (by simp)
 | x :: s,m+1,h,hm=>by
  have:=q7z f a s m (λy hy=>h y (by simp[hy])) (by simpa using hm)
  simp only[List.take_succ_cons,q1j] at this ⊢
  omega
theorem w5i (f:Int->Int) {t s:List Int} (h:t.Sublist s) (hp:s.Pairwise λx y=>f y<=f x):q1j f t<=q1j f (s.take t.length):=by
 induction h with
 | slnil=>simp[q1j]
 | @cons t s a hs ih=>
  obtain⟨h1,h2⟩:=List.pairwise_cons.1 hp
  have:=ih h2
  have hl:=hs.length_le
  cases e:t.length with
  | zero=>rw[e] at this; simpa using this
  | succ m=>
   rw[e] at this hl
   have:=q7z f a s m h1 (by omega)
   simp only[List.take_succ_cons,q1j]
   omega
 | @cons_cons t s a hs ih=>
  have:=ih (List.pairwise_cons.1 hp).2
  simp only[List.length_cons,List.take_succ_cons,q1j]
  omega
def szV (h:List Int) (x:Int):Int:=qf8 (nI h x.toNat)
theorem wm8 (h:List Int) (p:List Int):inL h p=q1j (szV h) p:=by
 have:∀k,k<=p.length->qr6 h p k=q1j (szV h) (p.take k):=λk=>by
  induction k with
  | zero=>exact λ_=>by simp[qr6,q1j]
  | succ k ih=>
   intro hk
   have hs:p.take (k+1)=p.take k++[nI p k]:=by
    rw[List.take_add_one,List.getElem?_eq_getElem (by omega),qf9 p k (by omega)]; rfl
   rw[qr6,ih (by omega),hs,q9r]
   simp[q1j,szV]
 rw[inL,this _ (Nat.le_refl _),List.take_length]
theorem q4g {n:Nat} {p:List Int} (h:Named n p):p.Pairwise (· < ·):=by
 rw[List.pairwise_iff_getElem]
 intro i j hi hj hij
 have:=h.asc i j hij hj
 rwa [qf9 p i hi,qf9 p j hj] at this
theorem q1k {n:Nat} {p:List Int} (h:p.Pairwise (· < ·)) (hb:∀x∈p,0<=x/\x<n):Named n p:=by
 refine⟨λj hj=>hb _ (q3a hj),λi j hij hj=>?_⟩
 rw[qf9 p i (by omega),qf9 p j hj]
 exact List.pairwise_iff_getElem.1 h i j (by omega) hj hij
theorem q9s {p:List Int} (h:p.Pairwise (· < ·)):p.Nodup:=h.imp λ{a b} q e=>by omega
theorem w9w (n:Nat):(qm5 n).Pairwise (· < ·):=q4g (Named.idx n)
theorem w5j {n:Nat} {x:Int}:x∈qm5 n↔0<=x/\x<n:=by
 constructor
 ·intro hx
  obtain⟨i,hi,rfl⟩:=List.mem_iff_getElem.1 hx
  rw[<- qf9 _ _ hi]
  rw[qe5] at hi
  rw[qz3 _ _ hi]; omega
 ·intro hx
  have:nI (qm5 n) x.toNat=x:=by rw[qz3 _ _ (by omega)]; omega
  rw[<- this]
  exact q3a (by rw[qe5]; omega)
def w5k (h:List Int):List Int:=insL (q3s h) (qm5 h.length)
theorem qz6 (h:List Int):(w5k h).Perm (qm5 h.length):=wv4 _ _ _ (by rw[qe5]; omega)
theorem w5l (h:List Int):(w5k h).Pairwise λx y=>szV h y<=szV h x:=by
 rw[List.pairwise_iff_getElem]
 intro i j hi hj hij
 have hl:(w5k h).length=h.length:=by rw[(qz6 h).length_eq,qe5]
 have:=wv6 (v:=szV h) (qm5 h.length) ((qm5 h.length).length-1) (by rw[qe5]; omega) i j hij (by rw[qe5]; omega)
 rw[<- qf9 _ i hi,<- qf9 _ j hj]
 exact this
theorem wi5 (h:List Int) (k:Nat):(q0u h k).Perm ((w5k h).take k):=List.mergeSort_perm ..
theorem w1a {h:List Int} {k:Nat}:Named h.length (q0u h k):=by
 have hp:=wi5 h k
 have hnd:(w5k h).Nodup:=(q9s (w9w _)).perm (qz6 h).symm
 have hnd2:(q0u h k).Nodup:=(hnd.sublist (List.take_sublist k _)).perm hp.symm
 have hsrt:(q0u h k).Pairwise (·<=·):=by
  have:=List.pairwise_mergeSort (le:=λx y:Int=>decide (x<=y)) (λa b c h1 h2=>by simp only[decide_eq_true_eq] at *; omega) (λa b=>by
   rcases Int.le_total a b with q | q
   ·simp[q]
   ·simp[q]) ((w5k h).take k)
  exact this.imp λ{a b} q=>of_decide_eq_true q
 refine q1k ?_ λx hx=>w5j.1 ((qz6 h).mem_iff.1 (List.mem_of_mem_take (hp.mem_iff.1 hx)))
 exact List.Pairwise.imp₂ (λa b h1 h2=>by omega) hsrt hnd2
theorem wv7 (h:List Int) (k:Nat):inL h (q0u h k)=q1j (szV h) ((w5k h).take k):=by rw[wm8,q6j _ (wi5 h k)]
theorem w8s {h:List Int} {p:List Int} (hp:Named h.length p):inL h p<=inL h (q0u h p.length):=by
 rw[wv7,wm8]
 have hnd:(w5k h).Nodup:=(q9s (w9w _)).perm (qz6 h).symm
 have hf:((w5k h).filter λx=>decide (x∈p)).Perm p:=by
  rw[List.perm_ext_iff_of_nodup (hnd.sublist List.filter_sublist) (q9s (q4g hp))]
  intro a
  rw[List.mem_filter,decide_eq_true_eq]
  constructor
  ·exact λq=>q.2
  ·intro q
   refine⟨(qz6 h).mem_iff.2 (w5j.2 ?_),q⟩
   obtain⟨i,hi,rfl⟩:=List.mem_iff_getElem.1 q
   have:=hp.at_ i hi
   rwa [qf9 p i hi] at this
 have:=w5i (szV h) (t:=(w5k h).filter λx=>decide (x∈p)) List.filter_sublist (w5l h)
 rwa [q6j _ hf,hf.length_eq] at this
end Go.Proofs.Ytempacilejhbgaa
