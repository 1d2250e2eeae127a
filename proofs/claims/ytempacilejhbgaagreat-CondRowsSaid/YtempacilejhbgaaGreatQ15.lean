/- Kernel vectors, and shares of a mask, as the document says: contracts by the engine. No condition. -/
import Derived.Test.YtempacilejhbgaaGreatW16
import Derived.Test.YtempacilejhbgaaGreatQ9
import Derived.Test.YtempacilejhbgaaGreatQ14
import Derived.Test.YtempacilejhbgaaGreatV22
set_option linter.unusedVariables false
namespace Go.Proofs.YtempacilejhbgaaGreat
open Go Go.RowKit Eng
def xw6:Nat->(Nat->Int)->Nat
 | 0,_=>0
 | k+1,d=>if d k≠0 then xw6 k d+1 else xw6 k d
def ww6:Nat->(Nat->Int)->List Int
 | 0,_=>[]
 | k+1,d=>if d k≠0 then ww6 k d++[(k:Int)] else ww6 k d
theorem wf7 (d:Nat->Int):∀k,(ww6 k d).length=xw6 k d
 | 0=>rfl
 | k+1=>by
  rw[ww6,xw6]
  split
  ·rw[List.length_append,wf7 d k]; rfl
  ·exact wf7 d k
theorem q4u (d:Nat->Int):∀k,Named k (ww6 k d)/\∀j,j<(ww6 k d).length->d (nI (ww6 k d) j).toNat≠0
 | 0=>⟨⟨λj hj=>absurd hj (Nat.not_lt_zero _),λi j _ hj=>absurd hj (Nat.not_lt_zero _)⟩,λj hj=>absurd hj (Nat.not_lt_zero _)⟩
 | k+1=>by
  obtain⟨h1,h2⟩:=q4u d k
  rw[ww6]
  by_cases q:d k≠0
  ·rw[if_pos q]
   have hl:(ww6 k d++[(k:Int)]).length=(ww6 k d).length+1:=by simp
   refine⟨⟨λj hj=>?_,λi j hij hj=>?_⟩,λj hj=>?_⟩
   ·rw[hl] at hj
    rcases Nat.lt_succ_iff_lt_or_eq.1 hj with e | e
    ·rw[qm7 _ _ e]; have:=h1.at_ j e; omega
    ·rw[e,qt7]; omega
   ·rw[hl] at hj
    rw[qm7 _ _ (show i<(ww6 k d).length by omega)]
    rcases Nat.lt_succ_iff_lt_or_eq.1 hj with e | e
    ·rw[qm7 _ _ e]; exact h1.asc i j hij e
    ·rw[e,qt7]; exact(h1.at_ i (by omega)).2
   ·rw[hl] at hj
    rcases Nat.lt_succ_iff_lt_or_eq.1 hj with e | e
    ·rw[qm7 _ _ e]; exact h2 j e
    ·rw[e,qt7,Int.toNat_natCast]; exact q
  ·rw[if_neg q]
   exact⟨⟨λj hj=>by have:=h1.at_ j hj; omega,h1.asc⟩,h2⟩
theorem w1t (d:Nat->Int):∀k c,c<k->d c≠0->∃j,j<(ww6 k d).length/\nI (ww6 k d) j=(c:Int)
 | k+1,c,hc,hd=>by
  rw[ww6]
  by_cases q:c=k
  ·rw[if_pos (by rw[<- q]; exact hd)]
   exact⟨(ww6 k d).length,by simp,by rw[qt7,q]⟩
  ·obtain⟨j,h1,h2⟩:=w1t d k c (by omega) hd
   split
   ·exact⟨j,by rw[List.length_append]; omega,by rw[qm7 _ _ h1]; exact h2⟩
   ·exact⟨j,h1,h2⟩
theorem Named.inj {n:Nat} {s:List Int} (h:Named n s) {i j:Nat} (hi:i<s.length) (hj:j<s.length) (e:(nI s i).toNat=(nI s j).toNat):i=j:=by
 have h1:=h.at_ i hi
 have h2:=h.at_ j hj
 rcases Nat.lt_trichotomy i j with q | q | q
 ·have:=h.asc i j q hj; omega
 ·exact q
 ·have:=h.asc j i q hi; omega
structure xg7 (m:List (List Int)) (s h:List Int):Prop where
 nam:Named (nL m 0).length s
 pos:0<s.length
 isc:IsC m s
 len:h.length=(nL m 0).length
 nz:xw6 (nL m 0).length (nI h)=s.length
 sol:Sol m.length (nL m 0).length (rowOf m) (nI h)
 on:∀j,j<s.length->nI h (nI s j).toNat≠0
 off:∀c,c<(nL m 0).length->(∀j,j<s.length->nI s j≠(c:Int))->nI h c=0
 small:∀c,(nI h c).natAbs<=160
theorem x1b {N:Nat} {s:List Int} (hs:Named N s) {d:Nat->Int} (hon:∀j,j<s.length->d (nI s j).toNat≠0) (hoff:∀c,c<N->(∀j,j<s.length->nI s j≠(c:Int))->d c=0):xw6 N d=s.length:=by
 have h1:=(q4u d N).1
 have h2:=(q4u d N).2
 have h3:=w1t d N
 rw[<- wf7]
 have sub:∀(s t:List Int),Named N s->Named N t->(∀j,j<s.length->∃i,i<t.length/\nI t i=nI s j)->s.length<=t.length:=λs t hs ht h=>Nat.le_of_not_lt λhgt=>by
  have hx:∀j,∃i,j<s.length->i<t.length/\nI t i=nI s j:=λj=>by
   by_cases hj:j<s.length
   ·obtain⟨i,hi⟩:=h j hj; exact⟨i,λ_=>hi⟩
   ·exact⟨0,λq=>absurd q hj⟩
  obtain⟨g,hg⟩:=Classical.axiomOfChoice hx
  obtain⟨i,j,k1,k2,k3⟩:=q7g t.length s.length g (λi hi=>(hg i hi).1) hgt
  have e1:=(hg i (by omega)).2
  have e2:=(hg j k2).2
  rw[k3] at e1
  have:=hs.asc i j k1 k2
  omega
 refine Nat.le_antisymm (sub _ _ h1 hs λj hj=>?_) (sub _ _ hs h1 λj hj=>?_)
 ·have hb:=h1.at_ j hj
  refine Classical.byContradiction λq=>h2 j hj (hoff _ (by omega) λi hi e=>q ⟨i,hi,by omega⟩)
 ·have hb:=hs.at_ j hj
  obtain⟨i,hi,e⟩:=h3 _ (by omega) (hon j hj)
  exact⟨i,hi,by omega⟩
theorem xt9 {m:List (List Int)} {s:List Int} (hM:Mk m) (hs:Named (nL m 0).length s) (h1:0<s.length) (hc:IsC m s):xg7 m s (wp2 m (nL m 0).length s):=by
 have hO:=qk1 hM hs h1
 obtain⟨f,hf,hnp,ho,hv,hp⟩:=hO.one_free hc.one
 have hsm:=(hO.ker_small (qi9 (qg3 (qj3 m s)) 0 (by have:=hc.one; show 0<(qh6 m s).length; omega))).2
 have hnz:=hc.nz
 unfold wp2 q2n
 change KV _ _ _ _ _ (nL (qh6 m s) 0) at hv
 change Prim (nL (qh6 m s) 0) at hp
 change ∀x∈nL (qh6 m s) 0,_ at hsm
 generalize nL (qh6 m s) 0=v at *
 have hat:=λj (hj:j<s.length)=>q7u (v:=v) hs _ (Nat.le_refl _) j hj
 have ho2:∀c:Nat,(∀j,j<s.length->nI s j≠(c:Int))->nI (qd1 (nL m 0).length s v s.length) c=0:=λc hc=>wf5 hs hc _ (Nat.le_refl _)
 have hlen:=qj0 (nL m 0).length s v s.length
 generalize qd1 (nL m 0).length s v s.length=u at *
 have hsW:∀c,c<s.length->(nI s c).toNat<(nL m 0).length:=λc hc=>by have:=hs.at_ c hc; omega
 have hsol:Sol m.length (nL m 0).length (rowOf m) (nI u):=λa ha=>by
  rw[we8 s.length (f:=λc=>rowOf m a c*nI u c) (τ:=λc=>(nI s c).toNat) hsW (λq k hq hk e=>hs.inj hq hk e) λb hb hq=>by
   try dsimp only
   rw[ho2 b λj hj e=>hq j hj (by(try dsimp only); rw[e,Int.toNat_natCast]),Int.mul_zero]]
  rw[<- hv.sol a ha]
  refine qg6 λc hc=>?_
  try dsimp only
  unfold rowOf
  rw[hat c hc,qz0 m s a ha,q1d _ _ _ hc]
 have hsmall:∀c,(nI u c).natAbs<=160:=λc=>by
  by_cases q:∃j,j<s.length/\nI s j=(c:Int)
  ·obtain⟨j,hj,e⟩:=q
   have:=hat j hj
   rw[e,Int.toNat_natCast] at this
   rw[this]
   exact hsm _ (q9o (by rw[hv.len]; exact hj))
  ·rw[ho2 c λj hj e=>q ⟨j,hj,e⟩]; decide
 have both:∀h:List Int,h.length=u.length->∀sg:Int,(sg=1\/sg=-1)->(∀c,nI h c=nI u c*sg)->xg7 m s h:=λh hl sg hsg he=>by
  have hsg0:sg≠0:=by rcases hsg with rfl | rfl <;> decide
  have hon:∀j,j<s.length->nI h (nI s j).toNat≠0:=λj hj=>by
   rw[he,hat j hj]; exact qu9 (hnz j hj) hsg0
  have hoff:∀c,c<(nL m 0).length->(∀j,j<s.length->nI s j≠(c:Int))->nI h c=0:=λc hc hj=>by
   rw[he,ho2 c hj,Int.zero_mul]
  refine⟨hs,h1,hc,by omega,x1b hs hon hoff,λa ha=>?_,hon,hoff,λc=>?_⟩
  ·have e:=hsol a ha
   have e2:(sm (nL m 0).length λc=>rowOf m a c*nI h c)=sg*sm (nL m 0).length λc=>rowOf m a c*nI u c:=by
    rw[<- qt6]
    refine qg6 λc hc=>?_
    try dsimp only
    rw[he]; grind
   rw[e2,e,Int.mul_zero]
  ·rw[he,Int.natAbs_mul]
   have:=hsmall c
   rcases hsg with rfl | rfl
   ·simpa using this
   ·simpa using this
 split
 ·exact both _ (qs5 _ _) (-1) (.inr rfl) λc=>q5o u (-1) c
 ·exact both _ rfl 1 (.inl rfl) λc=>by omega
theorem xg8 {m:List (List Int)} (hM:Mk m) {k:Nat} {h:List Int} (hh:h∈w9a m k):∃s,xg7 m s h/\s.length=k:=by
 unfold w9a at hh
 rw[List.mem_filterMap] at hh
 obtain⟨s,hs,e⟩:=hh
 obtain⟨hN,hl⟩:=qv1 hs
 unfold wf6 at e
 split at e
 ·rename_i q
  obtain rfl:=Option.some.inj e
  have hok:q1p m s=true:=by
   have q:=q
   unfold qr6 at q
   rw[Bool.and_eq_true,Bool.and_eq_true] at q
   exact q.1.1
  have h1:0<s.length:=by
   unfold q1p at hok
   rw[Bool.and_eq_true,decide_eq_true_eq] at hok
   omega
  exact⟨s,xt9 hM hN h1 ((q1k hM hN hok).1 q),hl⟩
 ·cases e
end Go.Proofs.YtempacilejhbgaaGreat
set_option linter.unusedSimpArgs false
namespace Go.Proofs.YtempacilejhbgaaGreat
open Go Go.RowKit Eng
theorem xg9 {m:List (List Int)} (hv:validB m=true) (h7:(nL m 0).length<=7):(qc8 m).1=(List.range (nL m 0).length).flatMap λk=>w9a m (k+1):=by
 have e1:qc8 m=(q1t m (nL m 0).length (q3o m),0):=by simp[qc8,hv]
 rw[e1]
 exact w1s hv h7
theorem x1c {m:List (List Int)} (hv:validB m=true) (h7:(nL m 0).length<=7) {h:List Int} (hh:h∈(qc8 m).1):∃s,xg7 m s h:=by
 rw[xg9 hv h7,List.mem_flatMap] at hh
 obtain⟨k,_,hk⟩:=hh
 obtain⟨s,hs,_⟩:=xg8 (Mk.of hv) hk
 exact⟨s,hs⟩
theorem wf9 {m:List (List Int)} (hv:validB m=true) {s h:List Int} (hc:xg7 m s h):HOk h:=by
 have:=(Mk.of hv).pix10
 refine⟨by rw[hc.len]; omega,λi=>?_⟩
 have:=hc.small i
 unfold qf4; omega
theorem w8c (h:List Int):∀k,q2q h k=sm k λi=>q0a (nI h i)
 | 0=>rfl
 | k+1=>by rw[q2q,w8c h k]; rfl
theorem w8d {n:Nat} {f:Nat->Int} (h:∀i,i<n->0<=f i):0<=sm n f:=by
 induction n with
 | zero=>exact Int.le_refl _
 | succ n ih=>
  have h1:=ih λi hi=>h i (by omega)
  have h2:=h n (by omega)
  show 0<=sm n f+f n
  omega
theorem x1d {n:Nat} {f:Nat->Int} (h:∀i,i<n->0<=f i) {k:Nat} (hk:k<n) (hf:0<f k):0<sm n f:=by
 induction n with
 | zero=>omega
 | succ n ih=>
  have h2:=h n (by omega)
  have h1:=w8d (n:=n) λi hi=>h i (by omega)
  show 0<sm n f+f n
  rcases Nat.lt_succ_iff_lt_or_eq.1 hk with e | e
  ·have:=ih (λi hi=>h i (by omega)) e; omega
  ·subst e; omega
theorem ww7 (x:Int):0<=q0a x:=Int.natCast_nonneg _
theorem x1e {h:List Int} {i:Nat} (hi:i<h.length) (hx:nI h i≠0):0<szL h:=by
 unfold szL
 rw[w8c]
 refine x1d (λi _=>ww7 _) hi ?_
 show 0<q0a (nI h i)
 unfold q0a; omega
theorem xu0 {m:List (List Int)} {s h:List Int} (hc:xg7 m s h):0<szL h:=by
 have h1:=hc.nam.at_ 0 hc.pos
 exact x1e (i:=(nI s 0).toNat) (by rw[hc.len]; omega) (hc.on 0 hc.pos)
theorem xh0 {l:List Int} {j:Nat} (h:j+1<l.length):(swp l j).Perm l:=by
 unfold swp
 rw[qg4 l j (by omega),qg4 l (j+1) h]
 have e1:l=l.take j++l[j] :: l[j+1] :: l.drop (j+2):=by
  rw[<- List.drop_eq_getElem_cons h,<- List.drop_eq_getElem_cons (by omega),List.take_append_drop]
 generalize hx:l[j]=x at *
 generalize hy:l[j+1]=y at *
 have hlt:(l.take j).length=j:=by rw[List.length_take]; omega
 generalize l.take j=a at *
 generalize l.drop (j+2)=b at *
 subst e1
 have e2:(a++x :: y :: b).set (j+1) x=a++x :: x :: b:=by
  rw[List.set_append_right _ _ (by omega),hlt,show j+1-j=1 by omega]; rfl
 have e3:(a++x :: x :: b).set j y=a++y :: x :: b:=by
  rw[List.set_append_right _ _ (by omega),hlt,Nat.sub_self]; rfl
 rw[e2,e3]
 exact List.Perm.append_left a (List.Perm.swap x y b)
theorem wq0 (f:Int->Int->Int):∀(j:Nat) (l:List Int),j<l.length->(qu7 f j l).Perm l
 | 0,l,_=>List.Perm.refl l
 | j+1,l,h=>by
  rw[qu7]
  split
  ·exact(wq0 f j (swp l j) (by rw[q7d]; omega)).trans (xh0 h)
  ·exact List.Perm.refl l
theorem w1u (f:Int->Int->Int) (l:List Int):∀k,k<l.length\/k=0->(qt9 f l k).Perm l
 | 0,_=>List.Perm.refl l
 | k+1,h=>by
  have h1:=(qz3 f l k (by omega)).1
  exact(wq0 f (k+1) (qt9 f l k) (by omega)).trans (w1u f l k (by omega))
theorem w1w {l:List Int} {j i:Nat} (h:j+1<l.length):nI (swp l j) i=if i=j then nI l (j+1) else if i=j+1 then nI l j else nI l i:=by
 unfold swp
 by_cases e:i=j
 ·subst e
  rw[if_pos rfl]
  exact qr7 (t:=.int .i64) _ _ _ (by rw[List.length_set]; omega)
 ·rw[if_neg e]
  refine(qx3 (t:=.int .i64) _ _ _ _ e).trans ?_
  by_cases e2:i=j+1
  ·subst e2
   rw[if_pos rfl]
   exact qr7 (t:=.int .i64) _ _ _ (by omega)
  ·rw[if_neg e2]
   exact qx3 (t:=.int .i64) _ _ _ _ e2
structure x1f (v:Int->Int) (l:List Int) (j n:Nat):Prop where
 lo:∀a b,a<b->b<n->a≠j->b≠j->v (nI l b)<=v (nI l a)
 hi:∀b,j<b->b<n->v (nI l b)<=v (nI l j)
theorem wq1 {v:Int->Int} {n:Nat}:∀(j:Nat) (l:List Int),j<n->n<=l.length->x1f v l j n->∀a b,a<b->b<n->v (nI (qu7 (λx y=>v y-v x) j l) b)<=v (nI (qu7 (λx y=>v y-v x) j l) a)
 | 0,l,hj,hn,h=>λa b hab hb=>by
  show v (nI l b)<=v (nI l a)
  by_cases e:a=0
  ·subst e; exact h.hi b hab hb
  ·exact h.lo a b hab hb e (by omega)
 | j+1,l,hj,hn,h=>λa b hab hb=>by
  rw[qu7]
  split
  ·rename_i hc
   refine wq1 j (swp l j) (by omega) (by rw[q7d]; omega) ⟨λa b hab hb ha hb'=>?_,λb hjb hb=>?_⟩ a b hab hb
   ·rw[w1w (by omega),w1w (by omega),if_neg ha,if_neg hb']
    by_cases e1:b=j+1
    ·rw[if_pos e1,if_neg (by omega)]
     exact h.lo a j (by omega) (by omega) (by omega) (by omega)
    ·rw[if_neg e1]
     by_cases e2:a=j+1
     ·rw[if_pos e2]
      exact h.lo j b (by omega) hb (by omega) e1
     ·rw[if_neg e2]; exact h.lo a b hab hb e2 e1
   ·rw[w1w (by omega),w1w (by omega),if_neg (by omega),if_pos rfl]
    by_cases e1:b=j+1
    ·rw[if_pos e1]
     omega
    ·rw[if_neg e1]; exact h.hi b (by omega) hb
  ·rename_i hc
   have hge:v (nI l (j+1))<=v (nI l j):=by omega
   by_cases e1:b=j+1
   ·subst e1
    by_cases e2:a=j
    ·subst e2; exact hge
    ·exact Int.le_trans hge (h.lo a j (by omega) (by omega) (by omega) (by omega))
   ·by_cases e2:a=j+1
    ·subst e2; exact h.hi b hab hb
    ·exact h.lo a b hab hb e2 e1
theorem w1x {v:Int->Int} (l:List Int):∀k,k<l.length->∀a b,a<b->b<k+1->v (nI (qt9 (λx y=>v y-v x) l k) b)<=v (nI (qt9 (λx y=>v y-v x) l k) a)
 | 0,_=>λa b hab hb=>by omega
 | k+1,hk=>by
  have h1:=w1x (v:=v) l k (by omega)
  have h2:=(qz3 (λx y=>v y-v x) l k (by omega)).1
  rw[qt9]
  exact wq1 (k+1) _ (by omega) (by omega) ⟨λa b hab hb ha hb'=>h1 a b hab (by omega),λb h3 h4=>by omega⟩
def q48 (f:Int->Int):List Int->Int
 | []=>0
 | x :: r=>f x+q48 f r
theorem wq3 (f:Int->Int) {a b:List Int} (h:a.Perm b):q48 f a=q48 f b:=by
 induction h with
 | nil=>rfl
 | cons x _ ih=>simp[q48,ih]
 | swap x y l=>simp[q48]; omega
 | trans _ _ ih1 ih2=>exact ih1.trans ih2
theorem w1y (f:Int->Int):∀a b:List Int,q48 f (a++b)=q48 f a+q48 f b
 | [],b=>by simp[q48]
 | x :: a,b=>by simp[q48,w1y f a b]; omega
theorem q9v (f:Int->Int) (a:Int):∀(s:List Int) (m:Nat),(∀y∈s,f y<=f a)->m<s.length->q48 f (s.take (m+1))<=f a+q48 f (s.take m)
 | [],m,_,h=>by simp at h
 | x :: s,0,h,_=>by simpa[q48] using h x (by simp)
 | x :: s,m+1,h,hm=>by
  have:=q9v f a s m (λy hy=>h y (by simp[hy])) (by simpa using hm)
  simp only[List.take_succ_cons,q48] at this ⊢
  omega
theorem w8e (f:Int->Int) {t s:List Int} (h:t.Sublist s) (hp:s.Pairwise λx y=>f y<=f x):q48 f t<=q48 f (s.take t.length):=by
 induction h with
 | slnil=>simp[q48]
 | @cons t s a hs ih=>
  obtain⟨h1,h2⟩:=List.pairwise_cons.1 hp
  have:=ih h2
  have hl:=hs.length_le
  cases e:t.length with
  | zero=>rw[e] at this; simpa using this
  | succ m=>
   rw[e] at this hl
   have:=q9v f a s m h1 (by omega)
   simp only[List.take_succ_cons,q48]
   omega
 | @cons_cons t s a hs ih=>
  have:=ih (List.pairwise_cons.1 hp).2
  simp only[List.length_cons,List.take_succ_cons,q48]
  omega
def szV (h:List Int) (x:Int):Int:=q0a (nI h x.toNat)
theorem w8f (h:List Int) (p:List Int):inL h p=q48 (szV h) p:=by
 have:∀k,k<=p.length->qm6 h p k=q48 (szV h) (p.take k):=λk=>by
  induction k with
  | zero=>exact λ_=>by simp[qm6,q48]
  | succ k ih=>
   intro hk
   have hs:p.take (k+1)=p.take k++[nI p k]:=by
    rw[List.take_add_one,List.getElem?_eq_getElem (by omega),qg4 p k (by omega)]; rfl
   rw[qm6,ih (by omega),hs,w1y]
   simp[q48,szV]
 rw[inL,this _ (Nat.le_refl _),List.take_length]
theorem w1z {n:Nat} {p:List Int} (h:Named n p):p.Pairwise (· < ·):=by
 rw[List.pairwise_iff_getElem]
 intro i j hi hj hij
 have:=h.asc i j hij hj
 rwa [qg4 p i hi,qg4 p j hj] at this
theorem ww8 {n:Nat} {p:List Int} (h:p.Pairwise (· < ·)) (hb:∀x∈p,0<=x/\x<n):Named n p:=by
 refine⟨λj hj=>hb _ (q4n hj),λi j hij hj=>?_⟩
 rw[qg4 p i (by omega),qg4 p j hj]
 exact List.pairwise_iff_getElem.1 h i j (by omega) hj hij
theorem wg1 {p:List Int} (h:p.Pairwise (· < ·)):p.Nodup:=h.imp λ{a b} q e=>by omega
theorem xm2 (n:Nat):(qo7 n).Pairwise (· < ·):=w1z (Named.idx n)
theorem w8g {n:Nat} {x:Int}:x∈qo7 n↔0<=x/\x<n:=by
 constructor
 ·intro hx
  obtain⟨i,hi,rfl⟩:=List.mem_iff_getElem.1 hx
  rw[<- qg4 _ _ hi]
  rw[qe9] at hi
  rw[q0t _ _ hi]; omega
 ·intro hx
  have:nI (qo7 n) x.toNat=x:=by rw[q0t _ _ (by omega)]; omega
  rw[<- this]
  exact q4n (by rw[qe9]; omega)
def w8h (h:List Int):List Int:=insL (q47 h) (qo7 h.length)
theorem q0y (h:List Int):(w8h h).Perm (qo7 h.length):=w1u _ _ _ (by rw[qe9]; omega)
theorem w8i (h:List Int):(w8h h).Pairwise λx y=>szV h y<=szV h x:=by
 rw[List.pairwise_iff_getElem]
 intro i j hi hj hij
 have hl:(w8h h).length=h.length:=by rw[(q0y h).length_eq,qe9]
 have:=w1x (v:=szV h) (qo7 h.length) ((qo7 h.length).length-1) (by rw[qe9]; omega) i j hij (by rw[qe9]; omega)
 rw[<- qg4 _ i hi,<- qg4 _ j hj]
 exact this
theorem wq4 (h:List Int) (k:Nat):(q1o h k).Perm ((w8h h).take k):=List.mergeSort_perm ..
theorem w3z {h:List Int} {k:Nat}:Named h.length (q1o h k):=by
 have hp:=wq4 h k
 have hnd:(w8h h).Nodup:=(wg1 (xm2 _)).perm (q0y h).symm
 have hnd2:(q1o h k).Nodup:=(hnd.sublist (List.take_sublist k _)).perm hp.symm
 have hsrt:(q1o h k).Pairwise (·<=·):=by
  have:=List.pairwise_mergeSort (le:=λx y:Int=>decide (x<=y)) (λa b c h1 h2=>by simp only[decide_eq_true_eq] at *; omega) (λa b=>by
   rcases Int.le_total a b with q | q
   ·simp[q]
   ·simp[q]) ((w8h h).take k)
  exact this.imp λ{a b} q=>of_decide_eq_true q
 refine ww8 ?_ λx hx=>w8g.1 ((q0y h).mem_iff.1 (List.mem_of_mem_take (hp.mem_iff.1 hx)))
 exact List.Pairwise.imp₂ (λa b h1 h2=>by omega) hsrt hnd2
theorem w11 (h:List Int) (k:Nat):inL h (q1o h k)=q48 (szV h) ((w8h h).take k):=by rw[w8f,wq3 _ (wq4 h k)]
theorem xh1 {h:List Int} {p:List Int} (hp:Named h.length p):inL h p<=inL h (q1o h p.length):=by
 rw[w11,w8f]
 have hnd:(w8h h).Nodup:=(wg1 (xm2 _)).perm (q0y h).symm
 have hf:((w8h h).filter λx=>decide (x∈p)).Perm p:=by
  rw[List.perm_ext_iff_of_nodup (hnd.sublist List.filter_sublist) (wg1 (w1z hp))]
  intro a
  rw[List.mem_filter,decide_eq_true_eq]
  constructor
  ·exact λq=>q.2
  ·intro q
   refine⟨(q0y h).mem_iff.2 (w8g.2 ?_),q⟩
   obtain⟨i,hi,rfl⟩:=List.mem_iff_getElem.1 q
   have:=hp.at_ i hi
   rwa [qg4 p i hi] at this
 have:=w8e (szV h) (t:=(w8h h).filter λx=>decide (x∈p)) List.filter_sublist (w8i h)
 rwa [wq3 _ hf,hf.length_eq] at this
def sg (x:Int):Int:=if x<0 then -1 else 1
theorem q1l {m:List (List Int)} (hv:validB m=true):(qc8 m).1.length<=1000000:=by
 have hM:=Mk.of hv
 have h10:=hM.pix10
 have e1:qc8 m=(q1t m (nL m 0).length (q3o m),0):=by simp[qc8,hv]
 have hc:q3o m<=(nL m 0).length:=by unfold q3o; omega
 have:=wd6 m (nL m 0).length h10 (q3o m) (by omega)
 rw[e1]
 show(q1t m (nL m 0).length (q3o m)).length<=_
 omega
theorem q1v {m:List (List Int)} (hv:validB m=true) (h7:(nL m 0).length<=7) {i:Nat} (hi:i<(qc8 m).1.length):∃s,xg7 m s (nL (qc8 m).1 i):=x1c hv h7 (qi9 _ _ hi)
theorem ww9 {m:List (List Int)} (hv:validB m=true) {s h p:List Int} (hc:xg7 m s h) (hp:Named (nL m 0).length p):wo1 h p:=by
 have h10:=(Mk.of hv).pix10
 have hl:=hp.len
 exact⟨wf9 hv hc,by omega,λj hj=>by rw[hc.len]; exact hp.at_ j hj,by have:=xu0 hc; omega⟩
theorem w13 {m:List (List Int)} {s h:List Int} (hc:xg7 m s h) (k:Nat):Named (nL m 0).length (q1o h k):=by
 have:=w3z (h:=h) (k:=k)
 rwa [hc.len] at this
theorem xw7 {m:List (List Int)} (h7:validB m=true->(nL m 0).length<=7):wv7 m:=by
 refine⟨λhv=>x1a hv,λhv k hk=>⟨q1l hv,λi hi=>?_,λi hi=>?_⟩⟩
 ·obtain⟨s,hc⟩:=q1v hv (h7 hv) hi
  have hM:=Mk.of hv
  have m1:=hM.pix1
  have m10:=hM.pix10
  exact⟨wf9 hv hc,by rw[hc.len]; omega,by rw[hc.len]; omega,Int.natCast_nonneg _,by rw[hc.len]; omega⟩
 ·obtain⟨s,hc⟩:=q1v hv (h7 hv) hi
  rw[Int.toNat_natCast]
  exact ww9 hv hc (w13 hc k)
def leQ (a b:Int × Int):Prop:=a.1*b.2<=b.1*a.2
theorem q5p (a:Int × Int):leQ a a:=Int.le_refl _
theorem q7w {a b c:Int × Int} (ha:1<=a.2) (hb:1<=b.2) (hc:1<=c.2) (h1:leQ a b) (h2:leQ b c):leQ a c:=by
 unfold leQ at *
 have k1:a.1*b.2*c.2<=b.1*a.2*c.2:=Int.mul_le_mul_of_nonneg_right h1 (by omega)
 have k2:b.1*c.2*a.2<=c.1*b.2*a.2:=Int.mul_le_mul_of_nonneg_right h2 (by omega)
 refine Int.le_of_mul_le_mul_left (a:=b.2) ?_ (by omega)
 have e1:b.2*(a.1*c.2)=a.1*b.2*c.2:=by grind
 have e2:b.2*(c.1*a.2)=c.1*b.2*a.2:=by grind
 have e3:b.1*a.2*c.2=b.1*c.2*a.2:=by grind
 omega
theorem xh2 {a:Int × Int} (h:qr5 a):leQ (0,1) a:=by
 have:=h.n.1
 unfold leQ
 show 0*a.2<=a.1*1
 omega
theorem q5q {a b:Int × Int}:0<wh4 a b↔b.1*a.2<a.1*b.2:=by
 unfold wh4
 split
 ·rename_i h; constructor <;> intro q <;> omega
 ·split
  ·constructor <;> intro q <;> omega
  ·constructor <;> intro q <;> omega
theorem top_le {a b:Int × Int}:leQ a (q8g a b)/\leQ b (q8g a b):=by
 unfold q8g
 split
 ·rename_i h
  exact⟨Int.le_of_lt (q5q.1 h),q5p b⟩
 ·rename_i h
  refine⟨q5p a,Int.not_lt.1 λq=>h (q5q.2 q)⟩
theorem x5c {h1 h2 p1 p2:List Int} (k1:wo1 h1 p1) (k2:wo1 h2 p2) (h:inL h1 p1*szL h2<=inL h2 p2*szL h1):leQ (shR h1 p1) (shR h2 p2):=by
 have l1:=q1u k1
 have l2:=q1u k2
 have s1:=q7c k1.ok k1.ne
 have s2:=q7c k2.ok k2.ne
 unfold leQ
 have q1:=l1.eq
 have q2:=l2.eq
 have b1:=l1.pos
 have b2:=l2.pos
 generalize shR h1 p1=a at *
 generalize shR h2 p2=b at *
 generalize inL h1 p1=x at *
 generalize inL h2 p2=y at *
 generalize szL h1=u at *
 generalize szL h2=v at *
 have hb:x*v*(a.2*b.2)<=y*u*(a.2*b.2):=Int.mul_le_mul_of_nonneg_right h (by have:=Int.mul_pos (a:=a.2) (b:=b.2) (by omega) (by omega); omega)
 refine Int.le_of_mul_le_mul_left (a:=u*v) ?_ (Int.mul_pos s1 s2)
 have e1:u*v*(a.1*b.2)=x*v*(a.2*b.2):=by
  have:u*v*(a.1*b.2)=a.1*u*(v*b.2):=by grind
  rw[this,q1]; grind
 have e2:u*v*(b.1*a.2)=y*u*(a.2*b.2):=by
  have:u*v*(b.1*a.2)=b.1*v*(u*a.2):=by grind
  rw[this,q2]; grind
 omega
theorem wq5 {l:List (List Int)} {n:Nat} (h:q8h l n):∀k,k<=l.length->(∀i,i<k->leQ (shR (nL l i) (q1o (nL l i) n)) (qj6 l n k))/\(qj6 l n k=(0,1)\/∃i,i<k/\qj6 l n k=shR (nL l i) (q1o (nL l i) n))
 | 0,_=>⟨λi hi=>by omega,.inl rfl⟩
 | k+1,hk=>by
  obtain⟨h1,h2⟩:=wq5 h k (by omega)
  have t:=top_le (a:=qj6 l n k) (b:=shR (nL l k) (q1o (nL l k) n))
  have hs:=λi hi=>h.shr i hi
  have hl:=λj (hj:j<=l.length)=>qw5 h j hj
  simp only[Int.toNat_natCast] at hs hl
  refine⟨λi hi=>?_,?_⟩
  ·rcases Nat.lt_succ_iff_lt_or_eq.1 hi with e | e
   ·exact q7w (q3q (hs i (by omega))).pos (hl k (by omega)).pos (hl (k+1) hk).pos (h1 i e) t.1
   ·subst e; exact t.2
  ·show q8g (qj6 l n k) (shR (nL l k) (q1o (nL l k) n))=(0,1)\/∃i,i<k+1/\q8g (qj6 l n k) (shR (nL l k) (q1o (nL l k) n))=shR (nL l i) (q1o (nL l i) n)
   unfold q8g
   split
   ·exact .inr ⟨k,by omega,rfl⟩
   ·rcases h2 with h2 | ⟨i,hi,h2⟩
    ·exact .inl h2
    ·exact .inr ⟨i,by omega,h2⟩
theorem x1g {m:List (List Int)} (hf:wm4 m) (h7:validB m=true->(nL m 0).length<=7):xf6 m:=by
 refine⟨hf,λhv=>?_⟩
 have hM:=Mk.of hv
 have h7:=h7 hv
 have h6:=hM.rows6
 refine⟨h7,λs hs hok=>?_⟩
 unfold q1p at hok
 rw[Bool.and_eq_true,decide_eq_true_eq,decide_eq_true_eq] at hok
 have hn:=ww5 h7 hs
 have hnl:=hn.len
 have hO:=qk1 hM hn (by omega)
 refine⟨hO.krOk,by omega,by omega,λi hi j hj=>?_⟩
 have:=hn.at_ j hj
 rw[hM.each i hi]
 omega
theorem xu1 {m:List (List Int)} (h7:validB m=true->(nL m 0).length<=7):q2o m=qc8 m:=by
 by_cases hv:validB m=true
 ·have e1:qc8 m=(q1t m (nL m 0).length (q3o m),0):=by simp[qc8,hv]
  have e2:q2o m=(qg7 m (nL m 0).length (qe1 (nL m 0).length) (qe1 (nL m 0).length).length,0):=by simp[q2o,hv]
  rw[e1,e2,w1s hv (h7 hv),xg6 (h7 hv)]
 ·have hv:validB m=false:=by simpa using hv
  have e1:qc8 m=([],1):=by simp[qc8,hv]
  have e2:q2o m=([],1):=by simp[q2o,hv]
  rw[e1,e2]
structure q1q (m:List (List Int)):Prop where
 fit:wm4 m
 n7:validB m=true->(nL m 0).length<=7
abbrev x5d:qb9:=qg1 false none [tMask] [tMask] (λx=>q1q x.1) (λx=>((qc8 x.1).1,()))
theorem q9w:qd6 Tryz.prog 65 x5d:=by
 refine meets (snd (SpecsOk.cons w7q (SpecsOk.nil _))) Tryz.func65 rfl rfl (λ_ _=>none) (λ_=>by kernel_rfl) (by decide) ?_
 rintro⟨m,⟨⟩⟩ h
 revert m
 intro(m:List (List Int)) (h:q1q m)
 refine @qd9 _ (xf6 m/\(q2o m).1=(qc8 m).1) (by kernel_rfl) ?_
 try simp only[z0,z1,z2,z3,z4,z5,z6,z7,z8,z9,z10,Int.reduceEq,z11,z12,z13,z14,z15,z16,z17,z18,z19,z20,z21,z22,z23,z24,z25,z26,z27,z28,z29,z30,Int.reduceLE,Int.reduceLT,z31,z32,z33,z34,qa3]
 try simp only[qb4,qb5,qc0,z31,z32,z2,z1]
 rw[xu1 h.n7]
 exact⟨x1g h.fit h.n7,rfl⟩
theorem xh3 (a b:Int × Int):q8g a b=if q3s a b=true then b else a:=by
 unfold q8g
 by_cases q:a.1*b.2<b.1*a.2
 ·rw[if_pos (q5q.2 q),if_pos (show q3s a b=true from decide_eq_true q)]
 ·rw[if_neg λe=>q (q5q.1 e),if_neg (by unfold q3s; rw[decide_eq_false q]; decide)]
structure w8j (m:List (List Int)) (p:List Int):Prop where
 fit:q1q m
 len:p.length<=1000
def x5e (m:List (List Int)) (l:List (List Int)) (pix:List Int):Nat->Option Inv
 | 0=>some (Inv.of [29] 2 (λk:Nat=>[(29,.lit (.int .i64 k))]) (λk=>[.box 34 x0v,.box 34 (.cons (.lit (.int .i64 (qq7 l pix k).1)) (.cons (.lit (.int .i64 (qq7 l pix k).2)) .nil))]) (λk=>k<=l.length) (λk=>l.length-k))
 | _=>none
abbrev x9d:qb9:=qg1 true none [tMask,tInts] [q0c,tInt] (λx=>w8j x.1 x.2.1) (λx=>(ofQ x.1 x.2.1,ofE x.1 x.2.1,()))
theorem w8k:qd6 Tryz.prog 21 x9d:=by
 refine meets (snd (SpecsOk.cons q3i (SpecsOk.cons w3w (SpecsOk.cons q9w (SpecsOk.cons q9l (SpecsOk.cons q9k (SpecsOk.nil _))))))) Tryz.func21 rfl rfl (λx=>x5e x.1 (qc8 x.1).1 x.2.1) (λ_=>by kernel_rfl) (by decide) ?_
 rintro⟨m,p,⟨⟩⟩ h
 revert m p
 intro(m:List (List Int)) (p:List Int) (h:w8j m p)
 refine @qd9 _ (wm4 m/\((!validB m)=true->((0:Int)=(ofQ m p).1/\(0:Int)=(ofQ m p).2/\True)/\(1:Int)=ofE m p/\True)/\((!validB m)=false->((0:Int)<=(0:Int)/\(0:Int)<(↑m.length:Int))/\p.length<=(1000000:Nat)/\((wh5 (↑(nL m (0:Nat)).length:Int) p != (0:Int))=true->((0:Int)=(ofQ m p).1/\(0:Int)=(ofQ m p).2/\True)/\wh5 (↑(nL m (0:Nat)).length:Int) p=ofE m p/\True)/\((wh5 (↑(nL m (0:Nat)).length:Int) p != (0:Int))=false->q1q m/\∃(v2:Unit),∃(v3:Nat),Nat.le v3 (qc8 m).1.length/\(((0:Int)=(↑v3:Int)/\True)/\((0:Int)=(0:Int)/\(0:Int)=(0:Int)/\True)/\((0:Int)=(qq7 (qc8 m).1 p v3).1/\(1:Int)=(qq7 (qc8 m).1 p v3).2/\True)/\True)/\∀(v4:Nat),Nat.le v4 (qc8 m).1.length->(decide ((↑v4:Int)<(↑(qc8 m).1.length:Int))=true->((0:Int)<=(↑v4:Int)/\(↑v4:Int)<(↑(qc8 m).1.length:Int))/\wo1 (nL (qc8 m).1 v4) p/\(qr5 ((qq7 (qc8 m).1 p v4).1,(qq7 (qc8 m).1 p v4).2)/\qr5 ((shR (nL (qc8 m).1 v4) p).1,(shR (nL (qc8 m).1 v4) p).2))/\(q3s ((qq7 (qc8 m).1 p v4).1,(qq7 (qc8 m).1 p v4).2) ((shR (nL (qc8 m).1 v4) p).1,(shR (nL (qc8 m).1 v4) p).2)=true->fits .i64 ((↑v4:Int)+(1:Int))/\∃(v8:Nat),Nat.le v8 (qc8 m).1.length/\(qc8 m).1.length-v8<(qc8 m).1.length-v4/\((↑v4:Int)+(1:Int)=(↑v8:Int)/\True)/\((0:Int)=(0:Int)/\(0:Int)=(0:Int)/\True)/\((shR (nL (qc8 m).1 v4) p).1=(qq7 (qc8 m).1 p v8).1/\(shR (nL (qc8 m).1 v4) p).2=(qq7 (qc8 m).1 p v8).2/\True)/\True)/\(q3s ((qq7 (qc8 m).1 p v4).1,(qq7 (qc8 m).1 p v4).2) ((shR (nL (qc8 m).1 v4) p).1,(shR (nL (qc8 m).1 v4) p).2)=false->fits .i64 ((↑v4:Int)+(1:Int))/\∃(v8:Nat),Nat.le v8 (qc8 m).1.length/\(qc8 m).1.length-v8<(qc8 m).1.length-v4/\((↑v4:Int)+(1:Int)=(↑v8:Int)/\True)/\((0:Int)=(0:Int)/\(0:Int)=(0:Int)/\True)/\((qq7 (qc8 m).1 p v4).1=(qq7 (qc8 m).1 p v8).1/\(qq7 (qc8 m).1 p v4).2=(qq7 (qc8 m).1 p v8).2/\True)/\True))/\(decide ((↑v4:Int)<(↑(qc8 m).1.length:Int))=false->((qq7 (qc8 m).1 p v4).1=(ofQ m p).1/\(qq7 (qc8 m).1 p v4).2=(ofQ m p).2/\True)/\(0:Int)=ofE m p/\True)))) (by kernel_rfl) ?_
 try simp only[z0,z1,z2,z3,z4,z5,z6,z7,z8,z9,z10,Int.reduceEq,z11,z12,z13,z14,z15,z16,z17,z18,z19,z20,z21,z22,z23,z24,z25,z26,z27,z28,z29,z30,Int.reduceLE,Int.reduceLT,z31,z32,z33,z34,qa3]
 try simp only[qb4,qb5,qc0,z31,z32,z2,z1]
 have hp:=h.len
 have bad:∀e:Int,e≠0->ofE m p=e->(0=(ofQ m p).fst/\0=(ofQ m p).snd)/\e=ofE m p:=λe he q=>by
  have q':w3a m p=e:=q
  unfold ofQ
  rw[if_neg (by rw[q']; exact he),q]
  exact⟨⟨rfl,rfl⟩,rfl⟩
 refine⟨h.fit.fit,λhv=>bad 1 (by decide) (by simp[ofE,w3a,hv]),λhv=>?_⟩
 have hM:=Mk.of hv
 have hm1:=hM.rows1
 have hE:ofE m p=wh5 (nL m 0).length p:=by simp[ofE,w3a,hv]
 refine⟨by omega,by omega,λhn=>bad _ hn hE,λhn=>⟨h.fit,?_⟩⟩
 have hQ:ofQ m p=qq7 (qc8 m).1 p (qc8 m).1.length:=if_pos (hE.trans hn)
 have h7:=h.fit.n7 hv
 have hO:xw4 (qc8 m).1 p:=⟨q1l hv,λi hi=>by
  obtain⟨s,hc⟩:=q1v hv h7 hi
  exact ww9 hv hc (Named.of hn)⟩
 have hl:=hO.len
 generalize(qc8 m).1=l at *
 refine⟨(),0,Nat.zero_le _,⟨rfl,rfl,rfl⟩,λk hk=>⟨λhlt=>?_,λhge=>?_⟩⟩
 ·have ht:qq7 l p (k+1)=q8g (qq7 l p k) (shR (nL l k) p):=rfl
  rw[xh3] at ht
  refine⟨hlt,hO.ok k hlt,⟨q3r hO k hk,q3q (hO.ok k hlt)⟩,λq=>⟨qa6 (by omega) (by omega),k+1,hlt,by omega,by push_cast; rfl,?_⟩,λq=>⟨qa6 (by omega) (by omega),k+1,hlt,by omega,by push_cast; rfl,?_⟩⟩
  ·rw[ht,if_pos q]; exact⟨rfl,rfl⟩
  ·rw[ht,if_neg (by intro e; have:q3s (qq7 l p k) (shR (nL l k) p)=false:=q; rw[this] at e; cases e)]; exact⟨rfl,rfl⟩
 ·obtain rfl:k=l.length:=by omega
  rw[hQ]
  exact⟨⟨rfl,rfl⟩,(hE.trans hn).symm⟩
end Go.Proofs.YtempacilejhbgaaGreat
