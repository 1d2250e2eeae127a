/- Kernel vectors, and shares of a mask, as the document says: contracts by the engine. No condition. -/
import Derived.Test.YtempacilejhbgaaGreatW16
import Derived.Test.YtempacilejhbgaaGreatQ14
import Derived.Test.YtempacilejhbgaaGreatV22
set_option linter.unusedVariables false
namespace Go.Proofs.YtempacilejhbgaaGreat
open Go Go.RowKit Eng
def xr2:Nat->(Nat->Int)->Nat
 | 0,_=>0
 | k+1,d=>if d k≠0 then xr2 k d+1 else xr2 k d
theorem w2u (l:List Int):∀k,wh5 l k=xr2 k (nI l)
 | 0=>rfl
 | k+1=>by rw[wh5,xr2,w2u l k]
def wz6:Nat->(Nat->Int)->List Int
 | 0,_=>[]
 | k+1,d=>if d k≠0 then wz6 k d++[(k:Int)] else wz6 k d
theorem wi3 (d:Nat->Int):∀k,(wz6 k d).length=xr2 k d
 | 0=>rfl
 | k+1=>by
  rw[wz6,xr2]
  split
  ·rw[List.length_append,wi3 d k]; rfl
  ·exact wi3 d k
theorem q41 (d:Nat->Int):∀k,Named k (wz6 k d)/\∀j,j<(wz6 k d).length->d (nI (wz6 k d) j).toNat≠0
 | 0=>⟨⟨λj hj=>absurd hj (Nat.not_lt_zero _),λi j _ hj=>absurd hj (Nat.not_lt_zero _)⟩,λj hj=>absurd hj (Nat.not_lt_zero _)⟩
 | k+1=>by
  obtain⟨h1,h2⟩:=q41 d k
  rw[wz6]
  by_cases q:d k≠0
  ·rw[if_pos q]
   have hl:(wz6 k d++[(k:Int)]).length=(wz6 k d).length+1:=by simp
   refine⟨⟨λj hj=>?_,λi j hij hj=>?_⟩,λj hj=>?_⟩
   ·rw[hl] at hj
    rcases Nat.lt_succ_iff_lt_or_eq.1 hj with e | e
    ·rw[qm8 _ _ e]; have:=h1.at_ j e; omega
    ·rw[e,qu3]; omega
   ·rw[hl] at hj
    rw[qm8 _ _ (show i<(wz6 k d).length by omega)]
    rcases Nat.lt_succ_iff_lt_or_eq.1 hj with e | e
    ·rw[qm8 _ _ e]; exact h1.asc i j hij e
    ·rw[e,qu3]; exact(h1.at_ i (by omega)).2
   ·rw[hl] at hj
    rcases Nat.lt_succ_iff_lt_or_eq.1 hj with e | e
    ·rw[qm8 _ _ e]; exact h2 j e
    ·rw[e,qu3,Int.toNat_natCast]; exact q
  ·rw[if_neg q]
   exact⟨⟨λj hj=>by have:=h1.at_ j hj; omega,h1.asc⟩,h2⟩
theorem w2v (d:Nat->Int):∀k c,c<k->d c≠0->∃j,j<(wz6 k d).length/\nI (wz6 k d) j=(c:Int)
 | k+1,c,hc,hd=>by
  rw[wz6]
  by_cases q:c=k
  ·rw[if_pos (by rw[<- q]; exact hd)]
   exact⟨(wz6 k d).length,by simp,by rw[qu3,q]⟩
  ·obtain⟨j,h1,h2⟩:=w2v d k c (by omega) hd
   split
   ·exact⟨j,by rw[List.length_append]; omega,by rw[qm8 _ _ h1]; exact h2⟩
   ·exact⟨j,h1,h2⟩
theorem Named.inj {n:Nat} {s:List Int} (h:Named n s) {i j:Nat} (hi:i<s.length) (hj:j<s.length) (e:(nI s i).toNat=(nI s j).toNat):i=j:=by
 have h1:=h.at_ i hi
 have h2:=h.at_ j hj
 rcases Nat.lt_trichotomy i j with q | q | q
 ·have:=h.asc i j q hj; omega
 ·exact q
 ·have:=h.asc j i q hi; omega
structure w45 (m:List (List Int)) (s h:List Int):Prop where
 nam:Named (nL m 0).length s
 pos:0<s.length
 isc:IsC m s
 len:h.length=(nL m 0).length
 nz:xr2 (nL m 0).length (nI h)=s.length
 sol:Sol m.length (nL m 0).length (rowOf m) (nI h)
 on:∀j,j<s.length->nI h (nI s j).toNat≠0
 off:∀c,c<(nL m 0).length->(∀j,j<s.length->nI s j≠(c:Int))->nI h c=0
 small:∀c,(nI h c).natAbs<=160
theorem x2w {N:Nat} {s:List Int} (hs:Named N s) {d:Nat->Int} (hon:∀j,j<s.length->d (nI s j).toNat≠0) (hoff:∀c,c<N->(∀j,j<s.length->nI s j≠(c:Int))->d c=0):xr2 N d=s.length:=by
 have h1:=(q41 d N).1
 have h2:=(q41 d N).2
 have h3:=w2v d N
 rw[<- wi3]
 have sub:∀(s t:List Int),Named N s->Named N t->(∀j,j<s.length->∃i,i<t.length/\nI t i=nI s j)->s.length<=t.length:=λs t hs ht h=>Nat.le_of_not_lt λhgt=>by
  have hx:∀j,∃i,j<s.length->i<t.length/\nI t i=nI s j:=λj=>by
   by_cases hj:j<s.length
   ·obtain⟨i,hi⟩:=h j hj; exact⟨i,λ_=>hi⟩
   ·exact⟨0,λq=>absurd q hj⟩
  obtain⟨g,hg⟩:=Classical.axiomOfChoice hx
  obtain⟨i,j,k1,k2,k3⟩:=q7r t.length s.length g (λi hi=>(hg i hi).1) hgt
  have e1:=(hg i (by omega)).2
  have e2:=(hg j k2).2
  rw[k3] at e1
  have:=hs.asc i j k1 k2
  omega
 refine Nat.le_antisymm (sub _ _ h1 hs λj hj=>?_) (sub _ _ hs h1 λj hj=>?_)
 ·have hb:=h1.at_ j hj
  refine Classical.byContradiction λq=>h2 j hj (hoff _ (by omega) λi hi e=>q ⟨i,hi,by omega⟩)
 ·have hb:=hs.at_ j hj
  obtain⟨i,hi,e⟩:=h3 _ (by omega) (hon j hj)
  exact⟨i,hi,by omega⟩
theorem xy9 {m:List (List Int)} {s:List Int} (hM:Mk m) (hs:Named (nL m 0).length s) (h1:0<s.length) (hc:IsC m s):w45 m s (ws1 m (nL m 0).length s):=by
 have hO:=qk2 hM hs h1
 obtain⟨f,hf,hnp,ho,hv,hp⟩:=hO.one_free hc.one
 have hsm:=(hO.ker_small (qk5 (qg4 (qj5 m s)) 0 (by have:=hc.one; show 0<(qh7 m s).length; omega))).2
 have hnz:=hc.nz
 unfold ws1 q2u
 change KV _ _ _ _ _ (nL (qh7 m s) 0) at hv
 change Prim (nL (qh7 m s) 0) at hp
 change ∀x∈nL (qh7 m s) 0,_ at hsm
 generalize nL (qh7 m s) 0=v at *
 have hat:=λj (hj:j<s.length)=>q75 (v:=v) hs _ (Nat.le_refl _) j hj
 have ho2:∀c:Nat,(∀j,j<s.length->nI s j≠(c:Int))->nI (qd1 (nL m 0).length s v s.length) c=0:=λc hc=>wi1 hs hc _ (Nat.le_refl _)
 have hlen:=qj1 (nL m 0).length s v s.length
 generalize qd1 (nL m 0).length s v s.length=u at *
 have hsW:∀c,c<s.length->(nI s c).toNat<(nL m 0).length:=λc hc=>by have:=hs.at_ c hc; omega
 have hsol:Sol m.length (nL m 0).length (rowOf m) (nI u):=λa ha=>by
  rw[wh8 s.length (f:=λc=>rowOf m a c*nI u c) (τ:=λc=>(nI s c).toNat) hsW (λq k hq hk e=>hs.inj hq hk e) λb hb hq=>by
   try dsimp only
   rw[ho2 b λj hj e=>hq j hj (by(try dsimp only); rw[e,Int.toNat_natCast]),Int.mul_zero]]
  rw[<- hv.sol a ha]
  refine qf2 λc hc=>?_
  try dsimp only
  unfold rowOf
  rw[hat c hc,qz7 m s a ha,q1o _ _ _ hc]
 have hsmall:∀c,(nI u c).natAbs<=160:=λc=>by
  by_cases q:∃j,j<s.length/\nI s j=(c:Int)
  ·obtain⟨j,hj,e⟩:=q
   have:=hat j hj
   rw[e,Int.toNat_natCast] at this
   rw[this]
   exact hsm _ (q90 (by rw[hv.len]; exact hj))
  ·rw[ho2 c λj hj e=>q ⟨j,hj,e⟩]; decide
 have both:∀h:List Int,h.length=u.length->∀sg:Int,(sg=1\/sg=-1)->(∀c,nI h c=nI u c*sg)->w45 m s h:=λh hl sg hsg he=>by
  have hsg0:sg≠0:=by rcases hsg with rfl | rfl <;> decide
  have hon:∀j,j<s.length->nI h (nI s j).toNat≠0:=λj hj=>by
   rw[he,hat j hj]; exact qv6 (hnz j hj) hsg0
  have hoff:∀c,c<(nL m 0).length->(∀j,j<s.length->nI s j≠(c:Int))->nI h c=0:=λc hc hj=>by
   rw[he,ho2 c hj,Int.zero_mul]
  refine⟨hs,h1,hc,by omega,x2w hs hon hoff,λa ha=>?_,hon,hoff,λc=>?_⟩
  ·have e:=hsol a ha
   have e2:(sm (nL m 0).length λc=>rowOf m a c*nI h c)=sg*sm (nL m 0).length λc=>rowOf m a c*nI u c:=by
    rw[<- qn7]
    refine qf2 λc hc=>?_
    try dsimp only
    rw[he]; grind
   rw[e2,e,Int.mul_zero]
  ·rw[he,Int.natAbs_mul]
   have:=hsmall c
   rcases hsg with rfl | rfl
   ·simpa using this
   ·simpa using this
 split
 ·exact both _ (qt1 _ _) (-1) (.inr rfl) λc=>q50 u (-1) c
 ·exact both _ rfl 1 (.inl rfl) λc=>by omega
theorem xl9 {m:List (List Int)} (hM:Mk m) {k:Nat} {h:List Int} (hh:h∈xc2 m k):∃s,w45 m s h/\s.length=k:=by
 unfold xc2 at hh
 rw[List.mem_filterMap] at hh
 obtain⟨s,hs,e⟩:=hh
 obtain⟨hN,hl⟩:=qv8 hs
 unfold wi2 at e
 split at e
 ·rename_i q
  obtain rfl:=Option.some.inj e
  have hok:q1x m s=true:=by
   have q:=q
   unfold qs1 at q
   rw[Bool.and_eq_true,Bool.and_eq_true] at q
   exact q.1.1
  have h1:0<s.length:=by
   unfold q1x at hok
   rw[Bool.and_eq_true,decide_eq_true_eq] at hok
   omega
  exact⟨s,xy9 hM hN h1 ((q1v hM hN hok).1 q),hl⟩
 ·cases e
theorem dot_sm (a b:List Int):∀k,xx8 a b k=sm k λi=>nI a i*nI b i
 | 0=>rfl
 | k+1=>by rw[xx8,sm,dot_sm a b k]
end Go.Proofs.YtempacilejhbgaaGreat
set_option linter.unusedSimpArgs false
namespace Go.Proofs.YtempacilejhbgaaGreat
open Go Go.RowKit Eng
theorem xm0 {m:List (List Int)} (hv:validB m=true) (h7:(nL m 0).length<=7):(qc8 m).1=(List.range (nL m 0).length).flatMap λk=>xc2 m (k+1):=by
 have e1:qc8 m=(q15 m (nL m 0).length (q3w m),0):=by simp[qc8,hv]
 rw[e1]
 exact w2t hv h7
theorem x2x {m:List (List Int)} (hv:validB m=true) (h7:(nL m 0).length<=7) {h:List Int} (hh:h∈(qc8 m).1):∃s,w45 m s h:=by
 rw[xm0 hv h7,List.mem_flatMap] at hh
 obtain⟨k,_,hk⟩:=hh
 obtain⟨s,hs,_⟩:=xl9 (Mk.of hv) hk
 exact⟨s,hs⟩
theorem w2w {m:List (List Int)} (hv:validB m=true) {s h:List Int} (hc:w45 m s h):HOk h:=by
 have:=(Mk.of hv).pix10
 refine⟨by rw[hc.len]; omega,λi=>?_⟩
 have:=hc.small i
 unfold qf0; omega
theorem wz7 (h:List Int):∀k,q20 h k=sm k λi=>qj2 (nI h i)
 | 0=>rfl
 | k+1=>by rw[q20,wz7 h k]; rfl
theorem w9j {n:Nat} {f:Nat->Int} (h:∀i,i<n->0<=f i):0<=sm n f:=by
 induction n with
 | zero=>exact Int.le_refl _
 | succ n ih=>
  have h1:=ih λi hi=>h i (by omega)
  have h2:=h n (by omega)
  show 0<=sm n f+f n
  omega
theorem x2y {n:Nat} {f g:Nat->Int} (h:∀i,i<n->f i<=g i):sm n f<=sm n g:=by
 induction n with
 | zero=>exact Int.le_refl _
 | succ n ih=>
  have h1:=ih λi hi=>h i (by omega)
  have h2:=h n (by omega)
  show sm n f+f n<=sm n g+g n
  omega
theorem x2z {n:Nat} {f:Nat->Int} (h:∀i,i<n->0<=f i) {k:Nat} (hk:k<n) (hf:0<f k):0<sm n f:=by
 induction n with
 | zero=>omega
 | succ n ih=>
  have h2:=h n (by omega)
  have h1:=w9j (n:=n) λi hi=>h i (by omega)
  show 0<sm n f+f n
  rcases Nat.lt_succ_iff_lt_or_eq.1 hk with e | e
  ·have:=ih (λi hi=>h i (by omega)) e; omega
  ·subst e; omega
theorem q2w (x:Int):0<=qj2 x:=Int.natCast_nonneg _
theorem x21 {h:List Int} {i:Nat} (hi:i<h.length) (hx:nI h i≠0):0<szL h:=by
 unfold szL
 rw[wz7]
 refine x2z (λi _=>q2w _) hi ?_
 show 0<qj2 (nI h i)
 unfold qj2; omega
theorem wz8 {m:List (List Int)} {s h:List Int} (hc:w45 m s h):0<szL h:=by
 have h1:=hc.nam.at_ 0 hc.pos
 exact x21 (i:=(nI s 0).toNat) (by rw[hc.len]; omega) (hc.on 0 hc.pos)
theorem xm1 {l:List Int} {j:Nat} (h:j+1<l.length):(swp l j).Perm l:=by
 unfold swp
 rw[qg1 l j (by omega),qg1 l (j+1) h]
 have e1:l=l.take j++l[j] :: l[j+1] :: l.drop (j+2):=by
  rw[<- List.drop_eq_getElem_cons h,<- List.drop_eq_getElem_cons (by omega),List.take_append_drop]
 generalize hx:l[j]=x at *
 generalize hy:l[j+1]=y at *
 have hlt:(l.take j).length=j:=by rw[List.length_take]; omega
 generalize l.take j=a at *
 generalize l.drop (j+2)=b at *
 subst e1
 have e2:(a++x :: y :: b).set (j+1) x=a++x :: x :: b:=by
  rw[List.set_append_right _ _ (by omega),hlt,show j+1-j=1 by omega]; rfl
 have e3:(a++x :: x :: b).set j y=a++y :: x :: b:=by
  rw[List.set_append_right _ _ (by omega),hlt,Nat.sub_self]; rfl
 rw[e2,e3]
 exact List.Perm.append_left a (List.Perm.swap x y b)
theorem wt2 (f:Int->Int->Int):∀(j:Nat) (l:List Int),j<l.length->(qv5 f j l).Perm l
 | 0,l,_=>List.Perm.refl l
 | j+1,l,h=>by
  rw[qv5]
  split
  ·exact(wt2 f j (swp l j) (by rw[q7n]; omega)).trans (xm1 h)
  ·exact List.Perm.refl l
theorem w2x (f:Int->Int->Int) (l:List Int):∀k,k<l.length\/k=0->(qu6 f l k).Perm l
 | 0,_=>List.Perm.refl l
 | k+1,h=>by
  have h1:=(q0b f l k (by omega)).1
  exact(wt2 f (k+1) (qu6 f l k) (by omega)).trans (w2x f l k (by omega))
theorem w2y {l:List Int} {j i:Nat} (h:j+1<l.length):nI (swp l j) i=if i=j then nI l (j+1) else if i=j+1 then nI l j else nI l i:=by
 unfold swp
 by_cases e:i=j
 ·subst e
  rw[if_pos rfl]
  exact qs4 (t:=.int .i64) _ _ _ (by rw[List.length_set]; omega)
 ·rw[if_neg e]
  refine(qy0 (t:=.int .i64) _ _ _ _ e).trans ?_
  by_cases e2:i=j+1
  ·subst e2
   rw[if_pos rfl]
   exact qs4 (t:=.int .i64) _ _ _ (by omega)
  ·rw[if_neg e2]
   exact qy0 (t:=.int .i64) _ _ _ _ e2
structure x22 (v:Int->Int) (l:List Int) (j n:Nat):Prop where
 lo:∀a b,a<b->b<n->a≠j->b≠j->v (nI l b)<=v (nI l a)
 hi:∀b,j<b->b<n->v (nI l b)<=v (nI l j)
theorem wt3 {v:Int->Int} {n:Nat}:∀(j:Nat) (l:List Int),j<n->n<=l.length->x22 v l j n->∀a b,a<b->b<n->v (nI (qv5 (λx y=>v y-v x) j l) b)<=v (nI (qv5 (λx y=>v y-v x) j l) a)
 | 0,l,hj,hn,h=>λa b hab hb=>by
  show v (nI l b)<=v (nI l a)
  by_cases e:a=0
  ·subst e; exact h.hi b hab hb
  ·exact h.lo a b hab hb e (by omega)
 | j+1,l,hj,hn,h=>λa b hab hb=>by
  rw[qv5]
  split
  ·rename_i hc
   refine wt3 j (swp l j) (by omega) (by rw[q7n]; omega) ⟨λa b hab hb ha hb'=>?_,λb hjb hb=>?_⟩ a b hab hb
   ·rw[w2y (by omega),w2y (by omega),if_neg ha,if_neg hb']
    by_cases e1:b=j+1
    ·rw[if_pos e1,if_neg (by omega)]
     exact h.lo a j (by omega) (by omega) (by omega) (by omega)
    ·rw[if_neg e1]
     by_cases e2:a=j+1
     ·rw[if_pos e2]
      exact h.lo j b (by omega) hb (by omega) e1
     ·rw[if_neg e2]; exact h.lo a b hab hb e2 e1
   ·rw[w2y (by omega),w2y (by omega),if_neg (by omega),if_pos rfl]
    by_cases e1:b=j+1
    ·rw[if_pos e1]
     omega
    ·rw[if_neg e1]; exact h.hi b (by omega) hb
  ·rename_i hc
   have hge:v (nI l (j+1))<=v (nI l j):=by omega
   by_cases e1:b=j+1
   ·subst e1
    by_cases e2:a=j
    ·subst e2; exact hge
    ·exact Int.le_trans hge (h.lo a j (by omega) (by omega) (by omega) (by omega))
   ·by_cases e2:a=j+1
    ·subst e2; exact h.hi b hab hb
    ·exact h.lo a b hab hb e2 e1
theorem w2z {v:Int->Int} (l:List Int):∀k,k<l.length->∀a b,a<b->b<k+1->v (nI (qu6 (λx y=>v y-v x) l k) b)<=v (nI (qu6 (λx y=>v y-v x) l k) a)
 | 0,_=>λa b hab hb=>by omega
 | k+1,hk=>by
  have h1:=w2z (v:=v) l k (by omega)
  have h2:=(q0b (λx y=>v y-v x) l k (by omega)).1
  rw[qu6]
  exact wt3 (k+1) _ (by omega) (by omega) ⟨λa b hab hb ha hb'=>h1 a b hab (by omega),λb h3 h4=>by omega⟩
def q08 (f:Int->Int):List Int->Int
 | []=>0
 | x :: r=>f x+q08 f r
theorem q77 (f:Int->Int) {a b:List Int} (h:a.Perm b):q08 f a=q08 f b:=by
 induction h with
 | nil=>rfl
 | cons x _ ih=>simp[q08,ih]
 | swap x y l=>simp[q08]; omega
 | trans _ _ ih1 ih2=>exact ih1.trans ih2
theorem wi4 (f:Int->Int):∀a b:List Int,q08 f (a++b)=q08 f a+q08 f b
 | [],b=>by simp[q08]
 | x :: a,b=>by simp[q08,wi4 f a b]; omega
theorem q97 (f:Int->Int) (a:Int):∀(s:List Int) (m:Nat),(∀y∈s,f y<=f a)->m<s.length->q08 f (s.take (m+1))<=f a+q08 f (s.take m)
 | [],m,_,h=>by simp at h
 | x :: s,0,h,_=>by simpa[q08] using h x (by simp)
 | x :: s,m+1,h,hm=>by
  have:=q97 f a s m (λy hy=>h y (by simp[hy])) (by simpa using hm)
  simp only[List.take_succ_cons,q08] at this ⊢
  omega
theorem w9k (f:Int->Int) {t s:List Int} (h:t.Sublist s) (hp:s.Pairwise λx y=>f y<=f x):q08 f t<=q08 f (s.take t.length):=by
 induction h with
 | slnil=>simp[q08]
 | @cons t s a hs ih=>
  obtain⟨h1,h2⟩:=List.pairwise_cons.1 hp
  have:=ih h2
  have hl:=hs.length_le
  cases e:t.length with
  | zero=>rw[e] at this; simpa using this
  | succ m=>
   rw[e] at this hl
   have:=q97 f a s m h1 (by omega)
   simp only[List.take_succ_cons,q08]
   omega
 | @cons_cons t s a hs ih=>
  have:=ih (List.pairwise_cons.1 hp).2
  simp only[List.length_cons,List.take_succ_cons,q08]
  omega
def szV (h:List Int) (x:Int):Int:=qj2 (nI h x.toNat)
theorem q2x (h:List Int) (p:List Int):inL h p=q08 (szV h) p:=by
 have:∀k,k<=p.length->ql8 h p k=q08 (szV h) (p.take k):=λk=>by
  induction k with
  | zero=>exact λ_=>by simp[ql8,q08]
  | succ k ih=>
   intro hk
   have hs:p.take (k+1)=p.take k++[nI p k]:=by
    rw[List.take_add_one,List.getElem?_eq_getElem (by omega),qg1 p k (by omega)]; rfl
   rw[ql8,ih (by omega),hs,wi4]
   simp[q08,szV]
 rw[inL,this _ (Nat.le_refl _),List.take_length]
theorem q34 {n:Nat} {p:List Int} (h:Named n p):p.Pairwise (· < ·):=by
 rw[List.pairwise_iff_getElem]
 intro i j hi hj hij
 have:=h.asc i j hij hj
 rwa [qg1 p i hi,qg1 p j hj] at this
theorem q2y {n:Nat} {p:List Int} (h:p.Pairwise (· < ·)) (hb:∀x∈p,0<=x/\x<n):Named n p:=by
 refine⟨λj hj=>hb _ (q2t hj),λi j hij hj=>?_⟩
 rw[qg1 p i (by omega),qg1 p j hj]
 exact List.pairwise_iff_getElem.1 h i j (by omega) hj hij
theorem q36 {p:List Int} (h:p.Pairwise (· < ·)):p.Nodup:=h.imp λ{a b} q e=>by omega
theorem w9l (n:Nat):(qo3 n).Pairwise (· < ·):=q34 (Named.idx n)
theorem wi5 {n:Nat} {x:Int}:x∈qo3 n↔0<=x/\x<n:=by
 constructor
 ·intro hx
  obtain⟨i,hi,rfl⟩:=List.mem_iff_getElem.1 hx
  rw[<- qg1 _ _ hi]
  rw[qe8] at hi
  rw[qz6 _ _ hi]; omega
 ·intro hx
  have:nI (qo3 n) x.toNat=x:=by rw[qz6 _ _ (by omega)]; omega
  rw[<- this]
  exact q2t (by rw[qe8]; omega)
def w9m (h:List Int):List Int:=insL (q5h h) (qo3 h.length)
theorem q09 (h:List Int):(w9m h).Perm (qo3 h.length):=w2x _ _ _ (by rw[qe8]; omega)
theorem w9n (h:List Int):(w9m h).Pairwise λx y=>szV h y<=szV h x:=by
 rw[List.pairwise_iff_getElem]
 intro i j hi hj hij
 have hl:(w9m h).length=h.length:=by rw[(q09 h).length_eq,qe8]
 have:=w2z (v:=szV h) (qo3 h.length) ((qo3 h.length).length-1) (by rw[qe8]; omega) i j hij (by rw[qe8]; omega)
 rw[<- qg1 _ i hi,<- qg1 _ j hj]
 exact this
theorem wt4 (h:List Int) (k:Nat):(q0h h k).Perm ((w9m h).take k):=List.mergeSort_perm ..
theorem w46 {h:List Int} {k:Nat}:Named h.length (q0h h k):=by
 have hp:=wt4 h k
 have hnd:(w9m h).Nodup:=(q36 (w9l _)).perm (q09 h).symm
 have hnd2:(q0h h k).Nodup:=(hnd.sublist (List.take_sublist k _)).perm hp.symm
 have hsrt:(q0h h k).Pairwise (·<=·):=by
  have:=List.pairwise_mergeSort (le:=λx y:Int=>decide (x<=y)) (λa b c h1 h2=>by simp only[decide_eq_true_eq] at *; omega) (λa b=>by
   rcases Int.le_total a b with q | q
   ·simp[q]
   ·simp[q]) ((w9m h).take k)
  exact this.imp λ{a b} q=>of_decide_eq_true q
 refine q2y ?_ λx hx=>wi5.1 ((q09 h).mem_iff.1 (List.mem_of_mem_take (hp.mem_iff.1 hx)))
 exact List.Pairwise.imp₂ (λa b h1 h2=>by omega) hsrt hnd2
theorem q38 (h:List Int) (k:Nat):inL h (q0h h k)=q08 (szV h) ((w9m h).take k):=by rw[q2x,q77 _ (wt4 h k)]
theorem q51 {h:List Int} {p:List Int} (hp:Named h.length p):inL h p<=inL h (q0h h p.length):=by
 rw[q38,q2x]
 have hnd:(w9m h).Nodup:=(q36 (w9l _)).perm (q09 h).symm
 have hf:((w9m h).filter λx=>decide (x∈p)).Perm p:=by
  rw[List.perm_ext_iff_of_nodup (hnd.sublist List.filter_sublist) (q36 (q34 hp))]
  intro a
  rw[List.mem_filter,decide_eq_true_eq]
  constructor
  ·exact λq=>q.2
  ·intro q
   refine⟨(q09 h).mem_iff.2 (wi5.2 ?_),q⟩
   obtain⟨i,hi,rfl⟩:=List.mem_iff_getElem.1 q
   have:=hp.at_ i hi
   rwa [qg1 p i hi] at this
 have:=w9k (szV h) (t:=(w9m h).filter λx=>decide (x∈p)) List.filter_sublist (w9n h)
 rwa [q77 _ hf,hf.length_eq] at this
def sA (n:Nat) (d:Nat->Int):Int:=sm n λi=>qj2 (d i)
def sB (p:List Int) (d:Nat->Int):Int:=sm p.length λj=>qj2 (d (nI p j).toNat)
def sg (x:Int):Int:=if x<0 then -1 else 1
theorem q0c {m:List (List Int)} (hv:validB m=true):(qc8 m).1.length<=1000000:=by
 have hM:=Mk.of hv
 have h10:=hM.pix10
 have e1:qc8 m=(q15 m (nL m 0).length (q3w m),0):=by simp[qc8,hv]
 have hc:q3w m<=(nL m 0).length:=by unfold q3w; omega
 have:=wf9 m (nL m 0).length h10 (q3w m) (by omega)
 rw[e1]
 show(q15 m (nL m 0).length (q3w m)).length<=_
 omega
theorem qs2 {m:List (List Int)} (hv:validB m=true) (h7:(nL m 0).length<=7) {i:Nat} (hi:i<(qc8 m).1.length):∃s,w45 m s (nL (qc8 m).1 i):=x2x hv h7 (qk5 _ _ hi)
theorem q42 {m:List (List Int)} (hv:validB m=true) {s h p:List Int} (hc:w45 m s h) (hp:Named (nL m 0).length p):wk1 h p:=by
 have h10:=(Mk.of hv).pix10
 have hl:=hp.len
 exact⟨w2w hv hc,by omega,λj hj=>by rw[hc.len]; exact hp.at_ j hj,by have:=wz8 hc; omega⟩
theorem q39 {m:List (List Int)} {s h:List Int} (hc:w45 m s h) (k:Nat):Named (nL m 0).length (q0h h k):=by
 have:=w46 (h:=h) (k:=k)
 rwa [hc.len] at this
theorem xm2 {m:List (List Int)} (h7:validB m=true->(nL m 0).length<=7):w5m m:=by
 refine⟨λhv=>xy4 hv,λhv k hk=>⟨q0c hv,λi hi=>?_,λi hi=>?_⟩⟩
 ·obtain⟨s,hc⟩:=qs2 hv (h7 hv) hi
  have hM:=Mk.of hv
  have m1:=hM.pix1
  have m10:=hM.pix10
  exact⟨w2w hv hc,by rw[hc.len]; omega,by rw[hc.len]; omega,Int.natCast_nonneg _,by rw[hc.len]; omega⟩
 ·obtain⟨s,hc⟩:=qs2 hv (h7 hv) hi
  rw[Int.toNat_natCast]
  exact q42 hv hc (q39 hc k)
def leQ (a b:Int × Int):Prop:=a.1*b.2<=b.1*a.2
theorem q52 (a:Int × Int):leQ a a:=Int.le_refl _
theorem q1a {a b c:Int × Int} (ha:1<=a.2) (hb:1<=b.2) (hc:1<=c.2) (h1:leQ a b) (h2:leQ b c):leQ a c:=by
 unfold leQ at *
 have k1:a.1*b.2*c.2<=b.1*a.2*c.2:=Int.mul_le_mul_of_nonneg_right h1 (by omega)
 have k2:b.1*c.2*a.2<=c.1*b.2*a.2:=Int.mul_le_mul_of_nonneg_right h2 (by omega)
 refine Int.le_of_mul_le_mul_left (a:=b.2) ?_ (by omega)
 have e1:b.2*(a.1*c.2)=a.1*b.2*c.2:=by grind
 have e2:b.2*(c.1*a.2)=c.1*b.2*a.2:=by grind
 have e3:b.1*a.2*c.2=b.1*c.2*a.2:=by grind
 omega
theorem w20 {a:Int × Int} (h:qr5 a):leQ (0,1) a:=by
 have:=h.n.1
 unfold leQ
 show 0*a.2<=a.1*1
 omega
theorem q53 {a b:Int × Int}:0<wj9 a b↔b.1*a.2<a.1*b.2:=by
 unfold wj9
 split
 ·rename_i h; constructor <;> intro q <;> omega
 ·split
  ·constructor <;> intro q <;> omega
  ·constructor <;> intro q <;> omega
theorem top_le {a b:Int × Int}:leQ a (q5x a b)/\leQ b (q5x a b):=by
 unfold q5x
 split
 ·rename_i h
  exact⟨Int.le_of_lt (q53.1 h),q52 b⟩
 ·rename_i h
  refine⟨q52 a,Int.not_lt.1 λq=>h (q53.2 q)⟩
theorem x23 {h1 h2 p1 p2:List Int} (k1:wk1 h1 p1) (k2:wk1 h2 p2) (h:inL h1 p1*szL h2<=inL h2 p2*szL h1):leQ (shR h1 p1) (shR h2 p2):=by
 have l1:=qv4 k1
 have l2:=qv4 k2
 have s1:=q2s k1.ok k1.ne
 have s2:=q2s k2.ok k2.ne
 unfold leQ
 have q1:=l1.eq
 have q2:=l2.eq
 have b1:=l1.pos
 have b2:=l2.pos
 generalize shR h1 p1=a at *
 generalize shR h2 p2=b at *
 generalize inL h1 p1=x at *
 generalize inL h2 p2=y at *
 generalize szL h1=u at *
 generalize szL h2=v at *
 have hb:x*v*(a.2*b.2)<=y*u*(a.2*b.2):=Int.mul_le_mul_of_nonneg_right h (by have:=Int.mul_pos (a:=a.2) (b:=b.2) (by omega) (by omega); omega)
 refine Int.le_of_mul_le_mul_left (a:=u*v) ?_ (Int.mul_pos s1 s2)
 have e1:u*v*(a.1*b.2)=x*v*(a.2*b.2):=by
  have:u*v*(a.1*b.2)=a.1*u*(v*b.2):=by grind
  rw[this,q1]; grind
 have e2:u*v*(b.1*a.2)=y*u*(a.2*b.2):=by
  have:u*v*(b.1*a.2)=b.1*v*(u*a.2):=by grind
  rw[this,q2]; grind
 omega
theorem w21 {l:List (List Int)} {p:List Int} (h:xq2 l p):∀k,k<=l.length->(∀i,i<k->leQ (shR (nL l i) p) (qq7 l p k))/\(qq7 l p k=(0,1)\/∃i,i<k/\qq7 l p k=shR (nL l i) p)
 | 0,_=>⟨λi hi=>by omega,.inl rfl⟩
 | k+1,hk=>by
  obtain⟨h1,h2⟩:=w21 h k (by omega)
  have t:=top_le (a:=qq7 l p k) (b:=shR (nL l k) p)
  refine⟨λi hi=>?_,?_⟩
  ·rcases Nat.lt_succ_iff_lt_or_eq.1 hi with e | e
   ·exact q1a (q17 (h.ok i (by omega))).pos (q0a h k (by omega)).pos (q0a h (k+1) hk).pos (h1 i e) t.1
   ·subst e; exact t.2
  ·show q5x (qq7 l p k) (shR (nL l k) p)=(0,1)\/∃i,i<k+1/\q5x (qq7 l p k) (shR (nL l k) p)=shR (nL l i) p
   unfold q5x
   split
   ·exact .inr ⟨k,by omega,rfl⟩
   ·rcases h2 with h2 | ⟨i,hi,h2⟩
    ·exact .inl h2
    ·exact .inr ⟨i,by omega,h2⟩
theorem qx7 {l:List (List Int)} {n:Nat} (h:q8q l n):∀k,k<=l.length->(∀i,i<k->leQ (shR (nL l i) (q0h (nL l i) n)) (qi2 l n k))/\(qi2 l n k=(0,1)\/∃i,i<k/\qi2 l n k=shR (nL l i) (q0h (nL l i) n))
 | 0,_=>⟨λi hi=>by omega,.inl rfl⟩
 | k+1,hk=>by
  obtain⟨h1,h2⟩:=qx7 h k (by omega)
  have t:=top_le (a:=qi2 l n k) (b:=shR (nL l k) (q0h (nL l k) n))
  have hs:=λi hi=>h.shr i hi
  have hl:=λj (hj:j<=l.length)=>qo8 h j hj
  simp only[Int.toNat_natCast] at hs hl
  refine⟨λi hi=>?_,?_⟩
  ·rcases Nat.lt_succ_iff_lt_or_eq.1 hi with e | e
   ·exact q1a (q17 (hs i (by omega))).pos (hl k (by omega)).pos (hl (k+1) hk).pos (h1 i e) t.1
   ·subst e; exact t.2
  ·show q5x (qi2 l n k) (shR (nL l k) (q0h (nL l k) n))=(0,1)\/∃i,i<k+1/\q5x (qi2 l n k) (shR (nL l k) (q0h (nL l k) n))=shR (nL l i) (q0h (nL l i) n)
   unfold q5x
   split
   ·exact .inr ⟨k,by omega,rfl⟩
   ·rcases h2 with h2 | ⟨i,hi,h2⟩
    ·exact .inl h2
    ·exact .inr ⟨i,by omega,h2⟩
theorem xz0 {h:List Int} {n:Nat} (hl:h.length=n):sA n (nI h)=szL h:=by
 unfold szL sA
 rw[wz7,hl]
theorem x26 (h p:List Int):sB p (nI h)=inL h p:=by
 have:∀k,ql8 h p k=sm k λj=>qj2 (nI h (nI p j).toNat):=λk=>by
  induction k with
  | zero=>rfl
  | succ k ih=>rw[ql8,ih]; rfl
 exact(this p.length).symm
theorem w9o {x y:Int × Int} (hx:1<=x.2) (hy:1<=y.2) (h:leQ x y) (hf:hlf y=false):hlf x=false:=by
 unfold hlf at *
 rw[decide_eq_false_iff_not,Int.not_le] at *
 unfold leQ at h
 have h1:2*y.1*x.2<y.2*x.2:=Int.mul_lt_mul_of_pos_right hf (by omega)
 have h2:2*x.1*y.2<x.2*y.2:=by
  have e1:2*x.1*y.2=2*(x.1*y.2):=by grind
  have e2:2*y.1*x.2=2*(y.1*x.2):=by grind
  have e3:y.2*x.2=x.2*y.2:=Int.mul_comm _ _
  omega
 exact Int.lt_of_mul_lt_mul_right h2 (by omega)
theorem xr3 {m:List (List Int)} (hf:w7u m) (h7:validB m=true->(nL m 0).length<=7):wh6 m:=by
 refine⟨hf,λhv=>?_⟩
 have hM:=Mk.of hv
 have h7:=h7 hv
 have h6:=hM.rows6
 refine⟨h7,λs hs hok=>?_⟩
 unfold q1x at hok
 rw[Bool.and_eq_true,decide_eq_true_eq,decide_eq_true_eq] at hok
 have hn:=wz5 h7 hs
 have hnl:=hn.len
 have hO:=qk2 hM hn (by omega)
 refine⟨hO.krOk,by omega,by omega,λi hi j hj=>?_⟩
 have:=hn.at_ j hj
 rw[hM.each i hi]
 omega
theorem w9p {m:List (List Int)} (h7:validB m=true->(nL m 0).length<=7):qp3 m=qc8 m:=by
 by_cases hv:validB m=true
 ·have e1:qc8 m=(q15 m (nL m 0).length (q3w m),0):=by simp[qc8,hv]
  have e2:qp3 m=(qg7 m (nL m 0).length (qe1 (nL m 0).length) (qe1 (nL m 0).length).length,0):=by simp[qp3,hv]
  rw[e1,e2,w2t hv (h7 hv),xl8 (h7 hv)]
 ·have hv:validB m=false:=by simpa using hv
  have e1:qc8 m=([],1):=by simp[qc8,hv]
  have e2:qp3 m=([],1):=by simp[qp3,hv]
  rw[e1,e2]
structure wu3 (m:List (List Int)):Prop where
 fit:w7u m
 n7:validB m=true->(nL m 0).length<=7
abbrev x6u:qb9:=qf6 false none [tMask] [tMask] (λx=>wu3 x.1) (λx=>((qc8 x.1).1,()))
theorem q98:qd4 Tryz.prog 65 x6u:=by
 refine meets (snd (SpecsOk.cons ws3 (SpecsOk.nil _))) Tryz.func65 rfl rfl (λ_ _=>none) (λ_=>by kernel_rfl) (by decide) ?_
 rintro⟨m,⟨⟩⟩ h
 revert m
 intro(m:List (List Int)) (h:wu3 m)
 refine @qd7 _ (wh6 m/\(qp3 m).1=(qc8 m).1) (by kernel_rfl) ?_
 try simp only[z0,z1,z2,z3,z4,z5,z6,z7,z8,z9,z10,Int.reduceEq,z11,z12,z13,z14,z15,z16,z17,z18,z19,z20,z21,z22,z23,z24,z25,z26,z27,z28,z29,z30,Int.reduceLE,Int.reduceLT,z31,z32,z33,z34,qa1]
 try simp only[qb3,qb4,qc0,z31,z32,z2,z1]
 rw[w9p h.n7]
 exact⟨xr3 h.fit h.n7,rfl⟩
theorem xm3 (a b:Int × Int):q5x a b=if q3y a b=true then b else a:=by
 unfold q5x
 by_cases q:a.1*b.2<b.1*a.2
 ·rw[if_pos (q53.2 q),if_pos (show q3y a b=true from decide_eq_true q)]
 ·rw[if_neg λe=>q (q53.1 e),if_neg (by unfold q3y; rw[decide_eq_false q]; decide)]
structure w9q (m:List (List Int)) (p:List Int):Prop where
 fit:wu3 m
 len:p.length<=1000
def x6v (m:List (List Int)) (l:List (List Int)) (pix:List Int):Nat->Option Inv
 | 0=>some (Inv.of [29] 2 (λk:Nat=>[(29,.lit (.int .i64 k))]) (λk=>[.box 34 x2g,.box 34 (.cons (.lit (.int .i64 (qq7 l pix k).1)) (.cons (.lit (.int .i64 (qq7 l pix k).2)) .nil))]) (λk=>k<=l.length) (λk=>l.length-k))
 | _=>none
abbrev yd3:qb9:=qf6 true none [tMask,tInts] [q0k,tInt] (λx=>w9q x.1 x.2.1) (λx=>(ofQ x.1 x.2.1,ofE x.1 x.2.1,()))
theorem w9r:qd4 Tryz.prog 21 yd3:=by
 refine meets (snd (SpecsOk.cons we8 (SpecsOk.cons w42 (SpecsOk.cons q98 (SpecsOk.cons q9w (SpecsOk.cons q9v (SpecsOk.nil _))))))) Tryz.func21 rfl rfl (λx=>x6v x.1 (qc8 x.1).1 x.2.1) (λ_=>by kernel_rfl) (by decide) ?_
 rintro⟨m,p,⟨⟩⟩ h
 revert m p
 intro(m:List (List Int)) (p:List Int) (h:w9q m p)
 refine @qd7 _ (w7u m/\((!validB m)=true->((0:Int)=(ofQ m p).1/\(0:Int)=(ofQ m p).2/\True)/\(1:Int)=ofE m p/\True)/\((!validB m)=false->((0:Int)<=(0:Int)/\(0:Int)<(↑m.length:Int))/\p.length<=(1000000:Nat)/\((q5r (↑(nL m (0:Nat)).length:Int) p != (0:Int))=true->((0:Int)=(ofQ m p).1/\(0:Int)=(ofQ m p).2/\True)/\q5r (↑(nL m (0:Nat)).length:Int) p=ofE m p/\True)/\((q5r (↑(nL m (0:Nat)).length:Int) p != (0:Int))=false->wu3 m/\∃(v2:Unit),∃(v3:Nat),Nat.le v3 (qc8 m).1.length/\(((0:Int)=(↑v3:Int)/\True)/\((0:Int)=(0:Int)/\(0:Int)=(0:Int)/\True)/\((0:Int)=(qq7 (qc8 m).1 p v3).1/\(1:Int)=(qq7 (qc8 m).1 p v3).2/\True)/\True)/\∀(v4:Nat),Nat.le v4 (qc8 m).1.length->(decide ((↑v4:Int)<(↑(qc8 m).1.length:Int))=true->((0:Int)<=(↑v4:Int)/\(↑v4:Int)<(↑(qc8 m).1.length:Int))/\wk1 (nL (qc8 m).1 v4) p/\(qr5 ((qq7 (qc8 m).1 p v4).1,(qq7 (qc8 m).1 p v4).2)/\qr5 ((shR (nL (qc8 m).1 v4) p).1,(shR (nL (qc8 m).1 v4) p).2))/\(q3y ((qq7 (qc8 m).1 p v4).1,(qq7 (qc8 m).1 p v4).2) ((shR (nL (qc8 m).1 v4) p).1,(shR (nL (qc8 m).1 v4) p).2)=true->fits .i64 ((↑v4:Int)+(1:Int))/\∃(v8:Nat),Nat.le v8 (qc8 m).1.length/\(qc8 m).1.length-v8<(qc8 m).1.length-v4/\((↑v4:Int)+(1:Int)=(↑v8:Int)/\True)/\((0:Int)=(0:Int)/\(0:Int)=(0:Int)/\True)/\((shR (nL (qc8 m).1 v4) p).1=(qq7 (qc8 m).1 p v8).1/\(shR (nL (qc8 m).1 v4) p).2=(qq7 (qc8 m).1 p v8).2/\True)/\True)/\(q3y ((qq7 (qc8 m).1 p v4).1,(qq7 (qc8 m).1 p v4).2) ((shR (nL (qc8 m).1 v4) p).1,(shR (nL (qc8 m).1 v4) p).2)=false->fits .i64 ((↑v4:Int)+(1:Int))/\∃(v8:Nat),Nat.le v8 (qc8 m).1.length/\(qc8 m).1.length-v8<(qc8 m).1.length-v4/\((↑v4:Int)+(1:Int)=(↑v8:Int)/\True)/\((0:Int)=(0:Int)/\(0:Int)=(0:Int)/\True)/\((qq7 (qc8 m).1 p v4).1=(qq7 (qc8 m).1 p v8).1/\(qq7 (qc8 m).1 p v4).2=(qq7 (qc8 m).1 p v8).2/\True)/\True))/\(decide ((↑v4:Int)<(↑(qc8 m).1.length:Int))=false->((qq7 (qc8 m).1 p v4).1=(ofQ m p).1/\(qq7 (qc8 m).1 p v4).2=(ofQ m p).2/\True)/\(0:Int)=ofE m p/\True)))) (by kernel_rfl) ?_
 try simp only[z0,z1,z2,z3,z4,z5,z6,z7,z8,z9,z10,Int.reduceEq,z11,z12,z13,z14,z15,z16,z17,z18,z19,z20,z21,z22,z23,z24,z25,z26,z27,z28,z29,z30,Int.reduceLE,Int.reduceLT,z31,z32,z33,z34,qa1]
 try simp only[qb3,qb4,qc0,z31,z32,z2,z1]
 have hp:=h.len
 have bad:∀e:Int,e≠0->ofE m p=e->(0=(ofQ m p).fst/\0=(ofQ m p).snd)/\e=ofE m p:=λe he q=>by
  have q':q9f m p=e:=q
  unfold ofQ
  rw[if_neg (by rw[q']; exact he),q]
  exact⟨⟨rfl,rfl⟩,rfl⟩
 refine⟨h.fit.fit,λhv=>bad 1 (by decide) (by simp[ofE,q9f,hv]),λhv=>?_⟩
 have hM:=Mk.of hv
 have hm1:=hM.rows1
 have hE:ofE m p=q5r (nL m 0).length p:=by simp[ofE,q9f,hv]
 refine⟨by omega,by omega,λhn=>bad _ hn hE,λhn=>⟨h.fit,?_⟩⟩
 have hQ:ofQ m p=qq7 (qc8 m).1 p (qc8 m).1.length:=if_pos (hE.trans hn)
 have h7:=h.fit.n7 hv
 have hO:xq2 (qc8 m).1 p:=⟨q0c hv,λi hi=>by
  obtain⟨s,hc⟩:=qs2 hv h7 hi
  exact q42 hv hc (Named.of hn)⟩
 have hl:=hO.len
 generalize(qc8 m).1=l at *
 refine⟨(),0,Nat.zero_le _,⟨rfl,rfl,rfl⟩,λk hk=>⟨λhlt=>?_,λhge=>?_⟩⟩
 ·have ht:qq7 l p (k+1)=q5x (qq7 l p k) (shR (nL l k) p):=rfl
  rw[xm3] at ht
  refine⟨hlt,hO.ok k hlt,⟨q0a hO k hk,q17 (hO.ok k hlt)⟩,λq=>⟨qa4 (by omega) (by omega),k+1,hlt,by omega,by push_cast; rfl,?_⟩,λq=>⟨qa4 (by omega) (by omega),k+1,hlt,by omega,by push_cast; rfl,?_⟩⟩
  ·rw[ht,if_pos q]; exact⟨rfl,rfl⟩
  ·rw[ht,if_neg (by intro e; have:q3y (qq7 l p k) (shR (nL l k) p)=false:=q; rw[this] at e; cases e)]; exact⟨rfl,rfl⟩
 ·obtain rfl:k=l.length:=by omega
  rw[hQ]
  exact⟨⟨rfl,rfl⟩,(hE.trans hn).symm⟩
end Go.Proofs.YtempacilejhbgaaGreat
