/- Circuits of a mask of at most seven pixels, and their shares. Plain mathematics. No condition. -/
import Derived.Test.YtempacilejhbgaaGreatW16
import Derived.Test.YtempacilejhbgaaGreatQ10
set_option linter.unusedVariables false
namespace Go.Proofs.YtempacilejhbgaaGreat
open Go Go.RowKit Eng
def xr5:Nat->(Nat->Int)->Nat
 | 0,_=>0
 | k+1,d=>if d k≠0 then xr5 k d+1 else xr5 k d
def wu1:Nat->(Nat->Int)->List Int
 | 0,_=>[]
 | k+1,d=>if d k≠0 then wu1 k d++[(k:Int)] else wu1 k d
theorem wc8 (d:Nat->Int):∀k,(wu1 k d).length=xr5 k d
 | 0=>rfl
 | k+1=>by
  rw[wu1,xr5]
  split
  ·rw[List.length_append,wc8 d k]; rfl
  ·exact wc8 d k
theorem q4k (d:Nat->Int):∀k,Named k (wu1 k d)/\∀j,j<(wu1 k d).length->d (nI (wu1 k d) j).toNat≠0
 | 0=>⟨⟨λj hj=>absurd hj (Nat.not_lt_zero _),λi j _ hj=>absurd hj (Nat.not_lt_zero _)⟩,λj hj=>absurd hj (Nat.not_lt_zero _)⟩
 | k+1=>by
  obtain⟨h1,h2⟩:=q4k d k
  rw[wu1]
  by_cases q:d k≠0
  ·rw[if_pos q]
   have hl:(wu1 k d++[(k:Int)]).length=(wu1 k d).length+1:=by simp
   refine⟨⟨λj hj=>?_,λi j hij hj=>?_⟩,λj hj=>?_⟩
   ·rw[hl] at hj
    rcases Nat.lt_succ_iff_lt_or_eq.1 hj with e | e
    ·rw[qm3 _ _ e]; have:=h1.at_ j e; omega
    ·rw[e,qt2]; omega
   ·rw[hl] at hj
    rw[qm3 _ _ (show i<(wu1 k d).length by omega)]
    rcases Nat.lt_succ_iff_lt_or_eq.1 hj with e | e
    ·rw[qm3 _ _ e]; exact h1.asc i j hij e
    ·rw[e,qt2]; exact(h1.at_ i (by omega)).2
   ·rw[hl] at hj
    rcases Nat.lt_succ_iff_lt_or_eq.1 hj with e | e
    ·rw[qm3 _ _ e]; exact h2 j e
    ·rw[e,qt2,Int.toNat_natCast]; exact q
  ·rw[if_neg q]
   exact⟨⟨λj hj=>by have:=h1.at_ j hj; omega,h1.asc⟩,h2⟩
theorem w07 (d:Nat->Int):∀k c,c<k->d c≠0->∃j,j<(wu1 k d).length/\nI (wu1 k d) j=(c:Int)
 | k+1,c,hc,hd=>by
  rw[wu1]
  by_cases q:c=k
  ·rw[if_pos (by rw[<- q]; exact hd)]
   exact⟨(wu1 k d).length,by simp,by rw[qt2,q]⟩
  ·obtain⟨j,h1,h2⟩:=w07 d k c (by omega) hd
   split
   ·exact⟨j,by rw[List.length_append]; omega,by rw[qm3 _ _ h1]; exact h2⟩
   ·exact⟨j,h1,h2⟩
theorem Named.inj {n:Nat} {s:List Int} (h:Named n s) {i j:Nat} (hi:i<s.length) (hj:j<s.length) (e:(nI s i).toNat=(nI s j).toNat):i=j:=by
 have h1:=h.at_ i hi
 have h2:=h.at_ j hj
 rcases Nat.lt_trichotomy i j with q | q | q
 ·have:=h.asc i j q hj; omega
 ·exact q
 ·have:=h.asc j i q hi; omega
structure w3t (m:List (List Int)) (s h:List Int):Prop where
 nam:Named (nL m 0).length s
 pos:0<s.length
 isc:IsC m s
 len:h.length=(nL m 0).length
 nz:xr5 (nL m 0).length (nI h)=s.length
 sol:Sol m.length (nL m 0).length (rowOf m) (nI h)
 on:∀j,j<s.length->nI h (nI s j).toNat≠0
 off:∀c,c<(nL m 0).length->(∀j,j<s.length->nI s j≠(c:Int))->nI h c=0
 small:∀c,(nI h c).natAbs<=160
theorem xz1 {N:Nat} {s:List Int} (hs:Named N s) {d:Nat->Int} (hon:∀j,j<s.length->d (nI s j).toNat≠0) (hoff:∀c,c<N->(∀j,j<s.length->nI s j≠(c:Int))->d c=0):xr5 N d=s.length:=by
 have h1:=(q4k d N).1
 have h2:=(q4k d N).2
 have h3:=w07 d N
 rw[<- wc8]
 have sub:∀(s t:List Int),Named N s->Named N t->(∀j,j<s.length->∃i,i<t.length/\nI t i=nI s j)->s.length<=t.length:=λs t hs ht h=>Nat.le_of_not_lt λhgt=>by
  have hx:∀j,∃i,j<s.length->i<t.length/\nI t i=nI s j:=λj=>by
   by_cases hj:j<s.length
   ·obtain⟨i,hi⟩:=h j hj; exact⟨i,λ_=>hi⟩
   ·exact⟨0,λq=>absurd q hj⟩
  obtain⟨g,hg⟩:=Classical.axiomOfChoice hx
  obtain⟨i,j,k1,k2,k3⟩:=q67 t.length s.length g (λi hi=>(hg i hi).1) hgt
  have e1:=(hg i (by omega)).2
  have e2:=(hg j k2).2
  rw[k3] at e1
  have:=hs.asc i j k1 k2
  omega
 refine Nat.le_antisymm (sub _ _ h1 hs λj hj=>?_) (sub _ _ hs h1 λj hj=>?_)
 ·have hb:=h1.at_ j hj
  refine Classical.byContradiction λq=>h2 j hj (hoff _ (by omega) λi hi e=>q ⟨i,hi,by omega⟩)
 ·have hb:=hs.at_ j hj
  obtain⟨i,hi,e⟩:=h3 _ (by omega) (hon j hj)
  exact⟨i,hi,by omega⟩
theorem xp4 {m:List (List Int)} {s:List Int} (hM:Mk m) (hs:Named (nL m 0).length s) (h1:0<s.length) (hc:IsC m s):w3t m s (wm6 m (nL m 0).length s):=by
 have hO:=qj9 hM hs h1
 obtain⟨f,hf,hnp,ho,hv,hp⟩:=hO.one_free hc.one
 have hsm:=(hO.ker_small (qj4 (qg1 (qj1 m s)) 0 (by have:=hc.one; show 0<(qh6 m s).length; omega))).2
 have hnz:=hc.nz
 unfold wm6 q2d
 change KV _ _ _ _ _ (nL (qh6 m s) 0) at hv
 change Prim (nL (qh6 m s) 0) at hp
 change ∀x∈nL (qh6 m s) 0,_ at hsm
 generalize nL (qh6 m s) 0=v at *
 have hat:=λj (hj:j<s.length)=>q7l (v:=v) hs _ (Nat.le_refl _) j hj
 have ho2:∀c:Nat,(∀j,j<s.length->nI s j≠(c:Int))->nI (qd1 (nL m 0).length s v s.length) c=0:=λc hc=>wc6 hs hc _ (Nat.le_refl _)
 have hlen:=qi8 (nL m 0).length s v s.length
 generalize qd1 (nL m 0).length s v s.length=u at *
 have hsW:∀c,c<s.length->(nI s c).toNat<(nL m 0).length:=λc hc=>by have:=hs.at_ c hc; omega
 have hsol:Sol m.length (nL m 0).length (rowOf m) (nI u):=λa ha=>by
  rw[wc3 s.length (f:=λc=>rowOf m a c*nI u c) (τ:=λc=>(nI s c).toNat) hsW (λq k hq hk e=>hs.inj hq hk e) λb hb hq=>by
   try dsimp only
   rw[ho2 b λj hj e=>hq j hj (by(try dsimp only); rw[e,Int.toNat_natCast]),Int.mul_zero]]
  rw[<- hv.sol a ha]
  refine qg4 λc hc=>?_
  try dsimp only
  unfold rowOf
  rw[hat c hc,qy2 m s a ha,q08 _ _ _ hc]
 have hsmall:∀c,(nI u c).natAbs<=160:=λc=>by
  by_cases q:∃j,j<s.length/\nI s j=(c:Int)
  ·obtain⟨j,hj,e⟩:=q
   have:=hat j hj
   rw[e,Int.toNat_natCast] at this
   rw[this]
   exact hsm _ (q85 (by rw[hv.len]; exact hj))
  ·rw[ho2 c λj hj e=>q ⟨j,hj,e⟩]; decide
 have both:∀h:List Int,h.length=u.length->∀sg:Int,(sg=1\/sg=-1)->(∀c,nI h c=nI u c*sg)->w3t m s h:=λh hl sg hsg he=>by
  have hsg0:sg≠0:=by rcases hsg with rfl | rfl <;> decide
  have hon:∀j,j<s.length->nI h (nI s j).toNat≠0:=λj hj=>by
   rw[he,hat j hj]; exact qu4 (hnz j hj) hsg0
  have hoff:∀c,c<(nL m 0).length->(∀j,j<s.length->nI s j≠(c:Int))->nI h c=0:=λc hc hj=>by
   rw[he,ho2 c hj,Int.zero_mul]
  refine⟨hs,h1,hc,by omega,xz1 hs hon hoff,λa ha=>?_,hon,hoff,λc=>?_⟩
  ·have e:=hsol a ha
   have e2:(sm (nL m 0).length λc=>rowOf m a c*nI h c)=sg*sm (nL m 0).length λc=>rowOf m a c*nI u c:=by
    rw[<- qt1]
    refine qg4 λc hc=>?_
    try dsimp only
    rw[he]; grind
   rw[e2,e,Int.mul_zero]
  ·rw[he,Int.natAbs_mul]
   have:=hsmall c
   rcases hsg with rfl | rfl
   ·simpa using this
   ·simpa using this
 split
 ·exact both _ (qr9 _ _) (-1) (.inr rfl) λc=>q5i u (-1) c
 ·exact both _ rfl 1 (.inl rfl) λc=>by omega
theorem xd7 {m:List (List Int)} (hM:Mk m) {k:Nat} {h:List Int} (hh:h∈w8h m k):∃s,w3t m s h/\s.length=k:=by
 unfold w8h at hh
 rw[List.mem_filterMap] at hh
 obtain⟨s,hs,e⟩:=hh
 obtain⟨hN,hl⟩:=qo3 hs
 unfold wc7 at e
 split at e
 ·rename_i q
  obtain rfl:=Option.some.inj e
  have hok:q1h m s=true:=by
   have q:=q
   unfold qr1 at q
   rw[Bool.and_eq_true,Bool.and_eq_true] at q
   exact q.1.1
  have h1:0<s.length:=by
   unfold q1h at hok
   rw[Bool.and_eq_true,decide_eq_true_eq] at hok
   omega
  exact⟨s,xp4 hM hN h1 ((q1f hM hN hok).1 q),hl⟩
 ·cases e
end Go.Proofs.YtempacilejhbgaaGreat
set_option linter.unusedSimpArgs false
namespace Go.Proofs.YtempacilejhbgaaGreat
open Go Go.RowKit Eng
theorem xd8 {m:List (List Int)} (hv:validB m=true) (h7:(nL m 0).length<=7):(qc0 m).1=(List.range (nL m 0).length).flatMap λk=>w8h m (k+1):=by
 have e1:qc0 m=(q1j m (nL m 0).length (q3e m),0):=by simp[qc0,hv]
 rw[e1]
 exact w06 hv h7
theorem xz2 {m:List (List Int)} (hv:validB m=true) (h7:(nL m 0).length<=7) {h:List Int} (hh:h∈(qc0 m).1):∃s,w3t m s h:=by
 rw[xd8 hv h7,List.mem_flatMap] at hh
 obtain⟨k,_,hk⟩:=hh
 obtain⟨s,hs,_⟩:=xd7 (Mk.of hv) hk
 exact⟨s,hs⟩
theorem q3i {m:List (List Int)} (hv:validB m=true) {s h:List Int} (hc:w3t m s h):HOk h:=by
 have:=(Mk.of hv).pix10
 refine⟨by rw[hc.len]; omega,λi=>?_⟩
 have:=hc.small i
 unfold qe8; omega
theorem w7r (h:List Int):∀k,q0p h k=sm k λi=>qy3 (nI h i)
 | 0=>rfl
 | k+1=>by rw[q0p,w7r h k]; rfl
theorem w7s {n:Nat} {f:Nat->Int} (h:∀i,i<n->0<=f i):0<=sm n f:=by
 induction n with
 | zero=>exact Int.le_refl _
 | succ n ih=>
  have h1:=ih λi hi=>h i (by omega)
  have h2:=h n (by omega)
  show 0<=sm n f+f n
  omega
theorem xz3 {n:Nat} {f:Nat->Int} (h:∀i,i<n->0<=f i) {k:Nat} (hk:k<n) (hf:0<f k):0<sm n f:=by
 induction n with
 | zero=>omega
 | succ n ih=>
  have h2:=h n (by omega)
  have h1:=w7s (n:=n) λi hi=>h i (by omega)
  show 0<sm n f+f n
  rcases Nat.lt_succ_iff_lt_or_eq.1 hk with e | e
  ·have:=ih (λi hi=>h i (by omega)) e; omega
  ·subst e; omega
theorem wu3 (x:Int):0<=qy3 x:=Int.natCast_nonneg _
theorem xz4 {h:List Int} {i:Nat} (hi:i<h.length) (hx:nI h i≠0):0<szL h:=by
 unfold szL
 rw[w7r]
 refine xz3 (λi _=>wu3 _) hi ?_
 show 0<qy3 (nI h i)
 unfold qy3; omega
theorem wu4 {m:List (List Int)} {s h:List Int} (hc:w3t m s h):0<szL h:=by
 have h1:=hc.nam.at_ 0 hc.pos
 exact xz4 (i:=(nI s 0).toNat) (by rw[hc.len]; omega) (hc.on 0 hc.pos)
theorem xd9 {l:List Int} {j:Nat} (h:j+1<l.length):(swp l j).Perm l:=by
 unfold swp
 rw[qf8 l j (by omega),qf8 l (j+1) h]
 have e1:l=l.take j++l[j] :: l[j+1] :: l.drop (j+2):=by
  rw[<- List.drop_eq_getElem_cons h,<- List.drop_eq_getElem_cons (by omega),List.take_append_drop]
 generalize hx:l[j]=x at *
 generalize hy:l[j+1]=y at *
 have hlt:(l.take j).length=j:=by rw[List.length_take]; omega
 generalize l.take j=a at *
 generalize l.drop (j+2)=b at *
 subst e1
 have e2:(a++x :: y :: b).set (j+1) x=a++x :: x :: b:=by
  rw[List.set_append_right _ _ (by omega),hlt,show j+1-j=1 by omega]; rfl
 have e3:(a++x :: x :: b).set j y=a++y :: x :: b:=by
  rw[List.set_append_right _ _ (by omega),hlt,Nat.sub_self]; rfl
 rw[e2,e3]
 exact List.Perm.append_left a (List.Perm.swap x y b)
theorem wn5 (f:Int->Int->Int):∀(j:Nat) (l:List Int),j<l.length->(qu2 f j l).Perm l
 | 0,l,_=>List.Perm.refl l
 | j+1,l,h=>by
  rw[qu2]
  split
  ·exact(wn5 f j (swp l j) (by rw[q62]; omega)).trans (xd9 h)
  ·exact List.Perm.refl l
theorem w08 (f:Int->Int->Int) (l:List Int):∀k,k<l.length\/k=0->(qt4 f l k).Perm l
 | 0,_=>List.Perm.refl l
 | k+1,h=>by
  have h1:=(qy6 f l k (by omega)).1
  exact(wn5 f (k+1) (qt4 f l k) (by omega)).trans (w08 f l k (by omega))
theorem w09 {l:List Int} {j i:Nat} (h:j+1<l.length):nI (swp l j) i=if i=j then nI l (j+1) else if i=j+1 then nI l j else nI l i:=by
 unfold swp
 by_cases e:i=j
 ·subst e
  rw[if_pos rfl]
  exact qr2 (t:=.int .i64) _ _ _ (by rw[List.length_set]; omega)
 ·rw[if_neg e]
  refine(qw4 (t:=.int .i64) _ _ _ _ e).trans ?_
  by_cases e2:i=j+1
  ·subst e2
   rw[if_pos rfl]
   exact qr2 (t:=.int .i64) _ _ _ (by omega)
  ·rw[if_neg e2]
   exact qw4 (t:=.int .i64) _ _ _ _ e2
structure xz5 (v:Int->Int) (l:List Int) (j n:Nat):Prop where
 lo:∀a b,a<b->b<n->a≠j->b≠j->v (nI l b)<=v (nI l a)
 hi:∀b,j<b->b<n->v (nI l b)<=v (nI l j)
theorem wn6 {v:Int->Int} {n:Nat}:∀(j:Nat) (l:List Int),j<n->n<=l.length->xz5 v l j n->∀a b,a<b->b<n->v (nI (qu2 (λx y=>v y-v x) j l) b)<=v (nI (qu2 (λx y=>v y-v x) j l) a)
 | 0,l,hj,hn,h=>λa b hab hb=>by
  show v (nI l b)<=v (nI l a)
  by_cases e:a=0
  ·subst e; exact h.hi b hab hb
  ·exact h.lo a b hab hb e (by omega)
 | j+1,l,hj,hn,h=>λa b hab hb=>by
  rw[qu2]
  split
  ·rename_i hc
   refine wn6 j (swp l j) (by omega) (by rw[q62]; omega) ⟨λa b hab hb ha hb'=>?_,λb hjb hb=>?_⟩ a b hab hb
   ·rw[w09 (by omega),w09 (by omega),if_neg ha,if_neg hb']
    by_cases e1:b=j+1
    ·rw[if_pos e1,if_neg (by omega)]
     exact h.lo a j (by omega) (by omega) (by omega) (by omega)
    ·rw[if_neg e1]
     by_cases e2:a=j+1
     ·rw[if_pos e2]
      exact h.lo j b (by omega) hb (by omega) e1
     ·rw[if_neg e2]; exact h.lo a b hab hb e2 e1
   ·rw[w09 (by omega),w09 (by omega),if_neg (by omega),if_pos rfl]
    by_cases e1:b=j+1
    ·rw[if_pos e1]
     omega
    ·rw[if_neg e1]; exact h.hi b (by omega) hb
  ·rename_i hc
   have hge:v (nI l (j+1))<=v (nI l j):=by omega
   by_cases e1:b=j+1
   ·subst e1
    by_cases e2:a=j
    ·subst e2; exact hge
    ·exact Int.le_trans hge (h.lo a j (by omega) (by omega) (by omega) (by omega))
   ·by_cases e2:a=j+1
    ·subst e2; exact h.hi b hab hb
    ·exact h.lo a b hab hb e2 e1
theorem w1a {v:Int->Int} (l:List Int):∀k,k<l.length->∀a b,a<b->b<k+1->v (nI (qt4 (λx y=>v y-v x) l k) b)<=v (nI (qt4 (λx y=>v y-v x) l k) a)
 | 0,_=>λa b hab hb=>by omega
 | k+1,hk=>by
  have h1:=w1a (v:=v) l k (by omega)
  have h2:=(qy6 (λx y=>v y-v x) l k (by omega)).1
  rw[qt4]
  exact wn6 (k+1) _ (by omega) (by omega) ⟨λa b hab hb ha hb'=>h1 a b hab (by omega),λb h3 h4=>by omega⟩
end Go.Proofs.YtempacilejhbgaaGreat
