/- No set of k places has a greater sum of sizes than that of the k greatest. Plain mathematics. No condition. -/
import Derived.Test.YtempacilejhbgaaGreatW16
import Derived.Test.YtempacilejhbgaaGreatQ10
set_option linter.unusedVariables false
namespace Go.Proofs.YtempacilejhbgaaGreat
open Go Go.RowKit Eng
def wb3:Nat->(Nat->Int)->Nat
 | 0,_=>0
 | k+1,d=>if d k≠0 then wb3 k d+1 else wb3 k d
theorem cnt_le {d e:Nat->Int}:∀k,(∀c,c<k->d c≠0->e c≠0)->wb3 k d<=wb3 k e
 | 0,_=>Nat.le_refl _
 | k+1,h=>by
  have ih:=cnt_le k λc hc=>h c (by omega)
  rw[wb3,wb3]
  by_cases q:d k≠0
  ·rw[if_pos q,if_pos (h k (by omega) q)]; omega
  ·rw[if_neg q]; split <;> omega
theorem cnt_lt {d e:Nat->Int} {c0:Nat} (h1:d c0=0) (h2:e c0≠0):∀k,c0<k->(∀c,c<k->d c≠0->e c≠0)->wb3 k d<wb3 k e
 | k+1,hk,h=>by
  rw[wb3,wb3]
  by_cases q:c0=k
  ·have ih:=cnt_le (d:=d) (e:=e) k λc hc=>h c (by omega)
   rw[<- q,if_neg (by rw[h1]; exact λk=>k rfl),if_pos h2,q]
   omega
  ·have ih:=cnt_lt h1 h2 k (by omega) λc hc=>h c (by omega)
   by_cases q2:d k≠0
   ·rw[if_pos q2,if_pos (h k (by omega) q2)]; omega
   ·rw[if_neg q2]; split <;> omega
def wm0:Nat->(Nat->Int)->List Int
 | 0,_=>[]
 | k+1,d=>if d k≠0 then wm0 k d++[(k:Int)] else wm0 k d
theorem q41 (d:Nat->Int):∀k,(wm0 k d).length=wb3 k d
 | 0=>rfl
 | k+1=>by
  rw[wm0,wb3]
  split
  ·rw[List.length_append,q41 d k]; rfl
  ·exact q41 d k
theorem qw5 (d:Nat->Int):∀k,Named k (wm0 k d)/\∀j,j<(wm0 k d).length->d (nI (wm0 k d) j).toNat≠0
 | 0=>⟨⟨λj hj=>absurd hj (Nat.not_lt_zero _),λi j _ hj=>absurd hj (Nat.not_lt_zero _)⟩,λj hj=>absurd hj (Nat.not_lt_zero _)⟩
 | k+1=>by
  obtain⟨h1,h2⟩:=qw5 d k
  rw[wm0]
  by_cases q:d k≠0
  ·rw[if_pos q]
   have hl:(wm0 k d++[(k:Int)]).length=(wm0 k d).length+1:=by simp
   refine⟨⟨λj hj=>?_,λi j hij hj=>?_⟩,λj hj=>?_⟩
   ·rw[hl] at hj
    rcases Nat.lt_succ_iff_lt_or_eq.1 hj with e | e
    ·rw[qm8 _ _ e]; have:=h1.at_ j e; omega
    ·rw[e,qt4]; omega
   ·rw[hl] at hj
    rw[qm8 _ _ (show i<(wm0 k d).length by omega)]
    rcases Nat.lt_succ_iff_lt_or_eq.1 hj with e | e
    ·rw[qm8 _ _ e]; exact h1.asc i j hij e
    ·rw[e,qt4]; exact(h1.at_ i (by omega)).2
   ·rw[hl] at hj
    rcases Nat.lt_succ_iff_lt_or_eq.1 hj with e | e
    ·rw[qm8 _ _ e]; exact h2 j e
    ·rw[e,qt4,Int.toNat_natCast]; exact q
  ·rw[if_neg q]
   exact⟨⟨λj hj=>by have:=h1.at_ j hj; omega,h1.asc⟩,h2⟩
theorem wa5 (d:Nat->Int):∀k c,c<k->d c≠0->∃j,j<(wm0 k d).length/\nI (wm0 k d) j=(c:Int)
 | k+1,c,hc,hd=>by
  rw[wm0]
  by_cases q:c=k
  ·rw[if_pos (by rw[<- q]; exact hd)]
   exact⟨(wm0 k d).length,by simp,by rw[qt4,q]⟩
  ·obtain⟨j,h1,h2⟩:=wa5 d k c (by omega) hd
   split
   ·exact⟨j,by rw[List.length_append]; omega,by rw[qm8 _ _ h1]; exact h2⟩
   ·exact⟨j,h1,h2⟩
theorem Named.inj {n:Nat} {s:List Int} (h:Named n s) {i j:Nat} (hi:i<s.length) (hj:j<s.length) (e:(nI s i).toNat=(nI s j).toNat):i=j:=by
 have h1:=h.at_ i hi
 have h2:=h.at_ j hj
 rcases Nat.lt_trichotomy i j with q | q | q
 ·have:=h.asc i j q hj; omega
 ·exact q
 ·have:=h.asc j i q hi; omega
structure w7e (m:List (List Int)) (s h:List Int):Prop where
 nam:Named (nL m 0).length s
 pos:0<s.length
 isc:IsC m s
 len:h.length=(nL m 0).length
 nz:wb3 (nL m 0).length (nI h)=s.length
 sol:Sol m.length (nL m 0).length (rowOf m) (nI h)
 on:∀j,j<s.length->nI h (nI s j).toNat≠0
 off:∀c,c<(nL m 0).length->(∀j,j<s.length->nI s j≠(c:Int))->nI h c=0
 small:∀c,(nI h c).natAbs<=160
theorem xu5 {N:Nat} {s:List Int} (hs:Named N s) {d:Nat->Int} (hon:∀j,j<s.length->d (nI s j).toNat≠0) (hoff:∀c,c<N->(∀j,j<s.length->nI s j≠(c:Int))->d c=0):wb3 N d=s.length:=by
 have h1:=(qw5 d N).1
 have h2:=(qw5 d N).2
 have h3:=wa5 d N
 rw[<- q41]
 have sub:∀(s t:List Int),Named N s->Named N t->(∀j,j<s.length->∃i,i<t.length/\nI t i=nI s j)->s.length<=t.length:=λs t hs ht h=>Nat.le_of_not_lt λhgt=>by
  have hx:∀j,∃i,j<s.length->i<t.length/\nI t i=nI s j:=λj=>by
   by_cases hj:j<s.length
   ·obtain⟨i,hi⟩:=h j hj; exact⟨i,λ_=>hi⟩
   ·exact⟨0,λq=>absurd q hj⟩
  obtain⟨g,hg⟩:=Classical.axiomOfChoice hx
  obtain⟨i,j,k1,k2,k3⟩:=q6p t.length s.length g (λi hi=>(hg i hi).1) hgt
  have e1:=(hg i (by omega)).2
  have e2:=(hg j k2).2
  rw[k3] at e1
  have:=hs.asc i j k1 k2
  omega
 refine Nat.le_antisymm (sub _ _ h1 hs λj hj=>?_) (sub _ _ hs h1 λj hj=>?_)
 ·have hb:=h1.at_ j hj
  refine Classical.byContradiction λq=>h2 j hj (hoff _ (by omega) λi hi e=>q ⟨i,hi,by omega⟩)
 ·have hb:=hs.at_ j hj
  obtain⟨i,hi,e⟩:=h3 _ (by omega) (hon j hj)
  exact⟨i,hi,by omega⟩
theorem w6v {m:List (List Int)} {s:List Int} (hM:Mk m) (hs:Named (nL m 0).length s) (h1:0<s.length) (hc:IsC m s):w7e m s (wa0 m (nL m 0).length s):=by
 have hO:=qj8 hM hs h1
 obtain⟨f,hf,hnp,ho,hv,hp⟩:=hO.one_free hc.one
 have hsm:=(hO.ker_small (qn6 (qf9 (qi8 m s)) 0 (by have:=hc.one; show 0<(qi0 m s).length; omega))).2
 have hnz:=hc.nz
 unfold wa0 q18
 change KV _ _ _ _ _ (nL (qi0 m s) 0) at hv
 change Prim (nL (qi0 m s) 0) at hp
 change ∀x∈nL (qi0 m s) 0,_ at hsm
 generalize nL (qi0 m s) 0=v at *
 have hat:=λj (hj:j<s.length)=>q64 (v:=v) hs _ (Nat.le_refl _) j hj
 have ho2:∀c:Nat,(∀j,j<s.length->nI s j≠(c:Int))->nI (qd1 (nL m 0).length s v s.length) c=0:=λc hc=>wa4 hs hc _ (Nat.le_refl _)
 have hlen:=qj3 (nL m 0).length s v s.length
 generalize qd1 (nL m 0).length s v s.length=u at *
 have hsW:∀c,c<s.length->(nI s c).toNat<(nL m 0).length:=λc hc=>by have:=hs.at_ c hc; omega
 have hsol:Sol m.length (nL m 0).length (rowOf m) (nI u):=λa ha=>by
  rw[q40 s.length (f:=λc=>rowOf m a c*nI u c) (τ:=λc=>(nI s c).toNat) hsW (λq k hq hk e=>hs.inj hq hk e) λb hb hq=>by
   try dsimp only
   rw[ho2 b λj hj e=>hq j hj (by(try dsimp only); rw[e,Int.toNat_natCast]),Int.mul_zero]]
  rw[<- hv.sol a ha]
  refine qf1 λc hc=>?_
  try dsimp only
  unfold rowOf
  rw[hat c hc,qr9 m s a ha,qu3 _ _ _ hc]
 have hsmall:∀c,(nI u c).natAbs<=160:=λc=>by
  by_cases q:∃j,j<s.length/\nI s j=(c:Int)
  ·obtain⟨j,hj,e⟩:=q
   have:=hat j hj
   rw[e,Int.toNat_natCast] at this
   rw[this]
   exact hsm _ (q8l (by rw[hv.len]; exact hj))
  ·rw[ho2 c λj hj e=>q ⟨j,hj,e⟩]; decide
 have both:∀h:List Int,h.length=u.length->∀sg:Int,(sg=1\/sg=-1)->(∀c,nI h c=nI u c*sg)->w7e m s h:=λh hl sg hsg he=>by
  have hsg0:sg≠0:=by rcases hsg with rfl | rfl <;> decide
  have hon:∀j,j<s.length->nI h (nI s j).toNat≠0:=λj hj=>by
   rw[he,hat j hj]; exact qu5 (hnz j hj) hsg0
  have hoff:∀c,c<(nL m 0).length->(∀j,j<s.length->nI s j≠(c:Int))->nI h c=0:=λc hc hj=>by
   rw[he,ho2 c hj,Int.zero_mul]
  refine⟨hs,h1,hc,by omega,xu5 hs hon hoff,λa ha=>?_,hon,hoff,λc=>?_⟩
  ·have e:=hsol a ha
   have e2:(sm (nL m 0).length λc=>rowOf m a c*nI h c)=sg*sm (nL m 0).length λc=>rowOf m a c*nI u c:=by
    rw[<- qk3]
    refine qf1 λc hc=>?_
    try dsimp only
    rw[he]; grind
   rw[e2,e,Int.mul_zero]
  ·rw[he,Int.natAbs_mul]
   have:=hsmall c
   rcases hsg with rfl | rfl
   ·simpa using this
   ·simpa using this
 split
 ·exact both _ (qs2 _ _) (-1) (.inr rfl) λc=>q4y u (-1) c
 ·exact both _ rfl 1 (.inl rfl) λc=>by omega
theorem w94 {m:List (List Int)} (hM:Mk m) {k:Nat} {h:List Int} (hh:h∈w2s m k):∃s,w7e m s h/\s.length=k:=by
 unfold w2s at hh
 rw[List.mem_filterMap] at hh
 obtain⟨s,hs,e⟩:=hh
 obtain⟨hN,hl⟩:=q1b hs
 unfold q7g at e
 split at e
 ·rename_i q
  obtain rfl:=Option.some.inj e
  have hok:qz2 m s=true:=by
   have q:=q
   unfold qr3 at q
   rw[Bool.and_eq_true,Bool.and_eq_true] at q
   exact q.1.1
  have h1:0<s.length:=by
   unfold qz2 at hok
   rw[Bool.and_eq_true,decide_eq_true_eq] at hok
   omega
  exact⟨s,w6v hM hN h1 ((qw4 hM hN hok).1 q),hl⟩
 ·cases e
theorem w95 {m:List (List Int)} (hM:Mk m) {s:List Int} (hs:Named (nL m 0).length s) (h1:0<s.length) (hc:IsC m s):wa0 m (nL m 0).length s∈w2s m s.length:=by
 have hr:=wz6 hM hs h1 hc
 have hr2:=w6t hM
 have hok:qz2 m s=true:=by
  unfold qz2
  rw[Bool.and_eq_true,decide_eq_true_eq,decide_eq_true_eq]
  omega
 unfold w2s
 rw[List.mem_filterMap]
 refine⟨s,w6r hs,?_⟩
 unfold q7g
 rw[if_pos ((qw4 hM hs hok).2 hc)]
end Go.Proofs.YtempacilejhbgaaGreat
set_option linter.unusedSimpArgs false
namespace Go.Proofs.YtempacilejhbgaaGreat
open Go Go.RowKit Eng
theorem w0a {m:List (List Int)} (hv:qc8 m=true) (h7:(nL m 0).length<=7):(qo1 m).1=(List.range (nL m 0).length).flatMap λk=>w2s m (k+1):=by
 have e1:qo1 m=(q1g m (nL m 0).length (q25 m),0):=by simp[qo1,hv]
 rw[e1]
 exact wz9 hv h7
theorem xu6 {m:List (List Int)} (hv:qc8 m=true) (h7:(nL m 0).length<=7) {h:List Int} (hh:h∈(qo1 m).1):∃s,w7e m s h:=by
 rw[w0a hv h7,List.mem_flatMap] at hh
 obtain⟨k,_,hk⟩:=hh
 obtain⟨s,hs,_⟩:=w94 (Mk.of hv) hk
 exact⟨s,hs⟩
theorem xl2 {m:List (List Int)} (hv:qc8 m=true) (h7:(nL m 0).length<=7) {s:List Int} (hs:Named (nL m 0).length s) (h1:0<s.length) (hc:IsC m s):∃h∈(qo1 m).1,w7e m s h:=by
 refine⟨_,?_,w6v (Mk.of hv) hs h1 hc⟩
 rw[w0a hv h7,List.mem_flatMap]
 have:=hs.len
 refine⟨s.length-1,List.mem_range.2 (by omega),?_⟩
 rw[show s.length-1+1=s.length by omega]
 exact w95 (Mk.of hv) hs h1 hc
theorem w0b {m:List (List Int)} (hv:qc8 m=true) {s h:List Int} (hc:w7e m s h):HOk h:=by
 have:=(Mk.of hv).pix10
 refine⟨by rw[hc.len]; omega,λi=>?_⟩
 have:=hc.small i
 unfold qe8; omega
theorem wa6 (h:List Int):∀k,qz4 h k=sm k λi=>qg3 (nI h i)
 | 0=>rfl
 | k+1=>by rw[qz4,wa6 h k]; rfl
theorem wl4 {n:Nat} {f:Nat->Int} (h:∀i,i<n->0<=f i):0<=sm n f:=by
 induction n with
 | zero=>exact Int.le_refl _
 | succ n ih=>
  have h1:=ih λi hi=>h i (by omega)
  have h2:=h n (by omega)
  show 0<=sm n f+f n
  omega
theorem xd4 {n:Nat} {f:Nat->Int} (h:∀i,i<n->0<=f i) {k:Nat} (hk:k<n) (hf:0<f k):0<sm n f:=by
 induction n with
 | zero=>omega
 | succ n ih=>
  have h2:=h n (by omega)
  have h1:=wl4 (n:=n) λi hi=>h i (by omega)
  show 0<sm n f+f n
  rcases Nat.lt_succ_iff_lt_or_eq.1 hk with e | e
  ·have:=ih (λi hi=>h i (by omega)) e; omega
  ·subst e; omega
theorem qj6 (x:Int):0<=qg3 x:=Int.natCast_nonneg _
theorem xu7 {h:List Int} {i:Nat} (hi:i<h.length) (hx:nI h i≠0):0<szL h:=by
 unfold szL
 rw[wa6]
 refine xd4 (λi _=>qj6 _) hi ?_
 show 0<qg3 (nI h i)
 unfold qg3; omega
theorem xl3 {m:List (List Int)} {s h:List Int} (hc:w7e m s h):0<szL h:=by
 have h1:=hc.nam.at_ 0 hc.pos
 exact xu7 (i:=(nI s 0).toNat) (by rw[hc.len]; omega) (hc.on 0 hc.pos)
theorem w96 {l:List Int} {j:Nat} (h:j+1<l.length):(swp l j).Perm l:=by
 unfold swp
 rw[qg5 l j (by omega),qg5 l (j+1) h]
 have e1:l=l.take j++l[j] :: l[j+1] :: l.drop (j+2):=by
  rw[<- List.drop_eq_getElem_cons h,<- List.drop_eq_getElem_cons (by omega),List.take_append_drop]
 generalize hx:l[j]=x at *
 generalize hy:l[j+1]=y at *
 have hlt:(l.take j).length=j:=by rw[List.length_take]; omega
 generalize l.take j=a at *
 generalize l.drop (j+2)=b at *
 subst e1
 have e2:(a++x :: y :: b).set (j+1) x=a++x :: x :: b:=by
  rw[List.set_append_right _ _ (by omega),hlt,show j+1-j=1 by omega]; rfl
 have e3:(a++x :: x :: b).set j y=a++y :: x :: b:=by
  rw[List.set_append_right _ _ (by omega),hlt,Nat.sub_self]; rfl
 rw[e2,e3]
 exact List.Perm.append_left a (List.Perm.swap x y b)
theorem wl5 (f:Int->Int->Int):∀(j:Nat) (l:List Int),j<l.length->(q0m f j l).Perm l
 | 0,l,_=>List.Perm.refl l
 | j+1,l,h=>by
  rw[q0m]
  split
  ·exact(wl5 f j (swp l j) (by rw[q91]; omega)).trans (w96 h)
  ·exact List.Perm.refl l
theorem w0c (f:Int->Int->Int) (l:List Int):∀k,k<l.length\/k=0->(qy6 f l k).Perm l
 | 0,_=>List.Perm.refl l
 | k+1,h=>by
  have h1:=(q09 f l k (by omega)).1
  exact(wl5 f (k+1) (qy6 f l k) (by omega)).trans (w0c f l k (by omega))
def wm1 (f:Int->Int):List Int->Int
 | []=>0
 | x :: r=>f x+wm1 f r
theorem w6w (f:Int->Int) {a b:List Int} (h:a.Perm b):wm1 f a=wm1 f b:=by
 induction h with
 | nil=>rfl
 | cons x _ ih=>simp[wm1,ih]
 | swap x y l=>simp[wm1]; omega
 | trans _ _ ih1 ih2=>exact ih1.trans ih2
theorem w0d (f:Int->Int):∀a b:List Int,wm1 f (a++b)=wm1 f a+wm1 f b
 | [],b=>by simp[wm1]
 | x :: a,b=>by simp[wm1,w0d f a b]; omega
def szV (h:List Int) (x:Int):Int:=qg3 (nI h x.toNat)
theorem xl4 (h:List Int) (p:List Int):inL h p=wm1 (szV h) p:=by
 have:∀k,k<=p.length->ql6 h p k=wm1 (szV h) (p.take k):=λk=>by
  induction k with
  | zero=>exact λ_=>by simp[ql6,wm1]
  | succ k ih=>
   intro hk
   have hs:p.take (k+1)=p.take k++[nI p k]:=by
    rw[List.take_add_one,List.getElem?_eq_getElem (by omega),qg5 p k (by omega)]; rfl
   rw[ql6,ih (by omega),hs,w0d]
   simp[wm1,szV]
 rw[inL,this _ (Nat.le_refl _),List.take_length]
theorem w97 {n:Nat} {p:List Int} (h:Named n p):p.Pairwise (· < ·):=by
 rw[List.pairwise_iff_getElem]
 intro i j hi hj hij
 have:=h.asc i j hij hj
 rwa [qg5 p i hi,qg5 p j hj] at this
theorem wq8 {n:Nat} {p:List Int} (h:p.Pairwise (· < ·)) (hb:∀x∈p,0<=x/\x<n):Named n p:=by
 refine⟨λj hj=>hb _ (q3r hj),λi j hij hj=>?_⟩
 rw[qg5 p i (by omega),qg5 p j hj]
 exact List.pairwise_iff_getElem.1 h i j (by omega) hj hij
theorem w98 {p:List Int} (h:p.Pairwise (· < ·)):p.Nodup:=h.imp λ{a b} q e=>by omega
theorem xu8 (n:Nat):(qo9 n).Pairwise (· < ·):=w97 (Named.idx n)
theorem xl5 {n:Nat} {x:Int}:x∈qo9 n↔0<=x/\x<n:=by
 constructor
 ·intro hx
  obtain⟨i,hi,rfl⟩:=List.mem_iff_getElem.1 hx
  rw[<- qg5 _ _ hi]
  rw[qf5] at hi
  rw[q0j _ _ hi]; omega
 ·intro hx
  have:nI (qo9 n) x.toNat=x:=by rw[q0j _ _ (by omega)]; omega
  rw[<- this]
  exact q3r (by rw[qf5]; omega)
def xn3 (h:List Int):List Int:=insL (q4i h) (qo9 h.length)
theorem wl6 (h:List Int):(xn3 h).Perm (qo9 h.length):=w0c _ _ _ (by rw[qf5]; omega)
theorem wl7 (h:List Int) (k:Nat):(q6k h k).Perm ((xn3 h).take k):=List.mergeSort_perm ..
theorem w2l {h:List Int} {k:Nat}:Named h.length (q6k h k):=by
 have hp:=wl7 h k
 have hnd:(xn3 h).Nodup:=(w98 (xu8 _)).perm (wl6 h).symm
 have hnd2:(q6k h k).Nodup:=(hnd.sublist (List.take_sublist k _)).perm hp.symm
 have hsrt:(q6k h k).Pairwise (·<=·):=by
  have:=List.pairwise_mergeSort (le:=λx y:Int=>decide (x<=y)) (λa b c h1 h2=>by simp only[decide_eq_true_eq] at *; omega) (λa b=>by
   rcases Int.le_total a b with q | q
   ·simp[q]
   ·simp[q]) ((xn3 h).take k)
  exact this.imp λ{a b} q=>of_decide_eq_true q
 refine wq8 ?_ λx hx=>xl5.1 ((wl6 h).mem_iff.1 (List.mem_of_mem_take (hp.mem_iff.1 hx)))
 exact List.Pairwise.imp₂ (λa b h1 h2=>by omega) hsrt hnd2
theorem w99 (h:List Int) (k:Nat):inL h (q6k h k)=wm1 (szV h) ((xn3 h).take k):=by rw[xl4,w6w _ (wl7 h k)]
end Go.Proofs.YtempacilejhbgaaGreat
