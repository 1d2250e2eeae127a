/- The seat's small checks, and that the packages are awake: contracts by the engine. No condition. -/
import Derived.Test.YtmijnbjlhnpokaaGreatW16
import Derived.Test.YtmijnbjlhnpokaaGreatQ9
import Derived.Test.YtmijnbjlhnpokaaGreatH6
import Derived.Test.YtmijnbjlhnpokaaGreatQ1
import Derived.Test.YtmijnbjlhnpokaaGreatW11
set_option linter.unusedVariables false
namespace Go.Proofs.YtmijnbjlhnpokaaGreat
open Go Go.RowKit Eng
def x1y:Nat->(Nat->Int)->Nat
 | 0,_=>0
 | k+1,d=>if d k≠0 then x1y k d+1 else x1y k d
def wz8:Nat->(Nat->Int)->List Int
 | 0,_=>[]
 | k+1,d=>if d k≠0 then wz8 k d++[(k:Int)] else wz8 k d
theorem wh0 (d:Nat->Int):∀k,(wz8 k d).length=x1y k d
 | 0=>rfl
 | k+1=>by
  rw[wz8,x1y]
  split
  ·rw[List.length_append,wh0 d k]; rfl
  ·exact wh0 d k
theorem q4w (d:Nat->Int):∀k,Named k (wz8 k d)/\∀j,j<(wz8 k d).length->d (nI (wz8 k d) j).toNat≠0
 | 0=>⟨⟨λj hj=>absurd hj (Nat.not_lt_zero _),λi j _ hj=>absurd hj (Nat.not_lt_zero _)⟩,λj hj=>absurd hj (Nat.not_lt_zero _)⟩
 | k+1=>by
  obtain⟨h1,h2⟩:=q4w d k
  rw[wz8]
  by_cases q:d k≠0
  ·rw[if_pos q]
   have hl:(wz8 k d++[(k:Int)]).length=(wz8 k d).length+1:=by simp
   refine⟨⟨λj hj=>?_,λi j hij hj=>?_⟩,λj hj=>?_⟩
   ·rw[hl] at hj
    rcases Nat.lt_succ_iff_lt_or_eq.1 hj with e | e
    ·rw[ql2 _ _ e]; have:=h1.at_ j e; omega
    ·rw[e,qq9]; omega
   ·rw[hl] at hj
    rw[ql2 _ _ (show i<(wz8 k d).length by omega)]
    rcases Nat.lt_succ_iff_lt_or_eq.1 hj with e | e
    ·rw[ql2 _ _ e]; exact h1.asc i j hij e
    ·rw[e,qq9]; exact(h1.at_ i (by omega)).2
   ·rw[hl] at hj
    rcases Nat.lt_succ_iff_lt_or_eq.1 hj with e | e
    ·rw[ql2 _ _ e]; exact h2 j e
    ·rw[e,qq9,Int.toNat_natCast]; exact q
  ·rw[if_neg q]
   exact⟨⟨λj hj=>by have:=h1.at_ j hj; omega,h1.asc⟩,h2⟩
theorem w2v (d:Nat->Int):∀k c,c<k->d c≠0->∃j,j<(wz8 k d).length/\nI (wz8 k d) j=(c:Int)
 | k+1,c,hc,hd=>by
  rw[wz8]
  by_cases q:c=k
  ·rw[if_pos (by rw[<- q]; exact hd)]
   exact⟨(wz8 k d).length,by simp,by rw[qq9,q]⟩
  ·obtain⟨j,h1,h2⟩:=w2v d k c (by omega) hd
   split
   ·exact⟨j,by rw[List.length_append]; omega,by rw[ql2 _ _ h1]; exact h2⟩
   ·exact⟨j,h1,h2⟩
theorem Named.inj {n:Nat} {s:List Int} (h:Named n s) {i j:Nat} (hi:i<s.length) (hj:j<s.length) (e:(nI s i).toNat=(nI s j).toNat):i=j:=by
 have h1:=h.at_ i hi
 have h2:=h.at_ j hj
 rcases Nat.lt_trichotomy i j with q | q | q
 ·have:=h.asc i j q hj; omega
 ·exact q
 ·have:=h.asc j i q hi; omega
structure xo8 (m:List (List Int)) (s h:List Int):Prop where
 nam:Named (nL m 0).length s
 pos:0<s.length
 isc:IsC m s
 len:h.length=(nL m 0).length
 nz:x1y (nL m 0).length (nI h)=s.length
 sol:Sol m.length (nL m 0).length (rowOf m) (nI h)
 on:∀j,j<s.length->nI h (nI s j).toNat≠0
 off:∀c,c<(nL m 0).length->(∀j,j<s.length->nI s j≠(c:Int))->nI h c=0
 small:∀c,(nI h c).natAbs<=160
theorem x5l {N:Nat} {s:List Int} (hs:Named N s) {d:Nat->Int} (hon:∀j,j<s.length->d (nI s j).toNat≠0) (hoff:∀c,c<N->(∀j,j<s.length->nI s j≠(c:Int))->d c=0):x1y N d=s.length:=by
 have h1:=(q4w d N).1
 have h2:=(q4w d N).2
 have h3:=w2v d N
 rw[<- wh0]
 have sub:∀(s t:List Int),Named N s->Named N t->(∀j,j<s.length->∃i,i<t.length/\nI t i=nI s j)->s.length<=t.length:=λs t hs ht h=>Nat.le_of_not_lt λhgt=>by
  have hx:∀j,∃i,j<s.length->i<t.length/\nI t i=nI s j:=λj=>by
   by_cases hj:j<s.length
   ·obtain⟨i,hi⟩:=h j hj; exact⟨i,λ_=>hi⟩
   ·exact⟨0,λq=>absurd q hj⟩
  obtain⟨g,hg⟩:=Classical.axiomOfChoice hx
  obtain⟨i,j,k1,k2,k3⟩:=q7s t.length s.length g (λi hi=>(hg i hi).1) hgt
  have e1:=(hg i (by omega)).2
  have e2:=(hg j k2).2
  rw[k3] at e1
  have:=hs.asc i j k1 k2
  omega
 refine Nat.le_antisymm (sub _ _ h1 hs λj hj=>?_) (sub _ _ hs h1 λj hj=>?_)
 ·have hb:=h1.at_ j hj
  refine Classical.byContradiction λq=>h2 j hj (hoff _ (by omega) λi hi e=>q ⟨i,hi,by omega⟩)
 ·have hb:=hs.at_ j hj
  obtain⟨i,hi,e⟩:=h3 _ (by omega) (hon j hj)
  exact⟨i,hi,by omega⟩
theorem x1k {m:List (List Int)} {s:List Int} (hM:Mk m) (hs:Named (nL m 0).length s) (h1:0<s.length) (hc:IsC m s):xo8 m s (w87 m (nL m 0).length s):=by
 have hO:=ql4 hM hs h1
 obtain⟨f,hf,hnp,ho,hv,hp⟩:=hO.one_free hc.one
 have hsm:=(hO.ker_small (qu9 (qk3 (qq5 m s)) 0 (by have:=hc.one; show 0<(qz1 m s).length; omega))).2
 have hnz:=hc.nz
 unfold w87 q7l
 change KV _ _ _ _ _ (nL (qz1 m s) 0) at hv
 change Prim (nL (qz1 m s) 0) at hp
 change ∀x∈nL (qz1 m s) 0,_ at hsm
 generalize nL (qz1 m s) 0=v at *
 have hat:=λj (hj:j<s.length)=>q8c (v:=v) hs _ (Nat.le_refl _) j hj
 have ho2:∀c:Nat,(∀j,j<s.length->nI s j≠(c:Int))->nI (qg1 (nL m 0).length s v s.length) c=0:=λc hc=>wg9 hs hc _ (Nat.le_refl _)
 have hlen:=qk8 (nL m 0).length s v s.length
 generalize qg1 (nL m 0).length s v s.length=u at *
 have hsW:∀c,c<s.length->(nI s c).toNat<(nL m 0).length:=λc hc=>by have:=hs.at_ c hc; omega
 have hsol:Sol m.length (nL m 0).length (rowOf m) (nI u):=λa ha=>by
  rw[wg7 s.length (f:=λc=>rowOf m a c*nI u c) (τ:=λc=>(nI s c).toNat) hsW (λq k hq hk e=>hs.inj hq hk e) λb hb hq=>by
   try dsimp only
   rw[ho2 b λj hj e=>hq j hj (by(try dsimp only); rw[e,Int.toNat_natCast]),Int.mul_zero]]
  rw[<- hv.sol a ha]
  refine qg7 λc hc=>?_
  try dsimp only
  unfold rowOf
  rw[hat c hc,qz0 m s a ha,q1j _ _ _ hc]
 have hsmall:∀c,(nI u c).natAbs<=160:=λc=>by
  by_cases q:∃j,j<s.length/\nI s j=(c:Int)
  ·obtain⟨j,hj,e⟩:=q
   have:=hat j hj
   rw[e,Int.toNat_natCast] at this
   rw[this]
   exact hsm _ (q71 (by rw[hv.len]; exact hj))
  ·rw[ho2 c λj hj e=>q ⟨j,hj,e⟩]; decide
 have both:∀h:List Int,h.length=u.length->∀sg:Int,(sg=1\/sg=-1)->(∀c,nI h c=nI u c*sg)->xo8 m s h:=λh hl sg hsg he=>by
  have hsg0:sg≠0:=by rcases hsg with rfl | rfl <;> decide
  have hon:∀j,j<s.length->nI h (nI s j).toNat≠0:=λj hj=>by
   rw[he,hat j hj]; exact qu2 (hnz j hj) hsg0
  have hoff:∀c,c<(nL m 0).length->(∀j,j<s.length->nI s j≠(c:Int))->nI h c=0:=λc hc hj=>by
   rw[he,ho2 c hj,Int.zero_mul]
  refine⟨hs,h1,hc,by omega,x5l hs hon hoff,λa ha=>?_,hon,hoff,λc=>?_⟩
  ·have e:=hsol a ha
   have e2:(sm (nL m 0).length λc=>rowOf m a c*nI h c)=sg*sm (nL m 0).length λc=>rowOf m a c*nI u c:=by
    rw[<- qu0]
    refine qg7 λc hc=>?_
    try dsimp only
    rw[he]; grind
   rw[e2,e,Int.mul_zero]
  ·rw[he,Int.natAbs_mul]
   have:=hsmall c
   rcases hsg with rfl | rfl
   ·simpa using this
   ·simpa using this
 split
 ·exact both _ (qs8 _ _) (-1) (.inr rfl) λc=>q53 u (-1) c
 ·exact both _ rfl 1 (.inl rfl) λc=>by omega
theorem xo9 {m:List (List Int)} (hM:Mk m) {k:Nat} {h:List Int} (hh:h∈xo6 m k):∃s,xo8 m s h/\s.length=k:=by
 unfold xo6 at hh
 rw[List.mem_filterMap] at hh
 obtain⟨s,hs,e⟩:=hh
 obtain⟨hN,hl⟩:=q54 hs
 unfold xb5 at e
 split at e
 ·rename_i q
  obtain rfl:=Option.some.inj e
  have hok:wo9 m s=true:=by
   have q:=q
   unfold wp0 at q
   rw[Bool.and_eq_true,Bool.and_eq_true] at q
   exact q.1.1
  have h1:0<s.length:=by
   unfold wo9 at hok
   rw[Bool.and_eq_true,decide_eq_true_eq] at hok
   omega
  exact⟨s,x1k hM hN h1 ((q1s hM hN hok).1 q),hl⟩
 ·cases e
end Go.Proofs.YtmijnbjlhnpokaaGreat
set_option linter.unusedSimpArgs false
namespace Go.Proofs.YtmijnbjlhnpokaaGreat
open Go Go.RowKit Eng
theorem xp0 {m:List (List Int)} (hv:qb9 m=true) (h7:(nL m 0).length<=7):(qv0 m).1=(List.range (nL m 0).length).flatMap λk=>xo6 m (k+1):=by
 have e1:qv0 m=(q2q m (nL m 0).length (q31 m),0):=by simp[qv0,hv]
 rw[e1]
 exact xo7 hv h7
theorem x5m {m:List (List Int)} (hv:qb9 m=true) (h7:(nL m 0).length<=7) {h:List Int} (hh:h∈(qv0 m).1):∃s,xo8 m s h:=by
 rw[xp0 hv h7,List.mem_flatMap] at hh
 obtain⟨k,_,hk⟩:=hh
 obtain⟨s,hs,_⟩:=xo9 (Mk.of hv) hk
 exact⟨s,hs⟩
theorem w2w {m:List (List Int)} (hv:qb9 m=true) {s h:List Int} (hc:xo8 m s h):HOk h:=by
 have:=(Mk.of hv).pix10
 refine⟨by rw[hc.len]; omega,λi=>?_⟩
 have:=hc.small i
 unfold qf0; omega
theorem xb7 (h:List Int):∀k,we7 h k=sm k λi=>q4n (nI h i)
 | 0=>rfl
 | k+1=>by rw[we7,xb7 h k]; rfl
theorem xb8 {n:Nat} {f:Nat->Int} (h:∀i,i<n->0<=f i):0<=sm n f:=by
 induction n with
 | zero=>exact Int.le_refl _
 | succ n ih=>
  have h1:=ih λi hi=>h i (by omega)
  have h2:=h n (by omega)
  show 0<=sm n f+f n
  omega
theorem x5n {n:Nat} {f:Nat->Int} (h:∀i,i<n->0<=f i) {k:Nat} (hk:k<n) (hf:0<f k):0<sm n f:=by
 induction n with
 | zero=>omega
 | succ n ih=>
  have h2:=h n (by omega)
  have h1:=xb8 (n:=n) λi hi=>h i (by omega)
  show 0<sm n f+f n
  rcases Nat.lt_succ_iff_lt_or_eq.1 hk with e | e
  ·have:=ih (λi hi=>h i (by omega)) e; omega
  ·subst e; omega
theorem wz9 (x:Int):0<=q4n x:=Int.natCast_nonneg _
theorem x5o {h:List Int} {i:Nat} (hi:i<h.length) (hx:nI h i≠0):0<szL h:=by
 unfold szL
 rw[xb7]
 refine x5n (λi _=>wz9 _) hi ?_
 show 0<q4n (nI h i)
 unfold q4n; omega
theorem x1l {m:List (List Int)} {s h:List Int} (hc:xo8 m s h):0<szL h:=by
 have h1:=hc.nam.at_ 0 hc.pos
 exact x5o (i:=(nI s 0).toNat) (by rw[hc.len]; omega) (hc.on 0 hc.pos)
theorem xp1 {l:List Int} {j:Nat} (h:j+1<l.length):(swp l j).Perm l:=by
 unfold swp
 rw[qh0 l j (by omega),qh0 l (j+1) h]
 have e1:l=l.take j++l[j] :: l[j+1] :: l.drop (j+2):=by
  rw[<- List.drop_eq_getElem_cons h,<- List.drop_eq_getElem_cons (by omega),List.take_append_drop]
 generalize hx:l[j]=x at *
 generalize hy:l[j+1]=y at *
 have hlt:(l.take j).length=j:=by rw[List.length_take]; omega
 generalize l.take j=a at *
 generalize l.drop (j+2)=b at *
 subst e1
 have e2:(a++x :: y :: b).set (j+1) x=a++x :: x :: b:=by
  rw[List.set_append_right _ _ (by omega),hlt,show j+1-j=1 by omega]; rfl
 have e3:(a++x :: x :: b).set j y=a++y :: x :: b:=by
  rw[List.set_append_right _ _ (by omega),hlt,Nat.sub_self]; rfl
 rw[e2,e3]
 exact List.Perm.append_left a (List.Perm.swap x y b)
theorem ws8 (f:Int->Int->Int):∀(j:Nat) (l:List Int),j<l.length->(q03 f j l).Perm l
 | 0,l,_=>List.Perm.refl l
 | j+1,l,h=>by
  rw[q03]
  split
  ·exact(ws8 f j (swp l j) (by rw[we8]; omega)).trans (xp1 h)
  ·exact List.Perm.refl l
theorem w2x (f:Int->Int->Int) (l:List Int):∀k,k<l.length\/k=0->(qz2 f l k).Perm l
 | 0,_=>List.Perm.refl l
 | k+1,h=>by
  have h1:=(q1r f l k (by omega)).1
  exact(ws8 f (k+1) (qz2 f l k) (by omega)).trans (w2x f l k (by omega))
def wt3 (f:Int->Int):List Int->Int
 | []=>0
 | x :: r=>f x+wt3 f r
theorem xb9 (f:Int->Int) {a b:List Int} (h:a.Perm b):wt3 f a=wt3 f b:=by
 induction h with
 | nil=>rfl
 | cons x _ ih=>simp[wt3,ih]
 | swap x y l=>simp[wt3]; omega
 | trans _ _ ih1 ih2=>exact ih1.trans ih2
theorem w2y (f:Int->Int):∀a b:List Int,wt3 f (a++b)=wt3 f a+wt3 f b
 | [],b=>by simp[wt3]
 | x :: a,b=>by simp[wt3,w2y f a b]; omega
def szV (h:List Int) (x:Int):Int:=q4n (nI h x.toNat)
theorem x1m (h:List Int) (p:List Int):inL h p=wt3 (szV h) p:=by
 have:∀k,k<=p.length->qv6 h p k=wt3 (szV h) (p.take k):=λk=>by
  induction k with
  | zero=>exact λ_=>by simp[qv6,wt3]
  | succ k ih=>
   intro hk
   have hs:p.take (k+1)=p.take k++[nI p k]:=by
    rw[List.take_add_one,List.getElem?_eq_getElem (by omega),qh0 p k (by omega)]; rfl
   rw[qv6,ih (by omega),hs,w2y]
   simp[wt3,szV]
 rw[inL,this _ (Nat.le_refl _),List.take_length]
theorem xp2 {n:Nat} {p:List Int} (h:Named n p):p.Pairwise (· < ·):=by
 rw[List.pairwise_iff_getElem]
 intro i j hi hj hij
 have:=h.asc i j hij hj
 rwa [qh0 p i hi,qh0 p j hj] at this
theorem w0a {n:Nat} {p:List Int} (h:p.Pairwise (· < ·)) (hb:∀x∈p,0<=x/\x<n):Named n p:=by
 refine⟨λj hj=>hb _ (q4q hj),λi j hij hj=>?_⟩
 rw[qh0 p i (by omega),qh0 p j hj]
 exact List.pairwise_iff_getElem.1 h i j (by omega) hj hij
theorem xp3 {p:List Int} (h:p.Pairwise (· < ·)):p.Nodup:=h.imp λ{a b} q e=>by omega
theorem x5p (n:Nat):(qp1 n).Pairwise (· < ·):=xp2 (Named.idx n)
theorem x1n {n:Nat} {x:Int}:x∈qp1 n↔0<=x/\x<n:=by
 constructor
 ·intro hx
  obtain⟨i,hi,rfl⟩:=List.mem_iff_getElem.1 hx
  rw[<- qh0 _ _ hi]
  rw[qf1] at hi
  rw[q0y _ _ hi]; omega
 ·intro hx
  have:nI (qp1 n) x.toNat=x:=by rw[q0y _ _ (by omega)]; omega
  rw[<- this]
  exact q4q (by rw[qf1]; omega)
def x1z (h:List Int):List Int:=insL (q5j h) (qp1 h.length)
theorem ws9 (h:List Int):(x1z h).Perm (qp1 h.length):=w2x _ _ _ (by rw[qf1]; omega)
theorem wt0 (h:List Int) (k:Nat):(q7o h k).Perm ((x1z h).take k):=List.mergeSort_perm ..
theorem w5n {h:List Int} {k:Nat}:Named h.length (q7o h k):=by
 have hp:=wt0 h k
 have hnd:(x1z h).Nodup:=(xp3 (x5p _)).perm (ws9 h).symm
 have hnd2:(q7o h k).Nodup:=(hnd.sublist (List.take_sublist k _)).perm hp.symm
 have hsrt:(q7o h k).Pairwise (·<=·):=by
  have:=List.pairwise_mergeSort (le:=λx y:Int=>decide (x<=y)) (λa b c h1 h2=>by simp only[decide_eq_true_eq] at *; omega) (λa b=>by
   rcases Int.le_total a b with q | q
   ·simp[q]
   ·simp[q]) ((x1z h).take k)
  exact this.imp λ{a b} q=>of_decide_eq_true q
 refine w0a ?_ λx hx=>x1n.1 ((ws9 h).mem_iff.1 (List.mem_of_mem_take (hp.mem_iff.1 hx)))
 exact List.Pairwise.imp₂ (λa b h1 h2=>by omega) hsrt hnd2
theorem xp4 (h:List Int) (k:Nat):inL h (q7o h k)=wt3 (szV h) ((x1z h).take k):=by rw[x1m,xb9 _ (wt0 h k)]
def sg (x:Int):Int:=if x<0 then -1 else 1
theorem xp5 {m:List (List Int)} (hv:qb9 m=true):(qv0 m).1.length<=1000000:=by
 have hM:=Mk.of hv
 have h10:=hM.pix10
 have e1:qv0 m=(q2q m (nL m 0).length (q31 m),0):=by simp[qv0,hv]
 have hc:q31 m<=(nL m 0).length:=by unfold q31; omega
 have:=wd6 m (nL m 0).length h10 (q31 m) (by omega)
 rw[e1]
 show(q2q m (nL m 0).length (q31 m)).length<=_
 omega
theorem xt4 {m:List (List Int)} (hv:qb9 m=true) (h7:(nL m 0).length<=7) {i:Nat} (hi:i<(qv0 m).1.length):∃s,xo8 m s (nL (qv0 m).1 i):=x5m hv h7 (qu9 _ _ hi)
theorem yb3 {m:List (List Int)} (hv:qb9 m=true) {s h p:List Int} (hc:xo8 m s h) (hp:Named (nL m 0).length p):x0q h p:=by
 have h10:=(Mk.of hv).pix10
 have hl:=hp.len
 exact⟨w2w hv hc,by omega,λj hj=>by rw[hc.len]; exact hp.at_ j hj,by have:=x1l hc; omega⟩
theorem x5q {m:List (List Int)} {s h:List Int} (hc:xo8 m s h) (k:Nat):Named (nL m 0).length (q7o h k):=by
 have:=w5n (h:=h) (k:=k)
 rwa [hc.len] at this
theorem yp5 {m:List (List Int)} (h7:qb9 m=true->(nL m 0).length<=7):xs4 m:=by
 refine⟨λhv=>yb2 hv,λhv k hk=>⟨xp5 hv,λi hi=>?_,λi hi=>?_⟩⟩
 ·obtain⟨s,hc⟩:=xt4 hv (h7 hv) hi
  have hM:=Mk.of hv
  have m1:=hM.pix1
  have m10:=hM.pix10
  exact⟨w2w hv hc,by rw[hc.len]; omega,by rw[hc.len]; omega,Int.natCast_nonneg _,by rw[hc.len]; omega⟩
 ·obtain⟨s,hc⟩:=xt4 hv (h7 hv) hi
  rw[Int.toNat_natCast]
  exact yb3 hv hc (x5q hc k)
open Go Go.Proofs Go.RowKit Eng Ls
def smB (m:List (List Int)) (n:Int):Bool:=(m.all λl=>decide ((l.length:Int)<=n)) && decide (m.length<=6)
structure x51 (m:List (List Int)) (n:Int) (k:Nat):Prop where
 le:k<=m.length
 all:∀i,i<k->((nL m i).length:Int)<=n
def yp6 (m:List (List Int)) (n:Int):Nat->Option Inv
 | 0=>some (Inv.of [9] 0 (λk:Nat=>[(9,.lit (.int .i64 k))]) (λ_=>[]) (λk=>x51 m n k) (λk=>m.length-k))
 | _=>none
abbrev sSm:qb4:=qf2 true none [qf3,qd0] [.bool] (λx=>x.1.length<=9223372036854775807) (λx=>(smB x.1 x.2.1,()))
theorem xp6:Meets Tryz.prog 9 sSm:=by
 refine meets (snd (SpecsOk.nil _)) Tryz.func9 rfl rfl (λx=>yp6 x.1 x.2.1) (λ_=>by kernel_rfl) (by decide) ?_
 rintro⟨m,n,⟨⟩⟩ h
 revert m n
 intro(m:List (List Int)) (n:Int) (h:m.length<=9223372036854775807)
 refine @qd1 _ (∃(v0:Unit),∃(v1:Nat),x51 m n v1/\(((0:Int)=(↑v1:Int)/\True)/\True)/\∀(v2:Nat),x51 m n v2->(decide ((↑v2:Int)<(↑m.length:Int))=true->((0:Int)<=(↑v2:Int)/\(↑v2:Int)<(↑m.length:Int))/\(decide (n<(↑(nL m v2).length:Int))=true->false=smB m n)/\(decide (n<(↑(nL m v2).length:Int))=false->fits .i64 ((↑v2:Int)+(1:Int))/\∃(v6:Nat),x51 m n v6/\m.length-v6<m.length-v2/\((↑v2:Int)+(1:Int)=(↑v6:Int)/\True)/\True))/\(decide ((↑v2:Int)<(↑m.length:Int))=false->decide ((↑m.length:Int)<=(6:Int))=smB m n)) (by kernel_rfl) ?_
 try simp only[z0,z1,z2,z3,z4,z5,z6,z7,z8,z9,z10,Int.reduceEq,z11,z12,z13,z14,z15,z16,z17,z18,z19,z20,z21,z22,z23,z24,z25,z26,z27,z28,z29,z30,Int.reduceLE,Int.reduceLT,z31,z32,z33,z34,qa1]
 try simp only[qa7,qa8,qb5,z31,z32,z2,z1]
 refine⟨(),0,⟨Nat.zero_le _,λi hi=>absurd hi (by omega)⟩,rfl,λk hk=>⟨λhlt=>⟨hlt,λhn=>?_,λhn=>?_⟩,λhge=>?_⟩⟩
 ·unfold smB
  have:(m.all λl=>decide ((l.length:Int)<=n))=false:=by
   rw[List.all_eq_false]
   exact⟨nL m k,by rw[qm1 m k hlt]; exact List.getElem_mem hlt,by simpa using hn⟩
  rw[this]; rfl
 ·refine⟨qb8 (by omega) (by omega),k+1,⟨hlt,λi hi=>?_⟩,by omega,by omega⟩
  by_cases q:i=k
  ·subst q; exact hn
  ·exact hk.all i (by omega)
 ·have hkl:=hk.le
  have:(m.all λl=>decide ((l.length:Int)<=n))=true:=by
   rw[List.all_eq_true]
   intro l hl
   obtain⟨i,hi,rfl⟩:=List.getElem_of_mem hl
   have:=hk.all i (by omega)
   rw[qm1 m i hi] at this
   exact decide_eq_true this
  unfold smB
  rw[this,Bool.true_and]
  exact decide_eq_decide.2 (by omega)
def x1o (l:List (List Int)) (k:Nat):Nat->Int × Int
 | 0=>(0,1)
 | i+1=>xl6 (x1o l k i) (ofR (wt3 (szV (nL l i)) ((x1z (nL l i)).take k)) (szL (nL l i)))
theorem w2z (l:List (List Int)) (k:Nat):∀n,qo9 l k n=x1o l k n
 | 0=>rfl
 | n+1=>by
  rw[qo9,x1o,w2z l k n]
  unfold shR
  rw[xp4]
abbrev m9:List (List Int):=[[1,1,0],[0,1,1]]
abbrev p9:List (List Int):=[[0,0,0],[0,5,0]]
theorem yp7:w5i m9=(1,0):=by
 have hc:(qv0 m9).1=[[1,-1,1]]:=by decide +kernel
 have hv:qb9 m9=true:=by decide
 unfold w5i ordL
 rw[if_pos hv,hc]
 show(((ordF [[1,-1,1]] 3 0:Nat):Int),(0:Int))=(1,0)
 simp only[ordF,w2z]
 decide +kernel
theorem cc9:xs4 m9:=yp5 λ_=>by show 3<=7; decide
theorem yp8:w2a m9 p9 2 1=(true,0):=by decide +kernel
theorem yp9:x1v m9:=by
 have h:∀i,i<m9.length->(nL m9 i).length<=9223372036854775807:=by decide
 exact⟨by decide,h⟩
theorem wh9:w9e m9 (ql0 m9 p9 2 2) 1:=by
 intro i hi h1 h2
 exact yb1 yp9 (by decide +kernel) h2
abbrev yb4:qb4:=qf2 true none [] [.bool] (λ_=>True) (λ_=>(true,()))
theorem w5o:Meets Tryz.prog 10 yb4:=by
 refine meets (snd (SpecsOk.cons wy7 (SpecsOk.cons w42 (SpecsOk.cons w9j (SpecsOk.nil _))))) Tryz.func10 rfl rfl (λ_ _=>none) (λ_=>by kernel_rfl) (by decide) ?_
 rintro⟨⟩ -
 refine @qd1 _ (xs4 [[(1:Int),(1:Int),(0:Int)],[(0:Int),(1:Int),(1:Int)]]/\True/\((0:Int)=(0:Int)->∀(v1:Nat),Nat.le (Nat.succ v1) (2:Nat)->(nFr (ql0 [[(1:Int),(1:Int),(0:Int)],[(0:Int),(1:Int),(1:Int)]] [[(0:Int),(0:Int),(0:Int)],[(0:Int),(5:Int),(0:Int)]] (2:Nat) (2:Nat)) v1).1=false->q8l [[(1:Int),(1:Int),(0:Int)],[(0:Int),(1:Int),(1:Int)]] (nFr (ql0 [[(1:Int),(1:Int),(0:Int)],[(0:Int),(1:Int),(1:Int)]] [[(0:Int),(0:Int),(0:Int)],[(0:Int),(5:Int),(0:Int)]] (2:Nat) (2:Nat)) v1).2 (1:Int)=(0:Int)->wy0 [[(1:Int),(1:Int),(0:Int)],[(0:Int),(1:Int),(1:Int)]] (nFr (ql0 [[(1:Int),(1:Int),(0:Int)],[(0:Int),(1:Int),(1:Int)]] [[(0:Int),(0:Int),(0:Int)],[(0:Int),(5:Int),(0:Int)]] (2:Nat) (2:Nat)) v1).2 (1:Int))/\(((0:Int)==(0:Int))=true->(((w5i [[(1:Int),(1:Int),(0:Int)],[(0:Int),(1:Int),(1:Int)]]).1==(1:Int))=true->(((0:Int)==(0:Int))=true->(((↑(6:Nat):Int)==(6:Int))=true->(((0:Int)==(0:Int))=true->(w2a [[(1:Int),(1:Int),(0:Int)],[(0:Int),(1:Int),(1:Int)]] [[(0:Int),(0:Int),(0:Int)],[(0:Int),(5:Int),(0:Int)]] (2:Int) (1:Int)).1=true)/\(((0:Int)==(0:Int))=false->false=true))/\(((↑(6:Nat):Int)==(6:Int))=false->false=true))/\(((0:Int)==(0:Int))=false->false=true))/\(((w5i [[(1:Int),(1:Int),(0:Int)],[(0:Int),(1:Int),(1:Int)]]).1==(1:Int))=false->false=true))/\(((0:Int)==(0:Int))=false->false=true)) (by kernel_rfl) ?_
 try simp only[z0,z1,z2,z3,z4,z5,z6,z7,z8,z9,z10,Int.reduceEq,z11,z12,z13,z14,z15,z16,z17,z18,z19,z20,z21,z22,z23,z24,z25,z26,z27,z28,z29,z30,Int.reduceLE,Int.reduceLT,z31,z32,z33,z34,qa1]
 try simp only[qa7,qa8,qb5,z31,z32,z2,z1]
 have ho:(w5i m9).1=1:=congrArg Prod.fst yp7
 have hs:(w2a m9 p9 2 1).1=true:=congrArg Prod.fst yp8
 exact⟨cc9,wh9,⟨⟨λ_=>⟨⟨λ_=>⟨hs,λq=>absurd trivial q⟩,λq=>absurd rfl q⟩,λq=>absurd trivial q⟩,λq=>absurd ho q⟩,λq=>absurd trivial q⟩⟩
end Go.Proofs.YtmijnbjlhnpokaaGreat
