/- Safe pixels and the order: contracts by the engine. No condition. -/
import Derived.Test.YtnchigbbjajiiaaGreatQ9
import Derived.Test.YtnchigbbjajiiaaGreatW19
import Derived.Test.YtnchigbbjajiiaaGreatV23
set_option linter.unusedVariables false
set_option linter.unusedSimpArgs false
namespace Go.Proofs.YtnchigbbjajiiaaGreat
open Go Go.RowKit Eng
abbrev yq2:qb3:=qe8 true none [tInt] [tInt] (λx=>qc0 1000000000 x.1) (λx=>(qd6 x.1,()))
theorem w77:Meets Tryz.prog 110 yq2:=by
 refine mt0 (SpecsOk.nil _) Tryz.func110 ?_
 rintro⟨x,⟨⟩⟩ h
 revert x
 intro(x:Int) (h:qc0 1000000000 x)
 refine vcs ((decide (x<(0:Int))=true->fits .i64 ((0:Int)-x)/\(0:Int)-x=qd6 x)/\(decide (x<(0:Int))=false->x=qd6 x)) ?_
 unfold qc0 at h
 grind [qd6,qa3]
theorem w49 {m:List (List Int)} (hv:validB m=true) (h7:(nL m 0).length<=7):(qf2 m).1=(List.range (nL m 0).length).flatMap λk=>w8i m (k+1):=by
 grind [qf2,q3j,nL,q6j,w4z]
theorem yb9 {m:List (List Int)} (hv:validB m=true) (h7:(nL m 0).length<=7) {h:List Int} (hh:h∈(qf2 m).1):∃s,xr1 m s h:=by
 rw[w49 hv h7,List.mem_flatMap] at hh
 obtain⟨k,_,hk⟩:=hh
 obtain⟨s,hs,_⟩:=x0w (Mk.of hv) hk
 grind
theorem x6a {m:List (List Int)} (hv:validB m=true) (h7:(nL m 0).length<=7) {s:List Int} (hs:Named (nL m 0).length s) (h1:0<s.length) (hc:IsC m s):∃h∈(qf2 m).1,xr1 m s h:=by
 refine⟨_,?_,xk1 (Mk.of hv) hs h1 hc⟩
 rw[w49 hv h7,List.mem_flatMap]
 have:=hs.len
 refine⟨s.length-1,za2.2 ow,?_⟩
 grind [x0x,Mk.of]
theorem wn6 {m:List (List Int)} (hv:validB m=true) {s h:List Int} (hc:xr1 m s h):HOk h:=by
 have:=(Mk.of hv).pix10
 refine⟨by rw[hc.len]; omega,λi=>?_⟩
 have:=hc.small i
 omega
theorem xn1 (h:List Int):∀k,q91 h k=sm k λi=>qd6 (nI h i)
 | 0=>rfl
 | k+1=>by rw[q91,xn1 h k]; rfl
theorem wz5 {n:Nat} {f:Nat->Int} (h:∀i,i<n->0<=f i):0<=sm n f:=by
 induction n with
 | zero=>exact zcr _
 | succ n ih=>
  grind [sm]
theorem xn2 {n:Nat} {f:Nat->Int} (h:∀i,i<n->0<=f i) {k:Nat} (hk:k<n) (hf:0<f k):0<sm n f:=by
 induction n with
 | zero=>omega
 | succ n ih=>
  have h2:=h n ow
  have h1:=wz5 (n:=n) λi hi=>h i ow
  grind [sm,Nat.lt_succ_iff_lt_or_eq]
theorem qs7 (x:Int):0<=qd6 x:=zd4 _
theorem yc0 {h:List Int} {i:Nat} (hi:i<h.length) (hx:nI h i≠0):0<szL h:=by
 unfold szL
 rw[xn1]
 refine xn2 (λi _=>qs7 _) hi ?_
 grind [qd6,nI]
theorem xn3 {m:List (List Int)} {s h:List Int} (hc:xr1 m s h):0<szL h:=by
 have h1:=hc.nam.at_ 0 hc.pos
 exact yc0 (i:=(nI s 0).toNat) (by rw[hc.len]; omega) (hc.on 0 hc.pos)
theorem x1d {l:List Int} {j:Nat} (h:j+1<l.length):(swp l j).Perm l:=by
 unfold swp
 rw[qf1 l j ow,qf1 l (j+1) h]
 grind
theorem wz6 (f:Int->Int->Int):∀(j:Nat) (l:List Int),j<l.length->(qx5 f j l).Perm l
 | 0,l,_=>zez l
 | j+1,l,h=>by
  rw[qx5]
  split
  ·exact(wz6 f j (swp l j) (by grind [q9k])).trans (x1d h)
  rfl
theorem w5a (f:Int->Int->Int) (l:List Int):∀k,k<l.length\/k=0->(qw5 f l k).Perm l
 | 0,_=>zez l
 | k+1,h=>by
  have h1:=(q0y f l k ow).1
  exact(wz6 f (k+1) (qw5 f l k) ow).trans (w5a f l k ow)
theorem w5b {l:List Int} {j i:Nat} (h:j+1<l.length):nI (swp l j) i=if i=j then nI l (j+1) else if i=j+1 then nI l j else nI l i:=by
 unfold swp
 by_cases e:i=j
 ·subst e
  rw[zao rfl]
  exact qu3 (t:=.int .i64) _ _ _ (by grind)
 ·rw[zak e]
  refine(q0a (t:=.int .i64) _ _ _ _ e).trans ?_
  by_cases e2:i=j+1
  ·subst e2
   rw[zao rfl]
   grind [qu3]
  ·rw[zak e2]
   exact q0a (t:=.int .i64) _ _ _ _ e2
structure yc1 (v:Int->Int) (l:List Int) (j n:Nat):Prop where
 lo:∀a b,a<b->b<n->a≠j->b≠j->v (nI l b)<=v (nI l a)
 hi:∀b,j<b->b<n->v (nI l b)<=v (nI l j)
theorem wz7 {v:Int->Int} {n:Nat}:∀(j:Nat) (l:List Int),j<n->n<=l.length->yc1 v l j n->∀a b,a<b->b<n->v (nI (qx5 (λx y=>v y-v x) j l) b)<=v (nI (qx5 (λx y=>v y-v x) j l) a)
 | 0,l,hj,hn,h=>λa b hab hb=>by
  show v (nI l b)<=v (nI l a)
  by_cases e:a=0
  ·subst e; exact h.hi b hab hb
  ·exact h.lo a b hab hb e ow
 | j+1,l,hj,hn,h=>λa b hab hb=>by
  rw[qx5]
  split
  ·rename_i hc
   refine wz7 j (swp l j) ow (by grind [q9k]) ⟨λa b hab hb ha hb'=>?_,λb hjb hb=>?_⟩ a b hab hb
   ·rw[w5b ow,w5b ow,zak ha,zak hb']
    by_cases e1:b=j+1
    ·rw[zao e1,zak ow]
     exact h.lo a j ow ow ow ow
    ·rw[zak e1]
     by_cases e2:a=j+1
     ·rw[zao e2]
      exact h.lo j b ow hb ow e1
     ·rw[zak e2]; exact h.lo a b hab hb e2 e1
   ·rw[w5b ow,w5b ow,zak ow,zao rfl]
    by_cases e1:b=j+1
    ·grind
    ·rw[zak e1]; exact h.hi b ow hb
  ·rename_i hc
   have hge:v (nI l (j+1))<=v (nI l j):=ow
   by_cases e1:b=j+1
   ·subst e1
    by_cases e2:a=j
    ·grind
    ·exact Int.le_trans hge (h.lo a j ow ow ow ow)
   ·by_cases e2:a=j+1
    ·subst e2; exact h.hi b hab hb
    ·exact h.lo a b hab hb e2 e1
theorem w5c {v:Int->Int} (l:List Int):∀k,k<l.length->∀a b,a<b->b<k+1->v (nI (qw5 (λx y=>v y-v x) l k) b)<=v (nI (qw5 (λx y=>v y-v x) l k) a)
 | 0,_=>λa b hab hb=>by omega
 | k+1,hk=>by
  have h1:=w5c (v:=v) l k ow
  have h2:=(q0y (λx y=>v y-v x) l k ow).1
  rw[qw5]
  exact wz7 (k+1) _ ow ow ⟨λa b hab hb ha hb'=>h1 a b hab ow,λb h3 h4=>by omega⟩
def q2s (f:Int->Int):List Int->Int
 | []=>0
 | x :: r=>f x+q2s f r
theorem q9o (f:Int->Int) {a b:List Int} (h:a.Perm b):q2s f a=q2s f b:=by
 induction h with
 | nil=>rfl
 | cons x _ ih=>grind [q2s]
 | swap x y l=>grind [q2s]
 | trans _ _ ih1 ih2=>omega
theorem wn7 (f:Int->Int):∀a b:List Int,q2s f (a++b)=q2s f a+q2s f b
 | [],b=>by simp[q2s]
 | x :: a,b=>by simp[q2s,wn7 f a b]; omega
theorem wg8 (f:Int->Int) (a:Int):∀(s:List Int) (m:Nat),(∀y∈s,f y<=f a)->m<s.length->q2s f (s.take (m+1))<=f a+q2s f (s.take m)
 | [],m,_,h=>by grind
 | x :: s,0,h,_=>by grind [q2s]
 | x :: s,m+1,h,hm=>by
  have:=wg8 f a s m (λy hy=>h y (by grind)) (by grind)
  grind [q2s]
theorem xn4 (f:Int->Int) {t s:List Int} (h:t.Sublist s) (hp:s.Pairwise λx y=>f y<=f x):q2s f t<=q2s f (s.take t.length):=by
 induction h with
 | slnil=>simp
 | @cons t s a hs ih=>
  obtain⟨h1,h2⟩:=List.pairwise_cons.1 hp
  have:=ih h2
  have hl:=hs.length_le
  cases e:t.length with
  | zero=>grind
  | succ m=>
   rw[e] at this hl
   have:=wg8 f a s m h1 ow
   grind [q2s]
 | @cons_cons t s a hs ih=>
  grind [List.pairwise_cons,List.length_cons,q2s]
def szV (h:List Int) (x:Int):Int:=qd6 (nI h x.toNat)
theorem w2g (h:List Int) (p:List Int):inL h p=q2s (szV h) p:=by
 have:∀k,k<=p.length->qy1 h p k=q2s (szV h) (p.take k):=λk=>by
  induction k with
  | zero=>grind [qy1,q2s]
  | succ k ih=>
   intro hk
   have hs:p.take (k+1)=p.take k++[nI p k]:=by
    grind [List.take_add_one,List.getElem?_eq_getElem,qf1]
   rw[qy1,ih ow,hs,wn7]
   rfl
 simp_all [inL,Nat.le_refl,List.take_length]
theorem wn8 {n:Nat} {p:List Int} (h:Named n p):p.Pairwise (· < ·):=by
 rw[zcx]
 intro i j hi hj hij
 have:=h.asc i j hij hj
 grind [qf1]
theorem w2h {n:Nat} {p:List Int} (h:p.Pairwise (· < ·)) (hb:∀x∈p,0<=x/\x<n):Named n p:=by
 refine⟨λj hj=>hb _ (q5v hj),λi j hij hj=>?_⟩
 grind [qf1,List.pairwise_iff_getElem]
theorem q4t {p:List Int} (h:p.Pairwise (· < ·)):p.Nodup:=h.imp λ{a b} q e=>by omega
theorem xn5 (n:Nat):(qp8 n).Pairwise (· < ·):=wn8 (Named.idx n)
theorem w2i {n:Nat} {x:Int}:x∈qp8 n↔0<=x/\x<n:=by
 constructor
 ·intro hx
  obtain⟨i,hi,rfl⟩:=zby.1 hx
  rw[<- qf1 _ _ hi]
  grind [qg1,q5e]
 ·intro hx
  have:nI (qp8 n) x.toNat=x:=by grind [q5e]
  grind [q5v,qg1]
def xn6 (h:List Int):List Int:=insL (q6o h) (qp8 h.length)
theorem q1x (h:List Int):(xn6 h).Perm (qp8 h.length):=w5a _ _ _ ow
theorem xn7 (h:List Int):(xn6 h).Pairwise λx y=>szV h y<=szV h x:=by
 rw[zcx]
 intro i j hi hj hij
 have hl:(xn6 h).length=h.length:=by rw[(q1x h).length_eq,qg1]
 have:=w5c (v:=szV h) (qp8 h.length) ((qp8 h.length).length-1) (by grind [qg1]) i j hij (by grind [qg1])
 rw[<- qf1 _ i hi,<- qf1 _ j hj]
 exact this
theorem wz8 (h:List Int) (k:Nat):(q3p h k).Perm ((xn6 h).take k):=List.mergeSort_perm ..
theorem w78 {h:List Int} {k:Nat}:Named h.length (q3p h k):=by
 have hp:=wz8 h k
 have hnd:(xn6 h).Nodup:=(q4t (xn5 _)).perm (q1x h).symm
 have hnd2:(q3p h k).Nodup:=(hnd.sublist (List.take_sublist k _)).perm hp.symm
 have hsrt:(q3p h k).Pairwise (·<=·):=by
  have:=List.pairwise_mergeSort (le:=λx y:Int=>decide (x<=y)) (λa b c h1 h2=>by grind) (λa b=>by
   grind) ((xn6 h).take k)
  exact this.imp λ{a b} q=>zbn q
 grind [w2h,w2i,q1x,List.mem_of_mem_take,List.Pairwise.imp₂]
theorem wn9 (h:List Int) (k:Nat):inL h (q3p h k)=q2s (szV h) ((xn6 h).take k):=by grind [w2g,q9o,wz8]
theorem x1e {h:List Int} {p:List Int} (hp:Named h.length p):inL h p<=inL h (q3p h p.length):=by
 rw[wn9,w2g]
 have hnd:(xn6 h).Nodup:=(q4t (xn5 _)).perm (q1x h).symm
 have hf:((xn6 h).filter λx=>decide (x∈p)).Perm p:=by
  rw[zcw (hnd.sublist zdw) (q4t (wn8 hp))]
  intro a
  rw[zdm,zbf]
  constructor
  ·simp
  ·intro q
   refine⟨(q1x h).mem_iff.2 (w2i.2 ?_),q⟩
   obtain⟨i,hi,rfl⟩:=zby.1 q
   have:=hp.at_ i hi
   grind [qf1]
 have:=xn4 (szV h) (t:=(xn6 h).filter λx=>decide (x∈p)) zdw (xn7 h)
 rwa [q9o _ hf,hf.length_eq] at this
theorem q2w {m:List (List Int)} (hM:Mk m):∀(K:Nat) (d:Nat->Int),q9c (nL m 0).length d<=K->Sol m.length (nL m 0).length (rowOf m) d->(∃c,c<(nL m 0).length/\d c≠0)->∃s,Named (nL m 0).length s/\0<s.length/\IsC m s/\∀j,j<s.length->d (nI s j).toNat≠0
 | 0,d,hK,_,⟨c,hc,hd⟩=>by
  have:=cnt_lt (d:=λ_=>0) (e:=d) (c0:=c) rfl hd _ hc λc _ q=>absurd rfl q
  omega
 | K+1,d,hK,hs,⟨c1,hc1,hd1⟩=>by
  have hN:=(qh7 d (nL m 0).length).1
  have hnz:=(qh7 d (nL m 0).length).2
  have hin:=qt3 d (nL m 0).length
  have hl:=q4r d (nL m 0).length
  generalize qr5 (nL m 0).length d=s at hN hnz hin hl
  have h1:0<s.length:=by grind
  have hO:=ql0 hM hN h1
  by_cases hC:IsC m s
  ·grind
  ·have hsW:∀c,c<s.length->(nI s c).toNat<(nL m 0).length:=λc hc=>by have:=hN.at_ c hc; omega
   have hu:Sol m.length s.length (rowOf (qg9 m s)) λc=>d (nI s c).toNat:=λa ha=>by
    have e:=hs a ha
    rw[qx4 s.length (f:=λc=>rowOf m a c*d c) (τ:=λc=>(nI s c).toNat) hsW (λq k hq hk e=>hN.inj hq hk e) λb hb hq=>by
     grind] at e
    grind [qe1,rowOf,qk5,qq6]
   have hx:∃z,Sol m.length s.length (rowOf (qg9 m s)) z/\(∃c,c<s.length/\z c=0)/\∃c,c<s.length/\z c≠0:=zaf λhno=>by
    have:=hO.one_mk hu hnz λz hz h0 c hc=>zaf λq=>hno ⟨z,hz,h0,c,hc,q⟩
    exact hC ⟨this.1,this.2⟩
   obtain⟨z,hz,⟨c0,hc0,hz0⟩,c2,hc2,hz2⟩:=hx
   have hat:∀c,c<s.length->(sm s.length λq=>if(nI s q).toNat=(nI s c).toNat then z q else 0)=z c:=λc hc=>by
    rw[qr0 (k:=c) hc λi hi hne=>by
     try dsimp only
     rw[zak λe=>hne (hN.inj hi hc e)]]
    simp
   have hoff:∀c,c<(nL m 0).length->(sm s.length λq=>if(nI s q).toNat=c then z q else 0)≠0->d c≠0:=λc hc hne q=>hne (qm5 λi hi=>by
    grind)
   have hlt:=cnt_lt (d:=λcol=>sm s.length λq=>if(nI s q).toNat=col then z q else 0) (e:=d) (c0:=(nI s c0).toNat) (by grind) (hnz c0 hc0) _ (hsW c0 hc0) hoff
   obtain⟨s',k1,k2,k3,k4⟩:=q2w hM K (λcol=>sm s.length λq=>if(nI s q).toNat=col then z q else 0) ow (λa ha=>by
    rw[q9b hsW]
    rw[<- hz a ha]
    grind [qe1,rowOf,qk5,qq6]) ⟨(nI s c2).toNat,hsW c2 hc2,by grind⟩
   exact⟨s',k1,k2,k3,λj hj=>hoff _ (by have:=k1.at_ j hj; omega) (k4 j hj)⟩
theorem xn8 {P:Nat->Prop} {x y:Nat->Int} (hx:∀i,P i->0<=x i) (hy:∀i,P i->0<y i):∀n,(∃i,i<n/\P i)->∃i,i<n/\P i/\∀k,k<n->P k->x i*y k<=x k*y i
 | 0,⟨i,hi,_⟩=>by omega
 | n+1,h=>by
  by_cases h0:∃i,i<n/\P i
  ·obtain⟨i,hi,hp,hm⟩:=xn8 hx hy n h0
   by_cases hn:P n/\x n*y i<x i*y n
   ·refine⟨n,ow,hn.1,λk hk hpk=>?_⟩
    rcases zat.1 hk with e | e
    ·have h1:=hm k e hpk
     have h2:x n*y i*y k<=x i*y n*y k:=zai ow (by grind)
     have h3:x i*y k*y n<=x k*y i*y n:=zai h1 (by grind)
     have h4:y i*(x n*y k)<=y i*(x k*y n):=by
      grind
     simp_all
    grind
   grind
  grind
def sA (n:Nat) (d:Nat->Int):Int:=sm n λi=>qd6 (d i)
def sg (x:Int):Int:=if x<0 then -1 else 1
theorem x6b (x:Int):qd6 x=sg x*x:=by grind [qd6,sg]
theorem x6c {x:Int} {e:Int} (he:e=1\/e=-1) (h:0<=e*x):qd6 x=e*x:=by
 unfold qd6
 grind
theorem xn9 {x:Int} (h:qd6 x=0):x=0:=by grind [qd6]
theorem yc2 (x:Int):sg x=1\/sg x=-1:=by grind [sg]
theorem q9p (n:Nat) (x y:Int) (f g:Nat->Int):sm n (λi=>x*f i+y*g i)=x*sm n f+y*sm n g:=by
 grind [q8p,qk8]
theorem q4u {m:List (List Int)} (hv:validB m=true):(qf2 m).1.length<=1000000:=by
 have hM:=Mk.of hv
 have h10:=hM.pix10
 grind [qf2,q3j,nL,q6j,wl2]
theorem q2x {m:List (List Int)} (hv:validB m=true) (h7:(nL m 0).length<=7) {i:Nat} (hi:i<(qf2 m).1.length):∃s,xr1 m s (nL (qf2 m).1 i):=yb9 hv h7 (qn7 _ _ hi)
theorem w2j {m:List (List Int)} (hv:validB m=true) {s h p:List Int} (hc:xr1 m s h) (hp:Named (nL m 0).length p):xm0 h p:=by
 have h10:=(Mk.of hv).pix10
 have hl:=hp.len
 exact⟨wn6 hv hc,ow,λj hj=>by rw[hc.len]; exact hp.at_ j hj,by have:=xn3 hc; omega⟩
theorem xo0 {m:List (List Int)} {s h:List Int} (hc:xr1 m s h) (k:Nat):Named (nL m 0).length (q3p h k):=by
 have:=w78 (h:=h) (k:=k)
 rwa [hc.len] at this
theorem yc3 {m:List (List Int)} (h7:validB m=true->(nL m 0).length<=7):w47 m:=by
 refine⟨λhv=>ya0 hv,λhv k hk=>⟨q4u hv,λi hi=>?_,λi hi=>?_⟩⟩
 ·obtain⟨s,hc⟩:=q2x hv (h7 hv) hi
  have hM:=Mk.of hv
  have m1:=hM.pix1
  have m10:=hM.pix10
  exact⟨wn6 hv hc,by rw[hc.len]; omega,by rw[hc.len]; omega,zd4 _,by rw[hc.len]; omega⟩
 grind [q2x,Int.toNat_natCast,w2j,xo0]
def leQ (a b:Int × Int):Prop:=a.1*b.2<=b.1*a.2
theorem w5d (a:Int × Int):leQ a a:=zcr _
theorem q9q {a b c:Int × Int} (ha:1<=a.2) (hb:1<=b.2) (hc:1<=c.2) (h1:leQ a b) (h2:leQ b c):leQ a c:=by
 unfold leQ at *
 have k1:a.1*b.2*c.2<=b.1*a.2*c.2:=zai h1 ow
 have k2:b.1*c.2*a.2<=c.1*b.2*a.2:=zai h2 ow
 refine zbx (a:=b.2) ?_ ow
 grind
theorem x1f {a:Int × Int} (h:q2q a):leQ (0,1) a:=by
 have:=h.n.1
 grind [leQ]
theorem w5e {a b:Int × Int}:0<wo7 a b↔b.1*a.2<a.1*b.2:=by
 grind [wo7]
theorem top_le {a b:Int × Int}:leQ a (wn3 a b)/\leQ b (wn3 a b):=by
 unfold wn3
 split
 ·rename_i h
  exact⟨ze8 (w5e.1 h),w5d b⟩
 ·rename_i h
  refine⟨w5d a,zbd.1 λq=>h (w5e.2 q)⟩
theorem yq3 {h1 h2 p1 p2:List Int} (k1:xm0 h1 p1) (k2:xm0 h2 p2) (h:inL h1 p1*szL h2<=inL h2 p2*szL h1):leQ (shR h1 p1) (shR h2 p2):=by
 have l1:=wg6 k1
 have l2:=wg6 k2
 have s1:=q9j k1.ok k1.ne
 have s2:=q9j k2.ok k2.ne
 unfold leQ
 have q1:=l1.eq
 have q2:=l2.eq
 have b1:=l1.pos
 have b2:=l2.pos
 generalize shR h1 p1=a at *
 generalize shR h2 p2=b at *
 generalize inL h1 p1=x at *
 generalize inL h2 p2=y at *
 generalize szL h1=u at *
 generalize szL h2=v at *
 have hb:x*v*(a.2*b.2)<=y*u*(a.2*b.2):=zai h (by have:=zb8 (a:=a.2) (b:=b.2) ow ow; omega)
 refine zbx (a:=u*v) ?_ (zb8 s1 s2)
 have e1:u*v*(a.1*b.2)=x*v*(a.2*b.2):=by
  grind
 have e2:u*v*(b.1*a.2)=y*u*(a.2*b.2):=by
  grind
 omega
theorem wo0 {l:List (List Int)} {p:List Int} (h:yf0 l p):∀k,k<=l.length->(∀i,i<k->leQ (shR (nL l i) p) (xm3 l p k))/\(xm3 l p k=(0,1)\/∃i,i<k/\xm3 l p k=shR (nL l i) p)
 | 0,_=>⟨λi hi=>by omega,.inl rfl⟩
 | k+1,hk=>by
  obtain⟨h1,h2⟩:=wo0 h k ow
  have t:=top_le (a:=xm3 l p k) (b:=shR (nL l k) p)
  refine⟨λi hi=>?_,?_⟩
  ·rcases zat.1 hi with e | e
   ·exact q9q (wg7 (h.ok i ow)).pos (q65 h k ow).pos (q65 h (k+1) hk).pos (h1 i e) t.1
   ·subst e; exact t.2
  ·show wn3 (xm3 l p k) (shR (nL l k) p)=(0,1)\/∃i,i<k+1/\wn3 (xm3 l p k) (shR (nL l k) p)=shR (nL l i) p
   unfold wn3
   grind
theorem q9r {l:List (List Int)} {n:Nat} (h:wa2 l n):∀k,k<=l.length->(∀i,i<k->leQ (shR (nL l i) (q3p (nL l i) n)) (ql1 l n k))/\(ql1 l n k=(0,1)\/∃i,i<k/\ql1 l n k=shR (nL l i) (q3p (nL l i) n))
 | 0,_=>⟨λi hi=>by omega,.inl rfl⟩
 | k+1,hk=>by
  obtain⟨h1,h2⟩:=q9r h k ow
  have t:=top_le (a:=ql1 l n k) (b:=shR (nL l k) (q3p (nL l k) n))
  have hs:=λi hi=>h.shr i hi
  have hl:=λj (hj:j<=l.length)=>qz9 h j hj
  simp only[Int.toNat_natCast] at hs hl
  refine⟨λi hi=>?_,?_⟩
  ·rcases zat.1 hi with e | e
   ·exact q9q (wg7 (hs i ow)).pos (hl k ow).pos (hl (k+1) hk).pos (h1 i e) t.1
   ·subst e; exact t.2
  ·show wn3 (ql1 l n k) (shR (nL l k) (q3p (nL l k) n))=(0,1)\/∃i,i<k+1/\wn3 (ql1 l n k) (shR (nL l k) (q3p (nL l k) n))=shR (nL l i) (q3p (nL l i) n)
   unfold wn3
   grind
theorem xo1 {x y:Int × Int} (hx:1<=x.2) (hy:1<=y.2) (h:leQ x y) (hf:hlf y=false):hlf x=false:=by
 unfold hlf at *
 rw[decide_eq_false_iff_not,zc8] at *
 unfold leQ at h
 have h1:2*y.1*x.2<y.2*x.2:=zdx hf ow
 have h2:2*x.1*y.2<x.2*y.2:=by
  grind
 exact zdz h2 ow
theorem yc4 {m:List (List Int)} (hf:q6g m) (h7:validB m=true->(nL m 0).length<=7):xy8 m:=by
 refine⟨hf,λhv=>?_⟩
 have hM:=Mk.of hv
 have h7:=h7 hv
 have h6:=hM.rows6
 refine⟨h7,λs hs hok=>?_⟩
 unfold q04 at hok
 rw[za3,zbf,zbf] at hok
 have hn:=w13 h7 hs
 have hnl:=hn.len
 have hO:=ql0 hM hn ow
 refine⟨hO.krOk,ow,ow,λi hi j hj=>?_⟩
 have:=hn.at_ j hj
 rw[hM.each i hi]
 omega
theorem x6d {m:List (List Int)} (h7:validB m=true->(nL m 0).length<=7):q5j m=qf2 m:=by
 by_cases hv:validB m=true
 ·have e1:qf2 m=(q3j m (nL m 0).length (q6j m),0):=by grind [qf2]
  grind [q5j,qh2,nL,qc8,w4z,x0v]
 grind [validB,qf2,q5j]
structure x61 (m:List (List Int)):Prop where
 fit:q6g m
 n7:validB m=true->(nL m 0).length<=7
abbrev yq4:qb3:=qe8 false none [tMask] [tMask] (λx=>x61 x.1) (λx=>((qf2 x.1).1,()))
theorem w79:Meets Tryz.prog 109 yq4:=by
 refine mt0 (SpecsOk.cons xf5 (SpecsOk.nil _)) Tryz.func109 ?_
 rintro⟨m,⟨⟩⟩ h
 revert m
 intro(m:List (List Int)) (h:x61 m)
 refine vcs (xy8 m/\(q5j m).1=(qf2 m).1) ?_
 rw[x6d h.n7]
 exact⟨yc4 h.fit h.n7,rfl⟩
def x62:List (List Int):=[[1,1,0],[0,1,1]]
def yq5 (l:List (List Int)) (k:Nat):Nat->Int × Int
 | 0=>(0,1)
 | i+1=>wn3 (yq5 l k i) (ofR (q2s (szV (nL l i)) ((xn6 (nL l i)).take k)) (szL (nL l i)))
theorem w2k (l:List (List Int)) (k:Nat):∀n,ql1 l k n=yq5 l k n
 | 0=>rfl
 | n+1=>by
  rw[ql1,yq5,w2k l k n]
  grind [shR,wn9]
theorem xo2:grQ x62 1=(1,3)/\w0h x62 1 0=0/\q66 x62=(1,0):=by
 have hc:(qf2 x62).1=[[1,-1,1]]:=by rfl
 have hv:validB x62=true:=by rfl
 have hk:w0h x62 1 0=0:=by rfl
 refine⟨?_,hk,?_⟩
 ·unfold grQ
  rw[zao hk,hc,w2k]
  rfl
 ·unfold q66 ordL
  rw[zao hv,hc]
  show(((ordF [[1,-1,1]] 3 0:Nat):Int),(0:Int))=(1,0)
  simp only[ordF,w2k]
  rfl
theorem yc5:w47 [[1,1,0],[0,1,1]]:=yc3 λ_=>by show 3<=7; decide
abbrev y0p:qb3:=qe8 true none [] [.bool] (λ_=>True) (λ_=>(true,()))
theorem xo3:Meets Tryz.prog 19 y0p:=by
 refine mt0 (SpecsOk.cons w2f (SpecsOk.cons q9n (SpecsOk.nil _))) Tryz.func19 ?_
 rintro⟨⟩ -
 refine vcs (w47 [[(1:Int),(1:Int),(0:Int)],[(0:Int),(1:Int),(1:Int)]]/\w47 [[(1:Int),(1:Int),(0:Int)],[(0:Int),(1:Int),(1:Int)]]/\(((0:Int)==(0:Int))=true->(((1:Int)==(1:Int) && (3:Int)==(3:Int))=true->(((0:Int)==(0:Int))=true->((q66 [[(1:Int),(1:Int),(0:Int)],[(0:Int),(1:Int),(1:Int)]]).1==(1:Int))=true)/\(((0:Int)==(0:Int))=false->false=true))/\(((1:Int)==(1:Int) && (3:Int)==(3:Int))=false->false=true))/\(((0:Int)==(0:Int))=false->false=true)) ?_
 have ho:(q66 [[1,1,0],[0,1,1]]).1=1:=zbi Prod.fst xo2.2.2
 simp_all [yc5,absurd,trivial]
theorem x6e {m:List (List Int)} (h:w8l m=true) (hv:validB m=true):(nL m 0).length<=7:=by
 unfold w8l at h
 rw[za3,Bool.not_eq_true',zbr] at h
 have hM:=Mk.of hv
 have h1:=h.1 (nL m 0) (qn7 m 0 (by have:=hM.rows1; omega))
 have h2:=hM.pix10
 grind [x59]
end Go.Proofs.YtnchigbbjajiiaaGreat
