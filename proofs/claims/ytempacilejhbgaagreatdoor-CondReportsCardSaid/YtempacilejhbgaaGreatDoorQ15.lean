/- Kernel vectors, and shares of a mask, as the document says: contracts by the engine. No condition. -/
import Derived.Test.YtempacilejhbgaaGreatDoorQ9
import Derived.Test.YtempacilejhbgaaGreatDoorW17
import Derived.Test.YtempacilejhbgaaGreatDoorW1
import Derived.Test.YtempacilejhbgaaGreatDoorV22
set_option linter.unusedVariables false
set_option linter.unusedSimpArgs false
namespace Go.Proofs.YtempacilejhbgaaGreatDoor
open Go Go.RowKit Eng
theorem xa9 {m:List (List Int)} (hv:validB m=true) (h7:(nL m 0).length<=7):(qc9 m).1=(List.range (nL m 0).length).flatMap λk=>w7o m (k+1):=by
 have e1:qc9 m=(q1j m (nL m 0).length (q3b m),0):=by simp[qc9,hv]
 rw[e1]
 exact w0k hv h7
theorem xv6 {m:List (List Int)} (hv:validB m=true) (h7:(nL m 0).length<=7) {h:List Int} (hh:h∈(qc9 m).1):∃s,xa7 m s h:=by
 rw[xa9 hv h7,List.mem_flatMap] at hh
 obtain⟨k,_,hk⟩:=hh
 obtain⟨s,hs,_⟩:=xa8 (Mk.of hv) hk
 exact⟨s,hs⟩
theorem w0m {m:List (List Int)} (hv:validB m=true) {s h:List Int} (hc:xa7 m s h):HOk h:=by
 have:=(Mk.of hv).pix10
 refine⟨by rw[hc.len]; omega,λi=>?_⟩
 have:=hc.small i
 unfold qf3; omega
theorem w63 (h:List Int):∀k,q2f h k=sm k λi=>qz2 (nI h i)
 | 0=>rfl
 | k+1=>by rw[q2f,w63 h k]; rfl
theorem w64 {n:Nat} {f:Nat->Int} (h:∀i,i<n->0<=f i):0<=sm n f:=by
 induction n with
 | zero=>exact Int.le_refl _
 | succ n ih=>
  have h1:=ih λi hi=>h i (by omega)
  have h2:=h n (by omega)
  show 0<=sm n f+f n
  omega
theorem xv7 {n:Nat} {f:Nat->Int} (h:∀i,i<n->0<=f i) {k:Nat} (hk:k<n) (hf:0<f k):0<sm n f:=by
 induction n with
 | zero=>omega
 | succ n ih=>
  have h2:=h n (by omega)
  have h1:=w64 (n:=n) λi hi=>h i (by omega)
  show 0<sm n f+f n
  rcases Nat.lt_succ_iff_lt_or_eq.1 hk with e | e
  ·have:=ih (λi hi=>h i (by omega)) e; omega
  ·subst e; omega
theorem ws0 (x:Int):0<=qz2 x:=Int.natCast_nonneg _
theorem xv8 {h:List Int} {i:Nat} (hi:i<h.length) (hx:nI h i≠0):0<szL h:=by
 unfold szL
 rw[w63]
 refine xv7 (λi _=>ws0 _) hi ?_
 show 0<qz2 (nI h i)
 unfold qz2; omega
theorem xm6 {m:List (List Int)} {s h:List Int} (hc:xa7 m s h):0<szL h:=by
 have h1:=hc.nam.at_ 0 hc.pos
 exact xv8 (i:=(nI s 0).toNat) (by rw[hc.len]; omega) (hc.on 0 hc.pos)
theorem xb0 {l:List Int} {j:Nat} (h:j+1<l.length):(swp l j).Perm l:=by
 unfold swp
 rw[qg4 l j (by omega),qg4 l (j+1) h]
 have e1:l=l.take j++l[j] :: l[j+1] :: l.drop (j+2):=by
  rw[<- List.drop_eq_getElem_cons h,<- List.drop_eq_getElem_cons (by omega),List.take_append_drop]
 generalize hx:l[j]=x at *
 generalize hy:l[j+1]=y at *
 have hlt:(l.take j).length=j:=by rw[List.length_take]; omega
 generalize l.take j=a at *
 generalize l.drop (j+2)=b at *
 subst e1
 have e2:(a++x :: y :: b).set (j+1) x=a++x :: x :: b:=by
  rw[List.set_append_right _ _ (by omega),hlt,show j+1-j=1 by omega]; rfl
 have e3:(a++x :: x :: b).set j y=a++y :: x :: b:=by
  rw[List.set_append_right _ _ (by omega),hlt,Nat.sub_self]; rfl
 rw[e2,e3]
 exact List.Perm.append_left a (List.Perm.swap x y b)
theorem wl2 (f:Int->Int->Int):∀(j:Nat) (l:List Int),j<l.length->(qu3 f j l).Perm l
 | 0,l,_=>List.Perm.refl l
 | j+1,l,h=>by
  rw[qu3]
  split
  ·exact(wl2 f j (swp l j) (by rw[q6q]; omega)).trans (xb0 h)
  ·exact List.Perm.refl l
theorem w0n (f:Int->Int->Int) (l:List Int):∀k,k<l.length\/k=0->(qt6 f l k).Perm l
 | 0,_=>List.Perm.refl l
 | k+1,h=>by
  have h1:=(qy3 f l k (by omega)).1
  exact(wl2 f (k+1) (qt6 f l k) (by omega)).trans (w0n f l k (by omega))
theorem w0o {l:List Int} {j i:Nat} (h:j+1<l.length):nI (swp l j) i=if i=j then nI l (j+1) else if i=j+1 then nI l j else nI l i:=by
 unfold swp
 by_cases e:i=j
 ·subst e
  rw[if_pos rfl]
  exact qr0 (t:=.int .i64) _ _ _ (by rw[List.length_set]; omega)
 ·rw[if_neg e]
  refine(qw6 (t:=.int .i64) _ _ _ _ e).trans ?_
  by_cases e2:i=j+1
  ·subst e2
   rw[if_pos rfl]
   exact qr0 (t:=.int .i64) _ _ _ (by omega)
  ·rw[if_neg e2]
   exact qw6 (t:=.int .i64) _ _ _ _ e2
structure xv9 (v:Int->Int) (l:List Int) (j n:Nat):Prop where
 lo:∀a b,a<b->b<n->a≠j->b≠j->v (nI l b)<=v (nI l a)
 hi:∀b,j<b->b<n->v (nI l b)<=v (nI l j)
theorem wl3 {v:Int->Int} {n:Nat}:∀(j:Nat) (l:List Int),j<n->n<=l.length->xv9 v l j n->∀a b,a<b->b<n->v (nI (qu3 (λx y=>v y-v x) j l) b)<=v (nI (qu3 (λx y=>v y-v x) j l) a)
 | 0,l,hj,hn,h=>λa b hab hb=>by
  show v (nI l b)<=v (nI l a)
  by_cases e:a=0
  ·subst e; exact h.hi b hab hb
  ·exact h.lo a b hab hb e (by omega)
 | j+1,l,hj,hn,h=>λa b hab hb=>by
  rw[qu3]
  split
  ·rename_i hc
   refine wl3 j (swp l j) (by omega) (by rw[q6q]; omega) ⟨λa b hab hb ha hb'=>?_,λb hjb hb=>?_⟩ a b hab hb
   ·rw[w0o (by omega),w0o (by omega),if_neg ha,if_neg hb']
    by_cases e1:b=j+1
    ·rw[if_pos e1,if_neg (by omega)]
     exact h.lo a j (by omega) (by omega) (by omega) (by omega)
    ·rw[if_neg e1]
     by_cases e2:a=j+1
     ·rw[if_pos e2]
      exact h.lo j b (by omega) hb (by omega) e1
     ·rw[if_neg e2]; exact h.lo a b hab hb e2 e1
   ·rw[w0o (by omega),w0o (by omega),if_neg (by omega),if_pos rfl]
    by_cases e1:b=j+1
    ·rw[if_pos e1]
     omega
    ·rw[if_neg e1]; exact h.hi b (by omega) hb
  ·rename_i hc
   have hge:v (nI l (j+1))<=v (nI l j):=by omega
   by_cases e1:b=j+1
   ·subst e1
    by_cases e2:a=j
    ·subst e2; exact hge
    ·exact Int.le_trans hge (h.lo a j (by omega) (by omega) (by omega) (by omega))
   ·by_cases e2:a=j+1
    ·subst e2; exact h.hi b hab hb
    ·exact h.lo a b hab hb e2 e1
theorem w0p {v:Int->Int} (l:List Int):∀k,k<l.length->∀a b,a<b->b<k+1->v (nI (qt6 (λx y=>v y-v x) l k) b)<=v (nI (qt6 (λx y=>v y-v x) l k) a)
 | 0,_=>λa b hab hb=>by omega
 | k+1,hk=>by
  have h1:=w0p (v:=v) l k (by omega)
  have h2:=(qy3 (λx y=>v y-v x) l k (by omega)).1
  rw[qt6]
  exact wl3 (k+1) _ (by omega) (by omega) ⟨λa b hab hb ha hb'=>h1 a b hab (by omega),λb h3 h4=>by omega⟩
def q4o (f:Int->Int):List Int->Int
 | []=>0
 | x :: r=>f x+q4o f r
theorem wl4 (f:Int->Int) {a b:List Int} (h:a.Perm b):q4o f a=q4o f b:=by
 induction h with
 | nil=>rfl
 | cons x _ ih=>simp[q4o,ih]
 | swap x y l=>simp[q4o]; omega
 | trans _ _ ih1 ih2=>exact ih1.trans ih2
theorem w0q (f:Int->Int):∀a b:List Int,q4o f (a++b)=q4o f a+q4o f b
 | [],b=>by simp[q4o]
 | x :: a,b=>by simp[q4o,w0q f a b]; omega
theorem q8z (f:Int->Int) (a:Int):∀(s:List Int) (m:Nat),(∀y∈s,f y<=f a)->m<s.length->q4o f (s.take (m+1))<=f a+q4o f (s.take m)
 | [],m,_,h=>by simp at h
 | x :: s,0,h,_=>by simpa[q4o] using h x (by simp)
 | x :: s,m+1,h,hm=>by
  have:=q8z f a s m (λy hy=>h y (by simp[hy])) (by simpa using hm)
  simp only[List.take_succ_cons,q4o] at this ⊢
  omega
theorem w65 (f:Int->Int) {t s:List Int} (h:t.Sublist s) (hp:s.Pairwise λx y=>f y<=f x):q4o f t<=q4o f (s.take t.length):=by
 induction h with
 | slnil=>simp[q4o]
 | @cons t s a hs ih=>
  obtain⟨h1,h2⟩:=List.pairwise_cons.1 hp
  have:=ih h2
  have hl:=hs.length_le
  cases e:t.length with
  | zero=>rw[e] at this; simpa using this
  | succ m=>
   rw[e] at this hl
   have:=q8z f a s m h1 (by omega)
   simp only[List.take_succ_cons,q4o]
   omega
 | @cons_cons t s a hs ih=>
  have:=ih (List.pairwise_cons.1 hp).2
  simp only[List.length_cons,List.take_succ_cons,q4o]
  omega
def szV (h:List Int) (x:Int):Int:=qz2 (nI h x.toNat)
theorem w66 (h:List Int) (p:List Int):inL h p=q4o (szV h) p:=by
 have:∀k,k<=p.length->qm4 h p k=q4o (szV h) (p.take k):=λk=>by
  induction k with
  | zero=>exact λ_=>by simp[qm4,q4o]
  | succ k ih=>
   intro hk
   have hs:p.take (k+1)=p.take k++[nI p k]:=by
    rw[List.take_add_one,List.getElem?_eq_getElem (by omega),qg4 p k (by omega)]; rfl
   rw[qm4,ih (by omega),hs,w0q]
   simp[q4o,szV]
 rw[inL,this _ (Nat.le_refl _),List.take_length]
theorem w0r {n:Nat} {p:List Int} (h:Named n p):p.Pairwise (· < ·):=by
 rw[List.pairwise_iff_getElem]
 intro i j hi hj hij
 have:=h.asc i j hij hj
 rwa [qg4 p i hi,qg4 p j hj] at this
theorem ws1 {n:Nat} {p:List Int} (h:p.Pairwise (· < ·)) (hb:∀x∈p,0<=x/\x<n):Named n p:=by
 refine⟨λj hj=>hb _ (q3y hj),λi j hij hj=>?_⟩
 rw[qg4 p i (by omega),qg4 p j hj]
 exact List.pairwise_iff_getElem.1 h i j (by omega) hj hij
theorem wb2 {p:List Int} (h:p.Pairwise (· < ·)):p.Nodup:=h.imp λ{a b} q e=>by omega
theorem xe7 (n:Nat):(qo5 n).Pairwise (· < ·):=w0r (Named.idx n)
theorem w67 {n:Nat} {x:Int}:x∈qo5 n↔0<=x/\x<n:=by
 constructor
 ·intro hx
  obtain⟨i,hi,rfl⟩:=List.mem_iff_getElem.1 hx
  rw[<- qg4 _ _ hi]
  rw[qe8] at hi
  rw[q0j _ _ hi]; omega
 ·intro hx
  have:nI (qo5 n) x.toNat=x:=by rw[q0j _ _ (by omega)]; omega
  rw[<- this]
  exact q3y (by rw[qe8]; omega)
def w68 (h:List Int):List Int:=insL (q4n h) (qo5 h.length)
theorem q0p (h:List Int):(w68 h).Perm (qo5 h.length):=w0n _ _ _ (by rw[qe8]; omega)
theorem w69 (h:List Int):(w68 h).Pairwise λx y=>szV h y<=szV h x:=by
 rw[List.pairwise_iff_getElem]
 intro i j hi hj hij
 have hl:(w68 h).length=h.length:=by rw[(q0p h).length_eq,qe8]
 have:=w0p (v:=szV h) (qo5 h.length) ((qo5 h.length).length-1) (by rw[qe8]; omega) i j hij (by rw[qe8]; omega)
 rw[<- qg4 _ i hi,<- qg4 _ j hj]
 exact this
theorem wl5 (h:List Int) (k:Nat):(q1g h k).Perm ((w68 h).take k):=List.mergeSort_perm ..
theorem w20 {h:List Int} {k:Nat}:Named h.length (q1g h k):=by
 have hp:=wl5 h k
 have hnd:(w68 h).Nodup:=(wb2 (xe7 _)).perm (q0p h).symm
 have hnd2:(q1g h k).Nodup:=(hnd.sublist (List.take_sublist k _)).perm hp.symm
 have hsrt:(q1g h k).Pairwise (·<=·):=by
  have:=List.pairwise_mergeSort (le:=λx y:Int=>decide (x<=y)) (λa b c h1 h2=>by simp only[decide_eq_true_eq] at *; omega) (λa b=>by
   rcases Int.le_total a b with q | q
   ·simp[q]
   ·simp[q]) ((w68 h).take k)
  exact this.imp λ{a b} q=>of_decide_eq_true q
 refine ws1 ?_ λx hx=>w67.1 ((q0p h).mem_iff.1 (List.mem_of_mem_take (hp.mem_iff.1 hx)))
 exact List.Pairwise.imp₂ (λa b h1 h2=>by omega) hsrt hnd2
theorem w0s (h:List Int) (k:Nat):inL h (q1g h k)=q4o (szV h) ((w68 h).take k):=by rw[w66,wl4 _ (wl5 h k)]
theorem xb1 {h:List Int} {p:List Int} (hp:Named h.length p):inL h p<=inL h (q1g h p.length):=by
 rw[w0s,w66]
 have hnd:(w68 h).Nodup:=(wb2 (xe7 _)).perm (q0p h).symm
 have hf:((w68 h).filter λx=>decide (x∈p)).Perm p:=by
  rw[List.perm_ext_iff_of_nodup (hnd.sublist List.filter_sublist) (wb2 (w0r hp))]
  intro a
  rw[List.mem_filter,decide_eq_true_eq]
  constructor
  ·exact λq=>q.2
  ·intro q
   refine⟨(q0p h).mem_iff.2 (w67.2 ?_),q⟩
   obtain⟨i,hi,rfl⟩:=List.mem_iff_getElem.1 q
   have:=hp.at_ i hi
   rwa [qg4 p i hi] at this
 have:=w65 (szV h) (t:=(w68 h).filter λx=>decide (x∈p)) List.filter_sublist (w69 h)
 rwa [wl4 _ hf,hf.length_eq] at this
def sg (x:Int):Int:=if x<0 then -1 else 1
theorem wb3 {m:List (List Int)} (hv:validB m=true):(qc9 m).1.length<=1000000:=by
 have hM:=Mk.of hv
 have h10:=hM.pix10
 have e1:qc9 m=(q1j m (nL m 0).length (q3b m),0):=by simp[qc9,hv]
 have hc:q3b m<=(nL m 0).length:=by unfold q3b; omega
 have:=q96 m (nL m 0).length h10 (q3b m) (by omega)
 rw[e1]
 show(q1j m (nL m 0).length (q3b m)).length<=_
 omega
theorem q7c {m:List (List Int)} (hv:validB m=true) (h7:(nL m 0).length<=7) {i:Nat} (hi:i<(qc9 m).1.length):∃s,xa7 m s (nL (qc9 m).1 i):=xv6 hv h7 (qk1 _ _ hi)
theorem w7a {m:List (List Int)} (hv:validB m=true) {s h p:List Int} (hc:xa7 m s h) (hp:Named (nL m 0).length p):wq1 h p:=by
 have h10:=(Mk.of hv).pix10
 have hl:=hp.len
 exact⟨w0m hv hc,by omega,λj hj=>by rw[hc.len]; exact hp.at_ j hj,by have:=xm6 hc; omega⟩
theorem w0t {m:List (List Int)} {s h:List Int} (hc:xa7 m s h) (k:Nat):Named (nL m 0).length (q1g h k):=by
 have:=w20 (h:=h) (k:=k)
 rwa [hc.len] at this
theorem xw0 {m:List (List Int)} (h7:validB m=true->(nL m 0).length<=7):wy9 m:=by
 refine⟨λhv=>xv4 hv,λhv k hk=>⟨wb3 hv,λi hi=>?_,λi hi=>?_⟩⟩
 ·obtain⟨s,hc⟩:=q7c hv (h7 hv) hi
  have hM:=Mk.of hv
  have m1:=hM.pix1
  have m10:=hM.pix10
  exact⟨w0m hv hc,by rw[hc.len]; omega,by rw[hc.len]; omega,Int.natCast_nonneg _,by rw[hc.len]; omega⟩
 ·obtain⟨s,hc⟩:=q7c hv (h7 hv) hi
  rw[Int.toNat_natCast]
  exact w7a hv hc (w0t hc k)
def leQ (a b:Int × Int):Prop:=a.1*b.2<=b.1*a.2
theorem q48 (a:Int × Int):leQ a a:=Int.le_refl _
theorem q7d {a b c:Int × Int} (ha:1<=a.2) (hb:1<=b.2) (hc:1<=c.2) (h1:leQ a b) (h2:leQ b c):leQ a c:=by
 unfold leQ at *
 have k1:a.1*b.2*c.2<=b.1*a.2*c.2:=Int.mul_le_mul_of_nonneg_right h1 (by omega)
 have k2:b.1*c.2*a.2<=c.1*b.2*a.2:=Int.mul_le_mul_of_nonneg_right h2 (by omega)
 refine Int.le_of_mul_le_mul_left (a:=b.2) ?_ (by omega)
 have e1:b.2*(a.1*c.2)=a.1*b.2*c.2:=by grind
 have e2:b.2*(c.1*a.2)=c.1*b.2*a.2:=by grind
 have e3:b.1*a.2*c.2=b.1*c.2*a.2:=by grind
 omega
theorem xb3 {a:Int × Int} (h:qt4 a):leQ (0,1) a:=by
 have:=h.n.1
 unfold leQ
 show 0*a.2<=a.1*1
 omega
theorem w0u {a b:Int × Int}:0<wb7 a b↔b.1*a.2<a.1*b.2:=by
 unfold wb7
 split
 ·rename_i h; constructor <;> intro q <;> omega
 ·split
  ·constructor <;> intro q <;> omega
  ·constructor <;> intro q <;> omega
theorem top_le {a b:Int × Int}:leQ a (wm2 a b)/\leQ b (wm2 a b):=by
 unfold wm2
 split
 ·rename_i h
  exact⟨Int.le_of_lt (w0u.1 h),q48 b⟩
 ·rename_i h
  refine⟨q48 a,Int.not_lt.1 λq=>h (w0u.2 q)⟩
theorem x1x {h1 h2 p1 p2:List Int} (k1:wq1 h1 p1) (k2:wq1 h2 p2) (h:inL h1 p1*szL h2<=inL h2 p2*szL h1):leQ (shR h1 p1) (shR h2 p2):=by
 have l1:=q1k k1
 have l2:=q1k k2
 have s1:=q6o k1.ok k1.ne
 have s2:=q6o k2.ok k2.ne
 unfold leQ
 have q1:=l1.eq
 have q2:=l2.eq
 have b1:=l1.pos
 have b2:=l2.pos
 generalize shR h1 p1=a at *
 generalize shR h2 p2=b at *
 generalize inL h1 p1=x at *
 generalize inL h2 p2=y at *
 generalize szL h1=u at *
 generalize szL h2=v at *
 have hb:x*v*(a.2*b.2)<=y*u*(a.2*b.2):=Int.mul_le_mul_of_nonneg_right h (by have:=Int.mul_pos (a:=a.2) (b:=b.2) (by omega) (by omega); omega)
 refine Int.le_of_mul_le_mul_left (a:=u*v) ?_ (Int.mul_pos s1 s2)
 have e1:u*v*(a.1*b.2)=x*v*(a.2*b.2):=by
  have:u*v*(a.1*b.2)=a.1*u*(v*b.2):=by grind
  rw[this,q1]; grind
 have e2:u*v*(b.1*a.2)=y*u*(a.2*b.2):=by
  have:u*v*(b.1*a.2)=b.1*v*(u*a.2):=by grind
  rw[this,q2]; grind
 omega
theorem wl6 {l:List (List Int)} {n:Nat} (h:q6t l n):∀k,k<=l.length->(∀i,i<k->leQ (shR (nL l i) (q1g (nL l i) n)) (qg5 l n k))/\(qg5 l n k=(0,1)\/∃i,i<k/\qg5 l n k=shR (nL l i) (q1g (nL l i) n))
 | 0,_=>⟨λi hi=>by omega,.inl rfl⟩
 | k+1,hk=>by
  obtain⟨h1,h2⟩:=wl6 h k (by omega)
  have t:=top_le (a:=qg5 l n k) (b:=shR (nL l k) (q1g (nL l k) n))
  have hs:=λi hi=>h.shr i hi
  have hl:=λj (hj:j<=l.length)=>qt0 h j hj
  simp only[Int.toNat_natCast] at hs hl
  refine⟨λi hi=>?_,?_⟩
  ·rcases Nat.lt_succ_iff_lt_or_eq.1 hi with e | e
   ·exact q7d (q6p (hs i (by omega))).pos (hl k (by omega)).pos (hl (k+1) hk).pos (h1 i e) t.1
   ·subst e; exact t.2
  ·show wm2 (qg5 l n k) (shR (nL l k) (q1g (nL l k) n))=(0,1)\/∃i,i<k+1/\wm2 (qg5 l n k) (shR (nL l k) (q1g (nL l k) n))=shR (nL l i) (q1g (nL l i) n)
   unfold wm2
   split
   ·exact .inr ⟨k,by omega,rfl⟩
   ·rcases h2 with h2 | ⟨i,hi,h2⟩
    ·exact .inl h2
    ·exact .inr ⟨i,by omega,h2⟩
theorem xw1 {m:List (List Int)} (hf:w7l m) (h7:validB m=true->(nL m 0).length<=7):w95 m:=by
 refine⟨hf,λhv=>?_⟩
 have hM:=Mk.of hv
 have h7:=h7 hv
 have h6:=hM.rows6
 refine⟨h7,λs hs hok=>?_⟩
 unfold q1h at hok
 rw[Bool.and_eq_true,decide_eq_true_eq,decide_eq_true_eq] at hok
 have hn:=wr7 h7 hs
 have hnl:=hn.len
 have hO:=qj8 hM hn (by omega)
 refine⟨hO.krOk,by omega,by omega,λi hi j hj=>?_⟩
 have:=hn.at_ j hj
 rw[hM.each i hi]
 omega
theorem xm7 {m:List (List Int)} (h7:validB m=true->(nL m 0).length<=7):q2d m=qc9 m:=by
 by_cases hv:validB m=true
 ·have e1:qc9 m=(q1j m (nL m 0).length (q3b m),0):=by simp[qc9,hv]
  have e2:q2d m=(qg8 m (nL m 0).length (qd9 (nL m 0).length) (qd9 (nL m 0).length).length,0):=by simp[q2d,hv]
  rw[e1,e2,w0k hv (h7 hv),xa6 (h7 hv)]
 ·have hv:validB m=false:=by simpa using hv
  have e1:qc9 m=([],1):=by simp[qc9,hv]
  have e2:q2d m=([],1):=by simp[q2d,hv]
  rw[e1,e2]
structure wm3 (m:List (List Int)):Prop where
 fit:w7l m
 n7:validB m=true->(nL m 0).length<=7
abbrev x1y:qb9:=qg6 false none [tMask] [tMask] (λx=>wm3 x.1) (λx=>((qc9 x.1).1,()))
theorem w21:Meets Tryz.prog 32 x1y:=by
 refine meets (snd (SpecsOk.cons w6h (SpecsOk.nil _))) Tryz.func32 rfl rfl (λ_ _=>none) (λ_=>by kernel_rfl) (by decide) ?_
 rintro⟨m,⟨⟩⟩ h
 revert m
 intro(m:List (List Int)) (h:wm3 m)
 refine @qe7 _ (w95 m/\(q2d m).1=(qc9 m).1) (by kernel_rfl) ?_
 try simp only[z0,z1,z2,z3,z4,z5,z6,z7,z8,z9,z10,Int.reduceEq,z11,z12,z13,z14,z15,z16,z17,z18,z19,z20,z21,z22,z23,z24,z25,z26,z27,z28,z29,z30,Int.reduceLE,Int.reduceLT,z31,z32,z33,z34,qa3]
 try simp only[qb6,qb7,qc7,z31,z32,z2,z1]
 rw[xm7 h.n7]
 exact⟨xw1 h.fit h.n7,rfl⟩
end Go.Proofs.YtempacilejhbgaaGreatDoor
