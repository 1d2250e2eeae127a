/- Kernel vectors, and shares of a mask, as the document says: contracts by the engine. No condition. -/
import Derived.Test.YtempacilejhbgaaGreatR1
import Derived.Test.YtempacilejhbgaaGreatQ10
import Derived.Test.YtempacilejhbgaaGreatQ14
import Derived.Test.YtempacilejhbgaaGreatV22
set_option linter.unusedVariables false
set_option linter.unusedSimpArgs false
namespace Go.Proofs.YtempacilejhbgaaGreat
open Go Go.RowKit Eng
def q2g (f:Int->Int):List Int->Int
 | []=>0
 | x :: r=>f x+q2g f r
theorem wn7 (f:Int->Int) {a b:List Int} (h:a.Perm b):q2g f a=q2g f b:=by
 induction h with
 | nil=>rfl
 | cons x _ ih=>simp[q2g,ih]
 | swap x y l=>simp[q2g]; omega
 | trans _ _ ih1 ih2=>exact ih1.trans ih2
theorem w1b (f:Int->Int):∀a b:List Int,q2g f (a++b)=q2g f a+q2g f b
 | [],b=>by simp[q2g]
 | x :: a,b=>by simp[q2g,w1b f a b]; omega
theorem q9c (f:Int->Int) (a:Int):∀(s:List Int) (m:Nat),(∀y∈s,f y<=f a)->m<s.length->q2g f (s.take (m+1))<=f a+q2g f (s.take m)
 | [],m,_,h=>by simp at h
 | x :: s,0,h,_=>by simpa[q2g] using h x (by simp)
 | x :: s,m+1,h,hm=>by
  have:=q9c f a s m (λy hy=>h y (by simp[hy])) (by simpa using hm)
  simp only[List.take_succ_cons,q2g] at this ⊢
  omega
theorem w7t (f:Int->Int) {t s:List Int} (h:t.Sublist s) (hp:s.Pairwise λx y=>f y<=f x):q2g f t<=q2g f (s.take t.length):=by
 induction h with
 | slnil=>simp[q2g]
 | @cons t s a hs ih=>
  obtain⟨h1,h2⟩:=List.pairwise_cons.1 hp
  have:=ih h2
  have hl:=hs.length_le
  cases e:t.length with
  | zero=>rw[e] at this; simpa using this
  | succ m=>
   rw[e] at this hl
   have:=q9c f a s m h1 (by omega)
   simp only[List.take_succ_cons,q2g]
   omega
 | @cons_cons t s a hs ih=>
  have:=ih (List.pairwise_cons.1 hp).2
  simp only[List.length_cons,List.take_succ_cons,q2g]
  omega
def szV (h:List Int) (x:Int):Int:=qy3 (nI h x.toNat)
theorem w7u (h:List Int) (p:List Int):inL h p=q2g (szV h) p:=by
 have:∀k,k<=p.length->qm2 h p k=q2g (szV h) (p.take k):=λk=>by
  induction k with
  | zero=>exact λ_=>by simp[qm2,q2g]
  | succ k ih=>
   intro hk
   have hs:p.take (k+1)=p.take k++[nI p k]:=by
    rw[List.take_add_one,List.getElem?_eq_getElem (by omega),qf8 p k (by omega)]; rfl
   rw[qm2,ih (by omega),hs,w1b]
   simp[q2g,szV]
 rw[inL,this _ (Nat.le_refl _),List.take_length]
theorem w1c {n:Nat} {p:List Int} (h:Named n p):p.Pairwise (· < ·):=by
 rw[List.pairwise_iff_getElem]
 intro i j hi hj hij
 have:=h.asc i j hij hj
 rwa [qf8 p i hi,qf8 p j hj] at this
theorem wu5 {n:Nat} {p:List Int} (h:p.Pairwise (· < ·)) (hb:∀x∈p,0<=x/\x<n):Named n p:=by
 refine⟨λj hj=>hb _ (q4b hj),λi j hij hj=>?_⟩
 rw[qf8 p i (by omega),qf8 p j hj]
 exact List.pairwise_iff_getElem.1 h i j (by omega) hj hij
theorem wc9 {p:List Int} (h:p.Pairwise (· < ·)):p.Nodup:=h.imp λ{a b} q e=>by omega
theorem xh8 (n:Nat):(qo5 n).Pairwise (· < ·):=w1c (Named.idx n)
theorem w7v {n:Nat} {x:Int}:x∈qo5 n↔0<=x/\x<n:=by
 constructor
 ·intro hx
  obtain⟨i,hi,rfl⟩:=List.mem_iff_getElem.1 hx
  rw[<- qf8 _ _ hi]
  rw[qe9] at hi
  rw[q0l _ _ hi]; omega
 ·intro hx
  have:nI (qo5 n) x.toNat=x:=by rw[q0l _ _ (by omega)]; omega
  rw[<- this]
  exact q4b (by rw[qe9]; omega)
def w7w (h:List Int):List Int:=insL (q4y h) (qo5 h.length)
theorem q0s (h:List Int):(w7w h).Perm (qo5 h.length):=w08 _ _ _ (by rw[qe9]; omega)
theorem w7x (h:List Int):(w7w h).Pairwise λx y=>szV h y<=szV h x:=by
 rw[List.pairwise_iff_getElem]
 intro i j hi hj hij
 have hl:(w7w h).length=h.length:=by rw[(q0s h).length_eq,qe9]
 have:=w1a (v:=szV h) (qo5 h.length) ((qo5 h.length).length-1) (by rw[qe9]; omega) i j hij (by rw[qe9]; omega)
 rw[<- qf8 _ i hi,<- qf8 _ j hj]
 exact this
theorem wn8 (h:List Int) (k:Nat):(qu3 h k).Perm ((w7w h).take k):=List.mergeSort_perm ..
theorem w3j {h:List Int} {k:Nat}:Named h.length (qu3 h k):=by
 have hp:=wn8 h k
 have hnd:(w7w h).Nodup:=(wc9 (xh8 _)).perm (q0s h).symm
 have hnd2:(qu3 h k).Nodup:=(hnd.sublist (List.take_sublist k _)).perm hp.symm
 have hsrt:(qu3 h k).Pairwise (·<=·):=by
  have:=List.pairwise_mergeSort (le:=λx y:Int=>decide (x<=y)) (λa b c h1 h2=>by simp only[decide_eq_true_eq] at *; omega) (λa b=>by
   rcases Int.le_total a b with q | q
   ·simp[q]
   ·simp[q]) ((w7w h).take k)
  exact this.imp λ{a b} q=>of_decide_eq_true q
 refine wu5 ?_ λx hx=>w7v.1 ((q0s h).mem_iff.1 (List.mem_of_mem_take (hp.mem_iff.1 hx)))
 exact List.Pairwise.imp₂ (λa b h1 h2=>by omega) hsrt hnd2
theorem q5j (h:List Int) (k:Nat):inL h (qu3 h k)=q2g (szV h) ((w7w h).take k):=by rw[w7u,wn7 _ (wn8 h k)]
theorem w1d {h:List Int} {p:List Int} (hp:Named h.length p):inL h p<=inL h (qu3 h p.length):=by
 rw[q5j,w7u]
 have hnd:(w7w h).Nodup:=(wc9 (xh8 _)).perm (q0s h).symm
 have hf:((w7w h).filter λx=>decide (x∈p)).Perm p:=by
  rw[List.perm_ext_iff_of_nodup (hnd.sublist List.filter_sublist) (wc9 (w1c hp))]
  intro a
  rw[List.mem_filter,decide_eq_true_eq]
  constructor
  ·exact λq=>q.2
  ·intro q
   refine⟨(q0s h).mem_iff.2 (w7v.2 ?_),q⟩
   obtain⟨i,hi,rfl⟩:=List.mem_iff_getElem.1 q
   have:=hp.at_ i hi
   rwa [qf8 p i hi] at this
 have:=w7t (szV h) (t:=(w7w h).filter λx=>decide (x∈p)) List.filter_sublist (w7x h)
 rwa [wn7 _ hf,hf.length_eq] at this
def sg (x:Int):Int:=if x<0 then -1 else 1
theorem q5k {m:List (List Int)} (hv:validB m=true):(qc0 m).1.length<=1000000:=by
 have hM:=Mk.of hv
 have h10:=hM.pix10
 have e1:qc0 m=(q1j m (nL m 0).length (q3e m),0):=by simp[qc0,hv]
 have hc:q3e m<=(nL m 0).length:=by unfold q3e; omega
 have:=wb2 m (nL m 0).length h10 (q3e m) (by omega)
 rw[e1]
 show(q1j m (nL m 0).length (q3e m)).length<=_
 omega
theorem qz2 {m:List (List Int)} (hv:validB m=true) (h7:(nL m 0).length<=7) {i:Nat} (hi:i<(qc0 m).1.length):∃s,w3t m s (nL (qc0 m).1 i):=xz2 hv h7 (qj4 _ _ hi)
theorem wn9 {m:List (List Int)} (hv:validB m=true) {s h p:List Int} (hc:w3t m s h) (hp:Named (nL m 0).length p):wb4 h p:=by
 have h10:=(Mk.of hv).pix10
 have hl:=hp.len
 exact⟨q3i hv hc,by omega,λj hj=>by rw[hc.len]; exact hp.at_ j hj,by have:=wu4 hc; omega⟩
theorem q7n {m:List (List Int)} {s h:List Int} (hc:w3t m s h) (k:Nat):Named (nL m 0).length (qu3 h k):=by
 have:=w3j (h:=h) (k:=k)
 rwa [hc.len] at this
theorem xp5 {m:List (List Int)} (h7:validB m=true->(nL m 0).length<=7):wo8 m:=by
 refine⟨λhv=>xz0 hv,λhv k hk=>⟨q5k hv,λi hi=>?_,λi hi=>?_⟩⟩
 ·obtain⟨s,hc⟩:=qz2 hv (h7 hv) hi
  have hM:=Mk.of hv
  have m1:=hM.pix1
  have m10:=hM.pix10
  exact⟨q3i hv hc,by rw[hc.len]; omega,by rw[hc.len]; omega,Int.natCast_nonneg _,by rw[hc.len]; omega⟩
 ·obtain⟨s,hc⟩:=qz2 hv (h7 hv) hi
  rw[Int.toNat_natCast]
  exact wn9 hv hc (q7n hc k)
def leQ (a b:Int × Int):Prop:=a.1*b.2<=b.1*a.2
theorem q5l (a:Int × Int):leQ a a:=Int.le_refl _
theorem q3j {a b c:Int × Int} (ha:1<=a.2) (hb:1<=b.2) (hc:1<=c.2) (h1:leQ a b) (h2:leQ b c):leQ a c:=by
 unfold leQ at *
 have k1:a.1*b.2*c.2<=b.1*a.2*c.2:=Int.mul_le_mul_of_nonneg_right h1 (by omega)
 have k2:b.1*c.2*a.2<=c.1*b.2*a.2:=Int.mul_le_mul_of_nonneg_right h2 (by omega)
 refine Int.le_of_mul_le_mul_left (a:=b.2) ?_ (by omega)
 have e1:b.2*(a.1*c.2)=a.1*b.2*c.2:=by grind
 have e2:b.2*(c.1*a.2)=c.1*b.2*a.2:=by grind
 have e3:b.1*a.2*c.2=b.1*c.2*a.2:=by grind
 omega
theorem w1e {a:Int × Int} (h:qs7 a):leQ (0,1) a:=by
 have:=h.n.1
 unfold leQ
 show 0*a.2<=a.1*1
 omega
theorem w1f {a b:Int × Int}:0<wd7 a b↔b.1*a.2<a.1*b.2:=by
 unfold wd7
 split
 ·rename_i h; constructor <;> intro q <;> omega
 ·split
  ·constructor <;> intro q <;> omega
  ·constructor <;> intro q <;> omega
theorem top_le {a b:Int × Int}:leQ a (wo7 a b)/\leQ b (wo7 a b):=by
 unfold wo7
 split
 ·rename_i h
  exact⟨Int.le_of_lt (w1f.1 h),q5l b⟩
 ·rename_i h
  refine⟨q5l a,Int.not_lt.1 λq=>h (w1f.2 q)⟩
theorem xp6 {h1 h2 p1 p2:List Int} (k1:wb4 h1 p1) (k2:wb4 h2 p2) (h:inL h1 p1*szL h2<=inL h2 p2*szL h1):leQ (shR h1 p1) (shR h2 p2):=by
 have l1:=qu1 k1
 have l2:=qu1 k2
 have s1:=q2b k1.ok k1.ne
 have s2:=q2b k2.ok k2.ne
 unfold leQ
 have q1:=l1.eq
 have q2:=l2.eq
 have b1:=l1.pos
 have b2:=l2.pos
 generalize shR h1 p1=a at *
 generalize shR h2 p2=b at *
 generalize inL h1 p1=x at *
 generalize inL h2 p2=y at *
 generalize szL h1=u at *
 generalize szL h2=v at *
 have hb:x*v*(a.2*b.2)<=y*u*(a.2*b.2):=Int.mul_le_mul_of_nonneg_right h (by have:=Int.mul_pos (a:=a.2) (b:=b.2) (by omega) (by omega); omega)
 refine Int.le_of_mul_le_mul_left (a:=u*v) ?_ (Int.mul_pos s1 s2)
 have e1:u*v*(a.1*b.2)=x*v*(a.2*b.2):=by
  have:u*v*(a.1*b.2)=a.1*u*(v*b.2):=by grind
  rw[this,q1]; grind
 have e2:u*v*(b.1*a.2)=y*u*(a.2*b.2):=by
  have:u*v*(b.1*a.2)=b.1*v*(u*a.2):=by grind
  rw[this,q2]; grind
 omega
theorem q0t {l:List (List Int)} {n:Nat} (h:q40 l n):∀k,k<=l.length->(∀i,i<k->leQ (shR (nL l i) (qu3 (nL l i) n)) (qg6 l n k))/\(qg6 l n k=(0,1)\/∃i,i<k/\qg6 l n k=shR (nL l i) (qu3 (nL l i) n))
 | 0,_=>⟨λi hi=>by omega,.inl rfl⟩
 | k+1,hk=>by
  obtain⟨h1,h2⟩:=q0t h k (by omega)
  have t:=top_le (a:=qg6 l n k) (b:=shR (nL l k) (qu3 (nL l k) n))
  have hs:=λi hi=>h.shr i hi
  have hl:=λj (hj:j<=l.length)=>qo0 h j hj
  simp only[Int.toNat_natCast] at hs hl
  refine⟨λi hi=>?_,?_⟩
  ·rcases Nat.lt_succ_iff_lt_or_eq.1 hi with e | e
   ·exact q3j (q61 (hs i (by omega))).pos (hl k (by omega)).pos (hl (k+1) hk).pos (h1 i e) t.1
   ·subst e; exact t.2
  ·show wo7 (qg6 l n k) (shR (nL l k) (qu3 (nL l k) n))=(0,1)\/∃i,i<k+1/\wo7 (qg6 l n k) (shR (nL l k) (qu3 (nL l k) n))=shR (nL l i) (qu3 (nL l i) n)
   unfold wo7
   split
   ·exact .inr ⟨k,by omega,rfl⟩
   ·rcases h2 with h2 | ⟨i,hi,h2⟩
    ·exact .inl h2
    ·exact .inr ⟨i,by omega,h2⟩
def x3e (y:List Int):Nat->Option Inv
 | 0=>some (Inv.of [7] 0 (λk:Nat=>[(7,.lit (.int .i64 k))]) (λ_=>[]) (λk=>w9w y k) (λk=>y.length-k))
 | _=>none
abbrev x64:qb9:=qg2 true none [tInts] [.bool] (λx=>x.1.length<=1000000) (λx=>(!q8n x.1,()))
theorem w7y:Meets Tryz.prog 66 x64:=by
 refine meets (snd (SpecsOk.cons wa4 (SpecsOk.nil _))) Tryz.func66 rfl rfl (λx=>x3e x.1) (λ_=>by kernel_rfl) (by decide) ?_
 rintro⟨y,⟨⟩⟩ h
 revert y
 intro(y:List Int) (h:y.length<=1000000)
 refine @qd8 _ (∃(v0:Unit),∃(v1:Nat),w9w y v1/\(((0:Int)=(↑v1:Int)/\True)/\True)/\∀(v2:Nat),w9w y v2->(decide ((↑v2:Int)<(↑y.length:Int))=true->((0:Int)<=(↑v2:Int)/\(↑v2:Int)<(↑y.length:Int))/\True/\((!inB (nI y v2) (-1000000:Int) (1000000:Int))=true->false=!q8n y)/\((!inB (nI y v2) (-1000000:Int) (1000000:Int))=false->fits .i64 ((↑v2:Int)+(1:Int))/\∃(v6:Nat),w9w y v6/\y.length-v6<y.length-v2/\((↑v2:Int)+(1:Int)=(↑v6:Int)/\True)/\True))/\(decide ((↑v2:Int)<(↑y.length:Int))=false->true=!q8n y)) (by kernel_rfl) ?_
 try simp only[z0,z1,z2,z3,z4,z5,z6,z7,z8,z9,z10,Int.reduceEq,z11,z12,z13,z14,z15,z16,z17,z18,z19,z20,z21,z22,z23,z24,z25,z26,z27,z28,z29,z30,Int.reduceLE,Int.reduceLT,z31,z32,z33,z34,qa3]
 try simp only[qb3,qb4,qc7,z31,z32,z2,z1]
 have e0:∀x:Int,inB x (-1000000) 1000000=inB x (0-1000000) 1000000:=λ_=>rfl
 refine⟨(),0,⟨Nat.zero_le _,λi hi=>by omega⟩,rfl,λk hk=>⟨λhlt=>⟨hlt,λh1=>?_,λh1=>⟨qa7 (by omega) (by omega),k+1,⟨hlt,λi hi=>?_⟩,by omega,by omega⟩⟩,λhge=>?_⟩⟩
 ·have:q8n y=true:=by
   unfold q8n
   rw[List.any_eq_true]
   exact⟨nI y k,by rw[qf8 y k hlt]; exact List.getElem_mem hlt,by rw[<- e0,h1]; rfl⟩
  simp[this]
 ·by_cases e:i=k
  ·subst e; exact h1
  ·exact hk.ok i (by omega)
 ·obtain rfl:k=y.length:=by have:=hk.le; omega
  have:q8n y=false:=by
   unfold q8n
   rw[List.any_eq_false]
   intro x hx
   obtain⟨i,hi,rfl⟩:=List.getElem_of_mem hx
   have:=hk.ok i hi
   rw[qf8 y i hi,e0] at this
   rw[this]; simp
  simp[this]
structure xe0 (h:List Int) (k:Nat):Prop where
 le:k<=h.length
 ok:q2c h k=true
def x3f (h:List Int):Nat->Option Inv
 | 0=>some (Inv.of [7] 0 (λk:Nat=>[(7,.lit (.int .i64 k))]) (λ_=>[]) (λk=>xe0 h k) (λk=>h.length-k))
 | _=>none
theorem w1g {h:List Int} {k:Nat} (hn:nI h k≠0):∀n,k<n->q2c h n=false
 | 0,hk=>by omega
 | n+1,hk=>by
  rw[q2c]
  rcases Nat.lt_succ_iff_lt_or_eq.1 hk with q | q
  ·rw[w1g hn n q]; rfl
  ·subst q
   rw[show(nI h k==0)=false from by simpa using hn,Bool.and_false]
abbrev x65:qb9:=qg2 true none [tInts] [.bool] (λx=>x.1.length<=1000000) (λx=>(q2c x.1 x.1.length,()))
theorem w7z:Meets Tryz.prog 67 x65:=by
 refine meets (snd (SpecsOk.nil _)) Tryz.func67 rfl rfl (λx=>x3f x.1) (λ_=>by kernel_rfl) (by decide) ?_
 rintro⟨h,⟨⟩⟩ hl
 revert h
 intro(h:List Int) (hl:h.length<=1000000)
 refine @qd8 _ (∃(v0:Unit),∃(v1:Nat),xe0 h v1/\(((0:Int)=(↑v1:Int)/\True)/\True)/\∀(v2:Nat),xe0 h v2->(decide ((↑v2:Int)<(↑h.length:Int))=true->((0:Int)<=(↑v2:Int)/\(↑v2:Int)<(↑h.length:Int))/\((nI h v2 != (0:Int))=true->false=q2c h h.length)/\((nI h v2 != (0:Int))=false->fits .i64 ((↑v2:Int)+(1:Int))/\∃(v6:Nat),xe0 h v6/\h.length-v6<h.length-v2/\((↑v2:Int)+(1:Int)=(↑v6:Int)/\True)/\True))/\(decide ((↑v2:Int)<(↑h.length:Int))=false->true=q2c h h.length)) (by kernel_rfl) ?_
 try simp only[z0,z1,z2,z3,z4,z5,z6,z7,z8,z9,z10,Int.reduceEq,z11,z12,z13,z14,z15,z16,z17,z18,z19,z20,z21,z22,z23,z24,z25,z26,z27,z28,z29,z30,Int.reduceLE,Int.reduceLT,z31,z32,z33,z34,qa3]
 try simp only[qb3,qb4,qc7,z31,z32,z2,z1]
 refine⟨(),0,⟨Nat.zero_le _,rfl⟩,rfl,λk hk=>⟨λhlt=>⟨hlt,λh1=>(w1g h1 _ hlt).symm,λh1=>⟨qa7 (by omega) (by omega),k+1,⟨hlt,by rw[q2c,hk.ok,Bool.true_and]; exact beq_iff_eq.2 h1⟩,by omega,by omega⟩⟩,λhge=>?_⟩⟩
 obtain rfl:k=h.length:=by have:=hk.le; omega
 exact hk.ok.symm
def wu6 (m:List (List Int)) (h:List Int):Bool:=(List.range m.length).all λi=>decide (qz5 (nL m i) h (nL m i).length=0)
def we0 (m:List (List Int)) (h:List Int):Bool:=validB m && decide (h.length=(nL m 0).length) && !q8n h && !q2c h h.length && wu6 m h
structure xe1 (m:List (List Int)) (h:List Int) (k:Nat):Prop where
 le:k<=m.length
 ok:∀i,i<k->qz5 (nL m i) h (nL m i).length=0
def x3g (m:List (List Int)) (h:List Int):Nat->Option Inv
 | 0=>some (Inv.of [30] 0 (λk:Nat=>[(30,.lit (.int .i64 k))]) (λ_=>[]) (λk=>xe1 m h k) (λk=>m.length-k))
 | _=>none
abbrev x67:qb9:=qg2 true none [tMask,tInts] [.bool] (λx=>wd8 x.1/\x.2.1.length<=1000) (λx=>(we0 x.1 x.2.1,()))
theorem w70:Meets Tryz.prog 22 x67:=by
 refine meets (snd (SpecsOk.cons wa6 (SpecsOk.cons w7y (SpecsOk.cons w7z (SpecsOk.cons w3i (SpecsOk.nil _)))))) Tryz.func22 rfl rfl (λx=>x3g x.1 x.2.1) (λ_=>by kernel_rfl) (by decide) ?_
 rintro⟨m,h,⟨⟩⟩ hh
 revert m h
 intro(m:List (List Int)) (h:List Int) (hh:wd8 m/\h.length<=1000)
 refine @qd8 _ (wd8 m/\((!validB m)=true->false=we0 m h)/\((!validB m)=false->((0:Int)<=(0:Int)/\(0:Int)<(↑m.length:Int))/\(((↑h.length:Int) != (↑(nL m (0:Nat)).length:Int))=true->false=we0 m h)/\(((↑h.length:Int) != (↑(nL m (0:Nat)).length:Int))=false->h.length<=(1000000:Nat)/\((!!q8n h)=true->false=we0 m h)/\((!!q8n h)=false->h.length<=(1000000:Nat)/\(q2c h h.length=true->false=we0 m h)/\(q2c h h.length=false->∃(v4:Unit),∃(v5:Nat),xe1 m h v5/\(((0:Int)=(↑v5:Int)/\True)/\True)/\∀(v6:Nat),xe1 m h v6->(decide ((↑v6:Int)<(↑m.length:Int))=true->((0:Int)<=(↑v6:Int)/\(↑v6:Int)<(↑m.length:Int))/\xc5 (nL m v6) h/\((qz5 (nL m v6) h (nL m v6).length != (0:Int))=true->false=we0 m h)/\((qz5 (nL m v6) h (nL m v6).length != (0:Int))=false->fits .i64 ((↑v6:Int)+(1:Int))/\∃(v10:Nat),xe1 m h v10/\m.length-v10<m.length-v6/\((↑v6:Int)+(1:Int)=(↑v10:Int)/\True)/\True))/\(decide ((↑v6:Int)<(↑m.length:Int))=false->true=we0 m h)))))) (by kernel_rfl) ?_
 try simp only[z0,z1,z2,z3,z4,z5,z6,z7,z8,z9,z10,Int.reduceEq,z11,z12,z13,z14,z15,z16,z17,z18,z19,z20,z21,z22,z23,z24,z25,z26,z27,z28,z29,z30,Int.reduceLE,Int.reduceLT,z31,z32,z33,z34,qa3]
 try simp only[qb3,qb4,qc7,z31,z32,z2,z1]
 have hl:=hh.2
 refine⟨hh.1,λhv=>by simp[we0,hv],λhv=>?_⟩
 have hM:=Mk.of hv
 have hm1:=hM.rows1
 have hm6:=hM.rows6
 have hm10:=hM.pix10
 refine⟨by omega,λhn=>?_,λhn=>⟨by omega,λho=>by simp[we0,ho],λho=>⟨by omega,λhz=>by simp[we0,hz],λhz=>⟨(),0,⟨Nat.zero_le _,λi hi=>by omega⟩,rfl,λk hk=>⟨λhlt=>?_,λhge=>?_⟩⟩⟩⟩⟩
 ·have hn:¬h.length=(nL m 0).length:=by omega
  simp[we0,hn]
 ·have hn:h.length=(nL m 0).length:=by omega
  have he:=hM.each k hlt
  refine⟨hlt,⟨by omega,by omega,λi hi=>hM.small k hlt i (by omega),λi hi=>?_⟩,λhd=>?_,λhd=>⟨qa7 (by omega) (by omega),k+1,⟨hlt,λi hi=>?_⟩,by omega,by push_cast; rfl⟩⟩
  ·unfold q8n at ho
   rw[List.any_eq_false] at ho
   have:=ho (nI h i) (by rw[qf8 h i (by omega)]; exact List.getElem_mem _)
   simp only[Bool.not_eq_true,Bool.not_eq_false'] at this
   have:=inB_iff.1 this
   unfold qe8; omega
  ·have:wu6 m h=false:=by
    unfold wu6
    rw[List.all_eq_false]
    exact⟨k,List.mem_range.2 hlt,by simpa using hd⟩
   simp[we0,this]
  ·by_cases e:i=k
   ·subst e; exact hd
   ·exact hk.ok i (by omega)
 ·obtain rfl:k=m.length:=by have:=hk.le; omega
  have hn:h.length=(nL m 0).length:=by omega
  have:wu6 m h=true:=by
   unfold wu6
   rw[List.all_eq_true]
   exact λi hi=>decide_eq_true (hk.ok i (List.mem_range.1 hi))
  unfold we0
  rw[hv,ho,hz,this,decide_eq_true hn]; rfl
theorem xz6 {m:List (List Int)} (hf:wd8 m) (h7:validB m=true->(nL m 0).length<=7):xc6 m:=by
 refine⟨hf,λhv=>?_⟩
 have hM:=Mk.of hv
 have h7:=h7 hv
 have h6:=hM.rows6
 refine⟨h7,λs hs hok=>?_⟩
 unfold q1h at hok
 rw[Bool.and_eq_true,decide_eq_true_eq,decide_eq_true_eq] at hok
 have hn:=wu0 h7 hs
 have hnl:=hn.len
 have hO:=qj9 hM hn (by omega)
 refine⟨hO.krOk,by omega,by omega,λi hi j hj=>?_⟩
 have:=hn.at_ j hj
 rw[hM.each i hi]
 omega
theorem xp7 {m:List (List Int)} (h7:validB m=true->(nL m 0).length<=7):q2e m=qc0 m:=by
 by_cases hv:validB m=true
 ·have e1:qc0 m=(q1j m (nL m 0).length (q3e m),0):=by simp[qc0,hv]
  have e2:q2e m=(qg7 m (nL m 0).length (qe0 (nL m 0).length) (qe0 (nL m 0).length).length,0):=by simp[q2e,hv]
  rw[e1,e2,w06 hv (h7 hv),xd6 (h7 hv)]
 ·have hv:validB m=false:=by simpa using hv
  have e1:qc0 m=([],1):=by simp[qc0,hv]
  have e2:q2e m=([],1):=by simp[q2e,hv]
  rw[e1,e2]
structure wo9 (m:List (List Int)):Prop where
 fit:wd8 m
 n7:validB m=true->(nL m 0).length<=7
abbrev x3h:qb9:=qg2 false none [tMask] [tMask] (λx=>wo9 x.1) (λx=>((qc0 x.1).1,()))
theorem w3k:Meets Tryz.prog 65 x3h:=by
 refine meets (snd (SpecsOk.cons w65 (SpecsOk.nil _))) Tryz.func65 rfl rfl (λ_ _=>none) (λ_=>by kernel_rfl) (by decide) ?_
 rintro⟨m,⟨⟩⟩ h
 revert m
 intro(m:List (List Int)) (h:wo9 m)
 refine @qd8 _ (xc6 m/\(q2e m).1=(qc0 m).1) (by kernel_rfl) ?_
 try simp only[z0,z1,z2,z3,z4,z5,z6,z7,z8,z9,z10,Int.reduceEq,z11,z12,z13,z14,z15,z16,z17,z18,z19,z20,z21,z22,z23,z24,z25,z26,z27,z28,z29,z30,Int.reduceLE,Int.reduceLT,z31,z32,z33,z34,qa3]
 try simp only[qb3,qb4,qc7,z31,z32,z2,z1]
 rw[xp7 h.n7]
 exact⟨xz6 h.fit h.n7,rfl⟩
end Go.Proofs.YtempacilejhbgaaGreat
