/- Kernel vectors, and shares of a mask, as the document says: contracts by the engine. No condition. -/
import Derived.Test.YtempacilejhbgaaGreatR1
import Derived.Test.YtempacilejhbgaaGreatQ14
import Derived.Test.YtempacilejhbgaaGreatV22
set_option linter.unusedVariables false
set_option linter.unusedSimpArgs false
namespace Go.Proofs.YtempacilejhbgaaGreat
open Go Go.RowKit Eng
def qx7 (f:Int->Int):List Int->Int
 | []=>0
 | x :: r=>f x+qx7 f r
theorem q8c (f:Int->Int) {a b:List Int} (h:a.Perm b):qx7 f a=qx7 f b:=by
 induction h with
 | nil=>rfl
 | cons x _ ih=>simp[qx7,ih]
 | swap x y l=>simp[qx7]; omega
 | trans _ _ ih1 ih2=>exact ih1.trans ih2
theorem wh3 (f:Int->Int):∀a b:List Int,qx7 f (a++b)=qx7 f a+qx7 f b
 | [],b=>by simp[qx7]
 | x :: a,b=>by simp[qx7,wh3 f a b]; omega
theorem q97 (f:Int->Int) (a:Int):∀(s:List Int) (m:Nat),(∀y∈s,f y<=f a)->m<s.length->qx7 f (s.take (m+1))<=f a+qx7 f (s.take m)
 | [],m,_,h=>by simp at h
 | x :: s,0,h,_=>by simpa[qx7] using h x (by simp)
 | x :: s,m+1,h,hm=>by
  have:=q97 f a s m (λy hy=>h y (by simp[hy])) (by simpa using hm)
  simp only[List.take_succ_cons,qx7] at this ⊢
  omega
theorem w8i (f:Int->Int) {t s:List Int} (h:t.Sublist s) (hp:s.Pairwise λx y=>f y<=f x):qx7 f t<=qx7 f (s.take t.length):=by
 induction h with
 | slnil=>simp[qx7]
 | @cons t s a hs ih=>
  obtain⟨h1,h2⟩:=List.pairwise_cons.1 hp
  have:=ih h2
  have hl:=hs.length_le
  cases e:t.length with
  | zero=>rw[e] at this; simpa using this
  | succ m=>
   rw[e] at this hl
   have:=q97 f a s m h1 (by omega)
   simp only[List.take_succ_cons,qx7]
   omega
 | @cons_cons t s a hs ih=>
  have:=ih (List.pairwise_cons.1 hp).2
  simp only[List.length_cons,List.take_succ_cons,qx7]
  omega
def szV (h:List Int) (x:Int):Int:=qp1 (nI h x.toNat)
theorem wx7 (h:List Int) (p:List Int):inL h p=qx7 (szV h) p:=by
 have:∀k,k<=p.length->qm5 h p k=qx7 (szV h) (p.take k):=λk=>by
  induction k with
  | zero=>exact λ_=>by simp[qm5,qx7]
  | succ k ih=>
   intro hk
   have hs:p.take (k+1)=p.take k++[nI p k]:=by
    rw[List.take_add_one,List.getElem?_eq_getElem (by omega),qf6 p k (by omega)]; rfl
   rw[qm5,ih (by omega),hs,wh3]
   simp[qx7,szV]
 rw[inL,this _ (Nat.le_refl _),List.take_length]
theorem q4a {n:Nat} {p:List Int} (h:Named n p):p.Pairwise (· < ·):=by
 rw[List.pairwise_iff_getElem]
 intro i j hi hj hij
 have:=h.asc i j hij hj
 rwa [qf6 p i hi,qf6 p j hj] at this
theorem wx8 {n:Nat} {p:List Int} (h:p.Pairwise (· < ·)) (hb:∀x∈p,0<=x/\x<n):Named n p:=by
 refine⟨λj hj=>hb _ (q4y hj),λi j hij hj=>?_⟩
 rw[qf6 p i (by omega),qf6 p j hj]
 exact List.pairwise_iff_getElem.1 h i j (by omega) hj hij
theorem q0e {p:List Int} (h:p.Pairwise (· < ·)):p.Nodup:=h.imp λ{a b} q e=>by omega
theorem w8j (n:Nat):(qn7 n).Pairwise (· < ·):=q4a (Named.idx n)
theorem wx9 {n:Nat} {x:Int}:x∈qn7 n↔0<=x/\x<n:=by
 constructor
 ·intro hx
  obtain⟨i,hi,rfl⟩:=List.mem_iff_getElem.1 hx
  rw[<- qf6 _ _ hi]
  rw[qf0] at hi
  rw[q04 _ _ hi]; omega
 ·intro hx
  have:nI (qn7 n) x.toNat=x:=by rw[q04 _ _ (by omega)]; omega
  rw[<- this]
  exact q4y (by rw[qf0]; omega)
def w8k (h:List Int):List Int:=insL (q5n h) (qn7 h.length)
theorem q1a (h:List Int):(w8k h).Perm (qn7 h.length):=w13 _ _ _ (by rw[qf0]; omega)
theorem w8l (h:List Int):(w8k h).Pairwise λx y=>szV h y<=szV h x:=by
 rw[List.pairwise_iff_getElem]
 intro i j hi hj hij
 have hl:(w8k h).length=h.length:=by rw[(q1a h).length_eq,qf0]
 have:=w15 (v:=szV h) (qn7 h.length) ((qn7 h.length).length-1) (by rw[qf0]; omega) i j hij (by rw[qf0]; omega)
 rw[<- qf6 _ i hi,<- qf6 _ j hj]
 exact this
theorem wr1 (h:List Int) (k:Nat):(qi0 h k).Perm ((w8k h).take k):=List.mergeSort_perm ..
theorem qx8 {h:List Int} {k:Nat}:Named h.length (qi0 h k):=by
 have hp:=wr1 h k
 have hnd:(w8k h).Nodup:=(q0e (w8j _)).perm (q1a h).symm
 have hnd2:(qi0 h k).Nodup:=(hnd.sublist (List.take_sublist k _)).perm hp.symm
 have hsrt:(qi0 h k).Pairwise (·<=·):=by
  have:=List.pairwise_mergeSort (le:=λx y:Int=>decide (x<=y)) (λa b c h1 h2=>by simp only[decide_eq_true_eq] at *; omega) (λa b=>by
   rcases Int.le_total a b with q | q
   ·simp[q]
   ·simp[q]) ((w8k h).take k)
  exact this.imp λ{a b} q=>of_decide_eq_true q
 refine wx8 ?_ λx hx=>wx9.1 ((q1a h).mem_iff.1 (List.mem_of_mem_take (hp.mem_iff.1 hx)))
 exact List.Pairwise.imp₂ (λa b h1 h2=>by omega) hsrt hnd2
theorem q4b (h:List Int) (k:Nat):inL h (qi0 h k)=qx7 (szV h) ((w8k h).take k):=by rw[wx7,q8c _ (wr1 h k)]
theorem xh4 {h:List Int} {p:List Int} (hp:Named h.length p):inL h p<=inL h (qi0 h p.length):=by
 rw[q4b,wx7]
 have hnd:(w8k h).Nodup:=(q0e (w8j _)).perm (q1a h).symm
 have hf:((w8k h).filter λx=>decide (x∈p)).Perm p:=by
  rw[List.perm_ext_iff_of_nodup (hnd.sublist List.filter_sublist) (q0e (q4a hp))]
  intro a
  rw[List.mem_filter,decide_eq_true_eq]
  constructor
  ·exact λq=>q.2
  ·intro q
   refine⟨(q1a h).mem_iff.2 (wx9.2 ?_),q⟩
   obtain⟨i,hi,rfl⟩:=List.mem_iff_getElem.1 q
   have:=hp.at_ i hi
   rwa [qf6 p i hi] at this
 have:=w8i (szV h) (t:=(w8k h).filter λx=>decide (x∈p)) List.filter_sublist (w8l h)
 rwa [q8c _ hf,hf.length_eq] at this
def sg (x:Int):Int:=if x<0 then -1 else 1
theorem q14 {m:List (List Int)} (hv:validB m=true):(qa9 m).1.length<=1000000:=by
 have hM:=Mk.of hv
 have h10:=hM.pix10
 have e1:qa9 m=(q2c m (nL m 0).length (q31 m),0):=by simp[qa9,hv]
 have hc:q31 m<=(nL m 0).length:=by unfold q31; omega
 have:=we4 m (nL m 0).length h10 (q31 m) (by omega)
 rw[e1]
 show(q2c m (nL m 0).length (q31 m)).length<=_
 omega
theorem qv6 {m:List (List Int)} (hv:validB m=true) (h7:(nL m 0).length<=7) {i:Nat} (hi:i<(qa9 m).1.length):∃s,xh0 m s (nL (qa9 m).1 i):=x0y hv h7 (qj4 _ _ hi)
theorem q5p {m:List (List Int)} (hv:validB m=true) {s h p:List Int} (hc:xh0 m s h) (hp:Named (nL m 0).length p):wi0 h p:=by
 have h10:=(Mk.of hv).pix10
 have hl:=hp.len
 exact⟨wh2 hv hc,by omega,λj hj=>by rw[hc.len]; exact hp.at_ j hj,by have:=w8h hc; omega⟩
theorem q4c {m:List (List Int)} {s h:List Int} (hc:xh0 m s h) (k:Nat):Named (nL m 0).length (qi0 h k):=by
 have:=qx8 (h:=h) (k:=k)
 rwa [hc.len] at this
theorem w9f {m:List (List Int)} (h7:validB m=true->(nL m 0).length<=7):w7i m:=by
 refine⟨λhv=>xg5 hv,λhv k hk=>⟨q14 hv,λi hi=>?_,λi hi=>?_⟩⟩
 ·obtain⟨s,hc⟩:=qv6 hv (h7 hv) hi
  have hM:=Mk.of hv
  have m1:=hM.pix1
  have m10:=hM.pix10
  exact⟨wh2 hv hc,by rw[hc.len]; omega,by rw[hc.len]; omega,Int.natCast_nonneg _,by rw[hc.len]; omega⟩
 ·obtain⟨s,hc⟩:=qv6 hv (h7 hv) hi
  rw[Int.toNat_natCast]
  exact q5p hv hc (q4c hc k)
def leQ (a b:Int × Int):Prop:=a.1*b.2<=b.1*a.2
theorem q6b (a:Int × Int):leQ a a:=Int.le_refl _
theorem q4d {a b c:Int × Int} (ha:1<=a.2) (hb:1<=b.2) (hc:1<=c.2) (h1:leQ a b) (h2:leQ b c):leQ a c:=by
 unfold leQ at *
 have k1:a.1*b.2*c.2<=b.1*a.2*c.2:=Int.mul_le_mul_of_nonneg_right h1 (by omega)
 have k2:b.1*c.2*a.2<=c.1*b.2*a.2:=Int.mul_le_mul_of_nonneg_right h2 (by omega)
 refine Int.le_of_mul_le_mul_left (a:=b.2) ?_ (by omega)
 have e1:b.2*(a.1*c.2)=a.1*b.2*c.2:=by grind
 have e2:b.2*(c.1*a.2)=c.1*b.2*a.2:=by grind
 have e3:b.1*a.2*c.2=b.1*c.2*a.2:=by grind
 omega
theorem w17 {a:Int × Int} (h:qr4 a):leQ (0,1) a:=by
 have:=h.n.1
 unfold leQ
 show 0*a.2<=a.1*1
 omega
theorem q6c {a b:Int × Int}:0<wh7 a b↔b.1*a.2<a.1*b.2:=by
 unfold wh7
 split
 ·rename_i h; constructor <;> intro q <;> omega
 ·split
  ·constructor <;> intro q <;> omega
  ·constructor <;> intro q <;> omega
theorem top_le {a b:Int × Int}:leQ a (q8o a b)/\leQ b (q8o a b):=by
 unfold q8o
 split
 ·rename_i h
  exact⟨Int.le_of_lt (q6c.1 h),q6b b⟩
 ·rename_i h
  refine⟨q6b a,Int.not_lt.1 λq=>h (q6c.2 q)⟩
theorem x02 {h1 h2 p1 p2:List Int} (k1:wi0 h1 p1) (k2:wi0 h2 p2) (h:inL h1 p1*szL h2<=inL h2 p2*szL h1):leQ (shR h1 p1) (shR h2 p2):=by
 have l1:=qv2 k1
 have l2:=qv2 k2
 have s1:=q2x k1.ok k1.ne
 have s2:=q2x k2.ok k2.ne
 unfold leQ
 have q1:=l1.eq
 have q2:=l2.eq
 have b1:=l1.pos
 have b2:=l2.pos
 generalize shR h1 p1=a at *
 generalize shR h2 p2=b at *
 generalize inL h1 p1=x at *
 generalize inL h2 p2=y at *
 generalize szL h1=u at *
 generalize szL h2=v at *
 have hb:x*v*(a.2*b.2)<=y*u*(a.2*b.2):=Int.mul_le_mul_of_nonneg_right h (by have:=Int.mul_pos (a:=a.2) (b:=b.2) (by omega) (by omega); omega)
 refine Int.le_of_mul_le_mul_left (a:=u*v) ?_ (Int.mul_pos s1 s2)
 have e1:u*v*(a.1*b.2)=x*v*(a.2*b.2):=by
  have:u*v*(a.1*b.2)=a.1*u*(v*b.2):=by grind
  rw[this,q1]; grind
 have e2:u*v*(b.1*a.2)=y*u*(a.2*b.2):=by
  have:u*v*(b.1*a.2)=b.1*v*(u*a.2):=by grind
  rw[this,q2]; grind
 omega
theorem qx9 {l:List (List Int)} {n:Nat} (h:q7u l n):∀k,k<=l.length->(∀i,i<k->leQ (shR (nL l i) (qi0 (nL l i) n)) (qh8 l n k))/\(qh8 l n k=(0,1)\/∃i,i<k/\qh8 l n k=shR (nL l i) (qi0 (nL l i) n))
 | 0,_=>⟨λi hi=>by omega,.inl rfl⟩
 | k+1,hk=>by
  obtain⟨h1,h2⟩:=qx9 h k (by omega)
  have t:=top_le (a:=qh8 l n k) (b:=shR (nL l k) (qi0 (nL l k) n))
  have hs:=λi hi=>h.shr i hi
  have hl:=λj (hj:j<=l.length)=>qm6 h j hj
  simp only[Int.toNat_natCast] at hs hl
  refine⟨λi hi=>?_,?_⟩
  ·rcases Nat.lt_succ_iff_lt_or_eq.1 hi with e | e
   ·exact q4d (q2d (hs i (by omega))).pos (hl k (by omega)).pos (hl (k+1) hk).pos (h1 i e) t.1
   ·subst e; exact t.2
  ·show q8o (qh8 l n k) (shR (nL l k) (qi0 (nL l k) n))=(0,1)\/∃i,i<k+1/\q8o (qh8 l n k) (shR (nL l k) (qi0 (nL l k) n))=shR (nL l i) (qi0 (nL l i) n)
   unfold q8o
   split
   ·exact .inr ⟨k,by omega,rfl⟩
   ·rcases h2 with h2 | ⟨i,hi,h2⟩
    ·exact .inl h2
    ·exact .inr ⟨i,by omega,h2⟩
theorem w8m {x y:Int × Int} (hx:1<=x.2) (hy:1<=y.2) (h:leQ x y) (hf:hlf y=false):hlf x=false:=by
 unfold hlf at *
 rw[decide_eq_false_iff_not,Int.not_le] at *
 unfold leQ at h
 have h1:2*y.1*x.2<y.2*x.2:=Int.mul_lt_mul_of_pos_right hf (by omega)
 have h2:2*x.1*y.2<x.2*y.2:=by
  have e1:2*x.1*y.2=2*(x.1*y.2):=by grind
  have e2:2*y.1*x.2=2*(y.1*x.2):=by grind
  have e3:y.2*x.2=x.2*y.2:=Int.mul_comm _ _
  omega
 exact Int.lt_of_mul_lt_mul_right h2 (by omega)
theorem x03 {m:List (List Int)} (hf:wd6 m) (h7:validB m=true->(nL m 0).length<=7):xf8 m:=by
 refine⟨hf,λhv=>?_⟩
 have hM:=Mk.of hv
 have h7:=h7 hv
 have h6:=hM.rows6
 refine⟨h7,λs hs hok=>?_⟩
 unfold q18 at hok
 rw[Bool.and_eq_true,decide_eq_true_eq,decide_eq_true_eq] at hok
 have hn:=wx6 h7 hs
 have hnl:=hn.len
 have hO:=qk1 hM hn (by omega)
 refine⟨hO.krOk,by omega,by omega,λi hi j hj=>?_⟩
 have:=hn.at_ j hj
 rw[hM.each i hi]
 omega
theorem xs7 {m:List (List Int)} (h7:validB m=true->(nL m 0).length<=7):q21 m=qa9 m:=by
 by_cases hv:validB m=true
 ·have e1:qa9 m=(q2c m (nL m 0).length (q31 m),0):=by simp[qa9,hv]
  have e2:q21 m=(qg7 m (nL m 0).length (qe2 (nL m 0).length) (qe2 (nL m 0).length).length,0):=by simp[q21,hv]
  rw[e1,e2,w1y hv (h7 hv),xg9 (h7 hv)]
 ·have hv:validB m=false:=by simpa using hv
  have e1:qa9 m=([],1):=by simp[qa9,hv]
  have e2:q21 m=([],1):=by simp[q21,hv]
  rw[e1,e2]
structure qw0 (m:List (List Int)):Prop where
 fit:wd6 m
 n7:validB m=true->(nL m 0).length<=7
abbrev x4q:qc0:=qf3 false none [tMask] [tMask] (λx=>qw0 x.1) (λx=>((qa9 x.1).1,()))
theorem q47:qd2 Tryz.prog 65 x4q:=by
 refine meets (snd (SpecsOk.cons w7u (SpecsOk.nil _))) Tryz.func65 rfl rfl (λ_ _=>none) (λ_=>by kernel_rfl) (by decide) ?_
 rintro⟨m,⟨⟩⟩ h
 revert m
 intro(m:List (List Int)) (h:qw0 m)
 refine @qd4 _ (xf8 m/\(q21 m).1=(qa9 m).1) (by kernel_rfl) ?_
 try simp only[z0,z1,z2,z3,z4,z5,z6,z7,z8,z9,z10,Int.reduceEq,z11,z12,z13,z14,z15,z16,z17,z18,z19,z20,z21,z22,z23,z24,z25,z26,z27,z28,z29,z30,Int.reduceLE,Int.reduceLT,z31,z32,z33,z34,qa1]
 try simp only[qb3,qb4,qb9,z31,z32,z2,z1]
 rw[xs7 h.n7]
 exact⟨x03 h.fit h.n7,rfl⟩
theorem xh5 (a b:Int × Int):q8o a b=if q34 a b=true then b else a:=by
 unfold q8o
 by_cases q:a.1*b.2<b.1*a.2
 ·rw[if_pos (q6c.2 q),if_pos (show q34 a b=true from decide_eq_true q)]
 ·rw[if_neg λe=>q (q6c.1 e),if_neg (by unfold q34; rw[decide_eq_false q]; decide)]
structure w8n (m:List (List Int)) (p:List Int):Prop where
 fit:qw0 m
 len:p.length<=1000
def x4r (m:List (List Int)) (l:List (List Int)) (pix:List Int):Nat->Option Inv
 | 0=>some (Inv.of [29] 2 (λk:Nat=>[(29,.lit (.int .i64 k))]) (λk=>[.box 34 x0d,.box 34 (.cons (.lit (.int .i64 (qp0 l pix k).1)) (.cons (.lit (.int .i64 (qp0 l pix k).2)) .nil))]) (λk=>k<=l.length) (λk=>l.length-k))
 | _=>none
abbrev x8y:qc0:=qf3 true none [tMask,tInts] [qz6,tInt] (λx=>w8n x.1 x.2.1) (λx=>(ofQ x.1 x.2.1,ofE x.1 x.2.1,()))
theorem w8o:qd2 Tryz.prog 21 x8y:=by
 refine meets (snd (SpecsOk.cons q3t (SpecsOk.cons w3w (SpecsOk.cons q47 (SpecsOk.cons q9w (SpecsOk.cons q9u (SpecsOk.nil _))))))) Tryz.func21 rfl rfl (λx=>x4r x.1 (qa9 x.1).1 x.2.1) (λ_=>by kernel_rfl) (by decide) ?_
 rintro⟨m,p,⟨⟩⟩ h
 revert m p
 intro(m:List (List Int)) (p:List Int) (h:w8n m p)
 refine @qd4 _ (wd6 m/\((!validB m)=true->((0:Int)=(ofQ m p).1/\(0:Int)=(ofQ m p).2/\True)/\(1:Int)=ofE m p/\True)/\((!validB m)=false->((0:Int)<=(0:Int)/\(0:Int)<(↑m.length:Int))/\p.length<=(1000000:Nat)/\((wh8 (↑(nL m (0:Nat)).length:Int) p != (0:Int))=true->((0:Int)=(ofQ m p).1/\(0:Int)=(ofQ m p).2/\True)/\wh8 (↑(nL m (0:Nat)).length:Int) p=ofE m p/\True)/\((wh8 (↑(nL m (0:Nat)).length:Int) p != (0:Int))=false->qw0 m/\∃(v2:Unit),∃(v3:Nat),Nat.le v3 (qa9 m).1.length/\(((0:Int)=(↑v3:Int)/\True)/\((0:Int)=(0:Int)/\(0:Int)=(0:Int)/\True)/\((0:Int)=(qp0 (qa9 m).1 p v3).1/\(1:Int)=(qp0 (qa9 m).1 p v3).2/\True)/\True)/\∀(v4:Nat),Nat.le v4 (qa9 m).1.length->(decide ((↑v4:Int)<(↑(qa9 m).1.length:Int))=true->((0:Int)<=(↑v4:Int)/\(↑v4:Int)<(↑(qa9 m).1.length:Int))/\wi0 (nL (qa9 m).1 v4) p/\(qr4 ((qp0 (qa9 m).1 p v4).1,(qp0 (qa9 m).1 p v4).2)/\qr4 ((shR (nL (qa9 m).1 v4) p).1,(shR (nL (qa9 m).1 v4) p).2))/\(q34 ((qp0 (qa9 m).1 p v4).1,(qp0 (qa9 m).1 p v4).2) ((shR (nL (qa9 m).1 v4) p).1,(shR (nL (qa9 m).1 v4) p).2)=true->fits .i64 ((↑v4:Int)+(1:Int))/\∃(v8:Nat),Nat.le v8 (qa9 m).1.length/\(qa9 m).1.length-v8<(qa9 m).1.length-v4/\((↑v4:Int)+(1:Int)=(↑v8:Int)/\True)/\((0:Int)=(0:Int)/\(0:Int)=(0:Int)/\True)/\((shR (nL (qa9 m).1 v4) p).1=(qp0 (qa9 m).1 p v8).1/\(shR (nL (qa9 m).1 v4) p).2=(qp0 (qa9 m).1 p v8).2/\True)/\True)/\(q34 ((qp0 (qa9 m).1 p v4).1,(qp0 (qa9 m).1 p v4).2) ((shR (nL (qa9 m).1 v4) p).1,(shR (nL (qa9 m).1 v4) p).2)=false->fits .i64 ((↑v4:Int)+(1:Int))/\∃(v8:Nat),Nat.le v8 (qa9 m).1.length/\(qa9 m).1.length-v8<(qa9 m).1.length-v4/\((↑v4:Int)+(1:Int)=(↑v8:Int)/\True)/\((0:Int)=(0:Int)/\(0:Int)=(0:Int)/\True)/\((qp0 (qa9 m).1 p v4).1=(qp0 (qa9 m).1 p v8).1/\(qp0 (qa9 m).1 p v4).2=(qp0 (qa9 m).1 p v8).2/\True)/\True))/\(decide ((↑v4:Int)<(↑(qa9 m).1.length:Int))=false->((qp0 (qa9 m).1 p v4).1=(ofQ m p).1/\(qp0 (qa9 m).1 p v4).2=(ofQ m p).2/\True)/\(0:Int)=ofE m p/\True)))) (by kernel_rfl) ?_
 try simp only[z0,z1,z2,z3,z4,z5,z6,z7,z8,z9,z10,Int.reduceEq,z11,z12,z13,z14,z15,z16,z17,z18,z19,z20,z21,z22,z23,z24,z25,z26,z27,z28,z29,z30,Int.reduceLE,Int.reduceLT,z31,z32,z33,z34,qa1]
 try simp only[qb3,qb4,qb9,z31,z32,z2,z1]
 have hp:=h.len
 have bad:∀e:Int,e≠0->ofE m p=e->(0=(ofQ m p).fst/\0=(ofQ m p).snd)/\e=ofE m p:=λe he q=>by
  have q':w4h m p=e:=q
  unfold ofQ
  rw[if_neg (by rw[q']; exact he),q]
  exact⟨⟨rfl,rfl⟩,rfl⟩
 refine⟨h.fit.fit,λhv=>bad 1 (by decide) (by simp[ofE,w4h,hv]),λhv=>?_⟩
 have hM:=Mk.of hv
 have hm1:=hM.rows1
 have hE:ofE m p=wh8 (nL m 0).length p:=by simp[ofE,w4h,hv]
 refine⟨by omega,by omega,λhn=>bad _ hn hE,λhn=>⟨h.fit,?_⟩⟩
 have hQ:ofQ m p=qp0 (qa9 m).1 p (qa9 m).1.length:=if_pos (hE.trans hn)
 have h7:=h.fit.n7 hv
 have hO:xu4 (qa9 m).1 p:=⟨q14 hv,λi hi=>by
  obtain⟨s,hc⟩:=qv6 hv h7 hi
  exact q5p hv hc (Named.of hn)⟩
 have hl:=hO.len
 generalize(qa9 m).1=l at *
 refine⟨(),0,Nat.zero_le _,⟨rfl,rfl,rfl⟩,λk hk=>⟨λhlt=>?_,λhge=>?_⟩⟩
 ·have ht:qp0 l p (k+1)=q8o (qp0 l p k) (shR (nL l k) p):=rfl
  rw[xh5] at ht
  refine⟨hlt,hO.ok k hlt,⟨q33 hO k hk,q2d (hO.ok k hlt)⟩,λq=>⟨qa5 (by omega) (by omega),k+1,hlt,by omega,by push_cast; rfl,?_⟩,λq=>⟨qa5 (by omega) (by omega),k+1,hlt,by omega,by push_cast; rfl,?_⟩⟩
  ·rw[ht,if_pos q]; exact⟨rfl,rfl⟩
  ·rw[ht,if_neg (by intro e; have:q34 (qp0 l p k) (shR (nL l k) p)=false:=q; rw[this] at e; cases e)]; exact⟨rfl,rfl⟩
 ·obtain rfl:k=l.length:=by omega
  rw[hQ]
  exact⟨⟨rfl,rfl⟩,(hE.trans hn).symm⟩
end Go.Proofs.YtempacilejhbgaaGreat
