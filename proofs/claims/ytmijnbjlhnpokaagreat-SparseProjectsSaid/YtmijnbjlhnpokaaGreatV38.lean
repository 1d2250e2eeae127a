/- Exact fractions of the reference: contracts by the engine. No condition. -/
import Derived.Test.YtmijnbjlhnpokaaGreatW18
import Derived.Test.YtmijnbjlhnpokaaGreatZD
import Derived.Test.YtmijnbjlhnpokaaGreatV37
set_option linter.unusedVariables false
set_option linter.unusedSimpArgs false
namespace Go.Proofs.YtmijnbjlhnpokaaGreat
open Go Go.RowKit Eng
abbrev q2g:=Bool × List Int × List Int
def q0m (a:q2g):Int:=if a.1 then-(valL a.2.1:Int) else(valL a.2.1:Int)
def q0o (a:q2g):Int:=(valL a.2.2:Int)
def qc7 (n d:Int):q2g:=(decide (n<0),dgs (max n (0-n)).toNat,dgs d.toNat)
def plusX (a b:q2g):Nat:=valL a.2.1*valL b.2.2
def plusY (a b:q2g):Nat:=valL b.2.1*valL a.2.2
def w4f (a b:q2g):Nat:=valL a.2.2*valL b.2.2
def plusV (a b:q2g):q2g:=
 if a.1=b.1 then(a.1,dgs (plusX a b+plusY a b),dgs (w4f a b))
 else if plusY a b<=plusX a b then(a.1,dgs (plusX a b-plusY a b),dgs (w4f a b)) else(b.1,dgs (plusY a b-plusX a b),dgs (w4f a b))
def qg6 (n:Int) (a:q2g):q2g:=(a.1 != decide (n<0),dgs ((max n (0-n)).toNat*valL a.2.1),a.2.2)
def q5u (a b:q2g):Int:=if(plusV a (qg6 (-1) b)).2.1.length=0 then 0 else if(plusV a (qg6 (-1) b)).1 then -1 else 1
theorem q1f (n d:Int):q0m (qc7 n d)=n:=by
 unfold q0m qc7
 dsimp only
 rw[qh4]
 by_cases h:n<0
 ·rw[if_pos (decide_eq_true h)]; omega
 ·rw[if_neg (by simpa using h)]; omega
theorem q1g {n d:Int} (h:0<=d):q0o (qc7 n d)=d:=by
 unfold q0o qc7
 dsimp only
 rw[qh4]; omega
theorem w18 (a b:q2g):q0o (plusV a b)=q0o a*q0o b:=by
 have:(plusV a b).2.2=dgs (w4f a b):=by
  unfold plusV; split
  ·rfl
  ·split <;> rfl
 unfold q0o
 rw[this,qh4,w4f,Int.natCast_mul]
theorem q6f (a b:q2g):q0m (plusV a b)=q0m a*q0o b+q0m b*q0o a:=by
 have ex:((plusX a b:Nat):Int)=(valL a.2.1:Int)*(valL b.2.2:Int):=Int.natCast_mul _ _
 have ey:((plusY a b:Nat):Int)=(valL b.2.1:Int)*(valL a.2.2:Int):=Int.natCast_mul _ _
 unfold plusV
 obtain⟨sa,na,da⟩:=a
 obtain⟨sb,nb,db⟩:=b
 unfold q0m q0o
 dsimp only at ex ey ⊢
 generalize plusX (sa,na,da) (sb,nb,db)=X at *
 generalize plusY (sa,na,da) (sb,nb,db)=Y at *
 generalize(valL na:Int)=A at *
 generalize(valL nb:Int)=B at *
 generalize(valL da:Int)=C at *
 generalize(valL db:Int)=D at *
 cases sa <;> cases sb <;> simp only[if_true,if_false,reduceCtorEq,Bool.false_eq_true]
 ·rw[qh4]; (try simp only[if_true,if_false,Bool.false_eq_true]); omega
 ·by_cases q:Y<=X
  ·rw[if_pos q,qh4]; simp only[if_true,if_false,Bool.false_eq_true]; rw[Int.neg_mul]; omega
  ·rw[if_neg q,qh4]; simp only[if_true,if_false,Bool.false_eq_true]; rw[Int.neg_mul]; omega
 ·by_cases q:Y<=X
  ·rw[if_pos q,qh4]; simp only[if_true,if_false,Bool.false_eq_true]; rw[Int.neg_mul]; omega
  ·rw[if_neg q,qh4]; simp only[if_true,if_false,Bool.false_eq_true]; rw[Int.neg_mul]; omega
 ·rw[qh4]; (try simp only[if_true,if_false,Bool.false_eq_true]); rw[Int.neg_mul,Int.neg_mul]; omega
theorem q76 (n:Int) (a:q2g):q0o (qg6 n a)=q0o a:=rfl
theorem q77 (n:Int) (a:q2g):q0m (qg6 n a)=n*q0m a:=by
 obtain⟨sa,na,da⟩:=a
 unfold q0m qg6
 dsimp only
 rw[qh4,Int.natCast_mul]
 generalize(valL na:Int)=A
 by_cases h:n<0
 ·rw[decide_eq_true h,show(((max n (0-n)).toNat:Nat):Int)=- n by omega]
  cases sa
  ·rw[if_pos (show(false != true)=true from rfl),if_neg (show ¬(false=true) by decide),Int.neg_mul,Int.neg_neg]
  ·rw[if_neg (show ¬((true != true)=true) by decide),if_pos (show true=true from rfl),Int.neg_mul,Int.mul_neg]
 ·rw[decide_eq_false h,show(((max n (0-n)).toNat:Nat):Int)=n by omega]
  cases sa
  ·rw[if_neg (show ¬((false != false)=true) by decide),if_neg (show ¬(false=true) by decide)]
  ·rw[if_pos (show(true != false)=true from rfl),if_pos (show true=true from rfl),Int.mul_neg]
theorem w4g (a b:q2g):(plusV a b).2.1=dgs (valL (plusV a b).2.1):=by
 have:∃N,(plusV a b).2.1=dgs N:=by
  unfold plusV; split
  ·exact⟨_,rfl⟩
  ·split
   ·exact⟨_,rfl⟩
   ·exact⟨_,rfl⟩
 obtain⟨N,e⟩:=this
 rw[e,qh4]
theorem w19 (a b:q2g):q5u a b=0↔q0m a*q0o b=q0m b*q0o a:=by
 have h1:=q6f a (qg6 (-1) b)
 rw[q76,q77] at h1
 have hc:=w4g a (qg6 (-1) b)
 unfold q5u
 generalize plusV a (qg6 (-1) b)=c at *
 have e:q0m c=0↔c.2.1.length=0:=by
  rw[hc,xv1]
  unfold q0m
  split <;> omega
 constructor
 ·intro h
  have:c.2.1.length=0:=Classical.byContradiction λq=>by
   rw[if_neg q] at h
   split at h <;> cases h
  rw[e.2 this] at h1
  rw[show -1*q0m b*q0o a=- (q0m b*q0o a) by rw[Int.neg_mul,Int.neg_mul,Int.one_mul]] at h1
  omega
 ·intro h
  rw[if_pos]
  refine e.1 ?_
  rw[show -1*q0m b*q0o a=- (q0m b*q0o a) by rw[Int.neg_mul,Int.neg_mul,Int.one_mul]] at h1
  omega
def nR (x:List (Int × Int)) (i:Nat):Int × Int:=qd1 (.prod (.int .i64) (.int .i64)) x i
theorem x6f (x:List (Int × Int)) (i:Nat) (h:i<x.length):nR x i=x[i]:=ql9 (t:=.prod (.int .i64) (.int .i64)) x i h
def qe6 (r:List Int) (x:List (Int × Int)):Nat->q2g
 | 0=>qc7 0 1
 | k+1=>if nI r k≠0 then plusV (qe6 r x k) (qg6 (nI r k) (qc7 (nR x k).1 (nR x k).2)) else qe6 r x k
theorem w2a {r:List Int} {x:List (Int × Int)} {L:Int} {u:Nat->Int}:∀k,(∀j,j<k->0<(nR x j).2/\L=(nR x j).2*u j)->q0m (qe6 r x k)*L=q0o (qe6 r x k)*(sm k λj=>nI r j*((nR x j).1*u j))/\0<q0o (qe6 r x k)
 | 0,_=>by
  rw[qe6,q1f,q1g (by decide)]
  exact⟨by rw[sm,Int.zero_mul]; rfl,by decide⟩
 | k+1,h=>by
  obtain⟨h1,h2⟩:=w2a (r:=r) (L:=L) (u:=u) k λj hj=>h j (by omega)
  obtain⟨d1,d2⟩:=h k (by omega)
  rw[qe6,sm]
  by_cases q:nI r k≠0
  ·rw[if_pos q,q6f,w18,q76,q77,q1f,q1g (by omega)]
   generalize q0m (qe6 r x k)=n at *
   generalize q0o (qe6 r x k)=d at *
   generalize(sm k λj=>nI r j*((nR x j).1*u j))=S at *
   refine⟨?_,Int.mul_pos h2 d1⟩
   have e:(n*(nR x k).2+nI r k*(nR x k).1*d)*L=(nR x k).2*(n*L)+nI r k*(nR x k).1*d*L:=by grind
   rw[e,h1,d2]
   grind
  ·rw[if_neg q]
   have q:nI r k=0:=Classical.byContradiction λq2=>q q2
   rw[q,Int.zero_mul,Int.add_zero]
   exact⟨h1,h2⟩
theorem w4h {r:List Int} {x:List (Int × Int)} {y L:Int} {u:Nat->Int} {k:Nat} (hL:L≠0) (h:∀j,j<k->0<(nR x j).2/\L=(nR x j).2*u j) (hy:(sm k λj=>nI r j*((nR x j).1*u j))=y*L):q5u (qe6 r x k) (qc7 y 1)=0:=by
 obtain⟨h1,h2⟩:=w2a (r:=r) k h
 rw[w19,q1f,q1g (by decide),Int.mul_one]
 rw[hy] at h1
 have:L*(q0m (qe6 r x k)-y*q0o (qe6 r x k))=0:=by grind
 have:=qd3 this hL
 omega
abbrev q5a:Ty:=.prod .bool (.prod (.list (.int .i64)) (.list (.int .i64)))
structure RxOk (K:Nat) (a:q2g):Prop where
 n:a.2.1=dgs (valL a.2.1)
 d:a.2.2=dgs (valL a.2.2)
 ln:a.2.1.length<=K
 ld:a.2.2.length<=K
theorem RxOk.dn {K:Nat} {a:q2g} (h:RxOk K a) (hK:K<=1000:=by omega):DigOk a.2.1:=⟨Nat.le_trans h.ln hK,h.n⟩
theorem RxOk.dd {K:Nat} {a:q2g} (h:RxOk K a) (hK:K<=1000:=by omega):DigOk a.2.2:=⟨Nat.le_trans h.ld hK,h.d⟩
theorem wp5 {N k:Nat} (h:N<BS ^ k) (hk:k<=1000):DigOk (dgs N):=⟨by rw[qw8]; exact Nat.le_trans (qw7 h) hk,by rw[qh4]⟩
theorem q4f {l:List Int} (h:l=dgs (valL l)) {K:Nat} (hK:l.length<=K):valL l<BS ^ K:=by
 refine Nat.lt_of_lt_of_le (qo4 (valL l)) (qs8 ?_)
 have:l.length=lenD (valL l):=by
  conv=>lhs; rw[h]
  rw[qw8]
 omega
theorem q0f {n d:Int} (hn:qc8 BIG n) (hd:qc8 BIG d):RxOk 3 (qc7 n d):=by
 have e:BS ^ 3=1000000000000000000000000000:=by decide
 have hB:BIG=4000000000000000000:=rfl
 unfold qc8 at hn hd
 unfold qc7
 refine⟨by dsimp only; rw[qh4],by dsimp only; rw[qh4],?_,?_⟩
 ·dsimp only; rw[qw8]; exact qw7 (by omega)
 ·dsimp only; rw[qw8]; exact qw7 (by omega)
theorem wg8 {K:Nat} {n:Int} {a:q2g} (hn:qc8 BIG n) (h:RxOk K a):RxOk (K+3) (qg6 n a):=by
 have e:BS ^ 3=1000000000000000000000000000:=by decide
 have hB:BIG=4000000000000000000:=rfl
 unfold qc8 at hn
 have hv:=q4f h.n h.ln
 unfold qg6
 refine⟨by dsimp only; rw[qh4],h.d,?_,Nat.le_trans h.ld (by omega)⟩
 dsimp only; rw[qw8]
 refine qw7 ?_
 rw[Nat.mul_comm]
 exact mul_lt hv (by omega)
theorem w9a {K L:Nat} {a b:q2g} (ha:RxOk K a) (hb:RxOk L b):RxOk (K+L+1) (plusV a b):=by
 have a1:=q4f ha.n ha.ln
 have a2:=q4f ha.d ha.ld
 have b1:=q4f hb.n hb.ln
 have b2:=q4f hb.d hb.ld
 have hx:plusX a b<BS ^ (K+L):=mul_lt a1 b2
 have hy:plusY a b<BS ^ (K+L):=by have:=mul_lt b1 a2; rwa [Nat.add_comm L K] at this
 have hd:w4f a b<BS ^ (K+L):=mul_lt a2 b2
 have hs:BS ^ (K+L+1)=BS ^ (K+L)*BS:=Nat.pow_succ _ _
 have e:BS=1000000000:=rfl
 have hp:=qo8 (K+L)
 have hl:∀N,N<2*BS ^ (K+L)->(dgs N).length<=K+L+1:=λN hN=>by
  rw[qw8]
  refine qw7 ?_
  rw[hs]
  have:BS ^ (K+L)*2<=BS ^ (K+L)*BS:=Nat.mul_le_mul_left _ (by rw[e]; omega)
  omega
 unfold plusV
 split
 ·exact⟨by dsimp only; rw[qh4],by dsimp only; rw[qh4],hl _ (by omega),hl _ (by omega)⟩
 ·split
  ·exact⟨by dsimp only; rw[qh4],by dsimp only; rw[qh4],hl _ (by omega),hl _ (by omega)⟩
  ·exact⟨by dsimp only; rw[qh4],by dsimp only; rw[qh4],hl _ (by omega),hl _ (by omega)⟩
theorem RxOk.up {K L:Nat} {a:q2g} (h:RxOk K a) (hK:K<=L:=by omega):RxOk L a:=⟨h.n,h.d,Nat.le_trans h.ln hK,Nat.le_trans h.ld hK⟩
theorem wp6 {a b:List Int} {K L:Nat} (ha:a=dgs (valL a)) (la:a.length<=K) (hb:b=dgs (valL b)) (lb:b.length<=L) (h:K+L<=1000):DigOk (q5t a b):=wp5 (mul_lt (q4f ha la) (q4f hb lb)) h
theorem w9b (a b:List Int):valL (q5t a b)=valL a*valL b:=qh4 _
theorem q78 (A B:Nat):0<=wq1 A B↔B<=A:=by
 unfold wq1
 split
 ·omega
 ·split <;> omega
abbrev x2i:qc9:=qg4 false none [.prod (.int .i64) (.int .i64)] [q5a] (λx=>qc8 BIG x.1.1/\qc8 BIG x.1.2) (λx=>(qc7 x.1.1 x.1.2,()))
theorem q25:Meets Tryz.prog 91 x2i:=by
 refine meets (snd (SpecsOk.cons wp4 (SpecsOk.nil _))) Tryz.func91 rfl rfl (λ_ _=>none) (λ_=>by kernel_rfl) (by decide) ?_
 rintro⟨⟨n,d⟩,⟨⟩⟩ h
 revert n d
 intro(n:Int) (d:Int) (h:qc8 BIG n/\qc8 BIG d)
 refine @qe1 _ (let Q0:=qc7 n d; fits .i64 ((0:Int)-n)/\qc8 BIG (max2 true n ((0:Int)-n))/\qc8 BIG d/\decide (n<(0:Int))=Q0.1/\dgs (max2 true n ((0:Int)-n)).toNat=Q0.2.1/\dgs d.toNat=Q0.2.2/\True) (by kernel_rfl) ?_
 try simp only[z0,z1,z2,z3,z4,z5,z6,z7,z8,z9,z10,Int.reduceEq,z11,z12,z13,z14,z15,z16,z17,z18,z19,z20,z21,z22,z23,z24,z25,z26,z27,z28,z29,z30,Int.reduceLE,Int.reduceLT,z31,z32,z33,z34,qa1]
 try simp only[qb5,qb6,qd2,z31,z32,z2,z1]
 obtain⟨h1,h2⟩:=h
 have hB:BIG=4000000000000000000:=rfl
 unfold qc8 at h1
 refine⟨qa7 (by omega) (by omega),?_,h2,rfl,rfl,rfl⟩
 have e:max2 true n (0-n)=max n (0-n):=rfl
 rw[e]
 unfold qc8
 omega
abbrev yb6:qc9:=qg4 false none [qg0] [q5a] (λx=>qc8 BIG x.1) (λx=>(qc7 x.1 1,()))
theorem q79:Meets Tryz.prog 34 yb6:=by
 refine meets (snd (SpecsOk.cons q25 (SpecsOk.nil _))) Tryz.func34 rfl rfl (λ_ _=>none) (λ_=>by kernel_rfl) (by decide) ?_
 rintro⟨n,⟨⟩⟩ h
 revert n
 intro(n:Int) (h:qc8 BIG n)
 refine @qe1 _ ((qc8 BIG n/\qc8 BIG (1:Int))/\(qc7 n (1:Int)).1=(qc7 n (1:Int)).1/\(qc7 n (1:Int)).2.1=(qc7 n (1:Int)).2.1/\(qc7 n (1:Int)).2.2=(qc7 n (1:Int)).2.2/\True) (by kernel_rfl) ?_
 try simp only[z0,z1,z2,z3,z4,z5,z6,z7,z8,z9,z10,Int.reduceEq,z11,z12,z13,z14,z15,z16,z17,z18,z19,z20,z21,z22,z23,z24,z25,z26,z27,z28,z29,z30,Int.reduceLE,Int.reduceLT,z31,z32,z33,z34,qa1]
 try simp only[qb5,qb6,qd2,z31,z32,z2,z1]
 exact⟨h,by unfold qc8 BIG; omega⟩
abbrev x2j:qc9:=qg4 false none [q5a,q5a] [q5a] (λx=>RxOk 400 x.1/\RxOk 400 x.2.1) (λx=>(plusV x.1 x.2.1,()))
set_option maxHeartbeats 8000000 in
theorem q26:Meets Tryz.prog 89 x2j:=by
 refine meets (snd (SpecsOk.cons q21 (SpecsOk.cons w4e (SpecsOk.cons w89 (SpecsOk.cons ww2 (SpecsOk.nil _)))))) Tryz.func89 rfl rfl (λ_ _=>none) (λ_=>by kernel_rfl) (by decide) ?_
 rintro⟨⟨sa,na,da⟩,⟨sb,nb,db⟩,⟨⟩⟩ h
 revert sa na da sb nb db
 intro(sa:Bool) (na:List Int) (da:List Int) (sb:Bool) (nb:List Int) (db:List Int) (h:RxOk 400 (sa,na,da)/\RxOk 400 (sb,nb,db))
 refine @qe1 _ (let Q0:=(plusV (sa,na,da) (sb,nb,db)); let Q1:=q5t nb da; let Q2:=q5t na db; (DigOk na/\DigOk db)/\(DigOk nb/\DigOk da)/\(DigOk da/\DigOk db)/\((sa==sb)=true->(DigOk Q2/\DigOk Q1)/\sa=Q0.1/\x2v Q2 Q1=Q0.2.1/\q5t da db=Q0.2.2/\True)/\((sa==sb)=false->(DigOk Q2/\DigOk Q1)/\(decide ((0:Int)<=wq1 (valL Q2) (valL Q1))=true->(DigOk Q2/\DigOk Q1/\valL Q1<=valL Q2)/\sa=Q0.1/\xw7 Q2 Q1=Q0.2.1/\q5t da db=Q0.2.2/\True)/\(decide ((0:Int)<=wq1 (valL Q2) (valL Q1))=false->(DigOk Q1/\DigOk Q2/\valL Q2<=valL Q1)/\sb=Q0.1/\xw7 Q1 Q2=Q0.2.1/\q5t da db=Q0.2.2/\True))) (by kernel_rfl) ?_
 try simp only[z0,z1,z2,z3,z4,z5,z6,z7,z8,z9,z10,Int.reduceEq,z11,z12,z13,z14,z15,z16,z17,z18,z19,z20,z21,z22,z23,z24,z25,z26,z27,z28,z29,z30,Int.reduceLE,Int.reduceLT,z31,z32,z33,z34,qa1]
 try simp only[qb5,qb6,qd2,z31,z32,z2,z1]
 obtain⟨ha,hb⟩:=h
 have m1:=wp6 ha.n ha.ln hb.d hb.ld (by decide)
 have m2:=wp6 hb.n hb.ln ha.d ha.ld (by decide)
 have e1:=w9b na db
 have e2:=w9b nb da
 have eV:plusV (sa,na,da) (sb,nb,db)=if sa=sb then(sa,dgs (valL na*valL db+valL nb*valL da),q5t da db)
  else if valL nb*valL da<=valL na*valL db then(sa,dgs (valL na*valL db-valL nb*valL da),q5t da db) else(sb,dgs (valL nb*valL da-valL na*valL db),q5t da db):=rfl
 refine⟨⟨ha.dn,hb.dd⟩,⟨hb.dn,ha.dd⟩,⟨ha.dd,hb.dd⟩,λhs=>?_,λhs=>⟨⟨m1,m2⟩,λhc=>?_,λhc=>?_⟩⟩
 ·rw[eV,if_pos hs]
  refine⟨⟨m1,m2⟩,rfl,?_,rfl⟩
  unfold x2v; rw[e1,e2]
 ·have hc:=(q78 _ _).1 hc
  rw[e1,e2] at hc
  rw[eV,if_neg hs,if_pos hc]
  refine⟨⟨m1,m2,by rw[e1,e2]; exact hc⟩,rfl,?_,rfl⟩
  unfold xw7; rw[e1,e2]
 ·have hc:¬0<=wq1 (valL (q5t na db)) (valL (q5t nb da)):=Int.not_le.2 hc
  rw[q78,e1,e2] at hc
  rw[eV,if_neg hs,if_neg hc]
  refine⟨⟨m2,m1,by rw[e1,e2]; omega⟩,rfl,?_,rfl⟩
  unfold xw7; rw[e1,e2]
abbrev xv7:qc9:=qg4 false none [qg0,q5a] [q5a] (λx=>qc8 BIG x.1/\RxOk 900 x.2.1) (λx=>(qg6 x.1 x.2.1,()))
theorem q5n:Meets Tryz.prog 90 xv7:=by
 refine meets (snd (SpecsOk.cons q21 (SpecsOk.cons wp4 (SpecsOk.nil _)))) Tryz.func90 rfl rfl (λ_ _=>none) (λ_=>by kernel_rfl) (by decide) ?_
 rintro⟨n,⟨s,a,d⟩,⟨⟩⟩ h
 revert n s a d
 intro(n:Int) (s:Bool) (a:List Int) (d:List Int) (h:qc8 BIG n/\RxOk 900 (s,a,d))
 refine @qe1 _ (let Q0:=(qg6 n (s,a,d)); fits .i64 ((0:Int)-n)/\qc8 BIG (max2 true n ((0:Int)-n))/\(DigOk (dgs (max2 true n ((0:Int)-n)).toNat)/\DigOk a)/\(s != decide (n<(0:Int)))=Q0.1/\q5t (dgs (max2 true n ((0:Int)-n)).toNat) a=Q0.2.1/\d=Q0.2.2/\True) (by kernel_rfl) ?_
 try simp only[z0,z1,z2,z3,z4,z5,z6,z7,z8,z9,z10,Int.reduceEq,z11,z12,z13,z14,z15,z16,z17,z18,z19,z20,z21,z22,z23,z24,z25,z26,z27,z28,z29,z30,Int.reduceLE,Int.reduceLT,z31,z32,z33,z34,qa1]
 try simp only[qb5,qb6,qd2,z31,z32,z2,z1]
 obtain⟨hn,ha⟩:=h
 have hB:BIG=4000000000000000000:=rfl
 unfold qc8 at hn
 have e:max2 true n (0-n)=max n (0-n):=rfl
 have e3:BS ^ 3=1000000000000000000000000000:=by decide
 have hd:DigOk (dgs (max n (0-n)).toNat):=wp5 (k:=3) (by omega) (by omega)
 rw[e]
 refine⟨qa7 (by omega) (by omega),by unfold qc8; omega,⟨hd,ha.dn⟩,rfl,?_,rfl⟩
 unfold q5t qg6
 rw[qh4]
abbrev x6g:qc9:=qg4 true none [q5a,q5a] [qg0] (λx=>RxOk 300 x.1/\RxOk 300 x.2.1) (λx=>(q5u x.1 x.2.1,()))
theorem w4i:Meets Tryz.prog 32 x6g:=by
 refine meets (snd (SpecsOk.cons q5n (SpecsOk.cons q26 (SpecsOk.nil _)))) Tryz.func32 rfl rfl (λ_ _=>none) (λ_=>by kernel_rfl) (by decide) ?_
 rintro⟨⟨sa,na,da⟩,⟨sb,nb,db⟩,⟨⟩⟩ h
 revert sa na da sb nb db
 intro(sa:Bool) (na:List Int) (da:List Int) (sb:Bool) (nb:List Int) (db:List Int) (h:RxOk 300 (sa,na,da)/\RxOk 300 (sb,nb,db))
 refine @qe1 _ (let Q0:=(sb,nb,db); let Q1:=(sa,na,da); (qc8 BIG (-1:Int)/\RxOk (900:Nat) Q0)/\(RxOk (400:Nat) Q1/\RxOk (400:Nat) ((qg6 (-1:Int) Q0).1,(qg6 (-1:Int) Q0).2.1,(qg6 (-1:Int) Q0).2.2))/\(((↑(plusV Q1 ((qg6 (-1:Int) Q0).1,(qg6 (-1:Int) Q0).2.1,(qg6 (-1:Int) Q0).2.2)).2.1.length:Int)==(0:Int))=true->(0:Int)=q5u Q1 Q0)/\(((↑(plusV Q1 ((qg6 (-1:Int) Q0).1,(qg6 (-1:Int) Q0).2.1,(qg6 (-1:Int) Q0).2.2)).2.1.length:Int)==(0:Int))=false->((plusV Q1 ((qg6 (-1:Int) Q0).1,(qg6 (-1:Int) Q0).2.1,(qg6 (-1:Int) Q0).2.2)).1=true->(-1:Int)=q5u Q1 Q0)/\((plusV Q1 ((qg6 (-1:Int) Q0).1,(qg6 (-1:Int) Q0).2.1,(qg6 (-1:Int) Q0).2.2)).1=false->(1:Int)=q5u Q1 Q0))) (by kernel_rfl) ?_
 try simp only[z0,z1,z2,z3,z4,z5,z6,z7,z8,z9,z10,Int.reduceEq,z11,z12,z13,z14,z15,z16,z17,z18,z19,z20,z21,z22,z23,z24,z25,z26,z27,z28,z29,z30,Int.reduceLE,Int.reduceLT,z31,z32,z33,z34,qa1]
 try simp only[qb5,qb6,qd2,z31,z32,z2,z1]
 obtain⟨ha,hb⟩:=h
 have hs:=wg8 (n:=-1) (by unfold qc8 BIG; omega) hb
 refine⟨⟨by unfold qc8 BIG; omega,hb.up⟩,⟨ha.up,hs.up⟩,λh0=>?_,λh0=>⟨λh1=>?_,λh1=>?_⟩⟩
 ·have h0:(plusV (sa,na,da) (qg6 (-1) (sb,nb,db))).2.1.length=0:=Int.natCast_eq_zero.1 h0
  unfold q5u; rw[if_pos h0]
 ·have h0:¬(plusV (sa,na,da) (qg6 (-1) (sb,nb,db))).2.1.length=0:=λq=>h0 (Int.natCast_eq_zero.2 q)
  have h1:(plusV (sa,na,da) (qg6 (-1) (sb,nb,db))).1=true:=h1
  unfold q5u; rw[if_neg h0,if_pos h1]
 ·have h0:¬(plusV (sa,na,da) (qg6 (-1) (sb,nb,db))).2.1.length=0:=λq=>h0 (Int.natCast_eq_zero.2 q)
  have h1:¬(plusV (sa,na,da) (qg6 (-1) (sb,nb,db))).1=true:=by
   intro q
   have h1:(plusV (sa,na,da) (qg6 (-1) (sb,nb,db))).1=false:=h1
   rw[h1] at q; cases q
  unfold q5u; rw[if_neg h0,if_neg h1]
structure w9c (r:List Int) (x:List (Int × Int)):Prop where
 len:r.length<=20
 le:r.length<=x.length
 row:∀j,j<r.length->qc8 1 (nI r j)
 val:∀j,j<r.length->qc8 BIG (nR x j).1/\qc8 BIG (nR x j).2
theorem ww3 {r:List Int} {x:List (Int × Int)} (h:w9c r x):∀k,k<=r.length->RxOk (7*k+3) (qe6 r x k)
 | 0,_=>q0f (by unfold qc8 BIG; omega) (by unfold qc8 BIG; omega)
 | k+1,hk=>by
  have ih:=ww3 h k (by omega)
  rw[qe6]
  split
  ·have h1:=h.row k (by omega)
   have:=w9a ih (wg8 (n:=nI r k) (by unfold qc8 at *; unfold BIG; omega) (q0f (h.val k (by omega)).1 (h.val k (by omega)).2))
   exact⟨this.n,this.d,by have:=this.ln; omega,by have:=this.ld; omega⟩
  ·exact⟨ih.n,ih.d,by have:=ih.ln; omega,by have:=ih.ld; omega⟩
abbrev x6h:qc9:=qg4 false none [qf1,xc8] [q5a] (λx=>w9c x.1 x.2.1) (λx=>(qe6 x.1 x.2.1 x.1.length,()))
def x2k (r:List Int) (x:List (Int × Int)):Nat->Option Inv
 | 0=>some (Inv.of [11] 2 (λk:Nat=>[(11,.lit (.int .i64 k))]) (λk=>[.box 65 (.cons (.lit (.bool false)) (.cons (.lit (.slice .none 0 0)) (.cons (.lit (.slice .none 0 0)) .nil))),.box 65 (.cons (.lit (.bool (qe6 r x k).1)) (.cons (.dat (.int .i64) (qe6 r x k).2.1) (.cons (.dat (.int .i64) (qe6 r x k).2.2) .nil)))]) (λk=>k<=r.length) (λk=>r.length-k))
 | _=>none
theorem w4j:Meets Tryz.prog 33 x6h:=by
 refine meets (snd (SpecsOk.cons q79 (SpecsOk.cons q25 (SpecsOk.cons q5n (SpecsOk.cons q26 (SpecsOk.nil _)))))) Tryz.func33 rfl rfl (λx=>x2k x.1 x.2.1) (λ_=>by kernel_rfl) (by decide) ?_
 rintro⟨r,x,⟨⟩⟩ h
 revert r x
 intro(r:List Int) (x:List (Int × Int)) (h:w9c r x)
 refine @qe1 _ (let Q0:=qe6 r x r.length; qc8 BIG (0:Int)/\∃(v0:Unit),∃(v1:Nat),Nat.le v1 r.length/\(((0:Int)=(↑v1:Int)/\True)/\(false=false/\Value.slice none (0:Nat) (0:Nat)=Value.slice none (0:Nat) (0:Nat)/\Value.slice none (0:Nat) (0:Nat)=Value.slice none (0:Nat) (0:Nat)/\True)/\((qc7 (0:Int) (1:Int)).1=(qe6 r x v1).1/\(qc7 (0:Int) (1:Int)).2.1=(qe6 r x v1).2.1/\(qc7 (0:Int) (1:Int)).2.2=(qe6 r x v1).2.2/\True)/\True)/\∀(v2:Nat),Nat.le v2 r.length->(decide ((↑v2:Int)<(↑r.length:Int))=true->((0:Int)<=(↑v2:Int)/\(↑v2:Int)<(↑r.length:Int))/\((nI r v2 != (0:Int))=true->((0:Int)<=(↑v2:Int)/\(↑v2:Int)<(↑x.length:Int))/\(qc8 BIG (qd1 (Ty.prod (Ty.int .i64) (Ty.int .i64)) x v2).1/\qc8 BIG (qd1 (Ty.prod (Ty.int .i64) (Ty.int .i64)) x v2).2)/\(qc8 BIG (nI r v2)/\RxOk (900:Nat) ((qc7 (qd1 (Ty.prod (Ty.int .i64) (Ty.int .i64)) x v2).1 (qd1 (Ty.prod (Ty.int .i64) (Ty.int .i64)) x v2).2).1,(qc7 (qd1 (Ty.prod (Ty.int .i64) (Ty.int .i64)) x v2).1 (qd1 (Ty.prod (Ty.int .i64) (Ty.int .i64)) x v2).2).2.1,(qc7 (qd1 (Ty.prod (Ty.int .i64) (Ty.int .i64)) x v2).1 (qd1 (Ty.prod (Ty.int .i64) (Ty.int .i64)) x v2).2).2.2))/\(RxOk (400:Nat) ((qe6 r x v2).1,(qe6 r x v2).2.1,(qe6 r x v2).2.2)/\RxOk (400:Nat) ((qg6 (nI r v2) ((qc7 (qd1 (Ty.prod (Ty.int .i64) (Ty.int .i64)) x v2).1 (qd1 (Ty.prod (Ty.int .i64) (Ty.int .i64)) x v2).2).1,(qc7 (qd1 (Ty.prod (Ty.int .i64) (Ty.int .i64)) x v2).1 (qd1 (Ty.prod (Ty.int .i64) (Ty.int .i64)) x v2).2).2.1,(qc7 (qd1 (Ty.prod (Ty.int .i64) (Ty.int .i64)) x v2).1 (qd1 (Ty.prod (Ty.int .i64) (Ty.int .i64)) x v2).2).2.2)).1,(qg6 (nI r v2) ((qc7 (qd1 (Ty.prod (Ty.int .i64) (Ty.int .i64)) x v2).1 (qd1 (Ty.prod (Ty.int .i64) (Ty.int .i64)) x v2).2).1,(qc7 (qd1 (Ty.prod (Ty.int .i64) (Ty.int .i64)) x v2).1 (qd1 (Ty.prod (Ty.int .i64) (Ty.int .i64)) x v2).2).2.1,(qc7 (qd1 (Ty.prod (Ty.int .i64) (Ty.int .i64)) x v2).1 (qd1 (Ty.prod (Ty.int .i64) (Ty.int .i64)) x v2).2).2.2)).2.1,(qg6 (nI r v2) ((qc7 (qd1 (Ty.prod (Ty.int .i64) (Ty.int .i64)) x v2).1 (qd1 (Ty.prod (Ty.int .i64) (Ty.int .i64)) x v2).2).1,(qc7 (qd1 (Ty.prod (Ty.int .i64) (Ty.int .i64)) x v2).1 (qd1 (Ty.prod (Ty.int .i64) (Ty.int .i64)) x v2).2).2.1,(qc7 (qd1 (Ty.prod (Ty.int .i64) (Ty.int .i64)) x v2).1 (qd1 (Ty.prod (Ty.int .i64) (Ty.int .i64)) x v2).2).2.2)).2.2))/\fits .i64 ((↑v2:Int)+(1:Int))/\∃(v6:Nat),Nat.le v6 r.length/\r.length-v6<r.length-v2/\((↑v2:Int)+(1:Int)=(↑v6:Int)/\True)/\(false=false/\Value.slice none (0:Nat) (0:Nat)=Value.slice none (0:Nat) (0:Nat)/\Value.slice none (0:Nat) (0:Nat)=Value.slice none (0:Nat) (0:Nat)/\True)/\((plusV ((qe6 r x v2).1,(qe6 r x v2).2.1,(qe6 r x v2).2.2) ((qg6 (nI r v2) ((qc7 (qd1 (Ty.prod (Ty.int .i64) (Ty.int .i64)) x v2).1 (qd1 (Ty.prod (Ty.int .i64) (Ty.int .i64)) x v2).2).1,(qc7 (qd1 (Ty.prod (Ty.int .i64) (Ty.int .i64)) x v2).1 (qd1 (Ty.prod (Ty.int .i64) (Ty.int .i64)) x v2).2).2.1,(qc7 (qd1 (Ty.prod (Ty.int .i64) (Ty.int .i64)) x v2).1 (qd1 (Ty.prod (Ty.int .i64) (Ty.int .i64)) x v2).2).2.2)).1,(qg6 (nI r v2) ((qc7 (qd1 (Ty.prod (Ty.int .i64) (Ty.int .i64)) x v2).1 (qd1 (Ty.prod (Ty.int .i64) (Ty.int .i64)) x v2).2).1,(qc7 (qd1 (Ty.prod (Ty.int .i64) (Ty.int .i64)) x v2).1 (qd1 (Ty.prod (Ty.int .i64) (Ty.int .i64)) x v2).2).2.1,(qc7 (qd1 (Ty.prod (Ty.int .i64) (Ty.int .i64)) x v2).1 (qd1 (Ty.prod (Ty.int .i64) (Ty.int .i64)) x v2).2).2.2)).2.1,(qg6 (nI r v2) ((qc7 (qd1 (Ty.prod (Ty.int .i64) (Ty.int .i64)) x v2).1 (qd1 (Ty.prod (Ty.int .i64) (Ty.int .i64)) x v2).2).1,(qc7 (qd1 (Ty.prod (Ty.int .i64) (Ty.int .i64)) x v2).1 (qd1 (Ty.prod (Ty.int .i64) (Ty.int .i64)) x v2).2).2.1,(qc7 (qd1 (Ty.prod (Ty.int .i64) (Ty.int .i64)) x v2).1 (qd1 (Ty.prod (Ty.int .i64) (Ty.int .i64)) x v2).2).2.2)).2.2)).1=(qe6 r x v6).1/\(plusV ((qe6 r x v2).1,(qe6 r x v2).2.1,(qe6 r x v2).2.2) ((qg6 (nI r v2) ((qc7 (qd1 (Ty.prod (Ty.int .i64) (Ty.int .i64)) x v2).1 (qd1 (Ty.prod (Ty.int .i64) (Ty.int .i64)) x v2).2).1,(qc7 (qd1 (Ty.prod (Ty.int .i64) (Ty.int .i64)) x v2).1 (qd1 (Ty.prod (Ty.int .i64) (Ty.int .i64)) x v2).2).2.1,(qc7 (qd1 (Ty.prod (Ty.int .i64) (Ty.int .i64)) x v2).1 (qd1 (Ty.prod (Ty.int .i64) (Ty.int .i64)) x v2).2).2.2)).1,(qg6 (nI r v2) ((qc7 (qd1 (Ty.prod (Ty.int .i64) (Ty.int .i64)) x v2).1 (qd1 (Ty.prod (Ty.int .i64) (Ty.int .i64)) x v2).2).1,(qc7 (qd1 (Ty.prod (Ty.int .i64) (Ty.int .i64)) x v2).1 (qd1 (Ty.prod (Ty.int .i64) (Ty.int .i64)) x v2).2).2.1,(qc7 (qd1 (Ty.prod (Ty.int .i64) (Ty.int .i64)) x v2).1 (qd1 (Ty.prod (Ty.int .i64) (Ty.int .i64)) x v2).2).2.2)).2.1,(qg6 (nI r v2) ((qc7 (qd1 (Ty.prod (Ty.int .i64) (Ty.int .i64)) x v2).1 (qd1 (Ty.prod (Ty.int .i64) (Ty.int .i64)) x v2).2).1,(qc7 (qd1 (Ty.prod (Ty.int .i64) (Ty.int .i64)) x v2).1 (qd1 (Ty.prod (Ty.int .i64) (Ty.int .i64)) x v2).2).2.1,(qc7 (qd1 (Ty.prod (Ty.int .i64) (Ty.int .i64)) x v2).1 (qd1 (Ty.prod (Ty.int .i64) (Ty.int .i64)) x v2).2).2.2)).2.2)).2.1=(qe6 r x v6).2.1/\(plusV ((qe6 r x v2).1,(qe6 r x v2).2.1,(qe6 r x v2).2.2) ((qg6 (nI r v2) ((qc7 (qd1 (Ty.prod (Ty.int .i64) (Ty.int .i64)) x v2).1 (qd1 (Ty.prod (Ty.int .i64) (Ty.int .i64)) x v2).2).1,(qc7 (qd1 (Ty.prod (Ty.int .i64) (Ty.int .i64)) x v2).1 (qd1 (Ty.prod (Ty.int .i64) (Ty.int .i64)) x v2).2).2.1,(qc7 (qd1 (Ty.prod (Ty.int .i64) (Ty.int .i64)) x v2).1 (qd1 (Ty.prod (Ty.int .i64) (Ty.int .i64)) x v2).2).2.2)).1,(qg6 (nI r v2) ((qc7 (qd1 (Ty.prod (Ty.int .i64) (Ty.int .i64)) x v2).1 (qd1 (Ty.prod (Ty.int .i64) (Ty.int .i64)) x v2).2).1,(qc7 (qd1 (Ty.prod (Ty.int .i64) (Ty.int .i64)) x v2).1 (qd1 (Ty.prod (Ty.int .i64) (Ty.int .i64)) x v2).2).2.1,(qc7 (qd1 (Ty.prod (Ty.int .i64) (Ty.int .i64)) x v2).1 (qd1 (Ty.prod (Ty.int .i64) (Ty.int .i64)) x v2).2).2.2)).2.1,(qg6 (nI r v2) ((qc7 (qd1 (Ty.prod (Ty.int .i64) (Ty.int .i64)) x v2).1 (qd1 (Ty.prod (Ty.int .i64) (Ty.int .i64)) x v2).2).1,(qc7 (qd1 (Ty.prod (Ty.int .i64) (Ty.int .i64)) x v2).1 (qd1 (Ty.prod (Ty.int .i64) (Ty.int .i64)) x v2).2).2.1,(qc7 (qd1 (Ty.prod (Ty.int .i64) (Ty.int .i64)) x v2).1 (qd1 (Ty.prod (Ty.int .i64) (Ty.int .i64)) x v2).2).2.2)).2.2)).2.2=(qe6 r x v6).2.2/\True)/\True)/\((nI r v2 != (0:Int))=false->fits .i64 ((↑v2:Int)+(1:Int))/\∃(v6:Nat),Nat.le v6 r.length/\r.length-v6<r.length-v2/\((↑v2:Int)+(1:Int)=(↑v6:Int)/\True)/\(false=false/\Value.slice none (0:Nat) (0:Nat)=Value.slice none (0:Nat) (0:Nat)/\Value.slice none (0:Nat) (0:Nat)=Value.slice none (0:Nat) (0:Nat)/\True)/\((qe6 r x v2).1=(qe6 r x v6).1/\(qe6 r x v2).2.1=(qe6 r x v6).2.1/\(qe6 r x v2).2.2=(qe6 r x v6).2.2/\True)/\True))/\(decide ((↑v2:Int)<(↑r.length:Int))=false->(qe6 r x v2).1=Q0.1/\(qe6 r x v2).2.1=Q0.2.1/\(qe6 r x v2).2.2=Q0.2.2/\True)) (by kernel_rfl) ?_
 try simp only[z0,z1,z2,z3,z4,z5,z6,z7,z8,z9,z10,Int.reduceEq,z11,z12,z13,z14,z15,z16,z17,z18,z19,z20,z21,z22,z23,z24,z25,z26,z27,z28,z29,z30,Int.reduceLE,Int.reduceLT,z31,z32,z33,z34,qa1]
 try simp only[qb5,qb6,qd2,z31,z32,z2,z1]
 have hl:=h.len
 have hle:=h.le
 refine⟨by unfold qc8 BIG; omega,(),0,Nat.zero_le _,⟨rfl,rfl,rfl,rfl⟩,λk hk=>⟨λhlt=>?_,λhge=>?_⟩⟩
 ·have hx:=ww3 h k hk
  have hv:=h.val k hlt
  have hr:=h.row k hlt
  have hr2:qc8 BIG (nI r k):=by unfold qc8 at *; unfold BIG; omega
  have hE:=q0f hv.1 hv.2
  have hS:=wg8 hr2 hE
  refine⟨hlt,λhz=>?_,λhz=>?_⟩
  ·have es:qe6 r x (k+1)=plusV (qe6 r x k) (qg6 (nI r k) (qc7 (nR x k).1 (nR x k).2)):=by rw[qe6,if_pos hz]
   exact⟨by omega,hv,⟨hr2,hE.up⟩,⟨hx.up,hS.up⟩,qa7 (by omega) (by omega),k+1,hlt,by omega,by omega,congrArg Prod.fst es.symm,congrArg (λp=>p.2.1) es.symm,congrArg (λp=>p.2.2) es.symm⟩
  ·have es:qe6 r x (k+1)=qe6 r x k:=by rw[qe6,if_neg λq=>q hz]
   exact⟨qa7 (by omega) (by omega),k+1,hlt,by omega,by omega,by rw[es],by rw[es],by rw[es]⟩
 ·obtain rfl:k=r.length:=by omega
  exact⟨rfl,rfl,rfl⟩
end Go.Proofs.YtmijnbjlhnpokaaGreat
