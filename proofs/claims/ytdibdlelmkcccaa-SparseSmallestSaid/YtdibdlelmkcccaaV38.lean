/- Exact fractions of the reference: contracts by the engine. No condition. -/
import Derived.Test.YtdibdlelmkcccaaV24
import Derived.Test.YtdibdlelmkcccaaW18
import Derived.Test.YtdibdlelmkcccaaW20
set_option linter.unusedVariables false
set_option linter.unusedSimpArgs false
namespace Go.Proofs.Ytdibdlelmkcccaa
open Go Go.RowKit Eng
structure DigOk (l:List Int):Prop where
 len:l.length<=1000
 eq:l=dgs (valL l)
structure w7d (l:List Int):Prop where
 len:l.length<=2000
 eq:l=qh0 (valL l) l.length
 lt:valL l<BS ^ l.length
theorem DigOk.lenD {l:List Int} (h:DigOk l):l.length=lenD (valL l):=by
 conv=>lhs; rw[h.eq]
 rw[q0k]
theorem DigOk.at_ {l:List Int} (h:DigOk l) {i:Nat} (hi:i<l.length):nI l i=((valL l / BS ^ i % BS:Nat):Int):=by
 have:=xx9 (valL l) i
 rw[if_pos (by rw[<- h.lenD]; exact hi),<- h.eq] at this
 exact this
theorem q8r (A i:Nat):(0:Int)<=((A / BS ^ i % BS:Nat):Int)/\((A / BS ^ i % BS:Nat):Int)<1000000000:=by
 have:A / BS ^ i % BS<BS:=Nat.mod_lt _ (by decide)
 have e:BS=1000000000:=rfl
 omega
theorem w7e (n:Nat):((n:Int)).tmod 1000000000=((n % BS:Nat):Int):=by
 rw[show(1000000000:Int)=((BS:Nat):Int) from rfl]; rfl
theorem w7f (n:Nat):((n:Int)).tdiv 1000000000=((n / BS:Nat):Int):=by
 rw[show(1000000000:Int)=((BS:Nat):Int) from rfl]; rfl
theorem q40 {q:Nat} (h:q<=4000000000000000000):fits IntKind.i64 ((q:Nat):Int):=qb9 (by omega) (by omega)
theorem w0l {S n:Nat} (h:S<BS ^ n) (hn:n<=2000):w7d (qh0 S n)/\dgs (valL (qh0 S n))=dgs S:=⟨⟨by rw[qi3]; exact hn,by rw[wa2 h,qi3],by rw[wa2 h,qi3]; exact h⟩,by rw[wa2 h]⟩
abbrev x7d:qc7:=qg3 true none [qg4] [qf7] (λx=>qd2 BIG x.1) (λx=>(dgs x.1.toNat,()))
structure xa8 (n:Int) (i:Nat) (r:Int):Prop where
 le:i<=lenD n.toNat
 eq:0<n->r=((n.toNat / BS ^ i:Nat):Int)
 neg:n<=0->r=n/\i=0
def x3e (n:Int):Nat->Option Inv
 | 0=>some (Inv.of [0,3] 1 (λs:Nat × Int=>[(0,.lit (.int .i64 s.2)),(3,.own 0)]) (λs=>[.vec 3 (.int .i64) (qh0 n.toNat s.1)]) (λs=>xa8 n s.1 s.2) (λs=>lenD n.toNat-s.1))
 | _=>none
theorem wk9:qd8 Try.prog 141 x7d:=by
 refine meets (snd (SpecsOk.nil _)) Try.func141 rfl rfl (λx=>x3e x.1) (λ_=>by kernel_rfl) (by decide) ?_
 rintro⟨n,⟨⟩⟩ h
 revert n
 intro(n:Int) (h:qd2 BIG n)
 refine @qe0 _ (∃(v0:Unit),∃(v1:Nat × Int),xa8 n (Prod.fst v1) (Prod.snd v1)/\((n=Prod.snd v1/\True/\True)/\qh0 (Int.toNat n) (Prod.fst v1)=[]/\True)/\∀(v2:Nat × Int),xa8 n (Prod.fst v2) (Prod.snd v2)->(decide ((0:Int)<Prod.snd v2)=true->(1000000000:Int)≠(0:Int)/\((0:Nat)<List.length [Int.tmod (Prod.snd v2) (1000000000:Int)]/\Nat.le (List.length (qh0 (Int.toNat n) (Prod.fst v2))+List.length [Int.tmod (Prod.snd v2) (1000000000:Int)]) (1000000:Nat))/\(1000000000:Int)≠(0:Int)/\fits .i64 (Int.tdiv (Prod.snd v2) (1000000000:Int))/\∃(v5:Nat × Int),xa8 n (Prod.fst v5) (Prod.snd v5)/\lenD (Int.toNat n)-Prod.fst v5<lenD (Int.toNat n)-Prod.fst v2/\(Int.tdiv (Prod.snd v2) (1000000000:Int)=Prod.snd v5/\True/\True)/\qh0 (Int.toNat n) (Prod.fst v2)++[Int.tmod (Prod.snd v2) (1000000000:Int)]=qh0 (Int.toNat n) (Prod.fst v5)/\True)/\(decide ((0:Int)<Prod.snd v2)=false->qh0 (Int.toNat n) (Prod.fst v2)=dgs (Int.toNat n))) (by kernel_rfl) ?_
 try simp only[z0,z1,z2,z3,z4,z5,z6,z7,z8,z9,z10,Int.reduceEq,z11,z12,z13,z14,z15,z16,z17,z18,z19,z20,z21,z22,z23,z24,z25,z26,z27,z28,z29,z30,Int.reduceLE,Int.reduceLT,z31,z32,z33,z34,qa3]
 try simp only[qb3,qb4,qc8,List.set_cons_zero,List.cons.injEq,and_true,true_and]
 have hB:BIG=4000000000000000000:=rfl
 have e3:BS ^ 3=1000000000000000000000000000:=by decide
 unfold qd2 at h
 have h3:lenD n.toNat<=3:=q0j (by omega)
 refine⟨(),(0,n),⟨Nat.zero_le _,λh0=>?_,λ_=>⟨rfl,rfl⟩⟩,⟨rfl,rfl⟩,λ⟨i,r⟩ hs=>?_⟩
 ·dsimp only; rw[Nat.pow_zero,Nat.div_one]; omega
 dsimp only at hs ⊢
 have hle:=hs.le
 refine⟨λhpos=>?_,λhneg=>?_⟩
 ·have hn:0<n:=by
   rcases Int.lt_or_le 0 n with q | q
   ·exact q
   ·have:=(hs.neg q).1; omega
  have hr:=hs.eq hn
  have hi:i<lenD n.toNat:=qr5.2 (by
   have:0<n.toNat / BS ^ i:=by omega
   exact(Nat.div_pos_iff.1 this).2)
  have hq:n.toNat / BS ^ i<=n.toNat:=Nat.div_le_self _ _
  have hq2:n.toNat / BS ^ i / BS<=n.toNat / BS ^ i:=Nat.div_le_self _ _
  rw[hr,w7f,w7e]
  refine⟨by rw[qi3]; omega,q40 (by omega),(i+1,((n.toNat / BS ^ i / BS:Nat):Int)),⟨hi,λ_=>?_,λq=>absurd q (by omega)⟩,by dsimp only; omega,rfl,rfl⟩
  dsimp only; rw[qp4]
 ·rcases Int.lt_or_le 0 n with q | q
  ·have hr:=hs.eq q
   have hz:n.toNat / BS ^ i=0:=Nat.le_zero.1 (Int.ofNat_le.1 (hr ▸ hneg))
   refine w0i ((Nat.div_eq_zero_iff.1 hz).resolve_left (by have:=qm6 i; omega)) ?_
   rcases Nat.eq_zero_or_pos i with q2 | q2
   ·exact .inl q2
   ·exact .inr (qr5.1 (by omega))
  ·obtain⟨_,rfl⟩:=hs.neg q
   rw[show n.toNat=0 by omega]
   rfl
abbrev x3f:qc7:=qg3 false none [qf7] [qf7] (λx=>w7d x.1) (λx=>(dgs (valL x.1),()))
structure w0m (S n k:Nat):Prop where
 le:k<=n
 lt:S<BS ^ k
def xy3 (S n:Nat):Nat->Option Inv
 | 0=>some (Inv.of [0] 0 (λk:Nat=>[(0,.dat (.int .i64) (qh0 S k))]) (λ_=>[]) (λk=>w0m S n k) (λk=>k))
 | _=>none
theorem q8s:qd8 Try.prog 157 x3f:=by
 refine meets (snd (SpecsOk.nil _)) Try.func157 rfl rfl (λx=>xy3 (valL x.1) x.1.length) (λ_=>by kernel_rfl) (by decide) ?_
 rintro⟨l,⟨⟩⟩ h
 revert l
 intro(l:List Int) (h:w7d l)
 refine @qe0 _ (∃(v0:Unit),∃(v1:Nat),w0m (valL l) (List.length l) v1/\((l=qh0 (valL l) v1/\True)/\True)/\∀(v2:Nat),w0m (valL l) (List.length l) v2->(decide ((0:Int)<(↑(List.length (qh0 (valL l) v2)):Int))=true->fits .i64 ((↑(List.length (qh0 (valL l) v2)):Int)-(1:Int))/\((0:Int)<=(↑(List.length (qh0 (valL l) v2)):Int)-(1:Int)/\(↑(List.length (qh0 (valL l) v2)):Int)-(1:Int)<(↑(List.length (qh0 (valL l) v2)):Int))/\((qa1 (Ty.int .i64) (qh0 (valL l) v2) (Int.toNat ((↑(List.length (qh0 (valL l) v2)):Int)-(1:Int)))==(0:Int))=true->fits .i64 ((↑(List.length (qh0 (valL l) v2)):Int)-(1:Int))/\((0:Int)<=(0:Int)/\(0:Int)<=(↑(List.length (qh0 (valL l) v2)):Int)-(1:Int)/\(↑(List.length (qh0 (valL l) v2)):Int)-(1:Int)<=(↑(List.length (qh0 (valL l) v2)):Int))/\∃(v6:Nat),w0m (valL l) (List.length l) v6/\v6<v2/\(List.drop (0:Nat) (List.take (Int.toNat ((↑(List.length (qh0 (valL l) v2)):Int)-(1:Int))) (qh0 (valL l) v2))=qh0 (valL l) v6/\True)/\True)/\((qa1 (Ty.int .i64) (qh0 (valL l) v2) (Int.toNat ((↑(List.length (qh0 (valL l) v2)):Int)-(1:Int)))==(0:Int))=false->qh0 (valL l) v2=dgs (valL l)))/\(decide ((0:Int)<(↑(List.length (qh0 (valL l) v2)):Int))=false->qh0 (valL l) v2=dgs (valL l))) (by kernel_rfl) ?_
 try simp only[z0,z1,z2,z3,z4,z5,z6,z7,z8,z9,z10,Int.reduceEq,z11,z12,z13,z14,z15,z16,z17,z18,z19,z20,z21,z22,z23,z24,z25,z26,z27,z28,z29,z30,Int.reduceLE,Int.reduceLT,z31,z32,z33,z34,qa3]
 try simp only[qb3,qb4,qc8,List.set_cons_zero,List.cons.injEq,and_true,true_and]
 refine⟨(),l.length,⟨Nat.le_refl _,h.lt⟩,h.eq,λk hk=>?_⟩
 have hl:=h.len
 have hkl:=hk.le
 have hS:=hk.lt
 generalize valL l=S at *
 simp only[qi3]
 refine⟨λhpos=>?_,λh0=>?_⟩
 ·obtain⟨j,rfl⟩:∃j,k=j+1:=⟨k-1,by omega⟩
  have e:(((j+1:Nat):Int)-1).toNat=j:=by omega
  rw[e,q1w S _ j (by omega)]
  refine⟨qb9 (by omega) (by omega),⟨by omega,by omega⟩,λhz=>⟨qb9 (by omega) (by omega),⟨by omega,by omega⟩,j,⟨by omega,xn7 hS (Int.ofNat.inj hz)⟩,by omega,?_⟩,λhz=>?_⟩
  ·rw[List.drop_zero]; exact xn8 S j
  ·exact w0i hS (.inr (by rw[Nat.add_sub_cancel]; exact xy1 λq=>hz (by rw[q]; rfl)))
 ·obtain rfl:k=0:=by omega
  exact w0i hS (.inl rfl)
def wm2 (A B:Nat):Int:=if A<B then -1 else if A=B then 0 else 1
abbrev x7e:qc7:=qg3 true none [qf7,qf7] [qg4] (λx=>DigOk x.1/\DigOk x.2.1) (λx=>(wm2 (valL x.1) (valL x.2.1),()))
structure xa9 (A B n:Nat) (i:Int):Prop where
 lo:-1<=i
 hi:i<n
 eq:A / BS ^ (i+1).toNat=B / BS ^ (i+1).toNat
def x3g (A B n:Nat):Nat->Option Inv
 | 0=>some (Inv.of [5] 0 (λi:Int=>[(5,.lit (.int .i64 i))]) (λ_=>[]) (λi=>xa9 A B n i) (λi=>(i+1).toNat))
 | _=>none
theorem w7g:qd8 Try.prog 139 x7e:=by
 refine meets (snd (SpecsOk.nil _)) Try.func139 rfl rfl (λx=>x3g (valL x.1) (valL x.2.1) x.1.length) (λ_=>by kernel_rfl) (by decide) ?_
 rintro⟨a,b,⟨⟩⟩ h
 revert a b
 intro(a:List Int) (b:List Int) (h:DigOk a/\DigOk b)
 refine @qe0 _ ((((↑(List.length a):Int) != (↑(List.length b):Int))=true->(decide ((↑(List.length a):Int)<(↑(List.length b):Int))=true->(-1:Int)=wm2 (valL a) (valL b))/\(decide ((↑(List.length a):Int)<(↑(List.length b):Int))=false->(1:Int)=wm2 (valL a) (valL b)))/\(((↑(List.length a):Int) != (↑(List.length b):Int))=false->fits .i64 ((↑(List.length a):Int)-(1:Int))/\∃(v1:Unit),∃(v2:Int),xa9 (valL a) (valL b) (List.length a) v2/\(((↑(List.length a):Int)-(1:Int)=v2/\True)/\True)/\∀(v3:Int),xa9 (valL a) (valL b) (List.length a) v3->(decide ((0:Int)<=v3)=true->((0:Int)<=v3/\v3<(↑(List.length a):Int))/\((0:Int)<=v3/\v3<(↑(List.length b):Int))/\(decide (qa1 (Ty.int .i64) a (Int.toNat v3)<qa1 (Ty.int .i64) b (Int.toNat v3))=true->(-1:Int)=wm2 (valL a) (valL b))/\(decide (qa1 (Ty.int .i64) a (Int.toNat v3)<qa1 (Ty.int .i64) b (Int.toNat v3))=false->((0:Int)<=v3/\v3<(↑(List.length a):Int))/\((0:Int)<=v3/\v3<(↑(List.length b):Int))/\(decide (qa1 (Ty.int .i64) b (Int.toNat v3)<qa1 (Ty.int .i64) a (Int.toNat v3))=true->(1:Int)=wm2 (valL a) (valL b))/\(decide (qa1 (Ty.int .i64) b (Int.toNat v3)<qa1 (Ty.int .i64) a (Int.toNat v3))=false->fits .i64 (v3-(1:Int))/\∃(v8:Int),xa9 (valL a) (valL b) (List.length a) v8/\Int.toNat (v8+(1:Int))<Int.toNat (v3+(1:Int))/\(v3-(1:Int)=v8/\True)/\True)))/\(decide ((0:Int)<=v3)=false->(0:Int)=wm2 (valL a) (valL b)))) (by kernel_rfl) ?_
 try simp only[z0,z1,z2,z3,z4,z5,z6,z7,z8,z9,z10,Int.reduceEq,z11,z12,z13,z14,z15,z16,z17,z18,z19,z20,z21,z22,z23,z24,z25,z26,z27,z28,z29,z30,Int.reduceLE,Int.reduceLT,z31,z32,z33,z34,qa3]
 try simp only[qb3,qb4,qc8,List.set_cons_zero,List.cons.injEq,and_true,true_and]
 obtain⟨ha,hb⟩:=h
 have la:=ha.lenD
 have lb:=hb.lenD
 have na:=ha.len
 have nb:=hb.len
 have less:∀X Y:Nat,lenD X<lenD Y->X<Y:=λX Y q=>by
  have h1:=qr5.1 q
  have h2:=qm3 X
  omega
 refine⟨λhne=>⟨λhlt=>?_,λhlt=>?_⟩,λhe=>⟨qb9 (by omega) (by omega),(),(a.length:Int)-1,⟨by omega,by omega,?_⟩,rfl,λi hi=>⟨λh0=>?_,λh0=>?_⟩⟩⟩
 ·have:=less (valL a) (valL b) (by omega)
  unfold wm2; rw[if_pos this]
 ·have:=less (valL b) (valL a) (by omega)
  unfold wm2; rw[if_neg (by omega),if_neg (by omega)]
 ·have h1:=qm3 (valL a)
  have h2:=qm3 (valL b)
  rw[show((a.length:Int)-1+1).toNat=a.length by omega]
  rw[<- la] at h1
  rw[<- lb,show b.length=a.length by omega] at h2
  rw[Nat.div_eq_of_lt h1,Nat.div_eq_of_lt h2]
 ·have hhi:=hi.hi
  obtain⟨j,rfl⟩:∃j:Nat,i=j:=⟨i.toNat,by omega⟩
  have hE:=hi.eq
  rw[show((j:Int)+1).toNat=j+1 by omega] at hE
  obtain⟨c1,c2,c3⟩:=xa5 hE
  rw[Int.toNat_natCast,ha.at_ (by omega),hb.at_ (by omega)]
  refine⟨⟨by omega,by omega⟩,⟨by omega,by omega⟩,λq=>?_,λq=>⟨⟨by omega,by omega⟩,⟨by omega,by omega⟩,λq2=>?_,λq2=>⟨qb9 (by omega) (by omega),(j:Int)-1,⟨by omega,by omega,?_⟩,by omega,rfl⟩⟩⟩
  ·have:=c1 (Int.ofNat_lt.1 q)
   unfold wm2; rw[if_pos this]
  ·have:=c2 (Int.ofNat_lt.1 q2)
   unfold wm2; rw[if_neg (by omega),if_neg (by omega)]
  ·rw[show((j:Int)-1+1).toNat=j by omega]
   exact c3 (by have h1:=Int.ofNat_le.1 q; have h2:=Int.ofNat_le.1 q2; omega)
 ·have hE:=hi.eq
  have:=hi.lo
  rw[show(i+1).toNat=0 by omega,Nat.pow_zero,Nat.div_one,Nat.div_one] at hE
  unfold wm2; rw[if_neg (by omega),if_pos hE]
abbrev x7g:qc7:=qg3 true none [qf7,qg4] [qg4] (λx=>DigOk x.1/\0<=x.2.1) (λx=>(((valL x.1 / BS ^ x.2.1.toNat % BS:Nat):Int),()))
theorem q6t:qd8 Try.prog 156 x7g:=by
 refine meets (snd (SpecsOk.nil _)) Try.func156 rfl rfl (λ_ _=>none) (λ_=>by kernel_rfl) (by decide) ?_
 rintro⟨a,i,⟨⟩⟩ h
 revert a i
 intro(a:List Int) (i:Int) (h:DigOk a/\0<=i)
 refine @qe0 _ ((decide (i<(↑(List.length a):Int))=true->((0:Int)<=i/\i<(↑(List.length a):Int))/\qa1 (Ty.int .i64) a (Int.toNat i)=(↑(valL a / BS ^ Int.toNat i % BS):Int))/\(decide (i<(↑(List.length a):Int))=false->(0:Int)=(↑(valL a / BS ^ Int.toNat i % BS):Int))) (by kernel_rfl) ?_
 try simp only[z0,z1,z2,z3,z4,z5,z6,z7,z8,z9,z10,Int.reduceEq,z11,z12,z13,z14,z15,z16,z17,z18,z19,z20,z21,z22,z23,z24,z25,z26,z27,z28,z29,z30,Int.reduceLE,Int.reduceLT,z31,z32,z33,z34,qa3]
 try simp only[qb3,qb4,qc8,List.set_cons_zero,List.cons.injEq,and_true,true_and]
 obtain⟨ha,hi⟩:=h
 refine⟨λhlt=>⟨⟨hi,hlt⟩,ha.at_ (by omega)⟩,λhge=>?_⟩
 have h1:=qm3 (valL a)
 have h2:=qq6 (show lenD (valL a)<=i.toNat by have:=ha.lenD; omega)
 rw[Nat.div_eq_of_lt (by omega)]
 rfl
def x0g (a b:List Int):List Int:=dgs (valL a+valL b)
def xq5 (a b:List Int):List Int:=dgs (valL a-valL b)
def qy8 (a b:List Int):List Int:=dgs (valL a*valL b)
abbrev x3h:qc7:=qg3 true none [qf7,qf7] [qf7] (λx=>DigOk x.1/\DigOk x.2.1) (λx=>(x0g x.1 x.2.1,()))
def xy4 (A B:Nat):Nat->Option Inv
 | 0=>some (Inv.of [5,6,7] 1 (λi:Nat=>[(5,.own 0),(6,.lit (.int .i64 (qt5 A B i))),(7,.lit (.int .i64 i))]) (λi=>[.vec 3 (.int .i64) (qh0 (A+B) i)]) (λi=>i<=lenD (A+B)) (λi=>lenD (A+B)-i))
 | _=>none
theorem w2y:qd8 Try.prog 138 x3h:=by
 refine meets (snd (SpecsOk.cons q6t (SpecsOk.nil _))) Try.func138 rfl rfl (λx=>xy4 (valL x.1) (valL x.2.1)) (λ_=>by kernel_rfl) (by decide) ?_
 rintro⟨a,b,⟨⟩⟩ h
 revert a b
 intro(a:List Int) (b:List Int) (h:DigOk a/\DigOk b)
 refine @qe0 _ (∃(v0:Unit),∃(v1:Nat),Nat.le v1 (lenD (valL a+valL b))/\((True/\(0:Int)=(↑(qt5 (valL a) (valL b) v1):Int)/\(0:Int)=(↑v1:Int)/\True)/\qh0 (valL a+valL b) v1=[]/\True)/\∀(v2:Nat),Nat.le v2 (lenD (valL a+valL b))->(decide ((↑v2:Int)<(↑(List.length a):Int))=true->(DigOk a/\(0:Ty.den qg4)<=(↑v2:Int))/\(DigOk b/\(0:Ty.den qg4)<=(↑v2:Int))/\fits .i64 ((↑(valL a / BS ^ Int.toNat (↑v2:Int) % BS):Int)+(↑(valL b / BS ^ Int.toNat (↑v2:Int) % BS):Int))/\fits .i64 ((↑(valL a / BS ^ Int.toNat (↑v2:Int) % BS):Int)+(↑(valL b / BS ^ Int.toNat (↑v2:Int) % BS):Int)+(↑(qt5 (valL a) (valL b) v2):Int))/\(1000000000:Int)≠(0:Int)/\((0:Nat)<List.length [Int.tmod ((↑(valL a / BS ^ Int.toNat (↑v2:Int) % BS):Int)+(↑(valL b / BS ^ Int.toNat (↑v2:Int) % BS):Int)+(↑(qt5 (valL a) (valL b) v2):Int)) (1000000000:Int)]/\Nat.le (List.length (qh0 (valL a+valL b) v2)+List.length [Int.tmod ((↑(valL a / BS ^ Int.toNat (↑v2:Int) % BS):Int)+(↑(valL b / BS ^ Int.toNat (↑v2:Int) % BS):Int)+(↑(qt5 (valL a) (valL b) v2):Int)) (1000000000:Int)]) (1000000:Nat))/\(1000000000:Int)≠(0:Int)/\fits .i64 (Int.tdiv ((↑(valL a / BS ^ Int.toNat (↑v2:Int) % BS):Int)+(↑(valL b / BS ^ Int.toNat (↑v2:Int) % BS):Int)+(↑(qt5 (valL a) (valL b) v2):Int)) (1000000000:Int))/\fits .i64 ((↑v2:Int)+(1:Int))/\∃(v5:Nat),Nat.le v5 (lenD (valL a+valL b))/\lenD (valL a+valL b)-v5<lenD (valL a+valL b)-v2/\(True/\Int.tdiv ((↑(valL a / BS ^ Int.toNat (↑v2:Int) % BS):Int)+(↑(valL b / BS ^ Int.toNat (↑v2:Int) % BS):Int)+(↑(qt5 (valL a) (valL b) v2):Int)) (1000000000:Int)=(↑(qt5 (valL a) (valL b) v5):Int)/\(↑v2:Int)+(1:Int)=(↑v5:Int)/\True)/\qh0 (valL a+valL b) v2++[Int.tmod ((↑(valL a / BS ^ Int.toNat (↑v2:Int) % BS):Int)+(↑(valL b / BS ^ Int.toNat (↑v2:Int) % BS):Int)+(↑(qt5 (valL a) (valL b) v2):Int)) (1000000000:Int)]=qh0 (valL a+valL b) v5/\True)/\(decide ((↑v2:Int)<(↑(List.length a):Int))=false->(decide ((↑v2:Int)<(↑(List.length b):Int))=true->(DigOk a/\(0:Ty.den qg4)<=(↑v2:Int))/\(DigOk b/\(0:Ty.den qg4)<=(↑v2:Int))/\fits .i64 ((↑(valL a / BS ^ Int.toNat (↑v2:Int) % BS):Int)+(↑(valL b / BS ^ Int.toNat (↑v2:Int) % BS):Int))/\fits .i64 ((↑(valL a / BS ^ Int.toNat (↑v2:Int) % BS):Int)+(↑(valL b / BS ^ Int.toNat (↑v2:Int) % BS):Int)+(↑(qt5 (valL a) (valL b) v2):Int))/\(1000000000:Int)≠(0:Int)/\((0:Nat)<List.length [Int.tmod ((↑(valL a / BS ^ Int.toNat (↑v2:Int) % BS):Int)+(↑(valL b / BS ^ Int.toNat (↑v2:Int) % BS):Int)+(↑(qt5 (valL a) (valL b) v2):Int)) (1000000000:Int)]/\Nat.le (List.length (qh0 (valL a+valL b) v2)+List.length [Int.tmod ((↑(valL a / BS ^ Int.toNat (↑v2:Int) % BS):Int)+(↑(valL b / BS ^ Int.toNat (↑v2:Int) % BS):Int)+(↑(qt5 (valL a) (valL b) v2):Int)) (1000000000:Int)]) (1000000:Nat))/\(1000000000:Int)≠(0:Int)/\fits .i64 (Int.tdiv ((↑(valL a / BS ^ Int.toNat (↑v2:Int) % BS):Int)+(↑(valL b / BS ^ Int.toNat (↑v2:Int) % BS):Int)+(↑(qt5 (valL a) (valL b) v2):Int)) (1000000000:Int))/\fits .i64 ((↑v2:Int)+(1:Int))/\∃(v6:Nat),Nat.le v6 (lenD (valL a+valL b))/\lenD (valL a+valL b)-v6<lenD (valL a+valL b)-v2/\(True/\Int.tdiv ((↑(valL a / BS ^ Int.toNat (↑v2:Int) % BS):Int)+(↑(valL b / BS ^ Int.toNat (↑v2:Int) % BS):Int)+(↑(qt5 (valL a) (valL b) v2):Int)) (1000000000:Int)=(↑(qt5 (valL a) (valL b) v6):Int)/\(↑v2:Int)+(1:Int)=(↑v6:Int)/\True)/\qh0 (valL a+valL b) v2++[Int.tmod ((↑(valL a / BS ^ Int.toNat (↑v2:Int) % BS):Int)+(↑(valL b / BS ^ Int.toNat (↑v2:Int) % BS):Int)+(↑(qt5 (valL a) (valL b) v2):Int)) (1000000000:Int)]=qh0 (valL a+valL b) v6/\True)/\(decide ((↑v2:Int)<(↑(List.length b):Int))=false->(decide ((0:Int)<(↑(qt5 (valL a) (valL b) v2):Int))=true->(DigOk a/\(0:Ty.den qg4)<=(↑v2:Int))/\(DigOk b/\(0:Ty.den qg4)<=(↑v2:Int))/\fits .i64 ((↑(valL a / BS ^ Int.toNat (↑v2:Int) % BS):Int)+(↑(valL b / BS ^ Int.toNat (↑v2:Int) % BS):Int))/\fits .i64 ((↑(valL a / BS ^ Int.toNat (↑v2:Int) % BS):Int)+(↑(valL b / BS ^ Int.toNat (↑v2:Int) % BS):Int)+(↑(qt5 (valL a) (valL b) v2):Int))/\(1000000000:Int)≠(0:Int)/\((0:Nat)<List.length [Int.tmod ((↑(valL a / BS ^ Int.toNat (↑v2:Int) % BS):Int)+(↑(valL b / BS ^ Int.toNat (↑v2:Int) % BS):Int)+(↑(qt5 (valL a) (valL b) v2):Int)) (1000000000:Int)]/\Nat.le (List.length (qh0 (valL a+valL b) v2)+List.length [Int.tmod ((↑(valL a / BS ^ Int.toNat (↑v2:Int) % BS):Int)+(↑(valL b / BS ^ Int.toNat (↑v2:Int) % BS):Int)+(↑(qt5 (valL a) (valL b) v2):Int)) (1000000000:Int)]) (1000000:Nat))/\(1000000000:Int)≠(0:Int)/\fits .i64 (Int.tdiv ((↑(valL a / BS ^ Int.toNat (↑v2:Int) % BS):Int)+(↑(valL b / BS ^ Int.toNat (↑v2:Int) % BS):Int)+(↑(qt5 (valL a) (valL b) v2):Int)) (1000000000:Int))/\fits .i64 ((↑v2:Int)+(1:Int))/\∃(v7:Nat),Nat.le v7 (lenD (valL a+valL b))/\lenD (valL a+valL b)-v7<lenD (valL a+valL b)-v2/\(True/\Int.tdiv ((↑(valL a / BS ^ Int.toNat (↑v2:Int) % BS):Int)+(↑(valL b / BS ^ Int.toNat (↑v2:Int) % BS):Int)+(↑(qt5 (valL a) (valL b) v2):Int)) (1000000000:Int)=(↑(qt5 (valL a) (valL b) v7):Int)/\(↑v2:Int)+(1:Int)=(↑v7:Int)/\True)/\qh0 (valL a+valL b) v2++[Int.tmod ((↑(valL a / BS ^ Int.toNat (↑v2:Int) % BS):Int)+(↑(valL b / BS ^ Int.toNat (↑v2:Int) % BS):Int)+(↑(qt5 (valL a) (valL b) v2):Int)) (1000000000:Int)]=qh0 (valL a+valL b) v7/\True)/\(decide ((0:Int)<(↑(qt5 (valL a) (valL b) v2):Int))=false->qh0 (valL a+valL b) v2=x0g a b)))) (by kernel_rfl) ?_
 try simp only[z0,z1,z2,z3,z4,z5,z6,z7,z8,z9,z10,Int.reduceEq,z11,z12,z13,z14,z15,z16,z17,z18,z19,z20,z21,z22,z23,z24,z25,z26,z27,z28,z29,z30,Int.reduceLE,Int.reduceLT,z31,z32,z33,z34,qa3]
 try simp only[qb3,qb4,qc8,List.set_cons_zero,List.cons.injEq,and_true,true_and]
 obtain⟨ha,hb⟩:=h
 have la:=ha.lenD
 have lb:=hb.lenD
 have na:=ha.len
 have nb:=hb.len
 have hL:lenD (valL a+valL b)<=1000+1:=xa6 (by omega) (by omega)
 have grow:∀i,BS ^ i<=valL a+valL b->i<lenD (valL a+valL b):=λi q=>qr5.2 q
 have big:∀i l,i<l->l=lenD (valL a)\/l=lenD (valL b)->BS ^ i<=valL a+valL b:=λi l h1 h2=>by
  rcases h2 with rfl | rfl
  ·have:=qr5.1 h1; omega
  ·have:=qr5.1 h1; omega
 refine⟨(),0,Nat.zero_le _,⟨⟨by rw[xa3]; rfl,rfl⟩,rfl⟩,λi hi=>?_⟩
 have body:BS ^ i<=valL a+valL b->DigOk a/\DigOk b/\fits IntKind.i64 (((valL a / BS ^ i % BS:Nat):Int)+((valL b / BS ^ i % BS:Nat):Int))/\fits IntKind.i64 (((valL a / BS ^ i % BS:Nat):Int)+((valL b / BS ^ i % BS:Nat):Int)+((qt5 (valL a) (valL b) i:Nat):Int))/\(qh0 (valL a+valL b) i).length+1<=1000000 /\
   fits IntKind.i64 ((((valL a / BS ^ i % BS:Nat):Int)+((valL b / BS ^ i % BS:Nat):Int)+((qt5 (valL a) (valL b) i:Nat):Int)).tdiv 1000000000)/\fits IntKind.i64 ((i:Int)+1)/\∃j,j<=lenD (valL a+valL b)/\lenD (valL a+valL b)-j<lenD (valL a+valL b)-i /\
   ((((valL a / BS ^ i % BS:Nat):Int)+((valL b / BS ^ i % BS:Nat):Int)+((qt5 (valL a) (valL b) i:Nat):Int)).tdiv 1000000000=((qt5 (valL a) (valL b) j:Nat):Int)/\(i:Int)+1=(j:Int)) /\
   qh0 (valL a+valL b) i++[(((valL a / BS ^ i % BS:Nat):Int)+((valL b / BS ^ i % BS:Nat):Int)+((qt5 (valL a) (valL b) i:Nat):Int)).tmod 1000000000]=qh0 (valL a+valL b) j:=λq=>by
  have hlt:=grow i q
  have d1:=q8r (valL a) i
  have d2:=q8r (valL b) i
  have d3:=w68 (valL a) (valL b) i
  have e:((valL a / BS ^ i % BS:Nat):Int)+((valL b / BS ^ i % BS:Nat):Int)+((qt5 (valL a) (valL b) i:Nat):Int)=((valL a / BS ^ i % BS+valL b / BS ^ i % BS+qt5 (valL a) (valL b) i:Nat):Int):=by rw[Int.natCast_add,Int.natCast_add]
  have c1:=xa2 (valL a) (valL b) i
  have c2:=w69 (valL a) (valL b) i
  have c3:=w68 (valL a) (valL b) (i+1)
  rw[e,w7f,w7e,<- c1,<- c2]
  exact⟨ha,hb,qb9 (by omega) (by omega),qb9 (by omega) (by omega),by rw[qi3]; omega,qb9 (by omega) (by omega),qb9 (by omega) (by omega),i+1,hlt,by omega,⟨rfl,by omega⟩,rfl⟩
 refine⟨λh1=>body (big i _ h1 (.inl la)),λh1=>⟨λh2=>body (big i _ h2 (.inr lb)),λh2=>⟨λh3=>body ?_,λh3=>?_⟩⟩⟩
 ·unfold qt5 at h3
  have h4:0<(valL a % BS ^ i+valL b % BS ^ i) / BS ^ i:=by omega
  have h5:=(Nat.div_pos_iff.1 h4).2
  have h6:=Nat.mod_le (valL a) (BS ^ i)
  have h7:=Nat.mod_le (valL b) (BS ^ i)
  omega
 ·have hc:qt5 (valL a) (valL b) i=0:=by omega
  have hs:=wa3 (valL a) (valL b) i
  have a0:valL a<BS ^ i:=Nat.lt_of_lt_of_le (qm3 (valL a)) (qq6 (by omega))
  have b0:valL b<BS ^ i:=Nat.lt_of_lt_of_le (qm3 (valL b)) (qq6 (by omega))
  rw[hc,Nat.div_eq_of_lt a0,Nat.div_eq_of_lt b0] at hs
  refine w0i ((Nat.div_eq_zero_iff.1 hs).resolve_left (by have:=qm6 i; omega)) ?_
  rcases Nat.eq_zero_or_pos i with q2 | q2
  ·exact .inl q2
  ·exact .inr (qr5.1 (by omega))
abbrev xy5:qc7:=qg3 false none [qf7,qf7] [qf7] (λx=>DigOk x.1/\DigOk x.2.1/\valL x.2.1<=valL x.1) (λx=>(xq5 x.1 x.2.1,()))
def xo0 (A B n:Nat):Nat->Option Inv
 | 0=>some (Inv.of [5,6,11] 1 (λi:Nat=>[(5,.own 0),(6,.lit (.int .i64 (q27 A B i))),(11,.lit (.int .i64 i))]) (λi=>[.vec 3 (.int .i64) (qh0 (A-B) i)]) (λi=>i<=n) (λi=>n-i))
 | _=>none
theorem wq7:qd8 Try.prog 140 xy5:=by
 refine meets (snd (SpecsOk.cons q6t (SpecsOk.cons q8s (SpecsOk.nil _)))) Try.func140 rfl rfl (λx=>xo0 (valL x.1) (valL x.2.1) x.1.length) (λ_=>by kernel_rfl) (by decide) ?_
 rintro⟨a,b,⟨⟩⟩ h
 revert a b
 intro(a:List Int) (b:List Int) (h:DigOk a/\DigOk b/\valL b<=valL a)
 refine @qe0 _ (∃(v0:Unit),∃(v1:Nat),Nat.le v1 (List.length a)/\((True/\(0:Int)=(↑(q27 (valL a) (valL b) v1):Int)/\(0:Int)=(↑v1:Int)/\True)/\qh0 (valL a-valL b) v1=[]/\True)/\∀(v2:Nat),Nat.le v2 (List.length a)->(decide ((↑v2:Int)<(↑(List.length a):Int))=true->((0:Int)<=(↑v2:Int)/\(↑v2:Int)<(↑(List.length a):Int))/\(DigOk b/\(0:Ty.den qg4)<=(↑v2:Int))/\fits .i64 (qa1 (Ty.int .i64) a (Int.toNat (↑v2:Int))-(↑(valL b / BS ^ Int.toNat (↑v2:Int) % BS):Int))/\fits .i64 (qa1 (Ty.int .i64) a (Int.toNat (↑v2:Int))-(↑(valL b / BS ^ Int.toNat (↑v2:Int) % BS):Int)-(↑(q27 (valL a) (valL b) v2):Int))/\(decide (qa1 (Ty.int .i64) a (Int.toNat (↑v2:Int))-(↑(valL b / BS ^ Int.toNat (↑v2:Int) % BS):Int)-(↑(q27 (valL a) (valL b) v2):Int)<(0:Int))=true->fits .i64 (qa1 (Ty.int .i64) a (Int.toNat (↑v2:Int))-(↑(valL b / BS ^ Int.toNat (↑v2:Int) % BS):Int)-(↑(q27 (valL a) (valL b) v2):Int)+(1000000000:Int))/\((0:Nat)<List.length [qa1 (Ty.int .i64) a (Int.toNat (↑v2:Int))-(↑(valL b / BS ^ Int.toNat (↑v2:Int) % BS):Int)-(↑(q27 (valL a) (valL b) v2):Int)+(1000000000:Int)]/\Nat.le (List.length (qh0 (valL a-valL b) v2)+List.length [qa1 (Ty.int .i64) a (Int.toNat (↑v2:Int))-(↑(valL b / BS ^ Int.toNat (↑v2:Int) % BS):Int)-(↑(q27 (valL a) (valL b) v2):Int)+(1000000000:Int)]) (1000000:Nat))/\fits .i64 ((↑v2:Int)+(1:Int))/\∃(v6:Nat),Nat.le v6 (List.length a)/\List.length a-v6<List.length a-v2/\(True/\(1:Int)=(↑(q27 (valL a) (valL b) v6):Int)/\(↑v2:Int)+(1:Int)=(↑v6:Int)/\True)/\qh0 (valL a-valL b) v2++[qa1 (Ty.int .i64) a (Int.toNat (↑v2:Int))-(↑(valL b / BS ^ Int.toNat (↑v2:Int) % BS):Int)-(↑(q27 (valL a) (valL b) v2):Int)+(1000000000:Int)]=qh0 (valL a-valL b) v6/\True)/\(decide (qa1 (Ty.int .i64) a (Int.toNat (↑v2:Int))-(↑(valL b / BS ^ Int.toNat (↑v2:Int) % BS):Int)-(↑(q27 (valL a) (valL b) v2):Int)<(0:Int))=false->((0:Nat)<List.length [qa1 (Ty.int .i64) a (Int.toNat (↑v2:Int))-(↑(valL b / BS ^ Int.toNat (↑v2:Int) % BS):Int)-(↑(q27 (valL a) (valL b) v2):Int)]/\Nat.le (List.length (qh0 (valL a-valL b) v2)+List.length [qa1 (Ty.int .i64) a (Int.toNat (↑v2:Int))-(↑(valL b / BS ^ Int.toNat (↑v2:Int) % BS):Int)-(↑(q27 (valL a) (valL b) v2):Int)]) (1000000:Nat))/\fits .i64 ((↑v2:Int)+(1:Int))/\∃(v6:Nat),Nat.le v6 (List.length a)/\List.length a-v6<List.length a-v2/\(True/\(0:Int)=(↑(q27 (valL a) (valL b) v6):Int)/\(↑v2:Int)+(1:Int)=(↑v6:Int)/\True)/\qh0 (valL a-valL b) v2++[qa1 (Ty.int .i64) a (Int.toNat (↑v2:Int))-(↑(valL b / BS ^ Int.toNat (↑v2:Int) % BS):Int)-(↑(q27 (valL a) (valL b) v2):Int)]=qh0 (valL a-valL b) v6/\True))/\(decide ((↑v2:Int)<(↑(List.length a):Int))=false->w7d (qh0 (valL a-valL b) v2)/\dgs (valL (qh0 (valL a-valL b) v2))=xq5 a b)) (by kernel_rfl) ?_
 try simp only[z0,z1,z2,z3,z4,z5,z6,z7,z8,z9,z10,Int.reduceEq,z11,z12,z13,z14,z15,z16,z17,z18,z19,z20,z21,z22,z23,z24,z25,z26,z27,z28,z29,z30,Int.reduceLE,Int.reduceLT,z31,z32,z33,z34,qa3]
 try simp only[qb3,qb4,qc8,List.set_cons_zero,List.cons.injEq,and_true,true_and]
 obtain⟨ha,hb,hle⟩:=h
 have la:=ha.lenD
 have na:=ha.len
 have hA:valL a<BS ^ a.length:=by rw[la]; exact qm3 _
 refine⟨(),0,Nat.zero_le _,⟨⟨by rw[xa4]; rfl,rfl⟩,rfl⟩,λi hi=>⟨λhlt=>?_,λhge=>?_⟩⟩
 ·have D:=w7b (k:=i) hle
  have d1:=q8r (valL a) i
  have d2:=q8r (valL b) i
  have d3:=q8r (valL a-valL b) i
  have b1:=w0k (valL a) (valL b) i
  have b2:=w0k (valL a) (valL b) (i+1)
  have e:qh0 (valL a-valL b) (i+1)=qh0 (valL a-valL b) i++[(((valL a-valL b) / BS ^ i % BS:Nat):Int)]:=rfl
  rw[ha.at_ hlt,qi3]
  generalize(((valL a-valL b) / BS ^ i % BS:Nat):Int)=z at *
  generalize((valL a / BS ^ i % BS:Nat):Int)=x at *
  generalize((valL b / BS ^ i % BS:Nat):Int)=y at *
  refine⟨hlt,hb,qb9 (by omega) (by omega),qb9 (by omega) (by omega),λhneg=>?_,λhpos=>?_⟩
  ·have hneg:x-y-(q27 (valL a) (valL b) i:Int)<0:=hneg
   exact⟨qb9 (by omega) (by omega),by omega,qb9 (by omega) (by omega),i+1,hlt,by omega,⟨by omega,by omega⟩,by rw[e,show x-y-(q27 (valL a) (valL b) i:Int)+1000000000=z by omega]⟩
  ·have hpos:0<=x-y-(q27 (valL a) (valL b) i:Int):=hpos
   exact⟨by omega,qb9 (by omega) (by omega),i+1,hlt,by omega,⟨by omega,by omega⟩,by rw[e,show x-y-(q27 (valL a) (valL b) i:Int)=z by omega]⟩
 ·obtain rfl:i=a.length:=by omega
  exact w0l (by omega) (by omega)
abbrev xy6:qc7:=qg3 false none [qf7,qf7] [qf7] (λx=>DigOk x.1/\DigOk x.2.1) (λx=>(qy8 x.1 x.2.1,()))
def xo1 (A B la n:Nat):Nat->Option Inv
 | 0=>some (Inv.of [5,19] 1 (λi:Nat=>[(5,.own 0),(19,.lit (.int .i64 i))]) (λi=>[.vec 3 (.int .i64) (qh0 (A % BS ^ i*B) n)]) (λi=>i<=la) (λi=>la-i))
 | 1=>some (Eng.Inv.mk Nat (Nat × Nat × Nat) [5,8,9] 1 (λi s=>[(5,.own 0),(8,.lit (.int .i64 s.2.1)),(9,.lit (.int .i64 s.1))]) (λi s=>[.vec 3 (.int .i64) (qh0 s.2.2 n)]) (λi s=>w79 A B n i s.1 s.2.1 s.2.2) (λi s=>n+1-s.1))
 | _=>none
theorem q6u:qd8 Try.prog 137 xy6:=by
 refine meets (snd (SpecsOk.cons q6t (SpecsOk.cons q8s (SpecsOk.nil _)))) Try.func137 rfl rfl (λx=>xo1 (valL x.1) (valL x.2.1) x.1.length (x.1.length+x.2.1.length)) (λ_=>by kernel_rfl) (by decide) ?_
 rintro⟨a,b,⟨⟩⟩ h
 revert a b
 intro(a:List Int) (b:List Int) (h:DigOk a/\DigOk b)
 refine @qe0 _ (fits .i64 ((↑(List.length a):Int)+(↑(List.length b):Int))/\((↑(List.length a):Int)+(↑(List.length b):Int)=(↑(List.length a):Int)+(↑(List.length b):Int)/\(0:Int)<=(↑(List.length a):Int)+(↑(List.length b):Int)/\(↑(List.length a):Int)+(↑(List.length b):Int)<=(1000000:Int))/\∃(v0:Unit),∃(v1:Nat),Nat.le v1 (List.length a)/\((True/\(0:Int)=(↑v1:Int)/\True)/\List.replicate (Int.toNat ((↑(List.length a):Int)+(↑(List.length b):Int))) (Ty.dflt (TI.ty T3))=qh0 (valL a % BS ^ v1*valL b) (List.length a+List.length b)/\True)/\∀(v2:Nat),Nat.le v2 (List.length a)->(decide ((↑v2:Int)<(↑(List.length a):Int))=true->((0:Int)<=(↑v2:Int)/\(↑v2:Int)<(↑(List.length a):Int))/\∃(v5:Nat),∃(v6:Nat × Nat × Nat),w79 (valL a) (valL b) (List.length a+List.length b) v5 (Prod.fst v6) (Prod.fst (Prod.snd v6)) (Prod.snd (Prod.snd v6))/\((True/\(0:Int)=(↑(Prod.fst (Prod.snd v6)):Int)/\(0:Int)=(↑(Prod.fst v6):Int)/\True)/\qh0 (valL a % BS ^ v2*valL b) (List.length a+List.length b)=qh0 (Prod.snd (Prod.snd v6)) (List.length a+List.length b)/\True)/\∀(v7:Nat × Nat × Nat),w79 (valL a) (valL b) (List.length a+List.length b) v5 (Prod.fst v7) (Prod.fst (Prod.snd v7)) (Prod.snd (Prod.snd v7))->(decide ((↑(Prod.fst v7):Int)<(↑(List.length b):Int))=true->fits .i64 ((↑v2:Int)+(↑(Prod.fst v7):Int))/\((0:Int)<=(↑v2:Int)+(↑(Prod.fst v7):Int)/\(↑v2:Int)+(↑(Prod.fst v7):Int)<(↑(List.length (qh0 (Prod.snd (Prod.snd v7)) (List.length a+List.length b))):Int))/\Int.toNat ((↑v2:Int)+(↑(Prod.fst v7):Int))<List.length (qh0 (Prod.snd (Prod.snd v7)) (List.length a+List.length b))/\(DigOk b/\(0:Ty.den qg4)<=(↑(Prod.fst v7):Int))/\fits .i64 (qa1 (Ty.int .i64) a (Int.toNat (↑v2:Int))*(↑(valL b / BS ^ Int.toNat (↑(Prod.fst v7):Int) % BS):Int))/\fits .i64 (qa1 (Ty.int .i64) (qh0 (Prod.snd (Prod.snd v7)) (List.length a+List.length b)) (Int.toNat ((↑v2:Int)+(↑(Prod.fst v7):Int)))+qa1 (Ty.int .i64) a (Int.toNat (↑v2:Int))*(↑(valL b / BS ^ Int.toNat (↑(Prod.fst v7):Int) % BS):Int))/\fits .i64 (qa1 (Ty.int .i64) (qh0 (Prod.snd (Prod.snd v7)) (List.length a+List.length b)) (Int.toNat ((↑v2:Int)+(↑(Prod.fst v7):Int)))+qa1 (Ty.int .i64) a (Int.toNat (↑v2:Int))*(↑(valL b / BS ^ Int.toNat (↑(Prod.fst v7):Int) % BS):Int)+(↑(Prod.fst (Prod.snd v7)):Int))/\fits .i64 ((↑v2:Int)+(↑(Prod.fst v7):Int))/\(1000000000:Int)≠(0:Int)/\((0:Int)<=(↑v2:Int)+(↑(Prod.fst v7):Int)/\(↑v2:Int)+(↑(Prod.fst v7):Int)<(↑(List.length (qh0 (Prod.snd (Prod.snd v7)) (List.length a+List.length b))):Int))/\Int.toNat ((↑v2:Int)+(↑(Prod.fst v7):Int))<List.length (qh0 (Prod.snd (Prod.snd v7)) (List.length a+List.length b))/\(1000000000:Int)≠(0:Int)/\fits .i64 (Int.tdiv (qa1 (Ty.int .i64) (qh0 (Prod.snd (Prod.snd v7)) (List.length a+List.length b)) (Int.toNat ((↑v2:Int)+(↑(Prod.fst v7):Int)))+qa1 (Ty.int .i64) a (Int.toNat (↑v2:Int))*(↑(valL b / BS ^ Int.toNat (↑(Prod.fst v7):Int) % BS):Int)+(↑(Prod.fst (Prod.snd v7)):Int)) (1000000000:Int))/\fits .i64 ((↑(Prod.fst v7):Int)+(1:Int))/\∃(v10:Nat × Nat × Nat),w79 (valL a) (valL b) (List.length a+List.length b) v5 (Prod.fst v10) (Prod.fst (Prod.snd v10)) (Prod.snd (Prod.snd v10))/\List.length a+List.length b+(1:Nat)-Prod.fst v10<List.length a+List.length b+(1:Nat)-Prod.fst v7/\(True/\Int.tdiv (qa1 (Ty.int .i64) (qh0 (Prod.snd (Prod.snd v7)) (List.length a+List.length b)) (Int.toNat ((↑v2:Int)+(↑(Prod.fst v7):Int)))+qa1 (Ty.int .i64) a (Int.toNat (↑v2:Int))*(↑(valL b / BS ^ Int.toNat (↑(Prod.fst v7):Int) % BS):Int)+(↑(Prod.fst (Prod.snd v7)):Int)) (1000000000:Int)=(↑(Prod.fst (Prod.snd v10)):Int)/\(↑(Prod.fst v7):Int)+(1:Int)=(↑(Prod.fst v10):Int)/\True)/\List.set (qh0 (Prod.snd (Prod.snd v7)) (List.length a+List.length b)) (Int.toNat ((↑v2:Int)+(↑(Prod.fst v7):Int))) (Int.tmod (qa1 (Ty.int .i64) (qh0 (Prod.snd (Prod.snd v7)) (List.length a+List.length b)) (Int.toNat ((↑v2:Int)+(↑(Prod.fst v7):Int)))+qa1 (Ty.int .i64) a (Int.toNat (↑v2:Int))*(↑(valL b / BS ^ Int.toNat (↑(Prod.fst v7):Int) % BS):Int)+(↑(Prod.fst (Prod.snd v7)):Int)) (1000000000:Int))=qh0 (Prod.snd (Prod.snd v10)) (List.length a+List.length b)/\True)/\(decide ((↑(Prod.fst v7):Int)<(↑(List.length b):Int))=false->(decide ((0:Int)<(↑(Prod.fst (Prod.snd v7)):Int))=true->fits .i64 ((↑v2:Int)+(↑(Prod.fst v7):Int))/\((0:Int)<=(↑v2:Int)+(↑(Prod.fst v7):Int)/\(↑v2:Int)+(↑(Prod.fst v7):Int)<(↑(List.length (qh0 (Prod.snd (Prod.snd v7)) (List.length a+List.length b))):Int))/\Int.toNat ((↑v2:Int)+(↑(Prod.fst v7):Int))<List.length (qh0 (Prod.snd (Prod.snd v7)) (List.length a+List.length b))/\(DigOk b/\(0:Ty.den qg4)<=(↑(Prod.fst v7):Int))/\fits .i64 (qa1 (Ty.int .i64) a (Int.toNat (↑v2:Int))*(↑(valL b / BS ^ Int.toNat (↑(Prod.fst v7):Int) % BS):Int))/\fits .i64 (qa1 (Ty.int .i64) (qh0 (Prod.snd (Prod.snd v7)) (List.length a+List.length b)) (Int.toNat ((↑v2:Int)+(↑(Prod.fst v7):Int)))+qa1 (Ty.int .i64) a (Int.toNat (↑v2:Int))*(↑(valL b / BS ^ Int.toNat (↑(Prod.fst v7):Int) % BS):Int))/\fits .i64 (qa1 (Ty.int .i64) (qh0 (Prod.snd (Prod.snd v7)) (List.length a+List.length b)) (Int.toNat ((↑v2:Int)+(↑(Prod.fst v7):Int)))+qa1 (Ty.int .i64) a (Int.toNat (↑v2:Int))*(↑(valL b / BS ^ Int.toNat (↑(Prod.fst v7):Int) % BS):Int)+(↑(Prod.fst (Prod.snd v7)):Int))/\fits .i64 ((↑v2:Int)+(↑(Prod.fst v7):Int))/\(1000000000:Int)≠(0:Int)/\((0:Int)<=(↑v2:Int)+(↑(Prod.fst v7):Int)/\(↑v2:Int)+(↑(Prod.fst v7):Int)<(↑(List.length (qh0 (Prod.snd (Prod.snd v7)) (List.length a+List.length b))):Int))/\Int.toNat ((↑v2:Int)+(↑(Prod.fst v7):Int))<List.length (qh0 (Prod.snd (Prod.snd v7)) (List.length a+List.length b))/\(1000000000:Int)≠(0:Int)/\fits .i64 (Int.tdiv (qa1 (Ty.int .i64) (qh0 (Prod.snd (Prod.snd v7)) (List.length a+List.length b)) (Int.toNat ((↑v2:Int)+(↑(Prod.fst v7):Int)))+qa1 (Ty.int .i64) a (Int.toNat (↑v2:Int))*(↑(valL b / BS ^ Int.toNat (↑(Prod.fst v7):Int) % BS):Int)+(↑(Prod.fst (Prod.snd v7)):Int)) (1000000000:Int))/\fits .i64 ((↑(Prod.fst v7):Int)+(1:Int))/\∃(v11:Nat × Nat × Nat),w79 (valL a) (valL b) (List.length a+List.length b) v5 (Prod.fst v11) (Prod.fst (Prod.snd v11)) (Prod.snd (Prod.snd v11))/\List.length a+List.length b+(1:Nat)-Prod.fst v11<List.length a+List.length b+(1:Nat)-Prod.fst v7/\(True/\Int.tdiv (qa1 (Ty.int .i64) (qh0 (Prod.snd (Prod.snd v7)) (List.length a+List.length b)) (Int.toNat ((↑v2:Int)+(↑(Prod.fst v7):Int)))+qa1 (Ty.int .i64) a (Int.toNat (↑v2:Int))*(↑(valL b / BS ^ Int.toNat (↑(Prod.fst v7):Int) % BS):Int)+(↑(Prod.fst (Prod.snd v7)):Int)) (1000000000:Int)=(↑(Prod.fst (Prod.snd v11)):Int)/\(↑(Prod.fst v7):Int)+(1:Int)=(↑(Prod.fst v11):Int)/\True)/\List.set (qh0 (Prod.snd (Prod.snd v7)) (List.length a+List.length b)) (Int.toNat ((↑v2:Int)+(↑(Prod.fst v7):Int))) (Int.tmod (qa1 (Ty.int .i64) (qh0 (Prod.snd (Prod.snd v7)) (List.length a+List.length b)) (Int.toNat ((↑v2:Int)+(↑(Prod.fst v7):Int)))+qa1 (Ty.int .i64) a (Int.toNat (↑v2:Int))*(↑(valL b / BS ^ Int.toNat (↑(Prod.fst v7):Int) % BS):Int)+(↑(Prod.fst (Prod.snd v7)):Int)) (1000000000:Int))=qh0 (Prod.snd (Prod.snd v11)) (List.length a+List.length b)/\True)/\(decide ((0:Int)<(↑(Prod.fst (Prod.snd v7)):Int))=false->fits .i64 ((↑v2:Int)+(1:Int))/\∃(v11:Nat),Nat.le v11 (List.length a)/\List.length a-v11<List.length a-v2/\(True/\(↑v2:Int)+(1:Int)=(↑v11:Int)/\True)/\qh0 (Prod.snd (Prod.snd v7)) (List.length a+List.length b)=qh0 (valL a % BS ^ v11*valL b) (List.length a+List.length b)/\True)))/\(decide ((↑v2:Int)<(↑(List.length a):Int))=false->w7d (qh0 (valL a % BS ^ v2*valL b) (List.length a+List.length b))/\dgs (valL (qh0 (valL a % BS ^ v2*valL b) (List.length a+List.length b)))=qy8 a b)) (by kernel_rfl) ?_
 try simp only[z0,z1,z2,z3,z4,z5,z6,z7,z8,z9,z10,Int.reduceEq,z11,z12,z13,z14,z15,z16,z17,z18,z19,z20,z21,z22,z23,z24,z25,z26,z27,z28,z29,z30,Int.reduceLE,Int.reduceLT,z31,z32,z33,z34,qa3]
 try simp only[qb3,qb4,qc8,List.set_cons_zero,List.cons.injEq,and_true,true_and]
 obtain⟨ha,hb⟩:=h
 have na:=ha.len
 have nb:=hb.len
 have hA:valL a<BS ^ a.length:=by rw[ha.lenD]; exact qm3 _
 have hB:valL b<BS ^ b.length:=by rw[hb.lenD]; exact qm3 _
 refine⟨qb9 (by omega) (by omega),⟨by omega,by omega⟩,(),0,Nat.zero_le _,⟨rfl,?_⟩,λi hi=>⟨λhlt=>⟨hlt,i,(0,0,valL a % BS ^ i*valL b),⟨(show 0<BS by decide),?_,?_,Nat.zero_le _⟩,⟨⟨rfl,rfl⟩,rfl⟩,λ⟨j,c,S⟩ hT=>?_⟩,λhge=>?_⟩⟩
 ·rw[Nat.pow_zero,Nat.mod_one,Nat.zero_mul,show((a.length:Int)+(b.length:Int)).toNat=a.length+b.length by omega]
  exact xa7 _
 ·exact mul_lt (Nat.lt_of_lt_of_le (Nat.mod_lt _ (qm6 i)) (qq6 hi)) hB
 ·dsimp only; rw[Nat.pow_zero,Nat.mod_one,Nat.mul_zero,Nat.zero_mul,Nat.zero_mul]
 ·dsimp only at hT ⊢
  have hcl:=hT.cl
  have hBS:BS=1000000000:=rfl
  have body:i+j<a.length+b.length->fits IntKind.i64 ((i:Int)+(j:Int))/\(0<=(i:Int)+(j:Int)/\(i:Int)+(j:Int)<((qh0 S (a.length+b.length)).length:Int))/\((i:Int)+(j:Int)).toNat<(qh0 S (a.length+b.length)).length/\DigOk b/\fits IntKind.i64 (nI a i*((valL b / BS ^ j % BS:Nat):Int)) /\
    fits IntKind.i64 (nI (qh0 S (a.length+b.length)) ((i:Int)+(j:Int)).toNat+nI a i*((valL b / BS ^ j % BS:Nat):Int))/\fits IntKind.i64 (nI (qh0 S (a.length+b.length)) ((i:Int)+(j:Int)).toNat+nI a i*((valL b / BS ^ j % BS:Nat):Int)+(c:Int))/\fits IntKind.i64 ((i:Int)+(j:Int)) /\
    (0<=(i:Int)+(j:Int)/\(i:Int)+(j:Int)<((qh0 S (a.length+b.length)).length:Int))/\((i:Int)+(j:Int)).toNat<(qh0 S (a.length+b.length)).length/\fits IntKind.i64 (Int.tdiv (nI (qh0 S (a.length+b.length)) ((i:Int)+(j:Int)).toNat+nI a i*((valL b / BS ^ j % BS:Nat):Int)+(c:Int)) 1000000000)/\fits IntKind.i64 ((j:Int)+1) /\
    ∃s:Nat × Nat × Nat,w79 (valL a) (valL b) (a.length+b.length) i s.1 s.2.1 s.2.2/\a.length+b.length+1-s.1<a.length+b.length+1-j/\(Int.tdiv (nI (qh0 S (a.length+b.length)) ((i:Int)+(j:Int)).toNat+nI a i*((valL b / BS ^ j % BS:Nat):Int)+(c:Int)) 1000000000=(s.2.1:Int)/\(j:Int)+1=(s.1:Int)) /\
    (qh0 S (a.length+b.length)).set ((i:Int)+(j:Int)).toNat (Int.tmod (nI (qh0 S (a.length+b.length)) ((i:Int)+(j:Int)).toNat+nI a i*((valL b / BS ^ j % BS:Nat):Int)+(c:Int)) 1000000000)=qh0 s.2.2 (a.length+b.length):=λhk=>by
   obtain⟨t1,t2⟩:=xn9 hT hk
   obtain⟨t3,t4⟩:=xf6 hT
   have eI:((i:Int)+(j:Int)).toNat=i+j:=by omega
   have d1:=q8r S (i+j)
   have eP:nI a i*((valL b / BS ^ j % BS:Nat):Int)=((valL a / BS ^ i % BS*(valL b / BS ^ j % BS):Nat):Int):=by rw[ha.at_ hlt,Int.natCast_mul]
   have eQ:((S / BS ^ (i+j) % BS:Nat):Int)+((valL a / BS ^ i % BS*(valL b / BS ^ j % BS):Nat):Int)+(c:Int)=((tmQ (valL a) (valL b) i j c S:Nat):Int):=by unfold tmQ; rw[Int.natCast_add,Int.natCast_add]
   have hq2:tmQ (valL a) (valL b) i j c S / BS<=tmQ (valL a) (valL b) i j c S:=Nat.div_le_self _ _
   have hjn:=t1.le
   rw[eI,q1w _ _ _ hk,eP,eQ,w7f,w7e,qi3,t2]
   have f2:fits IntKind.i64 (((S / BS ^ (i+j) % BS:Nat):Int)+((valL a / BS ^ i % BS*(valL b / BS ^ j % BS):Nat):Int)):=by
    generalize((S / BS ^ (i+j) % BS:Nat):Int)=z at *
    generalize(valL a / BS ^ i % BS*(valL b / BS ^ j % BS))=t at *
    exact qb9 (by omega) (by omega)
   exact⟨qb9 (by omega) (by omega),⟨by omega,by omega⟩,by omega,hb,q40 (by omega),f2,q40 (by omega),qb9 (by omega) (by omega),⟨by omega,by omega⟩,by omega,q40 (by omega),qb9 (by omega) (by omega),(j+1,tmQ (valL a) (valL b) i j c S / BS,tmS (valL a) (valL b) i j c S),t1,by dsimp only; omega,⟨rfl,by dsimp only; omega⟩,rfl⟩
  refine⟨λh1=>body (by omega),λh1=>⟨λh2=>body (x3d hT hlt hB (by omega)),λh2=>⟨qb9 (by omega) (by omega),i+1,hlt,by omega,by omega,?_⟩⟩⟩
  have hc:c=0:=by omega
  have he:=hT.eq
  have hm:valL b % BS ^ j=valL b:=Nat.mod_eq_of_lt (Nat.lt_of_lt_of_le hB (qq6 (by omega)))
  rw[hc,Nat.zero_mul,Nat.add_zero,hm,<- w7c hlt] at he
  rw[he]
 ·obtain rfl:i=a.length:=by omega
  rw[Nat.mod_eq_of_lt hA]
  exact w0l (mul_lt hA hB) (by omega)
end Go.Proofs.Ytdibdlelmkcccaa
set_option linter.unusedVariables false
set_option linter.unusedSimpArgs false
namespace Go.Proofs.Ytdibdlelmkcccaa
open Go Go.RowKit Eng
abbrev q7m:Ty:=.prod .bool (.prod (.list (.int .i64)) (.list (.int .i64)))
structure RxOk (K:Nat) (a:q42):Prop where
 n:a.2.1=dgs (valL a.2.1)
 d:a.2.2=dgs (valL a.2.2)
 ln:a.2.1.length<=K
 ld:a.2.2.length<=K
theorem RxOk.dn {K:Nat} {a:q42} (h:RxOk K a) (hK:K<=1000:=by omega):DigOk a.2.1:=⟨Nat.le_trans h.ln hK,h.n⟩
theorem RxOk.dd {K:Nat} {a:q42} (h:RxOk K a) (hK:K<=1000:=by omega):DigOk a.2.2:=⟨Nat.le_trans h.ld hK,h.d⟩
theorem wl4 {N k:Nat} (h:N<BS ^ k) (hk:k<=1000):DigOk (dgs N):=⟨by rw[q0k]; exact Nat.le_trans (q0j h) hk,by rw[qg9]⟩
theorem q67 {l:List Int} (h:l=dgs (valL l)) {K:Nat} (hK:l.length<=K):valL l<BS ^ K:=by
 refine Nat.lt_of_lt_of_le (qm3 (valL l)) (qq6 ?_)
 have:l.length=lenD (valL l):=by
  conv=>lhs; rw[h]
  rw[q0k]
 omega
theorem q43 {n d:Int} (hn:qd2 BIG n) (hd:qd2 BIG d):RxOk 3 (qd5 n d):=by
 have e:BS ^ 3=1000000000000000000000000000:=by decide
 have hB:BIG=4000000000000000000:=rfl
 unfold qd2 at hn hd
 unfold qd5
 refine⟨by dsimp only; rw[qg9],by dsimp only; rw[qg9],?_,?_⟩
 ·dsimp only; rw[q0k]; exact q0j (by omega)
 ·dsimp only; rw[q0k]; exact q0j (by omega)
theorem wb2 {K:Nat} {n:Int} {a:q42} (hn:qd2 BIG n) (h:RxOk K a):RxOk (K+3) (qf6 n a):=by
 have e:BS ^ 3=1000000000000000000000000000:=by decide
 have hB:BIG=4000000000000000000:=rfl
 unfold qd2 at hn
 have hv:=q67 h.n h.ln
 unfold qf6
 refine⟨by dsimp only; rw[qg9],h.d,?_,Nat.le_trans h.ld (by omega)⟩
 dsimp only; rw[q0k]
 refine q0j ?_
 rw[Nat.mul_comm]
 exact mul_lt hv (by omega)
theorem xp0 {K L:Nat} {a b:q42} (ha:RxOk K a) (hb:RxOk L b):RxOk (K+L+1) (plusV a b):=by
 have a1:=q67 ha.n ha.ln
 have a2:=q67 ha.d ha.ld
 have b1:=q67 hb.n hb.ln
 have b2:=q67 hb.d hb.ld
 have hx:plusX a b<BS ^ (K+L):=mul_lt a1 b2
 have hy:plusY a b<BS ^ (K+L):=by have:=mul_lt b1 a2; rwa [Nat.add_comm L K] at this
 have hd:w21 a b<BS ^ (K+L):=mul_lt a2 b2
 have hs:BS ^ (K+L+1)=BS ^ (K+L)*BS:=Nat.pow_succ _ _
 have e:BS=1000000000:=rfl
 have hp:=qm6 (K+L)
 have hl:∀N,N<2*BS ^ (K+L)->(dgs N).length<=K+L+1:=λN hN=>by
  rw[q0k]
  refine q0j ?_
  rw[hs]
  have:BS ^ (K+L)*2<=BS ^ (K+L)*BS:=Nat.mul_le_mul_left _ (by rw[e]; omega)
  omega
 unfold plusV
 split
 ·exact⟨by dsimp only; rw[qg9],by dsimp only; rw[qg9],hl _ (by omega),hl _ (by omega)⟩
 ·split
  ·exact⟨by dsimp only; rw[qg9],by dsimp only; rw[qg9],hl _ (by omega),hl _ (by omega)⟩
  ·exact⟨by dsimp only; rw[qg9],by dsimp only; rw[qg9],hl _ (by omega),hl _ (by omega)⟩
theorem RxOk.up {K L:Nat} {a:q42} (h:RxOk K a) (hK:K<=L:=by omega):RxOk L a:=⟨h.n,h.d,Nat.le_trans h.ln hK,Nat.le_trans h.ld hK⟩
theorem wl5 {a b:List Int} {K L:Nat} (ha:a=dgs (valL a)) (la:a.length<=K) (hb:b=dgs (valL b)) (lb:b.length<=L) (h:K+L<=1000):DigOk (qy8 a b):=wl4 (mul_lt (q67 ha la) (q67 hb lb)) h
theorem w7x (a b:List Int):valL (qy8 a b)=valL a*valL b:=qg9 _
theorem q68 (A B:Nat):0<=wm2 A B↔B<=A:=by
 unfold wm2
 split
 ·omega
 ·split <;> omega
abbrev xz1:qc7:=qg3 false none [.prod (.int .i64) (.int .i64)] [q7m] (λx=>qd2 BIG x.1.1/\qd2 BIG x.1.2) (λx=>(qd5 x.1.1 x.1.2,()))
theorem q69:qd8 Try.prog 109 xz1:=by
 refine meets (snd (SpecsOk.cons wk9 (SpecsOk.nil _))) Try.func109 rfl rfl (λ_ _=>none) (λ_=>by kernel_rfl) (by decide) ?_
 rintro⟨⟨n,d⟩,⟨⟩⟩ h
 revert n d
 intro(n:Int) (d:Int) (h:qd2 BIG n/\qd2 BIG d)
 refine @qe0 _ (fits .i64 ((0:Int)-n)/\qd2 BIG (max2 true n ((0:Int)-n))/\qd2 BIG d/\decide (n<(0:Int))=Prod.fst (qd5 n d)/\dgs (Int.toNat (max2 true n ((0:Int)-n)))=Prod.fst (Prod.snd (qd5 n d))/\dgs (Int.toNat d)=Prod.snd (Prod.snd (qd5 n d))/\True) (by kernel_rfl) ?_
 try simp only[z0,z1,z2,z3,z4,z5,z6,z7,z8,z9,z10,Int.reduceEq,z11,z12,z13,z14,z15,z16,z17,z18,z19,z20,z21,z22,z23,z24,z25,z26,z27,z28,z29,z30,Int.reduceLE,Int.reduceLT,z31,z32,z33,z34,qa3]
 try simp only[qb3,qb4,qc8,List.set_cons_zero,List.cons.injEq,and_true,true_and]
 obtain⟨h1,h2⟩:=h
 have hB:BIG=4000000000000000000:=rfl
 unfold qd2 at h1
 refine⟨qb9 (by omega) (by omega),?_,h2,rfl,rfl,rfl⟩
 have e:max2 true n (0-n)=max n (0-n):=rfl
 rw[e]
 unfold qd2
 omega
abbrev x7i:qc7:=qg3 false none [qg4] [q7m] (λx=>qd2 BIG x.1) (λx=>(qd5 x.1 1,()))
theorem wl6:qd8 Try.prog 74 x7i:=by
 refine meets (snd (SpecsOk.cons q69 (SpecsOk.nil _))) Try.func74 rfl rfl (λ_ _=>none) (λ_=>by kernel_rfl) (by decide) ?_
 rintro⟨n,⟨⟩⟩ h
 revert n
 intro(n:Int) (h:qd2 BIG n)
 refine @qe0 _ ((qd2 BIG n/\qd2 BIG (1:Int))/\Prod.fst (qd5 n (1:Int))=Prod.fst (qd5 n (1:Int))/\Prod.fst (Prod.snd (qd5 n (1:Int)))=Prod.fst (Prod.snd (qd5 n (1:Int)))/\Prod.snd (Prod.snd (qd5 n (1:Int)))=Prod.snd (Prod.snd (qd5 n (1:Int)))/\True) (by kernel_rfl) ?_
 try simp only[z0,z1,z2,z3,z4,z5,z6,z7,z8,z9,z10,Int.reduceEq,z11,z12,z13,z14,z15,z16,z17,z18,z19,z20,z21,z22,z23,z24,z25,z26,z27,z28,z29,z30,Int.reduceLE,Int.reduceLT,z31,z32,z33,z34,qa3]
 try simp only[qb3,qb4,qc8,List.set_cons_zero,List.cons.injEq,and_true,true_and]
 exact⟨h,by unfold qd2 BIG; omega⟩
abbrev xz2:qc7:=qg3 false none [q7m,q7m] [q7m] (λx=>RxOk 400 x.1/\RxOk 400 x.2.1) (λx=>(plusV x.1 x.2.1,()))
set_option maxHeartbeats 8000000 in
theorem q7a:qd8 Try.prog 107 xz2:=by
 refine meets (snd (SpecsOk.cons q6u (SpecsOk.cons w2y (SpecsOk.cons w7g (SpecsOk.cons wq7 (SpecsOk.nil _)))))) Try.func107 rfl rfl (λ_ _=>none) (λ_=>by kernel_rfl) (by decide) ?_
 rintro⟨⟨sa,na,da⟩,⟨sb,nb,db⟩,⟨⟩⟩ h
 revert sa na da sb nb db
 intro(sa:Bool) (na:List Int) (da:List Int) (sb:Bool) (nb:List Int) (db:List Int) (h:RxOk 400 (sa,na,da)/\RxOk 400 (sb,nb,db))
 refine @qe0 _ ((DigOk na/\DigOk db)/\(DigOk nb/\DigOk da)/\(DigOk da/\DigOk db)/\((sa==sb)=true->(DigOk (qy8 na db)/\DigOk (qy8 nb da))/\sa=Prod.fst (plusV (sa,na,da) (sb,nb,db))/\x0g (qy8 na db) (qy8 nb da)=Prod.fst (Prod.snd (plusV (sa,na,da) (sb,nb,db)))/\qy8 da db=Prod.snd (Prod.snd (plusV (sa,na,da) (sb,nb,db)))/\True)/\((sa==sb)=false->(DigOk (qy8 na db)/\DigOk (qy8 nb da))/\(decide ((0:Int)<=wm2 (valL (qy8 na db)) (valL (qy8 nb da)))=true->(DigOk (qy8 na db)/\DigOk (qy8 nb da)/\valL (qy8 nb da)<=valL (qy8 na db))/\sa=Prod.fst (plusV (sa,na,da) (sb,nb,db))/\xq5 (qy8 na db) (qy8 nb da)=Prod.fst (Prod.snd (plusV (sa,na,da) (sb,nb,db)))/\qy8 da db=Prod.snd (Prod.snd (plusV (sa,na,da) (sb,nb,db)))/\True)/\(decide ((0:Int)<=wm2 (valL (qy8 na db)) (valL (qy8 nb da)))=false->(DigOk (qy8 nb da)/\DigOk (qy8 na db)/\valL (qy8 na db)<=valL (qy8 nb da))/\sb=Prod.fst (plusV (sa,na,da) (sb,nb,db))/\xq5 (qy8 nb da) (qy8 na db)=Prod.fst (Prod.snd (plusV (sa,na,da) (sb,nb,db)))/\qy8 da db=Prod.snd (Prod.snd (plusV (sa,na,da) (sb,nb,db)))/\True))) (by kernel_rfl) ?_
 try simp only[z0,z1,z2,z3,z4,z5,z6,z7,z8,z9,z10,Int.reduceEq,z11,z12,z13,z14,z15,z16,z17,z18,z19,z20,z21,z22,z23,z24,z25,z26,z27,z28,z29,z30,Int.reduceLE,Int.reduceLT,z31,z32,z33,z34,qa3]
 try simp only[qb3,qb4,qc8,List.set_cons_zero,List.cons.injEq,and_true,true_and]
 obtain⟨ha,hb⟩:=h
 have m1:=wl5 ha.n ha.ln hb.d hb.ld (by decide)
 have m2:=wl5 hb.n hb.ln ha.d ha.ld (by decide)
 have e1:=w7x na db
 have e2:=w7x nb da
 have eV:plusV (sa,na,da) (sb,nb,db)=if sa=sb then(sa,dgs (valL na*valL db+valL nb*valL da),qy8 da db)
  else if valL nb*valL da<=valL na*valL db then(sa,dgs (valL na*valL db-valL nb*valL da),qy8 da db) else(sb,dgs (valL nb*valL da-valL na*valL db),qy8 da db):=rfl
 refine⟨⟨ha.dn,hb.dd⟩,⟨hb.dn,ha.dd⟩,⟨ha.dd,hb.dd⟩,λhs=>?_,λhs=>⟨⟨m1,m2⟩,λhc=>?_,λhc=>?_⟩⟩
 ·rw[eV,if_pos hs]
  refine⟨⟨m1,m2⟩,rfl,?_,rfl⟩
  unfold x0g; rw[e1,e2]
 ·have hc:=(q68 _ _).1 hc
  rw[e1,e2] at hc
  rw[eV,if_neg hs,if_pos hc]
  refine⟨⟨m1,m2,by rw[e1,e2]; exact hc⟩,rfl,?_,rfl⟩
  unfold xq5; rw[e1,e2]
 ·have hc:¬0<=wm2 (valL (qy8 na db)) (valL (qy8 nb da)):=Int.not_le.2 hc
  rw[q68,e1,e2] at hc
  rw[eV,if_neg hs,if_neg hc]
  refine⟨⟨m2,m1,by rw[e1,e2]; omega⟩,rfl,?_,rfl⟩
  unfold xq5; rw[e1,e2]
abbrev xp1:qc7:=qg3 false none [qg4,q7m] [q7m] (λx=>qd2 BIG x.1/\RxOk 900 x.2.1) (λx=>(qf6 x.1 x.2.1,()))
theorem q4a:qd8 Try.prog 108 xp1:=by
 refine meets (snd (SpecsOk.cons q6u (SpecsOk.cons wk9 (SpecsOk.nil _)))) Try.func108 rfl rfl (λ_ _=>none) (λ_=>by kernel_rfl) (by decide) ?_
 rintro⟨n,⟨s,a,d⟩,⟨⟩⟩ h
 revert n s a d
 intro(n:Int) (s:Bool) (a:List Int) (d:List Int) (h:qd2 BIG n/\RxOk 900 (s,a,d))
 refine @qe0 _ (fits .i64 ((0:Int)-n)/\qd2 BIG (max2 true n ((0:Int)-n))/\(DigOk (dgs (Int.toNat (max2 true n ((0:Int)-n))))/\DigOk a)/\(s != decide (n<(0:Int)))=Prod.fst (qf6 n (s,a,d))/\qy8 (dgs (Int.toNat (max2 true n ((0:Int)-n)))) a=Prod.fst (Prod.snd (qf6 n (s,a,d)))/\d=Prod.snd (Prod.snd (qf6 n (s,a,d)))/\True) (by kernel_rfl) ?_
 try simp only[z0,z1,z2,z3,z4,z5,z6,z7,z8,z9,z10,Int.reduceEq,z11,z12,z13,z14,z15,z16,z17,z18,z19,z20,z21,z22,z23,z24,z25,z26,z27,z28,z29,z30,Int.reduceLE,Int.reduceLT,z31,z32,z33,z34,qa3]
 try simp only[qb3,qb4,qc8,List.set_cons_zero,List.cons.injEq,and_true,true_and]
 obtain⟨hn,ha⟩:=h
 have hB:BIG=4000000000000000000:=rfl
 unfold qd2 at hn
 have e:max2 true n (0-n)=max n (0-n):=rfl
 have e3:BS ^ 3=1000000000000000000000000000:=by decide
 have hd:DigOk (dgs (max n (0-n)).toNat):=wl4 (k:=3) (by omega) (by omega)
 rw[e]
 refine⟨qb9 (by omega) (by omega),by unfold qd2; omega,⟨hd,ha.dn⟩,rfl,?_,rfl⟩
 unfold qy8 qf6
 rw[qg9]
abbrev x3j:qc7:=qg3 true none [q7m,q7m] [qg4] (λx=>RxOk 300 x.1/\RxOk 300 x.2.1) (λx=>(wm3 x.1 x.2.1,()))
theorem w25:qd8 Try.prog 72 x3j:=by
 refine meets (snd (SpecsOk.cons q4a (SpecsOk.cons q7a (SpecsOk.nil _)))) Try.func72 rfl rfl (λ_ _=>none) (λ_=>by kernel_rfl) (by decide) ?_
 rintro⟨⟨sa,na,da⟩,⟨sb,nb,db⟩,⟨⟩⟩ h
 revert sa na da sb nb db
 intro(sa:Bool) (na:List Int) (da:List Int) (sb:Bool) (nb:List Int) (db:List Int) (h:RxOk 300 (sa,na,da)/\RxOk 300 (sb,nb,db))
 refine @qe0 _ ((qd2 BIG (-1:Int)/\RxOk (900:Nat) (sb,nb,db))/\(RxOk (400:Nat) (sa,na,da)/\RxOk (400:Nat) (Prod.fst (qf6 (-1:Int) (sb,nb,db)),Prod.fst (Prod.snd (qf6 (-1:Int) (sb,nb,db))),Prod.snd (Prod.snd (qf6 (-1:Int) (sb,nb,db)))))/\(((↑(List.length (Prod.fst (Prod.snd (plusV (sa,na,da) (Prod.fst (qf6 (-1:Int) (sb,nb,db)),Prod.fst (Prod.snd (qf6 (-1:Int) (sb,nb,db))),Prod.snd (Prod.snd (qf6 (-1:Int) (sb,nb,db)))))))):Int)==(0:Int))=true->(0:Int)=wm3 (sa,na,da) (sb,nb,db))/\(((↑(List.length (Prod.fst (Prod.snd (plusV (sa,na,da) (Prod.fst (qf6 (-1:Int) (sb,nb,db)),Prod.fst (Prod.snd (qf6 (-1:Int) (sb,nb,db))),Prod.snd (Prod.snd (qf6 (-1:Int) (sb,nb,db)))))))):Int)==(0:Int))=false->(Prod.fst (plusV (sa,na,da) (Prod.fst (qf6 (-1:Int) (sb,nb,db)),Prod.fst (Prod.snd (qf6 (-1:Int) (sb,nb,db))),Prod.snd (Prod.snd (qf6 (-1:Int) (sb,nb,db)))))=true->(-1:Int)=wm3 (sa,na,da) (sb,nb,db))/\(Prod.fst (plusV (sa,na,da) (Prod.fst (qf6 (-1:Int) (sb,nb,db)),Prod.fst (Prod.snd (qf6 (-1:Int) (sb,nb,db))),Prod.snd (Prod.snd (qf6 (-1:Int) (sb,nb,db)))))=false->(1:Int)=wm3 (sa,na,da) (sb,nb,db)))) (by kernel_rfl) ?_
 try simp only[z0,z1,z2,z3,z4,z5,z6,z7,z8,z9,z10,Int.reduceEq,z11,z12,z13,z14,z15,z16,z17,z18,z19,z20,z21,z22,z23,z24,z25,z26,z27,z28,z29,z30,Int.reduceLE,Int.reduceLT,z31,z32,z33,z34,qa3]
 try simp only[qb3,qb4,qc8,List.set_cons_zero,List.cons.injEq,and_true,true_and]
 obtain⟨ha,hb⟩:=h
 have hs:=wb2 (n:=-1) (by unfold qd2 BIG; omega) hb
 refine⟨⟨by unfold qd2 BIG; omega,hb.up⟩,⟨ha.up,hs.up⟩,λh0=>?_,λh0=>⟨λh1=>?_,λh1=>?_⟩⟩
 ·have h0:(plusV (sa,na,da) (qf6 (-1) (sb,nb,db))).2.1.length=0:=Int.natCast_eq_zero.1 h0
  unfold wm3; rw[if_pos h0]
 ·have h0:¬(plusV (sa,na,da) (qf6 (-1) (sb,nb,db))).2.1.length=0:=λq=>h0 (Int.natCast_eq_zero.2 q)
  have h1:(plusV (sa,na,da) (qf6 (-1) (sb,nb,db))).1=true:=h1
  unfold wm3; rw[if_neg h0,if_pos h1]
 ·have h0:¬(plusV (sa,na,da) (qf6 (-1) (sb,nb,db))).2.1.length=0:=λq=>h0 (Int.natCast_eq_zero.2 q)
  have h1:¬(plusV (sa,na,da) (qf6 (-1) (sb,nb,db))).1=true:=by
   intro q
   have h1:(plusV (sa,na,da) (qf6 (-1) (sb,nb,db))).1=false:=h1
   rw[h1] at q; cases q
  unfold wm3; rw[if_neg h0,if_neg h1]
structure w7y (r:List Int) (x:List (Int × Int)):Prop where
 len:r.length<=20
 le:r.length<=x.length
 row:∀j,j<r.length->qd2 1 (nI r j)
 val:∀j,j<r.length->qd2 BIG (nR x j).1/\qd2 BIG (nR x j).2
theorem wr7 {r:List Int} {x:List (Int × Int)} (h:w7y r x):∀k,k<=r.length->RxOk (7*k+3) (qd9 r x k)
 | 0,_=>q43 (by unfold qd2 BIG; omega) (by unfold qd2 BIG; omega)
 | k+1,hk=>by
  have ih:=wr7 h k (by omega)
  rw[qd9]
  split
  ·have h1:=h.row k (by omega)
   have:=xp0 ih (wb2 (n:=nI r k) (by unfold qd2 at *; unfold BIG; omega) (q43 (h.val k (by omega)).1 (h.val k (by omega)).2))
   exact⟨this.n,this.d,by have:=this.ln; omega,by have:=this.ld; omega⟩
  ·exact⟨ih.n,ih.d,by have:=ih.ln; omega,by have:=ih.ld; omega⟩
abbrev x3k:qc7:=qg3 false none [qf7,wo1] [q7m] (λx=>w7y x.1 x.2.1) (λx=>(qd9 x.1 x.2.1 x.1.length,()))
def xz3 (r:List Int) (x:List (Int × Int)):Nat->Option Inv
 | 0=>some (Inv.of [11] 2 (λk:Nat=>[(11,.lit (.int .i64 k))]) (λk=>[.box 90 (.cons (.lit (.bool false)) (.cons (.lit (.slice .none 0 0)) (.cons (.lit (.slice .none 0 0)) .nil))),.box 90 (.cons (.lit (.bool (qd9 r x k).1)) (.cons (.dat (.int .i64) (qd9 r x k).2.1) (.cons (.dat (.int .i64) (qd9 r x k).2.2) .nil)))]) (λk=>k<=r.length) (λk=>r.length-k))
 | _=>none
theorem w26:qd8 Try.prog 73 x3k:=by
 refine meets (snd (SpecsOk.cons wl6 (SpecsOk.cons q69 (SpecsOk.cons q4a (SpecsOk.cons q7a (SpecsOk.nil _)))))) Try.func73 rfl rfl (λx=>xz3 x.1 x.2.1) (λ_=>by kernel_rfl) (by decide) ?_
 rintro⟨r,x,⟨⟩⟩ h
 revert r x
 intro(r:List Int) (x:List (Int × Int)) (h:w7y r x)
 refine @qe0 _ (qd2 BIG (0:Int)/\∃(v0:Unit),∃(v1:Nat),Nat.le v1 (List.length r)/\(((0:Int)=(↑v1:Int)/\True)/\(false=false/\Value.slice none (0:Nat) (0:Nat)=Value.slice none (0:Nat) (0:Nat)/\Value.slice none (0:Nat) (0:Nat)=Value.slice none (0:Nat) (0:Nat)/\True)/\(Prod.fst (qd5 (0:Int) (1:Int))=Prod.fst (qd9 r x v1)/\Prod.fst (Prod.snd (qd5 (0:Int) (1:Int)))=Prod.fst (Prod.snd (qd9 r x v1))/\Prod.snd (Prod.snd (qd5 (0:Int) (1:Int)))=Prod.snd (Prod.snd (qd9 r x v1))/\True)/\True)/\∀(v2:Nat),Nat.le v2 (List.length r)->(decide ((↑v2:Int)<(↑(List.length r):Int))=true->((0:Int)<=(↑v2:Int)/\(↑v2:Int)<(↑(List.length r):Int))/\((qa1 (Ty.int .i64) r (Int.toNat (↑v2:Int)) != (0:Int))=true->((0:Int)<=(↑v2:Int)/\(↑v2:Int)<(↑(List.length x):Int))/\(qd2 BIG (Prod.fst (qa1 (Ty.prod (Ty.int .i64) (Ty.int .i64)) x (Int.toNat (↑v2:Int))))/\qd2 BIG (Prod.snd (qa1 (Ty.prod (Ty.int .i64) (Ty.int .i64)) x (Int.toNat (↑v2:Int)))))/\(qd2 BIG (qa1 (Ty.int .i64) r (Int.toNat (↑v2:Int)))/\RxOk (900:Nat) (Prod.fst (qd5 (Prod.fst (qa1 (Ty.prod (Ty.int .i64) (Ty.int .i64)) x (Int.toNat (↑v2:Int)))) (Prod.snd (qa1 (Ty.prod (Ty.int .i64) (Ty.int .i64)) x (Int.toNat (↑v2:Int))))),Prod.fst (Prod.snd (qd5 (Prod.fst (qa1 (Ty.prod (Ty.int .i64) (Ty.int .i64)) x (Int.toNat (↑v2:Int)))) (Prod.snd (qa1 (Ty.prod (Ty.int .i64) (Ty.int .i64)) x (Int.toNat (↑v2:Int)))))),Prod.snd (Prod.snd (qd5 (Prod.fst (qa1 (Ty.prod (Ty.int .i64) (Ty.int .i64)) x (Int.toNat (↑v2:Int)))) (Prod.snd (qa1 (Ty.prod (Ty.int .i64) (Ty.int .i64)) x (Int.toNat (↑v2:Int))))))))/\(RxOk (400:Nat) (Prod.fst (qd9 r x v2),Prod.fst (Prod.snd (qd9 r x v2)),Prod.snd (Prod.snd (qd9 r x v2)))/\RxOk (400:Nat) (Prod.fst (qf6 (qa1 (Ty.int .i64) r (Int.toNat (↑v2:Int))) (Prod.fst (qd5 (Prod.fst (qa1 (Ty.prod (Ty.int .i64) (Ty.int .i64)) x (Int.toNat (↑v2:Int)))) (Prod.snd (qa1 (Ty.prod (Ty.int .i64) (Ty.int .i64)) x (Int.toNat (↑v2:Int))))),Prod.fst (Prod.snd (qd5 (Prod.fst (qa1 (Ty.prod (Ty.int .i64) (Ty.int .i64)) x (Int.toNat (↑v2:Int)))) (Prod.snd (qa1 (Ty.prod (Ty.int .i64) (Ty.int .i64)) x (Int.toNat (↑v2:Int)))))),Prod.snd (Prod.snd (qd5 (Prod.fst (qa1 (Ty.prod (Ty.int .i64) (Ty.int .i64)) x (Int.toNat (↑v2:Int)))) (Prod.snd (qa1 (Ty.prod (Ty.int .i64) (Ty.int .i64)) x (Int.toNat (↑v2:Int)))))))),Prod.fst (Prod.snd (qf6 (qa1 (Ty.int .i64) r (Int.toNat (↑v2:Int))) (Prod.fst (qd5 (Prod.fst (qa1 (Ty.prod (Ty.int .i64) (Ty.int .i64)) x (Int.toNat (↑v2:Int)))) (Prod.snd (qa1 (Ty.prod (Ty.int .i64) (Ty.int .i64)) x (Int.toNat (↑v2:Int))))),Prod.fst (Prod.snd (qd5 (Prod.fst (qa1 (Ty.prod (Ty.int .i64) (Ty.int .i64)) x (Int.toNat (↑v2:Int)))) (Prod.snd (qa1 (Ty.prod (Ty.int .i64) (Ty.int .i64)) x (Int.toNat (↑v2:Int)))))),Prod.snd (Prod.snd (qd5 (Prod.fst (qa1 (Ty.prod (Ty.int .i64) (Ty.int .i64)) x (Int.toNat (↑v2:Int)))) (Prod.snd (qa1 (Ty.prod (Ty.int .i64) (Ty.int .i64)) x (Int.toNat (↑v2:Int))))))))),Prod.snd (Prod.snd (qf6 (qa1 (Ty.int .i64) r (Int.toNat (↑v2:Int))) (Prod.fst (qd5 (Prod.fst (qa1 (Ty.prod (Ty.int .i64) (Ty.int .i64)) x (Int.toNat (↑v2:Int)))) (Prod.snd (qa1 (Ty.prod (Ty.int .i64) (Ty.int .i64)) x (Int.toNat (↑v2:Int))))),Prod.fst (Prod.snd (qd5 (Prod.fst (qa1 (Ty.prod (Ty.int .i64) (Ty.int .i64)) x (Int.toNat (↑v2:Int)))) (Prod.snd (qa1 (Ty.prod (Ty.int .i64) (Ty.int .i64)) x (Int.toNat (↑v2:Int)))))),Prod.snd (Prod.snd (qd5 (Prod.fst (qa1 (Ty.prod (Ty.int .i64) (Ty.int .i64)) x (Int.toNat (↑v2:Int)))) (Prod.snd (qa1 (Ty.prod (Ty.int .i64) (Ty.int .i64)) x (Int.toNat (↑v2:Int)))))))))))/\fits .i64 ((↑v2:Int)+(1:Int))/\∃(v6:Nat),Nat.le v6 (List.length r)/\List.length r-v6<List.length r-v2/\((↑v2:Int)+(1:Int)=(↑v6:Int)/\True)/\(false=false/\Value.slice none (0:Nat) (0:Nat)=Value.slice none (0:Nat) (0:Nat)/\Value.slice none (0:Nat) (0:Nat)=Value.slice none (0:Nat) (0:Nat)/\True)/\(Prod.fst (plusV (Prod.fst (qd9 r x v2),Prod.fst (Prod.snd (qd9 r x v2)),Prod.snd (Prod.snd (qd9 r x v2))) (Prod.fst (qf6 (qa1 (Ty.int .i64) r (Int.toNat (↑v2:Int))) (Prod.fst (qd5 (Prod.fst (qa1 (Ty.prod (Ty.int .i64) (Ty.int .i64)) x (Int.toNat (↑v2:Int)))) (Prod.snd (qa1 (Ty.prod (Ty.int .i64) (Ty.int .i64)) x (Int.toNat (↑v2:Int))))),Prod.fst (Prod.snd (qd5 (Prod.fst (qa1 (Ty.prod (Ty.int .i64) (Ty.int .i64)) x (Int.toNat (↑v2:Int)))) (Prod.snd (qa1 (Ty.prod (Ty.int .i64) (Ty.int .i64)) x (Int.toNat (↑v2:Int)))))),Prod.snd (Prod.snd (qd5 (Prod.fst (qa1 (Ty.prod (Ty.int .i64) (Ty.int .i64)) x (Int.toNat (↑v2:Int)))) (Prod.snd (qa1 (Ty.prod (Ty.int .i64) (Ty.int .i64)) x (Int.toNat (↑v2:Int)))))))),Prod.fst (Prod.snd (qf6 (qa1 (Ty.int .i64) r (Int.toNat (↑v2:Int))) (Prod.fst (qd5 (Prod.fst (qa1 (Ty.prod (Ty.int .i64) (Ty.int .i64)) x (Int.toNat (↑v2:Int)))) (Prod.snd (qa1 (Ty.prod (Ty.int .i64) (Ty.int .i64)) x (Int.toNat (↑v2:Int))))),Prod.fst (Prod.snd (qd5 (Prod.fst (qa1 (Ty.prod (Ty.int .i64) (Ty.int .i64)) x (Int.toNat (↑v2:Int)))) (Prod.snd (qa1 (Ty.prod (Ty.int .i64) (Ty.int .i64)) x (Int.toNat (↑v2:Int)))))),Prod.snd (Prod.snd (qd5 (Prod.fst (qa1 (Ty.prod (Ty.int .i64) (Ty.int .i64)) x (Int.toNat (↑v2:Int)))) (Prod.snd (qa1 (Ty.prod (Ty.int .i64) (Ty.int .i64)) x (Int.toNat (↑v2:Int))))))))),Prod.snd (Prod.snd (qf6 (qa1 (Ty.int .i64) r (Int.toNat (↑v2:Int))) (Prod.fst (qd5 (Prod.fst (qa1 (Ty.prod (Ty.int .i64) (Ty.int .i64)) x (Int.toNat (↑v2:Int)))) (Prod.snd (qa1 (Ty.prod (Ty.int .i64) (Ty.int .i64)) x (Int.toNat (↑v2:Int))))),Prod.fst (Prod.snd (qd5 (Prod.fst (qa1 (Ty.prod (Ty.int .i64) (Ty.int .i64)) x (Int.toNat (↑v2:Int)))) (Prod.snd (qa1 (Ty.prod (Ty.int .i64) (Ty.int .i64)) x (Int.toNat (↑v2:Int)))))),Prod.snd (Prod.snd (qd5 (Prod.fst (qa1 (Ty.prod (Ty.int .i64) (Ty.int .i64)) x (Int.toNat (↑v2:Int)))) (Prod.snd (qa1 (Ty.prod (Ty.int .i64) (Ty.int .i64)) x (Int.toNat (↑v2:Int)))))))))))=Prod.fst (qd9 r x v6)/\Prod.fst (Prod.snd (plusV (Prod.fst (qd9 r x v2),Prod.fst (Prod.snd (qd9 r x v2)),Prod.snd (Prod.snd (qd9 r x v2))) (Prod.fst (qf6 (qa1 (Ty.int .i64) r (Int.toNat (↑v2:Int))) (Prod.fst (qd5 (Prod.fst (qa1 (Ty.prod (Ty.int .i64) (Ty.int .i64)) x (Int.toNat (↑v2:Int)))) (Prod.snd (qa1 (Ty.prod (Ty.int .i64) (Ty.int .i64)) x (Int.toNat (↑v2:Int))))),Prod.fst (Prod.snd (qd5 (Prod.fst (qa1 (Ty.prod (Ty.int .i64) (Ty.int .i64)) x (Int.toNat (↑v2:Int)))) (Prod.snd (qa1 (Ty.prod (Ty.int .i64) (Ty.int .i64)) x (Int.toNat (↑v2:Int)))))),Prod.snd (Prod.snd (qd5 (Prod.fst (qa1 (Ty.prod (Ty.int .i64) (Ty.int .i64)) x (Int.toNat (↑v2:Int)))) (Prod.snd (qa1 (Ty.prod (Ty.int .i64) (Ty.int .i64)) x (Int.toNat (↑v2:Int)))))))),Prod.fst (Prod.snd (qf6 (qa1 (Ty.int .i64) r (Int.toNat (↑v2:Int))) (Prod.fst (qd5 (Prod.fst (qa1 (Ty.prod (Ty.int .i64) (Ty.int .i64)) x (Int.toNat (↑v2:Int)))) (Prod.snd (qa1 (Ty.prod (Ty.int .i64) (Ty.int .i64)) x (Int.toNat (↑v2:Int))))),Prod.fst (Prod.snd (qd5 (Prod.fst (qa1 (Ty.prod (Ty.int .i64) (Ty.int .i64)) x (Int.toNat (↑v2:Int)))) (Prod.snd (qa1 (Ty.prod (Ty.int .i64) (Ty.int .i64)) x (Int.toNat (↑v2:Int)))))),Prod.snd (Prod.snd (qd5 (Prod.fst (qa1 (Ty.prod (Ty.int .i64) (Ty.int .i64)) x (Int.toNat (↑v2:Int)))) (Prod.snd (qa1 (Ty.prod (Ty.int .i64) (Ty.int .i64)) x (Int.toNat (↑v2:Int))))))))),Prod.snd (Prod.snd (qf6 (qa1 (Ty.int .i64) r (Int.toNat (↑v2:Int))) (Prod.fst (qd5 (Prod.fst (qa1 (Ty.prod (Ty.int .i64) (Ty.int .i64)) x (Int.toNat (↑v2:Int)))) (Prod.snd (qa1 (Ty.prod (Ty.int .i64) (Ty.int .i64)) x (Int.toNat (↑v2:Int))))),Prod.fst (Prod.snd (qd5 (Prod.fst (qa1 (Ty.prod (Ty.int .i64) (Ty.int .i64)) x (Int.toNat (↑v2:Int)))) (Prod.snd (qa1 (Ty.prod (Ty.int .i64) (Ty.int .i64)) x (Int.toNat (↑v2:Int)))))),Prod.snd (Prod.snd (qd5 (Prod.fst (qa1 (Ty.prod (Ty.int .i64) (Ty.int .i64)) x (Int.toNat (↑v2:Int)))) (Prod.snd (qa1 (Ty.prod (Ty.int .i64) (Ty.int .i64)) x (Int.toNat (↑v2:Int))))))))))))=Prod.fst (Prod.snd (qd9 r x v6))/\Prod.snd (Prod.snd (plusV (Prod.fst (qd9 r x v2),Prod.fst (Prod.snd (qd9 r x v2)),Prod.snd (Prod.snd (qd9 r x v2))) (Prod.fst (qf6 (qa1 (Ty.int .i64) r (Int.toNat (↑v2:Int))) (Prod.fst (qd5 (Prod.fst (qa1 (Ty.prod (Ty.int .i64) (Ty.int .i64)) x (Int.toNat (↑v2:Int)))) (Prod.snd (qa1 (Ty.prod (Ty.int .i64) (Ty.int .i64)) x (Int.toNat (↑v2:Int))))),Prod.fst (Prod.snd (qd5 (Prod.fst (qa1 (Ty.prod (Ty.int .i64) (Ty.int .i64)) x (Int.toNat (↑v2:Int)))) (Prod.snd (qa1 (Ty.prod (Ty.int .i64) (Ty.int .i64)) x (Int.toNat (↑v2:Int)))))),Prod.snd (Prod.snd (qd5 (Prod.fst (qa1 (Ty.prod (Ty.int .i64) (Ty.int .i64)) x (Int.toNat (↑v2:Int)))) (Prod.snd (qa1 (Ty.prod (Ty.int .i64) (Ty.int .i64)) x (Int.toNat (↑v2:Int)))))))),Prod.fst (Prod.snd (qf6 (qa1 (Ty.int .i64) r (Int.toNat (↑v2:Int))) (Prod.fst (qd5 (Prod.fst (qa1 (Ty.prod (Ty.int .i64) (Ty.int .i64)) x (Int.toNat (↑v2:Int)))) (Prod.snd (qa1 (Ty.prod (Ty.int .i64) (Ty.int .i64)) x (Int.toNat (↑v2:Int))))),Prod.fst (Prod.snd (qd5 (Prod.fst (qa1 (Ty.prod (Ty.int .i64) (Ty.int .i64)) x (Int.toNat (↑v2:Int)))) (Prod.snd (qa1 (Ty.prod (Ty.int .i64) (Ty.int .i64)) x (Int.toNat (↑v2:Int)))))),Prod.snd (Prod.snd (qd5 (Prod.fst (qa1 (Ty.prod (Ty.int .i64) (Ty.int .i64)) x (Int.toNat (↑v2:Int)))) (Prod.snd (qa1 (Ty.prod (Ty.int .i64) (Ty.int .i64)) x (Int.toNat (↑v2:Int))))))))),Prod.snd (Prod.snd (qf6 (qa1 (Ty.int .i64) r (Int.toNat (↑v2:Int))) (Prod.fst (qd5 (Prod.fst (qa1 (Ty.prod (Ty.int .i64) (Ty.int .i64)) x (Int.toNat (↑v2:Int)))) (Prod.snd (qa1 (Ty.prod (Ty.int .i64) (Ty.int .i64)) x (Int.toNat (↑v2:Int))))),Prod.fst (Prod.snd (qd5 (Prod.fst (qa1 (Ty.prod (Ty.int .i64) (Ty.int .i64)) x (Int.toNat (↑v2:Int)))) (Prod.snd (qa1 (Ty.prod (Ty.int .i64) (Ty.int .i64)) x (Int.toNat (↑v2:Int)))))),Prod.snd (Prod.snd (qd5 (Prod.fst (qa1 (Ty.prod (Ty.int .i64) (Ty.int .i64)) x (Int.toNat (↑v2:Int)))) (Prod.snd (qa1 (Ty.prod (Ty.int .i64) (Ty.int .i64)) x (Int.toNat (↑v2:Int))))))))))))=Prod.snd (Prod.snd (qd9 r x v6))/\True)/\True)/\((qa1 (Ty.int .i64) r (Int.toNat (↑v2:Int)) != (0:Int))=false->fits .i64 ((↑v2:Int)+(1:Int))/\∃(v6:Nat),Nat.le v6 (List.length r)/\List.length r-v6<List.length r-v2/\((↑v2:Int)+(1:Int)=(↑v6:Int)/\True)/\(false=false/\Value.slice none (0:Nat) (0:Nat)=Value.slice none (0:Nat) (0:Nat)/\Value.slice none (0:Nat) (0:Nat)=Value.slice none (0:Nat) (0:Nat)/\True)/\(Prod.fst (qd9 r x v2)=Prod.fst (qd9 r x v6)/\Prod.fst (Prod.snd (qd9 r x v2))=Prod.fst (Prod.snd (qd9 r x v6))/\Prod.snd (Prod.snd (qd9 r x v2))=Prod.snd (Prod.snd (qd9 r x v6))/\True)/\True))/\(decide ((↑v2:Int)<(↑(List.length r):Int))=false->Prod.fst (qd9 r x v2)=Prod.fst (qd9 r x (List.length r))/\Prod.fst (Prod.snd (qd9 r x v2))=Prod.fst (Prod.snd (qd9 r x (List.length r)))/\Prod.snd (Prod.snd (qd9 r x v2))=Prod.snd (Prod.snd (qd9 r x (List.length r)))/\True)) (by kernel_rfl) ?_
 try simp only[z0,z1,z2,z3,z4,z5,z6,z7,z8,z9,z10,Int.reduceEq,z11,z12,z13,z14,z15,z16,z17,z18,z19,z20,z21,z22,z23,z24,z25,z26,z27,z28,z29,z30,Int.reduceLE,Int.reduceLT,z31,z32,z33,z34,qa3]
 try simp only[qb3,qb4,qc8,List.set_cons_zero,List.cons.injEq,and_true,true_and]
 have hl:=h.len
 have hle:=h.le
 refine⟨by unfold qd2 BIG; omega,(),0,Nat.zero_le _,⟨rfl,rfl,rfl,rfl⟩,λk hk=>⟨λhlt=>?_,λhge=>?_⟩⟩
 ·have hx:=wr7 h k hk
  have hv:=h.val k hlt
  have hr:=h.row k hlt
  have hr2:qd2 BIG (nI r k):=by unfold qd2 at *; unfold BIG; omega
  have hE:=q43 hv.1 hv.2
  have hS:=wb2 hr2 hE
  refine⟨hlt,λhz=>?_,λhz=>?_⟩
  ·have es:qd9 r x (k+1)=plusV (qd9 r x k) (qf6 (nI r k) (qd5 (nR x k).1 (nR x k).2)):=by rw[qd9,if_pos hz]
   exact⟨by omega,hv,⟨hr2,hE.up⟩,⟨hx.up,hS.up⟩,qb9 (by omega) (by omega),k+1,hlt,by omega,by omega,congrArg Prod.fst es.symm,congrArg (λp=>p.2.1) es.symm,congrArg (λp=>p.2.2) es.symm⟩
  ·have es:qd9 r x (k+1)=qd9 r x k:=by rw[qd9,if_neg λq=>q hz]
   exact⟨qb9 (by omega) (by omega),k+1,hlt,by omega,by omega,by rw[es],by rw[es],by rw[es]⟩
 ·obtain rfl:k=r.length:=by omega
  exact⟨rfl,rfl,rfl⟩
end Go.Proofs.Ytdibdlelmkcccaa
