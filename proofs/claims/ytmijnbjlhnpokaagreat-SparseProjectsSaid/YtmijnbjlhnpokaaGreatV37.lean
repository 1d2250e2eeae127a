/- Great numbers of the reference: contracts by the engine. No condition. -/
import Derived.Test.YtmijnbjlhnpokaaGreatV26
import Derived.Test.YtmijnbjlhnpokaaGreatW18
set_option linter.unusedVariables false
set_option linter.unusedSimpArgs false
namespace Go.Proofs.YtmijnbjlhnpokaaGreat
open Go Go.RowKit Eng
structure DigOk (l:List Int):Prop where
 len:l.length<=1000
 eq:l=dgs (valL l)
structure w86 (l:List Int):Prop where
 len:l.length<=2000
 eq:l=qi3 (valL l) l.length
 lt:valL l<BS ^ l.length
theorem DigOk.lenD {l:List Int} (h:DigOk l):l.length=lenD (valL l):=by
 conv=>lhs; rw[h.eq]
 rw[qw8]
theorem DigOk.at_ {l:List Int} (h:DigOk l) {i:Nat} (hi:i<l.length):nI l i=((valL l / BS ^ i % BS:Nat):Int):=by
 have:=x2a (valL l) i
 rw[if_pos (by rw[<- h.lenD]; exact hi),<- h.eq] at this
 exact this
theorem q92 (A i:Nat):(0:Int)<=((A / BS ^ i % BS:Nat):Int)/\((A / BS ^ i % BS:Nat):Int)<1000000000:=by
 have:A / BS ^ i % BS<BS:=Nat.mod_lt _ (by decide)
 have e:BS=1000000000:=rfl
 omega
theorem w87 (n:Nat):((n:Int)).tmod 1000000000=((n % BS:Nat):Int):=by
 rw[show(1000000000:Int)=((BS:Nat):Int) from rfl]; rfl
theorem w88 (n:Nat):((n:Int)).tdiv 1000000000=((n / BS:Nat):Int):=by
 rw[show(1000000000:Int)=((BS:Nat):Int) from rfl]; rfl
theorem q6e {q:Nat} (h:q<=4000000000000000000):fits IntKind.i64 ((q:Nat):Int):=qa7 (by omega) (by omega)
theorem w15 {S n:Nat} (h:S<BS ^ n) (hn:n<=2000):w86 (qi3 S n)/\dgs (valL (qi3 S n))=dgs S:=⟨⟨by rw[qj4]; exact hn,by rw[wg6 h,qj4],by rw[wg6 h,qj4]; exact h⟩,by rw[wg6 h]⟩
abbrev yb3:qc9:=qg4 true none [qg0] [qf1] (λx=>qc8 BIG x.1) (λx=>(dgs x.1.toNat,()))
structure xi6 (n:Int) (i:Nat) (r:Int):Prop where
 le:i<=lenD n.toNat
 eq:0<n->r=((n.toNat / BS ^ i:Nat):Int)
 neg:n<=0->r=n/\i=0
def x6b (n:Int):Nat->Option Inv
 | 0=>some (Inv.of [0,3] 1 (λs:Nat × Int=>[(0,.lit (.int .i64 s.2)),(3,.own 0)]) (λs=>[.vec 3 (.int .i64) (qi3 n.toNat s.1)]) (λs=>xi6 n s.1 s.2) (λs=>lenD n.toNat-s.1))
 | _=>none
theorem wp4:Meets Tryz.prog 152 yb3:=by
 refine meets (snd (SpecsOk.nil _)) Tryz.func152 rfl rfl (λx=>x6b x.1) (λ_=>by kernel_rfl) (by decide) ?_
 rintro⟨n,⟨⟩⟩ h
 revert n
 intro(n:Int) (h:qc8 BIG n)
 refine @qe1 _ (∃(v0:Unit),∃(v1:Nat × Int),xi6 n v1.1 v1.2/\((n=v1.2/\True/\True)/\qi3 n.toNat v1.1=[]/\True)/\∀(v2:Nat × Int),xi6 n v2.1 v2.2->(decide ((0:Int)<v2.2)=true->(1000000000:Int)≠(0:Int)/\((0:Nat)<List.length [Int.tmod v2.2 (1000000000:Int)]/\Nat.le ((qi3 n.toNat v2.1).length+List.length [Int.tmod v2.2 (1000000000:Int)]) (1000000:Nat))/\(1000000000:Int)≠(0:Int)/\fits .i64 (Int.tdiv v2.2 (1000000000:Int))/\∃(v5:Nat × Int),xi6 n v5.1 v5.2/\lenD n.toNat-v5.1<lenD n.toNat-v2.1/\(Int.tdiv v2.2 (1000000000:Int)=v5.2/\True/\True)/\qi3 n.toNat v2.1++[Int.tmod v2.2 (1000000000:Int)]=qi3 n.toNat v5.1/\True)/\(decide ((0:Int)<v2.2)=false->qi3 n.toNat v2.1=dgs n.toNat)) (by kernel_rfl) ?_
 try simp only[z0,z1,z2,z3,z4,z5,z6,z7,z8,z9,z10,Int.reduceEq,z11,z12,z13,z14,z15,z16,z17,z18,z19,z20,z21,z22,z23,z24,z25,z26,z27,z28,z29,z30,Int.reduceLE,Int.reduceLT,z31,z32,z33,z34,qa1]
 try simp only[qb5,qb6,qd2,z31,z32,z2,z1]
 have hB:BIG=4000000000000000000:=rfl
 have e3:BS ^ 3=1000000000000000000000000000:=by decide
 unfold qc8 at h
 have h3:lenD n.toNat<=3:=qw7 (by omega)
 refine⟨(),(0,n),⟨Nat.zero_le _,λh0=>?_,λ_=>⟨rfl,rfl⟩⟩,⟨rfl,rfl⟩,λ⟨i,r⟩ hs=>?_⟩
 ·dsimp only; rw[Nat.pow_zero,Nat.div_one]; omega
 dsimp only at hs ⊢
 have hle:=hs.le
 refine⟨λhpos=>?_,λhneg=>?_⟩
 ·have hn:0<n:=by
   rcases Int.lt_or_le 0 n with q | q
   ·exact q
   ·have:=(hs.neg q).1; omega
  have hr:=hs.eq hn
  have hi:i<lenD n.toNat:=qt9.2 (by
   have:0<n.toNat / BS ^ i:=by omega
   exact(Nat.div_pos_iff.1 this).2)
  have hq:n.toNat / BS ^ i<=n.toNat:=Nat.div_le_self _ _
  have hq2:n.toNat / BS ^ i / BS<=n.toNat / BS ^ i:=Nat.div_le_self _ _
  rw[hr,w88,w87]
  refine⟨by rw[qj4]; omega,q6e (by omega),(i+1,((n.toNat / BS ^ i / BS:Nat):Int)),⟨hi,λ_=>?_,λq=>absurd q (by omega)⟩,by dsimp only; omega,rfl,rfl⟩
  dsimp only; rw[qr5]
 ·rcases Int.lt_or_le 0 n with q | q
  ·have hr:=hs.eq q
   have hz:n.toNat / BS ^ i=0:=Nat.le_zero.1 (Int.ofNat_le.1 (hr ▸ hneg))
   refine w11 ((Nat.div_eq_zero_iff.1 hz).resolve_left (by have:=qo8 i; omega)) ?_
   rcases Nat.eq_zero_or_pos i with q2 | q2
   ·exact .inl q2
   ·exact .inr (qt9.1 (by omega))
  ·obtain⟨_,rfl⟩:=hs.neg q
   rw[show n.toNat=0 by omega]
   rfl
abbrev x6c:qc9:=qg4 false none [qf1] [qf1] (λx=>w86 x.1) (λx=>(dgs (valL x.1),()))
structure w17 (S n k:Nat):Prop where
 le:k<=n
 lt:S<BS ^ k
def x2e (S n:Nat):Nat->Option Inv
 | 0=>some (Inv.of [0] 0 (λk:Nat=>[(0,.dat (.int .i64) (qi3 S k))]) (λ_=>[]) (λk=>w17 S n k) (λk=>k))
 | _=>none
theorem q93:Meets Tryz.prog 200 x6c:=by
 refine meets (snd (SpecsOk.nil _)) Tryz.func200 rfl rfl (λx=>x2e (valL x.1) x.1.length) (λ_=>by kernel_rfl) (by decide) ?_
 rintro⟨l,⟨⟩⟩ h
 revert l
 intro(l:List Int) (h:w86 l)
 refine @qe1 _ (∃(v0:Unit),∃(v1:Nat),w17 (valL l) l.length v1/\((l=qi3 (valL l) v1/\True)/\True)/\∀(v2:Nat),w17 (valL l) l.length v2->(decide ((0:Int)<(↑(qi3 (valL l) v2).length:Int))=true->fits .i64 ((↑(qi3 (valL l) v2).length:Int)-(1:Int))/\((0:Int)<=(↑(qi3 (valL l) v2).length:Int)-(1:Int)/\(↑(qi3 (valL l) v2).length:Int)-(1:Int)<(↑(qi3 (valL l) v2).length:Int))/\((nI (qi3 (valL l) v2) ((↑(qi3 (valL l) v2).length:Int)-(1:Int)).toNat==(0:Int))=true->fits .i64 ((↑(qi3 (valL l) v2).length:Int)-(1:Int))/\((0:Int)<=(0:Int)/\(0:Int)<=(↑(qi3 (valL l) v2).length:Int)-(1:Int)/\(↑(qi3 (valL l) v2).length:Int)-(1:Int)<=(↑(qi3 (valL l) v2).length:Int))/\∃(v6:Nat),w17 (valL l) l.length v6/\v6<v2/\(List.drop (0:Nat) (List.take ((↑(qi3 (valL l) v2).length:Int)-(1:Int)).toNat (qi3 (valL l) v2))=qi3 (valL l) v6/\True)/\True)/\((nI (qi3 (valL l) v2) ((↑(qi3 (valL l) v2).length:Int)-(1:Int)).toNat==(0:Int))=false->qi3 (valL l) v2=dgs (valL l)))/\(decide ((0:Int)<(↑(qi3 (valL l) v2).length:Int))=false->qi3 (valL l) v2=dgs (valL l))) (by kernel_rfl) ?_
 try simp only[z0,z1,z2,z3,z4,z5,z6,z7,z8,z9,z10,Int.reduceEq,z11,z12,z13,z14,z15,z16,z17,z18,z19,z20,z21,z22,z23,z24,z25,z26,z27,z28,z29,z30,Int.reduceLE,Int.reduceLT,z31,z32,z33,z34,qa1]
 try simp only[qb5,qb6,qd2,z31,z32,z2,z1]
 refine⟨(),l.length,⟨Nat.le_refl _,h.lt⟩,h.eq,λk hk=>?_⟩
 have hl:=h.len
 have hkl:=hk.le
 have hS:=hk.lt
 generalize valL l=S at *
 simp only[qj4]
 refine⟨λhpos=>?_,λh0=>?_⟩
 ·obtain⟨j,rfl⟩:∃j,k=j+1:=⟨k-1,by omega⟩
  have e:(((j+1:Nat):Int)-1).toNat=j:=by omega
  rw[e,q20 S _ j (by omega)]
  refine⟨qa7 (by omega) (by omega),⟨by omega,by omega⟩,λhz=>⟨qa7 (by omega) (by omega),⟨by omega,by omega⟩,j,⟨by omega,xv2 hS (Int.ofNat.inj hz)⟩,by omega,?_⟩,λhz=>?_⟩
  ·rw[List.drop_zero]; exact xv3 S j
  ·exact w11 hS (.inr (by rw[Nat.add_sub_cancel]; exact x2c λq=>hz (by rw[q]; rfl)))
 ·obtain rfl:k=0:=by omega
  exact w11 hS (.inl rfl)
def wq1 (A B:Nat):Int:=if A<B then -1 else if A=B then 0 else 1
abbrev yb4:qc9:=qg4 true none [qf1,qf1] [qg0] (λx=>DigOk x.1/\DigOk x.2.1) (λx=>(wq1 (valL x.1) (valL x.2.1),()))
structure xi7 (A B n:Nat) (i:Int):Prop where
 lo:-1<=i
 hi:i<n
 eq:A / BS ^ (i+1).toNat=B / BS ^ (i+1).toNat
def x6d (A B n:Nat):Nat->Option Inv
 | 0=>some (Inv.of [5] 0 (λi:Int=>[(5,.lit (.int .i64 i))]) (λ_=>[]) (λi=>xi7 A B n i) (λi=>(i+1).toNat))
 | _=>none
theorem w89:Meets Tryz.prog 150 yb4:=by
 refine meets (snd (SpecsOk.nil _)) Tryz.func150 rfl rfl (λx=>x6d (valL x.1) (valL x.2.1) x.1.length) (λ_=>by kernel_rfl) (by decide) ?_
 rintro⟨a,b,⟨⟩⟩ h
 revert a b
 intro(a:List Int) (b:List Int) (h:DigOk a/\DigOk b)
 refine @qe1 _ ((((↑a.length:Int) != (↑b.length:Int))=true->(decide ((↑a.length:Int)<(↑b.length:Int))=true->(-1:Int)=wq1 (valL a) (valL b))/\(decide ((↑a.length:Int)<(↑b.length:Int))=false->(1:Int)=wq1 (valL a) (valL b)))/\(((↑a.length:Int) != (↑b.length:Int))=false->fits .i64 ((↑a.length:Int)-(1:Int))/\∃(v1:Unit),∃(v2:Int),xi7 (valL a) (valL b) a.length v2/\(((↑a.length:Int)-(1:Int)=v2/\True)/\True)/\∀(v3:Int),xi7 (valL a) (valL b) a.length v3->(decide ((0:Int)<=v3)=true->((0:Int)<=v3/\v3<(↑a.length:Int))/\((0:Int)<=v3/\v3<(↑b.length:Int))/\(decide (nI a v3.toNat<nI b v3.toNat)=true->(-1:Int)=wq1 (valL a) (valL b))/\(decide (nI a v3.toNat<nI b v3.toNat)=false->((0:Int)<=v3/\v3<(↑a.length:Int))/\((0:Int)<=v3/\v3<(↑b.length:Int))/\(decide (nI b v3.toNat<nI a v3.toNat)=true->(1:Int)=wq1 (valL a) (valL b))/\(decide (nI b v3.toNat<nI a v3.toNat)=false->fits .i64 (v3-(1:Int))/\∃(v8:Int),xi7 (valL a) (valL b) a.length v8/\(v8+(1:Int)).toNat<(v3+(1:Int)).toNat/\(v3-(1:Int)=v8/\True)/\True)))/\(decide ((0:Int)<=v3)=false->(0:Int)=wq1 (valL a) (valL b)))) (by kernel_rfl) ?_
 try simp only[z0,z1,z2,z3,z4,z5,z6,z7,z8,z9,z10,Int.reduceEq,z11,z12,z13,z14,z15,z16,z17,z18,z19,z20,z21,z22,z23,z24,z25,z26,z27,z28,z29,z30,Int.reduceLE,Int.reduceLT,z31,z32,z33,z34,qa1]
 try simp only[qb5,qb6,qd2,z31,z32,z2,z1]
 obtain⟨ha,hb⟩:=h
 have la:=ha.lenD
 have lb:=hb.lenD
 have na:=ha.len
 have nb:=hb.len
 have less:∀X Y:Nat,lenD X<lenD Y->X<Y:=λX Y q=>by
  have h1:=qt9.1 q
  have h2:=qo4 X
  omega
 refine⟨λhne=>⟨λhlt=>?_,λhlt=>?_⟩,λhe=>⟨qa7 (by omega) (by omega),(),(a.length:Int)-1,⟨by omega,by omega,?_⟩,rfl,λi hi=>⟨λh0=>?_,λh0=>?_⟩⟩⟩
 ·have:=less (valL a) (valL b) (by omega)
  unfold wq1; rw[if_pos this]
 ·have:=less (valL b) (valL a) (by omega)
  unfold wq1; rw[if_neg (by omega),if_neg (by omega)]
 ·have h1:=qo4 (valL a)
  have h2:=qo4 (valL b)
  rw[show((a.length:Int)-1+1).toNat=a.length by omega]
  rw[<- la] at h1
  rw[<- lb,show b.length=a.length by omega] at h2
  rw[Nat.div_eq_of_lt h1,Nat.div_eq_of_lt h2]
 ·have hhi:=hi.hi
  obtain⟨j,rfl⟩:∃j:Nat,i=j:=⟨i.toNat,by omega⟩
  have hE:=hi.eq
  rw[show((j:Int)+1).toNat=j+1 by omega] at hE
  obtain⟨c1,c2,c3⟩:=xi3 hE
  rw[Int.toNat_natCast,ha.at_ (by omega),hb.at_ (by omega)]
  refine⟨⟨by omega,by omega⟩,⟨by omega,by omega⟩,λq=>?_,λq=>⟨⟨by omega,by omega⟩,⟨by omega,by omega⟩,λq2=>?_,λq2=>⟨qa7 (by omega) (by omega),(j:Int)-1,⟨by omega,by omega,?_⟩,by omega,rfl⟩⟩⟩
  ·have:=c1 (Int.ofNat_lt.1 q)
   unfold wq1; rw[if_pos this]
  ·have:=c2 (Int.ofNat_lt.1 q2)
   unfold wq1; rw[if_neg (by omega),if_neg (by omega)]
  ·rw[show((j:Int)-1+1).toNat=j by omega]
   exact c3 (by have h1:=Int.ofNat_le.1 q; have h2:=Int.ofNat_le.1 q2; omega)
 ·have hE:=hi.eq
  have:=hi.lo
  rw[show(i+1).toNat=0 by omega,Nat.pow_zero,Nat.div_one,Nat.div_one] at hE
  unfold wq1; rw[if_neg (by omega),if_pos hE]
abbrev yb5:qc9:=qg4 true none [qf1,qg0] [qg0] (λx=>DigOk x.1/\0<=x.2.1) (λx=>(((valL x.1 / BS ^ x.2.1.toNat % BS:Nat):Int),()))
theorem q75:Meets Tryz.prog 199 yb5:=by
 refine meets (snd (SpecsOk.nil _)) Tryz.func199 rfl rfl (λ_ _=>none) (λ_=>by kernel_rfl) (by decide) ?_
 rintro⟨a,i,⟨⟩⟩ h
 revert a i
 intro(a:List Int) (i:Int) (h:DigOk a/\0<=i)
 refine @qe1 _ (let Q0:=valL a / BS ^ i.toNat % BS; (decide (i<(↑a.length:Int))=true->((0:Int)<=i/\i<(↑a.length:Int))/\nI a i.toNat=(↑Q0:Int))/\(decide (i<(↑a.length:Int))=false->(0:Int)=(↑Q0:Int))) (by kernel_rfl) ?_
 try simp only[z0,z1,z2,z3,z4,z5,z6,z7,z8,z9,z10,Int.reduceEq,z11,z12,z13,z14,z15,z16,z17,z18,z19,z20,z21,z22,z23,z24,z25,z26,z27,z28,z29,z30,Int.reduceLE,Int.reduceLT,z31,z32,z33,z34,qa1]
 try simp only[qb5,qb6,qd2,z31,z32,z2,z1]
 obtain⟨ha,hi⟩:=h
 refine⟨λhlt=>⟨⟨hi,hlt⟩,ha.at_ (by omega)⟩,λhge=>?_⟩
 have h1:=qo4 (valL a)
 have h2:=qs8 (show lenD (valL a)<=i.toNat by have:=ha.lenD; omega)
 rw[Nat.div_eq_of_lt (by omega)]
 rfl
def x2v (a b:List Int):List Int:=dgs (valL a+valL b)
def xw7 (a b:List Int):List Int:=dgs (valL a-valL b)
def q5t (a b:List Int):List Int:=dgs (valL a*valL b)
abbrev x6e:qc9:=qg4 true none [qf1,qf1] [qf1] (λx=>DigOk x.1/\DigOk x.2.1) (λx=>(x2v x.1 x.2.1,()))
def x2f (A B:Nat):Nat->Option Inv
 | 0=>some (Inv.of [5,6,7] 1 (λi:Nat=>[(5,.own 0),(6,.lit (.int .i64 (qu9 A B i))),(7,.lit (.int .i64 i))]) (λi=>[.vec 3 (.int .i64) (qi3 (A+B) i)]) (λi=>i<=lenD (A+B)) (λi=>lenD (A+B)-i))
 | _=>none
theorem w4e:Meets Tryz.prog 149 x6e:=by
 refine meets (snd (SpecsOk.cons q75 (SpecsOk.nil _))) Tryz.func149 rfl rfl (λx=>x2f (valL x.1) (valL x.2.1)) (λ_=>by kernel_rfl) (by decide) ?_
 rintro⟨a,b,⟨⟩⟩ h
 revert a b
 intro(a:List Int) (b:List Int) (h:DigOk a/\DigOk b)
 refine @qe1 _ (let Q0:=valL a+valL b; ∃(v0:Unit),∃(v1:Nat),Nat.le v1 (lenD Q0)/\((True/\(0:Int)=(↑(qu9 (valL a) (valL b) v1):Int)/\(0:Int)=(↑v1:Int)/\True)/\qi3 Q0 v1=[]/\True)/\∀(v2:Nat),Nat.le v2 (lenD Q0)->(decide ((↑v2:Int)<(↑a.length:Int))=true->(DigOk a/\(0:Ty.den qg0)<=(↑v2:Int))/\(DigOk b/\(0:Ty.den qg0)<=(↑v2:Int))/\fits .i64 ((↑(valL a / BS ^ v2 % BS):Int)+(↑(valL b / BS ^ v2 % BS):Int))/\fits .i64 ((↑(valL a / BS ^ v2 % BS):Int)+(↑(valL b / BS ^ v2 % BS):Int)+(↑(qu9 (valL a) (valL b) v2):Int))/\(1000000000:Int)≠(0:Int)/\((0:Nat)<List.length [Int.tmod ((↑(valL a / BS ^ v2 % BS):Int)+(↑(valL b / BS ^ v2 % BS):Int)+(↑(qu9 (valL a) (valL b) v2):Int)) (1000000000:Int)]/\Nat.le ((qi3 Q0 v2).length+List.length [Int.tmod ((↑(valL a / BS ^ v2 % BS):Int)+(↑(valL b / BS ^ v2 % BS):Int)+(↑(qu9 (valL a) (valL b) v2):Int)) (1000000000:Int)]) (1000000:Nat))/\(1000000000:Int)≠(0:Int)/\fits .i64 (Int.tdiv ((↑(valL a / BS ^ v2 % BS):Int)+(↑(valL b / BS ^ v2 % BS):Int)+(↑(qu9 (valL a) (valL b) v2):Int)) (1000000000:Int))/\fits .i64 ((↑v2:Int)+(1:Int))/\∃(v5:Nat),Nat.le v5 (lenD Q0)/\lenD Q0-v5<lenD Q0-v2/\(True/\Int.tdiv ((↑(valL a / BS ^ v2 % BS):Int)+(↑(valL b / BS ^ v2 % BS):Int)+(↑(qu9 (valL a) (valL b) v2):Int)) (1000000000:Int)=(↑(qu9 (valL a) (valL b) v5):Int)/\(↑v2:Int)+(1:Int)=(↑v5:Int)/\True)/\qi3 Q0 v2++[Int.tmod ((↑(valL a / BS ^ v2 % BS):Int)+(↑(valL b / BS ^ v2 % BS):Int)+(↑(qu9 (valL a) (valL b) v2):Int)) (1000000000:Int)]=qi3 Q0 v5/\True)/\(decide ((↑v2:Int)<(↑a.length:Int))=false->(decide ((↑v2:Int)<(↑b.length:Int))=true->(DigOk a/\(0:Ty.den qg0)<=(↑v2:Int))/\(DigOk b/\(0:Ty.den qg0)<=(↑v2:Int))/\fits .i64 ((↑(valL a / BS ^ v2 % BS):Int)+(↑(valL b / BS ^ v2 % BS):Int))/\fits .i64 ((↑(valL a / BS ^ v2 % BS):Int)+(↑(valL b / BS ^ v2 % BS):Int)+(↑(qu9 (valL a) (valL b) v2):Int))/\(1000000000:Int)≠(0:Int)/\((0:Nat)<List.length [Int.tmod ((↑(valL a / BS ^ v2 % BS):Int)+(↑(valL b / BS ^ v2 % BS):Int)+(↑(qu9 (valL a) (valL b) v2):Int)) (1000000000:Int)]/\Nat.le ((qi3 Q0 v2).length+List.length [Int.tmod ((↑(valL a / BS ^ v2 % BS):Int)+(↑(valL b / BS ^ v2 % BS):Int)+(↑(qu9 (valL a) (valL b) v2):Int)) (1000000000:Int)]) (1000000:Nat))/\(1000000000:Int)≠(0:Int)/\fits .i64 (Int.tdiv ((↑(valL a / BS ^ v2 % BS):Int)+(↑(valL b / BS ^ v2 % BS):Int)+(↑(qu9 (valL a) (valL b) v2):Int)) (1000000000:Int))/\fits .i64 ((↑v2:Int)+(1:Int))/\∃(v6:Nat),Nat.le v6 (lenD Q0)/\lenD Q0-v6<lenD Q0-v2/\(True/\Int.tdiv ((↑(valL a / BS ^ v2 % BS):Int)+(↑(valL b / BS ^ v2 % BS):Int)+(↑(qu9 (valL a) (valL b) v2):Int)) (1000000000:Int)=(↑(qu9 (valL a) (valL b) v6):Int)/\(↑v2:Int)+(1:Int)=(↑v6:Int)/\True)/\qi3 Q0 v2++[Int.tmod ((↑(valL a / BS ^ v2 % BS):Int)+(↑(valL b / BS ^ v2 % BS):Int)+(↑(qu9 (valL a) (valL b) v2):Int)) (1000000000:Int)]=qi3 Q0 v6/\True)/\(decide ((↑v2:Int)<(↑b.length:Int))=false->(decide ((0:Int)<(↑(qu9 (valL a) (valL b) v2):Int))=true->(DigOk a/\(0:Ty.den qg0)<=(↑v2:Int))/\(DigOk b/\(0:Ty.den qg0)<=(↑v2:Int))/\fits .i64 ((↑(valL a / BS ^ v2 % BS):Int)+(↑(valL b / BS ^ v2 % BS):Int))/\fits .i64 ((↑(valL a / BS ^ v2 % BS):Int)+(↑(valL b / BS ^ v2 % BS):Int)+(↑(qu9 (valL a) (valL b) v2):Int))/\(1000000000:Int)≠(0:Int)/\((0:Nat)<List.length [Int.tmod ((↑(valL a / BS ^ v2 % BS):Int)+(↑(valL b / BS ^ v2 % BS):Int)+(↑(qu9 (valL a) (valL b) v2):Int)) (1000000000:Int)]/\Nat.le ((qi3 Q0 v2).length+List.length [Int.tmod ((↑(valL a / BS ^ v2 % BS):Int)+(↑(valL b / BS ^ v2 % BS):Int)+(↑(qu9 (valL a) (valL b) v2):Int)) (1000000000:Int)]) (1000000:Nat))/\(1000000000:Int)≠(0:Int)/\fits .i64 (Int.tdiv ((↑(valL a / BS ^ v2 % BS):Int)+(↑(valL b / BS ^ v2 % BS):Int)+(↑(qu9 (valL a) (valL b) v2):Int)) (1000000000:Int))/\fits .i64 ((↑v2:Int)+(1:Int))/\∃(v7:Nat),Nat.le v7 (lenD Q0)/\lenD Q0-v7<lenD Q0-v2/\(True/\Int.tdiv ((↑(valL a / BS ^ v2 % BS):Int)+(↑(valL b / BS ^ v2 % BS):Int)+(↑(qu9 (valL a) (valL b) v2):Int)) (1000000000:Int)=(↑(qu9 (valL a) (valL b) v7):Int)/\(↑v2:Int)+(1:Int)=(↑v7:Int)/\True)/\qi3 Q0 v2++[Int.tmod ((↑(valL a / BS ^ v2 % BS):Int)+(↑(valL b / BS ^ v2 % BS):Int)+(↑(qu9 (valL a) (valL b) v2):Int)) (1000000000:Int)]=qi3 Q0 v7/\True)/\(decide ((0:Int)<(↑(qu9 (valL a) (valL b) v2):Int))=false->qi3 Q0 v2=x2v a b)))) (by kernel_rfl) ?_
 try simp only[z0,z1,z2,z3,z4,z5,z6,z7,z8,z9,z10,Int.reduceEq,z11,z12,z13,z14,z15,z16,z17,z18,z19,z20,z21,z22,z23,z24,z25,z26,z27,z28,z29,z30,Int.reduceLE,Int.reduceLT,z31,z32,z33,z34,qa1]
 try simp only[qb5,qb6,qd2,z31,z32,z2,z1]
 obtain⟨ha,hb⟩:=h
 have la:=ha.lenD
 have lb:=hb.lenD
 have na:=ha.len
 have nb:=hb.len
 have hL:lenD (valL a+valL b)<=1000+1:=xi4 (by omega) (by omega)
 have grow:∀i,BS ^ i<=valL a+valL b->i<lenD (valL a+valL b):=λi q=>qt9.2 q
 have big:∀i l,i<l->l=lenD (valL a)\/l=lenD (valL b)->BS ^ i<=valL a+valL b:=λi l h1 h2=>by
  rcases h2 with rfl | rfl
  ·have:=qt9.1 h1; omega
  ·have:=qt9.1 h1; omega
 refine⟨(),0,Nat.zero_le _,⟨⟨by rw[xi1]; rfl,rfl⟩,rfl⟩,λi hi=>?_⟩
 have body:BS ^ i<=valL a+valL b->DigOk a/\DigOk b/\fits IntKind.i64 (((valL a / BS ^ i % BS:Nat):Int)+((valL b / BS ^ i % BS:Nat):Int))/\fits IntKind.i64 (((valL a / BS ^ i % BS:Nat):Int)+((valL b / BS ^ i % BS:Nat):Int)+((qu9 (valL a) (valL b) i:Nat):Int))/\(qi3 (valL a+valL b) i).length+1<=1000000 /\
   fits IntKind.i64 ((((valL a / BS ^ i % BS:Nat):Int)+((valL b / BS ^ i % BS:Nat):Int)+((qu9 (valL a) (valL b) i:Nat):Int)).tdiv 1000000000)/\fits IntKind.i64 ((i:Int)+1)/\∃j,j<=lenD (valL a+valL b)/\lenD (valL a+valL b)-j<lenD (valL a+valL b)-i /\
   ((((valL a / BS ^ i % BS:Nat):Int)+((valL b / BS ^ i % BS:Nat):Int)+((qu9 (valL a) (valL b) i:Nat):Int)).tdiv 1000000000=((qu9 (valL a) (valL b) j:Nat):Int)/\(i:Int)+1=(j:Int)) /\
   qi3 (valL a+valL b) i++[(((valL a / BS ^ i % BS:Nat):Int)+((valL b / BS ^ i % BS:Nat):Int)+((qu9 (valL a) (valL b) i:Nat):Int)).tmod 1000000000]=qi3 (valL a+valL b) j:=λq=>by
  have hlt:=grow i q
  have d1:=q92 (valL a) i
  have d2:=q92 (valL b) i
  have d3:=w81 (valL a) (valL b) i
  have e:((valL a / BS ^ i % BS:Nat):Int)+((valL b / BS ^ i % BS:Nat):Int)+((qu9 (valL a) (valL b) i:Nat):Int)=((valL a / BS ^ i % BS+valL b / BS ^ i % BS+qu9 (valL a) (valL b) i:Nat):Int):=by rw[Int.natCast_add,Int.natCast_add]
  have c1:=xi0 (valL a) (valL b) i
  have c2:=w82 (valL a) (valL b) i
  have c3:=w81 (valL a) (valL b) (i+1)
  rw[e,w88,w87,<- c1,<- c2]
  exact⟨ha,hb,qa7 (by omega) (by omega),qa7 (by omega) (by omega),by rw[qj4]; omega,qa7 (by omega) (by omega),qa7 (by omega) (by omega),i+1,hlt,by omega,⟨rfl,by omega⟩,rfl⟩
 refine⟨λh1=>body (big i _ h1 (.inl la)),λh1=>⟨λh2=>body (big i _ h2 (.inr lb)),λh2=>⟨λh3=>body ?_,λh3=>?_⟩⟩⟩
 ·unfold qu9 at h3
  have h4:0<(valL a % BS ^ i+valL b % BS ^ i) / BS ^ i:=by omega
  have h5:=(Nat.div_pos_iff.1 h4).2
  have h6:=Nat.mod_le (valL a) (BS ^ i)
  have h7:=Nat.mod_le (valL b) (BS ^ i)
  omega
 ·have hc:qu9 (valL a) (valL b) i=0:=by omega
  have hs:=wg7 (valL a) (valL b) i
  have a0:valL a<BS ^ i:=Nat.lt_of_lt_of_le (qo4 (valL a)) (qs8 (by omega))
  have b0:valL b<BS ^ i:=Nat.lt_of_lt_of_le (qo4 (valL b)) (qs8 (by omega))
  rw[hc,Nat.div_eq_of_lt a0,Nat.div_eq_of_lt b0] at hs
  refine w11 ((Nat.div_eq_zero_iff.1 hs).resolve_left (by have:=qo8 i; omega)) ?_
  rcases Nat.eq_zero_or_pos i with q2 | q2
  ·exact .inl q2
  ·exact .inr (qt9.1 (by omega))
abbrev x2g:qc9:=qg4 false none [qf1,qf1] [qf1] (λx=>DigOk x.1/\DigOk x.2.1/\valL x.2.1<=valL x.1) (λx=>(xw7 x.1 x.2.1,()))
def xv5 (A B n:Nat):Nat->Option Inv
 | 0=>some (Inv.of [5,6,11] 1 (λi:Nat=>[(5,.own 0),(6,.lit (.int .i64 (q4k A B i))),(11,.lit (.int .i64 i))]) (λi=>[.vec 3 (.int .i64) (qi3 (A-B) i)]) (λi=>i<=n) (λi=>n-i))
 | _=>none
theorem ww2:Meets Tryz.prog 151 x2g:=by
 refine meets (snd (SpecsOk.cons q75 (SpecsOk.cons q93 (SpecsOk.nil _)))) Tryz.func151 rfl rfl (λx=>xv5 (valL x.1) (valL x.2.1) x.1.length) (λ_=>by kernel_rfl) (by decide) ?_
 rintro⟨a,b,⟨⟩⟩ h
 revert a b
 intro(a:List Int) (b:List Int) (h:DigOk a/\DigOk b/\valL b<=valL a)
 refine @qe1 _ (let Q0:=valL a-valL b; ∃(v0:Unit),∃(v1:Nat),Nat.le v1 a.length/\((True/\(0:Int)=(↑(q4k (valL a) (valL b) v1):Int)/\(0:Int)=(↑v1:Int)/\True)/\qi3 Q0 v1=[]/\True)/\∀(v2:Nat),Nat.le v2 a.length->(decide ((↑v2:Int)<(↑a.length:Int))=true->((0:Int)<=(↑v2:Int)/\(↑v2:Int)<(↑a.length:Int))/\(DigOk b/\(0:Ty.den qg0)<=(↑v2:Int))/\fits .i64 (nI a v2-(↑(valL b / BS ^ v2 % BS):Int))/\fits .i64 (nI a v2-(↑(valL b / BS ^ v2 % BS):Int)-(↑(q4k (valL a) (valL b) v2):Int))/\(decide (nI a v2-(↑(valL b / BS ^ v2 % BS):Int)-(↑(q4k (valL a) (valL b) v2):Int)<(0:Int))=true->fits .i64 (nI a v2-(↑(valL b / BS ^ v2 % BS):Int)-(↑(q4k (valL a) (valL b) v2):Int)+(1000000000:Int))/\((0:Nat)<List.length [nI a v2-(↑(valL b / BS ^ v2 % BS):Int)-(↑(q4k (valL a) (valL b) v2):Int)+(1000000000:Int)]/\Nat.le ((qi3 Q0 v2).length+List.length [nI a v2-(↑(valL b / BS ^ v2 % BS):Int)-(↑(q4k (valL a) (valL b) v2):Int)+(1000000000:Int)]) (1000000:Nat))/\fits .i64 ((↑v2:Int)+(1:Int))/\∃(v6:Nat),Nat.le v6 a.length/\a.length-v6<a.length-v2/\(True/\(1:Int)=(↑(q4k (valL a) (valL b) v6):Int)/\(↑v2:Int)+(1:Int)=(↑v6:Int)/\True)/\qi3 Q0 v2++[nI a v2-(↑(valL b / BS ^ v2 % BS):Int)-(↑(q4k (valL a) (valL b) v2):Int)+(1000000000:Int)]=qi3 Q0 v6/\True)/\(decide (nI a v2-(↑(valL b / BS ^ v2 % BS):Int)-(↑(q4k (valL a) (valL b) v2):Int)<(0:Int))=false->((0:Nat)<List.length [nI a v2-(↑(valL b / BS ^ v2 % BS):Int)-(↑(q4k (valL a) (valL b) v2):Int)]/\Nat.le ((qi3 Q0 v2).length+List.length [nI a v2-(↑(valL b / BS ^ v2 % BS):Int)-(↑(q4k (valL a) (valL b) v2):Int)]) (1000000:Nat))/\fits .i64 ((↑v2:Int)+(1:Int))/\∃(v6:Nat),Nat.le v6 a.length/\a.length-v6<a.length-v2/\(True/\(0:Int)=(↑(q4k (valL a) (valL b) v6):Int)/\(↑v2:Int)+(1:Int)=(↑v6:Int)/\True)/\qi3 Q0 v2++[nI a v2-(↑(valL b / BS ^ v2 % BS):Int)-(↑(q4k (valL a) (valL b) v2):Int)]=qi3 Q0 v6/\True))/\(decide ((↑v2:Int)<(↑a.length:Int))=false->w86 (qi3 Q0 v2)/\dgs (valL (qi3 Q0 v2))=xw7 a b)) (by kernel_rfl) ?_
 try simp only[z0,z1,z2,z3,z4,z5,z6,z7,z8,z9,z10,Int.reduceEq,z11,z12,z13,z14,z15,z16,z17,z18,z19,z20,z21,z22,z23,z24,z25,z26,z27,z28,z29,z30,Int.reduceLE,Int.reduceLT,z31,z32,z33,z34,qa1]
 try simp only[qb5,qb6,qd2,z31,z32,z2,z1]
 obtain⟨ha,hb,hle⟩:=h
 have la:=ha.lenD
 have na:=ha.len
 have hA:valL a<BS ^ a.length:=by rw[la]; exact qo4 _
 refine⟨(),0,Nat.zero_le _,⟨⟨by rw[xi2]; rfl,rfl⟩,rfl⟩,λi hi=>⟨λhlt=>?_,λhge=>?_⟩⟩
 ·have D:=w84 (k:=i) hle
  have d1:=q92 (valL a) i
  have d2:=q92 (valL b) i
  have d3:=q92 (valL a-valL b) i
  have b1:=w14 (valL a) (valL b) i
  have b2:=w14 (valL a) (valL b) (i+1)
  have e:qi3 (valL a-valL b) (i+1)=qi3 (valL a-valL b) i++[(((valL a-valL b) / BS ^ i % BS:Nat):Int)]:=rfl
  rw[ha.at_ hlt,qj4]
  generalize(((valL a-valL b) / BS ^ i % BS:Nat):Int)=z at *
  generalize((valL a / BS ^ i % BS:Nat):Int)=x at *
  generalize((valL b / BS ^ i % BS:Nat):Int)=y at *
  refine⟨hlt,hb,qa7 (by omega) (by omega),qa7 (by omega) (by omega),λhneg=>?_,λhpos=>?_⟩
  ·have hneg:x-y-(q4k (valL a) (valL b) i:Int)<0:=hneg
   exact⟨qa7 (by omega) (by omega),by omega,qa7 (by omega) (by omega),i+1,hlt,by omega,⟨by omega,by omega⟩,by rw[e,show x-y-(q4k (valL a) (valL b) i:Int)+1000000000=z by omega]⟩
  ·have hpos:0<=x-y-(q4k (valL a) (valL b) i:Int):=hpos
   exact⟨by omega,qa7 (by omega) (by omega),i+1,hlt,by omega,⟨by omega,by omega⟩,by rw[e,show x-y-(q4k (valL a) (valL b) i:Int)=z by omega]⟩
 ·obtain rfl:i=a.length:=by omega
  exact w15 (by omega) (by omega)
abbrev x2h:qc9:=qg4 false none [qf1,qf1] [qf1] (λx=>DigOk x.1/\DigOk x.2.1) (λx=>(q5t x.1 x.2.1,()))
def xv6 (A B la n:Nat):Nat->Option Inv
 | 0=>some (Inv.of [5,19] 1 (λi:Nat=>[(5,.own 0),(19,.lit (.int .i64 i))]) (λi=>[.vec 3 (.int .i64) (qi3 (A % BS ^ i*B) n)]) (λi=>i<=la) (λi=>la-i))
 | 1=>some (Eng.Inv.mk Nat (Nat × Nat × Nat) [5,8,9] 1 (λi s=>[(5,.own 0),(8,.lit (.int .i64 s.2.1)),(9,.lit (.int .i64 s.1))]) (λi s=>[.vec 3 (.int .i64) (qi3 s.2.2 n)]) (λi s=>w9r A B n i s.1 s.2.1 s.2.2) (λi s=>n+1-s.1))
 | _=>none
theorem q21:Meets Tryz.prog 148 x2h:=by
 refine meets (snd (SpecsOk.cons q75 (SpecsOk.cons q93 (SpecsOk.nil _)))) Tryz.func148 rfl rfl (λx=>xv6 (valL x.1) (valL x.2.1) x.1.length (x.1.length+x.2.1.length)) (λ_=>by kernel_rfl) (by decide) ?_
 rintro⟨a,b,⟨⟩⟩ h
 revert a b
 intro(a:List Int) (b:List Int) (h:DigOk a/\DigOk b)
 refine @qe1 _ (let Q0:=a.length+b.length; fits .i64 ((↑a.length:Int)+(↑b.length:Int))/\((↑a.length:Int)+(↑b.length:Int)=(↑a.length:Int)+(↑b.length:Int)/\(0:Int)<=(↑a.length:Int)+(↑b.length:Int)/\(↑a.length:Int)+(↑b.length:Int)<=(1000000:Int))/\∃(v0:Unit),∃(v1:Nat),Nat.le v1 a.length/\((True/\(0:Int)=(↑v1:Int)/\True)/\List.replicate ((↑a.length:Int)+(↑b.length:Int)).toNat (Ty.dflt (TI.ty T3))=qi3 (valL a % BS ^ v1*valL b) Q0/\True)/\∀(v2:Nat),Nat.le v2 a.length->(decide ((↑v2:Int)<(↑a.length:Int))=true->((0:Int)<=(↑v2:Int)/\(↑v2:Int)<(↑a.length:Int))/\∃(v5:Nat),∃(v6:Nat × Nat × Nat),w9r (valL a) (valL b) Q0 v5 v6.1 v6.2.1 v6.2.2/\((True/\(0:Int)=(↑v6.2.1:Int)/\(0:Int)=(↑v6.1:Int)/\True)/\qi3 (valL a % BS ^ v2*valL b) Q0=qi3 v6.2.2 Q0/\True)/\∀(v7:Nat × Nat × Nat),w9r (valL a) (valL b) Q0 v5 v7.1 v7.2.1 v7.2.2->(decide ((↑v7.1:Int)<(↑b.length:Int))=true->fits .i64 ((↑v2:Int)+(↑v7.1:Int))/\((0:Int)<=(↑v2:Int)+(↑v7.1:Int)/\(↑v2:Int)+(↑v7.1:Int)<(↑(qi3 v7.2.2 Q0).length:Int))/\((↑v2:Int)+(↑v7.1:Int)).toNat<(qi3 v7.2.2 Q0).length/\(DigOk b/\(0:Ty.den qg0)<=(↑v7.1:Int))/\fits .i64 (nI a v2*(↑(valL b / BS ^ (↑v7.1:Int).toNat % BS):Int))/\fits .i64 (nI (qi3 v7.2.2 Q0) ((↑v2:Int)+(↑v7.1:Int)).toNat+nI a v2*(↑(valL b / BS ^ (↑v7.1:Int).toNat % BS):Int))/\fits .i64 (nI (qi3 v7.2.2 Q0) ((↑v2:Int)+(↑v7.1:Int)).toNat+nI a v2*(↑(valL b / BS ^ (↑v7.1:Int).toNat % BS):Int)+(↑v7.2.1:Int))/\fits .i64 ((↑v2:Int)+(↑v7.1:Int))/\(1000000000:Int)≠(0:Int)/\((0:Int)<=(↑v2:Int)+(↑v7.1:Int)/\(↑v2:Int)+(↑v7.1:Int)<(↑(qi3 v7.2.2 Q0).length:Int))/\((↑v2:Int)+(↑v7.1:Int)).toNat<(qi3 v7.2.2 Q0).length/\(1000000000:Int)≠(0:Int)/\fits .i64 (Int.tdiv (nI (qi3 v7.2.2 Q0) ((↑v2:Int)+(↑v7.1:Int)).toNat+nI a v2*(↑(valL b / BS ^ (↑v7.1:Int).toNat % BS):Int)+(↑v7.2.1:Int)) (1000000000:Int))/\fits .i64 ((↑v7.1:Int)+(1:Int))/\∃(v10:Nat × Nat × Nat),w9r (valL a) (valL b) Q0 v5 v10.1 v10.2.1 v10.2.2/\a.length+b.length+(1:Nat)-v10.1<a.length+b.length+(1:Nat)-v7.1/\(True/\Int.tdiv (nI (qi3 v7.2.2 Q0) ((↑v2:Int)+(↑v7.1:Int)).toNat+nI a v2*(↑(valL b / BS ^ (↑v7.1:Int).toNat % BS):Int)+(↑v7.2.1:Int)) (1000000000:Int)=(↑v10.2.1:Int)/\(↑v7.1:Int)+(1:Int)=(↑v10.1:Int)/\True)/\List.set (qi3 v7.2.2 Q0) ((↑v2:Int)+(↑v7.1:Int)).toNat (Int.tmod (nI (qi3 v7.2.2 Q0) ((↑v2:Int)+(↑v7.1:Int)).toNat+nI a v2*(↑(valL b / BS ^ (↑v7.1:Int).toNat % BS):Int)+(↑v7.2.1:Int)) (1000000000:Int))=qi3 v10.2.2 Q0/\True)/\(decide ((↑v7.1:Int)<(↑b.length:Int))=false->(decide ((0:Int)<(↑v7.2.1:Int))=true->fits .i64 ((↑v2:Int)+(↑v7.1:Int))/\((0:Int)<=(↑v2:Int)+(↑v7.1:Int)/\(↑v2:Int)+(↑v7.1:Int)<(↑(qi3 v7.2.2 Q0).length:Int))/\((↑v2:Int)+(↑v7.1:Int)).toNat<(qi3 v7.2.2 Q0).length/\(DigOk b/\(0:Ty.den qg0)<=(↑v7.1:Int))/\fits .i64 (nI a v2*(↑(valL b / BS ^ (↑v7.1:Int).toNat % BS):Int))/\fits .i64 (nI (qi3 v7.2.2 Q0) ((↑v2:Int)+(↑v7.1:Int)).toNat+nI a v2*(↑(valL b / BS ^ (↑v7.1:Int).toNat % BS):Int))/\fits .i64 (nI (qi3 v7.2.2 Q0) ((↑v2:Int)+(↑v7.1:Int)).toNat+nI a v2*(↑(valL b / BS ^ (↑v7.1:Int).toNat % BS):Int)+(↑v7.2.1:Int))/\fits .i64 ((↑v2:Int)+(↑v7.1:Int))/\(1000000000:Int)≠(0:Int)/\((0:Int)<=(↑v2:Int)+(↑v7.1:Int)/\(↑v2:Int)+(↑v7.1:Int)<(↑(qi3 v7.2.2 Q0).length:Int))/\((↑v2:Int)+(↑v7.1:Int)).toNat<(qi3 v7.2.2 Q0).length/\(1000000000:Int)≠(0:Int)/\fits .i64 (Int.tdiv (nI (qi3 v7.2.2 Q0) ((↑v2:Int)+(↑v7.1:Int)).toNat+nI a v2*(↑(valL b / BS ^ (↑v7.1:Int).toNat % BS):Int)+(↑v7.2.1:Int)) (1000000000:Int))/\fits .i64 ((↑v7.1:Int)+(1:Int))/\∃(v11:Nat × Nat × Nat),w9r (valL a) (valL b) Q0 v5 v11.1 v11.2.1 v11.2.2/\a.length+b.length+(1:Nat)-v11.1<a.length+b.length+(1:Nat)-v7.1/\(True/\Int.tdiv (nI (qi3 v7.2.2 Q0) ((↑v2:Int)+(↑v7.1:Int)).toNat+nI a v2*(↑(valL b / BS ^ (↑v7.1:Int).toNat % BS):Int)+(↑v7.2.1:Int)) (1000000000:Int)=(↑v11.2.1:Int)/\(↑v7.1:Int)+(1:Int)=(↑v11.1:Int)/\True)/\List.set (qi3 v7.2.2 Q0) ((↑v2:Int)+(↑v7.1:Int)).toNat (Int.tmod (nI (qi3 v7.2.2 Q0) ((↑v2:Int)+(↑v7.1:Int)).toNat+nI a v2*(↑(valL b / BS ^ (↑v7.1:Int).toNat % BS):Int)+(↑v7.2.1:Int)) (1000000000:Int))=qi3 v11.2.2 Q0/\True)/\(decide ((0:Int)<(↑v7.2.1:Int))=false->fits .i64 ((↑v2:Int)+(1:Int))/\∃(v11:Nat),Nat.le v11 a.length/\a.length-v11<a.length-v2/\(True/\(↑v2:Int)+(1:Int)=(↑v11:Int)/\True)/\qi3 v7.2.2 Q0=qi3 (valL a % BS ^ v11*valL b) Q0/\True)))/\(decide ((↑v2:Int)<(↑a.length:Int))=false->w86 (qi3 (valL a % BS ^ v2*valL b) Q0)/\dgs (valL (qi3 (valL a % BS ^ v2*valL b) Q0))=q5t a b)) (by kernel_rfl) ?_
 try simp only[z0,z1,z2,z3,z4,z5,z6,z7,z8,z9,z10,Int.reduceEq,z11,z12,z13,z14,z15,z16,z17,z18,z19,z20,z21,z22,z23,z24,z25,z26,z27,z28,z29,z30,Int.reduceLE,Int.reduceLT,z31,z32,z33,z34,qa1]
 try simp only[qb5,qb6,qd2,z31,z32,z2,z1]
 obtain⟨ha,hb⟩:=h
 have na:=ha.len
 have nb:=hb.len
 have hA:valL a<BS ^ a.length:=by rw[ha.lenD]; exact qo4 _
 have hB:valL b<BS ^ b.length:=by rw[hb.lenD]; exact qo4 _
 refine⟨qa7 (by omega) (by omega),⟨by omega,by omega⟩,(),0,Nat.zero_le _,⟨rfl,?_⟩,λi hi=>⟨λhlt=>⟨hlt,i,(0,0,valL a % BS ^ i*valL b),⟨(show 0<BS by decide),?_,?_,Nat.zero_le _⟩,⟨⟨rfl,rfl⟩,rfl⟩,λ⟨j,c,S⟩ hT=>?_⟩,λhge=>?_⟩⟩
 ·rw[Nat.pow_zero,Nat.mod_one,Nat.zero_mul,show((a.length:Int)+(b.length:Int)).toNat=a.length+b.length by omega]
  exact xi5 _
 ·exact mul_lt (Nat.lt_of_lt_of_le (Nat.mod_lt _ (qo8 i)) (qs8 hi)) hB
 ·dsimp only; rw[Nat.pow_zero,Nat.mod_one,Nat.mul_zero,Nat.zero_mul,Nat.zero_mul]
 ·dsimp only at hT ⊢
  have hcl:=hT.cl
  have hBS:BS=1000000000:=rfl
  have body:i+j<a.length+b.length->fits IntKind.i64 ((i:Int)+(j:Int))/\(0<=(i:Int)+(j:Int)/\(i:Int)+(j:Int)<((qi3 S (a.length+b.length)).length:Int))/\((i:Int)+(j:Int)).toNat<(qi3 S (a.length+b.length)).length/\DigOk b/\fits IntKind.i64 (nI a i*((valL b / BS ^ j % BS:Nat):Int)) /\
    fits IntKind.i64 (nI (qi3 S (a.length+b.length)) ((i:Int)+(j:Int)).toNat+nI a i*((valL b / BS ^ j % BS:Nat):Int))/\fits IntKind.i64 (nI (qi3 S (a.length+b.length)) ((i:Int)+(j:Int)).toNat+nI a i*((valL b / BS ^ j % BS:Nat):Int)+(c:Int))/\fits IntKind.i64 ((i:Int)+(j:Int)) /\
    (0<=(i:Int)+(j:Int)/\(i:Int)+(j:Int)<((qi3 S (a.length+b.length)).length:Int))/\((i:Int)+(j:Int)).toNat<(qi3 S (a.length+b.length)).length/\fits IntKind.i64 (Int.tdiv (nI (qi3 S (a.length+b.length)) ((i:Int)+(j:Int)).toNat+nI a i*((valL b / BS ^ j % BS:Nat):Int)+(c:Int)) 1000000000)/\fits IntKind.i64 ((j:Int)+1) /\
    ∃s:Nat × Nat × Nat,w9r (valL a) (valL b) (a.length+b.length) i s.1 s.2.1 s.2.2/\a.length+b.length+1-s.1<a.length+b.length+1-j/\(Int.tdiv (nI (qi3 S (a.length+b.length)) ((i:Int)+(j:Int)).toNat+nI a i*((valL b / BS ^ j % BS:Nat):Int)+(c:Int)) 1000000000=(s.2.1:Int)/\(j:Int)+1=(s.1:Int)) /\
    (qi3 S (a.length+b.length)).set ((i:Int)+(j:Int)).toNat (Int.tmod (nI (qi3 S (a.length+b.length)) ((i:Int)+(j:Int)).toNat+nI a i*((valL b / BS ^ j % BS:Nat):Int)+(c:Int)) 1000000000)=qi3 s.2.2 (a.length+b.length):=λhk=>by
   obtain⟨t1,t2⟩:=xv4 hT hk
   obtain⟨t3,t4⟩:=xm0 hT
   have eI:((i:Int)+(j:Int)).toNat=i+j:=by omega
   have d1:=q92 S (i+j)
   have eP:nI a i*((valL b / BS ^ j % BS:Nat):Int)=((valL a / BS ^ i % BS*(valL b / BS ^ j % BS):Nat):Int):=by rw[ha.at_ hlt,Int.natCast_mul]
   have eQ:((S / BS ^ (i+j) % BS:Nat):Int)+((valL a / BS ^ i % BS*(valL b / BS ^ j % BS):Nat):Int)+(c:Int)=((tmQ (valL a) (valL b) i j c S:Nat):Int):=by unfold tmQ; rw[Int.natCast_add,Int.natCast_add]
   have hq2:tmQ (valL a) (valL b) i j c S / BS<=tmQ (valL a) (valL b) i j c S:=Nat.div_le_self _ _
   have hjn:=t1.le
   rw[eI,q20 _ _ _ hk,eP,eQ,w88,w87,qj4,t2]
   have f2:fits IntKind.i64 (((S / BS ^ (i+j) % BS:Nat):Int)+((valL a / BS ^ i % BS*(valL b / BS ^ j % BS):Nat):Int)):=by
    generalize((S / BS ^ (i+j) % BS:Nat):Int)=z at *
    generalize(valL a / BS ^ i % BS*(valL b / BS ^ j % BS))=t at *
    exact qa7 (by omega) (by omega)
   exact⟨qa7 (by omega) (by omega),⟨by omega,by omega⟩,by omega,hb,q6e (by omega),f2,q6e (by omega),qa7 (by omega) (by omega),⟨by omega,by omega⟩,by omega,q6e (by omega),qa7 (by omega) (by omega),(j+1,tmQ (valL a) (valL b) i j c S / BS,tmS (valL a) (valL b) i j c S),t1,by dsimp only; omega,⟨rfl,by dsimp only; omega⟩,rfl⟩
  refine⟨λh1=>body (by omega),λh1=>⟨λh2=>body (x6a hT hlt hB (by omega)),λh2=>⟨qa7 (by omega) (by omega),i+1,hlt,by omega,by omega,?_⟩⟩⟩
  have hc:c=0:=by omega
  have he:=hT.eq
  have hm:valL b % BS ^ j=valL b:=Nat.mod_eq_of_lt (Nat.lt_of_lt_of_le hB (qs8 (by omega)))
  rw[hc,Nat.zero_mul,Nat.add_zero,hm,<- w85 hlt] at he
  rw[he]
 ·obtain rfl:i=a.length:=by omega
  rw[Nat.mod_eq_of_lt hA]
  exact w15 (mul_lt hA hB) (by omega)
end Go.Proofs.YtmijnbjlhnpokaaGreat
