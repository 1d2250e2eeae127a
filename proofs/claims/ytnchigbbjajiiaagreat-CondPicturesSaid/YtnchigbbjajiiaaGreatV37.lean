/- Great numbers of the reference: contracts by the engine. No condition. -/
import Derived.Test.YtnchigbbjajiiaaGreatW18
set_option linter.unusedVariables false
set_option linter.unusedSimpArgs false
namespace Go.Proofs.YtnchigbbjajiiaaGreat
open Go Go.RowKit Eng
structure DigOk (l:List Int):Prop where
 len:l.length<=1000
 eq:l=dgs (valL l)
structure xg4 (l:List Int):Prop where
 len:l.length<=2000
 eq:l=qh3 (valL l) l.length
 lt:valL l<BS ^ l.length
theorem DigOk.lenD {l:List Int} (h:DigOk l):l.length=lenD (valL l):=by
 conv=>lhs; rw[h.eq]
 rw[q1t]
theorem DigOk.at_ {l:List Int} (h:DigOk l) {i:Nat} (hi:i<l.length):nI l i=((valL l / BS ^ i % BS:Nat):Int):=by
 have:=x9i (valL l) i
 rw[zao (by rw[<- h.lenD]; omega),<- h.eq] at this
 omega
theorem we5 (A i:Nat):(0:Int)<=((A / BS ^ i % BS:Nat):Int)/\((A / BS ^ i % BS:Nat):Int)<1000000000:=by
 have:A / BS ^ i % BS<BS:=zcd _ dc
 have e:BS=1000000000:=rfl
 omega
theorem xg5 (n:Nat):((n:Int)).tmod 1000000000=((n % BS:Nat):Int):=by
 rfl
theorem xg6 (n:Nat):((n:Int)).tdiv 1000000000=((n / BS:Nat):Int):=by
 rfl
theorem q63 {q:Nat} (h:q<=4000000000000000000):fits IntKind.i64 ((q:Nat):Int):=qa3
theorem w4e {S n:Nat} (h:S<BS ^ n) (hn:n<=2000):xg4 (qh3 S n)/\dgs (valL (qh3 S n))=dgs S:=⟨⟨by grind [qi7],by rw[wl5 h,qi7],by grind [wl5,qi7]⟩,by rw[wl5 h]⟩
abbrev yy3:qb3:=qe8 true none [tInt] [tInts] (λx=>qc0 BIG x.1) (λx=>(dgs x.1.toNat,()))
structure xz7 (n:Int) (i:Nat) (r:Int):Prop where
 le:i<=lenD n.toNat
 eq:0<n->r=((n.toNat / BS ^ i:Nat):Int)
 neg:n<=0->r=n/\i=0
def ym3 (n:Int):Nat->Option Inv
 | 0=>some (Inv.of [0,3] 1 (λs:Nat × Int=>[(0,.lit (.int .i64 s.2)),(3,.own 0)]) (λs=>[.vec 3 (.int .i64) (qh3 n.toNat s.1)]) (λs=>xz7 n s.1 s.2) (λs=>lenD n.toNat-s.1))
 | _=>none
theorem ww4:Meets Tryz.prog 285 yy3:=by
 refine mts (SpecsOk.nil _) Tryz.func285 (λx=>ym3 x.1) ?_
 rintro⟨n,⟨⟩⟩ h
 revert n
 intro(n:Int) (h:qc0 BIG n)
 refine vcs (∃(v0:Unit),∃(v1:Nat × Int),xz7 n v1.1 v1.2/\((n=v1.2/\True/\True)/\qh3 n.toNat v1.1=[]/\True)/\∀(v2:Nat × Int),xz7 n v2.1 v2.2->(decide ((0:Int)<v2.2)=true->(1000000000:Int)≠(0:Int)/\((0:Nat)<List.length [Int.tmod v2.2 (1000000000:Int)]/\Nat.le ((qh3 n.toNat v2.1).length+List.length [Int.tmod v2.2 (1000000000:Int)]) (1000000:Nat))/\(1000000000:Int)≠(0:Int)/\fits .i64 (Int.tdiv v2.2 (1000000000:Int))/\∃(v5:Nat × Int),xz7 n v5.1 v5.2/\lenD n.toNat-v5.1<lenD n.toNat-v2.1/\(Int.tdiv v2.2 (1000000000:Int)=v5.2/\True/\True)/\qh3 n.toNat v2.1++[Int.tmod v2.2 (1000000000:Int)]=qh3 n.toNat v5.1/\True)/\(decide ((0:Int)<v2.2)=false->qh3 n.toNat v2.1=dgs n.toNat)) ?_
 have hB:BIG=4000000000000000000:=rfl
 have e3:BS ^ 3=1000000000000000000000000000:=by rfl
 unfold qc0 at h
 have h3:lenD n.toNat<=3:=q1s ow
 refine⟨(),(0,n),⟨zae _,λh0=>?_,λ_=>⟨rfl,rfl⟩⟩,⟨rfl,rfl⟩,λ⟨i,r⟩ hs=>?_⟩
 ·grind
 dsimp only at hs ⊢
 have hle:=hs.le
 refine⟨λhpos=>?_,λhneg=>?_⟩
 ·have hn:0<n:=by
   rcases zcq 0 n with q | q
   ·exact q
   ·have:=(hs.neg q).1; omega
  have hr:=hs.eq hn
  have hi:i<lenD n.toNat:=qx2.2 (by
   have:0<n.toNat / BS ^ i:=ow
   simp_all)
  have hq:n.toNat / BS ^ i<=n.toNat:=zcp _ _
  have hq2:n.toNat / BS ^ i / BS<=n.toNat / BS ^ i:=zcp _ _
  rw[hr,xg6,xg5]
  refine⟨by grind [qi7],q63 ow,(i+1,((n.toNat / BS ^ i / BS:Nat):Int)),⟨hi,λ_=>?_,λq=>absurd q ow⟩,ow,rfl,rfl⟩
  simp_all [qt1]
 ·rcases zcq 0 n with q | q
  ·have hr:=hs.eq q
   have hz:n.toNat / BS ^ i=0:=Nat.le_zero.1 (ze5.1 (hr ▸ hneg))
   refine w4b ((zdq.1 hz).resolve_left (by grind [qr7])) ?_
   rcases zb7 i with q2 | q2
   ·omega
   ·exact .inr (qx2.1 ow)
  ·obtain⟨_,rfl⟩:=hs.neg q
   rw[show n.toNat=0 by omega]
   rfl
abbrev ym4:qb3:=qe8 false none [tInts] [tInts] (λx=>xg4 x.1) (λx=>(dgs (valL x.1),()))
structure w4f (S n k:Nat):Prop where
 le:k<=n
 lt:S<BS ^ k
def x9m (S n:Nat):Nat->Option Inv
 | 0=>some (Inv.of [0] 0 (λk:Nat=>[(0,.dat (.int .i64) (qh3 S k))]) (λ_=>[]) (λk=>w4f S n k) (λk=>k))
 | _=>none
theorem we6:Meets Tryz.prog 293 ym4:=by
 refine mts (SpecsOk.nil _) Tryz.func293 (λx=>x9m (valL x.1) x.1.length) ?_
 rintro⟨l,⟨⟩⟩ h
 revert l
 intro(l:List Int) (h:xg4 l)
 refine vcs (∃(v0:Unit),∃(v1:Nat),w4f (valL l) l.length v1/\((l=qh3 (valL l) v1/\True)/\True)/\∀(v2:Nat),w4f (valL l) l.length v2->(decide ((0:Int)<(↑(qh3 (valL l) v2).length:Int))=true->fits .i64 ((↑(qh3 (valL l) v2).length:Int)-(1:Int))/\((0:Int)<=(↑(qh3 (valL l) v2).length:Int)-(1:Int)/\(↑(qh3 (valL l) v2).length:Int)-(1:Int)<(↑(qh3 (valL l) v2).length:Int))/\((nI (qh3 (valL l) v2) ((↑(qh3 (valL l) v2).length:Int)-(1:Int)).toNat==(0:Int))=true->fits .i64 ((↑(qh3 (valL l) v2).length:Int)-(1:Int))/\((0:Int)<=(0:Int)/\(0:Int)<=(↑(qh3 (valL l) v2).length:Int)-(1:Int)/\(↑(qh3 (valL l) v2).length:Int)-(1:Int)<=(↑(qh3 (valL l) v2).length:Int))/\∃(v6:Nat),w4f (valL l) l.length v6/\v6<v2/\(List.drop (0:Nat) (List.take ((↑(qh3 (valL l) v2).length:Int)-(1:Int)).toNat (qh3 (valL l) v2))=qh3 (valL l) v6/\True)/\True)/\((nI (qh3 (valL l) v2) ((↑(qh3 (valL l) v2).length:Int)-(1:Int)).toNat==(0:Int))=false->qh3 (valL l) v2=dgs (valL l)))/\(decide ((0:Int)<(↑(qh3 (valL l) v2).length:Int))=false->qh3 (valL l) v2=dgs (valL l))) ?_
 refine⟨(),l.length,⟨zab _,h.lt⟩,h.eq,λk hk=>?_⟩
 have hl:=h.len
 have hkl:=hk.le
 have hS:=hk.lt
 generalize valL l=S at *
 simp only[qi7]
 refine⟨λhpos=>?_,λh0=>?_⟩
 ·obtain⟨j,rfl⟩:∃j,k=j+1:=⟨k-1,ow⟩
  have e:(((j+1:Nat):Int)-1).toNat=j:=ow
  rw[e,q3l S _ j ow]
  refine⟨qa3,⟨ow,ow⟩,λhz=>⟨qa3,⟨ow,ow⟩,j,⟨ow,x44 hS (Int.ofNat.inj hz)⟩,ow,?_⟩,λhz=>?_⟩
  all_goals grind [x45,w4b,Nat.add_sub_cancel,x9k]
 ·obtain rfl:k=0:=ow
  exact w4b hS (.inl rfl)
def w0f (A B:Nat):Int:=if A<B then -1 else if A=B then 0 else 1
abbrev yy4:qb3:=qe8 true none [tInts,tInts] [tInt] (λx=>DigOk x.1/\DigOk x.2.1) (λx=>(w0f (valL x.1) (valL x.2.1),()))
structure xz8 (A B n:Nat) (i:Int):Prop where
 lo:-1<=i
 hi:i<n
 eq:A / BS ^ (i+1).toNat=B / BS ^ (i+1).toNat
def ym5 (A B n:Nat):Nat->Option Inv
 | 0=>some (Inv.of [5] 0 (λi:Int=>[(5,.lit (.int .i64 i))]) (λ_=>[]) (λi=>xz8 A B n i) (λi=>(i+1).toNat))
 | _=>none
theorem xg7:Meets Tryz.prog 283 yy4:=by
 refine mts (SpecsOk.nil _) Tryz.func283 (λx=>ym5 (valL x.1) (valL x.2.1) x.1.length) ?_
 rintro⟨a,b,⟨⟩⟩ h
 revert a b
 intro(a:List Int) (b:List Int) (h:DigOk a/\DigOk b)
 refine vcs ((((↑a.length:Int) != (↑b.length:Int))=true->(decide ((↑a.length:Int)<(↑b.length:Int))=true->(-1:Int)=w0f (valL a) (valL b))/\(decide ((↑a.length:Int)<(↑b.length:Int))=false->(1:Int)=w0f (valL a) (valL b)))/\(((↑a.length:Int) != (↑b.length:Int))=false->fits .i64 ((↑a.length:Int)-(1:Int))/\∃(v1:Unit),∃(v2:Int),xz8 (valL a) (valL b) a.length v2/\(((↑a.length:Int)-(1:Int)=v2/\True)/\True)/\∀(v3:Int),xz8 (valL a) (valL b) a.length v3->(decide ((0:Int)<=v3)=true->((0:Int)<=v3/\v3<(↑a.length:Int))/\((0:Int)<=v3/\v3<(↑b.length:Int))/\(decide (nI a v3.toNat<nI b v3.toNat)=true->(-1:Int)=w0f (valL a) (valL b))/\(decide (nI a v3.toNat<nI b v3.toNat)=false->((0:Int)<=v3/\v3<(↑a.length:Int))/\((0:Int)<=v3/\v3<(↑b.length:Int))/\(decide (nI b v3.toNat<nI a v3.toNat)=true->(1:Int)=w0f (valL a) (valL b))/\(decide (nI b v3.toNat<nI a v3.toNat)=false->fits .i64 (v3-(1:Int))/\∃(v8:Int),xz8 (valL a) (valL b) a.length v8/\(v8+(1:Int)).toNat<(v3+(1:Int)).toNat/\(v3-(1:Int)=v8/\True)/\True)))/\(decide ((0:Int)<=v3)=false->(0:Int)=w0f (valL a) (valL b)))) ?_
 obtain⟨ha,hb⟩:=h
 have la:=ha.lenD
 have lb:=hb.lenD
 have na:=ha.len
 have nb:=hb.len
 have less:∀X Y:Nat,lenD X<lenD Y->X<Y:=λX Y q=>by
  grind [qx2,qr1]
 refine⟨λhne=>⟨λhlt=>?_,λhlt=>?_⟩,λhe=>⟨qa3,(),(a.length:Int)-1,⟨ow,ow,?_⟩,rfl,λi hi=>⟨λh0=>?_,λh0=>?_⟩⟩⟩
 ·have:=less (valL a) (valL b) ow
  simp_all [w0f,if_pos]
 ·have:=less (valL b) (valL a) ow
  unfold w0f; omega
 ·have h1:=qr1 (valL a)
  have h2:=qr1 (valL b)
  grind [Nat.div_eq_of_lt]
 ·have hhi:=hi.hi
  obtain⟨j,rfl⟩:∃j:Nat,i=j:=⟨i.toNat,ow⟩
  have hE:=hi.eq
  rw[show((j:Int)+1).toNat=j+1 by omega] at hE
  obtain⟨c1,c2,c3⟩:=xz4 hE
  rw[zaq,ha.at_ ow,hb.at_ ow]
  refine⟨⟨ow,ow⟩,⟨ow,ow⟩,λq=>?_,λq=>⟨⟨ow,ow⟩,⟨ow,ow⟩,λq2=>?_,λq2=>⟨qa3,(j:Int)-1,⟨ow,ow,?_⟩,ow,rfl⟩⟩⟩
  ·have:=c1 (Int.ofNat_lt.1 q)
   simp_all [w0f,if_pos]
  ·have:=c2 (Int.ofNat_lt.1 q2)
   unfold w0f; omega
  grind
 ·have hE:=hi.eq
  have:=hi.lo
  rw[show(i+1).toNat=0 by omega,zes,Nat.div_one,Nat.div_one] at hE
  simp_all [w0f,if_neg,if_pos]
abbrev yy5:qb3:=qe8 true none [tInts,tInt] [tInt] (λx=>DigOk x.1/\0<=x.2.1) (λx=>(((valL x.1 / BS ^ x.2.1.toNat % BS:Nat):Int),()))
theorem q8r:Meets Tryz.prog 292 yy5:=by
 refine mt0 (SpecsOk.nil _) Tryz.func292 ?_
 rintro⟨a,i,⟨⟩⟩ h
 revert a i
 intro(a:List Int) (i:Int) (h:DigOk a/\0<=i)
 refine vcs (let Q0:=valL a / BS ^ i.toNat % BS; (decide (i<(↑a.length:Int))=true->((0:Int)<=i/\i<(↑a.length:Int))/\nI a i.toNat=(↑Q0:Int))/\(decide (i<(↑a.length:Int))=false->(0:Int)=(↑Q0:Int))) ?_
 obtain⟨ha,hi⟩:=h
 refine⟨λhlt=>⟨⟨hi,hlt⟩,ha.at_ ow⟩,λhge=>?_⟩
 have h1:=qr1 (valL a)
 have h2:=qv9 (show lenD (valL a)<=i.toNat by have:=ha.lenD; omega)
 rw[zb2 ow]
 rfl
def ye4 (a b:List Int):List Int:=dgs (valL a+valL b)
def x6y (a b:List Int):List Int:=dgs (valL a-valL b)
def w0g (a b:List Int):List Int:=dgs (valL a*valL b)
abbrev ym6:qb3:=qe8 true none [tInts,tInts] [tInts] (λx=>DigOk x.1/\DigOk x.2.1) (λx=>(ye4 x.1 x.2.1,()))
def x9o (A B:Nat):Nat->Option Inv
 | 0=>some (Inv.of [5,6,7] 1 (λi:Nat=>[(5,.own 0),(6,.lit (.int .i64 (qx9 A B i))),(7,.lit (.int .i64 i))]) (λi=>[.vec 3 (.int .i64) (qh3 (A+B) i)]) (λi=>i<=lenD (A+B)) (λi=>lenD (A+B)-i))
 | _=>none
theorem w7g:Meets Tryz.prog 282 ym6:=by
 refine mts (SpecsOk.cons q8r (SpecsOk.nil _)) Tryz.func282 (λx=>x9o (valL x.1) (valL x.2.1)) ?_
 rintro⟨a,b,⟨⟩⟩ h
 revert a b
 intro(a:List Int) (b:List Int) (h:DigOk a/\DigOk b)
 refine vcs (let Q0:=valL a+valL b; ∃(v0:Unit),∃(v1:Nat),Nat.le v1 (lenD Q0)/\((True/\(0:Int)=(↑(qx9 (valL a) (valL b) v1):Int)/\(0:Int)=(↑v1:Int)/\True)/\qh3 Q0 v1=[]/\True)/\∀(v2:Nat),Nat.le v2 (lenD Q0)->(decide ((↑v2:Int)<(↑a.length:Int))=true->(DigOk a/\(0:Ty.den tInt)<=(↑v2:Int))/\(DigOk b/\(0:Ty.den tInt)<=(↑v2:Int))/\fits .i64 ((↑(valL a / BS ^ v2 % BS):Int)+(↑(valL b / BS ^ v2 % BS):Int))/\fits .i64 ((↑(valL a / BS ^ v2 % BS):Int)+(↑(valL b / BS ^ v2 % BS):Int)+(↑(qx9 (valL a) (valL b) v2):Int))/\(1000000000:Int)≠(0:Int)/\((0:Nat)<List.length [Int.tmod ((↑(valL a / BS ^ v2 % BS):Int)+(↑(valL b / BS ^ v2 % BS):Int)+(↑(qx9 (valL a) (valL b) v2):Int)) (1000000000:Int)]/\Nat.le ((qh3 Q0 v2).length+List.length [Int.tmod ((↑(valL a / BS ^ v2 % BS):Int)+(↑(valL b / BS ^ v2 % BS):Int)+(↑(qx9 (valL a) (valL b) v2):Int)) (1000000000:Int)]) (1000000:Nat))/\(1000000000:Int)≠(0:Int)/\fits .i64 (Int.tdiv ((↑(valL a / BS ^ v2 % BS):Int)+(↑(valL b / BS ^ v2 % BS):Int)+(↑(qx9 (valL a) (valL b) v2):Int)) (1000000000:Int))/\fits .i64 ((↑v2:Int)+(1:Int))/\∃(v5:Nat),Nat.le v5 (lenD Q0)/\lenD Q0-v5<lenD Q0-v2/\(True/\Int.tdiv ((↑(valL a / BS ^ v2 % BS):Int)+(↑(valL b / BS ^ v2 % BS):Int)+(↑(qx9 (valL a) (valL b) v2):Int)) (1000000000:Int)=(↑(qx9 (valL a) (valL b) v5):Int)/\(↑v2:Int)+(1:Int)=(↑v5:Int)/\True)/\qh3 Q0 v2++[Int.tmod ((↑(valL a / BS ^ v2 % BS):Int)+(↑(valL b / BS ^ v2 % BS):Int)+(↑(qx9 (valL a) (valL b) v2):Int)) (1000000000:Int)]=qh3 Q0 v5/\True)/\(decide ((↑v2:Int)<(↑a.length:Int))=false->(decide ((↑v2:Int)<(↑b.length:Int))=true->(DigOk a/\(0:Ty.den tInt)<=(↑v2:Int))/\(DigOk b/\(0:Ty.den tInt)<=(↑v2:Int))/\fits .i64 ((↑(valL a / BS ^ v2 % BS):Int)+(↑(valL b / BS ^ v2 % BS):Int))/\fits .i64 ((↑(valL a / BS ^ v2 % BS):Int)+(↑(valL b / BS ^ v2 % BS):Int)+(↑(qx9 (valL a) (valL b) v2):Int))/\(1000000000:Int)≠(0:Int)/\((0:Nat)<List.length [Int.tmod ((↑(valL a / BS ^ v2 % BS):Int)+(↑(valL b / BS ^ v2 % BS):Int)+(↑(qx9 (valL a) (valL b) v2):Int)) (1000000000:Int)]/\Nat.le ((qh3 Q0 v2).length+List.length [Int.tmod ((↑(valL a / BS ^ v2 % BS):Int)+(↑(valL b / BS ^ v2 % BS):Int)+(↑(qx9 (valL a) (valL b) v2):Int)) (1000000000:Int)]) (1000000:Nat))/\(1000000000:Int)≠(0:Int)/\fits .i64 (Int.tdiv ((↑(valL a / BS ^ v2 % BS):Int)+(↑(valL b / BS ^ v2 % BS):Int)+(↑(qx9 (valL a) (valL b) v2):Int)) (1000000000:Int))/\fits .i64 ((↑v2:Int)+(1:Int))/\∃(v6:Nat),Nat.le v6 (lenD Q0)/\lenD Q0-v6<lenD Q0-v2/\(True/\Int.tdiv ((↑(valL a / BS ^ v2 % BS):Int)+(↑(valL b / BS ^ v2 % BS):Int)+(↑(qx9 (valL a) (valL b) v2):Int)) (1000000000:Int)=(↑(qx9 (valL a) (valL b) v6):Int)/\(↑v2:Int)+(1:Int)=(↑v6:Int)/\True)/\qh3 Q0 v2++[Int.tmod ((↑(valL a / BS ^ v2 % BS):Int)+(↑(valL b / BS ^ v2 % BS):Int)+(↑(qx9 (valL a) (valL b) v2):Int)) (1000000000:Int)]=qh3 Q0 v6/\True)/\(decide ((↑v2:Int)<(↑b.length:Int))=false->(decide ((0:Int)<(↑(qx9 (valL a) (valL b) v2):Int))=true->(DigOk a/\(0:Ty.den tInt)<=(↑v2:Int))/\(DigOk b/\(0:Ty.den tInt)<=(↑v2:Int))/\fits .i64 ((↑(valL a / BS ^ v2 % BS):Int)+(↑(valL b / BS ^ v2 % BS):Int))/\fits .i64 ((↑(valL a / BS ^ v2 % BS):Int)+(↑(valL b / BS ^ v2 % BS):Int)+(↑(qx9 (valL a) (valL b) v2):Int))/\(1000000000:Int)≠(0:Int)/\((0:Nat)<List.length [Int.tmod ((↑(valL a / BS ^ v2 % BS):Int)+(↑(valL b / BS ^ v2 % BS):Int)+(↑(qx9 (valL a) (valL b) v2):Int)) (1000000000:Int)]/\Nat.le ((qh3 Q0 v2).length+List.length [Int.tmod ((↑(valL a / BS ^ v2 % BS):Int)+(↑(valL b / BS ^ v2 % BS):Int)+(↑(qx9 (valL a) (valL b) v2):Int)) (1000000000:Int)]) (1000000:Nat))/\(1000000000:Int)≠(0:Int)/\fits .i64 (Int.tdiv ((↑(valL a / BS ^ v2 % BS):Int)+(↑(valL b / BS ^ v2 % BS):Int)+(↑(qx9 (valL a) (valL b) v2):Int)) (1000000000:Int))/\fits .i64 ((↑v2:Int)+(1:Int))/\∃(v7:Nat),Nat.le v7 (lenD Q0)/\lenD Q0-v7<lenD Q0-v2/\(True/\Int.tdiv ((↑(valL a / BS ^ v2 % BS):Int)+(↑(valL b / BS ^ v2 % BS):Int)+(↑(qx9 (valL a) (valL b) v2):Int)) (1000000000:Int)=(↑(qx9 (valL a) (valL b) v7):Int)/\(↑v2:Int)+(1:Int)=(↑v7:Int)/\True)/\qh3 Q0 v2++[Int.tmod ((↑(valL a / BS ^ v2 % BS):Int)+(↑(valL b / BS ^ v2 % BS):Int)+(↑(qx9 (valL a) (valL b) v2):Int)) (1000000000:Int)]=qh3 Q0 v7/\True)/\(decide ((0:Int)<(↑(qx9 (valL a) (valL b) v2):Int))=false->qh3 Q0 v2=ye4 a b)))) ?_
 obtain⟨ha,hb⟩:=h
 have la:=ha.lenD
 have lb:=hb.lenD
 have na:=ha.len
 have nb:=hb.len
 have hL:lenD (valL a+valL b)<=1000+1:=xz5 ow ow
 have grow:∀i,BS ^ i<=valL a+valL b->i<lenD (valL a+valL b):=λi q=>qx2.2 q
 have big:∀i l,i<l->l=lenD (valL a)\/l=lenD (valL b)->BS ^ i<=valL a+valL b:=λi l h1 h2=>by
  rcases h2 with rfl | rfl
  all_goals grind [qx2]
 refine⟨(),0,zae _,⟨⟨by rw[xz2]; rfl,rfl⟩,rfl⟩,λi hi=>?_⟩
 have body:BS ^ i<=valL a+valL b->DigOk a/\DigOk b/\fits IntKind.i64 (((valL a / BS ^ i % BS:Nat):Int)+((valL b / BS ^ i % BS:Nat):Int))/\fits IntKind.i64 (((valL a / BS ^ i % BS:Nat):Int)+((valL b / BS ^ i % BS:Nat):Int)+((qx9 (valL a) (valL b) i:Nat):Int))/\(qh3 (valL a+valL b) i).length+1<=1000000 /\
   fits IntKind.i64 ((((valL a / BS ^ i % BS:Nat):Int)+((valL b / BS ^ i % BS:Nat):Int)+((qx9 (valL a) (valL b) i:Nat):Int)).tdiv 1000000000)/\fits IntKind.i64 ((i:Int)+1)/\∃j,j<=lenD (valL a+valL b)/\lenD (valL a+valL b)-j<lenD (valL a+valL b)-i /\
   ((((valL a / BS ^ i % BS:Nat):Int)+((valL b / BS ^ i % BS:Nat):Int)+((qx9 (valL a) (valL b) i:Nat):Int)).tdiv 1000000000=((qx9 (valL a) (valL b) j:Nat):Int)/\(i:Int)+1=(j:Int)) /\
   qh3 (valL a+valL b) i++[(((valL a / BS ^ i % BS:Nat):Int)+((valL b / BS ^ i % BS:Nat):Int)+((qx9 (valL a) (valL b) i:Nat):Int)).tmod 1000000000]=qh3 (valL a+valL b) j:=λq=>by
  have hlt:=grow i q
  have d1:=we5 (valL a) i
  have d2:=we5 (valL b) i
  have d3:=xf9 (valL a) (valL b) i
  have e:((valL a / BS ^ i % BS:Nat):Int)+((valL b / BS ^ i % BS:Nat):Int)+((qx9 (valL a) (valL b) i:Nat):Int)=((valL a / BS ^ i % BS+valL b / BS ^ i % BS+qx9 (valL a) (valL b) i:Nat):Int):=by rfl
  have c1:=xz1 (valL a) (valL b) i
  have c2:=xg0 (valL a) (valL b) i
  have c3:=xf9 (valL a) (valL b) (i+1)
  rw[e,xg6,xg5,<- c1,<- c2]
  exact⟨ha,hb,qa3,qa3,by grind [qi7],qa3,qa3,i+1,hlt,ow,⟨rfl,ow⟩,rfl⟩
 refine⟨λh1=>body (big i _ h1 (.inl la)),λh1=>⟨λh2=>body (big i _ h2 (.inr lb)),λh2=>⟨λh3=>body ?_,λh3=>?_⟩⟩⟩
 ·unfold qx9 at h3
  have h4:0<(valL a % BS ^ i+valL b % BS ^ i) / BS ^ i:=ow
  have h5:=(Nat.div_pos_iff.1 h4).2
  have h6:=Nat.mod_le (valL a) (BS ^ i)
  have h7:=Nat.mod_le (valL b) (BS ^ i)
  omega
 ·have hc:qx9 (valL a) (valL b) i=0:=ow
  have hs:=wl6 (valL a) (valL b) i
  have a0:valL a<BS ^ i:=za0 (qr1 (valL a)) (qv9 ow)
  have b0:valL b<BS ^ i:=za0 (qr1 (valL b)) (qv9 ow)
  rw[hc,zb2 a0,zb2 b0] at hs
  refine w4b ((zdq.1 hs).resolve_left ow) ?_
  grind [Nat.eq_zero_or_pos,q2,qx2]
abbrev x9p:qb3:=qe8 false none [tInts,tInts] [tInts] (λx=>DigOk x.1/\DigOk x.2.1/\valL x.2.1<=valL x.1) (λx=>(x6y x.1 x.2.1,()))
def x47 (A B n:Nat):Nat->Option Inv
 | 0=>some (Inv.of [5,6,11] 1 (λi:Nat=>[(5,.own 0),(6,.lit (.int .i64 (q62 A B i))),(11,.lit (.int .i64 i))]) (λi=>[.vec 3 (.int .i64) (qh3 (A-B) i)]) (λi=>i<=n) (λi=>n-i))
 | _=>none
theorem w1n:Meets Tryz.prog 284 x9p:=by
 refine mts (SpecsOk.cons q8r (SpecsOk.cons we6 (SpecsOk.nil _))) Tryz.func284 (λx=>x47 (valL x.1) (valL x.2.1) x.1.length) ?_
 rintro⟨a,b,⟨⟩⟩ h
 revert a b
 intro(a:List Int) (b:List Int) (h:DigOk a/\DigOk b/\valL b<=valL a)
 refine vcs (let Q0:=valL a-valL b; ∃(v0:Unit),∃(v1:Nat),Nat.le v1 a.length/\((True/\(0:Int)=(↑(q62 (valL a) (valL b) v1):Int)/\(0:Int)=(↑v1:Int)/\True)/\qh3 Q0 v1=[]/\True)/\∀(v2:Nat),Nat.le v2 a.length->(decide ((↑v2:Int)<(↑a.length:Int))=true->((0:Int)<=(↑v2:Int)/\(↑v2:Int)<(↑a.length:Int))/\(DigOk b/\(0:Ty.den tInt)<=(↑v2:Int))/\fits .i64 (nI a v2-(↑(valL b / BS ^ v2 % BS):Int))/\fits .i64 (nI a v2-(↑(valL b / BS ^ v2 % BS):Int)-(↑(q62 (valL a) (valL b) v2):Int))/\(decide (nI a v2-(↑(valL b / BS ^ v2 % BS):Int)-(↑(q62 (valL a) (valL b) v2):Int)<(0:Int))=true->fits .i64 (nI a v2-(↑(valL b / BS ^ v2 % BS):Int)-(↑(q62 (valL a) (valL b) v2):Int)+(1000000000:Int))/\((0:Nat)<List.length [nI a v2-(↑(valL b / BS ^ v2 % BS):Int)-(↑(q62 (valL a) (valL b) v2):Int)+(1000000000:Int)]/\Nat.le ((qh3 Q0 v2).length+List.length [nI a v2-(↑(valL b / BS ^ v2 % BS):Int)-(↑(q62 (valL a) (valL b) v2):Int)+(1000000000:Int)]) (1000000:Nat))/\fits .i64 ((↑v2:Int)+(1:Int))/\∃(v6:Nat),Nat.le v6 a.length/\a.length-v6<a.length-v2/\(True/\(1:Int)=(↑(q62 (valL a) (valL b) v6):Int)/\(↑v2:Int)+(1:Int)=(↑v6:Int)/\True)/\qh3 Q0 v2++[nI a v2-(↑(valL b / BS ^ v2 % BS):Int)-(↑(q62 (valL a) (valL b) v2):Int)+(1000000000:Int)]=qh3 Q0 v6/\True)/\(decide (nI a v2-(↑(valL b / BS ^ v2 % BS):Int)-(↑(q62 (valL a) (valL b) v2):Int)<(0:Int))=false->((0:Nat)<List.length [nI a v2-(↑(valL b / BS ^ v2 % BS):Int)-(↑(q62 (valL a) (valL b) v2):Int)]/\Nat.le ((qh3 Q0 v2).length+List.length [nI a v2-(↑(valL b / BS ^ v2 % BS):Int)-(↑(q62 (valL a) (valL b) v2):Int)]) (1000000:Nat))/\fits .i64 ((↑v2:Int)+(1:Int))/\∃(v6:Nat),Nat.le v6 a.length/\a.length-v6<a.length-v2/\(True/\(0:Int)=(↑(q62 (valL a) (valL b) v6):Int)/\(↑v2:Int)+(1:Int)=(↑v6:Int)/\True)/\qh3 Q0 v2++[nI a v2-(↑(valL b / BS ^ v2 % BS):Int)-(↑(q62 (valL a) (valL b) v2):Int)]=qh3 Q0 v6/\True))/\(decide ((↑v2:Int)<(↑a.length:Int))=false->xg4 (qh3 Q0 v2)/\dgs (valL (qh3 Q0 v2))=x6y a b)) ?_
 obtain⟨ha,hb,hle⟩:=h
 have la:=ha.lenD
 have na:=ha.len
 have hA:valL a<BS ^ a.length:=by grind [qr1]
 refine⟨(),0,zae _,⟨⟨by rw[xz3]; rfl,rfl⟩,rfl⟩,λi hi=>⟨λhlt=>?_,λhge=>?_⟩⟩
 ·have D:=xg2 (k:=i) hle
  have d1:=we5 (valL a) i
  have d2:=we5 (valL b) i
  have d3:=we5 (valL a-valL b) i
  have b1:=w4d (valL a) (valL b) i
  have b2:=w4d (valL a) (valL b) (i+1)
  have e:qh3 (valL a-valL b) (i+1)=qh3 (valL a-valL b) i++[(((valL a-valL b) / BS ^ i % BS:Nat):Int)]:=rfl
  rw[ha.at_ hlt,qi7]
  generalize(((valL a-valL b) / BS ^ i % BS:Nat):Int)=z at *
  generalize((valL a / BS ^ i % BS:Nat):Int)=x at *
  generalize((valL b / BS ^ i % BS:Nat):Int)=y at *
  refine⟨hlt,hb,qa3,qa3,λhneg=>?_,λhpos=>?_⟩
  ·have hneg:x-y-(q62 (valL a) (valL b) i:Int)<0:=hneg
   exact⟨qa3,ow,qa3,i+1,hlt,ow,⟨ow,ow⟩,by grind⟩
  ·have hpos:0<=x-y-(q62 (valL a) (valL b) i:Int):=hpos
   exact⟨ow,qa3,i+1,hlt,ow,⟨ow,ow⟩,by grind⟩
 ·obtain rfl:i=a.length:=ow
  exact w4e ow ow
abbrev x9q:qb3:=qe8 false none [tInts,tInts] [tInts] (λx=>DigOk x.1/\DigOk x.2.1) (λx=>(w0g x.1 x.2.1,()))
def x48 (A B la n:Nat):Nat->Option Inv
 | 0=>some (Inv.of [5,19] 1 (λi:Nat=>[(5,.own 0),(19,.lit (.int .i64 i))]) (λi=>[.vec 3 (.int .i64) (qh3 (A % BS ^ i*B) n)]) (λi=>i<=la) (λi=>la-i))
 | 1=>some (Eng.Inv.mk Nat (Nat × Nat × Nat) [5,8,9] 1 (λi s=>[(5,.own 0),(8,.lit (.int .i64 s.2.1)),(9,.lit (.int .i64 s.1))]) (λi s=>[.vec 3 (.int .i64) (qh3 s.2.2 n)]) (λi s=>xr0 A B n i s.1 s.2.1 s.2.2) (λi s=>n+1-s.1))
 | _=>none
theorem q8s:Meets Tryz.prog 281 x9q:=by
 refine mts (SpecsOk.cons q8r (SpecsOk.cons we6 (SpecsOk.nil _))) Tryz.func281 (λx=>x48 (valL x.1) (valL x.2.1) x.1.length (x.1.length+x.2.1.length)) ?_
 rintro⟨a,b,⟨⟩⟩ h
 revert a b
 intro(a:List Int) (b:List Int) (h:DigOk a/\DigOk b)
 refine vcs (let Q0:=a.length+b.length; fits .i64 ((↑a.length:Int)+(↑b.length:Int))/\((↑a.length:Int)+(↑b.length:Int)=(↑a.length:Int)+(↑b.length:Int)/\(0:Int)<=(↑a.length:Int)+(↑b.length:Int)/\(↑a.length:Int)+(↑b.length:Int)<=(1000000:Int))/\∃(v0:Unit),∃(v1:Nat),Nat.le v1 a.length/\((True/\(0:Int)=(↑v1:Int)/\True)/\List.replicate ((↑a.length:Int)+(↑b.length:Int)).toNat (Ty.dflt (TI.ty T3))=qh3 (valL a % BS ^ v1*valL b) Q0/\True)/\∀(v2:Nat),Nat.le v2 a.length->(decide ((↑v2:Int)<(↑a.length:Int))=true->((0:Int)<=(↑v2:Int)/\(↑v2:Int)<(↑a.length:Int))/\∃(v5:Nat),∃(v6:Nat × Nat × Nat),xr0 (valL a) (valL b) Q0 v5 v6.1 v6.2.1 v6.2.2/\((True/\(0:Int)=(↑v6.2.1:Int)/\(0:Int)=(↑v6.1:Int)/\True)/\qh3 (valL a % BS ^ v2*valL b) Q0=qh3 v6.2.2 Q0/\True)/\∀(v7:Nat × Nat × Nat),xr0 (valL a) (valL b) Q0 v5 v7.1 v7.2.1 v7.2.2->(decide ((↑v7.1:Int)<(↑b.length:Int))=true->fits .i64 ((↑v2:Int)+(↑v7.1:Int))/\((0:Int)<=(↑v2:Int)+(↑v7.1:Int)/\(↑v2:Int)+(↑v7.1:Int)<(↑(qh3 v7.2.2 Q0).length:Int))/\((↑v2:Int)+(↑v7.1:Int)).toNat<(qh3 v7.2.2 Q0).length/\(DigOk b/\(0:Ty.den tInt)<=(↑v7.1:Int))/\fits .i64 (nI a v2*(↑(valL b / BS ^ (↑v7.1:Int).toNat % BS):Int))/\fits .i64 (nI (qh3 v7.2.2 Q0) ((↑v2:Int)+(↑v7.1:Int)).toNat+nI a v2*(↑(valL b / BS ^ (↑v7.1:Int).toNat % BS):Int))/\fits .i64 (nI (qh3 v7.2.2 Q0) ((↑v2:Int)+(↑v7.1:Int)).toNat+nI a v2*(↑(valL b / BS ^ (↑v7.1:Int).toNat % BS):Int)+(↑v7.2.1:Int))/\fits .i64 ((↑v2:Int)+(↑v7.1:Int))/\(1000000000:Int)≠(0:Int)/\((0:Int)<=(↑v2:Int)+(↑v7.1:Int)/\(↑v2:Int)+(↑v7.1:Int)<(↑(qh3 v7.2.2 Q0).length:Int))/\((↑v2:Int)+(↑v7.1:Int)).toNat<(qh3 v7.2.2 Q0).length/\(1000000000:Int)≠(0:Int)/\fits .i64 (Int.tdiv (nI (qh3 v7.2.2 Q0) ((↑v2:Int)+(↑v7.1:Int)).toNat+nI a v2*(↑(valL b / BS ^ (↑v7.1:Int).toNat % BS):Int)+(↑v7.2.1:Int)) (1000000000:Int))/\fits .i64 ((↑v7.1:Int)+(1:Int))/\∃(v10:Nat × Nat × Nat),xr0 (valL a) (valL b) Q0 v5 v10.1 v10.2.1 v10.2.2/\a.length+b.length+(1:Nat)-v10.1<a.length+b.length+(1:Nat)-v7.1/\(True/\Int.tdiv (nI (qh3 v7.2.2 Q0) ((↑v2:Int)+(↑v7.1:Int)).toNat+nI a v2*(↑(valL b / BS ^ (↑v7.1:Int).toNat % BS):Int)+(↑v7.2.1:Int)) (1000000000:Int)=(↑v10.2.1:Int)/\(↑v7.1:Int)+(1:Int)=(↑v10.1:Int)/\True)/\List.set (qh3 v7.2.2 Q0) ((↑v2:Int)+(↑v7.1:Int)).toNat (Int.tmod (nI (qh3 v7.2.2 Q0) ((↑v2:Int)+(↑v7.1:Int)).toNat+nI a v2*(↑(valL b / BS ^ (↑v7.1:Int).toNat % BS):Int)+(↑v7.2.1:Int)) (1000000000:Int))=qh3 v10.2.2 Q0/\True)/\(decide ((↑v7.1:Int)<(↑b.length:Int))=false->(decide ((0:Int)<(↑v7.2.1:Int))=true->fits .i64 ((↑v2:Int)+(↑v7.1:Int))/\((0:Int)<=(↑v2:Int)+(↑v7.1:Int)/\(↑v2:Int)+(↑v7.1:Int)<(↑(qh3 v7.2.2 Q0).length:Int))/\((↑v2:Int)+(↑v7.1:Int)).toNat<(qh3 v7.2.2 Q0).length/\(DigOk b/\(0:Ty.den tInt)<=(↑v7.1:Int))/\fits .i64 (nI a v2*(↑(valL b / BS ^ (↑v7.1:Int).toNat % BS):Int))/\fits .i64 (nI (qh3 v7.2.2 Q0) ((↑v2:Int)+(↑v7.1:Int)).toNat+nI a v2*(↑(valL b / BS ^ (↑v7.1:Int).toNat % BS):Int))/\fits .i64 (nI (qh3 v7.2.2 Q0) ((↑v2:Int)+(↑v7.1:Int)).toNat+nI a v2*(↑(valL b / BS ^ (↑v7.1:Int).toNat % BS):Int)+(↑v7.2.1:Int))/\fits .i64 ((↑v2:Int)+(↑v7.1:Int))/\(1000000000:Int)≠(0:Int)/\((0:Int)<=(↑v2:Int)+(↑v7.1:Int)/\(↑v2:Int)+(↑v7.1:Int)<(↑(qh3 v7.2.2 Q0).length:Int))/\((↑v2:Int)+(↑v7.1:Int)).toNat<(qh3 v7.2.2 Q0).length/\(1000000000:Int)≠(0:Int)/\fits .i64 (Int.tdiv (nI (qh3 v7.2.2 Q0) ((↑v2:Int)+(↑v7.1:Int)).toNat+nI a v2*(↑(valL b / BS ^ (↑v7.1:Int).toNat % BS):Int)+(↑v7.2.1:Int)) (1000000000:Int))/\fits .i64 ((↑v7.1:Int)+(1:Int))/\∃(v11:Nat × Nat × Nat),xr0 (valL a) (valL b) Q0 v5 v11.1 v11.2.1 v11.2.2/\a.length+b.length+(1:Nat)-v11.1<a.length+b.length+(1:Nat)-v7.1/\(True/\Int.tdiv (nI (qh3 v7.2.2 Q0) ((↑v2:Int)+(↑v7.1:Int)).toNat+nI a v2*(↑(valL b / BS ^ (↑v7.1:Int).toNat % BS):Int)+(↑v7.2.1:Int)) (1000000000:Int)=(↑v11.2.1:Int)/\(↑v7.1:Int)+(1:Int)=(↑v11.1:Int)/\True)/\List.set (qh3 v7.2.2 Q0) ((↑v2:Int)+(↑v7.1:Int)).toNat (Int.tmod (nI (qh3 v7.2.2 Q0) ((↑v2:Int)+(↑v7.1:Int)).toNat+nI a v2*(↑(valL b / BS ^ (↑v7.1:Int).toNat % BS):Int)+(↑v7.2.1:Int)) (1000000000:Int))=qh3 v11.2.2 Q0/\True)/\(decide ((0:Int)<(↑v7.2.1:Int))=false->fits .i64 ((↑v2:Int)+(1:Int))/\∃(v11:Nat),Nat.le v11 a.length/\a.length-v11<a.length-v2/\(True/\(↑v2:Int)+(1:Int)=(↑v11:Int)/\True)/\qh3 v7.2.2 Q0=qh3 (valL a % BS ^ v11*valL b) Q0/\True)))/\(decide ((↑v2:Int)<(↑a.length:Int))=false->xg4 (qh3 (valL a % BS ^ v2*valL b) Q0)/\dgs (valL (qh3 (valL a % BS ^ v2*valL b) Q0))=w0g a b)) ?_
 obtain⟨ha,hb⟩:=h
 have na:=ha.len
 have nb:=hb.len
 have hA:valL a<BS ^ a.length:=by rw[ha.lenD]; exact qr1 _
 have hB:valL b<BS ^ b.length:=by rw[hb.lenD]; exact qr1 _
 refine⟨qa3,⟨ow,ow⟩,(),0,zae _,⟨rfl,?_⟩,λi hi=>⟨λhlt=>⟨hlt,i,(0,0,valL a % BS ^ i*valL b),⟨(show 0<BS by decide),?_,?_,zae _⟩,⟨⟨rfl,rfl⟩,rfl⟩,λ⟨j,c,S⟩ hT=>?_⟩,λhge=>?_⟩⟩
 ·rw[zes,Nat.mod_one,zeo,show((a.length:Int)+(b.length:Int)).toNat=a.length+b.length by omega]
  exact xz6 _
 ·exact mul_lt (za0 (zcd _ (qr7 i)) (qv9 hi)) hB
 ·grind
 ·dsimp only at hT ⊢
  have hcl:=hT.cl
  have hBS:BS=1000000000:=rfl
  have body:i+j<a.length+b.length->fits IntKind.i64 ((i:Int)+(j:Int))/\(0<=(i:Int)+(j:Int)/\(i:Int)+(j:Int)<((qh3 S (a.length+b.length)).length:Int))/\((i:Int)+(j:Int)).toNat<(qh3 S (a.length+b.length)).length/\DigOk b/\fits IntKind.i64 (nI a i*((valL b / BS ^ j % BS:Nat):Int)) /\
    fits IntKind.i64 (nI (qh3 S (a.length+b.length)) ((i:Int)+(j:Int)).toNat+nI a i*((valL b / BS ^ j % BS:Nat):Int))/\fits IntKind.i64 (nI (qh3 S (a.length+b.length)) ((i:Int)+(j:Int)).toNat+nI a i*((valL b / BS ^ j % BS:Nat):Int)+(c:Int))/\fits IntKind.i64 ((i:Int)+(j:Int)) /\
    (0<=(i:Int)+(j:Int)/\(i:Int)+(j:Int)<((qh3 S (a.length+b.length)).length:Int))/\((i:Int)+(j:Int)).toNat<(qh3 S (a.length+b.length)).length/\fits IntKind.i64 (Int.tdiv (nI (qh3 S (a.length+b.length)) ((i:Int)+(j:Int)).toNat+nI a i*((valL b / BS ^ j % BS:Nat):Int)+(c:Int)) 1000000000)/\fits IntKind.i64 ((j:Int)+1) /\
    ∃s:Nat × Nat × Nat,xr0 (valL a) (valL b) (a.length+b.length) i s.1 s.2.1 s.2.2/\a.length+b.length+1-s.1<a.length+b.length+1-j/\(Int.tdiv (nI (qh3 S (a.length+b.length)) ((i:Int)+(j:Int)).toNat+nI a i*((valL b / BS ^ j % BS:Nat):Int)+(c:Int)) 1000000000=(s.2.1:Int)/\(j:Int)+1=(s.1:Int)) /\
    (qh3 S (a.length+b.length)).set ((i:Int)+(j:Int)).toNat (Int.tmod (nI (qh3 S (a.length+b.length)) ((i:Int)+(j:Int)).toNat+nI a i*((valL b / BS ^ j % BS:Nat):Int)+(c:Int)) 1000000000)=qh3 s.2.2 (a.length+b.length):=λhk=>by
   obtain⟨t1,t2⟩:=x46 hT hk
   obtain⟨t3,t4⟩:=x2k hT
   have eI:((i:Int)+(j:Int)).toNat=i+j:=ow
   have d1:=we5 S (i+j)
   have eP:nI a i*((valL b / BS ^ j % BS:Nat):Int)=((valL a / BS ^ i % BS*(valL b / BS ^ j % BS):Nat):Int):=by rw[ha.at_ hlt,zds]
   have eQ:((S / BS ^ (i+j) % BS:Nat):Int)+((valL a / BS ^ i % BS*(valL b / BS ^ j % BS):Nat):Int)+(c:Int)=((tmQ (valL a) (valL b) i j c S:Nat):Int):=by rfl
   have hq2:tmQ (valL a) (valL b) i j c S / BS<=tmQ (valL a) (valL b) i j c S:=zcp _ _
   have hjn:=t1.le
   rw[eI,q3l _ _ _ hk,eP,eQ,xg6,xg5,qi7,t2]
   have f2:fits IntKind.i64 (((S / BS ^ (i+j) % BS:Nat):Int)+((valL a / BS ^ i % BS*(valL b / BS ^ j % BS):Nat):Int)):=by
    grind [BS,valL,qa3]
   exact⟨qa3,⟨ow,ow⟩,ow,hb,q63 ow,f2,q63 ow,qa3,⟨ow,ow⟩,ow,q63 ow,qa3,(j+1,tmQ (valL a) (valL b) i j c S / BS,tmS (valL a) (valL b) i j c S),t1,ow,⟨rfl,by rfl⟩,rfl⟩
  refine⟨λh1=>body ow,λh1=>⟨λh2=>body (ym2 hT hlt hB ow),λh2=>⟨qa3,i+1,hlt,ow,ow,?_⟩⟩⟩
  have hc:c=0:=ow
  have he:=hT.eq
  have hm:valL b % BS ^ j=valL b:=zei (za0 hB (qv9 ow))
  rw[hc,zeo,zb9,hm,<- xg3 hlt] at he
  rw[he]
 ·obtain rfl:i=a.length:=ow
  rw[zei hA]
  exact w4e (mul_lt hA hB) ow
end Go.Proofs.YtnchigbbjajiiaaGreat
