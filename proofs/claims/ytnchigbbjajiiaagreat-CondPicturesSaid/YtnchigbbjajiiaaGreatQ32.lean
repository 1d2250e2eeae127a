/- Which list is earlier, and norms, of the reference's layer 5: contracts by the engine. No condition. -/
import Derived.Test.YtnchigbbjajiiaaGreatV37
import Derived.Test.YtnchigbbjajiiaaGreatW19
set_option linter.unusedVariables false
set_option linter.unusedSimpArgs false
namespace Go.Proofs.YtnchigbbjajiiaaGreat
open Go Go.RowKit Eng
abbrev q6m:Ty:=.prod .bool (.prod (.list (.int .i64)) (.list (.int .i64)))
structure RxOk (K:Nat) (a:q4y):Prop where
 n:a.2.1=dgs (valL a.2.1)
 d:a.2.2=dgs (valL a.2.2)
 ln:a.2.1.length<=K
 ld:a.2.2.length<=K
theorem RxOk.dn {K:Nat} {a:q4y} (h:RxOk K a) (hK:K<=1000:=by omega):DigOk a.2.1:=⟨zaj h.ln hK,h.n⟩
theorem RxOk.dd {K:Nat} {a:q4y} (h:RxOk K a) (hK:K<=1000:=by omega):DigOk a.2.2:=⟨zaj h.ld hK,h.d⟩
theorem wy1 {N k:Nat} (h:N<BS ^ k) (hk:k<=1000):DigOk (dgs N):=⟨by rw[q1t]; exact zaj (q1s h) hk,by rw[qg7]⟩
theorem q9d {l:List Int} (h:l=dgs (valL l)) {K:Nat} (hK:l.length<=K):valL l<BS ^ K:=by
 refine za0 (qr1 (valL l)) (qv9 ?_)
 grind [lenD,valL,q1t]
theorem wn0 {n d:Int} (hn:qc0 BIG n) (hd:qc0 BIG d):RxOk 3 (qe5 n d):=by
 have e:BS ^ 3=1000000000000000000000000000:=by rfl
 have hB:BIG=4000000000000000000:=rfl
 unfold qc0 at hn hd
 unfold qe5
 refine⟨by grind [qg7],by grind [qg7],?_,?_⟩
 ·dsimp only; rw[q1t]; exact q1s ow
 ·dsimp only; rw[q1t]; exact q1s ow
theorem x00 {K:Nat} {n:Int} {a:q4y} (hn:qc0 BIG n) (h:RxOk K a):RxOk (K+3) (qj7 n a):=by
 have e:BS ^ 3=1000000000000000000000000000:=by rfl
 have hB:BIG=4000000000000000000:=rfl
 unfold qc0 at hn
 have hv:=q9d h.n h.ln
 unfold qj7
 refine⟨by grind [qg7],h.d,?_,zaj h.ld ow⟩
 dsimp only; rw[q1t]
 refine q1s ?_
 rw[zda]
 exact mul_lt hv ow
theorem x5u {K L:Nat} {a b:q4y} (ha:RxOk K a) (hb:RxOk L b):RxOk (K+L+1) (plusV a b):=by
 have a1:=q9d ha.n ha.ln
 have a2:=q9d ha.d ha.ld
 have b1:=q9d hb.n hb.ln
 have b2:=q9d hb.d hb.ld
 have hx:plusX a b<BS ^ (K+L):=mul_lt a1 b2
 have hy:plusY a b<BS ^ (K+L):=by have:=mul_lt b1 a2; rwa [zco L K] at this
 have hd:xk2 a b<BS ^ (K+L):=mul_lt a2 b2
 have hs:BS ^ (K+L+1)=BS ^ (K+L)*BS:=zb1 _ _
 have e:BS=1000000000:=rfl
 have hp:=qr7 (K+L)
 have hl:∀N,N<2*BS ^ (K+L)->(dgs N).length<=K+L+1:=λN hN=>by
  rw[q1t]
  refine q1s ?_
  grind
 unfold plusV
 split
 ·exact⟨by grind [qg7],by grind [qg7],hl _ ow,hl _ ow⟩
 ·split
  ·exact⟨by grind [qg7],by grind [qg7],hl _ ow,hl _ ow⟩
  ·exact⟨by grind [qg7],by grind [qg7],hl _ ow,hl _ ow⟩
theorem RxOk.up {K L:Nat} {a:q4y} (h:RxOk K a) (hK:K<=L:=by omega):RxOk L a:=⟨h.n,h.d,zaj h.ln hK,zaj h.ld hK⟩
theorem wy2 {a b:List Int} {K L:Nat} (ha:a=dgs (valL a)) (la:a.length<=K) (hb:b=dgs (valL b)) (lb:b.length<=L) (h:K+L<=1000):DigOk (w0g a b):=wy1 (mul_lt (q9d ha la) (q9d hb lb)) h
theorem xk7 (a b:List Int):valL (w0g a b)=valL a*valL b:=qg7 _
theorem q9e (A B:Nat):0<=w0f A B↔B<=A:=by
 grind [w0f]
abbrev ya2:qb3:=qe8 false none [.prod (.int .i64) (.int .i64)] [q6m] (λx=>qc0 BIG x.1.1/\qc0 BIG x.1.2) (λx=>(qe5 x.1.1 x.1.2,()))
theorem q9f:Meets Tryz.prog 262 ya2:=by
 refine mt0 (SpecsOk.cons ww4 (SpecsOk.nil _)) Tryz.func262 ?_
 rintro⟨⟨n,d⟩,⟨⟩⟩ h
 revert n d
 intro(n:Int) (d:Int) (h:qc0 BIG n/\qc0 BIG d)
 refine vcs (let Q0:=qe5 n d; fits .i64 ((0:Int)-n)/\qc0 BIG (max2 true n ((0:Int)-n))/\qc0 BIG d/\decide (n<(0:Int))=Q0.1/\dgs (max2 true n ((0:Int)-n)).toNat=Q0.2.1/\dgs d.toNat=Q0.2.2/\True) ?_
 obtain⟨h1,h2⟩:=h
 have hB:BIG=4000000000000000000:=rfl
 unfold qc0 at h1
 refine⟨qa3,?_,h2,rfl,rfl,rfl⟩
 have e:max2 true n (0-n)=max n (0-n):=rfl
 omega
abbrev yz2:qb3:=qe8 false none [tInt] [q6m] (λx=>qc0 BIG x.1) (λx=>(qe5 x.1 1,()))
theorem xk8:Meets Tryz.prog 260 yz2:=by
 refine mt0 (SpecsOk.cons q9f (SpecsOk.nil _)) Tryz.func260 ?_
 rintro⟨n,⟨⟩⟩ h
 revert n
 intro(n:Int) (h:qc0 BIG n)
 refine vcs ((qc0 BIG n/\qc0 BIG (1:Int))/\(qe5 n (1:Int)).1=(qe5 n (1:Int)).1/\(qe5 n (1:Int)).2.1=(qe5 n (1:Int)).2.1/\(qe5 n (1:Int)).2.2=(qe5 n (1:Int)).2.2/\True) ?_
 simp_all [qc0,BIG]
abbrev ya3:qb3:=qe8 false none [q6m,q6m] [q6m] (λx=>RxOk 400 x.1/\RxOk 400 x.2.1) (λx=>(plusV x.1 x.2.1,()))
set_option maxHeartbeats 8000000 in
theorem q9g:Meets Tryz.prog 258 ya3:=by
 refine mt0 (SpecsOk.cons q8s (SpecsOk.cons w7g (SpecsOk.cons xg7 (SpecsOk.cons w1n (SpecsOk.nil _))))) Tryz.func258 ?_
 rintro⟨⟨sa,na,da⟩,⟨sb,nb,db⟩,⟨⟩⟩ h
 revert sa na da sb nb db
 intro(sa:Bool) (na:List Int) (da:List Int) (sb:Bool) (nb:List Int) (db:List Int) (h:RxOk 400 (sa,na,da)/\RxOk 400 (sb,nb,db))
 refine vcs (let Q0:=(plusV (sa,na,da) (sb,nb,db)); let Q1:=w0g nb da; let Q2:=w0g na db; (DigOk na/\DigOk db)/\(DigOk nb/\DigOk da)/\(DigOk da/\DigOk db)/\((sa==sb)=true->(DigOk Q2/\DigOk Q1)/\sa=Q0.1/\ye4 Q2 Q1=Q0.2.1/\w0g da db=Q0.2.2/\True)/\((sa==sb)=false->(DigOk Q2/\DigOk Q1)/\(decide ((0:Int)<=w0f (valL Q2) (valL Q1))=true->(DigOk Q2/\DigOk Q1/\valL Q1<=valL Q2)/\sa=Q0.1/\x6y Q2 Q1=Q0.2.1/\w0g da db=Q0.2.2/\True)/\(decide ((0:Int)<=w0f (valL Q2) (valL Q1))=false->(DigOk Q1/\DigOk Q2/\valL Q2<=valL Q1)/\sb=Q0.1/\x6y Q1 Q2=Q0.2.1/\w0g da db=Q0.2.2/\True))) ?_
 obtain⟨ha,hb⟩:=h
 have m1:=wy2 ha.n ha.ln hb.d hb.ld dc
 have m2:=wy2 hb.n hb.ln ha.d ha.ld dc
 have e1:=xk7 na db
 have e2:=xk7 nb da
 have eV:plusV (sa,na,da) (sb,nb,db)=if sa=sb then(sa,dgs (valL na*valL db+valL nb*valL da),w0g da db)
  else if valL nb*valL da<=valL na*valL db then(sa,dgs (valL na*valL db-valL nb*valL da),w0g da db) else(sb,dgs (valL nb*valL da-valL na*valL db),w0g da db):=rfl
 refine⟨⟨ha.dn,hb.dd⟩,⟨hb.dn,ha.dd⟩,⟨ha.dd,hb.dd⟩,λhs=>?_,λhs=>⟨⟨m1,m2⟩,λhc=>?_,λhc=>?_⟩⟩
 ·rw[eV,zao hs]
  refine⟨⟨m1,m2⟩,rfl,?_,rfl⟩
  grind [ye4]
 ·have hc:=(q9e _ _).1 hc
  rw[e1,e2] at hc
  rw[eV,zak hs,zao hc]
  refine⟨⟨m1,m2,ow⟩,rfl,?_,rfl⟩
  grind [x6y]
 ·have hc:¬0<=w0f (valL (w0g na db)) (valL (w0g nb da)):=zc8.2 hc
  rw[q9e,e1,e2] at hc
  rw[eV,zak hs,zak hc]
  refine⟨⟨m2,m1,ow⟩,rfl,?_,rfl⟩
  grind [x6y]
abbrev x5v:qb3:=qe8 false none [tInt,q6m] [q6m] (λx=>qc0 BIG x.1/\RxOk 900 x.2.1) (λx=>(qj7 x.1 x.2.1,()))
theorem wy3:Meets Tryz.prog 259 x5v:=by
 refine mt0 (SpecsOk.cons q8s (SpecsOk.cons ww4 (SpecsOk.nil _))) Tryz.func259 ?_
 rintro⟨n,⟨s,a,d⟩,⟨⟩⟩ h
 revert n s a d
 intro(n:Int) (s:Bool) (a:List Int) (d:List Int) (h:qc0 BIG n/\RxOk 900 (s,a,d))
 refine @vcr _ _ (let Q0:=(qj7 n (s,a,d)); fits .i64 ((0:Int)-n)/\qc0 BIG (max2 true n ((0:Int)-n))/\(DigOk (dgs (max2 true n ((0:Int)-n)).toNat)/\DigOk a)/\(s != decide (n<(0:Int)))=Q0.1/\w0g (dgs (max2 true n ((0:Int)-n)).toNat) a=Q0.2.1/\d=Q0.2.2/\True) ?_ (by rfl) (by kernel_rfl)
 try simp only[z0,z1,z2,z3,z4,z5,z6,z7,z8,z9,z10,Int.reduceEq,z11,z12,z13,z14,z15,z16,z17,z18,z19,z20,z21,z22,z23,z24,z25,z26,z27,z28,z29,z30,Int.reduceLE,Int.reduceLT,z31,z32,z33,z34,q44]
 try simp only[w08,w09,wc7,z31,z32,z2,z1]
 obtain⟨hn,ha⟩:=h
 have hB:BIG=4000000000000000000:=rfl
 unfold qc0 at hn
 have e:max2 true n (0-n)=max n (0-n):=rfl
 have e3:BS ^ 3=1000000000000000000000000000:=by rfl
 have hd:DigOk (dgs (max n (0-n)).toNat):=wy1 (k:=3) ow ow
 rw[e]
 refine⟨qa3,ow,⟨hd,ha.dn⟩,rfl,?_,rfl⟩
 grind [w0g,qj7,qg7]
abbrev yn2:qb3:=qe8 true none [q6m,q6m] [tInt] (λx=>RxOk 300 x.1/\RxOk 300 x.2.1) (λx=>(wf6 x.1 x.2.1,()))
theorem w7q:Meets Tryz.prog 208 yn2:=by
 refine mt0 (SpecsOk.cons wy3 (SpecsOk.cons q9g (SpecsOk.nil _))) Tryz.func208 ?_
 rintro⟨⟨sa,na,da⟩,⟨sb,nb,db⟩,⟨⟩⟩ h
 revert sa na da sb nb db
 intro(sa:Bool) (na:List Int) (da:List Int) (sb:Bool) (nb:List Int) (db:List Int) (h:RxOk 300 (sa,na,da)/\RxOk 300 (sb,nb,db))
 refine vcs (let Q0:=(sb,nb,db); let Q1:=(sa,na,da); (qc0 BIG (-1:Int)/\RxOk (900:Nat) Q0)/\(RxOk (400:Nat) Q1/\RxOk (400:Nat) ((qj7 (-1:Int) Q0).1,(qj7 (-1:Int) Q0).2.1,(qj7 (-1:Int) Q0).2.2))/\(((↑(plusV Q1 ((qj7 (-1:Int) Q0).1,(qj7 (-1:Int) Q0).2.1,(qj7 (-1:Int) Q0).2.2)).2.1.length:Int)==(0:Int))=true->(0:Int)=wf6 Q1 Q0)/\(((↑(plusV Q1 ((qj7 (-1:Int) Q0).1,(qj7 (-1:Int) Q0).2.1,(qj7 (-1:Int) Q0).2.2)).2.1.length:Int)==(0:Int))=false->((plusV Q1 ((qj7 (-1:Int) Q0).1,(qj7 (-1:Int) Q0).2.1,(qj7 (-1:Int) Q0).2.2)).1=true->(-1:Int)=wf6 Q1 Q0)/\((plusV Q1 ((qj7 (-1:Int) Q0).1,(qj7 (-1:Int) Q0).2.1,(qj7 (-1:Int) Q0).2.2)).1=false->(1:Int)=wf6 Q1 Q0))) ?_
 obtain⟨ha,hb⟩:=h
 have hs:=x00 (n:=-1) (by unfold qc0 BIG; omega) hb
 refine⟨⟨by unfold qc0 BIG; omega,hb.up⟩,⟨ha.up,hs.up⟩,λh0=>?_,λh0=>⟨λh1=>?_,λh1=>?_⟩⟩
 all_goals simp_all [plusV,qj7,Int.natCast_eq_zero,wf6,if_pos,if_neg]
def q9z:List Int->List Int->Bool
 | [],b=>decide (0<b.length)
 | _ :: _,[]=>false
 | x :: a,y :: b=>if x=y then q9z a b else decide (x<y)
theorem w15 {l:List Int} {i:Nat} (h:i<l.length):l.drop i=nI l i :: l.drop (i+1):=by
 rw[qf1 l i h]; exact List.drop_eq_getElem_cons h
structure EarIv (a b:List Int) (i:Nat):Prop where
 la:i<=a.length
 lb:i<=b.length
 eq:q9z a b=q9z (a.drop i) (b.drop i)
theorem EarIv.at_ {a b:List Int} {i:Nat} (h:EarIv a b i) (ha:i<a.length) (hb:i<b.length):q9z a b=if nI a i=nI b i then q9z (a.drop (i+1)) (b.drop (i+1)) else decide (nI a i<nI b i):=by
 rw[h.eq,w15 ha,w15 hb,q9z]
theorem EarIv.end_ {a b:List Int} {i:Nat} (h:EarIv a b i) (hn:¬(i<a.length/\i<b.length)):q9z a b=decide (a.length<b.length):=by
 have h1:=h.la
 have h2:=h.lb
 rw[h.eq]
 by_cases q:i<a.length
 ·have hb:i=b.length:=ow
  rw[w15 q,hb,List.drop_length,q9z]
  exact(zeu ow).symm
 ·have ha:i=a.length:=ow
  rw[ha,List.drop_length,q9z,List.length_drop]
  exact decide_eq_decide.2 ow
abbrev yz3:qb3:=qe8 true none [tInts,tInts] [.bool] (λx=>x.1.length<=1000000/\x.2.1.length<=1000000) (λx=>(q9z x.1 x.2.1,()))
def yn3 (a b:List Int):Nat->Option Inv
 | 0=>some (Inv.of [5] 0 (λi:Nat=>[(5,.lit (.int .i64 i))]) (λ_=>[]) (λi=>EarIv a b i) (λi=>a.length-i))
 | _=>none
theorem xk9:Meets Tryz.prog 210 yz3:=by
 refine mts (SpecsOk.nil _) Tryz.func210 (λx=>yn3 x.1 x.2.1) ?_
 rintro⟨a,b,⟨⟩⟩ h
 revert a b
 intro(a:List Int) (b:List Int) (h:a.length<=1000000/\b.length<=1000000)
 refine vcs (∃(v0:Unit),∃(v1:Nat),EarIv a b v1/\(((0:Int)=(↑v1:Int)/\True)/\True)/\∀(v2:Nat),EarIv a b v2->(decide ((↑v2:Int)<(↑a.length:Int))=true->(decide ((↑v2:Int)<(↑b.length:Int))=true->((0:Int)<=(↑v2:Int)/\(↑v2:Int)<(↑a.length:Int))/\((0:Int)<=(↑v2:Int)/\(↑v2:Int)<(↑b.length:Int))/\((nI a v2 != nI b v2)=true->((0:Int)<=(↑v2:Int)/\(↑v2:Int)<(↑a.length:Int))/\((0:Int)<=(↑v2:Int)/\(↑v2:Int)<(↑b.length:Int))/\decide (nI a v2<nI b v2)=q9z a b)/\((nI a v2 != nI b v2)=false->fits .i64 ((↑v2:Int)+(1:Int))/\∃(v7:Nat),EarIv a b v7/\a.length-v7<a.length-v2/\((↑v2:Int)+(1:Int)=(↑v7:Int)/\True)/\True))/\(decide ((↑v2:Int)<(↑b.length:Int))=false->decide ((↑a.length:Int)<(↑b.length:Int))=q9z a b))/\(decide ((↑v2:Int)<(↑a.length:Int))=false->decide ((↑a.length:Int)<(↑b.length:Int))=q9z a b)) ?_
 obtain⟨la,lb⟩:=h
 refine⟨(),0,⟨zae _,zae _,rfl⟩,rfl,λi hi=>⟨λha=>⟨λhb=>⟨ha,hb,λhn=>⟨ha,hb,?_⟩,λhe=>⟨qa3,i+1,⟨ha,hb,?_⟩,ow,by push_cast; rfl⟩⟩,λhb=>(hi.end_ λq=>hb q.2).symm⟩,λha=>(hi.end_ λq=>ha q.1).symm⟩⟩
 ·rw[hi.at_ ha hb]; exact(zak hn).symm
 ·rw[hi.at_ ha hb,zao he]
def wf7 (a:q4y):q4y:=(false,a.2.1,a.2.2)
def qi8 (x:List (Int × Int)):Nat->q4y
 | 0=>qe5 0 1
 | k+1=>if(nR x k).1≠0 then plusV (qi8 x k) (wf7 (qe5 (nR x k).1 (nR x k).2)) else qi8 x k
abbrev yn4:qb3:=qe8 false none [q6m] [q6m] (λ_=>True) (λx=>(wf7 x.1,()))
theorem w7r:Meets Tryz.prog 261 yn4:=by
 refine mt0 (SpecsOk.nil _) Tryz.func261 ?_
 rintro⟨⟨s,a,d⟩,⟨⟩⟩ h
 revert s a d
 intro(s:Bool) (a:List Int) (d:List Int)
 refine vcs (let Q0:=(wf7 (s,a,d)); false=Q0.1/\a=Q0.2.1/\d=Q0.2.2/\True) ?_
 exact⟨rfl,rfl,rfl⟩
structure wy4 (x:List (Int × Int)):Prop where
 len:x.length<=20
 val:∀j,j<x.length->qc0 BIG (nR x j).1/\qc0 BIG (nR x j).2
theorem xl0 {K:Nat} {a:q4y} (h:RxOk K a):RxOk K (wf7 a):=⟨h.n,h.d,h.ln,h.ld⟩
theorem w42 {x:List (Int × Int)} (h:wy4 x):∀k,k<=x.length->RxOk (4*k+3) (qi8 x k)
 | 0,_=>wn0 (by unfold qc0 BIG; omega) (by unfold qc0 BIG; omega)
 | k+1,hk=>by
  have ih:=w42 h k ow
  rw[qi8]
  split
  ·have:=x5u ih (xl0 (wn0 (h.val k ow).1 (h.val k ow).2))
   exact this.up
  ·exact ih.up
abbrev yz4:qb3:=qe8 false none [q4g] [q6m] (λx=>wy4 x.1) (λx=>(qi8 x.1 x.1.length,()))
def yn5 (x:List (Int × Int)):Nat->Option Inv
 | 0=>some (Inv.of [9] 2 (λk:Nat=>[(9,.lit (.int .i64 k))]) (λk=>[.box 228 (.cons (.lit (.bool false)) (.cons (.lit (.slice .none 0 0)) (.cons (.lit (.slice .none 0 0)) .nil))),.box 228 (.cons (.lit (.bool (qi8 x k).1)) (.cons (.dat (.int .i64) (qi8 x k).2.1) (.cons (.dat (.int .i64) (qi8 x k).2.2) .nil)))]) (λk=>k<=x.length) (λk=>x.length-k))
 | _=>none
theorem xl1:Meets Tryz.prog 209 yz4:=by
 refine mts (SpecsOk.cons xk8 (SpecsOk.cons q9f (SpecsOk.cons w7r (SpecsOk.cons q9g (SpecsOk.nil _))))) Tryz.func209 (λx=>yn5 x.1) ?_
 rintro⟨x,⟨⟩⟩ h
 revert x
 intro(x:List (Int × Int)) (h:wy4 x)
 refine vcs (let Q0:=qi8 x x.length; qc0 BIG (0:Int)/\∃(v0:Unit),∃(v1:Nat),Nat.le v1 x.length/\(((0:Int)=(↑v1:Int)/\True)/\(false=false/\Value.slice none (0:Nat) (0:Nat)=Value.slice none (0:Nat) (0:Nat)/\Value.slice none (0:Nat) (0:Nat)=Value.slice none (0:Nat) (0:Nat)/\True)/\((qe5 (0:Int) (1:Int)).1=(qi8 x v1).1/\(qe5 (0:Int) (1:Int)).2.1=(qi8 x v1).2.1/\(qe5 (0:Int) (1:Int)).2.2=(qi8 x v1).2.2/\True)/\True)/\∀(v2:Nat),Nat.le v2 x.length->(decide ((↑v2:Int)<(↑x.length:Int))=true->((0:Int)<=(↑v2:Int)/\(↑v2:Int)<(↑x.length:Int))/\(((qe0 (Ty.prod (Ty.int .i64) (Ty.int .i64)) x v2).1 != (0:Int))=true->(qc0 BIG (qe0 (Ty.prod (Ty.int .i64) (Ty.int .i64)) x v2).1/\qc0 BIG (qe0 (Ty.prod (Ty.int .i64) (Ty.int .i64)) x v2).2)/\True/\(RxOk (400:Nat) ((qi8 x v2).1,(qi8 x v2).2.1,(qi8 x v2).2.2)/\RxOk (400:Nat) ((wf7 ((qe5 (qe0 (Ty.prod (Ty.int .i64) (Ty.int .i64)) x v2).1 (qe0 (Ty.prod (Ty.int .i64) (Ty.int .i64)) x v2).2).1,(qe5 (qe0 (Ty.prod (Ty.int .i64) (Ty.int .i64)) x v2).1 (qe0 (Ty.prod (Ty.int .i64) (Ty.int .i64)) x v2).2).2.1,(qe5 (qe0 (Ty.prod (Ty.int .i64) (Ty.int .i64)) x v2).1 (qe0 (Ty.prod (Ty.int .i64) (Ty.int .i64)) x v2).2).2.2)).1,(wf7 ((qe5 (qe0 (Ty.prod (Ty.int .i64) (Ty.int .i64)) x v2).1 (qe0 (Ty.prod (Ty.int .i64) (Ty.int .i64)) x v2).2).1,(qe5 (qe0 (Ty.prod (Ty.int .i64) (Ty.int .i64)) x v2).1 (qe0 (Ty.prod (Ty.int .i64) (Ty.int .i64)) x v2).2).2.1,(qe5 (qe0 (Ty.prod (Ty.int .i64) (Ty.int .i64)) x v2).1 (qe0 (Ty.prod (Ty.int .i64) (Ty.int .i64)) x v2).2).2.2)).2.1,(wf7 ((qe5 (qe0 (Ty.prod (Ty.int .i64) (Ty.int .i64)) x v2).1 (qe0 (Ty.prod (Ty.int .i64) (Ty.int .i64)) x v2).2).1,(qe5 (qe0 (Ty.prod (Ty.int .i64) (Ty.int .i64)) x v2).1 (qe0 (Ty.prod (Ty.int .i64) (Ty.int .i64)) x v2).2).2.1,(qe5 (qe0 (Ty.prod (Ty.int .i64) (Ty.int .i64)) x v2).1 (qe0 (Ty.prod (Ty.int .i64) (Ty.int .i64)) x v2).2).2.2)).2.2))/\fits .i64 ((↑v2:Int)+(1:Int))/\∃(v6:Nat),Nat.le v6 x.length/\x.length-v6<x.length-v2/\((↑v2:Int)+(1:Int)=(↑v6:Int)/\True)/\(false=false/\Value.slice none (0:Nat) (0:Nat)=Value.slice none (0:Nat) (0:Nat)/\Value.slice none (0:Nat) (0:Nat)=Value.slice none (0:Nat) (0:Nat)/\True)/\((plusV ((qi8 x v2).1,(qi8 x v2).2.1,(qi8 x v2).2.2) ((wf7 ((qe5 (qe0 (Ty.prod (Ty.int .i64) (Ty.int .i64)) x v2).1 (qe0 (Ty.prod (Ty.int .i64) (Ty.int .i64)) x v2).2).1,(qe5 (qe0 (Ty.prod (Ty.int .i64) (Ty.int .i64)) x v2).1 (qe0 (Ty.prod (Ty.int .i64) (Ty.int .i64)) x v2).2).2.1,(qe5 (qe0 (Ty.prod (Ty.int .i64) (Ty.int .i64)) x v2).1 (qe0 (Ty.prod (Ty.int .i64) (Ty.int .i64)) x v2).2).2.2)).1,(wf7 ((qe5 (qe0 (Ty.prod (Ty.int .i64) (Ty.int .i64)) x v2).1 (qe0 (Ty.prod (Ty.int .i64) (Ty.int .i64)) x v2).2).1,(qe5 (qe0 (Ty.prod (Ty.int .i64) (Ty.int .i64)) x v2).1 (qe0 (Ty.prod (Ty.int .i64) (Ty.int .i64)) x v2).2).2.1,(qe5 (qe0 (Ty.prod (Ty.int .i64) (Ty.int .i64)) x v2).1 (qe0 (Ty.prod (Ty.int .i64) (Ty.int .i64)) x v2).2).2.2)).2.1,(wf7 ((qe5 (qe0 (Ty.prod (Ty.int .i64) (Ty.int .i64)) x v2).1 (qe0 (Ty.prod (Ty.int .i64) (Ty.int .i64)) x v2).2).1,(qe5 (qe0 (Ty.prod (Ty.int .i64) (Ty.int .i64)) x v2).1 (qe0 (Ty.prod (Ty.int .i64) (Ty.int .i64)) x v2).2).2.1,(qe5 (qe0 (Ty.prod (Ty.int .i64) (Ty.int .i64)) x v2).1 (qe0 (Ty.prod (Ty.int .i64) (Ty.int .i64)) x v2).2).2.2)).2.2)).1=(qi8 x v6).1/\(plusV ((qi8 x v2).1,(qi8 x v2).2.1,(qi8 x v2).2.2) ((wf7 ((qe5 (qe0 (Ty.prod (Ty.int .i64) (Ty.int .i64)) x v2).1 (qe0 (Ty.prod (Ty.int .i64) (Ty.int .i64)) x v2).2).1,(qe5 (qe0 (Ty.prod (Ty.int .i64) (Ty.int .i64)) x v2).1 (qe0 (Ty.prod (Ty.int .i64) (Ty.int .i64)) x v2).2).2.1,(qe5 (qe0 (Ty.prod (Ty.int .i64) (Ty.int .i64)) x v2).1 (qe0 (Ty.prod (Ty.int .i64) (Ty.int .i64)) x v2).2).2.2)).1,(wf7 ((qe5 (qe0 (Ty.prod (Ty.int .i64) (Ty.int .i64)) x v2).1 (qe0 (Ty.prod (Ty.int .i64) (Ty.int .i64)) x v2).2).1,(qe5 (qe0 (Ty.prod (Ty.int .i64) (Ty.int .i64)) x v2).1 (qe0 (Ty.prod (Ty.int .i64) (Ty.int .i64)) x v2).2).2.1,(qe5 (qe0 (Ty.prod (Ty.int .i64) (Ty.int .i64)) x v2).1 (qe0 (Ty.prod (Ty.int .i64) (Ty.int .i64)) x v2).2).2.2)).2.1,(wf7 ((qe5 (qe0 (Ty.prod (Ty.int .i64) (Ty.int .i64)) x v2).1 (qe0 (Ty.prod (Ty.int .i64) (Ty.int .i64)) x v2).2).1,(qe5 (qe0 (Ty.prod (Ty.int .i64) (Ty.int .i64)) x v2).1 (qe0 (Ty.prod (Ty.int .i64) (Ty.int .i64)) x v2).2).2.1,(qe5 (qe0 (Ty.prod (Ty.int .i64) (Ty.int .i64)) x v2).1 (qe0 (Ty.prod (Ty.int .i64) (Ty.int .i64)) x v2).2).2.2)).2.2)).2.1=(qi8 x v6).2.1/\(plusV ((qi8 x v2).1,(qi8 x v2).2.1,(qi8 x v2).2.2) ((wf7 ((qe5 (qe0 (Ty.prod (Ty.int .i64) (Ty.int .i64)) x v2).1 (qe0 (Ty.prod (Ty.int .i64) (Ty.int .i64)) x v2).2).1,(qe5 (qe0 (Ty.prod (Ty.int .i64) (Ty.int .i64)) x v2).1 (qe0 (Ty.prod (Ty.int .i64) (Ty.int .i64)) x v2).2).2.1,(qe5 (qe0 (Ty.prod (Ty.int .i64) (Ty.int .i64)) x v2).1 (qe0 (Ty.prod (Ty.int .i64) (Ty.int .i64)) x v2).2).2.2)).1,(wf7 ((qe5 (qe0 (Ty.prod (Ty.int .i64) (Ty.int .i64)) x v2).1 (qe0 (Ty.prod (Ty.int .i64) (Ty.int .i64)) x v2).2).1,(qe5 (qe0 (Ty.prod (Ty.int .i64) (Ty.int .i64)) x v2).1 (qe0 (Ty.prod (Ty.int .i64) (Ty.int .i64)) x v2).2).2.1,(qe5 (qe0 (Ty.prod (Ty.int .i64) (Ty.int .i64)) x v2).1 (qe0 (Ty.prod (Ty.int .i64) (Ty.int .i64)) x v2).2).2.2)).2.1,(wf7 ((qe5 (qe0 (Ty.prod (Ty.int .i64) (Ty.int .i64)) x v2).1 (qe0 (Ty.prod (Ty.int .i64) (Ty.int .i64)) x v2).2).1,(qe5 (qe0 (Ty.prod (Ty.int .i64) (Ty.int .i64)) x v2).1 (qe0 (Ty.prod (Ty.int .i64) (Ty.int .i64)) x v2).2).2.1,(qe5 (qe0 (Ty.prod (Ty.int .i64) (Ty.int .i64)) x v2).1 (qe0 (Ty.prod (Ty.int .i64) (Ty.int .i64)) x v2).2).2.2)).2.2)).2.2=(qi8 x v6).2.2/\True)/\True)/\(((qe0 (Ty.prod (Ty.int .i64) (Ty.int .i64)) x v2).1 != (0:Int))=false->fits .i64 ((↑v2:Int)+(1:Int))/\∃(v6:Nat),Nat.le v6 x.length/\x.length-v6<x.length-v2/\((↑v2:Int)+(1:Int)=(↑v6:Int)/\True)/\(false=false/\Value.slice none (0:Nat) (0:Nat)=Value.slice none (0:Nat) (0:Nat)/\Value.slice none (0:Nat) (0:Nat)=Value.slice none (0:Nat) (0:Nat)/\True)/\((qi8 x v2).1=(qi8 x v6).1/\(qi8 x v2).2.1=(qi8 x v6).2.1/\(qi8 x v2).2.2=(qi8 x v6).2.2/\True)/\True))/\(decide ((↑v2:Int)<(↑x.length:Int))=false->(qi8 x v2).1=Q0.1/\(qi8 x v2).2.1=Q0.2.1/\(qi8 x v2).2.2=Q0.2.2/\True)) ?_
 have hl:=h.len
 refine⟨by unfold qc0 BIG; omega,(),0,zae _,⟨rfl,rfl,rfl,rfl⟩,λk hk=>⟨λhlt=>⟨hlt,λhn=>?_,λhn=>?_⟩,λhge=>?_⟩⟩
 ·have hv:=h.val k hlt
  have es:qi8 x (k+1)=plusV (qi8 x k) (wf7 (qe5 (nR x k).1 (nR x k).2)):=by rw[qi8]; exact zao hn
  exact⟨hv,⟨(w42 h k hk).up,(xl0 (wn0 hv.1 hv.2)).up⟩,qa3,k+1,hlt,ow,ow,zbi Prod.fst es.symm,zbi (λp=>p.2.1) es.symm,zbi (λp=>p.2.2) es.symm⟩
 ·have es:qi8 x (k+1)=qi8 x k:=by rw[qi8]; exact zak λq=>q hn
  exact⟨qa3,k+1,hlt,ow,ow,by rw[es],by rw[es],by rw[es]⟩
 ·obtain rfl:k=x.length:=ow
  exact⟨rfl,rfl,rfl⟩
end Go.Proofs.YtnchigbbjajiiaaGreat
