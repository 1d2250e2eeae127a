/- The order of a mask lies between the bound by coherence and the half of the least circuit. Plain mathematics. No condition. -/
import Derived.Test.YtempacilejhbgaaGreatQ22
import Derived.Test.YtempacilejhbgaaGreatR1
import Derived.Test.YtempacilejhbgaaGreatTys
import Derived.Test.YtempacilejhbgaaGreatEng3
import Derived.Test.YtempacilejhbgaaGreatV0
import Derived.Test.YtempacilejhbgaaGreatCore
import Derived.Test.YtempacilejhbgaaGreatProg
import Derived.Test.YtempacilejhbgaaGreatV4
import Derived.Test.YtempacilejhbgaaGreatApp
import Derived.Test.YtempacilejhbgaaGreatR8
set_option linter.unusedVariables false
set_option linter.unusedSimpArgs false
namespace Go.Proofs.YtempacilejhbgaaGreat
open Go Go.RowKit Eng
def q4e (h P:List Int):Nat->List Int
 | 0=>List.replicate h.length 0
 | j+1=>(q4e h P j).set (nI P j).toNat (nI h (nI P j).toNat)
theorem q4f (h P:List Int):∀j,(q4e h P j).length=h.length
 | 0=>List.length_replicate
 | j+1=>by rw[q4e,List.length_set]; exact q4f h P j
def q5j (h:List Int) (k:Nat):List Int:=q4e h (qi0 h k) (qi0 h k).length
def w4k (m:List (List Int)) (k:Nat):Int:=ixT (.list (.int .i64)) (λh=>hlf (shR h (qi0 h k))) (qa9 m).1
def badR (m:List (List Int)) (k:Int):List Int × Int:=if qo7 m k 1=0 then if w4k m k.toNat<0 then([],8) else(q5j (nL (qa9 m).1 (w4k m k.toNat).toNat) k.toNat,0) else([],qo7 m k 1)
abbrev x9h:qc0:=qf3 false none [tMask,tInt] [tInts,tInt] (λx=>qw0 x.1) (λx=>((badR x.1 x.2.1).1,(badR x.1 x.2.1).2,()))
def x45 (m:List (List Int)) (k:Int):Nat->Option Inv
 | 0=>some (Inv.of [] 7 (λ_:Nat=>[]) (λi=>[.box 3 (.cons (.lit (.int .i64 k)) .nil),.box 24 (.cons (.lit (.slice none 0 0)) .nil),.box 27 (.cons (.lit (.int .i64 0)) .nil),.dead,.dead,.dead,.dead]) (λi=>i<=(qa9 m).1.length/\∀j,j<i->hlf (shR (nL (qa9 m).1 j) (qi0 (nL (qa9 m).1 j) k.toNat))=false) (λi=>i))
 | 1=>some (Eng.Inv.mk (Nat × (Int × Int)) Nat [9,33] 9 (λq j=>[(9,.own 8),(33,.lit (.int .i64 j))]) (λq j=>[.box 3 (.cons (.lit (.int .i64 k)) .nil),.box 24 (.cons (.lit (.slice none 0 0)) .nil),.box 27 (.cons (.lit (.int .i64 0)) .nil),.dead,.dead,.dead,.dead,.box 34 (.cons (.lit (.int .i64 q.2.1)) (.cons (.lit (.int .i64 q.2.2)) .nil)),.vec 3 (.int .i64) (q4e (nL (qa9 m).1 q.1) (qi0 (nL (qa9 m).1 q.1) k.toNat) j)]) (λq j=>j<=(qi0 (nL (qa9 m).1 q.1) k.toNat).length) (λq j=>(qi0 (nL (qa9 m).1 q.1) k.toNat).length-j))
 | _=>none
theorem w87:qd2 Tryz.prog 40 x9h:=by
 refine meets (x7m (SpecsOk.cons q1v (SpecsOk.cons qx1 (SpecsOk.cons wp1 (SpecsOk.cons q40 (SpecsOk.cons wo9 (SpecsOk.nil _)))))) (ItsOk.cons wp0 ItsOk.nil)) Tryz.func40 rfl rfl (λx=>x45 x.1 x.2.1) (λ_=>by kernel_rfl) (by decide) ?_
 rintro⟨m,k,⟨⟩⟩ h
 revert m k
 intro(m:List (List Int)) (k:Int) (h:qw0 m)
 refine @qd4 _ (let Q0:=w4i (qa9 m).1 k.toNat; let Q1:=badR m k; True/\((qo7 m k (1:Int) != (0:Int))=true->Q1.1=[]/\qo7 m k (1:Int)=Q1.2/\True)/\((qo7 m k (1:Int) != (0:Int))=false->(validB m=true->q5m m)/\True/\q7u (qa9 m).1 k/\∃(v1:Unit),∃(v2:Nat),(v2<=(qa9 m).1.length/\∀(v3:Nat),Nat.le (Nat.succ v3) v2->hlf (shR (nL (qa9 m).1 v3) (qi0 (nL (qa9 m).1 v3) k.toNat))=false)/\v2=(0:Nat)/\((k=k/\True)/\(Value.slice none (0:Nat) (0:Nat)=Value.slice none (0:Nat) (0:Nat)/\True)/\((0:Int)=(0:Int)/\True)/\True/\True/\True/\True/\True)/\∀(v3:Nat),(v3<=(qa9 m).1.length/\∀(v5:Nat),Nat.le (Nat.succ v5) v3->hlf (shR (nL (qa9 m).1 v5) (qi0 (nL (qa9 m).1 v5) k.toNat))=false)->(∀(v5:List Int × qa6._f [qz6] ⟨qa6._f [] PUnit.unit,PUnit.unit⟩),(List.map (λ(v7:List Int × Int × Int)=>(v7.1,v7.2,())) Q0)[v3]?=some v5->qr4 (v5.2.1.1,v5.2.1.2)/\(hlf (v5.2.1.1,v5.2.1.2)=true->((↑v5.1.length:Int)=(↑v5.1.length:Int)/\(0:Int)<=(↑v5.1.length:Int)/\(↑v5.1.length:Int)<=(1000000:Int))/\w7f v5.1 k/\∃(v8:Nat × Int × Int),∃(v9:Nat),Nat.le v9 (qi0 (nL (qa9 m).1 v8.1) k.toNat).length/\((True/\(0:Int)=(↑v9:Int)/\True)/\(k=k/\True)/\(Value.slice none (0:Nat) (0:Nat)=Value.slice none (0:Nat) (0:Nat)/\True)/\((0:Int)=(0:Int)/\True)/\True/\True/\True/\True/\(v5.2.1.1=v8.2.1/\v5.2.1.2=v8.2.2/\True)/\List.replicate (↑v5.1.length:Int).toNat (Ty.dflt (TI.ty T3))=q4e (nL (qa9 m).1 v8.1) (qi0 (nL (qa9 m).1 v8.1) k.toNat) v9/\True)/\∀(v10:Nat),Nat.le v10 (qi0 (nL (qa9 m).1 v8.1) k.toNat).length->(decide ((↑v10:Int)<(↑(qi0 v5.1 k.toNat).length:Int))=true->((0:Int)<=(↑v10:Int)/\(↑v10:Int)<(↑(qi0 v5.1 k.toNat).length:Int))/\((0:Int)<=nI (qi0 v5.1 k.toNat) v10/\nI (qi0 v5.1 k.toNat) v10<(↑v5.1.length:Int))/\((0:Int)<=nI (qi0 v5.1 k.toNat) v10/\nI (qi0 v5.1 k.toNat) v10<(↑(q4e (nL (qa9 m).1 v8.1) (qi0 (nL (qa9 m).1 v8.1) k.toNat) v10).length:Int))/\(nI (qi0 v5.1 k.toNat) v10).toNat<(q4e (nL (qa9 m).1 v8.1) (qi0 (nL (qa9 m).1 v8.1) k.toNat) v10).length/\fits .i64 ((↑v10:Int)+(1:Int))/\∃(v13:Nat),Nat.le v13 (qi0 (nL (qa9 m).1 v8.1) k.toNat).length/\(qi0 (nL (qa9 m).1 v8.1) k.toNat).length-v13<(qi0 (nL (qa9 m).1 v8.1) k.toNat).length-v10/\(True/\(↑v10:Int)+(1:Int)=(↑v13:Int)/\True)/\(k=k/\True)/\(Value.slice none (0:Nat) (0:Nat)=Value.slice none (0:Nat) (0:Nat)/\True)/\((0:Int)=(0:Int)/\True)/\True/\True/\True/\True/\(v8.2.1=v8.2.1/\v8.2.2=v8.2.2/\True)/\List.set (q4e (nL (qa9 m).1 v8.1) (qi0 (nL (qa9 m).1 v8.1) k.toNat) v10) (nI (qi0 v5.1 k.toNat) v10).toNat (nI v5.1 (nI (qi0 v5.1 k.toNat) v10).toNat)=q4e (nL (qa9 m).1 v8.1) (qi0 (nL (qa9 m).1 v8.1) k.toNat) v13/\True)/\(decide ((↑v10:Int)<(↑(qi0 v5.1 k.toNat).length:Int))=false->q4e (nL (qa9 m).1 v8.1) (qi0 (nL (qa9 m).1 v8.1) k.toNat) v10=Q1.1/\(0:Int)=Q1.2/\True))/\(hlf (v5.2.1.1,v5.2.1.2)=false->∃(v8:Nat),(v8<=(qa9 m).1.length/\∀(v9:Nat),Nat.le (Nat.succ v9) v8->hlf (shR (nL (qa9 m).1 v9) (qi0 (nL (qa9 m).1 v9) k.toNat))=false)/\v8=v3+(1:Nat)/\(k=k/\True)/\(Value.slice none (0:Nat) (0:Nat)=Value.slice none (0:Nat) (0:Nat)/\True)/\((0:Int)=(0:Int)/\True)/\True/\True/\True/\True/\True))/\(v3=(List.map (λ(v6:List Int × Int × Int)=>(v6.1,v6.2,())) Q0).length->Q1.1=[]/\(8:Int)=Q1.2/\True))) (by kernel_rfl) ?_
 try simp only[z0,z1,z2,z3,z4,z5,z6,z7,z8,z9,z10,Int.reduceEq,z11,z12,z13,z14,z15,z16,z17,z18,z19,z20,z21,z22,z23,z24,z25,z26,z27,z28,z29,z30,Int.reduceLE,Int.reduceLT,z31,z32,z33,z34,qa1]
 try simp only[qb3,qb4,qb9,z31,z32,z2,z1]
 refine⟨λh1=>?_,λh1=>?_⟩
 ·unfold badR; rw[if_neg h1]; exact⟨rfl,rfl⟩
 obtain⟨hv,n,rfl,hn⟩:=q07 h1
 have h7:=h.n7 hv
 have hT:=(w9f (m:=m) λ_=>h7).shs hv n hn
 have hat:=λ(i:Nat) (hi:i<(qa9 m).1.length)=>q9c (.list (.int .i64)) (λh=>hlf (shR h (qi0 h n))) (qa9 m).1 i hi
 have hno:=q1o (.list (.int .i64)) (λh=>hlf (shR h (qi0 h n))) (qa9 m).1
 have hI:w4k m n=ixT (.list (.int .i64)) (λh=>hlf (shR h (qi0 h n))) (qa9 m).1:=rfl
 have hR:badR m n=if w4k m n<0 then([],8) else(q5j (nL (qa9 m).1 (w4k m n).toNat) n,0):=by
  unfold badR; rw[if_pos h1,Int.toNat_natCast]
 rw[<- hI] at hat hno
 rw[hR]
 clear hR hI
 have hnm:∀i,i<(qa9 m).1.length->Named (nL (qa9 m).1 i).length (qi0 (nL (qa9 m).1 i) n):=λi hi=>qx8
 generalize w4k m n=I at *
 generalize(qa9 m).1=l at *
 simp only[Int.toNat_natCast] at *
 refine⟨λhv=>xg5 hv,hT,(),0,⟨Nat.zero_le _,λj hj=>absurd hj (Nat.not_lt_zero _)⟩,rfl,λi ⟨hi,hall⟩=>⟨λd hd=>?_,λhe=>?_⟩⟩
 ·have hd:((w4i l n).map λq=>((q.1,q.2,()):qa6 [tInts,qz6]))[i]? = some d:=hd
  have hlt:i<l.length:=by
   have:=(List.getElem?_eq_some_iff.1 hd).1
   rw[List.length_map] at this
   exact Nat.lt_of_lt_of_eq this (List.length_map _)
  have hsa:=w7h (l:=l) (k:=n) hlt
  rw[hsa] at hd
  obtain rfl:=Option.some.inj hd
  have hlar:=hT.lar i hlt
  have hN:=hnm i hlt
  have hs:=hT.shr i hlt
  rw[Int.toNat_natCast] at hs
  have hl:=hlar.len
  refine⟨q2d hs,λhf=>⟨?_,hlar,(i,shR (nL l i) (qi0 (nL l i) n)),0,Nat.zero_le _,⟨rfl,⟨rfl,rfl⟩,rfl⟩,λj hj=>⟨λhjl=>?_,λhjg=>?_⟩⟩,λhf=>⟨i+1,⟨hlt,λj hj=>?_⟩,rfl⟩⟩
  ·show((nL l i).length:Int)<=1000000
   omega
  ·have hjl:j<(qi0 (nL l i) n).length:=hjl
   have hj:j<=(qi0 (nL l i) n).length:=hj
   have hp:=hN.at_ j hjl
   have hb:=q4f (nL l i) (qi0 (nL l i) n) j
   have hpl:=hN.len
   refine⟨hjl,hp,?_,?_,qa5 (by omega) (by omega),j+1,hjl,show(qi0 (nL l i) n).length-(j+1)<(qi0 (nL l i) n).length-j by omega,by push_cast; rfl,rfl⟩
   ·dsimp only; rw[hb]; exact hp
   ·dsimp only; rw[hb]
    have:nI (qi0 (nL l i) n) j<((nL l i).length:Int):=hp.2
    have:0<=nI (qi0 (nL l i) n) j:=hp.1
    omega
  ·have e:I=i:=hat i hlt (λj hj=>hall j hj) hf
   obtain rfl:j=(qi0 (nL l i) n).length:=by dsimp only at hj hjg; omega
   rw[e,if_neg (by omega),Int.toNat_natCast]
   exact⟨rfl,rfl⟩
  ·by_cases e:j=i
   ·subst e; exact hf
   ·exact hall j (by omega)
 ·have he:i=((w4i l n).map λq=>((q.1,q.2,()):qa6 [tInts,qz6])).length:=he
  rw[List.length_map] at he
  obtain rfl:i=l.length:=he.trans (List.length_map _)
  have e:I=-1:=hno λj hj=>hall j hj
  rw[e]; exact⟨rfl,rfl⟩
end Go.Proofs.YtempacilejhbgaaGreat
set_option linter.unusedSimpArgs false
namespace Go.Proofs.YtempacilejhbgaaGreat.K
open Go Go.RowKit Eng Ls
abbrev tInt:Ty:=.int .i64
abbrev tInts:Ty:=.list (.int .i64)
abbrev tMask:Ty:=.list (.list (.int .i64))
def ctx (specs:List (Nat × qc0)) (wr:List Nat):Ctx:={ specs:=specs,tys:=tys,wr:=wr }
theorem snd {specs:List (Nat × qc0)} (h:SpecsOk Tryz.prog specs) (wr:List Nat):Sound Tryz.prog (ctx specs wr):=SpecsOk.sound h q2b (by kernel_rfl)
def x59 (m:List (List Int)) (j:Nat):List Int:=m.map λr=>qh7 tInt r j
def rowP (i n:Nat):List (Nat × Nat):=(List.range n).map λd=>(i,i+1+d)
def prs (p:Nat):Nat->List (Nat × Nat)
 | 0=>[]
 | i+1=>prs p i++rowP i (p-(i+1))
open Go.RowKit Ls
def inB (n lo hi:Int):Bool:=decide (lo<=n) && decide (n<=hi)
theorem inB_iff {n lo hi:Int}:inB n lo hi=true↔lo<=n/\n<=hi:=by simp[inB]
def x6a (s:Int):List Int->List Int->Int
 | a :: l,b :: r=>x6a (wrap64 (s+wrap64 (a*b))) l r
 | _,_=>s
def rowB (l:List Int):Bool:=inB l.length 1 10 && l.all λn=>inB n (-1) 1
def x6b (m:List (List Int)) (l:List Int):Bool:=decide (l.length=(nthL m 0).length) && rowB l
def validB (m:List (List Int)):Bool:=inB m.length 1 6 && m.all (x6b m)
structure IsMask (m:List (List Int)):Prop where
 rows1:1<=m.length
 rows6:m.length<=6
 pix1:1<=(nthL m 0).length
 pix10:(nthL m 0).length<=10
 each:∀k,k<m.length->(nthL m k).length=(nthL m 0).length
 small:∀k,k<m.length->∀j,j<(nthL m 0).length->-1<=nth (nthL m k) j/\nth (nthL m k) j<=1
theorem xi2 {p:List Int->Bool} {m:List (List Int)} (h:m.all p=true) (k:Nat) (hk:k<m.length):p (nthL m k)=true:=by
 rw[w4l m k hk]; exact List.all_eq_true.1 h _ (List.getElem_mem _)
theorem xt3 {p:Int->Bool} {l:List Int} (h:l.all p=true) (k:Nat) (hk:k<l.length):p (nth l k)=true:=by
 rw[xu7 l k hk]; exact List.all_eq_true.1 h _ (List.getElem_mem _)
theorem IsMask.of {m:List (List Int)} (h:validB m=true):IsMask m:=by
 unfold validB at h
 rw[Bool.and_eq_true,inB_iff] at h
 have hf:=λk hk=>xi2 h.2 k hk
 have h0:=hf 0 (by omega)
 simp only[x6b,rowB,Bool.and_eq_true,decide_eq_true_eq,inB_iff] at hf h0
 exact⟨by omega,by omega,by omega,by omega,λk hk=>(hf k hk).1,λk hk j hj=>by
  have:=xt3 (hf k hk).2.2 j (by rw[(hf k hk).1]; exact hj)
  rwa [inB_iff] at this⟩
def listedE (len most:Int) (l:List Int):Int:=if(l.length:Int)≠len then 9 else if l.all (λn=>inB n (-most) most) then 0 else 7
def x46 (m:List (List Int)) (len most:Int) (x:List Int):Int:=if validB m then listedE len most x else 1
def x1c (m:List (List Int)) (x:List Int):Int:=x46 m (nthL m 0).length 1000000 x
def x47 (m:List (List Int)) (x:List Int):List Int:=m.map λl=>x6a 0 l x
def readR (m:List (List Int)) (x:List Int):List Int:=if x1c m x=0 then x47 m x else[]
def x1d:List Int->List Int->Int
 | a :: l,b :: r=>a*b+x1d l r
 | _,_=>0
def Bd (K:Int) (l:List Int):Prop:=∀k,k<l.length->-K<=nth l k/\nth l k<=K
theorem Bd.cons {K a:Int} {l:List Int} (h:Bd K (a :: l)):(-K<=a/\a<=K)/\Bd K l:=
 ⟨by simpa[nth] using h 0 (by simp),λk hk=>by simpa[nth] using h (k+1) (by simpa using hk)⟩
def x9i (n d:Nat):Int:=((n / Nat.gcd n d:Nat):Int)
def x9j (n d:Nat):Int:=((d / Nat.gcd n d:Nat):Int)
def xt4 (a b:List Int):Nat:=(x1d a a*x1d b b).toNat
def x1e (a b:List Int):Nat:=(x1d a b*x1d a b).toNat
end Go.Proofs.YtempacilejhbgaaGreat.K
set_option linter.unusedVariables false
set_option linter.unusedSimpArgs false
namespace Go.Proofs.YtempacilejhbgaaGreat.K
open Go Go.RowKit Eng Ls
def x9k (a b:List Int):(Int × Int) × Bool:=if xt4 a b=0 then((0,0),false) else((x9i (x1e a b) (xt4 a b),x9j (x1e a b) (xt4 a b)),true)
def ctxI (specs:List (Nat × qc0)) (its:List (Nat × q0k)):Ctx:={ specs:=specs,tys:=tys,wr:=[],its:=its }
open Go.RowKit Ls
end Go.Proofs.YtempacilejhbgaaGreat.K
set_option linter.unusedVariables false
set_option linter.unusedSimpArgs false
namespace Go.Proofs.YtempacilejhbgaaGreat.K
open Go Go.RowKit Eng Ls
theorem rdL_ints {m:View}:∀l:List Int,RdL m tInt l (ints l)
 | []=>rfl
 | x :: r=>⟨[.int .i64 x],ints r,rfl,rfl,rdL_ints r⟩
open Go.RowKit Ls
end Go.Proofs.YtempacilejhbgaaGreat.K
set_option linter.unusedVariables false
set_option linter.unusedSimpArgs false
namespace Go.Proofs.YtempacilejhbgaaGreat.K
open Go Go.RowKit Eng Ls
open Go.RowKit Ls
def lk (m:List (List Int)) (q:Nat × Nat):(Int × Int) × Bool:=x9k (x59 m q.1) (x59 m q.2)
end Go.Proofs.YtempacilejhbgaaGreat.K
namespace Go.Proofs.YtempacilejhbgaaGreat
open Go Go.RowKit Eng
def cq (m:List (List Int)) (i j:Nat):Int:=sm m.length λa=>nI (nL m a) i*nI (nL m a) j
theorem w88 {h p:List Int} (hh:wi0 h p):hlf (shR h p)=decide (szL h<=2*inL h p):=by
 have k:=qv2 hh
 have hp:=q2x hh.ok hh.ne
 have e:=k.eq
 have h1:=k.pos
 unfold hlf
 generalize shR h p=r at *
 generalize inL h p=n at *
 generalize szL h=d at *
 have e2:2*r.1*d=2*n*r.2:=by rw[Int.mul_assoc,e,Int.mul_assoc]
 rw[decide_eq_decide]
 constructor
 ·intro q
  have q2:=Int.mul_le_mul_of_nonneg_right q (c:=d) (by omega)
  rw[e2] at q2
  refine Int.le_of_mul_le_mul_left (a:=r.2) ?_ (by omega)
  rw[Int.mul_comm r.2 (2*n)]; exact q2
 ·intro q
  have q2:=Int.mul_le_mul_of_nonneg_right q (c:=r.2) (by omega)
  rw[<- e2] at q2
  refine Int.le_of_mul_le_mul_left (a:=d) ?_ hp
  rw[Int.mul_comm d (2*r.1)]; exact q2
theorem x1f:hlf (0,1)=false:=by decide
theorem xi3 (h:List Int) {k j:Nat} (hkj:k<=j):inL h (qi0 h k)<=inL h (qi0 h j):=by
 rw[q4b,q4b]
 have:∀(l:List Int) (k j:Nat),k<=j->qx7 (szV h) (l.take k)<=qx7 (szV h) (l.take j):=λl=>by
  induction l with
  | nil=>intro k j _; simp
  | cons x l ih=>
   intro k j hkj
   have hx:0<=szV h x:=Int.natCast_nonneg _
   have nn:∀l:List Int,0<=qx7 (szV h) l:=λl=>by
    induction l with
    | nil=>exact Int.le_refl _
    | cons y l ih2=>have:0<=szV h y:=Int.natCast_nonneg _; simp only[qx7]; omega
   cases k with
   | zero=>simpa[qx7] using nn (List.take j (x :: l))
   | succ k=>
    cases j with
    | zero=>omega
    | succ j=>
     have:=ih k j (by omega)
     simp only[List.take_succ_cons,qx7]
     omega
 exact this _ _ _ hkj
theorem w89 {l:List (List Int)} {k:Nat} (hk:hlf (qh8 l k l.length)=true):∀f j,j<k->ordF l f j<k
 | 0,j,hj=>hj
 | f+1,j,hj=>by
  rw[ordF]
  split
  ·rename_i q
   have:j+1≠k:=λe=>by rw[e,hk] at q; cases q
   exact w89 hk f (j+1) (by omega)
  ·exact hj
theorem w9a {l:List (List Int)} {B:Nat}:∀f j,j<=B->B<=j+f->(∀i,j<i->i<=B->hlf (qh8 l i l.length)=false)->B<=ordF l f j
 | 0,j,h1,h2,_=>by rw[ordF]; omega
 | f+1,j,h1,h2,h3=>by
  rw[ordF]
  by_cases e:j=B
  ·subst e
   split
   ·have ge:∀f k,k<=ordF l f k:=λf=>by
     induction f with
     | zero=>exact λk=>Nat.le_refl _
     | succ f ih=>
      intro k
      rw[ordF]
      split
      ·have:=ih (k+1); omega
      ·exact Nat.le_refl _
    have:=ge f (j+1); omega
   ·exact Nat.le_refl _
  ·rw[if_pos (h3 (j+1) (by omega) (by omega))]
   exact w9a f (j+1) (by omega) (by omega) λi hi hB=>h3 i (by omega) hB
theorem xi4 {m:List (List Int)} (hv:validB m=true) (h7:(nL m 0).length<=7):hlf (qh8 (qa9 m).1 0 (qa9 m).1.length)=false:=by
 have hT:=(w9f (m:=m) λ_=>h7).shs hv 0 (Nat.zero_le _)
 rcases(qx9 hT _ (Nat.le_refl _)).2 with e | ⟨i,hi,e⟩
 ·rw[e]; exact x1f
 ·rw[e]
  obtain⟨s,hc⟩:=qv6 hv h7 hi
  have hs:=q5p hv hc (q4c hc 0)
  rw[w88 hs]
  have:inL (nL (qa9 m).1 i) (qi0 (nL (qa9 m).1 i) 0)=0:=by rw[q4b]; rfl
  rw[this]
  have:=w8h hc
  exact decide_eq_false (by omega)
theorem w19 {m:List (List Int)} (hv:validB m=true) (h7:(nL m 0).length<=7) {k:Nat} (hk:k<=ordL m):hlf (qh8 (qa9 m).1 k (qa9 m).1.length)=false:=by
 rcases Nat.eq_zero_or_pos k with e | e
 ·subst e; exact xi4 hv h7
 ·cases q:hlf (qh8 (qa9 m).1 k (qa9 m).1.length) with
  | false=>rfl
  | true=>
   have:=w89 q (nL m 0).length 0 e
   unfold ordL at hk
   omega
theorem w2a {f:Int->Int} {q:Int->Bool}:∀l:List Int,(∀x∈l,q x=false->f x=0)->qx7 f (l.filter q)=qx7 f l
 | [],_=>rfl
 | x :: l,h=>by
  have ih:=w2a (q:=q) l λy hy=>h y (by simp[hy])
  cases e:q x with
  | true=>rw[List.filter_cons_of_pos e]; simp only[qx7,ih]
  | false=>
   rw[List.filter_cons_of_neg (by rw[e]; decide)]
   have:=h x (by simp) e
   simp only[qx7,ih,this,Int.zero_add]
end Go.Proofs.YtempacilejhbgaaGreat
