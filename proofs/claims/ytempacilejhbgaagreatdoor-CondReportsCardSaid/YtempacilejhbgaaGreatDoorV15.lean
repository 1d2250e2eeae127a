/- The reference's arithmetic of rows: contracts by the engine. No condition. -/
import Derived.Test.YtempacilejhbgaaGreatDoorProg
import Derived.Test.YtempacilejhbgaaGreatDoorApp
import Derived.Test.YtempacilejhbgaaGreatDoorEng3
import Derived.Test.YtempacilejhbgaaGreatDoorV12
set_option linter.unusedVariables false
namespace Go.Proofs.YtempacilejhbgaaGreatDoor
open Go Go.RowKit Ls Eng
theorem rdL_ints (m:View):∀l:List Int,RdL m (.int .i64) l (ints l)
 | []=>rfl
 | x :: l=>⟨[.int .i64 x],ints l,rfl,rfl,rdL_ints m l⟩
end Go.Proofs.YtempacilejhbgaaGreatDoor
set_option linter.unusedSimpArgs false
namespace Go.Proofs.YtempacilejhbgaaGreatDoor
open Go Go.RowKit Eng
theorem w5t (a b:Int):gcdI b (a.tmod b)=gcdI a b:=by
 unfold gcdI
 show((Nat.gcd b.natAbs (a.tmod b).natAbs:Nat):Int)=(Nat.gcd a.natAbs b.natAbs:Nat)
 rw[Int.natAbs_tmod,Nat.gcd_comm b.natAbs,<- Nat.gcd_rec,Nat.gcd_comm]
def x04 (a b:Int):Nat->Option Inv
 | 0=>some (Inv.of [0,1] 0 (λs:Int × Int=>[(0,.lit (.int .i64 s.1)),(1,.lit (.int .i64 s.2))]) (λ_=>[]) (λs=>qf3 BIG s.1/\qf3 BIG s.2/\gcdI s.1 s.2=gcdI a b) (λs=>s.2.natAbs))
 | _=>none
theorem q8n:Meets Tryz.prog 100 wx8:=by
 refine meets (snd (SpecsOk.nil _)) Tryz.func100 rfl rfl (λx=>x04 x.1 x.2.1) (λ_=>by kernel_rfl) (by decide) ?_
 rintro⟨a,b,⟨⟩⟩ h
 revert a b
 intro(a:Int) (b:Int) (h:(-BIG<=a/\a<=BIG)/\-BIG<=b/\b<=BIG)
 refine @qe7 _ (∃(v0:Unit),∃(v1:Int × Int),(qf3 BIG v1.1/\qf3 BIG v1.2/\gcdI v1.1 v1.2=gcdI a b)/\((a=v1.1/\b=v1.2/\True)/\True)/\∀(v2:Int × Int),qf3 BIG v2.1/\qf3 BIG v2.2/\gcdI v2.1 v2.2=gcdI a b->((v2.2 != (0:Int))=true->v2.2≠(0:Int)/\∃(v5:Int × Int),(qf3 BIG v5.1/\qf3 BIG v5.2/\gcdI v5.1 v5.2=gcdI a b)/\Int.natAbs v5.2<Int.natAbs v2.2/\(v2.2=v5.1/\Int.tmod v2.1 v2.2=v5.2/\True)/\True)/\((v2.2 != (0:Int))=false->fits .i64 ((0:Int)-v2.1)/\max2 true v2.1 ((0:Int)-v2.1)=gcdI a b)) (by kernel_rfl) ?_
 try simp only[z0,z1,z2,z3,z4,z5,z6,z7,z8,z9,z10,Int.reduceEq,z11,z12,z13,z14,z15,z16,z17,z18,z19,z20,z21,z22,z23,z24,z25,z26,z27,z28,z29,z30,Int.reduceLE,Int.reduceLT,z31,z32,z33,z34,qa3]
 try simp only[qb6,qb7,qc7,z31,z32,z2,z1]
 refine⟨(),(a,b),⟨h.1,h.2,rfl⟩,⟨rfl,rfl⟩,?_⟩
 rintro⟨x,y⟩ ⟨h1,h2,h3⟩
 dsimp only at h1 h2 h3 ⊢
 have hB:BIG=4000000000000000000:=rfl
 refine⟨λhy=>⟨hy,(y,x.tmod y),⟨h2,?_,(w5t x y).trans h3⟩,?_,rfl,rfl⟩,λhy=>?_⟩
 ·have:(x.tmod y).natAbs<=x.natAbs:=by rw[Int.natAbs_tmod]; exact Nat.mod_le _ _
  unfold qf3 at h1 ⊢
  dsimp only
  omega
 ·dsimp only
  rw[Int.natAbs_tmod]
  exact Nat.mod_lt _ (by omega)
 ·subst hy
  unfold qf3 at h1
  refine⟨qa7 (by omega) (by omega),?_⟩
  rw[<- h3]
  show max x (0-x)=((Int.gcd x 0:Nat):Int)
  rw[Int.gcd_zero_right]
  omega
def qj0 (l:List Int):List Int:=l.map λn=>n.tdiv (max (gcdL l) 1)
abbrev xt3:qb9:=qg6 true (some 3) [tInts] [tInts] (λx=>q3s x.1) (λx=>(qj0 x.1,()))
def xk3 (l:List Int):Nat->Option Inv
 | 0=>some (Inv.of [3,11] 0 (λk:Nat=>[(3,.lit (.int .i64 (gcdL (l.take k)))),(11,.lit (.int .i64 k))]) (λ_=>[]) (λk=>k<=l.length) (λk=>l.length-k))
 | 1=>some (Inv.of [6,21] 1 (λk:Nat=>[(6,.own 0),(21,.lit (.int .i64 k))]) (λk=>[.vec 3 (.int .i64) ((qj0 l).take k)]) (λk=>k<=l.length) (λk=>l.length-k))
 | _=>none
theorem q2a:Meets Tryz.prog 101 xt3:=by
 refine meets (snd (SpecsOk.cons q8n (SpecsOk.nil _))) Tryz.func101 rfl rfl (λx=>xk3 x.1) (λ_=>by kernel_rfl) (by decide) ?_
 rintro⟨l,⟨⟩⟩ h
 revert l
 intro(l:List Int) (h:q3s l)
 refine @qe7 _ (∃(v0:Unit),∃(v1:Nat),Nat.le v1 l.length/\(((0:Int)=gcdL (List.take v1 l)/\(0:Int)=(↑v1:Int)/\True)/\True)/\∀(v2:Nat),Nat.le v2 l.length->(decide ((↑v2:Int)<(↑l.length:Int))=true->((0:Int)<=(↑v2:Int)/\(↑v2:Int)<(↑l.length:Int))/\(((-4000000000000000000:Int)<=gcdL (List.take v2 l)/\gcdL (List.take v2 l)<=BIG)/\(-4000000000000000000:Int)<=nI l v2/\nI l v2<=BIG)/\fits .i64 ((↑v2:Int)+(1:Int))/\∃(v5:Nat),Nat.le v5 l.length/\l.length-v5<l.length-v2/\(gcdI (gcdL (List.take v2 l)) (nI l v2)=gcdL (List.take v5 l)/\(↑v2:Int)+(1:Int)=(↑v5:Int)/\True)/\True)/\(decide ((↑v2:Int)<(↑l.length:Int))=false->∃(v5:Unit),∃(v6:Nat),Nat.le v6 l.length/\((True/\(0:Int)=(↑v6:Int)/\True)/\List.take v6 (qj0 l)=[]/\True)/\∀(v7:Nat),Nat.le v7 l.length->(decide ((↑v7:Int)<(↑l.length:Int))=true->((0:Int)<=(↑v7:Int)/\(↑v7:Int)<(↑l.length:Int))/\max2 true (gcdL (List.take v2 l)) (1:Int)≠(0:Int)/\fits .i64 (Int.tdiv (nI l v7) (max2 true (gcdL (List.take v2 l)) (1:Int)))/\((0:Nat)<List.length [Int.tdiv (nI l v7) (max2 true (gcdL (List.take v2 l)) (1:Int))]/\Nat.le ((List.take v7 (qj0 l)).length+List.length [Int.tdiv (nI l v7) (max2 true (gcdL (List.take v2 l)) (1:Int))]) (1000000:Nat))/\fits .i64 ((↑v7:Int)+(1:Int))/\∃(v10:Nat),Nat.le v10 l.length/\l.length-v10<l.length-v7/\(True/\(↑v7:Int)+(1:Int)=(↑v10:Int)/\True)/\List.take v7 (qj0 l)++[Int.tdiv (nI l v7) (max2 true (gcdL (List.take v2 l)) (1:Int))]=List.take v10 (qj0 l)/\True)/\(decide ((↑v7:Int)<(↑l.length:Int))=false->List.take v7 (qj0 l)=qj0 l))) (by kernel_rfl) ?_
 try simp only[z0,z1,z2,z3,z4,z5,z6,z7,z8,z9,z10,Int.reduceEq,z11,z12,z13,z14,z15,z16,z17,z18,z19,z20,z21,z22,z23,z24,z25,z26,z27,z28,z29,z30,Int.reduceLE,Int.reduceLT,z31,z32,z33,z34,qa3]
 try simp only[qb6,qb7,qc7,z31,z32,z2,z1]
 have hlen:=h.1
 have hpl:(qj0 l).length=l.length:=by simp[qj0]
 refine⟨(),0,Nat.zero_le _,⟨rfl,rfl⟩,λk hk=>⟨λhlt=>?_,λhge=>?_⟩⟩
 ·have h1:=wo7 h k hk
  have h2:=q0i h hlt
  unfold BIG at h1
  exact⟨hlt,⟨⟨by omega,by unfold BIG; omega⟩,h2⟩,qa7 (by omega) (by omega),k+1,by omega,by omega,(q55 l k hlt).symm,by omega⟩
 ·obtain rfl:k=l.length:=by omega
  rw[List.take_length]
  refine⟨(),0,Nat.zero_le _,⟨rfl,rfl⟩,λi hi=>⟨λhlt=>?_,λhge=>?_⟩⟩
  ·have h2:=q0i h hlt
   have h3:=qj9 (g:=max (gcdL l) 1) h2
   unfold BIG at h3
   refine⟨hlt,by show ¬max (gcdL l) 1=0; omega,qa7 (by show -9223372036854775808<=(nI l i).tdiv (max (gcdL l) 1); omega) (by show(nI l i).tdiv (max (gcdL l) 1)<=9223372036854775807; omega),by rw[List.length_take]; omega,qa7 (by omega) (by omega),i+1,by omega,by omega,by omega,?_⟩
   rw[q57 _ i (by omega),qg4 (qj0 l) i (by omega),qg4 l i hlt]
   simp[qj0]
   rfl
  ·rw[List.take_of_length_le (by omega)]
def qi7 (l:List Int) (n:Int):List Int:=l.map λk=>k*n
structure w5u (l:List Int) (n:Int):Prop where
 len:l.length<=1000
 big:∀i,i<l.length->qf3 BIG (nI l i*n)
abbrev x4z:qb9:=qg6 true none [tInts,tInt] [tInts] (λx=>w5u x.1 x.2.1) (λx=>(qi7 x.1 x.2.1,()))
def x05 (l:List Int) (n:Int):Nat->Option Inv
 | 0=>some (Inv.of [5,10] 1 (λk:Nat=>[(5,.own 0),(10,.lit (.int .i64 k))]) (λk=>[.vec 3 (.int .i64) ((qi7 l n).take k)]) (λk=>k<=l.length) (λk=>l.length-k))
 | _=>none
theorem wi8:Meets Tryz.prog 87 x4z:=by
 refine meets (snd (SpecsOk.nil _)) Tryz.func87 rfl rfl (λx=>x05 x.1 x.2.1) (λ_=>by kernel_rfl) (by decide) ?_
 rintro⟨l,n,⟨⟩⟩ h
 revert l n
 intro(l:List Int) (n:Int) (h:w5u l n)
 refine @qe7 _ (let Q0:=qi7 l n; ∃(v0:Unit),∃(v1:Nat),Nat.le v1 l.length/\((True/\(0:Int)=(↑v1:Int)/\True)/\List.take v1 Q0=[]/\True)/\∀(v2:Nat),Nat.le v2 l.length->(decide ((↑v2:Int)<(↑l.length:Int))=true->((0:Int)<=(↑v2:Int)/\(↑v2:Int)<(↑l.length:Int))/\fits .i64 (nI l v2*n)/\((0:Nat)<List.length [nI l v2*n]/\Nat.le ((List.take v2 Q0).length+List.length [nI l v2*n]) (1000000:Nat))/\fits .i64 ((↑v2:Int)+(1:Int))/\∃(v5:Nat),Nat.le v5 l.length/\l.length-v5<l.length-v2/\(True/\(↑v2:Int)+(1:Int)=(↑v5:Int)/\True)/\List.take v2 Q0++[nI l v2*n]=List.take v5 Q0/\True)/\(decide ((↑v2:Int)<(↑l.length:Int))=false->List.take v2 Q0=qi7 l n)) (by kernel_rfl) ?_
 try simp only[z0,z1,z2,z3,z4,z5,z6,z7,z8,z9,z10,Int.reduceEq,z11,z12,z13,z14,z15,z16,z17,z18,z19,z20,z21,z22,z23,z24,z25,z26,z27,z28,z29,z30,Int.reduceLE,Int.reduceLT,z31,z32,z33,z34,qa3]
 try simp only[qb6,qb7,qc7,z31,z32,z2,z1]
 have hlen:=h.len
 have hpl:(qi7 l n).length=l.length:=by simp[qi7]
 refine⟨(),0,Nat.zero_le _,⟨rfl,rfl⟩,λi hi=>⟨λhlt=>?_,λhge=>?_⟩⟩
 ·have h3:=h.big i hlt
  unfold qf3 BIG at h3
  refine⟨hlt,qa7 (by omega) (by omega),by rw[List.length_take]; omega,qa7 (by omega) (by omega),i+1,by omega,by omega,by omega,?_⟩
  rw[q57 _ i (by omega),qg4 (qi7 l n) i (by omega),qg4 l i hlt]
  simp[qi7]
 ·rw[List.take_of_length_le (by omega)]
def q29 (r p:List Int) (j:Nat):List Int:=(List.range r.length).map λk=>nI r k*nI p j-nI p k*nI r j
def qe0 (r p:List Int) (j:Nat):List Int:=qj0 (q29 r p j)
structure w9h (r p:List Int) (j:Nat):Prop where
 len:r.length<=1000
 eq:p.length=r.length
 lt:j<r.length
 b1:∀k,k<r.length->qf3 BIG (nI r k*nI p j)
 b2:∀k,k<r.length->qf3 BIG (nI p k*nI r j)
 b3:∀k,k<r.length->qf3 BIG (nI r k*nI p j-nI p k*nI r j)
abbrev sWo:qb9:=qg6 true none [tInts,tInts,tInt] [tInts] (λx=>0<=x.2.2.1/\w9h x.1 x.2.1 x.2.2.1.toNat) (λx=>(qe0 x.1 x.2.1 x.2.2.1.toNat,()))
def x42 (r p:List Int) (j:Nat):Nat->Option Inv
 | 0=>some (Inv.of [7,11] 1 (λk:Nat=>[(7,.own 0),(11,.lit (.int .i64 k))]) (λk=>[.vec 3 (.int .i64) ((q29 r p j).take k)]) (λk=>k<=r.length) (λk=>r.length-k))
 | _=>none
theorem w9i:Meets Tryz.prog 118 sWo:=by
 refine meets (snd (SpecsOk.cons q2a (SpecsOk.nil _))) Tryz.func118 rfl rfl (λx=>x42 x.1 x.2.1 x.2.2.1.toNat) (λ_=>by kernel_rfl) (by decide) ?_
 rintro⟨r,p,j,⟨⟩⟩ h
 revert r p j
 intro(r:List Int) (p:List Int) (j:Int) (h:0<=j/\w9h r p j.toNat)
 refine @qe7 _ (let Q0:=q29 r p j.toNat; ∃(v0:Unit),∃(v1:Nat),Nat.le v1 r.length/\((True/\(0:Int)=(↑v1:Int)/\True)/\List.take v1 Q0=[]/\True)/\∀(v2:Nat),Nat.le v2 r.length->(decide ((↑v2:Int)<(↑r.length:Int))=true->((0:Int)<=(↑v2:Int)/\(↑v2:Int)<(↑r.length:Int))/\((0:Int)<=j/\j<(↑p.length:Int))/\fits .i64 (nI r v2*nI p j.toNat)/\((0:Int)<=(↑v2:Int)/\(↑v2:Int)<(↑p.length:Int))/\((0:Int)<=j/\j<(↑r.length:Int))/\fits .i64 (nI p v2*nI r j.toNat)/\fits .i64 (nI r v2*nI p j.toNat-nI p v2*nI r j.toNat)/\((0:Nat)<List.length [nI r v2*nI p j.toNat-nI p v2*nI r j.toNat]/\Nat.le ((List.take v2 Q0).length+List.length [nI r v2*nI p j.toNat-nI p v2*nI r j.toNat]) (1000000:Nat))/\fits .i64 ((↑v2:Int)+(1:Int))/\∃(v5:Nat),Nat.le v5 r.length/\r.length-v5<r.length-v2/\(True/\(↑v2:Int)+(1:Int)=(↑v5:Int)/\True)/\List.take v2 Q0++[nI r v2*nI p j.toNat-nI p v2*nI r j.toNat]=List.take v5 Q0/\True)/\(decide ((↑v2:Int)<(↑r.length:Int))=false->q3s (List.take v2 Q0)/\qj0 (List.take v2 Q0)=qe0 r p j.toNat)) (by kernel_rfl) ?_
 try simp only[z0,z1,z2,z3,z4,z5,z6,z7,z8,z9,z10,Int.reduceEq,z11,z12,z13,z14,z15,z16,z17,z18,z19,z20,z21,z22,z23,z24,z25,z26,z27,z28,z29,z30,Int.reduceLE,Int.reduceLT,z31,z32,z33,z34,qa3]
 try simp only[qb6,qb7,qc7,z31,z32,z2,z1]
 obtain⟨hj,h⟩:=h
 have hlen:=h.len
 have heq:=h.eq
 have hlt':=h.lt
 have hpl:(q29 r p j.toNat).length=r.length:=by simp[q29]
 have hpk:0<=j/\j<(p.length:Int):=⟨hj,by omega⟩
 have hrk:0<=j/\j<(r.length:Int):=⟨hj,by omega⟩
 have hat:∀k,k<r.length->nI (q29 r p j.toNat) k=nI r k*nI p j.toNat-nI p k*nI r j.toNat:=λk hk=>by
  rw[qg4 _ k (by omega)]; simp[q29]
 refine⟨(),0,Nat.zero_le _,⟨rfl,rfl⟩,λi hi=>⟨λhlt=>?_,λhge=>?_⟩⟩
 ·have h1:=h.b1 i hlt
  have h2:=h.b2 i hlt
  have h3:=h.b3 i hlt
  unfold qf3 BIG at h1 h2 h3
  refine⟨hlt,hpk,qa7 (by omega) (by omega),by omega,hrk,qa7 (by omega) (by omega),qa7 (by omega) (by omega),by rw[List.length_take]; omega,qa7 (by omega) (by omega),i+1,by omega,by omega,by omega,?_⟩
  rw[q57 _ i (by omega),hat i hlt]
 ·rw[List.take_of_length_le (by omega)]
  refine⟨⟨by omega,λx hx=>?_⟩,rfl⟩
  obtain⟨k,hk,rfl⟩:=List.getElem_of_mem hx
  rw[<- qg4 _ k hk,hat k (by omega)]
  exact h.b3 k (by omega)
end Go.Proofs.YtempacilejhbgaaGreatDoor
