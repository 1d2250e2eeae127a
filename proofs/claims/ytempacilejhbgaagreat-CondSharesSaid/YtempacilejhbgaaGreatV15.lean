/- The reference's arithmetic of rows: contracts by the engine. No condition. -/
import Derived.Test.YtempacilejhbgaaGreatProg
import Derived.Test.YtempacilejhbgaaGreatApp
import Derived.Test.YtempacilejhbgaaGreatEng3
import Derived.Test.YtempacilejhbgaaGreatV12
set_option linter.unusedVariables false
namespace Go.Proofs.YtempacilejhbgaaGreat
open Go Go.RowKit Ls Eng
theorem rdL_ints (m:View):∀l:List Int,RdL m (.int .i64) l (ints l)
 | []=>rfl
 | x :: l=>⟨[.int .i64 x],ints l,rfl,rfl,rdL_ints m l⟩
end Go.Proofs.YtempacilejhbgaaGreat
set_option linter.unusedSimpArgs false
namespace Go.Proofs.YtempacilejhbgaaGreat
open Go Go.RowKit Eng
theorem w5f (a b:Int):gcdI b (a.tmod b)=gcdI a b:=by
 unfold gcdI
 show((Nat.gcd b.natAbs (a.tmod b).natAbs:Nat):Int)=(Nat.gcd a.natAbs b.natAbs:Nat)
 rw[Int.natAbs_tmod,Nat.gcd_comm b.natAbs,<- Nat.gcd_rec,Nat.gcd_comm]
def x0t (a b:Int):Nat->Option Inv
 | 0=>some (Inv.of [0,1] 0 (λs:Int × Int=>[(0,.lit (.int .i64 s.1)),(1,.lit (.int .i64 s.2))]) (λ_=>[]) (λs=>qe8 BIG s.1/\qe8 BIG s.2/\gcdI s.1 s.2=gcdI a b) (λs=>s.2.natAbs))
 | _=>none
theorem q8b:qd7 Tryz.prog 160 ww8:=by
 refine meets (snd (SpecsOk.nil _)) Tryz.func160 rfl rfl (λx=>x0t x.1 x.2.1) (λ_=>by kernel_rfl) (by decide) ?_
 rintro⟨a,b,⟨⟩⟩ h
 revert a b
 intro(a:Int) (b:Int) (h:(-BIG<=a/\a<=BIG)/\-BIG<=b/\b<=BIG)
 refine @qe1 _ (∃(v0:Unit),∃(v1:Int × Int),(qe8 BIG (Prod.fst v1)/\qe8 BIG (Prod.snd v1)/\gcdI (Prod.fst v1) (Prod.snd v1)=gcdI a b)/\((a=Prod.fst v1/\b=Prod.snd v1/\True)/\True)/\∀(v2:Int × Int),qe8 BIG (Prod.fst v2)/\qe8 BIG (Prod.snd v2)/\gcdI (Prod.fst v2) (Prod.snd v2)=gcdI a b->((Prod.snd v2 != (0:Int))=true->Prod.snd v2≠(0:Int)/\∃(v5:Int × Int),(qe8 BIG (Prod.fst v5)/\qe8 BIG (Prod.snd v5)/\gcdI (Prod.fst v5) (Prod.snd v5)=gcdI a b)/\Int.natAbs (Prod.snd v5)<Int.natAbs (Prod.snd v2)/\(Prod.snd v2=Prod.fst v5/\Int.tmod (Prod.fst v2) (Prod.snd v2)=Prod.snd v5/\True)/\True)/\((Prod.snd v2 != (0:Int))=false->fits .i64 ((0:Int)-Prod.fst v2)/\max2 true (Prod.fst v2) ((0:Int)-Prod.fst v2)=gcdI a b)) (by kernel_rfl) ?_
 try simp only[z0,z1,z2,z3,z4,z5,z6,z7,z8,z9,z10,Int.reduceEq,z11,z12,z13,z14,z15,z16,z17,z18,z19,z20,z21,z22,z23,z24,z25,z26,z27,z28,z29,z30,Int.reduceLE,Int.reduceLT,z31,z32,z33,z34,qa4]
 try simp only[qb3,qb4,qb9,List.set_cons_zero,List.cons.injEq,and_true,true_and]
 refine⟨(),(a,b),⟨h.1,h.2,rfl⟩,⟨rfl,rfl⟩,?_⟩
 rintro⟨x,y⟩ ⟨h1,h2,h3⟩
 dsimp only at h1 h2 h3 ⊢
 have hB:BIG=4000000000000000000:=rfl
 refine⟨λhy=>⟨hy,(y,x.tmod y),⟨h2,?_,(w5f x y).trans h3⟩,?_,rfl,rfl⟩,λhy=>?_⟩
 ·have:(x.tmod y).natAbs<=x.natAbs:=by rw[Int.natAbs_tmod]; exact Nat.mod_le _ _
  unfold qe8 at h1 ⊢
  dsimp only
  omega
 ·dsimp only
  rw[Int.natAbs_tmod]
  exact Nat.mod_lt _ (by omega)
 ·subst hy
  unfold qe8 at h1
  refine⟨qa7 (by omega) (by omega),?_⟩
  rw[<- h3]
  show max x (0-x)=((Int.gcd x 0:Nat):Int)
  rw[Int.gcd_zero_right]
  omega
def qj5 (l:List Int):List Int:=l.map λn=>n.tdiv (max (gcdL l) 1)
abbrev xs2:qc0:=qg7 true (some 3) [qf2] [qf2] (λx=>q3l x.1) (λx=>(qj5 x.1,()))
def xi7 (l:List Int):Nat->Option Inv
 | 0=>some (Inv.of [3,11] 0 (λk:Nat=>[(3,.lit (.int .i64 (gcdL (l.take k)))),(11,.lit (.int .i64 k))]) (λ_=>[]) (λk=>k<=l.length) (λk=>l.length-k))
 | 1=>some (Inv.of [6,21] 1 (λk:Nat=>[(6,.own 0),(21,.lit (.int .i64 k))]) (λk=>[.vec 3 (.int .i64) ((qj5 l).take k)]) (λk=>k<=l.length) (λk=>l.length-k))
 | _=>none
theorem q15:qd7 Tryz.prog 161 xs2:=by
 refine meets (snd (SpecsOk.cons q8b (SpecsOk.nil _))) Tryz.func161 rfl rfl (λx=>xi7 x.1) (λ_=>by kernel_rfl) (by decide) ?_
 rintro⟨l,⟨⟩⟩ h
 revert l
 intro(l:List Int) (h:q3l l)
 refine @qe1 _ (let Q0:=List.length l; ∃(v0:Unit),∃(v1:Nat),Nat.le v1 Q0/\(((0:Int)=gcdL (List.take v1 l)/\(0:Int)=(↑v1:Int)/\True)/\True)/\∀(v2:Nat),Nat.le v2 Q0->(decide ((↑v2:Int)<(↑Q0:Int))=true->((0:Int)<=(↑v2:Int)/\(↑v2:Int)<(↑Q0:Int))/\(((-4000000000000000000:Int)<=gcdL (List.take v2 l)/\gcdL (List.take v2 l)<=BIG)/\(-4000000000000000000:Int)<=qa1 (Ty.int .i64) l (Int.toNat (↑v2:Int))/\qa1 (Ty.int .i64) l (Int.toNat (↑v2:Int))<=BIG)/\fits .i64 ((↑v2:Int)+(1:Int))/\∃(v5:Nat),Nat.le v5 Q0/\List.length l-v5<List.length l-v2/\(gcdI (gcdL (List.take v2 l)) (qa1 (Ty.int .i64) l (Int.toNat (↑v2:Int)))=gcdL (List.take v5 l)/\(↑v2:Int)+(1:Int)=(↑v5:Int)/\True)/\True)/\(decide ((↑v2:Int)<(↑Q0:Int))=false->∃(v5:Unit),∃(v6:Nat),Nat.le v6 Q0/\((True/\(0:Int)=(↑v6:Int)/\True)/\List.take v6 (qj5 l)=[]/\True)/\∀(v7:Nat),Nat.le v7 Q0->(decide ((↑v7:Int)<(↑Q0:Int))=true->((0:Int)<=(↑v7:Int)/\(↑v7:Int)<(↑Q0:Int))/\max2 true (gcdL (List.take v2 l)) (1:Int)≠(0:Int)/\fits .i64 (Int.tdiv (qa1 (Ty.int .i64) l (Int.toNat (↑v7:Int))) (max2 true (gcdL (List.take v2 l)) (1:Int)))/\((0:Nat)<List.length [Int.tdiv (qa1 (Ty.int .i64) l (Int.toNat (↑v7:Int))) (max2 true (gcdL (List.take v2 l)) (1:Int))]/\Nat.le (List.length (List.take v7 (qj5 l))+List.length [Int.tdiv (qa1 (Ty.int .i64) l (Int.toNat (↑v7:Int))) (max2 true (gcdL (List.take v2 l)) (1:Int))]) (1000000:Nat))/\fits .i64 ((↑v7:Int)+(1:Int))/\∃(v10:Nat),Nat.le v10 Q0/\List.length l-v10<List.length l-v7/\(True/\(↑v7:Int)+(1:Int)=(↑v10:Int)/\True)/\List.take v7 (qj5 l)++[Int.tdiv (qa1 (Ty.int .i64) l (Int.toNat (↑v7:Int))) (max2 true (gcdL (List.take v2 l)) (1:Int))]=List.take v10 (qj5 l)/\True)/\(decide ((↑v7:Int)<(↑Q0:Int))=false->List.take v7 (qj5 l)=qj5 l))) (by kernel_rfl) ?_
 try simp only[z0,z1,z2,z3,z4,z5,z6,z7,z8,z9,z10,Int.reduceEq,z11,z12,z13,z14,z15,z16,z17,z18,z19,z20,z21,z22,z23,z24,z25,z26,z27,z28,z29,z30,Int.reduceLE,Int.reduceLT,z31,z32,z33,z34,qa4]
 try simp only[qb3,qb4,qb9,List.set_cons_zero,List.cons.injEq,and_true,true_and]
 have hlen:=h.1
 have hpl:(qj5 l).length=l.length:=by simp[qj5]
 refine⟨(),0,Nat.zero_le _,⟨rfl,rfl⟩,λk hk=>⟨λhlt=>?_,λhge=>?_⟩⟩
 ·have h1:=wo3 h k hk
  have h2:=q0i h hlt
  unfold BIG at h1
  exact⟨hlt,⟨⟨by omega,by unfold BIG; omega⟩,h2⟩,qa7 (by omega) (by omega),k+1,by omega,by omega,(q50 l k hlt).symm,by omega⟩
 ·obtain rfl:k=l.length:=by omega
  rw[List.take_length]
  refine⟨(),0,Nat.zero_le _,⟨rfl,rfl⟩,λi hi=>⟨λhlt=>?_,λhge=>?_⟩⟩
  ·have h2:=q0i h hlt
   have h3:=qk4 (g:=max (gcdL l) 1) h2
   unfold BIG at h3
   refine⟨hlt,by show ¬max (gcdL l) 1=0; omega,qa7 (by show -9223372036854775808<=(nI l i).tdiv (max (gcdL l) 1); omega) (by show(nI l i).tdiv (max (gcdL l) 1)<=9223372036854775807; omega),by rw[List.length_take]; omega,qa7 (by omega) (by omega),i+1,by omega,by omega,by omega,?_⟩
   rw[q53 _ i (by omega),qg5 (qj5 l) i (by omega),qg5 l i hlt]
   simp[qj5]
   rfl
  ·rw[List.take_of_length_le (by omega)]
def qj2 (l:List Int) (n:Int):List Int:=l.map λk=>k*n
structure w5g (l:List Int) (n:Int):Prop where
 len:l.length<=1000
 big:∀i,i<l.length->qe8 BIG (nI l i*n)
abbrev x4p:qc0:=qg7 true none [qf2,qd6] [qf2] (λx=>w5g x.1 x.2.1) (λx=>(qj2 x.1 x.2.1,()))
def x0u (l:List Int) (n:Int):Nat->Option Inv
 | 0=>some (Inv.of [5,10] 1 (λk:Nat=>[(5,.own 0),(10,.lit (.int .i64 k))]) (λk=>[.vec 3 (.int .i64) ((qj2 l n).take k)]) (λk=>k<=l.length) (λk=>l.length-k))
 | _=>none
theorem wi5:qd7 Tryz.prog 140 x4p:=by
 refine meets (snd (SpecsOk.nil _)) Tryz.func140 rfl rfl (λx=>x0u x.1 x.2.1) (λ_=>by kernel_rfl) (by decide) ?_
 rintro⟨l,n,⟨⟩⟩ h
 revert l n
 intro(l:List Int) (n:Int) (h:w5g l n)
 refine @qe1 _ (let Q0:=List.length l; let Q1:=qj2 l n; ∃(v0:Unit),∃(v1:Nat),Nat.le v1 Q0/\((True/\(0:Int)=(↑v1:Int)/\True)/\List.take v1 Q1=[]/\True)/\∀(v2:Nat),Nat.le v2 Q0->(decide ((↑v2:Int)<(↑Q0:Int))=true->((0:Int)<=(↑v2:Int)/\(↑v2:Int)<(↑Q0:Int))/\fits .i64 (qa1 (Ty.int .i64) l (Int.toNat (↑v2:Int))*n)/\((0:Nat)<List.length [qa1 (Ty.int .i64) l (Int.toNat (↑v2:Int))*n]/\Nat.le (List.length (List.take v2 Q1)+List.length [qa1 (Ty.int .i64) l (Int.toNat (↑v2:Int))*n]) (1000000:Nat))/\fits .i64 ((↑v2:Int)+(1:Int))/\∃(v5:Nat),Nat.le v5 Q0/\List.length l-v5<List.length l-v2/\(True/\(↑v2:Int)+(1:Int)=(↑v5:Int)/\True)/\List.take v2 Q1++[qa1 (Ty.int .i64) l (Int.toNat (↑v2:Int))*n]=List.take v5 Q1/\True)/\(decide ((↑v2:Int)<(↑Q0:Int))=false->List.take v2 Q1=qj2 l n)) (by kernel_rfl) ?_
 try simp only[z0,z1,z2,z3,z4,z5,z6,z7,z8,z9,z10,Int.reduceEq,z11,z12,z13,z14,z15,z16,z17,z18,z19,z20,z21,z22,z23,z24,z25,z26,z27,z28,z29,z30,Int.reduceLE,Int.reduceLT,z31,z32,z33,z34,qa4]
 try simp only[qb3,qb4,qb9,List.set_cons_zero,List.cons.injEq,and_true,true_and]
 have hlen:=h.len
 have hpl:(qj2 l n).length=l.length:=by simp[qj2]
 refine⟨(),0,Nat.zero_le _,⟨rfl,rfl⟩,λi hi=>⟨λhlt=>?_,λhge=>?_⟩⟩
 ·have h3:=h.big i hlt
  unfold qe8 BIG at h3
  refine⟨hlt,qa7 (by omega) (by omega),by rw[List.length_take]; omega,qa7 (by omega) (by omega),i+1,by omega,by omega,by omega,?_⟩
  rw[q53 _ i (by omega),qg5 (qj2 l n) i (by omega),qg5 l i hlt]
  simp[qj2]
 ·rw[List.take_of_length_le (by omega)]
def q20 (r p:List Int) (j:Nat):List Int:=(List.range r.length).map λk=>nI r k*nI p j-nI p k*nI r j
def qe2 (r p:List Int) (j:Nat):List Int:=qj5 (q20 r p j)
structure w84 (r p:List Int) (j:Nat):Prop where
 len:r.length<=1000
 eq:p.length=r.length
 lt:j<r.length
 b1:∀k,k<r.length->qe8 BIG (nI r k*nI p j)
 b2:∀k,k<r.length->qe8 BIG (nI p k*nI r j)
 b3:∀k,k<r.length->qe8 BIG (nI r k*nI p j-nI p k*nI r j)
abbrev sWo:qc0:=qg7 true none [qf2,qf2,qd6] [qf2] (λx=>0<=x.2.2.1/\w84 x.1 x.2.1 x.2.2.1.toNat) (λx=>(qe2 x.1 x.2.1 x.2.2.1.toNat,()))
def x4q (r p:List Int) (j:Nat):Nat->Option Inv
 | 0=>some (Inv.of [7,11] 1 (λk:Nat=>[(7,.own 0),(11,.lit (.int .i64 k))]) (λk=>[.vec 3 (.int .i64) ((q20 r p j).take k)]) (λk=>k<=r.length) (λk=>r.length-k))
 | _=>none
theorem w85:qd7 Tryz.prog 185 sWo:=by
 refine meets (snd (SpecsOk.cons q15 (SpecsOk.nil _))) Tryz.func185 rfl rfl (λx=>x4q x.1 x.2.1 x.2.2.1.toNat) (λ_=>by kernel_rfl) (by decide) ?_
 rintro⟨r,p,j,⟨⟩⟩ h
 revert r p j
 intro(r:List Int) (p:List Int) (j:Int) (h:0<=j/\w84 r p j.toNat)
 refine @qe1 _ (let Q0:=Int.toNat j; let Q1:=List.length r; let Q2:=q20 r p Q0; ∃(v0:Unit),∃(v1:Nat),Nat.le v1 Q1/\((True/\(0:Int)=(↑v1:Int)/\True)/\List.take v1 Q2=[]/\True)/\∀(v2:Nat),Nat.le v2 Q1->(decide ((↑v2:Int)<(↑Q1:Int))=true->((0:Int)<=(↑v2:Int)/\(↑v2:Int)<(↑Q1:Int))/\((0:Int)<=j/\j<(↑(List.length p):Int))/\fits .i64 (qa1 (Ty.int .i64) r (Int.toNat (↑v2:Int))*qa1 (Ty.int .i64) p Q0)/\((0:Int)<=(↑v2:Int)/\(↑v2:Int)<(↑(List.length p):Int))/\((0:Int)<=j/\j<(↑Q1:Int))/\fits .i64 (qa1 (Ty.int .i64) p (Int.toNat (↑v2:Int))*qa1 (Ty.int .i64) r Q0)/\fits .i64 (qa1 (Ty.int .i64) r (Int.toNat (↑v2:Int))*qa1 (Ty.int .i64) p Q0-qa1 (Ty.int .i64) p (Int.toNat (↑v2:Int))*qa1 (Ty.int .i64) r Q0)/\((0:Nat)<List.length [qa1 (Ty.int .i64) r (Int.toNat (↑v2:Int))*qa1 (Ty.int .i64) p Q0-qa1 (Ty.int .i64) p (Int.toNat (↑v2:Int))*qa1 (Ty.int .i64) r Q0]/\Nat.le (List.length (List.take v2 Q2)+List.length [qa1 (Ty.int .i64) r (Int.toNat (↑v2:Int))*qa1 (Ty.int .i64) p Q0-qa1 (Ty.int .i64) p (Int.toNat (↑v2:Int))*qa1 (Ty.int .i64) r Q0]) (1000000:Nat))/\fits .i64 ((↑v2:Int)+(1:Int))/\∃(v5:Nat),Nat.le v5 Q1/\List.length r-v5<List.length r-v2/\(True/\(↑v2:Int)+(1:Int)=(↑v5:Int)/\True)/\List.take v2 Q2++[qa1 (Ty.int .i64) r (Int.toNat (↑v2:Int))*qa1 (Ty.int .i64) p Q0-qa1 (Ty.int .i64) p (Int.toNat (↑v2:Int))*qa1 (Ty.int .i64) r Q0]=List.take v5 Q2/\True)/\(decide ((↑v2:Int)<(↑Q1:Int))=false->q3l (List.take v2 Q2)/\qj5 (List.take v2 Q2)=qe2 r p Q0)) (by kernel_rfl) ?_
 try simp only[z0,z1,z2,z3,z4,z5,z6,z7,z8,z9,z10,Int.reduceEq,z11,z12,z13,z14,z15,z16,z17,z18,z19,z20,z21,z22,z23,z24,z25,z26,z27,z28,z29,z30,Int.reduceLE,Int.reduceLT,z31,z32,z33,z34,qa4]
 try simp only[qb3,qb4,qb9,List.set_cons_zero,List.cons.injEq,and_true,true_and]
 obtain⟨hj,h⟩:=h
 have hlen:=h.len
 have heq:=h.eq
 have hlt':=h.lt
 have hpl:(q20 r p j.toNat).length=r.length:=by simp[q20]
 have hpk:0<=j/\j<(p.length:Int):=⟨hj,by omega⟩
 have hrk:0<=j/\j<(r.length:Int):=⟨hj,by omega⟩
 have hat:∀k,k<r.length->nI (q20 r p j.toNat) k=nI r k*nI p j.toNat-nI p k*nI r j.toNat:=λk hk=>by
  rw[qg5 _ k (by omega)]; simp[q20]
 refine⟨(),0,Nat.zero_le _,⟨rfl,rfl⟩,λi hi=>⟨λhlt=>?_,λhge=>?_⟩⟩
 ·have h1:=h.b1 i hlt
  have h2:=h.b2 i hlt
  have h3:=h.b3 i hlt
  unfold qe8 BIG at h1 h2 h3
  refine⟨hlt,hpk,qa7 (by omega) (by omega),by omega,hrk,qa7 (by omega) (by omega),qa7 (by omega) (by omega),by rw[List.length_take]; omega,qa7 (by omega) (by omega),i+1,by omega,by omega,by omega,?_⟩
  rw[q53 _ i (by omega),hat i hlt]
 ·rw[List.take_of_length_le (by omega)]
  refine⟨⟨by omega,λx hx=>?_⟩,rfl⟩
  obtain⟨k,hk,rfl⟩:=List.getElem_of_mem hx
  rw[<- qg5 _ k hk,hat k (by omega)]
  exact h.b3 k (by omega)
end Go.Proofs.YtempacilejhbgaaGreat
