/- The reference's arithmetic of rows: contracts by the engine. No condition. -/
import Derived.Test.YtdibdlelmkcccaaV14
set_option linter.unusedVariables false
set_option linter.unusedSimpArgs false
namespace Go.Proofs.Ytdibdlelmkcccaa
open Go Go.RowKit Eng
theorem w5s (a b:Int):qf8 b (a.tmod b)=qf8 a b:=by
 unfold qf8
 show((Nat.gcd b.natAbs (a.tmod b).natAbs:Nat):Int)=(Nat.gcd a.natAbs b.natAbs:Nat)
 rw[Int.natAbs_tmod,Nat.gcd_comm b.natAbs,<- Nat.gcd_rec,Nat.gcd_comm]
def x0j (a b:Int):Nat->Option Inv
 | 0=>some (Inv.of [0,1] 0 (λs:Int × Int=>[(0,.lit (.int .i64 s.1)),(1,.lit (.int .i64 s.2))]) (λ_=>[]) (λs=>qf3 BIG s.1/\qf3 BIG s.2/\qf8 s.1 s.2=qf8 a b) (λs=>s.2.natAbs))
 | _=>none
theorem q8z:qe1 Try.prog 136 wx9:=by
 refine meets (snd (SpecsOk.nil _)) Try.func136 rfl rfl (λx=>x0j x.1 x.2.1) (λ_=>by kernel_rfl) (by decide) ?_
 rintro⟨a,b,⟨⟩⟩ h
 revert a b
 intro(a:Int) (b:Int) (h:(-BIG<=a/\a<=BIG)/\-BIG<=b/\b<=BIG)
 refine qe6 (B:=∃(v0:Unit),∃(v1:Int × Int),(qf3 BIG (Prod.fst v1)/\qf3 BIG (Prod.snd v1)/\qf8 (Prod.fst v1) (Prod.snd v1)=qf8 a b)/\((a=Prod.fst v1/\b=Prod.snd v1/\True)/\True)/\∀(v2:Int × Int),qf3 BIG (Prod.fst v2)/\qf3 BIG (Prod.snd v2)/\qf8 (Prod.fst v2) (Prod.snd v2)=qf8 a b->((Prod.snd v2 != (0:Int))=true->Prod.snd v2≠(0:Int)/\∃(v5:Int × Int),(qf3 BIG (Prod.fst v5)/\qf3 BIG (Prod.snd v5)/\qf8 (Prod.fst v5) (Prod.snd v5)=qf8 a b)/\Int.natAbs (Prod.snd v5)<Int.natAbs (Prod.snd v2)/\(Prod.snd v2=Prod.fst v5/\Int.tmod (Prod.fst v2) (Prod.snd v2)=Prod.snd v5/\True)/\True)/\((Prod.snd v2 != (0:Int))=false->fits .i64 ((0:Int)-Prod.fst v2)/\max2 true (Prod.fst v2) ((0:Int)-Prod.fst v2)=qf8 a b)) (by kernel_rfl) ?_
 try simp only[z0,z1,z2,z3,z4,z5,z6,z7,z8,z9,z10,Int.reduceEq,z11,z12,z13,z14,z15,z16,z17,z18,z19,z20,z21,z22,z23,z24,z25,z26,z27,z28,z29,z30,Int.reduceLE,Int.reduceLT,z31,z32,z33,z34,qa4]
 try simp only[qb8,qb9,qd2,List.set_cons_zero,List.cons.injEq,and_true,true_and]
 refine⟨(),(a,b),⟨h.1,h.2,rfl⟩,⟨rfl,rfl⟩,?_⟩
 rintro⟨x,y⟩ ⟨h1,h2,h3⟩
 dsimp only at h1 h2 h3 ⊢
 have hB:BIG=4000000000000000000:=rfl
 refine⟨λhy=>⟨hy,(y,x.tmod y),⟨h2,?_,(w5s x y).trans h3⟩,?_,rfl,rfl⟩,λhy=>?_⟩
 ·have:(x.tmod y).natAbs<=x.natAbs:=by rw[Int.natAbs_tmod]; exact Nat.mod_le _ _
  unfold qf3 at h1 ⊢
  dsimp only
  omega
 ·dsimp only
  rw[Int.natAbs_tmod]
  exact Nat.mod_lt _ (by omega)
 ·subst hy
  unfold qf3 at h1
  refine⟨qa8 (by omega) (by omega),?_⟩
  rw[<- h3]
  show max x (0-x)=((Int.gcd x 0:Nat):Int)
  rw[Int.gcd_zero_right]
  omega
def qj7 (l:List Int):List Int:=l.map λn=>n.tdiv (max (gcdL l) 1)
abbrev xq5:qc9:=qh6 true (some 3) [qf6] [qf6] (λx=>q3x x.1) (λx=>(qj7 x.1,()))
def xh1 (l:List Int):Nat->Option Inv
 | 0=>some (Inv.of [3,11] 0 (λk:Nat=>[(3,.lit (.int .i64 (gcdL (l.take k)))),(11,.lit (.int .i64 k))]) (λ_=>[]) (λk=>k<=l.length) (λk=>l.length-k))
 | 1=>some (Inv.of [6,21] 1 (λk:Nat=>[(6,.own 0),(21,.lit (.int .i64 k))]) (λk=>[.vec 3 (.int .i64) ((qj7 l).take k)]) (λk=>k<=l.length) (λk=>l.length-k))
 | _=>none
theorem q2k:qe1 Try.prog 152 xq5:=by
 refine meets (snd (SpecsOk.cons q8z (SpecsOk.nil _))) Try.func152 rfl rfl (λx=>xh1 x.1) (λ_=>by kernel_rfl) (by decide) ?_
 rintro⟨l,⟨⟩⟩ h
 revert l
 intro(l:List Int) (h:q3x l)
 refine qe6 (B:=∃(v0:Unit),∃(v1:Nat),Nat.le v1 (List.length l)/\(((0:Int)=gcdL (List.take v1 l)/\(0:Int)=(↑v1:Int)/\True)/\True)/\∀(v2:Nat),Nat.le v2 (List.length l)->(decide ((↑v2:Int)<(↑(List.length l):Int))=true->((0:Int)<=(↑v2:Int)/\(↑v2:Int)<(↑(List.length l):Int))/\(((-4000000000000000000:Int)<=gcdL (List.take v2 l)/\gcdL (List.take v2 l)<=BIG)/\(-4000000000000000000:Int)<=qa3 (Ty.int .i64) l (Int.toNat (↑v2:Int))/\qa3 (Ty.int .i64) l (Int.toNat (↑v2:Int))<=BIG)/\fits .i64 ((↑v2:Int)+(1:Int))/\∃(v5:Nat),Nat.le v5 (List.length l)/\List.length l-v5<List.length l-v2/\(qf8 (gcdL (List.take v2 l)) (qa3 (Ty.int .i64) l (Int.toNat (↑v2:Int)))=gcdL (List.take v5 l)/\(↑v2:Int)+(1:Int)=(↑v5:Int)/\True)/\True)/\(decide ((↑v2:Int)<(↑(List.length l):Int))=false->∃(v5:Unit),∃(v6:Nat),Nat.le v6 (List.length l)/\((True/\(0:Int)=(↑v6:Int)/\True)/\List.take v6 (qj7 l)=[]/\True)/\∀(v7:Nat),Nat.le v7 (List.length l)->(decide ((↑v7:Int)<(↑(List.length l):Int))=true->((0:Int)<=(↑v7:Int)/\(↑v7:Int)<(↑(List.length l):Int))/\max2 true (gcdL (List.take v2 l)) (1:Int)≠(0:Int)/\fits .i64 (Int.tdiv (qa3 (Ty.int .i64) l (Int.toNat (↑v7:Int))) (max2 true (gcdL (List.take v2 l)) (1:Int)))/\((0:Nat)<List.length [Int.tdiv (qa3 (Ty.int .i64) l (Int.toNat (↑v7:Int))) (max2 true (gcdL (List.take v2 l)) (1:Int))]/\Nat.le (List.length (List.take v7 (qj7 l))+List.length [Int.tdiv (qa3 (Ty.int .i64) l (Int.toNat (↑v7:Int))) (max2 true (gcdL (List.take v2 l)) (1:Int))]) (1000000:Nat))/\fits .i64 ((↑v7:Int)+(1:Int))/\∃(v10:Nat),Nat.le v10 (List.length l)/\List.length l-v10<List.length l-v7/\(True/\(↑v7:Int)+(1:Int)=(↑v10:Int)/\True)/\List.take v7 (qj7 l)++[Int.tdiv (qa3 (Ty.int .i64) l (Int.toNat (↑v7:Int))) (max2 true (gcdL (List.take v2 l)) (1:Int))]=List.take v10 (qj7 l)/\True)/\(decide ((↑v7:Int)<(↑(List.length l):Int))=false->List.take v7 (qj7 l)=qj7 l))) (by kernel_rfl) ?_
 try simp only[z0,z1,z2,z3,z4,z5,z6,z7,z8,z9,z10,Int.reduceEq,z11,z12,z13,z14,z15,z16,z17,z18,z19,z20,z21,z22,z23,z24,z25,z26,z27,z28,z29,z30,Int.reduceLE,Int.reduceLT,z31,z32,z33,z34,qa4]
 try simp only[qb8,qb9,qd2,List.set_cons_zero,List.cons.injEq,and_true,true_and]
 have hlen:=h.1
 have hpl:(qj7 l).length=l.length:=by simp[qj7]
 refine⟨(),0,Nat.zero_le _,⟨rfl,rfl⟩,λk hk=>⟨λhlt=>?_,λhge=>?_⟩⟩
 ·have h1:=wo7 h k hk
  have h2:=qz4 h hlt
  unfold BIG at h1
  exact⟨hlt,⟨⟨by omega,by unfold BIG; omega⟩,h2⟩,qa8 (by omega) (by omega),k+1,by omega,by omega,(q6l l k hlt).symm,by omega⟩
 ·obtain rfl:k=l.length:=by omega
  rw[List.take_length]
  refine⟨(),0,Nat.zero_le _,⟨rfl,rfl⟩,λi hi=>⟨λhlt=>?_,λhge=>?_⟩⟩
  ·have h2:=qz4 h hlt
   have h3:=ql4 (g:=max (gcdL l) 1) h2
   unfold BIG at h3
   refine⟨hlt,by show ¬max (gcdL l) 1=0; omega,qa8 (by show -9223372036854775808<=(nI l i).tdiv (max (gcdL l) 1); omega) (by show(nI l i).tdiv (max (gcdL l) 1)<=9223372036854775807; omega),by rw[List.length_take]; omega,qa8 (by omega) (by omega),i+1,by omega,by omega,by omega,?_⟩
   rw[q2j _ i (by omega),qh9 (qj7 l) i (by omega),qh9 l i hlt]
   simp[qj7]
   rfl
  ·rw[List.take_of_length_le (by omega)]
def qi9 (l:List Int) (n:Int):List Int:=l.map λk=>k*n
structure w5t (l:List Int) (n:Int):Prop where
 len:l.length<=1000
 big:∀i,i<l.length->qf3 BIG (nI l i*n)
abbrev x4f:qc9:=qh6 true none [qf6,qg1] [qf6] (λx=>w5t x.1 x.2.1) (λx=>(qi9 x.1 x.2.1,()))
def x0k (l:List Int) (n:Int):Nat->Option Inv
 | 0=>some (Inv.of [5,10] 1 (λk:Nat=>[(5,.own 0),(10,.lit (.int .i64 k))]) (λk=>[.vec 3 (.int .i64) ((qi9 l n).take k)]) (λk=>k<=l.length) (λk=>l.length-k))
 | _=>none
theorem wk1:qe1 Try.prog 129 x4f:=by
 refine meets (snd (SpecsOk.nil _)) Try.func129 rfl rfl (λx=>x0k x.1 x.2.1) (λ_=>by kernel_rfl) (by decide) ?_
 rintro⟨l,n,⟨⟩⟩ h
 revert l n
 intro(l:List Int) (n:Int) (h:w5t l n)
 refine qe6 (B:=∃(v0:Unit),∃(v1:Nat),Nat.le v1 (List.length l)/\((True/\(0:Int)=(↑v1:Int)/\True)/\List.take v1 (qi9 l n)=[]/\True)/\∀(v2:Nat),Nat.le v2 (List.length l)->(decide ((↑v2:Int)<(↑(List.length l):Int))=true->((0:Int)<=(↑v2:Int)/\(↑v2:Int)<(↑(List.length l):Int))/\fits .i64 (qa3 (Ty.int .i64) l (Int.toNat (↑v2:Int))*n)/\((0:Nat)<List.length [qa3 (Ty.int .i64) l (Int.toNat (↑v2:Int))*n]/\Nat.le (List.length (List.take v2 (qi9 l n))+List.length [qa3 (Ty.int .i64) l (Int.toNat (↑v2:Int))*n]) (1000000:Nat))/\fits .i64 ((↑v2:Int)+(1:Int))/\∃(v5:Nat),Nat.le v5 (List.length l)/\List.length l-v5<List.length l-v2/\(True/\(↑v2:Int)+(1:Int)=(↑v5:Int)/\True)/\List.take v2 (qi9 l n)++[qa3 (Ty.int .i64) l (Int.toNat (↑v2:Int))*n]=List.take v5 (qi9 l n)/\True)/\(decide ((↑v2:Int)<(↑(List.length l):Int))=false->List.take v2 (qi9 l n)=qi9 l n)) (by kernel_rfl) ?_
 try simp only[z0,z1,z2,z3,z4,z5,z6,z7,z8,z9,z10,Int.reduceEq,z11,z12,z13,z14,z15,z16,z17,z18,z19,z20,z21,z22,z23,z24,z25,z26,z27,z28,z29,z30,Int.reduceLE,Int.reduceLT,z31,z32,z33,z34,qa4]
 try simp only[qb8,qb9,qd2,List.set_cons_zero,List.cons.injEq,and_true,true_and]
 have hlen:=h.len
 have hpl:(qi9 l n).length=l.length:=by simp[qi9]
 refine⟨(),0,Nat.zero_le _,⟨rfl,rfl⟩,λi hi=>⟨λhlt=>?_,λhge=>?_⟩⟩
 ·have h3:=h.big i hlt
  unfold qf3 BIG at h3
  refine⟨hlt,qa8 (by omega) (by omega),by rw[List.length_take]; omega,qa8 (by omega) (by omega),i+1,by omega,by omega,by omega,?_⟩
  rw[q2j _ i (by omega),qh9 (qi9 l n) i (by omega),qh9 l i hlt]
  simp[qi9]
 ·rw[List.take_of_length_le (by omega)]
def qz6 (r p:List Int) (j:Nat):List Int:=(List.range r.length).map λk=>nI r k*nI p j-nI p k*nI r j
def qe4 (r p:List Int) (j:Nat):List Int:=qj7 (qz6 r p j)
structure w83 (r p:List Int) (j:Nat):Prop where
 len:r.length<=1000
 eq:p.length=r.length
 lt:j<r.length
 b1:∀k,k<r.length->qf3 BIG (nI r k*nI p j)
 b2:∀k,k<r.length->qf3 BIG (nI p k*nI r j)
 b3:∀k,k<r.length->qf3 BIG (nI r k*nI p j-nI p k*nI r j)
abbrev sWo:qc9:=qh6 true none [qf6,qf6,qg1] [qf6] (λx=>0<=x.2.2.1/\w83 x.1 x.2.1 x.2.2.1.toNat) (λx=>(qe4 x.1 x.2.1 x.2.2.1.toNat,()))
def x4g (r p:List Int) (j:Nat):Nat->Option Inv
 | 0=>some (Inv.of [7,11] 1 (λk:Nat=>[(7,.own 0),(11,.lit (.int .i64 k))]) (λk=>[.vec 3 (.int .i64) ((qz6 r p j).take k)]) (λk=>k<=r.length) (λk=>r.length-k))
 | _=>none
theorem w84:qe1 Try.prog 158 sWo:=by
 refine meets (snd (SpecsOk.cons q2k (SpecsOk.nil _))) Try.func158 rfl rfl (λx=>x4g x.1 x.2.1 x.2.2.1.toNat) (λ_=>by kernel_rfl) (by decide) ?_
 rintro⟨r,p,j,⟨⟩⟩ h
 revert r p j
 intro(r:List Int) (p:List Int) (j:Int) (h:0<=j/\w83 r p j.toNat)
 refine qe6 (B:=∃(v0:Unit),∃(v1:Nat),Nat.le v1 (List.length r)/\((True/\(0:Int)=(↑v1:Int)/\True)/\List.take v1 (qz6 r p (Int.toNat j))=[]/\True)/\∀(v2:Nat),Nat.le v2 (List.length r)->(decide ((↑v2:Int)<(↑(List.length r):Int))=true->((0:Int)<=(↑v2:Int)/\(↑v2:Int)<(↑(List.length r):Int))/\((0:Int)<=j/\j<(↑(List.length p):Int))/\fits .i64 (qa3 (Ty.int .i64) r (Int.toNat (↑v2:Int))*qa3 (Ty.int .i64) p (Int.toNat j))/\((0:Int)<=(↑v2:Int)/\(↑v2:Int)<(↑(List.length p):Int))/\((0:Int)<=j/\j<(↑(List.length r):Int))/\fits .i64 (qa3 (Ty.int .i64) p (Int.toNat (↑v2:Int))*qa3 (Ty.int .i64) r (Int.toNat j))/\fits .i64 (qa3 (Ty.int .i64) r (Int.toNat (↑v2:Int))*qa3 (Ty.int .i64) p (Int.toNat j)-qa3 (Ty.int .i64) p (Int.toNat (↑v2:Int))*qa3 (Ty.int .i64) r (Int.toNat j))/\((0:Nat)<List.length [qa3 (Ty.int .i64) r (Int.toNat (↑v2:Int))*qa3 (Ty.int .i64) p (Int.toNat j)-qa3 (Ty.int .i64) p (Int.toNat (↑v2:Int))*qa3 (Ty.int .i64) r (Int.toNat j)]/\Nat.le (List.length (List.take v2 (qz6 r p (Int.toNat j)))+List.length [qa3 (Ty.int .i64) r (Int.toNat (↑v2:Int))*qa3 (Ty.int .i64) p (Int.toNat j)-qa3 (Ty.int .i64) p (Int.toNat (↑v2:Int))*qa3 (Ty.int .i64) r (Int.toNat j)]) (1000000:Nat))/\fits .i64 ((↑v2:Int)+(1:Int))/\∃(v5:Nat),Nat.le v5 (List.length r)/\List.length r-v5<List.length r-v2/\(True/\(↑v2:Int)+(1:Int)=(↑v5:Int)/\True)/\List.take v2 (qz6 r p (Int.toNat j))++[qa3 (Ty.int .i64) r (Int.toNat (↑v2:Int))*qa3 (Ty.int .i64) p (Int.toNat j)-qa3 (Ty.int .i64) p (Int.toNat (↑v2:Int))*qa3 (Ty.int .i64) r (Int.toNat j)]=List.take v5 (qz6 r p (Int.toNat j))/\True)/\(decide ((↑v2:Int)<(↑(List.length r):Int))=false->q3x (List.take v2 (qz6 r p (Int.toNat j)))/\qj7 (List.take v2 (qz6 r p (Int.toNat j)))=qe4 r p (Int.toNat j))) (by kernel_rfl) ?_
 try simp only[z0,z1,z2,z3,z4,z5,z6,z7,z8,z9,z10,Int.reduceEq,z11,z12,z13,z14,z15,z16,z17,z18,z19,z20,z21,z22,z23,z24,z25,z26,z27,z28,z29,z30,Int.reduceLE,Int.reduceLT,z31,z32,z33,z34,qa4]
 try simp only[qb8,qb9,qd2,List.set_cons_zero,List.cons.injEq,and_true,true_and]
 obtain⟨hj,h⟩:=h
 have hlen:=h.len
 have heq:=h.eq
 have hlt':=h.lt
 have hpl:(qz6 r p j.toNat).length=r.length:=by simp[qz6]
 have hpk:0<=j/\j<(p.length:Int):=⟨hj,by omega⟩
 have hrk:0<=j/\j<(r.length:Int):=⟨hj,by omega⟩
 have hat:∀k,k<r.length->nI (qz6 r p j.toNat) k=nI r k*nI p j.toNat-nI p k*nI r j.toNat:=λk hk=>by
  rw[qh9 _ k (by omega)]; simp[qz6]
 refine⟨(),0,Nat.zero_le _,⟨rfl,rfl⟩,λi hi=>⟨λhlt=>?_,λhge=>?_⟩⟩
 ·have h1:=h.b1 i hlt
  have h2:=h.b2 i hlt
  have h3:=h.b3 i hlt
  unfold qf3 BIG at h1 h2 h3
  refine⟨hlt,hpk,qa8 (by omega) (by omega),by omega,hrk,qa8 (by omega) (by omega),qa8 (by omega) (by omega),by rw[List.length_take]; omega,qa8 (by omega) (by omega),i+1,by omega,by omega,by omega,?_⟩
  rw[q2j _ i (by omega),hat i hlt]
 ·rw[List.take_of_length_le (by omega)]
  refine⟨⟨by omega,λx hx=>?_⟩,rfl⟩
  obtain⟨k,hk,rfl⟩:=List.getElem_of_mem hx
  rw[<- qh9 _ k hk,hat k (by omega)]
  exact h.b3 k (by omega)
def xh2 (n d:Int):Int × Int:=(n.tdiv (qf8 n d),d.tdiv (qf8 n d))
end Go.Proofs.Ytdibdlelmkcccaa
