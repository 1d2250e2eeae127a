/- Rows with chosen columns: contracts by the engine. No condition. -/
import Derived.Test.YtempacilejhbgaaV6
set_option linter.unusedVariables false
set_option linter.unusedSimpArgs false
namespace Go.Proofs.Ytempacilejhbgaa
open Go Go.RowKit Eng
theorem xb1 (l:List Int) (k:Nat) (hk:k<l.length):l.take (k+1)=l.take k++[nI l k]:=by
 rw[List.take_add_one,List.getElem?_eq_getElem hk,qg6 l k hk]; rfl
def qm5 (n:Nat):List Int:=(List.range n).map λi:Nat=>(i:Int)
theorem w3l (n:Nat):qm5 (n+1)=qm5 n++[(n:Int)]:=by simp[qm5,List.range_succ]
theorem qe4 (n:Nat):(qm5 n).length=n:=by simp[qm5]
theorem qy5 (n i:Nat) (h:i<n):nI (qm5 n) i=i:=by rw[qg6 _ _ (by rw[qe4]; exact h)]; simp[qm5]
abbrev xz8:qc7:=wa9 (q3j [qe3]) true (some 3) .none (λx=>x.1<=100000) (λx=>.dat (.int .i64) (qm5 x.1.toNat))
def xq1 (n:Nat):Nat->Option Inv
 | 0=>some (Inv.of [3,6] 1 (λk:Nat=>[(3,.own 0),(6,.lit (.int .i64 k))]) (λk=>[.vec 3 (.int .i64) (qm5 k)]) (λk=>k<=n) (λk=>n-k))
 | _=>none
theorem q5b:qe6 Try.prog 62 xz8:=by
 refine wb1 (snd (SpecsOk.nil _)) Try.func62 rfl rfl (qr6 [qe3]) (λx=>xq1 x.1.toNat) (λ_=>by kernel_rfl) (by decide) ?_
 rintro⟨n,⟨⟩⟩ h
 revert n
 intro(n:Int) (h:n<=100000)
 refine @qe9 _ (let Q0:=Int.toNat n; ∃(v0:Unit),∃(v1:Nat),Nat.le v1 Q0/\((True/\(0:Int)=(↑v1:Int)/\True)/\qm5 v1=[]/\True)/\∀(v2:Nat),Nat.le v2 Q0->(decide ((↑v2:Int)<n)=true->((0:Nat)<List.length [(↑v2:Int)]/\Nat.le (List.length (qm5 v2)+List.length [(↑v2:Int)]) (1000000:Nat))/\fits .i64 ((↑v2:Int)+(1:Int))/\∃(v5:Nat),Nat.le v5 Q0/\Int.toNat n-v5<Int.toNat n-v2/\(True/\(↑v2:Int)+(1:Int)=(↑v5:Int)/\True)/\qm5 v2++[(↑v2:Int)]=qm5 v5/\True)/\(decide ((↑v2:Int)<n)=false->qm5 v2=qm5 Q0)) (by kernel_rfl) ?_
 try simp only[z0,z1,z2,z3,z4,z5,z6,z7,z8,z9,z10,Int.reduceEq,z11,z12,z13,z14,z15,z16,z17,z18,z19,z20,z21,z22,z23,z24,z25,z26,z27,z28,z29,z30,Int.reduceLE,Int.reduceLT,z31,z32,z33,z34,qa6]
 try simp only[qb5,qb6,qd0,List.set_cons_zero,List.cons.injEq,and_true,true_and]
 refine⟨(),0,Nat.zero_le _,⟨rfl,rfl⟩,λk hk=>⟨λhlt=>⟨by rw[qe4]; omega,qb9 (by omega) (by omega),k+1,by omega,by omega,by omega,(w3l k).symm⟩,λhge=>?_⟩⟩
 rw[show n.toNat=k by omega]
abbrev xb3:qc7:=qh6 true none [qe3] [qf8] (λ_=>True) (λ_=>([],()))
theorem q7b:qe6 Try.prog 68 xb3:=by
 refine meets (snd (SpecsOk.nil _)) Try.func68 rfl rfl (λ_ _=>none) (λ_=>by kernel_rfl) (by decide) ?_
 rintro⟨n,⟨⟩⟩ -
 revert n
 intro(n:Int)
 refine @qe9 _ (xf8 Int) (by kernel_rfl) ?_
 try simp only[z0,z1,z2,z3,z4,z5,z6,z7,z8,z9,z10,Int.reduceEq,z11,z12,z13,z14,z15,z16,z17,z18,z19,z20,z21,z22,z23,z24,z25,z26,z27,z28,z29,z30,Int.reduceLE,Int.reduceLT,z31,z32,z33,z34,qa6]
 try simp only[qb5,qb6,qd0,List.set_cons_zero,List.cons.injEq,and_true,true_and]
def qy6 (r pix:List Int):List Int:=pix.map λp=>nI r p.toNat
def qb7 (m:List (List Int)) (pix:List Int) (f:Int->List Int):List (List Int):=(List.range m.length).map λi=>qy6 (nL m i) pix++f i
structure ChoOk (m:List (List Int)) (pix:List Int) (p:qa5 [.int .i64]->Prop) (f:qa5 [.int .i64]->List Int):Prop where
 rows:m.length<=10000
 cols:pix.length<=10000
 at_:∀i,i<m.length->∀j,j<pix.length->0<=nI pix j/\nI pix j<(nL m i).length
 fn:∀i:Nat,i<m.length->p ((i:Int),())/\(f ((i:Int),())).length<=10000
theorem q1y (r pix:List Int):(qy6 r pix).length=pix.length:=by simp[qy6]
theorem qw3 (r pix:List Int) (j:Nat) (hj:j<pix.length):nI (qy6 r pix) j=nI r (nI pix j).toNat:=by
 rw[qg6 _ _ (by rw[q1y]; exact hj),qg6 pix j hj]; simp[qy6]
theorem q04 (m:List (List Int)) (pix:List Int) (f:Int->List Int):(qb7 m pix f).length=m.length:=by simp[qb7]
theorem wz8 (m:List (List Int)) (pix:List Int) (f:Int->List Int) (i:Nat) (hi:i<m.length):nL (qb7 m pix f) i=qy6 (nL m i) pix++f i:=by
 rw[ql9 _ _ (by rw[q04]; exact hi)]; simp[qb7]
theorem takeL_snoc (m:List (List Int)) (k:Nat) (hk:k<m.length):m.take (k+1)=m.take k++[nL m k]:=by
 rw[List.take_add_one,List.getElem?_eq_getElem hk,ql9 m k hk]; rfl
abbrev xz9 (fs:List (Nat × qc7)):qc7:=wa9 (wb3 fs [.d ql8,.d qf8,.fn [qe3] qf8]) true (some 24) (some 3) (λx=>ChoOk x.1 x.2.1 x.2.2.1.1 x.2.2.1.2) (λx=>.dat (.list (.int .i64)) (qb7 x.1 x.2.1 λi=>x.2.2.1.2 (i,())))
def xq2 (m:List (List Int)) (pix:List Int) (f:Int->List Int):Nat->Option Inv
 | 0=>some (Inv.of [7,15] 1 (λk:Nat=>[(7,.msl 0 .none),(15,.lit (.int .i64 k))]) (λk=>[.mat 24 3 (.int .i64) ((qb7 m pix f).take k) .none .none]) (λk=>k<=m.length) (λk=>m.length-k))
 | 1=>some (Eng.Inv.mk Nat Nat [7,10,22] 2 (λ_ j=>[(7,.msl 0 .none),(10,.own 1),(22,.lit (.int .i64 j))]) (λk j=>[.mat 24 3 (.int .i64) ((qb7 m pix f).take k) .none .none,.vec 3 (.int .i64) ((qy6 (nL m k) pix).take j)]) (λ_ j=>j<=pix.length) (λ_ j=>pix.length-j))
 | _=>none
theorem wc2 {fs:List (Nat × qc7)} (hfs:SpecsOk Try.prog fs):qe6 Try.prog 67 (xz9 fs):=by
 refine wb1 (xo8 [40] [39] (SpecsOk.nil _)) Try.func67 rfl rfl (q1u hfs [.d ql8,.d qf8,.fn [qe3] qf8]) (λx=>xq2 x.1 x.2.1 λi=>x.2.2.1.2 (i,())) (λ_=>by kernel_rfl) (show 3<=_ by decide) ?_
 rintro⟨m,pix,⟨p,f⟩,⟨⟩⟩ h
 revert m pix p f
 intro(m:List (List Int)) (pix:List Int) (p:qa5 [.int .i64]->Prop) (f:qa5 [.int .i64]->List Int) (h:ChoOk m pix p f)
 refine @qe9 _ (let Q0:=List.length pix; let Q1:=List.length m; ∃(v0:Unit),∃(v1:Nat),Nat.le v1 Q1/\((True/\(0:Int)=(↑v1:Int)/\True)/\List.take v1 (qb7 m pix λ(v2:Int)=>f (v2,()))=[]/\True)/\∀(v2:Nat),Nat.le v2 Q1->(decide ((↑v2:Int)<(↑Q1:Int))=true->((0:Int)<=(↑v2:Int)/\(↑v2:Int)<(↑Q1:Int))/\∃(v5:Nat),∃(v6:Nat),Nat.le v6 Q0/\((True/\True/\(0:Int)=(↑v6:Int)/\True)/\(List.take v2 (qb7 m pix λ(v7:Int)=>f (v7,()))=List.take v5 (qb7 m pix λ(v7:Int)=>f (v7,()))/\True/\True)/\List.take v6 (qy6 (nL m v5) pix)=[]/\True)/\∀(v7:Nat),Nat.le v7 Q0->(decide ((↑v7:Int)<(↑Q0:Int))=true->((0:Int)<=(↑v7:Int)/\(↑v7:Int)<(↑Q0:Int))/\((0:Int)<=qa3 (Ty.int .i64) pix (Int.toNat (↑v7:Int))/\qa3 (Ty.int .i64) pix (Int.toNat (↑v7:Int))<(↑(List.length (qa3 (Ty.list (Ty.int .i64)) m (Int.toNat (↑v2:Int)))):Int))/\((0:Nat)<List.length [qa3 (Ty.int .i64) (qa3 (Ty.list (Ty.int .i64)) m (Int.toNat (↑v2:Int))) (Int.toNat (qa3 (Ty.int .i64) pix (Int.toNat (↑v7:Int))))]/\Nat.le (List.length (List.take v7 (qy6 (nL m v5) pix))+List.length [qa3 (Ty.int .i64) (qa3 (Ty.list (Ty.int .i64)) m (Int.toNat (↑v2:Int))) (Int.toNat (qa3 (Ty.int .i64) pix (Int.toNat (↑v7:Int))))]) (1000000:Nat))/\fits .i64 ((↑v7:Int)+(1:Int))/\∃(v10:Nat),Nat.le v10 Q0/\List.length pix-v10<List.length pix-v7/\(True/\True/\(↑v7:Int)+(1:Int)=(↑v10:Int)/\True)/\(List.take v5 (qb7 m pix λ(v11:Int)=>f (v11,()))=List.take v5 (qb7 m pix λ(v11:Int)=>f (v11,()))/\True/\True)/\List.take v7 (qy6 (nL m v5) pix)++[qa3 (Ty.int .i64) (qa3 (Ty.list (Ty.int .i64)) m (Int.toNat (↑v2:Int))) (Int.toNat (qa3 (Ty.int .i64) pix (Int.toNat (↑v7:Int))))]=List.take v10 (qy6 (nL m v5) pix)/\True)/\(decide ((↑v7:Int)<(↑Q0:Int))=false->p ((↑v2:Int),())/\Nat.le (List.length (List.take v7 (qy6 (nL m v5) pix))+List.length (f ((↑v2:Int),()))) (1000000:Nat)/\((0:Nat)<(0:Nat)+(1:Nat)/\List.length (List.take v5 (qb7 m pix λ(v10:Int)=>f (v10,())))+((0:Nat)+(1:Nat))<=(1000000:Nat))/\fits .i64 ((↑v2:Int)+(1:Int))/\∃(v10:Nat),Nat.le v10 Q1/\List.length m-v10<List.length m-v2/\(True/\(↑v2:Int)+(1:Int)=(↑v10:Int)/\True)/\(List.take v5 (qb7 m pix λ(v11:Int)=>f (v11,()))++[List.take v7 (qy6 (nL m v5) pix)++f ((↑v2:Int),())]=List.take v10 (qb7 m pix λ(v11:Int)=>f (v11,()))/\True/\True)/\True))/\(decide ((↑v2:Int)<(↑Q1:Int))=false->List.take v2 (qb7 m pix λ(v5:Int)=>f (v5,()))=qb7 m pix λ(v5:Int)=>f (v5,()))) (by kernel_rfl) ?_
 try simp only[z0,z1,z2,z3,z4,z5,z6,z7,z8,z9,z10,Int.reduceEq,z11,z12,z13,z14,z15,z16,z17,z18,z19,z20,z21,z22,z23,z24,z25,z26,z27,z28,z29,z30,Int.reduceLE,Int.reduceLT,z31,z32,z33,z34,qa6]
 try simp only[qb5,qb6,qd0,List.set_cons_zero,List.cons.injEq,and_true,true_and]
 have hr:=h.rows
 have hc:=h.cols
 have hl:=q04 m pix λi=>f (i,())
 refine⟨(),0,Nat.zero_le _,⟨rfl,rfl⟩,λk hk=>⟨λhlt=>⟨hlt,k,0,Nat.zero_le _,⟨rfl,rfl,rfl⟩,λj hj=>⟨λhj2=>?_,λhj2=>?_⟩⟩,λhge=>?_⟩⟩
 ·have h1:=q1y (nL m k) pix
  refine⟨hj2,h.at_ k hlt j hj2,by rw[List.length_take]; omega,qb9 (by omega) (by omega),j+1,by omega,by omega,by omega,?_⟩
  rw[xb1 _ j (by omega),qw3 _ _ _ hj2]
 ·obtain rfl:j=pix.length:=by omega
  have h1:=q1y (nL m k) pix
  have h2:=h.fn k hlt
  have h3:(qy6 (nL m k) pix).take pix.length=qy6 (nL m k) pix:=List.take_of_length_le (by omega)
  rw[h3]
  refine⟨h2.1,by omega,by rw[List.length_take]; omega,qb9 (by omega) (by omega),k+1,by omega,by omega,by omega,?_⟩
  rw[takeL_snoc _ k (by omega),wz8 _ _ _ _ hlt]
 ·rw[List.take_of_length_le (by omega)]
end Go.Proofs.Ytempacilejhbgaa
