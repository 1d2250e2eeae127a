/- Rows with chosen columns: contracts by the engine. No condition. -/
import Derived.Test.YtdibdlelmkcccaaV6
set_option linter.unusedVariables false
set_option linter.unusedSimpArgs false
namespace Go.Proofs.Ytdibdlelmkcccaa
open Go Go.RowKit Eng
theorem xl0 (l:List Int) (k:Nat) (hk:k<l.length):l.take (k+1)=l.take k++[nI l k]:=by
 rw[List.take_add_one,List.getElem?_eq_getElem hk,qi5 l k hk]; rfl
def q1y (n:Nat):List Int:=(List.range n).map λi:Nat=>(i:Int)
theorem w5s (n:Nat):q1y (n+1)=q1y n++[(n:Int)]:=by simp[q1y,List.range_succ]
theorem qr1 (n:Nat):(q1y n).length=n:=by simp[q1y]
theorem q91 (n i:Nat) (h:i<n):nI (q1y n) i=i:=by rw[qi5 _ _ (by rw[qr1]; exact h)]; simp[q1y]
abbrev x6m:qc7:=q9v (q9u [qg4]) true (some 3) .none (λx=>x.1<=100000) (λx=>.dat (.int .i64) (q1y x.1.toNat))
def x1z (n:Nat):Nat->Option Inv
 | 0=>some (Inv.of [3,6] 1 (λk:Nat=>[(3,.own 0),(6,.lit (.int .i64 k))]) (λk=>[.vec 3 (.int .i64) (q1y k)]) (λk=>k<=n) (λk=>n-k))
 | _=>none
theorem wh7:qd8 Try.prog 111 x6m:=by
 refine q72 (snd (SpecsOk.nil _)) Try.func111 rfl rfl (q0y [qg4]) (λx=>x1z x.1.toNat) (λ_=>by kernel_rfl) (by decide) ?_
 rintro⟨n,⟨⟩⟩ h
 revert n
 intro(n:Int) (h:n<=100000)
 refine @qe0 _ (∃(v0:Unit),∃(v1:Nat),Nat.le v1 (Int.toNat n)/\((True/\(0:Int)=(↑v1:Int)/\True)/\q1y v1=[]/\True)/\∀(v2:Nat),Nat.le v2 (Int.toNat n)->(decide ((↑v2:Int)<n)=true->((0:Nat)<List.length [(↑v2:Int)]/\Nat.le (List.length (q1y v2)+List.length [(↑v2:Int)]) (1000000:Nat))/\fits .i64 ((↑v2:Int)+(1:Int))/\∃(v5:Nat),Nat.le v5 (Int.toNat n)/\Int.toNat n-v5<Int.toNat n-v2/\(True/\(↑v2:Int)+(1:Int)=(↑v5:Int)/\True)/\q1y v2++[(↑v2:Int)]=q1y v5/\True)/\(decide ((↑v2:Int)<n)=false->q1y v2=q1y (Int.toNat n))) (by kernel_rfl) ?_
 try simp only[z0,z1,z2,z3,z4,z5,z6,z7,z8,z9,z10,Int.reduceEq,z11,z12,z13,z14,z15,z16,z17,z18,z19,z20,z21,z22,z23,z24,z25,z26,z27,z28,z29,z30,Int.reduceLE,Int.reduceLT,z31,z32,z33,z34,qa3]
 try simp only[qb3,qb4,qc8,List.set_cons_zero,List.cons.injEq,and_true,true_and]
 refine⟨(),0,Nat.zero_le _,⟨rfl,rfl⟩,λk hk=>⟨λhlt=>⟨by rw[qr1]; omega,qb9 (by omega) (by omega),k+1,by omega,by omega,by omega,(w5s k).symm⟩,λhge=>?_⟩⟩
 rw[show n.toNat=k by omega]
abbrev xl1:qc7:=qg3 true none [qg4] [qf7] (λ_=>True) (λ_=>([],()))
theorem q76:qd8 Try.prog 148 xl1:=by
 refine meets (snd (SpecsOk.nil _)) Try.func148 rfl rfl (λ_ _=>none) (λ_=>by kernel_rfl) (by decide) ?_
 rintro⟨n,⟨⟩⟩ -
 revert n
 intro(n:Int)
 refine @qe0 _ (xr1 Int) (by kernel_rfl) ?_
 try simp only[z0,z1,z2,z3,z4,z5,z6,z7,z8,z9,z10,Int.reduceEq,z11,z12,z13,z14,z15,z16,z17,z18,z19,z20,z21,z22,z23,z24,z25,z26,z27,z28,z29,z30,Int.reduceLE,Int.reduceLT,z31,z32,z33,z34,qa3]
 try simp only[qb3,qb4,qc8,List.set_cons_zero,List.cons.injEq,and_true,true_and]
abbrev xu4:qc7:=hspec [] true none [.d qg4,.cap qf7] [qf7] (λx=>0<=x.1/\x.1<x.2.1.length) (λx=>([nI x.2.1 x.1.toNat],()))
theorem w14:qd8 Try.prog 115 xu4:=by
 refine qs5 (SpecsOk.nil _) (x56 [8] (SpecsOk.nil _)) Try.func115 rfl rfl (λ_ _=>none) (λ_=>by kernel_rfl) (by decide) ?_
 rintro⟨n,y,⟨⟩⟩ h
 revert n y
 intro(n:Int) (y:List Int) (h:0<=n/\n<y.length)
 refine @qe0 _ (((0:Int)<=n/\n<(↑(List.length y):Int))/\[qa1 (Ty.int .i64) y (Int.toNat n)]=[nI y (Int.toNat n)]) (by kernel_rfl) ?_
 try simp only[z0,z1,z2,z3,z4,z5,z6,z7,z8,z9,z10,Int.reduceEq,z11,z12,z13,z14,z15,z16,z17,z18,z19,z20,z21,z22,z23,z24,z25,z26,z27,z28,z29,z30,Int.reduceLE,Int.reduceLT,z31,z32,z33,z34,qa3]
 try simp only[qb3,qb4,qc8,List.set_cons_zero,List.cons.injEq,and_true,true_and]
 exact h
def qu8 (r pix:List Int):List Int:=pix.map λp=>nI r p.toNat
def qa9 (m:List (List Int)) (pix:List Int) (f:Int->List Int):List (List Int):=(List.range m.length).map λi=>qu8 (nL m i) pix++f i
structure ChoOk (m:List (List Int)) (pix:List Int) (p:qa6 [.int .i64]->Prop) (f:qa6 [.int .i64]->List Int):Prop where
 rows:m.length<=10000
 cols:pix.length<=10000
 at_:∀i,i<m.length->∀j,j<pix.length->0<=nI pix j/\nI pix j<(nL m i).length
 fn:∀i:Nat,i<m.length->p ((i:Int),())/\(f ((i:Int),())).length<=10000
theorem qn4 (r pix:List Int):(qu8 r pix).length=pix.length:=by simp[qu8]
theorem q4s (r pix:List Int) (j:Nat) (hj:j<pix.length):nI (qu8 r pix) j=nI r (nI pix j).toNat:=by
 rw[qi5 _ _ (by rw[qn4]; exact hj),qi5 pix j hj]; simp[qu8]
theorem qm2 (m:List (List Int)) (pix:List Int) (f:Int->List Int):(qa9 m pix f).length=m.length:=by simp[qa9]
theorem q77 (m:List (List Int)) (pix:List Int) (f:Int->List Int) (i:Nat) (hi:i<m.length):nL (qa9 m pix f) i=qu8 (nL m i) pix++f i:=by
 rw[qq0 _ _ (by rw[qm2]; exact hi)]; simp[qa9]
theorem takeL_snoc (m:List (List Int)) (k:Nat) (hk:k<m.length):m.take (k+1)=m.take k++[nL m k]:=by
 rw[List.take_add_one,List.getElem?_eq_getElem hk,qq0 m k hk]; rfl
abbrev x6n (fs:List (Nat × qc7)):qc7:=q9v (w5b fs [.d ql6,.d qf7,.fn [qg4] qf7]) true (some 24) (some 3) (λx=>ChoOk x.1 x.2.1 x.2.2.1.1 x.2.2.1.2) (λx=>.dat (.list (.int .i64)) (qa9 x.1 x.2.1 λi=>x.2.2.1.2 (i,())))
def x13 (m:List (List Int)) (pix:List Int) (f:Int->List Int):Nat->Option Inv
 | 0=>some (Inv.of [7,15] 1 (λk:Nat=>[(7,.msl 0 .none),(15,.lit (.int .i64 k))]) (λk=>[.mat 24 3 (.int .i64) ((qa9 m pix f).take k) .none .none]) (λk=>k<=m.length) (λk=>m.length-k))
 | 1=>some (Eng.Inv.mk Nat Nat [7,10,22] 2 (λ_ j=>[(7,.msl 0 .none),(10,.own 1),(22,.lit (.int .i64 j))]) (λk j=>[.mat 24 3 (.int .i64) ((qa9 m pix f).take k) .none .none,.vec 3 (.int .i64) ((qu8 (nL m k) pix).take j)]) (λ_ j=>j<=pix.length) (λ_ j=>pix.length-j))
 | _=>none
theorem q53 {fs:List (Nat × qc7)} (hfs:SpecsOk Try.prog fs):qd8 Try.prog 114 (x6n fs):=by
 refine q72 (x1q [40] [39] (SpecsOk.nil _)) Try.func114 rfl rfl (wx6 hfs [.d ql6,.d qf7,.fn [qg4] qf7]) (λx=>x13 x.1 x.2.1 λi=>x.2.2.1.2 (i,())) (λ_=>by kernel_rfl) (show 3<=_ by decide) ?_
 rintro⟨m,pix,⟨p,f⟩,⟨⟩⟩ h
 revert m pix p f
 intro(m:List (List Int)) (pix:List Int) (p:qa6 [.int .i64]->Prop) (f:qa6 [.int .i64]->List Int) (h:ChoOk m pix p f)
 refine @qe0 _ (∃(v0:Unit),∃(v1:Nat),Nat.le v1 (List.length m)/\((True/\(0:Int)=(↑v1:Int)/\True)/\List.take v1 (qa9 m pix λ(v2:Int)=>f (v2,()))=[]/\True)/\∀(v2:Nat),Nat.le v2 (List.length m)->(decide ((↑v2:Int)<(↑(List.length m):Int))=true->((0:Int)<=(↑v2:Int)/\(↑v2:Int)<(↑(List.length m):Int))/\∃(v5:Nat),∃(v6:Nat),Nat.le v6 (List.length pix)/\((True/\True/\(0:Int)=(↑v6:Int)/\True)/\(List.take v2 (qa9 m pix λ(v7:Int)=>f (v7,()))=List.take v5 (qa9 m pix λ(v7:Int)=>f (v7,()))/\True/\True)/\List.take v6 (qu8 (nL m v5) pix)=[]/\True)/\∀(v7:Nat),Nat.le v7 (List.length pix)->(decide ((↑v7:Int)<(↑(List.length pix):Int))=true->((0:Int)<=(↑v7:Int)/\(↑v7:Int)<(↑(List.length pix):Int))/\((0:Int)<=qa1 (Ty.int .i64) pix (Int.toNat (↑v7:Int))/\qa1 (Ty.int .i64) pix (Int.toNat (↑v7:Int))<(↑(List.length (qa1 (Ty.list (Ty.int .i64)) m (Int.toNat (↑v2:Int)))):Int))/\((0:Nat)<List.length [qa1 (Ty.int .i64) (qa1 (Ty.list (Ty.int .i64)) m (Int.toNat (↑v2:Int))) (Int.toNat (qa1 (Ty.int .i64) pix (Int.toNat (↑v7:Int))))]/\Nat.le (List.length (List.take v7 (qu8 (nL m v5) pix))+List.length [qa1 (Ty.int .i64) (qa1 (Ty.list (Ty.int .i64)) m (Int.toNat (↑v2:Int))) (Int.toNat (qa1 (Ty.int .i64) pix (Int.toNat (↑v7:Int))))]) (1000000:Nat))/\fits .i64 ((↑v7:Int)+(1:Int))/\∃(v10:Nat),Nat.le v10 (List.length pix)/\List.length pix-v10<List.length pix-v7/\(True/\True/\(↑v7:Int)+(1:Int)=(↑v10:Int)/\True)/\(List.take v5 (qa9 m pix λ(v11:Int)=>f (v11,()))=List.take v5 (qa9 m pix λ(v11:Int)=>f (v11,()))/\True/\True)/\List.take v7 (qu8 (nL m v5) pix)++[qa1 (Ty.int .i64) (qa1 (Ty.list (Ty.int .i64)) m (Int.toNat (↑v2:Int))) (Int.toNat (qa1 (Ty.int .i64) pix (Int.toNat (↑v7:Int))))]=List.take v10 (qu8 (nL m v5) pix)/\True)/\(decide ((↑v7:Int)<(↑(List.length pix):Int))=false->p ((↑v2:Int),())/\Nat.le (List.length (List.take v7 (qu8 (nL m v5) pix))+List.length (f ((↑v2:Int),()))) (1000000:Nat)/\((0:Nat)<(0:Nat)+(1:Nat)/\List.length (List.take v5 (qa9 m pix λ(v10:Int)=>f (v10,())))+((0:Nat)+(1:Nat))<=(1000000:Nat))/\fits .i64 ((↑v2:Int)+(1:Int))/\∃(v10:Nat),Nat.le v10 (List.length m)/\List.length m-v10<List.length m-v2/\(True/\(↑v2:Int)+(1:Int)=(↑v10:Int)/\True)/\(List.take v5 (qa9 m pix λ(v11:Int)=>f (v11,()))++[List.take v7 (qu8 (nL m v5) pix)++f ((↑v2:Int),())]=List.take v10 (qa9 m pix λ(v11:Int)=>f (v11,()))/\True/\True)/\True))/\(decide ((↑v2:Int)<(↑(List.length m):Int))=false->List.take v2 (qa9 m pix λ(v5:Int)=>f (v5,()))=qa9 m pix λ(v5:Int)=>f (v5,()))) (by kernel_rfl) ?_
 try simp only[z0,z1,z2,z3,z4,z5,z6,z7,z8,z9,z10,Int.reduceEq,z11,z12,z13,z14,z15,z16,z17,z18,z19,z20,z21,z22,z23,z24,z25,z26,z27,z28,z29,z30,Int.reduceLE,Int.reduceLT,z31,z32,z33,z34,qa3]
 try simp only[qb3,qb4,qc8,List.set_cons_zero,List.cons.injEq,and_true,true_and]
 have hr:=h.rows
 have hc:=h.cols
 have hl:=qm2 m pix λi=>f (i,())
 refine⟨(),0,Nat.zero_le _,⟨rfl,rfl⟩,λk hk=>⟨λhlt=>⟨hlt,k,0,Nat.zero_le _,⟨rfl,rfl,rfl⟩,λj hj=>⟨λhj2=>?_,λhj2=>?_⟩⟩,λhge=>?_⟩⟩
 ·have h1:=qn4 (nL m k) pix
  refine⟨hj2,h.at_ k hlt j hj2,by rw[List.length_take]; omega,qb9 (by omega) (by omega),j+1,by omega,by omega,by omega,?_⟩
  rw[xl0 _ j (by omega),q4s _ _ _ hj2]
 ·obtain rfl:j=pix.length:=by omega
  have h1:=qn4 (nL m k) pix
  have h2:=h.fn k hlt
  have h3:(qu8 (nL m k) pix).take pix.length=qu8 (nL m k) pix:=List.take_of_length_le (by omega)
  rw[h3]
  refine⟨h2.1,by omega,by rw[List.length_take]; omega,qb9 (by omega) (by omega),k+1,by omega,by omega,by omega,?_⟩
  rw[takeL_snoc _ k (by omega),q77 _ _ _ _ hlt]
 ·rw[List.take_of_length_le (by omega)]
end Go.Proofs.Ytdibdlelmkcccaa
