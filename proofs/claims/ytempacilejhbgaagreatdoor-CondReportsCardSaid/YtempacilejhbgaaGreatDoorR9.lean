/- The order of a mask lies between the bound by coherence and the half of the least circuit. Plain mathematics. No condition. -/
import Derived.Test.YtempacilejhbgaaGreatDoorR8
import Derived.Test.YtempacilejhbgaaGreatDoorQ15
import Derived.Test.YtempacilejhbgaaGreatDoorW17
import Derived.Test.YtempacilejhbgaaGreatDoorTys
import Derived.Test.YtempacilejhbgaaGreatDoorEng3
import Derived.Test.YtempacilejhbgaaGreatDoorV0
import Derived.Test.YtempacilejhbgaaGreatDoorCore
import Derived.Test.YtempacilejhbgaaGreatDoorProg
import Derived.Test.YtempacilejhbgaaGreatDoorV4
import Derived.Test.YtempacilejhbgaaGreatDoorApp
set_option linter.unusedVariables false
set_option linter.unusedSimpArgs false
namespace Go.Proofs.YtempacilejhbgaaGreatDoor
open Go Go.RowKit Eng
abbrev xw3:qb9:=qg6 true none [q05] [.bool] (λx=>qt4 x.1) (λx=>(!(hlf x.1),()))
theorem ws4:Meets Tryz.prog 31 xw3:=by
 refine meets (snd (SpecsOk.nil _)) Tryz.func31 rfl rfl (λ_ _=>none) (λ_=>by kernel_rfl) (by decide) ?_
 rintro⟨⟨a,b⟩,⟨⟩⟩ h
 revert a b
 intro(a:Int) (b:Int) (h:qt4 (a,b))
 refine @qe7 _ (fits .i64 ((2:Int)*a)/\decide ((2:Int)*a<b)=!hlf (a,b)) (by kernel_rfl) ?_
 try simp only[z0,z1,z2,z3,z4,z5,z6,z7,z8,z9,z10,Int.reduceEq,z11,z12,z13,z14,z15,z16,z17,z18,z19,z20,z21,z22,z23,z24,z25,z26,z27,z28,z29,z30,Int.reduceLE,Int.reduceLT,z31,z32,z33,z34,qa3]
 try simp only[qb6,qb7,qc7,z31,z32,z2,z1]
 have h1:=h.n
 obtain⟨h1,h2⟩:=h1
 dsimp only at h1 h2
 refine⟨qa7 (by omega) (by omega),?_⟩
 unfold hlf
 dsimp only
 by_cases q:b<=2*a
 ·rw[decide_eq_true q,decide_eq_false (Int.not_lt.2 q)]; rfl
 ·rw[decide_eq_false q,decide_eq_true (Int.not_le.1 q)]; rfl
structure w0v (m:List (List Int)) (k:Int):Prop where
 fit:wm3 m
 v:validB m=true
 k0:0<=k
 kn:k<=(nL m 0).length
abbrev x1z (x:Int × Int):AV:=.agg (.cons (.lit (.int .i64 x.1)) (.cons (.lit (.int .i64 x.2)) .nil))
abbrev x5t:qb9:=w4z false none [tMask,tInt] (λx=>w0v x.1 x.2.1) (λx=>.tup (.cons (x1z (whR x.1 x.2.1).1) (.cons (.ndat false (.int .i64) (whR x.1 x.2.1).2.1) (.cons (.dat (.int .i64) (whR x.1 x.2.1).2.2) .nil))))
def x13 (l S:List (List Int)):Nat->Option Inv
 | 0=>some (Inv.of [5,6,16] 1 (λi:Nat=>[(5,.ndat false (.int .i64) (qk6 l S i).2.1),(6,.dat (.int .i64) (qk6 l S i).2.2),(16,.lit (.int .i64 i))]) (λi=>[.box 29 (.cons (.lit (.int .i64 (qk6 l S i).1.1)) (.cons (.lit (.int .i64 (qk6 l S i).1.2)) .nil))]) (λi=>i<=l.length) (λi=>l.length-i))
 | 1=>some (Eng.Inv.mk Nat Nat [5,6,27] 1 (λi j=>[(5,.ndat false (.int .i64) (whS (nL l i) S (qk6 l S i) j).2.1),(6,.dat (.int .i64) (whS (nL l i) S (qk6 l S i) j).2.2),(27,.lit (.int .i64 j))]) (λi j=>[.box 29 (.cons (.lit (.int .i64 (whS (nL l i) S (qk6 l S i) j).1.1)) (.cons (.lit (.int .i64 (whS (nL l i) S (qk6 l S i) j).1.2)) .nil))]) (λi j=>j<=S.length) (λi j=>S.length-j))
 | _=>none
theorem wm0:Meets Tryz.prog 18 x5t:=by
 refine wx5 (snd (SpecsOk.cons w21 (SpecsOk.cons (q7g 20) (SpecsOk.cons w2x (SpecsOk.cons w2u (SpecsOk.nil _)))))) Tryz.func18 rfl rfl (λx=>x13 (qc9 x.1).1 (qa6 (nL x.1 0).length x.2.1)) (λ_=>by kernel_rfl) (by decide) ?_
 rintro⟨m,k,⟨⟩⟩ h
 revert m k
 intro(m:List (List Int)) (k:Int) (h:w0v m k)
 refine @qe7 _ (wm3 m/\∃(v0:Unit),∃(v1:Nat),Nat.le v1 (qc9 m).1.length/\(((qk6 (qc9 m).1 (qa6 (↑(nL m (0:Nat)).length:Int) k) v1).2.1=[]/\(qk6 (qc9 m).1 (qa6 (↑(nL m (0:Nat)).length:Int) k) v1).2.2=[]/\(0:Int)=(↑v1:Int)/\True)/\((0:Int)=(qk6 (qc9 m).1 (qa6 (↑(nL m (0:Nat)).length:Int) k) v1).1.1/\(1:Int)=(qk6 (qc9 m).1 (qa6 (↑(nL m (0:Nat)).length:Int) k) v1).1.2/\True)/\True)/\∀(v2:Nat),Nat.le v2 (qc9 m).1.length->(decide ((↑v2:Int)<(↑(qc9 m).1.length:Int))=true->((0:Int)<=(↑v2:Int)/\(↑v2:Int)<(↑(qc9 m).1.length:Int))/\((0:Int)<=(0:Int)/\(0:Int)<(↑m.length:Int))/\q7f (20:Nat) (↑(nL m (0:Nat)).length:Int) k/\∃(v5:Nat),∃(v6:Nat),Nat.le v6 (qa6 (↑(nL m (0:Nat)).length:Int) k).length/\(((qk6 (qc9 m).1 (qa6 (↑(nL m (0:Nat)).length:Int) k) v2).2.1=(whS (nL (qc9 m).1 v5) (qa6 (↑(nL m (0:Nat)).length:Int) k) (qk6 (qc9 m).1 (qa6 (↑(nL m (0:Nat)).length:Int) k) v5) v6).2.1/\(qk6 (qc9 m).1 (qa6 (↑(nL m (0:Nat)).length:Int) k) v2).2.2=(whS (nL (qc9 m).1 v5) (qa6 (↑(nL m (0:Nat)).length:Int) k) (qk6 (qc9 m).1 (qa6 (↑(nL m (0:Nat)).length:Int) k) v5) v6).2.2/\(0:Int)=(↑v6:Int)/\True)/\((qk6 (qc9 m).1 (qa6 (↑(nL m (0:Nat)).length:Int) k) v2).1.1=(whS (nL (qc9 m).1 v5) (qa6 (↑(nL m (0:Nat)).length:Int) k) (qk6 (qc9 m).1 (qa6 (↑(nL m (0:Nat)).length:Int) k) v5) v6).1.1/\(qk6 (qc9 m).1 (qa6 (↑(nL m (0:Nat)).length:Int) k) v2).1.2=(whS (nL (qc9 m).1 v5) (qa6 (↑(nL m (0:Nat)).length:Int) k) (qk6 (qc9 m).1 (qa6 (↑(nL m (0:Nat)).length:Int) k) v5) v6).1.2/\True)/\True)/\∀(v7:Nat),Nat.le v7 (qa6 (↑(nL m (0:Nat)).length:Int) k).length->(decide ((↑v7:Int)<(↑(qa6 (↑(nL m (0:Nat)).length:Int) k).length:Int))=true->((0:Int)<=(↑v7:Int)/\(↑v7:Int)<(↑(qa6 (↑(nL m (0:Nat)).length:Int) k).length:Int))/\wq1 (nL (qc9 m).1 v2) (nL (qa6 (↑(nL m (0:Nat)).length:Int) k) v7)/\(List.isEmpty (whS (nL (qc9 m).1 v5) (qa6 (↑(nL m (0:Nat)).length:Int) k) (qk6 (qc9 m).1 (qa6 (↑(nL m (0:Nat)).length:Int) k) v5) v7).2.1=true->fits .i64 ((↑v7:Int)+(1:Int))/\∃(v11:Nat),Nat.le v11 (qa6 (↑(nL m (0:Nat)).length:Int) k).length/\(qa6 (↑(nL m (0:Nat)).length:Int) k).length-v11<(qa6 (↑(nL m (0:Nat)).length:Int) k).length-v7/\((nL (qc9 m).1 v2=(whS (nL (qc9 m).1 v5) (qa6 (↑(nL m (0:Nat)).length:Int) k) (qk6 (qc9 m).1 (qa6 (↑(nL m (0:Nat)).length:Int) k) v5) v11).2.1/\Nat.le (1:Nat) (nL (qc9 m).1 v2).length)/\nL (qa6 (↑(nL m (0:Nat)).length:Int) k) v7=(whS (nL (qc9 m).1 v5) (qa6 (↑(nL m (0:Nat)).length:Int) k) (qk6 (qc9 m).1 (qa6 (↑(nL m (0:Nat)).length:Int) k) v5) v11).2.2/\(↑v7:Int)+(1:Int)=(↑v11:Int)/\True)/\((shR (nL (qc9 m).1 v2) (nL (qa6 (↑(nL m (0:Nat)).length:Int) k) v7)).1=(whS (nL (qc9 m).1 v5) (qa6 (↑(nL m (0:Nat)).length:Int) k) (qk6 (qc9 m).1 (qa6 (↑(nL m (0:Nat)).length:Int) k) v5) v11).1.1/\(shR (nL (qc9 m).1 v2) (nL (qa6 (↑(nL m (0:Nat)).length:Int) k) v7)).2=(whS (nL (qc9 m).1 v5) (qa6 (↑(nL m (0:Nat)).length:Int) k) (qk6 (qc9 m).1 (qa6 (↑(nL m (0:Nat)).length:Int) k) v5) v11).1.2/\True)/\True)/\(List.isEmpty (whS (nL (qc9 m).1 v5) (qa6 (↑(nL m (0:Nat)).length:Int) k) (qk6 (qc9 m).1 (qa6 (↑(nL m (0:Nat)).length:Int) k) v5) v7).2.1=false->(qt4 ((whS (nL (qc9 m).1 v5) (qa6 (↑(nL m (0:Nat)).length:Int) k) (qk6 (qc9 m).1 (qa6 (↑(nL m (0:Nat)).length:Int) k) v5) v7).1.1,(whS (nL (qc9 m).1 v5) (qa6 (↑(nL m (0:Nat)).length:Int) k) (qk6 (qc9 m).1 (qa6 (↑(nL m (0:Nat)).length:Int) k) v5) v7).1.2)/\qt4 ((shR (nL (qc9 m).1 v2) (nL (qa6 (↑(nL m (0:Nat)).length:Int) k) v7)).1,(shR (nL (qc9 m).1 v2) (nL (qa6 (↑(nL m (0:Nat)).length:Int) k) v7)).2))/\(wj9 ((whS (nL (qc9 m).1 v5) (qa6 (↑(nL m (0:Nat)).length:Int) k) (qk6 (qc9 m).1 (qa6 (↑(nL m (0:Nat)).length:Int) k) v5) v7).1.1,(whS (nL (qc9 m).1 v5) (qa6 (↑(nL m (0:Nat)).length:Int) k) (qk6 (qc9 m).1 (qa6 (↑(nL m (0:Nat)).length:Int) k) v5) v7).1.2) ((shR (nL (qc9 m).1 v2) (nL (qa6 (↑(nL m (0:Nat)).length:Int) k) v7)).1,(shR (nL (qc9 m).1 v2) (nL (qa6 (↑(nL m (0:Nat)).length:Int) k) v7)).2)=true->fits .i64 ((↑v7:Int)+(1:Int))/\∃(v12:Nat),Nat.le v12 (qa6 (↑(nL m (0:Nat)).length:Int) k).length/\(qa6 (↑(nL m (0:Nat)).length:Int) k).length-v12<(qa6 (↑(nL m (0:Nat)).length:Int) k).length-v7/\((nL (qc9 m).1 v2=(whS (nL (qc9 m).1 v5) (qa6 (↑(nL m (0:Nat)).length:Int) k) (qk6 (qc9 m).1 (qa6 (↑(nL m (0:Nat)).length:Int) k) v5) v12).2.1/\Nat.le (1:Nat) (nL (qc9 m).1 v2).length)/\nL (qa6 (↑(nL m (0:Nat)).length:Int) k) v7=(whS (nL (qc9 m).1 v5) (qa6 (↑(nL m (0:Nat)).length:Int) k) (qk6 (qc9 m).1 (qa6 (↑(nL m (0:Nat)).length:Int) k) v5) v12).2.2/\(↑v7:Int)+(1:Int)=(↑v12:Int)/\True)/\((shR (nL (qc9 m).1 v2) (nL (qa6 (↑(nL m (0:Nat)).length:Int) k) v7)).1=(whS (nL (qc9 m).1 v5) (qa6 (↑(nL m (0:Nat)).length:Int) k) (qk6 (qc9 m).1 (qa6 (↑(nL m (0:Nat)).length:Int) k) v5) v12).1.1/\(shR (nL (qc9 m).1 v2) (nL (qa6 (↑(nL m (0:Nat)).length:Int) k) v7)).2=(whS (nL (qc9 m).1 v5) (qa6 (↑(nL m (0:Nat)).length:Int) k) (qk6 (qc9 m).1 (qa6 (↑(nL m (0:Nat)).length:Int) k) v5) v12).1.2/\True)/\True)/\(wj9 ((whS (nL (qc9 m).1 v5) (qa6 (↑(nL m (0:Nat)).length:Int) k) (qk6 (qc9 m).1 (qa6 (↑(nL m (0:Nat)).length:Int) k) v5) v7).1.1,(whS (nL (qc9 m).1 v5) (qa6 (↑(nL m (0:Nat)).length:Int) k) (qk6 (qc9 m).1 (qa6 (↑(nL m (0:Nat)).length:Int) k) v5) v7).1.2) ((shR (nL (qc9 m).1 v2) (nL (qa6 (↑(nL m (0:Nat)).length:Int) k) v7)).1,(shR (nL (qc9 m).1 v2) (nL (qa6 (↑(nL m (0:Nat)).length:Int) k) v7)).2)=false->fits .i64 ((↑v7:Int)+(1:Int))/\∃(v12:Nat),Nat.le v12 (qa6 (↑(nL m (0:Nat)).length:Int) k).length/\(qa6 (↑(nL m (0:Nat)).length:Int) k).length-v12<(qa6 (↑(nL m (0:Nat)).length:Int) k).length-v7/\((whS (nL (qc9 m).1 v5) (qa6 (↑(nL m (0:Nat)).length:Int) k) (qk6 (qc9 m).1 (qa6 (↑(nL m (0:Nat)).length:Int) k) v5) v7).2.1=(whS (nL (qc9 m).1 v5) (qa6 (↑(nL m (0:Nat)).length:Int) k) (qk6 (qc9 m).1 (qa6 (↑(nL m (0:Nat)).length:Int) k) v5) v12).2.1/\(whS (nL (qc9 m).1 v5) (qa6 (↑(nL m (0:Nat)).length:Int) k) (qk6 (qc9 m).1 (qa6 (↑(nL m (0:Nat)).length:Int) k) v5) v7).2.2=(whS (nL (qc9 m).1 v5) (qa6 (↑(nL m (0:Nat)).length:Int) k) (qk6 (qc9 m).1 (qa6 (↑(nL m (0:Nat)).length:Int) k) v5) v12).2.2/\(↑v7:Int)+(1:Int)=(↑v12:Int)/\True)/\((whS (nL (qc9 m).1 v5) (qa6 (↑(nL m (0:Nat)).length:Int) k) (qk6 (qc9 m).1 (qa6 (↑(nL m (0:Nat)).length:Int) k) v5) v7).1.1=(whS (nL (qc9 m).1 v5) (qa6 (↑(nL m (0:Nat)).length:Int) k) (qk6 (qc9 m).1 (qa6 (↑(nL m (0:Nat)).length:Int) k) v5) v12).1.1/\(whS (nL (qc9 m).1 v5) (qa6 (↑(nL m (0:Nat)).length:Int) k) (qk6 (qc9 m).1 (qa6 (↑(nL m (0:Nat)).length:Int) k) v5) v7).1.2=(whS (nL (qc9 m).1 v5) (qa6 (↑(nL m (0:Nat)).length:Int) k) (qk6 (qc9 m).1 (qa6 (↑(nL m (0:Nat)).length:Int) k) v5) v12).1.2/\True)/\True)))/\(decide ((↑v7:Int)<(↑(qa6 (↑(nL m (0:Nat)).length:Int) k).length:Int))=false->fits .i64 ((↑v2:Int)+(1:Int))/\∃(v10:Nat),Nat.le v10 (qc9 m).1.length/\(qc9 m).1.length-v10<(qc9 m).1.length-v2/\((whS (nL (qc9 m).1 v5) (qa6 (↑(nL m (0:Nat)).length:Int) k) (qk6 (qc9 m).1 (qa6 (↑(nL m (0:Nat)).length:Int) k) v5) v7).2.1=(qk6 (qc9 m).1 (qa6 (↑(nL m (0:Nat)).length:Int) k) v10).2.1/\(whS (nL (qc9 m).1 v5) (qa6 (↑(nL m (0:Nat)).length:Int) k) (qk6 (qc9 m).1 (qa6 (↑(nL m (0:Nat)).length:Int) k) v5) v7).2.2=(qk6 (qc9 m).1 (qa6 (↑(nL m (0:Nat)).length:Int) k) v10).2.2/\(↑v2:Int)+(1:Int)=(↑v10:Int)/\True)/\((whS (nL (qc9 m).1 v5) (qa6 (↑(nL m (0:Nat)).length:Int) k) (qk6 (qc9 m).1 (qa6 (↑(nL m (0:Nat)).length:Int) k) v5) v7).1.1=(qk6 (qc9 m).1 (qa6 (↑(nL m (0:Nat)).length:Int) k) v10).1.1/\(whS (nL (qc9 m).1 v5) (qa6 (↑(nL m (0:Nat)).length:Int) k) (qk6 (qc9 m).1 (qa6 (↑(nL m (0:Nat)).length:Int) k) v5) v7).1.2=(qk6 (qc9 m).1 (qa6 (↑(nL m (0:Nat)).length:Int) k) v10).1.2/\True)/\True))/\(decide ((↑v2:Int)<(↑(qc9 m).1.length:Int))=false->((qk6 (qc9 m).1 (qa6 (↑(nL m (0:Nat)).length:Int) k) v2).1.1=(whR m k).1.1/\(qk6 (qc9 m).1 (qa6 (↑(nL m (0:Nat)).length:Int) k) v2).1.2=(whR m k).1.2/\True)/\(qk6 (qc9 m).1 (qa6 (↑(nL m (0:Nat)).length:Int) k) v2).2.1=(whR m k).2.1/\(qk6 (qc9 m).1 (qa6 (↑(nL m (0:Nat)).length:Int) k) v2).2.2=(whR m k).2.2/\True)) (by kernel_rfl) ?_
 try simp only[z0,z1,z2,z3,z4,z5,z6,z7,z8,z9,z10,Int.reduceEq,z11,z12,z13,z14,z15,z16,z17,z18,z19,z20,z21,z22,z23,z24,z25,z26,z27,z28,z29,z30,Int.reduceLE,Int.reduceLT,z31,z32,z33,z34,qa3]
 try simp only[qb6,qb7,qc7,z31,z32,z2,z1]
 have h7:=h.fit.n7 h.v
 have hM:=Mk.of h.v
 have hm1:=hM.rows1
 have hm10:=hM.pix10
 have k0:=h.k0
 have kn:=h.kn
 obtain⟨k,rfl⟩:∃q:Nat,k=q:=⟨k.toNat,by omega⟩
 have hO:=x2z h.v h7 k
 have hll:=wb3 h.v
 have hSl:=q3c (nL m 0).length k hm10 (by omega)
 have hR:whR m k=qk6 (qc9 m).1 (qa6 (nL m 0).length (k:Nat)) (qc9 m).1.length:=rfl
 rw[hR]
 have hset:q7f 20 (nL m 0).length k:=⟨by omega,by omega,by omega,by omega,by omega⟩
 have hT:=ws3 hO
 generalize(qc9 m).1=l at *
 generalize qa6 (nL m 0).length (k:Nat)=S at *
 refine⟨h.fit,(),0,Nat.zero_le _,⟨⟨rfl,rfl,rfl⟩,rfl,rfl⟩,λi hi=>⟨λhlt=>?_,λhge=>?_⟩⟩
 ·refine⟨hlt,by omega,hset,i,0,Nat.zero_le _,⟨⟨rfl,rfl,rfl⟩,rfl,rfl⟩,λj hj=>⟨λhjt=>?_,λhjg=>?_⟩⟩
  ·have hs:whS (nL l i) S (qk6 l S i) (j+1)=qz0 (nL l i) (whS (nL l i) S (qk6 l S i) j) (nL S j):=rfl
   have hI:=(w7e hO hlt (hT i (by omega)) j hj).lil hO (by omega) (.inl hlt) hj
   have hsh:=hO.sh i hlt j hjt
   have hne:=hO.ne hlt hjt
   generalize whS (nL l i) S (qk6 l S i) j=w at *
   have h1:1<=(nL l i).length:=by
    cases e:nL l i with
    | nil=>rw[e] at hne; cases hne
    | cons a r=>simp
   have yes:qz0 (nL l i) w (nL S j)=(shR (nL l i) (nL S j),nL l i,nL S j)->fits IntKind.i64 (↑j+1)/\∃v11,v11<=S.length/\S.length-v11<S.length-j/\((nL l i=(whS (nL l i) S (qk6 l S i) v11).2.1/\1<=(nL l i).length)/\nL S j=(whS (nL l i) S (qk6 l S i) v11).2.2/\(↑j+1:Int)=↑v11)/\(shR (nL l i) (nL S j)).1=(whS (nL l i) S (qk6 l S i) v11).1.1/\(shR (nL l i) (nL S j)).2=(whS (nL l i) S (qk6 l S i) v11).1.2:=λe=>by
    refine⟨qa7 (by omega) (by omega),j+1,hjt,by omega,?_⟩
    rw[hs,e]
    exact⟨⟨⟨rfl,h1⟩,rfl,by push_cast; rfl⟩,rfl,rfl⟩
   refine⟨hjt,hsh,λhe=>yes ?_,λhe=>⟨⟨hI,q6p hsh⟩,λhl=>yes ?_,λhl=>?_⟩⟩
   ·unfold qz0; rw[if_pos he]
   ·unfold qz0
    rw[if_neg (by rw[he]; decide),if_pos hl]
   ·have e:qz0 (nL l i) w (nL S j)=w:=by
     unfold qz0
     rw[if_neg (by rw[he]; decide),if_neg]
     intro q
     have hl:wj9 w.1 (shR (nL l i) (nL S j))=false:=hl
     rw[hl] at q; cases q
    refine⟨qa7 (by omega) (by omega),j+1,hjt,by omega,?_⟩
    rw[hs,e]
    exact⟨⟨rfl,rfl,by push_cast; rfl⟩,rfl,rfl⟩
  ·obtain rfl:j=S.length:=by omega
   exact⟨qa7 (by omega) (by omega),i+1,hlt,by omega,⟨rfl,rfl,by push_cast; rfl⟩,rfl,rfl⟩
 ·obtain rfl:i=l.length:=by omega
  exact⟨⟨rfl,rfl⟩,rfl,rfl⟩
def xo2:List (List Int):=[[1,1,0],[0,1,1]]
def x2a (l:List (List Int)) (k:Nat):Nat->Int × Int
 | 0=>(0,1)
 | i+1=>wm2 (x2a l k i) (ofR (q4o (szV (nL l i)) ((w68 (nL l i)).take k)) (szL (nL l i)))
theorem ws5 (l:List (List Int)) (k:Nat):∀n,qg5 l k n=x2a l k n
 | 0=>rfl
 | n+1=>by
  rw[qg5,x2a,ws5 l k n]
  unfold shR
  rw[w0s]
theorem w7f:grQ xo2 1=(1,3)/\wj7 xo2 1 0=0/\qy4 xo2=(1,0):=by
 have hc:(qc9 xo2).1=[[1,-1,1]]:=by decide +kernel
 have hv:validB xo2=true:=by decide
 have hk:wj7 xo2 1 0=0:=by decide
 refine⟨?_,hk,?_⟩
 ·unfold grQ
  rw[if_pos hk,hc,ws5]
  decide +kernel
 ·unfold qy4 ordL
  rw[if_pos hv,hc]
  show(((ordF [[1,-1,1]] 3 0:Nat):Int),(0:Int))=(1,0)
  simp only[ordF,ws5]
  decide +kernel
theorem xe9:wy9 [[1,1,0],[0,1,1]]:=xw0 λ_=>by show 3<=7; decide
abbrev x5u:qb9:=qg6 true none [] [.bool] (λ_=>True) (λ_=>(true,()))
theorem w7g:Meets Tryz.prog 5 x5u:=by
 refine meets (snd (SpecsOk.cons wq7 (SpecsOk.cons wq8 (SpecsOk.nil _)))) Tryz.func5 rfl rfl (λ_ _=>none) (λ_=>by kernel_rfl) (by decide) ?_
 rintro⟨⟩ -
 refine @qe7 _ (wy9 [[(1:Int),(1:Int),(0:Int)],[(0:Int),(1:Int),(1:Int)]]/\wy9 [[(1:Int),(1:Int),(0:Int)],[(0:Int),(1:Int),(1:Int)]]/\(((0:Int)==(0:Int))=true->(((1:Int)==(1:Int) && (3:Int)==(3:Int))=true->(((0:Int)==(0:Int))=true->((qy4 [[(1:Int),(1:Int),(0:Int)],[(0:Int),(1:Int),(1:Int)]]).1==(1:Int))=true)/\(((0:Int)==(0:Int))=false->false=true))/\(((1:Int)==(1:Int) && (3:Int)==(3:Int))=false->false=true))/\(((0:Int)==(0:Int))=false->false=true)) (by kernel_rfl) ?_
 try simp only[z0,z1,z2,z3,z4,z5,z6,z7,z8,z9,z10,Int.reduceEq,z11,z12,z13,z14,z15,z16,z17,z18,z19,z20,z21,z22,z23,z24,z25,z26,z27,z28,z29,z30,Int.reduceLE,Int.reduceLT,z31,z32,z33,z34,qa3]
 try simp only[qb6,qb7,qc7,z31,z32,z2,z1]
 have ho:(qy4 [[1,1,0],[0,1,1]]).1=1:=congrArg Prod.fst w7f.2.2
 exact⟨xe9,xe9,⟨λ_=>⟨ho,λq=>absurd trivial q⟩,λq=>by cases q⟩,λq=>absurd trivial q⟩
theorem xn0 {m:List (List Int)} (h:w2r m=true) (hv:validB m=true):(nL m 0).length<=7:=by
 unfold w2r at h
 rw[Bool.and_eq_true,Bool.not_eq_true',List.any_eq_false] at h
 have hM:=Mk.of hv
 have h1:=h.1 (nL m 0) (qk1 m 0 (by have:=hM.rows1; omega))
 have h2:=hM.pix10
 unfold xl1 at h1
 simp at h1
 omega
theorem w7h {m:List (List Int)} {p:List Int} (hv:validB m=true) (h:xd5 m p=0):Named (nL m 0).length p:=by
 unfold xd5 at h
 rw[if_neg (by rw[hv]; decide)] at h
 exact Named.of h
theorem x2b {m:List (List Int)} {p:List Int} (h:xd5 m p=0):validB m=true:=by
 unfold xd5 at h
 split at h
 ·cases h
 ·rename_i q
  cases e:validB m with
  | true=>rfl
  | false=>exact absurd e q
structure SafPre (m:List (List Int)) (p:List Int):Prop where
 fit:wm3 m
 len:p.length<=1000
theorem SafPre.lil {m:List (List Int)} {p:List Int} (h:SafPre m p) (he:ofE m p=0):qt4 (ofQ m p):=by
 have hv:=x2b he
 rw[show ofQ m p=xx2 (qc9 m).1 p (qc9 m).1.length from if_pos he]
 exact wy7 ⟨wb3 hv,λi hi=>by
  obtain⟨s,hc⟩:=q7c hv (h.fit.n7 hv) hi
  exact w7a hv hc (w7h hv he)⟩ _ (Nat.le_refl _)
def xw4 (l:List (List Int)) (n:Nat):Nat->Option Inv
 | 0=>some (Inv.of [15] 0 (λk:Nat=>[(15,.lit (.int .i64 k))]) (λ_=>[]) (λk=>wj8 l n k) (λk=>n-k))
 | _=>none
abbrev x2c:qb9:=qg6 true none [tMask] [tInt,tInt] (λx=>wm3 x.1) (λx=>((qy4 x.1).1,(qy4 x.1).2,()))
theorem w24:Meets Tryz.prog 17 x2c:=by
 refine meets (snd (SpecsOk.cons wy1 (SpecsOk.cons wm0 (SpecsOk.cons ws4 (SpecsOk.nil _))))) Tryz.func17 rfl rfl (λx=>xw4 (qc9 x.1).1 (nL x.1 0).length) (λ_=>by kernel_rfl) (by decide) ?_
 rintro⟨m,⟨⟩⟩ h
 revert m
 intro(m:List (List Int)) (h:wm3 m)
 refine @qe7 _ (w7l m/\((!validB m)=true->(0:Int)=(qy4 m).1/\(1:Int)=(qy4 m).2/\True)/\((!validB m)=false->((0:Int)<=(0:Int)/\(0:Int)<(↑m.length:Int))/\∃(v1:Unit),∃(v2:Nat),wj8 (qc9 m).1 (nL m (0:Nat)).length v2/\(((0:Int)=(↑v2:Int)/\True)/\True)/\∀(v3:Nat),wj8 (qc9 m).1 (nL m (0:Nat)).length v3->(decide ((↑v3:Int)<(↑(nL m (0:Nat)).length:Int))=true->fits .i64 ((↑v3:Int)+(1:Int))/\w0v m ((↑v3:Int)+(1:Int))/\qt4 ((whR m ((↑v3:Int)+(1:Int))).1.1,(whR m ((↑v3:Int)+(1:Int))).1.2)/\((!!hlf ((whR m ((↑v3:Int)+(1:Int))).1.1,(whR m ((↑v3:Int)+(1:Int))).1.2))=true->(↑v3:Int)=(qy4 m).1/\(0:Int)=(qy4 m).2/\True)/\((!!hlf ((whR m ((↑v3:Int)+(1:Int))).1.1,(whR m ((↑v3:Int)+(1:Int))).1.2))=false->fits .i64 ((↑v3:Int)+(1:Int))/\∃(v7:Nat),wj8 (qc9 m).1 (nL m (0:Nat)).length v7/\(nL m (0:Nat)).length-v7<(nL m (0:Nat)).length-v3/\((↑v3:Int)+(1:Int)=(↑v7:Int)/\True)/\True))/\(decide ((↑v3:Int)<(↑(nL m (0:Nat)).length:Int))=false->((0:Int)<=(0:Int)/\(0:Int)<(↑m.length:Int))/\(↑(nL m (0:Nat)).length:Int)=(qy4 m).1/\(0:Int)=(qy4 m).2/\True))) (by kernel_rfl) ?_
 try simp only[z0,z1,z2,z3,z4,z5,z6,z7,z8,z9,z10,Int.reduceEq,z11,z12,z13,z14,z15,z16,z17,z18,z19,z20,z21,z22,z23,z24,z25,z26,z27,z28,z29,z30,Int.reduceLE,Int.reduceLT,z31,z32,z33,z34,qa3]
 try simp only[qb6,qb7,qc7,z31,z32,z2,z1]
 have hoR:∀k:Nat,ordL m=k->validB m=true->(k:Int)=(qy4 m).1/\0=(qy4 m).2:=λk e hv=>by
  unfold qy4; rw[if_pos hv,e]; exact⟨rfl,rfl⟩
 refine⟨h.fit,λhv=>by unfold qy4; rw[hv]; exact⟨rfl,rfl⟩,λhv=>?_⟩
 have hM:=Mk.of hv
 have m1:=hM.rows1
 have m10:=hM.pix10
 have h7:=h.n7 hv
 refine⟨by omega,(),0,⟨Nat.zero_le _,rfl⟩,rfl,λk hk=>⟨λhlt=>?_,λhge=>?_⟩⟩
 ·have e2:((k:Int)+1)=((k+1:Nat):Int):=by push_cast; rfl
  have hw:=xe8 hv h7 (k:=k+1) (by omega)
  have hT:=(xw0 (m:=m) λ_=>h7).shs hv (k+1) (by omega)
  have hl:=qt0 hT _ (Nat.le_refl _)
  rw[Int.toNat_natCast,<- hw] at hl
  have hst:=q99 (l:=(qc9 m).1) hlt
  rw[<- hw] at hst
  rw[e2]
  refine⟨qa7 (by omega) (by omega),⟨h,hv,by omega,by omega⟩,hl,λhf=>?_,λhf=>⟨qa7 (by omega) (by omega),k+1,⟨by omega,?_⟩,by omega,rfl⟩⟩
  ·refine hoR k ?_ hv
   unfold ordL
   rw[hk.eq,hst,if_neg (by intro q; have hf:hlf (whR m ((k+1:Nat):Int)).1=true:=hf; rw[hf] at q; cases q)]
  ·rw[hk.eq,hst]
   exact if_pos hf
 ·have hle:=hk.le
  have e:k=(nL m 0).length:=by omega
  refine⟨by omega,hoR _ ?_ hv⟩
  unfold ordL
  rw[hk.eq,e,Nat.sub_self]; rfl
end Go.Proofs.YtempacilejhbgaaGreatDoor
set_option linter.unusedSimpArgs false
namespace Go.Proofs.YtempacilejhbgaaGreatDoor.K
open Go Go.RowKit Eng Ls
abbrev tInt:Ty:=.int .i64
abbrev tInts:Ty:=.list (.int .i64)
abbrev tMask:Ty:=.list (.list (.int .i64))
def ctx (specs:List (Nat × qb9)) (wr:List Nat):Ctx:={ specs:=specs,tys:=tys,wr:=wr }
theorem snd {specs:List (Nat × qb9)} (h:SpecsOk Tryz.prog specs) (wr:List Nat):Sound Tryz.prog (ctx specs wr):=SpecsOk.sound h q0h (by kernel_rfl)
def rowP (i n:Nat):List (Nat × Nat):=(List.range n).map λd=>(i,i+1+d)
def prs (p:Nat):Nat->List (Nat × Nat)
 | 0=>[]
 | i+1=>prs p i++rowP i (p-(i+1))
open Go.RowKit Ls
def inB (n lo hi:Int):Bool:=decide (lo<=n) && decide (n<=hi)
theorem inB_iff {n lo hi:Int}:inB n lo hi=true↔lo<=n/\n<=hi:=by simp[inB]
def rowB (l:List Int):Bool:=inB l.length 1 10 && l.all λn=>inB n (-1) 1
def x21 (m:List (List Int)) (l:List Int):Bool:=decide (l.length=(nthL m 0).length) && rowB l
def validB (m:List (List Int)):Bool:=inB m.length 1 6 && m.all (x21 m)
structure IsMask (m:List (List Int)):Prop where
 rows1:1<=m.length
 rows6:m.length<=6
 pix1:1<=(nthL m 0).length
 pix10:(nthL m 0).length<=10
 each:∀k,k<m.length->(nthL m k).length=(nthL m 0).length
 small:∀k,k<m.length->∀j,j<(nthL m 0).length->-1<=nth (nthL m k) j/\nth (nthL m k) j<=1
theorem xb6 {p:List Int->Bool} {m:List (List Int)} (h:m.all p=true) (k:Nat) (hk:k<m.length):p (nthL m k)=true:=by
 rw[w27 m k hk]; exact List.all_eq_true.1 h _ (List.getElem_mem _)
theorem xn1 {p:Int->Bool} {l:List Int} (h:l.all p=true) (k:Nat) (hk:k<l.length):p (nth l k)=true:=by
 rw[xo3 l k hk]; exact List.all_eq_true.1 h _ (List.getElem_mem _)
theorem IsMask.of {m:List (List Int)} (h:validB m=true):IsMask m:=by
 unfold validB at h
 rw[Bool.and_eq_true,inB_iff] at h
 have hf:=λk hk=>xb6 h.2 k hk
 have h0:=hf 0 (by omega)
 simp only[x21,rowB,Bool.and_eq_true,decide_eq_true_eq,inB_iff] at hf h0
 exact⟨by omega,by omega,by omega,by omega,λk hk=>(hf k hk).1,λk hk j hj=>by
  have:=xn1 (hf k hk).2.2 j (by rw[(hf k hk).1]; exact hj)
  rwa [inB_iff] at this⟩
def FokI (P:Program) (g:Nat) (lb:Array Value) (p:Int->Bool) (w:World):Prop:=
 (∀args W,(callFunc g args).run P W=.ok (.enter g args) W) /\
 ∀(x:Int) (W:World),Below w.heap.size w W->Calls P g (#[.int .i64 x]++lb) W λe W'=>e=.returned (.bool (p x))/\Below W.heap.size W W'
def FokR (P:Program) (g:Nat) (lb:Array Value) (ok:List Int->Prop) (p:List Int->Bool) (w:World):Prop:=
 (∀args W,(callFunc g args).run P W=.ok (.enter g args) W) /\
 ∀(A:Option Addr) (n c:Nat) (zs:List Int) (W:World),ok zs->Below w.heap.size w W->SI W A n c zs->Calls P g (#[.slice A n c]++lb) W λe W'=>e=.returned (.bool (p zs))/\Below W.heap.size W W'
theorem FokI.later {P:Program} {g:Nat} {lb:Array Value} {p:Int->Bool} {w w':World} (h:FokI P g lb p w) (hb:Below w.heap.size w w'):FokI P g lb p w':=
 ⟨h.1,λx W hW=>h.2 x W (step_trans hb hW)⟩
theorem FokR.later {P:Program} {g:Nat} {lb:Array Value} {ok:List Int->Prop} {p:List Int->Bool} {w w':World} (h:FokR P g lb ok p w) (hb:Below w.heap.size w w'):FokR P g lb ok p w':=
 ⟨h.1,λA n c zs W h0 hW hs=>h.2 A n c zs W h0 (step_trans hb hW) hs⟩
def Bd (K:Int) (l:List Int):Prop:=∀k,k<l.length->-K<=nth l k/\nth l k<=K
theorem Bd.cons {K a:Int} {l:List Int} (h:Bd K (a :: l)):(-K<=a/\a<=K)/\Bd K l:=
 ⟨by simpa[nth] using h 0 (by simp),λk hk=>by simpa[nth] using h (k+1) (by simpa using hk)⟩
end Go.Proofs.YtempacilejhbgaaGreatDoor.K
set_option linter.unusedVariables false
set_option linter.unusedSimpArgs false
namespace Go.Proofs.YtempacilejhbgaaGreatDoor.K
open Go Go.RowKit Eng Ls
open Go.RowKit Ls
end Go.Proofs.YtempacilejhbgaaGreatDoor.K
set_option linter.unusedVariables false
set_option linter.unusedSimpArgs false
namespace Go.Proofs.YtempacilejhbgaaGreatDoor.K
open Go Go.RowKit Eng Ls
theorem rdL_ints {m:View}:∀l:List Int,RdL m tInt l (ints l)
 | []=>rfl
 | x :: r=>⟨[.int .i64 x],ints r,rfl,rfl,rdL_ints r⟩
open Go.RowKit Ls
end Go.Proofs.YtempacilejhbgaaGreatDoor.K
set_option linter.unusedVariables false
set_option linter.unusedSimpArgs false
namespace Go.Proofs.YtempacilejhbgaaGreatDoor.K
open Go Go.RowKit Eng Ls
open Go.RowKit Ls
end Go.Proofs.YtempacilejhbgaaGreatDoor.K
set_option linter.unusedVariables false
namespace Go.Proofs.YtempacilejhbgaaGreatDoor.K
open Go Go.RowKit Eng Ls
end Go.Proofs.YtempacilejhbgaaGreatDoor.K
namespace Go.Proofs.YtempacilejhbgaaGreatDoor
open Go Go.RowKit Eng
def cq (m:List (List Int)) (i j:Nat):Int:=sm m.length λa=>nI (nL m a) i*nI (nL m a) j
theorem xf1 (m:List (List Int)):ordL m<=(nL m 0).length:=by
 have:∀l f k,ordF l f k<=k+f:=λl f=>by
  induction f with
  | zero=>exact λk=>Nat.le_refl _
  | succ f ih=>
   intro k
   rw[ordF]
   split
   ·have:=ih (k+1); omega
   ·omega
 have:=this (qc9 m).1 (nL m 0).length 0
 unfold ordL
 omega
end Go.Proofs.YtempacilejhbgaaGreatDoor
