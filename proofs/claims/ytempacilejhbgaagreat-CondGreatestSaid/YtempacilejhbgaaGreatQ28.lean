/- Rows that make a mask better, pixels that are blind, and rows that may be lost are those of the document: the law's contract. No condition. -/
import Derived.Test.YtempacilejhbgaaGreatR8
import Derived.Test.YtempacilejhbgaaGreatQ15
import Derived.Test.YtempacilejhbgaaGreatV3
import Derived.Test.YtempacilejhbgaaGreatV22
import Derived.Test.YtempacilejhbgaaGreatV0
import Derived.Test.YtempacilejhbgaaGreatCore
import Derived.Test.YtempacilejhbgaaGreatProg
import Derived.Test.YtempacilejhbgaaGreatOwn
import Derived.Test.YtempacilejhbgaaGreatApp
import Derived.Test.YtempacilejhbgaaGreatTys
import Derived.Test.YtempacilejhbgaaGreatEng3
import Derived.Test.YtempacilejhbgaaGreatV4
set_option linter.unusedVariables false
set_option linter.unusedSimpArgs false
namespace Go.Proofs.YtempacilejhbgaaGreat
open Go Go.RowKit Eng
abbrev x3i:qb9:=qg2 true none [tMask,tInt,tInt] [tInt] (λx=>wd8 x.1) (λx=>(qm9 x.1 x.2.1 x.2.2.1,()))
theorem q9e:Meets Tryz.prog 71 x3i:=by
 refine meets (snd (SpecsOk.cons wa6 (SpecsOk.nil _))) Tryz.func71 rfl rfl (λ_ _=>none) (λ_=>by kernel_rfl) (by decide) ?_
 rintro⟨m,k,q,⟨⟩⟩ hf
 revert m k q
 intro(m:List (List Int)) (k:Int) (q:Int) (hf:wd8 m)
 refine @qd8 _ (wd8 m/\((!validB m)=true->(1:Int)=qm9 m k q)/\((!validB m)=false->(decide (k<q)=true->(7:Int)=qm9 m k q)/\(decide (k<q)=false->((0:Int)<=(0:Int)/\(0:Int)<(↑m.length:Int))/\(decide ((↑(nL m (0:Nat)).length:Int)<k)=true->(7:Int)=qm9 m k q)/\(decide ((↑(nL m (0:Nat)).length:Int)<k)=false->(0:Int)=qm9 m k q)))) (by kernel_rfl) ?_
 try simp only[z0,z1,z2,z3,z4,z5,z6,z7,z8,z9,z10,Int.reduceEq,z11,z12,z13,z14,z15,z16,z17,z18,z19,z20,z21,z22,z23,z24,z25,z26,z27,z28,z29,z30,Int.reduceLE,Int.reduceLT,z31,z32,z33,z34,qa3]
 try simp only[qb3,qb4,qc7,z31,z32,z2,z1]
 refine⟨hf,λhv=>by simp[qm9,hv],λhv=>?_⟩
 have hM:=Mk.of hv
 have hm1:=hM.rows1
 have out:¬(q<=k/\k<=(nL m 0).length)->7=qm9 m k q:=λe=>by
  have:inB k q (nL m 0).length=false:=by
   rw[Bool.eq_false_iff]; exact λg=>e (inB_iff.1 g)
  simp[qm9,hv,this]
 refine⟨λh1=>out λg=>Int.not_lt.2 g.1 h1,λh1=>⟨by omega,λh2=>out λg=>Int.not_lt.2 g.2 h2,λh2=>?_⟩⟩
 have:inB k q (nL m 0).length=true:=inB_iff.2 ⟨h1,h2⟩
 simp[qm9,hv,this]
structure wo3 (m:List (List Int)) (k:Int):Prop where
 fit:wo9 m
 v:validB m=true
 k0:0<=k
 kn:k<=(nL m 0).length
abbrev x3j (x:Int × Int):AV:=.agg (.cons (.lit (.int .i64 x.1)) (.cons (.lit (.int .i64 x.2)) .nil))
abbrev x68:qb9:=w5l false none [tMask,tInt] (λx=>wo3 x.1 x.2.1) (λx=>.tup (.cons (x3j (whR x.1 x.2.1).1) (.cons (.ndat false (.int .i64) (whR x.1 x.2.1).2.1) (.cons (.dat (.int .i64) (whR x.1 x.2.1).2.2) .nil))))
def x3k (l S:List (List Int)):Nat->Option Inv
 | 0=>some (Inv.of [5,6,16] 1 (λi:Nat=>[(5,.ndat false (.int .i64) (qk5 l S i).2.1),(6,.dat (.int .i64) (qk5 l S i).2.2),(16,.lit (.int .i64 i))]) (λi=>[.box 34 (.cons (.lit (.int .i64 (qk5 l S i).1.1)) (.cons (.lit (.int .i64 (qk5 l S i).1.2)) .nil))]) (λi=>i<=l.length) (λi=>l.length-i))
 | 1=>some (Eng.Inv.mk Nat Nat [5,6,27] 1 (λi j=>[(5,.ndat false (.int .i64) (whS (nL l i) S (qk5 l S i) j).2.1),(6,.dat (.int .i64) (whS (nL l i) S (qk5 l S i) j).2.2),(27,.lit (.int .i64 j))]) (λi j=>[.box 34 (.cons (.lit (.int .i64 (whS (nL l i) S (qk5 l S i) j).1.1)) (.cons (.lit (.int .i64 (whS (nL l i) S (qk5 l S i) j).1.2)) .nil))]) (λi j=>j<=S.length) (λi j=>S.length-j))
 | _=>none
theorem wo4:Meets Tryz.prog 52 x68:=by
 refine wi9 (snd (SpecsOk.cons w3k (SpecsOk.cons (q7q 20) (SpecsOk.cons w3e (SpecsOk.cons q82 (SpecsOk.nil _)))))) Tryz.func52 rfl rfl (λx=>x3k (qc0 x.1).1 (qa4 (nL x.1 0).length x.2.1)) (λ_=>by kernel_rfl) (by decide) ?_
 rintro⟨m,k,⟨⟩⟩ h
 revert m k
 intro(m:List (List Int)) (k:Int) (h:wo3 m k)
 refine @qd8 _ (wo9 m/\∃(v0:Unit),∃(v1:Nat),Nat.le v1 (qc0 m).1.length/\(((qk5 (qc0 m).1 (qa4 (↑(nL m (0:Nat)).length:Int) k) v1).2.1=[]/\(qk5 (qc0 m).1 (qa4 (↑(nL m (0:Nat)).length:Int) k) v1).2.2=[]/\(0:Int)=(↑v1:Int)/\True)/\((0:Int)=(qk5 (qc0 m).1 (qa4 (↑(nL m (0:Nat)).length:Int) k) v1).1.1/\(1:Int)=(qk5 (qc0 m).1 (qa4 (↑(nL m (0:Nat)).length:Int) k) v1).1.2/\True)/\True)/\∀(v2:Nat),Nat.le v2 (qc0 m).1.length->(decide ((↑v2:Int)<(↑(qc0 m).1.length:Int))=true->((0:Int)<=(↑v2:Int)/\(↑v2:Int)<(↑(qc0 m).1.length:Int))/\((0:Int)<=(0:Int)/\(0:Int)<(↑m.length:Int))/\q7p (20:Nat) (↑(nL m (0:Nat)).length:Int) k/\∃(v5:Nat),∃(v6:Nat),Nat.le v6 (qa4 (↑(nL m (0:Nat)).length:Int) k).length/\(((qk5 (qc0 m).1 (qa4 (↑(nL m (0:Nat)).length:Int) k) v2).2.1=(whS (nL (qc0 m).1 v5) (qa4 (↑(nL m (0:Nat)).length:Int) k) (qk5 (qc0 m).1 (qa4 (↑(nL m (0:Nat)).length:Int) k) v5) v6).2.1/\(qk5 (qc0 m).1 (qa4 (↑(nL m (0:Nat)).length:Int) k) v2).2.2=(whS (nL (qc0 m).1 v5) (qa4 (↑(nL m (0:Nat)).length:Int) k) (qk5 (qc0 m).1 (qa4 (↑(nL m (0:Nat)).length:Int) k) v5) v6).2.2/\(0:Int)=(↑v6:Int)/\True)/\((qk5 (qc0 m).1 (qa4 (↑(nL m (0:Nat)).length:Int) k) v2).1.1=(whS (nL (qc0 m).1 v5) (qa4 (↑(nL m (0:Nat)).length:Int) k) (qk5 (qc0 m).1 (qa4 (↑(nL m (0:Nat)).length:Int) k) v5) v6).1.1/\(qk5 (qc0 m).1 (qa4 (↑(nL m (0:Nat)).length:Int) k) v2).1.2=(whS (nL (qc0 m).1 v5) (qa4 (↑(nL m (0:Nat)).length:Int) k) (qk5 (qc0 m).1 (qa4 (↑(nL m (0:Nat)).length:Int) k) v5) v6).1.2/\True)/\True)/\∀(v7:Nat),Nat.le v7 (qa4 (↑(nL m (0:Nat)).length:Int) k).length->(decide ((↑v7:Int)<(↑(qa4 (↑(nL m (0:Nat)).length:Int) k).length:Int))=true->((0:Int)<=(↑v7:Int)/\(↑v7:Int)<(↑(qa4 (↑(nL m (0:Nat)).length:Int) k).length:Int))/\wb4 (nL (qc0 m).1 v2) (nL (qa4 (↑(nL m (0:Nat)).length:Int) k) v7)/\(List.isEmpty (whS (nL (qc0 m).1 v5) (qa4 (↑(nL m (0:Nat)).length:Int) k) (qk5 (qc0 m).1 (qa4 (↑(nL m (0:Nat)).length:Int) k) v5) v7).2.1=true->fits .i64 ((↑v7:Int)+(1:Int))/\∃(v11:Nat),Nat.le v11 (qa4 (↑(nL m (0:Nat)).length:Int) k).length/\(qa4 (↑(nL m (0:Nat)).length:Int) k).length-v11<(qa4 (↑(nL m (0:Nat)).length:Int) k).length-v7/\((nL (qc0 m).1 v2=(whS (nL (qc0 m).1 v5) (qa4 (↑(nL m (0:Nat)).length:Int) k) (qk5 (qc0 m).1 (qa4 (↑(nL m (0:Nat)).length:Int) k) v5) v11).2.1/\Nat.le (1:Nat) (nL (qc0 m).1 v2).length)/\nL (qa4 (↑(nL m (0:Nat)).length:Int) k) v7=(whS (nL (qc0 m).1 v5) (qa4 (↑(nL m (0:Nat)).length:Int) k) (qk5 (qc0 m).1 (qa4 (↑(nL m (0:Nat)).length:Int) k) v5) v11).2.2/\(↑v7:Int)+(1:Int)=(↑v11:Int)/\True)/\((shR (nL (qc0 m).1 v2) (nL (qa4 (↑(nL m (0:Nat)).length:Int) k) v7)).1=(whS (nL (qc0 m).1 v5) (qa4 (↑(nL m (0:Nat)).length:Int) k) (qk5 (qc0 m).1 (qa4 (↑(nL m (0:Nat)).length:Int) k) v5) v11).1.1/\(shR (nL (qc0 m).1 v2) (nL (qa4 (↑(nL m (0:Nat)).length:Int) k) v7)).2=(whS (nL (qc0 m).1 v5) (qa4 (↑(nL m (0:Nat)).length:Int) k) (qk5 (qc0 m).1 (qa4 (↑(nL m (0:Nat)).length:Int) k) v5) v11).1.2/\True)/\True)/\(List.isEmpty (whS (nL (qc0 m).1 v5) (qa4 (↑(nL m (0:Nat)).length:Int) k) (qk5 (qc0 m).1 (qa4 (↑(nL m (0:Nat)).length:Int) k) v5) v7).2.1=false->(qs7 ((whS (nL (qc0 m).1 v5) (qa4 (↑(nL m (0:Nat)).length:Int) k) (qk5 (qc0 m).1 (qa4 (↑(nL m (0:Nat)).length:Int) k) v5) v7).1.1,(whS (nL (qc0 m).1 v5) (qa4 (↑(nL m (0:Nat)).length:Int) k) (qk5 (qc0 m).1 (qa4 (↑(nL m (0:Nat)).length:Int) k) v5) v7).1.2)/\qs7 ((shR (nL (qc0 m).1 v2) (nL (qa4 (↑(nL m (0:Nat)).length:Int) k) v7)).1,(shR (nL (qc0 m).1 v2) (nL (qa4 (↑(nL m (0:Nat)).length:Int) k) v7)).2))/\(q4d ((whS (nL (qc0 m).1 v5) (qa4 (↑(nL m (0:Nat)).length:Int) k) (qk5 (qc0 m).1 (qa4 (↑(nL m (0:Nat)).length:Int) k) v5) v7).1.1,(whS (nL (qc0 m).1 v5) (qa4 (↑(nL m (0:Nat)).length:Int) k) (qk5 (qc0 m).1 (qa4 (↑(nL m (0:Nat)).length:Int) k) v5) v7).1.2) ((shR (nL (qc0 m).1 v2) (nL (qa4 (↑(nL m (0:Nat)).length:Int) k) v7)).1,(shR (nL (qc0 m).1 v2) (nL (qa4 (↑(nL m (0:Nat)).length:Int) k) v7)).2)=true->fits .i64 ((↑v7:Int)+(1:Int))/\∃(v12:Nat),Nat.le v12 (qa4 (↑(nL m (0:Nat)).length:Int) k).length/\(qa4 (↑(nL m (0:Nat)).length:Int) k).length-v12<(qa4 (↑(nL m (0:Nat)).length:Int) k).length-v7/\((nL (qc0 m).1 v2=(whS (nL (qc0 m).1 v5) (qa4 (↑(nL m (0:Nat)).length:Int) k) (qk5 (qc0 m).1 (qa4 (↑(nL m (0:Nat)).length:Int) k) v5) v12).2.1/\Nat.le (1:Nat) (nL (qc0 m).1 v2).length)/\nL (qa4 (↑(nL m (0:Nat)).length:Int) k) v7=(whS (nL (qc0 m).1 v5) (qa4 (↑(nL m (0:Nat)).length:Int) k) (qk5 (qc0 m).1 (qa4 (↑(nL m (0:Nat)).length:Int) k) v5) v12).2.2/\(↑v7:Int)+(1:Int)=(↑v12:Int)/\True)/\((shR (nL (qc0 m).1 v2) (nL (qa4 (↑(nL m (0:Nat)).length:Int) k) v7)).1=(whS (nL (qc0 m).1 v5) (qa4 (↑(nL m (0:Nat)).length:Int) k) (qk5 (qc0 m).1 (qa4 (↑(nL m (0:Nat)).length:Int) k) v5) v12).1.1/\(shR (nL (qc0 m).1 v2) (nL (qa4 (↑(nL m (0:Nat)).length:Int) k) v7)).2=(whS (nL (qc0 m).1 v5) (qa4 (↑(nL m (0:Nat)).length:Int) k) (qk5 (qc0 m).1 (qa4 (↑(nL m (0:Nat)).length:Int) k) v5) v12).1.2/\True)/\True)/\(q4d ((whS (nL (qc0 m).1 v5) (qa4 (↑(nL m (0:Nat)).length:Int) k) (qk5 (qc0 m).1 (qa4 (↑(nL m (0:Nat)).length:Int) k) v5) v7).1.1,(whS (nL (qc0 m).1 v5) (qa4 (↑(nL m (0:Nat)).length:Int) k) (qk5 (qc0 m).1 (qa4 (↑(nL m (0:Nat)).length:Int) k) v5) v7).1.2) ((shR (nL (qc0 m).1 v2) (nL (qa4 (↑(nL m (0:Nat)).length:Int) k) v7)).1,(shR (nL (qc0 m).1 v2) (nL (qa4 (↑(nL m (0:Nat)).length:Int) k) v7)).2)=false->fits .i64 ((↑v7:Int)+(1:Int))/\∃(v12:Nat),Nat.le v12 (qa4 (↑(nL m (0:Nat)).length:Int) k).length/\(qa4 (↑(nL m (0:Nat)).length:Int) k).length-v12<(qa4 (↑(nL m (0:Nat)).length:Int) k).length-v7/\((whS (nL (qc0 m).1 v5) (qa4 (↑(nL m (0:Nat)).length:Int) k) (qk5 (qc0 m).1 (qa4 (↑(nL m (0:Nat)).length:Int) k) v5) v7).2.1=(whS (nL (qc0 m).1 v5) (qa4 (↑(nL m (0:Nat)).length:Int) k) (qk5 (qc0 m).1 (qa4 (↑(nL m (0:Nat)).length:Int) k) v5) v12).2.1/\(whS (nL (qc0 m).1 v5) (qa4 (↑(nL m (0:Nat)).length:Int) k) (qk5 (qc0 m).1 (qa4 (↑(nL m (0:Nat)).length:Int) k) v5) v7).2.2=(whS (nL (qc0 m).1 v5) (qa4 (↑(nL m (0:Nat)).length:Int) k) (qk5 (qc0 m).1 (qa4 (↑(nL m (0:Nat)).length:Int) k) v5) v12).2.2/\(↑v7:Int)+(1:Int)=(↑v12:Int)/\True)/\((whS (nL (qc0 m).1 v5) (qa4 (↑(nL m (0:Nat)).length:Int) k) (qk5 (qc0 m).1 (qa4 (↑(nL m (0:Nat)).length:Int) k) v5) v7).1.1=(whS (nL (qc0 m).1 v5) (qa4 (↑(nL m (0:Nat)).length:Int) k) (qk5 (qc0 m).1 (qa4 (↑(nL m (0:Nat)).length:Int) k) v5) v12).1.1/\(whS (nL (qc0 m).1 v5) (qa4 (↑(nL m (0:Nat)).length:Int) k) (qk5 (qc0 m).1 (qa4 (↑(nL m (0:Nat)).length:Int) k) v5) v7).1.2=(whS (nL (qc0 m).1 v5) (qa4 (↑(nL m (0:Nat)).length:Int) k) (qk5 (qc0 m).1 (qa4 (↑(nL m (0:Nat)).length:Int) k) v5) v12).1.2/\True)/\True)))/\(decide ((↑v7:Int)<(↑(qa4 (↑(nL m (0:Nat)).length:Int) k).length:Int))=false->fits .i64 ((↑v2:Int)+(1:Int))/\∃(v10:Nat),Nat.le v10 (qc0 m).1.length/\(qc0 m).1.length-v10<(qc0 m).1.length-v2/\((whS (nL (qc0 m).1 v5) (qa4 (↑(nL m (0:Nat)).length:Int) k) (qk5 (qc0 m).1 (qa4 (↑(nL m (0:Nat)).length:Int) k) v5) v7).2.1=(qk5 (qc0 m).1 (qa4 (↑(nL m (0:Nat)).length:Int) k) v10).2.1/\(whS (nL (qc0 m).1 v5) (qa4 (↑(nL m (0:Nat)).length:Int) k) (qk5 (qc0 m).1 (qa4 (↑(nL m (0:Nat)).length:Int) k) v5) v7).2.2=(qk5 (qc0 m).1 (qa4 (↑(nL m (0:Nat)).length:Int) k) v10).2.2/\(↑v2:Int)+(1:Int)=(↑v10:Int)/\True)/\((whS (nL (qc0 m).1 v5) (qa4 (↑(nL m (0:Nat)).length:Int) k) (qk5 (qc0 m).1 (qa4 (↑(nL m (0:Nat)).length:Int) k) v5) v7).1.1=(qk5 (qc0 m).1 (qa4 (↑(nL m (0:Nat)).length:Int) k) v10).1.1/\(whS (nL (qc0 m).1 v5) (qa4 (↑(nL m (0:Nat)).length:Int) k) (qk5 (qc0 m).1 (qa4 (↑(nL m (0:Nat)).length:Int) k) v5) v7).1.2=(qk5 (qc0 m).1 (qa4 (↑(nL m (0:Nat)).length:Int) k) v10).1.2/\True)/\True))/\(decide ((↑v2:Int)<(↑(qc0 m).1.length:Int))=false->((qk5 (qc0 m).1 (qa4 (↑(nL m (0:Nat)).length:Int) k) v2).1.1=(whR m k).1.1/\(qk5 (qc0 m).1 (qa4 (↑(nL m (0:Nat)).length:Int) k) v2).1.2=(whR m k).1.2/\True)/\(qk5 (qc0 m).1 (qa4 (↑(nL m (0:Nat)).length:Int) k) v2).2.1=(whR m k).2.1/\(qk5 (qc0 m).1 (qa4 (↑(nL m (0:Nat)).length:Int) k) v2).2.2=(whR m k).2.2/\True)) (by kernel_rfl) ?_
 try simp only[z0,z1,z2,z3,z4,z5,z6,z7,z8,z9,z10,Int.reduceEq,z11,z12,z13,z14,z15,z16,z17,z18,z19,z20,z21,z22,z23,z24,z25,z26,z27,z28,z29,z30,Int.reduceLE,Int.reduceLT,z31,z32,z33,z34,qa3]
 try simp only[qb3,qb4,qc7,z31,z32,z2,z1]
 have h7:=h.fit.n7 h.v
 have hM:=Mk.of h.v
 have hm1:=hM.rows1
 have hm10:=hM.pix10
 have k0:=h.k0
 have kn:=h.kn
 obtain⟨k,rfl⟩:∃q:Nat,k=q:=⟨k.toNat,by omega⟩
 have hO:=xr6 h.v h7 k
 have hll:=q5k h.v
 have hSl:=q3f (nL m 0).length k hm10 (by omega)
 have hR:whR m k=qk5 (qc0 m).1 (qa4 (nL m 0).length (k:Nat)) (qc0 m).1.length:=rfl
 rw[hR]
 have hset:q7p 20 (nL m 0).length k:=⟨by omega,by omega,by omega,by omega,by omega⟩
 have hT:=wd0 hO
 generalize(qc0 m).1=l at *
 generalize qa4 (nL m 0).length (k:Nat)=S at *
 refine⟨h.fit,(),0,Nat.zero_le _,⟨⟨rfl,rfl,rfl⟩,rfl,rfl⟩,λi hi=>⟨λhlt=>?_,λhge=>?_⟩⟩
 ·refine⟨hlt,by omega,hset,i,0,Nat.zero_le _,⟨⟨rfl,rfl,rfl⟩,rfl,rfl⟩,λj hj=>⟨λhjt=>?_,λhjg=>?_⟩⟩
  ·have hs:whS (nL l i) S (qk5 l S i) (j+1)=qz3 (nL l i) (whS (nL l i) S (qk5 l S i) j) (nL S j):=rfl
   have hI:=(w75 hO hlt (hT i (by omega)) j hj).lil hO (by omega) (.inl hlt) hj
   have hsh:=hO.sh i hlt j hjt
   have hne:=hO.ne hlt hjt
   generalize whS (nL l i) S (qk5 l S i) j=w at *
   have h1:1<=(nL l i).length:=by
    cases e:nL l i with
    | nil=>rw[e] at hne; cases hne
    | cons a r=>simp
   have yes:qz3 (nL l i) w (nL S j)=(shR (nL l i) (nL S j),nL l i,nL S j)->fits IntKind.i64 (↑j+1)/\∃v11,v11<=S.length/\S.length-v11<S.length-j/\((nL l i=(whS (nL l i) S (qk5 l S i) v11).2.1/\1<=(nL l i).length)/\nL S j=(whS (nL l i) S (qk5 l S i) v11).2.2/\(↑j+1:Int)=↑v11)/\(shR (nL l i) (nL S j)).1=(whS (nL l i) S (qk5 l S i) v11).1.1/\(shR (nL l i) (nL S j)).2=(whS (nL l i) S (qk5 l S i) v11).1.2:=λe=>by
    refine⟨qa7 (by omega) (by omega),j+1,hjt,by omega,?_⟩
    rw[hs,e]
    exact⟨⟨⟨rfl,h1⟩,rfl,by push_cast; rfl⟩,rfl,rfl⟩
   refine⟨hjt,hsh,λhe=>yes ?_,λhe=>⟨⟨hI,q61 hsh⟩,λhl=>yes ?_,λhl=>?_⟩⟩
   ·unfold qz3; rw[if_pos he]
   ·unfold qz3
    rw[if_neg (by rw[he]; decide),if_pos hl]
   ·have e:qz3 (nL l i) w (nL S j)=w:=by
     unfold qz3
     rw[if_neg (by rw[he]; decide),if_neg]
     intro q
     have hl:q4d w.1 (shR (nL l i) (nL S j))=false:=hl
     rw[hl] at q; cases q
    refine⟨qa7 (by omega) (by omega),j+1,hjt,by omega,?_⟩
    rw[hs,e]
    exact⟨⟨rfl,rfl,by push_cast; rfl⟩,rfl,rfl⟩
  ·obtain rfl:j=S.length:=by omega
   exact⟨qa7 (by omega) (by omega),i+1,hlt,by omega,⟨rfl,rfl,by push_cast; rfl⟩,rfl,rfl⟩
 ·obtain rfl:i=l.length:=by omega
  exact⟨⟨rfl,rfl⟩,rfl,rfl⟩
def xr7:List (List Int):=[[1,1,0],[0,1,1]]
def x3l (l:List (List Int)) (k:Nat):Nat->Int × Int
 | 0=>(0,1)
 | i+1=>wo7 (x3l l k i) (ofR (q2g (szV (nL l i)) ((w7w (nL l i)).take k)) (szL (nL l i)))
theorem wu7 (l:List (List Int)) (k:Nat):∀n,qg6 l k n=x3l l k n
 | 0=>rfl
 | n+1=>by
  rw[qg6,x3l,wu7 l k n]
  unfold shR
  rw[q5j]
theorem w76:grQ xr7 1=(1,3)/\qm9 xr7 1 0=0/\w3r xr7=(1,0):=by
 have hc:(qc0 xr7).1=[[1,-1,1]]:=by decide +kernel
 have hv:validB xr7=true:=by decide
 have hk:qm9 xr7 1 0=0:=by decide
 refine⟨?_,hk,?_⟩
 ·unfold grQ
  rw[if_pos hk,hc,wu7]
  decide +kernel
 ·unfold w3r ordL
  rw[if_pos hv,hc]
  show(((ordF [[1,-1,1]] 3 0:Nat):Int),(0:Int))=(1,0)
  simp only[ordF,wu7]
  decide +kernel
theorem xi0:wo8 [[1,1,0],[0,1,1]]:=xp5 λ_=>by show 3<=7; decide
abbrev x7a:qb9:=qg2 true none [] [.bool] (λ_=>True) (λ_=>(true,()))
theorem w77:Meets Tryz.prog 10 x7a:=by
 refine meets (snd (SpecsOk.cons q66 (SpecsOk.cons wt4 (SpecsOk.nil _)))) Tryz.func10 rfl rfl (λ_ _=>none) (λ_=>by kernel_rfl) (by decide) ?_
 rintro⟨⟩ -
 refine @qd8 _ (wo8 [[(1:Int),(1:Int),(0:Int)],[(0:Int),(1:Int),(1:Int)]]/\wo8 [[(1:Int),(1:Int),(0:Int)],[(0:Int),(1:Int),(1:Int)]]/\(((0:Int)==(0:Int))=true->(((1:Int)==(1:Int) && (3:Int)==(3:Int))=true->(((0:Int)==(0:Int))=true->((w3r [[(1:Int),(1:Int),(0:Int)],[(0:Int),(1:Int),(1:Int)]]).1==(1:Int))=true)/\(((0:Int)==(0:Int))=false->false=true))/\(((1:Int)==(1:Int) && (3:Int)==(3:Int))=false->false=true))/\(((0:Int)==(0:Int))=false->false=true)) (by kernel_rfl) ?_
 try simp only[z0,z1,z2,z3,z4,z5,z6,z7,z8,z9,z10,Int.reduceEq,z11,z12,z13,z14,z15,z16,z17,z18,z19,z20,z21,z22,z23,z24,z25,z26,z27,z28,z29,z30,Int.reduceLE,Int.reduceLT,z31,z32,z33,z34,qa3]
 try simp only[qb3,qb4,qc7,z31,z32,z2,z1]
 have ho:(w3r [[1,1,0],[0,1,1]]).1=1:=congrArg Prod.fst w76.2.2
 exact⟨xi0,xi0,⟨λ_=>⟨ho,λq=>absurd trivial q⟩,λq=>by cases q⟩,λq=>absurd trivial q⟩
theorem xp9 {m:List (List Int)} (h:w3s m=true) (hv:validB m=true):(nL m 0).length<=7:=by
 unfold w3s at h
 rw[Bool.and_eq_true,Bool.not_eq_true',List.any_eq_false] at h
 have hM:=Mk.of hv
 have h1:=h.1 (nL m 0) (qj4 m 0 (by have:=hM.rows1; omega))
 have h2:=hM.pix10
 unfold xn8 at h1
 simp at h1
 omega
theorem w78 {m:List (List Int)} {p:List Int} (hv:validB m=true) (h:xg6 m p=0):Named (nL m 0).length p:=by
 unfold xg6 at h
 rw[if_neg (by rw[hv]; decide)] at h
 exact Named.of h
theorem x3m {m:List (List Int)} {p:List Int} (h:xg6 m p=0):validB m=true:=by
 unfold xg6 at h
 split at h
 ·cases h
 ·rename_i q
  cases e:validB m with
  | true=>rfl
  | false=>exact absurd e q
theorem w1i (a b:List Int):∀k,qz5 a b k=sm k λc=>nI a c*nI b c
 | 0=>rfl
 | k+1=>by rw[qz5,w1i a b k]; rfl
structure SafPre (m:List (List Int)) (p:List Int):Prop where
 fit:wo9 m
 len:p.length<=1000
theorem SafPre.lil {m:List (List Int)} {p:List Int} (h:SafPre m p) (he:ofE m p=0):qs7 (ofQ m p):=by
 have hv:=x3m he
 rw[show ofQ m p=x0g (qc0 m).1 p (qc0 m).1.length from if_pos he]
 exact w0l ⟨q5k hv,λi hi=>by
  obtain⟨s,hc⟩:=qz2 hv (h.fit.n7 hv) hi
  exact wn9 hv hc (w78 hv he)⟩ _ (Nat.le_refl _)
open Go Go.RowKit Eng Ls
structure x7b (h x:List Int):Prop where
 ok:HOk h
 le:h.length<=x.length
structure AgPre (m:List (List Int)) (x:List Int):Prop where
 fit:wo9 m
 len:x.length<=1000
theorem AgPre.ag {m:List (List Int)} {x:List Int} (h:AgPre m x) (he:x3c m x=0):validB m=true/\(qc0 m).1.length<=1000000/\∀i,i<(qc0 m).1.length->x7b (nL (qc0 m).1 i) x/\0<(nL (qc0 m).1 i).length:=by
 have hS:=Shw.of he
 refine⟨hS.val,q5k hS.val,λi hi=>?_⟩
 obtain⟨s,hc⟩:=qz2 hS.val (h.fit.n7 hS.val) hi
 have:=hS.msk.pix1
 exact⟨⟨q3i hS.val hc,by rw[hc.len,hS.len]; exact Nat.le_refl _⟩,by rw[hc.len]; omega⟩
def xz8 (a b:List (Ty.den (.int .i64))):Nat->Option Inv
 | 0=>some (Inv.of [13] 0 (λk:Nat=>[(13,.lit (.int .i64 k))]) (λ_=>[]) (λk=>k<=a.length/\∀i,i<k->qh7 (.int .i64) a i=qh7 (.int .i64) b i) (λk=>a.length-k))
 | _=>none
abbrev x3n:qb9:=qg2 true none [.list (.int .i64),.list (.int .i64)] [.bool] (λx=>x.1.length<=1000000) (λx=>(decide (x.1=x.2.1),()))
theorem w3n:Meets Tryz.prog 28 x3n:=by
 refine meets (snd (SpecsOk.nil _)) Tryz.func28 rfl rfl (λx=>xz8 x.1 x.2.1) (λ_=>by kernel_rfl) (by decide) ?_
 rintro⟨a,b,⟨⟩⟩ h
 revert a b
 intro(a:List (Ty.den (.int .i64))) (b:List (Ty.den (.int .i64))) (h:a.length<=1000000)
 refine @qd8 _ ((((↑a.length:Int) != (↑b.length:Int))=true->false=decide (a=b))/\(((↑a.length:Int) != (↑b.length:Int))=false->∃(v1:Unit),∃(v2:Nat),(v2<=a.length/\∀(v3:Nat),Nat.le (Nat.succ v3) v2->nI a v3=nI b v3)/\(((0:Int)=(↑v2:Int)/\True)/\True)/\∀(v3:Nat),(v3<=a.length/\∀(v5:Nat),Nat.le (Nat.succ v5) v3->nI a v5=nI b v5)->(decide ((↑v3:Int)<(↑a.length:Int))=true->((0:Int)<=(↑v3:Int)/\(↑v3:Int)<(↑a.length:Int))/\((0:Int)<=(↑v3:Int)/\(↑v3:Int)<(↑b.length:Int))/\((nI a v3 != nI b v3)=true->false=decide (a=b))/\((nI a v3 != nI b v3)=false->fits .i64 ((↑v3:Int)+(1:Int))/\∃(v7:Nat),(v7<=a.length/\∀(v8:Nat),Nat.le (Nat.succ v8) v7->nI a v8=nI b v8)/\a.length-v7<a.length-v3/\((↑v3:Int)+(1:Int)=(↑v7:Int)/\True)/\True))/\(decide ((↑v3:Int)<(↑a.length:Int))=false->true=decide (a=b)))) (by kernel_rfl) ?_
 try simp only[z0,z1,z2,z3,z4,z5,z6,z7,z8,z9,z10,Int.reduceEq,z11,z12,z13,z14,z15,z16,z17,z18,z19,z20,z21,z22,z23,z24,z25,z26,z27,z28,z29,z30,Int.reduceLE,Int.reduceLT,z31,z32,z33,z34,qa3]
 try simp only[qb3,qb4,qc7,z31,z32,z2,z1]
 refine⟨λhl=>?_,λhl=>?_⟩
 ·rw[decide_eq_false]; intro e; subst e; exact hl rfl
 ·refine⟨(),0,⟨Nat.zero_le _,λi hi=>absurd hi (by omega)⟩,rfl,λk ⟨hk,hall⟩=>⟨λhlt=>⟨hlt,by omega,λhne=>?_,λhe=>⟨qa7 (by omega) (by omega),k+1,⟨by omega,λi hi=>?_⟩,by omega,by omega⟩⟩,λhge=>?_⟩⟩
  ·rw[decide_eq_false]; intro e; subst e; first | exact hne rfl | (revert hne; simp)
  ·by_cases e:i=k
   ·subst e; first | exact he | (refine Prod.ext ?_ ?_ <;> simp_all)
   ·exact hall i (by omega)
  ·exact(decide_eq_true (w99 _ a b (by omega) λi hi=>hall i (by omega))).symm
theorem xq0 {n:Nat} {s:List Int} (h:Named n s):wk0 n s=0:=by
 have h1:xg5 s=true:=q5b.2 λi h0 hi=>h.asc (i-1) i (by omega) hi
 have h2:(s.any λp=>!(inB p 0 (n-1)))=false:=by
  rw[List.any_eq_false]
  intro x hx
  obtain⟨i,hi,rfl⟩:=List.getElem_of_mem hx
  have:=h.at_ i hi
  rw[qf8 s i hi] at this
  rw[inB_iff.2 ⟨this.1,by omega⟩]; simp
 simp[wk0,h1,h2]
end Go.Proofs.YtempacilejhbgaaGreat
namespace Go.Proofs.YtempacilejhbgaaGreat.K
open Go.RowKit Ls
def inB (n lo hi:Int):Bool:=decide (lo<=n) && decide (n<=hi)
theorem inB_iff {n lo hi:Int}:inB n lo hi=true↔lo<=n/\n<=hi:=by simp[inB]
def rowB (l:List Int):Bool:=inB l.length 1 10 && l.all λn=>inB n (-1) 1
def x4n (m:List (List Int)) (l:List Int):Bool:=decide (l.length=(nthL m 0).length) && rowB l
def validB (m:List (List Int)):Bool:=inB m.length 1 6 && m.all (x4n m)
structure IsMask (m:List (List Int)):Prop where
 rows1:1<=m.length
 rows6:m.length<=6
 pix1:1<=(nthL m 0).length
 pix10:(nthL m 0).length<=10
 each:∀k,k<m.length->(nthL m k).length=(nthL m 0).length
 small:∀k,k<m.length->∀j,j<(nthL m 0).length->-1<=nth (nthL m k) j/\nth (nthL m k) j<=1
theorem xe3 {p:List Int->Bool} {m:List (List Int)} (h:m.all p=true) (k:Nat) (hk:k<m.length):p (nthL m k)=true:=by
 rw[w3u m k hk]; exact List.all_eq_true.1 h _ (List.getElem_mem _)
theorem xq1 {p:Int->Bool} {l:List Int} (h:l.all p=true) (k:Nat) (hk:k<l.length):p (nth l k)=true:=by
 rw[xr8 l k hk]; exact List.all_eq_true.1 h _ (List.getElem_mem _)
theorem IsMask.of {m:List (List Int)} (h:validB m=true):IsMask m:=by
 unfold validB at h
 rw[Bool.and_eq_true,inB_iff] at h
 have hf:=λk hk=>xe3 h.2 k hk
 have h0:=hf 0 (by omega)
 simp only[x4n,rowB,Bool.and_eq_true,decide_eq_true_eq,inB_iff] at hf h0
 exact⟨by omega,by omega,by omega,by omega,λk hk=>(hf k hk).1,λk hk j hj=>by
  have:=xq1 (hf k hk).2.2 j (by rw[(hf k hk).1]; exact hj)
  rwa [inB_iff] at this⟩
def Bd (K:Int) (l:List Int):Prop:=∀k,k<l.length->-K<=nth l k/\nth l k<=K
theorem Bd.cons {K a:Int} {l:List Int} (h:Bd K (a :: l)):(-K<=a/\a<=K)/\Bd K l:=
 ⟨by simpa[nth] using h 0 (by simp),λk hk=>by simpa[nth] using h (k+1) (by simpa using hk)⟩
def SMF (w:World) (B:Nat) (A:Option Addr) (n c:Nat) (rs:List (List Int)):Prop:=
 rs.length=n/\n<=c/\c<=maxLen/\(0<n->∃ad,A=some ad/\B<=ad.block/\∀k,k<n->∃A' c',w.cell? (ad.add k)=some (.slice A' (nthL rs k).length c')/\SI w A' (nthL rs k).length c' (nthL rs k)/\∀a',A'=some a'->B<=a'.block)
theorem SMF.sm {w:World} {B:Nat} {A:Option Addr} {n c:Nat} {rs:List (List Int)} (h:SMF w B A n c rs):SM w A n c rs:=
 ⟨h.1,h.2.1,h.2.2.1,λhn=>by
  obtain⟨ad,e,_,hc⟩:=h.2.2.2 hn
  exact⟨ad,e,λk hk=>by obtain⟨A',c',h1,h2,_⟩:=hc k hk; exact⟨A',c',h1,h2⟩⟩⟩
theorem SMF.base {w:World} {B B':Nat} {A:Option Addr} {n c:Nat} {rs:List (List Int)} (h:SMF w B A n c rs) (hB:B'<=B):SMF w B' A n c rs:=
 ⟨h.1,h.2.1,h.2.2.1,λhn=>by
  obtain⟨ad,e,h0,hc⟩:=h.2.2.2 hn
  exact⟨ad,e,Nat.le_trans hB h0,λk hk=>by obtain⟨A',c',h1,h2,h3⟩:=hc k hk; exact⟨A',c',h1,h2,λa' e=>Nat.le_trans hB (h3 a' e)⟩⟩⟩
theorem SMF.nil (w:World) (B:Nat):SMF w B none 0 0 []:=⟨rfl,Nat.le_refl _,by unfold maxLen; omega,λh=>absurd h (by omega)⟩
end Go.Proofs.YtempacilejhbgaaGreat.K
set_option linter.unusedVariables false
set_option linter.unusedSimpArgs false
namespace Go.Proofs.YtempacilejhbgaaGreat.K
open Go Go.RowKit Eng Ls
abbrev tInt:Ty:=.int .i64
abbrev tInts:Ty:=.list (.int .i64)
abbrev tMask:Ty:=.list (.list (.int .i64))
def ctx (specs:List (Nat × qb9)) (wr:List Nat):Ctx:={ specs:=specs,tys:=tys,wr:=wr }
theorem snd {specs:List (Nat × qb9)} (h:SpecsOk Tryz.prog specs) (wr:List Nat):Sound Tryz.prog (ctx specs wr):=SpecsOk.sound h q27 (by kernel_rfl)
def rowP (i n:Nat):List (Nat × Nat):=(List.range n).map λd=>(i,i+1+d)
def prs (p:Nat):Nat->List (Nat × Nat)
 | 0=>[]
 | i+1=>prs p i++rowP i (p-(i+1))
end Go.Proofs.YtempacilejhbgaaGreat.K
namespace Go.Proofs.YtempacilejhbgaaGreat
open Go Go.RowKit Eng Ls
open Go Go.RowKit Eng
end Go.Proofs.YtempacilejhbgaaGreat
