/- Safe pixels and the order: contracts by the engine. No condition. -/
import Derived.Test.YtempacilejhbgaaGreatR8
import Derived.Test.YtempacilejhbgaaGreatQ15
set_option linter.unusedVariables false
set_option linter.unusedSimpArgs false
namespace Go.Proofs.YtempacilejhbgaaGreat
open Go Go.RowKit Eng
abbrev x4s:qc0:=qf3 true none [tMask,tInt,tInt] [tInt] (λx=>wd6 x.1) (λx=>(qo7 x.1 x.2.1 x.2.2.1,()))
theorem q49:qd2 Tryz.prog 71 x4s:=by
 refine meets (snd (SpecsOk.cons q3t (SpecsOk.nil _))) Tryz.func71 rfl rfl (λ_ _=>none) (λ_=>by kernel_rfl) (by decide) ?_
 rintro⟨m,k,q,⟨⟩⟩ hf
 revert m k q
 intro(m:List (List Int)) (k:Int) (q:Int) (hf:wd6 m)
 refine @qd4 _ (wd6 m/\((!validB m)=true->(1:Int)=qo7 m k q)/\((!validB m)=false->(decide (k<q)=true->(7:Int)=qo7 m k q)/\(decide (k<q)=false->((0:Int)<=(0:Int)/\(0:Int)<(↑m.length:Int))/\(decide ((↑(nL m (0:Nat)).length:Int)<k)=true->(7:Int)=qo7 m k q)/\(decide ((↑(nL m (0:Nat)).length:Int)<k)=false->(0:Int)=qo7 m k q)))) (by kernel_rfl) ?_
 try simp only[z0,z1,z2,z3,z4,z5,z6,z7,z8,z9,z10,Int.reduceEq,z11,z12,z13,z14,z15,z16,z17,z18,z19,z20,z21,z22,z23,z24,z25,z26,z27,z28,z29,z30,Int.reduceLE,Int.reduceLT,z31,z32,z33,z34,qa1]
 try simp only[qb3,qb4,qb9,z31,z32,z2,z1]
 refine⟨hf,λhv=>by simp[qo7,hv],λhv=>?_⟩
 have hM:=Mk.of hv
 have hm1:=hM.rows1
 have out:¬(q<=k/\k<=(nL m 0).length)->7=qo7 m k q:=λe=>by
  have:inB k q (nL m 0).length=false:=by
   rw[Bool.eq_false_iff]; exact λg=>e (inB_iff.1 g)
  simp[qo7,hv,this]
 refine⟨λh1=>out λg=>Int.not_lt.2 g.1 h1,λh1=>⟨by omega,λh2=>out λg=>Int.not_lt.2 g.2 h2,λh2=>?_⟩⟩
 have:inB k q (nL m 0).length=true:=inB_iff.2 ⟨h1,h2⟩
 simp[qo7,hv,this]
abbrev x06:qc0:=qf3 true none [qz6] [.bool] (λx=>qr4 x.1) (λx=>(!(hlf x.1),()))
theorem q8e:qd2 Tryz.prog 48 x06:=by
 refine meets (snd (SpecsOk.nil _)) Tryz.func48 rfl rfl (λ_ _=>none) (λ_=>by kernel_rfl) (by decide) ?_
 rintro⟨⟨a,b⟩,⟨⟩⟩ h
 revert a b
 intro(a:Int) (b:Int) (h:qr4 (a,b))
 refine @qd4 _ (fits .i64 ((2:Int)*a)/\decide ((2:Int)*a<b)=!hlf (a,b)) (by kernel_rfl) ?_
 try simp only[z0,z1,z2,z3,z4,z5,z6,z7,z8,z9,z10,Int.reduceEq,z11,z12,z13,z14,z15,z16,z17,z18,z19,z20,z21,z22,z23,z24,z25,z26,z27,z28,z29,z30,Int.reduceLE,Int.reduceLT,z31,z32,z33,z34,qa1]
 try simp only[qb3,qb4,qb9,z31,z32,z2,z1]
 have h1:=h.n
 obtain⟨h1,h2⟩:=h1
 dsimp only at h1 h2
 refine⟨qa5 (by omega) (by omega),?_⟩
 unfold hlf
 dsimp only
 by_cases q:b<=2*a
 ·rw[decide_eq_true q,decide_eq_false (Int.not_lt.2 q)]; rfl
 ·rw[decide_eq_false q,decide_eq_true (Int.not_le.1 q)]; rfl
structure w8t (m:List (List Int)) (k:Int):Prop where
 fit:qw0 m
 v:validB m=true
 k0:0<=k
 kn:k<=(nL m 0).length
abbrev x4t (x:Int × Int):AV:=.agg (.cons (.lit (.int .i64 x.1)) (.cons (.lit (.int .i64 x.2)) .nil))
abbrev x8z:qc0:=w6b false none [tMask,tInt] (λx=>w8t x.1 x.2.1) (λx=>.tup (.cons (x4t (whR x.1 x.2.1).1) (.cons (.ndat false (.int .i64) (whR x.1 x.2.1).2.1) (.cons (.dat (.int .i64) (whR x.1 x.2.1).2.2) .nil))))
def x4u (l S:List (List Int)):Nat->Option Inv
 | 0=>some (Inv.of [5,6,16] 1 (λi:Nat=>[(5,.ndat false (.int .i64) (qk8 l S i).2.1),(6,.dat (.int .i64) (qk8 l S i).2.2),(16,.lit (.int .i64 i))]) (λi=>[.box 34 (.cons (.lit (.int .i64 (qk8 l S i).1.1)) (.cons (.lit (.int .i64 (qk8 l S i).1.2)) .nil))]) (λi=>i<=l.length) (λi=>l.length-i))
 | 1=>some (Eng.Inv.mk Nat Nat [5,6,27] 1 (λi j=>[(5,.ndat false (.int .i64) (whS (nL l i) S (qk8 l S i) j).2.1),(6,.dat (.int .i64) (whS (nL l i) S (qk8 l S i) j).2.2),(27,.lit (.int .i64 j))]) (λi j=>[.box 34 (.cons (.lit (.int .i64 (whS (nL l i) S (qk8 l S i) j).1.1)) (.cons (.lit (.int .i64 (whS (nL l i) S (qk8 l S i) j).1.2)) .nil))]) (λi j=>j<=S.length) (λi j=>S.length-j))
 | _=>none
theorem w8u:qd2 Tryz.prog 52 x8z:=by
 refine wl7 (snd (SpecsOk.cons q47 (SpecsOk.cons (q27 20) (SpecsOk.cons q9w (SpecsOk.cons q9u (SpecsOk.nil _)))))) Tryz.func52 rfl rfl (λx=>x4u (qa9 x.1).1 (qa4 (nL x.1 0).length x.2.1)) (λ_=>by kernel_rfl) (by decide) ?_
 rintro⟨m,k,⟨⟩⟩ h
 revert m k
 intro(m:List (List Int)) (k:Int) (h:w8t m k)
 refine @qd4 _ (qw0 m/\∃(v0:Unit),∃(v1:Nat),Nat.le v1 (qa9 m).1.length/\(((qk8 (qa9 m).1 (qa4 (↑(nL m (0:Nat)).length:Int) k) v1).2.1=[]/\(qk8 (qa9 m).1 (qa4 (↑(nL m (0:Nat)).length:Int) k) v1).2.2=[]/\(0:Int)=(↑v1:Int)/\True)/\((0:Int)=(qk8 (qa9 m).1 (qa4 (↑(nL m (0:Nat)).length:Int) k) v1).1.1/\(1:Int)=(qk8 (qa9 m).1 (qa4 (↑(nL m (0:Nat)).length:Int) k) v1).1.2/\True)/\True)/\∀(v2:Nat),Nat.le v2 (qa9 m).1.length->(decide ((↑v2:Int)<(↑(qa9 m).1.length:Int))=true->((0:Int)<=(↑v2:Int)/\(↑v2:Int)<(↑(qa9 m).1.length:Int))/\((0:Int)<=(0:Int)/\(0:Int)<(↑m.length:Int))/\q26 (20:Nat) (↑(nL m (0:Nat)).length:Int) k/\∃(v5:Nat),∃(v6:Nat),Nat.le v6 (qa4 (↑(nL m (0:Nat)).length:Int) k).length/\(((qk8 (qa9 m).1 (qa4 (↑(nL m (0:Nat)).length:Int) k) v2).2.1=(whS (nL (qa9 m).1 v5) (qa4 (↑(nL m (0:Nat)).length:Int) k) (qk8 (qa9 m).1 (qa4 (↑(nL m (0:Nat)).length:Int) k) v5) v6).2.1/\(qk8 (qa9 m).1 (qa4 (↑(nL m (0:Nat)).length:Int) k) v2).2.2=(whS (nL (qa9 m).1 v5) (qa4 (↑(nL m (0:Nat)).length:Int) k) (qk8 (qa9 m).1 (qa4 (↑(nL m (0:Nat)).length:Int) k) v5) v6).2.2/\(0:Int)=(↑v6:Int)/\True)/\((qk8 (qa9 m).1 (qa4 (↑(nL m (0:Nat)).length:Int) k) v2).1.1=(whS (nL (qa9 m).1 v5) (qa4 (↑(nL m (0:Nat)).length:Int) k) (qk8 (qa9 m).1 (qa4 (↑(nL m (0:Nat)).length:Int) k) v5) v6).1.1/\(qk8 (qa9 m).1 (qa4 (↑(nL m (0:Nat)).length:Int) k) v2).1.2=(whS (nL (qa9 m).1 v5) (qa4 (↑(nL m (0:Nat)).length:Int) k) (qk8 (qa9 m).1 (qa4 (↑(nL m (0:Nat)).length:Int) k) v5) v6).1.2/\True)/\True)/\∀(v7:Nat),Nat.le v7 (qa4 (↑(nL m (0:Nat)).length:Int) k).length->(decide ((↑v7:Int)<(↑(qa4 (↑(nL m (0:Nat)).length:Int) k).length:Int))=true->((0:Int)<=(↑v7:Int)/\(↑v7:Int)<(↑(qa4 (↑(nL m (0:Nat)).length:Int) k).length:Int))/\wi0 (nL (qa9 m).1 v2) (nL (qa4 (↑(nL m (0:Nat)).length:Int) k) v7)/\(List.isEmpty (whS (nL (qa9 m).1 v5) (qa4 (↑(nL m (0:Nat)).length:Int) k) (qk8 (qa9 m).1 (qa4 (↑(nL m (0:Nat)).length:Int) k) v5) v7).2.1=true->fits .i64 ((↑v7:Int)+(1:Int))/\∃(v11:Nat),Nat.le v11 (qa4 (↑(nL m (0:Nat)).length:Int) k).length/\(qa4 (↑(nL m (0:Nat)).length:Int) k).length-v11<(qa4 (↑(nL m (0:Nat)).length:Int) k).length-v7/\((nL (qa9 m).1 v2=(whS (nL (qa9 m).1 v5) (qa4 (↑(nL m (0:Nat)).length:Int) k) (qk8 (qa9 m).1 (qa4 (↑(nL m (0:Nat)).length:Int) k) v5) v11).2.1/\Nat.le (1:Nat) (nL (qa9 m).1 v2).length)/\nL (qa4 (↑(nL m (0:Nat)).length:Int) k) v7=(whS (nL (qa9 m).1 v5) (qa4 (↑(nL m (0:Nat)).length:Int) k) (qk8 (qa9 m).1 (qa4 (↑(nL m (0:Nat)).length:Int) k) v5) v11).2.2/\(↑v7:Int)+(1:Int)=(↑v11:Int)/\True)/\((shR (nL (qa9 m).1 v2) (nL (qa4 (↑(nL m (0:Nat)).length:Int) k) v7)).1=(whS (nL (qa9 m).1 v5) (qa4 (↑(nL m (0:Nat)).length:Int) k) (qk8 (qa9 m).1 (qa4 (↑(nL m (0:Nat)).length:Int) k) v5) v11).1.1/\(shR (nL (qa9 m).1 v2) (nL (qa4 (↑(nL m (0:Nat)).length:Int) k) v7)).2=(whS (nL (qa9 m).1 v5) (qa4 (↑(nL m (0:Nat)).length:Int) k) (qk8 (qa9 m).1 (qa4 (↑(nL m (0:Nat)).length:Int) k) v5) v11).1.2/\True)/\True)/\(List.isEmpty (whS (nL (qa9 m).1 v5) (qa4 (↑(nL m (0:Nat)).length:Int) k) (qk8 (qa9 m).1 (qa4 (↑(nL m (0:Nat)).length:Int) k) v5) v7).2.1=false->(qr4 ((whS (nL (qa9 m).1 v5) (qa4 (↑(nL m (0:Nat)).length:Int) k) (qk8 (qa9 m).1 (qa4 (↑(nL m (0:Nat)).length:Int) k) v5) v7).1.1,(whS (nL (qa9 m).1 v5) (qa4 (↑(nL m (0:Nat)).length:Int) k) (qk8 (qa9 m).1 (qa4 (↑(nL m (0:Nat)).length:Int) k) v5) v7).1.2)/\qr4 ((shR (nL (qa9 m).1 v2) (nL (qa4 (↑(nL m (0:Nat)).length:Int) k) v7)).1,(shR (nL (qa9 m).1 v2) (nL (qa4 (↑(nL m (0:Nat)).length:Int) k) v7)).2))/\(q34 ((whS (nL (qa9 m).1 v5) (qa4 (↑(nL m (0:Nat)).length:Int) k) (qk8 (qa9 m).1 (qa4 (↑(nL m (0:Nat)).length:Int) k) v5) v7).1.1,(whS (nL (qa9 m).1 v5) (qa4 (↑(nL m (0:Nat)).length:Int) k) (qk8 (qa9 m).1 (qa4 (↑(nL m (0:Nat)).length:Int) k) v5) v7).1.2) ((shR (nL (qa9 m).1 v2) (nL (qa4 (↑(nL m (0:Nat)).length:Int) k) v7)).1,(shR (nL (qa9 m).1 v2) (nL (qa4 (↑(nL m (0:Nat)).length:Int) k) v7)).2)=true->fits .i64 ((↑v7:Int)+(1:Int))/\∃(v12:Nat),Nat.le v12 (qa4 (↑(nL m (0:Nat)).length:Int) k).length/\(qa4 (↑(nL m (0:Nat)).length:Int) k).length-v12<(qa4 (↑(nL m (0:Nat)).length:Int) k).length-v7/\((nL (qa9 m).1 v2=(whS (nL (qa9 m).1 v5) (qa4 (↑(nL m (0:Nat)).length:Int) k) (qk8 (qa9 m).1 (qa4 (↑(nL m (0:Nat)).length:Int) k) v5) v12).2.1/\Nat.le (1:Nat) (nL (qa9 m).1 v2).length)/\nL (qa4 (↑(nL m (0:Nat)).length:Int) k) v7=(whS (nL (qa9 m).1 v5) (qa4 (↑(nL m (0:Nat)).length:Int) k) (qk8 (qa9 m).1 (qa4 (↑(nL m (0:Nat)).length:Int) k) v5) v12).2.2/\(↑v7:Int)+(1:Int)=(↑v12:Int)/\True)/\((shR (nL (qa9 m).1 v2) (nL (qa4 (↑(nL m (0:Nat)).length:Int) k) v7)).1=(whS (nL (qa9 m).1 v5) (qa4 (↑(nL m (0:Nat)).length:Int) k) (qk8 (qa9 m).1 (qa4 (↑(nL m (0:Nat)).length:Int) k) v5) v12).1.1/\(shR (nL (qa9 m).1 v2) (nL (qa4 (↑(nL m (0:Nat)).length:Int) k) v7)).2=(whS (nL (qa9 m).1 v5) (qa4 (↑(nL m (0:Nat)).length:Int) k) (qk8 (qa9 m).1 (qa4 (↑(nL m (0:Nat)).length:Int) k) v5) v12).1.2/\True)/\True)/\(q34 ((whS (nL (qa9 m).1 v5) (qa4 (↑(nL m (0:Nat)).length:Int) k) (qk8 (qa9 m).1 (qa4 (↑(nL m (0:Nat)).length:Int) k) v5) v7).1.1,(whS (nL (qa9 m).1 v5) (qa4 (↑(nL m (0:Nat)).length:Int) k) (qk8 (qa9 m).1 (qa4 (↑(nL m (0:Nat)).length:Int) k) v5) v7).1.2) ((shR (nL (qa9 m).1 v2) (nL (qa4 (↑(nL m (0:Nat)).length:Int) k) v7)).1,(shR (nL (qa9 m).1 v2) (nL (qa4 (↑(nL m (0:Nat)).length:Int) k) v7)).2)=false->fits .i64 ((↑v7:Int)+(1:Int))/\∃(v12:Nat),Nat.le v12 (qa4 (↑(nL m (0:Nat)).length:Int) k).length/\(qa4 (↑(nL m (0:Nat)).length:Int) k).length-v12<(qa4 (↑(nL m (0:Nat)).length:Int) k).length-v7/\((whS (nL (qa9 m).1 v5) (qa4 (↑(nL m (0:Nat)).length:Int) k) (qk8 (qa9 m).1 (qa4 (↑(nL m (0:Nat)).length:Int) k) v5) v7).2.1=(whS (nL (qa9 m).1 v5) (qa4 (↑(nL m (0:Nat)).length:Int) k) (qk8 (qa9 m).1 (qa4 (↑(nL m (0:Nat)).length:Int) k) v5) v12).2.1/\(whS (nL (qa9 m).1 v5) (qa4 (↑(nL m (0:Nat)).length:Int) k) (qk8 (qa9 m).1 (qa4 (↑(nL m (0:Nat)).length:Int) k) v5) v7).2.2=(whS (nL (qa9 m).1 v5) (qa4 (↑(nL m (0:Nat)).length:Int) k) (qk8 (qa9 m).1 (qa4 (↑(nL m (0:Nat)).length:Int) k) v5) v12).2.2/\(↑v7:Int)+(1:Int)=(↑v12:Int)/\True)/\((whS (nL (qa9 m).1 v5) (qa4 (↑(nL m (0:Nat)).length:Int) k) (qk8 (qa9 m).1 (qa4 (↑(nL m (0:Nat)).length:Int) k) v5) v7).1.1=(whS (nL (qa9 m).1 v5) (qa4 (↑(nL m (0:Nat)).length:Int) k) (qk8 (qa9 m).1 (qa4 (↑(nL m (0:Nat)).length:Int) k) v5) v12).1.1/\(whS (nL (qa9 m).1 v5) (qa4 (↑(nL m (0:Nat)).length:Int) k) (qk8 (qa9 m).1 (qa4 (↑(nL m (0:Nat)).length:Int) k) v5) v7).1.2=(whS (nL (qa9 m).1 v5) (qa4 (↑(nL m (0:Nat)).length:Int) k) (qk8 (qa9 m).1 (qa4 (↑(nL m (0:Nat)).length:Int) k) v5) v12).1.2/\True)/\True)))/\(decide ((↑v7:Int)<(↑(qa4 (↑(nL m (0:Nat)).length:Int) k).length:Int))=false->fits .i64 ((↑v2:Int)+(1:Int))/\∃(v10:Nat),Nat.le v10 (qa9 m).1.length/\(qa9 m).1.length-v10<(qa9 m).1.length-v2/\((whS (nL (qa9 m).1 v5) (qa4 (↑(nL m (0:Nat)).length:Int) k) (qk8 (qa9 m).1 (qa4 (↑(nL m (0:Nat)).length:Int) k) v5) v7).2.1=(qk8 (qa9 m).1 (qa4 (↑(nL m (0:Nat)).length:Int) k) v10).2.1/\(whS (nL (qa9 m).1 v5) (qa4 (↑(nL m (0:Nat)).length:Int) k) (qk8 (qa9 m).1 (qa4 (↑(nL m (0:Nat)).length:Int) k) v5) v7).2.2=(qk8 (qa9 m).1 (qa4 (↑(nL m (0:Nat)).length:Int) k) v10).2.2/\(↑v2:Int)+(1:Int)=(↑v10:Int)/\True)/\((whS (nL (qa9 m).1 v5) (qa4 (↑(nL m (0:Nat)).length:Int) k) (qk8 (qa9 m).1 (qa4 (↑(nL m (0:Nat)).length:Int) k) v5) v7).1.1=(qk8 (qa9 m).1 (qa4 (↑(nL m (0:Nat)).length:Int) k) v10).1.1/\(whS (nL (qa9 m).1 v5) (qa4 (↑(nL m (0:Nat)).length:Int) k) (qk8 (qa9 m).1 (qa4 (↑(nL m (0:Nat)).length:Int) k) v5) v7).1.2=(qk8 (qa9 m).1 (qa4 (↑(nL m (0:Nat)).length:Int) k) v10).1.2/\True)/\True))/\(decide ((↑v2:Int)<(↑(qa9 m).1.length:Int))=false->((qk8 (qa9 m).1 (qa4 (↑(nL m (0:Nat)).length:Int) k) v2).1.1=(whR m k).1.1/\(qk8 (qa9 m).1 (qa4 (↑(nL m (0:Nat)).length:Int) k) v2).1.2=(whR m k).1.2/\True)/\(qk8 (qa9 m).1 (qa4 (↑(nL m (0:Nat)).length:Int) k) v2).2.1=(whR m k).2.1/\(qk8 (qa9 m).1 (qa4 (↑(nL m (0:Nat)).length:Int) k) v2).2.2=(whR m k).2.2/\True)) (by kernel_rfl) ?_
 try simp only[z0,z1,z2,z3,z4,z5,z6,z7,z8,z9,z10,Int.reduceEq,z11,z12,z13,z14,z15,z16,z17,z18,z19,z20,z21,z22,z23,z24,z25,z26,z27,z28,z29,z30,Int.reduceLE,Int.reduceLT,z31,z32,z33,z34,qa1]
 try simp only[qb3,qb4,qb9,z31,z32,z2,z1]
 have h7:=h.fit.n7 h.v
 have hM:=Mk.of h.v
 have hm1:=hM.rows1
 have hm10:=hM.pix10
 have k0:=h.k0
 have kn:=h.kn
 obtain⟨k,rfl⟩:∃q:Nat,k=q:=⟨k.toNat,by omega⟩
 have hO:=x52 h.v h7 k
 have hll:=q14 h.v
 have hSl:=qt9 (nL m 0).length k hm10 (by omega)
 have hR:whR m k=qk8 (qa9 m).1 (qa4 (nL m 0).length (k:Nat)) (qa9 m).1.length:=rfl
 rw[hR]
 have hset:q26 20 (nL m 0).length k:=⟨by omega,by omega,by omega,by omega,by omega⟩
 have hT:=wy0 hO
 generalize(qa9 m).1=l at *
 generalize qa4 (nL m 0).length (k:Nat)=S at *
 refine⟨h.fit,(),0,Nat.zero_le _,⟨⟨rfl,rfl,rfl⟩,rfl,rfl⟩,λi hi=>⟨λhlt=>?_,λhge=>?_⟩⟩
 ·refine⟨hlt,by omega,hset,i,0,Nat.zero_le _,⟨⟨rfl,rfl,rfl⟩,rfl,rfl⟩,λj hj=>⟨λhjt=>?_,λhjg=>?_⟩⟩
  ·have hs:whS (nL l i) S (qk8 l S i) (j+1)=q0i (nL l i) (whS (nL l i) S (qk8 l S i) j) (nL S j):=rfl
   have hI:=(w8s hO hlt (hT i (by omega)) j hj).lil hO (by omega) (.inl hlt) hj
   have hsh:=hO.sh i hlt j hjt
   have hne:=hO.ne hlt hjt
   generalize whS (nL l i) S (qk8 l S i) j=w at *
   have h1:1<=(nL l i).length:=by
    cases e:nL l i with
    | nil=>rw[e] at hne; cases hne
    | cons a r=>simp
   have yes:q0i (nL l i) w (nL S j)=(shR (nL l i) (nL S j),nL l i,nL S j)->fits IntKind.i64 (↑j+1)/\∃v11,v11<=S.length/\S.length-v11<S.length-j/\((nL l i=(whS (nL l i) S (qk8 l S i) v11).2.1/\1<=(nL l i).length)/\nL S j=(whS (nL l i) S (qk8 l S i) v11).2.2/\(↑j+1:Int)=↑v11)/\(shR (nL l i) (nL S j)).1=(whS (nL l i) S (qk8 l S i) v11).1.1/\(shR (nL l i) (nL S j)).2=(whS (nL l i) S (qk8 l S i) v11).1.2:=λe=>by
    refine⟨qa5 (by omega) (by omega),j+1,hjt,by omega,?_⟩
    rw[hs,e]
    exact⟨⟨⟨rfl,h1⟩,rfl,by push_cast; rfl⟩,rfl,rfl⟩
   refine⟨hjt,hsh,λhe=>yes ?_,λhe=>⟨⟨hI,q2d hsh⟩,λhl=>yes ?_,λhl=>?_⟩⟩
   ·unfold q0i; rw[if_pos he]
   ·unfold q0i
    rw[if_neg (by rw[he]; decide),if_pos hl]
   ·have e:q0i (nL l i) w (nL S j)=w:=by
     unfold q0i
     rw[if_neg (by rw[he]; decide),if_neg]
     intro q
     have hl:q34 w.1 (shR (nL l i) (nL S j))=false:=hl
     rw[hl] at q; cases q
    refine⟨qa5 (by omega) (by omega),j+1,hjt,by omega,?_⟩
    rw[hs,e]
    exact⟨⟨rfl,rfl,by push_cast; rfl⟩,rfl,rfl⟩
  ·obtain rfl:j=S.length:=by omega
   exact⟨qa5 (by omega) (by omega),i+1,hlt,by omega,⟨rfl,rfl,by push_cast; rfl⟩,rfl,rfl⟩
 ·obtain rfl:i=l.length:=by omega
  exact⟨⟨rfl,rfl⟩,rfl,rfl⟩
def xu6:List (List Int):=[[1,1,0],[0,1,1]]
def x4v (l:List (List Int)) (k:Nat):Nat->Int × Int
 | 0=>(0,1)
 | i+1=>q8o (x4v l k i) (ofR (qx7 (szV (nL l i)) ((w8k (nL l i)).take k)) (szL (nL l i)))
theorem wy1 (l:List (List Int)) (k:Nat):∀n,qh8 l k n=x4v l k n
 | 0=>rfl
 | n+1=>by
  rw[qh8,x4v,wy1 l k n]
  unfold shR
  rw[q4b]
theorem w8v:grQ xu6 1=(1,3)/\qo7 xu6 1 0=0/\q4g xu6=(1,0):=by
 have hc:(qa9 xu6).1=[[1,-1,1]]:=by decide +kernel
 have hv:validB xu6=true:=by decide
 have hk:qo7 xu6 1 0=0:=by decide
 refine⟨?_,hk,?_⟩
 ·unfold grQ
  rw[if_pos hk,hc,wy1]
  decide +kernel
 ·unfold q4g ordL
  rw[if_pos hv,hc]
  show(((ordF [[1,-1,1]] 3 0:Nat):Int),(0:Int))=(1,0)
  simp only[ordF,wy1]
  decide +kernel
theorem xl3:w7i [[1,1,0],[0,1,1]]:=w9f λ_=>by show 3<=7; decide
abbrev x9a:qc0:=qf3 true none [] [.bool] (λ_=>True) (λ_=>(true,()))
theorem w8w:qd2 Tryz.prog 10 x9a:=by
 refine meets (snd (SpecsOk.cons ww5 (SpecsOk.cons ww6 (SpecsOk.nil _)))) Tryz.func10 rfl rfl (λ_ _=>none) (λ_=>by kernel_rfl) (by decide) ?_
 rintro⟨⟩ -
 refine @qd4 _ (w7i [[(1:Int),(1:Int),(0:Int)],[(0:Int),(1:Int),(1:Int)]]/\w7i [[(1:Int),(1:Int),(0:Int)],[(0:Int),(1:Int),(1:Int)]]/\(((0:Int)==(0:Int))=true->(((1:Int)==(1:Int) && (3:Int)==(3:Int))=true->(((0:Int)==(0:Int))=true->((q4g [[(1:Int),(1:Int),(0:Int)],[(0:Int),(1:Int),(1:Int)]]).1==(1:Int))=true)/\(((0:Int)==(0:Int))=false->false=true))/\(((1:Int)==(1:Int) && (3:Int)==(3:Int))=false->false=true))/\(((0:Int)==(0:Int))=false->false=true)) (by kernel_rfl) ?_
 try simp only[z0,z1,z2,z3,z4,z5,z6,z7,z8,z9,z10,Int.reduceEq,z11,z12,z13,z14,z15,z16,z17,z18,z19,z20,z21,z22,z23,z24,z25,z26,z27,z28,z29,z30,Int.reduceLE,Int.reduceLT,z31,z32,z33,z34,qa1]
 try simp only[qb3,qb4,qb9,z31,z32,z2,z1]
 have ho:(q4g [[1,1,0],[0,1,1]]).1=1:=congrArg Prod.fst w8v.2.2
 exact⟨xl3,xl3,⟨λ_=>⟨ho,λq=>absurd trivial q⟩,λq=>by cases q⟩,λq=>absurd trivial q⟩
theorem xt0 {m:List (List Int)} (h:w4j m=true) (hv:validB m=true):(nL m 0).length<=7:=by
 unfold w4j at h
 rw[Bool.and_eq_true,Bool.not_eq_true',List.any_eq_false] at h
 have hM:=Mk.of hv
 have h1:=h.1 (nL m 0) (qj4 m 0 (by have:=hM.rows1; omega))
 have h2:=hM.pix10
 unfold xr1 at h1
 simp at h1
 omega
theorem w8x {m:List (List Int)} {p:List Int} (hv:validB m=true) (h:w4h m p=0):Named (nL m 0).length p:=by
 unfold w4h at h
 rw[if_neg (by rw[hv]; decide)] at h
 exact Named.of h
theorem x4w {m:List (List Int)} {p:List Int} (h:w4h m p=0):validB m=true:=by
 unfold w4h at h
 split at h
 ·cases h
 ·rename_i q
  cases e:validB m with
  | true=>rfl
  | false=>exact absurd e q
def xh8 (m:List (List Int)) (p:List Int):Bool:=decide (ofE m p=0) && !hlf (ofQ m p)
structure SafPre (m:List (List Int)) (p:List Int):Prop where
 fit:qw0 m
 len:p.length<=1000
theorem SafPre.lil {m:List (List Int)} {p:List Int} (h:SafPre m p) (he:ofE m p=0):qr4 (ofQ m p):=by
 have hv:=x4w he
 rw[show ofQ m p=qp0 (qa9 m).1 p (qa9 m).1.length from if_pos he]
 exact q33 ⟨q14 hv,λi hi=>by
  obtain⟨s,hc⟩:=qv6 hv (h.fit.n7 hv) hi
  exact q5p hv hc (w8x hv he)⟩ _ (Nat.le_refl _)
abbrev x9c:qc0:=qf3 true none [tMask,tInts] [.bool,tInt] (λx=>SafPre x.1 x.2.1) (λx=>(xh8 x.1 x.2.1,ofE x.1 x.2.1,()))
theorem w37:qd2 Tryz.prog 12 x9c:=by
 refine meets (snd (SpecsOk.cons w8o (SpecsOk.cons q8e (SpecsOk.nil _)))) Tryz.func12 rfl rfl (λ_ _=>none) (λ_=>by kernel_rfl) (by decide) ?_
 rintro⟨m,p,⟨⟩⟩ h
 revert m p
 intro(m:List (List Int)) (p:List Int) (h:SafPre m p)
 refine @qd4 _ (let Q0:=((ofQ m p).1,(ofQ m p).2); w8n m p/\((ofE m p==(0:Int))=true->qr4 Q0/\(!hlf Q0)=xh8 m p/\ofE m p=ofE m p/\True)/\((ofE m p==(0:Int))=false->false=xh8 m p/\ofE m p=ofE m p/\True)) (by kernel_rfl) ?_
 try simp only[z0,z1,z2,z3,z4,z5,z6,z7,z8,z9,z10,Int.reduceEq,z11,z12,z13,z14,z15,z16,z17,z18,z19,z20,z21,z22,z23,z24,z25,z26,z27,z28,z29,z30,Int.reduceLE,Int.reduceLT,z31,z32,z33,z34,qa1]
 try simp only[qb3,qb4,qb9,z31,z32,z2,z1]
 refine⟨⟨h.fit,h.len⟩,λhe=>⟨h.lil he,?_⟩,λhe=>?_⟩
 ·unfold xh8; rw[decide_eq_true he,Bool.true_and]; first | rfl | exact(Bool.not_not _).symm
 ·unfold xh8; rw[decide_eq_false he]; rfl
def x07 (l:List (List Int)) (n:Nat):Nat->Option Inv
 | 0=>some (Inv.of [15] 0 (λk:Nat=>[(15,.lit (.int .i64 k))]) (λ_=>[]) (λk=>wp3 l n k) (λk=>n-k))
 | _=>none
abbrev x4x:qc0:=qf3 true none [tMask] [tInt,tInt] (λx=>qw0 x.1) (λx=>((q4g x.1).1,(q4g x.1).2,()))
theorem w38:qd2 Tryz.prog 14 x4x:=by
 refine meets (snd (SpecsOk.cons q3t (SpecsOk.cons w8u (SpecsOk.cons q8e (SpecsOk.nil _))))) Tryz.func14 rfl rfl (λx=>x07 (qa9 x.1).1 (nL x.1 0).length) (λ_=>by kernel_rfl) (by decide) ?_
 rintro⟨m,⟨⟩⟩ h
 revert m
 intro(m:List (List Int)) (h:qw0 m)
 refine @qd4 _ (wd6 m/\((!validB m)=true->(0:Int)=(q4g m).1/\(1:Int)=(q4g m).2/\True)/\((!validB m)=false->((0:Int)<=(0:Int)/\(0:Int)<(↑m.length:Int))/\∃(v1:Unit),∃(v2:Nat),wp3 (qa9 m).1 (nL m (0:Nat)).length v2/\(((0:Int)=(↑v2:Int)/\True)/\True)/\∀(v3:Nat),wp3 (qa9 m).1 (nL m (0:Nat)).length v3->(decide ((↑v3:Int)<(↑(nL m (0:Nat)).length:Int))=true->fits .i64 ((↑v3:Int)+(1:Int))/\w8t m ((↑v3:Int)+(1:Int))/\qr4 ((whR m ((↑v3:Int)+(1:Int))).1.1,(whR m ((↑v3:Int)+(1:Int))).1.2)/\((!!hlf ((whR m ((↑v3:Int)+(1:Int))).1.1,(whR m ((↑v3:Int)+(1:Int))).1.2))=true->(↑v3:Int)=(q4g m).1/\(0:Int)=(q4g m).2/\True)/\((!!hlf ((whR m ((↑v3:Int)+(1:Int))).1.1,(whR m ((↑v3:Int)+(1:Int))).1.2))=false->fits .i64 ((↑v3:Int)+(1:Int))/\∃(v7:Nat),wp3 (qa9 m).1 (nL m (0:Nat)).length v7/\(nL m (0:Nat)).length-v7<(nL m (0:Nat)).length-v3/\((↑v3:Int)+(1:Int)=(↑v7:Int)/\True)/\True))/\(decide ((↑v3:Int)<(↑(nL m (0:Nat)).length:Int))=false->((0:Int)<=(0:Int)/\(0:Int)<(↑m.length:Int))/\(↑(nL m (0:Nat)).length:Int)=(q4g m).1/\(0:Int)=(q4g m).2/\True))) (by kernel_rfl) ?_
 try simp only[z0,z1,z2,z3,z4,z5,z6,z7,z8,z9,z10,Int.reduceEq,z11,z12,z13,z14,z15,z16,z17,z18,z19,z20,z21,z22,z23,z24,z25,z26,z27,z28,z29,z30,Int.reduceLE,Int.reduceLT,z31,z32,z33,z34,qa1]
 try simp only[qb3,qb4,qb9,z31,z32,z2,z1]
 have hoR:∀k:Nat,ordL m=k->validB m=true->(k:Int)=(q4g m).1/\0=(q4g m).2:=λk e hv=>by
  unfold q4g; rw[if_pos hv,e]; exact⟨rfl,rfl⟩
 refine⟨h.fit,λhv=>by unfold q4g; rw[hv]; exact⟨rfl,rfl⟩,λhv=>?_⟩
 have hM:=Mk.of hv
 have m1:=hM.rows1
 have m10:=hM.pix10
 have h7:=h.n7 hv
 refine⟨by omega,(),0,⟨Nat.zero_le _,rfl⟩,rfl,λk hk=>⟨λhlt=>?_,λhge=>?_⟩⟩
 ·have e2:((k:Int)+1)=((k+1:Nat):Int):=by push_cast; rfl
  have hw:=x05 hv h7 (k:=k+1) (by omega)
  have hT:=(w9f (m:=m) λ_=>h7).shs hv (k+1) (by omega)
  have hl:=qm6 hT _ (Nat.le_refl _)
  rw[Int.toNat_natCast,<- hw] at hl
  have hst:=we8 (l:=(qa9 m).1) hlt
  rw[<- hw] at hst
  rw[e2]
  refine⟨qa5 (by omega) (by omega),⟨h,hv,by omega,by omega⟩,hl,λhf=>?_,λhf=>⟨qa5 (by omega) (by omega),k+1,⟨by omega,?_⟩,by omega,rfl⟩⟩
  ·refine hoR k ?_ hv
   unfold ordL
   rw[hk.eq,hst,if_neg (by intro q; have hf:hlf (whR m ((k+1:Nat):Int)).1=true:=hf; rw[hf] at q; cases q)]
  ·rw[hk.eq,hst]
   exact if_pos hf
 ·have hle:=hk.le
  have e:k=(nL m 0).length:=by omega
  refine⟨by omega,hoR _ ?_ hv⟩
  unfold ordL
  rw[hk.eq,e,Nat.sub_self]; rfl
end Go.Proofs.YtempacilejhbgaaGreat
