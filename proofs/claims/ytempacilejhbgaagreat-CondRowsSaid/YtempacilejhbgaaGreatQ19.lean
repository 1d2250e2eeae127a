/- Safe pixels and the order: contracts by the engine. No condition. -/
import Derived.Test.YtempacilejhbgaaGreatR8
import Derived.Test.YtempacilejhbgaaGreatQ15
set_option linter.unusedVariables false
set_option linter.unusedSimpArgs false
namespace Go.Proofs.YtempacilejhbgaaGreat
open Go Go.RowKit Eng
abbrev x1j:qb9:=qg1 true none [q0c] [.bool] (λx=>qr5 x.1) (λx=>(!(hlf x.1),()))
theorem q70:qd6 Tryz.prog 48 x1j:=by
 refine meets (snd (SpecsOk.nil _)) Tryz.func48 rfl rfl (λ_ _=>none) (λ_=>by kernel_rfl) (by decide) ?_
 rintro⟨⟨a,b⟩,⟨⟩⟩ h
 revert a b
 intro(a:Int) (b:Int) (h:qr5 (a,b))
 refine @qd9 _ (fits .i64 ((2:Int)*a)/\decide ((2:Int)*a<b)=!hlf (a,b)) (by kernel_rfl) ?_
 try simp only[z0,z1,z2,z3,z4,z5,z6,z7,z8,z9,z10,Int.reduceEq,z11,z12,z13,z14,z15,z16,z17,z18,z19,z20,z21,z22,z23,z24,z25,z26,z27,z28,z29,z30,Int.reduceLE,Int.reduceLT,z31,z32,z33,z34,qa3]
 try simp only[qb4,qb5,qc0,z31,z32,z2,z1]
 have h1:=h.n
 obtain⟨h1,h2⟩:=h1
 dsimp only at h1 h2
 refine⟨qa6 (by omega) (by omega),?_⟩
 unfold hlf
 dsimp only
 by_cases q:b<=2*a
 ·rw[decide_eq_true q,decide_eq_false (Int.not_lt.2 q)]; rfl
 ·rw[decide_eq_false q,decide_eq_true (Int.not_le.1 q)]; rfl
structure w8p (m:List (List Int)) (k:Int):Prop where
 fit:q1q m
 v:validB m=true
 k0:0<=k
 kn:k<=(nL m 0).length
abbrev x5f (x:Int × Int):AV:=.agg (.cons (.lit (.int .i64 x.1)) (.cons (.lit (.int .i64 x.2)) .nil))
abbrev x9e:qb9:=w58 false none [tMask,tInt] (λx=>w8p x.1 x.2.1) (λx=>.tup (.cons (x5f (whR x.1 x.2.1).1) (.cons (.ndat false (.int .i64) (whR x.1 x.2.1).2.1) (.cons (.dat (.int .i64) (whR x.1 x.2.1).2.2) .nil))))
def x5g (l S:List (List Int)):Nat->Option Inv
 | 0=>some (Inv.of [5,6,16] 1 (λi:Nat=>[(5,.ndat false (.int .i64) (qk9 l S i).2.1),(6,.dat (.int .i64) (qk9 l S i).2.2),(16,.lit (.int .i64 i))]) (λi=>[.box 34 (.cons (.lit (.int .i64 (qk9 l S i).1.1)) (.cons (.lit (.int .i64 (qk9 l S i).1.2)) .nil))]) (λi=>i<=l.length) (λi=>l.length-i))
 | 1=>some (Eng.Inv.mk Nat Nat [5,6,27] 1 (λi j=>[(5,.ndat false (.int .i64) (whS (nL l i) S (qk9 l S i) j).2.1),(6,.dat (.int .i64) (whS (nL l i) S (qk9 l S i) j).2.2),(27,.lit (.int .i64 j))]) (λi j=>[.box 34 (.cons (.lit (.int .i64 (whS (nL l i) S (qk9 l S i) j).1.1)) (.cons (.lit (.int .i64 (whS (nL l i) S (qk9 l S i) j).1.2)) .nil))]) (λi j=>j<=S.length) (λi j=>S.length-j))
 | _=>none
theorem w8q:qd6 Tryz.prog 52 x9e:=by
 refine w0y (snd (SpecsOk.cons q9w (SpecsOk.cons (q7z 20) (SpecsOk.cons q9l (SpecsOk.cons q9k (SpecsOk.nil _)))))) Tryz.func52 rfl rfl (λx=>x5g (qc8 x.1).1 (qa7 (nL x.1 0).length x.2.1)) (λ_=>by kernel_rfl) (by decide) ?_
 rintro⟨m,k,⟨⟩⟩ h
 revert m k
 intro(m:List (List Int)) (k:Int) (h:w8p m k)
 refine @qd9 _ (q1q m/\∃(v0:Unit),∃(v1:Nat),Nat.le v1 (qc8 m).1.length/\(((qk9 (qc8 m).1 (qa7 (↑(nL m (0:Nat)).length:Int) k) v1).2.1=[]/\(qk9 (qc8 m).1 (qa7 (↑(nL m (0:Nat)).length:Int) k) v1).2.2=[]/\(0:Int)=(↑v1:Int)/\True)/\((0:Int)=(qk9 (qc8 m).1 (qa7 (↑(nL m (0:Nat)).length:Int) k) v1).1.1/\(1:Int)=(qk9 (qc8 m).1 (qa7 (↑(nL m (0:Nat)).length:Int) k) v1).1.2/\True)/\True)/\∀(v2:Nat),Nat.le v2 (qc8 m).1.length->(decide ((↑v2:Int)<(↑(qc8 m).1.length:Int))=true->((0:Int)<=(↑v2:Int)/\(↑v2:Int)<(↑(qc8 m).1.length:Int))/\((0:Int)<=(0:Int)/\(0:Int)<(↑m.length:Int))/\q7y (20:Nat) (↑(nL m (0:Nat)).length:Int) k/\∃(v5:Nat),∃(v6:Nat),Nat.le v6 (qa7 (↑(nL m (0:Nat)).length:Int) k).length/\(((qk9 (qc8 m).1 (qa7 (↑(nL m (0:Nat)).length:Int) k) v2).2.1=(whS (nL (qc8 m).1 v5) (qa7 (↑(nL m (0:Nat)).length:Int) k) (qk9 (qc8 m).1 (qa7 (↑(nL m (0:Nat)).length:Int) k) v5) v6).2.1/\(qk9 (qc8 m).1 (qa7 (↑(nL m (0:Nat)).length:Int) k) v2).2.2=(whS (nL (qc8 m).1 v5) (qa7 (↑(nL m (0:Nat)).length:Int) k) (qk9 (qc8 m).1 (qa7 (↑(nL m (0:Nat)).length:Int) k) v5) v6).2.2/\(0:Int)=(↑v6:Int)/\True)/\((qk9 (qc8 m).1 (qa7 (↑(nL m (0:Nat)).length:Int) k) v2).1.1=(whS (nL (qc8 m).1 v5) (qa7 (↑(nL m (0:Nat)).length:Int) k) (qk9 (qc8 m).1 (qa7 (↑(nL m (0:Nat)).length:Int) k) v5) v6).1.1/\(qk9 (qc8 m).1 (qa7 (↑(nL m (0:Nat)).length:Int) k) v2).1.2=(whS (nL (qc8 m).1 v5) (qa7 (↑(nL m (0:Nat)).length:Int) k) (qk9 (qc8 m).1 (qa7 (↑(nL m (0:Nat)).length:Int) k) v5) v6).1.2/\True)/\True)/\∀(v7:Nat),Nat.le v7 (qa7 (↑(nL m (0:Nat)).length:Int) k).length->(decide ((↑v7:Int)<(↑(qa7 (↑(nL m (0:Nat)).length:Int) k).length:Int))=true->((0:Int)<=(↑v7:Int)/\(↑v7:Int)<(↑(qa7 (↑(nL m (0:Nat)).length:Int) k).length:Int))/\wo1 (nL (qc8 m).1 v2) (nL (qa7 (↑(nL m (0:Nat)).length:Int) k) v7)/\(List.isEmpty (whS (nL (qc8 m).1 v5) (qa7 (↑(nL m (0:Nat)).length:Int) k) (qk9 (qc8 m).1 (qa7 (↑(nL m (0:Nat)).length:Int) k) v5) v7).2.1=true->fits .i64 ((↑v7:Int)+(1:Int))/\∃(v11:Nat),Nat.le v11 (qa7 (↑(nL m (0:Nat)).length:Int) k).length/\(qa7 (↑(nL m (0:Nat)).length:Int) k).length-v11<(qa7 (↑(nL m (0:Nat)).length:Int) k).length-v7/\((nL (qc8 m).1 v2=(whS (nL (qc8 m).1 v5) (qa7 (↑(nL m (0:Nat)).length:Int) k) (qk9 (qc8 m).1 (qa7 (↑(nL m (0:Nat)).length:Int) k) v5) v11).2.1/\Nat.le (1:Nat) (nL (qc8 m).1 v2).length)/\nL (qa7 (↑(nL m (0:Nat)).length:Int) k) v7=(whS (nL (qc8 m).1 v5) (qa7 (↑(nL m (0:Nat)).length:Int) k) (qk9 (qc8 m).1 (qa7 (↑(nL m (0:Nat)).length:Int) k) v5) v11).2.2/\(↑v7:Int)+(1:Int)=(↑v11:Int)/\True)/\((shR (nL (qc8 m).1 v2) (nL (qa7 (↑(nL m (0:Nat)).length:Int) k) v7)).1=(whS (nL (qc8 m).1 v5) (qa7 (↑(nL m (0:Nat)).length:Int) k) (qk9 (qc8 m).1 (qa7 (↑(nL m (0:Nat)).length:Int) k) v5) v11).1.1/\(shR (nL (qc8 m).1 v2) (nL (qa7 (↑(nL m (0:Nat)).length:Int) k) v7)).2=(whS (nL (qc8 m).1 v5) (qa7 (↑(nL m (0:Nat)).length:Int) k) (qk9 (qc8 m).1 (qa7 (↑(nL m (0:Nat)).length:Int) k) v5) v11).1.2/\True)/\True)/\(List.isEmpty (whS (nL (qc8 m).1 v5) (qa7 (↑(nL m (0:Nat)).length:Int) k) (qk9 (qc8 m).1 (qa7 (↑(nL m (0:Nat)).length:Int) k) v5) v7).2.1=false->(qr5 ((whS (nL (qc8 m).1 v5) (qa7 (↑(nL m (0:Nat)).length:Int) k) (qk9 (qc8 m).1 (qa7 (↑(nL m (0:Nat)).length:Int) k) v5) v7).1.1,(whS (nL (qc8 m).1 v5) (qa7 (↑(nL m (0:Nat)).length:Int) k) (qk9 (qc8 m).1 (qa7 (↑(nL m (0:Nat)).length:Int) k) v5) v7).1.2)/\qr5 ((shR (nL (qc8 m).1 v2) (nL (qa7 (↑(nL m (0:Nat)).length:Int) k) v7)).1,(shR (nL (qc8 m).1 v2) (nL (qa7 (↑(nL m (0:Nat)).length:Int) k) v7)).2))/\(q3s ((whS (nL (qc8 m).1 v5) (qa7 (↑(nL m (0:Nat)).length:Int) k) (qk9 (qc8 m).1 (qa7 (↑(nL m (0:Nat)).length:Int) k) v5) v7).1.1,(whS (nL (qc8 m).1 v5) (qa7 (↑(nL m (0:Nat)).length:Int) k) (qk9 (qc8 m).1 (qa7 (↑(nL m (0:Nat)).length:Int) k) v5) v7).1.2) ((shR (nL (qc8 m).1 v2) (nL (qa7 (↑(nL m (0:Nat)).length:Int) k) v7)).1,(shR (nL (qc8 m).1 v2) (nL (qa7 (↑(nL m (0:Nat)).length:Int) k) v7)).2)=true->fits .i64 ((↑v7:Int)+(1:Int))/\∃(v12:Nat),Nat.le v12 (qa7 (↑(nL m (0:Nat)).length:Int) k).length/\(qa7 (↑(nL m (0:Nat)).length:Int) k).length-v12<(qa7 (↑(nL m (0:Nat)).length:Int) k).length-v7/\((nL (qc8 m).1 v2=(whS (nL (qc8 m).1 v5) (qa7 (↑(nL m (0:Nat)).length:Int) k) (qk9 (qc8 m).1 (qa7 (↑(nL m (0:Nat)).length:Int) k) v5) v12).2.1/\Nat.le (1:Nat) (nL (qc8 m).1 v2).length)/\nL (qa7 (↑(nL m (0:Nat)).length:Int) k) v7=(whS (nL (qc8 m).1 v5) (qa7 (↑(nL m (0:Nat)).length:Int) k) (qk9 (qc8 m).1 (qa7 (↑(nL m (0:Nat)).length:Int) k) v5) v12).2.2/\(↑v7:Int)+(1:Int)=(↑v12:Int)/\True)/\((shR (nL (qc8 m).1 v2) (nL (qa7 (↑(nL m (0:Nat)).length:Int) k) v7)).1=(whS (nL (qc8 m).1 v5) (qa7 (↑(nL m (0:Nat)).length:Int) k) (qk9 (qc8 m).1 (qa7 (↑(nL m (0:Nat)).length:Int) k) v5) v12).1.1/\(shR (nL (qc8 m).1 v2) (nL (qa7 (↑(nL m (0:Nat)).length:Int) k) v7)).2=(whS (nL (qc8 m).1 v5) (qa7 (↑(nL m (0:Nat)).length:Int) k) (qk9 (qc8 m).1 (qa7 (↑(nL m (0:Nat)).length:Int) k) v5) v12).1.2/\True)/\True)/\(q3s ((whS (nL (qc8 m).1 v5) (qa7 (↑(nL m (0:Nat)).length:Int) k) (qk9 (qc8 m).1 (qa7 (↑(nL m (0:Nat)).length:Int) k) v5) v7).1.1,(whS (nL (qc8 m).1 v5) (qa7 (↑(nL m (0:Nat)).length:Int) k) (qk9 (qc8 m).1 (qa7 (↑(nL m (0:Nat)).length:Int) k) v5) v7).1.2) ((shR (nL (qc8 m).1 v2) (nL (qa7 (↑(nL m (0:Nat)).length:Int) k) v7)).1,(shR (nL (qc8 m).1 v2) (nL (qa7 (↑(nL m (0:Nat)).length:Int) k) v7)).2)=false->fits .i64 ((↑v7:Int)+(1:Int))/\∃(v12:Nat),Nat.le v12 (qa7 (↑(nL m (0:Nat)).length:Int) k).length/\(qa7 (↑(nL m (0:Nat)).length:Int) k).length-v12<(qa7 (↑(nL m (0:Nat)).length:Int) k).length-v7/\((whS (nL (qc8 m).1 v5) (qa7 (↑(nL m (0:Nat)).length:Int) k) (qk9 (qc8 m).1 (qa7 (↑(nL m (0:Nat)).length:Int) k) v5) v7).2.1=(whS (nL (qc8 m).1 v5) (qa7 (↑(nL m (0:Nat)).length:Int) k) (qk9 (qc8 m).1 (qa7 (↑(nL m (0:Nat)).length:Int) k) v5) v12).2.1/\(whS (nL (qc8 m).1 v5) (qa7 (↑(nL m (0:Nat)).length:Int) k) (qk9 (qc8 m).1 (qa7 (↑(nL m (0:Nat)).length:Int) k) v5) v7).2.2=(whS (nL (qc8 m).1 v5) (qa7 (↑(nL m (0:Nat)).length:Int) k) (qk9 (qc8 m).1 (qa7 (↑(nL m (0:Nat)).length:Int) k) v5) v12).2.2/\(↑v7:Int)+(1:Int)=(↑v12:Int)/\True)/\((whS (nL (qc8 m).1 v5) (qa7 (↑(nL m (0:Nat)).length:Int) k) (qk9 (qc8 m).1 (qa7 (↑(nL m (0:Nat)).length:Int) k) v5) v7).1.1=(whS (nL (qc8 m).1 v5) (qa7 (↑(nL m (0:Nat)).length:Int) k) (qk9 (qc8 m).1 (qa7 (↑(nL m (0:Nat)).length:Int) k) v5) v12).1.1/\(whS (nL (qc8 m).1 v5) (qa7 (↑(nL m (0:Nat)).length:Int) k) (qk9 (qc8 m).1 (qa7 (↑(nL m (0:Nat)).length:Int) k) v5) v7).1.2=(whS (nL (qc8 m).1 v5) (qa7 (↑(nL m (0:Nat)).length:Int) k) (qk9 (qc8 m).1 (qa7 (↑(nL m (0:Nat)).length:Int) k) v5) v12).1.2/\True)/\True)))/\(decide ((↑v7:Int)<(↑(qa7 (↑(nL m (0:Nat)).length:Int) k).length:Int))=false->fits .i64 ((↑v2:Int)+(1:Int))/\∃(v10:Nat),Nat.le v10 (qc8 m).1.length/\(qc8 m).1.length-v10<(qc8 m).1.length-v2/\((whS (nL (qc8 m).1 v5) (qa7 (↑(nL m (0:Nat)).length:Int) k) (qk9 (qc8 m).1 (qa7 (↑(nL m (0:Nat)).length:Int) k) v5) v7).2.1=(qk9 (qc8 m).1 (qa7 (↑(nL m (0:Nat)).length:Int) k) v10).2.1/\(whS (nL (qc8 m).1 v5) (qa7 (↑(nL m (0:Nat)).length:Int) k) (qk9 (qc8 m).1 (qa7 (↑(nL m (0:Nat)).length:Int) k) v5) v7).2.2=(qk9 (qc8 m).1 (qa7 (↑(nL m (0:Nat)).length:Int) k) v10).2.2/\(↑v2:Int)+(1:Int)=(↑v10:Int)/\True)/\((whS (nL (qc8 m).1 v5) (qa7 (↑(nL m (0:Nat)).length:Int) k) (qk9 (qc8 m).1 (qa7 (↑(nL m (0:Nat)).length:Int) k) v5) v7).1.1=(qk9 (qc8 m).1 (qa7 (↑(nL m (0:Nat)).length:Int) k) v10).1.1/\(whS (nL (qc8 m).1 v5) (qa7 (↑(nL m (0:Nat)).length:Int) k) (qk9 (qc8 m).1 (qa7 (↑(nL m (0:Nat)).length:Int) k) v5) v7).1.2=(qk9 (qc8 m).1 (qa7 (↑(nL m (0:Nat)).length:Int) k) v10).1.2/\True)/\True))/\(decide ((↑v2:Int)<(↑(qc8 m).1.length:Int))=false->((qk9 (qc8 m).1 (qa7 (↑(nL m (0:Nat)).length:Int) k) v2).1.1=(whR m k).1.1/\(qk9 (qc8 m).1 (qa7 (↑(nL m (0:Nat)).length:Int) k) v2).1.2=(whR m k).1.2/\True)/\(qk9 (qc8 m).1 (qa7 (↑(nL m (0:Nat)).length:Int) k) v2).2.1=(whR m k).2.1/\(qk9 (qc8 m).1 (qa7 (↑(nL m (0:Nat)).length:Int) k) v2).2.2=(whR m k).2.2/\True)) (by kernel_rfl) ?_
 try simp only[z0,z1,z2,z3,z4,z5,z6,z7,z8,z9,z10,Int.reduceEq,z11,z12,z13,z14,z15,z16,z17,z18,z19,z20,z21,z22,z23,z24,z25,z26,z27,z28,z29,z30,Int.reduceLE,Int.reduceLT,z31,z32,z33,z34,qa3]
 try simp only[qb4,qb5,qc0,z31,z32,z2,z1]
 have h7:=h.fit.n7 h.v
 have hM:=Mk.of h.v
 have hm1:=hM.rows1
 have hm10:=hM.pix10
 have k0:=h.k0
 have kn:=h.kn
 obtain⟨k,rfl⟩:∃q:Nat,k=q:=⟨k.toNat,by omega⟩
 have hO:=x6h h.v h7 k
 have hll:=q1l h.v
 have hSl:=q3p (nL m 0).length k hm10 (by omega)
 have hR:whR m k=qk9 (qc8 m).1 (qa7 (nL m 0).length (k:Nat)) (qc8 m).1.length:=rfl
 rw[hR]
 have hset:q7y 20 (nL m 0).length k:=⟨by omega,by omega,by omega,by omega,by omega⟩
 have hT:=wx0 hO
 generalize(qc8 m).1=l at *
 generalize qa7 (nL m 0).length (k:Nat)=S at *
 refine⟨h.fit,(),0,Nat.zero_le _,⟨⟨rfl,rfl,rfl⟩,rfl,rfl⟩,λi hi=>⟨λhlt=>?_,λhge=>?_⟩⟩
 ·refine⟨hlt,by omega,hset,i,0,Nat.zero_le _,⟨⟨rfl,rfl,rfl⟩,rfl,rfl⟩,λj hj=>⟨λhjt=>?_,λhjg=>?_⟩⟩
  ·have hs:whS (nL l i) S (qk9 l S i) (j+1)=qz8 (nL l i) (whS (nL l i) S (qk9 l S i) j) (nL S j):=rfl
   have hI:=(w8o hO hlt (hT i (by omega)) j hj).lil hO (by omega) (.inl hlt) hj
   have hsh:=hO.sh i hlt j hjt
   have hne:=hO.ne hlt hjt
   generalize whS (nL l i) S (qk9 l S i) j=w at *
   have h1:1<=(nL l i).length:=by
    cases e:nL l i with
    | nil=>rw[e] at hne; cases hne
    | cons a r=>simp
   have yes:qz8 (nL l i) w (nL S j)=(shR (nL l i) (nL S j),nL l i,nL S j)->fits IntKind.i64 (↑j+1)/\∃v11,v11<=S.length/\S.length-v11<S.length-j/\((nL l i=(whS (nL l i) S (qk9 l S i) v11).2.1/\1<=(nL l i).length)/\nL S j=(whS (nL l i) S (qk9 l S i) v11).2.2/\(↑j+1:Int)=↑v11)/\(shR (nL l i) (nL S j)).1=(whS (nL l i) S (qk9 l S i) v11).1.1/\(shR (nL l i) (nL S j)).2=(whS (nL l i) S (qk9 l S i) v11).1.2:=λe=>by
    refine⟨qa6 (by omega) (by omega),j+1,hjt,by omega,?_⟩
    rw[hs,e]
    exact⟨⟨⟨rfl,h1⟩,rfl,by push_cast; rfl⟩,rfl,rfl⟩
   refine⟨hjt,hsh,λhe=>yes ?_,λhe=>⟨⟨hI,q3q hsh⟩,λhl=>yes ?_,λhl=>?_⟩⟩
   ·unfold qz8; rw[if_pos he]
   ·unfold qz8
    rw[if_neg (by rw[he]; decide),if_pos hl]
   ·have e:qz8 (nL l i) w (nL S j)=w:=by
     unfold qz8
     rw[if_neg (by rw[he]; decide),if_neg]
     intro q
     have hl:q3s w.1 (shR (nL l i) (nL S j))=false:=hl
     rw[hl] at q; cases q
    refine⟨qa6 (by omega) (by omega),j+1,hjt,by omega,?_⟩
    rw[hs,e]
    exact⟨⟨rfl,rfl,by push_cast; rfl⟩,rfl,rfl⟩
  ·obtain rfl:j=S.length:=by omega
   exact⟨qa6 (by omega) (by omega),i+1,hlt,by omega,⟨rfl,rfl,by push_cast; rfl⟩,rfl,rfl⟩
 ·obtain rfl:i=l.length:=by omega
  exact⟨⟨rfl,rfl⟩,rfl,rfl⟩
def xw8:List (List Int):=[[1,1,0],[0,1,1]]
def x5h (l:List (List Int)) (k:Nat):Nat->Int × Int
 | 0=>(0,1)
 | i+1=>q8g (x5h l k i) (ofR (q48 (szV (nL l i)) ((w8h (nL l i)).take k)) (szL (nL l i)))
theorem wx1 (l:List (List Int)) (k:Nat):∀n,qj6 l k n=x5h l k n
 | 0=>rfl
 | n+1=>by
  rw[qj6,x5h,wx1 l k n]
  unfold shR
  rw[w11]
theorem w8r:grQ xw8 1=(1,3)/\wo6 xw8 1 0=0/\qu8 xw8=(1,0):=by
 have hc:(qc8 xw8).1=[[1,-1,1]]:=by decide +kernel
 have hv:validB xw8=true:=by decide
 have hk:wo6 xw8 1 0=0:=by decide
 refine⟨?_,hk,?_⟩
 ·unfold grQ
  rw[if_pos hk,hc,wx1]
  decide +kernel
 ·unfold qu8 ordL
  rw[if_pos hv,hc]
  show(((ordF [[1,-1,1]] 3 0:Nat):Int),(0:Int))=(1,0)
  simp only[ordF,wx1]
  decide +kernel
theorem xm3:wv7 [[1,1,0],[0,1,1]]:=xw7 λ_=>by show 3<=7; decide
abbrev x9g:qb9:=qg1 true none [] [.bool] (λ_=>True) (λ_=>(true,()))
theorem w8s:qd6 Tryz.prog 10 x9g:=by
 refine meets (snd (SpecsOk.cons wv8 (SpecsOk.cons wv9 (SpecsOk.nil _)))) Tryz.func10 rfl rfl (λ_ _=>none) (λ_=>by kernel_rfl) (by decide) ?_
 rintro⟨⟩ -
 refine @qd9 _ (wv7 [[(1:Int),(1:Int),(0:Int)],[(0:Int),(1:Int),(1:Int)]]/\wv7 [[(1:Int),(1:Int),(0:Int)],[(0:Int),(1:Int),(1:Int)]]/\(((0:Int)==(0:Int))=true->(((1:Int)==(1:Int) && (3:Int)==(3:Int))=true->(((0:Int)==(0:Int))=true->((qu8 [[(1:Int),(1:Int),(0:Int)],[(0:Int),(1:Int),(1:Int)]]).1==(1:Int))=true)/\(((0:Int)==(0:Int))=false->false=true))/\(((1:Int)==(1:Int) && (3:Int)==(3:Int))=false->false=true))/\(((0:Int)==(0:Int))=false->false=true)) (by kernel_rfl) ?_
 try simp only[z0,z1,z2,z3,z4,z5,z6,z7,z8,z9,z10,Int.reduceEq,z11,z12,z13,z14,z15,z16,z17,z18,z19,z20,z21,z22,z23,z24,z25,z26,z27,z28,z29,z30,Int.reduceLE,Int.reduceLT,z31,z32,z33,z34,qa3]
 try simp only[qb4,qb5,qc0,z31,z32,z2,z1]
 have ho:(qu8 [[1,1,0],[0,1,1]]).1=1:=congrArg Prod.fst w8r.2.2
 exact⟨xm3,xm3,⟨λ_=>⟨ho,λq=>absurd trivial q⟩,λq=>by cases q⟩,λq=>absurd trivial q⟩
theorem xu4 {m:List (List Int)} (h:w4h m=true) (hv:validB m=true):(nL m 0).length<=7:=by
 unfold w4h at h
 rw[Bool.and_eq_true,Bool.not_eq_true',List.any_eq_false] at h
 have hM:=Mk.of hv
 have h1:=h.1 (nL m 0) (qi9 m 0 (by have:=hM.rows1; omega))
 have h2:=hM.pix10
 unfold xs6 at h1
 simp at h1
 omega
theorem w8t {m:List (List Int)} {p:List Int} (hv:validB m=true) (h:w3a m p=0):Named (nL m 0).length p:=by
 unfold w3a at h
 rw[if_neg (by rw[hv]; decide)] at h
 exact Named.of h
theorem x5i {m:List (List Int)} {p:List Int} (h:w3a m p=0):validB m=true:=by
 unfold w3a at h
 split at h
 ·cases h
 ·rename_i q
  cases e:validB m with
  | true=>rfl
  | false=>exact absurd e q
def xh6 (m:List (List Int)) (p:List Int):Bool:=decide (ofE m p=0) && !hlf (ofQ m p)
structure SafPre (m:List (List Int)) (p:List Int):Prop where
 fit:q1q m
 len:p.length<=1000
theorem SafPre.lil {m:List (List Int)} {p:List Int} (h:SafPre m p) (he:ofE m p=0):qr5 (ofQ m p):=by
 have hv:=x5i he
 rw[show ofQ m p=qq7 (qc8 m).1 p (qc8 m).1.length from if_pos he]
 exact q3r ⟨q1l hv,λi hi=>by
  obtain⟨s,hc⟩:=q1v hv (h.fit.n7 hv) hi
  exact ww9 hv hc (w8t hv he)⟩ _ (Nat.le_refl _)
abbrev x9h:qb9:=qg1 true none [tMask,tInts] [.bool,tInt] (λx=>SafPre x.1 x.2.1) (λx=>(xh6 x.1 x.2.1,ofE x.1 x.2.1,()))
theorem w33:qd6 Tryz.prog 12 x9h:=by
 refine meets (snd (SpecsOk.cons w8k (SpecsOk.cons q70 (SpecsOk.nil _)))) Tryz.func12 rfl rfl (λ_ _=>none) (λ_=>by kernel_rfl) (by decide) ?_
 rintro⟨m,p,⟨⟩⟩ h
 revert m p
 intro(m:List (List Int)) (p:List Int) (h:SafPre m p)
 refine @qd9 _ (let Q0:=((ofQ m p).1,(ofQ m p).2); w8j m p/\((ofE m p==(0:Int))=true->qr5 Q0/\(!hlf Q0)=xh6 m p/\ofE m p=ofE m p/\True)/\((ofE m p==(0:Int))=false->false=xh6 m p/\ofE m p=ofE m p/\True)) (by kernel_rfl) ?_
 try simp only[z0,z1,z2,z3,z4,z5,z6,z7,z8,z9,z10,Int.reduceEq,z11,z12,z13,z14,z15,z16,z17,z18,z19,z20,z21,z22,z23,z24,z25,z26,z27,z28,z29,z30,Int.reduceLE,Int.reduceLT,z31,z32,z33,z34,qa3]
 try simp only[qb4,qb5,qc0,z31,z32,z2,z1]
 refine⟨⟨h.fit,h.len⟩,λhe=>⟨h.lil he,?_⟩,λhe=>?_⟩
 ·unfold xh6; rw[decide_eq_true he,Bool.true_and]; first | rfl | exact(Bool.not_not _).symm
 ·unfold xh6; rw[decide_eq_false he]; rfl
def x1k (l:List (List Int)) (n:Nat):Nat->Option Inv
 | 0=>some (Inv.of [15] 0 (λk:Nat=>[(15,.lit (.int .i64 k))]) (λ_=>[]) (λk=>wo7 l n k) (λk=>n-k))
 | _=>none
abbrev x5j:qb9:=qg1 true none [tMask] [tInt,tInt] (λx=>q1q x.1) (λx=>((qu8 x.1).1,(qu8 x.1).2,()))
theorem q9y:qd6 Tryz.prog 14 x5j:=by
 refine meets (snd (SpecsOk.cons q3i (SpecsOk.cons w8q (SpecsOk.cons q70 (SpecsOk.nil _))))) Tryz.func14 rfl rfl (λx=>x1k (qc8 x.1).1 (nL x.1 0).length) (λ_=>by kernel_rfl) (by decide) ?_
 rintro⟨m,⟨⟩⟩ h
 revert m
 intro(m:List (List Int)) (h:q1q m)
 refine @qd9 _ (wm4 m/\((!validB m)=true->(0:Int)=(qu8 m).1/\(1:Int)=(qu8 m).2/\True)/\((!validB m)=false->((0:Int)<=(0:Int)/\(0:Int)<(↑m.length:Int))/\∃(v1:Unit),∃(v2:Nat),wo7 (qc8 m).1 (nL m (0:Nat)).length v2/\(((0:Int)=(↑v2:Int)/\True)/\True)/\∀(v3:Nat),wo7 (qc8 m).1 (nL m (0:Nat)).length v3->(decide ((↑v3:Int)<(↑(nL m (0:Nat)).length:Int))=true->fits .i64 ((↑v3:Int)+(1:Int))/\w8p m ((↑v3:Int)+(1:Int))/\qr5 ((whR m ((↑v3:Int)+(1:Int))).1.1,(whR m ((↑v3:Int)+(1:Int))).1.2)/\((!!hlf ((whR m ((↑v3:Int)+(1:Int))).1.1,(whR m ((↑v3:Int)+(1:Int))).1.2))=true->(↑v3:Int)=(qu8 m).1/\(0:Int)=(qu8 m).2/\True)/\((!!hlf ((whR m ((↑v3:Int)+(1:Int))).1.1,(whR m ((↑v3:Int)+(1:Int))).1.2))=false->fits .i64 ((↑v3:Int)+(1:Int))/\∃(v7:Nat),wo7 (qc8 m).1 (nL m (0:Nat)).length v7/\(nL m (0:Nat)).length-v7<(nL m (0:Nat)).length-v3/\((↑v3:Int)+(1:Int)=(↑v7:Int)/\True)/\True))/\(decide ((↑v3:Int)<(↑(nL m (0:Nat)).length:Int))=false->((0:Int)<=(0:Int)/\(0:Int)<(↑m.length:Int))/\(↑(nL m (0:Nat)).length:Int)=(qu8 m).1/\(0:Int)=(qu8 m).2/\True))) (by kernel_rfl) ?_
 try simp only[z0,z1,z2,z3,z4,z5,z6,z7,z8,z9,z10,Int.reduceEq,z11,z12,z13,z14,z15,z16,z17,z18,z19,z20,z21,z22,z23,z24,z25,z26,z27,z28,z29,z30,Int.reduceLE,Int.reduceLT,z31,z32,z33,z34,qa3]
 try simp only[qb4,qb5,qc0,z31,z32,z2,z1]
 have hoR:∀k:Nat,ordL m=k->validB m=true->(k:Int)=(qu8 m).1/\0=(qu8 m).2:=λk e hv=>by
  unfold qu8; rw[if_pos hv,e]; exact⟨rfl,rfl⟩
 refine⟨h.fit,λhv=>by unfold qu8; rw[hv]; exact⟨rfl,rfl⟩,λhv=>?_⟩
 have hM:=Mk.of hv
 have m1:=hM.rows1
 have m10:=hM.pix10
 have h7:=h.n7 hv
 refine⟨by omega,(),0,⟨Nat.zero_le _,rfl⟩,rfl,λk hk=>⟨λhlt=>?_,λhge=>?_⟩⟩
 ·have e2:((k:Int)+1)=((k+1:Nat):Int):=by push_cast; rfl
  have hw:=x1i hv h7 (k:=k+1) (by omega)
  have hT:=(xw7 (m:=m) λ_=>h7).shs hv (k+1) (by omega)
  have hl:=qw5 hT _ (Nat.le_refl _)
  rw[Int.toNat_natCast,<- hw] at hl
  have hst:=wd9 (l:=(qc8 m).1) hlt
  rw[<- hw] at hst
  rw[e2]
  refine⟨qa6 (by omega) (by omega),⟨h,hv,by omega,by omega⟩,hl,λhf=>?_,λhf=>⟨qa6 (by omega) (by omega),k+1,⟨by omega,?_⟩,by omega,rfl⟩⟩
  ·refine hoR k ?_ hv
   unfold ordL
   rw[hk.eq,hst,if_neg (by intro q; have hf:hlf (whR m ((k+1:Nat):Int)).1=true:=hf; rw[hf] at q; cases q)]
  ·rw[hk.eq,hst]
   exact if_pos hf
 ·have hle:=hk.le
  have e:k=(nL m 0).length:=by omega
  refine⟨by omega,hoR _ ?_ hv⟩
  unfold ordL
  rw[hk.eq,e,Nat.sub_self]; rfl
end Go.Proofs.YtempacilejhbgaaGreat
