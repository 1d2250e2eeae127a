/- The greatest share and the order, as the document says: contracts by the engine. No condition. -/
import Derived.Test.YtempacilejhbgaaGreatR8
set_option linter.unusedVariables false
set_option linter.unusedSimpArgs false
namespace Go.Proofs.YtempacilejhbgaaGreat
open Go Go.RowKit Eng
abbrev x3e:qb9:=qf6 true none [q0k] [.bool] (λx=>qr5 x.1) (λx=>(!(hlf x.1),()))
theorem q8b:qd4 Tryz.prog 48 x3e:=by
 refine meets (snd (SpecsOk.nil _)) Tryz.func48 rfl rfl (λ_ _=>none) (λ_=>by kernel_rfl) (by decide) ?_
 rintro⟨⟨a,b⟩,⟨⟩⟩ h
 revert a b
 intro(a:Int) (b:Int) (h:qr5 (a,b))
 refine @qd7 _ (fits .i64 ((2:Int)*a)/\decide ((2:Int)*a<b)=!hlf (a,b)) (by kernel_rfl) ?_
 try simp only[z0,z1,z2,z3,z4,z5,z6,z7,z8,z9,z10,Int.reduceEq,z11,z12,z13,z14,z15,z16,z17,z18,z19,z20,z21,z22,z23,z24,z25,z26,z27,z28,z29,z30,Int.reduceLE,Int.reduceLT,z31,z32,z33,z34,qa1]
 try simp only[qb3,qb4,qc0,z31,z32,z2,z1]
 have h1:=h.n
 obtain⟨h1,h2⟩:=h1
 dsimp only at h1 h2
 refine⟨qa4 (by omega) (by omega),?_⟩
 unfold hlf
 dsimp only
 by_cases q:b<=2*a
 ·rw[decide_eq_true q,decide_eq_false (Int.not_lt.2 q)]; rfl
 ·rw[decide_eq_false q,decide_eq_true (Int.not_le.1 q)]; rfl
structure w9w (m:List (List Int)) (k:Int):Prop where
 fit:wu3 m
 v:validB m=true
 k0:0<=k
 kn:k<=(nL m 0).length
abbrev x6w (x:Int × Int):AV:=.agg (.cons (.lit (.int .i64 x.1)) (.cons (.lit (.int .i64 x.2)) .nil))
abbrev yd4:qb9:=xg4 false none [tMask,tInt] (λx=>w9w x.1 x.2.1) (λx=>.tup (.cons (x6w (whR x.1 x.2.1).1) (.cons (.ndat false (.int .i64) (whR x.1 x.2.1).2.1) (.cons (.dat (.int .i64) (whR x.1 x.2.1).2.2) .nil))))
def x6x (l S:List (List Int)):Nat->Option Inv
 | 0=>some (Inv.of [5,6,16] 1 (λi:Nat=>[(5,.ndat false (.int .i64) (qk9 l S i).2.1),(6,.dat (.int .i64) (qk9 l S i).2.2),(16,.lit (.int .i64 i))]) (λi=>[.box 34 (.cons (.lit (.int .i64 (qk9 l S i).1.1)) (.cons (.lit (.int .i64 (qk9 l S i).1.2)) .nil))]) (λi=>i<=l.length) (λi=>l.length-i))
 | 1=>some (Eng.Inv.mk Nat Nat [5,6,27] 1 (λi j=>[(5,.ndat false (.int .i64) (whS (nL l i) S (qk9 l S i) j).2.1),(6,.dat (.int .i64) (whS (nL l i) S (qk9 l S i) j).2.2),(27,.lit (.int .i64 j))]) (λi j=>[.box 34 (.cons (.lit (.int .i64 (whS (nL l i) S (qk9 l S i) j).1.1)) (.cons (.lit (.int .i64 (whS (nL l i) S (qk9 l S i) j).1.2)) .nil))]) (λi j=>j<=S.length) (λi j=>S.length-j))
 | _=>none
theorem w9x:qd4 Tryz.prog 52 yd4:=by
 refine w1w (snd (SpecsOk.cons q98 (SpecsOk.cons (q8a 20) (SpecsOk.cons q9w (SpecsOk.cons q9v (SpecsOk.nil _)))))) Tryz.func52 rfl rfl (λx=>x6x (qc8 x.1).1 (qa7 (nL x.1 0).length x.2.1)) (λ_=>by kernel_rfl) (by decide) ?_
 rintro⟨m,k,⟨⟩⟩ h
 revert m k
 intro(m:List (List Int)) (k:Int) (h:w9w m k)
 refine @qd7 _ (wu3 m/\∃(v0:Unit),∃(v1:Nat),Nat.le v1 (qc8 m).1.length/\(((qk9 (qc8 m).1 (qa7 (↑(nL m (0:Nat)).length:Int) k) v1).2.1=[]/\(qk9 (qc8 m).1 (qa7 (↑(nL m (0:Nat)).length:Int) k) v1).2.2=[]/\(0:Int)=(↑v1:Int)/\True)/\((0:Int)=(qk9 (qc8 m).1 (qa7 (↑(nL m (0:Nat)).length:Int) k) v1).1.1/\(1:Int)=(qk9 (qc8 m).1 (qa7 (↑(nL m (0:Nat)).length:Int) k) v1).1.2/\True)/\True)/\∀(v2:Nat),Nat.le v2 (qc8 m).1.length->(decide ((↑v2:Int)<(↑(qc8 m).1.length:Int))=true->((0:Int)<=(↑v2:Int)/\(↑v2:Int)<(↑(qc8 m).1.length:Int))/\((0:Int)<=(0:Int)/\(0:Int)<(↑m.length:Int))/\q79 (20:Nat) (↑(nL m (0:Nat)).length:Int) k/\∃(v5:Nat),∃(v6:Nat),Nat.le v6 (qa7 (↑(nL m (0:Nat)).length:Int) k).length/\(((qk9 (qc8 m).1 (qa7 (↑(nL m (0:Nat)).length:Int) k) v2).2.1=(whS (nL (qc8 m).1 v5) (qa7 (↑(nL m (0:Nat)).length:Int) k) (qk9 (qc8 m).1 (qa7 (↑(nL m (0:Nat)).length:Int) k) v5) v6).2.1/\(qk9 (qc8 m).1 (qa7 (↑(nL m (0:Nat)).length:Int) k) v2).2.2=(whS (nL (qc8 m).1 v5) (qa7 (↑(nL m (0:Nat)).length:Int) k) (qk9 (qc8 m).1 (qa7 (↑(nL m (0:Nat)).length:Int) k) v5) v6).2.2/\(0:Int)=(↑v6:Int)/\True)/\((qk9 (qc8 m).1 (qa7 (↑(nL m (0:Nat)).length:Int) k) v2).1.1=(whS (nL (qc8 m).1 v5) (qa7 (↑(nL m (0:Nat)).length:Int) k) (qk9 (qc8 m).1 (qa7 (↑(nL m (0:Nat)).length:Int) k) v5) v6).1.1/\(qk9 (qc8 m).1 (qa7 (↑(nL m (0:Nat)).length:Int) k) v2).1.2=(whS (nL (qc8 m).1 v5) (qa7 (↑(nL m (0:Nat)).length:Int) k) (qk9 (qc8 m).1 (qa7 (↑(nL m (0:Nat)).length:Int) k) v5) v6).1.2/\True)/\True)/\∀(v7:Nat),Nat.le v7 (qa7 (↑(nL m (0:Nat)).length:Int) k).length->(decide ((↑v7:Int)<(↑(qa7 (↑(nL m (0:Nat)).length:Int) k).length:Int))=true->((0:Int)<=(↑v7:Int)/\(↑v7:Int)<(↑(qa7 (↑(nL m (0:Nat)).length:Int) k).length:Int))/\wk1 (nL (qc8 m).1 v2) (nL (qa7 (↑(nL m (0:Nat)).length:Int) k) v7)/\(List.isEmpty (whS (nL (qc8 m).1 v5) (qa7 (↑(nL m (0:Nat)).length:Int) k) (qk9 (qc8 m).1 (qa7 (↑(nL m (0:Nat)).length:Int) k) v5) v7).2.1=true->fits .i64 ((↑v7:Int)+(1:Int))/\∃(v11:Nat),Nat.le v11 (qa7 (↑(nL m (0:Nat)).length:Int) k).length/\(qa7 (↑(nL m (0:Nat)).length:Int) k).length-v11<(qa7 (↑(nL m (0:Nat)).length:Int) k).length-v7/\((nL (qc8 m).1 v2=(whS (nL (qc8 m).1 v5) (qa7 (↑(nL m (0:Nat)).length:Int) k) (qk9 (qc8 m).1 (qa7 (↑(nL m (0:Nat)).length:Int) k) v5) v11).2.1/\Nat.le (1:Nat) (nL (qc8 m).1 v2).length)/\nL (qa7 (↑(nL m (0:Nat)).length:Int) k) v7=(whS (nL (qc8 m).1 v5) (qa7 (↑(nL m (0:Nat)).length:Int) k) (qk9 (qc8 m).1 (qa7 (↑(nL m (0:Nat)).length:Int) k) v5) v11).2.2/\(↑v7:Int)+(1:Int)=(↑v11:Int)/\True)/\((shR (nL (qc8 m).1 v2) (nL (qa7 (↑(nL m (0:Nat)).length:Int) k) v7)).1=(whS (nL (qc8 m).1 v5) (qa7 (↑(nL m (0:Nat)).length:Int) k) (qk9 (qc8 m).1 (qa7 (↑(nL m (0:Nat)).length:Int) k) v5) v11).1.1/\(shR (nL (qc8 m).1 v2) (nL (qa7 (↑(nL m (0:Nat)).length:Int) k) v7)).2=(whS (nL (qc8 m).1 v5) (qa7 (↑(nL m (0:Nat)).length:Int) k) (qk9 (qc8 m).1 (qa7 (↑(nL m (0:Nat)).length:Int) k) v5) v11).1.2/\True)/\True)/\(List.isEmpty (whS (nL (qc8 m).1 v5) (qa7 (↑(nL m (0:Nat)).length:Int) k) (qk9 (qc8 m).1 (qa7 (↑(nL m (0:Nat)).length:Int) k) v5) v7).2.1=false->(qr5 ((whS (nL (qc8 m).1 v5) (qa7 (↑(nL m (0:Nat)).length:Int) k) (qk9 (qc8 m).1 (qa7 (↑(nL m (0:Nat)).length:Int) k) v5) v7).1.1,(whS (nL (qc8 m).1 v5) (qa7 (↑(nL m (0:Nat)).length:Int) k) (qk9 (qc8 m).1 (qa7 (↑(nL m (0:Nat)).length:Int) k) v5) v7).1.2)/\qr5 ((shR (nL (qc8 m).1 v2) (nL (qa7 (↑(nL m (0:Nat)).length:Int) k) v7)).1,(shR (nL (qc8 m).1 v2) (nL (qa7 (↑(nL m (0:Nat)).length:Int) k) v7)).2))/\(q3y ((whS (nL (qc8 m).1 v5) (qa7 (↑(nL m (0:Nat)).length:Int) k) (qk9 (qc8 m).1 (qa7 (↑(nL m (0:Nat)).length:Int) k) v5) v7).1.1,(whS (nL (qc8 m).1 v5) (qa7 (↑(nL m (0:Nat)).length:Int) k) (qk9 (qc8 m).1 (qa7 (↑(nL m (0:Nat)).length:Int) k) v5) v7).1.2) ((shR (nL (qc8 m).1 v2) (nL (qa7 (↑(nL m (0:Nat)).length:Int) k) v7)).1,(shR (nL (qc8 m).1 v2) (nL (qa7 (↑(nL m (0:Nat)).length:Int) k) v7)).2)=true->fits .i64 ((↑v7:Int)+(1:Int))/\∃(v12:Nat),Nat.le v12 (qa7 (↑(nL m (0:Nat)).length:Int) k).length/\(qa7 (↑(nL m (0:Nat)).length:Int) k).length-v12<(qa7 (↑(nL m (0:Nat)).length:Int) k).length-v7/\((nL (qc8 m).1 v2=(whS (nL (qc8 m).1 v5) (qa7 (↑(nL m (0:Nat)).length:Int) k) (qk9 (qc8 m).1 (qa7 (↑(nL m (0:Nat)).length:Int) k) v5) v12).2.1/\Nat.le (1:Nat) (nL (qc8 m).1 v2).length)/\nL (qa7 (↑(nL m (0:Nat)).length:Int) k) v7=(whS (nL (qc8 m).1 v5) (qa7 (↑(nL m (0:Nat)).length:Int) k) (qk9 (qc8 m).1 (qa7 (↑(nL m (0:Nat)).length:Int) k) v5) v12).2.2/\(↑v7:Int)+(1:Int)=(↑v12:Int)/\True)/\((shR (nL (qc8 m).1 v2) (nL (qa7 (↑(nL m (0:Nat)).length:Int) k) v7)).1=(whS (nL (qc8 m).1 v5) (qa7 (↑(nL m (0:Nat)).length:Int) k) (qk9 (qc8 m).1 (qa7 (↑(nL m (0:Nat)).length:Int) k) v5) v12).1.1/\(shR (nL (qc8 m).1 v2) (nL (qa7 (↑(nL m (0:Nat)).length:Int) k) v7)).2=(whS (nL (qc8 m).1 v5) (qa7 (↑(nL m (0:Nat)).length:Int) k) (qk9 (qc8 m).1 (qa7 (↑(nL m (0:Nat)).length:Int) k) v5) v12).1.2/\True)/\True)/\(q3y ((whS (nL (qc8 m).1 v5) (qa7 (↑(nL m (0:Nat)).length:Int) k) (qk9 (qc8 m).1 (qa7 (↑(nL m (0:Nat)).length:Int) k) v5) v7).1.1,(whS (nL (qc8 m).1 v5) (qa7 (↑(nL m (0:Nat)).length:Int) k) (qk9 (qc8 m).1 (qa7 (↑(nL m (0:Nat)).length:Int) k) v5) v7).1.2) ((shR (nL (qc8 m).1 v2) (nL (qa7 (↑(nL m (0:Nat)).length:Int) k) v7)).1,(shR (nL (qc8 m).1 v2) (nL (qa7 (↑(nL m (0:Nat)).length:Int) k) v7)).2)=false->fits .i64 ((↑v7:Int)+(1:Int))/\∃(v12:Nat),Nat.le v12 (qa7 (↑(nL m (0:Nat)).length:Int) k).length/\(qa7 (↑(nL m (0:Nat)).length:Int) k).length-v12<(qa7 (↑(nL m (0:Nat)).length:Int) k).length-v7/\((whS (nL (qc8 m).1 v5) (qa7 (↑(nL m (0:Nat)).length:Int) k) (qk9 (qc8 m).1 (qa7 (↑(nL m (0:Nat)).length:Int) k) v5) v7).2.1=(whS (nL (qc8 m).1 v5) (qa7 (↑(nL m (0:Nat)).length:Int) k) (qk9 (qc8 m).1 (qa7 (↑(nL m (0:Nat)).length:Int) k) v5) v12).2.1/\(whS (nL (qc8 m).1 v5) (qa7 (↑(nL m (0:Nat)).length:Int) k) (qk9 (qc8 m).1 (qa7 (↑(nL m (0:Nat)).length:Int) k) v5) v7).2.2=(whS (nL (qc8 m).1 v5) (qa7 (↑(nL m (0:Nat)).length:Int) k) (qk9 (qc8 m).1 (qa7 (↑(nL m (0:Nat)).length:Int) k) v5) v12).2.2/\(↑v7:Int)+(1:Int)=(↑v12:Int)/\True)/\((whS (nL (qc8 m).1 v5) (qa7 (↑(nL m (0:Nat)).length:Int) k) (qk9 (qc8 m).1 (qa7 (↑(nL m (0:Nat)).length:Int) k) v5) v7).1.1=(whS (nL (qc8 m).1 v5) (qa7 (↑(nL m (0:Nat)).length:Int) k) (qk9 (qc8 m).1 (qa7 (↑(nL m (0:Nat)).length:Int) k) v5) v12).1.1/\(whS (nL (qc8 m).1 v5) (qa7 (↑(nL m (0:Nat)).length:Int) k) (qk9 (qc8 m).1 (qa7 (↑(nL m (0:Nat)).length:Int) k) v5) v7).1.2=(whS (nL (qc8 m).1 v5) (qa7 (↑(nL m (0:Nat)).length:Int) k) (qk9 (qc8 m).1 (qa7 (↑(nL m (0:Nat)).length:Int) k) v5) v12).1.2/\True)/\True)))/\(decide ((↑v7:Int)<(↑(qa7 (↑(nL m (0:Nat)).length:Int) k).length:Int))=false->fits .i64 ((↑v2:Int)+(1:Int))/\∃(v10:Nat),Nat.le v10 (qc8 m).1.length/\(qc8 m).1.length-v10<(qc8 m).1.length-v2/\((whS (nL (qc8 m).1 v5) (qa7 (↑(nL m (0:Nat)).length:Int) k) (qk9 (qc8 m).1 (qa7 (↑(nL m (0:Nat)).length:Int) k) v5) v7).2.1=(qk9 (qc8 m).1 (qa7 (↑(nL m (0:Nat)).length:Int) k) v10).2.1/\(whS (nL (qc8 m).1 v5) (qa7 (↑(nL m (0:Nat)).length:Int) k) (qk9 (qc8 m).1 (qa7 (↑(nL m (0:Nat)).length:Int) k) v5) v7).2.2=(qk9 (qc8 m).1 (qa7 (↑(nL m (0:Nat)).length:Int) k) v10).2.2/\(↑v2:Int)+(1:Int)=(↑v10:Int)/\True)/\((whS (nL (qc8 m).1 v5) (qa7 (↑(nL m (0:Nat)).length:Int) k) (qk9 (qc8 m).1 (qa7 (↑(nL m (0:Nat)).length:Int) k) v5) v7).1.1=(qk9 (qc8 m).1 (qa7 (↑(nL m (0:Nat)).length:Int) k) v10).1.1/\(whS (nL (qc8 m).1 v5) (qa7 (↑(nL m (0:Nat)).length:Int) k) (qk9 (qc8 m).1 (qa7 (↑(nL m (0:Nat)).length:Int) k) v5) v7).1.2=(qk9 (qc8 m).1 (qa7 (↑(nL m (0:Nat)).length:Int) k) v10).1.2/\True)/\True))/\(decide ((↑v2:Int)<(↑(qc8 m).1.length:Int))=false->((qk9 (qc8 m).1 (qa7 (↑(nL m (0:Nat)).length:Int) k) v2).1.1=(whR m k).1.1/\(qk9 (qc8 m).1 (qa7 (↑(nL m (0:Nat)).length:Int) k) v2).1.2=(whR m k).1.2/\True)/\(qk9 (qc8 m).1 (qa7 (↑(nL m (0:Nat)).length:Int) k) v2).2.1=(whR m k).2.1/\(qk9 (qc8 m).1 (qa7 (↑(nL m (0:Nat)).length:Int) k) v2).2.2=(whR m k).2.2/\True)) (by kernel_rfl) ?_
 try simp only[z0,z1,z2,z3,z4,z5,z6,z7,z8,z9,z10,Int.reduceEq,z11,z12,z13,z14,z15,z16,z17,z18,z19,z20,z21,z22,z23,z24,z25,z26,z27,z28,z29,z30,Int.reduceLE,Int.reduceLT,z31,z32,z33,z34,qa1]
 try simp only[qb3,qb4,qc0,z31,z32,z2,z1]
 have h7:=h.fit.n7 h.v
 have hM:=Mk.of h.v
 have hm1:=hM.rows1
 have hm10:=hM.pix10
 have k0:=h.k0
 have kn:=h.kn
 obtain⟨k,rfl⟩:∃q:Nat,k=q:=⟨k.toNat,by omega⟩
 have hO:=x77 h.v h7 k
 have hll:=q0c h.v
 have hSl:=q3x (nL m 0).length k hm10 (by omega)
 have hR:whR m k=qk9 (qc8 m).1 (qa7 (nL m 0).length (k:Nat)) (qc8 m).1.length:=rfl
 rw[hR]
 have hset:q79 20 (nL m 0).length k:=⟨by omega,by omega,by omega,by omega,by omega⟩
 have hT:=wz9 hO
 generalize(qc8 m).1=l at *
 generalize qa7 (nL m 0).length (k:Nat)=S at *
 refine⟨h.fit,(),0,Nat.zero_le _,⟨⟨rfl,rfl,rfl⟩,rfl,rfl⟩,λi hi=>⟨λhlt=>?_,λhge=>?_⟩⟩
 ·refine⟨hlt,by omega,hset,i,0,Nat.zero_le _,⟨⟨rfl,rfl,rfl⟩,rfl,rfl⟩,λj hj=>⟨λhjt=>?_,λhjg=>?_⟩⟩
  ·have hs:whS (nL l i) S (qk9 l S i) (j+1)=q0i (nL l i) (whS (nL l i) S (qk9 l S i) j) (nL S j):=rfl
   have hI:=(w9v hO hlt (hT i (by omega)) j hj).lil hO (by omega) (.inl hlt) hj
   have hsh:=hO.sh i hlt j hjt
   have hne:=hO.ne hlt hjt
   generalize whS (nL l i) S (qk9 l S i) j=w at *
   have h1:1<=(nL l i).length:=by
    cases e:nL l i with
    | nil=>rw[e] at hne; cases hne
    | cons a r=>simp
   have yes:q0i (nL l i) w (nL S j)=(shR (nL l i) (nL S j),nL l i,nL S j)->fits IntKind.i64 (↑j+1)/\∃v11,v11<=S.length/\S.length-v11<S.length-j/\((nL l i=(whS (nL l i) S (qk9 l S i) v11).2.1/\1<=(nL l i).length)/\nL S j=(whS (nL l i) S (qk9 l S i) v11).2.2/\(↑j+1:Int)=↑v11)/\(shR (nL l i) (nL S j)).1=(whS (nL l i) S (qk9 l S i) v11).1.1/\(shR (nL l i) (nL S j)).2=(whS (nL l i) S (qk9 l S i) v11).1.2:=λe=>by
    refine⟨qa4 (by omega) (by omega),j+1,hjt,by omega,?_⟩
    rw[hs,e]
    exact⟨⟨⟨rfl,h1⟩,rfl,by push_cast; rfl⟩,rfl,rfl⟩
   refine⟨hjt,hsh,λhe=>yes ?_,λhe=>⟨⟨hI,q17 hsh⟩,λhl=>yes ?_,λhl=>?_⟩⟩
   ·unfold q0i; rw[if_pos he]
   ·unfold q0i
    rw[if_neg (by rw[he]; decide),if_pos hl]
   ·have e:q0i (nL l i) w (nL S j)=w:=by
     unfold q0i
     rw[if_neg (by rw[he]; decide),if_neg]
     intro q
     have hl:q3y w.1 (shR (nL l i) (nL S j))=false:=hl
     rw[hl] at q; cases q
    refine⟨qa4 (by omega) (by omega),j+1,hjt,by omega,?_⟩
    rw[hs,e]
    exact⟨⟨rfl,rfl,by push_cast; rfl⟩,rfl,rfl⟩
  ·obtain rfl:j=S.length:=by omega
   exact⟨qa4 (by omega) (by omega),i+1,hlt,by omega,⟨rfl,rfl,by push_cast; rfl⟩,rfl,rfl⟩
 ·obtain rfl:i=l.length:=by omega
  exact⟨⟨rfl,rfl⟩,rfl,rfl⟩
end Go.Proofs.YtempacilejhbgaaGreat
