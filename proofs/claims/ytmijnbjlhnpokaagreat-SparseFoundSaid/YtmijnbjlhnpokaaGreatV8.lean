/- Rows reduced: contract by the engine. No condition. -/
import Derived.Test.YtmijnbjlhnpokaaGreatV5
set_option linter.unusedVariables false
set_option linter.unusedSimpArgs false
namespace Go.Proofs.YtmijnbjlhnpokaaGreat
open Go Go.RowKit Eng
structure Mk (m:List (List Int)):Prop where
 rows1:1<=m.length
 rows6:m.length<=6
 each:∀i,i<m.length->(nL m i).length=(nL m 0).length
 pix1:1<=(nL m 0).length
 pix10:(nL m 0).length<=10
 small:∀i,i<m.length->∀j,j<(nL m 0).length->-1<=nI (nL m i) j/\nI (nL m i) j<=1
theorem Mk.of {m:List (List Int)} (h:validB m=true):Mk m:=by
 unfold validB at h
 rw[Bool.and_eq_true,inB_iff,List.all_eq_true] at h
 obtain⟨h1,h2⟩:=h
 have each:∀i,i<m.length->(nL m i).length=(nL m 0).length/\rowB (nL m i)=true:=λi hi=>by
  have:=h2 (nL m i) (by unfold nL; rw[qj8 (t:=tInts) m i hi]; exact List.getElem_mem hi)
  rw[Bool.and_eq_true,decide_eq_true_eq] at this
  exact this
 have hr:∀i,i<m.length->(1<=(nL m i).length/\(nL m i).length<=10)/\∀j,j<(nL m i).length->-1<=nI (nL m i) j/\nI (nL m i) j<=1:=λi hi=>by
  have:=(each i hi).2
  unfold rowB at this
  rw[Bool.and_eq_true,inB_iff,List.all_eq_true] at this
  refine⟨by omega,λj hj=>inB_iff.1 (this.2 _ ?_)⟩
  unfold nI; rw[qj8 (t:=tInt) _ j hj]; exact List.getElem_mem hj
 have h0:=hr 0 (by omega)
 exact⟨by omega,by omega,λi hi=>(each i hi).1,h0.1.1,h0.1.2,λi hi j hj=>(hr i hi).2 j (by rw[(each i hi).1]; exact hj)⟩
def w5l (m:List (List Int)) (l:List Int):Int:=if validB m=false then 1 else w15 (nL m 0).length l
abbrev yd2:qb9:=qg2 true none [tMask,tInts] [tInt] (λx=>x.2.1.length<=1000000) (λx=>(w5l x.1 x.2.1,()))
theorem w8c:Meets Tryz.prog 134 yd2:=by
 refine meets (snd (SpecsOk.cons q54 (SpecsOk.cons w8b (SpecsOk.nil _)))) Tryz.func134 rfl rfl (λ_ _=>none) (λ_=>by kernel_rfl) (by decide) ?_
 rintro⟨m,l,⟨⟩⟩ h
 revert m l
 intro(m:List (List Int)) (l:List Int) (h:l.length<=1000000)
 refine @qe1 _ (True/\((!validB m)=true->(1:Int)=w5l m l)/\((!validB m)=false->((0:Int)<=(0:Int)/\(0:Int)<(↑m.length:Int))/\(((0:Ty.den tInt)<=(↑(nL m (0:Nat)).length:Int)/\(↑(nL m (0:Nat)).length:Int)<=BIG)/\l.length<=(1000000:Nat))/\w15 (↑(nL m (0:Nat)).length:Int) l=w5l m l)) (by kernel_rfl) ?_
 try simp only[z0,z1,z2,z3,z4,z5,z6,z7,z8,z9,z10,Int.reduceEq,z11,z12,z13,z14,z15,z16,z17,z18,z19,z20,z21,z22,z23,z24,z25,z26,z27,z28,z29,z30,Int.reduceLE,Int.reduceLT,z31,z32,z33,z34,qa3]
 try simp only[qb5,qb6,qd0,z31,z32,z2,z1]
 refine⟨λhv=>by simp[w5l,hv],λhv=>?_⟩
 have hM:=Mk.of hv
 have h1:=hM.rows1
 have h2:=hM.pix10
 unfold BIG
 exact⟨by omega,⟨by omega,h⟩,by simp[w5l,hv]⟩
def w5m (y:List Int):Bool:=y.any λn=>!(inB n (0-1000000) 1000000)
def qr5 (m:List (List Int)) (y l:List Int):Int:=if validB m=false then 1 else if ¬y.length=m.length then 9 else if w5m y then 7 else w5l m l
abbrev yd3:qb9:=qg2 true none [tMask,tInts,tInts] [tInt] (λx=>x.2.2.1.length<=1000000) (λx=>(qr5 x.1 x.2.1 x.2.2.1,()))
theorem q7i:Meets Tryz.prog 78 yd3:=by
 refine meets (snd (SpecsOk.cons q54 (SpecsOk.cons w8c (SpecsOk.cons w8a (SpecsOk.cons (q3q (fs:=[(190,x23)]) (SpecsOk.cons w4b (SpecsOk.nil _))) (SpecsOk.nil _)))))) Tryz.func78 rfl rfl (λ_ _=>none) (λ_=>by kernel_rfl) (by decide) ?_
 rintro⟨m,y,l,⟨⟩⟩ h
 revert m y l
 intro(m:List (List Int)) (y:List Int) (l:List Int) (h:l.length<=1000000)
 refine @qe1 _ (True/\((!validB m)=true->(1:Int)=qr5 m y l)/\((!validB m)=false->(((↑y.length:Int) != (↑m.length:Int))=true->(9:Int)=qr5 m y l)/\(((↑y.length:Int) != (↑m.length:Int))=false->True/\∃(v2:qa5 [Ty.int .i64]->Prop),∃(v3:qa5 [Ty.int .i64]->Bool),(∀(v4:Int × qa5._f [] PUnit.unit),v2 v4->((0:PTy.den (PTy.cap tInt))<=(1000000:Int)/\(1000000:Int)<=BIG)/\(!inB v4.1 ((0:Int)-(1000000:Int)) (1000000:Int))=v3 v4)/\(y.length<=(1000000:Nat)/\∀(v4:Nat),v4<y.length->v2 (nI y v4,()))/\((List.any y λ(v5:Int)=>v3 (v5,()))=true->(7:Int)=qr5 m y l)/\((List.any y λ(v5:Int)=>v3 (v5,()))=false->l.length<=(1000000:Nat)/\w5l m l=qr5 m y l)))) (by kernel_rfl) ?_
 try simp only[z0,z1,z2,z3,z4,z5,z6,z7,z8,z9,z10,Int.reduceEq,z11,z12,z13,z14,z15,z16,z17,z18,z19,z20,z21,z22,z23,z24,z25,z26,z27,z28,z29,z30,Int.reduceLE,Int.reduceLT,z31,z32,z33,z34,qa3]
 try simp only[qb5,qb6,qd0,z31,z32,z2,z1]
 refine⟨λhv=>by simp[qr5,hv],λhv=>⟨λhl=>?_,λhl=>?_⟩⟩
 ·have hl:¬y.length=m.length:=by omega
  simp[qr5,hv,hl]
 have hl:y.length=m.length:=by omega
 have hM:=Mk.of hv
 have h1:=hM.rows6
 refine⟨λ_=>True,λx=>!(inB x.1 (0-1000000) 1000000),λx _=>⟨by decide,by simp⟩,⟨by omega,λ_ _=>trivial⟩,λho=>?_,λho=>⟨h,?_⟩⟩
 ·have ho:w5m y=true:=ho
  simp[qr5,hv,hl,ho]
 ·have ho:w5m y=false:=ho
  simp[qr5,hv,hl,ho]
structure q5g (m:List (List Int)):Prop where
 rows:m.length<=9223372036854775807
 each:∀i,i<m.length->(nL m i).length<=9223372036854775807
structure RowTo (l:List Int) (k:Nat):Prop where
 le:k<=l.length
 ok:∀i,i<k->inB (nI l i) (-1) 1=true
def x3a (l:List Int):Nat->Option Inv
 | 0=>some (Inv.of [7] 0 (λk:Nat=>[(7,.lit (.int .i64 k))]) (λ_=>[]) (λk=>RowTo l k) (λk=>l.length-k))
 | _=>none
theorem w8d {l:List Int} {k:Nat} (hk:k<l.length) (h:inB (nI l k) (-1) 1=false):rowB l=false:=by
 cases e:rowB l with
 | false=>rfl
 | true=>
  unfold rowB at e
  rw[Bool.and_eq_true,List.all_eq_true] at e
  have:=e.2 (nI l k) (by rw[qg1 l k hk]; exact List.getElem_mem hk)
  rw[h] at this; cases this
theorem RowTo.all {l:List Int} (h:RowTo l l.length):(l.all λn=>inB n (-1) 1)=true:=by
 rw[List.all_eq_true]
 intro x hx
 obtain⟨i,hi,rfl⟩:=List.getElem_of_mem hx
 rw[<- qg1 l i hi]; exact h.ok i hi
abbrev x6z:qb9:=qg2 true none [tInts] [.bool] (λx=>x.1.length<=9223372036854775807) (λx=>(rowB x.1,()))
theorem w4d:Meets Tryz.prog 74 x6z:=by
 refine meets (snd (SpecsOk.cons qz7 (SpecsOk.nil _))) Tryz.func74 rfl rfl (λx=>x3a x.1) (λ_=>by kernel_rfl) (by decide) ?_
 rintro⟨l,⟨⟩⟩ h
 revert l
 intro(l:List Int) (h:l.length<=9223372036854775807)
 refine @qe1 _ (∃(v0:Unit),∃(v1:Nat),RowTo l v1/\(((0:Int)=(↑v1:Int)/\True)/\True)/\∀(v2:Nat),RowTo l v2->(decide ((↑v2:Int)<(↑l.length:Int))=true->((0:Int)<=(↑v2:Int)/\(↑v2:Int)<(↑l.length:Int))/\True/\((!inB (nI l v2) (-1:Int) (1:Int))=true->false=rowB l)/\((!inB (nI l v2) (-1:Int) (1:Int))=false->fits .i64 ((↑v2:Int)+(1:Int))/\∃(v6:Nat),RowTo l v6/\l.length-v6<l.length-v2/\((↑v2:Int)+(1:Int)=(↑v6:Int)/\True)/\True))/\(decide ((↑v2:Int)<(↑l.length:Int))=false->True/\inB (↑l.length:Int) (1:Int) (10:Int)=rowB l)) (by kernel_rfl) ?_
 try simp only[z0,z1,z2,z3,z4,z5,z6,z7,z8,z9,z10,Int.reduceEq,z11,z12,z13,z14,z15,z16,z17,z18,z19,z20,z21,z22,z23,z24,z25,z26,z27,z28,z29,z30,Int.reduceLE,Int.reduceLT,z31,z32,z33,z34,qa3]
 try simp only[qb5,qb6,qd0,z31,z32,z2,z1]
 refine⟨(),0,⟨Nat.zero_le _,λi hi=>by omega⟩,rfl,λk hk=>⟨λhlt=>⟨hlt,λh1=>(w8d hlt h1).symm,λh1=>⟨qa9 (by omega) (by omega),k+1,⟨hlt,λi hi=>?_⟩,by omega,by omega⟩⟩,λhge=>?_⟩⟩
 ·by_cases e:i=k
  ·subst e; exact h1
  ·exact hk.ok i (by omega)
 ·obtain rfl:k=l.length:=by have:=hk.le; omega
  rw[rowB,hk.all,Bool.and_true]
structure x5e (m:List (List Int)) (k:Nat):Prop where
 le:k<=m.length
 ok:∀i,i<k->rowB (nL m i)=true/\(nL m i).length=(nL m 0).length
def yd4 (m:List (List Int)):Nat->Option Inv
 | 0=>some (Inv.of [7] 0 (λk:Nat=>[(7,.lit (.int .i64 k))]) (λ_=>[]) (λk=>x5e m k) (λk=>m.length-k))
 | _=>none
theorem q7j {m:List (List Int)} {k:Nat} (hk:k<m.length) (h:rowB (nL m k)=false\/¬(nL m k).length=(nL m 0).length):validB m=false:=by
 cases e:validB m with
 | false=>rfl
 | true=>
  unfold validB at e
  rw[Bool.and_eq_true,List.all_eq_true] at e
  have:=e.2 (nL m k) (by rw[qp9 m k hk]; exact List.getElem_mem hk)
  rw[Bool.and_eq_true,decide_eq_true_eq] at this
  rcases h with h | h
  ·rw[h] at this; cases this.2
  ·exact absurd this.1 h
abbrev sV2:qb9:=qg2 true none [tMask] [.bool] (λx=>q5g x.1) (λx=>(validB x.1,()))
theorem wh3:Meets Tryz.prog 23 sV2:=by
 refine meets (snd (SpecsOk.cons qz7 (SpecsOk.cons w4d (SpecsOk.nil _)))) Tryz.func23 rfl rfl (λx=>yd4 x.1) (λ_=>by kernel_rfl) (by decide) ?_
 rintro⟨m,⟨⟩⟩ h
 revert m
 intro(m:List (List Int)) (h:q5g m)
 refine @qe1 _ (∃(v0:Unit),∃(v1:Nat),x5e m v1/\(((0:Int)=(↑v1:Int)/\True)/\True)/\∀(v2:Nat),x5e m v2->(decide ((↑v2:Int)<(↑m.length:Int))=true->((0:Int)<=(↑v2:Int)/\(↑v2:Int)<(↑m.length:Int))/\(nL m v2).length<=(9223372036854775807:Nat)/\((!rowB (nL m v2))=true->false=validB m)/\((!rowB (nL m v2))=false->((0:Int)<=(0:Int)/\(0:Int)<(↑m.length:Int))/\(((↑(nL m v2).length:Int) != (↑(nL m (0:Nat)).length:Int))=true->false=validB m)/\(((↑(nL m v2).length:Int) != (↑(nL m (0:Nat)).length:Int))=false->fits .i64 ((↑v2:Int)+(1:Int))/\∃(v7:Nat),x5e m v7/\m.length-v7<m.length-v2/\((↑v2:Int)+(1:Int)=(↑v7:Int)/\True)/\True)))/\(decide ((↑v2:Int)<(↑m.length:Int))=false->True/\inB (↑m.length:Int) (1:Int) (6:Int)=validB m)) (by kernel_rfl) ?_
 try simp only[z0,z1,z2,z3,z4,z5,z6,z7,z8,z9,z10,Int.reduceEq,z11,z12,z13,z14,z15,z16,z17,z18,z19,z20,z21,z22,z23,z24,z25,z26,z27,z28,z29,z30,Int.reduceLE,Int.reduceLT,z31,z32,z33,z34,qa3]
 try simp only[qb5,qb6,qd0,z31,z32,z2,z1]
 have hr:=h.rows
 refine⟨(),0,⟨Nat.zero_le _,λi hi=>by omega⟩,rfl,λk hk=>⟨λhlt=>⟨hlt,h.each k hlt,λh1=>(q7j hlt (.inl h1)).symm,λh1=>⟨by omega,λh2=>(q7j hlt (.inr (by omega))).symm,λh2=>⟨qa9 (by omega) (by omega),k+1,⟨hlt,λi hi=>?_⟩,by omega,by omega⟩⟩⟩,λhge=>?_⟩⟩
 ·by_cases e:i=k
  ·subst e; exact⟨h1,by omega⟩
  ·exact hk.ok i (by omega)
 ·obtain rfl:k=m.length:=by have:=hk.le; omega
  have:(m.all λl=>decide (l.length=(nL m 0).length) && rowB l)=true:=by
   rw[List.all_eq_true]
   intro x hx
   obtain⟨i,hi,rfl⟩:=List.getElem_of_mem hx
   have:=hk.ok i hi
   rw[qp9 m i hi] at this
   rw[this.1,this.2]; simp
  rw[validB,this,Bool.and_true]
structure xk1 (y:List Int) (k:Nat):Prop where
 le:k<=y.length
 ok:∀i,i<k->inB (nI y i) (-1000000) 1000000=true
def w8e (m:List (List Int)) (y:List Int):Int:=if ¬y.length=m.length then 9 else if w5m y then 7 else 0
def x60 (y:List Int):Nat->Option Inv
 | 0=>some (Inv.of [14] 0 (λk:Nat=>[(14,.lit (.int .i64 k))]) (λ_=>[]) (λk=>xk1 y k) (λk=>y.length-k))
 | _=>none
abbrev yd5:qb9:=qg2 true none [tMask,tInts] [tInt] (λx=>x.1.length<=1000000) (λx=>(w8e x.1 x.2.1,()))
theorem w8f:Meets Tryz.prog 139 yd5:=by
 refine meets (snd (SpecsOk.cons wh2 (SpecsOk.nil _))) Tryz.func139 rfl rfl (λx=>x60 x.2.1) (λ_=>by kernel_rfl) (by decide) ?_
 rintro⟨m,y,⟨⟩⟩ h
 revert m y
 intro(m:List (List Int)) (y:List Int) (h:m.length<=1000000)
 refine @qe1 _ ((((↑y.length:Int) != (↑m.length:Int))=true->(9:Int)=w8e m y)/\(((↑y.length:Int) != (↑m.length:Int))=false->∃(v1:Unit),∃(v2:Nat),xk1 y v2/\(((0:Int)=(↑v2:Int)/\True)/\True)/\∀(v3:Nat),xk1 y v3->(decide ((↑v3:Int)<(↑y.length:Int))=true->((0:Int)<=(↑v3:Int)/\(↑v3:Int)<(↑y.length:Int))/\True/\((!inB (nI y v3) (-1000000:Int) (1000000:Int))=true->(7:Int)=w8e m y)/\((!inB (nI y v3) (-1000000:Int) (1000000:Int))=false->fits .i64 ((↑v3:Int)+(1:Int))/\∃(v7:Nat),xk1 y v7/\y.length-v7<y.length-v3/\((↑v3:Int)+(1:Int)=(↑v7:Int)/\True)/\True))/\(decide ((↑v3:Int)<(↑y.length:Int))=false->(0:Int)=w8e m y))) (by kernel_rfl) ?_
 try simp only[z0,z1,z2,z3,z4,z5,z6,z7,z8,z9,z10,Int.reduceEq,z11,z12,z13,z14,z15,z16,z17,z18,z19,z20,z21,z22,z23,z24,z25,z26,z27,z28,z29,z30,Int.reduceLE,Int.reduceLT,z31,z32,z33,z34,qa3]
 try simp only[qb5,qb6,qd0,z31,z32,z2,z1]
 refine⟨λhl=>by rw[w8e,if_pos (by omega)],λhl=>?_⟩
 have hl:y.length=m.length:=by omega
 have e0:∀x:Int,inB x (-1000000) 1000000=inB x (0-1000000) 1000000:=λ_=>rfl
 refine⟨(),0,⟨Nat.zero_le _,λi hi=>by omega⟩,rfl,λk hk=>⟨λhlt=>⟨hlt,λh1=>?_,λh1=>⟨qa9 (by omega) (by omega),k+1,⟨hlt,λi hi=>?_⟩,by omega,by omega⟩⟩,λhge=>?_⟩⟩
 ·have:w5m y=true:=by
   unfold w5m
   rw[List.any_eq_true]
   exact⟨nI y k,by rw[qg1 y k hlt]; exact List.getElem_mem hlt,by rw[<- e0,h1]; rfl⟩
  simp[w8e,hl,this]
 ·by_cases e:i=k
  ·subst e; exact h1
  ·exact hk.ok i (by omega)
 ·obtain rfl:k=y.length:=by have:=hk.le; omega
  have:w5m y=false:=by
   unfold w5m
   rw[List.any_eq_false]
   intro x hx
   obtain⟨i,hi,rfl⟩:=List.getElem_of_mem hx
   have:=hk.ok i hi
   rw[qg1 y i hi,e0] at this
   rw[this]; simp
  simp[w8e,hl,this]
def qv9 (m:List (List Int)) (y:List Int):Int:=if validB m=false then 1 else w8e m y
abbrev x3b:qb9:=qg2 true none [tMask,tInts] [tInt] (λx=>q5g x.1) (λx=>(qv9 x.1 x.2.1,()))
theorem wx3:Meets Tryz.prog 81 x3b:=by
 refine meets (snd (SpecsOk.cons wh3 (SpecsOk.cons w8f (SpecsOk.nil _)))) Tryz.func81 rfl rfl (λ_ _=>none) (λ_=>by kernel_rfl) (by decide) ?_
 rintro⟨m,y,⟨⟩⟩ h
 revert m y
 intro(m:List (List Int)) (y:List Int) (h:q5g m)
 refine @qe1 _ (q5g m/\((!validB m)=true->(1:Int)=qv9 m y)/\((!validB m)=false->m.length<=(1000000:Nat)/\w8e m y=qv9 m y)) (by kernel_rfl) ?_
 try simp only[z0,z1,z2,z3,z4,z5,z6,z7,z8,z9,z10,Int.reduceEq,z11,z12,z13,z14,z15,z16,z17,z18,z19,z20,z21,z22,z23,z24,z25,z26,z27,z28,z29,z30,Int.reduceLE,Int.reduceLT,z31,z32,z33,z34,qa3]
 try simp only[qb5,qb6,qd0,z31,z32,z2,z1]
 refine⟨h,λhv=>by simp[qv9,hv],λhv=>⟨?_,by simp[qv9,hv]⟩⟩
 have:=(Mk.of hv).rows6
 omega
theorem q2w (l:List Int) (k:Nat) (hk:k<l.length):l.take (k+1)=l.take k++[nI l k]:=by
 rw[List.take_add_one,List.getElem?_eq_getElem hk,qg1 l k hk]; rfl
def q06 (n:Nat):List Int:=(List.range n).map λi:Nat=>(i:Int)
theorem w8g (n:Nat):q06 (n+1)=q06 n++[(n:Int)]:=by simp[q06,List.range_succ]
theorem qk8 (n:Nat):(q06 n).length=n:=by simp[q06]
theorem q7k (n i:Nat) (h:i<n):nI (q06 n) i=i:=by rw[qg1 _ _ (by rw[qk8]; exact h)]; simp[q06]
abbrev yd6:qb9:=wn1 (we9 [tInt]) true (some 3) .none (λx=>x.1<=100000) (λx=>.dat (.int .i64) (q06 x.1.toNat))
def x61 (n:Nat):Nat->Option Inv
 | 0=>some (Inv.of [3,6] 1 (λk:Nat=>[(3,.own 0),(6,.lit (.int .i64 k))]) (λk=>[.vec 3 (.int .i64) (q06 k)]) (λk=>k<=n) (λk=>n-k))
 | _=>none
theorem wo6:Meets Tryz.prog 72 yd6:=by
 refine w1p (snd (SpecsOk.nil _)) Tryz.func72 rfl rfl (q1x [tInt]) (λx=>x61 x.1.toNat) (λ_=>by kernel_rfl) (by decide) ?_
 rintro⟨n,⟨⟩⟩ h
 revert n
 intro(n:Int) (h:n<=100000)
 refine @qe1 _ (∃(v0:Unit),∃(v1:Nat),Nat.le v1 n.toNat/\((True/\(0:Int)=(↑v1:Int)/\True)/\q06 v1=[]/\True)/\∀(v2:Nat),Nat.le v2 n.toNat->(decide ((↑v2:Int)<n)=true->((0:Nat)<List.length [(↑v2:Int)]/\Nat.le ((q06 v2).length+List.length [(↑v2:Int)]) (1000000:Nat))/\fits .i64 ((↑v2:Int)+(1:Int))/\∃(v5:Nat),Nat.le v5 n.toNat/\n.toNat-v5<n.toNat-v2/\(True/\(↑v2:Int)+(1:Int)=(↑v5:Int)/\True)/\q06 v2++[(↑v2:Int)]=q06 v5/\True)/\(decide ((↑v2:Int)<n)=false->q06 v2=q06 n.toNat)) (by kernel_rfl) ?_
 try simp only[z0,z1,z2,z3,z4,z5,z6,z7,z8,z9,z10,Int.reduceEq,z11,z12,z13,z14,z15,z16,z17,z18,z19,z20,z21,z22,z23,z24,z25,z26,z27,z28,z29,z30,Int.reduceLE,Int.reduceLT,z31,z32,z33,z34,qa3]
 try simp only[qb5,qb6,qd0,z31,z32,z2,z1]
 refine⟨(),0,Nat.zero_le _,⟨rfl,rfl⟩,λk hk=>⟨λhlt=>⟨by rw[qk8]; omega,qa9 (by omega) (by omega),k+1,by omega,by omega,by omega,(w8g k).symm⟩,λhge=>?_⟩⟩
 rw[show n.toNat=k by omega]
abbrev xk2:qb9:=qg2 true none [tInt] [tInts] (λ_=>True) (λ_=>([],()))
theorem q4q:Meets Tryz.prog 73 xk2:=by
 refine meets (snd (SpecsOk.nil _)) Tryz.func73 rfl rfl (λ_ _=>none) (λ_=>by kernel_rfl) (by decide) ?_
 rintro⟨n,⟨⟩⟩ -
 revert n
 intro(n:Int)
 refine @qe1 _ (wk2 Int) (by kernel_rfl) ?_
 try simp only[z0,z1,z2,z3,z4,z5,z6,z7,z8,z9,z10,Int.reduceEq,z11,z12,z13,z14,z15,z16,z17,z18,z19,z20,z21,z22,z23,z24,z25,z26,z27,z28,z29,z30,Int.reduceLE,Int.reduceLT,z31,z32,z33,z34,qa3]
 try simp only[qb5,qb6,qd0,z31,z32,z2,z1]
abbrev x3c:qb9:=hspec [] true none [.d tInt,.cap tInts] [tInts] (λx=>0<=x.1/\x.1<x.2.1.length) (λx=>([nI x.2.1 x.1.toNat],()))
theorem w4e:Meets Tryz.prog 249 x3c:=by
 refine qr1 (SpecsOk.nil _) (ya2 [8] (SpecsOk.nil _)) Tryz.func249 rfl rfl (λ_ _=>none) (λ_=>by kernel_rfl) (by decide) ?_
 rintro⟨n,y,⟨⟩⟩ h
 revert n y
 intro(n:Int) (y:List Int) (h:0<=n/\n<y.length)
 refine @qe1 _ (((0:Int)<=n/\n<(↑y.length:Int))/\[nI y n.toNat]=[nI y n.toNat]) (by kernel_rfl) ?_
 try simp only[z0,z1,z2,z3,z4,z5,z6,z7,z8,z9,z10,Int.reduceEq,z11,z12,z13,z14,z15,z16,z17,z18,z19,z20,z21,z22,z23,z24,z25,z26,z27,z28,z29,z30,Int.reduceLE,Int.reduceLT,z31,z32,z33,z34,qa3]
 try simp only[qb5,qb6,qd0,z31,z32,z2,z1]
 exact h
def qu4 (r pix:List Int):List Int:=pix.map λp=>nI r p.toNat
def qa8 (m:List (List Int)) (pix:List Int) (f:Int->List Int):List (List Int):=(List.range m.length).map λi=>qu4 (nL m i) pix++f i
structure ChoOk (m:List (List Int)) (pix:List Int) (p:qa5 [.int .i64]->Prop) (f:qa5 [.int .i64]->List Int):Prop where
 rows:m.length<=10000
 cols:pix.length<=10000
 at_:∀i,i<m.length->∀j,j<pix.length->0<=nI pix j/\nI pix j<(nL m i).length
 fn:∀i:Nat,i<m.length->p ((i:Int),())/\(f ((i:Int),())).length<=10000
theorem qj0 (r pix:List Int):(qu4 r pix).length=pix.length:=by simp[qu4]
theorem qn2 (r pix:List Int) (j:Nat) (hj:j<pix.length):nI (qu4 r pix) j=nI r (nI pix j).toNat:=by
 rw[qg1 _ _ (by rw[qj0]; exact hj),qg1 pix j hj]; simp[qu4]
theorem ql8 (m:List (List Int)) (pix:List Int) (f:Int->List Int):(qa8 m pix f).length=m.length:=by simp[qa8]
theorem q9q (m:List (List Int)) (pix:List Int) (f:Int->List Int) (i:Nat) (hi:i<m.length):nL (qa8 m pix f) i=qu4 (nL m i) pix++f i:=by
 rw[qp9 _ _ (by rw[ql8]; exact hi)]; simp[qa8]
theorem takeL_snoc (m:List (List Int)) (k:Nat) (hk:k<m.length):m.take (k+1)=m.take k++[nL m k]:=by
 rw[List.take_add_one,List.getElem?_eq_getElem hk,qp9 m k hk]; rfl
abbrev yd7 (fs:List (Nat × qb9)):qb9:=wn1 (w7p fs [.d tMask,.d tInts,.fn [tInt] tInts]) true (some 34) (some 3) (λx=>ChoOk x.1 x.2.1 x.2.2.1.1 x.2.2.1.2) (λx=>.dat (.list (.int .i64)) (qa8 x.1 x.2.1 λi=>x.2.2.1.2 (i,())))
def x62 (m:List (List Int)) (pix:List Int) (f:Int->List Int):Nat->Option Inv
 | 0=>some (Inv.of [7,15] 1 (λk:Nat=>[(7,.msl 0 .none),(15,.lit (.int .i64 k))]) (λk=>[.mat 34 3 (.int .i64) ((qa8 m pix f).take k) .none .none]) (λk=>k<=m.length) (λk=>m.length-k))
 | 1=>some (Eng.Inv.mk Nat Nat [7,10,22] 2 (λ_ j=>[(7,.msl 0 .none),(10,.own 1),(22,.lit (.int .i64 j))]) (λk j=>[.mat 34 3 (.int .i64) ((qa8 m pix f).take k) .none .none,.vec 3 (.int .i64) ((qu4 (nL m k) pix).take j)]) (λ_ j=>j<=pix.length) (λ_ j=>pix.length-j))
 | _=>none
theorem q07 {fs:List (Nat × qb9)} (hfs:SpecsOk Tryz.prog fs):Meets Tryz.prog 71 (yd7 fs):=by
 refine w1p (x6r [40] [39] (SpecsOk.nil _)) Tryz.func71 rfl rfl (w1s hfs [.d tMask,.d tInts,.fn [tInt] tInts]) (λx=>x62 x.1 x.2.1 λi=>x.2.2.1.2 (i,())) (λ_=>by kernel_rfl) (show 3<=_ by decide) ?_
 rintro⟨m,pix,⟨p,f⟩,⟨⟩⟩ h
 revert m pix p f
 intro(m:List (List Int)) (pix:List Int) (p:qa5 [.int .i64]->Prop) (f:qa5 [.int .i64]->List Int) (h:ChoOk m pix p f)
 refine @qe1 _ (∃(v0:Unit),∃(v1:Nat),Nat.le v1 m.length/\((True/\(0:Int)=(↑v1:Int)/\True)/\List.take v1 (qa8 m pix λ(v2:Int)=>f (v2,()))=[]/\True)/\∀(v2:Nat),Nat.le v2 m.length->(decide ((↑v2:Int)<(↑m.length:Int))=true->((0:Int)<=(↑v2:Int)/\(↑v2:Int)<(↑m.length:Int))/\∃(v5:Nat),∃(v6:Nat),Nat.le v6 pix.length/\((True/\True/\(0:Int)=(↑v6:Int)/\True)/\(List.take v2 (qa8 m pix λ(v7:Int)=>f (v7,()))=List.take v5 (qa8 m pix λ(v7:Int)=>f (v7,()))/\True/\True)/\List.take v6 (qu4 (nL m v5) pix)=[]/\True)/\∀(v7:Nat),Nat.le v7 pix.length->(decide ((↑v7:Int)<(↑pix.length:Int))=true->((0:Int)<=(↑v7:Int)/\(↑v7:Int)<(↑pix.length:Int))/\((0:Int)<=nI pix v7/\nI pix v7<(↑(nL m v2).length:Int))/\((0:Nat)<List.length [nI (nL m v2) (nI pix v7).toNat]/\Nat.le ((List.take v7 (qu4 (nL m v5) pix)).length+List.length [nI (nL m v2) (nI pix v7).toNat]) (1000000:Nat))/\fits .i64 ((↑v7:Int)+(1:Int))/\∃(v10:Nat),Nat.le v10 pix.length/\pix.length-v10<pix.length-v7/\(True/\True/\(↑v7:Int)+(1:Int)=(↑v10:Int)/\True)/\(List.take v5 (qa8 m pix λ(v11:Int)=>f (v11,()))=List.take v5 (qa8 m pix λ(v11:Int)=>f (v11,()))/\True/\True)/\List.take v7 (qu4 (nL m v5) pix)++[nI (nL m v2) (nI pix v7).toNat]=List.take v10 (qu4 (nL m v5) pix)/\True)/\(decide ((↑v7:Int)<(↑pix.length:Int))=false->p ((↑v2:Int),())/\Nat.le ((List.take v7 (qu4 (nL m v5) pix)).length+(f ((↑v2:Int),())).length) (1000000:Nat)/\((0:Nat)<(0:Nat)+(1:Nat)/\(List.take v5 (qa8 m pix λ(v10:Int)=>f (v10,()))).length+((0:Nat)+(1:Nat))<=(1000000:Nat))/\fits .i64 ((↑v2:Int)+(1:Int))/\∃(v10:Nat),Nat.le v10 m.length/\m.length-v10<m.length-v2/\(True/\(↑v2:Int)+(1:Int)=(↑v10:Int)/\True)/\(List.take v5 (qa8 m pix λ(v11:Int)=>f (v11,()))++[List.take v7 (qu4 (nL m v5) pix)++f ((↑v2:Int),())]=List.take v10 (qa8 m pix λ(v11:Int)=>f (v11,()))/\True/\True)/\True))/\(decide ((↑v2:Int)<(↑m.length:Int))=false->List.take v2 (qa8 m pix λ(v5:Int)=>f (v5,()))=qa8 m pix λ(v5:Int)=>f (v5,()))) (by kernel_rfl) ?_
 try simp only[z0,z1,z2,z3,z4,z5,z6,z7,z8,z9,z10,Int.reduceEq,z11,z12,z13,z14,z15,z16,z17,z18,z19,z20,z21,z22,z23,z24,z25,z26,z27,z28,z29,z30,Int.reduceLE,Int.reduceLT,z31,z32,z33,z34,qa3]
 try simp only[qb5,qb6,qd0,z31,z32,z2,z1]
 have hr:=h.rows
 have hc:=h.cols
 have hl:=ql8 m pix λi=>f (i,())
 refine⟨(),0,Nat.zero_le _,⟨rfl,rfl⟩,λk hk=>⟨λhlt=>⟨hlt,k,0,Nat.zero_le _,⟨rfl,rfl,rfl⟩,λj hj=>⟨λhj2=>?_,λhj2=>?_⟩⟩,λhge=>?_⟩⟩
 ·have h1:=qj0 (nL m k) pix
  refine⟨hj2,h.at_ k hlt j hj2,by rw[List.length_take]; omega,qa9 (by omega) (by omega),j+1,by omega,by omega,by omega,?_⟩
  rw[q2w _ j (by omega),qn2 _ _ _ hj2]
 ·obtain rfl:j=pix.length:=by omega
  have h1:=qj0 (nL m k) pix
  have h2:=h.fn k hlt
  have h3:(qu4 (nL m k) pix).take pix.length=qu4 (nL m k) pix:=List.take_of_length_le (by omega)
  rw[h3]
  refine⟨h2.1,by omega,by rw[List.length_take]; omega,qa9 (by omega) (by omega),k+1,by omega,by omega,by omega,?_⟩
  rw[takeL_snoc _ k (by omega),q9q _ _ _ _ hlt]
 ·rw[List.take_of_length_le (by omega)]
abbrev x3d:qb9:=hspec [] true none [.d tInts,.cap tInt] [.bool] (λx=>0<=x.2.1/\x.2.1<x.1.length) (λx=>(nI x.1 x.2.1.toNat != 0,()))
theorem w4f:Meets Tryz.prog 130 x3d:=by
 refine qr1 (SpecsOk.nil _) (snd (SpecsOk.nil _)) Tryz.func130 rfl rfl (λ_ _=>none) (λ_=>by kernel_rfl) (by decide) ?_
 rintro⟨l,j,⟨⟩⟩ h
 revert l j
 intro(l:List Int) (j:Int) (h:0<=j/\j<l.length)
 refine @qe1 _ (((0:Int)<=j/\j<(↑l.length:Int))/\(nI l j.toNat != (0:Int))=(nI l j.toNat != (0:Int))) (by kernel_rfl) ?_
 try simp only[z0,z1,z2,z3,z4,z5,z6,z7,z8,z9,z10,Int.reduceEq,z11,z12,z13,z14,z15,z16,z17,z18,z19,z20,z21,z22,z23,z24,z25,z26,z27,z28,z29,z30,Int.reduceLE,Int.reduceLT,z31,z32,z33,z34,qa3]
 try simp only[qb5,qb6,qd0,z31,z32,z2,z1]
 exact h
def qs6 (rows:List (List Int)) (k j:Nat):Int:=ixT (.list (.int .i64)) (λr=>nI r j != 0) (rows.drop k)
def wo7 (rows:List (List Int)) (a b:Nat):List (List Int):=(rows.set a (nL rows b)).set b (nL rows a)
def xk3 (r:List Int):List Int:=(List.range r.length).map λi=>0-nI r i
def q17 (rows:List (List Int)) (k j:Nat):List (List Int):=wo7 rows k (k+(qs6 rows k j).toNat)
def qj3 (rows:List (List Int)) (k j:Nat):List (List Int):=if nI (nL (q17 rows k j) k) j<0 then(q17 rows k j).set k (xk3 (nL (q17 rows k j) k)) else q17 rows k j
def wj7 (rows:List (List Int)) (k j i:Nat):List Int:=if i≠k/\nI (nL rows i) j≠0 then qw8 (nL rows i) (nL rows k) j else nL rows i
def xd6 (rows:List (List Int)) (k j:Nat):List (List Int):=(List.range rows.length).map (wj7 rows k j)
def qw0 (s:List (List Int) × List Int) (j:Nat):List (List Int) × List Int:=if qs6 s.1 s.2.length j<0 then s else(xd6 (qj3 s.1 s.2.length j) s.2.length j,s.2++[(j:Int)])
def qa4 (rows:List (List Int)):Nat->List (List Int) × List Int
 | 0=>(rows,[])
 | j+1=>qw0 (qa4 rows j) j
structure xr7 (rows:List (List Int)) (k j:Nat):Prop where
 neg:∀x∈nL (q17 rows k j) k,qd6 BIG x
 clr:∀i,i<rows.length->i≠k->nI (nL (qj3 rows k j) i) j≠0->wo2 (nL (qj3 rows k j) i) (nL (qj3 rows k j) k) j
structure qz8 (rows:List (List Int)) (cols W:Nat):Prop where
 n:rows.length<=1000
 w:W<=1000
 cw:cols<=W
 each:∀i,i<rows.length->(nL rows i).length=W
 step:∀j,j<cols->0<=qs6 (qa4 rows j).1 (qa4 rows j).2.length j->xr7 (qa4 rows j).1 (qa4 rows j).2.length j
abbrev yd8:qp4:=w7l (we9 [tInt]) true false 34 3 (.int .i64) (λrows x=>0<=x.1/\∃W,qz8 rows x.1.toNat W) (λrows x=>.dat (.int .i64) (qa4 rows x.1.toNat).2) (λrows x=>(qa4 rows x.1.toNat).1)
def xr8:List AObj:=[.dead,.dead,.dead,.dead,.dead,.dead,.dead,.dead,.dead,.dead,.dead,.dead,.dead,.dead,.dead,.dead,.dead,.dead,.dead,.dead,.dead,.dead,.dead,.dead,.dead,.dead,.dead,.dead]
structure xk4 (rows:List (List Int)) (k i:Nat) (r:List (List Int)):Prop where
 le:i<=(nL rows k).length
 eq:r=rows.set k (ovr (.int .i64) (λq=>0-nI (nL rows k) q) (nL rows k) i)
structure q7l (rows:List (List Int)) (k j i:Nat) (r:List (List Int)):Prop where
 le:i<=rows.length
 eq:r=ovr (.list (.int .i64)) (wj7 rows k j) rows i
structure w4g (R:List (List Int)) (c j:Nat) (r:List (List Int)) (p:List Int):Prop where
 le:j<=c
 eq:qa4 R j=(r,p)
def x63 (T:q8m) (R:List (List Int)) (c:Nat):Nat->Option Inv
 | 0=>some (Inv.of [0,5,13] 2 (λs:Nat × List (List Int) × List Int=>[(0,.msl 0 .none),(5,.own 1),(13,.lit (.int .i64 s.1))]) (λs=>[.mat 34 3 (.int .i64) s.2.1 .none (some T),.vec 3 (.int .i64) s.2.2]) (λs=>w4g R c s.1 s.2.1 s.2.2) (λs=>c-s.1))
 | 1=>some (Eng.Inv.mk (Nat × Nat × List (List Int) × List Int) (Nat × List (List Int)) [0,5,56] 31 (λ_ s=>[(0,.msl 0 .none),(5,.own 1),(56,.lit (.int .i64 s.1))]) (λq s=>.mat 34 3 (.int .i64) s.2 .none (some T) :: .vec 3 (.int .i64) q.2.2.2 :: .box 3 (.cons (.lit (.int .i64 q.1)) .nil) :: xr8) (λq s=>xk4 q.2.2.1 q.2.1 s.1 s.2) (λq s=>(nL q.2.2.1 q.2.1).length-s.1))
 | 2=>some (Eng.Inv.mk (Nat × Nat × List (List Int) × List Int) (Nat × List (List Int)) [0,5,74,76] 31 (λ_ s=>[(0,.msl 0 .none),(5,.own 1),(74,.msl 0 .none),(76,.lit (.int .i64 s.1))]) (λq s=>.mat 34 3 (.int .i64) s.2 .none (some T) :: .vec 3 (.int .i64) q.2.2.2 :: .box 3 (.cons (.lit (.int .i64 q.1)) .nil) :: xr8) (λq s=>q7l q.2.2.1 q.2.1 q.1 s.1 s.2) (λq s=>q.2.2.1.length-s.1))
 | _=>none
theorem qw9 (n:Nat):qd9 n none=n:=rfl
theorem w4h (n:Nat) (l:List Nat):qd9 n (some l)=l.length:=rfl
theorem xk5 (n:Nat):ixL n none=List.range n:=rfl
theorem xk6 (n:Nat) (l:List Nat):ixL n (some l)=l:=rfl
theorem q08 (i:Nat):qc9 none i=i:=rfl
theorem w8h (l:List Nat) (i:Nat):qc9 (some l) i=l.getD i 0:=rfl
theorem wo8 (r:List (List Int)):q4c (.int .i64) r none=r:=rfl
theorem w8i (r:List (List Int)) (l:List Nat):q4c (.int .i64) r (some l)=l.map λp=>nL r p:=rfl
theorem xk7 (n k b:Nat) (hk:k<n) (hb:b<n):(((List.range n).set k b).set b k).getD k 0=b:=by
 rw[List.getD_eq_getElem?_getD]
 by_cases e:b=k
 ·subst e
  rw[List.getElem?_set_self (by simpa using hb)]; rfl
 ·rw[List.getElem?_set_ne e,List.getElem?_set_self (by simpa using hk)]; rfl
theorem w8j (n k b:Nat) (hk:k<n) (hb:b<n):(((List.range n).set k b).set b k).Nodup:=by
 rw[List.nodup_iff_pairwise_ne,List.pairwise_iff_getElem]
 intro i j hi hj hij
 simp only[List.length_set,List.length_range] at hi hj
 simp only[List.getElem_set,List.getElem_range]
 split <;> split <;> (try split) <;> (try split) <;> omega
theorem xy0 (r:List (List Int)) (k b:Nat) (hk:k<r.length) (hb:b<r.length):((((List.range r.length).set k b).set b k).map λp=>nL r p)=wo7 r k b:=by
 apply List.ext_getElem (by simp[wo7])
 intro i h1 h2
 have hi:i<r.length:=by simpa using h1
 simp only[List.getElem_map,List.getElem_set,List.getElem_range,wo7]
 split
 ·rfl
 ·split
  ·rfl
  ·exact qp9 r i hi
theorem wo9 (r:List (List Int)) (k b:Nat):(wo7 r k b).length=r.length:=by simp[wo7]
theorem q3t (r:List (List Int)) (k b:Nat) (hk:k<r.length) (hb:b<r.length) (i:Nat) (hi:i<r.length):nL (wo7 r k b) i=if i=b then nL r k else if i=k then nL r b else nL r i:=by
 rw[qp9 _ i (by rw[wo9]; exact hi)]
 simp only[wo7,List.getElem_set]
 by_cases e:b=i
 ·rw[if_pos e,if_pos e.symm]
 ·rw[if_neg e,if_neg (Ne.symm e)]
  by_cases e2:k=i
  ·rw[if_pos e2,if_pos e2.symm]
  ·rw[if_neg e2,if_neg (Ne.symm e2),qp9 r i hi]
theorem q9r (l:List Int):(qe2 l).length=l.length:=by unfold qe2; split <;> simp
theorem q9s (r b:List Int) (c:Nat):(qw8 r b c).length=r.length:=by unfold qw8; rw[q9r,q14]
theorem q55 (r:List Int):(xk3 r).length=r.length:=by simp[xk3]
theorem q56 (r:List (List Int)) (k j:Nat):(q17 r k j).length=r.length:=wo9 _ _ _
theorem qj1 (r:List (List Int)) (k j:Nat):(qj3 r k j).length=r.length:=by
 unfold qj3; split
 ·rw[List.length_set,q56]
 ·rw[q56]
theorem wh4 (r:List (List Int)) (k:Nat) (x:List Int) (i:Nat) (hi:i<r.length):nL (r.set k x) i=if i=k then x else nL r i:=by
 rw[qp9 _ i (by rw[List.length_set]; exact hi),List.getElem_set]
 by_cases e:k=i
 ·rw[if_pos e,if_pos e.symm]
 ·rw[if_neg e,if_neg (Ne.symm e),qp9 r i hi]
theorem q18 (r:List (List Int)) (k j:Nat) (hk:k<=r.length) (h:0<=qs6 r k j):k+(qs6 r k j).toNat<r.length:=by
 have:=(xr4 (.list (.int .i64)) (λr=>nI r j != 0) (r.drop k)).1
 unfold qs6 at h ⊢
 rw[List.length_drop] at this
 omega
theorem q3u (r:List (List Int)) (k j i:Nat) (hi:i<r.length):nL (qj3 r k j) i=if i=k/\nI (nL (q17 r k j) k) j<0 then xk3 (nL (q17 r k j) k) else nL (q17 r k j) i:=by
 unfold qj3
 split
 ·rename_i h
  rw[wh4 _ _ _ _ (by rw[q56]; exact hi)]
  by_cases e:i=k
  ·rw[if_pos e,if_pos ⟨e,h⟩]
  ·rw[if_neg e,if_neg λq=>e q.1]
 ·rename_i h
  rw[if_neg λq=>h q.2]
theorem wh5 (r:List (List Int)) (k j:Nat):(xd6 r k j).length=r.length:=by simp[xd6]
theorem w8k (r:List (List Int)) (k j i:Nat) (hi:i<r.length):nL (xd6 r k j) i=wj7 r k j i:=by
 rw[qp9 _ i (by rw[wh5]; exact hi)]; simp[xd6]
structure RedSh (n W:Nat) (s:List (List Int) × List Int) (j:Nat):Prop where
 cnt:s.1.length=n
 each:∀i,i<n->(nL s.1 i).length=W
 piv:s.2.length<=n
 pivj:s.2.length<=j
theorem q7m {r:List (List Int)} {k j W:Nat} (hk:k<=r.length) (h:0<=qs6 r k j) (he:∀i,i<r.length->(nL r i).length=W):∀i,i<r.length->(nL (q17 r k j) i).length=W:=λi hi=>by
 have hb:=q18 r k j hk h
 unfold q17
 rw[q3t _ _ _ (by omega) hb i hi]
 split
 ·exact he _ (by omega)
 ·split
  ·exact he _ hb
  ·exact he _ hi
theorem q19 {r:List (List Int)} {k j W:Nat} (hk:k<=r.length) (h:0<=qs6 r k j) (he:∀i,i<r.length->(nL r i).length=W):∀i,i<r.length->(nL (qj3 r k j) i).length=W:=λi hi=>by
 have hb:=q18 r k j hk h
 have h1:=q7m hk h he
 rw[q3u _ _ _ _ hi]
 split
 ·rw[q55]; exact h1 _ (by omega)
 ·exact h1 _ hi
theorem RedSh.step {n W j:Nat} {s:List (List Int) × List Int} (h:RedSh n W s j):RedSh n W (qw0 s j) (j+1):=by
 unfold qw0
 split
 ·exact⟨h.cnt,h.each,h.piv,by have:=h.pivj; omega⟩
 ·rename_i hp
  have hp:0<=qs6 s.1 s.2.length j:=by omega
  have hn:=h.cnt
  have hb:=q18 s.1 s.2.length j (by rw[hn]; exact h.piv) hp
  have he:=q19 (W:=W) (by rw[hn]; exact h.piv) hp (λi hi=>h.each i (by omega))
  refine⟨by rw[wh5,qj1]; exact hn,λi hi=>?_,?_,?_⟩
  ·rw[w8k _ _ _ _ (by rw[qj1]; omega)]
   unfold wj7
   split
   ·rw[q9s]; exact he i (by omega)
   ·exact he i (by omega)
  ·rw[List.length_append]; simp; omega
  ·rw[List.length_append]; have:=h.pivj; simp; omega
theorem qs7 {R:List (List Int)} {c W:Nat} (h:qz8 R c W):∀j,RedSh R.length W (qa4 R j) j
 | 0=>⟨rfl,h.each,Nat.zero_le _,Nat.le_refl _⟩
 | j+1=>(qs7 h j).step
theorem q3v (r:List (List Int)) (k j:Nat):wj7 r k j k=nL r k:=by unfold wj7; rw[if_neg]; exact λh=>h.1 rfl
theorem q57 (t:Ty) (g:Nat->t.den) (l:List t.den) (k:Nat) (h:k<l.length->g k=qd4 t l k):ovr t g l k=ovr t g l (k+1):=by
 unfold ovr
 apply List.map_congr_left
 intro i hi
 have hi:=List.mem_range.1 hi
 by_cases e:i=k
 ·subst e; rw[if_neg (Nat.lt_irrefl _),if_pos (by omega),h hi]
 ·by_cases h2:i<k
  ·rw[if_pos h2,if_pos (by omega)]
  ·rw[if_neg h2,if_neg (by omega)]
theorem qx0:qs1 Tryz.prog 70 yd8:=by
 refine w1t (x6t [17,22] (SpecsOk.cons (wo4 (fs:=[(130,x3d)]) (SpecsOk.cons w4f (SpecsOk.nil _))) (SpecsOk.nil _)) (MutsOk.cons wx0 MutsOk.nil)) Tryz.func70 rfl rfl (q1x [tInt]) (λT rows x=>x63 T rows x.1.toNat) (λ_ _ _=>by kernel_rfl) (by decide) ?_ rfl
 rintro T rows ⟨c,⟨⟩⟩ h -
 revert rows c
 intro(rows:List (List Int)) (c:Int) (h:0<=c/\∃W,qz8 rows c.toNat W)
 refine @qe1 _ (let Q0:=List Int; let Q1:=qp4.t xr3; ∃(v0:Unit),∃(v1:Nat × List Q0 × List Int),w4g rows c.toNat v1.1 v1.2.1 v1.2.2/\((True/\True/\(0:Int)=(↑v1.1:Int)/\True)/\(rows=v1.2.1/\True/\T=T)/\v1.2.2=[]/\True)/\∀(v2:Nat × List Q0 × List Int),w4g rows c.toNat v2.1 v2.2.1 v2.2.2->(decide ((↑v2.1:Int)<c)=true->∀(v5:Int),v5=(↑v2.2.2.length:Int)->((0:Int)<=v5/\v5<=(↑(qd9 v2.2.1.length none):Int)/\(↑(qd9 v2.2.1.length none):Int)<=(↑(qd9 v2.2.1.length none):Int))/\∃(v7:qa5 [Ty.list (Ty.int .i64)]->Prop),∃(v8:qa5 [Ty.list (Ty.int .i64)]->Bool),(∀(v9:List Int × qa5._f [] PUnit.unit),v7 v9->((0:PTy.den (PTy.cap tInt))<=(↑v2.1:Int)/\(↑v2.1:Int)<(↑v9.1.length:PTy.den (PTy.cap tInt)))/\(nI v9.1 (↑v2.1:Int).toNat != (0:Int))=v8 v9)/\((List.drop v5.toNat (List.take (↑(qd9 v2.2.1.length none):Int).toNat (q4c (Ty.int .i64) v2.2.1 none))).length<=(1000000:Nat)/\∀(v9:Nat),v9<(List.drop v5.toNat (List.take (↑(qd9 v2.2.1.length none):Int).toNat (q4c (Ty.int .i64) v2.2.1 none))).length->v7 (nL (List.drop v5.toNat (List.take (↑(qd9 v2.2.1.length none):Int).toNat (q4c (Ty.int .i64) v2.2.1 none))) v9,()))/\∀(v9:Int),v9=ixT (Ty.list (Ty.int .i64)) (λ(v11:List Int)=>v8 (v11,())) (List.drop v5.toNat (List.take (↑(qd9 v2.2.1.length none):Int).toNat (q4c (Ty.int .i64) v2.2.1 none)))->(decide (v9<(0:Int))=true->fits .i64 ((↑v2.1:Int)+(1:Int))/\∃(v12:Nat × List Q0 × List Int),w4g rows c.toNat v12.1 v12.2.1 v12.2.2/\c.toNat-v12.1<c.toNat-v2.1/\(True/\True/\(↑v2.1:Int)+(1:Int)=(↑v12.1:Int)/\True)/\(v2.2.1=v12.2.1/\True/\T=T)/\v2.2.2=v12.2.2/\True)/\(decide (v9<(0:Int))=false->fits .i64 (v5+v9)/\fits .i64 (v5+v9)/\((0:Int)<=v5+v9/\v5+v9<(↑(qd9 v2.2.1.length none):Int))/\(v5+v9).toNat<qd9 v2.2.1.length none/\((0:Int)<=v5/\v5<(↑(qd9 v2.2.1.length none):Int))/\v5.toNat<qd9 v2.2.1.length none/\((0:Int)<=v5/\v5<(↑(qd9 v2.2.1.length none):Int))/\v5.toNat<qd9 v2.2.1.length none/\((0:Int)<=v5+v9/\v5+v9<(↑(qd9 v2.2.1.length (some (List.set (ixL v2.2.1.length none) v5.toNat (qc9 none (v5+v9).toNat)))):Int))/\(v5+v9).toNat<qd9 v2.2.1.length (some (List.set (ixL v2.2.1.length none) v5.toNat (qc9 none (v5+v9).toNat)))/\((0:Int)<=v5/\v5<(↑(qd9 v2.2.1.length (some (List.set (ixL v2.2.1.length (some (List.set (ixL v2.2.1.length none) v5.toNat (qc9 none (v5+v9).toNat)))) (v5+v9).toNat (qc9 none v5.toNat)))):Int))/\v5.toNat<qd9 v2.2.1.length (some (List.set (ixL v2.2.1.length (some (List.set (ixL v2.2.1.length none) v5.toNat (qc9 none (v5+v9).toNat)))) (v5+v9).toNat (qc9 none v5.toNat)))/\((0:Int)<=(↑v2.1:Int)/\(↑v2.1:Int)<(↑(nL v2.2.1 (qc9 (some (List.set (ixL v2.2.1.length (some (List.set (ixL v2.2.1.length none) v5.toNat (qc9 none (v5+v9).toNat)))) (v5+v9).toNat (qc9 none v5.toNat))) v5.toNat)).length:Int))/\(↑v2.1:Int).toNat<(nL v2.2.1 (qc9 (some (List.set (ixL v2.2.1.length (some (List.set (ixL v2.2.1.length none) v5.toNat (qc9 none (v5+v9).toNat)))) (v5+v9).toNat (qc9 none v5.toNat))) v5.toNat)).length/\(decide (nI (nL v2.2.1 (qc9 (some (List.set (ixL v2.2.1.length (some (List.set (ixL v2.2.1.length none) v5.toNat (qc9 none (v5+v9).toNat)))) (v5+v9).toNat (qc9 none v5.toNat))) v5.toNat)) (↑v2.1:Int).toNat<(0:Int))=true->((0:Int)<=v5/\v5<(↑(qd9 v2.2.1.length (some (List.set (ixL v2.2.1.length (some (List.set (ixL v2.2.1.length none) v5.toNat (qc9 none (v5+v9).toNat)))) (v5+v9).toNat (qc9 none v5.toNat)))):Int))/\v5.toNat<qd9 v2.2.1.length (some (List.set (ixL v2.2.1.length (some (List.set (ixL v2.2.1.length none) v5.toNat (qc9 none (v5+v9).toNat)))) (v5+v9).toNat (qc9 none v5.toNat)))/\∃(v13:Nat × Nat × List Q0 × List Int),∃(v14:Nat × List Q0),xk4 v13.2.2.1 v13.2.1 v14.1 v14.2/\(List.Nodup (List.set (ixL v2.2.1.length (some (List.set (ixL v2.2.1.length none) v5.toNat (qc9 none (v5+v9).toNat)))) (v5+v9).toNat (qc9 none v5.toNat))/\(List.set (ixL v2.2.1.length (some (List.set (ixL v2.2.1.length none) v5.toNat (qc9 none (v5+v9).toNat)))) (v5+v9).toNat (qc9 none v5.toNat)).length=v2.2.1.length)/\((True/\True/\(0:Int)=(↑v14.1:Int)/\True)/\(q4c (Ty.int .i64) v2.2.1 (some (List.set (ixL v2.2.1.length (some (List.set (ixL v2.2.1.length none) v5.toNat (qc9 none (v5+v9).toNat)))) (v5+v9).toNat (qc9 none v5.toNat)))=v14.2/\True/\T=T)/\v2.2.2=v13.2.2.2/\((↑v2.1:Int)=(↑v13.1:Int)/\True)/\True/\True/\True/\True/\True/\True/\True/\True/\True/\True/\True/\True/\True/\True/\True/\True/\True/\True/\True/\True/\True/\True/\True/\True/\True/\True/\True/\True/\True)/\∀(v15:Nat × List Q0),xk4 v13.2.2.1 v13.2.1 v15.1 v15.2->(decide ((↑v15.1:Int)<(↑(nL v2.2.1 (qc9 (some (List.set (ixL v2.2.1.length (some (List.set (ixL v2.2.1.length none) v5.toNat (qc9 none (v5+v9).toNat)))) (v5+v9).toNat (qc9 none v5.toNat))) v5.toNat)).length:Int))=true->((0:Int)<=v5/\v5<(↑(qd9 v15.2.length none):Int))/\v5.toNat<qd9 v15.2.length none/\((0:Int)<=v5/\v5<(↑(qd9 v15.2.length none):Int))/\v5.toNat<qd9 v15.2.length none/\((0:Int)<=(↑v15.1:Int)/\(↑v15.1:Int)<(↑(nL v15.2 (qc9 none v5.toNat)).length:Int))/\(↑v15.1:Int).toNat<(nL v15.2 (qc9 none v5.toNat)).length/\fits .i64 ((0:Int)-nI (nL v15.2 (qc9 none v5.toNat)) (↑v15.1:Int).toNat)/\((0:Int)<=(↑v15.1:Int)/\(↑v15.1:Int)<(↑(nL v15.2 (qc9 none v5.toNat)).length:Int))/\(↑v15.1:Int).toNat<(nL v15.2 (qc9 none v5.toNat)).length/\fits .i64 ((↑v15.1:Int)+(1:Int))/\∃(v18:Nat × List Q0),xk4 v13.2.2.1 v13.2.1 v18.1 v18.2/\(nL v13.2.2.1 v13.2.1).length-v18.1<(nL v13.2.2.1 v13.2.1).length-v15.1/\(True/\True/\(↑v15.1:Int)+(1:Int)=(↑v18.1:Int)/\True)/\(List.set v15.2 (qc9 none v5.toNat) (List.set (nL v15.2 (qc9 none v5.toNat)) (↑v15.1:Int).toNat ((0:Int)-nI (nL v15.2 (qc9 none v5.toNat)) (↑v15.1:Int).toNat))=v18.2/\True/\T=T)/\v13.2.2.2=v13.2.2.2/\((↑v13.1:Int)=(↑v13.1:Int)/\True)/\True/\True/\True/\True/\True/\True/\True/\True/\True/\True/\True/\True/\True/\True/\True/\True/\True/\True/\True/\True/\True/\True/\True/\True/\True/\True/\True/\True/\True)/\(decide ((↑v15.1:Int)<(↑(nL v2.2.1 (qc9 (some (List.set (ixL v2.2.1.length (some (List.set (ixL v2.2.1.length none) v5.toNat (qc9 none (v5+v9).toNat)))) (v5+v9).toNat (qc9 none v5.toNat))) v5.toNat)).length:Int))=false->∃(v18:Nat × Nat × List Q0 × List Int),∃(v19:Nat × List Q0),q7l v18.2.2.1 v18.2.1 v18.1 v19.1 v19.2/\((True/\True/\True/\(0:Int)=(↑v19.1:Int)/\True)/\(v15.2=v19.2/\True/\T=T)/\v13.2.2.2=v18.2.2.2/\((↑v13.1:Int)=(↑v18.1:Int)/\True)/\True/\True/\True/\True/\True/\True/\True/\True/\True/\True/\True/\True/\True/\True/\True/\True/\True/\True/\True/\True/\True/\True/\True/\True/\True/\True/\True/\True/\True)/\∀(v20:Nat × List Q0),q7l v18.2.2.1 v18.2.1 v18.1 v20.1 v20.2->(decide ((↑v20.1:Int)<(↑(qd9 v15.2.length none):Int))=true->((0:Int)<=(↑v20.1:Int)/\(↑v20.1:Int)<(↑(qd9 v20.2.length none):Int))/\(↑v20.1:Int).toNat<qd9 v20.2.length none/\(((↑v20.1:Int) != v5)=true->((0:Int)<=(↑v18.1:Int)/\(↑v18.1:Int)<(↑(nL v20.2 (qc9 none (↑v20.1:Int).toNat)).length:Int))/\(↑v18.1:Int).toNat<(nL v20.2 (qc9 none (↑v20.1:Int).toNat)).length/\((nI (nL v20.2 (qc9 none (↑v20.1:Int).toNat)) (↑v18.1:Int).toNat != (0:Int))=true->((0:Int)<=v5/\v5<(↑(qd9 v20.2.length none):Int))/\v5.toNat<qd9 v20.2.length none/\qc9 none v5.toNat≠qc9 none (↑v20.1:Int).toNat/\((0:Ty.den tInt)<=(↑v18.1:Int)/\wo2 (nL [qd4 (Ty.list Q1) v20.2 (qc9 none (↑v20.1:Int).toNat)] (0:Nat)) (nL v20.2 (qc9 none v5.toNat)) (↑v18.1:Int).toNat)/\fits .i64 ((↑v20.1:Int)+(1:Int))/\∃(v25:Nat × List Q0),q7l v18.2.2.1 v18.2.1 v18.1 v25.1 v25.2/\v18.2.2.1.length-v25.1<v18.2.2.1.length-v20.1/\(True/\True/\True/\(↑v20.1:Int)+(1:Int)=(↑v25.1:Int)/\True)/\(List.set v20.2 (qc9 none (↑v20.1:Int).toNat) (qd4 (Ty.list Q1) [qw8 (nL [qd4 (Ty.list Q1) v20.2 (qc9 none (↑v20.1:Int).toNat)] (0:Nat)) (nL v20.2 (qc9 none v5.toNat)) (↑v18.1:Int).toNat] (0:Nat))=v25.2/\True/\T=T)/\v18.2.2.2=v18.2.2.2/\((↑v18.1:Int)=(↑v18.1:Int)/\True)/\True/\True/\True/\True/\True/\True/\True/\True/\True/\True/\True/\True/\True/\True/\True/\True/\True/\True/\True/\True/\True/\True/\True/\True/\True/\True/\True/\True/\True)/\((nI (nL v20.2 (qc9 none (↑v20.1:Int).toNat)) (↑v18.1:Int).toNat != (0:Int))=false->fits .i64 ((↑v20.1:Int)+(1:Int))/\∃(v25:Nat × List Q0),q7l v18.2.2.1 v18.2.1 v18.1 v25.1 v25.2/\v18.2.2.1.length-v25.1<v18.2.2.1.length-v20.1/\(True/\True/\True/\(↑v20.1:Int)+(1:Int)=(↑v25.1:Int)/\True)/\(v20.2=v25.2/\True/\T=T)/\v18.2.2.2=v18.2.2.2/\((↑v18.1:Int)=(↑v18.1:Int)/\True)/\True/\True/\True/\True/\True/\True/\True/\True/\True/\True/\True/\True/\True/\True/\True/\True/\True/\True/\True/\True/\True/\True/\True/\True/\True/\True/\True/\True/\True))/\(((↑v20.1:Int) != v5)=false->fits .i64 ((↑v20.1:Int)+(1:Int))/\∃(v24:Nat × List Q0),q7l v18.2.2.1 v18.2.1 v18.1 v24.1 v24.2/\v18.2.2.1.length-v24.1<v18.2.2.1.length-v20.1/\(True/\True/\True/\(↑v20.1:Int)+(1:Int)=(↑v24.1:Int)/\True)/\(v20.2=v24.2/\True/\T=T)/\v18.2.2.2=v18.2.2.2/\((↑v18.1:Int)=(↑v18.1:Int)/\True)/\True/\True/\True/\True/\True/\True/\True/\True/\True/\True/\True/\True/\True/\True/\True/\True/\True/\True/\True/\True/\True/\True/\True/\True/\True/\True/\True/\True/\True))/\(decide ((↑v20.1:Int)<(↑(qd9 v15.2.length none):Int))=false->((0:Nat)<List.length [(↑v18.1:Int)]/\Nat.le (v18.2.2.2.length+List.length [(↑v18.1:Int)]) (1000000:Nat))/\fits .i64 ((↑v2.1:Int)+(1:Int))/\∃(v23:Nat × List Q0 × List Int),w4g rows c.toNat v23.1 v23.2.1 v23.2.2/\c.toNat-v23.1<c.toNat-v2.1/\(True/\True/\(↑v2.1:Int)+(1:Int)=(↑v23.1:Int)/\True)/\(v20.2=v23.2.1/\True/\T=T)/\v18.2.2.2++[(↑v18.1:Int)]=v23.2.2/\True)))/\(decide (nI (nL v2.2.1 (qc9 (some (List.set (ixL v2.2.1.length (some (List.set (ixL v2.2.1.length none) v5.toNat (qc9 none (v5+v9).toNat)))) (v5+v9).toNat (qc9 none v5.toNat))) v5.toNat)) (↑v2.1:Int).toNat<(0:Int))=false->∃(v13:Nat × Nat × List Q0 × List Int),∃(v14:Nat × List Q0),q7l v13.2.2.1 v13.2.1 v13.1 v14.1 v14.2/\(List.Nodup (List.set (ixL v2.2.1.length (some (List.set (ixL v2.2.1.length none) v5.toNat (qc9 none (v5+v9).toNat)))) (v5+v9).toNat (qc9 none v5.toNat))/\(List.set (ixL v2.2.1.length (some (List.set (ixL v2.2.1.length none) v5.toNat (qc9 none (v5+v9).toNat)))) (v5+v9).toNat (qc9 none v5.toNat)).length=v2.2.1.length)/\((True/\True/\True/\(0:Int)=(↑v14.1:Int)/\True)/\(q4c (Ty.int .i64) v2.2.1 (some (List.set (ixL v2.2.1.length (some (List.set (ixL v2.2.1.length none) v5.toNat (qc9 none (v5+v9).toNat)))) (v5+v9).toNat (qc9 none v5.toNat)))=v14.2/\True/\T=T)/\v2.2.2=v13.2.2.2/\((↑v2.1:Int)=(↑v13.1:Int)/\True)/\True/\True/\True/\True/\True/\True/\True/\True/\True/\True/\True/\True/\True/\True/\True/\True/\True/\True/\True/\True/\True/\True/\True/\True/\True/\True/\True/\True/\True)/\∀(v15:Nat × List Q0),q7l v13.2.2.1 v13.2.1 v13.1 v15.1 v15.2->(decide ((↑v15.1:Int)<(↑(qd9 v2.2.1.length (some (List.set (ixL v2.2.1.length (some (List.set (ixL v2.2.1.length none) v5.toNat (qc9 none (v5+v9).toNat)))) (v5+v9).toNat (qc9 none v5.toNat)))):Int))=true->((0:Int)<=(↑v15.1:Int)/\(↑v15.1:Int)<(↑(qd9 v15.2.length none):Int))/\(↑v15.1:Int).toNat<qd9 v15.2.length none/\(((↑v15.1:Int) != v5)=true->((0:Int)<=(↑v13.1:Int)/\(↑v13.1:Int)<(↑(nL v15.2 (qc9 none (↑v15.1:Int).toNat)).length:Int))/\(↑v13.1:Int).toNat<(nL v15.2 (qc9 none (↑v15.1:Int).toNat)).length/\((nI (nL v15.2 (qc9 none (↑v15.1:Int).toNat)) (↑v13.1:Int).toNat != (0:Int))=true->((0:Int)<=v5/\v5<(↑(qd9 v15.2.length none):Int))/\v5.toNat<qd9 v15.2.length none/\qc9 none v5.toNat≠qc9 none (↑v15.1:Int).toNat/\((0:Ty.den tInt)<=(↑v13.1:Int)/\wo2 (nL [qd4 (Ty.list Q1) v15.2 (qc9 none (↑v15.1:Int).toNat)] (0:Nat)) (nL v15.2 (qc9 none v5.toNat)) (↑v13.1:Int).toNat)/\fits .i64 ((↑v15.1:Int)+(1:Int))/\∃(v20:Nat × List Q0),q7l v13.2.2.1 v13.2.1 v13.1 v20.1 v20.2/\v13.2.2.1.length-v20.1<v13.2.2.1.length-v15.1/\(True/\True/\True/\(↑v15.1:Int)+(1:Int)=(↑v20.1:Int)/\True)/\(List.set v15.2 (qc9 none (↑v15.1:Int).toNat) (qd4 (Ty.list Q1) [qw8 (nL [qd4 (Ty.list Q1) v15.2 (qc9 none (↑v15.1:Int).toNat)] (0:Nat)) (nL v15.2 (qc9 none v5.toNat)) (↑v13.1:Int).toNat] (0:Nat))=v20.2/\True/\T=T)/\v13.2.2.2=v13.2.2.2/\((↑v13.1:Int)=(↑v13.1:Int)/\True)/\True/\True/\True/\True/\True/\True/\True/\True/\True/\True/\True/\True/\True/\True/\True/\True/\True/\True/\True/\True/\True/\True/\True/\True/\True/\True/\True/\True/\True)/\((nI (nL v15.2 (qc9 none (↑v15.1:Int).toNat)) (↑v13.1:Int).toNat != (0:Int))=false->fits .i64 ((↑v15.1:Int)+(1:Int))/\∃(v20:Nat × List Q0),q7l v13.2.2.1 v13.2.1 v13.1 v20.1 v20.2/\v13.2.2.1.length-v20.1<v13.2.2.1.length-v15.1/\(True/\True/\True/\(↑v15.1:Int)+(1:Int)=(↑v20.1:Int)/\True)/\(v15.2=v20.2/\True/\T=T)/\v13.2.2.2=v13.2.2.2/\((↑v13.1:Int)=(↑v13.1:Int)/\True)/\True/\True/\True/\True/\True/\True/\True/\True/\True/\True/\True/\True/\True/\True/\True/\True/\True/\True/\True/\True/\True/\True/\True/\True/\True/\True/\True/\True/\True))/\(((↑v15.1:Int) != v5)=false->fits .i64 ((↑v15.1:Int)+(1:Int))/\∃(v19:Nat × List Q0),q7l v13.2.2.1 v13.2.1 v13.1 v19.1 v19.2/\v13.2.2.1.length-v19.1<v13.2.2.1.length-v15.1/\(True/\True/\True/\(↑v15.1:Int)+(1:Int)=(↑v19.1:Int)/\True)/\(v15.2=v19.2/\True/\T=T)/\v13.2.2.2=v13.2.2.2/\((↑v13.1:Int)=(↑v13.1:Int)/\True)/\True/\True/\True/\True/\True/\True/\True/\True/\True/\True/\True/\True/\True/\True/\True/\True/\True/\True/\True/\True/\True/\True/\True/\True/\True/\True/\True/\True/\True))/\(decide ((↑v15.1:Int)<(↑(qd9 v2.2.1.length (some (List.set (ixL v2.2.1.length (some (List.set (ixL v2.2.1.length none) v5.toNat (qc9 none (v5+v9).toNat)))) (v5+v9).toNat (qc9 none v5.toNat)))):Int))=false->((0:Nat)<List.length [(↑v13.1:Int)]/\Nat.le (v13.2.2.2.length+List.length [(↑v13.1:Int)]) (1000000:Nat))/\fits .i64 ((↑v2.1:Int)+(1:Int))/\∃(v18:Nat × List Q0 × List Int),w4g rows c.toNat v18.1 v18.2.1 v18.2.2/\c.toNat-v18.1<c.toNat-v2.1/\(True/\True/\(↑v2.1:Int)+(1:Int)=(↑v18.1:Int)/\True)/\(v15.2=v18.2.1/\True/\T=T)/\v13.2.2.2++[(↑v13.1:Int)]=v18.2.2/\True))))/\(decide ((↑v2.1:Int)<c)=false->v2.2.1=(qa4 rows c.toNat).1/\T=T/\True/\v2.2.2=(qa4 rows c.toNat).2)) (by kernel_rfl) ?_
 try simp only[z0,z1,z2,z3,z4,z5,z6,z7,z8,z9,z10,Int.reduceEq,z11,z12,z13,z14,z15,z16,z17,z18,z19,z20,z21,z22,z23,z24,z25,z26,z27,z28,z29,z30,Int.reduceLE,Int.reduceLT,z31,z32,z33,z34,qa3]
 try simp only[qb5,qb6,qd0,z31,z32,z2,z1]
 simp only[qw9,w4h,xk5,xk6,q08,w8h,wo8,w8i,List.length_set,List.length_range,List.take_length]
 obtain⟨hc0,W,hR⟩:=h
 have hRn:=hR.n
 have hRw:=hR.w
 refine⟨(),(0,rows,[]),⟨Nat.zero_le _,rfl⟩,⟨rfl,rfl,rfl⟩,?_⟩
 rintro⟨j,r0,piv⟩ ⟨hjc,hj⟩
 dsimp only at hjc hj ⊢
 have hsh:=qs7 hR j
 rw[hj] at hsh
 have hn:=hsh.cnt
 have hpn:=hsh.piv
 have hpj:=hsh.pivj
 dsimp only at hn hpn hpj
 refine⟨λhlt=>?_,λhge=>?_⟩
 ·have hjl:j<c.toNat:=by omega
  have hjW:j<W:=by have:=hR.cw; omega
  rintro k rfl
  have he:=hsh.each
  dsimp only at he
  have hdrop:∀q,q<(r0.drop piv.length).length->j<(nL (r0.drop piv.length) q).length:=λq hq=>by
   rw[List.length_drop] at hq
   have e:nL (r0.drop piv.length) q=nL r0 (piv.length+q):=by
    rw[qp9 _ _ (by rw[List.length_drop]; exact hq),qp9 _ _ (by omega)]; simp
   rw[e,he _ (by omega)]; exact hjW
  simp only[Int.toNat_natCast]
  refine⟨⟨by omega,by omega,Nat.le_refl _⟩,λx=>j<x.1.length,λx=>nI x.1 j != 0,λx hx=>⟨hx,rfl⟩,⟨by rw[List.length_drop]; omega,hdrop⟩,?_⟩
  rintro a ha
  have ha:a=qs6 r0 piv.length j:=ha
  subst ha
  refine⟨λhneg=>?_,λhpos=>?_⟩
  ·refine⟨qa9 (by omega) (by omega),(j+1,r0,piv),⟨by dsimp only; omega,?_⟩,by dsimp only; omega,by dsimp only; omega,rfl,rfl⟩
   rw[qa4,hj,qw0,if_pos hneg]
  have hb:=q18 r0 piv.length j (by omega) hpos
  have hso:xr7 r0 piv.length j:=by have:=hR.step j hjl; rw[hj] at this; exact this hpos
  have hse:=q7m (W:=W) (by omega) hpos (λi hi=>he i (by omega))
  have hpe:=q19 (W:=W) (by omega) hpos (λi hi=>he i (by omega))
  have hab:((piv.length:Int)+qs6 r0 piv.length j).toNat=piv.length+(qs6 r0 piv.length j).toNat:=by omega
  simp only[hab]
  have hgd:=xk7 r0.length piv.length (piv.length+(qs6 r0 piv.length j).toNat) (by omega) hb
  have hmap:=xy0 r0 piv.length (piv.length+(qs6 r0 piv.length j).toNat) (by omega) hb
  have hnd:=w8j r0.length piv.length (piv.length+(qs6 r0 piv.length j).toNat) (by omega) hb
  have hk1:nL (q17 r0 piv.length j) piv.length=nL r0 (piv.length+(qs6 r0 piv.length j).toNat):=by
   unfold q17
   rw[q3t _ _ _ (by omega) hb _ (by omega)]
   split
   ·rename_i e; rw[<- e]
   ·rw[if_pos rfl]
  simp only[hgd,hmap]
  rw[<- hk1]
  have hsl:=q56 r0 piv.length j
  have hkW:=hse piv.length (by omega)
  refine⟨qa9 (by omega) (by omega),qa9 (by omega) (by omega),by omega,by omega,by omega,by omega,by omega,by omega,by omega,by omega,by omega,by omega,by omega,by omega,λhng=>?_,λhng=>?_⟩
  ·refine⟨by omega,by omega,(j,piv.length,q17 r0 piv.length j,piv),(0,q17 r0 piv.length j),⟨Nat.zero_le _,?_⟩,⟨hnd,trivial⟩,⟨rfl,rfl,rfl,rfl⟩,?_⟩
   ·dsimp only
    have e:ovr (.int .i64) (λq=>0-nI (nL (q17 r0 piv.length j) piv.length) q) (nL (q17 r0 piv.length j) piv.length) 0=nL (q17 r0 piv.length j) piv.length:=q1y (.int .i64) _ _
    rw[e,qp9 _ _ (by omega),List.set_getElem_self]
   rintro⟨i,r⟩ ⟨hi1,hi2⟩
   dsimp only at hi1 hi2 ⊢
   have hrl:r.length=r0.length:=by rw[hi2,List.length_set,hsl]
   have hrk:nL r piv.length=ovr (.int .i64) (λq=>0-nI (nL (q17 r0 piv.length j) piv.length) q) (nL (q17 r0 piv.length j) piv.length) i:=by
    rw[hi2,wh4 _ _ _ _ (by omega),if_pos rfl]
   have hrkl:(nL r piv.length).length=W:=by rw[hrk,qt7]; exact hkW
   refine⟨λhlt=>?_,λhge=>?_⟩
   ·have hv:nI (nL r piv.length) i=nI (nL (q17 r0 piv.length j) piv.length) i:=by
     rw[hrk]
     exact(q69 (.int .i64) _ _ _ _ hlt).trans (if_neg (Nat.lt_irrefl _))
    have hbd:qd6 BIG (nI (nL (q17 r0 piv.length j) piv.length) i):=hso.neg _ (by rw[qg1 _ i hlt]; exact List.getElem_mem hlt)
    unfold qd6 BIG at hbd
    rw[hv]
    refine⟨by omega,by omega,by omega,by omega,by omega,by omega,qa9 (by omega) (by omega),by omega,by omega,qa9 (by omega) (by omega),(i+1,r.set piv.length ((nL r piv.length).set i (0-nI (nL (q17 r0 piv.length j) piv.length) i))),⟨by dsimp only; omega,?_⟩,by dsimp only; omega,by dsimp only; omega,rfl⟩
    dsimp only
    have e:=qz5 (.int .i64) (λq=>0-nI (nL (q17 r0 piv.length j) piv.length) q) (nL (q17 r0 piv.length j) piv.length) i
    rw[hrk]
    refine(congrArg (r.set piv.length) e).trans ?_
    rw[hi2,List.set_set]
   ·have hprep:r=qj3 r0 piv.length j:=by
     unfold qj3
     rw[if_pos hng,hi2]
     refine congrArg _ ?_
     exact q4m (.int .i64) _ _ _ (by omega)
    refine⟨(j,piv.length,qj3 r0 piv.length j,piv),(0,qj3 r0 piv.length j),⟨Nat.zero_le _,(q1y (.list (.int .i64)) _ _).symm⟩,⟨rfl,hprep,rfl,rfl⟩,?_⟩
    rw[hprep,qj1]
    rintro⟨i,r⟩ ⟨hi1,hi2⟩
    dsimp only at hi1 hi2 ⊢
    have hpl:=qj1 r0 piv.length j
    have hrl:r.length=r0.length:=by rw[hi2,qt7,qj1]
    have hi1:i<=r0.length:=by rw[qj1] at hi1; exact hi1
    have hat:∀q,q<r0.length->nL r q=if q<i then wj7 (qj3 r0 piv.length j) piv.length j q else nL (qj3 r0 piv.length j) q:=λq hq=>by
     rw[hi2]; exact q69 (.list (.int .i64)) _ _ _ _ (by rw[qj1]; exact hq)
    have hk2:nL r piv.length=nL (qj3 r0 piv.length j) piv.length:=by
     rw[hat _ (by omega)]
     split
     ·exact q3v _ _ _
     ·rfl
    refine⟨λhlt=>?_,λhge=>?_⟩
    ·have hlt:i<r0.length:=by omega
     have hri:nL r i=nL (qj3 r0 piv.length j) i:=by rw[hat i hlt,if_neg (Nat.lt_irrefl _)]
     have hw:=hpe i hlt
     refine⟨by omega,by omega,λhne=>⟨by rw[hri]; omega,by rw[hri]; omega,λhnz=>?_,λhz=>?_⟩,λheq=>?_⟩
     ·rw[hri] at hnz
      have hne:i≠piv.length:=by omega
      have hcl:=hso.clr i hlt hne hnz
      have hcr:wj7 (qj3 r0 piv.length j) piv.length j i=qw8 (nL r i) (nL r piv.length) j:=by
       unfold wj7; rw[if_pos ⟨hne,hnz⟩,hri,hk2]
      refine⟨by omega,by omega,by omega,?_,qa9 (by omega) (by omega),(i+1,r.set i (qw8 (nL r i) (nL r piv.length) j)),⟨by dsimp only; omega,?_⟩,by dsimp only; omega,by dsimp only; omega,rfl⟩
      ·show wo2 (nL r i) (nL r piv.length) j
       rw[hri,hk2]; exact hcl
      ·dsimp only
       rw[<- hcr,hi2]
       exact qz5 (.list (.int .i64)) _ _ _
     ·refine⟨qa9 (by omega) (by omega),(i+1,r),⟨by dsimp only; omega,?_⟩,by dsimp only; omega,by dsimp only; omega,rfl⟩
      dsimp only
      rw[hi2]
      refine q57 (.list (.int .i64)) _ _ _ λ_=>?_
      unfold wj7
      rw[if_neg]
      ·rfl
      ·intro h2
       rw[hri] at hz
       exact h2.2 hz
     ·refine⟨qa9 (by omega) (by omega),(i+1,r),⟨by dsimp only; omega,?_⟩,by dsimp only; omega,by dsimp only; omega,rfl⟩
      dsimp only
      rw[hi2]
      refine q57 (.list (.int .i64)) _ _ _ λ_=>?_
      have e:i=piv.length:=by omega
      rw[e]
      exact q3v _ _ _
    ·obtain rfl:i=r0.length:=by omega
     refine⟨by omega,qa9 (by omega) (by omega),(j+1,r,piv++[(j:Int)]),⟨by omega,?_⟩,by dsimp only; omega,by dsimp only; omega,rfl,rfl⟩
     rw[qa4,hj,qw0,if_neg (by dsimp only; omega),hi2]
     refine congrArg (·,_) ?_
     rw[<- qj1 r0 piv.length j]
     exact(q4m (.list (.int .i64)) _ _ _ (Nat.le_refl _)).symm
  ·have hprep:q17 r0 piv.length j=qj3 r0 piv.length j:=by unfold qj3; rw[if_neg (by omega)]
   refine⟨(j,piv.length,qj3 r0 piv.length j,piv),(0,qj3 r0 piv.length j),⟨Nat.zero_le _,(q1y (.list (.int .i64)) _ _).symm⟩,⟨hnd,trivial⟩,⟨rfl,hprep,rfl,rfl⟩,?_⟩
   rintro⟨i,r⟩ ⟨hi1,hi2⟩
   dsimp only at hi1 hi2 ⊢
   have hpl:=qj1 r0 piv.length j
   have hrl:r.length=r0.length:=by rw[hi2,qt7,qj1]
   have hi1:i<=r0.length:=by rw[qj1] at hi1; exact hi1
   have hat:∀q,q<r0.length->nL r q=if q<i then wj7 (qj3 r0 piv.length j) piv.length j q else nL (qj3 r0 piv.length j) q:=λq hq=>by
    rw[hi2]; exact q69 (.list (.int .i64)) _ _ _ _ (by rw[qj1]; exact hq)
   have hk2:nL r piv.length=nL (qj3 r0 piv.length j) piv.length:=by
    rw[hat _ (by omega)]
    split
    ·exact q3v _ _ _
    ·rfl
   refine⟨λhlt=>?_,λhge=>?_⟩
   ·have hlt:i<r0.length:=by omega
    have hri:nL r i=nL (qj3 r0 piv.length j) i:=by rw[hat i hlt,if_neg (Nat.lt_irrefl _)]
    have hw:=hpe i hlt
    refine⟨by omega,by omega,λhne=>⟨by rw[hri]; omega,by rw[hri]; omega,λhnz=>?_,λhz=>?_⟩,λheq=>?_⟩
    ·rw[hri] at hnz
     have hne:i≠piv.length:=by omega
     have hcl:=hso.clr i hlt hne hnz
     have hcr:wj7 (qj3 r0 piv.length j) piv.length j i=qw8 (nL r i) (nL r piv.length) j:=by
      unfold wj7; rw[if_pos ⟨hne,hnz⟩,hri,hk2]
     refine⟨by omega,by omega,by omega,?_,qa9 (by omega) (by omega),(i+1,r.set i (qw8 (nL r i) (nL r piv.length) j)),⟨by dsimp only; omega,?_⟩,by dsimp only; omega,by dsimp only; omega,rfl⟩
     ·show wo2 (nL r i) (nL r piv.length) j
      rw[hri,hk2]; exact hcl
     ·dsimp only
      rw[<- hcr,hi2]
      exact qz5 (.list (.int .i64)) _ _ _
    ·refine⟨qa9 (by omega) (by omega),(i+1,r),⟨by dsimp only; omega,?_⟩,by dsimp only; omega,by dsimp only; omega,rfl⟩
     dsimp only
     rw[hi2]
     refine q57 (.list (.int .i64)) _ _ _ λ_=>?_
     unfold wj7
     rw[if_neg]
     ·rfl
     ·intro h2
      rw[hri] at hz
      exact h2.2 hz
    ·refine⟨qa9 (by omega) (by omega),(i+1,r),⟨by dsimp only; omega,?_⟩,by dsimp only; omega,by dsimp only; omega,rfl⟩
     dsimp only
     rw[hi2]
     refine q57 (.list (.int .i64)) _ _ _ λ_=>?_
     have e:i=piv.length:=by omega
     rw[e]
     exact q3v _ _ _
   ·obtain rfl:i=r0.length:=by omega
    refine⟨by omega,qa9 (by omega) (by omega),(j+1,r,piv++[(j:Int)]),⟨by omega,?_⟩,by dsimp only; omega,by dsimp only; omega,rfl,rfl⟩
    rw[qa4,hj,qw0,if_neg (by dsimp only; omega),hi2]
    refine congrArg (·,_) ?_
    rw[<- qj1 r0 piv.length j]
    exact(q4m (.list (.int .i64)) _ _ _ (Nat.le_refl _)).symm
 ·obtain rfl:j=c.toNat:=by omega
  rw[hj]
  exact⟨rfl,rfl⟩
end Go.Proofs.YtmijnbjlhnpokaaGreat
