/- Rows with chosen columns: contracts by the engine. No condition. -/
import Derived.Test.YtempacilejhbgaaGreatDoorV4
set_option linter.unusedVariables false
set_option linter.unusedSimpArgs false
namespace Go.Proofs.YtempacilejhbgaaGreatDoor
open Go Go.RowKit Eng
def xs5 (l:List Int):Bool:=(List.range l.length).all λi=>decide (i=0) || decide (nI l (i-1)<nI l i)
def x0s (n:Int) (l:List Int):Int:=if xs5 l=false then 7 else if l.any (λp=>!(inB p 0 (n-1))) then 5 else 0
theorem wy0 {l:List Int}:xs5 l=true↔∀i,0<i->i<l.length->nI l (i-1)<nI l i:=by
 unfold xs5
 rw[List.all_eq_true]
 constructor
 ·intro h i h0 hi
  have:=h i (List.mem_range.2 hi)
  simp only[Bool.or_eq_true,decide_eq_true_eq] at this
  exact this.resolve_left (by omega)
 ·intro h i hi
  simp only[Bool.or_eq_true,decide_eq_true_eq]
  by_cases e:i=0
  ·exact .inl e
  ·exact .inr (h i (by omega) (List.mem_range.1 hi))
structure AscTo (l:List Int) (k:Nat):Prop where
 le:k<=l.length
 lt:∀i,0<i->i<k->nI l (i-1)<nI l i
theorem AscTo.step {l:List Int} {k:Nat} (h:AscTo l k) (hk:k<l.length) (h1:k=0\/nI l (k-1)<nI l k):AscTo l (k+1):=
 ⟨hk,λi h0 hi=>by
  by_cases e:i=k
  ·subst e; exact h1.resolve_left (by omega)
  ·exact h.lt i h0 (by omega)⟩
theorem AscTo.all {l:List Int} (h:AscTo l l.length):xs5 l=true:=wy0.2 h.lt
structure Mk (m:List (List Int)):Prop where
 rows1:1<=m.length
 rows6:m.length<=6
 each:∀i,i<m.length->(nL m i).length=(nL m 0).length
 pix1:1<=(nL m 0).length
 pix10:(nL m 0).length<=10
 small:∀i,i<m.length->∀j,j<(nL m 0).length->-1<=nI (nL m i) j/\nI (nL m i) j<=1
theorem Mk.of {m:List (List Int)} (h:validB m=true):Mk m:=by
 unfold validB at h
 rw[Bool.and_eq_true,inB_iff,List.all_eq_true] at h
 obtain⟨h1,h2⟩:=h
 have each:∀i,i<m.length->(nL m i).length=(nL m 0).length/\rowB (nL m i)=true:=λi hi=>by
  have:=h2 (nL m i) (by unfold nL; rw[qu7 (t:=tInts) m i hi]; exact List.getElem_mem hi)
  rw[Bool.and_eq_true,decide_eq_true_eq] at this
  exact this
 have hr:∀i,i<m.length->(1<=(nL m i).length/\(nL m i).length<=10)/\∀j,j<(nL m i).length->-1<=nI (nL m i) j/\nI (nL m i) j<=1:=λi hi=>by
  have:=(each i hi).2
  unfold rowB at this
  rw[Bool.and_eq_true,inB_iff,List.all_eq_true] at this
  refine⟨by omega,λj hj=>inB_iff.1 (this.2 _ ?_)⟩
  unfold nI; rw[qu7 (t:=tInt) _ j hj]; exact List.getElem_mem hj
 have h0:=hr 0 (by omega)
 exact⟨by omega,by omega,λi hi=>(each i hi).1,h0.1.1,h0.1.2,λi hi j hj=>(hr i hi).2 j (by rw[(each i hi).1]; exact hj)⟩
def xd5 (m:List (List Int)) (l:List Int):Int:=if validB m=false then 1 else x0s (nL m 0).length l
def x0t (y:List Int):Bool:=y.any λn=>!(inB n (0-1000000) 1000000)
def x2u (m:List (List Int)) (y l:List Int):Int:=if validB m=false then 1 else if ¬y.length=m.length then 9 else if x0t y then 7 else xd5 m l
structure w7l (m:List (List Int)):Prop where
 rows:m.length<=9223372036854775807
 each:∀i,i<m.length->(nL m i).length<=9223372036854775807
structure RowTo (l:List Int) (k:Nat):Prop where
 le:k<=l.length
 ok:∀i,i<k->inB (nI l i) (-1) 1=true
def xs6 (l:List Int):Nat->Option Inv
 | 0=>some (Inv.of [7] 0 (λk:Nat=>[(7,.lit (.int .i64 k))]) (λ_=>[]) (λk=>RowTo l k) (λk=>l.length-k))
 | _=>none
theorem w5f {l:List Int} {k:Nat} (hk:k<l.length) (h:inB (nI l k) (-1) 1=false):rowB l=false:=by
 cases e:rowB l with
 | false=>rfl
 | true=>
  unfold rowB at e
  rw[Bool.and_eq_true,List.all_eq_true] at e
  have:=e.2 (nI l k) (by rw[qg4 l k hk]; exact List.getElem_mem hk)
  rw[h] at this; cases this
theorem RowTo.all {l:List Int} (h:RowTo l l.length):(l.all λn=>inB n (-1) 1)=true:=by
 rw[List.all_eq_true]
 intro x hx
 obtain⟨i,hi,rfl⟩:=List.getElem_of_mem hx
 rw[<- qg4 l i hi]; exact h.ok i hi
abbrev x0u:qb9:=qg6 true none [tInts] [.bool] (λx=>x.1.length<=9223372036854775807) (λx=>(rowB x.1,()))
theorem w15:Meets Tryz.prog 55 x0u:=by
 refine meets (snd (SpecsOk.cons q25 (SpecsOk.nil _))) Tryz.func55 rfl rfl (λx=>xs6 x.1) (λ_=>by kernel_rfl) (by decide) ?_
 rintro⟨l,⟨⟩⟩ h
 revert l
 intro(l:List Int) (h:l.length<=9223372036854775807)
 refine @qe7 _ (∃(v0:Unit),∃(v1:Nat),RowTo l v1/\(((0:Int)=(↑v1:Int)/\True)/\True)/\∀(v2:Nat),RowTo l v2->(decide ((↑v2:Int)<(↑l.length:Int))=true->((0:Int)<=(↑v2:Int)/\(↑v2:Int)<(↑l.length:Int))/\True/\((!inB (nI l v2) (-1:Int) (1:Int))=true->false=rowB l)/\((!inB (nI l v2) (-1:Int) (1:Int))=false->fits .i64 ((↑v2:Int)+(1:Int))/\∃(v6:Nat),RowTo l v6/\l.length-v6<l.length-v2/\((↑v2:Int)+(1:Int)=(↑v6:Int)/\True)/\True))/\(decide ((↑v2:Int)<(↑l.length:Int))=false->True/\inB (↑l.length:Int) (1:Int) (10:Int)=rowB l)) (by kernel_rfl) ?_
 try simp only[z0,z1,z2,z3,z4,z5,z6,z7,z8,z9,z10,Int.reduceEq,z11,z12,z13,z14,z15,z16,z17,z18,z19,z20,z21,z22,z23,z24,z25,z26,z27,z28,z29,z30,Int.reduceLE,Int.reduceLT,z31,z32,z33,z34,qa3]
 try simp only[qb6,qb7,qc7,z31,z32,z2,z1]
 refine⟨(),0,⟨Nat.zero_le _,λi hi=>by omega⟩,rfl,λk hk=>⟨λhlt=>⟨hlt,λh1=>(w5f hlt h1).symm,λh1=>⟨qa7 (by omega) (by omega),k+1,⟨hlt,λi hi=>?_⟩,by omega,by omega⟩⟩,λhge=>?_⟩⟩
 ·by_cases e:i=k
  ·subst e; exact h1
  ·exact hk.ok i (by omega)
 ·obtain rfl:k=l.length:=by have:=hk.le; omega
  rw[rowB,hk.all,Bool.and_true]
structure xw9 (m:List (List Int)) (k:Nat):Prop where
 le:k<=m.length
 ok:∀i,i<k->rowB (nL m i)=true/\(nL m i).length=(nL m 0).length
def x4s (m:List (List Int)):Nat->Option Inv
 | 0=>some (Inv.of [7] 0 (λk:Nat=>[(7,.lit (.int .i64 k))]) (λ_=>[]) (λk=>xw9 m k) (λk=>m.length-k))
 | _=>none
theorem q56 {m:List (List Int)} {k:Nat} (hk:k<m.length) (h:rowB (nL m k)=false\/¬(nL m k).length=(nL m 0).length):validB m=false:=by
 cases e:validB m with
 | false=>rfl
 | true=>
  unfold validB at e
  rw[Bool.and_eq_true,List.all_eq_true] at e
  have:=e.2 (nL m k) (by rw[ql4 m k hk]; exact List.getElem_mem hk)
  rw[Bool.and_eq_true,decide_eq_true_eq] at this
  rcases h with h | h
  ·rw[h] at this; cases this.2
  ·exact absurd this.1 h
abbrev sV2:qb9:=qg6 true none [tMask] [.bool] (λx=>w7l x.1) (λx=>(validB x.1,()))
theorem wy1:Meets Tryz.prog 30 sV2:=by
 refine meets (snd (SpecsOk.cons q25 (SpecsOk.cons w15 (SpecsOk.nil _)))) Tryz.func30 rfl rfl (λx=>x4s x.1) (λ_=>by kernel_rfl) (by decide) ?_
 rintro⟨m,⟨⟩⟩ h
 revert m
 intro(m:List (List Int)) (h:w7l m)
 refine @qe7 _ (∃(v0:Unit),∃(v1:Nat),xw9 m v1/\(((0:Int)=(↑v1:Int)/\True)/\True)/\∀(v2:Nat),xw9 m v2->(decide ((↑v2:Int)<(↑m.length:Int))=true->((0:Int)<=(↑v2:Int)/\(↑v2:Int)<(↑m.length:Int))/\(nL m v2).length<=(9223372036854775807:Nat)/\((!rowB (nL m v2))=true->false=validB m)/\((!rowB (nL m v2))=false->((0:Int)<=(0:Int)/\(0:Int)<(↑m.length:Int))/\(((↑(nL m v2).length:Int) != (↑(nL m (0:Nat)).length:Int))=true->false=validB m)/\(((↑(nL m v2).length:Int) != (↑(nL m (0:Nat)).length:Int))=false->fits .i64 ((↑v2:Int)+(1:Int))/\∃(v7:Nat),xw9 m v7/\m.length-v7<m.length-v2/\((↑v2:Int)+(1:Int)=(↑v7:Int)/\True)/\True)))/\(decide ((↑v2:Int)<(↑m.length:Int))=false->True/\inB (↑m.length:Int) (1:Int) (6:Int)=validB m)) (by kernel_rfl) ?_
 try simp only[z0,z1,z2,z3,z4,z5,z6,z7,z8,z9,z10,Int.reduceEq,z11,z12,z13,z14,z15,z16,z17,z18,z19,z20,z21,z22,z23,z24,z25,z26,z27,z28,z29,z30,Int.reduceLE,Int.reduceLT,z31,z32,z33,z34,qa3]
 try simp only[qb6,qb7,qc7,z31,z32,z2,z1]
 have hr:=h.rows
 refine⟨(),0,⟨Nat.zero_le _,λi hi=>by omega⟩,rfl,λk hk=>⟨λhlt=>⟨hlt,h.each k hlt,λh1=>(q56 hlt (.inl h1)).symm,λh1=>⟨by omega,λh2=>(q56 hlt (.inr (by omega))).symm,λh2=>⟨qa7 (by omega) (by omega),k+1,⟨hlt,λi hi=>?_⟩,by omega,by omega⟩⟩⟩,λhge=>?_⟩⟩
 ·by_cases e:i=k
  ·subst e; exact⟨h1,by omega⟩
  ·exact hk.ok i (by omega)
 ·obtain rfl:k=m.length:=by have:=hk.le; omega
  have:(m.all λl=>decide (l.length=(nL m 0).length) && rowB l)=true:=by
   rw[List.all_eq_true]
   intro x hx
   obtain⟨i,hi,rfl⟩:=List.getElem_of_mem hx
   have:=hk.ok i hi
   rw[ql4 m i hi] at this
   rw[this.1,this.2]; simp
  rw[validB,this,Bool.and_true]
theorem q57 (l:List Int) (k:Nat) (hk:k<l.length):l.take (k+1)=l.take k++[nI l k]:=by
 rw[List.take_add_one,List.getElem?_eq_getElem hk,qg4 l k hk]; rfl
def qo5 (n:Nat):List Int:=(List.range n).map λi:Nat=>(i:Int)
theorem w5g (n:Nat):qo5 (n+1)=qo5 n++[(n:Int)]:=by simp[qo5,List.range_succ]
theorem qe8 (n:Nat):(qo5 n).length=n:=by simp[qo5]
theorem q0j (n i:Nat) (h:i<n):nI (qo5 n) i=i:=by rw[qg4 _ _ (by rw[qe8]; exact h)]; simp[qo5]
abbrev x4t:qb9:=wg8 (q4l [tInt]) true (some 3) .none (λx=>x.1<=100000) (λx=>.dat (.int .i64) (qo5 x.1.toNat))
def x0v (n:Nat):Nat->Option Inv
 | 0=>some (Inv.of [3,6] 1 (λk:Nat=>[(3,.own 0),(6,.lit (.int .i64 k))]) (λk=>[.vec 3 (.int .i64) (qo5 k)]) (λk=>k<=n) (λk=>n-k))
 | _=>none
theorem q58:Meets Tryz.prog 65 x4t:=by
 refine wx4 (snd (SpecsOk.nil _)) Tryz.func65 rfl rfl (qu0 [tInt]) (λx=>x0v x.1.toNat) (λ_=>by kernel_rfl) (by decide) ?_
 rintro⟨n,⟨⟩⟩ h
 revert n
 intro(n:Int) (h:n<=100000)
 refine @qe7 _ (∃(v0:Unit),∃(v1:Nat),Nat.le v1 n.toNat/\((True/\(0:Int)=(↑v1:Int)/\True)/\qo5 v1=[]/\True)/\∀(v2:Nat),Nat.le v2 n.toNat->(decide ((↑v2:Int)<n)=true->((0:Nat)<List.length [(↑v2:Int)]/\Nat.le ((qo5 v2).length+List.length [(↑v2:Int)]) (1000000:Nat))/\fits .i64 ((↑v2:Int)+(1:Int))/\∃(v5:Nat),Nat.le v5 n.toNat/\n.toNat-v5<n.toNat-v2/\(True/\(↑v2:Int)+(1:Int)=(↑v5:Int)/\True)/\qo5 v2++[(↑v2:Int)]=qo5 v5/\True)/\(decide ((↑v2:Int)<n)=false->qo5 v2=qo5 n.toNat)) (by kernel_rfl) ?_
 try simp only[z0,z1,z2,z3,z4,z5,z6,z7,z8,z9,z10,Int.reduceEq,z11,z12,z13,z14,z15,z16,z17,z18,z19,z20,z21,z22,z23,z24,z25,z26,z27,z28,z29,z30,Int.reduceLE,Int.reduceLT,z31,z32,z33,z34,qa3]
 try simp only[qb6,qb7,qc7,z31,z32,z2,z1]
 refine⟨(),0,Nat.zero_le _,⟨rfl,rfl⟩,λk hk=>⟨λhlt=>⟨by rw[qe8]; omega,qa7 (by omega) (by omega),k+1,by omega,by omega,by omega,(w5g k).symm⟩,λhge=>?_⟩⟩
 rw[show n.toNat=k by omega]
abbrev xj9:qb9:=qg6 true none [tInt] [tInts] (λ_=>True) (λ_=>([],()))
theorem q8f:Meets Tryz.prog 66 xj9:=by
 refine meets (snd (SpecsOk.nil _)) Tryz.func66 rfl rfl (λ_ _=>none) (λ_=>by kernel_rfl) (by decide) ?_
 rintro⟨n,⟨⟩⟩ -
 revert n
 intro(n:Int)
 refine @qe7 _ (xo8 Int) (by kernel_rfl) ?_
 try simp only[z0,z1,z2,z3,z4,z5,z6,z7,z8,z9,z10,Int.reduceEq,z11,z12,z13,z14,z15,z16,z17,z18,z19,z20,z21,z22,z23,z24,z25,z26,z27,z28,z29,z30,Int.reduceLE,Int.reduceLT,z31,z32,z33,z34,qa3]
 try simp only[qb6,qb7,qc7,z31,z32,z2,z1]
def qq5 (r pix:List Int):List Int:=pix.map λp=>nI r p.toNat
def qc0 (m:List (List Int)) (pix:List Int) (f:Int->List Int):List (List Int):=(List.range m.length).map λi=>qq5 (nL m i) pix++f i
structure ChoOk (m:List (List Int)) (pix:List Int) (p:qa4 [.int .i64]->Prop) (f:qa4 [.int .i64]->List Int):Prop where
 rows:m.length<=10000
 cols:pix.length<=10000
 at_:∀i,i<m.length->∀j,j<pix.length->0<=nI pix j/\nI pix j<(nL m i).length
 fn:∀i:Nat,i<m.length->p ((i:Int),())/\(f ((i:Int),())).length<=10000
theorem qs8 (r pix:List Int):(qq5 r pix).length=pix.length:=by simp[qq5]
theorem q07 (r pix:List Int) (j:Nat) (hj:j<pix.length):nI (qq5 r pix) j=nI r (nI pix j).toNat:=by
 rw[qg4 _ _ (by rw[qs8]; exact hj),qg4 pix j hj]; simp[qq5]
theorem q18 (m:List (List Int)) (pix:List Int) (f:Int->List Int):(qc0 m pix f).length=m.length:=by simp[qc0]
theorem w17 (m:List (List Int)) (pix:List Int) (f:Int->List Int) (i:Nat) (hi:i<m.length):nL (qc0 m pix f) i=qq5 (nL m i) pix++f i:=by
 rw[ql4 _ _ (by rw[q18]; exact hi)]; simp[qc0]
theorem takeL_snoc (m:List (List Int)) (k:Nat) (hk:k<m.length):m.take (k+1)=m.take k++[nL m k]:=by
 rw[List.take_add_one,List.getElem?_eq_getElem hk,ql4 m k hk]; rfl
abbrev x4u (fs:List (Nat × qb9)):qb9:=wg8 (wh1 fs [.d tMask,.d tInts,.fn [tInt] tInts]) true (some 27) (some 3) (λx=>ChoOk x.1 x.2.1 x.2.2.1.1 x.2.2.1.2) (λx=>.dat (.list (.int .i64)) (qc0 x.1 x.2.1 λi=>x.2.2.1.2 (i,())))
def x0w (m:List (List Int)) (pix:List Int) (f:Int->List Int):Nat->Option Inv
 | 0=>some (Inv.of [7,15] 1 (λk:Nat=>[(7,.msl 0 .none),(15,.lit (.int .i64 k))]) (λk=>[.mat 27 3 (.int .i64) ((qc0 m pix f).take k) .none .none]) (λk=>k<=m.length) (λk=>m.length-k))
 | 1=>some (Eng.Inv.mk Nat Nat [7,10,22] 2 (λ_ j=>[(7,.msl 0 .none),(10,.own 1),(22,.lit (.int .i64 j))]) (λk j=>[.mat 27 3 (.int .i64) ((qc0 m pix f).take k) .none .none,.vec 3 (.int .i64) ((qq5 (nL m k) pix).take j)]) (λ_ j=>j<=pix.length) (λ_ j=>pix.length-j))
 | _=>none
theorem wh9 {fs:List (Nat × qb9)} (hfs:SpecsOk Tryz.prog fs):Meets Tryz.prog 64 (x4u fs):=by
 refine wx4 (w80 [40] [39] (SpecsOk.nil _)) Tryz.func64 rfl rfl (q21 hfs [.d tMask,.d tInts,.fn [tInt] tInts]) (λx=>x0w x.1 x.2.1 λi=>x.2.2.1.2 (i,())) (λ_=>by kernel_rfl) (show 3<=_ by decide) ?_
 rintro⟨m,pix,⟨p,f⟩,⟨⟩⟩ h
 revert m pix p f
 intro(m:List (List Int)) (pix:List Int) (p:qa4 [.int .i64]->Prop) (f:qa4 [.int .i64]->List Int) (h:ChoOk m pix p f)
 refine @qe7 _ (∃(v0:Unit),∃(v1:Nat),Nat.le v1 m.length/\((True/\(0:Int)=(↑v1:Int)/\True)/\List.take v1 (qc0 m pix λ(v2:Int)=>f (v2,()))=[]/\True)/\∀(v2:Nat),Nat.le v2 m.length->(decide ((↑v2:Int)<(↑m.length:Int))=true->((0:Int)<=(↑v2:Int)/\(↑v2:Int)<(↑m.length:Int))/\∃(v5:Nat),∃(v6:Nat),Nat.le v6 pix.length/\((True/\True/\(0:Int)=(↑v6:Int)/\True)/\(List.take v2 (qc0 m pix λ(v7:Int)=>f (v7,()))=List.take v5 (qc0 m pix λ(v7:Int)=>f (v7,()))/\True/\True)/\List.take v6 (qq5 (nL m v5) pix)=[]/\True)/\∀(v7:Nat),Nat.le v7 pix.length->(decide ((↑v7:Int)<(↑pix.length:Int))=true->((0:Int)<=(↑v7:Int)/\(↑v7:Int)<(↑pix.length:Int))/\((0:Int)<=nI pix v7/\nI pix v7<(↑(nL m v2).length:Int))/\((0:Nat)<List.length [nI (nL m v2) (nI pix v7).toNat]/\Nat.le ((List.take v7 (qq5 (nL m v5) pix)).length+List.length [nI (nL m v2) (nI pix v7).toNat]) (1000000:Nat))/\fits .i64 ((↑v7:Int)+(1:Int))/\∃(v10:Nat),Nat.le v10 pix.length/\pix.length-v10<pix.length-v7/\(True/\True/\(↑v7:Int)+(1:Int)=(↑v10:Int)/\True)/\(List.take v5 (qc0 m pix λ(v11:Int)=>f (v11,()))=List.take v5 (qc0 m pix λ(v11:Int)=>f (v11,()))/\True/\True)/\List.take v7 (qq5 (nL m v5) pix)++[nI (nL m v2) (nI pix v7).toNat]=List.take v10 (qq5 (nL m v5) pix)/\True)/\(decide ((↑v7:Int)<(↑pix.length:Int))=false->p ((↑v2:Int),())/\Nat.le ((List.take v7 (qq5 (nL m v5) pix)).length+(f ((↑v2:Int),())).length) (1000000:Nat)/\((0:Nat)<(0:Nat)+(1:Nat)/\(List.take v5 (qc0 m pix λ(v10:Int)=>f (v10,()))).length+((0:Nat)+(1:Nat))<=(1000000:Nat))/\fits .i64 ((↑v2:Int)+(1:Int))/\∃(v10:Nat),Nat.le v10 m.length/\m.length-v10<m.length-v2/\(True/\(↑v2:Int)+(1:Int)=(↑v10:Int)/\True)/\(List.take v5 (qc0 m pix λ(v11:Int)=>f (v11,()))++[List.take v7 (qq5 (nL m v5) pix)++f ((↑v2:Int),())]=List.take v10 (qc0 m pix λ(v11:Int)=>f (v11,()))/\True/\True)/\True))/\(decide ((↑v2:Int)<(↑m.length:Int))=false->List.take v2 (qc0 m pix λ(v5:Int)=>f (v5,()))=qc0 m pix λ(v5:Int)=>f (v5,()))) (by kernel_rfl) ?_
 try simp only[z0,z1,z2,z3,z4,z5,z6,z7,z8,z9,z10,Int.reduceEq,z11,z12,z13,z14,z15,z16,z17,z18,z19,z20,z21,z22,z23,z24,z25,z26,z27,z28,z29,z30,Int.reduceLE,Int.reduceLT,z31,z32,z33,z34,qa3]
 try simp only[qb6,qb7,qc7,z31,z32,z2,z1]
 have hr:=h.rows
 have hc:=h.cols
 have hl:=q18 m pix λi=>f (i,())
 refine⟨(),0,Nat.zero_le _,⟨rfl,rfl⟩,λk hk=>⟨λhlt=>⟨hlt,k,0,Nat.zero_le _,⟨rfl,rfl,rfl⟩,λj hj=>⟨λhj2=>?_,λhj2=>?_⟩⟩,λhge=>?_⟩⟩
 ·have h1:=qs8 (nL m k) pix
  refine⟨hj2,h.at_ k hlt j hj2,by rw[List.length_take]; omega,qa7 (by omega) (by omega),j+1,by omega,by omega,by omega,?_⟩
  rw[q57 _ j (by omega),q07 _ _ _ hj2]
 ·obtain rfl:j=pix.length:=by omega
  have h1:=qs8 (nL m k) pix
  have h2:=h.fn k hlt
  have h3:(qq5 (nL m k) pix).take pix.length=qq5 (nL m k) pix:=List.take_of_length_le (by omega)
  rw[h3]
  refine⟨h2.1,by omega,by rw[List.length_take]; omega,qa7 (by omega) (by omega),k+1,by omega,by omega,by omega,?_⟩
  rw[takeL_snoc _ k (by omega),w17 _ _ _ _ hlt]
 ·rw[List.take_of_length_le (by omega)]
end Go.Proofs.YtempacilejhbgaaGreatDoor
