/- Rows with chosen columns: contracts by the engine. No condition. -/
import Derived.Test.YtmijnbjlhnpokaaGreatV5
set_option linter.unusedVariables false
set_option linter.unusedSimpArgs false
namespace Go.Proofs.YtmijnbjlhnpokaaGreat
open Go Go.RowKit Eng
structure Mk (m:List (List Int)):Prop where
 rows1:1<=m.length
 rows6:m.length<=6
 each:∀i,i<m.length->(nL m i).length=(nL m 0).length
 pix1:1<=(nL m 0).length
 pix10:(nL m 0).length<=10
 small:∀i,i<m.length->∀j,j<(nL m 0).length->-1<=nI (nL m i) j/\nI (nL m i) j<=1
theorem Mk.of {m:List (List Int)} (h:qe6 m=true):Mk m:=by
 unfold qe6 at h
 rw[Bool.and_eq_true,qv5,List.all_eq_true] at h
 obtain⟨h1,h2⟩:=h
 have each:∀i,i<m.length->(nL m i).length=(nL m 0).length/\rowB (nL m i)=true:=λi hi=>by
  have:=h2 (nL m i) (by unfold nL; rw[qk4 (t:=qd4) m i hi]; exact List.getElem_mem hi)
  rw[Bool.and_eq_true,decide_eq_true_eq] at this
  exact this
 have hr:∀i,i<m.length->(1<=(nL m i).length/\(nL m i).length<=10)/\∀j,j<(nL m i).length->-1<=nI (nL m i) j/\nI (nL m i) j<=1:=λi hi=>by
  have:=(each i hi).2
  unfold rowB at this
  rw[Bool.and_eq_true,qv5,List.all_eq_true] at this
  refine⟨by omega,λj hj=>qv5.1 (this.2 _ ?_)⟩
  unfold nI; rw[qk4 (t:=qf8) _ j hj]; exact List.getElem_mem hj
 have h0:=hr 0 (by omega)
 exact⟨by omega,by omega,λi hi=>(each i hi).1,h0.1.1,h0.1.2,λi hi j hj=>(hr i hi).2 j (by rw[(each i hi).1]; exact hj)⟩
def w5y (m:List (List Int)) (l:List Int):Int:=if qe6 m=false then 1 else q4y (nL m 0).length l
abbrev x6m:qc7:=qg0 true none [qk2,qd4] [qf8] (λx=>x.2.1.length<=1000000) (λx=>(w5y x.1 x.2.1,()))
theorem w5z:Meets Tryz.prog 134 x6m:=by
 refine meets (snd (SpecsOk.cons wb9 (SpecsOk.cons w5x (SpecsOk.nil _)))) Tryz.func134 rfl rfl (λ_ _=>none) (λ_=>by kernel_rfl) (by decide) ?_
 rintro⟨m,l,⟨⟩⟩ h
 revert m l
 intro(m:List (List Int)) (l:List Int) (h:l.length<=1000000)
 refine @qe0 _ (True/\((!qe6 m)=true->(1:Int)=w5y m l)/\((!qe6 m)=false->((0:Int)<=(0:Int)/\(0:Int)<(↑m.length:Int))/\(((0:Ty.den qf8)<=(↑(nL m (0:Nat)).length:Int)/\(↑(nL m (0:Nat)).length:Int)<=BIG)/\l.length<=(1000000:Nat))/\q4y (↑(nL m (0:Nat)).length:Int) l=w5y m l)) (by kernel_rfl) ?_
 try simp only[z0,z1,z2,z3,z4,z5,z6,z7,z8,z9,z10,Int.reduceEq,z11,z12,z13,z14,z15,z16,z17,z18,z19,z20,z21,z22,z23,z24,z25,z26,z27,z28,z29,z30,Int.reduceLE,Int.reduceLT,z31,z32,z33,z34,qa1]
 try simp only[qb4,qb5,qc8,z31,z32,z2,z1]
 refine⟨λhv=>by simp[w5y,hv],λhv=>?_⟩
 have hM:=Mk.of hv
 have h1:=hM.rows1
 have h2:=hM.pix10
 unfold BIG
 exact⟨by omega,⟨by omega,h⟩,by simp[w5y,hv]⟩
def w3e (y:List Int):Bool:=y.any λn=>!(inB n (0-1000000) 1000000)
def qp2 (m:List (List Int)) (y l:List Int):Int:=if qe6 m=false then 1 else if ¬y.length=m.length then 9 else if w3e y then 7 else w5y m l
abbrev x6n:qc7:=qg0 true none [qk2,qd4,qd4] [qf8] (λx=>x.2.2.1.length<=1000000) (λx=>(qp2 x.1 x.2.1 x.2.2.1,()))
theorem q3e:Meets Tryz.prog 78 x6n:=by
 refine meets (snd (SpecsOk.cons wb9 (SpecsOk.cons w5z (SpecsOk.cons w5w (SpecsOk.cons (q3b (fs:=[(190,xu1)]) (SpecsOk.cons w19 (SpecsOk.nil _))) (SpecsOk.nil _)))))) Tryz.func78 rfl rfl (λ_ _=>none) (λ_=>by kernel_rfl) (by decide) ?_
 rintro⟨m,y,l,⟨⟩⟩ h
 revert m y l
 intro(m:List (List Int)) (y:List Int) (l:List Int) (h:l.length<=1000000)
 refine @qe0 _ (True/\((!qe6 m)=true->(1:Int)=qp2 m y l)/\((!qe6 m)=false->(((↑y.length:Int) != (↑m.length:Int))=true->(9:Int)=qp2 m y l)/\(((↑y.length:Int) != (↑m.length:Int))=false->True/\∃(v2:qa5 [Ty.int .i64]->Prop),∃(v3:qa5 [Ty.int .i64]->Bool),(∀(v4:Int × qa5._f [] PUnit.unit),v2 v4->((0:PTy.den (PTy.cap qf8))<=(1000000:Int)/\(1000000:Int)<=BIG)/\(!inB v4.1 ((0:Int)-(1000000:Int)) (1000000:Int))=v3 v4)/\(y.length<=(1000000:Nat)/\∀(v4:Nat),v4<y.length->v2 (nI y v4,()))/\((List.any y λ(v5:Int)=>v3 (v5,()))=true->(7:Int)=qp2 m y l)/\((List.any y λ(v5:Int)=>v3 (v5,()))=false->l.length<=(1000000:Nat)/\w5y m l=qp2 m y l)))) (by kernel_rfl) ?_
 try simp only[z0,z1,z2,z3,z4,z5,z6,z7,z8,z9,z10,Int.reduceEq,z11,z12,z13,z14,z15,z16,z17,z18,z19,z20,z21,z22,z23,z24,z25,z26,z27,z28,z29,z30,Int.reduceLE,Int.reduceLT,z31,z32,z33,z34,qa1]
 try simp only[qb4,qb5,qc8,z31,z32,z2,z1]
 refine⟨λhv=>by simp[qp2,hv],λhv=>⟨λhl=>?_,λhl=>?_⟩⟩
 ·have hl:¬y.length=m.length:=by omega
  simp[qp2,hv,hl]
 have hl:y.length=m.length:=by omega
 have hM:=Mk.of hv
 have h1:=hM.rows6
 refine⟨λ_=>True,λx=>!(inB x.1 (0-1000000) 1000000),λx _=>⟨by decide,by simp⟩,⟨by omega,λ_ _=>trivial⟩,λho=>?_,λho=>⟨h,?_⟩⟩
 ·have ho:w3e y=true:=ho
  simp[qp2,hv,hl,ho]
 ·have ho:w3e y=false:=ho
  simp[qp2,hv,hl,ho]
structure q1u (m:List (List Int)):Prop where
 rows:m.length<=9223372036854775807
 each:∀i,i<m.length->(nL m i).length<=9223372036854775807
structure RowTo (l:List Int) (k:Nat):Prop where
 le:k<=l.length
 ok:∀i,i<k->inB (nI l i) (-1) 1=true
def xu3 (l:List Int):Nat->Option Inv
 | 0=>some (Inv.of [7] 0 (λk:Nat=>[(7,.lit (.int .i64 k))]) (λ_=>[]) (λk=>RowTo l k) (λk=>l.length-k))
 | _=>none
theorem w50 {l:List Int} {k:Nat} (hk:k<l.length) (h:inB (nI l k) (-1) 1=false):rowB l=false:=by
 cases e:rowB l with
 | false=>rfl
 | true=>
  unfold rowB at e
  rw[Bool.and_eq_true,List.all_eq_true] at e
  have:=e.2 (nI l k) (by rw[qh2 l k hk]; exact List.getElem_mem hk)
  rw[h] at this; cases this
theorem RowTo.all {l:List Int} (h:RowTo l l.length):(l.all λn=>inB n (-1) 1)=true:=by
 rw[List.all_eq_true]
 intro x hx
 obtain⟨i,hi,rfl⟩:=List.getElem_of_mem hx
 rw[<- qh2 l i hi]; exact h.ok i hi
abbrev x2a:qc7:=qg0 true none [qd4] [.bool] (λx=>x.1.length<=9223372036854775807) (λx=>(rowB x.1,()))
theorem w2b:Meets Tryz.prog 74 x2a:=by
 refine meets (snd (SpecsOk.cons qz0 (SpecsOk.nil _))) Tryz.func74 rfl rfl (λx=>xu3 x.1) (λ_=>by kernel_rfl) (by decide) ?_
 rintro⟨l,⟨⟩⟩ h
 revert l
 intro(l:List Int) (h:l.length<=9223372036854775807)
 refine @qe0 _ (∃(v0:Unit),∃(v1:Nat),RowTo l v1/\(((0:Int)=(↑v1:Int)/\True)/\True)/\∀(v2:Nat),RowTo l v2->(decide ((↑v2:Int)<(↑l.length:Int))=true->((0:Int)<=(↑v2:Int)/\(↑v2:Int)<(↑l.length:Int))/\True/\((!inB (nI l v2) (-1:Int) (1:Int))=true->false=rowB l)/\((!inB (nI l v2) (-1:Int) (1:Int))=false->fits .i64 ((↑v2:Int)+(1:Int))/\∃(v6:Nat),RowTo l v6/\l.length-v6<l.length-v2/\((↑v2:Int)+(1:Int)=(↑v6:Int)/\True)/\True))/\(decide ((↑v2:Int)<(↑l.length:Int))=false->True/\inB (↑l.length:Int) (1:Int) (10:Int)=rowB l)) (by kernel_rfl) ?_
 try simp only[z0,z1,z2,z3,z4,z5,z6,z7,z8,z9,z10,Int.reduceEq,z11,z12,z13,z14,z15,z16,z17,z18,z19,z20,z21,z22,z23,z24,z25,z26,z27,z28,z29,z30,Int.reduceLE,Int.reduceLT,z31,z32,z33,z34,qa1]
 try simp only[qb4,qb5,qc8,z31,z32,z2,z1]
 refine⟨(),0,⟨Nat.zero_le _,λi hi=>by omega⟩,rfl,λk hk=>⟨λhlt=>⟨hlt,λh1=>(w50 hlt h1).symm,λh1=>⟨qa7 (by omega) (by omega),k+1,⟨hlt,λi hi=>?_⟩,by omega,by omega⟩⟩,λhge=>?_⟩⟩
 ·by_cases e:i=k
  ·subst e; exact h1
  ·exact hk.ok i (by omega)
 ·obtain rfl:k=l.length:=by have:=hk.le; omega
  rw[rowB,hk.all,Bool.and_true]
structure x0c (m:List (List Int)) (k:Nat):Prop where
 le:k<=m.length
 ok:∀i,i<k->rowB (nL m i)=true/\(nL m i).length=(nL m 0).length
def x6o (m:List (List Int)):Nat->Option Inv
 | 0=>some (Inv.of [7] 0 (λk:Nat=>[(7,.lit (.int .i64 k))]) (λ_=>[]) (λk=>x0c m k) (λk=>m.length-k))
 | _=>none
theorem q6y {m:List (List Int)} {k:Nat} (hk:k<m.length) (h:rowB (nL m k)=false\/¬(nL m k).length=(nL m 0).length):qe6 m=false:=by
 cases e:qe6 m with
 | false=>rfl
 | true=>
  unfold qe6 at e
  rw[Bool.and_eq_true,List.all_eq_true] at e
  have:=e.2 (nL m k) (by rw[ql7 m k hk]; exact List.getElem_mem hk)
  rw[Bool.and_eq_true,decide_eq_true_eq] at this
  rcases h with h | h
  ·rw[h] at this; cases this.2
  ·exact absurd this.1 h
abbrev sV2:qc7:=qg0 true none [qk2] [.bool] (λx=>q1u x.1) (λx=>(qe6 x.1,()))
theorem wc1:Meets Tryz.prog 23 sV2:=by
 refine meets (snd (SpecsOk.cons qz0 (SpecsOk.cons w2b (SpecsOk.nil _)))) Tryz.func23 rfl rfl (λx=>x6o x.1) (λ_=>by kernel_rfl) (by decide) ?_
 rintro⟨m,⟨⟩⟩ h
 revert m
 intro(m:List (List Int)) (h:q1u m)
 refine @qe0 _ (∃(v0:Unit),∃(v1:Nat),x0c m v1/\(((0:Int)=(↑v1:Int)/\True)/\True)/\∀(v2:Nat),x0c m v2->(decide ((↑v2:Int)<(↑m.length:Int))=true->((0:Int)<=(↑v2:Int)/\(↑v2:Int)<(↑m.length:Int))/\(nL m v2).length<=(9223372036854775807:Nat)/\((!rowB (nL m v2))=true->false=qe6 m)/\((!rowB (nL m v2))=false->((0:Int)<=(0:Int)/\(0:Int)<(↑m.length:Int))/\(((↑(nL m v2).length:Int) != (↑(nL m (0:Nat)).length:Int))=true->false=qe6 m)/\(((↑(nL m v2).length:Int) != (↑(nL m (0:Nat)).length:Int))=false->fits .i64 ((↑v2:Int)+(1:Int))/\∃(v7:Nat),x0c m v7/\m.length-v7<m.length-v2/\((↑v2:Int)+(1:Int)=(↑v7:Int)/\True)/\True)))/\(decide ((↑v2:Int)<(↑m.length:Int))=false->True/\inB (↑m.length:Int) (1:Int) (6:Int)=qe6 m)) (by kernel_rfl) ?_
 try simp only[z0,z1,z2,z3,z4,z5,z6,z7,z8,z9,z10,Int.reduceEq,z11,z12,z13,z14,z15,z16,z17,z18,z19,z20,z21,z22,z23,z24,z25,z26,z27,z28,z29,z30,Int.reduceLE,Int.reduceLT,z31,z32,z33,z34,qa1]
 try simp only[qb4,qb5,qc8,z31,z32,z2,z1]
 have hr:=h.rows
 refine⟨(),0,⟨Nat.zero_le _,λi hi=>by omega⟩,rfl,λk hk=>⟨λhlt=>⟨hlt,h.each k hlt,λh1=>(q6y hlt (.inl h1)).symm,λh1=>⟨by omega,λh2=>(q6y hlt (.inr (by omega))).symm,λh2=>⟨qa7 (by omega) (by omega),k+1,⟨hlt,λi hi=>?_⟩,by omega,by omega⟩⟩⟩,λhge=>?_⟩⟩
 ·by_cases e:i=k
  ·subst e; exact⟨h1,by omega⟩
  ·exact hk.ok i (by omega)
 ·obtain rfl:k=m.length:=by have:=hk.le; omega
  have:(m.all λl=>decide (l.length=(nL m 0).length) && rowB l)=true:=by
   rw[List.all_eq_true]
   intro x hx
   obtain⟨i,hi,rfl⟩:=List.getElem_of_mem hx
   have:=hk.ok i hi
   rw[ql7 m i hi] at this
   rw[this.1,this.2]; simp
  rw[qe6,this,Bool.and_true]
def x2b (l:List Int):Nat->Option Inv
 | 0=>some (Inv.of [3] 0 (λk:Nat=>[(3,.lit (.int .i64 k))]) (λ_=>[]) (λk=>1<=k/\(AscTo l k\/(k=1/\l=[]))) (λk=>l.length-k))
 | _=>none
abbrev x6p:qc7:=qg0 true none [qd4] [.bool] (λx=>x.1.length<=1000000) (λx=>(w3d x.1,()))
theorem w51:Meets Tryz.prog 140 x6p:=by
 refine meets (snd (SpecsOk.nil _)) Tryz.func140 rfl rfl (λx=>x2b x.1) (λ_=>by kernel_rfl) (by decide) ?_
 rintro⟨l,⟨⟩⟩ h
 revert l
 intro(l:List Int) (h:l.length<=1000000)
 refine @qe0 _ (∃(v0:Unit),∃(v1:Nat),((1:Nat)<=v1/\(AscTo l v1\/v1=(1:Nat)/\l=[]))/\(((1:Int)=(↑v1:Int)/\True)/\True)/\∀(v2:Nat),(1:Nat)<=v2/\(AscTo l v2\/v2=(1:Nat)/\l=[])->(decide ((↑v2:Int)<(↑l.length:Int))=true->((0:Int)<=(↑v2:Int)/\(↑v2:Int)<(↑l.length:Int))/\fits .i64 ((↑v2:Int)-(1:Int))/\((0:Int)<=(↑v2:Int)-(1:Int)/\(↑v2:Int)-(1:Int)<(↑l.length:Int))/\(decide (nI l v2<=nI l ((↑v2:Int)-(1:Int)).toNat)=true->false=w3d l)/\(decide (nI l v2<=nI l ((↑v2:Int)-(1:Int)).toNat)=false->fits .i64 ((↑v2:Int)+(1:Int))/\∃(v6:Nat),((1:Nat)<=v6/\(AscTo l v6\/v6=(1:Nat)/\l=[]))/\l.length-v6<l.length-v2/\((↑v2:Int)+(1:Int)=(↑v6:Int)/\True)/\True))/\(decide ((↑v2:Int)<(↑l.length:Int))=false->true=w3d l)) (by kernel_rfl) ?_
 try simp only[z0,z1,z2,z3,z4,z5,z6,z7,z8,z9,z10,Int.reduceEq,z11,z12,z13,z14,z15,z16,z17,z18,z19,z20,z21,z22,z23,z24,z25,z26,z27,z28,z29,z30,Int.reduceLE,Int.reduceLT,z31,z32,z33,z34,qa1]
 try simp only[qb4,qb5,qc8,z31,z32,z2,z1]
 refine⟨(),1,⟨Nat.le_refl _,?_⟩,rfl,λk ⟨h1,hk⟩=>⟨λhlt=>?_,λhge=>?_⟩⟩
 ·cases l with
  | nil=>exact .inr ⟨rfl,rfl⟩
  | cons a l=>exact .inl ⟨by simp,λi h0 hi=>by omega⟩
 ·have hk:AscTo l k:=hk.resolve_right λ⟨_,e⟩=>by subst e; simp at hlt
  have e:((k:Int)-1).toNat=k-1:=by omega
  rw[e]
  exact⟨hlt,qa7 (by omega) (by omega),by omega,λh2=>(w0e (by omega) hlt h2).symm,λh2=>⟨qa7 (by omega) (by omega),k+1,⟨by omega,.inl (hk.step hlt (.inr h2))⟩,by omega,by omega⟩⟩
 ·rcases hk with hk | ⟨_,rfl⟩
  ·obtain rfl:k=l.length:=by have:=hk.le; omega
   exact hk.all.symm
  ·rfl
structure w94 (y:List Int) (k:Nat):Prop where
 le:k<=y.length
 ok:∀i,i<k->inB (nI y i) (-1000000) 1000000=true
def w52 (m:List (List Int)) (y:List Int):Int:=if ¬y.length=m.length then 9 else if w3e y then 7 else 0
def x2c (y:List Int):Nat->Option Inv
 | 0=>some (Inv.of [14] 0 (λk:Nat=>[(14,.lit (.int .i64 k))]) (λ_=>[]) (λk=>w94 y k) (λk=>y.length-k))
 | _=>none
abbrev x6q:qc7:=qg0 true none [qk2,qd4] [qf8] (λx=>x.1.length<=1000000) (λx=>(w52 x.1 x.2.1,()))
theorem w53:Meets Tryz.prog 139 x6q:=by
 refine meets (snd (SpecsOk.cons q3d (SpecsOk.nil _))) Tryz.func139 rfl rfl (λx=>x2c x.2.1) (λ_=>by kernel_rfl) (by decide) ?_
 rintro⟨m,y,⟨⟩⟩ h
 revert m y
 intro(m:List (List Int)) (y:List Int) (h:m.length<=1000000)
 refine @qe0 _ ((((↑y.length:Int) != (↑m.length:Int))=true->(9:Int)=w52 m y)/\(((↑y.length:Int) != (↑m.length:Int))=false->∃(v1:Unit),∃(v2:Nat),w94 y v2/\(((0:Int)=(↑v2:Int)/\True)/\True)/\∀(v3:Nat),w94 y v3->(decide ((↑v3:Int)<(↑y.length:Int))=true->((0:Int)<=(↑v3:Int)/\(↑v3:Int)<(↑y.length:Int))/\True/\((!inB (nI y v3) (-1000000:Int) (1000000:Int))=true->(7:Int)=w52 m y)/\((!inB (nI y v3) (-1000000:Int) (1000000:Int))=false->fits .i64 ((↑v3:Int)+(1:Int))/\∃(v7:Nat),w94 y v7/\y.length-v7<y.length-v3/\((↑v3:Int)+(1:Int)=(↑v7:Int)/\True)/\True))/\(decide ((↑v3:Int)<(↑y.length:Int))=false->(0:Int)=w52 m y))) (by kernel_rfl) ?_
 try simp only[z0,z1,z2,z3,z4,z5,z6,z7,z8,z9,z10,Int.reduceEq,z11,z12,z13,z14,z15,z16,z17,z18,z19,z20,z21,z22,z23,z24,z25,z26,z27,z28,z29,z30,Int.reduceLE,Int.reduceLT,z31,z32,z33,z34,qa1]
 try simp only[qb4,qb5,qc8,z31,z32,z2,z1]
 refine⟨λhl=>by rw[w52,if_pos (by omega)],λhl=>?_⟩
 have hl:y.length=m.length:=by omega
 have e0:∀x:Int,inB x (-1000000) 1000000=inB x (0-1000000) 1000000:=λ_=>rfl
 refine⟨(),0,⟨Nat.zero_le _,λi hi=>by omega⟩,rfl,λk hk=>⟨λhlt=>⟨hlt,λh1=>?_,λh1=>⟨qa7 (by omega) (by omega),k+1,⟨hlt,λi hi=>?_⟩,by omega,by omega⟩⟩,λhge=>?_⟩⟩
 ·have:w3e y=true:=by
   unfold w3e
   rw[List.any_eq_true]
   exact⟨nI y k,by rw[qh2 y k hlt]; exact List.getElem_mem hlt,by rw[<- e0,h1]; rfl⟩
  simp[w52,hl,this]
 ·by_cases e:i=k
  ·subst e; exact h1
  ·exact hk.ok i (by omega)
 ·obtain rfl:k=y.length:=by have:=hk.le; omega
  have:w3e y=false:=by
   unfold w3e
   rw[List.any_eq_false]
   intro x hx
   obtain⟨i,hi,rfl⟩:=List.getElem_of_mem hx
   have:=hk.ok i hi
   rw[qh2 y i hi,e0] at this
   rw[this]; simp
  simp[w52,hl,this]
def qz1 (m:List (List Int)) (y:List Int):Int:=if qe6 m=false then 1 else w52 m y
abbrev xu4:qc7:=qg0 true none [qk2,qd4] [qf8] (λx=>q1u x.1) (λx=>(qz1 x.1 x.2.1,()))
theorem q60:Meets Tryz.prog 81 xu4:=by
 refine meets (snd (SpecsOk.cons wc1 (SpecsOk.cons w53 (SpecsOk.nil _)))) Tryz.func81 rfl rfl (λ_ _=>none) (λ_=>by kernel_rfl) (by decide) ?_
 rintro⟨m,y,⟨⟩⟩ h
 revert m y
 intro(m:List (List Int)) (y:List Int) (h:q1u m)
 refine @qe0 _ (q1u m/\((!qe6 m)=true->(1:Int)=qz1 m y)/\((!qe6 m)=false->m.length<=(1000000:Nat)/\w52 m y=qz1 m y)) (by kernel_rfl) ?_
 try simp only[z0,z1,z2,z3,z4,z5,z6,z7,z8,z9,z10,Int.reduceEq,z11,z12,z13,z14,z15,z16,z17,z18,z19,z20,z21,z22,z23,z24,z25,z26,z27,z28,z29,z30,Int.reduceLE,Int.reduceLT,z31,z32,z33,z34,qa1]
 try simp only[qb4,qb5,qc8,z31,z32,z2,z1]
 refine⟨h,λhv=>by simp[qz1,hv],λhv=>⟨?_,by simp[qz1,hv]⟩⟩
 have:=(Mk.of hv).rows6
 omega
structure w95 (n:Int) (l:List Int) (k:Nat):Prop where
 le:k<=l.length
 ok:∀i,i<k->inB (nI l i) 0 (n-1)=true
def xu5 (m:List (List Int)) (l:List Int):Nat->Option Inv
 | 0=>some (Inv.of [12] 0 (λk:Nat=>[(12,.lit (.int .i64 k))]) (λ_=>[]) (λk=>w95 (nL m 0).length l k) (λk=>l.length-k))
 | _=>none
abbrev x2d:qc7:=qg0 true none [qk2,qd4] [qf8] (λx=>(0<x.1.length/\(nL x.1 0).length<=1000000)/\x.2.1.length<=1000000) (λx=>(q4y (nL x.1 0).length x.2.1,()))
theorem q8t:Meets Tryz.prog 82 x2d:=by
 refine meets (snd (SpecsOk.cons q3d (SpecsOk.cons w51 (SpecsOk.nil _)))) Tryz.func82 rfl rfl (λx=>xu5 x.1 x.2.1) (λ_=>by kernel_rfl) (by decide) ?_
 rintro⟨m,l,⟨⟩⟩ h
 revert m l
 intro(m:List (List Int)) (l:List Int) (h:(0<m.length/\(nL m 0).length<=1000000)/\l.length<=1000000)
 refine @qe0 _ (l.length<=(1000000:Nat)/\((!w3d l)=true->(7:Int)=q4y (↑(nL m (0:Nat)).length:Int) l)/\((!w3d l)=false->∃(v1:Unit),∃(v2:Nat),w95 (↑(nL m (0:Nat)).length:Int) l v2/\(((0:Int)=(↑v2:Int)/\True)/\True)/\∀(v3:Nat),w95 (↑(nL m (0:Nat)).length:Int) l v3->(decide ((↑v3:Int)<(↑l.length:Int))=true->((0:Int)<=(↑v3:Int)/\(↑v3:Int)<(↑l.length:Int))/\((0:Int)<=(0:Int)/\(0:Int)<(↑m.length:Int))/\fits .i64 ((↑(nL m (0:Nat)).length:Int)-(1:Int))/\True/\((!inB (nI l v3) (0:Int) ((↑(nL m (0:Nat)).length:Int)-(1:Int)))=true->(5:Int)=q4y (↑(nL m (0:Nat)).length:Int) l)/\((!inB (nI l v3) (0:Int) ((↑(nL m (0:Nat)).length:Int)-(1:Int)))=false->fits .i64 ((↑v3:Int)+(1:Int))/\∃(v7:Nat),w95 (↑(nL m (0:Nat)).length:Int) l v7/\l.length-v7<l.length-v3/\((↑v3:Int)+(1:Int)=(↑v7:Int)/\True)/\True))/\(decide ((↑v3:Int)<(↑l.length:Int))=false->(0:Int)=q4y (↑(nL m (0:Nat)).length:Int) l))) (by kernel_rfl) ?_
 try simp only[z0,z1,z2,z3,z4,z5,z6,z7,z8,z9,z10,Int.reduceEq,z11,z12,z13,z14,z15,z16,z17,z18,z19,z20,z21,z22,z23,z24,z25,z26,z27,z28,z29,z30,Int.reduceLE,Int.reduceLT,z31,z32,z33,z34,qa1]
 try simp only[qb4,qb5,qc8,z31,z32,z2,z1]
 obtain⟨⟨h0,h1⟩,hl⟩:=h
 refine⟨hl,λha=>by simp[q4y,ha],λha=>⟨(),0,⟨Nat.zero_le _,λi hi=>by omega⟩,rfl,λk hk=>⟨λhlt=>⟨hlt,by omega,qa7 (by omega) (by omega),λh2=>?_,λh2=>⟨qa7 (by omega) (by omega),k+1,⟨hlt,λi hi=>?_⟩,by omega,by omega⟩⟩,λhge=>?_⟩⟩⟩
 ·have:(l.any λp=>!(inB p 0 ((nL m 0).length-1)))=true:=by
   rw[List.any_eq_true]
   exact⟨nI l k,by rw[qh2 l k hlt]; exact List.getElem_mem hlt,by rw[h2]; rfl⟩
  simp[q4y,ha,this]
 ·by_cases e:i=k
  ·subst e; exact h2
  ·exact hk.ok i (by omega)
 ·obtain rfl:k=l.length:=by have:=hk.le; omega
  have:(l.any λp=>!(inB p 0 ((nL m 0).length-1)))=false:=by
   rw[List.any_eq_false]
   intro x hx
   obtain⟨i,hi,rfl⟩:=List.getElem_of_mem hx
   have:=hk.ok i hi
   rw[qh2 l i hi] at this
   rw[this]; simp
  simp[q4y,ha,this]
theorem qq1 (l:List Int) (k:Nat) (hk:k<l.length):l.take (k+1)=l.take k++[nI l k]:=by
 rw[List.take_add_one,List.getElem?_eq_getElem hk,qh2 l k hk]; rfl
def q2k (n:Nat):List Int:=(List.range n).map λi:Nat=>(i:Int)
theorem w54 (n:Nat):q2k (n+1)=q2k n++[(n:Int)]:=by simp[q2k,List.range_succ]
theorem qs8 (n:Nat):(q2k n).length=n:=by simp[q2k]
theorem wc2 (n i:Nat) (h:i<n):nI (q2k n) i=i:=by rw[qh2 _ _ (by rw[qs8]; exact h)]; simp[q2k]
abbrev x6r:qc7:=wi7 (wa9 [qf8]) true (some 3) .none (λx=>x.1<=100000) (λx=>.dat (.int .i64) (q2k x.1.toNat))
def x2e (n:Nat):Nat->Option Inv
 | 0=>some (Inv.of [3,6] 1 (λk:Nat=>[(3,.own 0),(6,.lit (.int .i64 k))]) (λk=>[.vec 3 (.int .i64) (q2k k)]) (λk=>k<=n) (λk=>n-k))
 | _=>none
theorem wk0:Meets Tryz.prog 72 x6r:=by
 refine wy6 (snd (SpecsOk.nil _)) Tryz.func72 rfl rfl (q1h [qf8]) (λx=>x2e x.1.toNat) (λ_=>by kernel_rfl) (by decide) ?_
 rintro⟨n,⟨⟩⟩ h
 revert n
 intro(n:Int) (h:n<=100000)
 refine @qe0 _ (∃(v0:Unit),∃(v1:Nat),Nat.le v1 n.toNat/\((True/\(0:Int)=(↑v1:Int)/\True)/\q2k v1=[]/\True)/\∀(v2:Nat),Nat.le v2 n.toNat->(decide ((↑v2:Int)<n)=true->((0:Nat)<List.length [(↑v2:Int)]/\Nat.le ((q2k v2).length+List.length [(↑v2:Int)]) (1000000:Nat))/\fits .i64 ((↑v2:Int)+(1:Int))/\∃(v5:Nat),Nat.le v5 n.toNat/\n.toNat-v5<n.toNat-v2/\(True/\(↑v2:Int)+(1:Int)=(↑v5:Int)/\True)/\q2k v2++[(↑v2:Int)]=q2k v5/\True)/\(decide ((↑v2:Int)<n)=false->q2k v2=q2k n.toNat)) (by kernel_rfl) ?_
 try simp only[z0,z1,z2,z3,z4,z5,z6,z7,z8,z9,z10,Int.reduceEq,z11,z12,z13,z14,z15,z16,z17,z18,z19,z20,z21,z22,z23,z24,z25,z26,z27,z28,z29,z30,Int.reduceLE,Int.reduceLT,z31,z32,z33,z34,qa1]
 try simp only[qb4,qb5,qc8,z31,z32,z2,z1]
 refine⟨(),0,Nat.zero_le _,⟨rfl,rfl⟩,λk hk=>⟨λhlt=>⟨by rw[qs8]; omega,qa7 (by omega) (by omega),k+1,by omega,by omega,by omega,(w54 k).symm⟩,λhge=>?_⟩⟩
 rw[show n.toNat=k by omega]
abbrev w96:qc7:=qg0 true none [qf8] [qd4] (λ_=>True) (λ_=>([],()))
theorem q4e:Meets Tryz.prog 73 w96:=by
 refine meets (snd (SpecsOk.nil _)) Tryz.func73 rfl rfl (λ_ _=>none) (λ_=>by kernel_rfl) (by decide) ?_
 rintro⟨n,⟨⟩⟩ -
 revert n
 intro(n:Int)
 refine @qe0 _ (xq5 Int) (by kernel_rfl) ?_
 try simp only[z0,z1,z2,z3,z4,z5,z6,z7,z8,z9,z10,Int.reduceEq,z11,z12,z13,z14,z15,z16,z17,z18,z19,z20,z21,z22,z23,z24,z25,z26,z27,z28,z29,z30,Int.reduceLE,Int.reduceLT,z31,z32,z33,z34,qa1]
 try simp only[qb4,qb5,qc8,z31,z32,z2,z1]
abbrev xu6:qc7:=hspec [] true none [.d qf8,.cap qd4] [qd4] (λx=>0<=x.1/\x.1<x.2.1.length) (λx=>([nI x.2.1 x.1.toNat],()))
theorem w2c:Meets Tryz.prog 249 xu6:=by
 refine qs2 (SpecsOk.nil _) (x4u [8] (SpecsOk.nil _)) Tryz.func249 rfl rfl (λ_ _=>none) (λ_=>by kernel_rfl) (by decide) ?_
 rintro⟨n,y,⟨⟩⟩ h
 revert n y
 intro(n:Int) (y:List Int) (h:0<=n/\n<y.length)
 refine @qe0 _ (((0:Int)<=n/\n<(↑y.length:Int))/\[nI y n.toNat]=[nI y n.toNat]) (by kernel_rfl) ?_
 try simp only[z0,z1,z2,z3,z4,z5,z6,z7,z8,z9,z10,Int.reduceEq,z11,z12,z13,z14,z15,z16,z17,z18,z19,z20,z21,z22,z23,z24,z25,z26,z27,z28,z29,z30,Int.reduceLE,Int.reduceLT,z31,z32,z33,z34,qa1]
 try simp only[qb4,qb5,qc8,z31,z32,z2,z1]
 exact h
def qp3 (r pix:List Int):List Int:=pix.map λp=>nI r p.toNat
def qa9 (m:List (List Int)) (pix:List Int) (f:Int->List Int):List (List Int):=(List.range m.length).map λi=>qp3 (nL m i) pix++f i
structure ChoOk (m:List (List Int)) (pix:List Int) (p:qa5 [.int .i64]->Prop) (f:qa5 [.int .i64]->List Int):Prop where
 rows:m.length<=10000
 cols:pix.length<=10000
 at_:∀i,i<m.length->∀j,j<pix.length->0<=nI pix j/\nI pix j<(nL m i).length
 fn:∀i:Nat,i<m.length->p ((i:Int),())/\(f ((i:Int),())).length<=10000
theorem ql0 (r pix:List Int):(qp3 r pix).length=pix.length:=by simp[qp3]
theorem q3f (r pix:List Int) (j:Nat) (hj:j<pix.length):nI (qp3 r pix) j=nI r (nI pix j).toNat:=by
 rw[qh2 _ _ (by rw[ql0]; exact hj),qh2 pix j hj]; simp[qp3]
theorem qn7 (m:List (List Int)) (pix:List Int) (f:Int->List Int):(qa9 m pix f).length=m.length:=by simp[qa9]
theorem q8u (m:List (List Int)) (pix:List Int) (f:Int->List Int) (i:Nat) (hi:i<m.length):nL (qa9 m pix f) i=qp3 (nL m i) pix++f i:=by
 rw[ql7 _ _ (by rw[qn7]; exact hi)]; simp[qa9]
theorem takeL_snoc (m:List (List Int)) (k:Nat) (hk:k<m.length):m.take (k+1)=m.take k++[nL m k]:=by
 rw[List.take_add_one,List.getElem?_eq_getElem hk,ql7 m k hk]; rfl
abbrev x6s (fs:List (Nat × qc7)):qc7:=wi7 (w5d fs [.d qk2,.d qd4,.fn [qf8] qd4]) true (some 34) (some 3) (λx=>ChoOk x.1 x.2.1 x.2.2.1.1 x.2.2.1.2) (λx=>.dat (.list (.int .i64)) (qa9 x.1 x.2.1 λi=>x.2.2.1.2 (i,())))
def x2f (m:List (List Int)) (pix:List Int) (f:Int->List Int):Nat->Option Inv
 | 0=>some (Inv.of [7,15] 1 (λk:Nat=>[(7,.msl 0 .none),(15,.lit (.int .i64 k))]) (λk=>[.mat 34 3 (.int .i64) ((qa9 m pix f).take k) .none .none]) (λk=>k<=m.length) (λk=>m.length-k))
 | 1=>some (Eng.Inv.mk Nat Nat [7,10,22] 2 (λ_ j=>[(7,.msl 0 .none),(10,.own 1),(22,.lit (.int .i64 j))]) (λk j=>[.mat 34 3 (.int .i64) ((qa9 m pix f).take k) .none .none,.vec 3 (.int .i64) ((qp3 (nL m k) pix).take j)]) (λ_ j=>j<=pix.length) (λ_ j=>pix.length-j))
 | _=>none
theorem q3g {fs:List (Nat × qc7)} (hfs:SpecsOk Tryz.prog fs):Meets Tryz.prog 71 (x6s fs):=by
 refine wy6 (xt2 [40] [39] (SpecsOk.nil _)) Tryz.func71 rfl rfl (wz3 hfs [.d qk2,.d qd4,.fn [qf8] qd4]) (λx=>x2f x.1 x.2.1 λi=>x.2.2.1.2 (i,())) (λ_=>by kernel_rfl) (show 3<=_ by decide) ?_
 rintro⟨m,pix,⟨p,f⟩,⟨⟩⟩ h
 revert m pix p f
 intro(m:List (List Int)) (pix:List Int) (p:qa5 [.int .i64]->Prop) (f:qa5 [.int .i64]->List Int) (h:ChoOk m pix p f)
 refine @qe0 _ (∃(v0:Unit),∃(v1:Nat),Nat.le v1 m.length/\((True/\(0:Int)=(↑v1:Int)/\True)/\List.take v1 (qa9 m pix λ(v2:Int)=>f (v2,()))=[]/\True)/\∀(v2:Nat),Nat.le v2 m.length->(decide ((↑v2:Int)<(↑m.length:Int))=true->((0:Int)<=(↑v2:Int)/\(↑v2:Int)<(↑m.length:Int))/\∃(v5:Nat),∃(v6:Nat),Nat.le v6 pix.length/\((True/\True/\(0:Int)=(↑v6:Int)/\True)/\(List.take v2 (qa9 m pix λ(v7:Int)=>f (v7,()))=List.take v5 (qa9 m pix λ(v7:Int)=>f (v7,()))/\True/\True)/\List.take v6 (qp3 (nL m v5) pix)=[]/\True)/\∀(v7:Nat),Nat.le v7 pix.length->(decide ((↑v7:Int)<(↑pix.length:Int))=true->((0:Int)<=(↑v7:Int)/\(↑v7:Int)<(↑pix.length:Int))/\((0:Int)<=nI pix v7/\nI pix v7<(↑(nL m v2).length:Int))/\((0:Nat)<List.length [nI (nL m v2) (nI pix v7).toNat]/\Nat.le ((List.take v7 (qp3 (nL m v5) pix)).length+List.length [nI (nL m v2) (nI pix v7).toNat]) (1000000:Nat))/\fits .i64 ((↑v7:Int)+(1:Int))/\∃(v10:Nat),Nat.le v10 pix.length/\pix.length-v10<pix.length-v7/\(True/\True/\(↑v7:Int)+(1:Int)=(↑v10:Int)/\True)/\(List.take v5 (qa9 m pix λ(v11:Int)=>f (v11,()))=List.take v5 (qa9 m pix λ(v11:Int)=>f (v11,()))/\True/\True)/\List.take v7 (qp3 (nL m v5) pix)++[nI (nL m v2) (nI pix v7).toNat]=List.take v10 (qp3 (nL m v5) pix)/\True)/\(decide ((↑v7:Int)<(↑pix.length:Int))=false->p ((↑v2:Int),())/\Nat.le ((List.take v7 (qp3 (nL m v5) pix)).length+(f ((↑v2:Int),())).length) (1000000:Nat)/\((0:Nat)<(0:Nat)+(1:Nat)/\(List.take v5 (qa9 m pix λ(v10:Int)=>f (v10,()))).length+((0:Nat)+(1:Nat))<=(1000000:Nat))/\fits .i64 ((↑v2:Int)+(1:Int))/\∃(v10:Nat),Nat.le v10 m.length/\m.length-v10<m.length-v2/\(True/\(↑v2:Int)+(1:Int)=(↑v10:Int)/\True)/\(List.take v5 (qa9 m pix λ(v11:Int)=>f (v11,()))++[List.take v7 (qp3 (nL m v5) pix)++f ((↑v2:Int),())]=List.take v10 (qa9 m pix λ(v11:Int)=>f (v11,()))/\True/\True)/\True))/\(decide ((↑v2:Int)<(↑m.length:Int))=false->List.take v2 (qa9 m pix λ(v5:Int)=>f (v5,()))=qa9 m pix λ(v5:Int)=>f (v5,()))) (by kernel_rfl) ?_
 try simp only[z0,z1,z2,z3,z4,z5,z6,z7,z8,z9,z10,Int.reduceEq,z11,z12,z13,z14,z15,z16,z17,z18,z19,z20,z21,z22,z23,z24,z25,z26,z27,z28,z29,z30,Int.reduceLE,Int.reduceLT,z31,z32,z33,z34,qa1]
 try simp only[qb4,qb5,qc8,z31,z32,z2,z1]
 have hr:=h.rows
 have hc:=h.cols
 have hl:=qn7 m pix λi=>f (i,())
 refine⟨(),0,Nat.zero_le _,⟨rfl,rfl⟩,λk hk=>⟨λhlt=>⟨hlt,k,0,Nat.zero_le _,⟨rfl,rfl,rfl⟩,λj hj=>⟨λhj2=>?_,λhj2=>?_⟩⟩,λhge=>?_⟩⟩
 ·have h1:=ql0 (nL m k) pix
  refine⟨hj2,h.at_ k hlt j hj2,by rw[List.length_take]; omega,qa7 (by omega) (by omega),j+1,by omega,by omega,by omega,?_⟩
  rw[qq1 _ j (by omega),q3f _ _ _ hj2]
 ·obtain rfl:j=pix.length:=by omega
  have h1:=ql0 (nL m k) pix
  have h2:=h.fn k hlt
  have h3:(qp3 (nL m k) pix).take pix.length=qp3 (nL m k) pix:=List.take_of_length_le (by omega)
  rw[h3]
  refine⟨h2.1,by omega,by rw[List.length_take]; omega,qa7 (by omega) (by omega),k+1,by omega,by omega,by omega,?_⟩
  rw[takeL_snoc _ k (by omega),q8u _ _ _ _ hlt]
 ·rw[List.take_of_length_le (by omega)]
end Go.Proofs.YtmijnbjlhnpokaaGreat
