/- The errors of masks, readings and pixels, program and reference: contracts by the engine. No condition. -/
import Derived.Test.YtdibdlelmkcccaaV5
set_option linter.unusedVariables false
set_option linter.unusedSimpArgs false
namespace Go.Proofs.Ytdibdlelmkcccaa
open Go Go.RowKit Eng
structure Mk (m:List (List Int)):Prop where
 rows1:1<=m.length
 rows6:m.length<=6
 each:∀i,i<m.length->(nL m i).length=(nL m 0).length
 pix1:1<=(nL m 0).length
 pix10:(nL m 0).length<=10
 small:∀i,i<m.length->∀j,j<(nL m 0).length->-1<=nI (nL m i) j/\nI (nL m i) j<=1
theorem Mk.of {m:List (List Int)} (h:qe7 m=true):Mk m:=by
 unfold qe7 at h
 rw[Bool.and_eq_true,qu6,List.all_eq_true] at h
 obtain⟨h1,h2⟩:=h
 have each:∀i,i<m.length->(nL m i).length=(nL m 0).length/\rowB (nL m i)=true:=λi hi=>by
  have:=h2 (nL m i) (by unfold nL; rw[ql1 (t:=qf7) m i hi]; exact List.getElem_mem hi)
  rw[Bool.and_eq_true,decide_eq_true_eq] at this
  exact this
 have hr:∀i,i<m.length->(1<=(nL m i).length/\(nL m i).length<=10)/\∀j,j<(nL m i).length->-1<=nI (nL m i) j/\nI (nL m i) j<=1:=λi hi=>by
  have:=(each i hi).2
  unfold rowB at this
  rw[Bool.and_eq_true,qu6,List.all_eq_true] at this
  refine⟨by omega,λj hj=>qu6.1 (this.2 _ ?_)⟩
  unfold nI; rw[ql1 (t:=qg4) _ j hj]; exact List.getElem_mem hj
 have h0:=hr 0 (by omega)
 exact⟨by omega,by omega,λi hi=>(each i hi).1,h0.1.1,h0.1.2,λi hi j hj=>(hr i hi).2 j (by rw[(each i hi).1]; exact hj)⟩
def wh5 (m:List (List Int)) (l:List Int):Int:=if qe7 m=false then 1 else w11 (nL m 0).length l
abbrev x6i:qc7:=qg3 true none [ql6,qf7] [qg4] (λx=>x.2.1.length<=1000000) (λx=>(wh5 x.1 x.2.1,()))
theorem wh6:qd8 Try.prog 69 x6i:=by
 refine meets (snd (SpecsOk.cons q4q (SpecsOk.cons w5o (SpecsOk.nil _)))) Try.func69 rfl rfl (λ_ _=>none) (λ_=>by kernel_rfl) (by decide) ?_
 rintro⟨m,l,⟨⟩⟩ h
 revert m l
 intro(m:List (List Int)) (l:List Int) (h:l.length<=1000000)
 refine @qe0 _ (True/\((!qe7 m)=true->(1:Int)=wh5 m l)/\((!qe7 m)=false->((0:Int)<=(0:Int)/\(0:Int)<(↑(List.length m):Int))/\(((0:Ty.den qg4)<=(↑(List.length (qa1 (Ty.list (Ty.int .i64)) m (0:Nat))):Int)/\(↑(List.length (qa1 (Ty.list (Ty.int .i64)) m (0:Nat))):Int)<=BIG)/\List.length l<=(1000000:Nat))/\w11 (↑(List.length (qa1 (Ty.list (Ty.int .i64)) m (0:Nat))):Int) l=wh5 m l)) (by kernel_rfl) ?_
 try simp only[z0,z1,z2,z3,z4,z5,z6,z7,z8,z9,z10,Int.reduceEq,z11,z12,z13,z14,z15,z16,z17,z18,z19,z20,z21,z22,z23,z24,z25,z26,z27,z28,z29,z30,Int.reduceLE,Int.reduceLT,z31,z32,z33,z34,qa3]
 try simp only[qb3,qb4,qc8,List.set_cons_zero,List.cons.injEq,and_true,true_and]
 refine⟨λhv=>by simp[wh5,hv],λhv=>?_⟩
 have hM:=Mk.of hv
 have h1:=hM.rows1
 have h2:=hM.pix10
 unfold BIG
 exact⟨by omega,⟨by omega,h⟩,by simp[wh5,hv]⟩
def w3b (y:List Int):Bool:=y.any λn=>!(inB n (0-1000000) 1000000)
def qt6 (m:List (List Int)) (y l:List Int):Int:=if qe7 m=false then 1 else if ¬y.length=m.length then 9 else if w3b y then 7 else wh5 m l
abbrev x6j:qc7:=qg3 true none [ql6,qf7,qf7] [qg4] (λx=>x.2.2.1.length<=1000000) (λx=>(qt6 x.1 x.2.1 x.2.2.1,()))
theorem q2u:qd8 Try.prog 48 x6j:=by
 refine meets (snd (SpecsOk.cons q4q (SpecsOk.cons wh6 (SpecsOk.cons w5n (SpecsOk.cons (q50 (fs:=[(113,xu0)]) (SpecsOk.cons w1y (SpecsOk.nil _))) (SpecsOk.nil _)))))) Try.func48 rfl rfl (λ_ _=>none) (λ_=>by kernel_rfl) (by decide) ?_
 rintro⟨m,y,l,⟨⟩⟩ h
 revert m y l
 intro(m:List (List Int)) (y:List Int) (l:List Int) (h:l.length<=1000000)
 refine @qe0 _ (True/\((!qe7 m)=true->(1:Int)=qt6 m y l)/\((!qe7 m)=false->(((↑(List.length y):Int) != (↑(List.length m):Int))=true->(9:Int)=qt6 m y l)/\(((↑(List.length y):Int) != (↑(List.length m):Int))=false->True/\∃(v2:qa6 [Ty.int .i64]->Prop),∃(v3:qa6 [Ty.int .i64]->Bool),(∀(v4:Int × qa6._f [] PUnit.unit),v2 v4->((0:PTy.den (PTy.cap qg4))<=(1000000:Int)/\(1000000:Int)<=BIG)/\(!inB (Prod.fst v4) ((0:Int)-(1000000:Int)) (1000000:Int))=v3 v4)/\(List.length y<=(1000000:Nat)/\∀(v4:Nat),v4<List.length y->v2 (qa1 (Ty.int .i64) y v4,()))/\((List.any y λ(v5:Int)=>v3 (v5,()))=true->(7:Int)=qt6 m y l)/\((List.any y λ(v5:Int)=>v3 (v5,()))=false->List.length l<=(1000000:Nat)/\wh5 m l=qt6 m y l)))) (by kernel_rfl) ?_
 try simp only[z0,z1,z2,z3,z4,z5,z6,z7,z8,z9,z10,Int.reduceEq,z11,z12,z13,z14,z15,z16,z17,z18,z19,z20,z21,z22,z23,z24,z25,z26,z27,z28,z29,z30,Int.reduceLE,Int.reduceLT,z31,z32,z33,z34,qa3]
 try simp only[qb3,qb4,qc8,List.set_cons_zero,List.cons.injEq,and_true,true_and]
 refine⟨λhv=>by simp[qt6,hv],λhv=>⟨λhl=>?_,λhl=>?_⟩⟩
 ·have hl:¬y.length=m.length:=by omega
  simp[qt6,hv,hl]
 have hl:y.length=m.length:=by omega
 have hM:=Mk.of hv
 have h1:=hM.rows6
 refine⟨λ_=>True,λx=>!(inB x.1 (0-1000000) 1000000),λx _=>⟨by decide,by simp⟩,⟨by omega,λ_ _=>trivial⟩,λho=>?_,λho=>⟨h,?_⟩⟩
 ·have ho:w3b y=true:=ho
  simp[qt6,hv,hl,ho]
 ·have ho:w3b y=false:=ho
  simp[qt6,hv,hl,ho]
structure q51 (m:List (List Int)):Prop where
 rows:m.length<=9223372036854775807
 each:∀i,i<m.length->(nL m i).length<=9223372036854775807
structure RowTo (l:List Int) (k:Nat):Prop where
 le:k<=l.length
 ok:∀i,i<k->inB (nI l i) (-1) 1=true
def xu2 (l:List Int):Nat->Option Inv
 | 0=>some (Inv.of [7] 0 (λk:Nat=>[(7,.lit (.int .i64 k))]) (λ_=>[]) (λk=>RowTo l k) (λk=>l.length-k))
 | _=>none
theorem w5p {l:List Int} {k:Nat} (hk:k<l.length) (h:inB (nI l k) (-1) 1=false):rowB l=false:=by
 cases e:rowB l with
 | false=>rfl
 | true=>
  unfold rowB at e
  rw[Bool.and_eq_true,List.all_eq_true] at e
  have:=e.2 (nI l k) (by rw[qi5 l k hk]; exact List.getElem_mem hk)
  rw[h] at this; cases this
theorem RowTo.all {l:List Int} (h:RowTo l l.length):(l.all λn=>inB n (-1) 1)=true:=by
 rw[List.all_eq_true]
 intro x hx
 obtain⟨i,hi,rfl⟩:=List.getElem_of_mem hx
 rw[<- qi5 l i hi]; exact h.ok i hi
abbrev x1x:qc7:=qg3 true none [qf7] [.bool] (λx=>x.1.length<=9223372036854775807) (λx=>(rowB x.1,()))
theorem w13:qd8 Try.prog 97 x1x:=by
 refine meets (snd (SpecsOk.cons q2s (SpecsOk.nil _))) Try.func97 rfl rfl (λx=>xu2 x.1) (λ_=>by kernel_rfl) (by decide) ?_
 rintro⟨l,⟨⟩⟩ h
 revert l
 intro(l:List Int) (h:l.length<=9223372036854775807)
 refine @qe0 _ (∃(v0:Unit),∃(v1:Nat),RowTo l v1/\(((0:Int)=(↑v1:Int)/\True)/\True)/\∀(v2:Nat),RowTo l v2->(decide ((↑v2:Int)<(↑(List.length l):Int))=true->((0:Int)<=(↑v2:Int)/\(↑v2:Int)<(↑(List.length l):Int))/\True/\((!inB (qa1 (Ty.int .i64) l (Int.toNat (↑v2:Int))) (-1:Int) (1:Int))=true->false=rowB l)/\((!inB (qa1 (Ty.int .i64) l (Int.toNat (↑v2:Int))) (-1:Int) (1:Int))=false->fits .i64 ((↑v2:Int)+(1:Int))/\∃(v6:Nat),RowTo l v6/\List.length l-v6<List.length l-v2/\((↑v2:Int)+(1:Int)=(↑v6:Int)/\True)/\True))/\(decide ((↑v2:Int)<(↑(List.length l):Int))=false->True/\inB (↑(List.length l):Int) (1:Int) (10:Int)=rowB l)) (by kernel_rfl) ?_
 try simp only[z0,z1,z2,z3,z4,z5,z6,z7,z8,z9,z10,Int.reduceEq,z11,z12,z13,z14,z15,z16,z17,z18,z19,z20,z21,z22,z23,z24,z25,z26,z27,z28,z29,z30,Int.reduceLE,Int.reduceLT,z31,z32,z33,z34,qa3]
 try simp only[qb3,qb4,qc8,List.set_cons_zero,List.cons.injEq,and_true,true_and]
 refine⟨(),0,⟨Nat.zero_le _,λi hi=>by omega⟩,rfl,λk hk=>⟨λhlt=>⟨hlt,λh1=>(w5p hlt h1).symm,λh1=>⟨qb9 (by omega) (by omega),k+1,⟨hlt,λi hi=>?_⟩,by omega,by omega⟩⟩,λhge=>?_⟩⟩
 ·by_cases e:i=k
  ·subst e; exact h1
  ·exact hk.ok i (by omega)
 ·obtain rfl:k=l.length:=by have:=hk.le; omega
  rw[rowB,hk.all,Bool.and_true]
structure x0e (m:List (List Int)) (k:Nat):Prop where
 le:k<=m.length
 ok:∀i,i<k->rowB (nL m i)=true/\(nL m i).length=(nL m 0).length
def x6k (m:List (List Int)):Nat->Option Inv
 | 0=>some (Inv.of [7] 0 (λk:Nat=>[(7,.lit (.int .i64 k))]) (λ_=>[]) (λk=>x0e m k) (λk=>m.length-k))
 | _=>none
theorem q52 {m:List (List Int)} {k:Nat} (hk:k<m.length) (h:rowB (nL m k)=false\/¬(nL m k).length=(nL m 0).length):qe7 m=false:=by
 cases e:qe7 m with
 | false=>rfl
 | true=>
  unfold qe7 at e
  rw[Bool.and_eq_true,List.all_eq_true] at e
  have:=e.2 (nL m k) (by rw[qq0 m k hk]; exact List.getElem_mem hk)
  rw[Bool.and_eq_true,decide_eq_true_eq] at this
  rcases h with h | h
  ·rw[h] at this; cases this.2
  ·exact absurd this.1 h
abbrev sV2:qc7:=qg3 true none [ql6] [.bool] (λx=>q51 x.1) (λx=>(qe7 x.1,()))
theorem w9l:qd8 Try.prog 65 sV2:=by
 refine meets (snd (SpecsOk.cons q2s (SpecsOk.cons w13 (SpecsOk.nil _)))) Try.func65 rfl rfl (λx=>x6k x.1) (λ_=>by kernel_rfl) (by decide) ?_
 rintro⟨m,⟨⟩⟩ h
 revert m
 intro(m:List (List Int)) (h:q51 m)
 refine @qe0 _ (∃(v0:Unit),∃(v1:Nat),x0e m v1/\(((0:Int)=(↑v1:Int)/\True)/\True)/\∀(v2:Nat),x0e m v2->(decide ((↑v2:Int)<(↑(List.length m):Int))=true->((0:Int)<=(↑v2:Int)/\(↑v2:Int)<(↑(List.length m):Int))/\List.length (qa1 (Ty.list (Ty.int .i64)) m (Int.toNat (↑v2:Int)))<=(9223372036854775807:Nat)/\((!rowB (qa1 (Ty.list (Ty.int .i64)) m (Int.toNat (↑v2:Int))))=true->false=qe7 m)/\((!rowB (qa1 (Ty.list (Ty.int .i64)) m (Int.toNat (↑v2:Int))))=false->((0:Int)<=(0:Int)/\(0:Int)<(↑(List.length m):Int))/\(((↑(List.length (qa1 (Ty.list (Ty.int .i64)) m (Int.toNat (↑v2:Int)))):Int) != (↑(List.length (qa1 (Ty.list (Ty.int .i64)) m (0:Nat))):Int))=true->false=qe7 m)/\(((↑(List.length (qa1 (Ty.list (Ty.int .i64)) m (Int.toNat (↑v2:Int)))):Int) != (↑(List.length (qa1 (Ty.list (Ty.int .i64)) m (0:Nat))):Int))=false->fits .i64 ((↑v2:Int)+(1:Int))/\∃(v7:Nat),x0e m v7/\List.length m-v7<List.length m-v2/\((↑v2:Int)+(1:Int)=(↑v7:Int)/\True)/\True)))/\(decide ((↑v2:Int)<(↑(List.length m):Int))=false->True/\inB (↑(List.length m):Int) (1:Int) (6:Int)=qe7 m)) (by kernel_rfl) ?_
 try simp only[z0,z1,z2,z3,z4,z5,z6,z7,z8,z9,z10,Int.reduceEq,z11,z12,z13,z14,z15,z16,z17,z18,z19,z20,z21,z22,z23,z24,z25,z26,z27,z28,z29,z30,Int.reduceLE,Int.reduceLT,z31,z32,z33,z34,qa3]
 try simp only[qb3,qb4,qc8,List.set_cons_zero,List.cons.injEq,and_true,true_and]
 have hr:=h.rows
 refine⟨(),0,⟨Nat.zero_le _,λi hi=>by omega⟩,rfl,λk hk=>⟨λhlt=>⟨hlt,h.each k hlt,λh1=>(q52 hlt (.inl h1)).symm,λh1=>⟨by omega,λh2=>(q52 hlt (.inr (by omega))).symm,λh2=>⟨qb9 (by omega) (by omega),k+1,⟨hlt,λi hi=>?_⟩,by omega,by omega⟩⟩⟩,λhge=>?_⟩⟩
 ·by_cases e:i=k
  ·subst e; exact⟨h1,by omega⟩
  ·exact hk.ok i (by omega)
 ·obtain rfl:k=m.length:=by have:=hk.le; omega
  have:(m.all λl=>decide (l.length=(nL m 0).length) && rowB l)=true:=by
   rw[List.all_eq_true]
   intro x hx
   obtain⟨i,hi,rfl⟩:=List.getElem_of_mem hx
   have:=hk.ok i hi
   rw[qq0 m i hi] at this
   rw[this.1,this.2]; simp
  rw[qe7,this,Bool.and_true]
structure w9m (y:List Int) (k:Nat):Prop where
 le:k<=y.length
 ok:∀i,i<k->inB (nI y i) (-1000000) 1000000=true
def w5q (m:List (List Int)) (y:List Int):Int:=if ¬y.length=m.length then 9 else if w3b y then 7 else 0
def x1y (y:List Int):Nat->Option Inv
 | 0=>some (Inv.of [14] 0 (λk:Nat=>[(14,.lit (.int .i64 k))]) (λ_=>[]) (λk=>w9m y k) (λk=>y.length-k))
 | _=>none
abbrev x6l:qc7:=qg3 true none [ql6,qf7] [qg4] (λx=>x.1.length<=1000000) (λx=>(w5q x.1 x.2.1,()))
theorem w5r:qd8 Try.prog 85 x6l:=by
 refine meets (snd (SpecsOk.cons q2t (SpecsOk.nil _))) Try.func85 rfl rfl (λx=>x1y x.2.1) (λ_=>by kernel_rfl) (by decide) ?_
 rintro⟨m,y,⟨⟩⟩ h
 revert m y
 intro(m:List (List Int)) (y:List Int) (h:m.length<=1000000)
 refine @qe0 _ ((((↑(List.length y):Int) != (↑(List.length m):Int))=true->(9:Int)=w5q m y)/\(((↑(List.length y):Int) != (↑(List.length m):Int))=false->∃(v1:Unit),∃(v2:Nat),w9m y v2/\(((0:Int)=(↑v2:Int)/\True)/\True)/\∀(v3:Nat),w9m y v3->(decide ((↑v3:Int)<(↑(List.length y):Int))=true->((0:Int)<=(↑v3:Int)/\(↑v3:Int)<(↑(List.length y):Int))/\True/\((!inB (qa1 (Ty.int .i64) y (Int.toNat (↑v3:Int))) (-1000000:Int) (1000000:Int))=true->(7:Int)=w5q m y)/\((!inB (qa1 (Ty.int .i64) y (Int.toNat (↑v3:Int))) (-1000000:Int) (1000000:Int))=false->fits .i64 ((↑v3:Int)+(1:Int))/\∃(v7:Nat),w9m y v7/\List.length y-v7<List.length y-v3/\((↑v3:Int)+(1:Int)=(↑v7:Int)/\True)/\True))/\(decide ((↑v3:Int)<(↑(List.length y):Int))=false->(0:Int)=w5q m y))) (by kernel_rfl) ?_
 try simp only[z0,z1,z2,z3,z4,z5,z6,z7,z8,z9,z10,Int.reduceEq,z11,z12,z13,z14,z15,z16,z17,z18,z19,z20,z21,z22,z23,z24,z25,z26,z27,z28,z29,z30,Int.reduceLE,Int.reduceLT,z31,z32,z33,z34,qa3]
 try simp only[qb3,qb4,qc8,List.set_cons_zero,List.cons.injEq,and_true,true_and]
 refine⟨λhl=>by rw[w5q,if_pos (by omega)],λhl=>?_⟩
 have hl:y.length=m.length:=by omega
 have e0:∀x:Int,inB x (-1000000) 1000000=inB x (0-1000000) 1000000:=λ_=>rfl
 refine⟨(),0,⟨Nat.zero_le _,λi hi=>by omega⟩,rfl,λk hk=>⟨λhlt=>⟨hlt,λh1=>?_,λh1=>⟨qb9 (by omega) (by omega),k+1,⟨hlt,λi hi=>?_⟩,by omega,by omega⟩⟩,λhge=>?_⟩⟩
 ·have:w3b y=true:=by
   unfold w3b
   rw[List.any_eq_true]
   exact⟨nI y k,by rw[qi5 y k hlt]; exact List.getElem_mem hlt,by rw[<- e0,h1]; rfl⟩
  simp[w5q,hl,this]
 ·by_cases e:i=k
  ·subst e; exact h1
  ·exact hk.ok i (by omega)
 ·obtain rfl:k=y.length:=by have:=hk.le; omega
  have:w3b y=false:=by
   unfold w3b
   rw[List.any_eq_false]
   intro x hx
   obtain⟨i,hi,rfl⟩:=List.getElem_of_mem hx
   have:=hk.ok i hi
   rw[qi5 y i hi,e0] at this
   rw[this]; simp
  simp[w5q,hl,this]
def qu7 (m:List (List Int)) (y:List Int):Int:=if qe7 m=false then 1 else w5q m y
abbrev xu3:qc7:=qg3 true none [ql6,qf7] [qg4] (λx=>q51 x.1) (λx=>(qu7 x.1 x.2.1,()))
theorem wo6:qd8 Try.prog 50 xu3:=by
 refine meets (snd (SpecsOk.cons w9l (SpecsOk.cons w5r (SpecsOk.nil _)))) Try.func50 rfl rfl (λ_ _=>none) (λ_=>by kernel_rfl) (by decide) ?_
 rintro⟨m,y,⟨⟩⟩ h
 revert m y
 intro(m:List (List Int)) (y:List Int) (h:q51 m)
 refine @qe0 _ (q51 m/\((!qe7 m)=true->(1:Int)=qu7 m y)/\((!qe7 m)=false->List.length m<=(1000000:Nat)/\w5q m y=qu7 m y)) (by kernel_rfl) ?_
 try simp only[z0,z1,z2,z3,z4,z5,z6,z7,z8,z9,z10,Int.reduceEq,z11,z12,z13,z14,z15,z16,z17,z18,z19,z20,z21,z22,z23,z24,z25,z26,z27,z28,z29,z30,Int.reduceLE,Int.reduceLT,z31,z32,z33,z34,qa3]
 try simp only[qb3,qb4,qc8,List.set_cons_zero,List.cons.injEq,and_true,true_and]
 refine⟨h,λhv=>by simp[qu7,hv],λhv=>⟨?_,by simp[qu7,hv]⟩⟩
 have:=(Mk.of hv).rows6
 omega
end Go.Proofs.Ytdibdlelmkcccaa
