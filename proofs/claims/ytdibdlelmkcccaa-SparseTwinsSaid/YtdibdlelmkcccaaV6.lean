/- The errors of masks, readings and pixels, program and reference: contracts by the engine. No condition. -/
import Derived.Test.YtdibdlelmkcccaaV5
set_option linter.unusedVariables false
set_option linter.unusedSimpArgs false
namespace Go.Proofs.Ytdibdlelmkcccaa
open Go Go.RowKit Eng
structure Mk (m:List (List Int)):Prop where
 rows1:1<=m.length
 rows6:m.length<=6
 each:∀i,i<m.length->(nL m i).length=(nL m 0).length
 pix1:1<=(nL m 0).length
 pix10:(nL m 0).length<=10
 small:∀i,i<m.length->∀j,j<(nL m 0).length->-1<=nI (nL m i) j/\nI (nL m i) j<=1
theorem Mk.of {m:List (List Int)} (h:qd3 m=true):Mk m:=by
 unfold qd3 at h
 rw[Bool.and_eq_true,qp5,List.all_eq_true] at h
 obtain⟨h1,h2⟩:=h
 have each:∀i,i<m.length->(nL m i).length=(nL m 0).length/\rowB (nL m i)=true:=λi hi=>by
  have:=h2 (nL m i) (by unfold nL; rw[qp1 (t:=qf6) m i hi]; exact List.getElem_mem hi)
  rw[Bool.and_eq_true,decide_eq_true_eq] at this
  exact this
 have hr:∀i,i<m.length->(1<=(nL m i).length/\(nL m i).length<=10)/\∀j,j<(nL m i).length->-1<=nI (nL m i) j/\nI (nL m i) j<=1:=λi hi=>by
  have:=(each i hi).2
  unfold rowB at this
  rw[Bool.and_eq_true,qp5,List.all_eq_true] at this
  refine⟨by omega,λj hj=>qp5.1 (this.2 _ ?_)⟩
  unfold nI; rw[qp1 (t:=qg1) _ j hj]; exact List.getElem_mem hj
 have h0:=hr 0 (by omega)
 exact⟨by omega,by omega,λi hi=>(each i hi).1,h0.1.1,h0.1.2,λi hi j hj=>(hr i hi).2 j (by rw[(each i hi).1]; exact hj)⟩
def w45 (m:List (List Int)) (l:List Int):Int:=if qd3 m=false then 1 else w1o (nL m 0).length l
abbrev x3w:qc9:=qh6 true none [qk0,qf6] [qg1] (λx=>x.2.1.length<=1000000) (λx=>(w45 x.1 x.2.1,()))
theorem w46:qe1 Try.prog 69 x3w:=by
 refine meets (snd (SpecsOk.cons q5g (SpecsOk.cons w44 (SpecsOk.nil _)))) Try.func69 rfl rfl (λ_ _=>none) (λ_=>by kernel_rfl) (by decide) ?_
 rintro⟨m,l,⟨⟩⟩ h
 revert m l
 intro(m:List (List Int)) (l:List Int) (h:l.length<=1000000)
 refine qe6 (B:=True/\((!qd3 m)=true->(1:Int)=w45 m l)/\((!qd3 m)=false->((0:Int)<=(0:Int)/\(0:Int)<(↑(List.length m):Int))/\(((0:Ty.den qg1)<=(↑(List.length (qa3 (Ty.list (Ty.int .i64)) m (0:Nat))):Int)/\(↑(List.length (qa3 (Ty.list (Ty.int .i64)) m (0:Nat))):Int)<=BIG)/\List.length l<=(1000000:Nat))/\w1o (↑(List.length (qa3 (Ty.list (Ty.int .i64)) m (0:Nat))):Int) l=w45 m l)) (by kernel_rfl) ?_
 try simp only[z0,z1,z2,z3,z4,z5,z6,z7,z8,z9,z10,Int.reduceEq,z11,z12,z13,z14,z15,z16,z17,z18,z19,z20,z21,z22,z23,z24,z25,z26,z27,z28,z29,z30,Int.reduceLE,Int.reduceLT,z31,z32,z33,z34,qa4]
 try simp only[qb8,qb9,qd2,List.set_cons_zero,List.cons.injEq,and_true,true_and]
 refine⟨λhv=>by simp[w45,hv],λhv=>?_⟩
 have hM:=Mk.of hv
 have h1:=hM.rows1
 have h2:=hM.pix10
 unfold BIG
 exact⟨by omega,⟨by omega,h⟩,by simp[w45,hv]⟩
def xa8 (y:List Int):Bool:=y.any λn=>!(inB n (0-1000000) 1000000)
def q1v (m:List (List Int)) (y l:List Int):Int:=if qd3 m=false then 1 else if ¬y.length=m.length then 9 else if xa8 y then 7 else w45 m l
abbrev x3x:qc9:=qh6 true none [qk0,qf6,qf6] [qg1] (λx=>x.2.2.1.length<=1000000) (λx=>(q1v x.1 x.2.1 x.2.2.1,()))
theorem wj0:qe1 Try.prog 48 x3x:=by
 refine meets (snd (SpecsOk.cons q5g (SpecsOk.cons w46 (SpecsOk.cons w43 (SpecsOk.cons (q6n (fs:=[(113,xp4)]) (SpecsOk.cons w1m (SpecsOk.nil _))) (SpecsOk.nil _)))))) Try.func48 rfl rfl (λ_ _=>none) (λ_=>by kernel_rfl) (by decide) ?_
 rintro⟨m,y,l,⟨⟩⟩ h
 revert m y l
 intro(m:List (List Int)) (y:List Int) (l:List Int) (h:l.length<=1000000)
 refine qe6 (B:=True/\((!qd3 m)=true->(1:Int)=q1v m y l)/\((!qd3 m)=false->(((↑(List.length y):Int) != (↑(List.length m):Int))=true->(9:Int)=q1v m y l)/\(((↑(List.length y):Int) != (↑(List.length m):Int))=false->True/\∃(v2:qa7 [Ty.int .i64]->Prop),∃(v3:qa7 [Ty.int .i64]->Bool),(∀(v4:Int × qa7._f [] PUnit.unit),v2 v4->((0:PTy.den (PTy.cap qg1))<=(1000000:Int)/\(1000000:Int)<=BIG)/\(!inB (Prod.fst v4) ((0:Int)-(1000000:Int)) (1000000:Int))=v3 v4)/\(List.length y<=(1000000:Nat)/\∀(v4:Nat),v4<List.length y->v2 (qa3 (Ty.int .i64) y v4,()))/\((List.any y λ(v5:Int)=>v3 (v5,()))=true->(7:Int)=q1v m y l)/\((List.any y λ(v5:Int)=>v3 (v5,()))=false->List.length l<=(1000000:Nat)/\w45 m l=q1v m y l)))) (by kernel_rfl) ?_
 try simp only[z0,z1,z2,z3,z4,z5,z6,z7,z8,z9,z10,Int.reduceEq,z11,z12,z13,z14,z15,z16,z17,z18,z19,z20,z21,z22,z23,z24,z25,z26,z27,z28,z29,z30,Int.reduceLE,Int.reduceLT,z31,z32,z33,z34,qa4]
 try simp only[qb8,qb9,qd2,List.set_cons_zero,List.cons.injEq,and_true,true_and]
 refine⟨λhv=>by simp[q1v,hv],λhv=>⟨λhl=>?_,λhl=>?_⟩⟩
 ·have hl:¬y.length=m.length:=by omega
  simp[q1v,hv,hl]
 have hl:y.length=m.length:=by omega
 have hM:=Mk.of hv
 have h1:=hM.rows6
 refine⟨λ_=>True,λx=>!(inB x.1 (0-1000000) 1000000),λx _=>⟨by decide,by simp⟩,⟨by omega,λ_ _=>trivial⟩,λho=>?_,λho=>⟨h,?_⟩⟩
 ·have ho:xa8 y=true:=ho
  simp[q1v,hv,hl,ho]
 ·have ho:xa8 y=false:=ho
  simp[q1v,hv,hl,ho]
structure q6o (m:List (List Int)):Prop where
 rows:m.length<=9223372036854775807
 each:∀i,i<m.length->(nL m i).length<=9223372036854775807
structure RowTo (l:List Int) (k:Nat):Prop where
 le:k<=l.length
 ok:∀i,i<k->inB (nI l i) (-1) 1=true
def xp6 (l:List Int):Nat->Option Inv
 | 0=>some (Inv.of [7] 0 (λk:Nat=>[(7,.lit (.int .i64 k))]) (λ_=>[]) (λk=>RowTo l k) (λk=>l.length-k))
 | _=>none
theorem w47 {l:List Int} {k:Nat} (hk:k<l.length) (h:inB (nI l k) (-1) 1=false):rowB l=false:=by
 cases e:rowB l with
 | false=>rfl
 | true=>
  unfold rowB at e
  rw[Bool.and_eq_true,List.all_eq_true] at e
  have:=e.2 (nI l k) (by rw[qh9 l k hk]; exact List.getElem_mem hk)
  rw[h] at this; cases this
theorem RowTo.all {l:List Int} (h:RowTo l l.length):(l.all λn=>inB n (-1) 1)=true:=by
 rw[List.all_eq_true]
 intro x hx
 obtain⟨i,hi,rfl⟩:=List.getElem_of_mem hx
 rw[<- qh9 l i hi]; exact h.ok i hi
abbrev xz1:qc9:=qh6 true none [qf6] [.bool] (λx=>x.1.length<=9223372036854775807) (λx=>(rowB x.1,()))
theorem w1p:qe1 Try.prog 97 xz1:=by
 refine meets (snd (SpecsOk.cons qz5 (SpecsOk.nil _))) Try.func97 rfl rfl (λx=>xp6 x.1) (λ_=>by kernel_rfl) (by decide) ?_
 rintro⟨l,⟨⟩⟩ h
 revert l
 intro(l:List Int) (h:l.length<=9223372036854775807)
 refine qe6 (B:=∃(v0:Unit),∃(v1:Nat),RowTo l v1/\(((0:Int)=(↑v1:Int)/\True)/\True)/\∀(v2:Nat),RowTo l v2->(decide ((↑v2:Int)<(↑(List.length l):Int))=true->((0:Int)<=(↑v2:Int)/\(↑v2:Int)<(↑(List.length l):Int))/\True/\((!inB (qa3 (Ty.int .i64) l (Int.toNat (↑v2:Int))) (-1:Int) (1:Int))=true->false=rowB l)/\((!inB (qa3 (Ty.int .i64) l (Int.toNat (↑v2:Int))) (-1:Int) (1:Int))=false->fits .i64 ((↑v2:Int)+(1:Int))/\∃(v6:Nat),RowTo l v6/\List.length l-v6<List.length l-v2/\((↑v2:Int)+(1:Int)=(↑v6:Int)/\True)/\True))/\(decide ((↑v2:Int)<(↑(List.length l):Int))=false->True/\inB (↑(List.length l):Int) (1:Int) (10:Int)=rowB l)) (by kernel_rfl) ?_
 try simp only[z0,z1,z2,z3,z4,z5,z6,z7,z8,z9,z10,Int.reduceEq,z11,z12,z13,z14,z15,z16,z17,z18,z19,z20,z21,z22,z23,z24,z25,z26,z27,z28,z29,z30,Int.reduceLE,Int.reduceLT,z31,z32,z33,z34,qa4]
 try simp only[qb8,qb9,qd2,List.set_cons_zero,List.cons.injEq,and_true,true_and]
 refine⟨(),0,⟨Nat.zero_le _,λi hi=>by omega⟩,rfl,λk hk=>⟨λhlt=>⟨hlt,λh1=>(w47 hlt h1).symm,λh1=>⟨qa8 (by omega) (by omega),k+1,⟨hlt,λi hi=>?_⟩,by omega,by omega⟩⟩,λhge=>?_⟩⟩
 ·by_cases e:i=k
  ·subst e; exact h1
  ·exact hk.ok i (by omega)
 ·obtain rfl:k=l.length:=by have:=hk.le; omega
  rw[rowB,hk.all,Bool.and_true]
structure xu9 (m:List (List Int)) (k:Nat):Prop where
 le:k<=m.length
 ok:∀i,i<k->rowB (nL m i)=true/\(nL m i).length=(nL m 0).length
def x3y (m:List (List Int)):Nat->Option Inv
 | 0=>some (Inv.of [7] 0 (λk:Nat=>[(7,.lit (.int .i64 k))]) (λ_=>[]) (λk=>xu9 m k) (λk=>m.length-k))
 | _=>none
theorem q6p {m:List (List Int)} {k:Nat} (hk:k<m.length) (h:rowB (nL m k)=false\/¬(nL m k).length=(nL m 0).length):qd3 m=false:=by
 cases e:qd3 m with
 | false=>rfl
 | true=>
  unfold qd3 at e
  rw[Bool.and_eq_true,List.all_eq_true] at e
  have:=e.2 (nL m k) (by rw[qm7 m k hk]; exact List.getElem_mem hk)
  rw[Bool.and_eq_true,decide_eq_true_eq] at this
  rcases h with h | h
  ·rw[h] at this; cases this.2
  ·exact absurd this.1 h
abbrev sV2:qc9:=qh6 true none [qk0] [.bool] (λx=>q6o x.1) (λx=>(qd3 x.1,()))
theorem q5h:qe1 Try.prog 65 sV2:=by
 refine meets (snd (SpecsOk.cons qz5 (SpecsOk.cons w1p (SpecsOk.nil _)))) Try.func65 rfl rfl (λx=>x3y x.1) (λ_=>by kernel_rfl) (by decide) ?_
 rintro⟨m,⟨⟩⟩ h
 revert m
 intro(m:List (List Int)) (h:q6o m)
 refine qe6 (B:=∃(v0:Unit),∃(v1:Nat),xu9 m v1/\(((0:Int)=(↑v1:Int)/\True)/\True)/\∀(v2:Nat),xu9 m v2->(decide ((↑v2:Int)<(↑(List.length m):Int))=true->((0:Int)<=(↑v2:Int)/\(↑v2:Int)<(↑(List.length m):Int))/\List.length (qa3 (Ty.list (Ty.int .i64)) m (Int.toNat (↑v2:Int)))<=(9223372036854775807:Nat)/\((!rowB (qa3 (Ty.list (Ty.int .i64)) m (Int.toNat (↑v2:Int))))=true->false=qd3 m)/\((!rowB (qa3 (Ty.list (Ty.int .i64)) m (Int.toNat (↑v2:Int))))=false->((0:Int)<=(0:Int)/\(0:Int)<(↑(List.length m):Int))/\(((↑(List.length (qa3 (Ty.list (Ty.int .i64)) m (Int.toNat (↑v2:Int)))):Int) != (↑(List.length (qa3 (Ty.list (Ty.int .i64)) m (0:Nat))):Int))=true->false=qd3 m)/\(((↑(List.length (qa3 (Ty.list (Ty.int .i64)) m (Int.toNat (↑v2:Int)))):Int) != (↑(List.length (qa3 (Ty.list (Ty.int .i64)) m (0:Nat))):Int))=false->fits .i64 ((↑v2:Int)+(1:Int))/\∃(v7:Nat),xu9 m v7/\List.length m-v7<List.length m-v2/\((↑v2:Int)+(1:Int)=(↑v7:Int)/\True)/\True)))/\(decide ((↑v2:Int)<(↑(List.length m):Int))=false->True/\inB (↑(List.length m):Int) (1:Int) (6:Int)=qd3 m)) (by kernel_rfl) ?_
 try simp only[z0,z1,z2,z3,z4,z5,z6,z7,z8,z9,z10,Int.reduceEq,z11,z12,z13,z14,z15,z16,z17,z18,z19,z20,z21,z22,z23,z24,z25,z26,z27,z28,z29,z30,Int.reduceLE,Int.reduceLT,z31,z32,z33,z34,qa4]
 try simp only[qb8,qb9,qd2,List.set_cons_zero,List.cons.injEq,and_true,true_and]
 have hr:=h.rows
 refine⟨(),0,⟨Nat.zero_le _,λi hi=>by omega⟩,rfl,λk hk=>⟨λhlt=>⟨hlt,h.each k hlt,λh1=>(q6p hlt (.inl h1)).symm,λh1=>⟨by omega,λh2=>(q6p hlt (.inr (by omega))).symm,λh2=>⟨qa8 (by omega) (by omega),k+1,⟨hlt,λi hi=>?_⟩,by omega,by omega⟩⟩⟩,λhge=>?_⟩⟩
 ·by_cases e:i=k
  ·subst e; exact⟨h1,by omega⟩
  ·exact hk.ok i (by omega)
 ·obtain rfl:k=m.length:=by have:=hk.le; omega
  have:(m.all λl=>decide (l.length=(nL m 0).length) && rowB l)=true:=by
   rw[List.all_eq_true]
   intro x hx
   obtain⟨i,hi,rfl⟩:=List.getElem_of_mem hx
   have:=hk.ok i hi
   rw[qm7 m i hi] at this
   rw[this.1,this.2]; simp
  rw[qd3,this,Bool.and_true]
def xz2 (m:List (List Int)) (y:List Int):Int:=if ¬y.length=m.length then 9 else if xa8 y then 7 else 0
def wj1 (m:List (List Int)) (y:List Int):Int:=if qd3 m=false then 1 else xz2 m y
end Go.Proofs.Ytdibdlelmkcccaa
