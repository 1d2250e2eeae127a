/- Rows with chosen columns: contracts by the engine. No condition. -/
import Derived.Test.YtempacilejhbgaaGreatV4
set_option linter.unusedVariables false
set_option linter.unusedSimpArgs false
namespace Go.Proofs.YtempacilejhbgaaGreat
open Go Go.RowKit Eng
abbrev xv7:qb9:=hspec [] true none [.d tInt,.cap tInt] [.bool] (λx=>0<=x.2.1/\x.2.1<=BIG) (λx=>(!(inB x.1 (0-x.2.1) x.2.1),()))
theorem w2r:Meets Tryz.prog 99 xv7:=by
 refine qt8 (SpecsOk.nil _) (snd (SpecsOk.cons qy1 (SpecsOk.nil _))) Tryz.func99 rfl rfl (λ_ _=>none) (λ_=>by kernel_rfl) (by decide) ?_
 rintro⟨n,k,⟨⟩⟩ h
 revert n k
 intro(n:Int) (k:Int) (h:0<=k/\k<=BIG)
 refine @qd8 _ (fits .i64 ((0:Int)-k)/\True/\(!inB n ((0:Int)-k) k)=!inB n ((0:Int)-k) k) (by kernel_rfl) ?_
 try simp only[z0,z1,z2,z3,z4,z5,z6,z7,z8,z9,z10,Int.reduceEq,z11,z12,z13,z14,z15,z16,z17,z18,z19,z20,z21,z22,z23,z24,z25,z26,z27,z28,z29,z30,Int.reduceLE,Int.reduceLT,z31,z32,z33,z34,qa3]
 try simp only[qb3,qb4,qc7,z31,z32,z2,z1]
 unfold BIG at h
 exact qa7 (by omega) (by omega)
abbrev x50:qb9:=w5l false none [tInt] (λ_=>True) (λx=>.clo 99 (.cons (.imm (.cons (.lit (.int .i64 x.1)) .nil) 0) .nil))
theorem w5z:Meets Tryz.prog 56 x50:=by
 refine wi9 (snd (SpecsOk.nil _)) Tryz.func56 rfl rfl (λ_ _=>none) (λ_=>by kernel_rfl) (by decide) ?_
 rintro⟨m,⟨⟩⟩ -
 revert m
 intro(m:Int)
 refine @qd8 _ (((m=m/\True)/\(0:Nat)=(0:Nat))/\True) (by kernel_rfl) ?_
 try simp only[z0,z1,z2,z3,z4,z5,z6,z7,z8,z9,z10,Int.reduceEq,z11,z12,z13,z14,z15,z16,z17,z18,z19,z20,z21,z22,z23,z24,z25,z26,z27,z28,z29,z30,Int.reduceLE,Int.reduceLT,z31,z32,z33,z34,qa3]
 try simp only[qb3,qb4,qc7,z31,z32,z2,z1]
abbrev xv8:qb9:=hspec [] true none [.d tInt,.cap tInt] [.bool] (λx=>0<=x.2.1/\x.2.1<=BIG) (λx=>(!(inB x.1 0 (x.2.1-1)),()))
theorem w2s:Meets Tryz.prog 101 xv8:=by
 refine qt8 (SpecsOk.nil _) (snd (SpecsOk.cons qy1 (SpecsOk.nil _))) Tryz.func101 rfl rfl (λ_ _=>none) (λ_=>by kernel_rfl) (by decide) ?_
 rintro⟨n,k,⟨⟩⟩ h
 revert n k
 intro(n:Int) (k:Int) (h:0<=k/\k<=BIG)
 refine @qd8 _ (fits .i64 (k-(1:Int))/\True/\(!inB n (0:Int) (k-(1:Int)))=!inB n (0:Int) (k-(1:Int))) (by kernel_rfl) ?_
 try simp only[z0,z1,z2,z3,z4,z5,z6,z7,z8,z9,z10,Int.reduceEq,z11,z12,z13,z14,z15,z16,z17,z18,z19,z20,z21,z22,z23,z24,z25,z26,z27,z28,z29,z30,Int.reduceLE,Int.reduceLT,z31,z32,z33,z34,qa3]
 try simp only[qb3,qb4,qc7,z31,z32,z2,z1]
 unfold BIG at h
 exact qa7 (by omega) (by omega)
def xg5 (l:List Int):Bool:=(List.range l.length).all λi=>decide (i=0) || decide (nI l (i-1)<nI l i)
def wk0 (n:Int) (l:List Int):Int:=if xg5 l=false then 7 else if l.any (λp=>!(inB p 0 (n-1))) then 5 else 0
theorem q5b {l:List Int}:xg5 l=true↔∀i,0<i->i<l.length->nI l (i-1)<nI l i:=by
 unfold xg5
 rw[List.all_eq_true]
 constructor
 ·intro h i h0 hi
  have:=h i (List.mem_range.2 hi)
  simp only[Bool.or_eq_true,decide_eq_true_eq] at this
  exact this.resolve_left (by omega)
 ·intro h i hi
  simp only[Bool.or_eq_true,decide_eq_true_eq]
  by_cases e:i=0
  ·exact .inl e
  ·exact .inr (h i (by omega) (List.mem_range.1 hi))
structure AscTo (l:List Int) (k:Nat):Prop where
 le:k<=l.length
 lt:∀i,0<i->i<k->nI l (i-1)<nI l i
theorem AscTo.step {l:List Int} {k:Nat} (h:AscTo l k) (hk:k<l.length) (h1:k=0\/nI l (k-1)<nI l k):AscTo l (k+1):=
 ⟨hk,λi h0 hi=>by
  by_cases e:i=k
  ·subst e; exact h1.resolve_left (by omega)
  ·exact h.lt i h0 (by omega)⟩
theorem AscTo.all {l:List Int} (h:AscTo l l.length):xg5 l=true:=q5b.2 h.lt
theorem w9v {l:List Int} {k:Nat} (h0:0<k) (hk:k<l.length) (h:nI l k<=nI l (k-1)):xg5 l=false:=by
 cases e:xg5 l with
 | false=>rfl
 | true=>have:=q5b.1 e k h0 hk; omega
def x1w (n:Int) (l:List Int):Nat->Option Inv
 | 0=>some (Inv.of [9] 1 (λk:Nat=>[(9,.lit (.int .i64 k))]) (λ_=>[.box 3 (.cons (.lit (.int .i64 n)) .nil)]) (λk=>AscTo l k) (λk=>l.length-k))
 | _=>none
abbrev x51:qb9:=qg2 true none [tInt,tInts] [tInt] (λx=>(0<=x.1/\x.1<=BIG)/\x.2.1.length<=1000000) (λx=>(wk0 x.1 x.2.1,()))
theorem w50:Meets Tryz.prog 58 x51:=by
 refine meets (snd (SpecsOk.cons (q6h (fs:=[(101,xv8)]) (SpecsOk.cons w2s (SpecsOk.nil _))) (SpecsOk.nil _))) Tryz.func58 rfl rfl (λx=>x1w x.1 x.2.1) (λ_=>by kernel_rfl) (by decide) ?_
 rintro⟨n,l,⟨⟩⟩ h
 revert n l
 intro(n:Int) (l:List Int) (h:(0<=n/\n<=BIG)/\l.length<=1000000)
 refine @qd8 _ (∃(v0:Unit),∃(v1:Nat),AscTo l v1/\(((0:Int)=(↑v1:Int)/\True)/\(n=n/\True)/\True)/\∀(v2:Nat),AscTo l v2->(decide ((↑v2:Int)<(↑l.length:Int))=true->((0:Int)<=(↑v2:Int)/\(↑v2:Int)<(↑l.length:Int))/\(decide ((0:Int)<(↑v2:Int))=true->fits .i64 ((↑v2:Int)-(1:Int))/\((0:Int)<=(↑v2:Int)-(1:Int)/\(↑v2:Int)-(1:Int)<(↑l.length:Int))/\(decide (nI l v2<=nI l ((↑v2:Int)-(1:Int)).toNat)=true->(7:Int)=wk0 n l)/\(decide (nI l v2<=nI l ((↑v2:Int)-(1:Int)).toNat)=false->fits .i64 ((↑v2:Int)+(1:Int))/\∃(v7:Nat),AscTo l v7/\l.length-v7<l.length-v2/\((↑v2:Int)+(1:Int)=(↑v7:Int)/\True)/\(n=n/\True)/\True))/\(decide ((0:Int)<(↑v2:Int))=false->fits .i64 ((↑v2:Int)+(1:Int))/\∃(v6:Nat),AscTo l v6/\l.length-v6<l.length-v2/\((↑v2:Int)+(1:Int)=(↑v6:Int)/\True)/\(n=n/\True)/\True))/\(decide ((↑v2:Int)<(↑l.length:Int))=false->∃(v5:qa6 [Ty.int .i64]->Prop),∃(v6:qa6 [Ty.int .i64]->Bool),(∀(v7:Int × qa6._f [] PUnit.unit),v5 v7->((0:PTy.den (PTy.cap tInt))<=n/\n<=BIG)/\(!inB v7.1 (0:Int) (n-(1:Int)))=v6 v7)/\(l.length<=(1000000:Nat)/\∀(v7:Nat),v7<l.length->v5 (nI l v7,()))/\((List.any l λ(v8:Int)=>v6 (v8,()))=true->(5:Int)=wk0 n l)/\((List.any l λ(v8:Int)=>v6 (v8,()))=false->(0:Int)=wk0 n l))) (by kernel_rfl) ?_
 try simp only[z0,z1,z2,z3,z4,z5,z6,z7,z8,z9,z10,Int.reduceEq,z11,z12,z13,z14,z15,z16,z17,z18,z19,z20,z21,z22,z23,z24,z25,z26,z27,z28,z29,z30,Int.reduceLE,Int.reduceLT,z31,z32,z33,z34,qa3]
 try simp only[qb3,qb4,qc7,z31,z32,z2,z1]
 obtain⟨hn,hl⟩:=h
 refine⟨(),0,⟨Nat.zero_le _,λi h0 hi=>by omega⟩,rfl,λk hk=>⟨λhlt=>⟨hlt,λh0=>?_,λh0=>⟨qa7 (by omega) (by omega),k+1,hk.step hlt (.inl (by omega)),by omega,by omega⟩⟩,λhge=>?_⟩⟩
 ·have e:((k:Int)-1).toNat=k-1:=by omega
  rw[e]
  refine⟨qa7 (by omega) (by omega),by omega,λh1=>?_,λh1=>⟨qa7 (by omega) (by omega),k+1,hk.step hlt (.inr h1),by omega,by omega⟩⟩
  unfold wk0
  rw[if_pos (w9v (by omega) hlt h1)]
 ·obtain rfl:k=l.length:=by have:=hk.le; omega
  refine⟨λ_=>True,λx=>!(inB x.1 0 (n-1)),λx _=>⟨hn,by simp⟩,⟨hl,λ_ _=>trivial⟩,λh1=>?_,λh1=>?_⟩
  ·unfold wk0
   rw[if_neg (by simp[hk.all]),if_pos h1]
  ·unfold wk0
   rw[if_neg (by simp[hk.all]),if_neg (by rw[h1]; decide)]
structure Mk (m:List (List Int)):Prop where
 rows1:1<=m.length
 rows6:m.length<=6
 each:∀i,i<m.length->(nL m i).length=(nL m 0).length
 pix1:1<=(nL m 0).length
 pix10:(nL m 0).length<=10
 small:∀i,i<m.length->∀j,j<(nL m 0).length->-1<=nI (nL m i) j/\nI (nL m i) j<=1
theorem Mk.of {m:List (List Int)} (h:validB m=true):Mk m:=by
 unfold validB at h
 rw[Bool.and_eq_true,inB_iff,List.all_eq_true] at h
 obtain⟨h1,h2⟩:=h
 have each:∀i,i<m.length->(nL m i).length=(nL m 0).length/\rowB (nL m i)=true:=λi hi=>by
  have:=h2 (nL m i) (by unfold nL; rw[qq5 (t:=tInts) m i hi]; exact List.getElem_mem hi)
  rw[Bool.and_eq_true,decide_eq_true_eq] at this
  exact this
 have hr:∀i,i<m.length->(1<=(nL m i).length/\(nL m i).length<=10)/\∀j,j<(nL m i).length->-1<=nI (nL m i) j/\nI (nL m i) j<=1:=λi hi=>by
  have:=(each i hi).2
  unfold rowB at this
  rw[Bool.and_eq_true,inB_iff,List.all_eq_true] at this
  refine⟨by omega,λj hj=>inB_iff.1 (this.2 _ ?_)⟩
  unfold nI; rw[qq5 (t:=tInt) _ j hj]; exact List.getElem_mem hj
 have h0:=hr 0 (by omega)
 exact⟨by omega,by omega,λi hi=>(each i hi).1,h0.1.1,h0.1.2,λi hi j hj=>(hr i hi).2 j (by rw[(each i hi).1]; exact hj)⟩
def xg6 (m:List (List Int)) (l:List Int):Int:=if validB m=false then 1 else wk0 (nL m 0).length l
def q8n (y:List Int):Bool:=y.any λn=>!(inB n (0-1000000) 1000000)
def x4j (m:List (List Int)) (y l:List Int):Int:=if validB m=false then 1 else if ¬y.length=m.length then 9 else if q8n y then 7 else xg6 m l
structure wd8 (m:List (List Int)):Prop where
 rows:m.length<=9223372036854775807
 each:∀i,i<m.length->(nL m i).length<=9223372036854775807
structure RowTo (l:List Int) (k:Nat):Prop where
 le:k<=l.length
 ok:∀i,i<k->inB (nI l i) (-1) 1=true
def xv9 (l:List Int):Nat->Option Inv
 | 0=>some (Inv.of [7] 0 (λk:Nat=>[(7,.lit (.int .i64 k))]) (λ_=>[]) (λk=>RowTo l k) (λk=>l.length-k))
 | _=>none
theorem w51 {l:List Int} {k:Nat} (hk:k<l.length) (h:inB (nI l k) (-1) 1=false):rowB l=false:=by
 cases e:rowB l with
 | false=>rfl
 | true=>
  unfold rowB at e
  rw[Bool.and_eq_true,List.all_eq_true] at e
  have:=e.2 (nI l k) (by rw[qf8 l k hk]; exact List.getElem_mem hk)
  rw[h] at this; cases this
theorem RowTo.all {l:List Int} (h:RowTo l l.length):(l.all λn=>inB n (-1) 1)=true:=by
 rw[List.all_eq_true]
 intro x hx
 obtain⟨i,hi,rfl⟩:=List.getElem_of_mem hx
 rw[<- qf8 l i hi]; exact h.ok i hi
abbrev x1x:qb9:=qg2 true none [tInts] [.bool] (λx=>x.1.length<=9223372036854775807) (λx=>(rowB x.1,()))
theorem w2t:Meets Tryz.prog 94 x1x:=by
 refine meets (snd (SpecsOk.cons q28 (SpecsOk.nil _))) Tryz.func94 rfl rfl (λx=>xv9 x.1) (λ_=>by kernel_rfl) (by decide) ?_
 rintro⟨l,⟨⟩⟩ h
 revert l
 intro(l:List Int) (h:l.length<=9223372036854775807)
 refine @qd8 _ (∃(v0:Unit),∃(v1:Nat),RowTo l v1/\(((0:Int)=(↑v1:Int)/\True)/\True)/\∀(v2:Nat),RowTo l v2->(decide ((↑v2:Int)<(↑l.length:Int))=true->((0:Int)<=(↑v2:Int)/\(↑v2:Int)<(↑l.length:Int))/\True/\((!inB (nI l v2) (-1:Int) (1:Int))=true->false=rowB l)/\((!inB (nI l v2) (-1:Int) (1:Int))=false->fits .i64 ((↑v2:Int)+(1:Int))/\∃(v6:Nat),RowTo l v6/\l.length-v6<l.length-v2/\((↑v2:Int)+(1:Int)=(↑v6:Int)/\True)/\True))/\(decide ((↑v2:Int)<(↑l.length:Int))=false->True/\inB (↑l.length:Int) (1:Int) (10:Int)=rowB l)) (by kernel_rfl) ?_
 try simp only[z0,z1,z2,z3,z4,z5,z6,z7,z8,z9,z10,Int.reduceEq,z11,z12,z13,z14,z15,z16,z17,z18,z19,z20,z21,z22,z23,z24,z25,z26,z27,z28,z29,z30,Int.reduceLE,Int.reduceLT,z31,z32,z33,z34,qa3]
 try simp only[qb3,qb4,qc7,z31,z32,z2,z1]
 refine⟨(),0,⟨Nat.zero_le _,λi hi=>by omega⟩,rfl,λk hk=>⟨λhlt=>⟨hlt,λh1=>(w51 hlt h1).symm,λh1=>⟨qa7 (by omega) (by omega),k+1,⟨hlt,λi hi=>?_⟩,by omega,by omega⟩⟩,λhge=>?_⟩⟩
 ·by_cases e:i=k
  ·subst e; exact h1
  ·exact hk.ok i (by omega)
 ·obtain rfl:k=l.length:=by have:=hk.le; omega
  rw[rowB,hk.all,Bool.and_true]
structure x0d (m:List (List Int)) (k:Nat):Prop where
 le:k<=m.length
 ok:∀i,i<k->rowB (nL m i)=true/\(nL m i).length=(nL m 0).length
def x52 (m:List (List Int)):Nat->Option Inv
 | 0=>some (Inv.of [7] 0 (λk:Nat=>[(7,.lit (.int .i64 k))]) (λ_=>[]) (λk=>x0d m k) (λk=>m.length-k))
 | _=>none
theorem q6i {m:List (List Int)} {k:Nat} (hk:k<m.length) (h:rowB (nL m k)=false\/¬(nL m k).length=(nL m 0).length):validB m=false:=by
 cases e:validB m with
 | false=>rfl
 | true=>
  unfold validB at e
  rw[Bool.and_eq_true,List.all_eq_true] at e
  have:=e.2 (nL m k) (by rw[qk3 m k hk]; exact List.getElem_mem hk)
  rw[Bool.and_eq_true,decide_eq_true_eq] at this
  rcases h with h | h
  ·rw[h] at this; cases this.2
  ·exact absurd this.1 h
abbrev sV2:qb9:=qg2 true none [tMask] [.bool] (λx=>wd8 x.1) (λx=>(validB x.1,()))
theorem wa6:Meets Tryz.prog 51 sV2:=by
 refine meets (snd (SpecsOk.cons q28 (SpecsOk.cons w2t (SpecsOk.nil _)))) Tryz.func51 rfl rfl (λx=>x52 x.1) (λ_=>by kernel_rfl) (by decide) ?_
 rintro⟨m,⟨⟩⟩ h
 revert m
 intro(m:List (List Int)) (h:wd8 m)
 refine @qd8 _ (∃(v0:Unit),∃(v1:Nat),x0d m v1/\(((0:Int)=(↑v1:Int)/\True)/\True)/\∀(v2:Nat),x0d m v2->(decide ((↑v2:Int)<(↑m.length:Int))=true->((0:Int)<=(↑v2:Int)/\(↑v2:Int)<(↑m.length:Int))/\(nL m v2).length<=(9223372036854775807:Nat)/\((!rowB (nL m v2))=true->false=validB m)/\((!rowB (nL m v2))=false->((0:Int)<=(0:Int)/\(0:Int)<(↑m.length:Int))/\(((↑(nL m v2).length:Int) != (↑(nL m (0:Nat)).length:Int))=true->false=validB m)/\(((↑(nL m v2).length:Int) != (↑(nL m (0:Nat)).length:Int))=false->fits .i64 ((↑v2:Int)+(1:Int))/\∃(v7:Nat),x0d m v7/\m.length-v7<m.length-v2/\((↑v2:Int)+(1:Int)=(↑v7:Int)/\True)/\True)))/\(decide ((↑v2:Int)<(↑m.length:Int))=false->True/\inB (↑m.length:Int) (1:Int) (6:Int)=validB m)) (by kernel_rfl) ?_
 try simp only[z0,z1,z2,z3,z4,z5,z6,z7,z8,z9,z10,Int.reduceEq,z11,z12,z13,z14,z15,z16,z17,z18,z19,z20,z21,z22,z23,z24,z25,z26,z27,z28,z29,z30,Int.reduceLE,Int.reduceLT,z31,z32,z33,z34,qa3]
 try simp only[qb3,qb4,qc7,z31,z32,z2,z1]
 have hr:=h.rows
 refine⟨(),0,⟨Nat.zero_le _,λi hi=>by omega⟩,rfl,λk hk=>⟨λhlt=>⟨hlt,h.each k hlt,λh1=>(q6i hlt (.inl h1)).symm,λh1=>⟨by omega,λh2=>(q6i hlt (.inr (by omega))).symm,λh2=>⟨qa7 (by omega) (by omega),k+1,⟨hlt,λi hi=>?_⟩,by omega,by omega⟩⟩⟩,λhge=>?_⟩⟩
 ·by_cases e:i=k
  ·subst e; exact⟨h1,by omega⟩
  ·exact hk.ok i (by omega)
 ·obtain rfl:k=m.length:=by have:=hk.le; omega
  have:(m.all λl=>decide (l.length=(nL m 0).length) && rowB l)=true:=by
   rw[List.all_eq_true]
   intro x hx
   obtain⟨i,hi,rfl⟩:=List.getElem_of_mem hx
   have:=hk.ok i hi
   rw[qk3 m i hi] at this
   rw[this.1,this.2]; simp
  rw[validB,this,Bool.and_true]
structure w9w (y:List Int) (k:Nat):Prop where
 le:k<=y.length
 ok:∀i,i<k->inB (nI y i) (-1000000) 1000000=true
theorem q6j (l:List Int) (k:Nat) (hk:k<l.length):l.take (k+1)=l.take k++[nI l k]:=by
 rw[List.take_add_one,List.getElem?_eq_getElem hk,qf8 l k hk]; rfl
def qo5 (n:Nat):List Int:=(List.range n).map λi:Nat=>(i:Int)
theorem w52 (n:Nat):qo5 (n+1)=qo5 n++[(n:Int)]:=by simp[qo5,List.range_succ]
theorem qe9 (n:Nat):(qo5 n).length=n:=by simp[qo5]
theorem q0l (n i:Nat) (h:i<n):nI (qo5 n) i=i:=by rw[qf8 _ _ (by rw[qe9]; exact h)]; simp[qo5]
abbrev x53:qb9:=wi7 (q6b [tInt]) true (some 3) .none (λx=>x.1<=100000) (λx=>.dat (.int .i64) (qo5 x.1.toNat))
def x1y (n:Nat):Nat->Option Inv
 | 0=>some (Inv.of [3,6] 1 (λk:Nat=>[(3,.own 0),(6,.lit (.int .i64 k))]) (λk=>[.vec 3 (.int .i64) (qo5 k)]) (λk=>k<=n) (λk=>n-k))
 | _=>none
theorem q6k:Meets Tryz.prog 111 x53:=by
 refine w0a (snd (SpecsOk.nil _)) Tryz.func111 rfl rfl (qx6 [tInt]) (λx=>x1y x.1.toNat) (λ_=>by kernel_rfl) (by decide) ?_
 rintro⟨n,⟨⟩⟩ h
 revert n
 intro(n:Int) (h:n<=100000)
 refine @qd8 _ (∃(v0:Unit),∃(v1:Nat),Nat.le v1 n.toNat/\((True/\(0:Int)=(↑v1:Int)/\True)/\qo5 v1=[]/\True)/\∀(v2:Nat),Nat.le v2 n.toNat->(decide ((↑v2:Int)<n)=true->((0:Nat)<List.length [(↑v2:Int)]/\Nat.le ((qo5 v2).length+List.length [(↑v2:Int)]) (1000000:Nat))/\fits .i64 ((↑v2:Int)+(1:Int))/\∃(v5:Nat),Nat.le v5 n.toNat/\n.toNat-v5<n.toNat-v2/\(True/\(↑v2:Int)+(1:Int)=(↑v5:Int)/\True)/\qo5 v2++[(↑v2:Int)]=qo5 v5/\True)/\(decide ((↑v2:Int)<n)=false->qo5 v2=qo5 n.toNat)) (by kernel_rfl) ?_
 try simp only[z0,z1,z2,z3,z4,z5,z6,z7,z8,z9,z10,Int.reduceEq,z11,z12,z13,z14,z15,z16,z17,z18,z19,z20,z21,z22,z23,z24,z25,z26,z27,z28,z29,z30,Int.reduceLE,Int.reduceLT,z31,z32,z33,z34,qa3]
 try simp only[qb3,qb4,qc7,z31,z32,z2,z1]
 refine⟨(),0,Nat.zero_le _,⟨rfl,rfl⟩,λk hk=>⟨λhlt=>⟨by rw[qe9]; omega,qa7 (by omega) (by omega),k+1,by omega,by omega,by omega,(w52 k).symm⟩,λhge=>?_⟩⟩
 rw[show n.toNat=k by omega]
abbrev xm7:qb9:=qg2 true none [tInt] [tInts] (λ_=>True) (λ_=>([],()))
theorem q8o:Meets Tryz.prog 155 xm7:=by
 refine meets (snd (SpecsOk.nil _)) Tryz.func155 rfl rfl (λ_ _=>none) (λ_=>by kernel_rfl) (by decide) ?_
 rintro⟨n,⟨⟩⟩ -
 revert n
 intro(n:Int)
 refine @qd8 _ (xs3 Int) (by kernel_rfl) ?_
 try simp only[z0,z1,z2,z3,z4,z5,z6,z7,z8,z9,z10,Int.reduceEq,z11,z12,z13,z14,z15,z16,z17,z18,z19,z20,z21,z22,z23,z24,z25,z26,z27,z28,z29,z30,Int.reduceLE,Int.reduceLT,z31,z32,z33,z34,qa3]
 try simp only[qb3,qb4,qc7,z31,z32,z2,z1]
def qq7 (r pix:List Int):List Int:=pix.map λp=>nI r p.toNat
def qc8 (m:List (List Int)) (pix:List Int) (f:Int->List Int):List (List Int):=(List.range m.length).map λi=>qq7 (nL m i) pix++f i
structure ChoOk (m:List (List Int)) (pix:List Int) (p:qa6 [.int .i64]->Prop) (f:qa6 [.int .i64]->List Int):Prop where
 rows:m.length<=10000
 cols:pix.length<=10000
 at_:∀i,i<m.length->∀j,j<pix.length->0<=nI pix j/\nI pix j<(nL m i).length
 fn:∀i:Nat,i<m.length->p ((i:Int),())/\(f ((i:Int),())).length<=10000
theorem qs8 (r pix:List Int):(qq7 r pix).length=pix.length:=by simp[qq7]
theorem q08 (r pix:List Int) (j:Nat) (hj:j<pix.length):nI (qq7 r pix) j=nI r (nI pix j).toNat:=by
 rw[qf8 _ _ (by rw[qs8]; exact hj),qf8 pix j hj]; simp[qq7]
theorem q17 (m:List (List Int)) (pix:List Int) (f:Int->List Int):(qc8 m pix f).length=m.length:=by simp[qc8]
theorem w2u (m:List (List Int)) (pix:List Int) (f:Int->List Int) (i:Nat) (hi:i<m.length):nL (qc8 m pix f) i=qq7 (nL m i) pix++f i:=by
 rw[qk3 _ _ (by rw[q17]; exact hi)]; simp[qc8]
theorem takeL_snoc (m:List (List Int)) (k:Nat) (hk:k<m.length):m.take (k+1)=m.take k++[nL m k]:=by
 rw[List.take_add_one,List.getElem?_eq_getElem hk,qk3 m k hk]; rfl
abbrev x56 (fs:List (Nat × qb9)):qb9:=wi7 (wj1 fs [.d tMask,.d tInts,.fn [tInt] tInts]) true (some 24) (some 3) (λx=>ChoOk x.1 x.2.1 x.2.2.1.1 x.2.2.1.2) (λx=>.dat (.list (.int .i64)) (qc8 x.1 x.2.1 λi=>x.2.2.1.2 (i,())))
def x1z (m:List (List Int)) (pix:List Int) (f:Int->List Int):Nat->Option Inv
 | 0=>some (Inv.of [7,15] 1 (λk:Nat=>[(7,.msl 0 .none),(15,.lit (.int .i64 k))]) (λk=>[.mat 24 3 (.int .i64) ((qc8 m pix f).take k) .none .none]) (λk=>k<=m.length) (λk=>m.length-k))
 | 1=>some (Eng.Inv.mk Nat Nat [7,10,22] 2 (λ_ j=>[(7,.msl 0 .none),(10,.own 1),(22,.lit (.int .i64 j))]) (λk j=>[.mat 24 3 (.int .i64) ((qc8 m pix f).take k) .none .none,.vec 3 (.int .i64) ((qq7 (nL m k) pix).take j)]) (λ_ j=>j<=pix.length) (λ_ j=>pix.length-j))
 | _=>none
theorem wk1 {fs:List (Nat × qb9)} (hfs:SpecsOk Tryz.prog fs):Meets Tryz.prog 154 (x56 fs):=by
 refine w0a (w9q [40] [39] (SpecsOk.nil _)) Tryz.func154 rfl rfl (q26 hfs [.d tMask,.d tInts,.fn [tInt] tInts]) (λx=>x1z x.1 x.2.1 λi=>x.2.2.1.2 (i,())) (λ_=>by kernel_rfl) (show 3<=_ by decide) ?_
 rintro⟨m,pix,⟨p,f⟩,⟨⟩⟩ h
 revert m pix p f
 intro(m:List (List Int)) (pix:List Int) (p:qa6 [.int .i64]->Prop) (f:qa6 [.int .i64]->List Int) (h:ChoOk m pix p f)
 refine @qd8 _ (∃(v0:Unit),∃(v1:Nat),Nat.le v1 m.length/\((True/\(0:Int)=(↑v1:Int)/\True)/\List.take v1 (qc8 m pix λ(v2:Int)=>f (v2,()))=[]/\True)/\∀(v2:Nat),Nat.le v2 m.length->(decide ((↑v2:Int)<(↑m.length:Int))=true->((0:Int)<=(↑v2:Int)/\(↑v2:Int)<(↑m.length:Int))/\∃(v5:Nat),∃(v6:Nat),Nat.le v6 pix.length/\((True/\True/\(0:Int)=(↑v6:Int)/\True)/\(List.take v2 (qc8 m pix λ(v7:Int)=>f (v7,()))=List.take v5 (qc8 m pix λ(v7:Int)=>f (v7,()))/\True/\True)/\List.take v6 (qq7 (nL m v5) pix)=[]/\True)/\∀(v7:Nat),Nat.le v7 pix.length->(decide ((↑v7:Int)<(↑pix.length:Int))=true->((0:Int)<=(↑v7:Int)/\(↑v7:Int)<(↑pix.length:Int))/\((0:Int)<=nI pix v7/\nI pix v7<(↑(nL m v2).length:Int))/\((0:Nat)<List.length [nI (nL m v2) (nI pix v7).toNat]/\Nat.le ((List.take v7 (qq7 (nL m v5) pix)).length+List.length [nI (nL m v2) (nI pix v7).toNat]) (1000000:Nat))/\fits .i64 ((↑v7:Int)+(1:Int))/\∃(v10:Nat),Nat.le v10 pix.length/\pix.length-v10<pix.length-v7/\(True/\True/\(↑v7:Int)+(1:Int)=(↑v10:Int)/\True)/\(List.take v5 (qc8 m pix λ(v11:Int)=>f (v11,()))=List.take v5 (qc8 m pix λ(v11:Int)=>f (v11,()))/\True/\True)/\List.take v7 (qq7 (nL m v5) pix)++[nI (nL m v2) (nI pix v7).toNat]=List.take v10 (qq7 (nL m v5) pix)/\True)/\(decide ((↑v7:Int)<(↑pix.length:Int))=false->p ((↑v2:Int),())/\Nat.le ((List.take v7 (qq7 (nL m v5) pix)).length+(f ((↑v2:Int),())).length) (1000000:Nat)/\((0:Nat)<(0:Nat)+(1:Nat)/\(List.take v5 (qc8 m pix λ(v10:Int)=>f (v10,()))).length+((0:Nat)+(1:Nat))<=(1000000:Nat))/\fits .i64 ((↑v2:Int)+(1:Int))/\∃(v10:Nat),Nat.le v10 m.length/\m.length-v10<m.length-v2/\(True/\(↑v2:Int)+(1:Int)=(↑v10:Int)/\True)/\(List.take v5 (qc8 m pix λ(v11:Int)=>f (v11,()))++[List.take v7 (qq7 (nL m v5) pix)++f ((↑v2:Int),())]=List.take v10 (qc8 m pix λ(v11:Int)=>f (v11,()))/\True/\True)/\True))/\(decide ((↑v2:Int)<(↑m.length:Int))=false->List.take v2 (qc8 m pix λ(v5:Int)=>f (v5,()))=qc8 m pix λ(v5:Int)=>f (v5,()))) (by kernel_rfl) ?_
 try simp only[z0,z1,z2,z3,z4,z5,z6,z7,z8,z9,z10,Int.reduceEq,z11,z12,z13,z14,z15,z16,z17,z18,z19,z20,z21,z22,z23,z24,z25,z26,z27,z28,z29,z30,Int.reduceLE,Int.reduceLT,z31,z32,z33,z34,qa3]
 try simp only[qb3,qb4,qc7,z31,z32,z2,z1]
 have hr:=h.rows
 have hc:=h.cols
 have hl:=q17 m pix λi=>f (i,())
 refine⟨(),0,Nat.zero_le _,⟨rfl,rfl⟩,λk hk=>⟨λhlt=>⟨hlt,k,0,Nat.zero_le _,⟨rfl,rfl,rfl⟩,λj hj=>⟨λhj2=>?_,λhj2=>?_⟩⟩,λhge=>?_⟩⟩
 ·have h1:=qs8 (nL m k) pix
  refine⟨hj2,h.at_ k hlt j hj2,by rw[List.length_take]; omega,qa7 (by omega) (by omega),j+1,by omega,by omega,by omega,?_⟩
  rw[q6j _ j (by omega),q08 _ _ _ hj2]
 ·obtain rfl:j=pix.length:=by omega
  have h1:=qs8 (nL m k) pix
  have h2:=h.fn k hlt
  have h3:(qq7 (nL m k) pix).take pix.length=qq7 (nL m k) pix:=List.take_of_length_le (by omega)
  rw[h3]
  refine⟨h2.1,by omega,by rw[List.length_take]; omega,qa7 (by omega) (by omega),k+1,by omega,by omega,by omega,?_⟩
  rw[takeL_snoc _ k (by omega),w2u _ _ _ _ hlt]
 ·rw[List.take_of_length_le (by omega)]
end Go.Proofs.YtempacilejhbgaaGreat
