/- Rows with chosen columns: contracts by the engine. No condition. -/
import Derived.Test.YtdibdlelmkcccaaGreatV5
set_option linter.unusedVariables false
set_option linter.unusedSimpArgs false
namespace Go.Proofs.YtdibdlelmkcccaaGreat
open Go Go.RowKit Eng
structure Mk (m:List (List Int)):Prop where
 rows1:1<=m.length
 rows6:m.length<=6
 each:∀i,i<m.length->(nL m i).length=(nL m 0).length
 pix1:1<=(nL m 0).length
 pix10:(nL m 0).length<=10
 small:∀i,i<m.length->∀j,j<(nL m 0).length->-1<=nI (nL m i) j/\nI (nL m i) j<=1
theorem Mk.of {m:List (List Int)} (h:validB m=true):Mk m:=by
 unfold validB at h
 rw[Bool.and_eq_true,inB_iff,List.all_eq_true] at h
 obtain⟨h1,h2⟩:=h
 have each:∀i,i<m.length->(nL m i).length=(nL m 0).length/\rowB (nL m i)=true:=λi hi=>by
  have:=h2 (nL m i) (by unfold nL; rw[qn0 (t:=tInts) m i hi]; exact List.getElem_mem hi)
  rw[Bool.and_eq_true,decide_eq_true_eq] at this
  exact this
 have hr:∀i,i<m.length->(1<=(nL m i).length/\(nL m i).length<=10)/\∀j,j<(nL m i).length->-1<=nI (nL m i) j/\nI (nL m i) j<=1:=λi hi=>by
  have:=(each i hi).2
  unfold rowB at this
  rw[Bool.and_eq_true,inB_iff,List.all_eq_true] at this
  refine⟨by omega,λj hj=>inB_iff.1 (this.2 _ ?_)⟩
  unfold nI; rw[qn0 (t:=tInt) _ j hj]; exact List.getElem_mem hj
 have h0:=hr 0 (by omega)
 exact⟨by omega,by omega,λi hi=>(each i hi).1,h0.1.1,h0.1.2,λi hi j hj=>(hr i hi).2 j (by rw[(each i hi).1]; exact hj)⟩
def wh5 (m:List (List Int)) (l:List Int):Int:=if validB m=false then 1 else q42 (nL m 0).length l
abbrev x9g:qc0:=qf8 true none [tMask,tInts] [tInt] (λx=>x.2.1.length<=1000000) (λx=>(wh5 x.1 x.2.1,()))
theorem wl9:qd3 Tryz.prog 49 x9g:=by
 refine meets (snd (SpecsOk.cons q26 (SpecsOk.cons w63 (SpecsOk.nil _)))) Tryz.func49 rfl rfl (λ_ _=>none) (λ_=>by kernel_rfl) (by decide) ?_
 rintro⟨m,l,⟨⟩⟩ h
 revert m l
 intro(m:List (List Int)) (l:List Int) (h:l.length<=1000000)
 refine @qd8 _ (True/\((!validB m)=true->(1:Int)=wh5 m l)/\((!validB m)=false->((0:Int)<=(0:Int)/\(0:Int)<(↑(List.length m):Int))/\(((0:Ty.den tInt)<=(↑(List.length (qa1 (Ty.list (Ty.int .i64)) m (0:Nat))):Int)/\(↑(List.length (qa1 (Ty.list (Ty.int .i64)) m (0:Nat))):Int)<=BIG)/\List.length l<=(1000000:Nat))/\q42 (↑(List.length (qa1 (Ty.list (Ty.int .i64)) m (0:Nat))):Int) l=wh5 m l)) (by kernel_rfl) ?_
 try simp only[z0,z1,z2,z3,z4,z5,z6,z7,z8,z9,z10,Int.reduceEq,z11,z12,z13,z14,z15,z16,z17,z18,z19,z20,z21,z22,z23,z24,z25,z26,z27,z28,z29,z30,Int.reduceLE,Int.reduceLT,z31,z32,z33,z34,qa4]
 try simp only[qb6,qb7,qc8,List.set_cons_zero,List.cons.injEq,and_true,true_and]
 refine⟨λhv=>by simp[wh5,hv],λhv=>?_⟩
 have hM:=Mk.of hv
 have h1:=hM.rows1
 have h2:=hM.pix10
 unfold BIG
 exact⟨by omega,⟨by omega,h⟩,by simp[wh5,hv]⟩
def xl6 (y:List Int):Bool:=y.any λn=>!(inB n (0-1000000) 1000000)
def q1i (m:List (List Int)) (y l:List Int):Int:=if validB m=false then 1 else if ¬y.length=m.length then 9 else if xl6 y then 7 else wh5 m l
abbrev x9h:qc0:=qf8 true none [tMask,tInts,tInts] [tInt] (λx=>x.2.2.1.length<=1000000) (λx=>(q1i x.1 x.2.1 x.2.2.1,()))
theorem wm0:qd3 Tryz.prog 58 x9h:=by
 refine meets (snd (SpecsOk.cons q26 (SpecsOk.cons wl9 (SpecsOk.cons w62 (SpecsOk.cons (q6l (fs:=[(144,x0t)]) (SpecsOk.cons w3l (SpecsOk.nil _))) (SpecsOk.nil _)))))) Tryz.func58 rfl rfl (λ_ _=>none) (λ_=>by kernel_rfl) (by decide) ?_
 rintro⟨m,y,l,⟨⟩⟩ h
 revert m y l
 intro(m:List (List Int)) (y:List Int) (l:List Int) (h:l.length<=1000000)
 refine @qd8 _ (True/\((!validB m)=true->(1:Int)=q1i m y l)/\((!validB m)=false->(((↑(List.length y):Int) != (↑(List.length m):Int))=true->(9:Int)=q1i m y l)/\(((↑(List.length y):Int) != (↑(List.length m):Int))=false->True/\∃(v2:qa5 [Ty.int .i64]->Prop),∃(v3:qa5 [Ty.int .i64]->Bool),(∀(v4:Int × qa5._f [] PUnit.unit),v2 v4->((0:PTy.den (PTy.cap tInt))<=(1000000:Int)/\(1000000:Int)<=BIG)/\(!inB (Prod.fst v4) ((0:Int)-(1000000:Int)) (1000000:Int))=v3 v4)/\(List.length y<=(1000000:Nat)/\∀(v4:Nat),v4<List.length y->v2 (qa1 (Ty.int .i64) y v4,()))/\((List.any y λ(v5:Int)=>v3 (v5,()))=true->(7:Int)=q1i m y l)/\((List.any y λ(v5:Int)=>v3 (v5,()))=false->List.length l<=(1000000:Nat)/\wh5 m l=q1i m y l)))) (by kernel_rfl) ?_
 try simp only[z0,z1,z2,z3,z4,z5,z6,z7,z8,z9,z10,Int.reduceEq,z11,z12,z13,z14,z15,z16,z17,z18,z19,z20,z21,z22,z23,z24,z25,z26,z27,z28,z29,z30,Int.reduceLE,Int.reduceLT,z31,z32,z33,z34,qa4]
 try simp only[qb6,qb7,qc8,List.set_cons_zero,List.cons.injEq,and_true,true_and]
 refine⟨λhv=>by simp[q1i,hv],λhv=>⟨λhl=>?_,λhl=>?_⟩⟩
 ·have hl:¬y.length=m.length:=by omega
  simp[q1i,hv,hl]
 have hl:y.length=m.length:=by omega
 have hM:=Mk.of hv
 have h1:=hM.rows6
 refine⟨λ_=>True,λx=>!(inB x.1 (0-1000000) 1000000),λx _=>⟨by decide,by simp⟩,⟨by omega,λ_ _=>trivial⟩,λho=>?_,λho=>⟨h,?_⟩⟩
 ·have ho:xl6 y=true:=ho
  simp[q1i,hv,hl,ho]
 ·have ho:xl6 y=false:=ho
  simp[q1i,hv,hl,ho]
structure q77 (m:List (List Int)):Prop where
 rows:m.length<=9223372036854775807
 each:∀i,i<m.length->(nL m i).length<=9223372036854775807
structure RowTo (l:List Int) (k:Nat):Prop where
 le:k<=l.length
 ok:∀i,i<k->inB (nI l i) (-1) 1=true
def x0v (l:List Int):Nat->Option Inv
 | 0=>some (Inv.of [7] 0 (λk:Nat=>[(7,.lit (.int .i64 k))]) (λ_=>[]) (λk=>RowTo l k) (λk=>l.length-k))
 | _=>none
theorem w64 {l:List Int} {k:Nat} (hk:k<l.length) (h:inB (nI l k) (-1) 1=false):rowB l=false:=by
 cases e:rowB l with
 | false=>rfl
 | true=>
  unfold rowB at e
  rw[Bool.and_eq_true,List.all_eq_true] at e
  have:=e.2 (nI l k) (by rw[qh7 l k hk]; exact List.getElem_mem hk)
  rw[h] at this; cases this
theorem RowTo.all {l:List Int} (h:RowTo l l.length):(l.all λn=>inB n (-1) 1)=true:=by
 rw[List.all_eq_true]
 intro x hx
 obtain⟨i,hi,rfl⟩:=List.getElem_of_mem hx
 rw[<- qh7 l i hi]; exact h.ok i hi
abbrev x4q:qc0:=qf8 true none [tInts] [.bool] (λx=>x.1.length<=9223372036854775807) (λx=>(rowB x.1,()))
theorem w3n:qd3 Tryz.prog 56 x4q:=by
 refine meets (snd (SpecsOk.cons q21 (SpecsOk.nil _))) Tryz.func56 rfl rfl (λx=>x0v x.1) (λ_=>by kernel_rfl) (by decide) ?_
 rintro⟨l,⟨⟩⟩ h
 revert l
 intro(l:List Int) (h:l.length<=9223372036854775807)
 refine @qd8 _ (let Q0:=List.length l; ∃(v0:Unit),∃(v1:Nat),RowTo l v1/\(((0:Int)=(↑v1:Int)/\True)/\True)/\∀(v2:Nat),RowTo l v2->(decide ((↑v2:Int)<(↑Q0:Int))=true->((0:Int)<=(↑v2:Int)/\(↑v2:Int)<(↑Q0:Int))/\True/\((!inB (qa1 (Ty.int .i64) l (Int.toNat (↑v2:Int))) (-1:Int) (1:Int))=true->false=rowB l)/\((!inB (qa1 (Ty.int .i64) l (Int.toNat (↑v2:Int))) (-1:Int) (1:Int))=false->fits .i64 ((↑v2:Int)+(1:Int))/\∃(v6:Nat),RowTo l v6/\List.length l-v6<List.length l-v2/\((↑v2:Int)+(1:Int)=(↑v6:Int)/\True)/\True))/\(decide ((↑v2:Int)<(↑Q0:Int))=false->True/\inB (↑Q0:Int) (1:Int) (10:Int)=rowB l)) (by kernel_rfl) ?_
 try simp only[z0,z1,z2,z3,z4,z5,z6,z7,z8,z9,z10,Int.reduceEq,z11,z12,z13,z14,z15,z16,z17,z18,z19,z20,z21,z22,z23,z24,z25,z26,z27,z28,z29,z30,Int.reduceLE,Int.reduceLT,z31,z32,z33,z34,qa4]
 try simp only[qb6,qb7,qc8,List.set_cons_zero,List.cons.injEq,and_true,true_and]
 refine⟨(),0,⟨Nat.zero_le _,λi hi=>by omega⟩,rfl,λk hk=>⟨λhlt=>⟨hlt,λh1=>(w64 hlt h1).symm,λh1=>⟨qa7 (by omega) (by omega),k+1,⟨hlt,λi hi=>?_⟩,by omega,by omega⟩⟩,λhge=>?_⟩⟩
 ·by_cases e:i=k
  ·subst e; exact h1
  ·exact hk.ok i (by omega)
 ·obtain rfl:k=l.length:=by have:=hk.le; omega
  rw[rowB,hk.all,Bool.and_true]
structure x2v (m:List (List Int)) (k:Nat):Prop where
 le:k<=m.length
 ok:∀i,i<k->rowB (nL m i)=true/\(nL m i).length=(nL m 0).length
def x9i (m:List (List Int)):Nat->Option Inv
 | 0=>some (Inv.of [7] 0 (λk:Nat=>[(7,.lit (.int .i64 k))]) (λ_=>[]) (λk=>x2v m k) (λk=>m.length-k))
 | _=>none
theorem q6m {m:List (List Int)} {k:Nat} (hk:k<m.length) (h:rowB (nL m k)=false\/¬(nL m k).length=(nL m 0).length):validB m=false:=by
 cases e:validB m with
 | false=>rfl
 | true=>
  unfold validB at e
  rw[Bool.and_eq_true,List.all_eq_true] at e
  have:=e.2 (nL m k) (by rw[ql9 m k hk]; exact List.getElem_mem hk)
  rw[Bool.and_eq_true,decide_eq_true_eq] at this
  rcases h with h | h
  ·rw[h] at this; cases this.2
  ·exact absurd this.1 h
abbrev sV2:qc0:=qf8 true none [tMask] [.bool] (λx=>q77 x.1) (λx=>(validB x.1,()))
theorem w1a:qd3 Tryz.prog 19 sV2:=by
 refine meets (snd (SpecsOk.cons q21 (SpecsOk.cons w3n (SpecsOk.nil _)))) Tryz.func19 rfl rfl (λx=>x9i x.1) (λ_=>by kernel_rfl) (by decide) ?_
 rintro⟨m,⟨⟩⟩ h
 revert m
 intro(m:List (List Int)) (h:q77 m)
 refine @qd8 _ (let Q0:=List.length m; ∃(v0:Unit),∃(v1:Nat),x2v m v1/\(((0:Int)=(↑v1:Int)/\True)/\True)/\∀(v2:Nat),x2v m v2->(decide ((↑v2:Int)<(↑Q0:Int))=true->((0:Int)<=(↑v2:Int)/\(↑v2:Int)<(↑Q0:Int))/\List.length (qa1 (Ty.list (Ty.int .i64)) m (Int.toNat (↑v2:Int)))<=(9223372036854775807:Nat)/\((!rowB (qa1 (Ty.list (Ty.int .i64)) m (Int.toNat (↑v2:Int))))=true->false=validB m)/\((!rowB (qa1 (Ty.list (Ty.int .i64)) m (Int.toNat (↑v2:Int))))=false->((0:Int)<=(0:Int)/\(0:Int)<(↑Q0:Int))/\(((↑(List.length (qa1 (Ty.list (Ty.int .i64)) m (Int.toNat (↑v2:Int)))):Int) != (↑(List.length (qa1 (Ty.list (Ty.int .i64)) m (0:Nat))):Int))=true->false=validB m)/\(((↑(List.length (qa1 (Ty.list (Ty.int .i64)) m (Int.toNat (↑v2:Int)))):Int) != (↑(List.length (qa1 (Ty.list (Ty.int .i64)) m (0:Nat))):Int))=false->fits .i64 ((↑v2:Int)+(1:Int))/\∃(v7:Nat),x2v m v7/\List.length m-v7<List.length m-v2/\((↑v2:Int)+(1:Int)=(↑v7:Int)/\True)/\True)))/\(decide ((↑v2:Int)<(↑Q0:Int))=false->True/\inB (↑Q0:Int) (1:Int) (6:Int)=validB m)) (by kernel_rfl) ?_
 try simp only[z0,z1,z2,z3,z4,z5,z6,z7,z8,z9,z10,Int.reduceEq,z11,z12,z13,z14,z15,z16,z17,z18,z19,z20,z21,z22,z23,z24,z25,z26,z27,z28,z29,z30,Int.reduceLE,Int.reduceLT,z31,z32,z33,z34,qa4]
 try simp only[qb6,qb7,qc8,List.set_cons_zero,List.cons.injEq,and_true,true_and]
 have hr:=h.rows
 refine⟨(),0,⟨Nat.zero_le _,λi hi=>by omega⟩,rfl,λk hk=>⟨λhlt=>⟨hlt,h.each k hlt,λh1=>(q6m hlt (.inl h1)).symm,λh1=>⟨by omega,λh2=>(q6m hlt (.inr (by omega))).symm,λh2=>⟨qa7 (by omega) (by omega),k+1,⟨hlt,λi hi=>?_⟩,by omega,by omega⟩⟩⟩,λhge=>?_⟩⟩
 ·by_cases e:i=k
  ·subst e; exact⟨h1,by omega⟩
  ·exact hk.ok i (by omega)
 ·obtain rfl:k=m.length:=by have:=hk.le; omega
  have:(m.all λl=>decide (l.length=(nL m 0).length) && rowB l)=true:=by
   rw[List.all_eq_true]
   intro x hx
   obtain⟨i,hi,rfl⟩:=List.getElem_of_mem hx
   have:=hk.ok i hi
   rw[ql9 m i hi] at this
   rw[this.1,this.2]; simp
  rw[validB,this,Bool.and_true]
def x4r (l:List Int):Nat->Option Inv
 | 0=>some (Inv.of [3] 0 (λk:Nat=>[(3,.lit (.int .i64 k))]) (λ_=>[]) (λk=>1<=k/\(AscTo l k\/(k=1/\l=[]))) (λk=>l.length-k))
 | _=>none
abbrev x9j:qc0:=qf8 true none [tInts] [.bool] (λx=>x.1.length<=1000000) (λx=>(wh4 x.1,()))
theorem wm1:qd3 Tryz.prog 52 x9j:=by
 refine meets (snd (SpecsOk.nil _)) Tryz.func52 rfl rfl (λx=>x4r x.1) (λ_=>by kernel_rfl) (by decide) ?_
 rintro⟨l,⟨⟩⟩ h
 revert l
 intro(l:List Int) (h:l.length<=1000000)
 refine @qd8 _ (let Q0:=List.length l; ∃(v0:Unit),∃(v1:Nat),((1:Nat)<=v1/\(AscTo l v1\/v1=(1:Nat)/\l=[]))/\(((1:Int)=(↑v1:Int)/\True)/\True)/\∀(v2:Nat),(1:Nat)<=v2/\(AscTo l v2\/v2=(1:Nat)/\l=[])->(decide ((↑v2:Int)<(↑Q0:Int))=true->((0:Int)<=(↑v2:Int)/\(↑v2:Int)<(↑Q0:Int))/\fits .i64 ((↑v2:Int)-(1:Int))/\((0:Int)<=(↑v2:Int)-(1:Int)/\(↑v2:Int)-(1:Int)<(↑Q0:Int))/\(decide (qa1 (Ty.int .i64) l (Int.toNat (↑v2:Int))<=qa1 (Ty.int .i64) l (Int.toNat ((↑v2:Int)-(1:Int))))=true->false=wh4 l)/\(decide (qa1 (Ty.int .i64) l (Int.toNat (↑v2:Int))<=qa1 (Ty.int .i64) l (Int.toNat ((↑v2:Int)-(1:Int))))=false->fits .i64 ((↑v2:Int)+(1:Int))/\∃(v6:Nat),((1:Nat)<=v6/\(AscTo l v6\/v6=(1:Nat)/\l=[]))/\List.length l-v6<List.length l-v2/\((↑v2:Int)+(1:Int)=(↑v6:Int)/\True)/\True))/\(decide ((↑v2:Int)<(↑Q0:Int))=false->true=wh4 l)) (by kernel_rfl) ?_
 try simp only[z0,z1,z2,z3,z4,z5,z6,z7,z8,z9,z10,Int.reduceEq,z11,z12,z13,z14,z15,z16,z17,z18,z19,z20,z21,z22,z23,z24,z25,z26,z27,z28,z29,z30,Int.reduceLE,Int.reduceLT,z31,z32,z33,z34,qa4]
 try simp only[qb6,qb7,qc8,List.set_cons_zero,List.cons.injEq,and_true,true_and]
 refine⟨(),1,⟨Nat.le_refl _,?_⟩,rfl,λk ⟨h1,hk⟩=>⟨λhlt=>?_,λhge=>?_⟩⟩
 ·cases l with
  | nil=>exact .inr ⟨rfl,rfl⟩
  | cons a l=>exact .inl ⟨by simp,λi h0 hi=>by omega⟩
 ·have hk:AscTo l k:=hk.resolve_right λ⟨_,e⟩=>by subst e; simp at hlt
  have e:((k:Int)-1).toNat=k-1:=by omega
  rw[e]
  exact⟨hlt,qa7 (by omega) (by omega),by omega,λh2=>(wc4 (by omega) hlt h2).symm,λh2=>⟨qa7 (by omega) (by omega),k+1,⟨by omega,.inl (hk.step hlt (.inr h2))⟩,by omega,by omega⟩⟩
 ·rcases hk with hk | ⟨_,rfl⟩
  ·obtain rfl:k=l.length:=by have:=hk.le; omega
   exact hk.all.symm
  ·rfl
def x4s (m:List (List Int)) (y:List Int):Int:=if ¬y.length=m.length then 9 else if xl6 y then 7 else 0
def wm2 (m:List (List Int)) (y:List Int):Int:=if validB m=false then 1 else x4s m y
structure xd5 (n:Int) (l:List Int) (k:Nat):Prop where
 le:k<=l.length
 ok:∀i,i<k->inB (nI l i) 0 (n-1)=true
def x0w (m:List (List Int)) (l:List Int):Nat->Option Inv
 | 0=>some (Inv.of [12] 0 (λk:Nat=>[(12,.lit (.int .i64 k))]) (λ_=>[]) (λk=>xd5 (nL m 0).length l k) (λk=>l.length-k))
 | _=>none
abbrev x4t:qc0:=qf8 true none [tMask,tInts] [tInt] (λx=>(0<x.1.length/\(nL x.1 0).length<=1000000)/\x.2.1.length<=1000000) (λx=>(q42 (nL x.1 0).length x.2.1,()))
theorem w3o:qd3 Tryz.prog 53 x4t:=by
 refine meets (snd (SpecsOk.cons q25 (SpecsOk.cons wm1 (SpecsOk.nil _)))) Tryz.func53 rfl rfl (λx=>x0w x.1 x.2.1) (λ_=>by kernel_rfl) (by decide) ?_
 rintro⟨m,l,⟨⟩⟩ h
 revert m l
 intro(m:List (List Int)) (l:List Int) (h:(0<m.length/\(nL m 0).length<=1000000)/\l.length<=1000000)
 refine @qd8 _ (let Q0:=List.length l; List.length l<=(1000000:Nat)/\((!wh4 l)=true->(7:Int)=q42 (↑(List.length (nL m (0:Nat))):Int) l)/\((!wh4 l)=false->∃(v1:Unit),∃(v2:Nat),xd5 (↑(List.length (nL m (0:Nat))):Int) l v2/\(((0:Int)=(↑v2:Int)/\True)/\True)/\∀(v3:Nat),xd5 (↑(List.length (nL m (0:Nat))):Int) l v3->(decide ((↑v3:Int)<(↑Q0:Int))=true->((0:Int)<=(↑v3:Int)/\(↑v3:Int)<(↑Q0:Int))/\((0:Int)<=(0:Int)/\(0:Int)<(↑(List.length m):Int))/\fits .i64 ((↑(List.length (qa1 (Ty.list (Ty.int .i64)) m (0:Nat))):Int)-(1:Int))/\True/\((!inB (qa1 (Ty.int .i64) l (Int.toNat (↑v3:Int))) (0:Int) ((↑(List.length (qa1 (Ty.list (Ty.int .i64)) m (0:Nat))):Int)-(1:Int)))=true->(5:Int)=q42 (↑(List.length (nL m (0:Nat))):Int) l)/\((!inB (qa1 (Ty.int .i64) l (Int.toNat (↑v3:Int))) (0:Int) ((↑(List.length (qa1 (Ty.list (Ty.int .i64)) m (0:Nat))):Int)-(1:Int)))=false->fits .i64 ((↑v3:Int)+(1:Int))/\∃(v7:Nat),xd5 (↑(List.length (nL m (0:Nat))):Int) l v7/\List.length l-v7<List.length l-v3/\((↑v3:Int)+(1:Int)=(↑v7:Int)/\True)/\True))/\(decide ((↑v3:Int)<(↑Q0:Int))=false->(0:Int)=q42 (↑(List.length (nL m (0:Nat))):Int) l))) (by kernel_rfl) ?_
 try simp only[z0,z1,z2,z3,z4,z5,z6,z7,z8,z9,z10,Int.reduceEq,z11,z12,z13,z14,z15,z16,z17,z18,z19,z20,z21,z22,z23,z24,z25,z26,z27,z28,z29,z30,Int.reduceLE,Int.reduceLT,z31,z32,z33,z34,qa4]
 try simp only[qb6,qb7,qc8,List.set_cons_zero,List.cons.injEq,and_true,true_and]
 obtain⟨⟨h0,h1⟩,hl⟩:=h
 refine⟨hl,λha=>by simp[q42,ha],λha=>⟨(),0,⟨Nat.zero_le _,λi hi=>by omega⟩,rfl,λk hk=>⟨λhlt=>⟨hlt,by omega,qa7 (by omega) (by omega),λh2=>?_,λh2=>⟨qa7 (by omega) (by omega),k+1,⟨hlt,λi hi=>?_⟩,by omega,by omega⟩⟩,λhge=>?_⟩⟩⟩
 ·have:(l.any λp=>!(inB p 0 ((nL m 0).length-1)))=true:=by
   rw[List.any_eq_true]
   exact⟨nI l k,by rw[qh7 l k hlt]; exact List.getElem_mem hlt,by rw[h2]; rfl⟩
  simp[q42,ha,this]
 ·by_cases e:i=k
  ·subst e; exact h2
  ·exact hk.ok i (by omega)
 ·obtain rfl:k=l.length:=by have:=hk.le; omega
  have:(l.any λp=>!(inB p 0 ((nL m 0).length-1)))=false:=by
   rw[List.any_eq_false]
   intro x hx
   obtain⟨i,hi,rfl⟩:=List.getElem_of_mem hx
   have:=hk.ok i hi
   rw[qh7 l i hi] at this
   rw[this]; simp
  simp[q42,ha,this]
theorem q6n (l:List Int) (k:Nat) (hk:k<l.length):l.take (k+1)=l.take k++[nI l k]:=by
 rw[List.take_add_one,List.getElem?_eq_getElem hk,qh7 l k hk]; rfl
def q0l (n:Nat):List Int:=(List.range n).map λi:Nat=>(i:Int)
theorem w65 (n:Nat):q0l (n+1)=q0l n++[(n:Int)]:=by simp[q0l,List.range_succ]
theorem qk0 (n:Nat):(q0l n).length=n:=by simp[q0l]
theorem q6o (n i:Nat) (h:i<n):nI (q0l n) i=i:=by rw[qh7 _ _ (by rw[qk0]; exact h)]; simp[q0l]
abbrev x9k:qc0:=ws9 (wb7 [tInt]) true (some 3) .none (λx=>x.1<=100000) (λx=>.dat (.int .i64) (q0l x.1.toNat))
def x4u (n:Nat):Nat->Option Inv
 | 0=>some (Inv.of [3,6] 1 (λk:Nat=>[(3,.own 0),(6,.lit (.int .i64 k))]) (λk=>[.vec 3 (.int .i64) (q0l k)]) (λk=>k<=n) (λk=>n-k))
 | _=>none
theorem wm3:qd3 Tryz.prog 184 x9k:=by
 refine w03 (snd (SpecsOk.nil _)) Tryz.func184 rfl rfl (q07 [tInt]) (λx=>x4u x.1.toNat) (λ_=>by kernel_rfl) (by decide) ?_
 rintro⟨n,⟨⟩⟩ h
 revert n
 intro(n:Int) (h:n<=100000)
 refine @qd8 _ (let Q0:=Int.toNat n; ∃(v0:Unit),∃(v1:Nat),Nat.le v1 Q0/\((True/\(0:Int)=(↑v1:Int)/\True)/\q0l v1=[]/\True)/\∀(v2:Nat),Nat.le v2 Q0->(decide ((↑v2:Int)<n)=true->((0:Nat)<List.length [(↑v2:Int)]/\Nat.le (List.length (q0l v2)+List.length [(↑v2:Int)]) (1000000:Nat))/\fits .i64 ((↑v2:Int)+(1:Int))/\∃(v5:Nat),Nat.le v5 Q0/\Int.toNat n-v5<Int.toNat n-v2/\(True/\(↑v2:Int)+(1:Int)=(↑v5:Int)/\True)/\q0l v2++[(↑v2:Int)]=q0l v5/\True)/\(decide ((↑v2:Int)<n)=false->q0l v2=q0l Q0)) (by kernel_rfl) ?_
 try simp only[z0,z1,z2,z3,z4,z5,z6,z7,z8,z9,z10,Int.reduceEq,z11,z12,z13,z14,z15,z16,z17,z18,z19,z20,z21,z22,z23,z24,z25,z26,z27,z28,z29,z30,Int.reduceLE,Int.reduceLT,z31,z32,z33,z34,qa4]
 try simp only[qb6,qb7,qc8,List.set_cons_zero,List.cons.injEq,and_true,true_and]
 refine⟨(),0,Nat.zero_le _,⟨rfl,rfl⟩,λk hk=>⟨λhlt=>⟨by rw[qk0]; omega,qa7 (by omega) (by omega),k+1,by omega,by omega,by omega,(w65 k).symm⟩,λhge=>?_⟩⟩
 rw[show n.toNat=k by omega]
abbrev xr4:qc0:=qf8 true none [tInt] [tInts] (λ_=>True) (λ_=>([],()))
theorem q8w:qd3 Tryz.prog 145 xr4:=by
 refine meets (snd (SpecsOk.nil _)) Tryz.func145 rfl rfl (λ_ _=>none) (λ_=>by kernel_rfl) (by decide) ?_
 rintro⟨n,⟨⟩⟩ -
 revert n
 intro(n:Int)
 refine @qd8 _ (xy8 Int) (by kernel_rfl) ?_
 try simp only[z0,z1,z2,z3,z4,z5,z6,z7,z8,z9,z10,Int.reduceEq,z11,z12,z13,z14,z15,z16,z17,z18,z19,z20,z21,z22,z23,z24,z25,z26,z27,z28,z29,z30,Int.reduceLE,Int.reduceLT,z31,z32,z33,z34,qa4]
 try simp only[qb6,qb7,qc8,List.set_cons_zero,List.cons.injEq,and_true,true_and]
abbrev x0x:qc0:=hspec [] true none [.d tInt,.cap tInts] [tInts] (λx=>0<=x.1/\x.1<x.2.1.length) (λx=>([nI x.2.1 x.1.toNat],()))
theorem w3p:qd3 Tryz.prog 192 x0x:=by
 refine qt9 (SpecsOk.nil _) (x7b [8] (SpecsOk.nil _)) Tryz.func192 rfl rfl (λ_ _=>none) (λ_=>by kernel_rfl) (by decide) ?_
 rintro⟨n,y,⟨⟩⟩ h
 revert n y
 intro(n:Int) (y:List Int) (h:0<=n/\n<y.length)
 refine @qd8 _ (((0:Int)<=n/\n<(↑(List.length y):Int))/\[qa1 (Ty.int .i64) y (Int.toNat n)]=[nI y (Int.toNat n)]) (by kernel_rfl) ?_
 try simp only[z0,z1,z2,z3,z4,z5,z6,z7,z8,z9,z10,Int.reduceEq,z11,z12,z13,z14,z15,z16,z17,z18,z19,z20,z21,z22,z23,z24,z25,z26,z27,z28,z29,z30,Int.reduceLE,Int.reduceLT,z31,z32,z33,z34,qa4]
 try simp only[qb6,qb7,qc8,List.set_cons_zero,List.cons.injEq,and_true,true_and]
 exact h
def qp1 (r pix:List Int):List Int:=pix.map λp=>nI r p.toNat
def qb3 (m:List (List Int)) (pix:List Int) (f:Int->List Int):List (List Int):=(List.range m.length).map λi=>qp1 (nL m i) pix++f i
structure ChoOk (m:List (List Int)) (pix:List Int) (p:qa5 [.int .i64]->Prop) (f:qa5 [.int .i64]->List Int):Prop where
 rows:m.length<=10000
 cols:pix.length<=10000
 at_:∀i,i<m.length->∀j,j<pix.length->0<=nI pix j/\nI pix j<(nL m i).length
 fn:∀i:Nat,i<m.length->p ((i:Int),())/\(f ((i:Int),())).length<=10000
theorem qk8 (r pix:List Int):(qp1 r pix).length=pix.length:=by simp[qp1]
theorem qv2 (r pix:List Int) (j:Nat) (hj:j<pix.length):nI (qp1 r pix) j=nI r (nI pix j).toNat:=by
 rw[qh7 _ _ (by rw[qk8]; exact hj),qh7 pix j hj]; simp[qp1]
theorem qn5 (m:List (List Int)) (pix:List Int) (f:Int->List Int):(qb3 m pix f).length=m.length:=by simp[qb3]
theorem q8x (m:List (List Int)) (pix:List Int) (f:Int->List Int) (i:Nat) (hi:i<m.length):nL (qb3 m pix f) i=qp1 (nL m i) pix++f i:=by
 rw[ql9 _ _ (by rw[qn5]; exact hi)]; simp[qb3]
theorem takeL_snoc (m:List (List Int)) (k:Nat) (hk:k<m.length):m.take (k+1)=m.take k++[nL m k]:=by
 rw[List.take_add_one,List.getElem?_eq_getElem hk,ql9 m k hk]; rfl
abbrev x9l (fs:List (Nat × qc0)):qc0:=ws9 (w6s fs [.d tMask,.d tInts,.fn [tInt] tInts]) true (some 24) (some 3) (λx=>ChoOk x.1 x.2.1 x.2.2.1.1 x.2.2.1.2) (λx=>.dat (.list (.int .i64)) (qb3 x.1 x.2.1 λi=>x.2.2.1.2 (i,())))
def x4v (m:List (List Int)) (pix:List Int) (f:Int->List Int):Nat->Option Inv
 | 0=>some (Inv.of [7,15] 1 (λk:Nat=>[(7,.msl 0 .none),(15,.lit (.int .i64 k))]) (λk=>[.mat 24 3 (.int .i64) ((qb3 m pix f).take k) .none .none]) (λk=>k<=m.length) (λk=>m.length-k))
 | 1=>some (Eng.Inv.mk Nat Nat [7,10,22] 2 (λ_ j=>[(7,.msl 0 .none),(10,.own 1),(22,.lit (.int .i64 j))]) (λk j=>[.mat 24 3 (.int .i64) ((qb3 m pix f).take k) .none .none,.vec 3 (.int .i64) ((qp1 (nL m k) pix).take j)]) (λ_ j=>j<=pix.length) (λ_ j=>pix.length-j))
 | _=>none
theorem q6p {fs:List (Nat × qc0)} (hfs:SpecsOk Tryz.prog fs):qd3 Tryz.prog 74 (x9l fs):=by
 refine w03 (x0o [40] [39] (SpecsOk.nil _)) Tryz.func74 rfl rfl (w06 hfs [.d tMask,.d tInts,.fn [tInt] tInts]) (λx=>x4v x.1 x.2.1 λi=>x.2.2.1.2 (i,())) (λ_=>by kernel_rfl) (show 3<=_ by decide) ?_
 rintro⟨m,pix,⟨p,f⟩,⟨⟩⟩ h
 revert m pix p f
 intro(m:List (List Int)) (pix:List Int) (p:qa5 [.int .i64]->Prop) (f:qa5 [.int .i64]->List Int) (h:ChoOk m pix p f)
 refine @qd8 _ (let Q0:=List.length pix; let Q1:=List.length m; ∃(v0:Unit),∃(v1:Nat),Nat.le v1 Q1/\((True/\(0:Int)=(↑v1:Int)/\True)/\List.take v1 (qb3 m pix λ(v2:Int)=>f (v2,()))=[]/\True)/\∀(v2:Nat),Nat.le v2 Q1->(decide ((↑v2:Int)<(↑Q1:Int))=true->((0:Int)<=(↑v2:Int)/\(↑v2:Int)<(↑Q1:Int))/\∃(v5:Nat),∃(v6:Nat),Nat.le v6 Q0/\((True/\True/\(0:Int)=(↑v6:Int)/\True)/\(List.take v2 (qb3 m pix λ(v7:Int)=>f (v7,()))=List.take v5 (qb3 m pix λ(v7:Int)=>f (v7,()))/\True/\True)/\List.take v6 (qp1 (nL m v5) pix)=[]/\True)/\∀(v7:Nat),Nat.le v7 Q0->(decide ((↑v7:Int)<(↑Q0:Int))=true->((0:Int)<=(↑v7:Int)/\(↑v7:Int)<(↑Q0:Int))/\((0:Int)<=qa1 (Ty.int .i64) pix (Int.toNat (↑v7:Int))/\qa1 (Ty.int .i64) pix (Int.toNat (↑v7:Int))<(↑(List.length (qa1 (Ty.list (Ty.int .i64)) m (Int.toNat (↑v2:Int)))):Int))/\((0:Nat)<List.length [qa1 (Ty.int .i64) (qa1 (Ty.list (Ty.int .i64)) m (Int.toNat (↑v2:Int))) (Int.toNat (qa1 (Ty.int .i64) pix (Int.toNat (↑v7:Int))))]/\Nat.le (List.length (List.take v7 (qp1 (nL m v5) pix))+List.length [qa1 (Ty.int .i64) (qa1 (Ty.list (Ty.int .i64)) m (Int.toNat (↑v2:Int))) (Int.toNat (qa1 (Ty.int .i64) pix (Int.toNat (↑v7:Int))))]) (1000000:Nat))/\fits .i64 ((↑v7:Int)+(1:Int))/\∃(v10:Nat),Nat.le v10 Q0/\List.length pix-v10<List.length pix-v7/\(True/\True/\(↑v7:Int)+(1:Int)=(↑v10:Int)/\True)/\(List.take v5 (qb3 m pix λ(v11:Int)=>f (v11,()))=List.take v5 (qb3 m pix λ(v11:Int)=>f (v11,()))/\True/\True)/\List.take v7 (qp1 (nL m v5) pix)++[qa1 (Ty.int .i64) (qa1 (Ty.list (Ty.int .i64)) m (Int.toNat (↑v2:Int))) (Int.toNat (qa1 (Ty.int .i64) pix (Int.toNat (↑v7:Int))))]=List.take v10 (qp1 (nL m v5) pix)/\True)/\(decide ((↑v7:Int)<(↑Q0:Int))=false->p ((↑v2:Int),())/\Nat.le (List.length (List.take v7 (qp1 (nL m v5) pix))+List.length (f ((↑v2:Int),()))) (1000000:Nat)/\((0:Nat)<(0:Nat)+(1:Nat)/\List.length (List.take v5 (qb3 m pix λ(v10:Int)=>f (v10,())))+((0:Nat)+(1:Nat))<=(1000000:Nat))/\fits .i64 ((↑v2:Int)+(1:Int))/\∃(v10:Nat),Nat.le v10 Q1/\List.length m-v10<List.length m-v2/\(True/\(↑v2:Int)+(1:Int)=(↑v10:Int)/\True)/\(List.take v5 (qb3 m pix λ(v11:Int)=>f (v11,()))++[List.take v7 (qp1 (nL m v5) pix)++f ((↑v2:Int),())]=List.take v10 (qb3 m pix λ(v11:Int)=>f (v11,()))/\True/\True)/\True))/\(decide ((↑v2:Int)<(↑Q1:Int))=false->List.take v2 (qb3 m pix λ(v5:Int)=>f (v5,()))=qb3 m pix λ(v5:Int)=>f (v5,()))) (by kernel_rfl) ?_
 try simp only[z0,z1,z2,z3,z4,z5,z6,z7,z8,z9,z10,Int.reduceEq,z11,z12,z13,z14,z15,z16,z17,z18,z19,z20,z21,z22,z23,z24,z25,z26,z27,z28,z29,z30,Int.reduceLE,Int.reduceLT,z31,z32,z33,z34,qa4]
 try simp only[qb6,qb7,qc8,List.set_cons_zero,List.cons.injEq,and_true,true_and]
 have hr:=h.rows
 have hc:=h.cols
 have hl:=qn5 m pix λi=>f (i,())
 refine⟨(),0,Nat.zero_le _,⟨rfl,rfl⟩,λk hk=>⟨λhlt=>⟨hlt,k,0,Nat.zero_le _,⟨rfl,rfl,rfl⟩,λj hj=>⟨λhj2=>?_,λhj2=>?_⟩⟩,λhge=>?_⟩⟩
 ·have h1:=qk8 (nL m k) pix
  refine⟨hj2,h.at_ k hlt j hj2,by rw[List.length_take]; omega,qa7 (by omega) (by omega),j+1,by omega,by omega,by omega,?_⟩
  rw[q6n _ j (by omega),qv2 _ _ _ hj2]
 ·obtain rfl:j=pix.length:=by omega
  have h1:=qk8 (nL m k) pix
  have h2:=h.fn k hlt
  have h3:(qp1 (nL m k) pix).take pix.length=qp1 (nL m k) pix:=List.take_of_length_le (by omega)
  rw[h3]
  refine⟨h2.1,by omega,by rw[List.length_take]; omega,qa7 (by omega) (by omega),k+1,by omega,by omega,by omega,?_⟩
  rw[takeL_snoc _ k (by omega),q8x _ _ _ _ hlt]
 ·rw[List.take_of_length_le (by omega)]
end Go.Proofs.YtdibdlelmkcccaaGreat
