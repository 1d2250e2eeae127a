/- Rows with chosen columns: contracts by the engine. No condition. -/
import Derived.Test.YtnchigbbjajiiaaGreatV5
set_option linter.unusedVariables false
set_option linter.unusedSimpArgs false
namespace Go.Proofs.YtnchigbbjajiiaaGreat
open Go Go.RowKit Eng
structure Mk (m:List (List Int)):Prop where
 rows1:1<=m.length
 rows6:m.length<=6
 each:∀i,i<m.length->(nL m i).length=(nL m 0).length
 pix1:1<=(nL m 0).length
 pix10:(nL m 0).length<=10
 small:∀i,i<m.length->∀j,j<(nL m 0).length->-1<=nI (nL m i) j/\nI (nL m i) j<=1
theorem Mk.of {m:List (List Int)} (h:validB m=true):Mk m:=by
 unfold validB at h
 rw[za3,inB_iff,zar] at h
 obtain⟨h1,h2⟩:=h
 have each:∀i,i<m.length->(nL m i).length=(nL m 0).length/\rowB (nL m i)=true:=λi hi=>by
  have:=h2 (nL m i) (by simp_all [nL,qo5,tInts,List.getElem_mem])
  grind
 have hr:∀i,i<m.length->(1<=(nL m i).length/\(nL m i).length<=10)/\∀j,j<(nL m i).length->-1<=nI (nL m i) j/\nI (nL m i) j<=1:=λi hi=>by
  have:=(each i hi).2
  unfold rowB at this
  rw[za3,inB_iff,zar] at this
  refine⟨ow,λj hj=>inB_iff.1 (this.2 _ ?_)⟩
  simp_all [nI,qo5,tInt,List.getElem_mem]
 have h0:=hr 0 ow
 exact⟨ow,ow,λi hi=>(each i hi).1,h0.1.1,h0.1.2,λi hi j hj=>(hr i hi).2 j (by grind)⟩
def x2f (m:List (List Int)) (l:List Int):Int:=if validB m=false then 1 else wo3 (nL m 0).length l
def w6s (y:List Int):Bool:=y.any λn=>!(inB n (0-1000000) 1000000)
def q4j (m:List (List Int)) (y l:List Int):Int:=if validB m=false then 1 else if ¬y.length=m.length then 9 else if w6s y then 7 else x2f m l
structure q6g (m:List (List Int)):Prop where
 rows:m.length<=9223372036854775807
 each:∀i,i<m.length->(nL m i).length<=9223372036854775807
structure RowTo (l:List Int) (k:Nat):Prop where
 le:k<=l.length
 ok:∀i,i<k->inB (nI l i) (-1) 1=true
def x8g (l:List Int):Nat->Option Inv
 | 0=>some (Inv.of [7] 0 (λk:Nat=>[(7,.lit (.int .i64 k))]) (λ_=>[]) (λk=>RowTo l k) (λk=>l.length-k))
 | _=>none
theorem xc7 {l:List Int} {k:Nat} (hk:k<l.length) (h:inB (nI l k) (-1) 1=false):rowB l=false:=by
 cases e:rowB l with
 | false=>rfl
 | true=>
  unfold rowB at e
  rw[za3,zar] at e
  grind [nI,qf1,List.getElem_mem]
theorem RowTo.all {l:List Int} (h:RowTo l l.length):(l.all λn=>inB n (-1) 1)=true:=by
 rw[zar]
 intro x hx
 obtain⟨i,hi,rfl⟩:=zaz hx
 rw[<- qf1 l i hi]; exact h.ok i hi
abbrev yj8:qb3:=qe8 true none [tInts] [.bool] (λx=>x.1.length<=9223372036854775807) (λx=>(rowB x.1,()))
theorem w6t:Meets Tryz.prog 196 yj8:=by
 refine mts (SpecsOk.cons q0r (SpecsOk.nil _)) Tryz.func196 (λx=>x8g x.1) ?_
 rintro⟨l,⟨⟩⟩ h
 revert l
 intro(l:List Int) (h:l.length<=9223372036854775807)
 refine vcs (∃(v0:Unit),∃(v1:Nat),RowTo l v1/\(((0:Int)=(↑v1:Int)/\True)/\True)/\∀(v2:Nat),RowTo l v2->(decide ((↑v2:Int)<(↑l.length:Int))=true->((0:Int)<=(↑v2:Int)/\(↑v2:Int)<(↑l.length:Int))/\True/\((!inB (nI l v2) (-1:Int) (1:Int))=true->false=rowB l)/\((!inB (nI l v2) (-1:Int) (1:Int))=false->fits .i64 ((↑v2:Int)+(1:Int))/\∃(v6:Nat),RowTo l v6/\l.length-v6<l.length-v2/\((↑v2:Int)+(1:Int)=(↑v6:Int)/\True)/\True))/\(decide ((↑v2:Int)<(↑l.length:Int))=false->True/\inB (↑l.length:Int) (1:Int) (10:Int)=rowB l)) ?_
 refine⟨(),0,⟨zae _,λi hi=>by omega⟩,rfl,λk hk=>⟨λhlt=>⟨hlt,λh1=>(xc7 hlt h1).symm,λh1=>⟨qa3,k+1,⟨hlt,λi hi=>?_⟩,ow,ow⟩⟩,λhge=>?_⟩⟩
 ·by_cases e:i=k
  ·grind
  ·exact hk.ok i ow
 ·obtain rfl:k=l.length:=by have:=hk.le; omega
  rw[rowB,hk.all,Bool.and_true]
structure ye1 (m:List (List Int)) (k:Nat):Prop where
 le:k<=m.length
 ok:∀i,i<k->rowB (nL m i)=true/\(nL m i).length=(nL m 0).length
def yw4 (m:List (List Int)):Nat->Option Inv
 | 0=>some (Inv.of [7] 0 (λk:Nat=>[(7,.lit (.int .i64 k))]) (λ_=>[]) (λk=>ye1 m k) (λk=>m.length-k))
 | _=>none
theorem q75 {m:List (List Int)} {k:Nat} (hk:k<m.length) (h:rowB (nL m k)=false\/¬(nL m k).length=(nL m 0).length):validB m=false:=by
 cases e:validB m with
 | false=>rfl
 | true=>
  unfold validB at e
  rw[za3,zar] at e
  have:=e.2 (nL m k) (by grind [qm3,List.getElem_mem])
  grind
abbrev sV2:qb3:=qe8 true none [tMask] [.bool] (λx=>q6g x.1) (λx=>(validB x.1,()))
theorem q6y:Meets Tryz.prog 149 sV2:=by
 refine mts (SpecsOk.cons q0r (SpecsOk.cons w6t (SpecsOk.nil _))) Tryz.func149 (λx=>yw4 x.1) ?_
 rintro⟨m,⟨⟩⟩ h
 revert m
 intro(m:List (List Int)) (h:q6g m)
 refine vcs (∃(v0:Unit),∃(v1:Nat),ye1 m v1/\(((0:Int)=(↑v1:Int)/\True)/\True)/\∀(v2:Nat),ye1 m v2->(decide ((↑v2:Int)<(↑m.length:Int))=true->((0:Int)<=(↑v2:Int)/\(↑v2:Int)<(↑m.length:Int))/\(nL m v2).length<=(9223372036854775807:Nat)/\((!rowB (nL m v2))=true->false=validB m)/\((!rowB (nL m v2))=false->((0:Int)<=(0:Int)/\(0:Int)<(↑m.length:Int))/\(((↑(nL m v2).length:Int) != (↑(nL m (0:Nat)).length:Int))=true->false=validB m)/\(((↑(nL m v2).length:Int) != (↑(nL m (0:Nat)).length:Int))=false->fits .i64 ((↑v2:Int)+(1:Int))/\∃(v7:Nat),ye1 m v7/\m.length-v7<m.length-v2/\((↑v2:Int)+(1:Int)=(↑v7:Int)/\True)/\True)))/\(decide ((↑v2:Int)<(↑m.length:Int))=false->True/\inB (↑m.length:Int) (1:Int) (6:Int)=validB m)) ?_
 have hr:=h.rows
 refine⟨(),0,⟨zae _,λi hi=>by omega⟩,rfl,λk hk=>⟨λhlt=>⟨hlt,h.each k hlt,λh1=>(q75 hlt (.inl h1)).symm,λh1=>⟨ow,λh2=>(q75 hlt (.inr ow)).symm,λh2=>⟨qa3,k+1,⟨hlt,λi hi=>?_⟩,ow,ow⟩⟩⟩,λhge=>?_⟩⟩
 ·by_cases e:i=k
  ·grind
  ·exact hk.ok i ow
 ·obtain rfl:k=m.length:=by have:=hk.le; omega
  have:(m.all λl=>decide (l.length=(nL m 0).length) && rowB l)=true:=by
   rw[zar]
   intro x hx
   obtain⟨i,hi,rfl⟩:=zaz hx
   have:=hk.ok i hi
   grind [qm3]
  rw[validB,this,Bool.and_true]
def yj9 (l:List Int):Nat->Option Inv
 | 0=>some (Inv.of [3] 0 (λk:Nat=>[(3,.lit (.int .i64 k))]) (λ_=>[]) (λk=>1<=k/\(AscTo l k\/(k=1/\l=[]))) (λk=>l.length-k))
 | _=>none
abbrev yw5:qb3:=qe8 true none [tInts] [.bool] (λx=>x.1.length<=1000000) (λx=>(w6r x.1,()))
theorem xc8:Meets Tryz.prog 294 yw5:=by
 refine mts (SpecsOk.nil _) Tryz.func294 (λx=>yj9 x.1) ?_
 rintro⟨l,⟨⟩⟩ h
 revert l
 intro(l:List Int) (h:l.length<=1000000)
 refine vcs (∃(v0:Unit),∃(v1:Nat),((1:Nat)<=v1/\(AscTo l v1\/v1=(1:Nat)/\l=[]))/\(((1:Int)=(↑v1:Int)/\True)/\True)/\∀(v2:Nat),(1:Nat)<=v2/\(AscTo l v2\/v2=(1:Nat)/\l=[])->(decide ((↑v2:Int)<(↑l.length:Int))=true->((0:Int)<=(↑v2:Int)/\(↑v2:Int)<(↑l.length:Int))/\fits .i64 ((↑v2:Int)-(1:Int))/\((0:Int)<=(↑v2:Int)-(1:Int)/\(↑v2:Int)-(1:Int)<(↑l.length:Int))/\(decide (nI l v2<=nI l ((↑v2:Int)-(1:Int)).toNat)=true->false=w6r l)/\(decide (nI l v2<=nI l ((↑v2:Int)-(1:Int)).toNat)=false->fits .i64 ((↑v2:Int)+(1:Int))/\∃(v6:Nat),((1:Nat)<=v6/\(AscTo l v6\/v6=(1:Nat)/\l=[]))/\l.length-v6<l.length-v2/\((↑v2:Int)+(1:Int)=(↑v6:Int)/\True)/\True))/\(decide ((↑v2:Int)<(↑l.length:Int))=false->true=w6r l)) ?_
 refine⟨(),1,⟨zab _,?_⟩,rfl,λk ⟨h1,hk⟩=>⟨λhlt=>?_,λhge=>?_⟩⟩
 ·cases l with
  | nil=>simp
  | cons a l=>exact .inl ⟨by simp,λi h0 hi=>by omega⟩
 ·have hk:AscTo l k:=hk.resolve_right λ⟨_,e⟩=>by grind
  have e:((k:Int)-1).toNat=k-1:=ow
  rw[e]
  exact⟨hlt,qa3,ow,λh2=>(xw9 ow hlt h2).symm,λh2=>⟨qa3,k+1,⟨ow,.inl (hk.step hlt (.inr h2))⟩,ow,ow⟩⟩
 ·rcases hk with hk | ⟨_,rfl⟩
  ·obtain rfl:k=l.length:=by have:=hk.le; omega
   exact hk.all.symm
  rfl
structure xx0 (y:List Int) (k:Nat):Prop where
 le:k<=y.length
 ok:∀i,i<k->inB (nI y i) (-1000000) 1000000=true
def w1f (m:List (List Int)) (y:List Int):Int:=if ¬y.length=m.length then 9 else if w6s y then 7 else 0
def yk0 (y:List Int):Nat->Option Inv
 | 0=>some (Inv.of [14] 0 (λk:Nat=>[(14,.lit (.int .i64 k))]) (λ_=>[]) (λk=>xx0 y k) (λk=>y.length-k))
 | _=>none
abbrev yw6:qb3:=qe8 true none [tMask,tInts] [tInt] (λx=>x.1.length<=1000000) (λx=>(w1f x.1 x.2.1,()))
theorem wu3:Meets Tryz.prog 206 yw6:=by
 refine mts (SpecsOk.cons q4i (SpecsOk.nil _)) Tryz.func206 (λx=>yk0 x.2.1) ?_
 rintro⟨m,y,⟨⟩⟩ h
 revert m y
 intro(m:List (List Int)) (y:List Int) (h:m.length<=1000000)
 refine vcs ((((↑y.length:Int) != (↑m.length:Int))=true->(9:Int)=w1f m y)/\(((↑y.length:Int) != (↑m.length:Int))=false->∃(v1:Unit),∃(v2:Nat),xx0 y v2/\(((0:Int)=(↑v2:Int)/\True)/\True)/\∀(v3:Nat),xx0 y v3->(decide ((↑v3:Int)<(↑y.length:Int))=true->((0:Int)<=(↑v3:Int)/\(↑v3:Int)<(↑y.length:Int))/\True/\((!inB (nI y v3) (-1000000:Int) (1000000:Int))=true->(7:Int)=w1f m y)/\((!inB (nI y v3) (-1000000:Int) (1000000:Int))=false->fits .i64 ((↑v3:Int)+(1:Int))/\∃(v7:Nat),xx0 y v7/\y.length-v7<y.length-v3/\((↑v3:Int)+(1:Int)=(↑v7:Int)/\True)/\True))/\(decide ((↑v3:Int)<(↑y.length:Int))=false->(0:Int)=w1f m y))) ?_
 refine⟨λhl=>by rw[w1f,zao ow],λhl=>?_⟩
 have hl:y.length=m.length:=ow
 have e0:∀x:Int,inB x (-1000000) 1000000=inB x (0-1000000) 1000000:=λ_=>rfl
 refine⟨(),0,⟨zae _,λi hi=>by omega⟩,rfl,λk hk=>⟨λhlt=>⟨hlt,λh1=>?_,λh1=>⟨qa3,k+1,⟨hlt,λi hi=>?_⟩,ow,ow⟩⟩,λhge=>?_⟩⟩
 ·grind [w6s,List.any_eq_true,nI,qf1,List.getElem_mem,w1f]
 ·by_cases e:i=k
  ·grind
  ·exact hk.ok i ow
 ·obtain rfl:k=y.length:=by have:=hk.le; omega
  have:w6s y=false:=by
   unfold w6s
   rw[zbr]
   intro x hx
   obtain⟨i,hi,rfl⟩:=zaz hx
   have:=hk.ok i hi
   grind [qf1]
  grind [w1f]
def qn5 (m:List (List Int)) (y:List Int):Int:=if validB m=false then 1 else w1f m y
abbrev x8h:qb3:=qe8 true none [tMask,tInts] [tInt] (λx=>q6g x.1) (λx=>(qn5 x.1 x.2.1,()))
theorem q76:Meets Tryz.prog 158 x8h:=by
 refine mt0 (SpecsOk.cons q6y (SpecsOk.cons wu3 (SpecsOk.nil _))) Tryz.func158 ?_
 rintro⟨m,y,⟨⟩⟩ h
 revert m y
 intro(m:List (List Int)) (y:List Int) (h:q6g m)
 refine vcs (q6g m/\((!validB m)=true->(1:Int)=qn5 m y)/\((!validB m)=false->m.length<=(1000000:Nat)/\w1f m y=qn5 m y)) ?_
 refine⟨h,λhv=>by grind [qn5],λhv=>⟨?_,by grind [qn5]⟩⟩
 have:=(Mk.of hv).rows6
 omega
structure xx1 (n:Int) (l:List Int) (k:Nat):Prop where
 le:k<=l.length
 ok:∀i,i<k->inB (nI l i) 0 (n-1)=true
def x8i (m:List (List Int)) (l:List Int):Nat->Option Inv
 | 0=>some (Inv.of [12] 0 (λk:Nat=>[(12,.lit (.int .i64 k))]) (λ_=>[]) (λk=>xx1 (nL m 0).length l k) (λk=>l.length-k))
 | _=>none
abbrev yk1:qb3:=qe8 true none [tMask,tInts] [tInt] (λx=>(0<x.1.length/\(nL x.1 0).length<=1000000)/\x.2.1.length<=1000000) (λx=>(wo3 (nL x.1 0).length x.2.1,()))
theorem w6u:Meets Tryz.prog 290 yk1:=by
 refine mts (SpecsOk.cons q4i (SpecsOk.cons xc8 (SpecsOk.nil _))) Tryz.func290 (λx=>x8i x.1 x.2.1) ?_
 rintro⟨m,l,⟨⟩⟩ h
 revert m l
 intro(m:List (List Int)) (l:List Int) (h:(0<m.length/\(nL m 0).length<=1000000)/\l.length<=1000000)
 refine vcs (l.length<=(1000000:Nat)/\((!w6r l)=true->(7:Int)=wo3 (↑(nL m (0:Nat)).length:Int) l)/\((!w6r l)=false->∃(v1:Unit),∃(v2:Nat),xx1 (↑(nL m (0:Nat)).length:Int) l v2/\(((0:Int)=(↑v2:Int)/\True)/\True)/\∀(v3:Nat),xx1 (↑(nL m (0:Nat)).length:Int) l v3->(decide ((↑v3:Int)<(↑l.length:Int))=true->((0:Int)<=(↑v3:Int)/\(↑v3:Int)<(↑l.length:Int))/\((0:Int)<=(0:Int)/\(0:Int)<(↑m.length:Int))/\fits .i64 ((↑(nL m (0:Nat)).length:Int)-(1:Int))/\True/\((!inB (nI l v3) (0:Int) ((↑(nL m (0:Nat)).length:Int)-(1:Int)))=true->(5:Int)=wo3 (↑(nL m (0:Nat)).length:Int) l)/\((!inB (nI l v3) (0:Int) ((↑(nL m (0:Nat)).length:Int)-(1:Int)))=false->fits .i64 ((↑v3:Int)+(1:Int))/\∃(v7:Nat),xx1 (↑(nL m (0:Nat)).length:Int) l v7/\l.length-v7<l.length-v3/\((↑v3:Int)+(1:Int)=(↑v7:Int)/\True)/\True))/\(decide ((↑v3:Int)<(↑l.length:Int))=false->(0:Int)=wo3 (↑(nL m (0:Nat)).length:Int) l))) ?_
 obtain⟨⟨h0,h1⟩,hl⟩:=h
 refine⟨hl,λha=>by grind [wo3],λha=>⟨(),0,⟨zae _,λi hi=>by omega⟩,rfl,λk hk=>⟨λhlt=>⟨hlt,ow,qa3,λh2=>?_,λh2=>⟨qa3,k+1,⟨hlt,λi hi=>?_⟩,ow,ow⟩⟩,λhge=>?_⟩⟩⟩
 ·have:(l.any λp=>!(inB p 0 ((nL m 0).length-1)))=true:=by
   grind [List.any_eq_true,nI,qf1,List.getElem_mem]
  grind [wo3]
 ·by_cases e:i=k
  ·grind
  ·exact hk.ok i ow
 ·obtain rfl:k=l.length:=by have:=hk.le; omega
  have:(l.any λp=>!(inB p 0 ((nL m 0).length-1)))=false:=by
   rw[zbr]
   intro x hx
   obtain⟨i,hi,rfl⟩:=zaz hx
   have:=hk.ok i hi
   grind [qf1]
  grind [wo3]
theorem q1o (l:List Int) (k:Nat) (hk:k<l.length):l.take (k+1)=l.take k++[nI l k]:=by
 grind [List.take_add_one,List.getElem?_eq_getElem,qf1]
def qp8 (n:Nat):List Int:=(List.range n).map λi:Nat=>(i:Int)
theorem wu4 (n:Nat):qp8 (n+1)=qp8 n++[(n:Int)]:=by simp[qp8,List.range_succ]
theorem qg1 (n:Nat):(qp8 n).length=n:=by simp[qp8]
theorem q5e (n i:Nat) (h:i<n):nI (qp8 n) i=i:=by grind [qf1,qg1,qp8]
abbrev yw7:qb3:=q96 (q4c [tInt]) true (some 3) .none (λx=>x.1<=100000) (λx=>.dat (.int .i64) (qp8 x.1.toNat))
def yk2 (n:Nat):Nat->Option Inv
 | 0=>some (Inv.of [3,6] 1 (λk:Nat=>[(3,.own 0),(6,.lit (.int .i64 k))]) (λk=>[.vec 3 (.int .i64) (qp8 k)]) (λk=>k<=n) (λk=>n-k))
 | _=>none
theorem q77:Meets Tryz.prog 133 yw7:=by
 refine wt2 (snd (SpecsOk.nil _)) Tryz.func133 rfl rfl (qx0 [tInt]) (λx=>yk2 x.1.toNat) (λ_=>by kernel_rfl) dc ?_
 rintro⟨n,⟨⟩⟩ h
 revert n
 intro(n:Int) (h:n<=100000)
 refine vcs (∃(v0:Unit),∃(v1:Nat),Nat.le v1 n.toNat/\((True/\(0:Int)=(↑v1:Int)/\True)/\qp8 v1=[]/\True)/\∀(v2:Nat),Nat.le v2 n.toNat->(decide ((↑v2:Int)<n)=true->((0:Nat)<List.length [(↑v2:Int)]/\Nat.le ((qp8 v2).length+List.length [(↑v2:Int)]) (1000000:Nat))/\fits .i64 ((↑v2:Int)+(1:Int))/\∃(v5:Nat),Nat.le v5 n.toNat/\n.toNat-v5<n.toNat-v2/\(True/\(↑v2:Int)+(1:Int)=(↑v5:Int)/\True)/\qp8 v2++[(↑v2:Int)]=qp8 v5/\True)/\(decide ((↑v2:Int)<n)=false->qp8 v2=qp8 n.toNat)) ?_
 refine⟨(),0,zae _,⟨rfl,rfl⟩,λk hk=>⟨λhlt=>⟨by grind [qg1],qa3,k+1,ow,ow,ow,(wu4 k).symm⟩,λhge=>?_⟩⟩
 grind
abbrev x4m:qb3:=qe8 true none [tInt] [tInts] (λ_=>True) (λ_=>([],()))
theorem wc9:Meets Tryz.prog 202 x4m:=by
 refine mt0 (SpecsOk.nil _) Tryz.func202 ?_
 rintro⟨n,⟨⟩⟩ -
 revert n
 intro(n:Int)
 exact vct (x7b Int)
def qm0 (r pix:List Int):List Int:=pix.map λp=>nI r p.toNat
def qb9 (m:List (List Int)) (pix:List Int) (f:Int->List Int):List (List Int):=(List.range m.length).map λi=>qm0 (nL m i) pix++f i
structure ChoOk (m:List (List Int)) (pix:List Int) (p:qa5 [.int .i64]->Prop) (f:qa5 [.int .i64]->List Int):Prop where
 rows:m.length<=10000
 cols:pix.length<=10000
 at_:∀i,i<m.length->∀j,j<pix.length->0<=nI pix j/\nI pix j<(nL m i).length
 fn:∀i:Nat,i<m.length->p ((i:Int),())/\(f ((i:Int),())).length<=10000
theorem qi0 (r pix:List Int):(qm0 r pix).length=pix.length:=by simp[qm0]
theorem qq6 (r pix:List Int) (j:Nat) (hj:j<pix.length):nI (qm0 r pix) j=nI r (nI pix j).toNat:=by
 grind [qf1,qi0,qm0]
theorem q0s (m:List (List Int)) (pix:List Int) (f:Int->List Int):(qb9 m pix f).length=m.length:=by simp[qb9]
theorem w6v (m:List (List Int)) (pix:List Int) (f:Int->List Int) (i:Nat) (hi:i<m.length):nL (qb9 m pix f) i=qm0 (nL m i) pix++f i:=by
 grind [qm3,q0s,qb9]
theorem takeL_snoc (m:List (List Int)) (k:Nat) (hk:k<m.length):m.take (k+1)=m.take k++[nL m k]:=by
 grind [List.take_add_one,List.getElem?_eq_getElem,qm3]
abbrev yw8 (fs:List (Nat × qb3)):qb3:=q96 (wt4 fs [.d tMask,.d tInts,.fn [tInt] tInts]) true (some 24) (some 3) (λx=>ChoOk x.1 x.2.1 x.2.2.1.1 x.2.2.1.2) (λx=>.dat (.list (.int .i64)) (qb9 x.1 x.2.1 λi=>x.2.2.1.2 (i,())))
def yk3 (m:List (List Int)) (pix:List Int) (f:Int->List Int):Nat->Option Inv
 | 0=>some (Inv.of [7,15] 1 (λk:Nat=>[(7,.msl 0 .none),(15,.lit (.int .i64 k))]) (λk=>[.mat 24 3 (.int .i64) ((qb9 m pix f).take k) .none .none]) (λk=>k<=m.length) (λk=>m.length-k))
 | 1=>some (Eng.Inv.mk Nat Nat [7,10,22] 2 (λ_ j=>[(7,.msl 0 .none),(10,.own 1),(22,.lit (.int .i64 j))]) (λk j=>[.mat 24 3 (.int .i64) ((qb9 m pix f).take k) .none .none,.vec 3 (.int .i64) ((qm0 (nL m k) pix).take j)]) (λ_ j=>j<=pix.length) (λ_ j=>pix.length-j))
 | _=>none
theorem wu5 {fs:List (Nat × qb3)} (hfs:SpecsOk Tryz.prog fs):Meets Tryz.prog 144 (yw8 fs):=by
 refine wt2 (x4h [40] [39] (SpecsOk.nil _)) Tryz.func144 rfl rfl (q4e hfs [.d tMask,.d tInts,.fn [tInt] tInts]) (λx=>yk3 x.1 x.2.1 λi=>x.2.2.1.2 (i,())) (λ_=>by kernel_rfl) (show 3<=_ by decide) ?_
 rintro⟨m,pix,⟨p,f⟩,⟨⟩⟩ h
 revert m pix p f
 intro(m:List (List Int)) (pix:List Int) (p:qa5 [.int .i64]->Prop) (f:qa5 [.int .i64]->List Int) (h:ChoOk m pix p f)
 refine vcs (∃(v0:Unit),∃(v1:Nat),Nat.le v1 m.length/\((True/\(0:Int)=(↑v1:Int)/\True)/\List.take v1 (qb9 m pix λ(v2:Int)=>f (v2,()))=[]/\True)/\∀(v2:Nat),Nat.le v2 m.length->(decide ((↑v2:Int)<(↑m.length:Int))=true->((0:Int)<=(↑v2:Int)/\(↑v2:Int)<(↑m.length:Int))/\∃(v5:Nat),∃(v6:Nat),Nat.le v6 pix.length/\((True/\True/\(0:Int)=(↑v6:Int)/\True)/\(List.take v2 (qb9 m pix λ(v7:Int)=>f (v7,()))=List.take v5 (qb9 m pix λ(v7:Int)=>f (v7,()))/\True/\True)/\List.take v6 (qm0 (nL m v5) pix)=[]/\True)/\∀(v7:Nat),Nat.le v7 pix.length->(decide ((↑v7:Int)<(↑pix.length:Int))=true->((0:Int)<=(↑v7:Int)/\(↑v7:Int)<(↑pix.length:Int))/\((0:Int)<=nI pix v7/\nI pix v7<(↑(nL m v2).length:Int))/\((0:Nat)<List.length [nI (nL m v2) (nI pix v7).toNat]/\Nat.le ((List.take v7 (qm0 (nL m v5) pix)).length+List.length [nI (nL m v2) (nI pix v7).toNat]) (1000000:Nat))/\fits .i64 ((↑v7:Int)+(1:Int))/\∃(v10:Nat),Nat.le v10 pix.length/\pix.length-v10<pix.length-v7/\(True/\True/\(↑v7:Int)+(1:Int)=(↑v10:Int)/\True)/\(List.take v5 (qb9 m pix λ(v11:Int)=>f (v11,()))=List.take v5 (qb9 m pix λ(v11:Int)=>f (v11,()))/\True/\True)/\List.take v7 (qm0 (nL m v5) pix)++[nI (nL m v2) (nI pix v7).toNat]=List.take v10 (qm0 (nL m v5) pix)/\True)/\(decide ((↑v7:Int)<(↑pix.length:Int))=false->p ((↑v2:Int),())/\Nat.le ((List.take v7 (qm0 (nL m v5) pix)).length+(f ((↑v2:Int),())).length) (1000000:Nat)/\((0:Nat)<(0:Nat)+(1:Nat)/\(List.take v5 (qb9 m pix λ(v10:Int)=>f (v10,()))).length+((0:Nat)+(1:Nat))<=(1000000:Nat))/\fits .i64 ((↑v2:Int)+(1:Int))/\∃(v10:Nat),Nat.le v10 m.length/\m.length-v10<m.length-v2/\(True/\(↑v2:Int)+(1:Int)=(↑v10:Int)/\True)/\(List.take v5 (qb9 m pix λ(v11:Int)=>f (v11,()))++[List.take v7 (qm0 (nL m v5) pix)++f ((↑v2:Int),())]=List.take v10 (qb9 m pix λ(v11:Int)=>f (v11,()))/\True/\True)/\True))/\(decide ((↑v2:Int)<(↑m.length:Int))=false->List.take v2 (qb9 m pix λ(v5:Int)=>f (v5,()))=qb9 m pix λ(v5:Int)=>f (v5,()))) ?_
 have hr:=h.rows
 have hc:=h.cols
 have hl:=q0s m pix λi=>f (i,())
 refine⟨(),0,zae _,⟨rfl,rfl⟩,λk hk=>⟨λhlt=>⟨hlt,k,0,zae _,⟨rfl,rfl,rfl⟩,λj hj=>⟨λhj2=>?_,λhj2=>?_⟩⟩,λhge=>?_⟩⟩
 ·have h1:=qi0 (nL m k) pix
  refine⟨hj2,h.at_ k hlt j hj2,by grind,qa3,j+1,ow,ow,ow,?_⟩
  grind [q1o,qq6]
 ·obtain rfl:j=pix.length:=ow
  have h1:=qi0 (nL m k) pix
  have h2:=h.fn k hlt
  have h3:(qm0 (nL m k) pix).take pix.length=qm0 (nL m k) pix:=zbc ow
  rw[h3]
  refine⟨h2.1,ow,by grind,qa3,k+1,ow,ow,ow,?_⟩
  grind [takeL_snoc,w6v]
 grind
end Go.Proofs.YtnchigbbjajiiaaGreat
