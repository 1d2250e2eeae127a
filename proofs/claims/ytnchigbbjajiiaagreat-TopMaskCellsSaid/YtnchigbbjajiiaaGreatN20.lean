/- Cells that are made, and the pictures of a field: contracts by the engine. No condition. -/
import Derived.Test.YtnchigbbjajiiaaGreatProg
import Derived.Test.YtnchigbbjajiiaaGreatApp
import Derived.Test.YtnchigbbjajiiaaGreatEng3
import Derived.Test.YtnchigbbjajiiaaGreatV5
set_option linter.unusedSimpArgs false
set_option linter.unusedVariables false
namespace Go.Proofs.YtnchigbbjajiiaaGreat
open Go Go.RowKit Ls Eng
theorem yn5:Elt Tryz.prog 24 3 (.int .i64 0) 1 8:=⟨Tryz.underlying24,kr⟩
theorem w8j (w:World) (t:TypeId):(w.alloc (.cells #[] t)).ownsRow w.heap.size t 1 (.slice (some ⟨w.heap.size,0,none⟩) 0 0) 0 []:=
 ⟨rfl,.inr ⟨w.heap.size,0,#[],rfl,zad _,heap_alloc_new w _,zad _,by simp,rfl,rfl⟩⟩
set_option maxRecDepth 100000 in
set_option maxHeartbeats 400000 in
theorem clone_any (X:Option Addr) (k d:Nat) (l:List Int) (w:World) (hl:SI w X k d l) (hk:k<=100000) :
  Calls Tryz.prog 48 #[.slice X k d] w λe w'=>∃A' c',e=.returned (.slice A' k c')/\w'.ownsRow w.heap.size 3 1 (.slice A' k c') k (ints l)/\Below w.heap.size w w':=by
 have hll:=hidx hl.len
 cases X with
 | none=>
  have h0:k=0:=by
   rcases zb2 k with h | h
   ·exact h
   ·obtain⟨ad,e,_⟩:=hl.at_ h; cases e
  subst h0
  have hl0:l=[]:=zay hll.out
  subst hl0
  have hq:=λw=>Lib.run_eql_slice_nil (P:=Tryz.prog) w 24 3 none 0 d 0 0 Tryz.underlying24
  go_enter Tryz.func48,Tryz.ntmps48
  go_wp2
  go_ret
  exact⟨none,0,rfl,zbp _ _ _ _,zc0 _ _⟩
 | some ad=>
  have sv:=hl.values
  have o1:=xk9 l
  have hq:=λw=>Lib.run_eql_slice_nil (P:=Tryz.prog) w 24 3 (some ad) k d 0 0 Tryz.underlying24
  go_enter Tryz.func48,Tryz.ntmps48
  go_wp2_with (at_builtin; refine yn4 _ yn5 rfl rfl _ _ rfl rfl rfl (w8j _ _) (below_alloc _ _) (zad _) (sv.below (below_alloc _ _)) o1 ow ow ?_; intro A2 c2 w2 hown2 hb2 _; rw[zb8] at hown2)
  go_ret
  exact⟨A2,c2,rfl,by grind,hb2⟩
abbrev x5c:qa8:=qe4 true (some 3) [.list (.int .i64)] [.list (.int .i64)] (λx=>x.1.length<=100000) (λx=>(x.1,()))
theorem rdL_ints (m:View):∀l:List Int,RdL m (.int .i64) l (ints l)
 | []=>rfl
 | x :: l=>⟨[.int .i64 x],ints l,rfl,rfl,rdL_ints m l⟩
theorem q2m:Meets Tryz.prog 48 x5c:=by
 refine⟨⟨_,_,Tryz.func48,rfl,rfl⟩,λw m args vs k hm hargs hrun=>?_⟩
 obtain⟨⟨l,⟨⟩⟩,⟨hp,hk⟩,hx⟩:=qj3 hrun hargs
 have hp:l.length<=100000:=hp
 obtain⟨u,us,rfl,h1,h2⟩:=hx
 obtain rfl:us=[]:=h2
 obtain⟨A,c,rfl,hSI⟩:=xk2 hm (show Rd m (.list (.int .i64)) l [u] from h1)
 refine(clone_any A l.length c l w hSI hp).mono λe w' ⟨A',c',e1,e2,e3⟩=>?_
 exact⟨_,λ_=>none,e1,e3,(λb o h=>by cases h),(λb o h=>by cases h),.inl ⟨.int .i64,l,ints l,hk,e2,rdL_ints _ l,λ_ _=>rfl⟩⟩
open Go Go.RowKit Eng
structure Mk (m:List (List Int)):Prop where
 rows1:1<=m.length
 rows6:m.length<=6
 each:∀i,i<m.length->(nL m i).length=(nL m 0).length
 pix1:1<=(nL m 0).length
 pix10:(nL m 0).length<=10
 small:∀i,i<m.length->∀j,j<(nL m 0).length->-1<=nI (nL m i) j/\nI (nL m i) j<=1
theorem Mk.of {m:List (List Int)} (h:qb6 m=true):Mk m:=by
 unfold qb6 at h
 rw[zam,qf9,zaq] at h
 obtain⟨h1,h2⟩:=h
 have each:∀i,i<m.length->(nL m i).length=(nL m 0).length/\rowB (nL m i)=true:=λi hi=>by
  have:=h2 (nL m i) (by simp_all [nL,qo1,qd4,List.getElem_mem])
  grind
 have hr:∀i,i<m.length->(1<=(nL m i).length/\(nL m i).length<=10)/\∀j,j<(nL m i).length->-1<=nI (nL m i) j/\nI (nL m i) j<=1:=λi hi=>by
  have:=(each i hi).2
  unfold rowB at this
  rw[zam,qf9,zaq] at this
  refine⟨ow,λj hj=>qf9.1 (this.2 _ ?_)⟩
  simp_all [nI,qo1,qb9,List.getElem_mem]
 have h0:=hr 0 ow
 exact⟨ow,ow,λi hi=>(each i hi).1,h0.1.1,h0.1.2,λi hi j hj=>(hr i hi).2 j (by grind)⟩
def xl0 (m:List (List Int)) (l:List Int):Int:=if qb6 m=false then 1 else w50 (nL m 0).length l
abbrev yn6:qa8:=qe4 true none [qf8,qd4] [qb9] (λx=>x.2.1.length<=1000000) (λx=>(xl0 x.1 x.2.1,()))
theorem w8k:Meets Tryz.prog 105 yn6:=by
 refine mt0 (SpecsOk.cons qq3 (SpecsOk.cons w8i (SpecsOk.nil _))) Tryz.func105 ?_
 rintro⟨m,l,⟨⟩⟩ h
 revert m l
 intro(m:List (List Int)) (l:List Int) (h:l.length<=1000000)
 refine vcs (True/\((!qb6 m)=true->(1:Int)=xl0 m l)/\((!qb6 m)=false->((0:Int)<=(0:Int)/\(0:Int)<(↑m.length:Int))/\(((0:Ty.den qb9)<=(↑(nL m (0:Nat)).length:Int)/\(↑(nL m (0:Nat)).length:Int)<=BIG)/\l.length<=(1000000:Nat))/\w50 (↑(nL m (0:Nat)).length:Int) l=xl0 m l)) ?_
 refine⟨λhv=>by grind [xl0],λhv=>?_⟩
 have hM:=Mk.of hv
 have h1:=hM.rows1
 have h2:=hM.pix10
 grind [BIG,xl0]
def x3i (y:List Int):Bool:=y.any λn=>!(inB n (0-1000000) 1000000)
def q5h (m:List (List Int)) (y l:List Int):Int:=if qb6 m=false then 1 else if ¬y.length=m.length then 9 else if x3i y then 7 else xl0 m l
abbrev yn7:qa8:=qe4 true none [qf8,qd4,qd4] [qb9] (λx=>x.2.2.1.length<=1000000) (λx=>(q5h x.1 x.2.1 x.2.2.1,()))
theorem q7g:Meets Tryz.prog 59 yn7:=by
 refine mt0 (SpecsOk.cons qq3 (SpecsOk.cons w8k (SpecsOk.cons w8h (SpecsOk.cons (qw4 (fs:=[(116,x49)]) (SpecsOk.cons w4f (SpecsOk.nil _))) (SpecsOk.nil _))))) Tryz.func59 ?_
 rintro⟨m,y,l,⟨⟩⟩ h
 revert m y l
 intro(m:List (List Int)) (y:List Int) (l:List Int) (h:l.length<=1000000)
 refine vcs (True/\((!qb6 m)=true->(1:Int)=q5h m y l)/\((!qb6 m)=false->(((↑y.length:Int) != (↑m.length:Int))=true->(9:Int)=q5h m y l)/\(((↑y.length:Int) != (↑m.length:Int))=false->True/\∃(v2:qa3 [Ty.int .i64]->Prop),∃(v3:qa3 [Ty.int .i64]->Bool),(∀(v4:Int × qa3._f [] PUnit.unit),v2 v4->((0:PTy.den (PTy.cap qb9))<=(1000000:Int)/\(1000000:Int)<=BIG)/\(!inB v4.1 ((0:Int)-(1000000:Int)) (1000000:Int))=v3 v4)/\(y.length<=(1000000:Nat)/\∀(v4:Nat),v4<y.length->v2 (nI y v4,()))/\((List.any y λ(v5:Int)=>v3 (v5,()))=true->(7:Int)=q5h m y l)/\((List.any y λ(v5:Int)=>v3 (v5,()))=false->l.length<=(1000000:Nat)/\xl0 m l=q5h m y l)))) ?_
 refine⟨λhv=>by grind [q5h],λhv=>⟨λhl=>?_,λhl=>?_⟩⟩
 ·grind [q5h]
 have hl:y.length=m.length:=ow
 have hM:=Mk.of hv
 have h1:=hM.rows6
 refine⟨λ_=>True,λx=>!(inB x.1 (0-1000000) 1000000),λx _=>⟨dc,by simp⟩,⟨ow,λ_ _=>trivial⟩,λho=>?_,λho=>⟨h,?_⟩⟩
 all_goals grind [x3i,q5h]
structure x9d (m:List (List Int)):Prop where
 rows:m.length<=9223372036854775807
 each:∀i,i<m.length->(nL m i).length<=9223372036854775807
theorem w8l (l:List Int) (k:Nat) (hk:k<l.length):l.take (k+1)=l.take k++[nI l k]:=by
 grind [List.take_add_one,List.getElem?_eq_getElem,qf2]
def qo0 (n:Nat):List Int:=(List.range n).map λi:Nat=>(i:Int)
theorem w8m (n:Nat):qo0 (n+1)=qo0 n++[(n:Int)]:=by simp[qo0,List.range_succ]
theorem qe8 (n:Nat):(qo0 n).length=n:=by simp[qo0]
theorem q2n (n i:Nat) (h:i<n):nI (qo0 n) i=i:=by grind [qf2,qe8,qo0]
abbrev yn8:qa8:=q8o (q0m [qb9]) true (some 3) .none (λx=>x.1<=100000) (λx=>.dat (.int .i64) (qo0 x.1.toNat))
def x9e (n:Nat):Nat->Option Inv
 | 0=>some (Inv.of [3,6] 1 (λk:Nat=>[(3,.own 0),(6,.lit (.int .i64 k))]) (λk=>[.vec 3 (.int .i64) (qo0 k)]) (λk=>k<=n) (λk=>n-k))
 | _=>none
theorem q3k:Meets Tryz.prog 133 yn8:=by
 refine q9c (snd (SpecsOk.nil _)) Tryz.func133 rfl rfl (ql4 [qb9]) (λx=>x9e x.1.toNat) (λ_=>by kernel_rfl) dc ?_
 rintro⟨n,⟨⟩⟩ h
 revert n
 intro(n:Int) (h:n<=100000)
 refine vcs (∃(v0:Unit),∃(v1:Nat),Nat.le v1 n.toNat/\((True/\(0:Int)=(↑v1:Int)/\True)/\qo0 v1=[]/\True)/\∀(v2:Nat),Nat.le v2 n.toNat->(decide ((↑v2:Int)<n)=true->((0:Nat)<List.length [(↑v2:Int)]/\Nat.le ((qo0 v2).length+List.length [(↑v2:Int)]) (1000000:Nat))/\fits .i64 ((↑v2:Int)+(1:Int))/\∃(v5:Nat),Nat.le v5 n.toNat/\n.toNat-v5<n.toNat-v2/\(True/\(↑v2:Int)+(1:Int)=(↑v5:Int)/\True)/\qo0 v2++[(↑v2:Int)]=qo0 v5/\True)/\(decide ((↑v2:Int)<n)=false->qo0 v2=qo0 n.toNat)) ?_
 refine⟨(),0,zae _,⟨rfl,rfl⟩,λk hk=>⟨λhlt=>⟨by grind [qe8],qa7,k+1,ow,ow,ow,(w8m k).symm⟩,λhge=>?_⟩⟩
 grind
abbrev x1j:qa8:=qe4 true none [qb9] [qd4] (λ_=>True) (λ_=>([],()))
theorem q9j:Meets Tryz.prog 202 x1j:=by
 refine mt0 (SpecsOk.nil _) Tryz.func202 ?_
 rintro⟨n,⟨⟩⟩ -
 revert n
 intro(n:Int)
 exact vct (x3s Int)
abbrev x5d:qa8:=hspec [] true none [.d qb9,.cap qd4] [qd4] (λx=>0<=x.1/\x.1<x.2.1.length) (λx=>([nI x.2.1 x.1.toNat],()))
theorem w4h:Meets Tryz.prog 264 x5d:=by
 refine qi4 (SpecsOk.nil _) (ym2 [8] (SpecsOk.nil _)) Tryz.func264 rfl rfl (λ_ _=>none) (λ_=>by kernel_rfl) dc ?_
 rintro⟨n,y,⟨⟩⟩ h
 revert n y
 intro(n:Int) (y:List Int) (h:0<=n/\n<y.length)
 refine vcs (((0:Int)<=n/\n<(↑y.length:Int))/\[nI y n.toNat]=[nI y n.toNat]) ?_
 exact h
def qz0 (r pix:List Int):List Int:=pix.map λp=>nI r p.toNat
def qb3 (m:List (List Int)) (pix:List Int) (f:Int->List Int):List (List Int):=(List.range m.length).map λi=>qz0 (nL m i) pix++f i
structure ChoOk (m:List (List Int)) (pix:List Int) (p:qa3 [.int .i64]->Prop) (f:qa3 [.int .i64]->List Int):Prop where
 rows:m.length<=10000
 cols:pix.length<=10000
 at_:∀i,i<m.length->∀j,j<pix.length->0<=nI pix j/\nI pix j<(nL m i).length
 fn:∀i:Nat,i<m.length->p ((i:Int),())/\(f ((i:Int),())).length<=10000
theorem qi8 (r pix:List Int):(qz0 r pix).length=pix.length:=by simp[qz0]
theorem q1e (r pix:List Int) (j:Nat) (hj:j<pix.length):nI (qz0 r pix) j=nI r (nI pix j).toNat:=by
 grind [qf2,qi8,qz0]
theorem qn2 (m:List (List Int)) (pix:List Int) (f:Int->List Int):(qb3 m pix f).length=m.length:=by simp[qb3]
theorem q1f (m:List (List Int)) (pix:List Int) (f:Int->List Int) (i:Nat) (hi:i<m.length):nL (qb3 m pix f) i=qz0 (nL m i) pix++f i:=by
 grind [qk3,qn2,qb3]
theorem q1g (m:List (List Int)) (k:Nat) (hk:k<m.length):m.take (k+1)=m.take k++[nL m k]:=by
 grind [List.take_add_one,List.getElem?_eq_getElem,qk3]
abbrev yn9 (fs:List (Nat × qa8)):qa8:=q8o (wl9 fs [.d qf8,.d qd4,.fn [qb9] qd4]) true (some 24) (some 3) (λx=>ChoOk x.1 x.2.1 x.2.2.1.1 x.2.2.1.2) (λx=>.dat (.list (.int .i64)) (qb3 x.1 x.2.1 λi=>x.2.2.1.2 (i,())))
def x9g (m:List (List Int)) (pix:List Int) (f:Int->List Int):Nat->Option Inv
 | 0=>some (Inv.of [7,15] 1 (λk:Nat=>[(7,.msl 0 .none),(15,.lit (.int .i64 k))]) (λk=>[.mat 24 3 (.int .i64) ((qb3 m pix f).take k) .none .none]) (λk=>k<=m.length) (λk=>m.length-k))
 | 1=>some (Eng.Inv.mk Nat Nat [7,10,22] 2 (λ_ j=>[(7,.msl 0 .none),(10,.own 1),(22,.lit (.int .i64 j))]) (λk j=>[.mat 24 3 (.int .i64) ((qb3 m pix f).take k) .none .none,.vec 3 (.int .i64) ((qz0 (nL m k) pix).take j)]) (λ_ j=>j<=pix.length) (λ_ j=>pix.length-j))
 | _=>none
theorem q3l {fs:List (Nat × qa8)} (hfs:SpecsOk Tryz.prog fs):Meets Tryz.prog 144 (yn9 fs):=by
 refine q9c (x8v [40] [39] (SpecsOk.nil _)) Tryz.func144 rfl rfl (q3i hfs [.d qf8,.d qd4,.fn [qb9] qd4]) (λx=>x9g x.1 x.2.1 λi=>x.2.2.1.2 (i,())) (λ_=>by kernel_rfl) (show 3<=_ by decide) ?_
 rintro⟨m,pix,⟨p,f⟩,⟨⟩⟩ h
 revert m pix p f
 intro(m:List (List Int)) (pix:List Int) (p:qa3 [.int .i64]->Prop) (f:qa3 [.int .i64]->List Int) (h:ChoOk m pix p f)
 refine vcs (∃(v0:Unit),∃(v1:Nat),Nat.le v1 m.length/\((True/\(0:Int)=(↑v1:Int)/\True)/\List.take v1 (qb3 m pix λ(v2:Int)=>f (v2,()))=[]/\True)/\∀(v2:Nat),Nat.le v2 m.length->(decide ((↑v2:Int)<(↑m.length:Int))=true->((0:Int)<=(↑v2:Int)/\(↑v2:Int)<(↑m.length:Int))/\∃(v5:Nat),∃(v6:Nat),Nat.le v6 pix.length/\((True/\True/\(0:Int)=(↑v6:Int)/\True)/\(List.take v2 (qb3 m pix λ(v7:Int)=>f (v7,()))=List.take v5 (qb3 m pix λ(v7:Int)=>f (v7,()))/\True/\True)/\List.take v6 (qz0 (nL m v5) pix)=[]/\True)/\∀(v7:Nat),Nat.le v7 pix.length->(decide ((↑v7:Int)<(↑pix.length:Int))=true->((0:Int)<=(↑v7:Int)/\(↑v7:Int)<(↑pix.length:Int))/\((0:Int)<=nI pix v7/\nI pix v7<(↑(nL m v2).length:Int))/\((0:Nat)<List.length [nI (nL m v2) (nI pix v7).toNat]/\Nat.le ((List.take v7 (qz0 (nL m v5) pix)).length+List.length [nI (nL m v2) (nI pix v7).toNat]) (1000000:Nat))/\fits .i64 ((↑v7:Int)+(1:Int))/\∃(v10:Nat),Nat.le v10 pix.length/\pix.length-v10<pix.length-v7/\(True/\True/\(↑v7:Int)+(1:Int)=(↑v10:Int)/\True)/\(List.take v5 (qb3 m pix λ(v11:Int)=>f (v11,()))=List.take v5 (qb3 m pix λ(v11:Int)=>f (v11,()))/\True/\True)/\List.take v7 (qz0 (nL m v5) pix)++[nI (nL m v2) (nI pix v7).toNat]=List.take v10 (qz0 (nL m v5) pix)/\True)/\(decide ((↑v7:Int)<(↑pix.length:Int))=false->p ((↑v2:Int),())/\Nat.le ((List.take v7 (qz0 (nL m v5) pix)).length+(f ((↑v2:Int),())).length) (1000000:Nat)/\((0:Nat)<(0:Nat)+(1:Nat)/\(List.take v5 (qb3 m pix λ(v10:Int)=>f (v10,()))).length+((0:Nat)+(1:Nat))<=(1000000:Nat))/\fits .i64 ((↑v2:Int)+(1:Int))/\∃(v10:Nat),Nat.le v10 m.length/\m.length-v10<m.length-v2/\(True/\(↑v2:Int)+(1:Int)=(↑v10:Int)/\True)/\(List.take v5 (qb3 m pix λ(v11:Int)=>f (v11,()))++[List.take v7 (qz0 (nL m v5) pix)++f ((↑v2:Int),())]=List.take v10 (qb3 m pix λ(v11:Int)=>f (v11,()))/\True/\True)/\True))/\(decide ((↑v2:Int)<(↑m.length:Int))=false->List.take v2 (qb3 m pix λ(v5:Int)=>f (v5,()))=qb3 m pix λ(v5:Int)=>f (v5,()))) ?_
 have hr:=h.rows
 have hc:=h.cols
 have hl:=qn2 m pix λi=>f (i,())
 refine⟨(),0,zae _,⟨rfl,rfl⟩,λk hk=>⟨λhlt=>⟨hlt,k,0,zae _,⟨rfl,rfl,rfl⟩,λj hj=>⟨λhj2=>?_,λhj2=>?_⟩⟩,λhge=>?_⟩⟩
 ·have h1:=qi8 (nL m k) pix
  refine⟨hj2,h.at_ k hlt j hj2,by grind,qa7,j+1,ow,ow,ow,?_⟩
  grind [w8l,q1e]
 ·obtain rfl:j=pix.length:=ow
  have h1:=qi8 (nL m k) pix
  have h2:=h.fn k hlt
  have h3:(qz0 (nL m k) pix).take pix.length=qz0 (nL m k) pix:=zcg ow
  rw[h3]
  refine⟨h2.1,ow,by grind,qa7,k+1,ow,ow,ow,?_⟩
  grind [q1g,q1f]
 grind
abbrev x5e:qa8:=hspec [] true none [.d qd4,.cap qb9] [.bool] (λx=>0<=x.2.1/\x.2.1<x.1.length) (λx=>(nI x.1 x.2.1.toNat != 0,()))
theorem w4i:Meets Tryz.prog 189 x5e:=by
 refine qi4 (SpecsOk.nil _) (snd (SpecsOk.nil _)) Tryz.func189 rfl rfl (λ_ _=>none) (λ_=>by kernel_rfl) dc ?_
 rintro⟨l,j,⟨⟩⟩ h
 revert l j
 intro(l:List Int) (j:Int) (h:0<=j/\j<l.length)
 refine vcs (((0:Int)<=j/\j<(↑l.length:Int))/\(nI l j.toNat != (0:Int))=(nI l j.toNat != (0:Int))) ?_
 exact h
def qs3 (rows:List (List Int)) (k j:Nat):Int:=ixT (.list (.int .i64)) (λr=>nI r j != 0) (rows.drop k)
def wm9 (rows:List (List Int)) (a b:Nat):List (List Int):=(rows.set a (nL rows b)).set b (nL rows a)
def xl1 (r:List Int):List Int:=(List.range r.length).map λi=>0-nI r i
def q1h (rows:List (List Int)) (k j:Nat):List (List Int):=wm9 rows k (k+(qs3 rows k j).toNat)
def qi0 (rows:List (List Int)) (k j:Nat):List (List Int):=if nI (nL (q1h rows k j) k) j<0 then(q1h rows k j).set k (xl1 (nL (q1h rows k j) k)) else q1h rows k j
def wh7 (rows:List (List Int)) (k j i:Nat):List Int:=if i≠k/\nI (nL rows i) j≠0 then qw3 (nL rows i) (nL rows k) j else nL rows i
def xe6 (rows:List (List Int)) (k j:Nat):List (List Int):=(List.range rows.length).map (wh7 rows k j)
def qu8 (s:List (List Int) × List Int) (j:Nat):List (List Int) × List Int:=if qs3 s.1 s.2.length j<0 then s else(xe6 (qi0 s.1 s.2.length j) s.2.length j,s.2++[(j:Int)])
def qb8 (rows:List (List Int)):Nat->List (List Int) × List Int
 | 0=>(rows,[])
 | j+1=>qu8 (qb8 rows j) j
structure xw3 (rows:List (List Int)) (k j:Nat):Prop where
 neg:∀x∈nL (q1h rows k j) k,qd8 BIG x
 clr:∀i,i<rows.length->i≠k->nI (nL (qi0 rows k j) i) j≠0->wm5 (nL (qi0 rows k j) i) (nL (qi0 rows k j) k) j
structure q2o (rows:List (List Int)) (cols W:Nat):Prop where
 n:rows.length<=1000
 w:W<=1000
 cw:cols<=W
 each:∀i,i<rows.length->(nL rows i).length=W
 step:∀j,j<cols->0<=qs3 (qb8 rows j).1 (qb8 rows j).2.length j->xw3 (qb8 rows j).1 (qb8 rows j).2.length j
abbrev yo0:MSpec:=q4e (q0m [qb9]) true false 24 3 (.int .i64) (λrows x=>0<=x.1/\∃W,q2o rows x.1.toNat W) (λrows x=>.dat (.int .i64) (qb8 rows x.1.toNat).2) (λrows x=>(qb8 rows x.1.toNat).1)
def xw4:List AObj:=[.dead,.dead,.dead,.dead,.dead,.dead,.dead,.dead,.dead,.dead,.dead,.dead,.dead,.dead,.dead,.dead,.dead,.dead,.dead,.dead,.dead,.dead,.dead,.dead,.dead,.dead,.dead,.dead]
structure xl2 (rows:List (List Int)) (k i:Nat) (r:List (List Int)):Prop where
 le:i<=(nL rows k).length
 eq:r=rows.set k (ovr (.int .i64) (λq=>0-nI (nL rows k) q) (nL rows k) i)
structure q7h (rows:List (List Int)) (k j i:Nat) (r:List (List Int)):Prop where
 le:i<=rows.length
 eq:r=ovr (.list (.int .i64)) (wh7 rows k j) rows i
structure w4j (R:List (List Int)) (c j:Nat) (r:List (List Int)) (p:List Int):Prop where
 le:j<=c
 eq:qb8 R j=(r,p)
def x9h (T:q2v) (R:List (List Int)) (c:Nat):Nat->Option Inv
 | 0=>some (Inv.of [0,5,13] 2 (λs:Nat × List (List Int) × List Int=>[(0,.msl 0 .none),(5,.own 1),(13,.lit (.int .i64 s.1))]) (λs=>[.mat 24 3 (.int .i64) s.2.1 .none (some T),.vec 3 (.int .i64) s.2.2]) (λs=>w4j R c s.1 s.2.1 s.2.2) (λs=>c-s.1))
 | 1=>some (Eng.Inv.mk (Nat × Nat × List (List Int) × List Int) (Nat × List (List Int)) [0,5,56] 31 (λ_ s=>[(0,.msl 0 .none),(5,.own 1),(56,.lit (.int .i64 s.1))]) (λq s=>.mat 24 3 (.int .i64) s.2 .none (some T) :: .vec 3 (.int .i64) q.2.2.2 :: .box 3 (.cons (.lit (.int .i64 q.1)) .nil) :: xw4) (λq s=>xl2 q.2.2.1 q.2.1 s.1 s.2) (λq s=>(nL q.2.2.1 q.2.1).length-s.1))
 | 2=>some (Eng.Inv.mk (Nat × Nat × List (List Int) × List Int) (Nat × List (List Int)) [0,5,74,76] 31 (λ_ s=>[(0,.msl 0 .none),(5,.own 1),(74,.msl 0 .none),(76,.lit (.int .i64 s.1))]) (λq s=>.mat 24 3 (.int .i64) s.2 .none (some T) :: .vec 3 (.int .i64) q.2.2.2 :: .box 3 (.cons (.lit (.int .i64 q.1)) .nil) :: xw4) (λq s=>q7h q.2.2.1 q.2.1 q.1 s.1 s.2) (λq s=>q.2.2.1.length-s.1))
 | _=>none
theorem q4g (n:Nat):qe0 n none=n:=rfl
theorem w4k (n:Nat) (l:List Nat):qe0 n (some l)=l.length:=rfl
theorem xl3 (n:Nat):ixL n none=List.range n:=rfl
theorem xl4 (n:Nat) (l:List Nat):ixL n (some l)=l:=rfl
theorem q7i (i:Nat):qe6 none i=i:=rfl
theorem w8n (l:List Nat) (i:Nat):qe6 (some l) i=l.getD i 0:=rfl
theorem wn0 (r:List (List Int)):q1u (.int .i64) r none=r:=rfl
theorem w8o (r:List (List Int)) (l:List Nat):q1u (.int .i64) r (some l)=l.map λp=>nL r p:=rfl
theorem xl5 (n k b:Nat) (hk:k<n) (hb:b<n):(((List.range n).set k b).set b k).getD k 0=b:=by
 grind
theorem w8p (n k b:Nat) (hk:k<n) (hb:b<n):(((List.range n).set k b).set b k).Nodup:=by
 grind
theorem x1k (r:List (List Int)) (k b:Nat) (hk:k<r.length) (hb:b<r.length):((((List.range r.length).set k b).set b k).map λp=>nL r p)=wm9 r k b:=by
 apply zbo (by simp[wm9])
 grind [wm9,qk3]
theorem wn1 (r:List (List Int)) (k b:Nat):(wm9 r k b).length=r.length:=by simp[wm9]
theorem q3m (r:List (List Int)) (k b:Nat) (hk:k<r.length) (hb:b<r.length) (i:Nat) (hi:i<r.length):nL (wm9 r k b) i=if i=b then nL r k else if i=k then nL r b else nL r i:=by
 rw[qk3 _ i (by grind [wn1])]
 simp only[wm9,List.getElem_set]
 by_cases e:b=i
 ·grind
 ·rw[zai e,zai (zc9 e)]
  by_cases e2:k=i
  all_goals simp_all [if_pos,if_neg,Ne.symm,qk3]
theorem q9k (l:List Int):(qe2 l).length=l.length:=by grind [qe2]
theorem q9l (r b:List Int) (c:Nat):(qw3 r b c).length=r.length:=by grind [qw3,q9k,q1c]
theorem wc8 (r:List Int):(xl1 r).length=r.length:=by simp[xl1]
theorem wc9 (r:List (List Int)) (k j:Nat):(q1h r k j).length=r.length:=wn1 _ _ _
theorem qk7 (r:List (List Int)) (k j:Nat):(qi0 r k j).length=r.length:=by
 grind [qi0,List.length_set,wc9]
theorem w8q (r:List (List Int)) (k:Nat) (x:List Int) (i:Nat) (hi:i<r.length):nL (r.set k x) i=if i=k then x else nL r i:=by
 rw[qk3 _ i (by grind),zcc]
 by_cases e:k=i
 all_goals simp_all [if_pos,if_neg,Ne.symm,qk3]
theorem q1i (r:List (List Int)) (k j:Nat) (hk:k<=r.length) (h:0<=qs3 r k j):k+(qs3 r k j).toNat<r.length:=by
 have:=(w1p (.list (.int .i64)) (λr=>nI r j != 0) (r.drop k)).1
 grind [qs3,List.length_drop]
theorem q3n (r:List (List Int)) (k j i:Nat) (hi:i<r.length):nL (qi0 r k j) i=if i=k/\nI (nL (q1h r k j) k) j<0 then xl1 (nL (q1h r k j) k) else nL (q1h r k j) i:=by
 unfold qi0
 split
 all_goals simp_all [w8q,wc9,if_pos,if_neg]
theorem wd0 (r:List (List Int)) (k j:Nat):(xe6 r k j).length=r.length:=by simp[xe6]
theorem w8r (r:List (List Int)) (k j i:Nat) (hi:i<r.length):nL (xe6 r k j) i=wh7 r k j i:=by
 grind [qk3,wd0,xe6]
structure RedSh (n W:Nat) (s:List (List Int) × List Int) (j:Nat):Prop where
 cnt:s.1.length=n
 each:∀i,i<n->(nL s.1 i).length=W
 piv:s.2.length<=n
 pivj:s.2.length<=j
theorem q7j {r:List (List Int)} {k j W:Nat} (hk:k<=r.length) (h:0<=qs3 r k j) (he:∀i,i<r.length->(nL r i).length=W):∀i,i<r.length->(nL (q1h r k j) i).length=W:=λi hi=>by
 grind [q1i,q1h,q3m]
theorem q1j {r:List (List Int)} {k j W:Nat} (hk:k<=r.length) (h:0<=qs3 r k j) (he:∀i,i<r.length->(nL r i).length=W):∀i,i<r.length->(nL (qi0 r k j) i).length=W:=λi hi=>by
 have hb:=q1i r k j hk h
 have h1:=q7j hk h he
 grind [q3n,wc8]
theorem RedSh.step {n W j:Nat} {s:List (List Int) × List Int} (h:RedSh n W s j):RedSh n W (qu8 s j) (j+1):=by
 unfold qu8
 split
 ·exact⟨h.cnt,h.each,h.piv,by have:=h.pivj; omega⟩
 ·rename_i hp
  have hp:0<=qs3 s.1 s.2.length j:=ow
  have hn:=h.cnt
  have hb:=q1i s.1 s.2.length j (by rw[hn]; exact h.piv) hp
  have he:=q1j (W:=W) ow hp (λi hi=>h.each i ow)
  refine⟨by grind [wd0,qk7],λi hi=>?_,?_,?_⟩
  ·grind [w8r,qk7,wh7,q9l]
  ·grind
  ·rw[zas]; have:=h.pivj; grind
theorem q1k {R:List (List Int)} {c W:Nat} (h:q2o R c W):∀j,RedSh R.length W (qb8 R j) j
 | 0=>⟨rfl,h.each,zae _,zad _⟩
 | j+1=>(q1k h j).step
theorem q3o (r:List (List Int)) (k j:Nat):wh7 r k j k=nL r k:=by unfold wh7; simp
theorem q57 (t:Ty) (g:Nat->t.den) (l:List t.den) (k:Nat) (h:k<l.length->g k=qe5 t l k):ovr t g l k=ovr t g l (k+1):=by
 unfold ovr
 apply zbz
 grind
theorem q3p:qo6 Tryz.prog 146 yo0:=by
 refine q0q (x8y [17,22] (SpecsOk.cons (wm6 (fs:=[(189,x5e)]) (SpecsOk.cons w4i (SpecsOk.nil _))) (SpecsOk.nil _)) (MutsOk.cons ww6 MutsOk.nil)) Tryz.func146 rfl rfl (ql4 [qb9]) (λT rows x=>x9h T rows x.1.toNat) (λ_ _ _=>by kernel_rfl) dc ?_ rfl
 rintro T rows ⟨c,⟨⟩⟩ h -
 revert rows c
 intro(rows:List (List Int)) (c:Int) (h:0<=c/\∃W,q2o rows c.toNat W)
 refine vcs (let Q0:=List Int; let Q1:=MSpec.t xv9; ∃(v0:Unit),∃(v1:Nat × List Q0 × List Int),w4j rows c.toNat v1.1 v1.2.1 v1.2.2/\((True/\True/\(0:Int)=(↑v1.1:Int)/\True)/\(rows=v1.2.1/\True/\T=T)/\v1.2.2=[]/\True)/\∀(v2:Nat × List Q0 × List Int),w4j rows c.toNat v2.1 v2.2.1 v2.2.2->(decide ((↑v2.1:Int)<c)=true->∀(v5:Int),v5=(↑v2.2.2.length:Int)->((0:Int)<=v5/\v5<=(↑(qe0 v2.2.1.length none):Int)/\(↑(qe0 v2.2.1.length none):Int)<=(↑(qe0 v2.2.1.length none):Int))/\∃(v7:qa3 [Ty.list (Ty.int .i64)]->Prop),∃(v8:qa3 [Ty.list (Ty.int .i64)]->Bool),(∀(v9:List Int × qa3._f [] PUnit.unit),v7 v9->((0:PTy.den (PTy.cap qb9))<=(↑v2.1:Int)/\(↑v2.1:Int)<(↑v9.1.length:PTy.den (PTy.cap qb9)))/\(nI v9.1 (↑v2.1:Int).toNat != (0:Int))=v8 v9)/\((List.drop v5.toNat (List.take (↑(qe0 v2.2.1.length none):Int).toNat (q1u (Ty.int .i64) v2.2.1 none))).length<=(1000000:Nat)/\∀(v9:Nat),v9<(List.drop v5.toNat (List.take (↑(qe0 v2.2.1.length none):Int).toNat (q1u (Ty.int .i64) v2.2.1 none))).length->v7 (nL (List.drop v5.toNat (List.take (↑(qe0 v2.2.1.length none):Int).toNat (q1u (Ty.int .i64) v2.2.1 none))) v9,()))/\∀(v9:Int),v9=ixT (Ty.list (Ty.int .i64)) (λ(v11:List Int)=>v8 (v11,())) (List.drop v5.toNat (List.take (↑(qe0 v2.2.1.length none):Int).toNat (q1u (Ty.int .i64) v2.2.1 none)))->(decide (v9<(0:Int))=true->fits .i64 ((↑v2.1:Int)+(1:Int))/\∃(v12:Nat × List Q0 × List Int),w4j rows c.toNat v12.1 v12.2.1 v12.2.2/\c.toNat-v12.1<c.toNat-v2.1/\(True/\True/\(↑v2.1:Int)+(1:Int)=(↑v12.1:Int)/\True)/\(v2.2.1=v12.2.1/\True/\T=T)/\v2.2.2=v12.2.2/\True)/\(decide (v9<(0:Int))=false->fits .i64 (v5+v9)/\fits .i64 (v5+v9)/\((0:Int)<=v5+v9/\v5+v9<(↑(qe0 v2.2.1.length none):Int))/\(v5+v9).toNat<qe0 v2.2.1.length none/\((0:Int)<=v5/\v5<(↑(qe0 v2.2.1.length none):Int))/\v5.toNat<qe0 v2.2.1.length none/\((0:Int)<=v5/\v5<(↑(qe0 v2.2.1.length none):Int))/\v5.toNat<qe0 v2.2.1.length none/\((0:Int)<=v5+v9/\v5+v9<(↑(qe0 v2.2.1.length (some (List.set (ixL v2.2.1.length none) v5.toNat (qe6 none (v5+v9).toNat)))):Int))/\(v5+v9).toNat<qe0 v2.2.1.length (some (List.set (ixL v2.2.1.length none) v5.toNat (qe6 none (v5+v9).toNat)))/\((0:Int)<=v5/\v5<(↑(qe0 v2.2.1.length (some (List.set (ixL v2.2.1.length (some (List.set (ixL v2.2.1.length none) v5.toNat (qe6 none (v5+v9).toNat)))) (v5+v9).toNat (qe6 none v5.toNat)))):Int))/\v5.toNat<qe0 v2.2.1.length (some (List.set (ixL v2.2.1.length (some (List.set (ixL v2.2.1.length none) v5.toNat (qe6 none (v5+v9).toNat)))) (v5+v9).toNat (qe6 none v5.toNat)))/\((0:Int)<=(↑v2.1:Int)/\(↑v2.1:Int)<(↑(nL v2.2.1 (qe6 (some (List.set (ixL v2.2.1.length (some (List.set (ixL v2.2.1.length none) v5.toNat (qe6 none (v5+v9).toNat)))) (v5+v9).toNat (qe6 none v5.toNat))) v5.toNat)).length:Int))/\(↑v2.1:Int).toNat<(nL v2.2.1 (qe6 (some (List.set (ixL v2.2.1.length (some (List.set (ixL v2.2.1.length none) v5.toNat (qe6 none (v5+v9).toNat)))) (v5+v9).toNat (qe6 none v5.toNat))) v5.toNat)).length/\(decide (nI (nL v2.2.1 (qe6 (some (List.set (ixL v2.2.1.length (some (List.set (ixL v2.2.1.length none) v5.toNat (qe6 none (v5+v9).toNat)))) (v5+v9).toNat (qe6 none v5.toNat))) v5.toNat)) (↑v2.1:Int).toNat<(0:Int))=true->((0:Int)<=v5/\v5<(↑(qe0 v2.2.1.length (some (List.set (ixL v2.2.1.length (some (List.set (ixL v2.2.1.length none) v5.toNat (qe6 none (v5+v9).toNat)))) (v5+v9).toNat (qe6 none v5.toNat)))):Int))/\v5.toNat<qe0 v2.2.1.length (some (List.set (ixL v2.2.1.length (some (List.set (ixL v2.2.1.length none) v5.toNat (qe6 none (v5+v9).toNat)))) (v5+v9).toNat (qe6 none v5.toNat)))/\∃(v13:Nat × Nat × List Q0 × List Int),∃(v14:Nat × List Q0),xl2 v13.2.2.1 v13.2.1 v14.1 v14.2/\(List.Nodup (List.set (ixL v2.2.1.length (some (List.set (ixL v2.2.1.length none) v5.toNat (qe6 none (v5+v9).toNat)))) (v5+v9).toNat (qe6 none v5.toNat))/\(List.set (ixL v2.2.1.length (some (List.set (ixL v2.2.1.length none) v5.toNat (qe6 none (v5+v9).toNat)))) (v5+v9).toNat (qe6 none v5.toNat)).length=v2.2.1.length)/\((True/\True/\(0:Int)=(↑v14.1:Int)/\True)/\(q1u (Ty.int .i64) v2.2.1 (some (List.set (ixL v2.2.1.length (some (List.set (ixL v2.2.1.length none) v5.toNat (qe6 none (v5+v9).toNat)))) (v5+v9).toNat (qe6 none v5.toNat)))=v14.2/\True/\T=T)/\v2.2.2=v13.2.2.2/\((↑v2.1:Int)=(↑v13.1:Int)/\True)/\True/\True/\True/\True/\True/\True/\True/\True/\True/\True/\True/\True/\True/\True/\True/\True/\True/\True/\True/\True/\True/\True/\True/\True/\True/\True/\True/\True/\True)/\∀(v15:Nat × List Q0),xl2 v13.2.2.1 v13.2.1 v15.1 v15.2->(decide ((↑v15.1:Int)<(↑(nL v2.2.1 (qe6 (some (List.set (ixL v2.2.1.length (some (List.set (ixL v2.2.1.length none) v5.toNat (qe6 none (v5+v9).toNat)))) (v5+v9).toNat (qe6 none v5.toNat))) v5.toNat)).length:Int))=true->((0:Int)<=v5/\v5<(↑(qe0 v15.2.length none):Int))/\v5.toNat<qe0 v15.2.length none/\((0:Int)<=v5/\v5<(↑(qe0 v15.2.length none):Int))/\v5.toNat<qe0 v15.2.length none/\((0:Int)<=(↑v15.1:Int)/\(↑v15.1:Int)<(↑(nL v15.2 (qe6 none v5.toNat)).length:Int))/\(↑v15.1:Int).toNat<(nL v15.2 (qe6 none v5.toNat)).length/\fits .i64 ((0:Int)-nI (nL v15.2 (qe6 none v5.toNat)) (↑v15.1:Int).toNat)/\((0:Int)<=(↑v15.1:Int)/\(↑v15.1:Int)<(↑(nL v15.2 (qe6 none v5.toNat)).length:Int))/\(↑v15.1:Int).toNat<(nL v15.2 (qe6 none v5.toNat)).length/\fits .i64 ((↑v15.1:Int)+(1:Int))/\∃(v18:Nat × List Q0),xl2 v13.2.2.1 v13.2.1 v18.1 v18.2/\(nL v13.2.2.1 v13.2.1).length-v18.1<(nL v13.2.2.1 v13.2.1).length-v15.1/\(True/\True/\(↑v15.1:Int)+(1:Int)=(↑v18.1:Int)/\True)/\(List.set v15.2 (qe6 none v5.toNat) (List.set (nL v15.2 (qe6 none v5.toNat)) (↑v15.1:Int).toNat ((0:Int)-nI (nL v15.2 (qe6 none v5.toNat)) (↑v15.1:Int).toNat))=v18.2/\True/\T=T)/\v13.2.2.2=v13.2.2.2/\((↑v13.1:Int)=(↑v13.1:Int)/\True)/\True/\True/\True/\True/\True/\True/\True/\True/\True/\True/\True/\True/\True/\True/\True/\True/\True/\True/\True/\True/\True/\True/\True/\True/\True/\True/\True/\True/\True)/\(decide ((↑v15.1:Int)<(↑(nL v2.2.1 (qe6 (some (List.set (ixL v2.2.1.length (some (List.set (ixL v2.2.1.length none) v5.toNat (qe6 none (v5+v9).toNat)))) (v5+v9).toNat (qe6 none v5.toNat))) v5.toNat)).length:Int))=false->∃(v18:Nat × Nat × List Q0 × List Int),∃(v19:Nat × List Q0),q7h v18.2.2.1 v18.2.1 v18.1 v19.1 v19.2/\((True/\True/\True/\(0:Int)=(↑v19.1:Int)/\True)/\(v15.2=v19.2/\True/\T=T)/\v13.2.2.2=v18.2.2.2/\((↑v13.1:Int)=(↑v18.1:Int)/\True)/\True/\True/\True/\True/\True/\True/\True/\True/\True/\True/\True/\True/\True/\True/\True/\True/\True/\True/\True/\True/\True/\True/\True/\True/\True/\True/\True/\True/\True)/\∀(v20:Nat × List Q0),q7h v18.2.2.1 v18.2.1 v18.1 v20.1 v20.2->(decide ((↑v20.1:Int)<(↑(qe0 v15.2.length none):Int))=true->((0:Int)<=(↑v20.1:Int)/\(↑v20.1:Int)<(↑(qe0 v20.2.length none):Int))/\(↑v20.1:Int).toNat<qe0 v20.2.length none/\(((↑v20.1:Int) != v5)=true->((0:Int)<=(↑v18.1:Int)/\(↑v18.1:Int)<(↑(nL v20.2 (qe6 none (↑v20.1:Int).toNat)).length:Int))/\(↑v18.1:Int).toNat<(nL v20.2 (qe6 none (↑v20.1:Int).toNat)).length/\((nI (nL v20.2 (qe6 none (↑v20.1:Int).toNat)) (↑v18.1:Int).toNat != (0:Int))=true->((0:Int)<=v5/\v5<(↑(qe0 v20.2.length none):Int))/\v5.toNat<qe0 v20.2.length none/\qe6 none v5.toNat≠qe6 none (↑v20.1:Int).toNat/\((0:Ty.den qb9)<=(↑v18.1:Int)/\wm5 (nL [qe5 (Ty.list Q1) v20.2 (qe6 none (↑v20.1:Int).toNat)] (0:Nat)) (nL v20.2 (qe6 none v5.toNat)) (↑v18.1:Int).toNat)/\fits .i64 ((↑v20.1:Int)+(1:Int))/\∃(v25:Nat × List Q0),q7h v18.2.2.1 v18.2.1 v18.1 v25.1 v25.2/\v18.2.2.1.length-v25.1<v18.2.2.1.length-v20.1/\(True/\True/\True/\(↑v20.1:Int)+(1:Int)=(↑v25.1:Int)/\True)/\(List.set v20.2 (qe6 none (↑v20.1:Int).toNat) (qe5 (Ty.list Q1) [qw3 (nL [qe5 (Ty.list Q1) v20.2 (qe6 none (↑v20.1:Int).toNat)] (0:Nat)) (nL v20.2 (qe6 none v5.toNat)) (↑v18.1:Int).toNat] (0:Nat))=v25.2/\True/\T=T)/\v18.2.2.2=v18.2.2.2/\((↑v18.1:Int)=(↑v18.1:Int)/\True)/\True/\True/\True/\True/\True/\True/\True/\True/\True/\True/\True/\True/\True/\True/\True/\True/\True/\True/\True/\True/\True/\True/\True/\True/\True/\True/\True/\True/\True)/\((nI (nL v20.2 (qe6 none (↑v20.1:Int).toNat)) (↑v18.1:Int).toNat != (0:Int))=false->fits .i64 ((↑v20.1:Int)+(1:Int))/\∃(v25:Nat × List Q0),q7h v18.2.2.1 v18.2.1 v18.1 v25.1 v25.2/\v18.2.2.1.length-v25.1<v18.2.2.1.length-v20.1/\(True/\True/\True/\(↑v20.1:Int)+(1:Int)=(↑v25.1:Int)/\True)/\(v20.2=v25.2/\True/\T=T)/\v18.2.2.2=v18.2.2.2/\((↑v18.1:Int)=(↑v18.1:Int)/\True)/\True/\True/\True/\True/\True/\True/\True/\True/\True/\True/\True/\True/\True/\True/\True/\True/\True/\True/\True/\True/\True/\True/\True/\True/\True/\True/\True/\True/\True))/\(((↑v20.1:Int) != v5)=false->fits .i64 ((↑v20.1:Int)+(1:Int))/\∃(v24:Nat × List Q0),q7h v18.2.2.1 v18.2.1 v18.1 v24.1 v24.2/\v18.2.2.1.length-v24.1<v18.2.2.1.length-v20.1/\(True/\True/\True/\(↑v20.1:Int)+(1:Int)=(↑v24.1:Int)/\True)/\(v20.2=v24.2/\True/\T=T)/\v18.2.2.2=v18.2.2.2/\((↑v18.1:Int)=(↑v18.1:Int)/\True)/\True/\True/\True/\True/\True/\True/\True/\True/\True/\True/\True/\True/\True/\True/\True/\True/\True/\True/\True/\True/\True/\True/\True/\True/\True/\True/\True/\True/\True))/\(decide ((↑v20.1:Int)<(↑(qe0 v15.2.length none):Int))=false->((0:Nat)<List.length [(↑v18.1:Int)]/\Nat.le (v18.2.2.2.length+List.length [(↑v18.1:Int)]) (1000000:Nat))/\fits .i64 ((↑v2.1:Int)+(1:Int))/\∃(v23:Nat × List Q0 × List Int),w4j rows c.toNat v23.1 v23.2.1 v23.2.2/\c.toNat-v23.1<c.toNat-v2.1/\(True/\True/\(↑v2.1:Int)+(1:Int)=(↑v23.1:Int)/\True)/\(v20.2=v23.2.1/\True/\T=T)/\v18.2.2.2++[(↑v18.1:Int)]=v23.2.2/\True)))/\(decide (nI (nL v2.2.1 (qe6 (some (List.set (ixL v2.2.1.length (some (List.set (ixL v2.2.1.length none) v5.toNat (qe6 none (v5+v9).toNat)))) (v5+v9).toNat (qe6 none v5.toNat))) v5.toNat)) (↑v2.1:Int).toNat<(0:Int))=false->∃(v13:Nat × Nat × List Q0 × List Int),∃(v14:Nat × List Q0),q7h v13.2.2.1 v13.2.1 v13.1 v14.1 v14.2/\(List.Nodup (List.set (ixL v2.2.1.length (some (List.set (ixL v2.2.1.length none) v5.toNat (qe6 none (v5+v9).toNat)))) (v5+v9).toNat (qe6 none v5.toNat))/\(List.set (ixL v2.2.1.length (some (List.set (ixL v2.2.1.length none) v5.toNat (qe6 none (v5+v9).toNat)))) (v5+v9).toNat (qe6 none v5.toNat)).length=v2.2.1.length)/\((True/\True/\True/\(0:Int)=(↑v14.1:Int)/\True)/\(q1u (Ty.int .i64) v2.2.1 (some (List.set (ixL v2.2.1.length (some (List.set (ixL v2.2.1.length none) v5.toNat (qe6 none (v5+v9).toNat)))) (v5+v9).toNat (qe6 none v5.toNat)))=v14.2/\True/\T=T)/\v2.2.2=v13.2.2.2/\((↑v2.1:Int)=(↑v13.1:Int)/\True)/\True/\True/\True/\True/\True/\True/\True/\True/\True/\True/\True/\True/\True/\True/\True/\True/\True/\True/\True/\True/\True/\True/\True/\True/\True/\True/\True/\True/\True)/\∀(v15:Nat × List Q0),q7h v13.2.2.1 v13.2.1 v13.1 v15.1 v15.2->(decide ((↑v15.1:Int)<(↑(qe0 v2.2.1.length (some (List.set (ixL v2.2.1.length (some (List.set (ixL v2.2.1.length none) v5.toNat (qe6 none (v5+v9).toNat)))) (v5+v9).toNat (qe6 none v5.toNat)))):Int))=true->((0:Int)<=(↑v15.1:Int)/\(↑v15.1:Int)<(↑(qe0 v15.2.length none):Int))/\(↑v15.1:Int).toNat<qe0 v15.2.length none/\(((↑v15.1:Int) != v5)=true->((0:Int)<=(↑v13.1:Int)/\(↑v13.1:Int)<(↑(nL v15.2 (qe6 none (↑v15.1:Int).toNat)).length:Int))/\(↑v13.1:Int).toNat<(nL v15.2 (qe6 none (↑v15.1:Int).toNat)).length/\((nI (nL v15.2 (qe6 none (↑v15.1:Int).toNat)) (↑v13.1:Int).toNat != (0:Int))=true->((0:Int)<=v5/\v5<(↑(qe0 v15.2.length none):Int))/\v5.toNat<qe0 v15.2.length none/\qe6 none v5.toNat≠qe6 none (↑v15.1:Int).toNat/\((0:Ty.den qb9)<=(↑v13.1:Int)/\wm5 (nL [qe5 (Ty.list Q1) v15.2 (qe6 none (↑v15.1:Int).toNat)] (0:Nat)) (nL v15.2 (qe6 none v5.toNat)) (↑v13.1:Int).toNat)/\fits .i64 ((↑v15.1:Int)+(1:Int))/\∃(v20:Nat × List Q0),q7h v13.2.2.1 v13.2.1 v13.1 v20.1 v20.2/\v13.2.2.1.length-v20.1<v13.2.2.1.length-v15.1/\(True/\True/\True/\(↑v15.1:Int)+(1:Int)=(↑v20.1:Int)/\True)/\(List.set v15.2 (qe6 none (↑v15.1:Int).toNat) (qe5 (Ty.list Q1) [qw3 (nL [qe5 (Ty.list Q1) v15.2 (qe6 none (↑v15.1:Int).toNat)] (0:Nat)) (nL v15.2 (qe6 none v5.toNat)) (↑v13.1:Int).toNat] (0:Nat))=v20.2/\True/\T=T)/\v13.2.2.2=v13.2.2.2/\((↑v13.1:Int)=(↑v13.1:Int)/\True)/\True/\True/\True/\True/\True/\True/\True/\True/\True/\True/\True/\True/\True/\True/\True/\True/\True/\True/\True/\True/\True/\True/\True/\True/\True/\True/\True/\True/\True)/\((nI (nL v15.2 (qe6 none (↑v15.1:Int).toNat)) (↑v13.1:Int).toNat != (0:Int))=false->fits .i64 ((↑v15.1:Int)+(1:Int))/\∃(v20:Nat × List Q0),q7h v13.2.2.1 v13.2.1 v13.1 v20.1 v20.2/\v13.2.2.1.length-v20.1<v13.2.2.1.length-v15.1/\(True/\True/\True/\(↑v15.1:Int)+(1:Int)=(↑v20.1:Int)/\True)/\(v15.2=v20.2/\True/\T=T)/\v13.2.2.2=v13.2.2.2/\((↑v13.1:Int)=(↑v13.1:Int)/\True)/\True/\True/\True/\True/\True/\True/\True/\True/\True/\True/\True/\True/\True/\True/\True/\True/\True/\True/\True/\True/\True/\True/\True/\True/\True/\True/\True/\True/\True))/\(((↑v15.1:Int) != v5)=false->fits .i64 ((↑v15.1:Int)+(1:Int))/\∃(v19:Nat × List Q0),q7h v13.2.2.1 v13.2.1 v13.1 v19.1 v19.2/\v13.2.2.1.length-v19.1<v13.2.2.1.length-v15.1/\(True/\True/\True/\(↑v15.1:Int)+(1:Int)=(↑v19.1:Int)/\True)/\(v15.2=v19.2/\True/\T=T)/\v13.2.2.2=v13.2.2.2/\((↑v13.1:Int)=(↑v13.1:Int)/\True)/\True/\True/\True/\True/\True/\True/\True/\True/\True/\True/\True/\True/\True/\True/\True/\True/\True/\True/\True/\True/\True/\True/\True/\True/\True/\True/\True/\True/\True))/\(decide ((↑v15.1:Int)<(↑(qe0 v2.2.1.length (some (List.set (ixL v2.2.1.length (some (List.set (ixL v2.2.1.length none) v5.toNat (qe6 none (v5+v9).toNat)))) (v5+v9).toNat (qe6 none v5.toNat)))):Int))=false->((0:Nat)<List.length [(↑v13.1:Int)]/\Nat.le (v13.2.2.2.length+List.length [(↑v13.1:Int)]) (1000000:Nat))/\fits .i64 ((↑v2.1:Int)+(1:Int))/\∃(v18:Nat × List Q0 × List Int),w4j rows c.toNat v18.1 v18.2.1 v18.2.2/\c.toNat-v18.1<c.toNat-v2.1/\(True/\True/\(↑v2.1:Int)+(1:Int)=(↑v18.1:Int)/\True)/\(v15.2=v18.2.1/\True/\T=T)/\v13.2.2.2++[(↑v13.1:Int)]=v18.2.2/\True))))/\(decide ((↑v2.1:Int)<c)=false->v2.2.1=(qb8 rows c.toNat).1/\T=T/\True/\v2.2.2=(qb8 rows c.toNat).2)) ?_
 simp only[q4g,w4k,xl3,xl4,q7i,w8n,wn0,w8o,List.length_set,List.length_range,List.take_length]
 obtain⟨hc0,W,hR⟩:=h
 have hRn:=hR.n
 have hRw:=hR.w
 refine⟨(),(0,rows,[]),⟨zae _,rfl⟩,⟨rfl,rfl,rfl⟩,?_⟩
 rintro⟨j,r0,piv⟩ ⟨hjc,hj⟩
 dsimp only at hjc hj ⊢
 have hsh:=q1k hR j
 rw[hj] at hsh
 have hn:=hsh.cnt
 have hpn:=hsh.piv
 have hpj:=hsh.pivj
 dsimp only at hn hpn hpj
 refine⟨λhlt=>?_,λhge=>?_⟩
 ·have hjl:j<c.toNat:=ow
  have hjW:j<W:=by have:=hR.cw; omega
  rintro k rfl
  have he:=hsh.each
  dsimp only at he
  have hdrop:∀q,q<(r0.drop piv.length).length->j<(nL (r0.drop piv.length) q).length:=λq hq=>by
   rw[zce] at hq
   have e:nL (r0.drop piv.length) q=nL r0 (piv.length+q):=by
    grind [qk3,List.length_drop]
   grind
  simp only[Int.toNat_natCast]
  refine⟨⟨ow,ow,zad _⟩,λx=>j<x.1.length,λx=>nI x.1 j != 0,λx hx=>⟨hx,rfl⟩,⟨by grind,hdrop⟩,?_⟩
  rintro a ha
  have ha:a=qs3 r0 piv.length j:=ha
  subst ha
  refine⟨λhneg=>?_,λhpos=>?_⟩
  ·refine⟨qa7,(j+1,r0,piv),⟨ow,?_⟩,ow,by rfl,rfl,rfl⟩
   simp_all [qb8,qu8,if_pos]
  have hb:=q1i r0 piv.length j ow hpos
  have hso:xw3 r0 piv.length j:=by have:=hR.step j hjl; grind
  have hse:=q7j (W:=W) ow hpos (λi hi=>he i ow)
  have hpe:=q1j (W:=W) ow hpos (λi hi=>he i ow)
  have hab:((piv.length:Int)+qs3 r0 piv.length j).toNat=piv.length+(qs3 r0 piv.length j).toNat:=ow
  simp only[hab]
  have hgd:=xl5 r0.length piv.length (piv.length+(qs3 r0 piv.length j).toNat) ow hb
  have hmap:=x1k r0 piv.length (piv.length+(qs3 r0 piv.length j).toNat) ow hb
  have hnd:=w8p r0.length piv.length (piv.length+(qs3 r0 piv.length j).toNat) ow hb
  have hk1:nL (q1h r0 piv.length j) piv.length=nL r0 (piv.length+(qs3 r0 piv.length j).toNat):=by
   unfold q1h
   rw[q3m _ _ _ ow hb _ ow]
   grind
  simp only[hgd,hmap]
  rw[<- hk1]
  have hsl:=wc9 r0 piv.length j
  have hkW:=hse piv.length ow
  refine⟨qa7,qa7,ow,ow,ow,ow,ow,ow,ow,ow,ow,ow,ow,ow,λhng=>?_,λhng=>?_⟩
  ·refine⟨ow,ow,(j,piv.length,q1h r0 piv.length j,piv),(0,q1h r0 piv.length j),⟨zae _,?_⟩,⟨hnd,trivial⟩,⟨rfl,rfl,rfl,rfl⟩,?_⟩
   ·dsimp only
    have e:ovr (.int .i64) (λq=>0-nI (nL (q1h r0 piv.length j) piv.length) q) (nL (q1h r0 piv.length j) piv.length) 0=nL (q1h r0 piv.length j) piv.length:=q3j (.int .i64) _ _
    grind [qk3,List.set_getElem_self]
   rintro⟨i,r⟩ ⟨hi1,hi2⟩
   dsimp only at hi1 hi2 ⊢
   have hrl:r.length=r0.length:=by grind
   have hrk:nL r piv.length=ovr (.int .i64) (λq=>0-nI (nL (q1h r0 piv.length j) piv.length) q) (nL (q1h r0 piv.length j) piv.length) i:=by
    rw[hi2,w8q _ _ _ _ ow,zap rfl]
   have hrkl:(nL r piv.length).length=W:=by grind [qy9]
   refine⟨λhlt=>?_,λhge=>?_⟩
   ·have hv:nI (nL r piv.length) i=nI (nL (q1h r0 piv.length j) piv.length) i:=by
     rw[hrk]
     exact(q9h (.int .i64) _ _ _ _ hlt).trans (zai (zbf _))
    have hbd:qd8 BIG (nI (nL (q1h r0 piv.length j) piv.length) i):=hso.neg _ (by grind [qf2,List.getElem_mem])
    unfold qd8 BIG at hbd
    rw[hv]
    refine⟨ow,ow,ow,ow,ow,ow,qa7,ow,ow,qa7,(i+1,r.set piv.length ((nL r piv.length).set i (0-nI (nL (q1h r0 piv.length j) piv.length) i))),⟨ow,?_⟩,ow,by rfl,rfl⟩
    dsimp only
    have e:=q1b (.int .i64) (λq=>0-nI (nL (q1h r0 piv.length j) piv.length) q) (nL (q1h r0 piv.length j) piv.length) i
    simp_all
   ·have hprep:r=qi0 r0 piv.length j:=by
     unfold qi0
     rw[zap hng,hi2]
     refine za9 _ ?_
     exact q7c (.int .i64) _ _ _ ow
    refine⟨(j,piv.length,qi0 r0 piv.length j,piv),(0,qi0 r0 piv.length j),⟨zae _,(q3j (.list (.int .i64)) _ _).symm⟩,⟨rfl,hprep,rfl,rfl⟩,?_⟩
    rw[hprep,qk7]
    rintro⟨i,r⟩ ⟨hi1,hi2⟩
    dsimp only at hi1 hi2 ⊢
    have hpl:=qk7 r0 piv.length j
    have hrl:r.length=r0.length:=by rw[hi2,qy9,qk7]
    have hi1:i<=r0.length:=ow
    have hat:∀q,q<r0.length->nL r q=if q<i then wh7 (qi0 r0 piv.length j) piv.length j q else nL (qi0 r0 piv.length j) q:=λq hq=>by
     rw[hi2]; exact q9h (.list (.int .i64)) _ _ _ _ ow
    have hk2:nL r piv.length=nL (qi0 r0 piv.length j) piv.length:=by
     grind [q3o]
    refine⟨λhlt=>?_,λhge=>?_⟩
    ·have hlt:i<r0.length:=ow
     have hri:nL r i=nL (qi0 r0 piv.length j) i:=by grind
     have hw:=hpe i hlt
     refine⟨ow,ow,λhne=>⟨by grind,by grind,λhnz=>?_,λhz=>?_⟩,λheq=>?_⟩
     ·rw[hri] at hnz
      have hne:i≠piv.length:=ow
      have hcl:=hso.clr i hlt hne hnz
      have hcr:wh7 (qi0 r0 piv.length j) piv.length j i=qw3 (nL r i) (nL r piv.length) j:=by
       simp_all [wh7,if_pos]
      refine⟨ow,ow,ow,?_,qa7,(i+1,r.set i (qw3 (nL r i) (nL r piv.length) j)),⟨ow,?_⟩,ow,by rfl,rfl⟩
      ·show wm5 (nL r i) (nL r piv.length) j
       grind
      grind [q1b]
     ·refine⟨qa7,(i+1,r),⟨ow,?_⟩,ow,by rfl,rfl⟩
      dsimp only
      rw[hi2]
      refine q57 (.list (.int .i64)) _ _ _ λ_=>?_
      unfold wh7
      rw[zai]
      ·rfl
      grind
     ·refine⟨qa7,(i+1,r),⟨ow,?_⟩,ow,by rfl,rfl⟩
      dsimp only
      rw[hi2]
      refine q57 (.list (.int .i64)) _ _ _ λ_=>?_
      have e:i=piv.length:=ow
      rw[e]
      exact q3o _ _ _
    ·obtain rfl:i=r0.length:=ow
     refine⟨ow,qa7,(j+1,r,piv++[(j:Int)]),⟨ow,?_⟩,ow,by rfl,rfl,rfl⟩
     rw[qb8,hj,qu8,zai (by grind),hi2]
     refine za9 (·,_) ?_
     rw[<- qk7 r0 piv.length j]
     exact(q7c (.list (.int .i64)) _ _ _ (zad _)).symm
  ·have hprep:q1h r0 piv.length j=qi0 r0 piv.length j:=by simp_all [qi0,if_neg]
   refine⟨(j,piv.length,qi0 r0 piv.length j,piv),(0,qi0 r0 piv.length j),⟨zae _,(q3j (.list (.int .i64)) _ _).symm⟩,⟨hnd,trivial⟩,⟨rfl,hprep,rfl,rfl⟩,?_⟩
   rintro⟨i,r⟩ ⟨hi1,hi2⟩
   dsimp only at hi1 hi2 ⊢
   have hpl:=qk7 r0 piv.length j
   have hrl:r.length=r0.length:=by rw[hi2,qy9,qk7]
   have hi1:i<=r0.length:=ow
   have hat:∀q,q<r0.length->nL r q=if q<i then wh7 (qi0 r0 piv.length j) piv.length j q else nL (qi0 r0 piv.length j) q:=λq hq=>by
    rw[hi2]; exact q9h (.list (.int .i64)) _ _ _ _ ow
   have hk2:nL r piv.length=nL (qi0 r0 piv.length j) piv.length:=by
    grind [q3o]
   refine⟨λhlt=>?_,λhge=>?_⟩
   ·have hlt:i<r0.length:=ow
    have hri:nL r i=nL (qi0 r0 piv.length j) i:=by grind
    have hw:=hpe i hlt
    refine⟨ow,ow,λhne=>⟨by grind,by grind,λhnz=>?_,λhz=>?_⟩,λheq=>?_⟩
    ·rw[hri] at hnz
     have hne:i≠piv.length:=ow
     have hcl:=hso.clr i hlt hne hnz
     have hcr:wh7 (qi0 r0 piv.length j) piv.length j i=qw3 (nL r i) (nL r piv.length) j:=by
      simp_all [wh7,if_pos]
     refine⟨ow,ow,ow,?_,qa7,(i+1,r.set i (qw3 (nL r i) (nL r piv.length) j)),⟨ow,?_⟩,ow,by rfl,rfl⟩
     ·show wm5 (nL r i) (nL r piv.length) j
      grind
     grind [q1b]
    ·refine⟨qa7,(i+1,r),⟨ow,?_⟩,ow,by rfl,rfl⟩
     dsimp only
     rw[hi2]
     refine q57 (.list (.int .i64)) _ _ _ λ_=>?_
     unfold wh7
     rw[zai]
     ·rfl
     grind
    ·refine⟨qa7,(i+1,r),⟨ow,?_⟩,ow,by rfl,rfl⟩
     dsimp only
     rw[hi2]
     refine q57 (.list (.int .i64)) _ _ _ λ_=>?_
     have e:i=piv.length:=ow
     rw[e]
     exact q3o _ _ _
   ·obtain rfl:i=r0.length:=ow
    refine⟨ow,qa7,(j+1,r,piv++[(j:Int)]),⟨ow,?_⟩,ow,by rfl,rfl,rfl⟩
    rw[qb8,hj,qu8,zai (by grind),hi2]
    refine za9 (·,_) ?_
    rw[<- qk7 r0 piv.length j]
    exact(q7c (.list (.int .i64)) _ _ _ (zad _)).symm
 grind
def w8s (a:Int):Nat->List Int
 | 0=>[]
 | k+1=>a :: w8s (a+1) k
theorem wd1 (a:Int) (k:Nat):(w8s a k).length=k:=by
 induction k generalizing a with
 | zero=>rfl
 | succ k ih=>grind [w8s]
def qq5:Nat->Nat->Int->List (List Int)
 | _,0,_=>[[]]
 | 0,_+1,_=>[]
 | m+1,k+1,a=>(qq5 m k (a+1)).map (a :: ·)++qq5 m (k+1) (a+1)
def q4h (n:Int):List Int->Option (List Int)
 | []=>none
 | x :: t=>match q4h n t with
  | some t'=>some (x :: t')
  | none=>if x+t.length+1<n then some (w8s (x+1) (t.length+1)) else none
theorem wn3 {m k:Nat} {a:Int} {l:List Int} (h:l∈qq5 m k a):l.length=k:=by
 induction m generalizing k a l with
 | zero=>cases k with
  | zero=>grind [qq5]
  | succ k=>cases h
 | succ m ih=>cases k with
  | zero=>grind [qq5]
  | succ k=>
   rcases zaj.1 h with h | h
   all_goals grind
structure InC (m k:Nat) (a:Int) (l:List Int):Prop where
 len:l.length=k
 lo:∀i,i<k->a+i<=nI l i
 hi:∀i,i<k->nI l i+(k-i:Nat)<=a+m
 asc:∀i,0<i->i<k->nI l (i-1)<nI l i
theorem q4i (x:Int) (t:List Int):nI (x :: t) 0=x:=rfl
theorem qu9 (x:Int) (t:List Int) (i:Nat):nI (x :: t) (i+1)=nI t i:=rfl
theorem w1q {m k:Nat} {a:Int} {l:List Int} (h:l∈qq5 m k a):InC m k a l:=by
 induction m generalizing k a l with
 | zero=>cases k with
  | zero=>simp[qq5] at h; subst h; exact⟨rfl,λi hi=>by omega,λi hi=>by omega,λi _ hi=>by omega⟩
  | succ k=>cases h
 | succ m ih=>cases k with
  | zero=>simp[qq5] at h; subst h; exact⟨rfl,λi hi=>by omega,λi hi=>by omega,λi _ hi=>by omega⟩
  | succ k=>
   rcases zaj.1 h with h | h
   ·obtain⟨t,ht,rfl⟩:=za4.1 h
    have q:=ih ht
    refine⟨by simp[q.len],λi hi=>?_,λi hi=>?_,λi h0 hi=>?_⟩
    ·cases i with
     | zero=>grind [q4i]
     | succ i=>rw[qu9]; have:=q.lo i ow; omega
    ·cases i with
     | zero=>
      rw[q4i]
      cases k with
      | zero=>omega
      | succ k=>have h1:=q.lo 0 ow; have h2:=q.hi 0 ow; omega
     | succ i=>rw[qu9]; have:=q.hi i ow; omega
    ·obtain⟨i,rfl⟩:∃q,i=q+1:=⟨i-1,ow⟩
     rw[qu9,Nat.add_sub_cancel]
     cases i with
     | zero=>rw[q4i]; have:=q.lo 0 ow; omega
     | succ i=>rw[qu9]; have:=q.asc (i+1) ow ow; grind
   ·have q:=ih h
    exact⟨q.len,λi hi=>by have:=q.lo i hi; omega,λi hi=>by have:=q.hi i hi; omega,q.asc⟩
theorem w4l {m k:Nat} {a:Int} (h:m<k):qq5 m k a=[]:=by
 induction m generalizing k a with
 | zero=>cases k with
  | zero=>omega
  | succ k=>rfl
 | succ m ih=>cases k with
  | zero=>omega
  | succ k=>grind [qq5]
theorem q9m {m k:Nat} {a:Int} (h:k<=m):(qq5 m k a)[0]? = some (w8s a k):=by
 induction m generalizing k a with
 | zero=>
  obtain rfl:k=0:=ow
  rfl
 | succ m ih=>cases k with
  | zero=>rfl
  | succ k=>
   have:=ih (k:=k) (a:=a+1) ow
   have hl:0<(qq5 m k (a+1)).length:=(zaf.1 this).1
   rw[qq5,zb5 (by grind),za5,this]
   rfl
theorem w4m {m k:Nat} {a n:Int} (hn:n=a+m) {c:Nat} {l:List Int} (h:(qq5 m k a)[c]? = some l):q4h n l=(qq5 m k a)[c+1]?:=by
 induction m generalizing k a c l with
 | zero=>cases k with
  | zero=>
   have hc:=(zaf.1 h).1
   simp[qq5] at hc
   subst hc
   simp[qq5] at h
   subst h
   rfl
  | succ k=>grind [qq5]
 | succ m ih=>cases k with
  | zero=>
   have hc:=(zaf.1 h).1
   simp[qq5] at hc
   subst hc
   simp[qq5] at h
   subst h
   rfl
  | succ k=>
   rw[qq5] at h ⊢
   rcases zav c ((qq5 m k (a+1)).map (a :: ·)).length with hlt | hge
   ·rw[zb5 hlt,za5] at h
    obtain⟨t,ht,rfl⟩:=zbj.1 h
    have hi:=ih ow ht
    have htl:=wn3 (zag ht)
    have hcl:c<(qq5 m k (a+1)).length:=by grind
    simp only[q4h,hi]
    rcases zav (c+1) (qq5 m k (a+1)).length with h2 | h2
    ·grind
    ·rw[zc3 h2,zb0 (by grind)]
     have e:c+1-((qq5 m k (a+1)).map (a :: ·)).length=0:=ow
     rw[e,htl]
     simp only
     by_cases hk:k+1<=m
     ·rw[q9m hk,zap ow]
     ·rw[w4l ow,zai ow]
      rfl
   grind
def qf0 (n k:Int):List (List Int):=if k<=n then qq5 n.toNat k.toNat 0 else[]
theorem w8t (a:Int) (k i:Nat) (h:i<k):nI (w8s a k) i=a+i:=by
 induction k generalizing a i with
 | zero=>omega
 | succ k ih=>cases i with
  | zero=>simp[w8s,q4i]
  | succ i=>grind [w8s,qu9]
theorem q4j {n:Int}:∀{l:List Int},(∀q:Nat,q<l.length->nI l q=n-l.length+q)->q4h n l=none
 | [],_=>rfl
 | x :: t,h=>by
  have h0:=h 0 (by simp)
  rw[q4i] at h0
  have ht:q4h n t=none:=q4j λq hq=>by
   have:=h (q+1) (by grind)
   grind [qu9,List.length_cons]
  simp only[q4h,ht]
  grind
theorem q9n {n:Int}:∀{l:List Int} {i:Nat},i<l.length->(∀q:Nat,i<q->q<l.length->nI l q=n-l.length+q)->nI l i<n-l.length+i->q4h n l=some (l.take i++w8s (nI l i+1) (l.length-i))
 | x :: t,0,_,h,h0=>by
  rw[q4i] at h0
  have ht:q4h n t=none:=q4j λq hq=>by
   have:=h (q+1) ow (by grind)
   grind [qu9,List.length_cons]
  simp only[q4h,ht]
  simp only[List.length_cons] at h0
  rw[zap ow]
  rfl
 | x :: t,i+1,hi,h,h0=>by
  have:=q9n (n:=n) (l:=t) (i:=i) (by grind) (λq h1 h2=>by
   have:=h (q+1) ow (by grind)
   grind [qu9,List.length_cons]) (by
   grind [qu9,List.length_cons])
  grind [q4h,qu9,List.length_cons,Nat.add_sub_add_right]
def xe7 (l:List Int) (i:Nat):List Int:=l.take i++w8s (nI l i+1) (l.length-i)
theorem w1r (l:List Int) (i:Nat) (hi:i<l.length):(xe7 l i).length=l.length:=by
 grind [xe7,wd1]
theorem wd5 (l:List Int) (i q:Nat) (hi:i<l.length) (hq:q<l.length):nI (xe7 l i) q=if q<i then nI l q else nI l i+1+(q-i:Nat):=by
 rw[qf2 _ _ (by rw[w1r l i hi]; exact hq)]
 unfold xe7
 split
 ·grind [List.getElem_append_left,qf2]
 ·rename_i h
  rw[zdj (by grind)]
  have hl:(l.take i).length=i:=by grind
  have:=w8t (nI l i+1) (l.length-i) (q-i) ow
  grind [qf2,wd1]
def mkC (l:List Int) (i j:Nat):List Int:=ovr (.int .i64) (nI (xe7 l i)) l j
theorem q7k (l:List Int) (i j:Nat):(mkC l i j).length=l.length:=qy9 (.int .i64) _ _ _
theorem w1s (l:List Int) (i j q:Nat) (hq:q<l.length):nI (mkC l i j) q=if q<j then nI (xe7 l i) q else nI l q:=q9h (.int .i64) _ _ _ _ hq
theorem wn4 {a b:List Int} (h:a.length=b.length) (k:∀i,i<a.length->nI a i=nI b i):a=b:=by
 grind [List.ext_getElem,qf2]
theorem w8u (l:List Int) (i:Nat) (hi:i<l.length):mkC l i (i+1)=l.set i (nI l i+1):=by
 apply wn4 (by rw[q7k,zaz])
 intro q hq
 rw[q7k] at hq
 rw[w1s _ _ _ _ hq,qf2 (l.set i (nI l i+1)) q (by grind),zcc,wd5 _ _ _ hi hq]
 by_cases e:i=q
 ·omega
 ·rw[zai e,<- qf2 l q hq]
  omega
theorem xl6 (l:List Int) (i j:Nat) (hi:i<j) (hj:j<l.length):(mkC l i j).set j (nI (mkC l i j) (j-1)+1)=mkC l i (j+1):=by
 have e:nI (mkC l i j) (j-1)+1=nI (xe7 l i) j:=by
  rw[w1s _ _ _ _ ow,zap ow,wd5 _ _ _ ow ow,wd5 _ _ _ ow hj,zai ow]
  omega
 rw[e]
 exact q1b (.int .i64) _ _ _
theorem x1l (l:List Int) (i:Nat) (hi:i<l.length):mkC l i l.length=xe7 l i:=by
 apply wn4 (by grind [q7k,w1r])
 simp_all [q7k,w1s,if_pos]
structure w8v (n k:Int) (c:Nat) (l:List Int):Prop where
 len:l.length=k.toNat
 at_:k<=n->(qf0 n k)[c]? = some l
 cnt:n<k->c=0
structure xl7 (n k:Int) (l:List Int) (i:Int):Prop where
 lo:-1<=i
 hi:i<k
 last:∀q:Nat,i<q->q<l.length->nI l q=n-k+q
structure x1m (l:List Int) (i j:Nat) (r:List Int):Prop where
 lo:i<j
 hi:j<=l.length
 eq:r=mkC l i j
abbrev x5f:qz6:=wl7 [qb9,qb9] [qd4] (λx=>(0<=x.1/\x.1<=1000)/\0<=x.2.1/\x.2.1<=1000) (λx=>(qf0 x.2.1 x.1).map λl=>(l,())) (some 3)
def x5g (n k:Int):Nat->Option Inv
 | 0=>some (Inv.of [4] 2 (λ_:Nat × List Int=>[(4,.own 1)]) (λs=>[.cnt (some s.1),.vec 3 (.int .i64) s.2]) (λs=>w8v n k s.1 s.2) (λs=>(qf0 n k).length+1-s.1))
 | 1=>some (Eng.Inv.mk (Nat × List Int) Int [4,5] 2 (λ_ i=>[(4,.own 1),(5,.lit (.int .i64 i))]) (λq i=>[.cnt (some q.1),.vec 3 (.int .i64) q.2]) (λq i=>xl7 n k q.2 i) (λq i=>(i+1).toNat))
 | 2=>some (Eng.Inv.mk (Nat × List Int × Nat) (Nat × List Int) [4,6] 16 (λ_ s=>[(4,.own 1),(6,.lit (.int .i64 s.1))]) (λq s=>[.cnt (some q.1),.vec 3 (.int .i64) s.2,.dead,.dead,.dead,.dead,.dead,.dead,.dead,.dead,.dead,.dead,.dead,.dead,.dead,.dead]) (λq s=>x1m q.2.1 q.2.2 s.1 s.2) (λq s=>q.2.1.length-s.1))
 | _=>none
theorem xl8 (k:Nat):w8s 0 k=qo0 k:=by
 grind [wn4,wd1,qe8,w8t,q2n]
theorem w8w {n k:Int} (hkn:k<=n) (hk:0<=k) {c:Nat} {l:List Int} (h:(qf0 n k)[c]? = some l):q4h n l=(qf0 n k)[c+1]?:=by
 unfold qf0 at h ⊢
 rw[zap hkn] at h ⊢
 grind [w4m]
theorem x1n {n k:Int} {l:List Int} (h:l∈qf0 n k):InC n.toNat k.toNat 0 l:=by
 grind [qf0,w1q]
theorem q9o:qv9 Tryz.prog 203 x5f:=by
 refine says (snd (SpecsOk.cons q3k (SpecsOk.nil _))) Tryz.func203 rfl rfl rfl [12] (λx=>x5g x.2.1 x.1) (λ_=>by kernel_rfl) dc ?_
 rintro⟨k,n,⟨⟩⟩ l h
 revert k n
 intro(k:Int) (n:Int) (h:(0<=k/\k<=1000)/\0<=n/\n<=1000)
 refine vcs (let Q0:=qf0 n k; let Q1:=(k,n,PUnit.unit); k<=(100000:Ty.den qb9)/\∃(v0:Unit),∃(v1:Nat × List Int),w8v n k v1.1 v1.2/\((True/\True)/\some (0:Nat)=some v1.1/\qo0 k.toNat=v1.2/\True)/\∀(v2:Nat × List Int),w8v n k v2.1 v2.2->(decide (k<=n)=true->Value.func (Fn.yield l) #[] #[]=Value.func (Fn.yield (qg6.l (qt9 [qb9,qb9] [qd4] [(12:Nat)] Q1 (List.map (λ(v5:List Int)=>(v5,())) Q0) l (some (3:Nat))))) #[] #[]/\(qg6.L (qt9 [qb9,qb9] [qd4] [(12:Nat)] Q1 (List.map (λ(v5:List Int)=>(v5,())) Q0) l (some (3:Nat))))[v2.1]?=some (v2.2,())/\(fits .i64 (k-(1:Int))/\∃(v5:Nat × List Int),∃(v6:Int),xl7 n k v5.2 v6/\((True/\k-(1:Int)=v6/\True)/\some (v2.1+(1:Nat))=some v5.1/\v2.2=v5.2/\True)/\∀(v7:Int),xl7 n k v5.2 v7->(decide ((0:Int)<=v7)=true->((0:Int)<=v7/\v7<(↑v5.2.length:Int))/\v7.toNat<v5.2.length/\fits .i64 (n-k)/\fits .i64 (n-k+v7)/\((nI v5.2 v7.toNat==n-k+v7)=true->fits .i64 (v7-(1:Int))/\∃(v11:Int),xl7 n k v5.2 v11/\(v11+(1:Int)).toNat<(v7+(1:Int)).toNat/\(True/\v7-(1:Int)=v11/\True)/\some v5.1=some v5.1/\v5.2=v5.2/\True)/\((nI v5.2 v7.toNat==n-k+v7)=false->(decide (v7<(0:Int))=true->v5.1=(qg6.L (qt9 [qb9,qb9] [qd4] [(12:Nat)] Q1 (List.map (λ(v12:List Int)=>(v12,())) Q0) l (some (3:Nat)))).length)/\(decide (v7<(0:Int))=false->((0:Int)<=v7/\v7<(↑v5.2.length:Int))/\v7.toNat<v5.2.length/\fits .i64 (nI v5.2 v7.toNat+(1:Int))/\((0:Int)<=v7/\v7<(↑v5.2.length:Int))/\v7.toNat<v5.2.length/\fits .i64 (v7+(1:Int))/\∃(v12:Nat × List Int × Nat),∃(v13:Nat × List Int),x1m v12.2.1 v12.2.2 v13.1 v13.2/\((True/\v7+(1:Int)=(↑v13.1:Int)/\True)/\some v5.1=some v12.1/\List.set v5.2 v7.toNat (nI v5.2 v7.toNat+(1:Int))=v13.2/\True/\True/\True/\True/\True/\True/\True/\True/\True/\True/\True/\True/\True/\True/\True)/\∀(v14:Nat × List Int),x1m v12.2.1 v12.2.2 v14.1 v14.2->(decide ((↑v14.1:Int)<k)=true->fits .i64 ((↑v14.1:Int)-(1:Int))/\((0:Int)<=(↑v14.1:Int)-(1:Int)/\(↑v14.1:Int)-(1:Int)<(↑v14.2.length:Int))/\((↑v14.1:Int)-(1:Int)).toNat<v14.2.length/\fits .i64 (nI v14.2 ((↑v14.1:Int)-(1:Int)).toNat+(1:Int))/\((0:Int)<=(↑v14.1:Int)/\(↑v14.1:Int)<(↑v14.2.length:Int))/\(↑v14.1:Int).toNat<v14.2.length/\fits .i64 ((↑v14.1:Int)+(1:Int))/\∃(v17:Nat × List Int),x1m v12.2.1 v12.2.2 v17.1 v17.2/\v12.2.1.length-v17.1<v12.2.1.length-v14.1/\(True/\(↑v14.1:Int)+(1:Int)=(↑v17.1:Int)/\True)/\some v12.1=some v12.1/\List.set v14.2 (↑v14.1:Int).toNat (nI v14.2 ((↑v14.1:Int)-(1:Int)).toNat+(1:Int))=v17.2/\True/\True/\True/\True/\True/\True/\True/\True/\True/\True/\True/\True/\True/\True/\True)/\(decide ((↑v14.1:Int)<k)=false->∃(v17:Nat × List Int),w8v n k v17.1 v17.2/\Q0.length+(1:Nat)-v17.1<Q0.length+(1:Nat)-v2.1/\(True/\True)/\some v12.1=some v17.1/\v14.2=v17.2/\True))))/\(decide ((0:Int)<=v7)=false->(decide (v7<(0:Int))=true->v5.1=(qg6.L (qt9 [qb9,qb9] [qd4] [(12:Nat)] Q1 (List.map (λ(v11:List Int)=>(v11,())) Q0) l (some (3:Nat)))).length)/\(decide (v7<(0:Int))=false->((0:Int)<=v7/\v7<(↑v5.2.length:Int))/\v7.toNat<v5.2.length/\fits .i64 (nI v5.2 v7.toNat+(1:Int))/\((0:Int)<=v7/\v7<(↑v5.2.length:Int))/\v7.toNat<v5.2.length/\fits .i64 (v7+(1:Int))/\∃(v11:Nat × List Int × Nat),∃(v12:Nat × List Int),x1m v11.2.1 v11.2.2 v12.1 v12.2/\((True/\v7+(1:Int)=(↑v12.1:Int)/\True)/\some v5.1=some v11.1/\List.set v5.2 v7.toNat (nI v5.2 v7.toNat+(1:Int))=v12.2/\True/\True/\True/\True/\True/\True/\True/\True/\True/\True/\True/\True/\True/\True/\True)/\∀(v13:Nat × List Int),x1m v11.2.1 v11.2.2 v13.1 v13.2->(decide ((↑v13.1:Int)<k)=true->fits .i64 ((↑v13.1:Int)-(1:Int))/\((0:Int)<=(↑v13.1:Int)-(1:Int)/\(↑v13.1:Int)-(1:Int)<(↑v13.2.length:Int))/\((↑v13.1:Int)-(1:Int)).toNat<v13.2.length/\fits .i64 (nI v13.2 ((↑v13.1:Int)-(1:Int)).toNat+(1:Int))/\((0:Int)<=(↑v13.1:Int)/\(↑v13.1:Int)<(↑v13.2.length:Int))/\(↑v13.1:Int).toNat<v13.2.length/\fits .i64 ((↑v13.1:Int)+(1:Int))/\∃(v16:Nat × List Int),x1m v11.2.1 v11.2.2 v16.1 v16.2/\v11.2.1.length-v16.1<v11.2.1.length-v13.1/\(True/\(↑v13.1:Int)+(1:Int)=(↑v16.1:Int)/\True)/\some v11.1=some v11.1/\List.set v13.2 (↑v13.1:Int).toNat (nI v13.2 ((↑v13.1:Int)-(1:Int)).toNat+(1:Int))=v16.2/\True/\True/\True/\True/\True/\True/\True/\True/\True/\True/\True/\True/\True/\True/\True)/\(decide ((↑v13.1:Int)<k)=false->∃(v16:Nat × List Int),w8v n k v16.1 v16.2/\Q0.length+(1:Nat)-v16.1<Q0.length+(1:Nat)-v2.1/\(True/\True)/\some v11.1=some v16.1/\v13.2=v16.2/\True))))/\True)/\(decide (k<=n)=false->v2.1=(qg6.L (qt9 [qb9,qb9] [qd4] [(12:Nat)] Q1 (List.map (λ(v5:List Int)=>(v5,())) Q0) l (some (3:Nat)))).length)) ?_
 obtain⟨⟨hk0,hk1⟩,hn0,hn1⟩:=h
 refine⟨ow,(),(0,qo0 k.toNat),⟨qe8 _,λhkn=>?_,λ_=>rfl⟩,⟨rfl,rfl⟩,?_⟩
 ·unfold qf0
  rw[zap hkn,q9m ow,xl8]
 rintro⟨c,s⟩ ⟨hl,ha,hz⟩
 dsimp only at hl ha hz ⊢
 refine⟨λhkn=>?_,λhkn=>?_⟩
 ·have hat:=ha hkn
  have hc:=(zaf.1 hat).1
  have hin:=x1n (zag hat)
  have hnx:=w8w hkn hk0 hat
  have hmap:((qf0 n k).map λv=>((v,()):qa3 [qd4])).length=(qf0 n k).length:=za3 _
  refine⟨rfl,?_,qa7,(c+1,s),k-1,⟨ow,ow,λq h1 h2=>by grind⟩,⟨rfl,rfl,rfl⟩,?_⟩
  ·show((qf0 n k).map λv=>((v,()):qa3 [qd4]))[c]? = some (s,())
   grind
  rintro i ⟨lo,hi,last⟩
  dsimp only at lo hi last ⊢
  have fin:i<0->c+1=((qf0 n k).map λv=>((v,()):qa3 [qd4])).length:=λhneg=>by
   grind [q4h,q4j,List.getElem?_eq_none_iff]
  refine⟨λhi0=>?_,λhi0=>⟨fin,λh=>by omega⟩⟩
  have hb1:=hin.lo i.toNat ow
  have hb2:=hin.hi i.toNat ow
  refine⟨ow,ow,qa7,qa7,λheq=>⟨qa7,i-1,⟨ow,ow,λq h1 h2=>?_⟩,ow,rfl⟩,λhne=>⟨fin,λ_=>?_⟩⟩
  ·grind
  have hil:i.toNat<s.length:=ow
  refine⟨ow,hil,qa7,ow,hil,qa7,(c+1,s,i.toNat),(i.toNat+1,s.set i.toNat (nI s i.toNat+1)),⟨zdv _,hil,(w8u s i.toNat hil).symm⟩,⟨ow,rfl,rfl⟩,?_⟩
  rintro⟨j,r⟩ ⟨h1,h2,h3⟩
  dsimp only at h1 h2 h3 ⊢
  have hrl:r.length=s.length:=by rw[h3,q7k]
  refine⟨λhj=>?_,λhj=>?_⟩
  ·have e:((j:Int)-1).toNat=j-1:=ow
   rw[e]
   have hv:nI r (j-1)=nI s i.toNat+1+(j-1-i.toNat:Nat):=by
    rw[h3,w1s _ _ _ _ ow,zap ow,wd5 _ _ _ hil ow,zai ow]
   refine⟨qa7,ow,ow,qa7,ow,ow,qa7,(j+1,r.set j (nI r (j-1)+1)),⟨ow,ow,?_⟩,ow,by rfl,rfl⟩
   grind [xl6]
  ·have hjl:j=s.length:=ow
   have hr:r=xe7 s i.toNat:=by grind [x1l]
   have hlt2:nI s i.toNat<n-s.length+i.toNat:=by
    grind
   have hst:q4h n s=some (xe7 s i.toNat):=q9n hil (λq h1 h2=>by grind) hlt2
   refine⟨(c+1,r),⟨hrl.trans hl,λ_=>?_,λh=>absurd (Int.lt_of_lt_of_le h hkn) (Int.lt_irrefl _)⟩,Nat.sub_lt_sub_left (Nat.lt_succ_of_lt hc) (zdv c),rfl,rfl⟩
   grind
 ·show c=((qf0 n k).map λv=>((v,()):qa3 [qd4])).length
  simp_all [List.length_map,qf0,if_neg]
abbrev x9i:qa8:=q68 false none [qb9,qb9] (λ_=>True) (λx=>.clo 203 (.cons (.imm (.cons (.lit (.int .i64 x.2.1)) .nil) 0) (.cons (.imm (.cons (.lit (.int .i64 x.1)) .nil) 0) .nil)))
theorem q9p:Meets Tryz.prog 154 x9i:=by
 refine q0o (snd (SpecsOk.nil _)) Tryz.func154 rfl rfl (λ_ _=>none) (λ_=>by kernel_rfl) dc ?_
 rintro⟨n,k,⟨⟩⟩ -
 revert n k
 intro(n:Int) (k:Int)
 refine vcr (((k=k/\True)/\(0:Nat)=(0:Nat))/\((n=n/\True)/\(0:Nat)=(0:Nat))/\True) ?_
 simp
def x9j (l:List Int) (x:Int):Nat->Option Inv:=x47 (.int .i64) l λe=>x==e
abbrev yo1:qa8:=qe4 true none [qd4,qb9] [qb9] (λx=>x.1.length<=1000000) (λx=>(ixT (.int .i64) (λe=>x.2.1==e) x.1,()))
theorem w8x:Meets Tryz.prog 104 yo1:=by
 refine mts (SpecsOk.nil _) Tryz.func104 (λx=>x9j x.1 x.2.1) ?_
 rintro⟨l,x,⟨⟩⟩ h
 revert l x
 intro(l:List Int) (x:Int) (h:l.length<=1000000)
 refine vcs (∃(v0:Unit),∃(v1:Nat),(v1<=l.length/\∀(v2:Nat),Nat.le (Nat.succ v2) v1->(x==nI l v2)=false)/\(((0:Int)=(↑v1:Int)/\True)/\True)/\∀(v2:Nat),(v2<=l.length/\∀(v4:Nat),Nat.le (Nat.succ v4) v2->(x==nI l v4)=false)->(decide ((↑v2:Int)<(↑l.length:Int))=true->((0:Int)<=(↑v2:Int)/\(↑v2:Int)<(↑l.length:Int))/\((x==nI l v2)=true->(↑v2:Int)=ixT (Ty.int .i64) (λ(v6:Int)=>x==v6) l)/\((x==nI l v2)=false->fits .i64 ((↑v2:Int)+(1:Int))/\∃(v6:Nat),(v6<=l.length/\∀(v7:Nat),Nat.le (Nat.succ v7) v6->(x==nI l v7)=false)/\l.length-v6<l.length-v2/\((↑v2:Int)+(1:Int)=(↑v6:Int)/\True)/\True))/\(decide ((↑v2:Int)<(↑l.length:Int))=false->(-1:Int)=ixT (Ty.int .i64) (λ(v5:Int)=>x==v5) l)) ?_
 refine⟨(),0,⟨zae _,λi hi=>absurd hi ow⟩,rfl,λk ⟨hk,hall⟩=>?_⟩
 refine⟨λhlt=>⟨hlt,λhf=>(q7f (.int .i64) (λe=>x==e) l k hlt (λi hi=>beq_false_of_ne λe=>hall i hi e) (beq_iff_eq.2 hf)).symm,λhf=>⟨qa7,k+1,⟨ow,λi hi=>?_⟩,ow,ow⟩⟩,λhge=>(q1d (.int .i64) (λe=>x==e) l λi hi=>beq_false_of_ne λe=>hall i ow e).symm⟩
 grind
abbrev yo2:qa8:=qe4 true none [qd4,qb9] [.bool] (λx=>x.1.length<=1000000) (λx=>(x.1.any λe=>x.2.1==e,()))
theorem wn5:Meets Tryz.prog 156 yo2:=by
 refine mt0 (SpecsOk.cons w8x (SpecsOk.nil _)) Tryz.func156 ?_
 rintro⟨l,x,⟨⟩⟩ h
 revert l x
 intro(l:List Int) (x:Int) (h:l.length<=1000000)
 refine vcs (l.length<=(1000000:Nat)/\decide ((0:Int)<=ixT (Ty.int .i64) (λ(v0:Int)=>x==v0) l)=List.any l λ(v0:Int)=>x==v0) ?_
 grind [qs6]
abbrev x5h:qa8:=qe4 true none [qb9] [.bool] (λ_=>True) (λx=>(x.1 != 0,()))
theorem w4n:Meets Tryz.prog 205 x5h:=by
 refine mt0 (SpecsOk.nil _) Tryz.func205 ?_
 rintro⟨n,⟨⟩⟩ -
 revert n
 intro(n:Int)
 exact vct ((n != (0:Int))=(n != (0:Ty.den qb9)))
def qv0 (l:List Int):Int:=ixT (.int .i64) (λe=>e != 0) l
def q7l (l:List Int):List Int:=if 0<=qv0 (qe2 l)/\nI (qe2 l) (qv0 (qe2 l)).toNat<0 then xl1 (qe2 l) else qe2 l
abbrev x9k:MSpec:=q4e (q0m []) false true 0 3 (.int .i64) (λrows _=>wh6 (nL rows 0)) (λ_ _=>.tup .nil) (λrows _=>[q7l (nL rows 0)])
structure xl9 (l:List Int) (i:Nat) (r:List Int):Prop where
 le:i<=l.length
 eq:r=ovr (.int .i64) (λq=>0-nI l q) l i
def x5i (T:q2v) (l:List Int):Nat->Option Inv
 | 0=>some (Inv.of [0,20] 1 (λs:Nat × List Int=>[(0,.msl 0 (some 0)),(20,.lit (.int .i64 s.1))]) (λs=>[.mat 0 3 (.int .i64) [s.2] (some []) (some T)]) (λs=>xl9 (qe2 l) s.1 s.2) (λs=>(qe2 l).length-s.1))
 | _=>none
theorem q9q {l:List Int} (h:wh6 l):wh6 (qe2 l):=by
 unfold qe2
 split
 ·refine⟨by simpa using h.1,λx hx=>?_⟩
  obtain⟨y,hy,rfl⟩:=za4.1 hx
  exact qr4 (h.2 y hy)
 omega
theorem w4o:qo6 Tryz.prog 157 x9k:=by
 refine q0q (x42 (SpecsOk.cons (wm7 (fs:=[(205,x5h)]) (SpecsOk.cons w4n (SpecsOk.nil _))) (SpecsOk.nil _)) (MutsOk.cons q2l MutsOk.nil)) Tryz.func157 rfl rfl (ql4 []) (λT rows _=>x5i T (nL rows 0)) (λ_ _ _=>by kernel_rfl) dc ?_ rfl
 rintro T rows ⟨⟩ h hone
 obtain⟨l,rfl⟩:∃l:List Int,rows=[l]:=by
  have h1:=hone rfl
  match rows,h1 with
  | [l],_=>simp
 have h:wh6 l:=h
 refine vcs (wh6 (nL [nL [l] (0:Nat)] (0:Nat))/\∃(v0:qa3 [Ty.int .i64]->Prop),∃(v1:qa3 [Ty.int .i64]->Bool),(∀(v2:Int × qa3._f [] PUnit.unit),v0 v2->True/\(v2.1 != (0:Ty.den qb9))=v1 v2)/\((nL (List.set [l] (0:Nat) (nL [qe2 (nL [nL [l] (0:Nat)] (0:Nat))] (0:Nat))) (0:Nat)).length<=(1000000:Nat)/\∀(v2:Nat),v2<(nL (List.set [l] (0:Nat) (nL [qe2 (nL [nL [l] (0:Nat)] (0:Nat))] (0:Nat))) (0:Nat)).length->v0 (nI (nL (List.set [l] (0:Nat) (nL [qe2 (nL [nL [l] (0:Nat)] (0:Nat))] (0:Nat))) (0:Nat)) v2,()))/\(decide ((0:Int)<=ixT (Ty.int .i64) (λ(v3:Int)=>v1 (v3,())) (nL (List.set [l] (0:Nat) (nL [qe2 (nL [nL [l] (0:Nat)] (0:Nat))] (0:Nat))) (0:Nat)))=true->((0:Int)<=ixT (Ty.int .i64) (λ(v3:Int)=>v1 (v3,())) (nL (List.set [l] (0:Nat) (nL [qe2 (nL [nL [l] (0:Nat)] (0:Nat))] (0:Nat))) (0:Nat))/\ixT (Ty.int .i64) (λ(v3:Int)=>v1 (v3,())) (nL (List.set [l] (0:Nat) (nL [qe2 (nL [nL [l] (0:Nat)] (0:Nat))] (0:Nat))) (0:Nat))<(↑(nL (List.set [l] (0:Nat) (nL [qe2 (nL [nL [l] (0:Nat)] (0:Nat))] (0:Nat))) (0:Nat)).length:Int))/\(ixT (Ty.int .i64) (λ(v3:Int)=>v1 (v3,())) (nL (List.set [l] (0:Nat) (nL [qe2 (nL [nL [l] (0:Nat)] (0:Nat))] (0:Nat))) (0:Nat))).toNat<(nL (List.set [l] (0:Nat) (nL [qe2 (nL [nL [l] (0:Nat)] (0:Nat))] (0:Nat))) (0:Nat)).length/\(decide (nI (nL (List.set [l] (0:Nat) (nL [qe2 (nL [nL [l] (0:Nat)] (0:Nat))] (0:Nat))) (0:Nat)) (ixT (Ty.int .i64) (λ(v4:Int)=>v1 (v4,())) (nL (List.set [l] (0:Nat) (nL [qe2 (nL [nL [l] (0:Nat)] (0:Nat))] (0:Nat))) (0:Nat))).toNat<(0:Int))=true->∃(v4:Unit),∃(v5:Nat × List Int),xl9 (qe2 (nL [l] (0:Nat))) v5.1 v5.2/\((some (0:Nat)=some (0:Nat)/\(0:Int)=(↑v5.1:Int)/\True)/\(List.set [l] (0:Nat) (nL [qe2 (nL [nL [l] (0:Nat)] (0:Nat))] (0:Nat))=[v5.2]/\True/\T=T)/\True)/\∀(v6:Nat × List Int),xl9 (qe2 (nL [l] (0:Nat))) v6.1 v6.2->(decide ((↑v6.1:Int)<(↑(nL (List.set [l] (0:Nat) (nL [qe2 (nL [nL [l] (0:Nat)] (0:Nat))] (0:Nat))) (0:Nat)).length:Int))=true->((0:Int)<=(↑v6.1:Int)/\(↑v6.1:Int)<(↑(nL [v6.2] (0:Nat)).length:Int))/\(↑v6.1:Int).toNat<(nL [v6.2] (0:Nat)).length/\fits .i64 ((0:Int)-nI (nL [v6.2] (0:Nat)) (↑v6.1:Int).toNat)/\((0:Int)<=(↑v6.1:Int)/\(↑v6.1:Int)<(↑(nL [v6.2] (0:Nat)).length:Int))/\(↑v6.1:Int).toNat<(nL [v6.2] (0:Nat)).length/\fits .i64 ((↑v6.1:Int)+(1:Int))/\∃(v9:Nat × List Int),xl9 (qe2 (nL [l] (0:Nat))) v9.1 v9.2/\(qe2 (nL [l] (0:Nat))).length-v9.1<(qe2 (nL [l] (0:Nat))).length-v6.1/\(some (0:Nat)=some (0:Nat)/\(↑v6.1:Int)+(1:Int)=(↑v9.1:Int)/\True)/\(List.set [v6.2] (0:Nat) (List.set (nL [v6.2] (0:Nat)) (↑v6.1:Int).toNat ((0:Int)-nI (nL [v6.2] (0:Nat)) (↑v6.1:Int).toNat))=[v9.2]/\True/\T=T)/\True)/\(decide ((↑v6.1:Int)<(↑(nL (List.set [l] (0:Nat) (nL [qe2 (nL [nL [l] (0:Nat)] (0:Nat))] (0:Nat))) (0:Nat)).length:Int))=false->[v6.2]=[q7l (nL [l] (0:Nat))]/\T=T/\True/\(0:Nat)=(0:Nat)))/\(decide (nI (nL (List.set [l] (0:Nat) (nL [qe2 (nL [nL [l] (0:Nat)] (0:Nat))] (0:Nat))) (0:Nat)) (ixT (Ty.int .i64) (λ(v4:Int)=>v1 (v4,())) (nL (List.set [l] (0:Nat) (nL [qe2 (nL [nL [l] (0:Nat)] (0:Nat))] (0:Nat))) (0:Nat))).toNat<(0:Int))=false->List.set [l] (0:Nat) (nL [qe2 (nL [nL [l] (0:Nat)] (0:Nat))] (0:Nat))=[q7l (nL [l] (0:Nat))]/\T=T/\True/\(0:Nat)=(0:Nat)))/\(decide ((0:Int)<=ixT (Ty.int .i64) (λ(v3:Int)=>v1 (v3,())) (nL (List.set [l] (0:Nat) (nL [qe2 (nL [nL [l] (0:Nat)] (0:Nat))] (0:Nat))) (0:Nat)))=false->List.set [l] (0:Nat) (nL [qe2 (nL [nL [l] (0:Nat)] (0:Nat))] (0:Nat))=[q7l (nL [l] (0:Nat))]/\T=T/\True/\(0:Nat)=(0:Nat))) ?_
 have hs:=q9q h
 have hl:=hs.1
 refine⟨h,λ_=>True,λx=>x.1 != 0,λ_ _=>rfl,⟨ow,λ_ _=>trivial⟩,λh1=>?_,λh1=>?_⟩
 ·have h1:0<=qv0 (qe2 l):=by first | exact zbe h1 | exact h1
  have h2:qv0 (qe2 l)<(qe2 l).length:=(w1p (.int .i64) _ _).1
  refine⟨⟨h1,h2⟩,by grind [qv0,qe2],λh3=>?_,λh3=>?_⟩
  ·have h3:nI (qe2 l) (qv0 (qe2 l)).toNat<0:=by first | exact zbe h3 | exact h3
   have hp:q7l l=xl1 (qe2 l):=by simp_all [q7l,if_pos]
   refine⟨(),(0,qe2 l),⟨zae _,(q3j (.int .i64) _ _).symm⟩,⟨rfl,rfl⟩,?_⟩
   rintro⟨i,r⟩ ⟨k1,k2⟩
   dsimp only at k1 k2 ⊢
   have hrl:r.length=(qe2 l).length:=by grind [qy9]
   refine⟨λhlt=>?_,λhge=>?_⟩
   ·have hv:nI r i=nI (qe2 l) i:=by
     rw[k2]
     exact(q9h (.int .i64) _ _ _ _ hlt).trans (zai (zbf _))
    have hb:=q7e hs hlt
    unfold qd8 BIG at hb
    rw[hv]
    refine⟨ow,ow,qa7,ow,ow,qa7,(i+1,r.set i (0-nI (qe2 l) i)),⟨ow,?_⟩,ow,by rfl,rfl⟩
    grind [q1b,nI,qe2]
   ·rw[hp,k2]
    exact q7c (.int .i64) _ _ _ ow
  ·have h3:¬nI (qe2 l) (qv0 (qe2 l)).toNat<0:=by first | exact of_decide_eq_false h3 | exact h3 | exact Int.not_lt.2 h3
   simp_all [q7l,if_neg]
 ·have h1:¬0<=qv0 (qe2 l):=by first | exact of_decide_eq_false h1 | exact h1 | exact Int.not_le.2 h1
  unfold q7l; grind
def q5s (r:List (List Int)) (piv:List Int) (f k:Nat):Int:=(nI (nL r k) (nI piv k).toNat).tdiv (gcdI (nI (nL r k) (nI piv k).toNat) (nI (nL r k) f))
def qf3 (r:List (List Int)) (piv:List Int) (f:Nat):Nat->Int
 | 0=>1
 | k+1=>qf3 r piv f k*(q5s r piv f k).tdiv (gcdI (qf3 r piv f k) (q5s r piv f k))
def hTo (r:List (List Int)) (piv:List Int) (n f:Nat):Nat->List Int
 | 0=>(List.replicate n 0).set f (qf3 r piv f piv.length)
 | k+1=>(hTo r piv n f k).set (nI piv k).toNat (((0-nI (nL r k) f)*qf3 r piv f piv.length).tdiv (nI (nL r k) (nI piv k).toNat))
def qn8 (r:List (List Int)) (piv:List Int) (n:Nat):Nat->List (List Int)
 | 0=>[]
 | f+1=>if piv.any λe=>(f:Int)==e then qn8 r piv n f else qn8 r piv n f++[qe2 (hTo r piv n f piv.length)]
def q2p (m:List (List Int)) (pix:List Int):List (List Int):=qb3 m pix λ_=>[]
def qi5 (m:List (List Int)) (pix:List Int):List (List Int) × List Int:=qb8 (q2p m pix) pix.length
def qm0 (m:List (List Int)) (pix:List Int):List (List Int):=qn8 (qi5 m pix).1 (qi5 m pix).2 pix.length pix.length
structure xm0 (r:List (List Int)) (piv:List Int) (n:Nat):Prop where
 nz:∀k,k<piv.length->nI (nL r k) (nI piv k).toNat≠0
 big:∀k,k<piv.length->∀i,i<n->qd8 BIG (nI (nL r k) i)
 tm:∀f,f<n->(piv.any λe=>(f:Int)==e)=false->∀k,k<=piv.length->qd8 BIG (qf3 r piv f k)/\qf3 r piv f k≠0
 pr:∀f,f<n->(piv.any λe=>(f:Int)==e)=false->∀k,k<piv.length->qd8 BIG ((0-nI (nL r k) f)*qf3 r piv f piv.length)
structure w4p (m:List (List Int)) (pix:List Int):Prop where
 cho:ChoOk m pix (λ_=>True) (λ_=>[])
 red:q2o (q2p m pix) pix.length pix.length
 ar:xm0 (qi5 m pix).1 (qi5 m pix).2 pix.length
theorem q3q (R:List (List Int)):∀j,∀e∈(qb8 R j).2,0<=e/\e<(j:Int)
 | 0=>λe h=>by cases h
 | j+1=>λe h=>by
  rw[qb8,qu8] at h
  split at h
  ·have:=q3q R j e h; omega
  ·rcases zaj.1 h with h | h
   ·have:=q3q R j e h; omega
   grind
theorem q7m (r:List (List Int)) (piv:List Int) (n f:Nat):∀k,(hTo r piv n f k).length=n
 | 0=>by simp[hTo]
 | k+1=>by rw[hTo,zaz]; exact q7m r piv n f k
theorem wn6 (r:List (List Int)) (piv:List Int) (n:Nat):∀f,(qn8 r piv n f).length<=f
 | 0=>zad _
 | f+1=>by
  have:=wn6 r piv n f
  grind [qn8]
theorem ww9 {r:List (List Int)} {piv:List Int} {n f:Nat} (h:xm0 r piv n) (hf:f<n) (hfree:(piv.any λe=>(f:Int)==e)=false):∀k,k<=piv.length->∀x∈hTo r piv n f k,qd8 BIG x
 | 0,_,x,hx=>by
  rw[hTo] at hx
  rcases zaw hx with hx | rfl
  ·obtain rfl:=(zde.1 hx).2
   grind [BIG]
  ·exact(h.tm f hf hfree _ (zad _)).1
 | k+1,hk,x,hx=>by
  rw[hTo] at hx
  rcases zaw hx with hx | rfl
  ·exact ww9 h hf hfree k ow x hx
  ·exact qr4 (h.pr f hf hfree k ow)
abbrev yo3:qa8:=qe4 true none [qf8,qd4] [qf8] (λx=>w4p x.1 x.2.1) (λx=>(qm0 x.1 x.2.1,()))
def x9l (m:List (List Int)) (pix:List Int):Nat->Option Inv
 | 0=>some (Inv.of [5,7,25] 2 (λf:Nat=>[(5,.msl 0 .none),(7,.msl 1 .none),(25,.lit (.int .i64 f))]) (λf=>[.mat 24 3 (.int .i64) (qi5 m pix).1 .none .none,.mat 24 3 (.int .i64) (qn8 (qi5 m pix).1 (qi5 m pix).2 pix.length f) .none .none]) (λf=>f<=pix.length) (λf=>pix.length-f))
 | 1=>some (Eng.Inv.mk Nat Nat [5,7,9,33] 2 (λf k=>[(5,.msl 0 .none),(7,.msl 1 .none),(9,.lit (.int .i64 (qf3 (qi5 m pix).1 (qi5 m pix).2 f k))),(33,.lit (.int .i64 k))]) (λf k=>[.mat 24 3 (.int .i64) (qi5 m pix).1 .none .none,.mat 24 3 (.int .i64) (qn8 (qi5 m pix).1 (qi5 m pix).2 pix.length f) .none .none]) (λf k=>k<=(qi5 m pix).2.length) (λf k=>(qi5 m pix).2.length-k))
 | 2=>some (Eng.Inv.mk Nat Nat [5,7,13,78] 3 (λf k=>[(5,.msl 0 .none),(7,.msl 1 .none),(13,.own 2),(78,.lit (.int .i64 k))]) (λf k=>[.mat 24 3 (.int .i64) (qi5 m pix).1 .none .none,.mat 24 3 (.int .i64) (qn8 (qi5 m pix).1 (qi5 m pix).2 pix.length f) .none .none,.vec 3 (.int .i64) (hTo (qi5 m pix).1 (qi5 m pix).2 pix.length f k)]) (λf k=>k<=(qi5 m pix).2.length) (λf k=>(qi5 m pix).2.length-k))
 | _=>none
def x9m (mats em:List Nat) (specs:List (Nat × qa8)) (muts:List (Nat × MSpec)):Ctx:={ specs:=specs,tys:=tys,wr:=[],muts:=muts,mats:=mats,em:=em }
theorem xm1 (mats em:List Nat) {specs:List (Nat × qa8)} {muts:List (Nat × MSpec)} (h:SpecsOk Tryz.prog specs) (hm:MutsOk muts):Sound Tryz.prog (x9m mats em specs muts):=SpecsOk.sound h qz5 kr (hmu:=hm)
theorem w8y:Meets Tryz.prog 155 yo3:=by
 refine meets (xm1 [109] [] (SpecsOk.cons (q3l (fs:=[(202,x1j)]) (SpecsOk.cons q9j (SpecsOk.nil _))) (SpecsOk.cons wn5 (SpecsOk.cons qs0 (SpecsOk.nil _)))) (MutsOk.cons q3p (MutsOk.cons q2l MutsOk.nil))) Tryz.func155 rfl rfl (λx=>x9l x.1 x.2.1) (λ_=>by kernel_rfl) dc ?_
 rintro⟨m,pix,⟨⟩⟩ h
 revert m pix
 intro(m:List (List Int)) (pix:List Int) (h:w4p m pix)
 refine vcs (let Q0:=qi5 m pix; let Q1:=qe0 Q0.1.length none; ∃(v0:qa3 [qb9]->Prop),∃(v1:qa3 [qb9]->List Int),(∀(v2:Int × qa3._f [] PUnit.unit),v0 v2->True/\[]=v1 v2)/\ChoOk m pix v0 v1/\((0:Ty.den qb9)<=(↑pix.length:Int)/\∃(v2:Nat),q2o (qb3 m pix λ(v3:Int)=>v1 (v3,())) (↑pix.length:Int).toNat v2)/\∃(v2:Unit),∃(v3:Nat),Nat.le v3 pix.length/\((True/\True/\(0:Int)=(↑v3:Int)/\True)/\((qb8 (qb3 m pix λ(v4:Int)=>v1 (v4,())) (↑pix.length:Int).toNat).1=Q0.1/\True/\True)/\qn8 Q0.1 Q0.2 pix.length v3=[]/\True)/\∀(v4:Nat),Nat.le v4 pix.length->(decide ((↑v4:Int)<(↑pix.length:Int))=true->(qb8 (qb3 m pix λ(v7:Int)=>v1 (v7,())) (↑pix.length:Int).toNat).2.length<=(1000000:Nat)/\((List.any (qb8 (qb3 m pix λ(v8:Int)=>v1 (v8,())) (↑pix.length:Int).toNat).2 λ(v8:Int)=>(↑v4:Int)==v8)=true->fits .i64 ((↑v4:Int)+(1:Int))/\∃(v8:Nat),Nat.le v8 pix.length/\pix.length-v8<pix.length-v4/\(True/\True/\(↑v4:Int)+(1:Int)=(↑v8:Int)/\True)/\(Q0.1=Q0.1/\True/\True)/\(qn8 Q0.1 Q0.2 pix.length v4=qn8 Q0.1 Q0.2 pix.length v8/\True/\True)/\True)/\((List.any (qb8 (qb3 m pix λ(v8:Int)=>v1 (v8,())) (↑pix.length:Int).toNat).2 λ(v8:Int)=>(↑v4:Int)==v8)=false->∃(v8:Nat),∃(v9:Nat),Nat.le v9 Q0.2.length/\((True/\True/\(1:Int)=qf3 Q0.1 Q0.2 v8 v9/\(0:Int)=(↑v9:Int)/\True)/\(Q0.1=Q0.1/\True/\True)/\(qn8 Q0.1 Q0.2 pix.length v4=qn8 Q0.1 Q0.2 pix.length v8/\True/\True)/\True)/\∀(v10:Nat),Nat.le v10 Q0.2.length->(decide ((↑v10:Int)<(↑(qb8 (qb3 m pix λ(v13:Int)=>v1 (v13,())) (↑pix.length:Int).toNat).2.length:Int))=true->((0:Int)<=(↑v10:Int)/\(↑v10:Int)<(↑(qb8 (qb3 m pix λ(v13:Int)=>v1 (v13,())) (↑pix.length:Int).toNat).2.length:Int))/\((0:Int)<=(↑v10:Int)/\(↑v10:Int)<(↑Q1:Int))/\v10<qe0 Q0.1.length none/\((0:Int)<=nI (qb8 (qb3 m pix λ(v13:Int)=>v1 (v13,())) (↑pix.length:Int).toNat).2 v10/\nI (qb8 (qb3 m pix λ(v13:Int)=>v1 (v13,())) (↑pix.length:Int).toNat).2 v10<(↑(nL Q0.1 (qe6 none v10)).length:Int))/\(nI (qb8 (qb3 m pix λ(v13:Int)=>v1 (v13,())) (↑pix.length:Int).toNat).2 v10).toNat<(nL Q0.1 (qe6 none v10)).length/\((0:Int)<=(↑v10:Int)/\(↑v10:Int)<(↑Q1:Int))/\v10<qe0 Q0.1.length none/\((0:Int)<=nI (qb8 (qb3 m pix λ(v13:Int)=>v1 (v13,())) (↑pix.length:Int).toNat).2 v10/\nI (qb8 (qb3 m pix λ(v13:Int)=>v1 (v13,())) (↑pix.length:Int).toNat).2 v10<(↑(nL Q0.1 (qe6 none v10)).length:Int))/\(nI (qb8 (qb3 m pix λ(v13:Int)=>v1 (v13,())) (↑pix.length:Int).toNat).2 v10).toNat<(nL Q0.1 (qe6 none v10)).length/\((0:Int)<=(↑v10:Int)/\(↑v10:Int)<(↑Q1:Int))/\v10<qe0 Q0.1.length none/\((0:Int)<=(↑v4:Int)/\(↑v4:Int)<(↑(nL Q0.1 (qe6 none v10)).length:Int))/\v4<(nL Q0.1 (qe6 none v10)).length/\(((-4000000000000000000:Int)<=nI (nL Q0.1 (qe6 none v10)) (nI (qb8 (qb3 m pix λ(v13:Int)=>v1 (v13,())) (↑pix.length:Int).toNat).2 v10).toNat/\nI (nL Q0.1 (qe6 none v10)) (nI (qb8 (qb3 m pix λ(v13:Int)=>v1 (v13,())) (↑pix.length:Int).toNat).2 v10).toNat<=BIG)/\(-4000000000000000000:Int)<=nI (nL Q0.1 (qe6 none v10)) v4/\nI (nL Q0.1 (qe6 none v10)) v4<=BIG)/\gcdI (nI (nL Q0.1 (qe6 none v10)) (nI (qb8 (qb3 m pix λ(v13:Int)=>v1 (v13,())) (↑pix.length:Int).toNat).2 v10).toNat) (nI (nL Q0.1 (qe6 none v10)) v4)≠(0:Int)/\fits .i64 (Int.tdiv (nI (nL Q0.1 (qe6 none v10)) (nI (qb8 (qb3 m pix λ(v13:Int)=>v1 (v13,())) (↑pix.length:Int).toNat).2 v10).toNat) (gcdI (nI (nL Q0.1 (qe6 none v10)) (nI (qb8 (qb3 m pix λ(v13:Int)=>v1 (v13,())) (↑pix.length:Int).toNat).2 v10).toNat) (nI (nL Q0.1 (qe6 none v10)) v4)))/\(((-4000000000000000000:Int)<=qf3 Q0.1 Q0.2 v8 v10/\qf3 Q0.1 Q0.2 v8 v10<=BIG)/\(-4000000000000000000:Int)<=Int.tdiv (nI (nL Q0.1 (qe6 none v10)) (nI (qb8 (qb3 m pix λ(v13:Int)=>v1 (v13,())) (↑pix.length:Int).toNat).2 v10).toNat) (gcdI (nI (nL Q0.1 (qe6 none v10)) (nI (qb8 (qb3 m pix λ(v13:Int)=>v1 (v13,())) (↑pix.length:Int).toNat).2 v10).toNat) (nI (nL Q0.1 (qe6 none v10)) v4))/\Int.tdiv (nI (nL Q0.1 (qe6 none v10)) (nI (qb8 (qb3 m pix λ(v13:Int)=>v1 (v13,())) (↑pix.length:Int).toNat).2 v10).toNat) (gcdI (nI (nL Q0.1 (qe6 none v10)) (nI (qb8 (qb3 m pix λ(v13:Int)=>v1 (v13,())) (↑pix.length:Int).toNat).2 v10).toNat) (nI (nL Q0.1 (qe6 none v10)) v4))<=BIG)/\gcdI (qf3 Q0.1 Q0.2 v8 v10) (Int.tdiv (nI (nL Q0.1 (qe6 none v10)) (nI (qb8 (qb3 m pix λ(v13:Int)=>v1 (v13,())) (↑pix.length:Int).toNat).2 v10).toNat) (gcdI (nI (nL Q0.1 (qe6 none v10)) (nI (qb8 (qb3 m pix λ(v13:Int)=>v1 (v13,())) (↑pix.length:Int).toNat).2 v10).toNat) (nI (nL Q0.1 (qe6 none v10)) v4)))≠(0:Int)/\fits .i64 (Int.tdiv (Int.tdiv (nI (nL Q0.1 (qe6 none v10)) (nI (qb8 (qb3 m pix λ(v13:Int)=>v1 (v13,())) (↑pix.length:Int).toNat).2 v10).toNat) (gcdI (nI (nL Q0.1 (qe6 none v10)) (nI (qb8 (qb3 m pix λ(v13:Int)=>v1 (v13,())) (↑pix.length:Int).toNat).2 v10).toNat) (nI (nL Q0.1 (qe6 none v10)) v4))) (gcdI (qf3 Q0.1 Q0.2 v8 v10) (Int.tdiv (nI (nL Q0.1 (qe6 none v10)) (nI (qb8 (qb3 m pix λ(v13:Int)=>v1 (v13,())) (↑pix.length:Int).toNat).2 v10).toNat) (gcdI (nI (nL Q0.1 (qe6 none v10)) (nI (qb8 (qb3 m pix λ(v13:Int)=>v1 (v13,())) (↑pix.length:Int).toNat).2 v10).toNat) (nI (nL Q0.1 (qe6 none v10)) v4)))))/\fits .i64 (qf3 Q0.1 Q0.2 v8 v10*Int.tdiv (Int.tdiv (nI (nL Q0.1 (qe6 none v10)) (nI (qb8 (qb3 m pix λ(v13:Int)=>v1 (v13,())) (↑pix.length:Int).toNat).2 v10).toNat) (gcdI (nI (nL Q0.1 (qe6 none v10)) (nI (qb8 (qb3 m pix λ(v13:Int)=>v1 (v13,())) (↑pix.length:Int).toNat).2 v10).toNat) (nI (nL Q0.1 (qe6 none v10)) v4))) (gcdI (qf3 Q0.1 Q0.2 v8 v10) (Int.tdiv (nI (nL Q0.1 (qe6 none v10)) (nI (qb8 (qb3 m pix λ(v13:Int)=>v1 (v13,())) (↑pix.length:Int).toNat).2 v10).toNat) (gcdI (nI (nL Q0.1 (qe6 none v10)) (nI (qb8 (qb3 m pix λ(v13:Int)=>v1 (v13,())) (↑pix.length:Int).toNat).2 v10).toNat) (nI (nL Q0.1 (qe6 none v10)) v4)))))/\fits .i64 ((↑v10:Int)+(1:Int))/\∃(v13:Nat),Nat.le v13 Q0.2.length/\Q0.2.length-v13<Q0.2.length-v10/\(True/\True/\qf3 Q0.1 Q0.2 v8 v10*Int.tdiv (Int.tdiv (nI (nL Q0.1 (qe6 none v10)) (nI (qb8 (qb3 m pix λ(v14:Int)=>v1 (v14,())) (↑pix.length:Int).toNat).2 v10).toNat) (gcdI (nI (nL Q0.1 (qe6 none v10)) (nI (qb8 (qb3 m pix λ(v14:Int)=>v1 (v14,())) (↑pix.length:Int).toNat).2 v10).toNat) (nI (nL Q0.1 (qe6 none v10)) v4))) (gcdI (qf3 Q0.1 Q0.2 v8 v10) (Int.tdiv (nI (nL Q0.1 (qe6 none v10)) (nI (qb8 (qb3 m pix λ(v14:Int)=>v1 (v14,())) (↑pix.length:Int).toNat).2 v10).toNat) (gcdI (nI (nL Q0.1 (qe6 none v10)) (nI (qb8 (qb3 m pix λ(v14:Int)=>v1 (v14,())) (↑pix.length:Int).toNat).2 v10).toNat) (nI (nL Q0.1 (qe6 none v10)) v4))))=qf3 Q0.1 Q0.2 v8 v13/\(↑v10:Int)+(1:Int)=(↑v13:Int)/\True)/\(Q0.1=Q0.1/\True/\True)/\(qn8 Q0.1 Q0.2 pix.length v8=qn8 Q0.1 Q0.2 pix.length v8/\True/\True)/\True)/\(decide ((↑v10:Int)<(↑(qb8 (qb3 m pix λ(v13:Int)=>v1 (v13,())) (↑pix.length:Int).toNat).2.length:Int))=false->((↑pix.length:Int)=(↑pix.length:Int)/\(0:Int)<=(↑pix.length:Int)/\(↑pix.length:Int)<=(1000000:Int))/\((0:Int)<=(↑v4:Int)/\(↑v4:Int)<(↑(List.replicate (↑pix.length:Int).toNat (Ty.dflt (TI.ty T3))).length:Int))/\v4<(List.replicate (↑pix.length:Int).toNat (Ty.dflt (TI.ty T3))).length/\∃(v13:Nat),∃(v14:Nat),Nat.le v14 Q0.2.length/\((True/\True/\True/\(0:Int)=(↑v14:Int)/\True)/\(Q0.1=Q0.1/\True/\True)/\(qn8 Q0.1 Q0.2 pix.length v8=qn8 Q0.1 Q0.2 pix.length v13/\True/\True)/\List.set (List.replicate (↑pix.length:Int).toNat (Ty.dflt (TI.ty T3))) v4 (qf3 Q0.1 Q0.2 v8 v10)=hTo Q0.1 Q0.2 pix.length v13 v14/\True)/\∀(v15:Nat),Nat.le v15 Q0.2.length->(decide ((↑v15:Int)<(↑(qb8 (qb3 m pix λ(v18:Int)=>v1 (v18,())) (↑pix.length:Int).toNat).2.length:Int))=true->((0:Int)<=(↑v15:Int)/\(↑v15:Int)<(↑(qb8 (qb3 m pix λ(v18:Int)=>v1 (v18,())) (↑pix.length:Int).toNat).2.length:Int))/\((0:Int)<=(↑v15:Int)/\(↑v15:Int)<(↑Q1:Int))/\v15<qe0 Q0.1.length none/\((0:Int)<=(↑v4:Int)/\(↑v4:Int)<(↑(nL Q0.1 (qe6 none v15)).length:Int))/\v4<(nL Q0.1 (qe6 none v15)).length/\fits .i64 ((0:Int)-nI (nL Q0.1 (qe6 none v15)) v4)/\fits .i64 (((0:Int)-nI (nL Q0.1 (qe6 none v15)) v4)*qf3 Q0.1 Q0.2 v8 v10)/\((0:Int)<=(↑v15:Int)/\(↑v15:Int)<(↑Q1:Int))/\v15<qe0 Q0.1.length none/\((0:Int)<=nI (qb8 (qb3 m pix λ(v18:Int)=>v1 (v18,())) (↑pix.length:Int).toNat).2 v15/\nI (qb8 (qb3 m pix λ(v18:Int)=>v1 (v18,())) (↑pix.length:Int).toNat).2 v15<(↑(nL Q0.1 (qe6 none v15)).length:Int))/\(nI (qb8 (qb3 m pix λ(v18:Int)=>v1 (v18,())) (↑pix.length:Int).toNat).2 v15).toNat<(nL Q0.1 (qe6 none v15)).length/\nI (nL Q0.1 (qe6 none v15)) (nI (qb8 (qb3 m pix λ(v18:Int)=>v1 (v18,())) (↑pix.length:Int).toNat).2 v15).toNat≠(0:Int)/\fits .i64 (Int.tdiv (((0:Int)-nI (nL Q0.1 (qe6 none v15)) v4)*qf3 Q0.1 Q0.2 v8 v10) (nI (nL Q0.1 (qe6 none v15)) (nI (qb8 (qb3 m pix λ(v18:Int)=>v1 (v18,())) (↑pix.length:Int).toNat).2 v15).toNat))/\((0:Int)<=nI (qb8 (qb3 m pix λ(v18:Int)=>v1 (v18,())) (↑pix.length:Int).toNat).2 v15/\nI (qb8 (qb3 m pix λ(v18:Int)=>v1 (v18,())) (↑pix.length:Int).toNat).2 v15<(↑(hTo Q0.1 Q0.2 pix.length v13 v15).length:Int))/\(nI (qb8 (qb3 m pix λ(v18:Int)=>v1 (v18,())) (↑pix.length:Int).toNat).2 v15).toNat<(hTo Q0.1 Q0.2 pix.length v13 v15).length/\fits .i64 ((↑v15:Int)+(1:Int))/\∃(v18:Nat),Nat.le v18 Q0.2.length/\Q0.2.length-v18<Q0.2.length-v15/\(True/\True/\True/\(↑v15:Int)+(1:Int)=(↑v18:Int)/\True)/\(Q0.1=Q0.1/\True/\True)/\(qn8 Q0.1 Q0.2 pix.length v13=qn8 Q0.1 Q0.2 pix.length v13/\True/\True)/\List.set (hTo Q0.1 Q0.2 pix.length v13 v15) (nI (qb8 (qb3 m pix λ(v19:Int)=>v1 (v19,())) (↑pix.length:Int).toNat).2 v15).toNat (Int.tdiv (((0:Int)-nI (nL Q0.1 (qe6 none v15)) v4)*qf3 Q0.1 Q0.2 v8 v10) (nI (nL Q0.1 (qe6 none v15)) (nI (qb8 (qb3 m pix λ(v19:Int)=>v1 (v19,())) (↑pix.length:Int).toNat).2 v15).toNat))=hTo Q0.1 Q0.2 pix.length v13 v18/\True)/\(decide ((↑v15:Int)<(↑(qb8 (qb3 m pix λ(v18:Int)=>v1 (v18,())) (↑pix.length:Int).toNat).2.length:Int))=false->wh6 (nL [hTo Q0.1 Q0.2 pix.length v13 v15] (0:Nat))/\((0:Nat)<(0:Nat)+(1:Nat)/\(qn8 Q0.1 Q0.2 pix.length v13).length+((0:Nat)+(1:Nat))<=(1000000:Nat))/\fits .i64 ((↑v4:Int)+(1:Int))/\∃(v18:Nat),Nat.le v18 pix.length/\pix.length-v18<pix.length-v4/\(True/\True/\(↑v4:Int)+(1:Int)=(↑v18:Int)/\True)/\(Q0.1=Q0.1/\True/\True)/\(qn8 Q0.1 Q0.2 pix.length v13++[nL [qe2 (nL [hTo Q0.1 Q0.2 pix.length v13 v15] (0:Nat))] (0:Nat)]=qn8 Q0.1 Q0.2 pix.length v18/\True/\True)/\True))))/\(decide ((↑v4:Int)<(↑pix.length:Int))=false->q1u (Ty.int .i64) (qn8 Q0.1 Q0.2 pix.length v4) none=qm0 m pix)) ?_
 have hcr:=h.cho.rows
 have hcc:=h.cho.cols
 have hrw:=h.red.w
 refine⟨λ_=>True,λ_=>[],λ_ _=>rfl,h.cho,⟨pix.length,h.red⟩,?_⟩
 have hkr:qb8 (qb3 m pix λ_=>[]) pix.length=qi5 m pix:=rfl
 have hsh:=q1k h.red pix.length
 have hpv:=q3q (q2p m pix) pix.length
 have har:=h.ar
 have hcl:(q2p m pix).length=m.length:=qn2 _ _ _
 simp only[Int.toNat_natCast]
 unfold qm0
 rw[hkr]
 change RedSh _ _ (qi5 m pix) _ at hsh
 change ∀e∈(qi5 m pix).2,_ at hpv
 generalize qi5 m pix=K at *
 obtain⟨R,P⟩:=K
 dsimp only at hpv har ⊢
 have hRn:=hsh.cnt
 have hRe:=hsh.each
 have hPn:=hsh.piv
 have hPj:=hsh.pivj
 dsimp only at hRn hRe hPn hPj
 have hPk:∀k,k<P.length->0<=nI P k/\nI P k<pix.length:=λk hk=>hpv _ (by grind [qf2,List.getElem_mem])
 simp only[q4g,q7i,wn0]
 refine⟨(),0,zae _,⟨by rfl,by simp,by rfl⟩,λf hf=>⟨λhlt=>⟨ow,λhin=>?_,λhfree=>?_⟩,λhge=>?_⟩⟩
 ·refine⟨qa7,f+1,ow,ow,ow,?_⟩
  rw[qn8,zap hin]
 ·refine⟨f,0,zae _,⟨⟨rfl,rfl⟩,rfl⟩,λk hk=>⟨λhlk=>?_,λhgk=>?_⟩⟩
  ·have hp:=hPk k hlk
   have hr:=hRe k ow
   have hp':0<=nI P k/\nI P k<((nL R k).length:Int):=⟨hp.1,ow⟩
   have hb1:=har.big k hlk (nI P k).toNat ow
   have hb2:=har.big k hlk f hlt
   have hz:=har.nz k hlk
   have ht:=har.tm f hlt hfree k hk
   have ht2:=(har.tm f hlt hfree (k+1) hlk).1
   have e2:qf3 R P f (k+1)=qf3 R P f k*(q5s R P f k).tdiv (gcdI (qf3 R P f k) (q5s R P f k)):=rfl
   have hq:qd8 BIG (q5s R P f k):=qr4 hb1
   have e1:(nI (nL R k) (nI P k).toNat).tdiv (gcdI (nI (nL R k) (nI P k).toNat) (nI (nL R k) f))=q5s R P f k:=rfl
   rw[e1,<- e2]
   have hq2:qd8 BIG ((q5s R P f k).tdiv (gcdI (qf3 R P f k) (q5s R P f k))):=qr4 hq
   have g1:=qu6 (a:=nI (nL R k) (nI P k).toNat) (b:=nI (nL R k) f) (Or.inl hz)
   have g2:=qu6 (a:=qf3 R P f k) (b:=q5s R P f k) (Or.inl ht.2)
   have hB:BIG=4000000000000000000:=rfl
   unfold qd8 at *
   refine⟨hlk,ow,ow,hp',ow,ow,ow,hp',ow,ow,ow,ow,ow,⟨hb1,hb2⟩,ow,qa7,⟨ht.1,hq⟩,ow,qa7,qa7,qa7,k+1,ow,ow,rfl,ow⟩
  ·obtain rfl:k=P.length:=ow
   have hl0:(List.replicate pix.length T3.ty.dflt).length=pix.length:=zbs
   refine⟨ow,ow,ow,f,0,zae _,⟨rfl,rfl,rfl⟩,λk hk=>⟨λhlk=>?_,λhgk=>?_⟩⟩
   ·have hp:=hPk k hlk
    have hr:=hRe k ow
    have hp':0<=nI P k/\nI P k<((nL R k).length:Int):=⟨hp.1,ow⟩
    have hb2:=har.big k hlk f hlt
    have hz:=har.nz k hlk
    have hpr:=har.pr f hlt hfree k hlk
    have hq:qd8 BIG (((0-nI (nL R k) f)*qf3 R P f P.length).tdiv (nI (nL R k) (nI P k).toNat)):=qr4 hpr
    have hl:=q7m R P pix.length f k
    have hp'':0<=nI P k/\nI P k<((hTo R P pix.length f k).length:Int):=⟨hp.1,ow⟩
    have hB:BIG=4000000000000000000:=rfl
    unfold qd8 at *
    refine⟨hlk,ow,ow,ow,ow,qa7,qa7,ow,ow,hp',ow,hz,qa7,hp'',ow,qa7,k+1,ow,ow,ow,rfl⟩
   ·obtain rfl:k=P.length:=ow
    have hl:=q7m R P pix.length f P.length
    have hkl:=wn6 R P pix.length f
    refine⟨⟨ow,ww9 har hlt hfree _ (zad _)⟩,ow,qa7,f+1,ow,ow,ow,?_⟩
    rw[qn8,zai (by grind)]
 grind
structure Named (n:Nat) (pix:List Int):Prop where
 at_:∀j,j<pix.length->0<=nI pix j/\nI pix j<n
 asc:∀i j,i<j->j<pix.length->nI pix i<nI pix j
theorem Named.of {n:Nat} {pix:List Int} (h:w50 n pix=0):Named n pix:=by
 unfold w50 at h
 split at h
 ·cases h
 ·rename_i ha
  split at h
  ·cases h
  ·rename_i hb
   have ha:=wc7.1 (by cases e:xw2 pix with | true=>rfl | false=>grind)
   refine⟨λj hj=>?_,λi j hij hj=>?_⟩
   ·rw[Bool.not_eq_true,zbw] at hb
    grind [nI,qf2,List.getElem_mem,qf9]
   ·induction j with
    | zero=>omega
    | succ j ih=>
     grind
theorem Named.gap {n:Nat} {pix:List Int} (h:Named n pix):∀j,j<pix.length->(j:Int)<=nI pix j
 | 0,hj=>by have:=(h.at_ 0 hj).1; omega
 | j+1,hj=>by have:=h.gap j ow; have:=h.asc j (j+1) ow hj; omega
theorem Named.len {n:Nat} {pix:List Int} (h:Named n pix):pix.length<=n:=by
 rcases zb2 pix.length with e | e
 ·omega
 ·have h1:=h.gap (pix.length-1) ow
  have h2:=(h.at_ (pix.length-1) ow).2
  omega
theorem Named.idx (n:Nat):Named n (qo0 n):=by
 refine⟨λj hj=>?_,λi j hij hj=>?_⟩
 all_goals grind [qe8,q2n]
structure Asked (m:List (List Int)) (y pix:List Int):Prop where
 msk:Mk m
 val:qb6 m=true
 len:y.length=m.length
 out:x3i y=false
 nam:Named (nL m 0).length pix
theorem Asked.of {m:List (List Int)} {y pix:List Int} (h:q5h m y pix=0):Asked m y pix:=by
 unfold q5h at h
 split at h
 ·cases h
 ·rename_i hv
  have hv:qb6 m=true:=by grind
  split at h
  ·cases h
  ·rename_i hl
   split at h
   ·cases h
   ·rename_i ho
    unfold xl0 at h
    rw[zai ow] at h
    exact⟨Mk.of hv,hv,Decidable.not_not.1 hl,by grind,Named.of h⟩
theorem Asked.at_ {m:List (List Int)} {y pix:List Int} (h:Asked m y pix) (i:Nat) (hi:i<m.length):qd8 1000000 (nI y i):=by
 have h1:=h.out
 unfold x3i at h1
 rw[zbw] at h1
 have:=h1 (nI y i) (by rw[qf2 y i (by rw[h.len]; omega)]; simp)
 grind [qf9]
theorem ChoOk.of {m:List (List Int)} {pix:List Int} (hM:Mk m) (hn:Named (nL m 0).length pix) {p:qa3 [.int .i64]->Prop} {f:qa3 [.int .i64]->List Int} (hf:∀i:Nat,i<m.length->p ((i:Int),())/\(f ((i:Int),())).length<=10000):ChoOk m pix p f:=by
 have h1:=hM.rows6
 have h2:=hn.len
 have h3:=hM.pix10
 refine⟨ow,ow,λi hi j hj=>?_,hf⟩
 have:=hn.at_ j hj
 rw[hM.each i hi]
 omega
structure w1t (m:List (List Int)):Prop where
 red:q2o (q2p m (qo0 (nL m 0).length)) (nL m 0).length (nL m 0).length
def qz1 (m:List (List Int)):Int × Int:=if qb6 m=false then(0,1) else((qi5 m (qo0 (nL m 0).length)).2.length,0)
abbrev x9o:qa8:=qe4 true none [qf8] [qb9,qb9] (λx=>qb6 x.1=true->w1t x.1) (λx=>((qz1 x.1).1,(qz1 x.1).2,()))
theorem w4q:Meets Tryz.prog 153 x9o:=by
 refine meets (xm1 [] [] (SpecsOk.cons qq3 (SpecsOk.cons q3k (SpecsOk.cons (q3l (fs:=[(202,x1j)]) (SpecsOk.cons q9j (SpecsOk.nil _))) (SpecsOk.nil _)))) (MutsOk.cons q3p MutsOk.nil)) Tryz.func153 rfl rfl (λ_ _=>none) (λ_=>by kernel_rfl) dc ?_
 rintro⟨m,⟨⟩⟩ h
 revert m
 intro(m:List (List Int)) (h:qb6 m=true->w1t m)
 refine vcs (True/\((!qb6 m)=true->(0:Int)=(qz1 m).1/\(1:Int)=(qz1 m).2/\True)/\((!qb6 m)=false->((0:Int)<=(0:Int)/\(0:Int)<(↑m.length:Int))/\(↑(nL m (0:Nat)).length:Int)<=(100000:Ty.den qb9)/\∃(v1:qa3 [qb9]->Prop),∃(v2:qa3 [qb9]->List Int),(∀(v3:Int × qa3._f [] PUnit.unit),v1 v3->True/\[]=v2 v3)/\ChoOk m (qo0 (↑(nL m (0:Nat)).length:Int).toNat) v1 v2/\((0:Int)<=(0:Int)/\(0:Int)<(↑m.length:Int))/\((0:Ty.den qb9)<=(↑(nL m (0:Nat)).length:Int)/\∃(v3:Nat),q2o (qb3 m (qo0 (↑(nL m (0:Nat)).length:Int).toNat) λ(v4:Int)=>v2 (v4,())) (↑(nL m (0:Nat)).length:Int).toNat v3)/\(↑(qb8 (qb3 m (qo0 (↑(nL m (0:Nat)).length:Int).toNat) λ(v3:Int)=>v2 (v3,())) (↑(nL m (0:Nat)).length:Int).toNat).2.length:Int)=(qz1 m).1/\(0:Int)=(qz1 m).2/\True)) ?_
 refine⟨λhv=>by grind [qz1],λhv=>?_⟩
 have hM:=Mk.of hv
 have h1:=hM.rows1
 have h2:=hM.pix10
 have hr:=(h hv).red
 have e:qz1 m=(((qi5 m (qo0 (nL m 0).length)).2.length:Int),0):=by grind [qz1]
 rw[e]
 refine⟨ow,ow,λ_=>True,λ_=>[],λ_ _=>rfl,ChoOk.of hM (Named.idx _) λ_ _=>⟨trivial,zae _⟩,ow,⟨_,hr⟩,?_,rfl⟩
 unfold qi5
 rw[qe8]
 rfl
def qj6 (m:List (List Int)) (pix y:List Int):List (List Int):=qb3 m pix λi=>[nI y i.toNat]
def w1u (m:List (List Int)) (pix y:List Int):List (List Int) × List Int:=qb8 (qj6 m pix y) pix.length
def w8z (R:List (List Int)) (P:List Int) (n:Nat):Bool:=(List.range R.length).any λk=>decide (P.length<=k) && nI (nL R k) n != 0
def x9p (R:List (List Int)) (P:List Int) (n k:Nat):Int × Int:=ofR (nI (nL R k) n) (nI (nL R k) (nI P k).toNat)
def x3j (R:List (List Int)) (P:List Int) (n:Nat):List (Int × Int) × Int:=if w8z R P n then([],8) else if P.length<n then([],11) else((List.range P.length).map (x9p R P n),0)
def w1w (m:List (List Int)) (pix y:List Int):List (Int × Int) × Int:=if q5h m y pix=0 then x3j (w1u m pix y).1 (w1u m pix y).2 pix.length else([],q5h m y pix)
structure x9q (R:List (List Int)) (P:List Int) (n:Nat):Prop where
 nz:∀k,k<P.length->nI (nL R k) (nI P k).toNat≠0
 bigD:∀k,k<P.length->qd8 BIG (nI (nL R k) (nI P k).toNat)
 bigN:∀k,k<P.length->qd8 BIG (nI (nL R k) n)
structure x9r (m:List (List Int)) (pix y:List Int):Prop where
 red:q2o (qj6 m pix y) pix.length (pix.length+1)
 ar:x9q (w1u m pix y).1 (w1u m pix y).2 pix.length
structure q3r (m:List (List Int)) (pix y:List Int):Prop where
 len:pix.length<=1000000
 ok:q5h m y pix=0->x9r m pix y
abbrev yo4:qa8:=qe4 true (some 43) [qf8,qd4,qd4] [x8u,qb9] (λx=>q3r x.1 x.2.1 x.2.2.1) (λx=>((w1w x.1 x.2.1 x.2.2.1).1,(w1w x.1 x.2.1 x.2.2.1).2,()))
structure w80 (R:List (List Int)) (P:List Int) (n k:Nat) (l:List (Int × Int)):Prop where
 le:k<=R.length
 eq:l=(List.range (min k P.length)).map (x9p R P n)
 no:∀i,P.length<=i->i<k->nI (nL R i) n=0
def x9s (m:List (List Int)) (pix y:List Int):Nat->Option Inv
 | 0=>some (Inv.of [10,12,31,33] 3 (λs:Nat × List (Int × Int)=>[(10,.msl 1 .none),(12,.own 2),(31,.msl 1 .none),(33,.lit (.int .i64 s.1))]) (λs=>[.box 24 (.cons (.dat (.int .i64) y) .nil),.mat 24 3 (.int .i64) (w1u m pix y).1 .none .none,.vec 43 (.prod (.int .i64) (.int .i64)) s.2]) (λs=>w80 (w1u m pix y).1 (w1u m pix y).2 pix.length s.1 s.2) (λs=>(w1u m pix y).1.length-s.1))
 | _=>none
theorem w81:Meets Tryz.prog 212 yo4:=by
 refine meets (xm1 [] [] (SpecsOk.cons q7g (SpecsOk.cons (q3l (fs:=[(264,x5d)]) (SpecsOk.cons w4h (SpecsOk.nil _))) (SpecsOk.cons wc5 (SpecsOk.nil _)))) (MutsOk.cons q3p MutsOk.nil)) Tryz.func212 rfl rfl (λx=>x9s x.1 x.2.1 x.2.2.1) (λ_=>by kernel_rfl) dc ?_
 rintro⟨m,pix,y,⟨⟩⟩ h
 revert m pix y
 intro(m:List (List Int)) (pix:List Int) (y:List Int) (h:q3r m pix y)
 refine vcs (let Q0:=w1u m pix y; let Q1:=w1w m pix y; let Q2:=Int × Int; pix.length<=(1000000:Nat)/\((q5h m y pix != (0:Int))=true->Q1.1=[]/\q5h m y pix=Q1.2/\True)/\((q5h m y pix != (0:Int))=false->∃(v1:qa3 [qb9]->Prop),∃(v2:qa3 [qb9]->List Int),(∀(v3:Int × qa3._f [] PUnit.unit),v1 v3->((0:PTy.den (PTy.d qb9))<=v3.1/\v3.1<(↑y.length:PTy.den (PTy.d qb9)))/\[nI y v3.1.toNat]=v2 v3)/\ChoOk m pix v1 v2/\((0:Ty.den qb9)<=(↑pix.length:Int)/\∃(v3:Nat),q2o (qb3 m pix λ(v4:Int)=>v2 (v4,())) (↑pix.length:Int).toNat v3)/\∃(v3:Unit),∃(v4:Nat × List Q2),w80 Q0.1 Q0.2 pix.length v4.1 v4.2/\((True/\True/\True/\(0:Int)=(↑v4.1:Int)/\True)/\(y=y/\True)/\((qb8 (qb3 m pix λ(v5:Int)=>v2 (v5,())) (↑pix.length:Int).toNat).1=Q0.1/\True/\True)/\v4.2=[]/\True)/\∀(v5:Nat × List Q2),w80 Q0.1 Q0.2 pix.length v5.1 v5.2->(decide ((↑v5.1:Int)<(↑(qe0 (qb8 (qb3 m pix λ(v8:Int)=>v2 (v8,())) (↑pix.length:Int).toNat).1.length none):Int))=true->((0:Int)<=(↑v5.1:Int)/\(↑v5.1:Int)<(↑(qe0 Q0.1.length none):Int))/\(↑v5.1:Int).toNat<qe0 Q0.1.length none/\(decide ((↑v5.1:Int)<(↑(qb8 (qb3 m pix λ(v9:Int)=>v2 (v9,())) (↑pix.length:Int).toNat).2.length:Int))=true->((0:Int)<=(↑pix.length:Int)/\(↑pix.length:Int)<(↑(nL Q0.1 (qe6 none (↑v5.1:Int).toNat)).length:Int))/\(↑pix.length:Int).toNat<(nL Q0.1 (qe6 none (↑v5.1:Int).toNat)).length/\((0:Int)<=(↑v5.1:Int)/\(↑v5.1:Int)<(↑(qb8 (qb3 m pix λ(v9:Int)=>v2 (v9,())) (↑pix.length:Int).toNat).2.length:Int))/\((0:Int)<=nI (qb8 (qb3 m pix λ(v9:Int)=>v2 (v9,())) (↑pix.length:Int).toNat).2 (↑v5.1:Int).toNat/\nI (qb8 (qb3 m pix λ(v9:Int)=>v2 (v9,())) (↑pix.length:Int).toNat).2 (↑v5.1:Int).toNat<(↑(nL Q0.1 (qe6 none (↑v5.1:Int).toNat)).length:Int))/\(nI (qb8 (qb3 m pix λ(v9:Int)=>v2 (v9,())) (↑pix.length:Int).toNat).2 (↑v5.1:Int).toNat).toNat<(nL Q0.1 (qe6 none (↑v5.1:Int).toNat)).length/\(((-4000000000000000000:Int)<=nI (nL Q0.1 (qe6 none (↑v5.1:Int).toNat)) (↑pix.length:Int).toNat/\nI (nL Q0.1 (qe6 none (↑v5.1:Int).toNat)) (↑pix.length:Int).toNat<=BIG)/\((-4000000000000000000:Int)<=nI (nL Q0.1 (qe6 none (↑v5.1:Int).toNat)) (nI (qb8 (qb3 m pix λ(v9:Int)=>v2 (v9,())) (↑pix.length:Int).toNat).2 (↑v5.1:Int).toNat).toNat/\nI (nL Q0.1 (qe6 none (↑v5.1:Int).toNat)) (nI (qb8 (qb3 m pix λ(v9:Int)=>v2 (v9,())) (↑pix.length:Int).toNat).2 (↑v5.1:Int).toNat).toNat<=BIG)/\nI (nL Q0.1 (qe6 none (↑v5.1:Int).toNat)) (nI (qb8 (qb3 m pix λ(v9:Int)=>v2 (v9,())) (↑pix.length:Int).toNat).2 (↑v5.1:Int).toNat).toNat≠(0:Ty.den qb9))/\((0:Nat)<List.length [((ofR (nI (nL Q0.1 (qe6 none (↑v5.1:Int).toNat)) (↑pix.length:Int).toNat) (nI (nL Q0.1 (qe6 none (↑v5.1:Int).toNat)) (nI (qb8 (qb3 m pix λ(v9:Int)=>v2 (v9,())) (↑pix.length:Int).toNat).2 (↑v5.1:Int).toNat).toNat)).1,(ofR (nI (nL Q0.1 (qe6 none (↑v5.1:Int).toNat)) (↑pix.length:Int).toNat) (nI (nL Q0.1 (qe6 none (↑v5.1:Int).toNat)) (nI (qb8 (qb3 m pix λ(v9:Int)=>v2 (v9,())) (↑pix.length:Int).toNat).2 (↑v5.1:Int).toNat).toNat)).2)]/\Nat.le (v5.2.length+List.length [((ofR (nI (nL Q0.1 (qe6 none (↑v5.1:Int).toNat)) (↑pix.length:Int).toNat) (nI (nL Q0.1 (qe6 none (↑v5.1:Int).toNat)) (nI (qb8 (qb3 m pix λ(v9:Int)=>v2 (v9,())) (↑pix.length:Int).toNat).2 (↑v5.1:Int).toNat).toNat)).1,(ofR (nI (nL Q0.1 (qe6 none (↑v5.1:Int).toNat)) (↑pix.length:Int).toNat) (nI (nL Q0.1 (qe6 none (↑v5.1:Int).toNat)) (nI (qb8 (qb3 m pix λ(v9:Int)=>v2 (v9,())) (↑pix.length:Int).toNat).2 (↑v5.1:Int).toNat).toNat)).2)]) (1000000:Nat))/\fits .i64 ((↑v5.1:Int)+(1:Int))/\∃(v9:Nat × List Q2),w80 Q0.1 Q0.2 pix.length v9.1 v9.2/\Q0.1.length-v9.1<Q0.1.length-v5.1/\(True/\True/\True/\(↑v5.1:Int)+(1:Int)=(↑v9.1:Int)/\True)/\(y=y/\True)/\(Q0.1=Q0.1/\True/\True)/\v5.2++[((ofR (nI (nL Q0.1 (qe6 none (↑v5.1:Int).toNat)) (↑pix.length:Int).toNat) (nI (nL Q0.1 (qe6 none (↑v5.1:Int).toNat)) (nI (qb8 (qb3 m pix λ(v10:Int)=>v2 (v10,())) (↑pix.length:Int).toNat).2 (↑v5.1:Int).toNat).toNat)).1,(ofR (nI (nL Q0.1 (qe6 none (↑v5.1:Int).toNat)) (↑pix.length:Int).toNat) (nI (nL Q0.1 (qe6 none (↑v5.1:Int).toNat)) (nI (qb8 (qb3 m pix λ(v10:Int)=>v2 (v10,())) (↑pix.length:Int).toNat).2 (↑v5.1:Int).toNat).toNat)).2)]=v9.2/\True)/\(decide ((↑v5.1:Int)<(↑(qb8 (qb3 m pix λ(v9:Int)=>v2 (v9,())) (↑pix.length:Int).toNat).2.length:Int))=false->((0:Int)<=(↑pix.length:Int)/\(↑pix.length:Int)<(↑(nL Q0.1 (qe6 none (↑v5.1:Int).toNat)).length:Int))/\(↑pix.length:Int).toNat<(nL Q0.1 (qe6 none (↑v5.1:Int).toNat)).length/\((nI (nL Q0.1 (qe6 none (↑v5.1:Int).toNat)) (↑pix.length:Int).toNat != (0:Int))=true->Q1.1=[]/\(8:Int)=Q1.2/\True)/\((nI (nL Q0.1 (qe6 none (↑v5.1:Int).toNat)) (↑pix.length:Int).toNat != (0:Int))=false->fits .i64 ((↑v5.1:Int)+(1:Int))/\∃(v10:Nat × List Q2),w80 Q0.1 Q0.2 pix.length v10.1 v10.2/\Q0.1.length-v10.1<Q0.1.length-v5.1/\(True/\True/\True/\(↑v5.1:Int)+(1:Int)=(↑v10.1:Int)/\True)/\(y=y/\True)/\(Q0.1=Q0.1/\True/\True)/\v5.2=v10.2/\True)))/\(decide ((↑v5.1:Int)<(↑(qe0 (qb8 (qb3 m pix λ(v8:Int)=>v2 (v8,())) (↑pix.length:Int).toNat).1.length none):Int))=false->(decide ((↑(qb8 (qb3 m pix λ(v9:Int)=>v2 (v9,())) (↑pix.length:Int).toNat).2.length:Int)<(↑pix.length:Int))=true->Q1.1=[]/\(11:Int)=Q1.2/\True)/\(decide ((↑(qb8 (qb3 m pix λ(v9:Int)=>v2 (v9,())) (↑pix.length:Int).toNat).2.length:Int)<(↑pix.length:Int))=false->v5.2=Q1.1/\(0:Int)=Q1.2/\True)))) ?_
 refine⟨h.len,λhe=>by grind [w1w],λhe=>?_⟩
 have hA:=Asked.of he
 have hO:=h.ok he
 have e:w1w m pix y=x3j (w1u m pix y).1 (w1u m pix y).2 pix.length:=by rw[w1w,zap he]
 rw[e]
 refine⟨λx=>0<=x.1/\x.1<y.length,λx=>[nI y x.1.toNat],λx hx=>⟨hx,rfl⟩,ChoOk.of hA.msk hA.nam λi hi=>⟨⟨zb3 _,Int.ofNat_lt.2 (by have:=hA.len; omega)⟩,by simp⟩,?_⟩
 dsimp only
 have hkr:qb8 (qb3 m pix λv4=>[nI y v4.toNat]) pix.length=w1u m pix y:=rfl
 have hred:q2o (qb3 m pix λv4=>[nI y v4.toNat]) pix.length (pix.length+1):=hO.red
 have hsh:=q1k hred pix.length
 have hpv:=q3q (qb3 m pix λv4=>[nI y v4.toNat]) pix.length
 have har:=hO.ar
 have hcl:(qb3 m pix λv4=>[nI y v4.toNat]).length=m.length:=qn2 _ _ _
 have hm6:=hA.msk.rows6
 have hn10:=hA.msk.pix10
 have hpn:=hA.nam.len
 rw[hkr] at hsh hpv ⊢
 rw[hcl] at hsh
 refine⟨⟨_,hred⟩,?_⟩
 clear hkr hred hcl e
 generalize w1u m pix y=K at *
 obtain⟨R,P⟩:=K
 dsimp only at hpv har ⊢
 have hRn:=hsh.cnt
 have hRe:=hsh.each
 have hPn:=hsh.piv
 have hPj:=hsh.pivj
 dsimp only at hRn hRe hPn hPj
 simp only[q4g,q7i]
 have hPk:∀k,k<P.length->0<=nI P k/\nI P k<pix.length:=λk hk=>hpv _ (by grind [qf2,List.getElem_mem])
 refine⟨(),(0,[]),⟨zae _,by simp,λi h1 h2=>absurd h2 (zat _)⟩,⟨rfl,by simp,rfl⟩,?_⟩
 rintro⟨k,l⟩ ⟨k1,k2,k3⟩
 dsimp only at k1 k2 k3 ⊢
 refine⟨λhlt=>⟨hlt,hlt,λhp=>?_,λhp=>?_⟩,λhge=>?_⟩
 ·have hr:=hRe k ow
  have hq:=hPk k hp
  have hp':0<=nI P k/\nI P k<((nL R k).length:Int):=⟨hq.1,ow⟩
  have hll:l.length=k:=by grind
  refine⟨ow,ow,ow,hp',ow,⟨har.bigN k hp,har.bigD k hp,har.nz k hp⟩,ow,qa7,(k+1,l++[x9p R P pix.length k]),⟨ow,?_,λi h1 h2=>by omega⟩,ow,by rfl,rfl⟩
  grind [min,List.range_succ]
 ·have hr:=hRe k ow
  refine⟨ow,ow,λhz=>?_,λhz=>?_⟩
  ·have:w8z R P pix.length=true:=by
    unfold w8z
    grind
   grind [x3j]
  ·refine⟨qa7,(k+1,l),⟨ow,?_,λi h1 h2=>?_⟩,ow,by rfl,rfl⟩
   all_goals grind
 ·obtain rfl:k=R.length:=ow
  have hno:w8z R P pix.length=false:=by
   simp_all [w8z,List.any_eq_false,List.mem_range,Bool.and_eq_true,decide_eq_true_eq,bne_iff_ne]
  refine⟨λh1=>by grind [x3j],λh1=>?_⟩
  rw[x3j,hno,zai dc,zai h1]
  grind
theorem xm2 (t:Ty) (a b:List t.den) (hl:a.length=b.length) (h:∀i,i<a.length->qe5 t a i=qe5 t b i):a=b:=by
 grind [List.ext_getElem,qo1]
def x9t (a b:List (Ty.den (.int .i64))):Nat->Option Inv
 | 0=>some (Inv.of [13] 0 (λk:Nat=>[(13,.lit (.int .i64 k))]) (λ_=>[]) (λk=>k<=a.length/\∀i,i<k->qe5 (.int .i64) a i=qe5 (.int .i64) b i) (λk=>a.length-k))
 | _=>none
abbrev yo5:qa8:=qe4 true none [.list (.int .i64),.list (.int .i64)] [.bool] (λx=>x.1.length<=1000000) (λx=>(decide (x.1=x.2.1),()))
theorem w82:Meets Tryz.prog 130 yo5:=by
 refine mts (SpecsOk.nil _) Tryz.func130 (λx=>x9t x.1 x.2.1) ?_
 rintro⟨a,b,⟨⟩⟩ h
 revert a b
 intro(a:List (Ty.den (.int .i64))) (b:List (Ty.den (.int .i64))) (h:a.length<=1000000)
 refine vcs ((((↑a.length:Int) != (↑b.length:Int))=true->false=decide (a=b))/\(((↑a.length:Int) != (↑b.length:Int))=false->∃(v1:Unit),∃(v2:Nat),(v2<=a.length/\∀(v3:Nat),Nat.le (Nat.succ v3) v2->nI a v3=nI b v3)/\(((0:Int)=(↑v2:Int)/\True)/\True)/\∀(v3:Nat),(v3<=a.length/\∀(v5:Nat),Nat.le (Nat.succ v5) v3->nI a v5=nI b v5)->(decide ((↑v3:Int)<(↑a.length:Int))=true->((0:Int)<=(↑v3:Int)/\(↑v3:Int)<(↑a.length:Int))/\((0:Int)<=(↑v3:Int)/\(↑v3:Int)<(↑b.length:Int))/\((nI a v3 != nI b v3)=true->false=decide (a=b))/\((nI a v3 != nI b v3)=false->fits .i64 ((↑v3:Int)+(1:Int))/\∃(v7:Nat),(v7<=a.length/\∀(v8:Nat),Nat.le (Nat.succ v8) v7->nI a v8=nI b v8)/\a.length-v7<a.length-v3/\((↑v3:Int)+(1:Int)=(↑v7:Int)/\True)/\True))/\(decide ((↑v3:Int)<(↑a.length:Int))=false->true=decide (a=b)))) ?_
 refine⟨λhl=>?_,λhl=>?_⟩
 ·grind
 ·refine⟨(),0,⟨zae _,λi hi=>absurd hi ow⟩,rfl,λk ⟨hk,hall⟩=>⟨λhlt=>⟨hlt,ow,λhne=>?_,λhe=>⟨qa7,k+1,⟨ow,λi hi=>?_⟩,ow,ow⟩⟩,λhge=>?_⟩⟩
  ·grind
  ·grind
  ·exact(zbk (xm2 _ a b ow λi hi=>hall i ow)).symm
abbrev tQ:Ty:=.prod (.list (.list (.int .i64))) (.list (.int .i64))
abbrev x5j:qa8:=qe4 true none [qy8] [.bool] (λ_=>True) (λx=>(x.1.1==0,()))
theorem w4r:Meets Tryz.prog 214 x5j:=by
 refine mt0 (SpecsOk.nil _) Tryz.func214 ?_
 rintro⟨r,⟨⟩⟩ -
 revert r
 intro(r:Int × Int)
 refine vcr ((r.1==(0:Int))=(r.1==(0:Ty.den (Ty.int .i64)))) ?_
 try rfl
 try simp only[ww3,ww4,wm2,z31,z32,z2,z1]
 done
abbrev x9u:qa8:=qe4 true none [tQ] [qb9] (λx=>0<x.1.1.length) (λx=>((nL x.1.1 0).length,()))
theorem w4s:Meets Tryz.prog 163 x9u:=by
 refine mt0 (SpecsOk.nil _) Tryz.func163 ?_
 rintro⟨q,⟨⟩⟩ h
 revert q
 intro(q:List (List Int) × List Int) (h:0<q.1.length)
 refine vcs (((0:Int)<=(0:Int)/\(0:Int)<(↑q.1.length:Int))/\(↑(nL q.1 (0:Nat)).length:Int)=(↑(nL q.1 (0:Nat)).length:Int)) ?_
 omega
def wn7 (m:List (List Int)) (y pix:List Int):(List Int × List (Int × Int)) × Bool:=if(w1w m pix y).2≠0\/((w1w m pix y).1.any λr=>r.1==0)=true then(([],[]),false) else((pix,(w1w m pix y).1),true)
abbrev x9v:qa8:=qe4 true none [tQ,qd4] [x1e,.bool] (λx=>q3r x.1.1 x.2.1 x.1.2/\x.2.1.length<=100000) (λx=>((wn7 x.1.1 x.1.2 x.2.1).1,(wn7 x.1.1 x.1.2 x.2.1).2,()))
theorem xm3 {m:List (List Int)} {pix y:List Int} (h:q3r m pix y):(w1w m pix y).1.length<=1000000:=by
 unfold w1w
 split
 ·rename_i he
  have hA:=Asked.of he
  have hO:=h.ok he
  unfold x3j
  split
  ·simp
  ·split
   ·simp
   ·have hsh:=(q1k hO.red pix.length).piv
    rw[show(qj6 m pix y).length=m.length from qn2 _ _ _] at hsh
    have:=hA.msk.rows6
    have e:(w1u m pix y).2.length=(qb8 (qj6 m pix y) pix.length).2.length:=rfl
    grind
 simp
theorem w83:Meets Tryz.prog 164 x9v:=by
 refine mt0 (SpecsOk.cons w81 (SpecsOk.cons q2m (SpecsOk.cons (w8e (fs:=[(214,x5j)]) (SpecsOk.cons w4r (SpecsOk.nil _))) (SpecsOk.nil _)))) Tryz.func164 ?_
 rintro⟨q,pix,⟨⟩⟩ h
 revert q pix
 intro(q:List (List Int) × List Int) (pix:List Int) (h:q3r q.1 pix q.2/\pix.length<=100000)
 refine vcs (let Q0:=wn7 q.1 q.2 pix; let Q1:=w1w q.1 pix q.2; q3r q.1 pix q.2/\((Q1.2 != (0:Int))=true->(Q0.1.1=[]/\Q0.1.2=[]/\True)/\false=Q0.2/\True)/\((Q1.2 != (0:Int))=false->∃(v1:qa3 [Ty.prod (Ty.int .i64) (Ty.int .i64)]->Prop),∃(v2:qa3 [Ty.prod (Ty.int .i64) (Ty.int .i64)]->Bool),(∀(v3:(Int × Int) × qa3._f [] PUnit.unit),v1 v3->True/\(v3.1.1==(0:Ty.den (Ty.int .i64)))=v2 v3)/\(Q1.1.length<=(1000000:Nat)/\∀(v3:Nat),v3<Q1.1.length->v1 (qe5 (Ty.prod (Ty.int .i64) (Ty.int .i64)) Q1.1 v3,()))/\((List.any Q1.1 λ(v4:Int × Int)=>v2 (v4,()))=true->(Q0.1.1=[]/\Q0.1.2=[]/\True)/\false=Q0.2/\True)/\((List.any Q1.1 λ(v4:Int × Int)=>v2 (v4,()))=false->pix.length<=(100000:Nat)/\(pix=Q0.1.1/\Q1.1=Q0.1.2/\True)/\true=Q0.2/\True))) ?_
 obtain⟨hp,hl⟩:=h
 refine⟨hp,λh1=>by grind [wn7],λh1=>⟨λ_=>True,λx=>x.1.1==0,λ_ _=>rfl,⟨?_,λ_ _=>trivial⟩,λh2=>?_,λh2=>⟨hl,?_⟩⟩⟩
 ·exact xm3 hp
 ·have h2:((w1w q.1 pix q.2).1.any λr=>r.1==0)=true:=h2
  unfold wn7; grind
 ·have h2:((w1w q.1 pix q.2).1.any λr=>r.1==0)=false:=h2
  unfold wn7; grind
def wt4 (m:List (List Int)) (y:List Int) (k:Int):Int:=if q5h m y []=0 then(if inB k 0 10 then 0 else 7) else q5h m y []
abbrev yo6:qa8:=qe4 true none [qf8,qd4,qb9] [qb9] (λ_=>True) (λx=>(wt4 x.1 x.2.1 x.2.2.1,()))
theorem w84:Meets Tryz.prog 215 yo6:=by
 refine mt0 (SpecsOk.cons q7g (SpecsOk.cons qs2 (SpecsOk.nil _))) Tryz.func215 ?_
 rintro⟨m,y,k,⟨⟩⟩ -
 revert m y k
 intro(m:List (List Int)) (y:List Int) (k:Int)
 refine vcs (Value.slice none (0:Nat) (0:Nat)=Value.slice none (0:Nat) (0:Nat)/\(0:Nat)<=(1000000:Nat)/\((q5h m y [] != (0:Int))=true->q5h m y []=wt4 m y k)/\((q5h m y [] != (0:Int))=false->True/\((!inB k (0:Int) (10:Int))=true->(7:Int)=wt4 m y k)/\((!inB k (0:Int) (10:Int))=false->(0:Int)=wt4 m y k))) ?_
 grind [wt4]
def qt4 (l:List Int):List Int:=l.map λn=>n.tdiv (max (gcdL l) 1)
def q7n (l:List Int) (n:Int):List Int:=l.map λk=>k*n
def w4t (r p:List Int) (j:Nat):List Int:=(List.range r.length).map λk=>nI r k*nI p j-nI p k*nI r j
def qh9 (r p:List Int) (j:Nat):List Int:=qt4 (w4t r p j)
def qq6 (m:List (List Int)) (pix:List Int):List (List Int):=(List.range m.length).map λi=>qz0 (nL m i) pix
theorem wn8 (m:List (List Int)) (pix:List Int):(qq6 m pix).length=m.length:=by simp[qq6]
theorem q1l (m:List (List Int)) (pix:List Int) (i:Nat) (hi:i<m.length):nL (qq6 m pix) i=qz0 (nL m i) pix:=by
 grind [qk3,wn8,qq6]
def lastTo (left:List (List Int)) (j:Nat):Nat->Int
 | 0=>-1
 | i+1=>if nI (nL left i) j≠0 then(i:Int) else lastTo left j i
def xm4 (left:List (List Int)) (j:Nat) (at_:Int):List Int:=if nI (nL left at_.toNat) j<0 then q7n (nL left at_.toNat) (-1) else nL left at_.toNat
def qt5 (left:List (List Int)) (p:List Int) (j:Nat) (at_:Int):Nat->List (List Int)
 | 0=>[]
 | i+1=>if(i:Int)≠at_ then qt5 left p j at_ i++[qh9 (nL left i) p j] else qt5 left p j at_ i
structure RS where
 left:List (List Int)
 done_:List (List Int)
 piv:List Int
def x1o (s:RS) (j:Nat):RS:=
 if lastTo s.left j s.left.length<0 then s
 else⟨qt5 s.left (xm4 s.left j (lastTo s.left j s.left.length)) j (lastTo s.left j s.left.length) s.left.length,(s.done_.map λr=>qh9 r (xm4 s.left j (lastTo s.left j s.left.length)) j)++[xm4 s.left j (lastTo s.left j s.left.length)],s.piv++[(j:Int)]⟩
def qm5 (rows:List (List Int)):Nat->RS
 | 0=>⟨rows.map qt4,[],[]⟩
 | j+1=>x1o (qm5 rows j) j
def rdW (rows:List (List Int)):Nat:=(nL rows 0).length
def q58 (rows:List (List Int)):List (List Int) × List Int:=((qm5 rows (rdW rows)).done_,(qm5 rows (rdW rows)).piv)
theorem qw5 (l:List Int):(qt4 l).length=l.length:=by simp[qt4]
theorem q5i (r p:List Int) (j:Nat):(qh9 r p j).length=r.length:=by grind [qh9,qw5,w4t]
theorem q1m (l:List Int) (n:Int):(q7n l n).length=l.length:=by simp[q7n]
theorem wn9 (left:List (List Int)) (j:Nat):∀k:Nat,lastTo left j k<k/\-1<=lastTo left j k
 | 0=>⟨by show(-1:Int)<0; omega,by show(-1:Int)<=-1; omega⟩
 | k+1=>by
  have:=wn9 left j k
  grind [lastTo]
theorem q4k (left:List (List Int)) (p:List Int) (j:Nat) (a:Int):∀k,∀x∈qt5 left p j a k,∃i,i<k/\(i:Int)≠a/\x=qh9 (nL left i) p j
 | 0,x,hx=>by cases hx
 | k+1,x,hx=>by
  rw[qt5] at hx
  split at hx
  ·rename_i hne
   rcases zaj.1 hx with hx | hx
   ·obtain⟨i,h1,h2,h3⟩:=q4k left p j a k x hx
    grind
   grind
  ·obtain⟨i,h1,h2,h3⟩:=q4k left p j a k x hx
   grind
theorem q15 (m:List (List Int)) (i:Nat) (h:i<m.length):nL m i∈m:=by grind [qk3,List.getElem_mem]
def nF (l:List (List Int × List (Int × Int))) (i:Nat):List Int × List (Int × Int):=qe5 (.prod (.list (.int .i64)) (.list (.prod (.int .i64) (.int .i64)))) l i
def q7o (piv:List Int) (f:Nat):Nat->Bool
 | 0=>true
 | k+1=>q7o piv f k && (nI piv k != (f:Int))
def w4u (d:List (List Int)) (piv:List Int) (k:Nat):Int:=nI (nL d k) (nI piv k).toNat
def q4l (d:List (List Int)) (piv:List Int):Nat->Int
 | 0=>1
 | k+1=>(q4l d piv k).tdiv (gcdI (q4l d piv k) (w4u d piv k))*w4u d piv k
def x1p (d:List (List Int)) (piv:List Int) (n f:Nat):Nat->List Int
 | 0=>(List.replicate n 0).set f (q4l d piv piv.length)
 | k+1=>(x1p d piv n f k).set (nI piv k).toNat ((0-nI (nL d k) f)*(q4l d piv piv.length).tdiv (w4u d piv k))
def q7p (d:List (List Int)) (piv:List Int) (n:Nat):Nat->List (List Int)
 | 0=>[]
 | f+1=>if q7o piv f piv.length then q7p d piv n f++[qt4 (x1p d piv n f piv.length)] else q7p d piv n f
def qk0 (rows:List (List Int)):List (List Int):=q7p (q58 rows).1 (q58 rows).2 (rdW rows) (rdW rows)
def qf6 (n:Nat) (set v:List Int):Nat->List Int
 | 0=>List.replicate n 0
 | j+1=>(qf6 n set v j).set (nI set j).toNat (nI v j)
def wo0 (l:List (List Int)):Bool:=decide (l.length=1) && !((nL l 0).any λe=>(0:Int)==e)
def x6y (m:List (List Int)) (n:Nat) (set:List Int):List Int:=q7l (qf6 n set (nL (qm0 m set) 0) set.length)
def qq7 (m:List (List Int)) (n:Nat) (L:List (List Int)):Nat->List (List Int)
 | 0=>[]
 | c+1=>if wo0 (qm0 m (nL L c)) then qq7 m n L c++[x6y m n (nL L c)] else qq7 m n L c
def q2w (m:List (List Int)) (n:Nat):Nat->List (List Int)
 | 0=>[]
 | k+1=>q2w m n k++qq7 m n (qf0 n (k+1:Nat)) (qf0 n (k+1:Nat)).length
def q59 (m:List (List Int)):Nat:=min ((qi5 m (qo0 (nL m 0).length)).2.length+1) (nL m 0).length
def qw9 (m:List (List Int)):List (List Int) × Int:=if qb6 m=false then([],1) else(q2w m (nL m 0).length (q59 m),0)
structure wo1 (m:List (List Int)):Prop where
 rank:w1t m
 ker:∀k,k<(nL m 0).length->∀set∈qf0 (nL m 0).length (k+1:Nat),w4p m set
abbrev yo7:qa8:=qe4 true none [qf8] [qf8,qb9] (λx=>qb6 x.1=true->wo1 x.1) (λx=>((qw9 x.1).1,(qw9 x.1).2,()))
def x9w (m:List (List Int)) (n:Nat):Nat->Option Inv
 | 0=>some (Inv.of [30] 4 (λk:Nat=>[(30,.lit (.int .i64 k))]) (λk=>[.box 23 (.cons (.dat (.list (.int .i64)) m) .nil),.box 3 (.cons (.lit (.int .i64 n)) .nil),.box 22 (.cons (.msl 3 .none) .nil),.mat 24 3 (.int .i64) (q2w m n k) .none .none]) (λk=>k<=q59 m) (λk=>q59 m-k))
 | 1=>some (Eng.Inv.mk Nat Nat [] 4 (λ_ _=>[]) (λk c=>[.box 23 (.cons (.dat (.list (.int .i64)) m) .nil),.box 3 (.cons (.lit (.int .i64 n)) .nil),.box 22 (.cons (.msl 3 .none) .nil),.mat 24 3 (.int .i64) (q2w m n k++qq7 m n (qf0 n (k+1:Nat)) c) .none .none]) (λk c=>c<=(qf0 n (k+1:Nat)).length) (λk c=>c))
 | 2=>some (Eng.Inv.mk (q2v × Nat × Nat × List Int) Nat [9,11,52,54] 6 (λq j=>[(9,.msl 4 (some 0)),(11,.own 5),(52,.msl 4 (some 0)),(54,.lit (.int .i64 j))]) (λq j=>[.box 23 (.cons (.dat (.list (.int .i64)) m) .nil),.box 3 (.cons (.lit (.int .i64 n)) .nil),.box 22 (.cons (.msl 3 .none) .nil),.mat 24 3 (.int .i64) (q2w m n q.2.1++qq7 m n (qf0 n (q.2.1+1:Nat)) q.2.2.1) .none .none,.mat 3 3 (.int .i64) [q.2.2.2] (some []) (some q.1),.vec 3 (.int .i64) (qf6 n q.2.2.2 (nL (qm0 m q.2.2.2) 0) j)]) (λq j=>j<=q.2.2.2.length) (λq j=>q.2.2.2.length-j))
 | _=>none
def x9y (mats em:List Nat) (specs:List (Nat × qa8)) (muts:List (Nat × MSpec)) (its:List (Nat × qz6)):Ctx:={ specs:=specs,tys:=tys,wr:=[],muts:=muts,mats:=mats,em:=em,its:=its }
theorem xm5 (mats em:List Nat) {specs:List (Nat × qa8)} {muts:List (Nat × MSpec)} {its:List (Nat × qz6)} (h:SpecsOk Tryz.prog specs) (hm:MutsOk muts) (hi:ItsOk its):Sound Tryz.prog (x9y mats em specs muts its):=SpecsOk.sound h qz5 kr hi (hmu:=hm)
theorem q7q (m:List (List Int)) (n:Nat) (L:List (List Int)):∀c,(qq7 m n L c).length<=c
 | 0=>zad _
 | c+1=>by
  have:=q7q m n L c
  grind [qq7]
theorem wx0:((List.range 11).all λn=>(List.range 12).all λk=>decide ((qf0 (n:Nat) (k:Nat)).length<=1000))=true:=by decide +kernel
theorem wo2 (n k:Nat) (hn:n<=10) (hk:k<=11):(qf0 (n:Nat) (k:Nat)).length<=1000:=
 zbe (zaq.1 (zaq.1 wx0 n (za2.2 ow)) k (za2.2 ow))
theorem wd6 (m:List (List Int)) (n:Nat) (hn:n<=10):∀k,k<=11->(q2w m n k).length<=1000*k
 | 0,_=>zad _
 | k+1,hk=>by
  have h1:=wd6 m n hn k ow
  grind [wo2,q7q,qf0,q2w,List.length_append]
theorem q7r {R:List (List Int)} {P:List Int} {n:Nat} (h:xm0 R P n) (hn:n<=1000):∀f,f<=n->∀x∈qn8 R P n f,x.length=n/\wh6 x
 | 0,_,x,hx=>by cases hx
 | f+1,hf,x,hx=>by
  rw[qn8] at hx
  split at hx
  ·exact q7r h hn f ow x hx
  ·rename_i hfree
   rcases zaj.1 hx with hx | hx
   ·exact q7r h hn f ow x hx
   ·obtain rfl:=zar.1 hx
    have hb:wh6 (hTo R P n f P.length):=⟨by grind [q7m],ww9 h ow (zdo.2 hfree) _ (zad _)⟩
    grind [q9k,q7m,q9q]
theorem q7s {m:List (List Int)} {set:List Int} (h:w4p m set) (x:List Int) (hx:x∈qm0 m set):x.length=set.length/\set.length<=1000/\wh6 x:=by
 have hw:=h.red.w
 have:=q7r h.ar hw _ (zad _) x hx
 grind
theorem qk8 (n:Nat) (set v:List Int):∀j,(qf6 n set v j).length=n
 | 0=>by simp[qf6]
 | j+1=>by rw[qf6,zaz]; exact qk8 n set v j
theorem q5j {n:Nat} {set v:List Int} (hv:wh6 v) (hn:n<=1000) (hl:v.length=set.length):∀j,j<=set.length->wh6 (qf6 n set v j)
 | 0,_=>⟨by grind [qf6],λx hx=>by
  obtain rfl:=(zde.1 hx).2
  grind [BIG]⟩
 | j+1,hj=>by
  have h1:=q5j hv hn hl j ow
  refine⟨by grind [qk8],λx hx=>?_⟩
  rw[qf6] at hx
  rcases zaw hx with hx | rfl
  ·exact h1.2 x hx
  ·exact q7e hv ow
theorem w85:Meets Tryz.prog 111 yo7:=by
 refine meets (xm5 [72] [] (SpecsOk.cons w4q (SpecsOk.cons q9p (SpecsOk.cons w8y (SpecsOk.cons wn5 (SpecsOk.nil _))))) (MutsOk.cons w4o MutsOk.nil) (ItsOk.cons q9o ItsOk.nil)) Tryz.func111 rfl rfl (λx=>x9w x.1 (nL x.1 0).length) (λ_=>by kernel_rfl) dc ?_
 rintro⟨m,⟨⟩⟩ h
 revert m
 intro(m:List (List Int)) (h:qb6 m=true->wo1 m)
 refine vcs ((qb6 m=true->w1t m)/\(((qz1 m).2 != (0:Int))=true->(qw9 m).1=[]/\(qz1 m).2=(qw9 m).2/\True)/\(((qz1 m).2 != (0:Int))=false->((0:Int)<=(0:Int)/\(0:Int)<(↑m.length:Int))/\fits .i64 ((qz1 m).1+(1:Int))/\∃(v1:Unit),∃(v2:Nat),Nat.le v2 (q59 m)/\(((0:Int)=(↑v2:Int)/\True)/\(m=m/\True)/\((↑(nL m (0:Nat)).length:Int)=(↑(nL m (0:Nat)).length:Int)/\True)/\(True/\True)/\q2w m (nL m (0:Nat)).length v2=[]/\True)/\∀(v3:Nat),Nat.le v3 (q59 m)->(decide ((↑v3:Int)<max2 false ((qz1 m).1+(1:Int)) (↑(nL m (0:Nat)).length:Int))=true->fits .i64 ((↑v3:Int)+(1:Int))/\True/\(((0:Ty.den qb9)<=(↑v3:Int)+(1:Int)/\(↑v3:Int)+(1:Int)<=(1000:Ty.den qb9))/\(0:Ty.den qb9)<=(↑(nL m (0:Nat)).length:Int)/\(↑(nL m (0:Nat)).length:Int)<=(1000:Ty.den qb9))/\∃(v6:Nat),∃(v7:Nat),Nat.le v7 (qf0 (↑(nL m (0:Nat)).length:Int) (↑(v6+(1:Nat)):Int)).length/\v7=(0:Nat)/\((m=m/\True)/\((↑(nL m (0:Nat)).length:Int)=(↑(nL m (0:Nat)).length:Int)/\True)/\(True/\True)/\(q2w m (nL m (0:Nat)).length v3=q2w m (nL m (0:Nat)).length v6++qq7 m (nL m (0:Nat)).length (qf0 (↑(nL m (0:Nat)).length:Int) (↑(v6+(1:Nat)):Int)) v7/\True/\True)/\True)/\∀(v8:Nat),Nat.le v8 (qf0 (↑(nL m (0:Nat)).length:Int) (↑(v6+(1:Nat)):Int)).length->(∀(v10:List Int × qa3._f [] PUnit.unit),(List.map (λ(v12:List Int)=>(v12,())) (qf0 (↑(nL m (0:Nat)).length:Int) ((↑v3:Int)+(1:Int))))[v8]?=some v10->∀(v12:q2v),w4p m (nL [v10.1] (0:Nat))/\(((↑(qm0 m (nL [v10.1] (0:Nat))).length:Int) != (1:Int))=true->[v10.1]=[v10.1]/\v12=v12/\True/\∃(v14:Nat),Nat.le v14 (qf0 (↑(nL m (0:Nat)).length:Int) (↑(v6+(1:Nat)):Int)).length/\v14=v8+(1:Nat)/\(m=m/\True)/\((↑(nL m (0:Nat)).length:Int)=(↑(nL m (0:Nat)).length:Int)/\True)/\(True/\True)/\(q2w m (nL m (0:Nat)).length v6++qq7 m (nL m (0:Nat)).length (qf0 (↑(nL m (0:Nat)).length:Int) (↑(v6+(1:Nat)):Int)) v8=q2w m (nL m (0:Nat)).length v6++qq7 m (nL m (0:Nat)).length (qf0 (↑(nL m (0:Nat)).length:Int) (↑(v6+(1:Nat)):Int)) v14/\True/\True)/\True)/\(((↑(qm0 m (nL [v10.1] (0:Nat))).length:Int) != (1:Int))=false->((0:Int)<=(0:Int)/\(0:Int)<(↑(qm0 m (nL [v10.1] (0:Nat))).length:Int))/\(nL (qm0 m (nL [v10.1] (0:Nat))) (0:Nat)).length<=(1000000:Nat)/\((List.any (nL (qm0 m (nL [v10.1] (0:Nat))) (0:Nat)) λ(v15:Int)=>(0:Int)==v15)=true->[v10.1]=[v10.1]/\v12=v12/\True/\∃(v15:Nat),Nat.le v15 (qf0 (↑(nL m (0:Nat)).length:Int) (↑(v6+(1:Nat)):Int)).length/\v15=v8+(1:Nat)/\(m=m/\True)/\((↑(nL m (0:Nat)).length:Int)=(↑(nL m (0:Nat)).length:Int)/\True)/\(True/\True)/\(q2w m (nL m (0:Nat)).length v6++qq7 m (nL m (0:Nat)).length (qf0 (↑(nL m (0:Nat)).length:Int) (↑(v6+(1:Nat)):Int)) v8=q2w m (nL m (0:Nat)).length v6++qq7 m (nL m (0:Nat)).length (qf0 (↑(nL m (0:Nat)).length:Int) (↑(v6+(1:Nat)):Int)) v15/\True/\True)/\True)/\((List.any (nL (qm0 m (nL [v10.1] (0:Nat))) (0:Nat)) λ(v15:Int)=>(0:Int)==v15)=false->((↑(nL m (0:Nat)).length:Int)=(↑(nL m (0:Nat)).length:Int)/\(0:Int)<=(↑(nL m (0:Nat)).length:Int)/\(↑(nL m (0:Nat)).length:Int)<=(1000000:Int))/\∃(v15:q2v × Nat × Nat × List Int),∃(v16:Nat),Nat.le v16 v15.2.2.2.length/\((some (0:Nat)=some (0:Nat)/\True/\some (0:Nat)=some (0:Nat)/\(0:Int)=(↑v16:Int)/\True)/\(m=m/\True)/\((↑(nL m (0:Nat)).length:Int)=(↑(nL m (0:Nat)).length:Int)/\True)/\(True/\True)/\(q2w m (nL m (0:Nat)).length v6++qq7 m (nL m (0:Nat)).length (qf0 (↑(nL m (0:Nat)).length:Int) (↑(v6+(1:Nat)):Int)) v8=q2w m (nL m (0:Nat)).length v15.2.1++qq7 m (nL m (0:Nat)).length (qf0 (↑(nL m (0:Nat)).length:Int) (↑(v15.2.1+(1:Nat)):Int)) v15.2.2.1/\True/\True)/\([v10.1]=[v15.2.2.2]/\True/\v12=v15.1)/\List.replicate (↑(nL m (0:Nat)).length:Int).toNat (Ty.dflt (TI.ty T3))=qf6 (nL m (0:Nat)).length v15.2.2.2 (nL (qm0 m v15.2.2.2) (0:Nat)) v16/\True)/\∀(v17:Nat),Nat.le v17 v15.2.2.2.length->(decide ((↑v17:Int)<(↑(nL [v10.1] (0:Nat)).length:Int))=true->((0:Int)<=(↑v17:Int)/\(↑v17:Int)<(↑(nL [v15.2.2.2] (0:Nat)).length:Int))/\v17<(nL [v15.2.2.2] (0:Nat)).length/\((0:Int)<=(0:Int)/\(0:Int)<(↑(qm0 m (nL [v10.1] (0:Nat))).length:Int))/\((0:Int)<=(↑v17:Int)/\(↑v17:Int)<(↑(nL (qm0 m (nL [v10.1] (0:Nat))) (0:Nat)).length:Int))/\((0:Int)<=nI (nL [v15.2.2.2] (0:Nat)) v17/\nI (nL [v15.2.2.2] (0:Nat)) v17<(↑(qf6 (nL m (0:Nat)).length v15.2.2.2 (nL (qm0 m v15.2.2.2) (0:Nat)) v17).length:Int))/\(nI (nL [v15.2.2.2] (0:Nat)) v17).toNat<(qf6 (nL m (0:Nat)).length v15.2.2.2 (nL (qm0 m v15.2.2.2) (0:Nat)) v17).length/\fits .i64 ((↑v17:Int)+(1:Int))/\∃(v20:Nat),Nat.le v20 v15.2.2.2.length/\v15.2.2.2.length-v20<v15.2.2.2.length-v17/\(some (0:Nat)=some (0:Nat)/\True/\some (0:Nat)=some (0:Nat)/\(↑v17:Int)+(1:Int)=(↑v20:Int)/\True)/\(m=m/\True)/\((↑(nL m (0:Nat)).length:Int)=(↑(nL m (0:Nat)).length:Int)/\True)/\(True/\True)/\(q2w m (nL m (0:Nat)).length v15.2.1++qq7 m (nL m (0:Nat)).length (qf0 (↑(nL m (0:Nat)).length:Int) (↑(v15.2.1+(1:Nat)):Int)) v15.2.2.1=q2w m (nL m (0:Nat)).length v15.2.1++qq7 m (nL m (0:Nat)).length (qf0 (↑(nL m (0:Nat)).length:Int) (↑(v15.2.1+(1:Nat)):Int)) v15.2.2.1/\True/\True)/\([v15.2.2.2]=[v15.2.2.2]/\True/\v15.1=v15.1)/\List.set (qf6 (nL m (0:Nat)).length v15.2.2.2 (nL (qm0 m v15.2.2.2) (0:Nat)) v17) (nI (nL [v15.2.2.2] (0:Nat)) v17).toNat (nI (nL (qm0 m (nL [v10.1] (0:Nat))) (0:Nat)) v17)=qf6 (nL m (0:Nat)).length v15.2.2.2 (nL (qm0 m v15.2.2.2) (0:Nat)) v20/\True)/\(decide ((↑v17:Int)<(↑(nL [v10.1] (0:Nat)).length:Int))=false->wh6 (nL [qf6 (nL m (0:Nat)).length v15.2.2.2 (nL (qm0 m v15.2.2.2) (0:Nat)) v17] (0:Nat))/\((0:Nat)<(0:Nat)+(1:Nat)/\(q2w m (nL m (0:Nat)).length v15.2.1++qq7 m (nL m (0:Nat)).length (qf0 (↑(nL m (0:Nat)).length:Int) (↑(v15.2.1+(1:Nat)):Int)) v15.2.2.1).length+((0:Nat)+(1:Nat))<=(1000000:Nat))/\[v15.2.2.2]=[v10.1]/\v15.1=v12/\True/\∃(v20:Nat),Nat.le v20 (qf0 (↑(nL m (0:Nat)).length:Int) (↑(v6+(1:Nat)):Int)).length/\v20=v8+(1:Nat)/\(m=m/\True)/\((↑(nL m (0:Nat)).length:Int)=(↑(nL m (0:Nat)).length:Int)/\True)/\(True/\True)/\(q2w m (nL m (0:Nat)).length v15.2.1++qq7 m (nL m (0:Nat)).length (qf0 (↑(nL m (0:Nat)).length:Int) (↑(v15.2.1+(1:Nat)):Int)) v15.2.2.1++[nL [q7l (nL [qf6 (nL m (0:Nat)).length v15.2.2.2 (nL (qm0 m v15.2.2.2) (0:Nat)) v17] (0:Nat))] (0:Nat)]=q2w m (nL m (0:Nat)).length v6++qq7 m (nL m (0:Nat)).length (qf0 (↑(nL m (0:Nat)).length:Int) (↑(v6+(1:Nat)):Int)) v20/\True/\True)/\True))))/\(v8=(List.map (λ(v11:List Int)=>(v11,())) (qf0 (↑(nL m (0:Nat)).length:Int) ((↑v3:Int)+(1:Int)))).length->fits .i64 ((↑v3:Int)+(1:Int))/\∃(v11:Nat),Nat.le v11 (q59 m)/\q59 m-v11<q59 m-v3/\((↑v3:Int)+(1:Int)=(↑v11:Int)/\True)/\(m=m/\True)/\((↑(nL m (0:Nat)).length:Int)=(↑(nL m (0:Nat)).length:Int)/\True)/\(True/\True)/\(q2w m (nL m (0:Nat)).length v6++qq7 m (nL m (0:Nat)).length (qf0 (↑(nL m (0:Nat)).length:Int) (↑(v6+(1:Nat)):Int)) v8=q2w m (nL m (0:Nat)).length v11/\True/\True)/\True))/\(decide ((↑v3:Int)<max2 false ((qz1 m).1+(1:Int)) (↑(nL m (0:Nat)).length:Int))=false->q1u (Ty.int .i64) (q2w m (nL m (0:Nat)).length v3) none=(qw9 m).1/\(0:Int)=(qw9 m).2/\True))) ?_
 refine⟨λhv=>(h hv).rank,λhe=>?_,λhe=>?_⟩
 ·grind [qb6,absurd,qz1,qw9]
 have hv:qb6 m=true:=by
  grind [qb6,qz1]
 have hO:=h hv
 have hM:=Mk.of hv
 have hm1:=hM.rows1
 have hn1:=hM.pix1
 have hn10:=hM.pix10
 have hrank:(qi5 m (qo0 (nL m 0).length)).2.length<=10:=by
  have:=(q1k hO.rank.red (nL m 0).length).pivj
  grind [qi5,qe8,Nat.le_trans]
 have hr:qz1 m=(((qi5 m (qo0 (nL m 0).length)).2.length:Int),0):=by grind [qz1]
 have hcN:q59 m=min ((qi5 m (qo0 (nL m 0).length)).2.length+1) (nL m 0).length:=rfl
 have hcR:qw9 m=(q2w m (nL m 0).length (q59 m),0):=by grind [qw9]
 rw[hr,hcR]
 generalize(qi5 m (qo0 (nL m 0).length)).2.length=r at *
 have hker:=hO.ker
 generalize hnn:(nL m 0).length=n at *
 dsimp only
 refine⟨ow,qa7,(),0,zae _,⟨rfl,rfl⟩,λk hk=>⟨λhlt=>?_,λhge=>?_⟩⟩
 ·have hlt:(k:Int)<min ((r:Int)+1) n:=hlt
  have hkn:k<n:=ow
  have hca:((k:Int)+1)=((k+1:Nat):Int):=ow
  have hkl:=wd6 m n hn10 k ow
  have hsl:=wo2 n (k+1) hn10 ow
  rw[hca]
  have hb1:(0:Int)<=((k+1:Nat):Int)/\((k+1:Nat):Int)<=1000:=ow
  refine⟨qa7,⟨hb1,ow⟩,k,0,zae _,rfl,by simp[qq7],λc hc=>⟨?_,λhce=>?_⟩⟩
  ·rintro⟨set,⟨⟩⟩ hset T
   dsimp only
   have hs:(qf0 n (k+1:Nat))[c]? = some set:=by
    grind
   have hcl:c<(qf0 n (k+1:Nat)).length:=(zaf.1 hs).1
   have hnl:nL (qf0 n (k+1:Nat)) c=set:=by grind [qk3,List.getElem?_eq_some_iff]
   have hK:w4p m set:=hker k hkn set (zag hs)
   have hctl:=q7q m n (qf0 n (k+1:Nat)) c
   refine⟨hK,λh1=>⟨c+1,hcl,rfl,?_⟩,λh1=>⟨ow,?_,λh2=>⟨c+1,hcl,rfl,?_⟩,λh2=>⟨ow,(T,k,c,set),0,zae _,⟨rfl,rfl,⟨rfl,rfl⟩,rfl⟩,λj hj=>⟨λhjl=>?_,λhjl=>?_⟩⟩⟩⟩
   ·rw[qq7,hnl,zai]
    intro q
    simp_all [wo0,Bool.and_eq_true,decide_eq_true_eq]
   ·grind [q7s,nL,qm0,set,q15]
   ·simp_all [qq7,if_neg,wo0,Bool.and_eq_true]
   ·dsimp only at hj ⊢
    have hat:=hK.cho.at_ 0 ow j hjl
    rw[hnn] at hat
    have hkm:=q7s hK (nL (qm0 m set) 0) (q15 _ 0 ow)
    have hsp:=qk8 n set (nL (qm0 m set) 0) j
    have hat':0<=nI set j/\nI set j<((qf6 n set (nL (qm0 m set) 0) j).length:Int):=⟨hat.1,ow⟩
    exact⟨hjl,hjl,ow,ow,hat',ow,qa7,j+1,hjl,ow,ow,rfl⟩
   ·dsimp only at hj ⊢
    obtain rfl:j=set.length:=ow
    have hkm:=q7s hK (nL (qm0 m set) 0) (q15 _ 0 ow)
    refine⟨q5j hkm.2.2 ow hkm.1 _ (zad _),by grind,rfl,rfl,c+1,hcl,rfl,?_⟩
    have hg:wo0 (qm0 m set)=true:=by
     unfold wo0
     grind
    rw[qq7,hnl,zap hg,zdl]
    rfl
  ·rw[za3] at hce
   subst hce
   exact⟨qa7,k+1,ow,ow,rfl,rfl⟩
 ·have hge:min ((r:Int)+1) n<=k:=hge
  obtain rfl:k=q59 m:=ow
  exact⟨rfl,rfl⟩
def qh1 (a b:List Int):Nat->Int
 | 0=>0
 | k+1=>qh1 a b k+nI a k*nI b k
structure w86 (a b:List Int):Prop where
 len:a.length<=10
 le:a.length<=b.length
 sa:∀i,i<a.length->-1<=nI a i/\nI a i<=1
 sb:∀i,i<a.length->qd8 1000000 (nI b i)
theorem wo3 {x y K:Int} (hx:-1<=x/\x<=1) (hy:qd8 K y):qd8 K (x*y):=by
 unfold qd8 at *
 rcases(show x=-1\/x=0\/x=1 by omega) with rfl | rfl | rfl
 all_goals omega
theorem w1x {a b:List Int} (h:w86 a b):∀k,k<=a.length->qd8 (1000000*k) (qh1 a b k)
 | 0,_=>by simp_all [qd8,qh1]
 | k+1,hk=>by
  have h1:=w1x h k ow
  have h2:=wo3 (h.sa k ow) (h.sb k ow)
  unfold qd8 at *
  grind [qh1]
abbrev yo8:qa8:=qe4 true none [qd4,qd4] [qb9] (λx=>w86 x.1 x.2.1) (λx=>(qh1 x.1 x.2.1 x.1.length,()))
def xm6 (a b:List Int):Nat->Option Inv
 | 0=>some (Inv.of [5,10] 0 (λk:Nat=>[(5,.lit (.int .i64 (qh1 a b k))),(10,.lit (.int .i64 k))]) (λ_=>[]) (λk=>k<=a.length) (λk=>a.length-k))
 | _=>none
theorem wo4:Meets Tryz.prog 57 yo8:=by
 refine mts (SpecsOk.nil _) Tryz.func57 (λx=>xm6 x.1 x.2.1) ?_
 rintro⟨a,b,⟨⟩⟩ h
 revert a b
 intro(a:List Int) (b:List Int) (h:w86 a b)
 refine vcs (∃(v0:Unit),∃(v1:Nat),Nat.le v1 a.length/\(((0:Int)=qh1 a b v1/\(0:Int)=(↑v1:Int)/\True)/\True)/\∀(v2:Nat),Nat.le v2 a.length->(decide ((↑v2:Int)<(↑a.length:Int))=true->((0:Int)<=(↑v2:Int)/\(↑v2:Int)<(↑a.length:Int))/\((0:Int)<=(↑v2:Int)/\(↑v2:Int)<(↑b.length:Int))/\fits .i64 (nI a v2*nI b v2)/\fits .i64 (qh1 a b v2+nI a v2*nI b v2)/\fits .i64 ((↑v2:Int)+(1:Int))/\∃(v5:Nat),Nat.le v5 a.length/\a.length-v5<a.length-v2/\(qh1 a b v2+nI a v2*nI b v2=qh1 a b v5/\(↑v2:Int)+(1:Int)=(↑v5:Int)/\True)/\True)/\(decide ((↑v2:Int)<(↑a.length:Int))=false->qh1 a b v2=qh1 a b a.length)) ?_
 have hl:=h.len
 have hle:=h.le
 refine⟨(),0,zae _,⟨rfl,rfl⟩,λk hk=>⟨λhlt=>?_,λhge=>?_⟩⟩
 ·have h1:=w1x h k hk
  have h2:=wo3 (h.sa k hlt) (h.sb k hlt)
  unfold qd8 at h1 h2
  exact⟨hlt,ow,qa7,qa7,qa7,k+1,hlt,ow,rfl,ow⟩
 grind
abbrev x5k:qa8:=hspec [] true none [.cap qf8] [qb9] (λx=>0<x.1.length) (λx=>((nL x.1 0).length,()))
theorem w4v:Meets Tryz.prog 102 x5k:=by
 refine qi4 (SpecsOk.nil _) (snd (SpecsOk.nil _)) Tryz.func102 rfl rfl (λ_ _=>none) (λ_=>by kernel_rfl) dc ?_
 rintro⟨m,⟨⟩⟩ h
 revert m
 intro(m:List (List Int)) (h:0<m.length)
 refine vcs (((0:Int)<=(0:Int)/\(0:Int)<(↑m.length:Int))/\(↑(nL m (0:Nat)).length:Int)=(↑(nL m (0:Nat)).length:Int)) ?_
 omega
abbrev x5l:qa8:=hspec [] true none [.d qb9,.cap qb9] [.bool] (λx=>qd8 BIG x.2.1) (λx=>(inB x.1 (0-x.2.1) x.2.1,()))
theorem w4w:Meets Tryz.prog 143 x5l:=by
 refine qi4 (SpecsOk.nil _) (snd (SpecsOk.cons qs1 (SpecsOk.nil _))) Tryz.func143 rfl rfl (λ_ _=>none) (λ_=>by kernel_rfl) dc ?_
 rintro⟨n,k,⟨⟩⟩ h
 revert n k
 intro(n:Int) (k:Int) (h:qd8 BIG k)
 refine vcs (fits .i64 ((0:Int)-k)/\True/\inB n ((0:Int)-k) k=inB n ((0:Int)-k) k) ?_
 unfold qd8 BIG at h
 grind [qa7]
def w51 (m:List (List Int)) (l:List Int) (n k:Int):Int:=if qb6 m=false then 1 else if(l.length:Int)≠n then 9 else if(l.all λe=>inB e (0-k) k)=false then 7 else 0
abbrev yo9 (fs:List (Nat × qa8)):qa8:=hspec fs true none [.d qf8,.d qd4,.fn [] qb9,.d qb9] [qb9] (λx=>(qb6 x.1=true->x.2.2.1.1 ())/\qd8 BIG x.2.2.2.1/\x.2.1.length<=1000000) (λx=>(w51 x.1 x.2.1 (x.2.2.1.2 ()) x.2.2.2.1,()))
theorem w87 {fs:List (Nat × qa8)} (hfs:SpecsOk Tryz.prog fs):Meets Tryz.prog 101 (yo9 fs):=by
 refine qi4 hfs (snd (SpecsOk.cons qq3 (SpecsOk.cons (q9i (fs:=[(143,x5l)]) (SpecsOk.cons w4w (SpecsOk.nil _))) (SpecsOk.nil _)))) Tryz.func101 rfl rfl (λ_ _=>none) (λ_=>by kernel_rfl) dc ?_
 rintro⟨m,l,⟨p,f⟩,k,⟨⟩⟩ h
 revert m l p f k
 intro(m:List (List Int)) (l:List Int) (p:qa3 []->Prop) (f:qa3 []->Int) (k:Int) (h:(qb6 m=true->p ())/\qd8 BIG k/\l.length<=1000000)
 refine vcs (True/\((!qb6 m)=true->(1:Int)=w51 m l (f ()) k)/\((!qb6 m)=false->p ()/\(((↑l.length:Int) != f ())=true->(9:Int)=w51 m l (f ()) k)/\(((↑l.length:Int) != f ())=false->∃(v2:qa3 [qb9]->Prop),∃(v3:qa3 [qb9]->Bool),(∀(v4:Int × qa3._f [] PUnit.unit),v2 v4->qd8 BIG k/\inB v4.1 ((0:Int)-k) k=v3 v4)/\(l.length<=(1000000:Nat)/\∀(v4:Nat),v4<l.length->v2 (nI l v4,()))/\((!List.all l λ(v5:Int)=>v3 (v5,()))=true->(7:Int)=w51 m l (f ()) k)/\((!List.all l λ(v5:Int)=>v3 (v5,()))=false->(0:Int)=w51 m l (f ()) k)))) ?_
 obtain⟨h1,h2,h3⟩:=h
 refine⟨λhv=>by grind [w51],λhv=>⟨h1 hv,λhl=>by grind [w51],λhl=>⟨λ_=>True,λx=>inB x.1 (0-k) k,λ_ _=>⟨h2,rfl⟩,⟨h3,λ_ _=>trivial⟩,λha=>?_,λha=>?_⟩⟩⟩
 all_goals simp_all [w51,if_neg,if_pos]
def w88 (m:List (List Int)) (x:List Int):Int:=w51 m x (nL m 0).length 1000000
abbrev yp0:qa8:=qe4 true none [qf8,qd4] [qb9] (λx=>x.2.1.length<=1000000) (λx=>(w88 x.1 x.2.1,()))
theorem w89:Meets Tryz.prog 56 yp0:=by
 refine mt0 (SpecsOk.cons (w87 (fs:=[(102,x5k)]) (SpecsOk.cons w4v (SpecsOk.nil _))) (SpecsOk.nil _)) Tryz.func56 ?_
 rintro⟨m,x,⟨⟩⟩ h
 revert m x
 intro(m:List (List Int)) (x:List Int) (h:x.length<=1000000)
 refine vcs (∃(v0:qa3 []->Prop),∃(v1:qa3 []->Int),(∀(v2:Unit),v0 v2->(0:Nat)<m.length/\(↑(nL m (0:Nat)).length:Int)=v1 v2)/\((qb6 m=true->v0 ())/\qd8 BIG (1000000:Int)/\x.length<=(1000000:Nat))/\w51 m x (v1 ()) (1000000:Int)=w88 m x) ?_
 exact⟨λ_=>0<m.length,λ_=>((nL m 0).length:Int),λ_ hp=>⟨hp,rfl⟩,⟨λhv=>by have:=(Mk.of hv).rows1; omega,⟨dc,dc⟩,h⟩,rfl⟩
structure Shw (m:List (List Int)) (x:List Int):Prop where
 msk:Mk m
 val:qb6 m=true
 len:x.length=(nL m 0).length
 bd:∀i,i<x.length->qd8 1000000 (nI x i)
theorem Shw.of {m:List (List Int)} {x:List Int} (h:w88 m x=0):Shw m x:=by
 unfold w88 w51 at h
 split at h
 ·cases h
 ·rename_i hv
  have hv:qb6 m=true:=by grind
  split at h
  ·cases h
  ·rename_i hl
   split at h
   ·cases h
   ·rename_i ha
    have ha:(x.all λe=>inB e (0-1000000) 1000000)=true:=by grind
    refine⟨Mk.of hv,hv,ow,λi hi=>?_⟩
    have:=qf9.1 (zaq.1 ha (nI x i) (by grind [qf2,List.getElem_mem]))
    omega
theorem Shw.dot {m:List (List Int)} {x:List Int} (h:Shw m x) (k:Nat) (hk:k<m.length):w86 (nL m k) x:=by
 have h1:=h.msk.each k hk
 have h2:=h.msk.pix10
 have h3:=h.len
 exact⟨ow,ow,λi hi=>h.msk.small k hk i ow,λi hi=>h.bd i ow⟩
def qu0 (m:List (List Int)) (x:List Int):List Int:=(List.range m.length).map λi=>qh1 (nL m i) x (nL m i).length
def qs4 (m:List (List Int)) (x:List Int):List Int × Int:=if w88 m x=0 then(qu0 m x,0) else([],w88 m x)
abbrev x9z:qa8:=qe4 true none [qf8,qd4] [qd4,qb9] (λx=>x.2.1.length<=1000000) (λx=>((qs4 x.1 x.2.1).1,(qs4 x.1 x.2.1).2,()))
def x5m (m:List (List Int)) (x:List Int):Nat->Option Inv
 | 0=>some (Inv.of [7,18] 1 (λk:Nat=>[(7,.own 0),(18,.lit (.int .i64 k))]) (λk=>[.vec 3 (.int .i64) ((qu0 m x).take k)]) (λk=>k<=m.length) (λk=>m.length-k))
 | _=>none
theorem q9r:Meets Tryz.prog 15 x9z:=by
 refine mts (SpecsOk.cons w89 (SpecsOk.cons wo4 (SpecsOk.nil _))) Tryz.func15 (λx=>x5m x.1 x.2.1) ?_
 rintro⟨m,x,⟨⟩⟩ h
 revert m x
 intro(m:List (List Int)) (x:List Int) (h:x.length<=1000000)
 refine vcs (let Q0:=qu0 m x; let Q1:=qs4 m x; x.length<=(1000000:Nat)/\((w88 m x != (0:Int))=true->Q1.1=[]/\w88 m x=Q1.2/\True)/\((w88 m x != (0:Int))=false->∃(v1:Unit),∃(v2:Nat),Nat.le v2 m.length/\((True/\(0:Int)=(↑v2:Int)/\True)/\List.take v2 Q0=[]/\True)/\∀(v3:Nat),Nat.le v3 m.length->(decide ((↑v3:Int)<(↑m.length:Int))=true->((0:Int)<=(↑v3:Int)/\(↑v3:Int)<(↑m.length:Int))/\w86 (nL m v3) x/\((0:Nat)<List.length [qh1 (nL m v3) x (nL m v3).length]/\Nat.le ((List.take v3 Q0).length+List.length [qh1 (nL m v3) x (nL m v3).length]) (1000000:Nat))/\fits .i64 ((↑v3:Int)+(1:Int))/\∃(v6:Nat),Nat.le v6 m.length/\m.length-v6<m.length-v3/\(True/\(↑v3:Int)+(1:Int)=(↑v6:Int)/\True)/\List.take v3 Q0++[qh1 (nL m v3) x (nL m v3).length]=List.take v6 Q0/\True)/\(decide ((↑v3:Int)<(↑m.length:Int))=false->List.take v3 Q0=Q1.1/\(0:Int)=Q1.2/\True))) ?_
 refine⟨h,λhe=>by grind [qs4],λhe=>?_⟩
 have hS:=Shw.of he
 have hM:=hS.msk
 have h6:=hM.rows6
 have h10:=hM.pix10
 have hlen:(qu0 m x).length=m.length:=by simp[qu0]
 have hR:qs4 m x=(qu0 m x,0):=by grind [qs4]
 rw[hR]
 refine⟨(),0,zae _,⟨rfl,rfl⟩,λk hk=>⟨λhlt=>⟨hlt,hS.dot k hlt,by grind,qa7,k+1,hlt,ow,ow,?_⟩,λhge=>⟨zcg ow,rfl⟩⟩⟩
 grind [w8l,qf2,qu0]
def x92 (mats:List Nat) (specs:List (Nat × qa8)) (muts:List (Nat × MSpec)):Ctx:={ specs:=specs,tys:=tys,wr:=[],mats:=mats,muts:=muts }
theorem x94 (mats:List Nat) {specs:List (Nat × qa8)} {muts:List (Nat × MSpec)} (h:SpecsOk Tryz.prog specs) (hm:MutsOk muts):Sound Tryz.prog (x92 mats specs muts):=SpecsOk.sound h qz5 kr (hmu:=hm)
abbrev qp3:Ty:=.prod (.int .i64) (.prod (.int .i64) (.int .i64))
abbrev Flt:=Int × Int × Int
theorem wd7:Meets Tryz.prog 247 wc6:=by
 refine mt0 (SpecsOk.nil _) Tryz.func247 ?_
 rintro⟨n,lo,hi,⟨⟩⟩ -
 revert n lo hi
 intro(n:Int) (lo:Int) (hi:Int)
 refine vcs ((decide (lo<=n)=true->decide (n<=hi)=inB n lo hi)/\(decide (lo<=n)=false->false=inB n lo hi)) ?_
 grind [inB]
def w4x (m:List (List Int)) (f:Flt):Bool:=inB f.2.1 0 ((m.length:Int)-1)
def w4y (m:List (List Int)) (f:Flt):Bool:=inB f.2.2 0 (((nL m 0).length:Int)-1)
def xm7 (m:List (List Int)) (i j:Int):Int:=nI (nL m i.toNat) j.toNat
def fvB (m:List (List Int)) (f:Flt):Bool:=
 if f.1=0 then decide (f.2.1=0) && decide (f.2.2=0) else if f.1=1 then w4x m f && decide (f.2.2=0) else if f.1=2 then w4y m f && decide (f.2.1=0)
 else if f.1=3 then w4x m f && w4y m f && decide (xm7 m f.2.1 f.2.2≠0) else false
abbrev sFv:qa8:=qe4 true none [qf8,qp3] [.bool] (λx=>qb6 x.1=true) (λx=>(fvB x.1 x.2.1,()))
theorem wd8 (a b:Int):(a==b)=decide (a=b):=rfl
theorem xm8:Meets Tryz.prog 184 sFv:=by
 refine mt0 (SpecsOk.cons wd7 (SpecsOk.nil _)) Tryz.func184 ?_
 rintro⟨m,⟨kd,r,p⟩,⟨⟩⟩ hv
 revert m kd r p
 intro(m:List (List Int)) (kd:Int) (r:Int) (p:Int) (hv:qb6 m=true)
 refine vcs (fits .i64 ((↑m.length:Int)-(1:Int))/\True/\((0:Int)<=(0:Int)/\(0:Int)<(↑m.length:Int))/\fits .i64 ((↑(nL m (0:Nat)).length:Int)-(1:Int))/\True/\((kd==(0:Int))=true->(kd==(0:Int) && (r==(0:Int) && p==(0:Int)))=fvB m (kd,r,p))/\((kd==(0:Int))=false->((kd==(1:Int))=true->(inB r (0:Int) ((↑m.length:Int)-(1:Int))=true->(p==(0:Int))=fvB m (kd,r,p))/\(inB r (0:Int) ((↑m.length:Int)-(1:Int))=false->false=fvB m (kd,r,p)))/\((kd==(1:Int))=false->((kd==(2:Int))=true->(inB p (0:Int) ((↑(nL m (0:Nat)).length:Int)-(1:Int))=true->(r==(0:Int))=fvB m (kd,r,p))/\(inB p (0:Int) ((↑(nL m (0:Nat)).length:Int)-(1:Int))=false->false=fvB m (kd,r,p)))/\((kd==(2:Int))=false->((kd==(3:Int))=true->(inB r (0:Int) ((↑m.length:Int)-(1:Int))=true->(inB p (0:Int) ((↑(nL m (0:Nat)).length:Int)-(1:Int))=true->((0:Int)<=r/\r<(↑m.length:Int))/\((0:Int)<=p/\p<(↑(nL m r.toNat).length:Int))/\(nI (nL m r.toNat) p.toNat != (0:Int))=fvB m (kd,r,p))/\(inB p (0:Int) ((↑(nL m (0:Nat)).length:Int)-(1:Int))=false->false=fvB m (kd,r,p)))/\(inB r (0:Int) ((↑m.length:Int)-(1:Int))=false->false=fvB m (kd,r,p)))/\((kd==(3:Int))=false->false=fvB m (kd,r,p)))))) ?_
 have hM:=Mk.of hv
 have m1:=hM.rows1
 have m6:=hM.rows6
 have p1:=hM.pix1
 have p10:=hM.pix10
 refine⟨qa7,ow,qa7,λh0=>?_,λh0=>⟨λh1=>?_,λh1=>⟨λh2=>?_,λh2=>⟨λh3=>?_,λh3=>?_⟩⟩⟩⟩
 ·simp_all [fvB,wd8]
 ·simp_all [fvB,w4x,wd8]
 ·simp_all [fvB,w4y,wd8]
 ·subst h3
  refine⟨λc=>⟨λd=>?_,λd=>by simp[fvB,w4y,d]⟩,λc=>by simp[fvB,w4x,c]⟩
  have c1:=qf9.1 c
  have d1:=qf9.1 d
  refine⟨ow,⟨d1.1,by rw[hM.each _ ow]; omega⟩,?_⟩
  simp[fvB,w4x,w4y,c,d,xm7,wd8]; grind
 grind [fvB]
def w9a (l:List Int):List Int:=List.replicate l.length 0
def ql7 (rows:List (List Int)) (p:Nat) (k:Nat):List (List Int):=(List.range rows.length).map λi=>if i<k then(nL rows i).set p 0 else nL rows i
def qq8 (rows:List (List Int)) (f:Flt):List (List Int):=
 if f.1=1 then rows.set f.2.1.toNat (w9a (nL rows f.2.1.toNat)) else if f.1=2 then ql7 rows f.2.2.toNat rows.length
 else if f.1=3 then rows.set f.2.1.toNat ((nL rows f.2.1.toNat).set f.2.2.toNat (-(xm7 rows f.2.1 f.2.2))) else rows
structure DeedPre (rows:List (List Int)) (f:Flt) (k:Int):Prop where
 kind:f.1=k
 valid:qb6 rows=true
 ok:fvB rows f=true
theorem DeedPre.row {rows:List (List Int)} {kd r p k:Int} (h:DeedPre rows (kd,r,p) k) (hk:kd=1\/kd=3):0<=r/\r<=(rows.length:Int)-1:=by
 have h1:=h.ok
 unfold fvB w4x at h1
 rcases hk with rfl | rfl <;> simp at h1
 all_goals grind [qf9]
theorem DeedPre.pix {rows:List (List Int)} {kd r p k:Int} (h:DeedPre rows (kd,r,p) k) (hk:kd=2\/kd=3):0<=p/\p<=((nL rows 0).length:Int)-1:=by
 have h1:=h.ok
 unfold fvB w4y at h1
 rcases hk with rfl | rfl <;> simp at h1
 all_goals grind [qf9]
abbrev x5n:MSpec:=q4e (q0m [qp3]) true false 24 3 (.int .i64) (λrows x=>DeedPre rows x.1 0) (λ_ _=>.tup .nil) (λrows x=>qq8 rows x.1)
abbrev x5o:MSpec:=q4e (q0m [qp3]) true false 24 3 (.int .i64) (λrows x=>DeedPre rows x.1 1) (λ_ _=>.tup .nil) (λrows x=>qq8 rows x.1)
abbrev x5p:MSpec:=q4e (q0m [qp3]) true false 24 3 (.int .i64) (λrows x=>DeedPre rows x.1 2) (λ_ _=>.tup .nil) (λrows x=>qq8 rows x.1)
abbrev x5q:MSpec:=q4e (q0m [qp3]) true false 24 3 (.int .i64) (λrows x=>DeedPre rows x.1 3) (λ_ _=>.tup .nil) (λrows x=>qq8 rows x.1)
theorem wx1:qo6 Tryz.prog 249 x5n:=by
 refine q0q (snd (SpecsOk.nil _)) Tryz.func249 rfl rfl (ql4 [qp3]) (λT rows x=>λ_=>none) (λ_ _ _=>by kernel_rfl) dc ?_ rfl
 rintro T rows ⟨⟨kd,r,p⟩,⟨⟩⟩ h -
 revert rows kd r p
 intro(rows:List (List Int)) (kd:Int) (r:Int) (p:Int) (h:DeedPre rows (kd,r,p) 0)
 refine vcs (rows=qq8 rows (kd,r,p)/\T=T/\True/\True) ?_
 obtain rfl:kd=0:=h.kind
 rfl
theorem wx2:qo6 Tryz.prog 250 x5o:=by
 refine q0q (snd (SpecsOk.nil _)) Tryz.func250 rfl rfl (ql4 [qp3]) (λT rows x=>λ_=>none) (λ_ _ _=>by kernel_rfl) dc ?_ rfl
 rintro T rows ⟨⟨kd,r,p⟩,⟨⟩⟩ h -
 revert rows kd r p
 intro(rows:List (List Int)) (kd:Int) (r:Int) (p:Int) (h:DeedPre rows (kd,r,p) 1)
 refine vcs (let Q0:=qe6 (ql6 true) r.toNat; ((0:Int)<=r/\r<(↑(qe0 rows.length (ql6 true)):Int))/\r.toNat<qe0 rows.length (ql6 true)/\List.set rows Q0 (List.replicate (nL rows Q0).length (0:Int))=qq8 rows (kd,r,p)/\T=T/\True/\True) ?_
 obtain rfl:kd=1:=h.kind
 have hr:0<=r/\r<=(rows.length:Int)-1:=h.row (.inl rfl)
 grind [ql6,qe0,qe6,qq8,w9a]
abbrev xw5 (f:Flt):AObj:=.box 170 (.cons (.lit (.int .i64 f.1)) (.cons (.lit (.int .i64 f.2.1)) (.cons (.lit (.int .i64 f.2.2)) .nil)))
def x5r (T:q2v) (rows:List (List Int)) (f:Flt):Nat->Option Inv
 | 0=>some (Inv.of [6,8] 2 (λk:Nat=>[(6,.msl 0 .none),(8,.lit (.int .i64 k))]) (λk=>[.mat 24 3 (.int .i64) (ql7 rows f.2.2.toNat k) .none (some T),xw5 f]) (λk=>k<=rows.length) (λk=>rows.length-k))
 | _=>none
theorem q6a (rows:List (List Int)) (p k:Nat):(ql7 rows p k).length=rows.length:=by simp[ql7]
theorem w9b {rows:List (List Int)} {p k i:Nat} (h:i<rows.length):nL (ql7 rows p k) i=if i<k then(nL rows i).set p 0 else nL rows i:=by
 grind [qk3,q6a,ql7]
theorem w9c (rows:List (List Int)) (p:Nat):ql7 rows p 0=rows:=by
 grind [List.ext_getElem,q6a,ql7,qk3]
theorem xm9 {rows:List (List Int)} {p k:Nat} (hk:k<rows.length):(ql7 rows p k).set k ((nL (ql7 rows p k) k).set p 0)=ql7 rows p (k+1):=by
 rw[w9b hk,zai (zbf k)]
 apply zbo (by grind [List.length_set,q6a])
 intro i h1 h2
 rw[zcc]
 simp only[ql7,List.getElem_map,List.getElem_range]
 grind
theorem wx3:qo6 Tryz.prog 251 x5p:=by
 refine q0q (snd (SpecsOk.nil _)) Tryz.func251 rfl rfl (ql4 [qp3]) (λT rows x=>x5r T rows x.1) (λ_ _ _=>by kernel_rfl) dc ?_ rfl
 rintro T rows ⟨⟨kd,r,p⟩,⟨⟩⟩ h -
 revert rows kd r p
 intro(rows:List (List Int)) (kd:Int) (r:Int) (p:Int) (h:DeedPre rows (kd,r,p) 2)
 refine vcs (let Q0:=qe0 rows.length (ql6 true); ∃(v0:Unit),∃(v1:Nat),Nat.le v1 rows.length/\((True/\(0:Int)=(↑v1:Int)/\True)/\(rows=ql7 rows p.toNat v1/\True/\T=T)/\(kd=kd/\r=r/\p=p/\True)/\True)/\∀(v2:Nat),Nat.le v2 rows.length->(decide ((↑v2:Int)<(↑Q0:Int))=true->((0:Int)<=(↑v2:Int)/\(↑v2:Int)<(↑(qe0 (ql7 rows p.toNat v2).length none):Int))/\v2<qe0 (ql7 rows p.toNat v2).length none/\((0:Int)<=p/\p<(↑(nL (ql7 rows p.toNat v2) (qe6 none v2)).length:Int))/\p.toNat<(nL (ql7 rows p.toNat v2) (qe6 none v2)).length/\fits .i64 ((↑v2:Int)+(1:Int))/\∃(v5:Nat),Nat.le v5 rows.length/\rows.length-v5<rows.length-v2/\(True/\(↑v2:Int)+(1:Int)=(↑v5:Int)/\True)/\(List.set (ql7 rows p.toNat v2) (qe6 none v2) (List.set (nL (ql7 rows p.toNat v2) (qe6 none v2)) p.toNat (0:Int))=ql7 rows p.toNat v5/\True/\T=T)/\(kd=kd/\r=r/\p=p/\True)/\True)/\(decide ((↑v2:Int)<(↑Q0:Int))=false->ql7 rows p.toNat v2=qq8 rows (kd,r,p)/\T=T/\True/\True)) ?_
 obtain rfl:kd=2:=h.kind
 have hM:=Mk.of h.valid
 have m6:=hM.rows6
 have hp:0<=p/\p<=((nL rows 0).length:Int)-1:=h.pix (.inl rfl)
 simp only[ql6,qe0,qe6,q6a]
 refine⟨(),0,zae _,⟨rfl,(w9c _ _).symm⟩,λk hk=>⟨λhlt=>?_,λhge=>?_⟩⟩
 ·have hl:=hM.each k hlt
  have e:nL (ql7 rows p.toNat k) k=nL rows k:=by rw[w9b hlt,zai (zbf k)]
  grind [qa7,xm9]
 ·obtain rfl:k=rows.length:=ow
  rfl
theorem wx4:qo6 Tryz.prog 252 x5q:=by
 refine q0q (snd (SpecsOk.nil _)) Tryz.func252 rfl rfl (ql4 [qp3]) (λT rows x=>λ_=>none) (λ_ _ _=>by kernel_rfl) dc ?_ rfl
 rintro T rows ⟨⟨kd,r,p⟩,⟨⟩⟩ h -
 revert rows kd r p
 intro(rows:List (List Int)) (kd:Int) (r:Int) (p:Int) (h:DeedPre rows (kd,r,p) 3)
 refine vcs (let Q0:=nL rows (qe6 (ql6 true) r.toNat); let Q1:=ql6 true; ((0:Int)<=r/\r<(↑(qe0 rows.length Q1):Int))/\r.toNat<qe0 rows.length Q1/\((0:Int)<=p/\p<(↑Q0.length:Int))/\p.toNat<Q0.length/\fits .i64 (nI Q0 p.toNat*(-1:Int))/\((0:Int)<=p/\p<(↑Q0.length:Int))/\p.toNat<Q0.length/\List.set rows (qe6 Q1 r.toNat) (List.set Q0 p.toNat (nI Q0 p.toNat*(-1:Int)))=qq8 rows (kd,r,p)/\T=T/\True/\True) ?_
 obtain rfl:kd=3:=h.kind
 have hM:=Mk.of h.valid
 have hr:0<=r/\r<=(rows.length:Int)-1:=h.row (.inr rfl)
 have hp:0<=p/\p<=((nL rows 0).length:Int)-1:=h.pix (.inr rfl)
 have hl:=hM.each r.toNat ow
 have hs:=hM.small r.toNat ow p.toNat ow
 simp only[ql6,qe0,qe6]
 grind [nI,nL,qa7,qq8,xm7]
abbrev x5s:qa8:=q68 false none [] (λ_=>True) (λ_=>.agg (.cons (.clo 249 .nil) (.cons (.clo 250 .nil) (.cons (.clo 251 .nil) (.cons (.clo 252 .nil) .nil)))))
theorem wx5:Meets Tryz.prog 187 x5s:=by
 refine q0o (snd (SpecsOk.nil _)) Tryz.func187 rfl rfl (λ_ _=>none) (λ_=>by kernel_rfl) dc ?_
 rintro⟨⟩ -
 refine vcr (True/\True/\True/\True/\True) ?_
 simp
structure w9d (m:List (List Int)) (f:Flt):Prop where
 valid:qb6 m=true
 ok:fvB m f=true
abbrev yp1:qa8:=q8o (q0m [qf8,qp3]) true (some 24) (some 3) (λx=>w9d x.1 x.2.1) (λx=>.dat (.list (.int .i64)) (qq8 x.1 x.2.1))
def x97 (m:List (List Int)) (f:Flt):Nat->Option Inv
 | 0=>some (Inv.of [5,10] 2 (λk:Nat=>[(5,.msl 1 .none),(10,.lit (.int .i64 k))]) (λk=>[xw5 f,.mat 24 3 (.int .i64) (m.take k) .none .none]) (λk=>k<=m.length) (λk=>m.length-k))
 | _=>none
theorem kd3 {kd:Int} (h0:¬kd=↑0) (h1:¬kd=↑1) (h2:¬kd=↑2) (h:kd=0\/kd=1\/kd=2\/kd=3):kd=↑3:=by
 omega
theorem w9e:Meets Tryz.prog 140 yp1:=by
 refine q9c (x94 [17] (SpecsOk.cons q2m (SpecsOk.cons wx5 (SpecsOk.nil _))) (MutsOk.cons wx1 (MutsOk.cons wx2 (MutsOk.cons wx3 (MutsOk.cons wx4 MutsOk.nil))))) Tryz.func140 rfl rfl (ql4 _) (λx=>x97 x.1 x.2.1) (λ_=>by kernel_rfl) dc ?_
 rintro⟨m,⟨kd,r,p⟩,⟨⟩⟩ h
 revert m kd r p
 intro(m:List (List Int)) (kd:Int) (r:Int) (p:Int) (h:w9d m (kd,r,p))
 refine vcs (∃(v0:Unit),∃(v1:Nat),Nat.le v1 m.length/\((True/\(0:Int)=(↑v1:Int)/\True)/\(kd=kd/\r=r/\p=p/\True)/\List.take v1 m=[]/\True)/\∀(v2:Nat),Nat.le v2 m.length->(decide ((↑v2:Int)<(↑m.length:Int))=true->((0:Int)<=(↑v2:Int)/\(↑v2:Int)<(↑m.length:Int))/\(nL m v2).length<=(100000:Nat)/\((0:Nat)<(0:Nat)+(1:Nat)/\(List.take v2 m).length+((0:Nat)+(1:Nat))<=(1000000:Nat))/\fits .i64 ((↑v2:Int)+(1:Int))/\∃(v5:Nat),Nat.le v5 m.length/\m.length-v5<m.length-v2/\(True/\(↑v2:Int)+(1:Int)=(↑v5:Int)/\True)/\(kd=kd/\r=r/\p=p/\True)/\(List.take v2 m++[nL m v2]=List.take v5 m/\True/\True)/\True)/\(decide ((↑v2:Int)<(↑m.length:Int))=false->True/\(decide (kd=(↑(0:Nat):Int))=true->DeedPre (List.take v2 m) (kd,r,p) (0:Int)/\qq8 (List.take v2 m) (kd,r,p)=qq8 m (kd,r,p))/\(decide (kd=(↑(0:Nat):Int))=false->(decide (kd=(↑(1:Nat):Int))=true->DeedPre (List.take v2 m) (kd,r,p) (1:Int)/\qq8 (List.take v2 m) (kd,r,p)=qq8 m (kd,r,p))/\(decide (kd=(↑(1:Nat):Int))=false->(decide (kd=(↑(2:Nat):Int))=true->DeedPre (List.take v2 m) (kd,r,p) (2:Int)/\qq8 (List.take v2 m) (kd,r,p)=qq8 m (kd,r,p))/\(decide (kd=(↑(2:Nat):Int))=false->kd=(↑(3:Nat):Int)/\DeedPre (List.take v2 m) (kd,r,p) (3:Int)/\qq8 (List.take v2 m) (kd,r,p)=qq8 m (kd,r,p)))))) ?_
 have hM:=Mk.of h.valid
 have m6:=hM.rows6
 have p10:=hM.pix10
 refine⟨(),0,zae _,⟨rfl,rfl⟩,λk hk=>⟨λhlt=>?_,λhge=>?_⟩⟩
 ·have hl:=hM.each k hlt
  exact⟨hlt,ow,by grind,qa7,k+1,hlt,ow,by rfl,(q1g m k hlt).symm⟩
 ·rw[zcg ow]
  have hkd:kd=0\/kd=1\/kd=2\/kd=3:=by
   have h1:=h.ok
   grind [fvB]
  exact⟨λe=>⟨⟨e,h.valid,h.ok⟩,rfl⟩,λn0=>⟨λe=>⟨⟨e,h.valid,h.ok⟩,rfl⟩,λn1=>⟨λe=>⟨⟨e,h.valid,h.ok⟩,rfl⟩,λn2=>⟨kd3 n0 n1 n2 hkd,⟨kd3 n0 n1 n2 hkd,h.valid,h.ok⟩,rfl⟩⟩⟩⟩
open Go Go.Proofs Go.RowKit Eng
abbrev qq9:Ty:=.prod (.int .i64) (.int .i64)
abbrev q7t:Ty:=.prod (.list (.int .i64)) (.prod (.int .i64) (.int .i64))
abbrev Cll:=List Int × Int × Int
abbrev yp2 (fs:List (Nat × qa8)):qa8:=hspec fs true none [.d (.list (.prod (.list (.int .i64)) (.prod (.int .i64) (.int .i64)))),.fn [.prod (.list (.int .i64)) (.prod (.int .i64) (.int .i64))] .bool] [qb9] (λx=>x.1.length<=1000000/\∀i,i<x.1.length->x.2.1.1 (qe5 (.prod (.list (.int .i64)) (.prod (.int .i64) (.int .i64))) x.1 i,())) (λx=>(ixT (.prod (.list (.int .i64)) (.prod (.int .i64) (.int .i64))) (λe=>x.2.1.2 (e,())) x.1,()))
theorem w9f {fs:List (Nat × qa8)} (hfs:SpecsOk Tryz.prog fs):Meets Tryz.prog 142 (yp2 fs):=by
 refine qi4 hfs (snd (SpecsOk.nil _)) Tryz.func142 rfl rfl (λx=>x47 (.prod (.list (.int .i64)) (.prod (.int .i64) (.int .i64))) x.1 (λe=>x.2.1.2 (e,()))) (λ_=>by kernel_rfl) dc ?_
 rintro⟨l,⟨p,f⟩,⟨⟩⟩ h
 revert l p f
 intro(l:List (Ty.den (.prod (.list (.int .i64)) (.prod (.int .i64) (.int .i64))))) (p:qa3 [.prod (.list (.int .i64)) (.prod (.int .i64) (.int .i64))]->Prop) (f:qa3 [.prod (.list (.int .i64)) (.prod (.int .i64) (.int .i64))]->Bool) (h:l.length<=1000000/\∀i,i<l.length->p (qe5 (.prod (.list (.int .i64)) (.prod (.int .i64) (.int .i64))) l i,()))
 refine vcs (∃(v0:Unit),∃(v1:Nat),(v1<=l.length/\∀(v2:Nat),Nat.le (Nat.succ v2) v1->f (qe5 (Ty.prod (Ty.list (Ty.int .i64)) (Ty.prod (Ty.int .i64) (Ty.int .i64))) l v2,())=false)/\(((0:Int)=(↑v1:Int)/\True)/\True)/\∀(v2:Nat),(v2<=l.length/\∀(v4:Nat),Nat.le (Nat.succ v4) v2->f (qe5 (Ty.prod (Ty.list (Ty.int .i64)) (Ty.prod (Ty.int .i64) (Ty.int .i64))) l v4,())=false)->(decide ((↑v2:Int)<(↑l.length:Int))=true->((0:Int)<=(↑v2:Int)/\(↑v2:Int)<(↑l.length:Int))/\p (((qe5 (Ty.prod (Ty.list (Ty.int .i64)) (Ty.prod (Ty.int .i64) (Ty.int .i64))) l v2).1,(qe5 (Ty.prod (Ty.list (Ty.int .i64)) (Ty.prod (Ty.int .i64) (Ty.int .i64))) l v2).2.1,(qe5 (Ty.prod (Ty.list (Ty.int .i64)) (Ty.prod (Ty.int .i64) (Ty.int .i64))) l v2).2.2),())/\(f (((qe5 (Ty.prod (Ty.list (Ty.int .i64)) (Ty.prod (Ty.int .i64) (Ty.int .i64))) l v2).1,(qe5 (Ty.prod (Ty.list (Ty.int .i64)) (Ty.prod (Ty.int .i64) (Ty.int .i64))) l v2).2.1,(qe5 (Ty.prod (Ty.list (Ty.int .i64)) (Ty.prod (Ty.int .i64) (Ty.int .i64))) l v2).2.2),())=true->(↑v2:Int)=ixT (Ty.prod (Ty.list (Ty.int .i64)) (Ty.prod (Ty.int .i64) (Ty.int .i64))) (λ(v6:List Int × Int × Int)=>f (v6,())) l)/\(f (((qe5 (Ty.prod (Ty.list (Ty.int .i64)) (Ty.prod (Ty.int .i64) (Ty.int .i64))) l v2).1,(qe5 (Ty.prod (Ty.list (Ty.int .i64)) (Ty.prod (Ty.int .i64) (Ty.int .i64))) l v2).2.1,(qe5 (Ty.prod (Ty.list (Ty.int .i64)) (Ty.prod (Ty.int .i64) (Ty.int .i64))) l v2).2.2),())=false->fits .i64 ((↑v2:Int)+(1:Int))/\∃(v6:Nat),(v6<=l.length/\∀(v7:Nat),Nat.le (Nat.succ v7) v6->f (qe5 (Ty.prod (Ty.list (Ty.int .i64)) (Ty.prod (Ty.int .i64) (Ty.int .i64))) l v7,())=false)/\l.length-v6<l.length-v2/\((↑v2:Int)+(1:Int)=(↑v6:Int)/\True)/\True))/\(decide ((↑v2:Int)<(↑l.length:Int))=false->(-1:Int)=ixT (Ty.prod (Ty.list (Ty.int .i64)) (Ty.prod (Ty.int .i64) (Ty.int .i64))) (λ(v5:List Int × Int × Int)=>f (v5,())) l)) ?_
 obtain⟨hl,hp⟩:=h
 refine⟨(),0,⟨zae _,λi hi=>absurd hi ow⟩,rfl,λk ⟨hk,hall⟩=>?_⟩
 refine⟨λhlt=>⟨hlt,hp k hlt,λhf=>(q7f (.prod (.list (.int .i64)) (.prod (.int .i64) (.int .i64))) (λe=>f (e,())) l k hlt hall hf).symm,λhf=>⟨qa7,k+1,⟨ow,λi hi=>?_⟩,ow,ow⟩⟩,λhge=>(q1d (.prod (.list (.int .i64)) (.prod (.int .i64) (.int .i64))) (λe=>f (e,())) l λi hi=>hall i ow).symm⟩
 by_cases e:i=k
 ·subst e; exact hf
 ·exact hall i ow
abbrev yp3 (fs:List (Nat × qa8)):qa8:=hspec fs true none [.d (.list (.prod (.list (.int .i64)) (.prod (.int .i64) (.int .i64)))),.fn [.prod (.list (.int .i64)) (.prod (.int .i64) (.int .i64))] .bool] [.bool] (λx=>x.1.length<=1000000/\∀i,i<x.1.length->x.2.1.1 (qe5 (.prod (.list (.int .i64)) (.prod (.int .i64) (.int .i64))) x.1 i,())) (λx=>(x.1.any λe=>x.2.1.2 (e,()),()))
theorem wo5 {fs:List (Nat × qa8)} (hfs:SpecsOk Tryz.prog fs):Meets Tryz.prog 95 (yp3 fs):=by
 refine qi4 hfs (snd (SpecsOk.cons (w9f (fs:=fs) hfs) (SpecsOk.nil _))) Tryz.func95 rfl rfl (λx=>λ_=>none) (λ_=>by kernel_rfl) dc ?_
 rintro⟨l,⟨p,f⟩,⟨⟩⟩ h
 revert l p f
 intro(l:List (Ty.den (.prod (.list (.int .i64)) (.prod (.int .i64) (.int .i64))))) (p:qa3 [.prod (.list (.int .i64)) (.prod (.int .i64) (.int .i64))]->Prop) (f:qa3 [.prod (.list (.int .i64)) (.prod (.int .i64) (.int .i64))]->Bool) (h:l.length<=1000000/\∀i,i<l.length->p (qe5 (.prod (.list (.int .i64)) (.prod (.int .i64) (.int .i64))) l i,()))
 refine vcs (∃(v0:qa3 [Ty.prod (Ty.list (Ty.int .i64)) (Ty.prod (Ty.int .i64) (Ty.int .i64))]->Prop),∃(v1:qa3 [Ty.prod (Ty.list (Ty.int .i64)) (Ty.prod (Ty.int .i64) (Ty.int .i64))]->Bool),([Ty.prod (Ty.list (Ty.int .i64)) (Ty.prod (Ty.int .i64) (Ty.int .i64))]=[Ty.prod (Ty.list (Ty.int .i64)) (Ty.prod (Ty.int .i64) (Ty.int .i64))]/\Ty.bool=Ty.bool/\p ≍ v0/\f ≍ v1)/\(l.length<=(1000000:Nat)/\∀(v2:Nat),v2<l.length->v0 (qe5 (Ty.prod (Ty.list (Ty.int .i64)) (Ty.prod (Ty.int .i64) (Ty.int .i64))) l v2,()))/\decide ((0:Int)<=ixT (Ty.prod (Ty.list (Ty.int .i64)) (Ty.prod (Ty.int .i64) (Ty.int .i64))) (λ(v2:List Int × Int × Int)=>v1 (v2,())) l)=List.any l λ(v2:List Int × Int × Int)=>f (v2,())) ?_
 exact⟨p,f,⟨HEq.rfl,HEq.rfl⟩,h,qs6 (.prod (.list (.int .i64)) (.prod (.int .i64) (.int .i64))) (λe=>f (e,())) l⟩
abbrev sBW:qa8:=qe4 true none [qb9,qb9,qb9] [.bool] (λ_=>True) (λx=>(inB x.1 x.2.1 x.2.2.1,()))
theorem q1o:Meets Tryz.prog 45 sBW:=by
 refine mt0 (SpecsOk.nil _) Tryz.func45 ?_
 rintro⟨n,a,b,⟨⟩⟩ -
 revert n a b
 intro(n:Int) (a:Int) (b:Int)
 refine vcs ((decide (a<=n)=true->decide (n<=b)=inB n a b)/\(decide (a<=n)=false->false=inB n a b)) ?_
 unfold inB
 refine⟨λh=>?_,λh=>?_⟩
 ·rw[zbk (show a<=n by omega)]; rfl
 ·rw[zbr (show ¬a<=n by omega)]; rfl
def vfB (P T:Int):Bool:=inB P 1 8 && inB T 0 3
abbrev sVF:qa8:=qe4 true none [qq9] [.bool] (λ_=>True) (λx=>(vfB x.1.1 x.1.2,()))
theorem w1y:Meets Tryz.prog 93 sVF:=by
 refine mt0 (SpecsOk.cons q1o (SpecsOk.nil _)) Tryz.func93 ?_
 rintro⟨⟨p,t⟩,⟨⟩⟩ -
 revert p t
 intro(p:Int) (t:Int)
 refine vcs (True/\(inB p (1:Int) (8:Int)=true->True/\inB t (0:Int) (3:Int)=vfB p t)/\(inB p (1:Int) (8:Int)=false->false=vfB p t)) ?_
 unfold vfB
 refine⟨λh=>?_,λh=>?_⟩ <;> rw[h] <;> rfl
abbrev yi9:qa8:=hspec [] true none [.d qb9] [.bool] (λ_=>True) (λx=>(!(inB x.1 (-1) 1),()))
theorem w9g:Meets Tryz.prog 141 yi9:=by
 refine qi4 (SpecsOk.nil _) (snd (SpecsOk.cons q1o (SpecsOk.nil _))) Tryz.func141 rfl rfl (λ_ _=>none) (λ_=>by kernel_rfl) dc ?_
 rintro⟨n,⟨⟩⟩ -
 revert n
 intro(n:Int)
 exact vct (True/\(!inB n (-1:Int) (1:Int))=!inB n (-1:Int) (1:Int))
def vrB (P:Int) (r:List Int):Bool:=decide ((r.length:Int)=P) && r.all λn=>inB n (-1) 1
abbrev sVR:qa8:=qe4 true none [qb9,qd4] [.bool] (λx=>x.2.1.length<=1000000) (λx=>(vrB x.1 x.2.1,()))
theorem w1z:Meets Tryz.prog 94 sVR:=by
 refine mt0 (SpecsOk.cons (qw4 (fs:=[(141,yi9)]) (SpecsOk.cons w9g (SpecsOk.nil _))) (SpecsOk.nil _)) Tryz.func94 ?_
 rintro⟨p,r,⟨⟩⟩ h
 revert p r
 intro(p:Int) (r:List Int) (h:r.length<=1000000)
 refine vcs ((((↑r.length:Int)==p)=true->∃(v1:qa3 [Ty.int .i64]->Prop),∃(v2:qa3 [Ty.int .i64]->Bool),(∀(v3:Int × qa3._f [] PUnit.unit),v1 v3->True/\(!inB v3.1 (-1:Int) (1:Int))=v2 v3)/\(r.length<=(1000000:Nat)/\∀(v3:Nat),v3<r.length->v1 (nI r v3,()))/\(!List.any r λ(v3:Int)=>v2 (v3,()))=vrB p r)/\(((↑r.length:Int)==p)=false->false=vrB p r)) ?_
 refine⟨λe=>⟨λ_=>True,λy=>!(inB y.1 (-1) 1),λ_ _=>(zb9 _).symm,⟨h,λ_ _=>trivial⟩,?_⟩,λe=>?_⟩
 ·unfold vrB; rw[zbk e]; simp[List.not_all_eq_any_not]
 ·unfold vrB; rw[zbr e]; rfl
def vcB (P:Int) (c:Cll):Bool:=vrB P c.1 && inB c.2.1 (-100) c.2.2 && decide (c.2.2<=100)
abbrev sVC:qa8:=qe4 true none [qb9,q7t] [.bool] (λx=>x.2.1.1.length<=1000000) (λx=>(vcB x.1 x.2.1,()))
theorem wo6:Meets Tryz.prog 49 sVC:=by
 refine mt0 (SpecsOk.cons q1o (SpecsOk.cons w1z (SpecsOk.nil _))) Tryz.func49 ?_
 rintro⟨p,⟨r,a,b⟩,⟨⟩⟩ h
 revert p r a b
 intro(p:Int) (r:List Int) (a:Int) (b:Int) (h:r.length<=1000000)
 refine vcs (r.length<=(1000000:Nat)/\(vrB p r=true->True/\(inB a (-100:Int) b=true->decide (b<=(100:Int))=vcB p (r,a,b))/\(inB a (-100:Int) b=false->false=vcB p (r,a,b)))/\(vrB p r=false->false=vcB p (r,a,b))) ?_
 refine⟨h,λh1=>⟨λh2=>?_,λh2=>?_⟩,λh1=>?_⟩ <;> simp_all [vcB]
abbrev yj0:qa8:=hspec [] true none [.d q7t,.cap qq9] [.bool] (λx=>x.1.1.length<=1000000) (λx=>(!(vcB x.2.1.1 x.1),()))
theorem w9h:Meets Tryz.prog 96 yj0:=by
 refine qi4 (SpecsOk.nil _) (snd (SpecsOk.cons wo6 (SpecsOk.nil _))) Tryz.func96 rfl rfl (λ_ _=>none) (λ_=>by kernel_rfl) dc ?_
 rintro⟨⟨r,a,b⟩,⟨p,t⟩,⟨⟩⟩ h
 revert r a b p t
 intro(r:List Int) (a:Int) (b:Int) (p:Int) (t:Int) (h:r.length<=1000000)
 refine vcs (r.length<=(1000000:Nat)/\(!vcB p (r,a,b))=!vcB p (r,a,b)) ?_
 exact h
def vsB (P T:Int) (c:List Cll):Bool:=vfB P T && decide (c.length<=30) && c.all λx=>vcB P x
abbrev nC' (l:List Cll) (i:Nat):Cll:=qe5 (.prod (.list (.int .i64)) (.prod (.int .i64) (.int .i64))) l i
def qn3 (l:List Cll):Prop:=∀i,i<l.length->(nC' l i).1.length<=1000000
abbrev sVS:qa8:=qe4 true none [qq9,.list q7t] [.bool] (λx=>qn3 x.2.1) (λx=>(vsB x.1.1 x.1.2 x.2.1,()))
theorem wd9:Meets Tryz.prog 50 sVS:=by
 refine mt0 (SpecsOk.cons w1y (SpecsOk.cons (wo5 (fs:=[(96,yj0)]) (SpecsOk.cons w9h (SpecsOk.nil _))) (SpecsOk.nil _))) Tryz.func50 ?_
 rintro⟨⟨p,t⟩,c,⟨⟩⟩ h
 revert p t c
 intro(p:Int) (t:Int) (c:List Cll) (h:qn3 c)
 refine vcs (True/\(vfB p t=true->(decide ((↑c.length:Int)<=(30:Int))=true->∃(v2:qa3 [Ty.prod (Ty.list (Ty.int .i64)) (Ty.prod (Ty.int .i64) (Ty.int .i64))]->Prop),∃(v3:qa3 [Ty.prod (Ty.list (Ty.int .i64)) (Ty.prod (Ty.int .i64) (Ty.int .i64))]->Bool),(∀(v4:(List Int × Int × Int) × qa3._f [] PUnit.unit),v2 v4->v4.1.1.length<=(1000000:Nat)/\(!vcB p (v4.1.1,v4.1.2.1,v4.1.2.2))=v3 v4)/\(c.length<=(1000000:Nat)/\∀(v4:Nat),v4<c.length->v2 (qe5 (Ty.prod (Ty.list (Ty.int .i64)) (Ty.prod (Ty.int .i64) (Ty.int .i64))) c v4,()))/\(!List.any c λ(v4:List Int × Int × Int)=>v3 (v4,()))=vsB p t c)/\(decide ((↑c.length:Int)<=(30:Int))=false->false=vsB p t c))/\(vfB p t=false->false=vsB p t c)) ?_
 refine⟨λh1=>⟨λh2=>⟨λy=>y.1.1.length<=1000000,λy=>!(vcB p y.1),λ_ hy=>⟨hy,(zb9 _).symm⟩,⟨ow,λi hi=>h i hi⟩,?_⟩,λh2=>?_⟩,λh1=>?_⟩
 ·unfold vsB; rw[h1,zbk (show c.length<=30 by omega)]; simp[List.not_all_eq_any_not]
 ·unfold vsB; rw[zbr (show ¬c.length<=30 by omega)]; simp
 ·unfold vsB; rw[h1]; rfl
abbrev yj1:qa8:=hspec [] true none [.d qb9,.cap qq9] [.bool] (λ_=>True) (λx=>(!(inB x.1 0 x.2.1.2),()))
theorem w9i:Meets Tryz.prog 97 yj1:=by
 refine qi4 (SpecsOk.nil _) (snd (SpecsOk.cons q1o (SpecsOk.nil _))) Tryz.func97 rfl rfl (λ_ _=>none) (λ_=>by kernel_rfl) dc ?_
 rintro⟨n,⟨p,t⟩,⟨⟩⟩ -
 revert n p t
 intro(n:Int) (p:Int) (t:Int)
 exact vct (True/\(!inB n (0:Int) t)=!inB n (0:Int) t)
def pdE (P T:Int) (x:List Int):Int:=if(x.length:Int)≠P then 9 else if(x.any λn=>!(inB n 0 T))=true then 7 else 0
abbrev sPd:qa8:=qe4 true none [qq9,qd4] [qb9] (λx=>x.2.1.length<=1000000) (λx=>(pdE x.1.1 x.1.2 x.2.1,()))
theorem w11:Meets Tryz.prog 51 sPd:=by
 refine mt0 (SpecsOk.cons (qw4 (fs:=[(97,yj1)]) (SpecsOk.cons w9i (SpecsOk.nil _))) (SpecsOk.nil _)) Tryz.func51 ?_
 rintro⟨⟨p,t⟩,x,⟨⟩⟩ h
 revert p t x
 intro(p:Int) (t:Int) (x:List Int) (h:x.length<=1000000)
 refine vcs ((((↑x.length:Int) != p)=true->(9:Int)=pdE p t x)/\(((↑x.length:Int) != p)=false->∃(v1:qa3 [Ty.int .i64]->Prop),∃(v2:qa3 [Ty.int .i64]->Bool),(∀(v3:Int × qa3._f [] PUnit.unit),v1 v3->True/\(!inB v3.1 (0:Int) t)=v2 v3)/\(x.length<=(1000000:Nat)/\∀(v3:Nat),v3<x.length->v1 (nI x v3,()))/\((List.any x λ(v4:Int)=>v2 (v4,()))=true->(7:Int)=pdE p t x)/\((List.any x λ(v4:Int)=>v2 (v4,()))=false->(0:Int)=pdE p t x))) ?_
 refine⟨λe=>?_,λe=>⟨λ_=>True,λy=>!(inB y.1 0 t),λ_ _=>(zb9 _).symm,⟨h,λ_ _=>trivial⟩,λh1=>?_,λh1=>?_⟩⟩
 ·unfold pdE; rw[zap e]
 ·unfold pdE; rw[zai (λq=>q e),zap h1]
 ·unfold pdE; rw[zai (λq=>q e),zai (by rw[h1]; decide)]
def rwE (P T:Int) (r x:List Int):Int:=if(vfB P T && vrB P r)=true then pdE P T x else 1
abbrev yp4:qa8:=qe4 true none [qq9,qd4,qd4] [qb9] (λx=>x.2.1.length<=1000000/\x.2.2.1.length<=1000000) (λx=>(rwE x.1.1 x.1.2 x.2.1 x.2.2.1,()))
theorem w9j:Meets Tryz.prog 44 yp4:=by
 refine mt0 (SpecsOk.cons w1y (SpecsOk.cons w1z (SpecsOk.cons w11 (SpecsOk.nil _)))) Tryz.func44 ?_
 rintro⟨⟨p,t⟩,r,x,⟨⟩⟩ h
 revert p t r x
 intro(p:Int) (t:Int) (r:List Int) (x:List Int) (h:r.length<=1000000/\x.length<=1000000)
 refine vcs (True/\((!vfB p t)=true->(1:Int)=rwE p t r x)/\((!vfB p t)=false->r.length<=(1000000:Nat)/\((!vrB p r)=true->(1:Int)=rwE p t r x)/\((!vrB p r)=false->x.length<=(1000000:Nat)/\pdE p t x=rwE p t r x))) ?_
 refine⟨λh1=>?_,λh1=>⟨h.1,λh2=>?_,λh2=>⟨h.2,?_⟩⟩⟩ <;> simp_all [rwE]
structure SmPre (r x:List Int):Prop where
 len:r.length<=x.length
 few:r.length<=8
 row:∀i,i<r.length->-1<=nI r i/\nI r i<=1
 pic:∀i,i<x.length->0<=nI x i/\nI x i<=3
theorem SmPre.mul {r x:List Int} (h:SmPre r x) {k:Nat} (hk:k<r.length):-3<=nI r k*nI x k/\nI r k*nI x k<=3:=by
 obtain⟨a1,a2⟩:=h.row k hk
 obtain⟨b1,b2⟩:=h.pic k (by have:=h.len; omega)
 obtain e | e | e:nI r k=-1\/nI r k=0\/nI r k=1:=ow
 all_goals rw[e]; omega
theorem SmPre.bnd {r x:List Int} (h:SmPre r x):∀k,k<=r.length->-(3*k:Int)<=qh1 r x k/\qh1 r x k<=3*k
 | 0,_=>by simp[qh1]
 | k+1,hk=>by
  have h1:=h.bnd k ow
  have h2:=h.mul (k:=k) ow
  rw[qh1]; omega
abbrev smL (r x:List Int):Int:=qh1 r x r.length
def yp5 (r x:List Int):Nat->Option Inv
 | 0=>some (Inv.of [5,10] 0 (λk:Nat=>[(5,.lit (.int .i64 (qh1 r x k))),(10,.lit (.int .i64 k))]) (λ_=>[]) (λk=>k<=r.length) (λk=>r.length-k))
 | _=>none
abbrev sBs:qa8:=qe4 true none [qd4,qd4] [qb9] (λx=>SmPre x.1 x.2.1) (λx=>(smL x.1 x.2.1,()))
theorem w13:Meets Tryz.prog 47 sBs:=by
 refine mts (SpecsOk.nil _) Tryz.func47 (λx=>yp5 x.1 x.2.1) ?_
 rintro⟨r,x,⟨⟩⟩ h
 revert r x
 intro(r:List Int) (x:List Int) (h:SmPre r x)
 refine vcs (∃(v0:Unit),∃(v1:Nat),Nat.le v1 r.length/\(((0:Int)=qh1 r x v1/\(0:Int)=(↑v1:Int)/\True)/\True)/\∀(v2:Nat),Nat.le v2 r.length->(decide ((↑v2:Int)<(↑r.length:Int))=true->((0:Int)<=(↑v2:Int)/\(↑v2:Int)<(↑r.length:Int))/\((0:Int)<=(↑v2:Int)/\(↑v2:Int)<(↑x.length:Int))/\fits .i64 (nI r v2*nI x v2)/\fits .i64 (qh1 r x v2+nI r v2*nI x v2)/\fits .i64 ((↑v2:Int)+(1:Int))/\∃(v5:Nat),Nat.le v5 r.length/\r.length-v5<r.length-v2/\(qh1 r x v2+nI r v2*nI x v2=qh1 r x v5/\(↑v2:Int)+(1:Int)=(↑v5:Int)/\True)/\True)/\(decide ((↑v2:Int)<(↑r.length:Int))=false->qh1 r x v2=smL r x)) ?_
 have h8:=h.few
 refine⟨(),0,zae _,⟨rfl,rfl⟩,λk hk=>⟨λhlt=>?_,λhge=>?_⟩⟩
 ·have h1:=h.bnd k hk
  have h2:=h.mul hlt
  have h3:=h.len
  exact⟨hlt,ow,qa7,qa7,qa7,k+1,ow,ow,rfl,ow⟩
 ·obtain rfl:k=r.length:=ow
  rfl
def inC (c:Cll) (x:List Int):Bool:=inB (smL c.1 x) c.2.1 c.2.2
abbrev sIn:qa8:=qe4 true none [q7t,qd4] [.bool] (λx=>SmPre x.1.1 x.2.1) (λx=>(inC x.1 x.2.1,()))
theorem xn0:Meets Tryz.prog 99 sIn:=by
 refine mt0 (SpecsOk.cons q1o (SpecsOk.cons w13 (SpecsOk.nil _))) Tryz.func99 ?_
 rintro⟨⟨r,a,b⟩,x,⟨⟩⟩ h
 revert r a b x
 intro(r:List Int) (a:Int) (b:Int) (x:List Int) (h:SmPre r x)
 refine vcs (SmPre r x/\True/\inB (smL r x) a b=inC (r,a,b) x) ?_
 exact⟨h,rfl⟩
abbrev yj2:qa8:=hspec [] true none [.d q7t,.cap qd4] [.bool] (λx=>SmPre x.1.1 x.2.1) (λx=>(!(inC x.1 x.2.1),()))
theorem w9k:Meets Tryz.prog 98 yj2:=by
 refine qi4 (SpecsOk.nil _) (snd (SpecsOk.cons xn0 (SpecsOk.nil _))) Tryz.func98 rfl rfl (λ_ _=>none) (λ_=>by kernel_rfl) dc ?_
 rintro⟨⟨r,a,b⟩,x,⟨⟩⟩ h
 revert r a b x
 intro(r:List Int) (a:Int) (b:Int) (x:List Int) (h:SmPre r x)
 refine vcs (SmPre r x/\(!inC (r,a,b) x)=!inC (r,a,b) x) ?_
 exact h
def ftB (c:List Cll) (x:List Int):Bool:=c.all λy=>inC y x
structure w4z (c:List Cll) (x:List Int):Prop where
 few:c.length<=1000
 each:∀i,i<c.length->SmPre (nC' c i).1 x
abbrev sFt:qa8:=qe4 true none [.list q7t,qd4] [.bool] (λx=>w4z x.1 x.2.1) (λx=>(ftB x.1 x.2.1,()))
theorem we0:Meets Tryz.prog 52 sFt:=by
 refine mt0 (SpecsOk.cons (wo5 (fs:=[(98,yj2)]) (SpecsOk.cons w9k (SpecsOk.nil _))) (SpecsOk.nil _)) Tryz.func52 ?_
 rintro⟨c,x,⟨⟩⟩ h
 revert c x
 intro(c:List Cll) (x:List Int) (h:w4z c x)
 refine vcs (∃(v0:qa3 [Ty.prod (Ty.list (Ty.int .i64)) (Ty.prod (Ty.int .i64) (Ty.int .i64))]->Prop),∃(v1:qa3 [Ty.prod (Ty.list (Ty.int .i64)) (Ty.prod (Ty.int .i64) (Ty.int .i64))]->Bool),(∀(v2:(List Int × Int × Int) × qa3._f [] PUnit.unit),v0 v2->SmPre v2.1.1 x/\(!inC (v2.1.1,v2.1.2.1,v2.1.2.2) x)=v1 v2)/\(c.length<=(1000000:Nat)/\∀(v2:Nat),v2<c.length->v0 (qe5 (Ty.prod (Ty.list (Ty.int .i64)) (Ty.prod (Ty.int .i64) (Ty.int .i64))) c v2,()))/\(!List.any c λ(v2:List Int × Int × Int)=>v1 (v2,()))=ftB c x) ?_
 refine⟨λy=>SmPre y.1.1 x,λy=>!(inC y.1 x),λ_ hy=>⟨hy,(zb9 _).symm⟩,⟨by have:=h.few; omega,λi hi=>h.each i hi⟩,?_⟩
 unfold ftB; simp[List.not_all_eq_any_not]
open Go Go.RowKit Ls Eng
theorem own_blk {w:World} {B e n:Nat} {A:Option Addr} {c:Nat} {xs:List Value} (h:w.ownsRow B e 1 (.slice A n c) n xs):∀ad,A=some ad->B<=ad.block:=by
 intro ad e1
 rcases h.2 with⟨h,_⟩ | ⟨g,cap,cur,h,hb,_⟩
 all_goals grind
abbrev x1q:qa8:=qe4 true none [.list (.int .i64)] [.list (.int .i64)] (λx=>x.1.length<=100000) (λx=>(x.1,()))
theorem q0r:Meets Tryz.prog 48 x1q:=w1n ⟨_,_,Tryz.func48,rfl,rfl⟩ λw m x vs hm hp hx=>by
 obtain⟨l,⟨⟩⟩:=x
 obtain⟨u,us,rfl,h1,h2⟩:=hx
 obtain rfl:us=[]:=h2
 obtain⟨A,c,rfl,hSI⟩:=xk2 hm (show Rd m (.list (.int .i64)) l [u] from h1)
 refine(clone_any A l.length c l w hSI hp).mono λe w' ⟨A',c',e1,e2,e3⟩=>⟨_,e1,e3,[_],rfl,_,_,rfl,?_,rfl⟩
 exact x1c (xu3 e2) (own_blk e2)
set_option maxRecDepth 100000 in
set_option maxHeartbeats 400000 in
theorem clone_nil (w:World):Calls Tryz.prog 48 #[.slice none 0 0] w λe w'=>e=.returned (.slice none 0 0)/\Below w.heap.size w w':=by
 have hq:=λw=>Lib.run_eql_slice_nil (P:=Tryz.prog) w 24 3 none 0 0 0 0 Tryz.underlying24
 go_enter Tryz.func48,Tryz.ntmps48
 go_wp2
 go_ret
 exact⟨rfl,zc0 _ _⟩
abbrev x1r:qa8:=qe4 true none [.nlist (.int .i64)] [.nlist (.int .i64)] (λx=>x.1.length<=100000) (λx=>(x.1,()))
theorem wo7:Meets Tryz.prog 48 x1r:=w1n ⟨_,_,Tryz.func48,rfl,rfl⟩ λw m x vs hm hp hx=>by
 obtain⟨l,⟨⟩⟩:=x
 obtain⟨u,us,rfl,h1,h2⟩:=hx
 obtain rfl:us=[]:=h2
 have h1:Rd m (.nlist (.int .i64)) l [u]:=h1
 obtain⟨h3,h4⟩:=h1
 by_cases h0:(l:List Int).length=0
 ·obtain rfl:l=[]:=zay h0
  obtain rfl:u=.slice none 0 0:=(zac (h4 rfl)).1
  refine(clone_nil w).mono λe w' ⟨e1,e2⟩=>⟨_,e1,e2,[_],rfl,_,_,rfl,⟨⟨none,0,rfl,zad _,by simp,λh=>absurd h (zbf _)⟩,λ_=>rfl⟩,rfl⟩
 ·obtain⟨A,c,rfl,hSI⟩:=xk2 hm (show Rd m (.list (.int .i64)) l [u] from h3)
  refine(clone_any A _ c l w hSI hp).mono λe w' ⟨A',c',e1,e2,e3⟩=>⟨_,e1,e3,[_],rfl,_,_,rfl,⟨?_,λh=>absurd h h0⟩,rfl⟩
  exact x1c (xu3 e2) (own_blk e2)
theorem x5t {R:Type} (b:Bool) (x y:R):Det (λk:R->Prop=>(b=true->k x)/\(b=false->k y)):=λk H=>by
 cases b with
 | true=>grind
 | false=>grind
abbrev x1s:qa8:=
 {fresh:=true,own:=some 3,run:=λargs k=>qg1 [.nlist (.int .i64)] args λx=>need (x.1.length<=100000) λ_=>(x.1.isEmpty=true->k (.lit (.slice none 0 0)))/\(x.1.isEmpty=false->k (.dat (.int .i64) x.1)),
  one:=λargs k h=>(qd3 (qn6 [.nlist (.int .i64)] args) λx=>qg3 (x5t x.1.isEmpty _ _)) k h }
theorem wo8:Meets Tryz.prog 48 x1s:=by
 refine⟨⟨_,_,Tryz.func48,rfl,rfl⟩,λw m args vs k hm hargs hrun=>?_⟩
 obtain⟨⟨l,⟨⟩⟩,⟨hp,hk⟩,hx⟩:=qj3 hrun hargs
 have hp:l.length<=100000:=hp
 have hk:(l.isEmpty=true->k (.lit (.slice none 0 0)))/\(l.isEmpty=false->k (.dat (.int .i64) l)):=hk
 obtain⟨u,us,rfl,h1,h2⟩:=hx
 obtain rfl:us=[]:=h2
 have h1:Rd m (.nlist (.int .i64)) l [u]:=h1
 obtain⟨h3,h4⟩:=h1
 by_cases h0:(l:List Int).length=0
 ·obtain rfl:l=[]:=zay h0
  obtain rfl:u=.slice none 0 0:=(zac (h4 rfl)).1
  refine(clone_nil w).mono λe w' ⟨e1,e2⟩=>?_
  exact⟨_,λ_=>none,e1,e2,(λb o h=>by cases h),(λb o h=>by cases h),.inr (.inl ⟨hk.1 rfl,rfl⟩)⟩
 ·obtain⟨A,c,rfl,hSI⟩:=xk2 hm (show Rd m (.list (.int .i64)) l [u] from h3)
  refine(clone_any A l.length c l w hSI hp).mono λe w' ⟨A',c',e1,e2,e3⟩=>?_
  have he:l.isEmpty=false:=by grind
  exact⟨_,λ_=>none,e1,e3,(λb o h=>by cases h),(λb o h=>by cases h),.inl ⟨.int .i64,l,ints l,hk.2 he,e2,rdL_ints _ l,λ_ _=>rfl⟩⟩
open Go Go.RowKit Eng
def q4m (B k j:Nat):Nat:=k / B ^ j % B
def wo9 (P B k:Nat):List Int:=(List.range P).map λi=>(q4m B k (P-1-i):Int)
theorem q6b (P B k:Nat):(wo9 P B k).length=P:=by simp[wo9]
theorem w9l {P B k i:Nat} (h:i<P):nI (wo9 P B k) i=q4m B k (P-1-i):=by
 rw[qf2 _ i (by rw[q6b]; exact h)]; simp[wo9]
theorem q7u {B k j:Nat} (hB:0<B):q4m B k j<B:=Nat.mod_lt _ hB
def q2q (B k j:Nat):Prop:=k % B ^ j=B ^ j-1
theorem w40 (B k:Nat):q2q B k 0:=by unfold q2q; rw[Nat.pow_zero,Nat.mod_one]
theorem w41 {B k j:Nat} (hB:0<B) (h:q2q B k j) (hd:q4m B k j=B-1):q2q B k (j+1):=by
 unfold q2q q4m at *
 have hp:0<B ^ j:=zcj hB
 rw[zb4,Nat.mod_mul,h,hd,Nat.mul_sub,zci]
 have:B ^ j<=B ^ j*B:=Nat.le_mul_of_pos_right _ hB
 omega
theorem q3s {B k j:Nat} (hB:0<B) (h:q2q B k j):(k+1) / B ^ j=k / B ^ j+1/\(k+1) % B ^ j=0:=by
 unfold q2q at h
 have hp:0<B ^ j:=zcj hB
 have e:=Nat.div_add_mod k (B ^ j)
 have e2:k+1=B ^ j*(k / B ^ j+1):=by rw[Nat.mul_add,zci]; omega
 rw[e2]
 exact⟨zcx _ hp,Nat.mul_mod_right _ _⟩
theorem xn1 {B k j i:Nat} (hB:0<B) (h:q2q B k j) (hi:i<j):q4m B (k+1) i=0:=by
 have h0:=(q3s hB h).2
 unfold q4m
 have hp:0<B ^ i:=zcj hB
 have hd:B ^ (i+1)∣k+1:=Nat.dvd_trans (Nat.pow_dvd_pow B ow) (Nat.dvd_of_mod_eq_zero h0)
 obtain⟨q,hq⟩:=hd
 rw[hq,zb4,Nat.mul_assoc,zcx _ hp,Nat.mul_mod_right]
theorem xn2 {B k j:Nat} (hB:0<B) (h:q2q B k j) (hd:q4m B k j≠B-1):q4m B (k+1) j=q4m B k j+1:=by
 have hl:=q7u (k:=k) (j:=j) hB
 unfold q4m at *
 rw[(q3s hB h).1,Nat.add_mod,zcf (show 1<B by omega),zcf ow]
theorem xn3 {B k j i:Nat} (hB:0<B) (h:q2q B k j) (hd:q4m B k j≠B-1) (hi:j<i):q4m B (k+1) i=q4m B k i:=by
 have hl:=q7u (k:=k) (j:=j) hB
 unfold q4m at *
 have e:B ^ i=B ^ j*(B*B ^ (i-j-1)):=by rw[<- Nat.pow_succ',<- Nat.pow_add]; congr 1; omega
 have hq:(k / B ^ j+1) / B=k / B ^ j / B:=by
  have e1:=Nat.div_add_mod (k / B ^ j) B
  generalize k / B ^ j=q at *
  have e2:q+1=B*(q / B)+(q % B+1):=ow
  rw[e2,Nat.mul_add_div hB,Nat.div_eq_of_lt (show q % B+1<B by omega),zbv]
 rw[e,<- zch,(q3s hB h).1,<- zch,hq,<- zch,<- zch]
theorem w9m {B k P:Nat} (hB:0<B) (h:q2q B k P) (hk:k<B ^ P):k+1=B ^ P:=by
 unfold q2q at h
 rw[zcf hk] at h; omega
theorem xn4 {B k P:Nat} (hB:0<B) {j:Nat} (hj:j<P) (hk:k<B ^ P) (h:q2q B k j) (hd:q4m B k j≠B-1):k+1<B ^ P:=by
 refine Nat.lt_of_le_of_ne hk λe=>hd ?_
 have e1:k=B ^ P-1:=ow
 have e2:B ^ P=B ^ j*(B*B ^ (P-j-1)):=by rw[<- Nat.pow_succ',<- Nat.pow_add]; congr 1; omega
 have hp:0<B ^ j:=zcj hB
 have hq:=(q3s hB h).1
 have hl:=q7u (k:=k) (j:=j) hB
 unfold q4m at hl ⊢
 rw[e,e2,zcx _ hp] at hq
 have:(k / B ^ j+1) % B=0:=by rw[<- hq]; exact Nat.mul_mod_right _ _
 rcases zav (k / B ^ j % B+1) B with q | q
 ·rw[Nat.add_mod,zcf (show 1<B by omega),zcf q] at this; omega
 ·omega
theorem w9n (P B:Nat):wo9 P B 0=List.replicate P 0:=by
 apply zbo (by simp[wo9])
 intro i h1 h2
 simp[wo9,q4m]
def qj7 (P B k j:Nat):List Int:=(List.range P).map λi=>if P-j<=i then 0 else(q4m B k (P-1-i):Int)
theorem qo9 (P B k j:Nat):(qj7 P B k j).length=P:=by simp[qj7]
theorem q3t {P B k j i:Nat} (h:i<P):nI (qj7 P B k j) i=if P-j<=i then 0 else(q4m B k (P-1-i):Int):=by
 rw[qf2 _ i (by rw[qo9]; exact h)]; simp[qj7]
theorem w42 (P B k:Nat):qj7 P B k 0=wo9 P B k:=by
 unfold qj7 wo9
 apply zbz
 intro i hi
 rw[zai (by have:=za2.1 hi; omega)]
theorem w9o (l:List Int) (i q:Nat) (v:Int) (hq:q<l.length):nI (l.set i v) q=if q=i then v else nI l q:=by
 rw[qf2 _ q (by rw[zaz]; exact hq),zcc,<- qf2 l q hq]
 by_cases e:i=q
 ·rw[zap e,zap e.symm]
 ·rw[zai e,zai (λh=>e h.symm)]
theorem w43 {P B k j:Nat} (hj:j<P):(qj7 P B k j).set (P-1-j) 0=qj7 P B k (j+1):=by
 apply wn4 (by rw[zaz,qo9,qo9])
 intro q hq
 rw[zaz,qo9] at hq
 rw[w9o _ _ _ _ (by rw[qo9]; exact hq),q3t hq,q3t hq]
 by_cases e:q=P-1-j
 ·rw[zap e,zap ow]
 ·rw[zai e]
  by_cases e2:P-j<=q
  ·rw[zap e2,zap ow]
  ·rw[zai e2,zai ow]
theorem w44 {P B k j:Nat} (hB:0<B) (hj:j<P) (h:q2q B k j) (hd:q4m B k j≠B-1):(qj7 P B k j).set (P-1-j) (nI (qj7 P B k j) (P-1-j)+1)=wo9 P B (k+1):=by
 apply wn4 (by rw[zaz,qo9,q6b])
 intro q hq
 rw[zaz,qo9] at hq
 rw[w9o _ _ _ _ (by rw[qo9]; exact hq),w9l hq]
 by_cases e:q=P-1-j
 ·subst e
  rw[zap rfl,q3t hq,zai ow,show P-1-(P-1-j)=j by omega,xn2 hB h hd]; push_cast; rfl
 ·rw[zai e,q3t hq]
  by_cases e2:P-j<=q
  ·rw[zap e2,xn1 hB h ow]; rfl
  ·rw[zai e2,xn3 hB h hd ow]
def qm1 (P T:Int):List (List Int):=(List.range ((T.toNat+1) ^ P.toNat)).map λk=>wo9 P.toNat (T.toNat+1) k
theorem wp0 (P T:Int):(qm1 P T).length=(T.toNat+1) ^ P.toNat:=by simp[qm1]
theorem xn5 {P T:Int} {k:Nat} (h:k<(T.toNat+1) ^ P.toNat):(qm1 P T)[k]? = some (wo9 P.toNat (T.toNat+1) k):=by simp[qm1,h]
def xw6 (B:Nat):List Int->Nat
 | []=>0
 | a :: l=>a.toNat*B ^ l.length+xw6 B l
theorem wx6 {B:Nat}:∀(l:List Int),(∀a∈l,a.toNat<B)->xw6 B l<B ^ l.length
 | [],_=>by simp[xw6]
 | a :: l,h=>by
  have h1:=wx6 l λb hb=>h b (zau _ hb)
  have h2:=h a za0
  rw[xw6,zdu,zb4]
  have:=zbn (B ^ l.length) (show a.toNat+1<=B from h2)
  rw[Nat.add_mul,zc2,zcu B] at this
  omega
theorem w14 {B:Nat} (hB:0<B):∀(l:List Int),(∀a∈l,a.toNat<B)->∀i (hi:i<l.length),q4m B (xw6 B l) (l.length-1-i)=(l[i]).toNat
 | [],_,i,hi=>by simp at hi
 | a :: l,h,i,hi=>by
  have hl:=λb hb=>h b (zau a hb)
  have h1:=wx6 l hl
  have h2:=h a za0
  have hp:0<B ^ l.length:=zcj hB
  cases i with
  | zero=>
   simp only[List.length_cons,Nat.add_sub_cancel,Nat.sub_zero,List.getElem_cons_zero,xw6]
   unfold q4m
   rw[zcu a.toNat,Nat.mul_add_div hp,Nat.div_eq_of_lt h1,zbv,zcf h2]
  | succ i=>
   have hi':i<l.length:=by simpa using hi
   have ih:=w14 hB l hl i hi'
   simp only[List.length_cons,Nat.add_sub_cancel,List.getElem_cons_succ,xw6]
   rw[<- ih]
   unfold q4m
   have e:l.length-(i+1)=l.length-1-i:=ow
   rw[e]
   obtain⟨d,hd⟩:∃d,l.length=(l.length-1-i)+1+d:=⟨i,ow⟩
   have e2:a.toNat*B ^ l.length=B ^ (l.length-1-i)*(B*(B ^ d*a.toNat)):=by
    rw[zcu,show B ^ l.length=B ^ ((l.length-1-i)+1+d) from by rw[<- hd],Nat.pow_add,zb4]
    simp only[Nat.mul_assoc]
   rw[e2,Nat.mul_add_div (zcj hB),Nat.mul_add_mod]
theorem xn6 {P T:Int} {x:List Int} (hx:(x.length:Int)=P) (ha:∀a∈x,0<=a/\a<=T):x∈qm1 P T:=by
 have hlt:∀a∈x,a.toNat<T.toNat+1:=λa h=>by have:=ha a h; omega
 have hv:=wx6 x hlt
 have hP:P.toNat=x.length:=ow
 unfold qm1
 rw[za4]
 refine⟨xw6 (T.toNat+1) x,za2.2 (by rw[hP]; exact hv),?_⟩
 rw[hP]
 apply zbo (by simp[wo9])
 intro i h1 h2
 simp only[wo9,List.getElem_map,List.getElem_range]
 rw[w14 (zec _) x hlt i h2]
 have:=(ha x[i] (zbd h2)).1
 omega
theorem x1t {P T:Int} (hT:0<=T) {x:List Int} (h:x∈qm1 P T):x.length=P.toNat/\∀i,i<x.length->0<=nI x i/\nI x i<=T:=by
 unfold qm1 at h
 obtain⟨k,_,rfl⟩:=za4.1 h
 refine⟨q6b _ _ _,λi hi=>?_⟩
 rw[q6b] at hi
 rw[w9l hi]
 have:=q7u (B:=T.toNat+1) (k:=k) (j:=P.toNat-1-i) (zec _)
 omega
open Go Go.Proofs Go.RowKit Eng
theorem q5k {P T:Int}:vfB P T=true↔(1<=P/\P<=8)/\0<=T/\T<=3:=by unfold vfB; rw[zam,qf9,qf9]
theorem xw7 {P:Int} {r:List Int}:vrB P r=true↔(r.length:Int)=P/\∀i,i<r.length->-1<=nI r i/\nI r i<=1:=by
 unfold vrB
 rw[zam,decide_eq_true_iff,zaq]
 refine and_congr_right λ_=>⟨λh i hi=>?_,λh a ha=>?_⟩
 ·rw[qf2 r i hi]; exact qf9.1 (h _ (zbd hi))
 ·obtain⟨i,hi,rfl⟩:=zbg ha
  rw[<- qf2 r i hi]; exact qf9.2 (h i hi)
theorem q9s {P T:Int} {x:List Int}:pdE P T x=0↔(x.length:Int)=P/\∀i,i<x.length->0<=nI x i/\nI x i<=T:=by
 have key:((x.any λn=>!(inB n 0 T))=true)↔¬∀i,i<x.length->0<=nI x i/\nI x i<=T:=by
  rw[zcd]
  refine⟨λ⟨a,ha,h⟩ hall=>?_,λh=>?_⟩
  ·obtain⟨i,hi,rfl⟩:=zbg ha
   have h1:=hall i hi
   rw[qf2 x i hi] at h1
   rw[qf9.2 h1] at h; cases h
  ·refine zan λhn=>h λi hi=>?_
   refine qf9.1 (zan λhb=>hn ⟨x[i],zbd hi,?_⟩)
   rw[qf2 x i hi] at hb
   simp[hb]
 unfold pdE
 by_cases h1:(x.length:Int)=P
 ·rw[zai (λq=>q h1)]
  by_cases h2:(x.any λn=>!(inB n 0 T))=true
  ·rw[zap h2]; exact⟨λe=>(by cases e),λh=>absurd h.2 (key.1 h2)⟩
  ·rw[zai h2]; exact⟨λ_=>⟨h1,zan λh=>h2 (key.2 h)⟩,λ_=>rfl⟩
 ·rw[zap h1]; exact⟨λe=>(by cases e),λh=>absurd h.1 h1⟩
theorem x5u {P T:Int} {r x:List Int}:rwE P T r x=0↔vfB P T=true/\vrB P r=true/\pdE P T x=0:=by
 unfold rwE
 by_cases h:(vfB P T && vrB P r)=true
 ·rw[zap h]; rw[zam] at h; exact⟨λe=>⟨h.1,h.2,e⟩,λe=>e.2.2⟩
 ·rw[zai h]; exact⟨λe=>(by cases e),λe=>absurd (by rw[e.1,e.2.1]; rfl) h⟩
theorem w9p {P T:Int} {r x:List Int} (hf:vfB P T=true) (hr:vrB P r=true) (hx:pdE P T x=0):SmPre r x:=by
 obtain⟨⟨a1,a2⟩,a3,a4⟩:=q5k.1 hf
 obtain⟨b1,b2⟩:=xw7.1 hr
 obtain⟨c1,c2⟩:=q9s.1 hx
 exact⟨ow,ow,b2,λi hi=>by have:=c2 i hi; omega⟩
abbrev sDn:qa8:=qe4 true none [qb9,qb9] [qb9] (λx=>x.2.1=1/\qd8 1000 x.1) (λx=>(x.1,()))
theorem xn7:Meets Tryz.prog 46 sDn:=by
 refine mt0 (SpecsOk.nil _) Tryz.func46 ?_
 rintro⟨n,d,⟨⟩⟩ h
 revert n d
 intro(n:Int) (d:Int) (h:d=1/\qd8 1000 n)
 refine vcs (d≠(0:Int)/\fits .i64 (Int.tdiv n d)/\fits .i64 (Int.tdiv n d*d)/\(decide (n<Int.tdiv n d*d)=true->fits .i64 (Int.tdiv n d-(1:Int))/\Int.tdiv n d-(1:Int)=n)/\(decide (n<Int.tdiv n d*d)=false->Int.tdiv n d=n)) ?_
 obtain⟨rfl,h1,h2⟩:=h
 rw[Int.tdiv_one,zd6]
 exact⟨dc,qa7,qa7,λq=>absurd q ow,λ_=>rfl⟩
def qtR (P T:Int) (r x:List Int):Cll × Int:=if rwE P T r x=0 then((r,smL r x,smL r x),0) else(([],0,0),rwE P T r x)
abbrev sQt:qa8:=qe4 false none [qq9,qd4,qd4,qb9] [q7t,qb9] (λx=>(x.2.1.length<=100000/\x.2.2.1.length<=1000000)/\x.2.2.2.1=1) (λx=>((qtR x.1.1 x.1.2 x.2.1 x.2.2.1).1,(qtR x.1.1 x.1.2 x.2.1 x.2.2.1).2,()))
theorem xn8:Meets Tryz.prog 11 sQt:=by
 refine mt0 (SpecsOk.cons q1o (SpecsOk.cons wo6 (SpecsOk.cons w9j (SpecsOk.cons w13 (SpecsOk.cons xn7 (SpecsOk.cons q0r (SpecsOk.nil _))))))) Tryz.func11 ?_
 rintro⟨⟨p,t⟩,r,x,d,⟨⟩⟩ h
 revert p t r x d
 intro(p:Int) (t:Int) (r:List Int) (x:List Int) (d:Int) (h:(r.length<=100000/\x.length<=1000000)/\d=1)
 refine vcs (let Q0:=qtR p t r x; (r.length<=(1000000:Nat)/\x.length<=(1000000:Nat))/\((rwE p t r x != (0:Int))=true->(Q0.1.1=[]/\(0:Int)=Q0.1.2.1/\(0:Int)=Q0.1.2.2/\True)/\rwE p t r x=Q0.2/\True)/\((rwE p t r x != (0:Int))=false->True/\((!inB d (1:Int) (100:Int))=true->(Q0.1.1=[]/\(0:Int)=Q0.1.2.1/\(0:Int)=Q0.1.2.2/\True)/\(7:Int)=Q0.2/\True)/\((!inB d (1:Int) (100:Int))=false->SmPre r x/\(d=(1:Ty.den qb9)/\qd8 (1000:Int) (smL r x))/\fits .i64 (smL r x*d)/\r.length<=(100000:Nat)/\fits .i64 (smL r x*d+d)/\fits .i64 (smL r x*d+d-(1:Int))/\r.length<=(1000000:Nat)/\((!vcB p (r,smL r x*d,smL r x*d+d-(1:Int)))=true->(Q0.1.1=[]/\(0:Int)=Q0.1.2.1/\(0:Int)=Q0.1.2.2/\True)/\(7:Int)=Q0.2/\True)/\((!vcB p (r,smL r x*d,smL r x*d+d-(1:Int)))=false->(r=Q0.1.1/\smL r x*d=Q0.1.2.1/\smL r x*d+d-(1:Int)=Q0.1.2.2/\True)/\(0:Int)=Q0.2/\True)))) ?_
 obtain⟨⟨h1,h2⟩,rfl⟩:=h
 refine⟨⟨ow,h2⟩,λh3=>?_,λh3=>⟨λh4=>absurd h4 dc,λ_=>?_⟩⟩
 ·unfold qtR; rw[zai h3]; exact⟨⟨rfl,rfl,rfl⟩,rfl⟩
 obtain⟨a1,a2,a3⟩:=x5u.1 h3
 have hs:=w9p a1 a2 a3
 have hb:-(3*r.length:Int)<=smL r x/\smL r x<=3*r.length:=hs.bnd r.length (zad _)
 have h8:=hs.few
 have hv:vcB p (r,smL r x*1,smL r x*1+1-1)=true:=by
  unfold vcB
  rw[zd6,Int.add_sub_cancel,a2,qf9.2 (by dsimp only; omega),zbk (by dsimp only; omega)]; rfl
 unfold qtR
 rw[zap h3]
 refine⟨hs,⟨rfl,by unfold qd8; omega⟩,qa7,h1,qa7,qa7,ow,λq=>?_,λ_=>⟨⟨rfl,zd6 _,by rw[zd6,Int.add_sub_cancel]⟩,rfl⟩⟩
 rw[hv] at q; cases q
theorem x1u {P T:Int} {c:List Cll} {x:List Int} (hc:vsB P T c=true) (hx:pdE P T x=0):w4z c x:=by
 unfold vsB at hc
 rw[zam,zam,decide_eq_true_iff,zaq] at hc
 refine⟨ow,λi hi=>?_⟩
 have h1:=hc.2 c[i] (zbd hi)
 have e:nC' c i=c[i]:=qo1 (t:=.prod (.list (.int .i64)) (.prod (.int .i64) (.int .i64))) c i hi
 rw[e]
 unfold vcB at h1
 rw[zam,zam] at h1
 exact w9p hc.1.1 h1.1.1 hx
def ftR (P T:Int) (c:List Cll) (x:List Int):Bool × Int:=if vsB P T c=false then(false,1) else if pdE P T x≠0 then(false,pdE P T x) else(ftB c x,0)
abbrev yp6:qa8:=qe4 true none [qq9,.list q7t,qd4] [.bool,qb9] (λx=>qn3 x.2.1/\x.2.2.1.length<=1000000) (λx=>((ftR x.1.1 x.1.2 x.2.1 x.2.2.1).1,(ftR x.1.1 x.1.2 x.2.1 x.2.2.1).2,()))
theorem w9q:Meets Tryz.prog 12 yp6:=by
 refine mt0 (SpecsOk.cons wd9 (SpecsOk.cons w11 (SpecsOk.cons we0 (SpecsOk.nil _)))) Tryz.func12 ?_
 rintro⟨⟨p,t⟩,c,x,⟨⟩⟩ h
 revert p t c x
 intro(p:Int) (t:Int) (c:List Cll) (x:List Int) (h:qn3 c/\x.length<=1000000)
 refine vcs (let Q0:=ftR p t c x; qn3 c/\((!vsB p t c)=true->false=Q0.1/\(1:Int)=Q0.2/\True)/\((!vsB p t c)=false->x.length<=(1000000:Nat)/\((pdE p t x != (0:Int))=true->false=Q0.1/\pdE p t x=Q0.2/\True)/\((pdE p t x != (0:Int))=false->w4z c x/\ftB c x=Q0.1/\(0:Int)=Q0.2/\True))) ?_
 refine⟨h.1,λh1=>?_,λh1=>⟨h.2,λh2=>?_,λh2=>⟨x1u h1 h2,?_⟩⟩⟩
 ·unfold ftR; rw[zap h1]; exact⟨rfl,rfl⟩
 ·unfold ftR; rw[zai (by rw[h1]; decide),zap h2]; exact⟨rfl,rfl⟩
 ·unfold ftR; rw[zai (by rw[h1]; decide),zai (λq=>q h2)]; exact⟨rfl,rfl⟩
abbrev ya0:qz6:=wl7 [qq9] [qd4] (λx=>vfB x.1.1 x.1.2=true) (λx=>(qm1 x.1.1 x.1.2).map λl=>(l,())) (some 3)
structure w45 (P T:Int) (k:Nat) (l:List Int):Prop where
 lt:k<(T.toNat+1) ^ P.toNat
 eq:l=wo9 P.toNat (T.toNat+1) k
structure xn9 (P T:Int) (k j:Nat):Prop where
 lt:k<(T.toNat+1) ^ P.toNat
 le:j<=P.toNat
 nin:q2q (T.toNat+1) k j
def ya1 (P T:Int):Nat->Option Inv
 | 0=>some (Inv.of [3] 2 (λ_:Nat × List Int=>[(3,.own 1)]) (λs=>[.cnt (some s.1),.vec 3 (.int .i64) s.2]) (λs=>w45 P T s.1 s.2) (λs=>(T.toNat+1) ^ P.toNat-s.1))
 | 1=>some (Eng.Inv.mk Nat Nat [3,4] 2 (λ_ j=>[(3,.own 1),(4,.lit (.int .i64 (P-1-j)))]) (λk j=>[.cnt (some (k+1)),.vec 3 (.int .i64) (qj7 P.toNat (T.toNat+1) k j)]) (λk j=>xn9 P T k j) (λk j=>P.toNat-j))
 | _=>none
theorem wp1:qv9 Tryz.prog 100 ya0:=by
 refine says (snd (SpecsOk.nil _)) Tryz.func100 rfl rfl rfl [8] (λx=>ya1 x.1.1 x.1.2) (λ_=>by kernel_rfl) dc ?_
 rintro⟨⟨p,t⟩,⟨⟩⟩ l h
 revert p t
 intro(p:Int) (t:Int) (h:vfB p t=true)
 refine vcs (let Q0:=((p,t),PUnit.unit); let Q1:=qm1 p t; (p=p/\(0:Int)<=p/\p<=(1000000:Int))/\∃(v0:Unit),∃(v1:Nat × List Int),w45 p t v1.1 v1.2/\((True/\True)/\some (0:Nat)=some v1.1/\List.replicate p.toNat (Ty.dflt (TI.ty T3))=v1.2/\True)/\∀(v2:Nat × List Int),w45 p t v2.1 v2.2->Value.func (Fn.yield l) #[] #[]=Value.func (Fn.yield (qg6.l (qt9 [qq9] [qd4] [(8:Nat)] Q0 (List.map (λ(v4:List Int)=>(v4,())) Q1) l (some (3:Nat))))) #[] #[]/\(qg6.L (qt9 [qq9] [qd4] [(8:Nat)] Q0 (List.map (λ(v4:List Int)=>(v4,())) Q1) l (some (3:Nat))))[v2.1]?=some (v2.2,())/\(fits .i64 (p-(1:Int))/\∃(v4:Nat),∃(v5:Nat),xn9 p t v4 v5/\((True/\p-(1:Int)=p-(1:Int)-(↑v5:Int)/\True)/\some (v2.1+(1:Nat))=some (v4+(1:Nat))/\v2.2=qj7 p.toNat (t.toNat+(1:Nat)) v4 v5/\True)/\∀(v6:Nat),xn9 p t v4 v6->(decide ((0:Int)<=p-(1:Int)-(↑v6:Int))=true->((0:Int)<=p-(1:Int)-(↑v6:Int)/\p-(1:Int)-(↑v6:Int)<(↑(qj7 p.toNat (t.toNat+(1:Nat)) v4 v6).length:Int))/\(p-(1:Int)-(↑v6:Int)).toNat<(qj7 p.toNat (t.toNat+(1:Nat)) v4 v6).length/\((nI (qj7 p.toNat (t.toNat+(1:Nat)) v4 v6) (p-(1:Int)-(↑v6:Int)).toNat==t)=true->((0:Int)<=p-(1:Int)-(↑v6:Int)/\p-(1:Int)-(↑v6:Int)<(↑(qj7 p.toNat (t.toNat+(1:Nat)) v4 v6).length:Int))/\(p-(1:Int)-(↑v6:Int)).toNat<(qj7 p.toNat (t.toNat+(1:Nat)) v4 v6).length/\fits .i64 (p-(1:Int)-(↑v6:Int)-(1:Int))/\∃(v10:Nat),xn9 p t v4 v10/\p.toNat-v10<p.toNat-v6/\(True/\p-(1:Int)-(↑v6:Int)-(1:Int)=p-(1:Int)-(↑v10:Int)/\True)/\some (v4+(1:Nat))=some (v4+(1:Nat))/\List.set (qj7 p.toNat (t.toNat+(1:Nat)) v4 v6) (p-(1:Int)-(↑v6:Int)).toNat (0:Int)=qj7 p.toNat (t.toNat+(1:Nat)) v4 v10/\True)/\((nI (qj7 p.toNat (t.toNat+(1:Nat)) v4 v6) (p-(1:Int)-(↑v6:Int)).toNat==t)=false->(decide (p-(1:Int)-(↑v6:Int)<(0:Int))=true->v4+(1:Nat)=(qg6.L (qt9 [qq9] [qd4] [(8:Nat)] Q0 (List.map (λ(v11:List Int)=>(v11,())) Q1) l (some (3:Nat)))).length)/\(decide (p-(1:Int)-(↑v6:Int)<(0:Int))=false->((0:Int)<=p-(1:Int)-(↑v6:Int)/\p-(1:Int)-(↑v6:Int)<(↑(qj7 p.toNat (t.toNat+(1:Nat)) v4 v6).length:Int))/\(p-(1:Int)-(↑v6:Int)).toNat<(qj7 p.toNat (t.toNat+(1:Nat)) v4 v6).length/\fits .i64 (nI (qj7 p.toNat (t.toNat+(1:Nat)) v4 v6) (p-(1:Int)-(↑v6:Int)).toNat+(1:Int))/\((0:Int)<=p-(1:Int)-(↑v6:Int)/\p-(1:Int)-(↑v6:Int)<(↑(qj7 p.toNat (t.toNat+(1:Nat)) v4 v6).length:Int))/\(p-(1:Int)-(↑v6:Int)).toNat<(qj7 p.toNat (t.toNat+(1:Nat)) v4 v6).length/\∃(v11:Nat × List Int),w45 p t v11.1 v11.2/\(t.toNat+(1:Nat)) ^ p.toNat-v11.1<(t.toNat+(1:Nat)) ^ p.toNat-v2.1/\(True/\True)/\some (v4+(1:Nat))=some v11.1/\List.set (qj7 p.toNat (t.toNat+(1:Nat)) v4 v6) (p-(1:Int)-(↑v6:Int)).toNat (nI (qj7 p.toNat (t.toNat+(1:Nat)) v4 v6) (p-(1:Int)-(↑v6:Int)).toNat+(1:Int))=v11.2/\True)))/\(decide ((0:Int)<=p-(1:Int)-(↑v6:Int))=false->(decide (p-(1:Int)-(↑v6:Int)<(0:Int))=true->v4+(1:Nat)=(qg6.L (qt9 [qq9] [qd4] [(8:Nat)] Q0 (List.map (λ(v10:List Int)=>(v10,())) Q1) l (some (3:Nat)))).length)/\(decide (p-(1:Int)-(↑v6:Int)<(0:Int))=false->((0:Int)<=p-(1:Int)-(↑v6:Int)/\p-(1:Int)-(↑v6:Int)<(↑(qj7 p.toNat (t.toNat+(1:Nat)) v4 v6).length:Int))/\(p-(1:Int)-(↑v6:Int)).toNat<(qj7 p.toNat (t.toNat+(1:Nat)) v4 v6).length/\fits .i64 (nI (qj7 p.toNat (t.toNat+(1:Nat)) v4 v6) (p-(1:Int)-(↑v6:Int)).toNat+(1:Int))/\((0:Int)<=p-(1:Int)-(↑v6:Int)/\p-(1:Int)-(↑v6:Int)<(↑(qj7 p.toNat (t.toNat+(1:Nat)) v4 v6).length:Int))/\(p-(1:Int)-(↑v6:Int)).toNat<(qj7 p.toNat (t.toNat+(1:Nat)) v4 v6).length/\∃(v10:Nat × List Int),w45 p t v10.1 v10.2/\(t.toNat+(1:Nat)) ^ p.toNat-v10.1<(t.toNat+(1:Nat)) ^ p.toNat-v2.1/\(True/\True)/\some (v4+(1:Nat))=some v10.1/\List.set (qj7 p.toNat (t.toNat+(1:Nat)) v4 v6) (p-(1:Int)-(↑v6:Int)).toNat (nI (qj7 p.toNat (t.toNat+(1:Nat)) v4 v6) (p-(1:Int)-(↑v6:Int)).toNat+(1:Int))=v10.2/\True)))/\True) ?_
 obtain⟨⟨p1,p8⟩,t0,t3⟩:=q5k.1 h
 have hB:0<t.toNat+1:=zec _
 have hmap:((qm1 p t).map λv=>((v,()):qa3 [qd4])).length=(t.toNat+1) ^ p.toNat:=by rw[za3,wp0]
 refine⟨⟨ow,ow⟩,(),(0,wo9 p.toNat (t.toNat+1) 0),⟨zcj hB,rfl⟩,⟨rfl,(w9n _ _).symm⟩,?_⟩
 rintro⟨k,s⟩ ⟨hlt,hs⟩
 dsimp only at hlt hs ⊢
 subst hs
 refine⟨rfl,?_,qa7,k,0,⟨hlt,zae _,w40 _ _⟩,⟨ow,rfl,(w42 _ _ _).symm⟩,?_⟩
 ·show((qm1 p t).map λv=>((v,()):qa3 [qd4]))[k]? = some (_,())
  rw[za5,xn5 hlt]; rfl
 rintro j ⟨-,hj,hn⟩
 have hzl:=qo9 p.toNat (t.toNat+1) k j
 have fin:p-1-(j:Int)<0->k+1=((qm1 p t).map λv=>((v,()):qa3 [qd4])).length:=λq=>by
  obtain rfl:j=p.toNat:=ow
  rw[hmap]; exact w9m hB hn hlt
 have hat:0<=p-1-(j:Int)->nI (qj7 p.toNat (t.toNat+1) k j) (p-1-(j:Int)).toNat=q4m (t.toNat+1) k j:=λq=>by
  rw[show(p-1-(j:Int)).toNat=p.toNat-1-j by omega,q3t ow,zai ow,show p.toNat-1-(p.toNat-1-j)=j by omega]
 have next:∀_:Unit,0<=p-1-(j:Int)->nI (qj7 p.toNat (t.toNat+1) k j) (p-1-(j:Int)).toNat≠t->∃v:Nat × List Int,w45 p t v.1 v.2/\(t.toNat+1) ^ p.toNat-v.1<(t.toNat+1) ^ p.toNat-k/\some (k+1)=some v.1/\(qj7 p.toNat (t.toNat+1) k j).set (p-1-(j:Int)).toNat (nI (qj7 p.toNat (t.toNat+1) k j) (p-1-(j:Int)).toNat+1)=v.2:=λ_ q hne=>by
  have hd:q4m (t.toNat+1) k j≠(t.toNat+1)-1:=by rw[hat q] at hne; omega
  have hl:=xn4 hB (show j<p.toNat by omega) hlt hn hd
  refine⟨(k+1,wo9 p.toNat (t.toNat+1) (k+1)),⟨hl,rfl⟩,by dsimp only; omega,rfl,?_⟩
  rw[show(p-1-(j:Int)).toNat=p.toNat-1-j by omega]
  exact w44 hB ow hn hd
 refine⟨λq=>⟨⟨q,ow⟩,ow,λhe=>⟨⟨q,ow⟩,ow,qa7,j+1,⟨hlt,ow,w41 hB hn ?_⟩,ow,ow,?_⟩,λhne=>⟨fin,λ_=>⟨⟨q,ow⟩,ow,?_,⟨q,ow⟩,ow,next () q hne⟩⟩⟩,λq=>⟨fin,λq2=>absurd q ow⟩⟩
 ·have h5:((q4m (t.toNat+1) k j:Nat):Int)=t:=(hat q).symm.trans he
  clear hat fin next he
  omega
 ·rw[show(p-1-(j:Int)).toNat=p.toNat-1-j by omega]
  exact w43 ow
 ·rw[hat q]
  have:=q7u (k:=k) (j:=j) hB
  exact qa7
abbrev yp7:qa8:=q68 false none [qq9] (λ_=>True) (λx=>.clo 100 (.cons (.imm (.cons (.lit (.int .i64 x.1.1)) (.cons (.lit (.int .i64 x.1.2)) .nil)) 0) .nil))
theorem wp2:Meets Tryz.prog 53 yp7:=by
 refine q0o (snd (SpecsOk.nil _)) Tryz.func53 rfl rfl (λ_ _=>none) (λ_=>by kernel_rfl) dc ?_
 rintro⟨⟨p,t⟩,⟨⟩⟩ -
 revert p t
 intro(p:Int) (t:Int)
 exact vct (((p=p/\t=t/\True)/\(0:Nat)=(0:Nat))/\True)
end Go.Proofs.YtnchigbbjajiiaaGreat
