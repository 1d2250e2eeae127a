/- The corners of the reference's layer 5: contracts by the engine. No condition. -/
import Derived.Test.YtnchigbbjajiiaaGreatQ32
import Derived.Test.YtnchigbbjajiiaaGreatW4
set_option linter.unusedVariables false
set_option linter.unusedSimpArgs false
namespace Go.Proofs.YtnchigbbjajiiaaGreat
open Go Go.RowKit Eng
def q5r (f:Fit):q4y:=qi8 f.2 f.2.length
def xr2 (l:List Fit) (j:Nat):List Fit:=(l.set (j+1) (nF l j)).set j (nF l (j+1))
def xr3:Nat->List Fit->List Fit
 | 0,l=>l
 | j+1,l=>if q9z (nF l (j+1)).1 (nF l j).1=true then xr3 j (xr2 l j) else l
def xl2 (out:List Fit) (f:Fit):List Fit:=
 if out=[] then[f] else if 0<wf6 (q5r f) (q5r (nF out 0)) then out else if wf6 (q5r f) (q5r (nF out 0))<0 then[f] else xr3 out.length (out++[f])
def qf4 (L:List Fit):Nat->List Fit
 | 0=>[]
 | k+1=>xl2 (qf4 L k) (nF L k)
def w17 (L:List Fit):List Fit:=qf4 L L.length
def q90 (m:List (List Int)) (y:List Int):List Fit × Int:=if qn5 m y≠0 then([],qn5 m y) else if w17 (q5n m y)=[] then([],10) else(w17 (q5n m y),0)
theorem q4s (l:List Fit) (j:Nat):(xr2 l j).length=l.length:=by simp[xr2]
theorem q2v {l:List Fit} {i:Nat} (h:i<l.length):nF l i∈l:=by grind [w7i,List.getElem_mem]
theorem w43 {l:List Fit} {j:Nat} (h:j+1<l.length):∀x∈xr2 l j,x∈l:=λx hx=>by
 unfold xr2 at hx
 rcases zau hx with hx | rfl
 ·rcases zau hx with hx | rfl
  all_goals grind [q2v]
 grind [q2v]
theorem q9h:∀(j:Nat) (l:List Fit),j<l.length->(xr3 j l).length=l.length/\∀x∈xr3 j l,x∈l
 | 0,l,_=>⟨rfl,λx hx=>hx⟩
 | j+1,l,h=>by
  rw[xr3]
  split
  ·have:=q9h j (xr2 l j) (by grind [q4s])
   grind [trans,q4s,w43]
  simp
theorem xl3 (out:List Fit) (f:Fit):(xl2 out f).length<=out.length+1/\∀x∈xl2 out f,x∈out\/x=f:=by
 grind [xl2,List.mem_singleton,q9h]
theorem qz8 (L:List Fit):∀k,k<=L.length->(qf4 L k).length<=k/\∀x∈qf4 L k,x∈L
 | 0,_=>⟨zab _,λx hx=>by cases hx⟩
 | k+1,hk=>by
  obtain⟨h1,h2⟩:=qz8 L k ow
  obtain⟨k1,k2⟩:=xl3 (qf4 L k) (nF L k)
  rw[qf4]
  refine⟨ow,λx hx=>?_⟩
  rcases k2 x hx with q | rfl
  all_goals grind [q2v]
structure w44 (m:List (List Int)) (y:List Int):Prop where
 f4:yn0 m y
 ok:qn5 m y=0->∀f∈q5n m y,wy4 f.2/\f.1.length<=1000
structure q6n (out l:List Fit) (L:List Fit) (n at_:Nat):Prop where
 le:at_<=n
 len:l.length=n+1
 sub:∀f∈l,f∈L
 eq:xr3 at_ l=out
theorem wy5 {L:List Fit} {k:Nat} (hk:k<L.length) (h9:L.length<=128) (hok:∀f∈L,wy4 f.2/\f.1.length<=1000) (v:Nat × List Fit) (b:q6n (qf4 L (k+1)) v.2 L (v.2.length-1) v.1) :
  (0<(v.1:Int)->v.1<v.2.length/\v.1<v.2.length/\fits .i64 ((v.1:Int)-1)/\(0<=(v.1:Int)-1/\(v.1:Int)-1<(v.2.length:Nat))/\((v.1:Int)-1).toNat<v.2.length/\((nF v.2 v.1).1.length<=1000000/\(nF v.2 ((v.1:Int)-1).toNat).1.length<=1000000) /\
   (q9z (nF v.2 v.1).1 (nF v.2 ((v.1:Int)-1).toNat).1=true->v.1<v.2.length/\v.1<v.2.length/\fits .i64 ((v.1:Int)-1)/\(0<=(v.1:Int)-1/\(v.1:Int)-1<(v.2.length:Nat))/\((v.1:Int)-1).toNat<v.2.length/\v.1<v.2.length/\v.1<v.2.length/\fits .i64 ((v.1:Int)-1) /\
    (0<=(v.1:Int)-1/\(v.1:Int)-1<((v.2.set v.1 (nF v.2 ((v.1:Int)-1).toNat)).length:Nat))/\((v.1:Int)-1).toNat<(v.2.set v.1 (nF v.2 ((v.1:Int)-1).toNat)).length/\fits .i64 ((v.1:Int)-1) /\
    ∃x:Nat × List Fit,q6n (qf4 L (k+1)) x.2 L (x.2.length-1) x.1/\x.1<v.1/\(v.1:Int)-1=(x.1:Int)/\(v.2.set v.1 (nF v.2 ((v.1:Int)-1).toNat)).set ((v.1:Int)-1).toNat (nF v.2 v.1)=x.2) /\
   (q9z (nF v.2 v.1).1 (nF v.2 ((v.1:Int)-1).toNat).1=false->fits .i64 ((k:Int)+1)/\∃x:Nat,x<=L.length/\L.length-x<L.length-k/\(k:Int)+1=x/\v.2=qf4 L x)) /\
  ((v.1:Int)<=0->fits .i64 ((k:Int)+1)/\∃x:Nat,x<=L.length/\L.length-x<L.length-k/\(k:Int)+1=x/\v.2=qf4 L x):=by
 obtain⟨i,l⟩:=v
 obtain⟨b1,b2,b3,b4⟩:=b
 dsimp only at *
 have hl:l.length<=200:=by
  grind [q9h,qz8]
 have hF:∀j,j<l.length->(nF l j).1.length<=1000000:=λj hj=>by grind [q2v]
 refine⟨λhp=>?_,λh0=>⟨qa3,k+1,hk,ow,by rfl,?_⟩⟩
 ·obtain⟨j,rfl⟩:∃j,i=j+1:=⟨i-1,ow⟩
  have e:(((j+1:Nat):Int)-1).toNat=j:=ow
  rw[e,za7]
  rw[xr3] at b4
  refine⟨ow,ow,qa3,⟨ow,ow⟩,ow,⟨hF _ ow,hF _ ow⟩,λht=>⟨ow,ow,qa3,⟨ow,ow⟩,ow,ow,ow,qa3,⟨ow,ow⟩,ow,qa3,(j,xr2 l j),⟨?_,?_,λx hx=>b3 x (w43 ow x hx),?_⟩,ow,ow,rfl⟩,λhf=>⟨qa3,k+1,hk,ow,by rfl,?_⟩⟩
  ·grind [q4s]
  ·grind [q4s]
  all_goals grind
 ·obtain rfl:i=0:=ow
  exact b4
abbrev yn6:qb3:=qe8 false none [tMask,tInts] [x8u,tInt] (λx=>w44 x.1 x.2.1) (λx=>((q90 x.1 x.2.1).1,(q90 x.1 x.2.1).2,()))
def yn7 (L:List Fit) (d:List AObj):Option Inv:=some (Eng.Inv.mk Nat (Nat × List Fit) [7,11] (d.length+2) (λ_ s=>[(7,.own 0),(11,.lit (.int .i64 s.1))]) (λk s=>.vec 55 tFit s.2 :: .box 55 (.cons (.dat (.int .i64) (nF L k).1) (.cons (.dat qo4 (nF L k).2) .nil)) :: d) (λk s=>q6n (qf4 L (k+1)) s.2 L (s.2.length-1) s.1) (λ_ s=>s.1))
def ya4 (L:List Fit):Nat->Option Inv
 | 0=>some (Inv.of [7,23] 1 (λk:Nat=>[(7,.own 0),(23,.lit (.int .i64 k))]) (λk=>[.vec 55 tFit (qf4 L k)]) (λk=>k<=L.length) (λk=>L.length-k))
 | 1=>yn7 L []
 | 13001=>yn7 L (List.replicate 10 .dead)
 | 14001=>yn7 L (List.replicate 11 .dead)
 | _=>none
theorem w7s:Meets Tryz.prog 159 yn6:=by
 refine mts (SpecsOk.cons q76 (SpecsOk.cons w7n (SpecsOk.cons xl1 (SpecsOk.cons w7q (SpecsOk.cons xk9 (SpecsOk.nil _)))))) Tryz.func159 (λx=>ya4 (q5n x.1 x.2.1)) ?_
 rintro⟨m,y,⟨⟩⟩ h
 revert m y
 intro(m:List (List Int)) (y:List Int) (h:w44 m y)
 refine vcs (let Q0:=q5n m y; let Q1:=q90 m y; q6g m/\((qn5 m y != (0:Int))=true->Q1.1=[]/\qn5 m y=Q1.2/\True)/\((qn5 m y != (0:Int))=false->q5o m y/\∃(v1:Unit),∃(v2:Nat),Nat.le v2 Q0.length/\((True/\(0:Int)=(↑v2:Int)/\True)/\qf4 Q0 v2=[]/\True)/\∀(v3:Nat),Nat.le v3 Q0.length->(decide ((↑v3:Int)<(↑Q0.length:Int))=true->((0:Int)<=(↑v3:Int)/\(↑v3:Int)<(↑Q0.length:Int))/\(decide ((0:Int)<(↑(qf4 Q0 v3).length:Int))=true->wy4 (nF Q0 v3).2/\((0:Int)<=(0:Int)/\(0:Int)<(↑(qf4 Q0 v3).length:Int))/\(0:Nat)<(qf4 Q0 v3).length/\wy4 (nF (qf4 Q0 v3) (0:Nat)).2/\(RxOk (300:Nat) (q5r (nF Q0 v3))/\RxOk (300:Nat) (q5r (nF (qf4 Q0 v3) (0:Nat))))/\(decide ((0:Int)<wf6 (q5r (nF Q0 v3)) (q5r (nF (qf4 Q0 v3) (0:Nat))))=true->fits .i64 ((↑v3:Int)+(1:Int))/\∃(v8:Nat),Nat.le v8 Q0.length/\Q0.length-v8<Q0.length-v3/\(True/\(↑v3:Int)+(1:Int)=(↑v8:Int)/\True)/\qf4 Q0 v3=qf4 Q0 v8/\True)/\(decide ((0:Int)<wf6 (q5r (nF Q0 v3)) (q5r (nF (qf4 Q0 v3) (0:Nat))))=false->(decide (wf6 (q5r (nF Q0 v3)) (q5r (nF (qf4 Q0 v3) (0:Nat)))<(0:Int))=true->((0:Nat)<List.length [(nF Q0 v3)]/\Nat.le (List.length [(nF Q0 v3)]) (1000000:Nat))/\∃(v9:Nat),∃(v10:Nat × List Fit),q6n (qf4 Q0 (v9+(1:Nat))) v10.2 Q0 (v10.2.length-(1:Nat)) v10.1/\((True/\(↑(0:Nat):Int)=(↑v10.1:Int)/\True)/\[(nF Q0 v3)]=v10.2/\((nF Q0 v3).1=(nF Q0 v9).1/\(nF Q0 v3).2=(nF Q0 v9).2/\True)/\True/\True/\True/\True/\True/\True/\True/\True/\True/\True/\True/\True)/\∀(v11:Nat × List Fit),q6n (qf4 Q0 (v9+(1:Nat))) v11.2 Q0 (v11.2.length-(1:Nat)) v11.1->(decide ((0:Int)<(↑v11.1:Int))=true->((0:Int)<=(↑v11.1:Int)/\(↑v11.1:Int)<(↑v11.2.length:Int))/\(↑v11.1:Int).toNat<v11.2.length/\fits .i64 ((↑v11.1:Int)-(1:Int))/\((0:Int)<=(↑v11.1:Int)-(1:Int)/\(↑v11.1:Int)-(1:Int)<(↑v11.2.length:Int))/\((↑v11.1:Int)-(1:Int)).toNat<v11.2.length/\((nF v11.2 (↑v11.1:Int).toNat).1.length<=(1000000:Nat)/\(nF v11.2 ((↑v11.1:Int)-(1:Int)).toNat).1.length<=(1000000:Nat))/\(q9z (nF v11.2 (↑v11.1:Int).toNat).1 (nF v11.2 ((↑v11.1:Int)-(1:Int)).toNat).1=true->((0:Int)<=(↑v11.1:Int)/\(↑v11.1:Int)<(↑v11.2.length:Int))/\(↑v11.1:Int).toNat<v11.2.length/\fits .i64 ((↑v11.1:Int)-(1:Int))/\((0:Int)<=(↑v11.1:Int)-(1:Int)/\(↑v11.1:Int)-(1:Int)<(↑v11.2.length:Int))/\((↑v11.1:Int)-(1:Int)).toNat<v11.2.length/\((0:Int)<=(↑v11.1:Int)/\(↑v11.1:Int)<(↑v11.2.length:Int))/\(↑v11.1:Int).toNat<v11.2.length/\fits .i64 ((↑v11.1:Int)-(1:Int))/\((0:Int)<=(↑v11.1:Int)-(1:Int)/\(↑v11.1:Int)-(1:Int)<(↑(List.set v11.2 (↑v11.1:Int).toNat (nF v11.2 ((↑v11.1:Int)-(1:Int)).toNat)).length:Int))/\((↑v11.1:Int)-(1:Int)).toNat<(List.set v11.2 (↑v11.1:Int).toNat (nF v11.2 ((↑v11.1:Int)-(1:Int)).toNat)).length/\fits .i64 ((↑v11.1:Int)-(1:Int))/\∃(v15:Nat × List Fit),q6n (qf4 Q0 (v9+(1:Nat))) v15.2 Q0 (v15.2.length-(1:Nat)) v15.1/\v15.1<v11.1/\(True/\(↑v11.1:Int)-(1:Int)=(↑v15.1:Int)/\True)/\List.set (List.set v11.2 (↑v11.1:Int).toNat (nF v11.2 ((↑v11.1:Int)-(1:Int)).toNat)) ((↑v11.1:Int)-(1:Int)).toNat (nF v11.2 (↑v11.1:Int).toNat)=v15.2/\((nF Q0 v9).1=(nF Q0 v9).1/\(nF Q0 v9).2=(nF Q0 v9).2/\True)/\True/\True/\True/\True/\True/\True/\True/\True/\True/\True/\True/\True)/\(q9z (nF v11.2 (↑v11.1:Int).toNat).1 (nF v11.2 ((↑v11.1:Int)-(1:Int)).toNat).1=false->fits .i64 ((↑v3:Int)+(1:Int))/\∃(v15:Nat),Nat.le v15 Q0.length/\Q0.length-v15<Q0.length-v3/\(True/\(↑v3:Int)+(1:Int)=(↑v15:Int)/\True)/\v11.2=qf4 Q0 v15/\True))/\(decide ((0:Int)<(↑v11.1:Int))=false->fits .i64 ((↑v3:Int)+(1:Int))/\∃(v14:Nat),Nat.le v14 Q0.length/\Q0.length-v14<Q0.length-v3/\(True/\(↑v3:Int)+(1:Int)=(↑v14:Int)/\True)/\v11.2=qf4 Q0 v14/\True))/\(decide (wf6 (q5r (nF Q0 v3)) (q5r (nF (qf4 Q0 v3) (0:Nat)))<(0:Int))=false->((0:Nat)<List.length [(nF Q0 v3)]/\Nat.le ((qf4 Q0 v3).length+List.length [(nF Q0 v3)]) (1000000:Nat))/\∃(v9:Nat),∃(v10:Nat × List Fit),q6n (qf4 Q0 (v9+(1:Nat))) v10.2 Q0 (v10.2.length-(1:Nat)) v10.1/\((True/\(↑(qf4 Q0 v3).length:Int)=(↑v10.1:Int)/\True)/\qf4 Q0 v3++[(nF Q0 v3)]=v10.2/\((nF Q0 v3).1=(nF Q0 v9).1/\(nF Q0 v3).2=(nF Q0 v9).2/\True)/\True/\True/\True/\True/\True/\True/\True/\True/\True/\True/\True)/\∀(v11:Nat × List Fit),q6n (qf4 Q0 (v9+(1:Nat))) v11.2 Q0 (v11.2.length-(1:Nat)) v11.1->(decide ((0:Int)<(↑v11.1:Int))=true->((0:Int)<=(↑v11.1:Int)/\(↑v11.1:Int)<(↑v11.2.length:Int))/\(↑v11.1:Int).toNat<v11.2.length/\fits .i64 ((↑v11.1:Int)-(1:Int))/\((0:Int)<=(↑v11.1:Int)-(1:Int)/\(↑v11.1:Int)-(1:Int)<(↑v11.2.length:Int))/\((↑v11.1:Int)-(1:Int)).toNat<v11.2.length/\((nF v11.2 (↑v11.1:Int).toNat).1.length<=(1000000:Nat)/\(nF v11.2 ((↑v11.1:Int)-(1:Int)).toNat).1.length<=(1000000:Nat))/\(q9z (nF v11.2 (↑v11.1:Int).toNat).1 (nF v11.2 ((↑v11.1:Int)-(1:Int)).toNat).1=true->((0:Int)<=(↑v11.1:Int)/\(↑v11.1:Int)<(↑v11.2.length:Int))/\(↑v11.1:Int).toNat<v11.2.length/\fits .i64 ((↑v11.1:Int)-(1:Int))/\((0:Int)<=(↑v11.1:Int)-(1:Int)/\(↑v11.1:Int)-(1:Int)<(↑v11.2.length:Int))/\((↑v11.1:Int)-(1:Int)).toNat<v11.2.length/\((0:Int)<=(↑v11.1:Int)/\(↑v11.1:Int)<(↑v11.2.length:Int))/\(↑v11.1:Int).toNat<v11.2.length/\fits .i64 ((↑v11.1:Int)-(1:Int))/\((0:Int)<=(↑v11.1:Int)-(1:Int)/\(↑v11.1:Int)-(1:Int)<(↑(List.set v11.2 (↑v11.1:Int).toNat (nF v11.2 ((↑v11.1:Int)-(1:Int)).toNat)).length:Int))/\((↑v11.1:Int)-(1:Int)).toNat<(List.set v11.2 (↑v11.1:Int).toNat (nF v11.2 ((↑v11.1:Int)-(1:Int)).toNat)).length/\fits .i64 ((↑v11.1:Int)-(1:Int))/\∃(v15:Nat × List Fit),q6n (qf4 Q0 (v9+(1:Nat))) v15.2 Q0 (v15.2.length-(1:Nat)) v15.1/\v15.1<v11.1/\(True/\(↑v11.1:Int)-(1:Int)=(↑v15.1:Int)/\True)/\List.set (List.set v11.2 (↑v11.1:Int).toNat (nF v11.2 ((↑v11.1:Int)-(1:Int)).toNat)) ((↑v11.1:Int)-(1:Int)).toNat (nF v11.2 (↑v11.1:Int).toNat)=v15.2/\((nF Q0 v9).1=(nF Q0 v9).1/\(nF Q0 v9).2=(nF Q0 v9).2/\True)/\True/\True/\True/\True/\True/\True/\True/\True/\True/\True/\True)/\(q9z (nF v11.2 (↑v11.1:Int).toNat).1 (nF v11.2 ((↑v11.1:Int)-(1:Int)).toNat).1=false->fits .i64 ((↑v3:Int)+(1:Int))/\∃(v15:Nat),Nat.le v15 Q0.length/\Q0.length-v15<Q0.length-v3/\(True/\(↑v3:Int)+(1:Int)=(↑v15:Int)/\True)/\v11.2=qf4 Q0 v15/\True))/\(decide ((0:Int)<(↑v11.1:Int))=false->fits .i64 ((↑v3:Int)+(1:Int))/\∃(v14:Nat),Nat.le v14 Q0.length/\Q0.length-v14<Q0.length-v3/\(True/\(↑v3:Int)+(1:Int)=(↑v14:Int)/\True)/\v11.2=qf4 Q0 v14/\True))))/\(decide ((0:Int)<(↑(qf4 Q0 v3).length:Int))=false->((0:Nat)<List.length [(nF Q0 v3)]/\Nat.le ((qf4 Q0 v3).length+List.length [(nF Q0 v3)]) (1000000:Nat))/\∃(v7:Nat),∃(v8:Nat × List Fit),q6n (qf4 Q0 (v7+(1:Nat))) v8.2 Q0 (v8.2.length-(1:Nat)) v8.1/\((True/\(↑(qf4 Q0 v3).length:Int)=(↑v8.1:Int)/\True)/\qf4 Q0 v3++[(nF Q0 v3)]=v8.2/\((nF Q0 v3).1=(nF Q0 v7).1/\(nF Q0 v3).2=(nF Q0 v7).2/\True)/\True)/\∀(v9:Nat × List Fit),q6n (qf4 Q0 (v7+(1:Nat))) v9.2 Q0 (v9.2.length-(1:Nat)) v9.1->(decide ((0:Int)<(↑v9.1:Int))=true->((0:Int)<=(↑v9.1:Int)/\(↑v9.1:Int)<(↑v9.2.length:Int))/\(↑v9.1:Int).toNat<v9.2.length/\fits .i64 ((↑v9.1:Int)-(1:Int))/\((0:Int)<=(↑v9.1:Int)-(1:Int)/\(↑v9.1:Int)-(1:Int)<(↑v9.2.length:Int))/\((↑v9.1:Int)-(1:Int)).toNat<v9.2.length/\((nF v9.2 (↑v9.1:Int).toNat).1.length<=(1000000:Nat)/\(nF v9.2 ((↑v9.1:Int)-(1:Int)).toNat).1.length<=(1000000:Nat))/\(q9z (nF v9.2 (↑v9.1:Int).toNat).1 (nF v9.2 ((↑v9.1:Int)-(1:Int)).toNat).1=true->((0:Int)<=(↑v9.1:Int)/\(↑v9.1:Int)<(↑v9.2.length:Int))/\(↑v9.1:Int).toNat<v9.2.length/\fits .i64 ((↑v9.1:Int)-(1:Int))/\((0:Int)<=(↑v9.1:Int)-(1:Int)/\(↑v9.1:Int)-(1:Int)<(↑v9.2.length:Int))/\((↑v9.1:Int)-(1:Int)).toNat<v9.2.length/\((0:Int)<=(↑v9.1:Int)/\(↑v9.1:Int)<(↑v9.2.length:Int))/\(↑v9.1:Int).toNat<v9.2.length/\fits .i64 ((↑v9.1:Int)-(1:Int))/\((0:Int)<=(↑v9.1:Int)-(1:Int)/\(↑v9.1:Int)-(1:Int)<(↑(List.set v9.2 (↑v9.1:Int).toNat (nF v9.2 ((↑v9.1:Int)-(1:Int)).toNat)).length:Int))/\((↑v9.1:Int)-(1:Int)).toNat<(List.set v9.2 (↑v9.1:Int).toNat (nF v9.2 ((↑v9.1:Int)-(1:Int)).toNat)).length/\fits .i64 ((↑v9.1:Int)-(1:Int))/\∃(v13:Nat × List Fit),q6n (qf4 Q0 (v7+(1:Nat))) v13.2 Q0 (v13.2.length-(1:Nat)) v13.1/\v13.1<v9.1/\(True/\(↑v9.1:Int)-(1:Int)=(↑v13.1:Int)/\True)/\List.set (List.set v9.2 (↑v9.1:Int).toNat (nF v9.2 ((↑v9.1:Int)-(1:Int)).toNat)) ((↑v9.1:Int)-(1:Int)).toNat (nF v9.2 (↑v9.1:Int).toNat)=v13.2/\((nF Q0 v7).1=(nF Q0 v7).1/\(nF Q0 v7).2=(nF Q0 v7).2/\True)/\True)/\(q9z (nF v9.2 (↑v9.1:Int).toNat).1 (nF v9.2 ((↑v9.1:Int)-(1:Int)).toNat).1=false->fits .i64 ((↑v3:Int)+(1:Int))/\∃(v13:Nat),Nat.le v13 Q0.length/\Q0.length-v13<Q0.length-v3/\(True/\(↑v3:Int)+(1:Int)=(↑v13:Int)/\True)/\v9.2=qf4 Q0 v13/\True))/\(decide ((0:Int)<(↑v9.1:Int))=false->fits .i64 ((↑v3:Int)+(1:Int))/\∃(v12:Nat),Nat.le v12 Q0.length/\Q0.length-v12<Q0.length-v3/\(True/\(↑v3:Int)+(1:Int)=(↑v12:Int)/\True)/\v9.2=qf4 Q0 v12/\True)))/\(decide ((↑v3:Int)<(↑Q0.length:Int))=false->(((↑(qf4 Q0 v3).length:Int)==(0:Int))=true->Q1.1=[]/\(10:Int)=Q1.2/\True)/\(((↑(qf4 Q0 v3).length:Int)==(0:Int))=false->qf4 Q0 v3=Q1.1/\(0:Int)=Q1.2/\True)))) ?_
 have hR:q90 m y=if qn5 m y≠0 then([],qn5 m y) else if w17 (q5n m y)=[] then([],10) else(w17 (q5n m y),0):=rfl
 refine⟨h.f4.fit,λhe=>by grind,λhe=>?_⟩
 have hA:=h.f4.all he
 have hlen:=w4m hA
 have hok:=h.ok he
 rw[hR,zak (λq=>q he)]
 refine⟨hA,?_⟩
 clear hR hA he h
 unfold w17
 generalize q5n m y=L at *
 refine⟨(),0,zae _,⟨rfl,rfl⟩,λk hk=>⟨λhlt=>?_,λhge=>?_⟩⟩
 case refine_2=>
  obtain rfl:k=L.length:=ow
  simp_all
 obtain⟨cl,cm⟩:=qz8 L k hk
 have hf:=hok _ (q2v hlt)
 have hS:qf4 L (k+1)=xl2 (qf4 L k) (nF L k):=rfl
 have sub:∀x∈qf4 L k++[nF L k],x∈L:=λx hx=>by
  grind [List.mem_singleton,q2v]
 refine⟨hlt,λhpos=>?_,λh0=>?_⟩
 ·have h0:nF (qf4 L k) 0∈qf4 L k:=q2v ow
  have hg:=hok _ (cm _ h0)
  have hne:¬qf4 L k=[]:=λq=>by grind
  rw[xl2,zak hne] at hS
  refine⟨hf.1,ow,ow,hg.1,⟨(w42 hf.1 _ (zab _)).up (by have:=hf.1.len; omega),(w42 hg.1 _ (zab _)).up (by have:=hg.1.len; omega)⟩,λhc=>?_,λhc=>⟨λhd=>⟨ow,k,(0,[nF L k]),⟨zae _,rfl,λx hx=>sub x (zev _ hx),?_⟩,⟨rfl,rfl,rfl,rfl⟩,?_⟩,λhd=>⟨ow,k,((qf4 L k).length,qf4 L k++[nF L k]),⟨by simp,by simp,sub,?_⟩,⟨rfl,rfl,rfl,rfl⟩,?_⟩⟩⟩
  ·rw[zao hc] at hS
   grind [qa3]
  ·rw[zak ow,zao hd] at hS; exact hS.symm
  rotate_left
  ·grind
  all_goals exact wy5 hlt hlen hok
 ·have h0:qf4 L k=[]:=zbe ow
  rw[h0,xl2,zao rfl] at hS
  rw[h0]
  exact⟨dc,k,(0,[nF L k]),⟨zae _,rfl,λx hx=>sub x (zev _ hx),hS.symm⟩,⟨rfl,rfl,rfl,rfl⟩,wy5 hlt hlen hok⟩
end Go.Proofs.YtnchigbbjajiiaaGreat
