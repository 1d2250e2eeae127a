/- The reference's reduced rows: contracts by the engine. No condition. -/
import Derived.Test.YtmijnbjlhnpokaaGreatV15
set_option linter.unusedVariables false
set_option linter.unusedSimpArgs false
namespace Go.Proofs.YtmijnbjlhnpokaaGreat
open Go Go.RowKit Eng
def qj9 (m:List (List Int)) (pix:List Int):List (List Int):=(List.range m.length).map λi=>qx5 (nL m i) pix
theorem q4a (m:List (List Int)) (pix:List Int):(qj9 m pix).length=m.length:=by simp[qj9]
theorem q17 (m:List (List Int)) (pix:List Int) (i:Nat) (hi:i<m.length):nL (qj9 m pix) i=qx5 (nL m i) pix:=by
 rw[qn4 _ _ (by rw[q4a]; exact hi)]; simp[qj9]
structure x5e (m:List (List Int)) (pix:List Int):Prop where
 rows:m.length<=10000
 cols:pix.length<=10000
 at_:∀i,i<m.length->∀j,j<pix.length->0<=nI pix j/\nI pix j<(nL m i).length
def lastTo (left:List (List Int)) (j:Nat):Nat->Int
 | 0=>-1
 | i+1=>if nI (nL left i) j≠0 then(i:Int) else lastTo left j i
def qu1 (left:List (List Int)) (j:Nat) (at_:Int):List Int:=if nI (nL left at_.toNat) j<0 then ql8 (nL left at_.toNat) (-1) else nL left at_.toNat
def qh1 (left:List (List Int)) (p:List Int) (j:Nat) (at_:Int):Nat->List (List Int)
 | 0=>[]
 | i+1=>if(i:Int)≠at_ then qh1 left p j at_ i++[qe5 (nL left i) p j] else qh1 left p j at_ i
structure RS where
 left:List (List Int)
 done_:List (List Int)
 piv:List Int
def q5q (s:RS) (j:Nat):RS:=
 if lastTo s.left j s.left.length<0 then s
 else⟨qh1 s.left (qu1 s.left j (lastTo s.left j s.left.length)) j (lastTo s.left j s.left.length) s.left.length,(s.done_.map λr=>qe5 r (qu1 s.left j (lastTo s.left j s.left.length)) j)++[qu1 s.left j (lastTo s.left j s.left.length)],s.piv++[(j:Int)]⟩
def qh5 (rows:List (List Int)):Nat->RS
 | 0=>⟨rows.map ql1,[],[]⟩
 | j+1=>q5q (qh5 rows j) j
def rdW (rows:List (List Int)):Nat:=(nL rows 0).length
def qd8 (rows:List (List Int)):List (List Int) × List Int:=((qh5 rows (rdW rows)).done_,(qh5 rows (rdW rows)).piv)
structure xs0 (s:RS) (j:Nat):Prop where
 sca:nI (nL s.left (lastTo s.left j s.left.length).toNat) j<0->xf6 (nL s.left (lastTo s.left j s.left.length).toNat) (-1)
 wo:∀i,i<s.left.length->(i:Int)≠lastTo s.left j s.left.length->xf7 (nL s.left i) (qu1 s.left j (lastTo s.left j s.left.length)) j
 woD:∀i,i<s.done_.length->xf7 (nL s.done_ i) (qu1 s.left j (lastTo s.left j s.left.length)) j
structure w9n (rows:List (List Int)):Prop where
 n:rows.length<=1000
 w:rdW rows<=1000
 each:∀i,i<rows.length->(nL rows i).length=rdW rows
 big:∀i,i<rows.length->q7e (nL rows i)
 step:∀j,j<rdW rows->0<=lastTo (qh5 rows j).left j (qh5 rows j).left.length->xs0 (qh5 rows j) j
theorem qs3 (l:List Int):(ql1 l).length=l.length:=by simp[ql1]
theorem qv9 (r p:List Int) (j:Nat):(qe5 r p j).length=r.length:=by unfold qe5; rw[qs3]; simp[q39]
theorem qu2 (l:List Int) (n:Int):(ql8 l n).length=l.length:=by simp[ql8]
theorem qx7 (left:List (List Int)) (j:Nat):∀k:Nat,lastTo left j k<k/\-1<=lastTo left j k
 | 0=>⟨by show(-1:Int)<0; omega,by show(-1:Int)<=-1; omega⟩
 | k+1=>by
  have:=qx7 left j k
  rw[lastTo]
  split <;> omega
theorem q18 (left:List (List Int)) (p:List Int) (j:Nat) (a:Int):∀k,∀x∈qh1 left p j a k,∃i,i<k/\(i:Int)≠a/\x=qe5 (nL left i) p j
 | 0,x,hx=>by cases hx
 | k+1,x,hx=>by
  rw[qh1] at hx
  split at hx
  ·rename_i hne
   rcases List.mem_append.1 hx with hx | hx
   ·obtain⟨i,h1,h2,h3⟩:=q18 left p j a k x hx
    exact⟨i,by omega,h2,h3⟩
   ·exact⟨k,by omega,hne,by simpa using hx⟩
  ·obtain⟨i,h1,h2,h3⟩:=q18 left p j a k x hx
   exact⟨i,by omega,h2,h3⟩
theorem q19 (left:List (List Int)) (p:List Int) (j:Nat) (a:Int):∀k,(qh1 left p j a k).length<=k
 | 0=>Nat.le_refl _
 | k+1=>by
  have:=q19 left p j a k
  rw[qh1]
  split
  ·simp; omega
  ·omega
structure RdSh (n W j:Nat) (s:RS):Prop where
 ln:s.left.length<=n
 le:∀x∈s.left,x.length=W
 dn:s.done_.length<=j
 de:∀x∈s.done_,x.length=W
 pn:s.piv.length<=j
theorem qx8 (m:List (List Int)) (i:Nat) (h:i<m.length):nL m i∈m:=by rw[qn4 m i h]; exact List.getElem_mem h
theorem w09 {n W j:Nat} {s:RS} (h:RdSh n W j s) (a:Int) (ha:0<=a) (hb:a<s.left.length):(qu1 s.left j a).length=W:=by
 unfold qu1
 have:=h.le _ (qx8 s.left a.toNat (by omega))
 split
 ·rw[qu2]; exact this
 ·exact this
theorem RdSh.step {n W j:Nat} {s:RS} (h:RdSh n W j s):RdSh n W (j+1) (q5q s j):=by
 unfold q5q
 have hl:=qx7 s.left j s.left.length
 generalize lastTo s.left j s.left.length=a at *
 split
 ·exact⟨h.ln,h.le,by have:=h.dn; omega,h.de,by have:=h.pn; omega⟩
 ·have hp:=w09 h a (by omega) hl.1
  refine⟨Nat.le_trans (q19 _ _ _ _ _) h.ln,λx hx=>?_,by have:=h.dn; simp; omega,λx hx=>?_,by have:=h.pn; simp; omega⟩
  ·obtain⟨i,h1,_,rfl⟩:=q18 _ _ _ _ _ x hx
   rw[qv9]; exact h.le _ (qx8 _ _ h1)
  ·rcases List.mem_append.1 hx with hx | hx
   ·obtain⟨y,hy,rfl⟩:=List.mem_map.1 hx
    rw[qv9]; exact h.de y hy
   ·rw[List.mem_singleton.1 hx]; exact hp
theorem w7t {rows:List (List Int)} (h:w9n rows):∀j,RdSh rows.length (rdW rows) j (qh5 rows j)
 | 0=>by
  refine⟨by simp[qh5],λx hx=>?_,Nat.le_refl _,(λx hx=>by cases hx),Nat.le_refl _⟩
  obtain⟨y,hy,rfl⟩:=List.mem_map.1 hx
  obtain⟨i,hi,rfl⟩:=List.getElem_of_mem hy
  rw[qs3,<- qn4 rows i hi]; exact h.each i hi
 | j+1=>(w7t h j).step
theorem q7m {rows:List (List Int)} {j:Nat} {s:RS} (h:qh5 rows j=s) (h0:s.left=[]):∀k,qh5 rows (j+k)=s
 | 0=>h
 | k+1=>by
  rw[<- Nat.add_assoc,qh5,q7m h h0 k,q5q,if_pos]
  rw[h0]; exact(by decide:(-1:Int)<0)
abbrev sRd:qc9:=qg4 false none [qo2] [qo2,qf1] (λx=>w9n x.1) (λx=>((qd8 x.1).1,(qd8 x.1).2,()))
structure xw5 (rows:List (List Int)) (j:Nat) (s:RS):Prop where
 le:j<=rdW rows
 eq:qh5 rows j=s
structure xs1 (d:List (List Int)) (p:List Int) (j i:Nat) (r:List (List Int)):Prop where
 le:i<=d.length
 eq:r=ovr (.list (.int .i64)) (λq=>qe5 (nL d q) p j) d i
def x97 (rows:List (List Int)):Nat->Option Inv
 | 0=>some (Inv.of [4,21] 1 (λk:Nat=>[(4,.own 0),(21,.lit (.int .i64 k))]) (λk=>[.vec 34 (.list (.int .i64)) ((rows.map ql1).take k)]) (λk=>k<=rows.length) (λk=>rows.length-k))
 | 1=>some (Inv.of [4,5,8,9] 3 (λs:Nat × RS=>[(4,.dat (.list (.int .i64)) s.2.left),(5,.own 1),(8,.own 2),(9,.lit (.int .i64 s.1))]) (λs=>[.dead,.vec 34 (.list (.int .i64)) s.2.done_,.vec 3 (.int .i64) s.2.piv]) (λs=>xw5 rows s.1 s.2) (λs=>rdW rows-s.1))
 | 2=>some (Eng.Inv.mk (Nat × RS) Nat [5,8,10,46] 3 (λq k=>[(5,.own 1),(8,.own 2),(10,.lit (.int .i64 (lastTo q.2.left q.1 k))),(46,.lit (.int .i64 k))]) (λq k=>[.dead,.vec 34 (.list (.int .i64)) q.2.done_,.vec 3 (.int .i64) q.2.piv]) (λq k=>k<=q.2.left.length) (λq k=>q.2.left.length-k))
 | 3=>some (Eng.Inv.mk (Nat × RS × List Int × Int) Nat [5,8,14,73] 4 (λq k=>[(5,.own 1),(8,.own 2),(14,.own 3),(73,.lit (.int .i64 k))]) (λq k=>[.dead,.vec 34 (.list (.int .i64)) q.2.1.done_,.vec 3 (.int .i64) q.2.1.piv,.vec 34 (.list (.int .i64)) (qh1 q.2.1.left q.2.2.1 q.1 q.2.2.2 k)]) (λq k=>k<=q.2.1.left.length) (λq k=>q.2.1.left.length-k))
 | 4=>some (Eng.Inv.mk (Nat × RS × List Int × Int) (Nat × List (List Int)) [5,8,14,89,91] 4 (λq s=>[(5,.own 1),(8,.own 2),(14,.own 3),(89,.own 1),(91,.lit (.int .i64 s.1))]) (λq s=>[.dead,.vec 34 (.list (.int .i64)) s.2,.vec 3 (.int .i64) q.2.1.piv,.vec 34 (.list (.int .i64)) (qh1 q.2.1.left q.2.2.1 q.1 q.2.2.2 q.2.1.left.length)]) (λq s=>xs1 q.2.1.done_ q.2.2.1 q.1 s.1 s.2) (λq s=>q.2.1.done_.length-s.1))
 | _=>none
theorem xf9:Meets Tryz.prog 92 sRd:=by
 refine meets (snd (SpecsOk.cons q7l (SpecsOk.cons w7s (SpecsOk.cons xf8 (SpecsOk.nil _))))) Tryz.func92 rfl rfl (λx=>x97 x.1) (λ_=>by kernel_rfl) (by decide) ?_
 rintro⟨rows,⟨⟩⟩ h
 revert rows
 intro(rows:List (List Int)) (h:w9n rows)
 refine @qe1 _ (let Q0:=List.map ql1 rows; let Q1:=qd8 rows; let Q2:=List Int; ∃(v0:Unit),∃(v1:Nat),Nat.le v1 rows.length/\((True/\(0:Int)=(↑v1:Int)/\True)/\List.take v1 Q0=[]/\True)/\∀(v2:Nat),Nat.le v2 rows.length->(decide ((↑v2:Int)<(↑rows.length:Int))=true->((0:Int)<=(↑v2:Int)/\(↑v2:Int)<(↑rows.length:Int))/\q7e (nL rows v2)/\((0:Nat)<(0:Nat)+(1:Nat)/\Nat.le ((List.take v2 Q0).length+((0:Nat)+(1:Nat))) (1000000:Nat))/\fits .i64 ((↑v2:Int)+(1:Int))/\∃(v5:Nat),Nat.le v5 rows.length/\rows.length-v5<rows.length-v2/\(True/\(↑v2:Int)+(1:Int)=(↑v5:Int)/\True)/\List.take v2 Q0++[ql1 (nL rows v2)]=List.take v5 Q0/\True)/\(decide ((↑v2:Int)<(↑rows.length:Int))=false->∃(v5:Unit),∃(v6:Nat × RS),xw5 rows v6.1 v6.2/\((List.take v2 Q0=RS.left v6.2/\True/\True/\(0:Int)=(↑v6.1:Int)/\True)/\True/\RS.done_ v6.2=[]/\RS.piv v6.2=[]/\True)/\∀(v7:Nat × RS),xw5 rows v7.1 v7.2->(decide ((0:Int)<(↑(RS.left v7.2).length:Int))=true->((0:Int)<=(0:Int)/\(0:Int)<(↑(RS.left v7.2).length:Int))/\(decide ((↑v7.1:Int)<(↑(nL (RS.left v7.2) (0:Nat)).length:Int))=true->∃(v11:Nat × RS),∃(v12:Nat),Nat.le v12 (RS.left v11.2).length/\((True/\True/\(-1:Int)=lastTo (RS.left v11.2) v11.1 v12/\(0:Int)=(↑v12:Int)/\True)/\True/\RS.done_ v7.2=RS.done_ v11.2/\RS.piv v7.2=RS.piv v11.2/\True)/\∀(v13:Nat),Nat.le v13 (RS.left v11.2).length->(decide ((↑v13:Int)<(↑(RS.left v7.2).length:Int))=true->((0:Int)<=(↑v13:Int)/\(↑v13:Int)<(↑(RS.left v7.2).length:Int))/\((0:Int)<=(↑v7.1:Int)/\(↑v7.1:Int)<(↑(nL (RS.left v7.2) v13).length:Int))/\((nI (nL (RS.left v7.2) v13) (↑v7.1:Int).toNat != (0:Int))=true->fits .i64 ((↑v13:Int)+(1:Int))/\∃(v17:Nat),Nat.le v17 (RS.left v11.2).length/\(RS.left v11.2).length-v17<(RS.left v11.2).length-v13/\(True/\True/\(↑v13:Int)=lastTo (RS.left v11.2) v11.1 v17/\(↑v13:Int)+(1:Int)=(↑v17:Int)/\True)/\True/\RS.done_ v11.2=RS.done_ v11.2/\RS.piv v11.2=RS.piv v11.2/\True)/\((nI (nL (RS.left v7.2) v13) (↑v7.1:Int).toNat != (0:Int))=false->fits .i64 ((↑v13:Int)+(1:Int))/\∃(v17:Nat),Nat.le v17 (RS.left v11.2).length/\(RS.left v11.2).length-v17<(RS.left v11.2).length-v13/\(True/\True/\lastTo (RS.left v11.2) v11.1 v13=lastTo (RS.left v11.2) v11.1 v17/\(↑v13:Int)+(1:Int)=(↑v17:Int)/\True)/\True/\RS.done_ v11.2=RS.done_ v11.2/\RS.piv v11.2=RS.piv v11.2/\True))/\(decide ((↑v13:Int)<(↑(RS.left v7.2).length:Int))=false->(decide (lastTo (RS.left v11.2) v11.1 v13<(0:Int))=true->fits .i64 ((↑v7.1:Int)+(1:Int))/\∃(v17:Nat × RS),xw5 rows v17.1 v17.2/\rdW rows-v17.1<rdW rows-v7.1/\(RS.left v7.2=RS.left v17.2/\True/\True/\(↑v7.1:Int)+(1:Int)=(↑v17.1:Int)/\True)/\True/\RS.done_ v11.2=RS.done_ v17.2/\RS.piv v11.2=RS.piv v17.2/\True)/\(decide (lastTo (RS.left v11.2) v11.1 v13<(0:Int))=false->((0:Int)<=lastTo (RS.left v11.2) v11.1 v13/\lastTo (RS.left v11.2) v11.1 v13<(↑(RS.left v7.2).length:Int))/\((0:Int)<=(↑v7.1:Int)/\(↑v7.1:Int)<(↑(nL (RS.left v7.2) (lastTo (RS.left v11.2) v11.1 v13).toNat).length:Int))/\(decide (nI (nL (RS.left v7.2) (lastTo (RS.left v11.2) v11.1 v13).toNat) (↑v7.1:Int).toNat<(0:Int))=true->xf6 (nL (RS.left v7.2) (lastTo (RS.left v11.2) v11.1 v13).toNat) (-1:Int)/\∃(v18:Nat × RS × List Int × Int),∃(v19:Nat),Nat.le v19 (RS.left v18.2.1).length/\((True/\True/\True/\(0:Int)=(↑v19:Int)/\True)/\True/\RS.done_ v11.2=RS.done_ v18.2.1/\RS.piv v11.2=RS.piv v18.2.1/\qh1 (RS.left v18.2.1) v18.2.2.1 v18.1 v18.2.2.2 v19=[]/\True)/\∀(v20:Nat),Nat.le v20 (RS.left v18.2.1).length->(decide ((↑v20:Int)<(↑(RS.left v7.2).length:Int))=true->((0:Int)<=(↑v20:Int)/\(↑v20:Int)<(↑(RS.left v7.2).length:Int))/\(((↑v20:Int) != lastTo (RS.left v11.2) v11.1 v13)=true->((0:Ty.den qg0)<=(↑v7.1:Int)/\xf7 (nL (RS.left v7.2) v20) (ql8 (nL (RS.left v7.2) (lastTo (RS.left v11.2) v11.1 v13).toNat) (-1:Int)) (↑v7.1:Int).toNat)/\((0:Nat)<List.length [qe5 (nL (RS.left v7.2) v20) (ql8 (nL (RS.left v7.2) (lastTo (RS.left v11.2) v11.1 v13).toNat) (-1:Int)) (↑v7.1:Int).toNat]/\Nat.le ((qh1 (RS.left v18.2.1) v18.2.2.1 v18.1 v18.2.2.2 v20).length+List.length [qe5 (nL (RS.left v7.2) v20) (ql8 (nL (RS.left v7.2) (lastTo (RS.left v11.2) v11.1 v13).toNat) (-1:Int)) (↑v7.1:Int).toNat]) (1000000:Nat))/\fits .i64 ((↑v20:Int)+(1:Int))/\∃(v24:Nat),Nat.le v24 (RS.left v18.2.1).length/\(RS.left v18.2.1).length-v24<(RS.left v18.2.1).length-v20/\(True/\True/\True/\(↑v20:Int)+(1:Int)=(↑v24:Int)/\True)/\True/\RS.done_ v18.2.1=RS.done_ v18.2.1/\RS.piv v18.2.1=RS.piv v18.2.1/\qh1 (RS.left v18.2.1) v18.2.2.1 v18.1 v18.2.2.2 v20++[qe5 (nL (RS.left v7.2) v20) (ql8 (nL (RS.left v7.2) (lastTo (RS.left v11.2) v11.1 v13).toNat) (-1:Int)) (↑v7.1:Int).toNat]=qh1 (RS.left v18.2.1) v18.2.2.1 v18.1 v18.2.2.2 v24/\True)/\(((↑v20:Int) != lastTo (RS.left v11.2) v11.1 v13)=false->fits .i64 ((↑v20:Int)+(1:Int))/\∃(v24:Nat),Nat.le v24 (RS.left v18.2.1).length/\(RS.left v18.2.1).length-v24<(RS.left v18.2.1).length-v20/\(True/\True/\True/\(↑v20:Int)+(1:Int)=(↑v24:Int)/\True)/\True/\RS.done_ v18.2.1=RS.done_ v18.2.1/\RS.piv v18.2.1=RS.piv v18.2.1/\qh1 (RS.left v18.2.1) v18.2.2.1 v18.1 v18.2.2.2 v20=qh1 (RS.left v18.2.1) v18.2.2.1 v18.1 v18.2.2.2 v24/\True))/\(decide ((↑v20:Int)<(↑(RS.left v7.2).length:Int))=false->∃(v23:Nat × RS × List Int × Int),∃(v24:Nat × List Q2),xs1 (RS.done_ v23.2.1) v23.2.2.1 v23.1 v24.1 v24.2/\((True/\True/\True/\True/\(0:Int)=(↑v24.1:Int)/\True)/\True/\RS.done_ v18.2.1=v24.2/\RS.piv v18.2.1=RS.piv v23.2.1/\qh1 (RS.left v18.2.1) v18.2.2.1 v18.1 v18.2.2.2 v20=qh1 (RS.left v23.2.1) v23.2.2.1 v23.1 v23.2.2.2 (RS.left v23.2.1).length/\True)/\∀(v25:Nat × List Q2),xs1 (RS.done_ v23.2.1) v23.2.2.1 v23.1 v25.1 v25.2->(decide ((↑v25.1:Int)<(↑(RS.done_ v18.2.1).length:Int))=true->((0:Int)<=(↑v25.1:Int)/\(↑v25.1:Int)<(↑v25.2.length:Int))/\(↑v25.1:Int).toNat<v25.2.length/\((0:Ty.den qg0)<=(↑v7.1:Int)/\xf7 (nL v25.2 (↑v25.1:Int).toNat) (ql8 (nL (RS.left v7.2) (lastTo (RS.left v11.2) v11.1 v13).toNat) (-1:Int)) (↑v7.1:Int).toNat)/\((0:Int)<=(↑v25.1:Int)/\(↑v25.1:Int)<(↑v25.2.length:Int))/\(↑v25.1:Int).toNat<v25.2.length/\fits .i64 ((↑v25.1:Int)+(1:Int))/\∃(v28:Nat × List Q2),xs1 (RS.done_ v23.2.1) v23.2.2.1 v23.1 v28.1 v28.2/\(RS.done_ v23.2.1).length-v28.1<(RS.done_ v23.2.1).length-v25.1/\(True/\True/\True/\True/\(↑v25.1:Int)+(1:Int)=(↑v28.1:Int)/\True)/\True/\List.set v25.2 (↑v25.1:Int).toNat (qe5 (nL v25.2 (↑v25.1:Int).toNat) (ql8 (nL (RS.left v7.2) (lastTo (RS.left v11.2) v11.1 v13).toNat) (-1:Int)) (↑v7.1:Int).toNat)=v28.2/\RS.piv v23.2.1=RS.piv v23.2.1/\qh1 (RS.left v23.2.1) v23.2.2.1 v23.1 v23.2.2.2 (RS.left v23.2.1).length=qh1 (RS.left v23.2.1) v23.2.2.1 v23.1 v23.2.2.2 (RS.left v23.2.1).length/\True)/\(decide ((↑v25.1:Int)<(↑(RS.done_ v18.2.1).length:Int))=false->((0:Nat)<List.length [ql8 (nL (RS.left v7.2) (lastTo (RS.left v11.2) v11.1 v13).toNat) (-1:Int)]/\Nat.le (v25.2.length+List.length [ql8 (nL (RS.left v7.2) (lastTo (RS.left v11.2) v11.1 v13).toNat) (-1:Int)]) (1000000:Nat))/\((0:Nat)<List.length [(↑v7.1:Int)]/\Nat.le ((RS.piv v23.2.1).length+List.length [(↑v7.1:Int)]) (1000000:Nat))/\fits .i64 ((↑v7.1:Int)+(1:Int))/\∃(v28:Nat × RS),xw5 rows v28.1 v28.2/\rdW rows-v28.1<rdW rows-v7.1/\(qh1 (RS.left v23.2.1) v23.2.2.1 v23.1 v23.2.2.2 (RS.left v23.2.1).length=RS.left v28.2/\True/\True/\(↑v7.1:Int)+(1:Int)=(↑v28.1:Int)/\True)/\True/\v25.2++[ql8 (nL (RS.left v7.2) (lastTo (RS.left v11.2) v11.1 v13).toNat) (-1:Int)]=RS.done_ v28.2/\RS.piv v23.2.1++[(↑v7.1:Int)]=RS.piv v28.2/\True)))/\(decide (nI (nL (RS.left v7.2) (lastTo (RS.left v11.2) v11.1 v13).toNat) (↑v7.1:Int).toNat<(0:Int))=false->∃(v18:Nat × RS × List Int × Int),∃(v19:Nat),Nat.le v19 (RS.left v18.2.1).length/\((True/\True/\True/\(0:Int)=(↑v19:Int)/\True)/\True/\RS.done_ v11.2=RS.done_ v18.2.1/\RS.piv v11.2=RS.piv v18.2.1/\qh1 (RS.left v18.2.1) v18.2.2.1 v18.1 v18.2.2.2 v19=[]/\True)/\∀(v20:Nat),Nat.le v20 (RS.left v18.2.1).length->(decide ((↑v20:Int)<(↑(RS.left v7.2).length:Int))=true->((0:Int)<=(↑v20:Int)/\(↑v20:Int)<(↑(RS.left v7.2).length:Int))/\(((↑v20:Int) != lastTo (RS.left v11.2) v11.1 v13)=true->((0:Ty.den qg0)<=(↑v7.1:Int)/\xf7 (nL (RS.left v7.2) v20) (nL (RS.left v7.2) (lastTo (RS.left v11.2) v11.1 v13).toNat) (↑v7.1:Int).toNat)/\((0:Nat)<List.length [qe5 (nL (RS.left v7.2) v20) (nL (RS.left v7.2) (lastTo (RS.left v11.2) v11.1 v13).toNat) (↑v7.1:Int).toNat]/\Nat.le ((qh1 (RS.left v18.2.1) v18.2.2.1 v18.1 v18.2.2.2 v20).length+List.length [qe5 (nL (RS.left v7.2) v20) (nL (RS.left v7.2) (lastTo (RS.left v11.2) v11.1 v13).toNat) (↑v7.1:Int).toNat]) (1000000:Nat))/\fits .i64 ((↑v20:Int)+(1:Int))/\∃(v24:Nat),Nat.le v24 (RS.left v18.2.1).length/\(RS.left v18.2.1).length-v24<(RS.left v18.2.1).length-v20/\(True/\True/\True/\(↑v20:Int)+(1:Int)=(↑v24:Int)/\True)/\True/\RS.done_ v18.2.1=RS.done_ v18.2.1/\RS.piv v18.2.1=RS.piv v18.2.1/\qh1 (RS.left v18.2.1) v18.2.2.1 v18.1 v18.2.2.2 v20++[qe5 (nL (RS.left v7.2) v20) (nL (RS.left v7.2) (lastTo (RS.left v11.2) v11.1 v13).toNat) (↑v7.1:Int).toNat]=qh1 (RS.left v18.2.1) v18.2.2.1 v18.1 v18.2.2.2 v24/\True)/\(((↑v20:Int) != lastTo (RS.left v11.2) v11.1 v13)=false->fits .i64 ((↑v20:Int)+(1:Int))/\∃(v24:Nat),Nat.le v24 (RS.left v18.2.1).length/\(RS.left v18.2.1).length-v24<(RS.left v18.2.1).length-v20/\(True/\True/\True/\(↑v20:Int)+(1:Int)=(↑v24:Int)/\True)/\True/\RS.done_ v18.2.1=RS.done_ v18.2.1/\RS.piv v18.2.1=RS.piv v18.2.1/\qh1 (RS.left v18.2.1) v18.2.2.1 v18.1 v18.2.2.2 v20=qh1 (RS.left v18.2.1) v18.2.2.1 v18.1 v18.2.2.2 v24/\True))/\(decide ((↑v20:Int)<(↑(RS.left v7.2).length:Int))=false->∃(v23:Nat × RS × List Int × Int),∃(v24:Nat × List Q2),xs1 (RS.done_ v23.2.1) v23.2.2.1 v23.1 v24.1 v24.2/\((True/\True/\True/\True/\(0:Int)=(↑v24.1:Int)/\True)/\True/\RS.done_ v18.2.1=v24.2/\RS.piv v18.2.1=RS.piv v23.2.1/\qh1 (RS.left v18.2.1) v18.2.2.1 v18.1 v18.2.2.2 v20=qh1 (RS.left v23.2.1) v23.2.2.1 v23.1 v23.2.2.2 (RS.left v23.2.1).length/\True)/\∀(v25:Nat × List Q2),xs1 (RS.done_ v23.2.1) v23.2.2.1 v23.1 v25.1 v25.2->(decide ((↑v25.1:Int)<(↑(RS.done_ v18.2.1).length:Int))=true->((0:Int)<=(↑v25.1:Int)/\(↑v25.1:Int)<(↑v25.2.length:Int))/\(↑v25.1:Int).toNat<v25.2.length/\((0:Ty.den qg0)<=(↑v7.1:Int)/\xf7 (nL v25.2 (↑v25.1:Int).toNat) (nL (RS.left v7.2) (lastTo (RS.left v11.2) v11.1 v13).toNat) (↑v7.1:Int).toNat)/\((0:Int)<=(↑v25.1:Int)/\(↑v25.1:Int)<(↑v25.2.length:Int))/\(↑v25.1:Int).toNat<v25.2.length/\fits .i64 ((↑v25.1:Int)+(1:Int))/\∃(v28:Nat × List Q2),xs1 (RS.done_ v23.2.1) v23.2.2.1 v23.1 v28.1 v28.2/\(RS.done_ v23.2.1).length-v28.1<(RS.done_ v23.2.1).length-v25.1/\(True/\True/\True/\True/\(↑v25.1:Int)+(1:Int)=(↑v28.1:Int)/\True)/\True/\List.set v25.2 (↑v25.1:Int).toNat (qe5 (nL v25.2 (↑v25.1:Int).toNat) (nL (RS.left v7.2) (lastTo (RS.left v11.2) v11.1 v13).toNat) (↑v7.1:Int).toNat)=v28.2/\RS.piv v23.2.1=RS.piv v23.2.1/\qh1 (RS.left v23.2.1) v23.2.2.1 v23.1 v23.2.2.2 (RS.left v23.2.1).length=qh1 (RS.left v23.2.1) v23.2.2.1 v23.1 v23.2.2.2 (RS.left v23.2.1).length/\True)/\(decide ((↑v25.1:Int)<(↑(RS.done_ v18.2.1).length:Int))=false->((0:Nat)<List.length [nL (RS.left v7.2) (lastTo (RS.left v11.2) v11.1 v13).toNat]/\Nat.le (v25.2.length+List.length [nL (RS.left v7.2) (lastTo (RS.left v11.2) v11.1 v13).toNat]) (1000000:Nat))/\((0:Nat)<List.length [(↑v7.1:Int)]/\Nat.le ((RS.piv v23.2.1).length+List.length [(↑v7.1:Int)]) (1000000:Nat))/\fits .i64 ((↑v7.1:Int)+(1:Int))/\∃(v28:Nat × RS),xw5 rows v28.1 v28.2/\rdW rows-v28.1<rdW rows-v7.1/\(qh1 (RS.left v23.2.1) v23.2.2.1 v23.1 v23.2.2.2 (RS.left v23.2.1).length=RS.left v28.2/\True/\True/\(↑v7.1:Int)+(1:Int)=(↑v28.1:Int)/\True)/\True/\v25.2++[nL (RS.left v7.2) (lastTo (RS.left v11.2) v11.1 v13).toNat]=RS.done_ v28.2/\RS.piv v23.2.1++[(↑v7.1:Int)]=RS.piv v28.2/\True))))))/\(decide ((↑v7.1:Int)<(↑(nL (RS.left v7.2) (0:Nat)).length:Int))=false->RS.done_ v7.2=Q1.1/\RS.piv v7.2=Q1.2/\True))/\(decide ((0:Int)<(↑(RS.left v7.2).length:Int))=false->RS.done_ v7.2=Q1.1/\RS.piv v7.2=Q1.2/\True))) (by kernel_rfl) ?_
 try simp only[z0,z1,z2,z3,z4,z5,z6,z7,z8,z9,z10,Int.reduceEq,z11,z12,z13,z14,z15,z16,z17,z18,z19,z20,z21,z22,z23,z24,z25,z26,z27,z28,z29,z30,Int.reduceLE,Int.reduceLT,z31,z32,z33,z34,qa1]
 try simp only[qb5,qb6,qd2,z31,z32,z2,z1]
 have hn:=h.n
 have hw:=h.w
 refine⟨(),0,Nat.zero_le _,⟨rfl,rfl⟩,λk hk=>⟨λhlt=>⟨hlt,h.big k hlt,by rw[List.length_take,List.length_map]; omega,qa7 (by omega) (by omega),k+1,by omega,by omega,by omega,?_⟩,λhge=>?_⟩⟩
 ·rw[takeL_snoc _ k (by simpa using hlt),qn4 (rows.map ql1) k (by simpa using hlt),qn4 rows k hlt]
  simp
 refine⟨(),(0,qh5 rows 0),⟨Nat.zero_le _,rfl⟩,⟨⟨by rw[List.take_of_length_le (by rw[List.length_map]; omega)]; rfl,rfl⟩,rfl,rfl⟩,?_⟩
 rintro⟨j,s⟩ ⟨hj,hs⟩
 dsimp only at hj hs ⊢
 have hsh:=w7t h j
 rw[hs] at hsh
 have hln:=hsh.ln
 have hdn:=hsh.dn
 have hpn:=hsh.pn
 have hle:∀i,i<s.left.length->(nL s.left i).length=rdW rows:=λi hi=>hsh.le _ (qx8 _ _ hi)
 have hde:∀i,i<s.done_.length->(nL s.done_ i).length=rdW rows:=λi hi=>hsh.de _ (qx8 _ _ hi)
 refine⟨λhl0=>⟨hl0,λhjl=>?_,λhjl=>?_⟩,λhl0=>?_⟩
 ·have hjW:j<rdW rows:=by rw[hle 0 (by omega)] at hjl; exact hjl
  refine⟨(j,s),0,Nat.zero_le _,⟨⟨rfl,rfl⟩,rfl,rfl⟩,λk hk=>⟨λhlt=>⟨hlt,by rw[hle k hlt]; exact hjW,λhz=>⟨qa7 (by omega) (by omega),k+1,hlt,by dsimp only; omega,by rw[lastTo,if_pos hz],by omega⟩,λhz=>⟨qa7 (by omega) (by omega),k+1,hlt,by dsimp only; omega,by rw[lastTo,if_neg (λq=>q hz)],by omega⟩⟩,λhge=>?_⟩⟩
  dsimp only at hk hge ⊢
  obtain rfl:k=s.left.length:=by omega
  have hlast:=qx7 s.left j s.left.length
  refine⟨λhneg=>⟨qa7 (by omega) (by omega),(j+1,s),⟨by dsimp only; omega,by dsimp only; rw[qh5,hs,q5q,if_pos hneg]⟩,by dsimp only; omega,⟨rfl,by dsimp only; omega⟩,rfl,rfl⟩,λhpos=>?_⟩
  have hst:xs0 s j:=by have:=h.step j hjW; rw[hs] at this; exact this hpos
  have h1:=hst.sca
  have h2:=hst.wo
  have h3:=hst.woD
  clear hst
  have hnx:qh5 rows (j+1)=⟨qh1 s.left (qu1 s.left j (lastTo s.left j s.left.length)) j (lastTo s.left j s.left.length) s.left.length,(s.done_.map λr=>qe5 r (qu1 s.left j (lastTo s.left j s.left.length)) j)++[qu1 s.left j (lastTo s.left j s.left.length)],s.piv++[(j:Int)]⟩:=by rw[qh5,hs,q5q,if_neg (by omega)]
  have hpl:=w09 hsh (lastTo s.left j s.left.length) hpos hlast.1
  have hpe:qu1 s.left j (lastTo s.left j s.left.length)=if nI (nL s.left (lastTo s.left j s.left.length).toNat) j<0 then ql8 (nL s.left (lastTo s.left j s.left.length).toNat) (-1) else nL s.left (lastTo s.left j s.left.length).toNat:=rfl
  generalize lastTo s.left j s.left.length=a at *
  refine⟨⟨hpos,hlast.1⟩,by rw[hle _ (by omega)]; exact hjW,λhng=>⟨h1 hng,?_⟩,λhng=>?_⟩
  ·have hp:ql8 (nL s.left a.toNat) (-1)=qu1 s.left j a:=by rw[hpe,if_pos hng]
   rw[hp]
   refine⟨(j,s,qu1 s.left j a,a),0,Nat.zero_le _,⟨rfl,rfl,rfl,rfl⟩,λk hk=>⟨λhlt=>⟨hlt,λhne=>⟨h2 k hlt hne,by have:=q19 s.left (qu1 s.left j a) j a k; dsimp only; omega,qa7 (by omega) (by omega),k+1,hlt,by dsimp only; omega,by omega,by rw[qh1,if_pos hne]⟩,λhe=>⟨qa7 (by omega) (by omega),k+1,hlt,by dsimp only; omega,by omega,by rw[qh1,if_neg (λq=>q he)]⟩⟩,λhge=>?_⟩⟩
   dsimp only at hk hge ⊢
   obtain rfl:k=s.left.length:=by omega
   refine⟨(j,s,qu1 s.left j a,a),(0,s.done_),⟨Nat.zero_le _,(qv5 (.list (.int .i64)) _ _).symm⟩,⟨rfl,rfl,rfl,rfl⟩,?_⟩
   rintro⟨i,r⟩ ⟨hi1,hi2⟩
   dsimp only at hi1 hi2 ⊢
   have hrl:r.length=s.done_.length:=by rw[hi2]; exact qq5 (.list (.int .i64)) _ _ _
   refine⟨λhlt=>?_,λhge=>?_⟩
   ·have hri:nL r i=nL s.done_ i:=by rw[hi2]; exact(q3t (.list (.int .i64)) _ _ _ _ hlt).trans (if_neg (Nat.lt_irrefl _))
    rw[hri]
    exact⟨by omega,by omega,h3 i hlt,by omega,by omega,qa7 (by omega) (by omega),(i+1,r.set i (qe5 (nL s.done_ i) (qu1 s.left j a) j)),⟨by dsimp only; omega,by dsimp only; rw[hi2]; exact qt4 (.list (.int .i64)) (λq=>qe5 (nL s.done_ q) (qu1 s.left j a) j) _ _⟩,by dsimp only; omega,by dsimp only; omega,rfl⟩
   ·obtain rfl:i=s.done_.length:=by omega
    have hr:r=s.done_.map λr=>qe5 r (qu1 s.left j a) j:=by
     rw[hi2]
     refine(q07 (.list (.int .i64)) _ _ _ (Nat.le_refl _)).trans ?_
     apply List.ext_getElem (by simp)
     intro q k1 k2
     simp only[List.getElem_map,List.getElem_range]
     rw[qn4 _ q (by simpa using k1)]
    refine⟨by omega,by omega,qa7 (by omega) (by omega),(j+1,qh5 rows (j+1)),⟨by dsimp only; omega,rfl⟩,by dsimp only; omega,⟨by rw[hnx],by dsimp only; omega⟩,by rw[hnx,hr],by rw[hnx]⟩
  ·have hp:nL s.left a.toNat=qu1 s.left j a:=by rw[hpe,if_neg (by omega)]
   rw[hp]
   refine⟨(j,s,qu1 s.left j a,a),0,Nat.zero_le _,⟨rfl,rfl,rfl,rfl⟩,λk hk=>⟨λhlt=>⟨hlt,λhne=>⟨h2 k hlt hne,by have:=q19 s.left (qu1 s.left j a) j a k; dsimp only; omega,qa7 (by omega) (by omega),k+1,hlt,by dsimp only; omega,by omega,by rw[qh1,if_pos hne]⟩,λhe=>⟨qa7 (by omega) (by omega),k+1,hlt,by dsimp only; omega,by omega,by rw[qh1,if_neg (λq=>q he)]⟩⟩,λhge=>?_⟩⟩
   dsimp only at hk hge ⊢
   obtain rfl:k=s.left.length:=by omega
   refine⟨(j,s,qu1 s.left j a,a),(0,s.done_),⟨Nat.zero_le _,(qv5 (.list (.int .i64)) _ _).symm⟩,⟨rfl,rfl,rfl,rfl⟩,?_⟩
   rintro⟨i,r⟩ ⟨hi1,hi2⟩
   dsimp only at hi1 hi2 ⊢
   have hrl:r.length=s.done_.length:=by rw[hi2]; exact qq5 (.list (.int .i64)) _ _ _
   refine⟨λhlt=>?_,λhge=>?_⟩
   ·have hri:nL r i=nL s.done_ i:=by rw[hi2]; exact(q3t (.list (.int .i64)) _ _ _ _ hlt).trans (if_neg (Nat.lt_irrefl _))
    rw[hri]
    exact⟨by omega,by omega,h3 i hlt,by omega,by omega,qa7 (by omega) (by omega),(i+1,r.set i (qe5 (nL s.done_ i) (qu1 s.left j a) j)),⟨by dsimp only; omega,by dsimp only; rw[hi2]; exact qt4 (.list (.int .i64)) (λq=>qe5 (nL s.done_ q) (qu1 s.left j a) j) _ _⟩,by dsimp only; omega,by dsimp only; omega,rfl⟩
   ·obtain rfl:i=s.done_.length:=by omega
    have hr:r=s.done_.map λr=>qe5 r (qu1 s.left j a) j:=by
     rw[hi2]
     refine(q07 (.list (.int .i64)) _ _ _ (Nat.le_refl _)).trans ?_
     apply List.ext_getElem (by simp)
     intro q k1 k2
     simp only[List.getElem_map,List.getElem_range]
     rw[qn4 _ q (by simpa using k1)]
    refine⟨by omega,by omega,qa7 (by omega) (by omega),(j+1,qh5 rows (j+1)),⟨by dsimp only; omega,rfl⟩,by dsimp only; omega,⟨by rw[hnx],by dsimp only; omega⟩,by rw[hnx,hr],by rw[hnx]⟩
 ·have e:j=rdW rows:=by rw[hle 0 (by omega)] at hjl; omega
  subst e
  unfold qd8
  rw[hs]
  exact⟨rfl,rfl⟩
 ·have e:s.left=[]:=List.eq_nil_of_length_eq_zero (by omega)
  have:=q7m hs e (rdW rows-j)
  rw[show j+(rdW rows-j)=rdW rows by omega] at this
  unfold qd8
  rw[this]
  exact⟨rfl,rfl⟩
end Go.Proofs.YtmijnbjlhnpokaaGreat
