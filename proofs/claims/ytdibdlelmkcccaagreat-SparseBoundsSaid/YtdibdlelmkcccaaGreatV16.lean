/- The reference's reduced rows: contracts by the engine. No condition. -/
import Derived.Test.YtdibdlelmkcccaaGreatV15
set_option linter.unusedVariables false
set_option linter.unusedSimpArgs false
namespace Go.Proofs.YtdibdlelmkcccaaGreat
open Go Go.RowKit Eng
def qj1 (m:List (List Int)) (pix:List Int):List (List Int):=(List.range m.length).map λi=>qp1 (nL m i) pix
theorem q6x (m:List (List Int)) (pix:List Int):(qj1 m pix).length=m.length:=by simp[qj1]
theorem qs8 (m:List (List Int)) (pix:List Int) (i:Nat) (hi:i<m.length):nL (qj1 m pix) i=qp1 (nL m i) pix:=by
 rw[ql9 _ _ (by rw[q6x]; exact hi)]; simp[qj1]
structure w7r (m:List (List Int)) (pix:List Int):Prop where
 rows:m.length<=10000
 cols:pix.length<=10000
 at_:∀i,i<m.length->∀j,j<pix.length->0<=nI pix j/\nI pix j<(nL m i).length
def x5g (m:List (List Int)) (pix:List Int):Nat->Option Inv
 | 0=>some (Inv.of [5,13] 1 (λk:Nat=>[(5,.msl 0 .none),(13,.lit (.int .i64 k))]) (λk=>[.mat 24 3 (.int .i64) ((qj1 m pix).take k) .none .none]) (λk=>k<=m.length) (λk=>m.length-k))
 | 1=>some (Eng.Inv.mk Nat Nat [5,8,20] 2 (λ_ j=>[(5,.msl 0 .none),(8,.own 1),(20,.lit (.int .i64 j))]) (λk j=>[.mat 24 3 (.int .i64) ((qj1 m pix).take k) .none .none,.vec 3 (.int .i64) ((qp1 (nL m k) pix).take j)]) (λ_ j=>j<=pix.length) (λ_ j=>pix.length-j))
 | _=>none
abbrev x5h:qc0:=qf8 true none [tMask,tInts] [tMask] (λx=>w7r x.1 x.2.1) (λx=>(qj1 x.1 x.2.1,()))
theorem w35:qd3 Tryz.prog 142 x5h:=by
 refine meets (x7b [34] (SpecsOk.nil _)) Tryz.func142 rfl rfl (λx=>x5g x.1 x.2.1) (λ_=>by kernel_rfl) (by decide) ?_
 rintro⟨m,pix,⟨⟩⟩ h
 revert m pix
 intro(m:List (List Int)) (pix:List Int) (h:w7r m pix)
 refine @qd8 _ (let Q0:=qj1 m pix; let Q1:=List.length pix; let Q2:=List.length m; ∃(v0:Unit),∃(v1:Nat),Nat.le v1 Q2/\((True/\(0:Int)=(↑v1:Int)/\True)/\List.take v1 Q0=[]/\True)/\∀(v2:Nat),Nat.le v2 Q2->(decide ((↑v2:Int)<(↑Q2:Int))=true->((0:Int)<=(↑v2:Int)/\(↑v2:Int)<(↑Q2:Int))/\∃(v5:Nat),∃(v6:Nat),Nat.le v6 Q1/\((True/\True/\(0:Int)=(↑v6:Int)/\True)/\(List.take v2 Q0=List.take v5 Q0/\True/\True)/\[]=List.take v6 (qp1 (nL m v5) pix)/\True)/\∀(v7:Nat),Nat.le v7 Q1->(decide ((↑v7:Int)<(↑Q1:Int))=true->((0:Int)<=(↑v7:Int)/\(↑v7:Int)<(↑Q1:Int))/\((0:Int)<=qa1 (Ty.int .i64) pix (Int.toNat (↑v7:Int))/\qa1 (Ty.int .i64) pix (Int.toNat (↑v7:Int))<(↑(List.length (qa1 (Ty.list (Ty.int .i64)) m (Int.toNat (↑v2:Int)))):Int))/\((0:Nat)<List.length [qa1 (Ty.int .i64) (qa1 (Ty.list (Ty.int .i64)) m (Int.toNat (↑v2:Int))) (Int.toNat (qa1 (Ty.int .i64) pix (Int.toNat (↑v7:Int))))]/\Nat.le (List.length (List.take v7 (qp1 (nL m v5) pix))+List.length [qa1 (Ty.int .i64) (qa1 (Ty.list (Ty.int .i64)) m (Int.toNat (↑v2:Int))) (Int.toNat (qa1 (Ty.int .i64) pix (Int.toNat (↑v7:Int))))]) (1000000:Nat))/\fits .i64 ((↑v7:Int)+(1:Int))/\∃(v10:Nat),Nat.le v10 Q1/\List.length pix-v10<List.length pix-v7/\(True/\True/\(↑v7:Int)+(1:Int)=(↑v10:Int)/\True)/\(List.take v5 Q0=List.take v5 Q0/\True/\True)/\List.take v7 (qp1 (nL m v5) pix)++[qa1 (Ty.int .i64) (qa1 (Ty.list (Ty.int .i64)) m (Int.toNat (↑v2:Int))) (Int.toNat (qa1 (Ty.int .i64) pix (Int.toNat (↑v7:Int))))]=List.take v10 (qp1 (nL m v5) pix)/\True)/\(decide ((↑v7:Int)<(↑Q1:Int))=false->((0:Nat)<(0:Nat)+(1:Nat)/\List.length (List.take v5 Q0)+((0:Nat)+(1:Nat))<=(1000000:Nat))/\fits .i64 ((↑v2:Int)+(1:Int))/\∃(v10:Nat),Nat.le v10 Q2/\List.length m-v10<List.length m-v2/\(True/\(↑v2:Int)+(1:Int)=(↑v10:Int)/\True)/\(List.take v5 Q0++[List.take v7 (qp1 (nL m v5) pix)]=List.take v10 Q0/\True/\True)/\True))/\(decide ((↑v2:Int)<(↑Q2:Int))=false->q3p (Ty.int .i64) (List.take v2 Q0) none=qj1 m pix)) (by kernel_rfl) ?_
 try simp only[z0,z1,z2,z3,z4,z5,z6,z7,z8,z9,z10,Int.reduceEq,z11,z12,z13,z14,z15,z16,z17,z18,z19,z20,z21,z22,z23,z24,z25,z26,z27,z28,z29,z30,Int.reduceLE,Int.reduceLT,z31,z32,z33,z34,qa4]
 try simp only[qb6,qb7,qc8,List.set_cons_zero,List.cons.injEq,and_true,true_and]
 have hr:=h.rows
 have hc:=h.cols
 have hl:=q6x m pix
 refine⟨(),0,Nat.zero_le _,⟨rfl,rfl⟩,λk hk=>⟨λhlt=>⟨hlt,k,0,Nat.zero_le _,⟨rfl,rfl,rfl⟩,λj hj=>⟨λhj2=>?_,λhj2=>?_⟩⟩,λhge=>?_⟩⟩
 ·have h1:=qk8 (nL m k) pix
  refine⟨hj2,h.at_ k hlt j hj2,by rw[List.length_take]; omega,qa7 (by omega) (by omega),j+1,by omega,by omega,by omega,?_⟩
  rw[q6n _ j (by omega),qv2 _ _ _ hj2]
 ·obtain rfl:j=pix.length:=by omega
  have h1:=qk8 (nL m k) pix
  have h3:(qp1 (nL m k) pix).take pix.length=qp1 (nL m k) pix:=List.take_of_length_le (by omega)
  rw[h3]
  refine⟨by rw[List.length_take]; omega,qa7 (by omega) (by omega),k+1,by omega,by omega,by omega,?_⟩
  rw[takeL_snoc _ k (by omega),qs8 _ _ _ hlt]
 ·first | (rw[List.take_of_length_le (by omega)]; rfl) | rw[List.take_of_length_le (by omega)]
def lastTo (left:List (List Int)) (j:Nat):Nat->Int
 | 0=>-1
 | i+1=>if nI (nL left i) j≠0 then(i:Int) else lastTo left j i
def qu3 (left:List (List Int)) (j:Nat) (at_:Int):List Int:=if nI (nL left at_.toNat) j<0 then qj0 (nL left at_.toNat) (-1) else nL left at_.toNat
def qf9 (left:List (List Int)) (p:List Int) (j:Nat) (at_:Int):Nat->List (List Int)
 | 0=>[]
 | i+1=>if(i:Int)≠at_ then qf9 left p j at_ i++[qe0 (nL left i) p j] else qf9 left p j at_ i
structure RS where
 left:List (List Int)
 done_:List (List Int)
 piv:List Int
def q6y (s:RS) (j:Nat):RS:=
 if lastTo s.left j s.left.length<0 then s
 else⟨qf9 s.left (qu3 s.left j (lastTo s.left j s.left.length)) j (lastTo s.left j s.left.length) s.left.length,(s.done_.map λr=>qe0 r (qu3 s.left j (lastTo s.left j s.left.length)) j)++[qu3 s.left j (lastTo s.left j s.left.length)],s.piv++[(j:Int)]⟩
def qg0 (rows:List (List Int)):Nat->RS
 | 0=>⟨rows.map qj5,[],[]⟩
 | j+1=>q6y (qg0 rows j) j
def rdW (rows:List (List Int)):Nat:=(nL rows 0).length
def qd6 (rows:List (List Int)):List (List Int) × List Int:=((qg0 rows (rdW rows)).done_,(qg0 rows (rdW rows)).piv)
structure xs2 (s:RS) (j:Nat):Prop where
 sca:nI (nL s.left (lastTo s.left j s.left.length).toNat) j<0->w7q (nL s.left (lastTo s.left j s.left.length).toNat) (-1)
 wo:∀i,i<s.left.length->(i:Int)≠lastTo s.left j s.left.length->xe8 (nL s.left i) (qu3 s.left j (lastTo s.left j s.left.length)) j
 woD:∀i,i<s.done_.length->xe8 (nL s.done_ i) (qu3 s.left j (lastTo s.left j s.left.length)) j
structure xf1 (rows:List (List Int)):Prop where
 n:rows.length<=1000
 w:rdW rows<=1000
 each:∀i,i<rows.length->(nL rows i).length=rdW rows
 big:∀i,i<rows.length->q36 (nL rows i)
 step:∀j,j<rdW rows->0<=lastTo (qg0 rows j).left j (qg0 rows j).left.length->xs2 (qg0 rows j) j
theorem qm9 (l:List Int):(qj5 l).length=l.length:=by simp[qj5]
theorem qv3 (r p:List Int) (j:Nat):(qe0 r p j).length=r.length:=by unfold qe0; rw[qm9]; simp[q3c]
theorem qt1 (l:List Int) (n:Int):(qj0 l n).length=l.length:=by simp[qj0]
theorem q0m (left:List (List Int)) (j:Nat):∀k:Nat,lastTo left j k<k/\-1<=lastTo left j k
 | 0=>⟨by show(-1:Int)<0; omega,by show(-1:Int)<=-1; omega⟩
 | k+1=>by
  have:=q0m left j k
  rw[lastTo]
  split <;> omega
theorem q1e (left:List (List Int)) (p:List Int) (j:Nat) (a:Int):∀k,∀x∈qf9 left p j a k,∃i,i<k/\(i:Int)≠a/\x=qe0 (nL left i) p j
 | 0,x,hx=>by cases hx
 | k+1,x,hx=>by
  rw[qf9] at hx
  split at hx
  ·rename_i hne
   rcases List.mem_append.1 hx with hx | hx
   ·obtain⟨i,h1,h2,h3⟩:=q1e left p j a k x hx
    exact⟨i,by omega,h2,h3⟩
   ·exact⟨k,by omega,hne,by simpa using hx⟩
  ·obtain⟨i,h1,h2,h3⟩:=q1e left p j a k x hx
   exact⟨i,by omega,h2,h3⟩
theorem q1f (left:List (List Int)) (p:List Int) (j:Nat) (a:Int):∀k,(qf9 left p j a k).length<=k
 | 0=>Nat.le_refl _
 | k+1=>by
  have:=q1f left p j a k
  rw[qf9]
  split
  ·simp; omega
  ·omega
structure RdSh (n W j:Nat) (s:RS):Prop where
 ln:s.left.length<=n
 le:∀x∈s.left,x.length=W
 dn:s.done_.length<=j
 de:∀x∈s.done_,x.length=W
 pn:s.piv.length<=j
theorem qn8 (m:List (List Int)) (i:Nat) (h:i<m.length):nL m i∈m:=by rw[ql9 m i h]; exact List.getElem_mem h
theorem w1f {n W j:Nat} {s:RS} (h:RdSh n W j s) (a:Int) (ha:0<=a) (hb:a<s.left.length):(qu3 s.left j a).length=W:=by
 unfold qu3
 have:=h.le _ (qn8 s.left a.toNat (by omega))
 split
 ·rw[qt1]; exact this
 ·exact this
theorem RdSh.step {n W j:Nat} {s:RS} (h:RdSh n W j s):RdSh n W (j+1) (q6y s j):=by
 unfold q6y
 have hl:=q0m s.left j s.left.length
 generalize lastTo s.left j s.left.length=a at *
 split
 ·exact⟨h.ln,h.le,by have:=h.dn; omega,h.de,by have:=h.pn; omega⟩
 ·have hp:=w1f h a (by omega) hl.1
  refine⟨Nat.le_trans (q1f _ _ _ _ _) h.ln,λx hx=>?_,by have:=h.dn; simp; omega,λx hx=>?_,by have:=h.pn; simp; omega⟩
  ·obtain⟨i,h1,_,rfl⟩:=q1e _ _ _ _ _ x hx
   rw[qv3]; exact h.le _ (qn8 _ _ h1)
  ·rcases List.mem_append.1 hx with hx | hx
   ·obtain⟨y,hy,rfl⟩:=List.mem_map.1 hx
    rw[qv3]; exact h.de y hy
   ·rw[List.mem_singleton.1 hx]; exact hp
theorem wu1 {rows:List (List Int)} (h:xf1 rows):∀j,RdSh rows.length (rdW rows) j (qg0 rows j)
 | 0=>by
  refine⟨by simp[qg0],λx hx=>?_,Nat.le_refl _,(λx hx=>by cases hx),Nat.le_refl _⟩
  obtain⟨y,hy,rfl⟩:=List.mem_map.1 hx
  obtain⟨i,hi,rfl⟩:=List.getElem_of_mem hy
  rw[qm9,<- ql9 rows i hi]; exact h.each i hi
 | j+1=>(wu1 h j).step
theorem wn5 {rows:List (List Int)} {j:Nat} {s:RS} (h:qg0 rows j=s) (h0:s.left=[]):∀k,qg0 rows (j+k)=s
 | 0=>h
 | k+1=>by
  rw[<- Nat.add_assoc,qg0,wn5 h h0 k,q6y,if_pos]
  rw[h0]; exact(by decide:(-1:Int)<0)
abbrev sRd:qc0:=qf8 false none [tMask] [tMask,tInts] (λx=>xf1 x.1) (λx=>((qd6 x.1).1,(qd6 x.1).2,()))
structure xx7 (rows:List (List Int)) (j:Nat) (s:RS):Prop where
 le:j<=rdW rows
 eq:qg0 rows j=s
structure xs3 (d:List (List Int)) (p:List Int) (j i:Nat) (r:List (List Int)):Prop where
 le:i<=d.length
 eq:r=ovr (.list (.int .i64)) (λq=>qe0 (nL d q) p j) d i
def x9y (rows:List (List Int)):Nat->Option Inv
 | 0=>some (Inv.of [4,21] 1 (λk:Nat=>[(4,.own 0),(21,.lit (.int .i64 k))]) (λk=>[.vec 24 (.list (.int .i64)) ((rows.map qj5).take k)]) (λk=>k<=rows.length) (λk=>rows.length-k))
 | 1=>some (Inv.of [4,5,8,9] 3 (λs:Nat × RS=>[(4,.dat (.list (.int .i64)) s.2.left),(5,.own 1),(8,.own 2),(9,.lit (.int .i64 s.1))]) (λs=>[.dead,.vec 24 (.list (.int .i64)) s.2.done_,.vec 3 (.int .i64) s.2.piv]) (λs=>xx7 rows s.1 s.2) (λs=>rdW rows-s.1))
 | 2=>some (Eng.Inv.mk (Nat × RS) Nat [5,8,10,46] 3 (λq k=>[(5,.own 1),(8,.own 2),(10,.lit (.int .i64 (lastTo q.2.left q.1 k))),(46,.lit (.int .i64 k))]) (λq k=>[.dead,.vec 24 (.list (.int .i64)) q.2.done_,.vec 3 (.int .i64) q.2.piv]) (λq k=>k<=q.2.left.length) (λq k=>q.2.left.length-k))
 | 3=>some (Eng.Inv.mk (Nat × RS × List Int × Int) Nat [5,8,14,73] 4 (λq k=>[(5,.own 1),(8,.own 2),(14,.own 3),(73,.lit (.int .i64 k))]) (λq k=>[.dead,.vec 24 (.list (.int .i64)) q.2.1.done_,.vec 3 (.int .i64) q.2.1.piv,.vec 24 (.list (.int .i64)) (qf9 q.2.1.left q.2.2.1 q.1 q.2.2.2 k)]) (λq k=>k<=q.2.1.left.length) (λq k=>q.2.1.left.length-k))
 | 4=>some (Eng.Inv.mk (Nat × RS × List Int × Int) (Nat × List (List Int)) [5,8,14,89,91] 4 (λq s=>[(5,.own 1),(8,.own 2),(14,.own 3),(89,.own 1),(91,.lit (.int .i64 s.1))]) (λq s=>[.dead,.vec 24 (.list (.int .i64)) s.2,.vec 3 (.int .i64) q.2.1.piv,.vec 24 (.list (.int .i64)) (qf9 q.2.1.left q.2.2.1 q.1 q.2.2.2 q.2.1.left.length)]) (λq s=>xs3 q.2.1.done_ q.2.2.1 q.1 s.1 s.2) (λq s=>q.2.1.done_.length-s.1))
 | _=>none
theorem xf2:qd3 Tryz.prog 71 sRd:=by
 refine meets (snd (SpecsOk.cons q18 (SpecsOk.cons wn4 (SpecsOk.cons xe9 (SpecsOk.nil _))))) Tryz.func71 rfl rfl (λx=>x9y x.1) (λ_=>by kernel_rfl) (by decide) ?_
 rintro⟨rows,⟨⟩⟩ h
 revert rows
 intro(rows:List (List Int)) (h:xf1 rows)
 refine @qd8 _ (let Q0:=List.map qj5 rows; let Q1:=List.length rows; let Q2:=qd6 rows; let Q3:=List Int; ∃(v0:Unit),∃(v1:Nat),Nat.le v1 Q1/\((True/\(0:Int)=(↑v1:Int)/\True)/\List.take v1 Q0=[]/\True)/\∀(v2:Nat),Nat.le v2 Q1->(decide ((↑v2:Int)<(↑Q1:Int))=true->((0:Int)<=(↑v2:Int)/\(↑v2:Int)<(↑Q1:Int))/\q36 (qa1 (Ty.list (Ty.int .i64)) rows (Int.toNat (↑v2:Int)))/\((0:Nat)<(0:Nat)+(1:Nat)/\Nat.le (List.length (List.take v2 Q0)+((0:Nat)+(1:Nat))) (1000000:Nat))/\fits .i64 ((↑v2:Int)+(1:Int))/\∃(v5:Nat),Nat.le v5 Q1/\List.length rows-v5<List.length rows-v2/\(True/\(↑v2:Int)+(1:Int)=(↑v5:Int)/\True)/\List.take v2 Q0++[qj5 (qa1 (Ty.list (Ty.int .i64)) rows (Int.toNat (↑v2:Int)))]=List.take v5 Q0/\True)/\(decide ((↑v2:Int)<(↑Q1:Int))=false->∃(v5:Unit),∃(v6:Nat × RS),xx7 rows (Prod.fst v6) (Prod.snd v6)/\((List.take v2 Q0=RS.left (Prod.snd v6)/\True/\True/\(0:Int)=(↑(Prod.fst v6):Int)/\True)/\True/\RS.done_ (Prod.snd v6)=[]/\RS.piv (Prod.snd v6)=[]/\True)/\∀(v7:Nat × RS),xx7 rows (Prod.fst v7) (Prod.snd v7)->(decide ((0:Int)<(↑(List.length (RS.left (Prod.snd v7))):Int))=true->((0:Int)<=(0:Int)/\(0:Int)<(↑(List.length (RS.left (Prod.snd v7))):Int))/\(decide ((↑(Prod.fst v7):Int)<(↑(List.length (qa1 (Ty.list (Ty.int .i64)) (RS.left (Prod.snd v7)) (0:Nat))):Int))=true->∃(v11:Nat × RS),∃(v12:Nat),Nat.le v12 (List.length (RS.left (Prod.snd v11)))/\((True/\True/\(-1:Int)=lastTo (RS.left (Prod.snd v11)) (Prod.fst v11) v12/\(0:Int)=(↑v12:Int)/\True)/\True/\RS.done_ (Prod.snd v7)=RS.done_ (Prod.snd v11)/\RS.piv (Prod.snd v7)=RS.piv (Prod.snd v11)/\True)/\∀(v13:Nat),Nat.le v13 (List.length (RS.left (Prod.snd v11)))->(decide ((↑v13:Int)<(↑(List.length (RS.left (Prod.snd v7))):Int))=true->((0:Int)<=(↑v13:Int)/\(↑v13:Int)<(↑(List.length (RS.left (Prod.snd v7))):Int))/\((0:Int)<=(↑(Prod.fst v7):Int)/\(↑(Prod.fst v7):Int)<(↑(List.length (qa1 (Ty.list (Ty.int .i64)) (RS.left (Prod.snd v7)) (Int.toNat (↑v13:Int)))):Int))/\((qa1 (Ty.int .i64) (qa1 (Ty.list (Ty.int .i64)) (RS.left (Prod.snd v7)) (Int.toNat (↑v13:Int))) (Int.toNat (↑(Prod.fst v7):Int)) != (0:Int))=true->fits .i64 ((↑v13:Int)+(1:Int))/\∃(v17:Nat),Nat.le v17 (List.length (RS.left (Prod.snd v11)))/\List.length (RS.left (Prod.snd v11))-v17<List.length (RS.left (Prod.snd v11))-v13/\(True/\True/\(↑v13:Int)=lastTo (RS.left (Prod.snd v11)) (Prod.fst v11) v17/\(↑v13:Int)+(1:Int)=(↑v17:Int)/\True)/\True/\RS.done_ (Prod.snd v11)=RS.done_ (Prod.snd v11)/\RS.piv (Prod.snd v11)=RS.piv (Prod.snd v11)/\True)/\((qa1 (Ty.int .i64) (qa1 (Ty.list (Ty.int .i64)) (RS.left (Prod.snd v7)) (Int.toNat (↑v13:Int))) (Int.toNat (↑(Prod.fst v7):Int)) != (0:Int))=false->fits .i64 ((↑v13:Int)+(1:Int))/\∃(v17:Nat),Nat.le v17 (List.length (RS.left (Prod.snd v11)))/\List.length (RS.left (Prod.snd v11))-v17<List.length (RS.left (Prod.snd v11))-v13/\(True/\True/\lastTo (RS.left (Prod.snd v11)) (Prod.fst v11) v13=lastTo (RS.left (Prod.snd v11)) (Prod.fst v11) v17/\(↑v13:Int)+(1:Int)=(↑v17:Int)/\True)/\True/\RS.done_ (Prod.snd v11)=RS.done_ (Prod.snd v11)/\RS.piv (Prod.snd v11)=RS.piv (Prod.snd v11)/\True))/\(decide ((↑v13:Int)<(↑(List.length (RS.left (Prod.snd v7))):Int))=false->(decide (lastTo (RS.left (Prod.snd v11)) (Prod.fst v11) v13<(0:Int))=true->fits .i64 ((↑(Prod.fst v7):Int)+(1:Int))/\∃(v17:Nat × RS),xx7 rows (Prod.fst v17) (Prod.snd v17)/\rdW rows-Prod.fst v17<rdW rows-Prod.fst v7/\(RS.left (Prod.snd v7)=RS.left (Prod.snd v17)/\True/\True/\(↑(Prod.fst v7):Int)+(1:Int)=(↑(Prod.fst v17):Int)/\True)/\True/\RS.done_ (Prod.snd v11)=RS.done_ (Prod.snd v17)/\RS.piv (Prod.snd v11)=RS.piv (Prod.snd v17)/\True)/\(decide (lastTo (RS.left (Prod.snd v11)) (Prod.fst v11) v13<(0:Int))=false->((0:Int)<=lastTo (RS.left (Prod.snd v11)) (Prod.fst v11) v13/\lastTo (RS.left (Prod.snd v11)) (Prod.fst v11) v13<(↑(List.length (RS.left (Prod.snd v7))):Int))/\((0:Int)<=(↑(Prod.fst v7):Int)/\(↑(Prod.fst v7):Int)<(↑(List.length (qa1 (Ty.list (Ty.int .i64)) (RS.left (Prod.snd v7)) (Int.toNat (lastTo (RS.left (Prod.snd v11)) (Prod.fst v11) v13)))):Int))/\(decide (qa1 (Ty.int .i64) (qa1 (Ty.list (Ty.int .i64)) (RS.left (Prod.snd v7)) (Int.toNat (lastTo (RS.left (Prod.snd v11)) (Prod.fst v11) v13))) (Int.toNat (↑(Prod.fst v7):Int))<(0:Int))=true->w7q (qa1 (Ty.list (Ty.int .i64)) (RS.left (Prod.snd v7)) (Int.toNat (lastTo (RS.left (Prod.snd v11)) (Prod.fst v11) v13))) (-1:Int)/\∃(v18:Nat × RS × List Int × Int),∃(v19:Nat),Nat.le v19 (List.length (RS.left (Prod.fst (Prod.snd v18))))/\((True/\True/\True/\(0:Int)=(↑v19:Int)/\True)/\True/\RS.done_ (Prod.snd v11)=RS.done_ (Prod.fst (Prod.snd v18))/\RS.piv (Prod.snd v11)=RS.piv (Prod.fst (Prod.snd v18))/\qf9 (RS.left (Prod.fst (Prod.snd v18))) (Prod.fst (Prod.snd (Prod.snd v18))) (Prod.fst v18) (Prod.snd (Prod.snd (Prod.snd v18))) v19=[]/\True)/\∀(v20:Nat),Nat.le v20 (List.length (RS.left (Prod.fst (Prod.snd v18))))->(decide ((↑v20:Int)<(↑(List.length (RS.left (Prod.snd v7))):Int))=true->((0:Int)<=(↑v20:Int)/\(↑v20:Int)<(↑(List.length (RS.left (Prod.snd v7))):Int))/\(((↑v20:Int) != lastTo (RS.left (Prod.snd v11)) (Prod.fst v11) v13)=true->((0:Ty.den tInt)<=(↑(Prod.fst v7):Int)/\xe8 (qa1 (Ty.list (Ty.int .i64)) (RS.left (Prod.snd v7)) (Int.toNat (↑v20:Int))) (qj0 (qa1 (Ty.list (Ty.int .i64)) (RS.left (Prod.snd v7)) (Int.toNat (lastTo (RS.left (Prod.snd v11)) (Prod.fst v11) v13))) (-1:Int)) (Int.toNat (↑(Prod.fst v7):Int)))/\((0:Nat)<List.length [qe0 (qa1 (Ty.list (Ty.int .i64)) (RS.left (Prod.snd v7)) (Int.toNat (↑v20:Int))) (qj0 (qa1 (Ty.list (Ty.int .i64)) (RS.left (Prod.snd v7)) (Int.toNat (lastTo (RS.left (Prod.snd v11)) (Prod.fst v11) v13))) (-1:Int)) (Int.toNat (↑(Prod.fst v7):Int))]/\Nat.le (List.length (qf9 (RS.left (Prod.fst (Prod.snd v18))) (Prod.fst (Prod.snd (Prod.snd v18))) (Prod.fst v18) (Prod.snd (Prod.snd (Prod.snd v18))) v20)+List.length [qe0 (qa1 (Ty.list (Ty.int .i64)) (RS.left (Prod.snd v7)) (Int.toNat (↑v20:Int))) (qj0 (qa1 (Ty.list (Ty.int .i64)) (RS.left (Prod.snd v7)) (Int.toNat (lastTo (RS.left (Prod.snd v11)) (Prod.fst v11) v13))) (-1:Int)) (Int.toNat (↑(Prod.fst v7):Int))]) (1000000:Nat))/\fits .i64 ((↑v20:Int)+(1:Int))/\∃(v24:Nat),Nat.le v24 (List.length (RS.left (Prod.fst (Prod.snd v18))))/\List.length (RS.left (Prod.fst (Prod.snd v18)))-v24<List.length (RS.left (Prod.fst (Prod.snd v18)))-v20/\(True/\True/\True/\(↑v20:Int)+(1:Int)=(↑v24:Int)/\True)/\True/\RS.done_ (Prod.fst (Prod.snd v18))=RS.done_ (Prod.fst (Prod.snd v18))/\RS.piv (Prod.fst (Prod.snd v18))=RS.piv (Prod.fst (Prod.snd v18))/\qf9 (RS.left (Prod.fst (Prod.snd v18))) (Prod.fst (Prod.snd (Prod.snd v18))) (Prod.fst v18) (Prod.snd (Prod.snd (Prod.snd v18))) v20++[qe0 (qa1 (Ty.list (Ty.int .i64)) (RS.left (Prod.snd v7)) (Int.toNat (↑v20:Int))) (qj0 (qa1 (Ty.list (Ty.int .i64)) (RS.left (Prod.snd v7)) (Int.toNat (lastTo (RS.left (Prod.snd v11)) (Prod.fst v11) v13))) (-1:Int)) (Int.toNat (↑(Prod.fst v7):Int))]=qf9 (RS.left (Prod.fst (Prod.snd v18))) (Prod.fst (Prod.snd (Prod.snd v18))) (Prod.fst v18) (Prod.snd (Prod.snd (Prod.snd v18))) v24/\True)/\(((↑v20:Int) != lastTo (RS.left (Prod.snd v11)) (Prod.fst v11) v13)=false->fits .i64 ((↑v20:Int)+(1:Int))/\∃(v24:Nat),Nat.le v24 (List.length (RS.left (Prod.fst (Prod.snd v18))))/\List.length (RS.left (Prod.fst (Prod.snd v18)))-v24<List.length (RS.left (Prod.fst (Prod.snd v18)))-v20/\(True/\True/\True/\(↑v20:Int)+(1:Int)=(↑v24:Int)/\True)/\True/\RS.done_ (Prod.fst (Prod.snd v18))=RS.done_ (Prod.fst (Prod.snd v18))/\RS.piv (Prod.fst (Prod.snd v18))=RS.piv (Prod.fst (Prod.snd v18))/\qf9 (RS.left (Prod.fst (Prod.snd v18))) (Prod.fst (Prod.snd (Prod.snd v18))) (Prod.fst v18) (Prod.snd (Prod.snd (Prod.snd v18))) v20=qf9 (RS.left (Prod.fst (Prod.snd v18))) (Prod.fst (Prod.snd (Prod.snd v18))) (Prod.fst v18) (Prod.snd (Prod.snd (Prod.snd v18))) v24/\True))/\(decide ((↑v20:Int)<(↑(List.length (RS.left (Prod.snd v7))):Int))=false->∃(v23:Nat × RS × List Int × Int),∃(v24:Nat × List Q3),xs3 (RS.done_ (Prod.fst (Prod.snd v23))) (Prod.fst (Prod.snd (Prod.snd v23))) (Prod.fst v23) (Prod.fst v24) (Prod.snd v24)/\((True/\True/\True/\True/\(0:Int)=(↑(Prod.fst v24):Int)/\True)/\True/\RS.done_ (Prod.fst (Prod.snd v18))=Prod.snd v24/\RS.piv (Prod.fst (Prod.snd v18))=RS.piv (Prod.fst (Prod.snd v23))/\qf9 (RS.left (Prod.fst (Prod.snd v18))) (Prod.fst (Prod.snd (Prod.snd v18))) (Prod.fst v18) (Prod.snd (Prod.snd (Prod.snd v18))) v20=qf9 (RS.left (Prod.fst (Prod.snd v23))) (Prod.fst (Prod.snd (Prod.snd v23))) (Prod.fst v23) (Prod.snd (Prod.snd (Prod.snd v23))) (List.length (RS.left (Prod.fst (Prod.snd v23))))/\True)/\∀(v25:Nat × List Q3),xs3 (RS.done_ (Prod.fst (Prod.snd v23))) (Prod.fst (Prod.snd (Prod.snd v23))) (Prod.fst v23) (Prod.fst v25) (Prod.snd v25)->(decide ((↑(Prod.fst v25):Int)<(↑(List.length (RS.done_ (Prod.fst (Prod.snd v18)))):Int))=true->((0:Int)<=(↑(Prod.fst v25):Int)/\(↑(Prod.fst v25):Int)<(↑(List.length (Prod.snd v25)):Int))/\Int.toNat (↑(Prod.fst v25):Int)<List.length (Prod.snd v25)/\((0:Ty.den tInt)<=(↑(Prod.fst v7):Int)/\xe8 (qa1 (Ty.list (Ty.int .i64)) (Prod.snd v25) (Int.toNat (↑(Prod.fst v25):Int))) (qj0 (qa1 (Ty.list (Ty.int .i64)) (RS.left (Prod.snd v7)) (Int.toNat (lastTo (RS.left (Prod.snd v11)) (Prod.fst v11) v13))) (-1:Int)) (Int.toNat (↑(Prod.fst v7):Int)))/\((0:Int)<=(↑(Prod.fst v25):Int)/\(↑(Prod.fst v25):Int)<(↑(List.length (Prod.snd v25)):Int))/\Int.toNat (↑(Prod.fst v25):Int)<List.length (Prod.snd v25)/\fits .i64 ((↑(Prod.fst v25):Int)+(1:Int))/\∃(v28:Nat × List Q3),xs3 (RS.done_ (Prod.fst (Prod.snd v23))) (Prod.fst (Prod.snd (Prod.snd v23))) (Prod.fst v23) (Prod.fst v28) (Prod.snd v28)/\List.length (RS.done_ (Prod.fst (Prod.snd v23)))-Prod.fst v28<List.length (RS.done_ (Prod.fst (Prod.snd v23)))-Prod.fst v25/\(True/\True/\True/\True/\(↑(Prod.fst v25):Int)+(1:Int)=(↑(Prod.fst v28):Int)/\True)/\True/\List.set (Prod.snd v25) (Int.toNat (↑(Prod.fst v25):Int)) (qe0 (qa1 (Ty.list (Ty.int .i64)) (Prod.snd v25) (Int.toNat (↑(Prod.fst v25):Int))) (qj0 (qa1 (Ty.list (Ty.int .i64)) (RS.left (Prod.snd v7)) (Int.toNat (lastTo (RS.left (Prod.snd v11)) (Prod.fst v11) v13))) (-1:Int)) (Int.toNat (↑(Prod.fst v7):Int)))=Prod.snd v28/\RS.piv (Prod.fst (Prod.snd v23))=RS.piv (Prod.fst (Prod.snd v23))/\qf9 (RS.left (Prod.fst (Prod.snd v23))) (Prod.fst (Prod.snd (Prod.snd v23))) (Prod.fst v23) (Prod.snd (Prod.snd (Prod.snd v23))) (List.length (RS.left (Prod.fst (Prod.snd v23))))=qf9 (RS.left (Prod.fst (Prod.snd v23))) (Prod.fst (Prod.snd (Prod.snd v23))) (Prod.fst v23) (Prod.snd (Prod.snd (Prod.snd v23))) (List.length (RS.left (Prod.fst (Prod.snd v23))))/\True)/\(decide ((↑(Prod.fst v25):Int)<(↑(List.length (RS.done_ (Prod.fst (Prod.snd v18)))):Int))=false->((0:Nat)<List.length [qj0 (qa1 (Ty.list (Ty.int .i64)) (RS.left (Prod.snd v7)) (Int.toNat (lastTo (RS.left (Prod.snd v11)) (Prod.fst v11) v13))) (-1:Int)]/\Nat.le (List.length (Prod.snd v25)+List.length [qj0 (qa1 (Ty.list (Ty.int .i64)) (RS.left (Prod.snd v7)) (Int.toNat (lastTo (RS.left (Prod.snd v11)) (Prod.fst v11) v13))) (-1:Int)]) (1000000:Nat))/\((0:Nat)<List.length [(↑(Prod.fst v7):Int)]/\Nat.le (List.length (RS.piv (Prod.fst (Prod.snd v23)))+List.length [(↑(Prod.fst v7):Int)]) (1000000:Nat))/\fits .i64 ((↑(Prod.fst v7):Int)+(1:Int))/\∃(v28:Nat × RS),xx7 rows (Prod.fst v28) (Prod.snd v28)/\rdW rows-Prod.fst v28<rdW rows-Prod.fst v7/\(qf9 (RS.left (Prod.fst (Prod.snd v23))) (Prod.fst (Prod.snd (Prod.snd v23))) (Prod.fst v23) (Prod.snd (Prod.snd (Prod.snd v23))) (List.length (RS.left (Prod.fst (Prod.snd v23))))=RS.left (Prod.snd v28)/\True/\True/\(↑(Prod.fst v7):Int)+(1:Int)=(↑(Prod.fst v28):Int)/\True)/\True/\Prod.snd v25++[qj0 (qa1 (Ty.list (Ty.int .i64)) (RS.left (Prod.snd v7)) (Int.toNat (lastTo (RS.left (Prod.snd v11)) (Prod.fst v11) v13))) (-1:Int)]=RS.done_ (Prod.snd v28)/\RS.piv (Prod.fst (Prod.snd v23))++[(↑(Prod.fst v7):Int)]=RS.piv (Prod.snd v28)/\True)))/\(decide (qa1 (Ty.int .i64) (qa1 (Ty.list (Ty.int .i64)) (RS.left (Prod.snd v7)) (Int.toNat (lastTo (RS.left (Prod.snd v11)) (Prod.fst v11) v13))) (Int.toNat (↑(Prod.fst v7):Int))<(0:Int))=false->∃(v18:Nat × RS × List Int × Int),∃(v19:Nat),Nat.le v19 (List.length (RS.left (Prod.fst (Prod.snd v18))))/\((True/\True/\True/\(0:Int)=(↑v19:Int)/\True)/\True/\RS.done_ (Prod.snd v11)=RS.done_ (Prod.fst (Prod.snd v18))/\RS.piv (Prod.snd v11)=RS.piv (Prod.fst (Prod.snd v18))/\qf9 (RS.left (Prod.fst (Prod.snd v18))) (Prod.fst (Prod.snd (Prod.snd v18))) (Prod.fst v18) (Prod.snd (Prod.snd (Prod.snd v18))) v19=[]/\True)/\∀(v20:Nat),Nat.le v20 (List.length (RS.left (Prod.fst (Prod.snd v18))))->(decide ((↑v20:Int)<(↑(List.length (RS.left (Prod.snd v7))):Int))=true->((0:Int)<=(↑v20:Int)/\(↑v20:Int)<(↑(List.length (RS.left (Prod.snd v7))):Int))/\(((↑v20:Int) != lastTo (RS.left (Prod.snd v11)) (Prod.fst v11) v13)=true->((0:Ty.den tInt)<=(↑(Prod.fst v7):Int)/\xe8 (qa1 (Ty.list (Ty.int .i64)) (RS.left (Prod.snd v7)) (Int.toNat (↑v20:Int))) (qa1 (Ty.list (Ty.int .i64)) (RS.left (Prod.snd v7)) (Int.toNat (lastTo (RS.left (Prod.snd v11)) (Prod.fst v11) v13))) (Int.toNat (↑(Prod.fst v7):Int)))/\((0:Nat)<List.length [qe0 (qa1 (Ty.list (Ty.int .i64)) (RS.left (Prod.snd v7)) (Int.toNat (↑v20:Int))) (qa1 (Ty.list (Ty.int .i64)) (RS.left (Prod.snd v7)) (Int.toNat (lastTo (RS.left (Prod.snd v11)) (Prod.fst v11) v13))) (Int.toNat (↑(Prod.fst v7):Int))]/\Nat.le (List.length (qf9 (RS.left (Prod.fst (Prod.snd v18))) (Prod.fst (Prod.snd (Prod.snd v18))) (Prod.fst v18) (Prod.snd (Prod.snd (Prod.snd v18))) v20)+List.length [qe0 (qa1 (Ty.list (Ty.int .i64)) (RS.left (Prod.snd v7)) (Int.toNat (↑v20:Int))) (qa1 (Ty.list (Ty.int .i64)) (RS.left (Prod.snd v7)) (Int.toNat (lastTo (RS.left (Prod.snd v11)) (Prod.fst v11) v13))) (Int.toNat (↑(Prod.fst v7):Int))]) (1000000:Nat))/\fits .i64 ((↑v20:Int)+(1:Int))/\∃(v24:Nat),Nat.le v24 (List.length (RS.left (Prod.fst (Prod.snd v18))))/\List.length (RS.left (Prod.fst (Prod.snd v18)))-v24<List.length (RS.left (Prod.fst (Prod.snd v18)))-v20/\(True/\True/\True/\(↑v20:Int)+(1:Int)=(↑v24:Int)/\True)/\True/\RS.done_ (Prod.fst (Prod.snd v18))=RS.done_ (Prod.fst (Prod.snd v18))/\RS.piv (Prod.fst (Prod.snd v18))=RS.piv (Prod.fst (Prod.snd v18))/\qf9 (RS.left (Prod.fst (Prod.snd v18))) (Prod.fst (Prod.snd (Prod.snd v18))) (Prod.fst v18) (Prod.snd (Prod.snd (Prod.snd v18))) v20++[qe0 (qa1 (Ty.list (Ty.int .i64)) (RS.left (Prod.snd v7)) (Int.toNat (↑v20:Int))) (qa1 (Ty.list (Ty.int .i64)) (RS.left (Prod.snd v7)) (Int.toNat (lastTo (RS.left (Prod.snd v11)) (Prod.fst v11) v13))) (Int.toNat (↑(Prod.fst v7):Int))]=qf9 (RS.left (Prod.fst (Prod.snd v18))) (Prod.fst (Prod.snd (Prod.snd v18))) (Prod.fst v18) (Prod.snd (Prod.snd (Prod.snd v18))) v24/\True)/\(((↑v20:Int) != lastTo (RS.left (Prod.snd v11)) (Prod.fst v11) v13)=false->fits .i64 ((↑v20:Int)+(1:Int))/\∃(v24:Nat),Nat.le v24 (List.length (RS.left (Prod.fst (Prod.snd v18))))/\List.length (RS.left (Prod.fst (Prod.snd v18)))-v24<List.length (RS.left (Prod.fst (Prod.snd v18)))-v20/\(True/\True/\True/\(↑v20:Int)+(1:Int)=(↑v24:Int)/\True)/\True/\RS.done_ (Prod.fst (Prod.snd v18))=RS.done_ (Prod.fst (Prod.snd v18))/\RS.piv (Prod.fst (Prod.snd v18))=RS.piv (Prod.fst (Prod.snd v18))/\qf9 (RS.left (Prod.fst (Prod.snd v18))) (Prod.fst (Prod.snd (Prod.snd v18))) (Prod.fst v18) (Prod.snd (Prod.snd (Prod.snd v18))) v20=qf9 (RS.left (Prod.fst (Prod.snd v18))) (Prod.fst (Prod.snd (Prod.snd v18))) (Prod.fst v18) (Prod.snd (Prod.snd (Prod.snd v18))) v24/\True))/\(decide ((↑v20:Int)<(↑(List.length (RS.left (Prod.snd v7))):Int))=false->∃(v23:Nat × RS × List Int × Int),∃(v24:Nat × List Q3),xs3 (RS.done_ (Prod.fst (Prod.snd v23))) (Prod.fst (Prod.snd (Prod.snd v23))) (Prod.fst v23) (Prod.fst v24) (Prod.snd v24)/\((True/\True/\True/\True/\(0:Int)=(↑(Prod.fst v24):Int)/\True)/\True/\RS.done_ (Prod.fst (Prod.snd v18))=Prod.snd v24/\RS.piv (Prod.fst (Prod.snd v18))=RS.piv (Prod.fst (Prod.snd v23))/\qf9 (RS.left (Prod.fst (Prod.snd v18))) (Prod.fst (Prod.snd (Prod.snd v18))) (Prod.fst v18) (Prod.snd (Prod.snd (Prod.snd v18))) v20=qf9 (RS.left (Prod.fst (Prod.snd v23))) (Prod.fst (Prod.snd (Prod.snd v23))) (Prod.fst v23) (Prod.snd (Prod.snd (Prod.snd v23))) (List.length (RS.left (Prod.fst (Prod.snd v23))))/\True)/\∀(v25:Nat × List Q3),xs3 (RS.done_ (Prod.fst (Prod.snd v23))) (Prod.fst (Prod.snd (Prod.snd v23))) (Prod.fst v23) (Prod.fst v25) (Prod.snd v25)->(decide ((↑(Prod.fst v25):Int)<(↑(List.length (RS.done_ (Prod.fst (Prod.snd v18)))):Int))=true->((0:Int)<=(↑(Prod.fst v25):Int)/\(↑(Prod.fst v25):Int)<(↑(List.length (Prod.snd v25)):Int))/\Int.toNat (↑(Prod.fst v25):Int)<List.length (Prod.snd v25)/\((0:Ty.den tInt)<=(↑(Prod.fst v7):Int)/\xe8 (qa1 (Ty.list (Ty.int .i64)) (Prod.snd v25) (Int.toNat (↑(Prod.fst v25):Int))) (qa1 (Ty.list (Ty.int .i64)) (RS.left (Prod.snd v7)) (Int.toNat (lastTo (RS.left (Prod.snd v11)) (Prod.fst v11) v13))) (Int.toNat (↑(Prod.fst v7):Int)))/\((0:Int)<=(↑(Prod.fst v25):Int)/\(↑(Prod.fst v25):Int)<(↑(List.length (Prod.snd v25)):Int))/\Int.toNat (↑(Prod.fst v25):Int)<List.length (Prod.snd v25)/\fits .i64 ((↑(Prod.fst v25):Int)+(1:Int))/\∃(v28:Nat × List Q3),xs3 (RS.done_ (Prod.fst (Prod.snd v23))) (Prod.fst (Prod.snd (Prod.snd v23))) (Prod.fst v23) (Prod.fst v28) (Prod.snd v28)/\List.length (RS.done_ (Prod.fst (Prod.snd v23)))-Prod.fst v28<List.length (RS.done_ (Prod.fst (Prod.snd v23)))-Prod.fst v25/\(True/\True/\True/\True/\(↑(Prod.fst v25):Int)+(1:Int)=(↑(Prod.fst v28):Int)/\True)/\True/\List.set (Prod.snd v25) (Int.toNat (↑(Prod.fst v25):Int)) (qe0 (qa1 (Ty.list (Ty.int .i64)) (Prod.snd v25) (Int.toNat (↑(Prod.fst v25):Int))) (qa1 (Ty.list (Ty.int .i64)) (RS.left (Prod.snd v7)) (Int.toNat (lastTo (RS.left (Prod.snd v11)) (Prod.fst v11) v13))) (Int.toNat (↑(Prod.fst v7):Int)))=Prod.snd v28/\RS.piv (Prod.fst (Prod.snd v23))=RS.piv (Prod.fst (Prod.snd v23))/\qf9 (RS.left (Prod.fst (Prod.snd v23))) (Prod.fst (Prod.snd (Prod.snd v23))) (Prod.fst v23) (Prod.snd (Prod.snd (Prod.snd v23))) (List.length (RS.left (Prod.fst (Prod.snd v23))))=qf9 (RS.left (Prod.fst (Prod.snd v23))) (Prod.fst (Prod.snd (Prod.snd v23))) (Prod.fst v23) (Prod.snd (Prod.snd (Prod.snd v23))) (List.length (RS.left (Prod.fst (Prod.snd v23))))/\True)/\(decide ((↑(Prod.fst v25):Int)<(↑(List.length (RS.done_ (Prod.fst (Prod.snd v18)))):Int))=false->((0:Nat)<List.length [qa1 (Ty.list (Ty.int .i64)) (RS.left (Prod.snd v7)) (Int.toNat (lastTo (RS.left (Prod.snd v11)) (Prod.fst v11) v13))]/\Nat.le (List.length (Prod.snd v25)+List.length [qa1 (Ty.list (Ty.int .i64)) (RS.left (Prod.snd v7)) (Int.toNat (lastTo (RS.left (Prod.snd v11)) (Prod.fst v11) v13))]) (1000000:Nat))/\((0:Nat)<List.length [(↑(Prod.fst v7):Int)]/\Nat.le (List.length (RS.piv (Prod.fst (Prod.snd v23)))+List.length [(↑(Prod.fst v7):Int)]) (1000000:Nat))/\fits .i64 ((↑(Prod.fst v7):Int)+(1:Int))/\∃(v28:Nat × RS),xx7 rows (Prod.fst v28) (Prod.snd v28)/\rdW rows-Prod.fst v28<rdW rows-Prod.fst v7/\(qf9 (RS.left (Prod.fst (Prod.snd v23))) (Prod.fst (Prod.snd (Prod.snd v23))) (Prod.fst v23) (Prod.snd (Prod.snd (Prod.snd v23))) (List.length (RS.left (Prod.fst (Prod.snd v23))))=RS.left (Prod.snd v28)/\True/\True/\(↑(Prod.fst v7):Int)+(1:Int)=(↑(Prod.fst v28):Int)/\True)/\True/\Prod.snd v25++[qa1 (Ty.list (Ty.int .i64)) (RS.left (Prod.snd v7)) (Int.toNat (lastTo (RS.left (Prod.snd v11)) (Prod.fst v11) v13))]=RS.done_ (Prod.snd v28)/\RS.piv (Prod.fst (Prod.snd v23))++[(↑(Prod.fst v7):Int)]=RS.piv (Prod.snd v28)/\True))))))/\(decide ((↑(Prod.fst v7):Int)<(↑(List.length (qa1 (Ty.list (Ty.int .i64)) (RS.left (Prod.snd v7)) (0:Nat))):Int))=false->RS.done_ (Prod.snd v7)=Prod.fst Q2/\RS.piv (Prod.snd v7)=Prod.snd Q2/\True))/\(decide ((0:Int)<(↑(List.length (RS.left (Prod.snd v7))):Int))=false->RS.done_ (Prod.snd v7)=Prod.fst Q2/\RS.piv (Prod.snd v7)=Prod.snd Q2/\True))) (by kernel_rfl) ?_
 try simp only[z0,z1,z2,z3,z4,z5,z6,z7,z8,z9,z10,Int.reduceEq,z11,z12,z13,z14,z15,z16,z17,z18,z19,z20,z21,z22,z23,z24,z25,z26,z27,z28,z29,z30,Int.reduceLE,Int.reduceLT,z31,z32,z33,z34,qa4]
 try simp only[qb6,qb7,qc8,List.set_cons_zero,List.cons.injEq,and_true,true_and]
 have hn:=h.n
 have hw:=h.w
 refine⟨(),0,Nat.zero_le _,⟨rfl,rfl⟩,λk hk=>⟨λhlt=>⟨hlt,h.big k hlt,by rw[List.length_take,List.length_map]; omega,qa7 (by omega) (by omega),k+1,by omega,by omega,by omega,?_⟩,λhge=>?_⟩⟩
 ·rw[takeL_snoc _ k (by simpa using hlt),ql9 (rows.map qj5) k (by simpa using hlt),ql9 rows k hlt]
  simp
 refine⟨(),(0,qg0 rows 0),⟨Nat.zero_le _,rfl⟩,⟨⟨by rw[List.take_of_length_le (by rw[List.length_map]; omega)]; rfl,rfl⟩,rfl,rfl⟩,?_⟩
 rintro⟨j,s⟩ ⟨hj,hs⟩
 dsimp only at hj hs ⊢
 have hsh:=wu1 h j
 rw[hs] at hsh
 have hln:=hsh.ln
 have hdn:=hsh.dn
 have hpn:=hsh.pn
 have hle:∀i,i<s.left.length->(nL s.left i).length=rdW rows:=λi hi=>hsh.le _ (qn8 _ _ hi)
 have hde:∀i,i<s.done_.length->(nL s.done_ i).length=rdW rows:=λi hi=>hsh.de _ (qn8 _ _ hi)
 refine⟨λhl0=>⟨hl0,λhjl=>?_,λhjl=>?_⟩,λhl0=>?_⟩
 ·have hjW:j<rdW rows:=by rw[hle 0 (by omega)] at hjl; exact hjl
  refine⟨(j,s),0,Nat.zero_le _,⟨⟨rfl,rfl⟩,rfl,rfl⟩,λk hk=>⟨λhlt=>⟨hlt,by rw[hle k hlt]; exact hjW,λhz=>⟨qa7 (by omega) (by omega),k+1,hlt,by dsimp only; omega,by rw[lastTo,if_pos hz],by omega⟩,λhz=>⟨qa7 (by omega) (by omega),k+1,hlt,by dsimp only; omega,by rw[lastTo,if_neg (λq=>q hz)],by omega⟩⟩,λhge=>?_⟩⟩
  dsimp only at hk hge ⊢
  obtain rfl:k=s.left.length:=by omega
  have hlast:=q0m s.left j s.left.length
  refine⟨λhneg=>⟨qa7 (by omega) (by omega),(j+1,s),⟨by dsimp only; omega,by dsimp only; rw[qg0,hs,q6y,if_pos hneg]⟩,by dsimp only; omega,⟨rfl,by dsimp only; omega⟩,rfl,rfl⟩,λhpos=>?_⟩
  have hst:xs2 s j:=by have:=h.step j hjW; rw[hs] at this; exact this hpos
  have h1:=hst.sca
  have h2:=hst.wo
  have h3:=hst.woD
  clear hst
  have hnx:qg0 rows (j+1)=⟨qf9 s.left (qu3 s.left j (lastTo s.left j s.left.length)) j (lastTo s.left j s.left.length) s.left.length,(s.done_.map λr=>qe0 r (qu3 s.left j (lastTo s.left j s.left.length)) j)++[qu3 s.left j (lastTo s.left j s.left.length)],s.piv++[(j:Int)]⟩:=by rw[qg0,hs,q6y,if_neg (by omega)]
  have hpl:=w1f hsh (lastTo s.left j s.left.length) hpos hlast.1
  have hpe:qu3 s.left j (lastTo s.left j s.left.length)=if nI (nL s.left (lastTo s.left j s.left.length).toNat) j<0 then qj0 (nL s.left (lastTo s.left j s.left.length).toNat) (-1) else nL s.left (lastTo s.left j s.left.length).toNat:=rfl
  generalize lastTo s.left j s.left.length=a at *
  refine⟨⟨hpos,hlast.1⟩,by rw[hle _ (by omega)]; exact hjW,λhng=>⟨h1 hng,?_⟩,λhng=>?_⟩
  ·have hp:qj0 (nL s.left a.toNat) (-1)=qu3 s.left j a:=by rw[hpe,if_pos hng]
   rw[hp]
   refine⟨(j,s,qu3 s.left j a,a),0,Nat.zero_le _,⟨rfl,rfl,rfl,rfl⟩,λk hk=>⟨λhlt=>⟨hlt,λhne=>⟨h2 k hlt hne,by have:=q1f s.left (qu3 s.left j a) j a k; dsimp only; omega,qa7 (by omega) (by omega),k+1,hlt,by dsimp only; omega,by omega,by rw[qf9,if_pos hne]⟩,λhe=>⟨qa7 (by omega) (by omega),k+1,hlt,by dsimp only; omega,by omega,by rw[qf9,if_neg (λq=>q he)]⟩⟩,λhge=>?_⟩⟩
   dsimp only at hk hge ⊢
   obtain rfl:k=s.left.length:=by omega
   refine⟨(j,s,qu3 s.left j a,a),(0,s.done_),⟨Nat.zero_le _,(qv1 (.list (.int .i64)) _ _).symm⟩,⟨rfl,rfl,rfl,rfl⟩,?_⟩
   rintro⟨i,r⟩ ⟨hi1,hi2⟩
   dsimp only at hi1 hi2 ⊢
   have hrl:r.length=s.done_.length:=by rw[hi2]; exact qp9 (.list (.int .i64)) _ _ _
   refine⟨λhlt=>?_,λhge=>?_⟩
   ·have hri:nL r i=nL s.done_ i:=by rw[hi2]; exact(q4u (.list (.int .i64)) _ _ _ _ hlt).trans (if_neg (Nat.lt_irrefl _))
    rw[hri]
    exact⟨by omega,by omega,h3 i hlt,by omega,by omega,qa7 (by omega) (by omega),(i+1,r.set i (qe0 (nL s.done_ i) (qu3 s.left j a) j)),⟨by dsimp only; omega,by dsimp only; rw[hi2]; exact qs6 (.list (.int .i64)) (λq=>qe0 (nL s.done_ q) (qu3 s.left j a) j) _ _⟩,by dsimp only; omega,by dsimp only; omega,rfl⟩
   ·obtain rfl:i=s.done_.length:=by omega
    have hr:r=s.done_.map λr=>qe0 r (qu3 s.left j a) j:=by
     rw[hi2]
     refine(q0j (.list (.int .i64)) _ _ _ (Nat.le_refl _)).trans ?_
     apply List.ext_getElem (by simp)
     intro q k1 k2
     simp only[List.getElem_map,List.getElem_range]
     rw[ql9 _ q (by simpa using k1)]
    refine⟨by omega,by omega,qa7 (by omega) (by omega),(j+1,qg0 rows (j+1)),⟨by dsimp only; omega,rfl⟩,by dsimp only; omega,⟨by rw[hnx],by dsimp only; omega⟩,by rw[hnx,hr],by rw[hnx]⟩
  ·have hp:nL s.left a.toNat=qu3 s.left j a:=by rw[hpe,if_neg (by omega)]
   rw[hp]
   refine⟨(j,s,qu3 s.left j a,a),0,Nat.zero_le _,⟨rfl,rfl,rfl,rfl⟩,λk hk=>⟨λhlt=>⟨hlt,λhne=>⟨h2 k hlt hne,by have:=q1f s.left (qu3 s.left j a) j a k; dsimp only; omega,qa7 (by omega) (by omega),k+1,hlt,by dsimp only; omega,by omega,by rw[qf9,if_pos hne]⟩,λhe=>⟨qa7 (by omega) (by omega),k+1,hlt,by dsimp only; omega,by omega,by rw[qf9,if_neg (λq=>q he)]⟩⟩,λhge=>?_⟩⟩
   dsimp only at hk hge ⊢
   obtain rfl:k=s.left.length:=by omega
   refine⟨(j,s,qu3 s.left j a,a),(0,s.done_),⟨Nat.zero_le _,(qv1 (.list (.int .i64)) _ _).symm⟩,⟨rfl,rfl,rfl,rfl⟩,?_⟩
   rintro⟨i,r⟩ ⟨hi1,hi2⟩
   dsimp only at hi1 hi2 ⊢
   have hrl:r.length=s.done_.length:=by rw[hi2]; exact qp9 (.list (.int .i64)) _ _ _
   refine⟨λhlt=>?_,λhge=>?_⟩
   ·have hri:nL r i=nL s.done_ i:=by rw[hi2]; exact(q4u (.list (.int .i64)) _ _ _ _ hlt).trans (if_neg (Nat.lt_irrefl _))
    rw[hri]
    exact⟨by omega,by omega,h3 i hlt,by omega,by omega,qa7 (by omega) (by omega),(i+1,r.set i (qe0 (nL s.done_ i) (qu3 s.left j a) j)),⟨by dsimp only; omega,by dsimp only; rw[hi2]; exact qs6 (.list (.int .i64)) (λq=>qe0 (nL s.done_ q) (qu3 s.left j a) j) _ _⟩,by dsimp only; omega,by dsimp only; omega,rfl⟩
   ·obtain rfl:i=s.done_.length:=by omega
    have hr:r=s.done_.map λr=>qe0 r (qu3 s.left j a) j:=by
     rw[hi2]
     refine(q0j (.list (.int .i64)) _ _ _ (Nat.le_refl _)).trans ?_
     apply List.ext_getElem (by simp)
     intro q k1 k2
     simp only[List.getElem_map,List.getElem_range]
     rw[ql9 _ q (by simpa using k1)]
    refine⟨by omega,by omega,qa7 (by omega) (by omega),(j+1,qg0 rows (j+1)),⟨by dsimp only; omega,rfl⟩,by dsimp only; omega,⟨by rw[hnx],by dsimp only; omega⟩,by rw[hnx,hr],by rw[hnx]⟩
 ·have e:j=rdW rows:=by rw[hle 0 (by omega)] at hjl; omega
  subst e
  unfold qd6
  rw[hs]
  exact⟨rfl,rfl⟩
 ·have e:s.left=[]:=List.eq_nil_of_length_eq_zero (by omega)
  have:=wn5 hs e (rdW rows-j)
  rw[show j+(rdW rows-j)=rdW rows by omega] at this
  unfold qd6
  rw[this]
  exact⟨rfl,rfl⟩
end Go.Proofs.YtdibdlelmkcccaaGreat
