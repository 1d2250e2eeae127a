/- The reference's reduced rows: contracts by the engine. No condition. -/
import Derived.Test.YtempacilejhbgaaGreatV15
set_option linter.unusedVariables false
set_option linter.unusedSimpArgs false
namespace Go.Proofs.YtempacilejhbgaaGreat
open Go Go.RowKit Eng
def qi8 (m:List (List Int)) (pix:List Int):List (List Int):=(List.range m.length).map λi=>qq8 (nL m i) pix
theorem q6b (m:List (List Int)) (pix:List Int):(qi8 m pix).length=m.length:=by simp[qi8]
theorem qr9 (m:List (List Int)) (pix:List Int) (i:Nat) (hi:i<m.length):nL (qi8 m pix) i=qq8 (nL m i) pix:=by
 rw[ql4 _ _ (by rw[q6b]; exact hi)]; simp[qi8]
structure w86 (m:List (List Int)) (pix:List Int):Prop where
 rows:m.length<=10000
 cols:pix.length<=10000
 at_:∀i,i<m.length->∀j,j<pix.length->0<=nI pix j/\nI pix j<(nL m i).length
def x0v (m:List (List Int)) (pix:List Int):Nat->Option Inv
 | 0=>some (Inv.of [5,13] 1 (λk:Nat=>[(5,.msl 0 .none),(13,.lit (.int .i64 k))]) (λk=>[.mat 24 3 (.int .i64) ((qi8 m pix).take k) .none .none]) (λk=>k<=m.length) (λk=>m.length-k))
 | 1=>some (Eng.Inv.mk Nat Nat [5,8,20] 2 (λ_ j=>[(5,.msl 0 .none),(8,.own 1),(20,.lit (.int .i64 j))]) (λk j=>[.mat 24 3 (.int .i64) ((qi8 m pix).take k) .none .none,.vec 3 (.int .i64) ((qq8 (nL m k) pix).take j)]) (λ_ j=>j<=pix.length) (λ_ j=>pix.length-j))
 | _=>none
abbrev x0w:qc0:=qg7 true none [qk0,qf2] [qk0] (λx=>w86 x.1 x.2.1) (λx=>(qi8 x.1 x.2.1,()))
theorem w14:qd7 Tryz.prog 139 x0w:=by
 refine meets (x35 [34] (SpecsOk.nil _)) Tryz.func139 rfl rfl (λx=>x0v x.1 x.2.1) (λ_=>by kernel_rfl) (by decide) ?_
 rintro⟨m,pix,⟨⟩⟩ h
 revert m pix
 intro(m:List (List Int)) (pix:List Int) (h:w86 m pix)
 refine @qe1 _ (let Q0:=qi8 m pix; let Q1:=List.length pix; let Q2:=List.length m; ∃(v0:Unit),∃(v1:Nat),Nat.le v1 Q2/\((True/\(0:Int)=(↑v1:Int)/\True)/\List.take v1 Q0=[]/\True)/\∀(v2:Nat),Nat.le v2 Q2->(decide ((↑v2:Int)<(↑Q2:Int))=true->((0:Int)<=(↑v2:Int)/\(↑v2:Int)<(↑Q2:Int))/\∃(v5:Nat),∃(v6:Nat),Nat.le v6 Q1/\((True/\True/\(0:Int)=(↑v6:Int)/\True)/\(List.take v2 Q0=List.take v5 Q0/\True/\True)/\[]=List.take v6 (qq8 (nL m v5) pix)/\True)/\∀(v7:Nat),Nat.le v7 Q1->(decide ((↑v7:Int)<(↑Q1:Int))=true->((0:Int)<=(↑v7:Int)/\(↑v7:Int)<(↑Q1:Int))/\((0:Int)<=qa1 (Ty.int .i64) pix (Int.toNat (↑v7:Int))/\qa1 (Ty.int .i64) pix (Int.toNat (↑v7:Int))<(↑(List.length (qa1 (Ty.list (Ty.int .i64)) m (Int.toNat (↑v2:Int)))):Int))/\((0:Nat)<List.length [qa1 (Ty.int .i64) (qa1 (Ty.list (Ty.int .i64)) m (Int.toNat (↑v2:Int))) (Int.toNat (qa1 (Ty.int .i64) pix (Int.toNat (↑v7:Int))))]/\Nat.le (List.length (List.take v7 (qq8 (nL m v5) pix))+List.length [qa1 (Ty.int .i64) (qa1 (Ty.list (Ty.int .i64)) m (Int.toNat (↑v2:Int))) (Int.toNat (qa1 (Ty.int .i64) pix (Int.toNat (↑v7:Int))))]) (1000000:Nat))/\fits .i64 ((↑v7:Int)+(1:Int))/\∃(v10:Nat),Nat.le v10 Q1/\List.length pix-v10<List.length pix-v7/\(True/\True/\(↑v7:Int)+(1:Int)=(↑v10:Int)/\True)/\(List.take v5 Q0=List.take v5 Q0/\True/\True)/\List.take v7 (qq8 (nL m v5) pix)++[qa1 (Ty.int .i64) (qa1 (Ty.list (Ty.int .i64)) m (Int.toNat (↑v2:Int))) (Int.toNat (qa1 (Ty.int .i64) pix (Int.toNat (↑v7:Int))))]=List.take v10 (qq8 (nL m v5) pix)/\True)/\(decide ((↑v7:Int)<(↑Q1:Int))=false->((0:Nat)<(0:Nat)+(1:Nat)/\List.length (List.take v5 Q0)+((0:Nat)+(1:Nat))<=(1000000:Nat))/\fits .i64 ((↑v2:Int)+(1:Int))/\∃(v10:Nat),Nat.le v10 Q2/\List.length m-v10<List.length m-v2/\(True/\(↑v2:Int)+(1:Int)=(↑v10:Int)/\True)/\(List.take v5 Q0++[List.take v7 (qq8 (nL m v5) pix)]=List.take v10 Q0/\True/\True)/\True))/\(decide ((↑v2:Int)<(↑Q2:Int))=false->q28 (Ty.int .i64) (List.take v2 Q0) none=qi8 m pix)) (by kernel_rfl) ?_
 try simp only[z0,z1,z2,z3,z4,z5,z6,z7,z8,z9,z10,Int.reduceEq,z11,z12,z13,z14,z15,z16,z17,z18,z19,z20,z21,z22,z23,z24,z25,z26,z27,z28,z29,z30,Int.reduceLE,Int.reduceLT,z31,z32,z33,z34,qa4]
 try simp only[qb3,qb4,qb9,List.set_cons_zero,List.cons.injEq,and_true,true_and]
 have hr:=h.rows
 have hc:=h.cols
 have hl:=q6b m pix
 refine⟨(),0,Nat.zero_le _,⟨rfl,rfl⟩,λk hk=>⟨λhlt=>⟨hlt,k,0,Nat.zero_le _,⟨rfl,rfl,rfl⟩,λj hj=>⟨λhj2=>?_,λhj2=>?_⟩⟩,λhge=>?_⟩⟩
 ·have h1:=qt1 (nL m k) pix
  refine⟨hj2,h.at_ k hlt j hj2,by rw[List.length_take]; omega,qa7 (by omega) (by omega),j+1,by omega,by omega,by omega,?_⟩
  rw[q53 _ j (by omega),qu3 _ _ _ hj2]
 ·obtain rfl:j=pix.length:=by omega
  have h1:=qt1 (nL m k) pix
  have h3:(qq8 (nL m k) pix).take pix.length=qq8 (nL m k) pix:=List.take_of_length_le (by omega)
  rw[h3]
  refine⟨by rw[List.length_take]; omega,qa7 (by omega) (by omega),k+1,by omega,by omega,by omega,?_⟩
  rw[takeL_snoc _ k (by omega),qr9 _ _ _ hlt]
 ·first | (rw[List.take_of_length_le (by omega)]; rfl) | rw[List.take_of_length_le (by omega)]
def lastTo (left:List (List Int)) (j:Nat):Nat->Int
 | 0=>-1
 | i+1=>if nI (nL left i) j≠0 then(i:Int) else lastTo left j i
def qt5 (left:List (List Int)) (j:Nat) (at_:Int):List Int:=if nI (nL left at_.toNat) j<0 then qj2 (nL left at_.toNat) (-1) else nL left at_.toNat
def qg0 (left:List (List Int)) (p:List Int) (j:Nat) (at_:Int):Nat->List (List Int)
 | 0=>[]
 | i+1=>if(i:Int)≠at_ then qg0 left p j at_ i++[qe2 (nL left i) p j] else qg0 left p j at_ i
structure RS where
 left:List (List Int)
 done_:List (List Int)
 piv:List Int
def q6c (s:RS) (j:Nat):RS:=
 if lastTo s.left j s.left.length<0 then s
 else⟨qg0 s.left (qt5 s.left j (lastTo s.left j s.left.length)) j (lastTo s.left j s.left.length) s.left.length,(s.done_.map λr=>qe2 r (qt5 s.left j (lastTo s.left j s.left.length)) j)++[qt5 s.left j (lastTo s.left j s.left.length)],s.piv++[(j:Int)]⟩
def qh2 (rows:List (List Int)):Nat->RS
 | 0=>⟨rows.map qj5,[],[]⟩
 | j+1=>q6c (qh2 rows j) j
def rdW (rows:List (List Int)):Nat:=(nL rows 0).length
def qe7 (rows:List (List Int)):List (List Int) × List Int:=((qh2 rows (rdW rows)).done_,(qh2 rows (rdW rows)).piv)
structure xi8 (s:RS) (j:Nat):Prop where
 sca:nI (nL s.left (lastTo s.left j s.left.length).toNat) j<0->w5g (nL s.left (lastTo s.left j s.left.length).toNat) (-1)
 wo:∀i,i<s.left.length->(i:Int)≠lastTo s.left j s.left.length->w84 (nL s.left i) (qt5 s.left j (lastTo s.left j s.left.length)) j
 woD:∀i,i<s.done_.length->w84 (nL s.done_ i) (qt5 s.left j (lastTo s.left j s.left.length)) j
structure xc3 (rows:List (List Int)):Prop where
 n:rows.length<=1000
 w:rdW rows<=1000
 each:∀i,i<rows.length->(nL rows i).length=rdW rows
 big:∀i,i<rows.length->q3l (nL rows i)
 step:∀j,j<rdW rows->0<=lastTo (qh2 rows j).left j (qh2 rows j).left.length->xi8 (qh2 rows j) j
theorem qm6 (l:List Int):(qj5 l).length=l.length:=by simp[qj5]
theorem qu4 (r p:List Int) (j:Nat):(qe2 r p j).length=r.length:=by unfold qe2; rw[qm6]; simp[q20]
theorem qs2 (l:List Int) (n:Int):(qj2 l n).length=l.length:=by simp[qj2]
theorem q0k (left:List (List Int)) (j:Nat):∀k:Nat,lastTo left j k<k/\-1<=lastTo left j k
 | 0=>⟨by show(-1:Int)<0; omega,by show(-1:Int)<=-1; omega⟩
 | k+1=>by
  have:=q0k left j k
  rw[lastTo]
  split <;> omega
theorem q06 (left:List (List Int)) (p:List Int) (j:Nat) (a:Int):∀k,∀x∈qg0 left p j a k,∃i,i<k/\(i:Int)≠a/\x=qe2 (nL left i) p j
 | 0,x,hx=>by cases hx
 | k+1,x,hx=>by
  rw[qg0] at hx
  split at hx
  ·rename_i hne
   rcases List.mem_append.1 hx with hx | hx
   ·obtain⟨i,h1,h2,h3⟩:=q06 left p j a k x hx
    exact⟨i,by omega,h2,h3⟩
   ·exact⟨k,by omega,hne,by simpa using hx⟩
  ·obtain⟨i,h1,h2,h3⟩:=q06 left p j a k x hx
   exact⟨i,by omega,h2,h3⟩
theorem q07 (left:List (List Int)) (p:List Int) (j:Nat) (a:Int):∀k,(qg0 left p j a k).length<=k
 | 0=>Nat.le_refl _
 | k+1=>by
  have:=q07 left p j a k
  rw[qg0]
  split
  ·simp; omega
  ·omega
structure RdSh (n W j:Nat) (s:RS):Prop where
 ln:s.left.length<=n
 le:∀x∈s.left,x.length=W
 dn:s.done_.length<=j
 de:∀x∈s.done_,x.length=W
 pn:s.piv.length<=j
theorem qn6 (m:List (List Int)) (i:Nat) (h:i<m.length):nL m i∈m:=by rw[ql4 m i h]; exact List.getElem_mem h
theorem wx6 {n W j:Nat} {s:RS} (h:RdSh n W j s) (a:Int) (ha:0<=a) (hb:a<s.left.length):(qt5 s.left j a).length=W:=by
 unfold qt5
 have:=h.le _ (qn6 s.left a.toNat (by omega))
 split
 ·rw[qs2]; exact this
 ·exact this
theorem RdSh.step {n W j:Nat} {s:RS} (h:RdSh n W j s):RdSh n W (j+1) (q6c s j):=by
 unfold q6c
 have hl:=q0k s.left j s.left.length
 generalize lastTo s.left j s.left.length=a at *
 split
 ·exact⟨h.ln,h.le,by have:=h.dn; omega,h.de,by have:=h.pn; omega⟩
 ·have hp:=wx6 h a (by omega) hl.1
  refine⟨Nat.le_trans (q07 _ _ _ _ _) h.ln,λx hx=>?_,by have:=h.dn; simp; omega,λx hx=>?_,by have:=h.pn; simp; omega⟩
  ·obtain⟨i,h1,_,rfl⟩:=q06 _ _ _ _ _ x hx
   rw[qu4]; exact h.le _ (qn6 _ _ h1)
  ·rcases List.mem_append.1 hx with hx | hx
   ·obtain⟨y,hy,rfl⟩:=List.mem_map.1 hx
    rw[qu4]; exact h.de y hy
   ·rw[List.mem_singleton.1 hx]; exact hp
theorem wp1 {rows:List (List Int)} (h:xc3 rows):∀j,RdSh rows.length (rdW rows) j (qh2 rows j)
 | 0=>by
  refine⟨by simp[qh2],λx hx=>?_,Nat.le_refl _,(λx hx=>by cases hx),Nat.le_refl _⟩
  obtain⟨y,hy,rfl⟩:=List.mem_map.1 hx
  obtain⟨i,hi,rfl⟩:=List.getElem_of_mem hy
  rw[qm6,<- ql4 rows i hi]; exact h.each i hi
 | j+1=>(wp1 h j).step
theorem wi6 {rows:List (List Int)} {j:Nat} {s:RS} (h:qh2 rows j=s) (h0:s.left=[]):∀k,qh2 rows (j+k)=s
 | 0=>h
 | k+1=>by
  rw[<- Nat.add_assoc,qh2,wi6 h h0 k,q6c,if_pos]
  rw[h0]; exact(by decide:(-1:Int)<0)
abbrev sRd:qc0:=qg7 false none [qk0] [qk0,qf2] (λx=>xc3 x.1) (λx=>((qe7 x.1).1,(qe7 x.1).2,()))
structure xm9 (rows:List (List Int)) (j:Nat) (s:RS):Prop where
 le:j<=rdW rows
 eq:qh2 rows j=s
structure xi9 (d:List (List Int)) (p:List Int) (j i:Nat) (r:List (List Int)):Prop where
 le:i<=d.length
 eq:r=ovr (.list (.int .i64)) (λq=>qe2 (nL d q) p j) d i
def x4r (rows:List (List Int)):Nat->Option Inv
 | 0=>some (Inv.of [4,21] 1 (λk:Nat=>[(4,.own 0),(21,.lit (.int .i64 k))]) (λk=>[.vec 24 (.list (.int .i64)) ((rows.map qj5).take k)]) (λk=>k<=rows.length) (λk=>rows.length-k))
 | 1=>some (Inv.of [4,5,8,9] 3 (λs:Nat × RS=>[(4,.dat (.list (.int .i64)) s.2.left),(5,.own 1),(8,.own 2),(9,.lit (.int .i64 s.1))]) (λs=>[.dead,.vec 24 (.list (.int .i64)) s.2.done_,.vec 3 (.int .i64) s.2.piv]) (λs=>xm9 rows s.1 s.2) (λs=>rdW rows-s.1))
 | 2=>some (Eng.Inv.mk (Nat × RS) Nat [5,8,10,46] 3 (λq k=>[(5,.own 1),(8,.own 2),(10,.lit (.int .i64 (lastTo q.2.left q.1 k))),(46,.lit (.int .i64 k))]) (λq k=>[.dead,.vec 24 (.list (.int .i64)) q.2.done_,.vec 3 (.int .i64) q.2.piv]) (λq k=>k<=q.2.left.length) (λq k=>q.2.left.length-k))
 | 3=>some (Eng.Inv.mk (Nat × RS × List Int × Int) Nat [5,8,14,73] 4 (λq k=>[(5,.own 1),(8,.own 2),(14,.own 3),(73,.lit (.int .i64 k))]) (λq k=>[.dead,.vec 24 (.list (.int .i64)) q.2.1.done_,.vec 3 (.int .i64) q.2.1.piv,.vec 24 (.list (.int .i64)) (qg0 q.2.1.left q.2.2.1 q.1 q.2.2.2 k)]) (λq k=>k<=q.2.1.left.length) (λq k=>q.2.1.left.length-k))
 | 4=>some (Eng.Inv.mk (Nat × RS × List Int × Int) (Nat × List (List Int)) [5,8,14,89,91] 4 (λq s=>[(5,.own 1),(8,.own 2),(14,.own 3),(89,.own 1),(91,.lit (.int .i64 s.1))]) (λq s=>[.dead,.vec 24 (.list (.int .i64)) s.2,.vec 3 (.int .i64) q.2.1.piv,.vec 24 (.list (.int .i64)) (qg0 q.2.1.left q.2.2.1 q.1 q.2.2.2 q.2.1.left.length)]) (λq s=>xi9 q.2.1.done_ q.2.2.1 q.1 s.1 s.2) (λq s=>q.2.1.done_.length-s.1))
 | _=>none
theorem w87:qd7 Tryz.prog 159 sRd:=by
 refine meets (snd (SpecsOk.cons q15 (SpecsOk.cons wi5 (SpecsOk.cons w85 (SpecsOk.nil _))))) Tryz.func159 rfl rfl (λx=>x4r x.1) (λ_=>by kernel_rfl) (by decide) ?_
 rintro⟨rows,⟨⟩⟩ h
 revert rows
 intro(rows:List (List Int)) (h:xc3 rows)
 refine @qe1 _ (let Q0:=List.map qj5 rows; let Q1:=List.length rows; let Q2:=qe7 rows; let Q3:=List Int; ∃(v0:Unit),∃(v1:Nat),Nat.le v1 Q1/\((True/\(0:Int)=(↑v1:Int)/\True)/\List.take v1 Q0=[]/\True)/\∀(v2:Nat),Nat.le v2 Q1->(decide ((↑v2:Int)<(↑Q1:Int))=true->((0:Int)<=(↑v2:Int)/\(↑v2:Int)<(↑Q1:Int))/\q3l (qa1 (Ty.list (Ty.int .i64)) rows (Int.toNat (↑v2:Int)))/\((0:Nat)<(0:Nat)+(1:Nat)/\Nat.le (List.length (List.take v2 Q0)+((0:Nat)+(1:Nat))) (1000000:Nat))/\fits .i64 ((↑v2:Int)+(1:Int))/\∃(v5:Nat),Nat.le v5 Q1/\List.length rows-v5<List.length rows-v2/\(True/\(↑v2:Int)+(1:Int)=(↑v5:Int)/\True)/\List.take v2 Q0++[qj5 (qa1 (Ty.list (Ty.int .i64)) rows (Int.toNat (↑v2:Int)))]=List.take v5 Q0/\True)/\(decide ((↑v2:Int)<(↑Q1:Int))=false->∃(v5:Unit),∃(v6:Nat × RS),xm9 rows (Prod.fst v6) (Prod.snd v6)/\((List.take v2 Q0=RS.left (Prod.snd v6)/\True/\True/\(0:Int)=(↑(Prod.fst v6):Int)/\True)/\True/\RS.done_ (Prod.snd v6)=[]/\RS.piv (Prod.snd v6)=[]/\True)/\∀(v7:Nat × RS),xm9 rows (Prod.fst v7) (Prod.snd v7)->(decide ((0:Int)<(↑(List.length (RS.left (Prod.snd v7))):Int))=true->((0:Int)<=(0:Int)/\(0:Int)<(↑(List.length (RS.left (Prod.snd v7))):Int))/\(decide ((↑(Prod.fst v7):Int)<(↑(List.length (qa1 (Ty.list (Ty.int .i64)) (RS.left (Prod.snd v7)) (0:Nat))):Int))=true->∃(v11:Nat × RS),∃(v12:Nat),Nat.le v12 (List.length (RS.left (Prod.snd v11)))/\((True/\True/\(-1:Int)=lastTo (RS.left (Prod.snd v11)) (Prod.fst v11) v12/\(0:Int)=(↑v12:Int)/\True)/\True/\RS.done_ (Prod.snd v7)=RS.done_ (Prod.snd v11)/\RS.piv (Prod.snd v7)=RS.piv (Prod.snd v11)/\True)/\∀(v13:Nat),Nat.le v13 (List.length (RS.left (Prod.snd v11)))->(decide ((↑v13:Int)<(↑(List.length (RS.left (Prod.snd v7))):Int))=true->((0:Int)<=(↑v13:Int)/\(↑v13:Int)<(↑(List.length (RS.left (Prod.snd v7))):Int))/\((0:Int)<=(↑(Prod.fst v7):Int)/\(↑(Prod.fst v7):Int)<(↑(List.length (qa1 (Ty.list (Ty.int .i64)) (RS.left (Prod.snd v7)) (Int.toNat (↑v13:Int)))):Int))/\((qa1 (Ty.int .i64) (qa1 (Ty.list (Ty.int .i64)) (RS.left (Prod.snd v7)) (Int.toNat (↑v13:Int))) (Int.toNat (↑(Prod.fst v7):Int)) != (0:Int))=true->fits .i64 ((↑v13:Int)+(1:Int))/\∃(v17:Nat),Nat.le v17 (List.length (RS.left (Prod.snd v11)))/\List.length (RS.left (Prod.snd v11))-v17<List.length (RS.left (Prod.snd v11))-v13/\(True/\True/\(↑v13:Int)=lastTo (RS.left (Prod.snd v11)) (Prod.fst v11) v17/\(↑v13:Int)+(1:Int)=(↑v17:Int)/\True)/\True/\RS.done_ (Prod.snd v11)=RS.done_ (Prod.snd v11)/\RS.piv (Prod.snd v11)=RS.piv (Prod.snd v11)/\True)/\((qa1 (Ty.int .i64) (qa1 (Ty.list (Ty.int .i64)) (RS.left (Prod.snd v7)) (Int.toNat (↑v13:Int))) (Int.toNat (↑(Prod.fst v7):Int)) != (0:Int))=false->fits .i64 ((↑v13:Int)+(1:Int))/\∃(v17:Nat),Nat.le v17 (List.length (RS.left (Prod.snd v11)))/\List.length (RS.left (Prod.snd v11))-v17<List.length (RS.left (Prod.snd v11))-v13/\(True/\True/\lastTo (RS.left (Prod.snd v11)) (Prod.fst v11) v13=lastTo (RS.left (Prod.snd v11)) (Prod.fst v11) v17/\(↑v13:Int)+(1:Int)=(↑v17:Int)/\True)/\True/\RS.done_ (Prod.snd v11)=RS.done_ (Prod.snd v11)/\RS.piv (Prod.snd v11)=RS.piv (Prod.snd v11)/\True))/\(decide ((↑v13:Int)<(↑(List.length (RS.left (Prod.snd v7))):Int))=false->(decide (lastTo (RS.left (Prod.snd v11)) (Prod.fst v11) v13<(0:Int))=true->fits .i64 ((↑(Prod.fst v7):Int)+(1:Int))/\∃(v17:Nat × RS),xm9 rows (Prod.fst v17) (Prod.snd v17)/\rdW rows-Prod.fst v17<rdW rows-Prod.fst v7/\(RS.left (Prod.snd v7)=RS.left (Prod.snd v17)/\True/\True/\(↑(Prod.fst v7):Int)+(1:Int)=(↑(Prod.fst v17):Int)/\True)/\True/\RS.done_ (Prod.snd v11)=RS.done_ (Prod.snd v17)/\RS.piv (Prod.snd v11)=RS.piv (Prod.snd v17)/\True)/\(decide (lastTo (RS.left (Prod.snd v11)) (Prod.fst v11) v13<(0:Int))=false->((0:Int)<=lastTo (RS.left (Prod.snd v11)) (Prod.fst v11) v13/\lastTo (RS.left (Prod.snd v11)) (Prod.fst v11) v13<(↑(List.length (RS.left (Prod.snd v7))):Int))/\((0:Int)<=(↑(Prod.fst v7):Int)/\(↑(Prod.fst v7):Int)<(↑(List.length (qa1 (Ty.list (Ty.int .i64)) (RS.left (Prod.snd v7)) (Int.toNat (lastTo (RS.left (Prod.snd v11)) (Prod.fst v11) v13)))):Int))/\(decide (qa1 (Ty.int .i64) (qa1 (Ty.list (Ty.int .i64)) (RS.left (Prod.snd v7)) (Int.toNat (lastTo (RS.left (Prod.snd v11)) (Prod.fst v11) v13))) (Int.toNat (↑(Prod.fst v7):Int))<(0:Int))=true->w5g (qa1 (Ty.list (Ty.int .i64)) (RS.left (Prod.snd v7)) (Int.toNat (lastTo (RS.left (Prod.snd v11)) (Prod.fst v11) v13))) (-1:Int)/\∃(v18:Nat × RS × List Int × Int),∃(v19:Nat),Nat.le v19 (List.length (RS.left (Prod.fst (Prod.snd v18))))/\((True/\True/\True/\(0:Int)=(↑v19:Int)/\True)/\True/\RS.done_ (Prod.snd v11)=RS.done_ (Prod.fst (Prod.snd v18))/\RS.piv (Prod.snd v11)=RS.piv (Prod.fst (Prod.snd v18))/\qg0 (RS.left (Prod.fst (Prod.snd v18))) (Prod.fst (Prod.snd (Prod.snd v18))) (Prod.fst v18) (Prod.snd (Prod.snd (Prod.snd v18))) v19=[]/\True)/\∀(v20:Nat),Nat.le v20 (List.length (RS.left (Prod.fst (Prod.snd v18))))->(decide ((↑v20:Int)<(↑(List.length (RS.left (Prod.snd v7))):Int))=true->((0:Int)<=(↑v20:Int)/\(↑v20:Int)<(↑(List.length (RS.left (Prod.snd v7))):Int))/\(((↑v20:Int) != lastTo (RS.left (Prod.snd v11)) (Prod.fst v11) v13)=true->((0:Ty.den qd6)<=(↑(Prod.fst v7):Int)/\w84 (qa1 (Ty.list (Ty.int .i64)) (RS.left (Prod.snd v7)) (Int.toNat (↑v20:Int))) (qj2 (qa1 (Ty.list (Ty.int .i64)) (RS.left (Prod.snd v7)) (Int.toNat (lastTo (RS.left (Prod.snd v11)) (Prod.fst v11) v13))) (-1:Int)) (Int.toNat (↑(Prod.fst v7):Int)))/\((0:Nat)<List.length [qe2 (qa1 (Ty.list (Ty.int .i64)) (RS.left (Prod.snd v7)) (Int.toNat (↑v20:Int))) (qj2 (qa1 (Ty.list (Ty.int .i64)) (RS.left (Prod.snd v7)) (Int.toNat (lastTo (RS.left (Prod.snd v11)) (Prod.fst v11) v13))) (-1:Int)) (Int.toNat (↑(Prod.fst v7):Int))]/\Nat.le (List.length (qg0 (RS.left (Prod.fst (Prod.snd v18))) (Prod.fst (Prod.snd (Prod.snd v18))) (Prod.fst v18) (Prod.snd (Prod.snd (Prod.snd v18))) v20)+List.length [qe2 (qa1 (Ty.list (Ty.int .i64)) (RS.left (Prod.snd v7)) (Int.toNat (↑v20:Int))) (qj2 (qa1 (Ty.list (Ty.int .i64)) (RS.left (Prod.snd v7)) (Int.toNat (lastTo (RS.left (Prod.snd v11)) (Prod.fst v11) v13))) (-1:Int)) (Int.toNat (↑(Prod.fst v7):Int))]) (1000000:Nat))/\fits .i64 ((↑v20:Int)+(1:Int))/\∃(v24:Nat),Nat.le v24 (List.length (RS.left (Prod.fst (Prod.snd v18))))/\List.length (RS.left (Prod.fst (Prod.snd v18)))-v24<List.length (RS.left (Prod.fst (Prod.snd v18)))-v20/\(True/\True/\True/\(↑v20:Int)+(1:Int)=(↑v24:Int)/\True)/\True/\RS.done_ (Prod.fst (Prod.snd v18))=RS.done_ (Prod.fst (Prod.snd v18))/\RS.piv (Prod.fst (Prod.snd v18))=RS.piv (Prod.fst (Prod.snd v18))/\qg0 (RS.left (Prod.fst (Prod.snd v18))) (Prod.fst (Prod.snd (Prod.snd v18))) (Prod.fst v18) (Prod.snd (Prod.snd (Prod.snd v18))) v20++[qe2 (qa1 (Ty.list (Ty.int .i64)) (RS.left (Prod.snd v7)) (Int.toNat (↑v20:Int))) (qj2 (qa1 (Ty.list (Ty.int .i64)) (RS.left (Prod.snd v7)) (Int.toNat (lastTo (RS.left (Prod.snd v11)) (Prod.fst v11) v13))) (-1:Int)) (Int.toNat (↑(Prod.fst v7):Int))]=qg0 (RS.left (Prod.fst (Prod.snd v18))) (Prod.fst (Prod.snd (Prod.snd v18))) (Prod.fst v18) (Prod.snd (Prod.snd (Prod.snd v18))) v24/\True)/\(((↑v20:Int) != lastTo (RS.left (Prod.snd v11)) (Prod.fst v11) v13)=false->fits .i64 ((↑v20:Int)+(1:Int))/\∃(v24:Nat),Nat.le v24 (List.length (RS.left (Prod.fst (Prod.snd v18))))/\List.length (RS.left (Prod.fst (Prod.snd v18)))-v24<List.length (RS.left (Prod.fst (Prod.snd v18)))-v20/\(True/\True/\True/\(↑v20:Int)+(1:Int)=(↑v24:Int)/\True)/\True/\RS.done_ (Prod.fst (Prod.snd v18))=RS.done_ (Prod.fst (Prod.snd v18))/\RS.piv (Prod.fst (Prod.snd v18))=RS.piv (Prod.fst (Prod.snd v18))/\qg0 (RS.left (Prod.fst (Prod.snd v18))) (Prod.fst (Prod.snd (Prod.snd v18))) (Prod.fst v18) (Prod.snd (Prod.snd (Prod.snd v18))) v20=qg0 (RS.left (Prod.fst (Prod.snd v18))) (Prod.fst (Prod.snd (Prod.snd v18))) (Prod.fst v18) (Prod.snd (Prod.snd (Prod.snd v18))) v24/\True))/\(decide ((↑v20:Int)<(↑(List.length (RS.left (Prod.snd v7))):Int))=false->∃(v23:Nat × RS × List Int × Int),∃(v24:Nat × List Q3),xi9 (RS.done_ (Prod.fst (Prod.snd v23))) (Prod.fst (Prod.snd (Prod.snd v23))) (Prod.fst v23) (Prod.fst v24) (Prod.snd v24)/\((True/\True/\True/\True/\(0:Int)=(↑(Prod.fst v24):Int)/\True)/\True/\RS.done_ (Prod.fst (Prod.snd v18))=Prod.snd v24/\RS.piv (Prod.fst (Prod.snd v18))=RS.piv (Prod.fst (Prod.snd v23))/\qg0 (RS.left (Prod.fst (Prod.snd v18))) (Prod.fst (Prod.snd (Prod.snd v18))) (Prod.fst v18) (Prod.snd (Prod.snd (Prod.snd v18))) v20=qg0 (RS.left (Prod.fst (Prod.snd v23))) (Prod.fst (Prod.snd (Prod.snd v23))) (Prod.fst v23) (Prod.snd (Prod.snd (Prod.snd v23))) (List.length (RS.left (Prod.fst (Prod.snd v23))))/\True)/\∀(v25:Nat × List Q3),xi9 (RS.done_ (Prod.fst (Prod.snd v23))) (Prod.fst (Prod.snd (Prod.snd v23))) (Prod.fst v23) (Prod.fst v25) (Prod.snd v25)->(decide ((↑(Prod.fst v25):Int)<(↑(List.length (RS.done_ (Prod.fst (Prod.snd v18)))):Int))=true->((0:Int)<=(↑(Prod.fst v25):Int)/\(↑(Prod.fst v25):Int)<(↑(List.length (Prod.snd v25)):Int))/\Int.toNat (↑(Prod.fst v25):Int)<List.length (Prod.snd v25)/\((0:Ty.den qd6)<=(↑(Prod.fst v7):Int)/\w84 (qa1 (Ty.list (Ty.int .i64)) (Prod.snd v25) (Int.toNat (↑(Prod.fst v25):Int))) (qj2 (qa1 (Ty.list (Ty.int .i64)) (RS.left (Prod.snd v7)) (Int.toNat (lastTo (RS.left (Prod.snd v11)) (Prod.fst v11) v13))) (-1:Int)) (Int.toNat (↑(Prod.fst v7):Int)))/\((0:Int)<=(↑(Prod.fst v25):Int)/\(↑(Prod.fst v25):Int)<(↑(List.length (Prod.snd v25)):Int))/\Int.toNat (↑(Prod.fst v25):Int)<List.length (Prod.snd v25)/\fits .i64 ((↑(Prod.fst v25):Int)+(1:Int))/\∃(v28:Nat × List Q3),xi9 (RS.done_ (Prod.fst (Prod.snd v23))) (Prod.fst (Prod.snd (Prod.snd v23))) (Prod.fst v23) (Prod.fst v28) (Prod.snd v28)/\List.length (RS.done_ (Prod.fst (Prod.snd v23)))-Prod.fst v28<List.length (RS.done_ (Prod.fst (Prod.snd v23)))-Prod.fst v25/\(True/\True/\True/\True/\(↑(Prod.fst v25):Int)+(1:Int)=(↑(Prod.fst v28):Int)/\True)/\True/\List.set (Prod.snd v25) (Int.toNat (↑(Prod.fst v25):Int)) (qe2 (qa1 (Ty.list (Ty.int .i64)) (Prod.snd v25) (Int.toNat (↑(Prod.fst v25):Int))) (qj2 (qa1 (Ty.list (Ty.int .i64)) (RS.left (Prod.snd v7)) (Int.toNat (lastTo (RS.left (Prod.snd v11)) (Prod.fst v11) v13))) (-1:Int)) (Int.toNat (↑(Prod.fst v7):Int)))=Prod.snd v28/\RS.piv (Prod.fst (Prod.snd v23))=RS.piv (Prod.fst (Prod.snd v23))/\qg0 (RS.left (Prod.fst (Prod.snd v23))) (Prod.fst (Prod.snd (Prod.snd v23))) (Prod.fst v23) (Prod.snd (Prod.snd (Prod.snd v23))) (List.length (RS.left (Prod.fst (Prod.snd v23))))=qg0 (RS.left (Prod.fst (Prod.snd v23))) (Prod.fst (Prod.snd (Prod.snd v23))) (Prod.fst v23) (Prod.snd (Prod.snd (Prod.snd v23))) (List.length (RS.left (Prod.fst (Prod.snd v23))))/\True)/\(decide ((↑(Prod.fst v25):Int)<(↑(List.length (RS.done_ (Prod.fst (Prod.snd v18)))):Int))=false->((0:Nat)<List.length [qj2 (qa1 (Ty.list (Ty.int .i64)) (RS.left (Prod.snd v7)) (Int.toNat (lastTo (RS.left (Prod.snd v11)) (Prod.fst v11) v13))) (-1:Int)]/\Nat.le (List.length (Prod.snd v25)+List.length [qj2 (qa1 (Ty.list (Ty.int .i64)) (RS.left (Prod.snd v7)) (Int.toNat (lastTo (RS.left (Prod.snd v11)) (Prod.fst v11) v13))) (-1:Int)]) (1000000:Nat))/\((0:Nat)<List.length [(↑(Prod.fst v7):Int)]/\Nat.le (List.length (RS.piv (Prod.fst (Prod.snd v23)))+List.length [(↑(Prod.fst v7):Int)]) (1000000:Nat))/\fits .i64 ((↑(Prod.fst v7):Int)+(1:Int))/\∃(v28:Nat × RS),xm9 rows (Prod.fst v28) (Prod.snd v28)/\rdW rows-Prod.fst v28<rdW rows-Prod.fst v7/\(qg0 (RS.left (Prod.fst (Prod.snd v23))) (Prod.fst (Prod.snd (Prod.snd v23))) (Prod.fst v23) (Prod.snd (Prod.snd (Prod.snd v23))) (List.length (RS.left (Prod.fst (Prod.snd v23))))=RS.left (Prod.snd v28)/\True/\True/\(↑(Prod.fst v7):Int)+(1:Int)=(↑(Prod.fst v28):Int)/\True)/\True/\Prod.snd v25++[qj2 (qa1 (Ty.list (Ty.int .i64)) (RS.left (Prod.snd v7)) (Int.toNat (lastTo (RS.left (Prod.snd v11)) (Prod.fst v11) v13))) (-1:Int)]=RS.done_ (Prod.snd v28)/\RS.piv (Prod.fst (Prod.snd v23))++[(↑(Prod.fst v7):Int)]=RS.piv (Prod.snd v28)/\True)))/\(decide (qa1 (Ty.int .i64) (qa1 (Ty.list (Ty.int .i64)) (RS.left (Prod.snd v7)) (Int.toNat (lastTo (RS.left (Prod.snd v11)) (Prod.fst v11) v13))) (Int.toNat (↑(Prod.fst v7):Int))<(0:Int))=false->∃(v18:Nat × RS × List Int × Int),∃(v19:Nat),Nat.le v19 (List.length (RS.left (Prod.fst (Prod.snd v18))))/\((True/\True/\True/\(0:Int)=(↑v19:Int)/\True)/\True/\RS.done_ (Prod.snd v11)=RS.done_ (Prod.fst (Prod.snd v18))/\RS.piv (Prod.snd v11)=RS.piv (Prod.fst (Prod.snd v18))/\qg0 (RS.left (Prod.fst (Prod.snd v18))) (Prod.fst (Prod.snd (Prod.snd v18))) (Prod.fst v18) (Prod.snd (Prod.snd (Prod.snd v18))) v19=[]/\True)/\∀(v20:Nat),Nat.le v20 (List.length (RS.left (Prod.fst (Prod.snd v18))))->(decide ((↑v20:Int)<(↑(List.length (RS.left (Prod.snd v7))):Int))=true->((0:Int)<=(↑v20:Int)/\(↑v20:Int)<(↑(List.length (RS.left (Prod.snd v7))):Int))/\(((↑v20:Int) != lastTo (RS.left (Prod.snd v11)) (Prod.fst v11) v13)=true->((0:Ty.den qd6)<=(↑(Prod.fst v7):Int)/\w84 (qa1 (Ty.list (Ty.int .i64)) (RS.left (Prod.snd v7)) (Int.toNat (↑v20:Int))) (qa1 (Ty.list (Ty.int .i64)) (RS.left (Prod.snd v7)) (Int.toNat (lastTo (RS.left (Prod.snd v11)) (Prod.fst v11) v13))) (Int.toNat (↑(Prod.fst v7):Int)))/\((0:Nat)<List.length [qe2 (qa1 (Ty.list (Ty.int .i64)) (RS.left (Prod.snd v7)) (Int.toNat (↑v20:Int))) (qa1 (Ty.list (Ty.int .i64)) (RS.left (Prod.snd v7)) (Int.toNat (lastTo (RS.left (Prod.snd v11)) (Prod.fst v11) v13))) (Int.toNat (↑(Prod.fst v7):Int))]/\Nat.le (List.length (qg0 (RS.left (Prod.fst (Prod.snd v18))) (Prod.fst (Prod.snd (Prod.snd v18))) (Prod.fst v18) (Prod.snd (Prod.snd (Prod.snd v18))) v20)+List.length [qe2 (qa1 (Ty.list (Ty.int .i64)) (RS.left (Prod.snd v7)) (Int.toNat (↑v20:Int))) (qa1 (Ty.list (Ty.int .i64)) (RS.left (Prod.snd v7)) (Int.toNat (lastTo (RS.left (Prod.snd v11)) (Prod.fst v11) v13))) (Int.toNat (↑(Prod.fst v7):Int))]) (1000000:Nat))/\fits .i64 ((↑v20:Int)+(1:Int))/\∃(v24:Nat),Nat.le v24 (List.length (RS.left (Prod.fst (Prod.snd v18))))/\List.length (RS.left (Prod.fst (Prod.snd v18)))-v24<List.length (RS.left (Prod.fst (Prod.snd v18)))-v20/\(True/\True/\True/\(↑v20:Int)+(1:Int)=(↑v24:Int)/\True)/\True/\RS.done_ (Prod.fst (Prod.snd v18))=RS.done_ (Prod.fst (Prod.snd v18))/\RS.piv (Prod.fst (Prod.snd v18))=RS.piv (Prod.fst (Prod.snd v18))/\qg0 (RS.left (Prod.fst (Prod.snd v18))) (Prod.fst (Prod.snd (Prod.snd v18))) (Prod.fst v18) (Prod.snd (Prod.snd (Prod.snd v18))) v20++[qe2 (qa1 (Ty.list (Ty.int .i64)) (RS.left (Prod.snd v7)) (Int.toNat (↑v20:Int))) (qa1 (Ty.list (Ty.int .i64)) (RS.left (Prod.snd v7)) (Int.toNat (lastTo (RS.left (Prod.snd v11)) (Prod.fst v11) v13))) (Int.toNat (↑(Prod.fst v7):Int))]=qg0 (RS.left (Prod.fst (Prod.snd v18))) (Prod.fst (Prod.snd (Prod.snd v18))) (Prod.fst v18) (Prod.snd (Prod.snd (Prod.snd v18))) v24/\True)/\(((↑v20:Int) != lastTo (RS.left (Prod.snd v11)) (Prod.fst v11) v13)=false->fits .i64 ((↑v20:Int)+(1:Int))/\∃(v24:Nat),Nat.le v24 (List.length (RS.left (Prod.fst (Prod.snd v18))))/\List.length (RS.left (Prod.fst (Prod.snd v18)))-v24<List.length (RS.left (Prod.fst (Prod.snd v18)))-v20/\(True/\True/\True/\(↑v20:Int)+(1:Int)=(↑v24:Int)/\True)/\True/\RS.done_ (Prod.fst (Prod.snd v18))=RS.done_ (Prod.fst (Prod.snd v18))/\RS.piv (Prod.fst (Prod.snd v18))=RS.piv (Prod.fst (Prod.snd v18))/\qg0 (RS.left (Prod.fst (Prod.snd v18))) (Prod.fst (Prod.snd (Prod.snd v18))) (Prod.fst v18) (Prod.snd (Prod.snd (Prod.snd v18))) v20=qg0 (RS.left (Prod.fst (Prod.snd v18))) (Prod.fst (Prod.snd (Prod.snd v18))) (Prod.fst v18) (Prod.snd (Prod.snd (Prod.snd v18))) v24/\True))/\(decide ((↑v20:Int)<(↑(List.length (RS.left (Prod.snd v7))):Int))=false->∃(v23:Nat × RS × List Int × Int),∃(v24:Nat × List Q3),xi9 (RS.done_ (Prod.fst (Prod.snd v23))) (Prod.fst (Prod.snd (Prod.snd v23))) (Prod.fst v23) (Prod.fst v24) (Prod.snd v24)/\((True/\True/\True/\True/\(0:Int)=(↑(Prod.fst v24):Int)/\True)/\True/\RS.done_ (Prod.fst (Prod.snd v18))=Prod.snd v24/\RS.piv (Prod.fst (Prod.snd v18))=RS.piv (Prod.fst (Prod.snd v23))/\qg0 (RS.left (Prod.fst (Prod.snd v18))) (Prod.fst (Prod.snd (Prod.snd v18))) (Prod.fst v18) (Prod.snd (Prod.snd (Prod.snd v18))) v20=qg0 (RS.left (Prod.fst (Prod.snd v23))) (Prod.fst (Prod.snd (Prod.snd v23))) (Prod.fst v23) (Prod.snd (Prod.snd (Prod.snd v23))) (List.length (RS.left (Prod.fst (Prod.snd v23))))/\True)/\∀(v25:Nat × List Q3),xi9 (RS.done_ (Prod.fst (Prod.snd v23))) (Prod.fst (Prod.snd (Prod.snd v23))) (Prod.fst v23) (Prod.fst v25) (Prod.snd v25)->(decide ((↑(Prod.fst v25):Int)<(↑(List.length (RS.done_ (Prod.fst (Prod.snd v18)))):Int))=true->((0:Int)<=(↑(Prod.fst v25):Int)/\(↑(Prod.fst v25):Int)<(↑(List.length (Prod.snd v25)):Int))/\Int.toNat (↑(Prod.fst v25):Int)<List.length (Prod.snd v25)/\((0:Ty.den qd6)<=(↑(Prod.fst v7):Int)/\w84 (qa1 (Ty.list (Ty.int .i64)) (Prod.snd v25) (Int.toNat (↑(Prod.fst v25):Int))) (qa1 (Ty.list (Ty.int .i64)) (RS.left (Prod.snd v7)) (Int.toNat (lastTo (RS.left (Prod.snd v11)) (Prod.fst v11) v13))) (Int.toNat (↑(Prod.fst v7):Int)))/\((0:Int)<=(↑(Prod.fst v25):Int)/\(↑(Prod.fst v25):Int)<(↑(List.length (Prod.snd v25)):Int))/\Int.toNat (↑(Prod.fst v25):Int)<List.length (Prod.snd v25)/\fits .i64 ((↑(Prod.fst v25):Int)+(1:Int))/\∃(v28:Nat × List Q3),xi9 (RS.done_ (Prod.fst (Prod.snd v23))) (Prod.fst (Prod.snd (Prod.snd v23))) (Prod.fst v23) (Prod.fst v28) (Prod.snd v28)/\List.length (RS.done_ (Prod.fst (Prod.snd v23)))-Prod.fst v28<List.length (RS.done_ (Prod.fst (Prod.snd v23)))-Prod.fst v25/\(True/\True/\True/\True/\(↑(Prod.fst v25):Int)+(1:Int)=(↑(Prod.fst v28):Int)/\True)/\True/\List.set (Prod.snd v25) (Int.toNat (↑(Prod.fst v25):Int)) (qe2 (qa1 (Ty.list (Ty.int .i64)) (Prod.snd v25) (Int.toNat (↑(Prod.fst v25):Int))) (qa1 (Ty.list (Ty.int .i64)) (RS.left (Prod.snd v7)) (Int.toNat (lastTo (RS.left (Prod.snd v11)) (Prod.fst v11) v13))) (Int.toNat (↑(Prod.fst v7):Int)))=Prod.snd v28/\RS.piv (Prod.fst (Prod.snd v23))=RS.piv (Prod.fst (Prod.snd v23))/\qg0 (RS.left (Prod.fst (Prod.snd v23))) (Prod.fst (Prod.snd (Prod.snd v23))) (Prod.fst v23) (Prod.snd (Prod.snd (Prod.snd v23))) (List.length (RS.left (Prod.fst (Prod.snd v23))))=qg0 (RS.left (Prod.fst (Prod.snd v23))) (Prod.fst (Prod.snd (Prod.snd v23))) (Prod.fst v23) (Prod.snd (Prod.snd (Prod.snd v23))) (List.length (RS.left (Prod.fst (Prod.snd v23))))/\True)/\(decide ((↑(Prod.fst v25):Int)<(↑(List.length (RS.done_ (Prod.fst (Prod.snd v18)))):Int))=false->((0:Nat)<List.length [qa1 (Ty.list (Ty.int .i64)) (RS.left (Prod.snd v7)) (Int.toNat (lastTo (RS.left (Prod.snd v11)) (Prod.fst v11) v13))]/\Nat.le (List.length (Prod.snd v25)+List.length [qa1 (Ty.list (Ty.int .i64)) (RS.left (Prod.snd v7)) (Int.toNat (lastTo (RS.left (Prod.snd v11)) (Prod.fst v11) v13))]) (1000000:Nat))/\((0:Nat)<List.length [(↑(Prod.fst v7):Int)]/\Nat.le (List.length (RS.piv (Prod.fst (Prod.snd v23)))+List.length [(↑(Prod.fst v7):Int)]) (1000000:Nat))/\fits .i64 ((↑(Prod.fst v7):Int)+(1:Int))/\∃(v28:Nat × RS),xm9 rows (Prod.fst v28) (Prod.snd v28)/\rdW rows-Prod.fst v28<rdW rows-Prod.fst v7/\(qg0 (RS.left (Prod.fst (Prod.snd v23))) (Prod.fst (Prod.snd (Prod.snd v23))) (Prod.fst v23) (Prod.snd (Prod.snd (Prod.snd v23))) (List.length (RS.left (Prod.fst (Prod.snd v23))))=RS.left (Prod.snd v28)/\True/\True/\(↑(Prod.fst v7):Int)+(1:Int)=(↑(Prod.fst v28):Int)/\True)/\True/\Prod.snd v25++[qa1 (Ty.list (Ty.int .i64)) (RS.left (Prod.snd v7)) (Int.toNat (lastTo (RS.left (Prod.snd v11)) (Prod.fst v11) v13))]=RS.done_ (Prod.snd v28)/\RS.piv (Prod.fst (Prod.snd v23))++[(↑(Prod.fst v7):Int)]=RS.piv (Prod.snd v28)/\True))))))/\(decide ((↑(Prod.fst v7):Int)<(↑(List.length (qa1 (Ty.list (Ty.int .i64)) (RS.left (Prod.snd v7)) (0:Nat))):Int))=false->RS.done_ (Prod.snd v7)=Prod.fst Q2/\RS.piv (Prod.snd v7)=Prod.snd Q2/\True))/\(decide ((0:Int)<(↑(List.length (RS.left (Prod.snd v7))):Int))=false->RS.done_ (Prod.snd v7)=Prod.fst Q2/\RS.piv (Prod.snd v7)=Prod.snd Q2/\True))) (by kernel_rfl) ?_
 try simp only[z0,z1,z2,z3,z4,z5,z6,z7,z8,z9,z10,Int.reduceEq,z11,z12,z13,z14,z15,z16,z17,z18,z19,z20,z21,z22,z23,z24,z25,z26,z27,z28,z29,z30,Int.reduceLE,Int.reduceLT,z31,z32,z33,z34,qa4]
 try simp only[qb3,qb4,qb9,List.set_cons_zero,List.cons.injEq,and_true,true_and]
 have hn:=h.n
 have hw:=h.w
 refine⟨(),0,Nat.zero_le _,⟨rfl,rfl⟩,λk hk=>⟨λhlt=>⟨hlt,h.big k hlt,by rw[List.length_take,List.length_map]; omega,qa7 (by omega) (by omega),k+1,by omega,by omega,by omega,?_⟩,λhge=>?_⟩⟩
 ·rw[takeL_snoc _ k (by simpa using hlt),ql4 (rows.map qj5) k (by simpa using hlt),ql4 rows k hlt]
  simp
 refine⟨(),(0,qh2 rows 0),⟨Nat.zero_le _,rfl⟩,⟨⟨by rw[List.take_of_length_le (by rw[List.length_map]; omega)]; rfl,rfl⟩,rfl,rfl⟩,?_⟩
 rintro⟨j,s⟩ ⟨hj,hs⟩
 dsimp only at hj hs ⊢
 have hsh:=wp1 h j
 rw[hs] at hsh
 have hln:=hsh.ln
 have hdn:=hsh.dn
 have hpn:=hsh.pn
 have hle:∀i,i<s.left.length->(nL s.left i).length=rdW rows:=λi hi=>hsh.le _ (qn6 _ _ hi)
 have hde:∀i,i<s.done_.length->(nL s.done_ i).length=rdW rows:=λi hi=>hsh.de _ (qn6 _ _ hi)
 refine⟨λhl0=>⟨hl0,λhjl=>?_,λhjl=>?_⟩,λhl0=>?_⟩
 ·have hjW:j<rdW rows:=by rw[hle 0 (by omega)] at hjl; exact hjl
  refine⟨(j,s),0,Nat.zero_le _,⟨⟨rfl,rfl⟩,rfl,rfl⟩,λk hk=>⟨λhlt=>⟨hlt,by rw[hle k hlt]; exact hjW,λhz=>⟨qa7 (by omega) (by omega),k+1,hlt,by dsimp only; omega,by rw[lastTo,if_pos hz],by omega⟩,λhz=>⟨qa7 (by omega) (by omega),k+1,hlt,by dsimp only; omega,by rw[lastTo,if_neg (λq=>q hz)],by omega⟩⟩,λhge=>?_⟩⟩
  dsimp only at hk hge ⊢
  obtain rfl:k=s.left.length:=by omega
  have hlast:=q0k s.left j s.left.length
  refine⟨λhneg=>⟨qa7 (by omega) (by omega),(j+1,s),⟨by dsimp only; omega,by dsimp only; rw[qh2,hs,q6c,if_pos hneg]⟩,by dsimp only; omega,⟨rfl,by dsimp only; omega⟩,rfl,rfl⟩,λhpos=>?_⟩
  have hst:xi8 s j:=by have:=h.step j hjW; rw[hs] at this; exact this hpos
  have h1:=hst.sca
  have h2:=hst.wo
  have h3:=hst.woD
  clear hst
  have hnx:qh2 rows (j+1)=⟨qg0 s.left (qt5 s.left j (lastTo s.left j s.left.length)) j (lastTo s.left j s.left.length) s.left.length,(s.done_.map λr=>qe2 r (qt5 s.left j (lastTo s.left j s.left.length)) j)++[qt5 s.left j (lastTo s.left j s.left.length)],s.piv++[(j:Int)]⟩:=by rw[qh2,hs,q6c,if_neg (by omega)]
  have hpl:=wx6 hsh (lastTo s.left j s.left.length) hpos hlast.1
  have hpe:qt5 s.left j (lastTo s.left j s.left.length)=if nI (nL s.left (lastTo s.left j s.left.length).toNat) j<0 then qj2 (nL s.left (lastTo s.left j s.left.length).toNat) (-1) else nL s.left (lastTo s.left j s.left.length).toNat:=rfl
  generalize lastTo s.left j s.left.length=a at *
  refine⟨⟨hpos,hlast.1⟩,by rw[hle _ (by omega)]; exact hjW,λhng=>⟨h1 hng,?_⟩,λhng=>?_⟩
  ·have hp:qj2 (nL s.left a.toNat) (-1)=qt5 s.left j a:=by rw[hpe,if_pos hng]
   rw[hp]
   refine⟨(j,s,qt5 s.left j a,a),0,Nat.zero_le _,⟨rfl,rfl,rfl,rfl⟩,λk hk=>⟨λhlt=>⟨hlt,λhne=>⟨h2 k hlt hne,by have:=q07 s.left (qt5 s.left j a) j a k; dsimp only; omega,qa7 (by omega) (by omega),k+1,hlt,by dsimp only; omega,by omega,by rw[qg0,if_pos hne]⟩,λhe=>⟨qa7 (by omega) (by omega),k+1,hlt,by dsimp only; omega,by omega,by rw[qg0,if_neg (λq=>q he)]⟩⟩,λhge=>?_⟩⟩
   dsimp only at hk hge ⊢
   obtain rfl:k=s.left.length:=by omega
   refine⟨(j,s,qt5 s.left j a,a),(0,s.done_),⟨Nat.zero_le _,(qy1 (.list (.int .i64)) _ _).symm⟩,⟨rfl,rfl,rfl,rfl⟩,?_⟩
   rintro⟨i,r⟩ ⟨hi1,hi2⟩
   dsimp only at hi1 hi2 ⊢
   have hrl:r.length=s.done_.length:=by rw[hi2]; exact qq7 (.list (.int .i64)) _ _ _
   refine⟨λhlt=>?_,λhge=>?_⟩
   ·have hri:nL r i=nL s.done_ i:=by rw[hi2]; exact(q4b (.list (.int .i64)) _ _ _ _ hlt).trans (if_neg (Nat.lt_irrefl _))
    rw[hri]
    exact⟨by omega,by omega,h3 i hlt,by omega,by omega,qa7 (by omega) (by omega),(i+1,r.set i (qe2 (nL s.done_ i) (qt5 s.left j a) j)),⟨by dsimp only; omega,by dsimp only; rw[hi2]; exact qu1 (.list (.int .i64)) (λq=>qe2 (nL s.done_ q) (qt5 s.left j a) j) _ _⟩,by dsimp only; omega,by dsimp only; omega,rfl⟩
   ·obtain rfl:i=s.done_.length:=by omega
    have hr:r=s.done_.map λr=>qe2 r (qt5 s.left j a) j:=by
     rw[hi2]
     refine(q1w (.list (.int .i64)) _ _ _ (Nat.le_refl _)).trans ?_
     apply List.ext_getElem (by simp)
     intro q k1 k2
     simp only[List.getElem_map,List.getElem_range]
     rw[ql4 _ q (by simpa using k1)]
    refine⟨by omega,by omega,qa7 (by omega) (by omega),(j+1,qh2 rows (j+1)),⟨by dsimp only; omega,rfl⟩,by dsimp only; omega,⟨by rw[hnx],by dsimp only; omega⟩,by rw[hnx,hr],by rw[hnx]⟩
  ·have hp:nL s.left a.toNat=qt5 s.left j a:=by rw[hpe,if_neg (by omega)]
   rw[hp]
   refine⟨(j,s,qt5 s.left j a,a),0,Nat.zero_le _,⟨rfl,rfl,rfl,rfl⟩,λk hk=>⟨λhlt=>⟨hlt,λhne=>⟨h2 k hlt hne,by have:=q07 s.left (qt5 s.left j a) j a k; dsimp only; omega,qa7 (by omega) (by omega),k+1,hlt,by dsimp only; omega,by omega,by rw[qg0,if_pos hne]⟩,λhe=>⟨qa7 (by omega) (by omega),k+1,hlt,by dsimp only; omega,by omega,by rw[qg0,if_neg (λq=>q he)]⟩⟩,λhge=>?_⟩⟩
   dsimp only at hk hge ⊢
   obtain rfl:k=s.left.length:=by omega
   refine⟨(j,s,qt5 s.left j a,a),(0,s.done_),⟨Nat.zero_le _,(qy1 (.list (.int .i64)) _ _).symm⟩,⟨rfl,rfl,rfl,rfl⟩,?_⟩
   rintro⟨i,r⟩ ⟨hi1,hi2⟩
   dsimp only at hi1 hi2 ⊢
   have hrl:r.length=s.done_.length:=by rw[hi2]; exact qq7 (.list (.int .i64)) _ _ _
   refine⟨λhlt=>?_,λhge=>?_⟩
   ·have hri:nL r i=nL s.done_ i:=by rw[hi2]; exact(q4b (.list (.int .i64)) _ _ _ _ hlt).trans (if_neg (Nat.lt_irrefl _))
    rw[hri]
    exact⟨by omega,by omega,h3 i hlt,by omega,by omega,qa7 (by omega) (by omega),(i+1,r.set i (qe2 (nL s.done_ i) (qt5 s.left j a) j)),⟨by dsimp only; omega,by dsimp only; rw[hi2]; exact qu1 (.list (.int .i64)) (λq=>qe2 (nL s.done_ q) (qt5 s.left j a) j) _ _⟩,by dsimp only; omega,by dsimp only; omega,rfl⟩
   ·obtain rfl:i=s.done_.length:=by omega
    have hr:r=s.done_.map λr=>qe2 r (qt5 s.left j a) j:=by
     rw[hi2]
     refine(q1w (.list (.int .i64)) _ _ _ (Nat.le_refl _)).trans ?_
     apply List.ext_getElem (by simp)
     intro q k1 k2
     simp only[List.getElem_map,List.getElem_range]
     rw[ql4 _ q (by simpa using k1)]
    refine⟨by omega,by omega,qa7 (by omega) (by omega),(j+1,qh2 rows (j+1)),⟨by dsimp only; omega,rfl⟩,by dsimp only; omega,⟨by rw[hnx],by dsimp only; omega⟩,by rw[hnx,hr],by rw[hnx]⟩
 ·have e:j=rdW rows:=by rw[hle 0 (by omega)] at hjl; omega
  subst e
  unfold qe7
  rw[hs]
  exact⟨rfl,rfl⟩
 ·have e:s.left=[]:=List.eq_nil_of_length_eq_zero (by omega)
  have:=wi6 hs e (rdW rows-j)
  rw[show j+(rdW rows-j)=rdW rows by omega] at this
  unfold qe7
  rw[this]
  exact⟨rfl,rfl⟩
end Go.Proofs.YtempacilejhbgaaGreat
