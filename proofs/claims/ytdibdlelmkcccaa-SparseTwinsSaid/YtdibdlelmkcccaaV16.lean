/- The reference's reduced rows: contracts by the engine. No condition. -/
import Derived.Test.YtdibdlelmkcccaaV15
set_option linter.unusedVariables false
set_option linter.unusedSimpArgs false
namespace Go.Proofs.Ytdibdlelmkcccaa
open Go Go.RowKit Eng
def qi5 (m:List (List Int)) (pix:List Int):List (List Int):=(List.range m.length).map λi=>qq1 (nL m i) pix
theorem q60 (m:List (List Int)) (pix:List Int):(qi5 m pix).length=m.length:=by simp[qi5]
theorem qp7 (m:List (List Int)) (pix:List Int) (i:Nat) (hi:i<m.length):nL (qi5 m pix) i=qq1 (nL m i) pix:=by
 rw[qm7 _ _ (by rw[q60]; exact hi)]; simp[qi5]
structure w5u (m:List (List Int)) (pix:List Int):Prop where
 rows:m.length<=10000
 cols:pix.length<=10000
 at_:∀i,i<m.length->∀j,j<pix.length->0<=nI pix j/\nI pix j<(nL m i).length
def x0l (m:List (List Int)) (pix:List Int):Nat->Option Inv
 | 0=>some (Inv.of [5,13] 1 (λk:Nat=>[(5,.msl 0 .none),(13,.lit (.int .i64 k))]) (λk=>[.mat 24 3 (.int .i64) ((qi5 m pix).take k) .none .none]) (λk=>k<=m.length) (λk=>m.length-k))
 | 1=>some (Eng.Inv.mk Nat Nat [5,8,20] 2 (λ_ j=>[(5,.msl 0 .none),(8,.own 1),(20,.lit (.int .i64 j))]) (λk j=>[.mat 24 3 (.int .i64) ((qi5 m pix).take k) .none .none,.vec 3 (.int .i64) ((qq1 (nL m k) pix).take j)]) (λ_ j=>j<=pix.length) (λ_ j=>pix.length-j))
 | _=>none
abbrev x0m:qc9:=qh6 true none [qk0,qf6] [qk0] (λx=>w5u x.1 x.2.1) (λx=>(qi5 x.1 x.2.1,()))
theorem w17:qe1 Try.prog 128 x0m:=by
 refine meets (x1x [34] (SpecsOk.nil _)) Try.func128 rfl rfl (λx=>x0l x.1 x.2.1) (λ_=>by kernel_rfl) (by decide) ?_
 rintro⟨m,pix,⟨⟩⟩ h
 revert m pix
 intro(m:List (List Int)) (pix:List Int) (h:w5u m pix)
 refine qe6 (B:=∃(v0:Unit),∃(v1:Nat),Nat.le v1 (List.length m)/\((True/\(0:Int)=(↑v1:Int)/\True)/\List.take v1 (qi5 m pix)=[]/\True)/\∀(v2:Nat),Nat.le v2 (List.length m)->(decide ((↑v2:Int)<(↑(List.length m):Int))=true->((0:Int)<=(↑v2:Int)/\(↑v2:Int)<(↑(List.length m):Int))/\∃(v5:Nat),∃(v6:Nat),Nat.le v6 (List.length pix)/\((True/\True/\(0:Int)=(↑v6:Int)/\True)/\(List.take v2 (qi5 m pix)=List.take v5 (qi5 m pix)/\True/\True)/\[]=List.take v6 (qq1 (nL m v5) pix)/\True)/\∀(v7:Nat),Nat.le v7 (List.length pix)->(decide ((↑v7:Int)<(↑(List.length pix):Int))=true->((0:Int)<=(↑v7:Int)/\(↑v7:Int)<(↑(List.length pix):Int))/\((0:Int)<=qa3 (Ty.int .i64) pix (Int.toNat (↑v7:Int))/\qa3 (Ty.int .i64) pix (Int.toNat (↑v7:Int))<(↑(List.length (qa3 (Ty.list (Ty.int .i64)) m (Int.toNat (↑v2:Int)))):Int))/\((0:Nat)<List.length [qa3 (Ty.int .i64) (qa3 (Ty.list (Ty.int .i64)) m (Int.toNat (↑v2:Int))) (Int.toNat (qa3 (Ty.int .i64) pix (Int.toNat (↑v7:Int))))]/\Nat.le (List.length (List.take v7 (qq1 (nL m v5) pix))+List.length [qa3 (Ty.int .i64) (qa3 (Ty.list (Ty.int .i64)) m (Int.toNat (↑v2:Int))) (Int.toNat (qa3 (Ty.int .i64) pix (Int.toNat (↑v7:Int))))]) (1000000:Nat))/\fits .i64 ((↑v7:Int)+(1:Int))/\∃(v10:Nat),Nat.le v10 (List.length pix)/\List.length pix-v10<List.length pix-v7/\(True/\True/\(↑v7:Int)+(1:Int)=(↑v10:Int)/\True)/\(List.take v5 (qi5 m pix)=List.take v5 (qi5 m pix)/\True/\True)/\List.take v7 (qq1 (nL m v5) pix)++[qa3 (Ty.int .i64) (qa3 (Ty.list (Ty.int .i64)) m (Int.toNat (↑v2:Int))) (Int.toNat (qa3 (Ty.int .i64) pix (Int.toNat (↑v7:Int))))]=List.take v10 (qq1 (nL m v5) pix)/\True)/\(decide ((↑v7:Int)<(↑(List.length pix):Int))=false->((0:Nat)<(0:Nat)+(1:Nat)/\List.length (List.take v5 (qi5 m pix))+((0:Nat)+(1:Nat))<=(1000000:Nat))/\fits .i64 ((↑v2:Int)+(1:Int))/\∃(v10:Nat),Nat.le v10 (List.length m)/\List.length m-v10<List.length m-v2/\(True/\(↑v2:Int)+(1:Int)=(↑v10:Int)/\True)/\(List.take v5 (qi5 m pix)++[List.take v7 (qq1 (nL m v5) pix)]=List.take v10 (qi5 m pix)/\True/\True)/\True))/\(decide ((↑v2:Int)<(↑(List.length m):Int))=false->q3w (Ty.int .i64) (List.take v2 (qi5 m pix)) none=qi5 m pix)) (by kernel_rfl) ?_
 try simp only[z0,z1,z2,z3,z4,z5,z6,z7,z8,z9,z10,Int.reduceEq,z11,z12,z13,z14,z15,z16,z17,z18,z19,z20,z21,z22,z23,z24,z25,z26,z27,z28,z29,z30,Int.reduceLE,Int.reduceLT,z31,z32,z33,z34,qa4]
 try simp only[qb8,qb9,qd2,List.set_cons_zero,List.cons.injEq,and_true,true_and]
 have hr:=h.rows
 have hc:=h.cols
 have hl:=q60 m pix
 refine⟨(),0,Nat.zero_le _,⟨rfl,rfl⟩,λk hk=>⟨λhlt=>⟨hlt,k,0,Nat.zero_le _,⟨rfl,rfl,rfl⟩,λj hj=>⟨λhj2=>?_,λhj2=>?_⟩⟩,λhge=>?_⟩⟩
 ·have h1:=ql7 (nL m k) pix
  refine⟨hj2,h.at_ k hlt j hj2,by rw[List.length_take]; omega,qa8 (by omega) (by omega),j+1,by omega,by omega,by omega,?_⟩
  rw[q2j _ j (by omega),qr5 _ _ _ hj2]
 ·obtain rfl:j=pix.length:=by omega
  have h1:=ql7 (nL m k) pix
  have h3:(qq1 (nL m k) pix).take pix.length=qq1 (nL m k) pix:=List.take_of_length_le (by omega)
  rw[h3]
  refine⟨by rw[List.length_take]; omega,qa8 (by omega) (by omega),k+1,by omega,by omega,by omega,?_⟩
  rw[takeL_snoc _ k (by omega),qp7 _ _ _ hlt]
 ·first | (rw[List.take_of_length_le (by omega)]; rfl) | rw[List.take_of_length_le (by omega)]
def lastTo (left:List (List Int)) (j:Nat):Nat->Int
 | 0=>-1
 | i+1=>if nI (nL left i) j≠0 then(i:Int) else lastTo left j i
def qv0 (left:List (List Int)) (j:Nat) (at_:Int):List Int:=if nI (nL left at_.toNat) j<0 then qi9 (nL left at_.toNat) (-1) else nL left at_.toNat
def qg7 (left:List (List Int)) (p:List Int) (j:Nat) (at_:Int):Nat->List (List Int)
 | 0=>[]
 | i+1=>if(i:Int)≠at_ then qg7 left p j at_ i++[qe4 (nL left i) p j] else qg7 left p j at_ i
structure RS where
 left:List (List Int)
 done_:List (List Int)
 piv:List Int
def q61 (s:RS) (j:Nat):RS:=
 if lastTo s.left j s.left.length<0 then s
 else⟨qg7 s.left (qv0 s.left j (lastTo s.left j s.left.length)) j (lastTo s.left j s.left.length) s.left.length,(s.done_.map λr=>qe4 r (qv0 s.left j (lastTo s.left j s.left.length)) j)++[qv0 s.left j (lastTo s.left j s.left.length)],s.piv++[(j:Int)]⟩
def qg6 (rows:List (List Int)):Nat->RS
 | 0=>⟨rows.map qj7,[],[]⟩
 | j+1=>q61 (qg6 rows j) j
def rdW (rows:List (List Int)):Nat:=(nL rows 0).length
def qa1 (rows:List (List Int)):List (List Int) × List Int:=((qg6 rows (rdW rows)).done_,(qg6 rows (rdW rows)).piv)
structure xh3 (s:RS) (j:Nat):Prop where
 sca:nI (nL s.left (lastTo s.left j s.left.length).toNat) j<0->w5t (nL s.left (lastTo s.left j s.left.length).toNat) (-1)
 wo:∀i,i<s.left.length->(i:Int)≠lastTo s.left j s.left.length->w83 (nL s.left i) (qv0 s.left j (lastTo s.left j s.left.length)) j
 woD:∀i,i<s.done_.length->w83 (nL s.done_ i) (qv0 s.left j (lastTo s.left j s.left.length)) j
structure w85 (rows:List (List Int)):Prop where
 n:rows.length<=1000
 w:rdW rows<=1000
 each:∀i,i<rows.length->(nL rows i).length=rdW rows
 big:∀i,i<rows.length->q3x (nL rows i)
 step:∀j,j<rdW rows->0<=lastTo (qg6 rows j).left j (qg6 rows j).left.length->xh3 (qg6 rows j) j
theorem qn6 (l:List Int):(qj7 l).length=l.length:=by simp[qj7]
theorem qv6 (r p:List Int) (j:Nat):(qe4 r p j).length=r.length:=by unfold qe4; rw[qn6]; simp[qz6]
theorem qt8 (l:List Int) (n:Int):(qi9 l n).length=l.length:=by simp[qi9]
theorem q02 (left:List (List Int)) (j:Nat):∀k:Nat,lastTo left j k<k/\-1<=lastTo left j k
 | 0=>⟨by show(-1:Int)<0; omega,by show(-1:Int)<=-1; omega⟩
 | k+1=>by
  have:=q02 left j k
  rw[lastTo]
  split <;> omega
theorem q1r (left:List (List Int)) (p:List Int) (j:Nat) (a:Int):∀k,∀x∈qg7 left p j a k,∃i,i<k/\(i:Int)≠a/\x=qe4 (nL left i) p j
 | 0,x,hx=>by cases hx
 | k+1,x,hx=>by
  rw[qg7] at hx
  split at hx
  ·rename_i hne
   rcases List.mem_append.1 hx with hx | hx
   ·obtain⟨i,h1,h2,h3⟩:=q1r left p j a k x hx
    exact⟨i,by omega,h2,h3⟩
   ·exact⟨k,by omega,hne,by simpa using hx⟩
  ·obtain⟨i,h1,h2,h3⟩:=q1r left p j a k x hx
   exact⟨i,by omega,h2,h3⟩
theorem q1s (left:List (List Int)) (p:List Int) (j:Nat) (a:Int):∀k,(qg7 left p j a k).length<=k
 | 0=>Nat.le_refl _
 | k+1=>by
  have:=q1s left p j a k
  rw[qg7]
  split
  ·simp; omega
  ·omega
structure RdSh (n W j:Nat) (s:RS):Prop where
 ln:s.left.length<=n
 le:∀x∈s.left,x.length=W
 dn:s.done_.length<=j
 de:∀x∈s.done_,x.length=W
 pn:s.piv.length<=j
theorem qo5 (m:List (List Int)) (i:Nat) (h:i<m.length):nL m i∈m:=by rw[qm7 m i h]; exact List.getElem_mem h
theorem wy3 {n W j:Nat} {s:RS} (h:RdSh n W j s) (a:Int) (ha:0<=a) (hb:a<s.left.length):(qv0 s.left j a).length=W:=by
 unfold qv0
 have:=h.le _ (qo5 s.left a.toNat (by omega))
 split
 ·rw[qt8]; exact this
 ·exact this
theorem RdSh.step {n W j:Nat} {s:RS} (h:RdSh n W j s):RdSh n W (j+1) (q61 s j):=by
 unfold q61
 have hl:=q02 s.left j s.left.length
 generalize lastTo s.left j s.left.length=a at *
 split
 ·exact⟨h.ln,h.le,by have:=h.dn; omega,h.de,by have:=h.pn; omega⟩
 ·have hp:=wy3 h a (by omega) hl.1
  refine⟨Nat.le_trans (q1s _ _ _ _ _) h.ln,λx hx=>?_,by have:=h.dn; simp; omega,λx hx=>?_,by have:=h.pn; simp; omega⟩
  ·obtain⟨i,h1,_,rfl⟩:=q1r _ _ _ _ _ x hx
   rw[qv6]; exact h.le _ (qo5 _ _ h1)
  ·rcases List.mem_append.1 hx with hx | hx
   ·obtain⟨y,hy,rfl⟩:=List.mem_map.1 hx
    rw[qv6]; exact h.de y hy
   ·rw[List.mem_singleton.1 hx]; exact hp
theorem wp4 {rows:List (List Int)} (h:w85 rows):∀j,RdSh rows.length (rdW rows) j (qg6 rows j)
 | 0=>by
  refine⟨by simp[qg6],λx hx=>?_,Nat.le_refl _,(λx hx=>by cases hx),Nat.le_refl _⟩
  obtain⟨y,hy,rfl⟩:=List.mem_map.1 hx
  obtain⟨i,hi,rfl⟩:=List.getElem_of_mem hy
  rw[qn6,<- qm7 rows i hi]; exact h.each i hi
 | j+1=>(wp4 h j).step
theorem wk2 {rows:List (List Int)} {j:Nat} {s:RS} (h:qg6 rows j=s) (h0:s.left=[]):∀k,qg6 rows (j+k)=s
 | 0=>h
 | k+1=>by
  rw[<- Nat.add_assoc,qg6,wk2 h h0 k,q61,if_pos]
  rw[h0]; exact(by decide:(-1:Int)<0)
abbrev sRd:qc9:=qh6 false none [qk0] [qk0,qf6] (λx=>w85 x.1) (λx=>((qa1 x.1).1,(qa1 x.1).2,()))
structure xl7 (rows:List (List Int)) (j:Nat) (s:RS):Prop where
 le:j<=rdW rows
 eq:qg6 rows j=s
structure xh4 (d:List (List Int)) (p:List Int) (j i:Nat) (r:List (List Int)):Prop where
 le:i<=d.length
 eq:r=ovr (.list (.int .i64)) (λq=>qe4 (nL d q) p j) d i
def x4h (rows:List (List Int)):Nat->Option Inv
 | 0=>some (Inv.of [4,21] 1 (λk:Nat=>[(4,.own 0),(21,.lit (.int .i64 k))]) (λk=>[.vec 24 (.list (.int .i64)) ((rows.map qj7).take k)]) (λk=>k<=rows.length) (λk=>rows.length-k))
 | 1=>some (Inv.of [4,5,8,9] 3 (λs:Nat × RS=>[(4,.dat (.list (.int .i64)) s.2.left),(5,.own 1),(8,.own 2),(9,.lit (.int .i64 s.1))]) (λs=>[.dead,.vec 24 (.list (.int .i64)) s.2.done_,.vec 3 (.int .i64) s.2.piv]) (λs=>xl7 rows s.1 s.2) (λs=>rdW rows-s.1))
 | 2=>some (Eng.Inv.mk (Nat × RS) Nat [5,8,10,46] 3 (λq k=>[(5,.own 1),(8,.own 2),(10,.lit (.int .i64 (lastTo q.2.left q.1 k))),(46,.lit (.int .i64 k))]) (λq k=>[.dead,.vec 24 (.list (.int .i64)) q.2.done_,.vec 3 (.int .i64) q.2.piv]) (λq k=>k<=q.2.left.length) (λq k=>q.2.left.length-k))
 | 3=>some (Eng.Inv.mk (Nat × RS × List Int × Int) Nat [5,8,14,73] 4 (λq k=>[(5,.own 1),(8,.own 2),(14,.own 3),(73,.lit (.int .i64 k))]) (λq k=>[.dead,.vec 24 (.list (.int .i64)) q.2.1.done_,.vec 3 (.int .i64) q.2.1.piv,.vec 24 (.list (.int .i64)) (qg7 q.2.1.left q.2.2.1 q.1 q.2.2.2 k)]) (λq k=>k<=q.2.1.left.length) (λq k=>q.2.1.left.length-k))
 | 4=>some (Eng.Inv.mk (Nat × RS × List Int × Int) (Nat × List (List Int)) [5,8,14,89,91] 4 (λq s=>[(5,.own 1),(8,.own 2),(14,.own 3),(89,.own 1),(91,.lit (.int .i64 s.1))]) (λq s=>[.dead,.vec 24 (.list (.int .i64)) s.2,.vec 3 (.int .i64) q.2.1.piv,.vec 24 (.list (.int .i64)) (qg7 q.2.1.left q.2.2.1 q.1 q.2.2.2 q.2.1.left.length)]) (λq s=>xh4 q.2.1.done_ q.2.2.1 q.1 s.1 s.2) (λq s=>q.2.1.done_.length-s.1))
 | _=>none
theorem w86:qe1 Try.prog 145 sRd:=by
 refine meets (snd (SpecsOk.cons q2k (SpecsOk.cons wk1 (SpecsOk.cons w84 (SpecsOk.nil _))))) Try.func145 rfl rfl (λx=>x4h x.1) (λ_=>by kernel_rfl) (by decide) ?_
 rintro⟨rows,⟨⟩⟩ h
 revert rows
 intro(rows:List (List Int)) (h:w85 rows)
 refine qe6 (B:=∃(v0:Unit),∃(v1:Nat),Nat.le v1 (List.length rows)/\((True/\(0:Int)=(↑v1:Int)/\True)/\List.take v1 (List.map qj7 rows)=[]/\True)/\∀(v2:Nat),Nat.le v2 (List.length rows)->(decide ((↑v2:Int)<(↑(List.length rows):Int))=true->((0:Int)<=(↑v2:Int)/\(↑v2:Int)<(↑(List.length rows):Int))/\q3x (qa3 (Ty.list (Ty.int .i64)) rows (Int.toNat (↑v2:Int)))/\((0:Nat)<(0:Nat)+(1:Nat)/\Nat.le (List.length (List.take v2 (List.map qj7 rows))+((0:Nat)+(1:Nat))) (1000000:Nat))/\fits .i64 ((↑v2:Int)+(1:Int))/\∃(v5:Nat),Nat.le v5 (List.length rows)/\List.length rows-v5<List.length rows-v2/\(True/\(↑v2:Int)+(1:Int)=(↑v5:Int)/\True)/\List.take v2 (List.map qj7 rows)++[qj7 (qa3 (Ty.list (Ty.int .i64)) rows (Int.toNat (↑v2:Int)))]=List.take v5 (List.map qj7 rows)/\True)/\(decide ((↑v2:Int)<(↑(List.length rows):Int))=false->∃(v5:Unit),∃(v6:Nat × RS),xl7 rows (Prod.fst v6) (Prod.snd v6)/\((List.take v2 (List.map qj7 rows)=RS.left (Prod.snd v6)/\True/\True/\(0:Int)=(↑(Prod.fst v6):Int)/\True)/\True/\RS.done_ (Prod.snd v6)=[]/\RS.piv (Prod.snd v6)=[]/\True)/\∀(v7:Nat × RS),xl7 rows (Prod.fst v7) (Prod.snd v7)->(decide ((0:Int)<(↑(List.length (RS.left (Prod.snd v7))):Int))=true->((0:Int)<=(0:Int)/\(0:Int)<(↑(List.length (RS.left (Prod.snd v7))):Int))/\(decide ((↑(Prod.fst v7):Int)<(↑(List.length (qa3 (Ty.list (Ty.int .i64)) (RS.left (Prod.snd v7)) (0:Nat))):Int))=true->∃(v11:Nat × RS),∃(v12:Nat),Nat.le v12 (List.length (RS.left (Prod.snd v11)))/\((True/\True/\(-1:Int)=lastTo (RS.left (Prod.snd v11)) (Prod.fst v11) v12/\(0:Int)=(↑v12:Int)/\True)/\True/\RS.done_ (Prod.snd v7)=RS.done_ (Prod.snd v11)/\RS.piv (Prod.snd v7)=RS.piv (Prod.snd v11)/\True)/\∀(v13:Nat),Nat.le v13 (List.length (RS.left (Prod.snd v11)))->(decide ((↑v13:Int)<(↑(List.length (RS.left (Prod.snd v7))):Int))=true->((0:Int)<=(↑v13:Int)/\(↑v13:Int)<(↑(List.length (RS.left (Prod.snd v7))):Int))/\((0:Int)<=(↑(Prod.fst v7):Int)/\(↑(Prod.fst v7):Int)<(↑(List.length (qa3 (Ty.list (Ty.int .i64)) (RS.left (Prod.snd v7)) (Int.toNat (↑v13:Int)))):Int))/\((qa3 (Ty.int .i64) (qa3 (Ty.list (Ty.int .i64)) (RS.left (Prod.snd v7)) (Int.toNat (↑v13:Int))) (Int.toNat (↑(Prod.fst v7):Int)) != (0:Int))=true->fits .i64 ((↑v13:Int)+(1:Int))/\∃(v17:Nat),Nat.le v17 (List.length (RS.left (Prod.snd v11)))/\List.length (RS.left (Prod.snd v11))-v17<List.length (RS.left (Prod.snd v11))-v13/\(True/\True/\(↑v13:Int)=lastTo (RS.left (Prod.snd v11)) (Prod.fst v11) v17/\(↑v13:Int)+(1:Int)=(↑v17:Int)/\True)/\True/\RS.done_ (Prod.snd v11)=RS.done_ (Prod.snd v11)/\RS.piv (Prod.snd v11)=RS.piv (Prod.snd v11)/\True)/\((qa3 (Ty.int .i64) (qa3 (Ty.list (Ty.int .i64)) (RS.left (Prod.snd v7)) (Int.toNat (↑v13:Int))) (Int.toNat (↑(Prod.fst v7):Int)) != (0:Int))=false->fits .i64 ((↑v13:Int)+(1:Int))/\∃(v17:Nat),Nat.le v17 (List.length (RS.left (Prod.snd v11)))/\List.length (RS.left (Prod.snd v11))-v17<List.length (RS.left (Prod.snd v11))-v13/\(True/\True/\lastTo (RS.left (Prod.snd v11)) (Prod.fst v11) v13=lastTo (RS.left (Prod.snd v11)) (Prod.fst v11) v17/\(↑v13:Int)+(1:Int)=(↑v17:Int)/\True)/\True/\RS.done_ (Prod.snd v11)=RS.done_ (Prod.snd v11)/\RS.piv (Prod.snd v11)=RS.piv (Prod.snd v11)/\True))/\(decide ((↑v13:Int)<(↑(List.length (RS.left (Prod.snd v7))):Int))=false->(decide (lastTo (RS.left (Prod.snd v11)) (Prod.fst v11) v13<(0:Int))=true->fits .i64 ((↑(Prod.fst v7):Int)+(1:Int))/\∃(v17:Nat × RS),xl7 rows (Prod.fst v17) (Prod.snd v17)/\rdW rows-Prod.fst v17<rdW rows-Prod.fst v7/\(RS.left (Prod.snd v7)=RS.left (Prod.snd v17)/\True/\True/\(↑(Prod.fst v7):Int)+(1:Int)=(↑(Prod.fst v17):Int)/\True)/\True/\RS.done_ (Prod.snd v11)=RS.done_ (Prod.snd v17)/\RS.piv (Prod.snd v11)=RS.piv (Prod.snd v17)/\True)/\(decide (lastTo (RS.left (Prod.snd v11)) (Prod.fst v11) v13<(0:Int))=false->((0:Int)<=lastTo (RS.left (Prod.snd v11)) (Prod.fst v11) v13/\lastTo (RS.left (Prod.snd v11)) (Prod.fst v11) v13<(↑(List.length (RS.left (Prod.snd v7))):Int))/\((0:Int)<=(↑(Prod.fst v7):Int)/\(↑(Prod.fst v7):Int)<(↑(List.length (qa3 (Ty.list (Ty.int .i64)) (RS.left (Prod.snd v7)) (Int.toNat (lastTo (RS.left (Prod.snd v11)) (Prod.fst v11) v13)))):Int))/\(decide (qa3 (Ty.int .i64) (qa3 (Ty.list (Ty.int .i64)) (RS.left (Prod.snd v7)) (Int.toNat (lastTo (RS.left (Prod.snd v11)) (Prod.fst v11) v13))) (Int.toNat (↑(Prod.fst v7):Int))<(0:Int))=true->w5t (qa3 (Ty.list (Ty.int .i64)) (RS.left (Prod.snd v7)) (Int.toNat (lastTo (RS.left (Prod.snd v11)) (Prod.fst v11) v13))) (-1:Int)/\∃(v18:Nat × RS × List Int × Int),∃(v19:Nat),Nat.le v19 (List.length (RS.left (Prod.fst (Prod.snd v18))))/\((True/\True/\True/\(0:Int)=(↑v19:Int)/\True)/\True/\RS.done_ (Prod.snd v11)=RS.done_ (Prod.fst (Prod.snd v18))/\RS.piv (Prod.snd v11)=RS.piv (Prod.fst (Prod.snd v18))/\qg7 (RS.left (Prod.fst (Prod.snd v18))) (Prod.fst (Prod.snd (Prod.snd v18))) (Prod.fst v18) (Prod.snd (Prod.snd (Prod.snd v18))) v19=[]/\True)/\∀(v20:Nat),Nat.le v20 (List.length (RS.left (Prod.fst (Prod.snd v18))))->(decide ((↑v20:Int)<(↑(List.length (RS.left (Prod.snd v7))):Int))=true->((0:Int)<=(↑v20:Int)/\(↑v20:Int)<(↑(List.length (RS.left (Prod.snd v7))):Int))/\(((↑v20:Int) != lastTo (RS.left (Prod.snd v11)) (Prod.fst v11) v13)=true->((0:Ty.den qg1)<=(↑(Prod.fst v7):Int)/\w83 (qa3 (Ty.list (Ty.int .i64)) (RS.left (Prod.snd v7)) (Int.toNat (↑v20:Int))) (qi9 (qa3 (Ty.list (Ty.int .i64)) (RS.left (Prod.snd v7)) (Int.toNat (lastTo (RS.left (Prod.snd v11)) (Prod.fst v11) v13))) (-1:Int)) (Int.toNat (↑(Prod.fst v7):Int)))/\((0:Nat)<List.length [qe4 (qa3 (Ty.list (Ty.int .i64)) (RS.left (Prod.snd v7)) (Int.toNat (↑v20:Int))) (qi9 (qa3 (Ty.list (Ty.int .i64)) (RS.left (Prod.snd v7)) (Int.toNat (lastTo (RS.left (Prod.snd v11)) (Prod.fst v11) v13))) (-1:Int)) (Int.toNat (↑(Prod.fst v7):Int))]/\Nat.le (List.length (qg7 (RS.left (Prod.fst (Prod.snd v18))) (Prod.fst (Prod.snd (Prod.snd v18))) (Prod.fst v18) (Prod.snd (Prod.snd (Prod.snd v18))) v20)+List.length [qe4 (qa3 (Ty.list (Ty.int .i64)) (RS.left (Prod.snd v7)) (Int.toNat (↑v20:Int))) (qi9 (qa3 (Ty.list (Ty.int .i64)) (RS.left (Prod.snd v7)) (Int.toNat (lastTo (RS.left (Prod.snd v11)) (Prod.fst v11) v13))) (-1:Int)) (Int.toNat (↑(Prod.fst v7):Int))]) (1000000:Nat))/\fits .i64 ((↑v20:Int)+(1:Int))/\∃(v24:Nat),Nat.le v24 (List.length (RS.left (Prod.fst (Prod.snd v18))))/\List.length (RS.left (Prod.fst (Prod.snd v18)))-v24<List.length (RS.left (Prod.fst (Prod.snd v18)))-v20/\(True/\True/\True/\(↑v20:Int)+(1:Int)=(↑v24:Int)/\True)/\True/\RS.done_ (Prod.fst (Prod.snd v18))=RS.done_ (Prod.fst (Prod.snd v18))/\RS.piv (Prod.fst (Prod.snd v18))=RS.piv (Prod.fst (Prod.snd v18))/\qg7 (RS.left (Prod.fst (Prod.snd v18))) (Prod.fst (Prod.snd (Prod.snd v18))) (Prod.fst v18) (Prod.snd (Prod.snd (Prod.snd v18))) v20++[qe4 (qa3 (Ty.list (Ty.int .i64)) (RS.left (Prod.snd v7)) (Int.toNat (↑v20:Int))) (qi9 (qa3 (Ty.list (Ty.int .i64)) (RS.left (Prod.snd v7)) (Int.toNat (lastTo (RS.left (Prod.snd v11)) (Prod.fst v11) v13))) (-1:Int)) (Int.toNat (↑(Prod.fst v7):Int))]=qg7 (RS.left (Prod.fst (Prod.snd v18))) (Prod.fst (Prod.snd (Prod.snd v18))) (Prod.fst v18) (Prod.snd (Prod.snd (Prod.snd v18))) v24/\True)/\(((↑v20:Int) != lastTo (RS.left (Prod.snd v11)) (Prod.fst v11) v13)=false->fits .i64 ((↑v20:Int)+(1:Int))/\∃(v24:Nat),Nat.le v24 (List.length (RS.left (Prod.fst (Prod.snd v18))))/\List.length (RS.left (Prod.fst (Prod.snd v18)))-v24<List.length (RS.left (Prod.fst (Prod.snd v18)))-v20/\(True/\True/\True/\(↑v20:Int)+(1:Int)=(↑v24:Int)/\True)/\True/\RS.done_ (Prod.fst (Prod.snd v18))=RS.done_ (Prod.fst (Prod.snd v18))/\RS.piv (Prod.fst (Prod.snd v18))=RS.piv (Prod.fst (Prod.snd v18))/\qg7 (RS.left (Prod.fst (Prod.snd v18))) (Prod.fst (Prod.snd (Prod.snd v18))) (Prod.fst v18) (Prod.snd (Prod.snd (Prod.snd v18))) v20=qg7 (RS.left (Prod.fst (Prod.snd v18))) (Prod.fst (Prod.snd (Prod.snd v18))) (Prod.fst v18) (Prod.snd (Prod.snd (Prod.snd v18))) v24/\True))/\(decide ((↑v20:Int)<(↑(List.length (RS.left (Prod.snd v7))):Int))=false->∃(v23:Nat × RS × List Int × Int),∃(v24:Nat × List (List Int)),xh4 (RS.done_ (Prod.fst (Prod.snd v23))) (Prod.fst (Prod.snd (Prod.snd v23))) (Prod.fst v23) (Prod.fst v24) (Prod.snd v24)/\((True/\True/\True/\True/\(0:Int)=(↑(Prod.fst v24):Int)/\True)/\True/\RS.done_ (Prod.fst (Prod.snd v18))=Prod.snd v24/\RS.piv (Prod.fst (Prod.snd v18))=RS.piv (Prod.fst (Prod.snd v23))/\qg7 (RS.left (Prod.fst (Prod.snd v18))) (Prod.fst (Prod.snd (Prod.snd v18))) (Prod.fst v18) (Prod.snd (Prod.snd (Prod.snd v18))) v20=qg7 (RS.left (Prod.fst (Prod.snd v23))) (Prod.fst (Prod.snd (Prod.snd v23))) (Prod.fst v23) (Prod.snd (Prod.snd (Prod.snd v23))) (List.length (RS.left (Prod.fst (Prod.snd v23))))/\True)/\∀(v25:Nat × List (List Int)),xh4 (RS.done_ (Prod.fst (Prod.snd v23))) (Prod.fst (Prod.snd (Prod.snd v23))) (Prod.fst v23) (Prod.fst v25) (Prod.snd v25)->(decide ((↑(Prod.fst v25):Int)<(↑(List.length (RS.done_ (Prod.fst (Prod.snd v18)))):Int))=true->((0:Int)<=(↑(Prod.fst v25):Int)/\(↑(Prod.fst v25):Int)<(↑(List.length (Prod.snd v25)):Int))/\Int.toNat (↑(Prod.fst v25):Int)<List.length (Prod.snd v25)/\((0:Ty.den qg1)<=(↑(Prod.fst v7):Int)/\w83 (qa3 (Ty.list (Ty.int .i64)) (Prod.snd v25) (Int.toNat (↑(Prod.fst v25):Int))) (qi9 (qa3 (Ty.list (Ty.int .i64)) (RS.left (Prod.snd v7)) (Int.toNat (lastTo (RS.left (Prod.snd v11)) (Prod.fst v11) v13))) (-1:Int)) (Int.toNat (↑(Prod.fst v7):Int)))/\((0:Int)<=(↑(Prod.fst v25):Int)/\(↑(Prod.fst v25):Int)<(↑(List.length (Prod.snd v25)):Int))/\Int.toNat (↑(Prod.fst v25):Int)<List.length (Prod.snd v25)/\fits .i64 ((↑(Prod.fst v25):Int)+(1:Int))/\∃(v28:Nat × List (List Int)),xh4 (RS.done_ (Prod.fst (Prod.snd v23))) (Prod.fst (Prod.snd (Prod.snd v23))) (Prod.fst v23) (Prod.fst v28) (Prod.snd v28)/\List.length (RS.done_ (Prod.fst (Prod.snd v23)))-Prod.fst v28<List.length (RS.done_ (Prod.fst (Prod.snd v23)))-Prod.fst v25/\(True/\True/\True/\True/\(↑(Prod.fst v25):Int)+(1:Int)=(↑(Prod.fst v28):Int)/\True)/\True/\List.set (Prod.snd v25) (Int.toNat (↑(Prod.fst v25):Int)) (qe4 (qa3 (Ty.list (Ty.int .i64)) (Prod.snd v25) (Int.toNat (↑(Prod.fst v25):Int))) (qi9 (qa3 (Ty.list (Ty.int .i64)) (RS.left (Prod.snd v7)) (Int.toNat (lastTo (RS.left (Prod.snd v11)) (Prod.fst v11) v13))) (-1:Int)) (Int.toNat (↑(Prod.fst v7):Int)))=Prod.snd v28/\RS.piv (Prod.fst (Prod.snd v23))=RS.piv (Prod.fst (Prod.snd v23))/\qg7 (RS.left (Prod.fst (Prod.snd v23))) (Prod.fst (Prod.snd (Prod.snd v23))) (Prod.fst v23) (Prod.snd (Prod.snd (Prod.snd v23))) (List.length (RS.left (Prod.fst (Prod.snd v23))))=qg7 (RS.left (Prod.fst (Prod.snd v23))) (Prod.fst (Prod.snd (Prod.snd v23))) (Prod.fst v23) (Prod.snd (Prod.snd (Prod.snd v23))) (List.length (RS.left (Prod.fst (Prod.snd v23))))/\True)/\(decide ((↑(Prod.fst v25):Int)<(↑(List.length (RS.done_ (Prod.fst (Prod.snd v18)))):Int))=false->((0:Nat)<List.length [qi9 (qa3 (Ty.list (Ty.int .i64)) (RS.left (Prod.snd v7)) (Int.toNat (lastTo (RS.left (Prod.snd v11)) (Prod.fst v11) v13))) (-1:Int)]/\Nat.le (List.length (Prod.snd v25)+List.length [qi9 (qa3 (Ty.list (Ty.int .i64)) (RS.left (Prod.snd v7)) (Int.toNat (lastTo (RS.left (Prod.snd v11)) (Prod.fst v11) v13))) (-1:Int)]) (1000000:Nat))/\((0:Nat)<List.length [(↑(Prod.fst v7):Int)]/\Nat.le (List.length (RS.piv (Prod.fst (Prod.snd v23)))+List.length [(↑(Prod.fst v7):Int)]) (1000000:Nat))/\fits .i64 ((↑(Prod.fst v7):Int)+(1:Int))/\∃(v28:Nat × RS),xl7 rows (Prod.fst v28) (Prod.snd v28)/\rdW rows-Prod.fst v28<rdW rows-Prod.fst v7/\(qg7 (RS.left (Prod.fst (Prod.snd v23))) (Prod.fst (Prod.snd (Prod.snd v23))) (Prod.fst v23) (Prod.snd (Prod.snd (Prod.snd v23))) (List.length (RS.left (Prod.fst (Prod.snd v23))))=RS.left (Prod.snd v28)/\True/\True/\(↑(Prod.fst v7):Int)+(1:Int)=(↑(Prod.fst v28):Int)/\True)/\True/\Prod.snd v25++[qi9 (qa3 (Ty.list (Ty.int .i64)) (RS.left (Prod.snd v7)) (Int.toNat (lastTo (RS.left (Prod.snd v11)) (Prod.fst v11) v13))) (-1:Int)]=RS.done_ (Prod.snd v28)/\RS.piv (Prod.fst (Prod.snd v23))++[(↑(Prod.fst v7):Int)]=RS.piv (Prod.snd v28)/\True)))/\(decide (qa3 (Ty.int .i64) (qa3 (Ty.list (Ty.int .i64)) (RS.left (Prod.snd v7)) (Int.toNat (lastTo (RS.left (Prod.snd v11)) (Prod.fst v11) v13))) (Int.toNat (↑(Prod.fst v7):Int))<(0:Int))=false->∃(v18:Nat × RS × List Int × Int),∃(v19:Nat),Nat.le v19 (List.length (RS.left (Prod.fst (Prod.snd v18))))/\((True/\True/\True/\(0:Int)=(↑v19:Int)/\True)/\True/\RS.done_ (Prod.snd v11)=RS.done_ (Prod.fst (Prod.snd v18))/\RS.piv (Prod.snd v11)=RS.piv (Prod.fst (Prod.snd v18))/\qg7 (RS.left (Prod.fst (Prod.snd v18))) (Prod.fst (Prod.snd (Prod.snd v18))) (Prod.fst v18) (Prod.snd (Prod.snd (Prod.snd v18))) v19=[]/\True)/\∀(v20:Nat),Nat.le v20 (List.length (RS.left (Prod.fst (Prod.snd v18))))->(decide ((↑v20:Int)<(↑(List.length (RS.left (Prod.snd v7))):Int))=true->((0:Int)<=(↑v20:Int)/\(↑v20:Int)<(↑(List.length (RS.left (Prod.snd v7))):Int))/\(((↑v20:Int) != lastTo (RS.left (Prod.snd v11)) (Prod.fst v11) v13)=true->((0:Ty.den qg1)<=(↑(Prod.fst v7):Int)/\w83 (qa3 (Ty.list (Ty.int .i64)) (RS.left (Prod.snd v7)) (Int.toNat (↑v20:Int))) (qa3 (Ty.list (Ty.int .i64)) (RS.left (Prod.snd v7)) (Int.toNat (lastTo (RS.left (Prod.snd v11)) (Prod.fst v11) v13))) (Int.toNat (↑(Prod.fst v7):Int)))/\((0:Nat)<List.length [qe4 (qa3 (Ty.list (Ty.int .i64)) (RS.left (Prod.snd v7)) (Int.toNat (↑v20:Int))) (qa3 (Ty.list (Ty.int .i64)) (RS.left (Prod.snd v7)) (Int.toNat (lastTo (RS.left (Prod.snd v11)) (Prod.fst v11) v13))) (Int.toNat (↑(Prod.fst v7):Int))]/\Nat.le (List.length (qg7 (RS.left (Prod.fst (Prod.snd v18))) (Prod.fst (Prod.snd (Prod.snd v18))) (Prod.fst v18) (Prod.snd (Prod.snd (Prod.snd v18))) v20)+List.length [qe4 (qa3 (Ty.list (Ty.int .i64)) (RS.left (Prod.snd v7)) (Int.toNat (↑v20:Int))) (qa3 (Ty.list (Ty.int .i64)) (RS.left (Prod.snd v7)) (Int.toNat (lastTo (RS.left (Prod.snd v11)) (Prod.fst v11) v13))) (Int.toNat (↑(Prod.fst v7):Int))]) (1000000:Nat))/\fits .i64 ((↑v20:Int)+(1:Int))/\∃(v24:Nat),Nat.le v24 (List.length (RS.left (Prod.fst (Prod.snd v18))))/\List.length (RS.left (Prod.fst (Prod.snd v18)))-v24<List.length (RS.left (Prod.fst (Prod.snd v18)))-v20/\(True/\True/\True/\(↑v20:Int)+(1:Int)=(↑v24:Int)/\True)/\True/\RS.done_ (Prod.fst (Prod.snd v18))=RS.done_ (Prod.fst (Prod.snd v18))/\RS.piv (Prod.fst (Prod.snd v18))=RS.piv (Prod.fst (Prod.snd v18))/\qg7 (RS.left (Prod.fst (Prod.snd v18))) (Prod.fst (Prod.snd (Prod.snd v18))) (Prod.fst v18) (Prod.snd (Prod.snd (Prod.snd v18))) v20++[qe4 (qa3 (Ty.list (Ty.int .i64)) (RS.left (Prod.snd v7)) (Int.toNat (↑v20:Int))) (qa3 (Ty.list (Ty.int .i64)) (RS.left (Prod.snd v7)) (Int.toNat (lastTo (RS.left (Prod.snd v11)) (Prod.fst v11) v13))) (Int.toNat (↑(Prod.fst v7):Int))]=qg7 (RS.left (Prod.fst (Prod.snd v18))) (Prod.fst (Prod.snd (Prod.snd v18))) (Prod.fst v18) (Prod.snd (Prod.snd (Prod.snd v18))) v24/\True)/\(((↑v20:Int) != lastTo (RS.left (Prod.snd v11)) (Prod.fst v11) v13)=false->fits .i64 ((↑v20:Int)+(1:Int))/\∃(v24:Nat),Nat.le v24 (List.length (RS.left (Prod.fst (Prod.snd v18))))/\List.length (RS.left (Prod.fst (Prod.snd v18)))-v24<List.length (RS.left (Prod.fst (Prod.snd v18)))-v20/\(True/\True/\True/\(↑v20:Int)+(1:Int)=(↑v24:Int)/\True)/\True/\RS.done_ (Prod.fst (Prod.snd v18))=RS.done_ (Prod.fst (Prod.snd v18))/\RS.piv (Prod.fst (Prod.snd v18))=RS.piv (Prod.fst (Prod.snd v18))/\qg7 (RS.left (Prod.fst (Prod.snd v18))) (Prod.fst (Prod.snd (Prod.snd v18))) (Prod.fst v18) (Prod.snd (Prod.snd (Prod.snd v18))) v20=qg7 (RS.left (Prod.fst (Prod.snd v18))) (Prod.fst (Prod.snd (Prod.snd v18))) (Prod.fst v18) (Prod.snd (Prod.snd (Prod.snd v18))) v24/\True))/\(decide ((↑v20:Int)<(↑(List.length (RS.left (Prod.snd v7))):Int))=false->∃(v23:Nat × RS × List Int × Int),∃(v24:Nat × List (List Int)),xh4 (RS.done_ (Prod.fst (Prod.snd v23))) (Prod.fst (Prod.snd (Prod.snd v23))) (Prod.fst v23) (Prod.fst v24) (Prod.snd v24)/\((True/\True/\True/\True/\(0:Int)=(↑(Prod.fst v24):Int)/\True)/\True/\RS.done_ (Prod.fst (Prod.snd v18))=Prod.snd v24/\RS.piv (Prod.fst (Prod.snd v18))=RS.piv (Prod.fst (Prod.snd v23))/\qg7 (RS.left (Prod.fst (Prod.snd v18))) (Prod.fst (Prod.snd (Prod.snd v18))) (Prod.fst v18) (Prod.snd (Prod.snd (Prod.snd v18))) v20=qg7 (RS.left (Prod.fst (Prod.snd v23))) (Prod.fst (Prod.snd (Prod.snd v23))) (Prod.fst v23) (Prod.snd (Prod.snd (Prod.snd v23))) (List.length (RS.left (Prod.fst (Prod.snd v23))))/\True)/\∀(v25:Nat × List (List Int)),xh4 (RS.done_ (Prod.fst (Prod.snd v23))) (Prod.fst (Prod.snd (Prod.snd v23))) (Prod.fst v23) (Prod.fst v25) (Prod.snd v25)->(decide ((↑(Prod.fst v25):Int)<(↑(List.length (RS.done_ (Prod.fst (Prod.snd v18)))):Int))=true->((0:Int)<=(↑(Prod.fst v25):Int)/\(↑(Prod.fst v25):Int)<(↑(List.length (Prod.snd v25)):Int))/\Int.toNat (↑(Prod.fst v25):Int)<List.length (Prod.snd v25)/\((0:Ty.den qg1)<=(↑(Prod.fst v7):Int)/\w83 (qa3 (Ty.list (Ty.int .i64)) (Prod.snd v25) (Int.toNat (↑(Prod.fst v25):Int))) (qa3 (Ty.list (Ty.int .i64)) (RS.left (Prod.snd v7)) (Int.toNat (lastTo (RS.left (Prod.snd v11)) (Prod.fst v11) v13))) (Int.toNat (↑(Prod.fst v7):Int)))/\((0:Int)<=(↑(Prod.fst v25):Int)/\(↑(Prod.fst v25):Int)<(↑(List.length (Prod.snd v25)):Int))/\Int.toNat (↑(Prod.fst v25):Int)<List.length (Prod.snd v25)/\fits .i64 ((↑(Prod.fst v25):Int)+(1:Int))/\∃(v28:Nat × List (List Int)),xh4 (RS.done_ (Prod.fst (Prod.snd v23))) (Prod.fst (Prod.snd (Prod.snd v23))) (Prod.fst v23) (Prod.fst v28) (Prod.snd v28)/\List.length (RS.done_ (Prod.fst (Prod.snd v23)))-Prod.fst v28<List.length (RS.done_ (Prod.fst (Prod.snd v23)))-Prod.fst v25/\(True/\True/\True/\True/\(↑(Prod.fst v25):Int)+(1:Int)=(↑(Prod.fst v28):Int)/\True)/\True/\List.set (Prod.snd v25) (Int.toNat (↑(Prod.fst v25):Int)) (qe4 (qa3 (Ty.list (Ty.int .i64)) (Prod.snd v25) (Int.toNat (↑(Prod.fst v25):Int))) (qa3 (Ty.list (Ty.int .i64)) (RS.left (Prod.snd v7)) (Int.toNat (lastTo (RS.left (Prod.snd v11)) (Prod.fst v11) v13))) (Int.toNat (↑(Prod.fst v7):Int)))=Prod.snd v28/\RS.piv (Prod.fst (Prod.snd v23))=RS.piv (Prod.fst (Prod.snd v23))/\qg7 (RS.left (Prod.fst (Prod.snd v23))) (Prod.fst (Prod.snd (Prod.snd v23))) (Prod.fst v23) (Prod.snd (Prod.snd (Prod.snd v23))) (List.length (RS.left (Prod.fst (Prod.snd v23))))=qg7 (RS.left (Prod.fst (Prod.snd v23))) (Prod.fst (Prod.snd (Prod.snd v23))) (Prod.fst v23) (Prod.snd (Prod.snd (Prod.snd v23))) (List.length (RS.left (Prod.fst (Prod.snd v23))))/\True)/\(decide ((↑(Prod.fst v25):Int)<(↑(List.length (RS.done_ (Prod.fst (Prod.snd v18)))):Int))=false->((0:Nat)<List.length [qa3 (Ty.list (Ty.int .i64)) (RS.left (Prod.snd v7)) (Int.toNat (lastTo (RS.left (Prod.snd v11)) (Prod.fst v11) v13))]/\Nat.le (List.length (Prod.snd v25)+List.length [qa3 (Ty.list (Ty.int .i64)) (RS.left (Prod.snd v7)) (Int.toNat (lastTo (RS.left (Prod.snd v11)) (Prod.fst v11) v13))]) (1000000:Nat))/\((0:Nat)<List.length [(↑(Prod.fst v7):Int)]/\Nat.le (List.length (RS.piv (Prod.fst (Prod.snd v23)))+List.length [(↑(Prod.fst v7):Int)]) (1000000:Nat))/\fits .i64 ((↑(Prod.fst v7):Int)+(1:Int))/\∃(v28:Nat × RS),xl7 rows (Prod.fst v28) (Prod.snd v28)/\rdW rows-Prod.fst v28<rdW rows-Prod.fst v7/\(qg7 (RS.left (Prod.fst (Prod.snd v23))) (Prod.fst (Prod.snd (Prod.snd v23))) (Prod.fst v23) (Prod.snd (Prod.snd (Prod.snd v23))) (List.length (RS.left (Prod.fst (Prod.snd v23))))=RS.left (Prod.snd v28)/\True/\True/\(↑(Prod.fst v7):Int)+(1:Int)=(↑(Prod.fst v28):Int)/\True)/\True/\Prod.snd v25++[qa3 (Ty.list (Ty.int .i64)) (RS.left (Prod.snd v7)) (Int.toNat (lastTo (RS.left (Prod.snd v11)) (Prod.fst v11) v13))]=RS.done_ (Prod.snd v28)/\RS.piv (Prod.fst (Prod.snd v23))++[(↑(Prod.fst v7):Int)]=RS.piv (Prod.snd v28)/\True))))))/\(decide ((↑(Prod.fst v7):Int)<(↑(List.length (qa3 (Ty.list (Ty.int .i64)) (RS.left (Prod.snd v7)) (0:Nat))):Int))=false->RS.done_ (Prod.snd v7)=Prod.fst (qa1 rows)/\RS.piv (Prod.snd v7)=Prod.snd (qa1 rows)/\True))/\(decide ((0:Int)<(↑(List.length (RS.left (Prod.snd v7))):Int))=false->RS.done_ (Prod.snd v7)=Prod.fst (qa1 rows)/\RS.piv (Prod.snd v7)=Prod.snd (qa1 rows)/\True))) (by kernel_rfl) ?_
 try simp only[z0,z1,z2,z3,z4,z5,z6,z7,z8,z9,z10,Int.reduceEq,z11,z12,z13,z14,z15,z16,z17,z18,z19,z20,z21,z22,z23,z24,z25,z26,z27,z28,z29,z30,Int.reduceLE,Int.reduceLT,z31,z32,z33,z34,qa4]
 try simp only[qb8,qb9,qd2,List.set_cons_zero,List.cons.injEq,and_true,true_and]
 have hn:=h.n
 have hw:=h.w
 refine⟨(),0,Nat.zero_le _,⟨rfl,rfl⟩,λk hk=>⟨λhlt=>⟨hlt,h.big k hlt,by rw[List.length_take,List.length_map]; omega,qa8 (by omega) (by omega),k+1,by omega,by omega,by omega,?_⟩,λhge=>?_⟩⟩
 ·rw[takeL_snoc _ k (by simpa using hlt),qm7 (rows.map qj7) k (by simpa using hlt),qm7 rows k hlt]
  simp
 refine⟨(),(0,qg6 rows 0),⟨Nat.zero_le _,rfl⟩,⟨⟨by rw[List.take_of_length_le (by rw[List.length_map]; omega)]; rfl,rfl⟩,rfl,rfl⟩,?_⟩
 rintro⟨j,s⟩ ⟨hj,hs⟩
 dsimp only at hj hs ⊢
 have hsh:=wp4 h j
 rw[hs] at hsh
 have hln:=hsh.ln
 have hdn:=hsh.dn
 have hpn:=hsh.pn
 have hle:∀i,i<s.left.length->(nL s.left i).length=rdW rows:=λi hi=>hsh.le _ (qo5 _ _ hi)
 have hde:∀i,i<s.done_.length->(nL s.done_ i).length=rdW rows:=λi hi=>hsh.de _ (qo5 _ _ hi)
 refine⟨λhl0=>⟨hl0,λhjl=>?_,λhjl=>?_⟩,λhl0=>?_⟩
 ·have hjW:j<rdW rows:=by rw[hle 0 (by omega)] at hjl; exact hjl
  refine⟨(j,s),0,Nat.zero_le _,⟨⟨rfl,rfl⟩,rfl,rfl⟩,λk hk=>⟨λhlt=>⟨hlt,by rw[hle k hlt]; exact hjW,λhz=>⟨qa8 (by omega) (by omega),k+1,hlt,by dsimp only; omega,by rw[lastTo,if_pos hz],by omega⟩,λhz=>⟨qa8 (by omega) (by omega),k+1,hlt,by dsimp only; omega,by rw[lastTo,if_neg (λq=>q hz)],by omega⟩⟩,λhge=>?_⟩⟩
  dsimp only at hk hge ⊢
  obtain rfl:k=s.left.length:=by omega
  have hlast:=q02 s.left j s.left.length
  refine⟨λhneg=>⟨qa8 (by omega) (by omega),(j+1,s),⟨by dsimp only; omega,by dsimp only; rw[qg6,hs,q61,if_pos hneg]⟩,by dsimp only; omega,⟨rfl,by dsimp only; omega⟩,rfl,rfl⟩,λhpos=>?_⟩
  have hst:xh3 s j:=by have:=h.step j hjW; rw[hs] at this; exact this hpos
  have h1:=hst.sca
  have h2:=hst.wo
  have h3:=hst.woD
  clear hst
  have hnx:qg6 rows (j+1)=⟨qg7 s.left (qv0 s.left j (lastTo s.left j s.left.length)) j (lastTo s.left j s.left.length) s.left.length,(s.done_.map λr=>qe4 r (qv0 s.left j (lastTo s.left j s.left.length)) j)++[qv0 s.left j (lastTo s.left j s.left.length)],s.piv++[(j:Int)]⟩:=by rw[qg6,hs,q61,if_neg (by omega)]
  have hpl:=wy3 hsh (lastTo s.left j s.left.length) hpos hlast.1
  have hpe:qv0 s.left j (lastTo s.left j s.left.length)=if nI (nL s.left (lastTo s.left j s.left.length).toNat) j<0 then qi9 (nL s.left (lastTo s.left j s.left.length).toNat) (-1) else nL s.left (lastTo s.left j s.left.length).toNat:=rfl
  generalize lastTo s.left j s.left.length=a at *
  refine⟨⟨hpos,hlast.1⟩,by rw[hle _ (by omega)]; exact hjW,λhng=>⟨h1 hng,?_⟩,λhng=>?_⟩
  ·have hp:qi9 (nL s.left a.toNat) (-1)=qv0 s.left j a:=by rw[hpe,if_pos hng]
   rw[hp]
   refine⟨(j,s,qv0 s.left j a,a),0,Nat.zero_le _,⟨rfl,rfl,rfl,rfl⟩,λk hk=>⟨λhlt=>⟨hlt,λhne=>⟨h2 k hlt hne,by have:=q1s s.left (qv0 s.left j a) j a k; dsimp only; omega,qa8 (by omega) (by omega),k+1,hlt,by dsimp only; omega,by omega,by rw[qg7,if_pos hne]⟩,λhe=>⟨qa8 (by omega) (by omega),k+1,hlt,by dsimp only; omega,by omega,by rw[qg7,if_neg (λq=>q he)]⟩⟩,λhge=>?_⟩⟩
   dsimp only at hk hge ⊢
   obtain rfl:k=s.left.length:=by omega
   refine⟨(j,s,qv0 s.left j a,a),(0,s.done_),⟨Nat.zero_le _,(qz3 (.list (.int .i64)) _ _).symm⟩,⟨rfl,rfl,rfl,rfl⟩,?_⟩
   rintro⟨i,r⟩ ⟨hi1,hi2⟩
   dsimp only at hi1 hi2 ⊢
   have hrl:r.length=s.done_.length:=by rw[hi2]; exact qs5 (.list (.int .i64)) _ _ _
   refine⟨λhlt=>?_,λhge=>?_⟩
   ·have hri:nL r i=nL s.done_ i:=by rw[hi2]; exact(q4v (.list (.int .i64)) _ _ _ _ hlt).trans (if_neg (Nat.lt_irrefl _))
    rw[hri]
    exact⟨by omega,by omega,h3 i hlt,by omega,by omega,qa8 (by omega) (by omega),(i+1,r.set i (qe4 (nL s.done_ i) (qv0 s.left j a) j)),⟨by dsimp only; omega,by dsimp only; rw[hi2]; exact qv5 (.list (.int .i64)) (λq=>qe4 (nL s.done_ q) (qv0 s.left j a) j) _ _⟩,by dsimp only; omega,by dsimp only; omega,rfl⟩
   ·obtain rfl:i=s.done_.length:=by omega
    have hr:r=s.done_.map λr=>qe4 r (qv0 s.left j a) j:=by
     rw[hi2]
     refine(q2h (.list (.int .i64)) _ _ _ (Nat.le_refl _)).trans ?_
     apply List.ext_getElem (by simp)
     intro q k1 k2
     simp only[List.getElem_map,List.getElem_range]
     rw[qm7 _ q (by simpa using k1)]
    refine⟨by omega,by omega,qa8 (by omega) (by omega),(j+1,qg6 rows (j+1)),⟨by dsimp only; omega,rfl⟩,by dsimp only; omega,⟨by rw[hnx],by dsimp only; omega⟩,by rw[hnx,hr],by rw[hnx]⟩
  ·have hp:nL s.left a.toNat=qv0 s.left j a:=by rw[hpe,if_neg (by omega)]
   rw[hp]
   refine⟨(j,s,qv0 s.left j a,a),0,Nat.zero_le _,⟨rfl,rfl,rfl,rfl⟩,λk hk=>⟨λhlt=>⟨hlt,λhne=>⟨h2 k hlt hne,by have:=q1s s.left (qv0 s.left j a) j a k; dsimp only; omega,qa8 (by omega) (by omega),k+1,hlt,by dsimp only; omega,by omega,by rw[qg7,if_pos hne]⟩,λhe=>⟨qa8 (by omega) (by omega),k+1,hlt,by dsimp only; omega,by omega,by rw[qg7,if_neg (λq=>q he)]⟩⟩,λhge=>?_⟩⟩
   dsimp only at hk hge ⊢
   obtain rfl:k=s.left.length:=by omega
   refine⟨(j,s,qv0 s.left j a,a),(0,s.done_),⟨Nat.zero_le _,(qz3 (.list (.int .i64)) _ _).symm⟩,⟨rfl,rfl,rfl,rfl⟩,?_⟩
   rintro⟨i,r⟩ ⟨hi1,hi2⟩
   dsimp only at hi1 hi2 ⊢
   have hrl:r.length=s.done_.length:=by rw[hi2]; exact qs5 (.list (.int .i64)) _ _ _
   refine⟨λhlt=>?_,λhge=>?_⟩
   ·have hri:nL r i=nL s.done_ i:=by rw[hi2]; exact(q4v (.list (.int .i64)) _ _ _ _ hlt).trans (if_neg (Nat.lt_irrefl _))
    rw[hri]
    exact⟨by omega,by omega,h3 i hlt,by omega,by omega,qa8 (by omega) (by omega),(i+1,r.set i (qe4 (nL s.done_ i) (qv0 s.left j a) j)),⟨by dsimp only; omega,by dsimp only; rw[hi2]; exact qv5 (.list (.int .i64)) (λq=>qe4 (nL s.done_ q) (qv0 s.left j a) j) _ _⟩,by dsimp only; omega,by dsimp only; omega,rfl⟩
   ·obtain rfl:i=s.done_.length:=by omega
    have hr:r=s.done_.map λr=>qe4 r (qv0 s.left j a) j:=by
     rw[hi2]
     refine(q2h (.list (.int .i64)) _ _ _ (Nat.le_refl _)).trans ?_
     apply List.ext_getElem (by simp)
     intro q k1 k2
     simp only[List.getElem_map,List.getElem_range]
     rw[qm7 _ q (by simpa using k1)]
    refine⟨by omega,by omega,qa8 (by omega) (by omega),(j+1,qg6 rows (j+1)),⟨by dsimp only; omega,rfl⟩,by dsimp only; omega,⟨by rw[hnx],by dsimp only; omega⟩,by rw[hnx,hr],by rw[hnx]⟩
 ·have e:j=rdW rows:=by rw[hle 0 (by omega)] at hjl; omega
  subst e
  unfold qa1
  rw[hs]
  exact⟨rfl,rfl⟩
 ·have e:s.left=[]:=List.eq_nil_of_length_eq_zero (by omega)
  have:=wk2 hs e (rdW rows-j)
  rw[show j+(rdW rows-j)=rdW rows by omega] at this
  unfold qa1
  rw[this]
  exact⟨rfl,rfl⟩
end Go.Proofs.Ytdibdlelmkcccaa
