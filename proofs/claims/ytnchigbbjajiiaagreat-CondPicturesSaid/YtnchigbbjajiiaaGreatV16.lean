/- The reference's reduced rows: contracts by the engine. No condition. -/
import Derived.Test.YtnchigbbjajiiaaGreatV15
set_option linter.unusedVariables false
set_option linter.unusedSimpArgs false
namespace Go.Proofs.YtnchigbbjajiiaaGreat
open Go Go.RowKit Eng
def qg9 (m:List (List Int)) (pix:List Int):List (List Int):=(List.range m.length).map λi=>qm0 (nL m i) pix
theorem qq8 (m:List (List Int)) (pix:List Int):(qg9 m pix).length=m.length:=by simp[qg9]
theorem qk5 (m:List (List Int)) (pix:List Int) (i:Nat) (hi:i<m.length):nL (qg9 m pix) i=qm0 (nL m i) pix:=by
 grind [qm3,qq8,qg9]
structure wv7 (m:List (List Int)) (pix:List Int):Prop where
 rows:m.length<=10000
 cols:pix.length<=10000
 at_:∀i,i<m.length->∀j,j<pix.length->0<=nI pix j/\nI pix j<(nL m i).length
def x8t (m:List (List Int)) (pix:List Int):Nat->Option Inv
 | 0=>some (Inv.of [5,13] 1 (λk:Nat=>[(5,.msl 0 .none),(13,.lit (.int .i64 k))]) (λk=>[.mat 24 3 (.int .i64) ((qg9 m pix).take k) .none .none]) (λk=>k<=m.length) (λk=>m.length-k))
 | 1=>some (Eng.Inv.mk Nat Nat [5,8,20] 2 (λ_ j=>[(5,.msl 0 .none),(8,.own 1),(20,.lit (.int .i64 j))]) (λk j=>[.mat 24 3 (.int .i64) ((qg9 m pix).take k) .none .none,.vec 3 (.int .i64) ((qm0 (nL m k) pix).take j)]) (λ_ j=>j<=pix.length) (λ_ j=>pix.length-j))
 | _=>none
abbrev yl4:qb3:=qe8 true none [tMask,tInts] [tMask] (λx=>wv7 x.1 x.2.1) (λx=>(qg9 x.1 x.2.1,()))
theorem w68:Meets Tryz.prog 200 yl4:=by
 refine meets (yt6 [34] (SpecsOk.nil _)) Tryz.func200 rfl rfl (λx=>x8t x.1 x.2.1) (λ_=>by kernel_rfl) dc ?_
 rintro⟨m,pix,⟨⟩⟩ h
 revert m pix
 intro(m:List (List Int)) (pix:List Int) (h:wv7 m pix)
 refine vcs (let Q0:=qg9 m pix; ∃(v0:Unit),∃(v1:Nat),Nat.le v1 m.length/\((True/\(0:Int)=(↑v1:Int)/\True)/\List.take v1 Q0=[]/\True)/\∀(v2:Nat),Nat.le v2 m.length->(decide ((↑v2:Int)<(↑m.length:Int))=true->((0:Int)<=(↑v2:Int)/\(↑v2:Int)<(↑m.length:Int))/\∃(v5:Nat),∃(v6:Nat),Nat.le v6 pix.length/\((True/\True/\(0:Int)=(↑v6:Int)/\True)/\(List.take v2 Q0=List.take v5 Q0/\True/\True)/\[]=List.take v6 (qm0 (nL m v5) pix)/\True)/\∀(v7:Nat),Nat.le v7 pix.length->(decide ((↑v7:Int)<(↑pix.length:Int))=true->((0:Int)<=(↑v7:Int)/\(↑v7:Int)<(↑pix.length:Int))/\((0:Int)<=nI pix v7/\nI pix v7<(↑(nL m v2).length:Int))/\((0:Nat)<List.length [nI (nL m v2) (nI pix v7).toNat]/\Nat.le ((List.take v7 (qm0 (nL m v5) pix)).length+List.length [nI (nL m v2) (nI pix v7).toNat]) (1000000:Nat))/\fits .i64 ((↑v7:Int)+(1:Int))/\∃(v10:Nat),Nat.le v10 pix.length/\pix.length-v10<pix.length-v7/\(True/\True/\(↑v7:Int)+(1:Int)=(↑v10:Int)/\True)/\(List.take v5 Q0=List.take v5 Q0/\True/\True)/\List.take v7 (qm0 (nL m v5) pix)++[nI (nL m v2) (nI pix v7).toNat]=List.take v10 (qm0 (nL m v5) pix)/\True)/\(decide ((↑v7:Int)<(↑pix.length:Int))=false->((0:Nat)<(0:Nat)+(1:Nat)/\(List.take v5 Q0).length+((0:Nat)+(1:Nat))<=(1000000:Nat))/\fits .i64 ((↑v2:Int)+(1:Int))/\∃(v10:Nat),Nat.le v10 m.length/\m.length-v10<m.length-v2/\(True/\(↑v2:Int)+(1:Int)=(↑v10:Int)/\True)/\(List.take v5 Q0++[List.take v7 (qm0 (nL m v5) pix)]=List.take v10 Q0/\True/\True)/\True))/\(decide ((↑v2:Int)<(↑m.length:Int))=false->q4x (Ty.int .i64) (List.take v2 Q0) none=qg9 m pix)) ?_
 have hr:=h.rows
 have hc:=h.cols
 have hl:=qq8 m pix
 refine⟨(),0,zae _,⟨rfl,rfl⟩,λk hk=>⟨λhlt=>⟨hlt,k,0,zae _,⟨rfl,rfl,rfl⟩,λj hj=>⟨λhj2=>?_,λhj2=>?_⟩⟩,λhge=>?_⟩⟩
 ·have h1:=qi0 (nL m k) pix
  refine⟨hj2,h.at_ k hlt j hj2,by grind,qa3,j+1,ow,ow,ow,?_⟩
  grind [q1o,qq6]
 ·obtain rfl:j=pix.length:=ow
  have h1:=qi0 (nL m k) pix
  have h3:(qm0 (nL m k) pix).take pix.length=qm0 (nL m k) pix:=zbc ow
  rw[h3]
  refine⟨by grind,qa3,k+1,ow,ow,ow,?_⟩
  grind [takeL_snoc,qk5]
 ·first | (rw[zbc ow]; rfl) | rw[zbc ow]
abbrev yl5:qb3:=q96 (q4c [tMask,tInts]) true (some 24) (some 3) (λx=>wv7 x.1 x.2.1) (λx=>.dat (.list (.int .i64)) (qg9 x.1 x.2.1))
theorem w69:Meets Tryz.prog 200 yl5:=by
 refine wt2 (yt6 [34] (SpecsOk.nil _)) Tryz.func200 rfl rfl (qx0 [tMask,tInts]) (λx=>x8t x.1 x.2.1) (λ_=>by kernel_rfl) dc ?_
 rintro⟨m,pix,⟨⟩⟩ h
 revert m pix
 intro(m:List (List Int)) (pix:List Int) (h:wv7 m pix)
 refine vcs (let Q0:=qg9 m pix; ∃(v0:Unit),∃(v1:Nat),Nat.le v1 m.length/\((True/\(0:Int)=(↑v1:Int)/\True)/\List.take v1 Q0=[]/\True)/\∀(v2:Nat),Nat.le v2 m.length->(decide ((↑v2:Int)<(↑m.length:Int))=true->((0:Int)<=(↑v2:Int)/\(↑v2:Int)<(↑m.length:Int))/\∃(v5:Nat),∃(v6:Nat),Nat.le v6 pix.length/\((True/\True/\(0:Int)=(↑v6:Int)/\True)/\(List.take v2 Q0=List.take v5 Q0/\True/\True)/\[]=List.take v6 (qm0 (nL m v5) pix)/\True)/\∀(v7:Nat),Nat.le v7 pix.length->(decide ((↑v7:Int)<(↑pix.length:Int))=true->((0:Int)<=(↑v7:Int)/\(↑v7:Int)<(↑pix.length:Int))/\((0:Int)<=nI pix v7/\nI pix v7<(↑(nL m v2).length:Int))/\((0:Nat)<List.length [nI (nL m v2) (nI pix v7).toNat]/\Nat.le ((List.take v7 (qm0 (nL m v5) pix)).length+List.length [nI (nL m v2) (nI pix v7).toNat]) (1000000:Nat))/\fits .i64 ((↑v7:Int)+(1:Int))/\∃(v10:Nat),Nat.le v10 pix.length/\pix.length-v10<pix.length-v7/\(True/\True/\(↑v7:Int)+(1:Int)=(↑v10:Int)/\True)/\(List.take v5 Q0=List.take v5 Q0/\True/\True)/\List.take v7 (qm0 (nL m v5) pix)++[nI (nL m v2) (nI pix v7).toNat]=List.take v10 (qm0 (nL m v5) pix)/\True)/\(decide ((↑v7:Int)<(↑pix.length:Int))=false->((0:Nat)<(0:Nat)+(1:Nat)/\(List.take v5 Q0).length+((0:Nat)+(1:Nat))<=(1000000:Nat))/\fits .i64 ((↑v2:Int)+(1:Int))/\∃(v10:Nat),Nat.le v10 m.length/\m.length-v10<m.length-v2/\(True/\(↑v2:Int)+(1:Int)=(↑v10:Int)/\True)/\(List.take v5 Q0++[List.take v7 (qm0 (nL m v5) pix)]=List.take v10 Q0/\True/\True)/\True))/\(decide ((↑v2:Int)<(↑m.length:Int))=false->List.take v2 Q0=qg9 m pix)) ?_
 have hr:=h.rows
 have hc:=h.cols
 have hl:=qq8 m pix
 refine⟨(),0,zae _,⟨rfl,rfl⟩,λk hk=>⟨λhlt=>⟨hlt,k,0,zae _,⟨rfl,rfl,rfl⟩,λj hj=>⟨λhj2=>?_,λhj2=>?_⟩⟩,λhge=>?_⟩⟩
 ·have h1:=qi0 (nL m k) pix
  refine⟨hj2,h.at_ k hlt j hj2,by grind,qa3,j+1,ow,ow,ow,?_⟩
  grind [q1o,qq6]
 ·obtain rfl:j=pix.length:=ow
  have h1:=qi0 (nL m k) pix
  have h3:(qm0 (nL m k) pix).take pix.length=qm0 (nL m k) pix:=zbc ow
  rw[h3]
  refine⟨by grind,qa3,k+1,ow,ow,ow,?_⟩
  grind [takeL_snoc,qk5]
 grind
def lastTo (left:List (List Int)) (j:Nat):Nat->Int
 | 0=>-1
 | i+1=>if nI (nL left i) j≠0 then(i:Int) else lastTo left j i
def qw3 (left:List (List Int)) (j:Nat) (at_:Int):List Int:=if nI (nL left at_.toNat) j<0 then qk3 (nL left at_.toNat) (-1) else nL left at_.toNat
def qg0 (left:List (List Int)) (p:List Int) (j:Nat) (at_:Int):Nat->List (List Int)
 | 0=>[]
 | i+1=>if(i:Int)≠at_ then qg0 left p j at_ i++[qe3 (nL left i) p j] else qg0 left p j at_ i
structure RS where
 left:List (List Int)
 done_:List (List Int)
 piv:List Int
def q8g (s:RS) (j:Nat):RS:=
 if lastTo s.left j s.left.length<0 then s
 else⟨qg0 s.left (qw3 s.left j (lastTo s.left j s.left.length)) j (lastTo s.left j s.left.length) s.left.length,(s.done_.map λr=>qe3 r (qw3 s.left j (lastTo s.left j s.left.length)) j)++[qw3 s.left j (lastTo s.left j s.left.length)],s.piv++[(j:Int)]⟩
def qf9 (rows:List (List Int)):Nat->RS
 | 0=>⟨rows.map qk1,[],[]⟩
 | j+1=>q8g (qf9 rows j) j
def rdW (rows:List (List Int)):Nat:=(nL rows 0).length
def qb5 (rows:List (List Int)):List (List Int) × List Int:=((qf9 rows (rdW rows)).done_,(qf9 rows (rdW rows)).piv)
structure x4s (s:RS) (j:Nat):Prop where
 sca:nI (nL s.left (lastTo s.left j s.left.length).toNat) j<0->xe3 (nL s.left (lastTo s.left j s.left.length).toNat) (-1)
 wo:∀i,i<s.left.length->(i:Int)≠lastTo s.left j s.left.length->xy3 (nL s.left i) (qw3 s.left j (lastTo s.left j s.left.length)) j
 woD:∀i,i<s.done_.length->xy3 (nL s.done_ i) (qw3 s.left j (lastTo s.left j s.left.length)) j
structure xe5 (rows:List (List Int)):Prop where
 n:rows.length<=1000
 w:rdW rows<=1000
 each:∀i,i<rows.length->(nL rows i).length=rdW rows
 big:∀i,i<rows.length->q5d (nL rows i)
 step:∀j,j<rdW rows->0<=lastTo (qf9 rows j).left j (qf9 rows j).left.length->x4s (qf9 rows j) j
theorem qn6 (l:List Int):(qk1 l).length=l.length:=by simp[qk1]
theorem qx1 (r p:List Int) (j:Nat):(qe3 r p j).length=r.length:=by grind [qe3,qn6,q5i]
theorem qu9 (l:List Int) (n:Int):(qk3 l n).length=l.length:=by simp[qk3]
theorem q1p (left:List (List Int)) (j:Nat):∀k:Nat,lastTo left j k<k/\-1<=lastTo left j k
 | 0=>⟨by show(-1:Int)<0; omega,by show(-1:Int)<=-1; omega⟩
 | k+1=>by
  have:=q1p left j k
  grind [lastTo]
theorem q2j (left:List (List Int)) (p:List Int) (j:Nat) (a:Int):∀k,∀x∈qg0 left p j a k,∃i,i<k/\(i:Int)≠a/\x=qe3 (nL left i) p j
 | 0,x,hx=>by cases hx
 | k+1,x,hx=>by
  rw[qg0] at hx
  split at hx
  ·rename_i hne
   rcases zal.1 hx with hx | hx
   ·obtain⟨i,h1,h2,h3⟩:=q2j left p j a k x hx
    grind
   grind
  ·obtain⟨i,h1,h2,h3⟩:=q2j left p j a k x hx
   grind
theorem q2k (left:List (List Int)) (p:List Int) (j:Nat) (a:Int):∀k,(qg0 left p j a k).length<=k
 | 0=>zab _
 | k+1=>by
  have:=q2k left p j a k
  grind [qg0]
structure RdSh (n W j:Nat) (s:RS):Prop where
 ln:s.left.length<=n
 le:∀x∈s.left,x.length=W
 dn:s.done_.length<=j
 de:∀x∈s.done_,x.length=W
 pn:s.piv.length<=j
theorem qn7 (m:List (List Int)) (i:Nat) (h:i<m.length):nL m i∈m:=by grind [qm3,List.getElem_mem]
theorem w36 {n W j:Nat} {s:RS} (h:RdSh n W j s) (a:Int) (ha:0<=a) (hb:a<s.left.length):(qw3 s.left j a).length=W:=by
 unfold qw3
 have:=h.le _ (qn7 s.left a.toNat ow)
 grind [qu9]
theorem RdSh.step {n W j:Nat} {s:RS} (h:RdSh n W j s):RdSh n W (j+1) (q8g s j):=by
 unfold q8g
 have hl:=q1p s.left j s.left.length
 generalize lastTo s.left j s.left.length=a at *
 split
 ·exact⟨h.ln,h.le,by have:=h.dn; omega,h.de,by have:=h.pn; omega⟩
 ·have hp:=w36 h a ow hl.1
  refine⟨zaj (q2k _ _ _ _ _) h.ln,λx hx=>?_,by have:=h.dn; grind,λx hx=>?_,by have:=h.pn; grind⟩
  ·obtain⟨i,h1,_,rfl⟩:=q2j _ _ _ _ _ x hx
   rw[qx1]; exact h.le _ (qn7 _ _ h1)
  ·rcases zal.1 hx with hx | hx
   ·obtain⟨y,hy,rfl⟩:=zba.1 hx
    rw[qx1]; exact h.de y hy
   grind
theorem w1h {rows:List (List Int)} (h:xe5 rows):∀j,RdSh rows.length (rdW rows) j (qf9 rows j)
 | 0=>by
  refine⟨by simp[qf9],λx hx=>?_,zab _,(λx hx=>by cases hx),zab _⟩
  obtain⟨y,hy,rfl⟩:=zba.1 hx
  obtain⟨i,hi,rfl⟩:=zaz hy
  rw[qn6,<- qm3 rows i hi]; exact h.each i hi
 | j+1=>(w1h h j).step
theorem wv8 {rows:List (List Int)} {j:Nat} {s:RS} (h:qf9 rows j=s) (h0:s.left=[]):∀k,qf9 rows (j+k)=s
 | 0=>h
 | k+1=>by
  rw[<- zce,qf9,wv8 h h0 k,q8g,zao]
  rw[h0]; exact(by decide:(-1:Int)<0)
abbrev sRd:qb3:=qe8 false none [tMask] [tMask,tInts] (λx=>xe5 x.1) (λx=>((qb5 x.1).1,(qb5 x.1).2,()))
structure x6w (rows:List (List Int)) (j:Nat) (s:RS):Prop where
 le:j<=rdW rows
 eq:qf9 rows j=s
structure x4t (d:List (List Int)) (p:List Int) (j i:Nat) (r:List (List Int)):Prop where
 le:i<=d.length
 eq:r=ovr (.list (.int .i64)) (λq=>qe3 (nL d q) p j) d i
def yx6 (rows:List (List Int)):Nat->Option Inv
 | 0=>some (Inv.of [4,21] 1 (λk:Nat=>[(4,.own 0),(21,.lit (.int .i64 k))]) (λk=>[.vec 24 (.list (.int .i64)) ((rows.map qk1).take k)]) (λk=>k<=rows.length) (λk=>rows.length-k))
 | 1=>some (Inv.of [4,5,8,9] 3 (λs:Nat × RS=>[(4,.dat (.list (.int .i64)) s.2.left),(5,.own 1),(8,.own 2),(9,.lit (.int .i64 s.1))]) (λs=>[.dead,.vec 24 (.list (.int .i64)) s.2.done_,.vec 3 (.int .i64) s.2.piv]) (λs=>x6w rows s.1 s.2) (λs=>rdW rows-s.1))
 | 2=>some (Eng.Inv.mk (Nat × RS) Nat [5,8,10,46] 3 (λq k=>[(5,.own 1),(8,.own 2),(10,.lit (.int .i64 (lastTo q.2.left q.1 k))),(46,.lit (.int .i64 k))]) (λq k=>[.dead,.vec 24 (.list (.int .i64)) q.2.done_,.vec 3 (.int .i64) q.2.piv]) (λq k=>k<=q.2.left.length) (λq k=>q.2.left.length-k))
 | 3=>some (Eng.Inv.mk (Nat × RS × List Int × Int) Nat [5,8,14,73] 4 (λq k=>[(5,.own 1),(8,.own 2),(14,.own 3),(73,.lit (.int .i64 k))]) (λq k=>[.dead,.vec 24 (.list (.int .i64)) q.2.1.done_,.vec 3 (.int .i64) q.2.1.piv,.vec 24 (.list (.int .i64)) (qg0 q.2.1.left q.2.2.1 q.1 q.2.2.2 k)]) (λq k=>k<=q.2.1.left.length) (λq k=>q.2.1.left.length-k))
 | 4=>some (Eng.Inv.mk (Nat × RS × List Int × Int) (Nat × List (List Int)) [5,8,14,89,91] 4 (λq s=>[(5,.own 1),(8,.own 2),(14,.own 3),(89,.own 1),(91,.lit (.int .i64 s.1))]) (λq s=>[.dead,.vec 24 (.list (.int .i64)) s.2,.vec 3 (.int .i64) q.2.1.piv,.vec 24 (.list (.int .i64)) (qg0 q.2.1.left q.2.2.1 q.1 q.2.2.2 q.2.1.left.length)]) (λq s=>x4t q.2.1.done_ q.2.2.1 q.1 s.1 s.2) (λq s=>q.2.1.done_.length-s.1))
 | _=>none
theorem w37:Meets Tryz.prog 253 sRd:=by
 refine mts (SpecsOk.cons q3i (SpecsOk.cons wv6 (SpecsOk.cons xy4 (SpecsOk.nil _)))) Tryz.func253 (λx=>yx6 x.1) ?_
 rintro⟨rows,⟨⟩⟩ h
 revert rows
 intro(rows:List (List Int)) (h:xe5 rows)
 refine vcs (let Q0:=List.map qk1 rows; let Q1:=qb5 rows; let Q2:=List Int; ∃(v0:Unit),∃(v1:Nat),Nat.le v1 rows.length/\((True/\(0:Int)=(↑v1:Int)/\True)/\List.take v1 Q0=[]/\True)/\∀(v2:Nat),Nat.le v2 rows.length->(decide ((↑v2:Int)<(↑rows.length:Int))=true->((0:Int)<=(↑v2:Int)/\(↑v2:Int)<(↑rows.length:Int))/\q5d (nL rows v2)/\((0:Nat)<(0:Nat)+(1:Nat)/\Nat.le ((List.take v2 Q0).length+((0:Nat)+(1:Nat))) (1000000:Nat))/\fits .i64 ((↑v2:Int)+(1:Int))/\∃(v5:Nat),Nat.le v5 rows.length/\rows.length-v5<rows.length-v2/\(True/\(↑v2:Int)+(1:Int)=(↑v5:Int)/\True)/\List.take v2 Q0++[qk1 (nL rows v2)]=List.take v5 Q0/\True)/\(decide ((↑v2:Int)<(↑rows.length:Int))=false->∃(v5:Unit),∃(v6:Nat × RS),x6w rows v6.1 v6.2/\((List.take v2 Q0=RS.left v6.2/\True/\True/\(0:Int)=(↑v6.1:Int)/\True)/\True/\RS.done_ v6.2=[]/\RS.piv v6.2=[]/\True)/\∀(v7:Nat × RS),x6w rows v7.1 v7.2->(decide ((0:Int)<(↑(RS.left v7.2).length:Int))=true->((0:Int)<=(0:Int)/\(0:Int)<(↑(RS.left v7.2).length:Int))/\(decide ((↑v7.1:Int)<(↑(nL (RS.left v7.2) (0:Nat)).length:Int))=true->∃(v11:Nat × RS),∃(v12:Nat),Nat.le v12 (RS.left v11.2).length/\((True/\True/\(-1:Int)=lastTo (RS.left v11.2) v11.1 v12/\(0:Int)=(↑v12:Int)/\True)/\True/\RS.done_ v7.2=RS.done_ v11.2/\RS.piv v7.2=RS.piv v11.2/\True)/\∀(v13:Nat),Nat.le v13 (RS.left v11.2).length->(decide ((↑v13:Int)<(↑(RS.left v7.2).length:Int))=true->((0:Int)<=(↑v13:Int)/\(↑v13:Int)<(↑(RS.left v7.2).length:Int))/\((0:Int)<=(↑v7.1:Int)/\(↑v7.1:Int)<(↑(nL (RS.left v7.2) v13).length:Int))/\((nI (nL (RS.left v7.2) v13) (↑v7.1:Int).toNat != (0:Int))=true->fits .i64 ((↑v13:Int)+(1:Int))/\∃(v17:Nat),Nat.le v17 (RS.left v11.2).length/\(RS.left v11.2).length-v17<(RS.left v11.2).length-v13/\(True/\True/\(↑v13:Int)=lastTo (RS.left v11.2) v11.1 v17/\(↑v13:Int)+(1:Int)=(↑v17:Int)/\True)/\True/\RS.done_ v11.2=RS.done_ v11.2/\RS.piv v11.2=RS.piv v11.2/\True)/\((nI (nL (RS.left v7.2) v13) (↑v7.1:Int).toNat != (0:Int))=false->fits .i64 ((↑v13:Int)+(1:Int))/\∃(v17:Nat),Nat.le v17 (RS.left v11.2).length/\(RS.left v11.2).length-v17<(RS.left v11.2).length-v13/\(True/\True/\lastTo (RS.left v11.2) v11.1 v13=lastTo (RS.left v11.2) v11.1 v17/\(↑v13:Int)+(1:Int)=(↑v17:Int)/\True)/\True/\RS.done_ v11.2=RS.done_ v11.2/\RS.piv v11.2=RS.piv v11.2/\True))/\(decide ((↑v13:Int)<(↑(RS.left v7.2).length:Int))=false->(decide (lastTo (RS.left v11.2) v11.1 v13<(0:Int))=true->fits .i64 ((↑v7.1:Int)+(1:Int))/\∃(v17:Nat × RS),x6w rows v17.1 v17.2/\rdW rows-v17.1<rdW rows-v7.1/\(RS.left v7.2=RS.left v17.2/\True/\True/\(↑v7.1:Int)+(1:Int)=(↑v17.1:Int)/\True)/\True/\RS.done_ v11.2=RS.done_ v17.2/\RS.piv v11.2=RS.piv v17.2/\True)/\(decide (lastTo (RS.left v11.2) v11.1 v13<(0:Int))=false->((0:Int)<=lastTo (RS.left v11.2) v11.1 v13/\lastTo (RS.left v11.2) v11.1 v13<(↑(RS.left v7.2).length:Int))/\((0:Int)<=(↑v7.1:Int)/\(↑v7.1:Int)<(↑(nL (RS.left v7.2) (lastTo (RS.left v11.2) v11.1 v13).toNat).length:Int))/\(decide (nI (nL (RS.left v7.2) (lastTo (RS.left v11.2) v11.1 v13).toNat) (↑v7.1:Int).toNat<(0:Int))=true->xe3 (nL (RS.left v7.2) (lastTo (RS.left v11.2) v11.1 v13).toNat) (-1:Int)/\∃(v18:Nat × RS × List Int × Int),∃(v19:Nat),Nat.le v19 (RS.left v18.2.1).length/\((True/\True/\True/\(0:Int)=(↑v19:Int)/\True)/\True/\RS.done_ v11.2=RS.done_ v18.2.1/\RS.piv v11.2=RS.piv v18.2.1/\qg0 (RS.left v18.2.1) v18.2.2.1 v18.1 v18.2.2.2 v19=[]/\True)/\∀(v20:Nat),Nat.le v20 (RS.left v18.2.1).length->(decide ((↑v20:Int)<(↑(RS.left v7.2).length:Int))=true->((0:Int)<=(↑v20:Int)/\(↑v20:Int)<(↑(RS.left v7.2).length:Int))/\(((↑v20:Int) != lastTo (RS.left v11.2) v11.1 v13)=true->((0:Ty.den tInt)<=(↑v7.1:Int)/\xy3 (nL (RS.left v7.2) v20) (qk3 (nL (RS.left v7.2) (lastTo (RS.left v11.2) v11.1 v13).toNat) (-1:Int)) (↑v7.1:Int).toNat)/\((0:Nat)<List.length [qe3 (nL (RS.left v7.2) v20) (qk3 (nL (RS.left v7.2) (lastTo (RS.left v11.2) v11.1 v13).toNat) (-1:Int)) (↑v7.1:Int).toNat]/\Nat.le ((qg0 (RS.left v18.2.1) v18.2.2.1 v18.1 v18.2.2.2 v20).length+List.length [qe3 (nL (RS.left v7.2) v20) (qk3 (nL (RS.left v7.2) (lastTo (RS.left v11.2) v11.1 v13).toNat) (-1:Int)) (↑v7.1:Int).toNat]) (1000000:Nat))/\fits .i64 ((↑v20:Int)+(1:Int))/\∃(v24:Nat),Nat.le v24 (RS.left v18.2.1).length/\(RS.left v18.2.1).length-v24<(RS.left v18.2.1).length-v20/\(True/\True/\True/\(↑v20:Int)+(1:Int)=(↑v24:Int)/\True)/\True/\RS.done_ v18.2.1=RS.done_ v18.2.1/\RS.piv v18.2.1=RS.piv v18.2.1/\qg0 (RS.left v18.2.1) v18.2.2.1 v18.1 v18.2.2.2 v20++[qe3 (nL (RS.left v7.2) v20) (qk3 (nL (RS.left v7.2) (lastTo (RS.left v11.2) v11.1 v13).toNat) (-1:Int)) (↑v7.1:Int).toNat]=qg0 (RS.left v18.2.1) v18.2.2.1 v18.1 v18.2.2.2 v24/\True)/\(((↑v20:Int) != lastTo (RS.left v11.2) v11.1 v13)=false->fits .i64 ((↑v20:Int)+(1:Int))/\∃(v24:Nat),Nat.le v24 (RS.left v18.2.1).length/\(RS.left v18.2.1).length-v24<(RS.left v18.2.1).length-v20/\(True/\True/\True/\(↑v20:Int)+(1:Int)=(↑v24:Int)/\True)/\True/\RS.done_ v18.2.1=RS.done_ v18.2.1/\RS.piv v18.2.1=RS.piv v18.2.1/\qg0 (RS.left v18.2.1) v18.2.2.1 v18.1 v18.2.2.2 v20=qg0 (RS.left v18.2.1) v18.2.2.1 v18.1 v18.2.2.2 v24/\True))/\(decide ((↑v20:Int)<(↑(RS.left v7.2).length:Int))=false->∃(v23:Nat × RS × List Int × Int),∃(v24:Nat × List Q2),x4t (RS.done_ v23.2.1) v23.2.2.1 v23.1 v24.1 v24.2/\((True/\True/\True/\True/\(0:Int)=(↑v24.1:Int)/\True)/\True/\RS.done_ v18.2.1=v24.2/\RS.piv v18.2.1=RS.piv v23.2.1/\qg0 (RS.left v18.2.1) v18.2.2.1 v18.1 v18.2.2.2 v20=qg0 (RS.left v23.2.1) v23.2.2.1 v23.1 v23.2.2.2 (RS.left v23.2.1).length/\True)/\∀(v25:Nat × List Q2),x4t (RS.done_ v23.2.1) v23.2.2.1 v23.1 v25.1 v25.2->(decide ((↑v25.1:Int)<(↑(RS.done_ v18.2.1).length:Int))=true->((0:Int)<=(↑v25.1:Int)/\(↑v25.1:Int)<(↑v25.2.length:Int))/\(↑v25.1:Int).toNat<v25.2.length/\((0:Ty.den tInt)<=(↑v7.1:Int)/\xy3 (nL v25.2 (↑v25.1:Int).toNat) (qk3 (nL (RS.left v7.2) (lastTo (RS.left v11.2) v11.1 v13).toNat) (-1:Int)) (↑v7.1:Int).toNat)/\((0:Int)<=(↑v25.1:Int)/\(↑v25.1:Int)<(↑v25.2.length:Int))/\(↑v25.1:Int).toNat<v25.2.length/\fits .i64 ((↑v25.1:Int)+(1:Int))/\∃(v28:Nat × List Q2),x4t (RS.done_ v23.2.1) v23.2.2.1 v23.1 v28.1 v28.2/\(RS.done_ v23.2.1).length-v28.1<(RS.done_ v23.2.1).length-v25.1/\(True/\True/\True/\True/\(↑v25.1:Int)+(1:Int)=(↑v28.1:Int)/\True)/\True/\List.set v25.2 (↑v25.1:Int).toNat (qe3 (nL v25.2 (↑v25.1:Int).toNat) (qk3 (nL (RS.left v7.2) (lastTo (RS.left v11.2) v11.1 v13).toNat) (-1:Int)) (↑v7.1:Int).toNat)=v28.2/\RS.piv v23.2.1=RS.piv v23.2.1/\qg0 (RS.left v23.2.1) v23.2.2.1 v23.1 v23.2.2.2 (RS.left v23.2.1).length=qg0 (RS.left v23.2.1) v23.2.2.1 v23.1 v23.2.2.2 (RS.left v23.2.1).length/\True)/\(decide ((↑v25.1:Int)<(↑(RS.done_ v18.2.1).length:Int))=false->((0:Nat)<List.length [qk3 (nL (RS.left v7.2) (lastTo (RS.left v11.2) v11.1 v13).toNat) (-1:Int)]/\Nat.le (v25.2.length+List.length [qk3 (nL (RS.left v7.2) (lastTo (RS.left v11.2) v11.1 v13).toNat) (-1:Int)]) (1000000:Nat))/\((0:Nat)<List.length [(↑v7.1:Int)]/\Nat.le ((RS.piv v23.2.1).length+List.length [(↑v7.1:Int)]) (1000000:Nat))/\fits .i64 ((↑v7.1:Int)+(1:Int))/\∃(v28:Nat × RS),x6w rows v28.1 v28.2/\rdW rows-v28.1<rdW rows-v7.1/\(qg0 (RS.left v23.2.1) v23.2.2.1 v23.1 v23.2.2.2 (RS.left v23.2.1).length=RS.left v28.2/\True/\True/\(↑v7.1:Int)+(1:Int)=(↑v28.1:Int)/\True)/\True/\v25.2++[qk3 (nL (RS.left v7.2) (lastTo (RS.left v11.2) v11.1 v13).toNat) (-1:Int)]=RS.done_ v28.2/\RS.piv v23.2.1++[(↑v7.1:Int)]=RS.piv v28.2/\True)))/\(decide (nI (nL (RS.left v7.2) (lastTo (RS.left v11.2) v11.1 v13).toNat) (↑v7.1:Int).toNat<(0:Int))=false->∃(v18:Nat × RS × List Int × Int),∃(v19:Nat),Nat.le v19 (RS.left v18.2.1).length/\((True/\True/\True/\(0:Int)=(↑v19:Int)/\True)/\True/\RS.done_ v11.2=RS.done_ v18.2.1/\RS.piv v11.2=RS.piv v18.2.1/\qg0 (RS.left v18.2.1) v18.2.2.1 v18.1 v18.2.2.2 v19=[]/\True)/\∀(v20:Nat),Nat.le v20 (RS.left v18.2.1).length->(decide ((↑v20:Int)<(↑(RS.left v7.2).length:Int))=true->((0:Int)<=(↑v20:Int)/\(↑v20:Int)<(↑(RS.left v7.2).length:Int))/\(((↑v20:Int) != lastTo (RS.left v11.2) v11.1 v13)=true->((0:Ty.den tInt)<=(↑v7.1:Int)/\xy3 (nL (RS.left v7.2) v20) (nL (RS.left v7.2) (lastTo (RS.left v11.2) v11.1 v13).toNat) (↑v7.1:Int).toNat)/\((0:Nat)<List.length [qe3 (nL (RS.left v7.2) v20) (nL (RS.left v7.2) (lastTo (RS.left v11.2) v11.1 v13).toNat) (↑v7.1:Int).toNat]/\Nat.le ((qg0 (RS.left v18.2.1) v18.2.2.1 v18.1 v18.2.2.2 v20).length+List.length [qe3 (nL (RS.left v7.2) v20) (nL (RS.left v7.2) (lastTo (RS.left v11.2) v11.1 v13).toNat) (↑v7.1:Int).toNat]) (1000000:Nat))/\fits .i64 ((↑v20:Int)+(1:Int))/\∃(v24:Nat),Nat.le v24 (RS.left v18.2.1).length/\(RS.left v18.2.1).length-v24<(RS.left v18.2.1).length-v20/\(True/\True/\True/\(↑v20:Int)+(1:Int)=(↑v24:Int)/\True)/\True/\RS.done_ v18.2.1=RS.done_ v18.2.1/\RS.piv v18.2.1=RS.piv v18.2.1/\qg0 (RS.left v18.2.1) v18.2.2.1 v18.1 v18.2.2.2 v20++[qe3 (nL (RS.left v7.2) v20) (nL (RS.left v7.2) (lastTo (RS.left v11.2) v11.1 v13).toNat) (↑v7.1:Int).toNat]=qg0 (RS.left v18.2.1) v18.2.2.1 v18.1 v18.2.2.2 v24/\True)/\(((↑v20:Int) != lastTo (RS.left v11.2) v11.1 v13)=false->fits .i64 ((↑v20:Int)+(1:Int))/\∃(v24:Nat),Nat.le v24 (RS.left v18.2.1).length/\(RS.left v18.2.1).length-v24<(RS.left v18.2.1).length-v20/\(True/\True/\True/\(↑v20:Int)+(1:Int)=(↑v24:Int)/\True)/\True/\RS.done_ v18.2.1=RS.done_ v18.2.1/\RS.piv v18.2.1=RS.piv v18.2.1/\qg0 (RS.left v18.2.1) v18.2.2.1 v18.1 v18.2.2.2 v20=qg0 (RS.left v18.2.1) v18.2.2.1 v18.1 v18.2.2.2 v24/\True))/\(decide ((↑v20:Int)<(↑(RS.left v7.2).length:Int))=false->∃(v23:Nat × RS × List Int × Int),∃(v24:Nat × List Q2),x4t (RS.done_ v23.2.1) v23.2.2.1 v23.1 v24.1 v24.2/\((True/\True/\True/\True/\(0:Int)=(↑v24.1:Int)/\True)/\True/\RS.done_ v18.2.1=v24.2/\RS.piv v18.2.1=RS.piv v23.2.1/\qg0 (RS.left v18.2.1) v18.2.2.1 v18.1 v18.2.2.2 v20=qg0 (RS.left v23.2.1) v23.2.2.1 v23.1 v23.2.2.2 (RS.left v23.2.1).length/\True)/\∀(v25:Nat × List Q2),x4t (RS.done_ v23.2.1) v23.2.2.1 v23.1 v25.1 v25.2->(decide ((↑v25.1:Int)<(↑(RS.done_ v18.2.1).length:Int))=true->((0:Int)<=(↑v25.1:Int)/\(↑v25.1:Int)<(↑v25.2.length:Int))/\(↑v25.1:Int).toNat<v25.2.length/\((0:Ty.den tInt)<=(↑v7.1:Int)/\xy3 (nL v25.2 (↑v25.1:Int).toNat) (nL (RS.left v7.2) (lastTo (RS.left v11.2) v11.1 v13).toNat) (↑v7.1:Int).toNat)/\((0:Int)<=(↑v25.1:Int)/\(↑v25.1:Int)<(↑v25.2.length:Int))/\(↑v25.1:Int).toNat<v25.2.length/\fits .i64 ((↑v25.1:Int)+(1:Int))/\∃(v28:Nat × List Q2),x4t (RS.done_ v23.2.1) v23.2.2.1 v23.1 v28.1 v28.2/\(RS.done_ v23.2.1).length-v28.1<(RS.done_ v23.2.1).length-v25.1/\(True/\True/\True/\True/\(↑v25.1:Int)+(1:Int)=(↑v28.1:Int)/\True)/\True/\List.set v25.2 (↑v25.1:Int).toNat (qe3 (nL v25.2 (↑v25.1:Int).toNat) (nL (RS.left v7.2) (lastTo (RS.left v11.2) v11.1 v13).toNat) (↑v7.1:Int).toNat)=v28.2/\RS.piv v23.2.1=RS.piv v23.2.1/\qg0 (RS.left v23.2.1) v23.2.2.1 v23.1 v23.2.2.2 (RS.left v23.2.1).length=qg0 (RS.left v23.2.1) v23.2.2.1 v23.1 v23.2.2.2 (RS.left v23.2.1).length/\True)/\(decide ((↑v25.1:Int)<(↑(RS.done_ v18.2.1).length:Int))=false->((0:Nat)<List.length [nL (RS.left v7.2) (lastTo (RS.left v11.2) v11.1 v13).toNat]/\Nat.le (v25.2.length+List.length [nL (RS.left v7.2) (lastTo (RS.left v11.2) v11.1 v13).toNat]) (1000000:Nat))/\((0:Nat)<List.length [(↑v7.1:Int)]/\Nat.le ((RS.piv v23.2.1).length+List.length [(↑v7.1:Int)]) (1000000:Nat))/\fits .i64 ((↑v7.1:Int)+(1:Int))/\∃(v28:Nat × RS),x6w rows v28.1 v28.2/\rdW rows-v28.1<rdW rows-v7.1/\(qg0 (RS.left v23.2.1) v23.2.2.1 v23.1 v23.2.2.2 (RS.left v23.2.1).length=RS.left v28.2/\True/\True/\(↑v7.1:Int)+(1:Int)=(↑v28.1:Int)/\True)/\True/\v25.2++[nL (RS.left v7.2) (lastTo (RS.left v11.2) v11.1 v13).toNat]=RS.done_ v28.2/\RS.piv v23.2.1++[(↑v7.1:Int)]=RS.piv v28.2/\True))))))/\(decide ((↑v7.1:Int)<(↑(nL (RS.left v7.2) (0:Nat)).length:Int))=false->RS.done_ v7.2=Q1.1/\RS.piv v7.2=Q1.2/\True))/\(decide ((0:Int)<(↑(RS.left v7.2).length:Int))=false->RS.done_ v7.2=Q1.1/\RS.piv v7.2=Q1.2/\True))) ?_
 have hn:=h.n
 have hw:=h.w
 refine⟨(),0,zae _,⟨rfl,rfl⟩,λk hk=>⟨λhlt=>⟨hlt,h.big k hlt,by grind,qa3,k+1,ow,ow,ow,?_⟩,λhge=>?_⟩⟩
 ·grind [takeL_snoc,qm3,qk1]
 refine⟨(),(0,qf9 rows 0),⟨zae _,rfl⟩,⟨⟨by rw[zbc (by grind)]; rfl,rfl⟩,rfl,rfl⟩,?_⟩
 rintro⟨j,s⟩ ⟨hj,hs⟩
 dsimp only at hj hs ⊢
 have hsh:=w1h h j
 rw[hs] at hsh
 have hln:=hsh.ln
 have hdn:=hsh.dn
 have hpn:=hsh.pn
 have hle:∀i,i<s.left.length->(nL s.left i).length=rdW rows:=λi hi=>hsh.le _ (qn7 _ _ hi)
 have hde:∀i,i<s.done_.length->(nL s.done_ i).length=rdW rows:=λi hi=>hsh.de _ (qn7 _ _ hi)
 refine⟨λhl0=>⟨hl0,λhjl=>?_,λhjl=>?_⟩,λhl0=>?_⟩
 ·have hjW:j<rdW rows:=by grind
  refine⟨(j,s),0,zae _,⟨⟨rfl,rfl⟩,rfl,rfl⟩,λk hk=>⟨λhlt=>⟨hlt,by grind,λhz=>⟨qa3,k+1,hlt,by grind,by rw[lastTo,zao hz],ow⟩,λhz=>⟨qa3,k+1,hlt,by grind,by simp_all [lastTo,if_neg],ow⟩⟩,λhge=>?_⟩⟩
  dsimp only at hk hge ⊢
  obtain rfl:k=s.left.length:=ow
  have hlast:=q1p s.left j s.left.length
  refine⟨λhneg=>⟨qa3,(j+1,s),⟨ow,by simp_all [qf9,q8g,if_pos]⟩,ow,⟨rfl,by rfl⟩,rfl,rfl⟩,λhpos=>?_⟩
  have hst:x4s s j:=by have:=h.step j hjW; grind
  have h1:=hst.sca
  have h2:=hst.wo
  have h3:=hst.woD
  clear hst
  have hnx:qf9 rows (j+1)=⟨qg0 s.left (qw3 s.left j (lastTo s.left j s.left.length)) j (lastTo s.left j s.left.length) s.left.length,(s.done_.map λr=>qe3 r (qw3 s.left j (lastTo s.left j s.left.length)) j)++[qw3 s.left j (lastTo s.left j s.left.length)],s.piv++[(j:Int)]⟩:=by simp_all [qf9,q8g,if_neg]
  have hpl:=w36 hsh (lastTo s.left j s.left.length) hpos hlast.1
  have hpe:qw3 s.left j (lastTo s.left j s.left.length)=if nI (nL s.left (lastTo s.left j s.left.length).toNat) j<0 then qk3 (nL s.left (lastTo s.left j s.left.length).toNat) (-1) else nL s.left (lastTo s.left j s.left.length).toNat:=rfl
  generalize lastTo s.left j s.left.length=a at *
  refine⟨⟨hpos,hlast.1⟩,by grind,λhng=>⟨h1 hng,?_⟩,λhng=>?_⟩
  ·have hp:qk3 (nL s.left a.toNat) (-1)=qw3 s.left j a:=by grind
   rw[hp]
   refine⟨(j,s,qw3 s.left j a,a),0,zae _,⟨rfl,rfl,rfl,rfl⟩,λk hk=>⟨λhlt=>⟨hlt,λhne=>⟨h2 k hlt hne,by grind [q2k,qw3],qa3,k+1,hlt,by grind,ow,by rw[qg0,zao hne]⟩,λhe=>⟨qa3,k+1,hlt,by grind,ow,by rw[qg0,zak (λq=>q he)]⟩⟩,λhge=>?_⟩⟩
   dsimp only at hk hge ⊢
   obtain rfl:k=s.left.length:=ow
   refine⟨(j,s,qw3 s.left j a,a),(0,s.done_),⟨zae _,(qt0 (.list (.int .i64)) _ _).symm⟩,⟨rfl,rfl,rfl,rfl⟩,?_⟩
   rintro⟨i,r⟩ ⟨hi1,hi2⟩
   dsimp only at hi1 hi2 ⊢
   have hrl:r.length=s.done_.length:=by grind [qs5]
   refine⟨λhlt=>?_,λhge=>?_⟩
   ·have hri:nL r i=nL s.done_ i:=by rw[hi2]; exact(q4h (.list (.int .i64)) _ _ _ _ hlt).trans (zak (zbw _))
    rw[hri]
    exact⟨ow,ow,h3 i hlt,ow,ow,qa3,(i+1,r.set i (qe3 (nL s.done_ i) (qw3 s.left j a) j)),⟨ow,by grind [qq5,qe3,nL,qw3]⟩,ow,by rfl,rfl⟩
   ·obtain rfl:i=s.done_.length:=ow
    have hr:r=s.done_.map λr=>qe3 r (qw3 s.left j a) j:=by
     rw[hi2]
     refine(qx6 (.list (.int .i64)) _ _ _ (zab _)).trans ?_
     apply zbb (by simp)
     grind [qm3]
    refine⟨ow,ow,qa3,(j+1,qf9 rows (j+1)),⟨ow,rfl⟩,ow,⟨by grind,by rfl⟩,by grind,by grind⟩
  ·have hp:nL s.left a.toNat=qw3 s.left j a:=by grind
   rw[hp]
   refine⟨(j,s,qw3 s.left j a,a),0,zae _,⟨rfl,rfl,rfl,rfl⟩,λk hk=>⟨λhlt=>⟨hlt,λhne=>⟨h2 k hlt hne,by grind [q2k,qw3],qa3,k+1,hlt,by grind,ow,by rw[qg0,zao hne]⟩,λhe=>⟨qa3,k+1,hlt,by grind,ow,by rw[qg0,zak (λq=>q he)]⟩⟩,λhge=>?_⟩⟩
   dsimp only at hk hge ⊢
   obtain rfl:k=s.left.length:=ow
   refine⟨(j,s,qw3 s.left j a,a),(0,s.done_),⟨zae _,(qt0 (.list (.int .i64)) _ _).symm⟩,⟨rfl,rfl,rfl,rfl⟩,?_⟩
   rintro⟨i,r⟩ ⟨hi1,hi2⟩
   dsimp only at hi1 hi2 ⊢
   have hrl:r.length=s.done_.length:=by grind [qs5]
   refine⟨λhlt=>?_,λhge=>?_⟩
   ·have hri:nL r i=nL s.done_ i:=by rw[hi2]; exact(q4h (.list (.int .i64)) _ _ _ _ hlt).trans (zak (zbw _))
    rw[hri]
    exact⟨ow,ow,h3 i hlt,ow,ow,qa3,(i+1,r.set i (qe3 (nL s.done_ i) (qw3 s.left j a) j)),⟨ow,by grind [qq5,qe3,nL,qw3]⟩,ow,by rfl,rfl⟩
   ·obtain rfl:i=s.done_.length:=ow
    have hr:r=s.done_.map λr=>qe3 r (qw3 s.left j a) j:=by
     rw[hi2]
     refine(qx6 (.list (.int .i64)) _ _ _ (zab _)).trans ?_
     apply zbb (by simp)
     grind [qm3]
    refine⟨ow,ow,qa3,(j+1,qf9 rows (j+1)),⟨ow,rfl⟩,ow,⟨by grind,by rfl⟩,by grind,by grind⟩
 ·have e:j=rdW rows:=by grind
  subst e
  unfold qb5
  grind
 ·have e:s.left=[]:=zbe ow
  have:=wv8 hs e (rdW rows-j)
  rw[show j+(rdW rows-j)=rdW rows by omega] at this
  unfold qb5
  grind
end Go.Proofs.YtnchigbbjajiiaaGreat
