/- The reference's kernel vectors: contract by the engine. No condition. -/
import Derived.Test.YtnchigbbjajiiaaGreatV16
set_option linter.unusedVariables false
set_option linter.unusedSimpArgs false
namespace Go.Proofs.YtnchigbbjajiiaaGreat
open Go Go.RowKit Eng
abbrev x8u:Ty:=.list (.prod (.list (.int .i64)) (.list (.prod (.int .i64) (.int .i64))))
def nF (l:List (List Int × List (Int × Int))) (i:Nat):List Int × List (Int × Int):=qe0 (.prod (.list (.int .i64)) (.list (.prod (.int .i64) (.int .i64)))) l i
def qm8 (s:List Int):Int:=if 0<s.length then nI s (s.length-1)+1 else 0
def qo9 (n:Nat) (s:List Int):List (List Int):=(List.range ((n:Int)-qm8 s).toNat).map λt:Nat=>s++[qm8 s+t]
def qb6 (n:Nat):Nat->List (List Int)
 | 0=>[[]]
 | k+1=>if k<(qb6 n k).length then qb6 n k++qo9 n (nL (qb6 n k) k) else qb6 n k
def qc8 (n:Nat):List (List Int):=qb6 n 128
theorem wd9 (n k:Nat):∀j,∃t,qb6 n (k+j)=qb6 n k++t
 | 0=>⟨[],by simp⟩
 | j+1=>by
  obtain⟨t,ht⟩:=wd9 n k j
  grind [Nat.add_assoc,qb6,qo9,nL,List.append_assoc]
theorem q8h {n k:Nat} (h:(qb6 n k).length<=k):∀j,qb6 n (k+j)=qb6 n k
 | 0=>rfl
 | j+1=>by
  have:=q8h h j
  rw[<- zce,qb6,this,zak ow]
def xe6 (n:Nat):Bool:=decide ((qb6 n 128).length<=128) && (qb6 n 128).all λs=>decide (s.length<=7) && s.all λx=>decide (0<=x) && decide (x<n)
theorem w1i:((List.range 8).all λn=>xe6 n)=true:=by decide +kernel
theorem w7a {n:Nat} (h:n<=7):(qb6 n 128).length<=128/\∀s∈qb6 n 128,s.length<=7/\∀x∈s,0<=x/\x<n:=by
 have:=zar.1 w1i n (za2.2 ow)
 unfold xe6 at this
 grind
theorem q1q {n k:Nat} (h:n<=7) (hk:k<=128):(qb6 n k).length<=128/\∀s∈qb6 n k,s.length<=7/\∀x∈s,0<=x/\x<n:=by
 obtain⟨t,ht⟩:=wd9 n k (128-k)
 rw[show k+(128-k)=128 by omega] at ht
 grind [w7a]
abbrev x8v:qb3:=qe8 false none [tInt] [tMask] (λx=>0<=x.1/\x.1<=7) (λx=>(qc8 x.1.toNat,()))
def x4u (n:Nat):Nat->Option Inv
 | 0=>some (Inv.of [3,4] 1 (λk:Nat=>[(3,.own 0),(4,.lit (.int .i64 k))]) (λk=>[.vec 24 (.list (.int .i64)) (qb6 n k)]) (λk=>k<=128) (λk=>128-k))
 | 1=>some (Eng.Inv.mk Nat Nat [3,7] 1 (λk t=>[(3,.own 0),(7,.lit (.int .i64 (qm8 (nL (qb6 n k) k)+t)))]) (λk t=>[.vec 24 (.list (.int .i64)) (qb6 n k++(qo9 n (nL (qb6 n k) k)).take t)]) (λk t=>t<=(qo9 n (nL (qb6 n k) k)).length) (λk t=>(qo9 n (nL (qb6 n k) k)).length-t))
 | _=>none
theorem q8i:Meets Tryz.prog 198 x8v:=by
 refine meets (x4h [8] [38] (SpecsOk.nil _)) Tryz.func198 rfl rfl (λx=>x4u x.1.toNat) (λ_=>by kernel_rfl) dc ?_
 rintro⟨n,⟨⟩⟩ h
 revert n
 intro(n:Int) (h:0<=n/\n<=7)
 refine vcs (Value.slice none (0:Nat) (0:Nat)=Value.slice none (0:Nat) (0:Nat)/\∃(v0:Unit),∃(v1:Nat),Nat.le v1 (128:Nat)/\((True/\(0:Int)=(↑v1:Int)/\True)/\[[]]=qb6 n.toNat v1/\True)/\∀(v2:Nat),Nat.le v2 (128:Nat)->(decide ((↑v2:Int)<(↑(qb6 n.toNat v2).length:Int))=true->((0:Int)<=(↑v2:Int)/\(↑v2:Int)<(↑(qb6 n.toNat v2).length:Int))/\v2<(qb6 n.toNat v2).length/\(decide ((0:Int)<(↑(nL (qb6 n.toNat v2) v2).length:Int))=true->fits .i64 ((↑(nL (qb6 n.toNat v2) v2).length:Int)-(1:Int))/\((0:Int)<=(↑(nL (qb6 n.toNat v2) v2).length:Int)-(1:Int)/\(↑(nL (qb6 n.toNat v2) v2).length:Int)-(1:Int)<(↑(nL (qb6 n.toNat v2) v2).length:Int))/\fits .i64 (nI (nL (qb6 n.toNat v2) v2) ((↑(nL (qb6 n.toNat v2) v2).length:Int)-(1:Int)).toNat+(1:Int))/\∃(v6:Nat),∃(v7:Nat),Nat.le v7 (qo9 n.toNat (nL (qb6 n.toNat v6) v6)).length/\((True/\nI (nL (qb6 n.toNat v2) v2) ((↑(nL (qb6 n.toNat v2) v2).length:Int)-(1:Int)).toNat+(1:Int)=qm8 (nL (qb6 n.toNat v6) v6)+(↑v7:Int)/\True)/\qb6 n.toNat v2=qb6 n.toNat v6++List.take v7 (qo9 n.toNat (nL (qb6 n.toNat v6) v6))/\True)/\∀(v8:Nat),Nat.le v8 (qo9 n.toNat (nL (qb6 n.toNat v6) v6)).length->(decide (qm8 (nL (qb6 n.toNat v6) v6)+(↑v8:Int)<n)=true->Nat.le ((0:Nat)+(nL (qb6 n.toNat v2) v2).length) (1000000:Nat)/\((0:Nat)<List.length [qm8 (nL (qb6 n.toNat v6) v6)+(↑v8:Int)]/\Nat.le (([]++nL (qb6 n.toNat v2) v2).length+List.length [qm8 (nL (qb6 n.toNat v6) v6)+(↑v8:Int)]) (1000000:Nat))/\((0:Nat)<List.length [[]++nL (qb6 n.toNat v2) v2++[qm8 (nL (qb6 n.toNat v6) v6)+(↑v8:Int)]]/\Nat.le ((qb6 n.toNat v6++List.take v8 (qo9 n.toNat (nL (qb6 n.toNat v6) v6))).length+List.length [[]++nL (qb6 n.toNat v2) v2++[qm8 (nL (qb6 n.toNat v6) v6)+(↑v8:Int)]]) (1000000:Nat))/\fits .i64 (qm8 (nL (qb6 n.toNat v6) v6)+(↑v8:Int)+(1:Int))/\∃(v11:Nat),Nat.le v11 (qo9 n.toNat (nL (qb6 n.toNat v6) v6)).length/\(qo9 n.toNat (nL (qb6 n.toNat v6) v6)).length-v11<(qo9 n.toNat (nL (qb6 n.toNat v6) v6)).length-v8/\(True/\qm8 (nL (qb6 n.toNat v6) v6)+(↑v8:Int)+(1:Int)=qm8 (nL (qb6 n.toNat v6) v6)+(↑v11:Int)/\True)/\qb6 n.toNat v6++List.take v8 (qo9 n.toNat (nL (qb6 n.toNat v6) v6))++[[]++nL (qb6 n.toNat v2) v2++[qm8 (nL (qb6 n.toNat v6) v6)+(↑v8:Int)]]=qb6 n.toNat v6++List.take v11 (qo9 n.toNat (nL (qb6 n.toNat v6) v6))/\True)/\(decide (qm8 (nL (qb6 n.toNat v6) v6)+(↑v8:Int)<n)=false->fits .i64 ((↑v2:Int)+(1:Int))/\∃(v11:Nat),Nat.le v11 (128:Nat)/\(128:Nat)-v11<(128:Nat)-v2/\(True/\(↑v2:Int)+(1:Int)=(↑v11:Int)/\True)/\qb6 n.toNat v6++List.take v8 (qo9 n.toNat (nL (qb6 n.toNat v6) v6))=qb6 n.toNat v11/\True))/\(decide ((0:Int)<(↑(nL (qb6 n.toNat v2) v2).length:Int))=false->∃(v6:Nat),∃(v7:Nat),Nat.le v7 (qo9 n.toNat (nL (qb6 n.toNat v6) v6)).length/\((True/\(0:Int)=qm8 (nL (qb6 n.toNat v6) v6)+(↑v7:Int)/\True)/\qb6 n.toNat v2=qb6 n.toNat v6++List.take v7 (qo9 n.toNat (nL (qb6 n.toNat v6) v6))/\True)/\∀(v8:Nat),Nat.le v8 (qo9 n.toNat (nL (qb6 n.toNat v6) v6)).length->(decide (qm8 (nL (qb6 n.toNat v6) v6)+(↑v8:Int)<n)=true->Nat.le ((0:Nat)+(nL (qb6 n.toNat v2) v2).length) (1000000:Nat)/\((0:Nat)<List.length [qm8 (nL (qb6 n.toNat v6) v6)+(↑v8:Int)]/\Nat.le (([]++nL (qb6 n.toNat v2) v2).length+List.length [qm8 (nL (qb6 n.toNat v6) v6)+(↑v8:Int)]) (1000000:Nat))/\((0:Nat)<List.length [[]++nL (qb6 n.toNat v2) v2++[qm8 (nL (qb6 n.toNat v6) v6)+(↑v8:Int)]]/\Nat.le ((qb6 n.toNat v6++List.take v8 (qo9 n.toNat (nL (qb6 n.toNat v6) v6))).length+List.length [[]++nL (qb6 n.toNat v2) v2++[qm8 (nL (qb6 n.toNat v6) v6)+(↑v8:Int)]]) (1000000:Nat))/\fits .i64 (qm8 (nL (qb6 n.toNat v6) v6)+(↑v8:Int)+(1:Int))/\∃(v11:Nat),Nat.le v11 (qo9 n.toNat (nL (qb6 n.toNat v6) v6)).length/\(qo9 n.toNat (nL (qb6 n.toNat v6) v6)).length-v11<(qo9 n.toNat (nL (qb6 n.toNat v6) v6)).length-v8/\(True/\qm8 (nL (qb6 n.toNat v6) v6)+(↑v8:Int)+(1:Int)=qm8 (nL (qb6 n.toNat v6) v6)+(↑v11:Int)/\True)/\qb6 n.toNat v6++List.take v8 (qo9 n.toNat (nL (qb6 n.toNat v6) v6))++[[]++nL (qb6 n.toNat v2) v2++[qm8 (nL (qb6 n.toNat v6) v6)+(↑v8:Int)]]=qb6 n.toNat v6++List.take v11 (qo9 n.toNat (nL (qb6 n.toNat v6) v6))/\True)/\(decide (qm8 (nL (qb6 n.toNat v6) v6)+(↑v8:Int)<n)=false->fits .i64 ((↑v2:Int)+(1:Int))/\∃(v11:Nat),Nat.le v11 (128:Nat)/\(128:Nat)-v11<(128:Nat)-v2/\(True/\(↑v2:Int)+(1:Int)=(↑v11:Int)/\True)/\qb6 n.toNat v6++List.take v8 (qo9 n.toNat (nL (qb6 n.toNat v6) v6))=qb6 n.toNat v11/\True)))/\(decide ((↑v2:Int)<(↑(qb6 n.toNat v2).length:Int))=false->qb6 n.toNat v2=qc8 n.toNat)) ?_
 obtain⟨hn0,hn7⟩:=h
 have hnn:((n.toNat:Nat):Int)=n:=ow
 refine⟨(),0,zae _,⟨by rfl,by rfl⟩,λk hk=>⟨λhlt0=>?_,λhge=>?_⟩⟩
 ·have hall:=q1q (n:=n.toNat) ow hk
  obtain⟨s,hs⟩:∃s,nL (qb6 n.toNat k) k=s:=⟨_,rfl⟩
  have hsm:=hall.2 s (by grind [qm3,List.getElem_mem])
  have hl1:=hall.1
  have hsl:=hsm.1
  simp only[hs]
  have hel:(qo9 n.toNat s).length=(n-qm8 s).toNat:=by grind [qo9]
  refine⟨hlt0,hlt0,λh0=>?_,λh0=>?_⟩
  ·have hx:=hsm.2 (nI s (s.length-1)) (by grind [qf1,List.getElem_mem])
   have e1:((s.length:Int)-1).toNat=s.length-1:=ow
   rw[e1]
   have hfr:qm8 s=nI s (s.length-1)+1:=by simp_all [qm8,if_pos]
   refine⟨qa3,⟨ow,ow⟩,qa3,?_⟩
   have hfb:0<=qm8 s/\qm8 s<=n:=ow
   refine⟨k,0,?_⟩
   simp only[hs]
   refine⟨zae _,⟨by grind,by simp⟩,λt ht=>⟨λhlt=>⟨ow,ow,by grind,qa3,t+1,ow,ow,ow,?_⟩,λhge=>?_⟩⟩
   ·grind [List.append_assoc,takeL_snoc,qm3,qo9]
   ·have e:t=(qo9 n.toNat s).length:=ow
    subst e
    refine⟨qa3,k+1,ow,ow,ow,?_⟩
    rw[zcy,qb6,zao hlt0,hs]
  ·have hfr:qm8 s=0:=by simp_all [qm8,if_neg]
   have hfb:0<=qm8 s/\qm8 s<=n:=ow
   refine⟨k,0,?_⟩
   simp only[hs]
   refine⟨zae _,⟨ow,by simp⟩,λt ht=>⟨λhlt=>⟨ow,ow,by grind,qa3,t+1,ow,ow,ow,?_⟩,λhge=>?_⟩⟩
   ·grind [List.append_assoc,takeL_snoc,qm3,qo9]
   ·have e:t=(qo9 n.toNat s).length:=ow
    subst e
    refine⟨qa3,k+1,ow,ow,ow,?_⟩
    simp_all [List.take_length,qb6,if_pos]
 ·have:=q8h (n:=n.toNat) (k:=k) ow (128-k)
  rw[show k+(128-k)=128 by omega] at this
  exact this.symm
def qp2 (piv:List Int) (f:Nat):Nat->Bool
 | 0=>true
 | k+1=>qp2 piv f k && (nI piv k != (f:Int))
def q8j (d:List (List Int)) (piv:List Int) (k:Nat):Int:=nI (nL d k) (nI piv k).toNat
def ql4 (d:List (List Int)) (piv:List Int):Nat->Int
 | 0=>1
 | k+1=>(ql4 d piv k).tdiv (gcdI (ql4 d piv k) (q8j d piv k))*q8j d piv k
def q9w (d:List (List Int)) (piv:List Int) (n f:Nat):Nat->List Int
 | 0=>(List.replicate n 0).set f (ql4 d piv piv.length)
 | k+1=>(q9w d piv n f k).set (nI piv k).toNat ((0-nI (nL d k) f)*(ql4 d piv piv.length).tdiv (q8j d piv k))
def qh4 (d:List (List Int)) (piv:List Int) (n:Nat):Nat->List (List Int)
 | 0=>[]
 | f+1=>if qp2 piv f piv.length then qh4 d piv n f++[qk1 (q9w d piv n f piv.length)] else qh4 d piv n f
def qf8 (rows:List (List Int)):List (List Int):=qh4 (qb5 rows).1 (qb5 rows).2 (rdW rows) (rdW rows)
structure ye2 (d:List (List Int)) (piv:List Int) (n:Nat):Prop where
 cnt:d.length=piv.length
 each:∀k,k<d.length->(nL d k).length=n
 pv:∀k,k<piv.length->0<=nI piv k/\nI piv k<n
 nz:∀k,k<piv.length->q8j d piv k≠0
 big:∀k,k<piv.length->∀i,i<n->qc0 BIG (nI (nL d k) i)
 al:∀f,f<n->qp2 piv f piv.length=true->∀k,k<=piv.length->qc0 BIG (ql4 d piv k)
 pr:∀f,f<n->qp2 piv f piv.length=true->∀k,k<piv.length->qc0 BIG ((0-nI (nL d k) f)*(ql4 d piv piv.length).tdiv (q8j d piv k))
structure x6x (rows:List (List Int)):Prop where
 rd:xe5 rows
 one:1<=rows.length
 ar:ye2 (qb5 rows).1 (qb5 rows).2 (rdW rows)
theorem q4o (d:List (List Int)) (piv:List Int) (n f:Nat):∀k,(q9w d piv n f k).length=n
 | 0=>by simp[q9w]
 | k+1=>by rw[q9w,za7]; exact q4o d piv n f k
theorem we0 (d:List (List Int)) (piv:List Int) (n:Nat):∀f,(qh4 d piv n f).length<=f
 | 0=>zab _
 | f+1=>by
  have:=we0 d piv n f
  grind [qh4]
theorem wl1 {d:List (List Int)} {piv:List Int} {n f:Nat} (h:ye2 d piv n) (hf:f<n) (hfree:qp2 piv f piv.length=true):∀k,k<=piv.length->∀x∈q9w d piv n f k,qc0 BIG x
 | 0,_,x,hx=>by
  rw[q9w] at hx
  rcases zau hx with hx | rfl
  ·obtain rfl:=(zc2.1 hx).2
   grind [BIG]
  ·exact h.al f hf hfree _ (zab _)
 | k+1,hk,x,hx=>by
  rw[q9w] at hx
  rcases zau hx with hx | rfl
  ·exact wl1 h hf hfree k ow x hx
  ·exact h.pr f hf hfree k ow
abbrev sKr:qb3:=qe8 false none [tMask] [tMask] (λx=>x6x x.1) (λx=>(qf8 x.1,()))
def yx7 (rows:List (List Int)):Nat->Option Inv
 | 0=>some (Inv.of [5,25] 1 (λf:Nat=>[(5,.own 0),(25,.lit (.int .i64 f))]) (λf=>[.vec 24 (.list (.int .i64)) (qh4 (qb5 rows).1 (qb5 rows).2 (rdW rows) f)]) (λf=>f<=rdW rows) (λf=>rdW rows-f))
 | 1=>some (Eng.Inv.mk Nat Nat [5,7,30] 1 (λf k=>[(5,.own 0),(7,.lit (.bool (qp2 (qb5 rows).2 f k))),(30,.lit (.int .i64 k))]) (λf k=>[.vec 24 (.list (.int .i64)) (qh4 (qb5 rows).1 (qb5 rows).2 (rdW rows) f)]) (λf k=>k<=(qb5 rows).2.length) (λf k=>(qb5 rows).2.length-k))
 | 2=>some (Eng.Inv.mk Nat Nat [5,10,45] 1 (λf k=>[(5,.own 0),(10,.lit (.int .i64 (ql4 (qb5 rows).1 (qb5 rows).2 k))),(45,.lit (.int .i64 k))]) (λf k=>[.vec 24 (.list (.int .i64)) (qh4 (qb5 rows).1 (qb5 rows).2 (rdW rows) f)]) (λf k=>k<=(qb5 rows).2.length) (λf k=>(qb5 rows).2.length-k))
 | 3=>some (Eng.Inv.mk Nat Nat [5,13,81] 2 (λf k=>[(5,.own 0),(13,.own 1),(81,.lit (.int .i64 k))]) (λf k=>[.vec 24 (.list (.int .i64)) (qh4 (qb5 rows).1 (qb5 rows).2 (rdW rows) f),.vec 3 (.int .i64) (q9w (qb5 rows).1 (qb5 rows).2 (rdW rows) f k)]) (λf k=>k<=(qb5 rows).2.length) (λf k=>(qb5 rows).2.length-k))
 | _=>none
theorem wv9 {rows:List (List Int)} (h:xe5 rows):(qb5 rows).1.length<=1000:=by
 have:=(w1h h (rdW rows)).dn
 have:=h.w
 show(qf9 rows (rdW rows)).done_.length<=1000
 omega
theorem x8w {d:List (List Int)} {P:List Int} {n:Nat} (h:ye2 d P n) (hn:d.length<=1000:=by omega):P.length<=1000:=by have:=h.cnt; omega
theorem xy5:Meets Tryz.prog 199 sKr:=by
 refine mts (SpecsOk.cons w37 (SpecsOk.cons q5h (SpecsOk.cons q3i (SpecsOk.nil _)))) Tryz.func199 (λx=>yx7 x.1) ?_
 rintro⟨rows,⟨⟩⟩ h
 revert rows
 intro(rows:List (List Int)) (h:x6x rows)
 refine vcs (let Q0:=qb5 rows; let Q1:=rdW rows; xe5 rows/\((0:Int)<=(0:Int)/\(0:Int)<(↑rows.length:Int))/\∃(v0:Unit),∃(v1:Nat),Nat.le v1 Q1/\((True/\(0:Int)=(↑v1:Int)/\True)/\qh4 Q0.1 Q0.2 Q1 v1=[]/\True)/\∀(v2:Nat),Nat.le v2 Q1->(decide ((↑v2:Int)<(↑(nL rows (0:Nat)).length:Int))=true->∃(v5:Nat),∃(v6:Nat),Nat.le v6 Q0.2.length/\((True/\true=qp2 Q0.2 v5 v6/\(0:Int)=(↑v6:Int)/\True)/\qh4 Q0.1 Q0.2 Q1 v2=qh4 Q0.1 Q0.2 Q1 v5/\True)/\∀(v7:Nat),Nat.le v7 Q0.2.length->(decide ((↑v7:Int)<(↑Q0.2.length:Int))=true->((0:Int)<=(↑v7:Int)/\(↑v7:Int)<(↑Q0.2.length:Int))/\(qp2 Q0.2 v5 v7=true->fits .i64 ((↑v7:Int)+(1:Int))/\∃(v11:Nat),Nat.le v11 Q0.2.length/\Q0.2.length-v11<Q0.2.length-v7/\(True/\(nI Q0.2 v7 != (↑v2:Int))=qp2 Q0.2 v5 v11/\(↑v7:Int)+(1:Int)=(↑v11:Int)/\True)/\qh4 Q0.1 Q0.2 Q1 v5=qh4 Q0.1 Q0.2 Q1 v5/\True)/\(qp2 Q0.2 v5 v7=false->fits .i64 ((↑v7:Int)+(1:Int))/\∃(v11:Nat),Nat.le v11 Q0.2.length/\Q0.2.length-v11<Q0.2.length-v7/\(True/\false=qp2 Q0.2 v5 v11/\(↑v7:Int)+(1:Int)=(↑v11:Int)/\True)/\qh4 Q0.1 Q0.2 Q1 v5=qh4 Q0.1 Q0.2 Q1 v5/\True))/\(decide ((↑v7:Int)<(↑Q0.2.length:Int))=false->((!qp2 Q0.2 v5 v7)=true->fits .i64 ((↑v2:Int)+(1:Int))/\∃(v11:Nat),Nat.le v11 Q1/\rdW rows-v11<rdW rows-v2/\(True/\(↑v2:Int)+(1:Int)=(↑v11:Int)/\True)/\qh4 Q0.1 Q0.2 Q1 v5=qh4 Q0.1 Q0.2 Q1 v11/\True)/\((!qp2 Q0.2 v5 v7)=false->∃(v11:Nat),∃(v12:Nat),Nat.le v12 Q0.2.length/\((True/\(1:Int)=ql4 Q0.1 Q0.2 v12/\(0:Int)=(↑v12:Int)/\True)/\qh4 Q0.1 Q0.2 Q1 v5=qh4 Q0.1 Q0.2 Q1 v11/\True)/\∀(v13:Nat),Nat.le v13 Q0.2.length->(decide ((↑v13:Int)<(↑Q0.2.length:Int))=true->((0:Int)<=(↑v13:Int)/\(↑v13:Int)<(↑Q0.2.length:Int))/\((0:Int)<=(↑v13:Int)/\(↑v13:Int)<(↑Q0.1.length:Int))/\((0:Int)<=nI Q0.2 v13/\nI Q0.2 v13<(↑(nL Q0.1 v13).length:Int))/\(((-4000000000000000000:Int)<=ql4 Q0.1 Q0.2 v13/\ql4 Q0.1 Q0.2 v13<=BIG)/\(-4000000000000000000:Int)<=nI (nL Q0.1 v13) (nI Q0.2 v13).toNat/\nI (nL Q0.1 v13) (nI Q0.2 v13).toNat<=BIG)/\gcdI (ql4 Q0.1 Q0.2 v13) (nI (nL Q0.1 v13) (nI Q0.2 v13).toNat)≠(0:Int)/\fits .i64 (Int.tdiv (ql4 Q0.1 Q0.2 v13) (gcdI (ql4 Q0.1 Q0.2 v13) (nI (nL Q0.1 v13) (nI Q0.2 v13).toNat)))/\((0:Int)<=(↑v13:Int)/\(↑v13:Int)<(↑Q0.1.length:Int))/\((0:Int)<=nI Q0.2 v13/\nI Q0.2 v13<(↑(nL Q0.1 v13).length:Int))/\fits .i64 (Int.tdiv (ql4 Q0.1 Q0.2 v13) (gcdI (ql4 Q0.1 Q0.2 v13) (nI (nL Q0.1 v13) (nI Q0.2 v13).toNat))*nI (nL Q0.1 v13) (nI Q0.2 v13).toNat)/\fits .i64 ((↑v13:Int)+(1:Int))/\∃(v16:Nat),Nat.le v16 Q0.2.length/\Q0.2.length-v16<Q0.2.length-v13/\(True/\Int.tdiv (ql4 Q0.1 Q0.2 v13) (gcdI (ql4 Q0.1 Q0.2 v13) (nI (nL Q0.1 v13) (nI Q0.2 v13).toNat))*nI (nL Q0.1 v13) (nI Q0.2 v13).toNat=ql4 Q0.1 Q0.2 v16/\(↑v13:Int)+(1:Int)=(↑v16:Int)/\True)/\qh4 Q0.1 Q0.2 Q1 v11=qh4 Q0.1 Q0.2 Q1 v11/\True)/\(decide ((↑v13:Int)<(↑Q0.2.length:Int))=false->((0:Int)<=(0:Int)/\(0:Int)<(↑rows.length:Int))/\((↑(nL rows (0:Nat)).length:Int)=(↑(nL rows (0:Nat)).length:Int)/\(0:Int)<=(↑(nL rows (0:Nat)).length:Int)/\(↑(nL rows (0:Nat)).length:Int)<=(1000000:Int))/\((0:Int)<=(↑v2:Int)/\(↑v2:Int)<(↑(List.replicate (↑(nL rows (0:Nat)).length:Int).toNat (Ty.dflt (TI.ty T3))).length:Int))/\v2<(List.replicate (↑(nL rows (0:Nat)).length:Int).toNat (Ty.dflt (TI.ty T3))).length/\∃(v16:Nat),∃(v17:Nat),Nat.le v17 Q0.2.length/\((True/\True/\(0:Int)=(↑v17:Int)/\True)/\qh4 Q0.1 Q0.2 Q1 v11=qh4 Q0.1 Q0.2 Q1 v16/\List.set (List.replicate (↑(nL rows (0:Nat)).length:Int).toNat (Ty.dflt (TI.ty T3))) v2 (ql4 Q0.1 Q0.2 v13)=q9w Q0.1 Q0.2 Q1 v16 v17/\True)/\∀(v18:Nat),Nat.le v18 Q0.2.length->(decide ((↑v18:Int)<(↑Q0.2.length:Int))=true->((0:Int)<=(↑v18:Int)/\(↑v18:Int)<(↑Q0.2.length:Int))/\((0:Int)<=(↑v18:Int)/\(↑v18:Int)<(↑Q0.1.length:Int))/\((0:Int)<=(↑v2:Int)/\(↑v2:Int)<(↑(nL Q0.1 v18).length:Int))/\fits .i64 ((0:Int)-nI (nL Q0.1 v18) v2)/\((0:Int)<=(↑v18:Int)/\(↑v18:Int)<(↑Q0.1.length:Int))/\((0:Int)<=nI Q0.2 v18/\nI Q0.2 v18<(↑(nL Q0.1 v18).length:Int))/\nI (nL Q0.1 v18) (nI Q0.2 v18).toNat≠(0:Int)/\fits .i64 (Int.tdiv (ql4 Q0.1 Q0.2 v13) (nI (nL Q0.1 v18) (nI Q0.2 v18).toNat))/\fits .i64 (((0:Int)-nI (nL Q0.1 v18) v2)*Int.tdiv (ql4 Q0.1 Q0.2 v13) (nI (nL Q0.1 v18) (nI Q0.2 v18).toNat))/\((0:Int)<=nI Q0.2 v18/\nI Q0.2 v18<(↑(q9w Q0.1 Q0.2 Q1 v16 v18).length:Int))/\(nI Q0.2 v18).toNat<(q9w Q0.1 Q0.2 Q1 v16 v18).length/\fits .i64 ((↑v18:Int)+(1:Int))/\∃(v21:Nat),Nat.le v21 Q0.2.length/\Q0.2.length-v21<Q0.2.length-v18/\(True/\True/\(↑v18:Int)+(1:Int)=(↑v21:Int)/\True)/\qh4 Q0.1 Q0.2 Q1 v16=qh4 Q0.1 Q0.2 Q1 v16/\List.set (q9w Q0.1 Q0.2 Q1 v16 v18) (nI Q0.2 v18).toNat (((0:Int)-nI (nL Q0.1 v18) v2)*Int.tdiv (ql4 Q0.1 Q0.2 v13) (nI (nL Q0.1 v18) (nI Q0.2 v18).toNat))=q9w Q0.1 Q0.2 Q1 v16 v21/\True)/\(decide ((↑v18:Int)<(↑Q0.2.length:Int))=false->q5d (q9w Q0.1 Q0.2 Q1 v16 v18)/\((0:Nat)<(0:Nat)+(1:Nat)/\Nat.le ((qh4 Q0.1 Q0.2 Q1 v16).length+((0:Nat)+(1:Nat))) (1000000:Nat))/\fits .i64 ((↑v2:Int)+(1:Int))/\∃(v21:Nat),Nat.le v21 Q1/\rdW rows-v21<rdW rows-v2/\(True/\(↑v2:Int)+(1:Int)=(↑v21:Int)/\True)/\qh4 Q0.1 Q0.2 Q1 v16++[qk1 (q9w Q0.1 Q0.2 Q1 v16 v18)]=qh4 Q0.1 Q0.2 Q1 v21/\True)))))/\(decide ((↑v2:Int)<(↑(nL rows (0:Nat)).length:Int))=false->qh4 Q0.1 Q0.2 Q1 v2=qf8 rows)) ?_
 have h1:=h.one
 have hw:=h.rd.w
 have har:=h.ar
 have hdl:=wv9 h.rd
 refine⟨h.rd,ow,?_⟩
 rw[show(nL rows 0).length=rdW rows from rfl]
 unfold qf8
 generalize qb5 rows=K at *
 obtain⟨d,P⟩:=K
 dsimp only at har hdl ⊢
 have hcnt:=har.cnt
 refine⟨(),0,zae _,⟨rfl,rfl⟩,λf hf=>⟨λhlt=>?_,λhge=>?_⟩⟩
 ·refine⟨f,0,zae _,⟨⟨rfl,rfl⟩,rfl⟩,λk hk=>⟨λhlk=>⟨hlk,λht=>⟨qa3 ?_ ?_,k+1,hlk,ow,by rw[qp2,ht,ze2],ow⟩,λht=>⟨qa3 ?_ ?_,k+1,hlk,ow,by rw[qp2,ht,Bool.false_and],ow⟩⟩,λhgk=>?_⟩⟩
  ·omega
  ·omega
  ·omega
  ·omega
  obtain rfl:k=P.length:=ow
  refine⟨λhfree=>⟨qa3,f+1,ow,ow,ow,by simp_all [qh4,if_neg]⟩,λhfree=>?_⟩
  refine⟨f,0,zae _,⟨⟨rfl,rfl⟩,rfl⟩,λk hk=>⟨λhlk=>?_,λhgk=>?_⟩⟩
  ·have hp:=har.pv k hlk
   have hr:=har.each k ow
   have hp':0<=nI P k/\nI P k<((nL d k).length:Int):=⟨hp.1,ow⟩
   have hb1:=har.big k hlk (nI P k).toNat ow
   have hz:=har.nz k hlk
   have ha:=har.al f hlt hfree k hk
   have ha2:=har.al f hlt hfree (k+1) hlk
   have e1:nI (nL d k) (nI P k).toNat=q8j d P k:=rfl
   rw[e1] at hb1 ⊢
   have e2:ql4 d P (k+1)=(ql4 d P k).tdiv (gcdI (ql4 d P k) (q8j d P k))*q8j d P k:=rfl
   rw[<- e2]
   have hq:qc0 BIG ((ql4 d P k).tdiv (gcdI (ql4 d P k) (q8j d P k))):=ql7 ha
   have g1:=ql9 (a:=ql4 d P k) (b:=q8j d P k) (Or.inr hz)
   have hpl:=x8w har
   have hB:BIG=4000000000000000000:=rfl
   unfold qc0 at *
   refine⟨hlk,ow,hp',⟨ha,hb1⟩,ow,qa3,ow,hp',qa3,qa3,k+1,hlk,ow,rfl,ow⟩
  ·obtain rfl:k=P.length:=ow
   have hl0:(List.replicate (rdW rows) T3.ty.dflt).length=rdW rows:=zbh
   refine⟨ow,ow,ow,ow,f,0,zae _,⟨rfl,rfl,rfl⟩,λk hk=>⟨λhlk=>?_,λhgk=>?_⟩⟩
   ·have hp:=har.pv k hlk
    have hr:=har.each k ow
    have hp':0<=nI P k/\nI P k<((nL d k).length:Int):=⟨hp.1,ow⟩
    have hb2:=har.big k hlk f hlt
    have hz:=har.nz k hlk
    have hpr:=har.pr f hlt hfree k hlk
    have ha:=har.al f hlt hfree P.length (zab _)
    have e1:nI (nL d k) (nI P k).toNat=q8j d P k:=rfl
    rw[e1]
    have hq:qc0 BIG ((ql4 d P P.length).tdiv (q8j d P k)):=ql7 ha
    have hl:=q4o d P (rdW rows) f k
    have hp'':0<=nI P k/\nI P k<((q9w d P (rdW rows) f k).length:Int):=⟨hp.1,ow⟩
    have hpl:=x8w har
    have hB:BIG=4000000000000000000:=rfl
    unfold qc0 at *
    refine⟨hlk,ow,ow,qa3,ow,hp',hz,qa3,qa3,hp'',ow,qa3,k+1,hlk,ow,ow,rfl⟩
   ·obtain rfl:k=P.length:=ow
    have hl:=q4o d P (rdW rows) f P.length
    have hkl:=we0 d P (rdW rows) f
    refine⟨⟨ow,wl1 har hlt hfree _ (zab _)⟩,ow,qa3,f+1,ow,ow,ow,?_⟩
    rw[qh4,zao hfree]
 grind
end Go.Proofs.YtnchigbbjajiiaaGreat
