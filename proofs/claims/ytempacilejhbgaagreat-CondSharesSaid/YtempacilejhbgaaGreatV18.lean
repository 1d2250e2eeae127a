/- The reference's kernel vectors: contract by the engine. No condition. -/
import Derived.Test.YtempacilejhbgaaGreatV16
set_option linter.unusedVariables false
set_option linter.unusedSimpArgs false
namespace Go.Proofs.YtempacilejhbgaaGreat
open Go Go.RowKit Eng
def nF (l:List (List Int × List (Int × Int))) (i:Nat):List Int × List (Int × Int):=qa1 (.prod (.list (.int .i64)) (.list (.prod (.int .i64) (.int .i64)))) l i
def ql5 (s:List Int):Int:=if 0<s.length then nI s (s.length-1)+1 else 0
def qm1 (n:Nat) (s:List Int):List (List Int):=(List.range ((n:Int)-ql5 s).toNat).map λt:Nat=>s++[ql5 s+t]
def qb8 (n:Nat):Nat->List (List Int)
 | 0=>[[]]
 | k+1=>if k<(qb8 n k).length then qb8 n k++qm1 n (nL (qb8 n k) k) else qb8 n k
def qe0 (n:Nat):List (List Int):=qb8 n 128
theorem q8c (n k:Nat):∀j,∃t,qb8 n (k+j)=qb8 n k++t
 | 0=>⟨[],by simp⟩
 | j+1=>by
  obtain⟨t,ht⟩:=q8c n k j
  rw[<- Nat.add_assoc,qb8]
  split
  ·exact⟨t++qm1 n (nL (qb8 n (k+j)) (k+j)),by rw[<- List.append_assoc,<- ht]⟩
  ·exact⟨t,ht⟩
theorem q6d {n k:Nat} (h:(qb8 n k).length<=k):∀j,qb8 n (k+j)=qb8 n k
 | 0=>rfl
 | j+1=>by
  have:=q6d h j
  rw[<- Nat.add_assoc,qb8,this,if_neg (by omega)]
def w5h (n:Nat):Bool:=decide ((qb8 n 128).length<=128) && (qb8 n 128).all λs=>decide (s.length<=7) && s.all λx=>decide (0<=x) && decide (x<n)
theorem wp2:((List.range 8).all λn=>w5h n)=true:=by decide +kernel
theorem w15 {n:Nat} (h:n<=7):(qb8 n 128).length<=128/\∀s∈qb8 n 128,s.length<=7/\∀x∈s,0<=x/\x<n:=by
 have:=List.all_eq_true.1 wp2 n (List.mem_range.2 (by omega))
 unfold w5h at this
 rw[Bool.and_eq_true,decide_eq_true_eq,List.all_eq_true] at this
 refine⟨this.1,λs hs=>?_⟩
 have h2:=this.2 s hs
 rw[Bool.and_eq_true,decide_eq_true_eq,List.all_eq_true] at h2
 refine⟨h2.1,λx hx=>?_⟩
 have:=h2.2 x hx
 simpa using this
theorem wi7 {n k:Nat} (h:n<=7) (hk:k<=128):(qb8 n k).length<=128/\∀s∈qb8 n k,s.length<=7/\∀x∈s,0<=x/\x<n:=by
 obtain⟨t,ht⟩:=q8c n k (128-k)
 rw[show k+(128-k)=128 by omega] at ht
 have:=w15 h
 rw[ht] at this
 refine⟨by have:=this.1; simp at this; omega,λs hs=>this.2 s (by simp[hs])⟩
abbrev xs3:qc0:=qg7 false none [qd6] [qk0] (λx=>0<=x.1/\x.1<=7) (λx=>(qe0 x.1.toNat,()))
def xj0 (n:Nat):Nat->Option Inv
 | 0=>some (Inv.of [3,4] 1 (λk:Nat=>[(3,.own 0),(4,.lit (.int .i64 k))]) (λk=>[.vec 24 (.list (.int .i64)) (qb8 n k)]) (λk=>k<=128) (λk=>128-k))
 | 1=>some (Eng.Inv.mk Nat Nat [3,7] 1 (λk t=>[(3,.own 0),(7,.lit (.int .i64 (ql5 (nL (qb8 n k) k)+t)))]) (λk t=>[.vec 24 (.list (.int .i64)) (qb8 n k++(qm1 n (nL (qb8 n k) k)).take t)]) (λk t=>t<=(qm1 n (nL (qb8 n k) k)).length) (λk t=>(qm1 n (nL (qb8 n k) k)).length-t))
 | _=>none
theorem wp3:qd7 Tryz.prog 137 xs3:=by
 refine meets (xq5 [8] [38] (SpecsOk.nil _)) Tryz.func137 rfl rfl (λx=>xj0 x.1.toNat) (λ_=>by kernel_rfl) (by decide) ?_
 rintro⟨n,⟨⟩⟩ h
 revert n
 intro(n:Int) (h:0<=n/\n<=7)
 refine @qe1 _ (let Q0:=Int.toNat n; Value.slice none (0:Nat) (0:Nat)=Value.slice none (0:Nat) (0:Nat)/\∃(v0:Unit),∃(v1:Nat),Nat.le v1 (128:Nat)/\((True/\(0:Int)=(↑v1:Int)/\True)/\[[]]=qb8 Q0 v1/\True)/\∀(v2:Nat),Nat.le v2 (128:Nat)->(decide ((↑v2:Int)<(↑(List.length (qb8 Q0 v2)):Int))=true->((0:Int)<=(↑v2:Int)/\(↑v2:Int)<(↑(List.length (qb8 Q0 v2)):Int))/\Int.toNat (↑v2:Int)<List.length (qb8 Q0 v2)/\(decide ((0:Int)<(↑(List.length (qa1 (Ty.list (Ty.int .i64)) (qb8 Q0 v2) (Int.toNat (↑v2:Int)))):Int))=true->fits .i64 ((↑(List.length (qa1 (Ty.list (Ty.int .i64)) (qb8 Q0 v2) (Int.toNat (↑v2:Int)))):Int)-(1:Int))/\((0:Int)<=(↑(List.length (qa1 (Ty.list (Ty.int .i64)) (qb8 Q0 v2) (Int.toNat (↑v2:Int)))):Int)-(1:Int)/\(↑(List.length (qa1 (Ty.list (Ty.int .i64)) (qb8 Q0 v2) (Int.toNat (↑v2:Int)))):Int)-(1:Int)<(↑(List.length (qa1 (Ty.list (Ty.int .i64)) (qb8 Q0 v2) (Int.toNat (↑v2:Int)))):Int))/\fits .i64 (qa1 (Ty.int .i64) (qa1 (Ty.list (Ty.int .i64)) (qb8 Q0 v2) (Int.toNat (↑v2:Int))) (Int.toNat ((↑(List.length (qa1 (Ty.list (Ty.int .i64)) (qb8 Q0 v2) (Int.toNat (↑v2:Int)))):Int)-(1:Int)))+(1:Int))/\∃(v6:Nat),∃(v7:Nat),Nat.le v7 (List.length (qm1 Q0 (nL (qb8 Q0 v6) v6)))/\((True/\qa1 (Ty.int .i64) (qa1 (Ty.list (Ty.int .i64)) (qb8 Q0 v2) (Int.toNat (↑v2:Int))) (Int.toNat ((↑(List.length (qa1 (Ty.list (Ty.int .i64)) (qb8 Q0 v2) (Int.toNat (↑v2:Int)))):Int)-(1:Int)))+(1:Int)=ql5 (nL (qb8 Q0 v6) v6)+(↑v7:Int)/\True)/\qb8 Q0 v2=qb8 Q0 v6++List.take v7 (qm1 Q0 (nL (qb8 Q0 v6) v6))/\True)/\∀(v8:Nat),Nat.le v8 (List.length (qm1 Q0 (nL (qb8 Q0 v6) v6)))->(decide (ql5 (nL (qb8 Q0 v6) v6)+(↑v8:Int)<n)=true->Nat.le ((0:Nat)+List.length (qa1 (Ty.list (Ty.int .i64)) (qb8 Q0 v2) (Int.toNat (↑v2:Int)))) (1000000:Nat)/\((0:Nat)<List.length [ql5 (nL (qb8 Q0 v6) v6)+(↑v8:Int)]/\Nat.le (List.length ([]++qa1 (Ty.list (Ty.int .i64)) (qb8 Q0 v2) (Int.toNat (↑v2:Int)))+List.length [ql5 (nL (qb8 Q0 v6) v6)+(↑v8:Int)]) (1000000:Nat))/\((0:Nat)<List.length [[]++qa1 (Ty.list (Ty.int .i64)) (qb8 Q0 v2) (Int.toNat (↑v2:Int))++[ql5 (nL (qb8 Q0 v6) v6)+(↑v8:Int)]]/\Nat.le (List.length (qb8 Q0 v6++List.take v8 (qm1 Q0 (nL (qb8 Q0 v6) v6)))+List.length [[]++qa1 (Ty.list (Ty.int .i64)) (qb8 Q0 v2) (Int.toNat (↑v2:Int))++[ql5 (nL (qb8 Q0 v6) v6)+(↑v8:Int)]]) (1000000:Nat))/\fits .i64 (ql5 (nL (qb8 Q0 v6) v6)+(↑v8:Int)+(1:Int))/\∃(v11:Nat),Nat.le v11 (List.length (qm1 Q0 (nL (qb8 Q0 v6) v6)))/\List.length (qm1 Q0 (nL (qb8 Q0 v6) v6))-v11<List.length (qm1 Q0 (nL (qb8 Q0 v6) v6))-v8/\(True/\ql5 (nL (qb8 Q0 v6) v6)+(↑v8:Int)+(1:Int)=ql5 (nL (qb8 Q0 v6) v6)+(↑v11:Int)/\True)/\qb8 Q0 v6++List.take v8 (qm1 Q0 (nL (qb8 Q0 v6) v6))++[[]++qa1 (Ty.list (Ty.int .i64)) (qb8 Q0 v2) (Int.toNat (↑v2:Int))++[ql5 (nL (qb8 Q0 v6) v6)+(↑v8:Int)]]=qb8 Q0 v6++List.take v11 (qm1 Q0 (nL (qb8 Q0 v6) v6))/\True)/\(decide (ql5 (nL (qb8 Q0 v6) v6)+(↑v8:Int)<n)=false->fits .i64 ((↑v2:Int)+(1:Int))/\∃(v11:Nat),Nat.le v11 (128:Nat)/\(128:Nat)-v11<(128:Nat)-v2/\(True/\(↑v2:Int)+(1:Int)=(↑v11:Int)/\True)/\qb8 Q0 v6++List.take v8 (qm1 Q0 (nL (qb8 Q0 v6) v6))=qb8 Q0 v11/\True))/\(decide ((0:Int)<(↑(List.length (qa1 (Ty.list (Ty.int .i64)) (qb8 Q0 v2) (Int.toNat (↑v2:Int)))):Int))=false->∃(v6:Nat),∃(v7:Nat),Nat.le v7 (List.length (qm1 Q0 (nL (qb8 Q0 v6) v6)))/\((True/\(0:Int)=ql5 (nL (qb8 Q0 v6) v6)+(↑v7:Int)/\True)/\qb8 Q0 v2=qb8 Q0 v6++List.take v7 (qm1 Q0 (nL (qb8 Q0 v6) v6))/\True)/\∀(v8:Nat),Nat.le v8 (List.length (qm1 Q0 (nL (qb8 Q0 v6) v6)))->(decide (ql5 (nL (qb8 Q0 v6) v6)+(↑v8:Int)<n)=true->Nat.le ((0:Nat)+List.length (qa1 (Ty.list (Ty.int .i64)) (qb8 Q0 v2) (Int.toNat (↑v2:Int)))) (1000000:Nat)/\((0:Nat)<List.length [ql5 (nL (qb8 Q0 v6) v6)+(↑v8:Int)]/\Nat.le (List.length ([]++qa1 (Ty.list (Ty.int .i64)) (qb8 Q0 v2) (Int.toNat (↑v2:Int)))+List.length [ql5 (nL (qb8 Q0 v6) v6)+(↑v8:Int)]) (1000000:Nat))/\((0:Nat)<List.length [[]++qa1 (Ty.list (Ty.int .i64)) (qb8 Q0 v2) (Int.toNat (↑v2:Int))++[ql5 (nL (qb8 Q0 v6) v6)+(↑v8:Int)]]/\Nat.le (List.length (qb8 Q0 v6++List.take v8 (qm1 Q0 (nL (qb8 Q0 v6) v6)))+List.length [[]++qa1 (Ty.list (Ty.int .i64)) (qb8 Q0 v2) (Int.toNat (↑v2:Int))++[ql5 (nL (qb8 Q0 v6) v6)+(↑v8:Int)]]) (1000000:Nat))/\fits .i64 (ql5 (nL (qb8 Q0 v6) v6)+(↑v8:Int)+(1:Int))/\∃(v11:Nat),Nat.le v11 (List.length (qm1 Q0 (nL (qb8 Q0 v6) v6)))/\List.length (qm1 Q0 (nL (qb8 Q0 v6) v6))-v11<List.length (qm1 Q0 (nL (qb8 Q0 v6) v6))-v8/\(True/\ql5 (nL (qb8 Q0 v6) v6)+(↑v8:Int)+(1:Int)=ql5 (nL (qb8 Q0 v6) v6)+(↑v11:Int)/\True)/\qb8 Q0 v6++List.take v8 (qm1 Q0 (nL (qb8 Q0 v6) v6))++[[]++qa1 (Ty.list (Ty.int .i64)) (qb8 Q0 v2) (Int.toNat (↑v2:Int))++[ql5 (nL (qb8 Q0 v6) v6)+(↑v8:Int)]]=qb8 Q0 v6++List.take v11 (qm1 Q0 (nL (qb8 Q0 v6) v6))/\True)/\(decide (ql5 (nL (qb8 Q0 v6) v6)+(↑v8:Int)<n)=false->fits .i64 ((↑v2:Int)+(1:Int))/\∃(v11:Nat),Nat.le v11 (128:Nat)/\(128:Nat)-v11<(128:Nat)-v2/\(True/\(↑v2:Int)+(1:Int)=(↑v11:Int)/\True)/\qb8 Q0 v6++List.take v8 (qm1 Q0 (nL (qb8 Q0 v6) v6))=qb8 Q0 v11/\True)))/\(decide ((↑v2:Int)<(↑(List.length (qb8 Q0 v2)):Int))=false->qb8 Q0 v2=qe0 Q0)) (by kernel_rfl) ?_
 try simp only[z0,z1,z2,z3,z4,z5,z6,z7,z8,z9,z10,Int.reduceEq,z11,z12,z13,z14,z15,z16,z17,z18,z19,z20,z21,z22,z23,z24,z25,z26,z27,z28,z29,z30,Int.reduceLE,Int.reduceLT,z31,z32,z33,z34,qa4]
 try simp only[qb3,qb4,qb9,List.set_cons_zero,List.cons.injEq,and_true,true_and]
 obtain⟨hn0,hn7⟩:=h
 have hnn:((n.toNat:Nat):Int)=n:=by omega
 refine⟨(),0,Nat.zero_le _,⟨by first | rfl | trivial,by first | rfl | trivial⟩,λk hk=>⟨λhlt0=>?_,λhge=>?_⟩⟩
 ·have hall:=wi7 (n:=n.toNat) (by omega) hk
  obtain⟨s,hs⟩:∃s,nL (qb8 n.toNat k) k=s:=⟨_,rfl⟩
  have hsm:=hall.2 s (by rw[<- hs,ql4 _ k hlt0]; exact List.getElem_mem hlt0)
  have hl1:=hall.1
  have hsl:=hsm.1
  simp only[hs]
  have hel:(qm1 n.toNat s).length=(n-ql5 s).toNat:=by simp[qm1,hnn]
  refine⟨hlt0,hlt0,λh0=>?_,λh0=>?_⟩
  ·have hx:=hsm.2 (nI s (s.length-1)) (by rw[qg5 s _ (by omega)]; exact List.getElem_mem _)
   have e1:((s.length:Int)-1).toNat=s.length-1:=by omega
   rw[e1]
   have hfr:ql5 s=nI s (s.length-1)+1:=by unfold ql5; rw[if_pos (by omega)]
   refine⟨qa7 (by omega) (by omega),⟨by omega,by omega⟩,qa7 (by omega) (by omega),?_⟩
   have hfb:0<=ql5 s/\ql5 s<=n:=by omega
   refine⟨k,0,?_⟩
   simp only[hs]
   refine⟨Nat.zero_le _,⟨by rw[hfr]; simp,by simp⟩,λt ht=>⟨λhlt=>⟨by omega,by omega,by rw[List.length_append,List.length_take]; omega,qa7 (by omega) (by omega),t+1,by omega,by omega,by omega,?_⟩,λhge=>?_⟩⟩
   ·rw[List.append_assoc,takeL_snoc _ t (by omega),ql4 (qm1 n.toNat s) t (by omega)]
    simp[qm1]
   ·have e:t=(qm1 n.toNat s).length:=by omega
    subst e
    refine⟨qa7 (by omega) (by omega),k+1,by omega,by omega,by omega,?_⟩
    rw[List.take_length,qb8,if_pos hlt0,hs]
  ·have hfr:ql5 s=0:=by unfold ql5; rw[if_neg (by omega)]
   have hfb:0<=ql5 s/\ql5 s<=n:=by omega
   refine⟨k,0,?_⟩
   simp only[hs]
   refine⟨Nat.zero_le _,⟨by rw[hfr]; simp,by simp⟩,λt ht=>⟨λhlt=>⟨by omega,by omega,by rw[List.length_append,List.length_take]; omega,qa7 (by omega) (by omega),t+1,by omega,by omega,by omega,?_⟩,λhge=>?_⟩⟩
   ·rw[List.append_assoc,takeL_snoc _ t (by omega),ql4 (qm1 n.toNat s) t (by omega)]
    simp[qm1]
   ·have e:t=(qm1 n.toNat s).length:=by omega
    subst e
    refine⟨qa7 (by omega) (by omega),k+1,by omega,by omega,by omega,?_⟩
    rw[List.take_length,qb8,if_pos hlt0,hs]
 ·have:=q6d (n:=n.toNat) (k:=k) (by omega) (128-k)
  rw[show k+(128-k)=128 by omega] at this
  exact this.symm
def ql8 (piv:List Int) (f:Nat):Nat->Bool
 | 0=>true
 | k+1=>ql8 piv f k && (nI piv k != (f:Int))
def q6e (d:List (List Int)) (piv:List Int) (k:Nat):Int:=nI (nL d k) (nI piv k).toNat
def qk1 (d:List (List Int)) (piv:List Int):Nat->Int
 | 0=>1
 | k+1=>(qk1 d piv k).tdiv (gcdI (qk1 d piv k) (q6e d piv k))*q6e d piv k
def q68 (d:List (List Int)) (piv:List Int) (n f:Nat):Nat->List Int
 | 0=>(List.replicate n 0).set f (qk1 d piv piv.length)
 | k+1=>(q68 d piv n f k).set (nI piv k).toNat ((0-nI (nL d k) f)*(qk1 d piv piv.length).tdiv (q6e d piv k))
def qh3 (d:List (List Int)) (piv:List Int) (n:Nat):Nat->List (List Int)
 | 0=>[]
 | f+1=>if ql8 piv f piv.length then qh3 d piv n f++[qj5 (q68 d piv n f piv.length)] else qh3 d piv n f
def qf9 (rows:List (List Int)):List (List Int):=qh3 (qe7 rows).1 (qe7 rows).2 (rdW rows) (rdW rows)
structure xv9 (d:List (List Int)) (piv:List Int) (n:Nat):Prop where
 cnt:d.length=piv.length
 each:∀k,k<d.length->(nL d k).length=n
 pv:∀k,k<piv.length->0<=nI piv k/\nI piv k<n
 nz:∀k,k<piv.length->q6e d piv k≠0
 big:∀k,k<piv.length->∀i,i<n->qe8 BIG (nI (nL d k) i)
 al:∀f,f<n->ql8 piv f piv.length=true->∀k,k<=piv.length->qe8 BIG (qk1 d piv k)
 pr:∀f,f<n->ql8 piv f piv.length=true->∀k,k<piv.length->qe8 BIG ((0-nI (nL d k) f)*(qk1 d piv piv.length).tdiv (q6e d piv k))
structure xn0 (rows:List (List Int)):Prop where
 rd:xc3 rows
 one:1<=rows.length
 ar:xv9 (qe7 rows).1 (qe7 rows).2 (rdW rows)
theorem q21 (d:List (List Int)) (piv:List Int) (n f:Nat):∀k,(q68 d piv n f k).length=n
 | 0=>by simp[q68]
 | k+1=>by rw[q68,List.length_set]; exact q21 d piv n f k
theorem q8d (d:List (List Int)) (piv:List Int) (n:Nat):∀f,(qh3 d piv n f).length<=f
 | 0=>Nat.le_refl _
 | f+1=>by
  have:=q8d d piv n f
  rw[qh3]
  split
  ·simp; omega
  ·omega
theorem q9x {d:List (List Int)} {piv:List Int} {n f:Nat} (h:xv9 d piv n) (hf:f<n) (hfree:ql8 piv f piv.length=true):∀k,k<=piv.length->∀x∈q68 d piv n f k,qe8 BIG x
 | 0,_,x,hx=>by
  rw[q68] at hx
  rcases List.mem_or_eq_of_mem_set hx with hx | rfl
  ·obtain rfl:=(List.mem_replicate.1 hx).2
   unfold BIG; omega
  ·exact h.al f hf hfree _ (Nat.le_refl _)
 | k+1,hk,x,hx=>by
  rw[q68] at hx
  rcases List.mem_or_eq_of_mem_set hx with hx | rfl
  ·exact q9x h hf hfree k (by omega) x hx
  ·exact h.pr f hf hfree k (by omega)
abbrev sKr:qc0:=qg7 false none [qk0] [qk0] (λx=>xn0 x.1) (λx=>(qf9 x.1,()))
def x4s (rows:List (List Int)):Nat->Option Inv
 | 0=>some (Inv.of [5,25] 1 (λf:Nat=>[(5,.own 0),(25,.lit (.int .i64 f))]) (λf=>[.vec 24 (.list (.int .i64)) (qh3 (qe7 rows).1 (qe7 rows).2 (rdW rows) f)]) (λf=>f<=rdW rows) (λf=>rdW rows-f))
 | 1=>some (Eng.Inv.mk Nat Nat [5,7,30] 1 (λf k=>[(5,.own 0),(7,.lit (.bool (ql8 (qe7 rows).2 f k))),(30,.lit (.int .i64 k))]) (λf k=>[.vec 24 (.list (.int .i64)) (qh3 (qe7 rows).1 (qe7 rows).2 (rdW rows) f)]) (λf k=>k<=(qe7 rows).2.length) (λf k=>(qe7 rows).2.length-k))
 | 2=>some (Eng.Inv.mk Nat Nat [5,10,45] 1 (λf k=>[(5,.own 0),(10,.lit (.int .i64 (qk1 (qe7 rows).1 (qe7 rows).2 k))),(45,.lit (.int .i64 k))]) (λf k=>[.vec 24 (.list (.int .i64)) (qh3 (qe7 rows).1 (qe7 rows).2 (rdW rows) f)]) (λf k=>k<=(qe7 rows).2.length) (λf k=>(qe7 rows).2.length-k))
 | 3=>some (Eng.Inv.mk Nat Nat [5,13,81] 2 (λf k=>[(5,.own 0),(13,.own 1),(81,.lit (.int .i64 k))]) (λf k=>[.vec 24 (.list (.int .i64)) (qh3 (qe7 rows).1 (qe7 rows).2 (rdW rows) f),.vec 3 (.int .i64) (q68 (qe7 rows).1 (qe7 rows).2 (rdW rows) f k)]) (λf k=>k<=(qe7 rows).2.length) (λf k=>(qe7 rows).2.length-k))
 | _=>none
theorem wi8 {rows:List (List Int)} (h:xc3 rows):(qe7 rows).1.length<=1000:=by
 have:=(wp1 h (rdW rows)).dn
 have:=h.w
 show(qh2 rows (rdW rows)).done_.length<=1000
 omega
theorem w88 {d:List (List Int)} {P:List Int} {n:Nat} (h:xv9 d P n) (hn:d.length<=1000:=by omega):P.length<=1000:=by have:=h.cnt; omega
theorem w89:qd7 Tryz.prog 138 sKr:=by
 refine meets (snd (SpecsOk.cons w87 (SpecsOk.cons q8b (SpecsOk.cons q15 (SpecsOk.nil _))))) Tryz.func138 rfl rfl (λx=>x4s x.1) (λ_=>by kernel_rfl) (by decide) ?_
 rintro⟨rows,⟨⟩⟩ h
 revert rows
 intro(rows:List (List Int)) (h:xn0 rows)
 refine @qe1 _ (let Q0:=Prod.snd (qe7 rows); let Q1:=Prod.fst (qe7 rows); let Q2:=List.length Q0; let Q3:=rdW rows; let Q4:=List.length Q1; xc3 rows/\((0:Int)<=(0:Int)/\(0:Int)<(↑(List.length rows):Int))/\∃(v0:Unit),∃(v1:Nat),Nat.le v1 Q3/\((True/\(0:Int)=(↑v1:Int)/\True)/\qh3 Q1 Q0 Q3 v1=[]/\True)/\∀(v2:Nat),Nat.le v2 Q3->(decide ((↑v2:Int)<(↑(List.length (qa1 (Ty.list (Ty.int .i64)) rows (0:Nat))):Int))=true->∃(v5:Nat),∃(v6:Nat),Nat.le v6 Q2/\((True/\true=ql8 Q0 v5 v6/\(0:Int)=(↑v6:Int)/\True)/\qh3 Q1 Q0 Q3 v2=qh3 Q1 Q0 Q3 v5/\True)/\∀(v7:Nat),Nat.le v7 Q2->(decide ((↑v7:Int)<(↑Q2:Int))=true->((0:Int)<=(↑v7:Int)/\(↑v7:Int)<(↑Q2:Int))/\(ql8 Q0 v5 v7=true->fits .i64 ((↑v7:Int)+(1:Int))/\∃(v11:Nat),Nat.le v11 Q2/\List.length Q0-v11<List.length Q0-v7/\(True/\(qa1 (Ty.int .i64) Q0 (Int.toNat (↑v7:Int)) != (↑v2:Int))=ql8 Q0 v5 v11/\(↑v7:Int)+(1:Int)=(↑v11:Int)/\True)/\qh3 Q1 Q0 Q3 v5=qh3 Q1 Q0 Q3 v5/\True)/\(ql8 Q0 v5 v7=false->fits .i64 ((↑v7:Int)+(1:Int))/\∃(v11:Nat),Nat.le v11 Q2/\List.length Q0-v11<List.length Q0-v7/\(True/\false=ql8 Q0 v5 v11/\(↑v7:Int)+(1:Int)=(↑v11:Int)/\True)/\qh3 Q1 Q0 Q3 v5=qh3 Q1 Q0 Q3 v5/\True))/\(decide ((↑v7:Int)<(↑Q2:Int))=false->((!ql8 Q0 v5 v7)=true->fits .i64 ((↑v2:Int)+(1:Int))/\∃(v11:Nat),Nat.le v11 Q3/\rdW rows-v11<rdW rows-v2/\(True/\(↑v2:Int)+(1:Int)=(↑v11:Int)/\True)/\qh3 Q1 Q0 Q3 v5=qh3 Q1 Q0 Q3 v11/\True)/\((!ql8 Q0 v5 v7)=false->∃(v11:Nat),∃(v12:Nat),Nat.le v12 Q2/\((True/\(1:Int)=qk1 Q1 Q0 v12/\(0:Int)=(↑v12:Int)/\True)/\qh3 Q1 Q0 Q3 v5=qh3 Q1 Q0 Q3 v11/\True)/\∀(v13:Nat),Nat.le v13 Q2->(decide ((↑v13:Int)<(↑Q2:Int))=true->((0:Int)<=(↑v13:Int)/\(↑v13:Int)<(↑Q2:Int))/\((0:Int)<=(↑v13:Int)/\(↑v13:Int)<(↑Q4:Int))/\((0:Int)<=qa1 (Ty.int .i64) Q0 (Int.toNat (↑v13:Int))/\qa1 (Ty.int .i64) Q0 (Int.toNat (↑v13:Int))<(↑(List.length (qa1 (Ty.list (Ty.int .i64)) Q1 (Int.toNat (↑v13:Int)))):Int))/\(((-4000000000000000000:Int)<=qk1 Q1 Q0 v13/\qk1 Q1 Q0 v13<=BIG)/\(-4000000000000000000:Int)<=qa1 (Ty.int .i64) (qa1 (Ty.list (Ty.int .i64)) Q1 (Int.toNat (↑v13:Int))) (Int.toNat (qa1 (Ty.int .i64) Q0 (Int.toNat (↑v13:Int))))/\qa1 (Ty.int .i64) (qa1 (Ty.list (Ty.int .i64)) Q1 (Int.toNat (↑v13:Int))) (Int.toNat (qa1 (Ty.int .i64) Q0 (Int.toNat (↑v13:Int))))<=BIG)/\gcdI (qk1 Q1 Q0 v13) (qa1 (Ty.int .i64) (qa1 (Ty.list (Ty.int .i64)) Q1 (Int.toNat (↑v13:Int))) (Int.toNat (qa1 (Ty.int .i64) Q0 (Int.toNat (↑v13:Int)))))≠(0:Int)/\fits .i64 (Int.tdiv (qk1 Q1 Q0 v13) (gcdI (qk1 Q1 Q0 v13) (qa1 (Ty.int .i64) (qa1 (Ty.list (Ty.int .i64)) Q1 (Int.toNat (↑v13:Int))) (Int.toNat (qa1 (Ty.int .i64) Q0 (Int.toNat (↑v13:Int)))))))/\((0:Int)<=(↑v13:Int)/\(↑v13:Int)<(↑Q4:Int))/\((0:Int)<=qa1 (Ty.int .i64) Q0 (Int.toNat (↑v13:Int))/\qa1 (Ty.int .i64) Q0 (Int.toNat (↑v13:Int))<(↑(List.length (qa1 (Ty.list (Ty.int .i64)) Q1 (Int.toNat (↑v13:Int)))):Int))/\fits .i64 (Int.tdiv (qk1 Q1 Q0 v13) (gcdI (qk1 Q1 Q0 v13) (qa1 (Ty.int .i64) (qa1 (Ty.list (Ty.int .i64)) Q1 (Int.toNat (↑v13:Int))) (Int.toNat (qa1 (Ty.int .i64) Q0 (Int.toNat (↑v13:Int))))))*qa1 (Ty.int .i64) (qa1 (Ty.list (Ty.int .i64)) Q1 (Int.toNat (↑v13:Int))) (Int.toNat (qa1 (Ty.int .i64) Q0 (Int.toNat (↑v13:Int)))))/\fits .i64 ((↑v13:Int)+(1:Int))/\∃(v16:Nat),Nat.le v16 Q2/\List.length Q0-v16<List.length Q0-v13/\(True/\Int.tdiv (qk1 Q1 Q0 v13) (gcdI (qk1 Q1 Q0 v13) (qa1 (Ty.int .i64) (qa1 (Ty.list (Ty.int .i64)) Q1 (Int.toNat (↑v13:Int))) (Int.toNat (qa1 (Ty.int .i64) Q0 (Int.toNat (↑v13:Int))))))*qa1 (Ty.int .i64) (qa1 (Ty.list (Ty.int .i64)) Q1 (Int.toNat (↑v13:Int))) (Int.toNat (qa1 (Ty.int .i64) Q0 (Int.toNat (↑v13:Int))))=qk1 Q1 Q0 v16/\(↑v13:Int)+(1:Int)=(↑v16:Int)/\True)/\qh3 Q1 Q0 Q3 v11=qh3 Q1 Q0 Q3 v11/\True)/\(decide ((↑v13:Int)<(↑Q2:Int))=false->((0:Int)<=(0:Int)/\(0:Int)<(↑(List.length rows):Int))/\((↑(List.length (qa1 (Ty.list (Ty.int .i64)) rows (0:Nat))):Int)=(↑(List.length (qa1 (Ty.list (Ty.int .i64)) rows (0:Nat))):Int)/\(0:Int)<=(↑(List.length (qa1 (Ty.list (Ty.int .i64)) rows (0:Nat))):Int)/\(↑(List.length (qa1 (Ty.list (Ty.int .i64)) rows (0:Nat))):Int)<=(1000000:Int))/\((0:Int)<=(↑v2:Int)/\(↑v2:Int)<(↑(List.length (List.replicate (Int.toNat (↑(List.length (qa1 (Ty.list (Ty.int .i64)) rows (0:Nat))):Int)) (Ty.dflt (TI.ty T3)))):Int))/\Int.toNat (↑v2:Int)<List.length (List.replicate (Int.toNat (↑(List.length (qa1 (Ty.list (Ty.int .i64)) rows (0:Nat))):Int)) (Ty.dflt (TI.ty T3)))/\∃(v16:Nat),∃(v17:Nat),Nat.le v17 Q2/\((True/\True/\(0:Int)=(↑v17:Int)/\True)/\qh3 Q1 Q0 Q3 v11=qh3 Q1 Q0 Q3 v16/\List.set (List.replicate (Int.toNat (↑(List.length (qa1 (Ty.list (Ty.int .i64)) rows (0:Nat))):Int)) (Ty.dflt (TI.ty T3))) (Int.toNat (↑v2:Int)) (qk1 Q1 Q0 v13)=q68 Q1 Q0 Q3 v16 v17/\True)/\∀(v18:Nat),Nat.le v18 Q2->(decide ((↑v18:Int)<(↑Q2:Int))=true->((0:Int)<=(↑v18:Int)/\(↑v18:Int)<(↑Q2:Int))/\((0:Int)<=(↑v18:Int)/\(↑v18:Int)<(↑Q4:Int))/\((0:Int)<=(↑v2:Int)/\(↑v2:Int)<(↑(List.length (qa1 (Ty.list (Ty.int .i64)) Q1 (Int.toNat (↑v18:Int)))):Int))/\fits .i64 ((0:Int)-qa1 (Ty.int .i64) (qa1 (Ty.list (Ty.int .i64)) Q1 (Int.toNat (↑v18:Int))) (Int.toNat (↑v2:Int)))/\((0:Int)<=(↑v18:Int)/\(↑v18:Int)<(↑Q4:Int))/\((0:Int)<=qa1 (Ty.int .i64) Q0 (Int.toNat (↑v18:Int))/\qa1 (Ty.int .i64) Q0 (Int.toNat (↑v18:Int))<(↑(List.length (qa1 (Ty.list (Ty.int .i64)) Q1 (Int.toNat (↑v18:Int)))):Int))/\qa1 (Ty.int .i64) (qa1 (Ty.list (Ty.int .i64)) Q1 (Int.toNat (↑v18:Int))) (Int.toNat (qa1 (Ty.int .i64) Q0 (Int.toNat (↑v18:Int))))≠(0:Int)/\fits .i64 (Int.tdiv (qk1 Q1 Q0 v13) (qa1 (Ty.int .i64) (qa1 (Ty.list (Ty.int .i64)) Q1 (Int.toNat (↑v18:Int))) (Int.toNat (qa1 (Ty.int .i64) Q0 (Int.toNat (↑v18:Int))))))/\fits .i64 (((0:Int)-qa1 (Ty.int .i64) (qa1 (Ty.list (Ty.int .i64)) Q1 (Int.toNat (↑v18:Int))) (Int.toNat (↑v2:Int)))*Int.tdiv (qk1 Q1 Q0 v13) (qa1 (Ty.int .i64) (qa1 (Ty.list (Ty.int .i64)) Q1 (Int.toNat (↑v18:Int))) (Int.toNat (qa1 (Ty.int .i64) Q0 (Int.toNat (↑v18:Int))))))/\((0:Int)<=qa1 (Ty.int .i64) Q0 (Int.toNat (↑v18:Int))/\qa1 (Ty.int .i64) Q0 (Int.toNat (↑v18:Int))<(↑(List.length (q68 Q1 Q0 Q3 v16 v18)):Int))/\Int.toNat (qa1 (Ty.int .i64) Q0 (Int.toNat (↑v18:Int)))<List.length (q68 Q1 Q0 Q3 v16 v18)/\fits .i64 ((↑v18:Int)+(1:Int))/\∃(v21:Nat),Nat.le v21 Q2/\List.length Q0-v21<List.length Q0-v18/\(True/\True/\(↑v18:Int)+(1:Int)=(↑v21:Int)/\True)/\qh3 Q1 Q0 Q3 v16=qh3 Q1 Q0 Q3 v16/\List.set (q68 Q1 Q0 Q3 v16 v18) (Int.toNat (qa1 (Ty.int .i64) Q0 (Int.toNat (↑v18:Int)))) (((0:Int)-qa1 (Ty.int .i64) (qa1 (Ty.list (Ty.int .i64)) Q1 (Int.toNat (↑v18:Int))) (Int.toNat (↑v2:Int)))*Int.tdiv (qk1 Q1 Q0 v13) (qa1 (Ty.int .i64) (qa1 (Ty.list (Ty.int .i64)) Q1 (Int.toNat (↑v18:Int))) (Int.toNat (qa1 (Ty.int .i64) Q0 (Int.toNat (↑v18:Int))))))=q68 Q1 Q0 Q3 v16 v21/\True)/\(decide ((↑v18:Int)<(↑Q2:Int))=false->q3l (q68 Q1 Q0 Q3 v16 v18)/\((0:Nat)<(0:Nat)+(1:Nat)/\Nat.le (List.length (qh3 Q1 Q0 Q3 v16)+((0:Nat)+(1:Nat))) (1000000:Nat))/\fits .i64 ((↑v2:Int)+(1:Int))/\∃(v21:Nat),Nat.le v21 Q3/\rdW rows-v21<rdW rows-v2/\(True/\(↑v2:Int)+(1:Int)=(↑v21:Int)/\True)/\qh3 Q1 Q0 Q3 v16++[qj5 (q68 Q1 Q0 Q3 v16 v18)]=qh3 Q1 Q0 Q3 v21/\True)))))/\(decide ((↑v2:Int)<(↑(List.length (qa1 (Ty.list (Ty.int .i64)) rows (0:Nat))):Int))=false->qh3 Q1 Q0 Q3 v2=qf9 rows)) (by kernel_rfl) ?_
 try simp only[z0,z1,z2,z3,z4,z5,z6,z7,z8,z9,z10,Int.reduceEq,z11,z12,z13,z14,z15,z16,z17,z18,z19,z20,z21,z22,z23,z24,z25,z26,z27,z28,z29,z30,Int.reduceLE,Int.reduceLT,z31,z32,z33,z34,qa4]
 try simp only[qb3,qb4,qb9,List.set_cons_zero,List.cons.injEq,and_true,true_and]
 have h1:=h.one
 have hw:=h.rd.w
 have har:=h.ar
 have hdl:=wi8 h.rd
 refine⟨h.rd,by omega,?_⟩
 rw[show(nL rows 0).length=rdW rows from rfl]
 unfold qf9
 generalize qe7 rows=K at *
 obtain⟨d,P⟩:=K
 dsimp only at har hdl ⊢
 have hcnt:=har.cnt
 refine⟨(),0,Nat.zero_le _,⟨rfl,rfl⟩,λf hf=>⟨λhlt=>?_,λhge=>?_⟩⟩
 ·refine⟨f,0,Nat.zero_le _,⟨⟨rfl,rfl⟩,rfl⟩,λk hk=>⟨λhlk=>⟨hlk,λht=>⟨qa7 ?_ ?_,k+1,hlk,by omega,by rw[ql8,ht,Bool.true_and],by omega⟩,λht=>⟨qa7 ?_ ?_,k+1,hlk,by omega,by rw[ql8,ht,Bool.false_and],by omega⟩⟩,λhgk=>?_⟩⟩
  ·omega
  ·have:=w88 har; omega
  ·omega
  ·have:=w88 har; omega
  obtain rfl:k=P.length:=by omega
  refine⟨λhfree=>⟨qa7 (by omega) (by omega),f+1,by omega,by omega,by omega,by rw[qh3,if_neg (by rw[hfree]; decide)]⟩,λhfree=>?_⟩
  refine⟨f,0,Nat.zero_le _,⟨⟨rfl,rfl⟩,rfl⟩,λk hk=>⟨λhlk=>?_,λhgk=>?_⟩⟩
  ·have hp:=har.pv k hlk
   have hr:=har.each k (by omega)
   have hp':0<=nI P k/\nI P k<((nL d k).length:Int):=⟨hp.1,by omega⟩
   have hb1:=har.big k hlk (nI P k).toNat (by omega)
   have hz:=har.nz k hlk
   have ha:=har.al f hlt hfree k hk
   have ha2:=har.al f hlt hfree (k+1) hlk
   have e1:nI (nL d k) (nI P k).toNat=q6e d P k:=rfl
   rw[e1] at hb1 ⊢
   have e2:qk1 d P (k+1)=(qk1 d P k).tdiv (gcdI (qk1 d P k) (q6e d P k))*q6e d P k:=rfl
   rw[<- e2]
   have hq:qe8 BIG ((qk1 d P k).tdiv (gcdI (qk1 d P k) (q6e d P k))):=qk4 ha
   have g1:=qp9 (a:=qk1 d P k) (b:=q6e d P k) (Or.inr hz)
   have hpl:=w88 har
   have hB:BIG=4000000000000000000:=rfl
   unfold qe8 at *
   refine⟨hlk,by omega,hp',⟨ha,hb1⟩,by omega,qa7 (by omega) (by omega),by omega,hp',qa7 (by omega) (by omega),qa7 (by omega) (by omega),k+1,hlk,by omega,rfl,by omega⟩
  ·obtain rfl:k=P.length:=by omega
   have hl0:(List.replicate (rdW rows) T3.ty.dflt).length=rdW rows:=List.length_replicate
   refine⟨by omega,by omega,by omega,by omega,f,0,Nat.zero_le _,⟨rfl,rfl,rfl⟩,λk hk=>⟨λhlk=>?_,λhgk=>?_⟩⟩
   ·have hp:=har.pv k hlk
    have hr:=har.each k (by omega)
    have hp':0<=nI P k/\nI P k<((nL d k).length:Int):=⟨hp.1,by omega⟩
    have hb2:=har.big k hlk f hlt
    have hz:=har.nz k hlk
    have hpr:=har.pr f hlt hfree k hlk
    have ha:=har.al f hlt hfree P.length (Nat.le_refl _)
    have e1:nI (nL d k) (nI P k).toNat=q6e d P k:=rfl
    rw[e1]
    have hq:qe8 BIG ((qk1 d P P.length).tdiv (q6e d P k)):=qk4 ha
    have hl:=q21 d P (rdW rows) f k
    have hp'':0<=nI P k/\nI P k<((q68 d P (rdW rows) f k).length:Int):=⟨hp.1,by omega⟩
    have hpl:=w88 har
    have hB:BIG=4000000000000000000:=rfl
    unfold qe8 at *
    refine⟨hlk,by omega,by omega,qa7 (by omega) (by omega),by omega,hp',hz,qa7 (by omega) (by omega),qa7 (by omega) (by omega),hp'',by omega,qa7 (by omega) (by omega),k+1,hlk,by omega,by omega,rfl⟩
   ·obtain rfl:k=P.length:=by omega
    have hl:=q21 d P (rdW rows) f P.length
    have hkl:=q8d d P (rdW rows) f
    refine⟨⟨by omega,q9x har hlt hfree _ (Nat.le_refl _)⟩,by omega,qa7 (by omega) (by omega),f+1,by omega,by omega,by omega,?_⟩
    rw[qh3,if_pos hfree]
 ·obtain rfl:f=rdW rows:=by omega
  rfl
end Go.Proofs.YtempacilejhbgaaGreat
