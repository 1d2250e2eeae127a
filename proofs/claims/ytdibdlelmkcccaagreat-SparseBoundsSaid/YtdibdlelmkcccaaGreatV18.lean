/- The reference's kernel vectors: contract by the engine. No condition. -/
import Derived.Test.YtdibdlelmkcccaaGreatV17
set_option linter.unusedVariables false
set_option linter.unusedSimpArgs false
namespace Go.Proofs.YtdibdlelmkcccaaGreat
open Go Go.RowKit Eng
def qm2 (piv:List Int) (f:Nat):Nat->Bool
 | 0=>true
 | k+1=>qm2 piv f k && (nI piv k != (f:Int))
def q61 (d:List (List Int)) (piv:List Int) (k:Nat):Int:=nI (nL d k) (nI piv k).toNat
def qk1 (d:List (List Int)) (piv:List Int):Nat->Int
 | 0=>1
 | k+1=>(qk1 d piv k).tdiv (qf2 (qk1 d piv k) (q61 d piv k))*q61 d piv k
def q71 (d:List (List Int)) (piv:List Int) (n f:Nat):Nat->List Int
 | 0=>(List.replicate n 0).set f (qk1 d piv piv.length)
 | k+1=>(q71 d piv n f k).set (nI piv k).toNat ((0-nI (nL d k) f)*(qk1 d piv piv.length).tdiv (q61 d piv k))
def qh0 (d:List (List Int)) (piv:List Int) (n:Nat):Nat->List (List Int)
 | 0=>[]
 | f+1=>if qm2 piv f piv.length then qh0 d piv n f++[qj5 (q71 d piv n f piv.length)] else qh0 d piv n f
def qg6 (rows:List (List Int)):List (List Int):=qh0 (qd6 rows).1 (qd6 rows).2 (rdW rows) (rdW rows)
structure x2x (d:List (List Int)) (piv:List Int) (n:Nat):Prop where
 cnt:d.length=piv.length
 each:∀k,k<d.length->(nL d k).length=n
 pv:∀k,k<piv.length->0<=nI piv k/\nI piv k<n
 nz:∀k,k<piv.length->q61 d piv k≠0
 big:∀k,k<piv.length->∀i,i<n->qg3 BIG (nI (nL d k) i)
 al:∀f,f<n->qm2 piv f piv.length=true->∀k,k<=piv.length->qg3 BIG (qk1 d piv k)
 pr:∀f,f<n->qm2 piv f piv.length=true->∀k,k<piv.length->qg3 BIG ((0-nI (nL d k) f)*(qk1 d piv piv.length).tdiv (q61 d piv k))
structure xx8 (rows:List (List Int)):Prop where
 rd:xf1 rows
 one:1<=rows.length
 ar:x2x (qd6 rows).1 (qd6 rows).2 (rdW rows)
theorem q3e (d:List (List Int)) (piv:List Int) (n f:Nat):∀k,(q71 d piv n f k).length=n
 | 0=>by simp[q71]
 | k+1=>by rw[q71,List.length_set]; exact q3e d piv n f k
theorem q89 (d:List (List Int)) (piv:List Int) (n:Nat):∀f,(qh0 d piv n f).length<=f
 | 0=>Nat.le_refl _
 | f+1=>by
  have:=q89 d piv n f
  rw[qh0]
  split
  ·simp; omega
  ·omega
theorem wc9 {d:List (List Int)} {piv:List Int} {n f:Nat} (h:x2x d piv n) (hf:f<n) (hfree:qm2 piv f piv.length=true):∀k,k<=piv.length->∀x∈q71 d piv n f k,qg3 BIG x
 | 0,_,x,hx=>by
  rw[q71] at hx
  rcases List.mem_or_eq_of_mem_set hx with hx | rfl
  ·obtain rfl:=(List.mem_replicate.1 hx).2
   unfold BIG; omega
  ·exact h.al f hf hfree _ (Nat.le_refl _)
 | k+1,hk,x,hx=>by
  rw[q71] at hx
  rcases List.mem_or_eq_of_mem_set hx with hx | rfl
  ·exact wc9 h hf hfree k (by omega) x hx
  ·exact h.pr f hf hfree k (by omega)
abbrev sKr:qc0:=qf8 false none [tMask] [tMask] (λx=>xx8 x.1) (λx=>(qg6 x.1,()))
def x9z (rows:List (List Int)):Nat->Option Inv
 | 0=>some (Inv.of [5,25] 1 (λf:Nat=>[(5,.own 0),(25,.lit (.int .i64 f))]) (λf=>[.vec 24 (.list (.int .i64)) (qh0 (qd6 rows).1 (qd6 rows).2 (rdW rows) f)]) (λf=>f<=rdW rows) (λf=>rdW rows-f))
 | 1=>some (Eng.Inv.mk Nat Nat [5,7,30] 1 (λf k=>[(5,.own 0),(7,.lit (.bool (qm2 (qd6 rows).2 f k))),(30,.lit (.int .i64 k))]) (λf k=>[.vec 24 (.list (.int .i64)) (qh0 (qd6 rows).1 (qd6 rows).2 (rdW rows) f)]) (λf k=>k<=(qd6 rows).2.length) (λf k=>(qd6 rows).2.length-k))
 | 2=>some (Eng.Inv.mk Nat Nat [5,10,45] 1 (λf k=>[(5,.own 0),(10,.lit (.int .i64 (qk1 (qd6 rows).1 (qd6 rows).2 k))),(45,.lit (.int .i64 k))]) (λf k=>[.vec 24 (.list (.int .i64)) (qh0 (qd6 rows).1 (qd6 rows).2 (rdW rows) f)]) (λf k=>k<=(qd6 rows).2.length) (λf k=>(qd6 rows).2.length-k))
 | 3=>some (Eng.Inv.mk Nat Nat [5,13,81] 2 (λf k=>[(5,.own 0),(13,.own 1),(81,.lit (.int .i64 k))]) (λf k=>[.vec 24 (.list (.int .i64)) (qh0 (qd6 rows).1 (qd6 rows).2 (rdW rows) f),.vec 3 (.int .i64) (q71 (qd6 rows).1 (qd6 rows).2 (rdW rows) f k)]) (λf k=>k<=(qd6 rows).2.length) (λf k=>(qd6 rows).2.length-k))
 | _=>none
theorem wn6 {rows:List (List Int)} (h:xf1 rows):(qd6 rows).1.length<=1000:=by
 have:=(wu1 h (rdW rows)).dn
 have:=h.w
 show(qg0 rows (rdW rows)).done_.length<=1000
 omega
theorem xf3 {d:List (List Int)} {P:List Int} {n:Nat} (h:x2x d P n) (hn:d.length<=1000:=by omega):P.length<=1000:=by have:=h.cnt; omega
theorem xf4:qd3 Tryz.prog 141 sKr:=by
 refine meets (snd (SpecsOk.cons xf2 (SpecsOk.cons q4d (SpecsOk.cons q18 (SpecsOk.nil _))))) Tryz.func141 rfl rfl (λx=>x9z x.1) (λ_=>by kernel_rfl) (by decide) ?_
 rintro⟨rows,⟨⟩⟩ h
 revert rows
 intro(rows:List (List Int)) (h:xx8 rows)
 refine @qd8 _ (let Q0:=Prod.snd (qd6 rows); let Q1:=Prod.fst (qd6 rows); let Q2:=List.length Q0; let Q3:=rdW rows; let Q4:=List.length Q1; xf1 rows/\((0:Int)<=(0:Int)/\(0:Int)<(↑(List.length rows):Int))/\∃(v0:Unit),∃(v1:Nat),Nat.le v1 Q3/\((True/\(0:Int)=(↑v1:Int)/\True)/\qh0 Q1 Q0 Q3 v1=[]/\True)/\∀(v2:Nat),Nat.le v2 Q3->(decide ((↑v2:Int)<(↑(List.length (qa1 (Ty.list (Ty.int .i64)) rows (0:Nat))):Int))=true->∃(v5:Nat),∃(v6:Nat),Nat.le v6 Q2/\((True/\true=qm2 Q0 v5 v6/\(0:Int)=(↑v6:Int)/\True)/\qh0 Q1 Q0 Q3 v2=qh0 Q1 Q0 Q3 v5/\True)/\∀(v7:Nat),Nat.le v7 Q2->(decide ((↑v7:Int)<(↑Q2:Int))=true->((0:Int)<=(↑v7:Int)/\(↑v7:Int)<(↑Q2:Int))/\(qm2 Q0 v5 v7=true->fits .i64 ((↑v7:Int)+(1:Int))/\∃(v11:Nat),Nat.le v11 Q2/\List.length Q0-v11<List.length Q0-v7/\(True/\(qa1 (Ty.int .i64) Q0 (Int.toNat (↑v7:Int)) != (↑v2:Int))=qm2 Q0 v5 v11/\(↑v7:Int)+(1:Int)=(↑v11:Int)/\True)/\qh0 Q1 Q0 Q3 v5=qh0 Q1 Q0 Q3 v5/\True)/\(qm2 Q0 v5 v7=false->fits .i64 ((↑v7:Int)+(1:Int))/\∃(v11:Nat),Nat.le v11 Q2/\List.length Q0-v11<List.length Q0-v7/\(True/\false=qm2 Q0 v5 v11/\(↑v7:Int)+(1:Int)=(↑v11:Int)/\True)/\qh0 Q1 Q0 Q3 v5=qh0 Q1 Q0 Q3 v5/\True))/\(decide ((↑v7:Int)<(↑Q2:Int))=false->((!qm2 Q0 v5 v7)=true->fits .i64 ((↑v2:Int)+(1:Int))/\∃(v11:Nat),Nat.le v11 Q3/\rdW rows-v11<rdW rows-v2/\(True/\(↑v2:Int)+(1:Int)=(↑v11:Int)/\True)/\qh0 Q1 Q0 Q3 v5=qh0 Q1 Q0 Q3 v11/\True)/\((!qm2 Q0 v5 v7)=false->∃(v11:Nat),∃(v12:Nat),Nat.le v12 Q2/\((True/\(1:Int)=qk1 Q1 Q0 v12/\(0:Int)=(↑v12:Int)/\True)/\qh0 Q1 Q0 Q3 v5=qh0 Q1 Q0 Q3 v11/\True)/\∀(v13:Nat),Nat.le v13 Q2->(decide ((↑v13:Int)<(↑Q2:Int))=true->((0:Int)<=(↑v13:Int)/\(↑v13:Int)<(↑Q2:Int))/\((0:Int)<=(↑v13:Int)/\(↑v13:Int)<(↑Q4:Int))/\((0:Int)<=qa1 (Ty.int .i64) Q0 (Int.toNat (↑v13:Int))/\qa1 (Ty.int .i64) Q0 (Int.toNat (↑v13:Int))<(↑(List.length (qa1 (Ty.list (Ty.int .i64)) Q1 (Int.toNat (↑v13:Int)))):Int))/\(((-4000000000000000000:Int)<=qk1 Q1 Q0 v13/\qk1 Q1 Q0 v13<=BIG)/\(-4000000000000000000:Int)<=qa1 (Ty.int .i64) (qa1 (Ty.list (Ty.int .i64)) Q1 (Int.toNat (↑v13:Int))) (Int.toNat (qa1 (Ty.int .i64) Q0 (Int.toNat (↑v13:Int))))/\qa1 (Ty.int .i64) (qa1 (Ty.list (Ty.int .i64)) Q1 (Int.toNat (↑v13:Int))) (Int.toNat (qa1 (Ty.int .i64) Q0 (Int.toNat (↑v13:Int))))<=BIG)/\qf2 (qk1 Q1 Q0 v13) (qa1 (Ty.int .i64) (qa1 (Ty.list (Ty.int .i64)) Q1 (Int.toNat (↑v13:Int))) (Int.toNat (qa1 (Ty.int .i64) Q0 (Int.toNat (↑v13:Int)))))≠(0:Int)/\fits .i64 (Int.tdiv (qk1 Q1 Q0 v13) (qf2 (qk1 Q1 Q0 v13) (qa1 (Ty.int .i64) (qa1 (Ty.list (Ty.int .i64)) Q1 (Int.toNat (↑v13:Int))) (Int.toNat (qa1 (Ty.int .i64) Q0 (Int.toNat (↑v13:Int)))))))/\((0:Int)<=(↑v13:Int)/\(↑v13:Int)<(↑Q4:Int))/\((0:Int)<=qa1 (Ty.int .i64) Q0 (Int.toNat (↑v13:Int))/\qa1 (Ty.int .i64) Q0 (Int.toNat (↑v13:Int))<(↑(List.length (qa1 (Ty.list (Ty.int .i64)) Q1 (Int.toNat (↑v13:Int)))):Int))/\fits .i64 (Int.tdiv (qk1 Q1 Q0 v13) (qf2 (qk1 Q1 Q0 v13) (qa1 (Ty.int .i64) (qa1 (Ty.list (Ty.int .i64)) Q1 (Int.toNat (↑v13:Int))) (Int.toNat (qa1 (Ty.int .i64) Q0 (Int.toNat (↑v13:Int))))))*qa1 (Ty.int .i64) (qa1 (Ty.list (Ty.int .i64)) Q1 (Int.toNat (↑v13:Int))) (Int.toNat (qa1 (Ty.int .i64) Q0 (Int.toNat (↑v13:Int)))))/\fits .i64 ((↑v13:Int)+(1:Int))/\∃(v16:Nat),Nat.le v16 Q2/\List.length Q0-v16<List.length Q0-v13/\(True/\Int.tdiv (qk1 Q1 Q0 v13) (qf2 (qk1 Q1 Q0 v13) (qa1 (Ty.int .i64) (qa1 (Ty.list (Ty.int .i64)) Q1 (Int.toNat (↑v13:Int))) (Int.toNat (qa1 (Ty.int .i64) Q0 (Int.toNat (↑v13:Int))))))*qa1 (Ty.int .i64) (qa1 (Ty.list (Ty.int .i64)) Q1 (Int.toNat (↑v13:Int))) (Int.toNat (qa1 (Ty.int .i64) Q0 (Int.toNat (↑v13:Int))))=qk1 Q1 Q0 v16/\(↑v13:Int)+(1:Int)=(↑v16:Int)/\True)/\qh0 Q1 Q0 Q3 v11=qh0 Q1 Q0 Q3 v11/\True)/\(decide ((↑v13:Int)<(↑Q2:Int))=false->((0:Int)<=(0:Int)/\(0:Int)<(↑(List.length rows):Int))/\((↑(List.length (qa1 (Ty.list (Ty.int .i64)) rows (0:Nat))):Int)=(↑(List.length (qa1 (Ty.list (Ty.int .i64)) rows (0:Nat))):Int)/\(0:Int)<=(↑(List.length (qa1 (Ty.list (Ty.int .i64)) rows (0:Nat))):Int)/\(↑(List.length (qa1 (Ty.list (Ty.int .i64)) rows (0:Nat))):Int)<=(1000000:Int))/\((0:Int)<=(↑v2:Int)/\(↑v2:Int)<(↑(List.length (List.replicate (Int.toNat (↑(List.length (qa1 (Ty.list (Ty.int .i64)) rows (0:Nat))):Int)) (Ty.dflt (TI.ty T3)))):Int))/\Int.toNat (↑v2:Int)<List.length (List.replicate (Int.toNat (↑(List.length (qa1 (Ty.list (Ty.int .i64)) rows (0:Nat))):Int)) (Ty.dflt (TI.ty T3)))/\∃(v16:Nat),∃(v17:Nat),Nat.le v17 Q2/\((True/\True/\(0:Int)=(↑v17:Int)/\True)/\qh0 Q1 Q0 Q3 v11=qh0 Q1 Q0 Q3 v16/\List.set (List.replicate (Int.toNat (↑(List.length (qa1 (Ty.list (Ty.int .i64)) rows (0:Nat))):Int)) (Ty.dflt (TI.ty T3))) (Int.toNat (↑v2:Int)) (qk1 Q1 Q0 v13)=q71 Q1 Q0 Q3 v16 v17/\True)/\∀(v18:Nat),Nat.le v18 Q2->(decide ((↑v18:Int)<(↑Q2:Int))=true->((0:Int)<=(↑v18:Int)/\(↑v18:Int)<(↑Q2:Int))/\((0:Int)<=(↑v18:Int)/\(↑v18:Int)<(↑Q4:Int))/\((0:Int)<=(↑v2:Int)/\(↑v2:Int)<(↑(List.length (qa1 (Ty.list (Ty.int .i64)) Q1 (Int.toNat (↑v18:Int)))):Int))/\fits .i64 ((0:Int)-qa1 (Ty.int .i64) (qa1 (Ty.list (Ty.int .i64)) Q1 (Int.toNat (↑v18:Int))) (Int.toNat (↑v2:Int)))/\((0:Int)<=(↑v18:Int)/\(↑v18:Int)<(↑Q4:Int))/\((0:Int)<=qa1 (Ty.int .i64) Q0 (Int.toNat (↑v18:Int))/\qa1 (Ty.int .i64) Q0 (Int.toNat (↑v18:Int))<(↑(List.length (qa1 (Ty.list (Ty.int .i64)) Q1 (Int.toNat (↑v18:Int)))):Int))/\qa1 (Ty.int .i64) (qa1 (Ty.list (Ty.int .i64)) Q1 (Int.toNat (↑v18:Int))) (Int.toNat (qa1 (Ty.int .i64) Q0 (Int.toNat (↑v18:Int))))≠(0:Int)/\fits .i64 (Int.tdiv (qk1 Q1 Q0 v13) (qa1 (Ty.int .i64) (qa1 (Ty.list (Ty.int .i64)) Q1 (Int.toNat (↑v18:Int))) (Int.toNat (qa1 (Ty.int .i64) Q0 (Int.toNat (↑v18:Int))))))/\fits .i64 (((0:Int)-qa1 (Ty.int .i64) (qa1 (Ty.list (Ty.int .i64)) Q1 (Int.toNat (↑v18:Int))) (Int.toNat (↑v2:Int)))*Int.tdiv (qk1 Q1 Q0 v13) (qa1 (Ty.int .i64) (qa1 (Ty.list (Ty.int .i64)) Q1 (Int.toNat (↑v18:Int))) (Int.toNat (qa1 (Ty.int .i64) Q0 (Int.toNat (↑v18:Int))))))/\((0:Int)<=qa1 (Ty.int .i64) Q0 (Int.toNat (↑v18:Int))/\qa1 (Ty.int .i64) Q0 (Int.toNat (↑v18:Int))<(↑(List.length (q71 Q1 Q0 Q3 v16 v18)):Int))/\Int.toNat (qa1 (Ty.int .i64) Q0 (Int.toNat (↑v18:Int)))<List.length (q71 Q1 Q0 Q3 v16 v18)/\fits .i64 ((↑v18:Int)+(1:Int))/\∃(v21:Nat),Nat.le v21 Q2/\List.length Q0-v21<List.length Q0-v18/\(True/\True/\(↑v18:Int)+(1:Int)=(↑v21:Int)/\True)/\qh0 Q1 Q0 Q3 v16=qh0 Q1 Q0 Q3 v16/\List.set (q71 Q1 Q0 Q3 v16 v18) (Int.toNat (qa1 (Ty.int .i64) Q0 (Int.toNat (↑v18:Int)))) (((0:Int)-qa1 (Ty.int .i64) (qa1 (Ty.list (Ty.int .i64)) Q1 (Int.toNat (↑v18:Int))) (Int.toNat (↑v2:Int)))*Int.tdiv (qk1 Q1 Q0 v13) (qa1 (Ty.int .i64) (qa1 (Ty.list (Ty.int .i64)) Q1 (Int.toNat (↑v18:Int))) (Int.toNat (qa1 (Ty.int .i64) Q0 (Int.toNat (↑v18:Int))))))=q71 Q1 Q0 Q3 v16 v21/\True)/\(decide ((↑v18:Int)<(↑Q2:Int))=false->q36 (q71 Q1 Q0 Q3 v16 v18)/\((0:Nat)<(0:Nat)+(1:Nat)/\Nat.le (List.length (qh0 Q1 Q0 Q3 v16)+((0:Nat)+(1:Nat))) (1000000:Nat))/\fits .i64 ((↑v2:Int)+(1:Int))/\∃(v21:Nat),Nat.le v21 Q3/\rdW rows-v21<rdW rows-v2/\(True/\(↑v2:Int)+(1:Int)=(↑v21:Int)/\True)/\qh0 Q1 Q0 Q3 v16++[qj5 (q71 Q1 Q0 Q3 v16 v18)]=qh0 Q1 Q0 Q3 v21/\True)))))/\(decide ((↑v2:Int)<(↑(List.length (qa1 (Ty.list (Ty.int .i64)) rows (0:Nat))):Int))=false->qh0 Q1 Q0 Q3 v2=qg6 rows)) (by kernel_rfl) ?_
 try simp only[z0,z1,z2,z3,z4,z5,z6,z7,z8,z9,z10,Int.reduceEq,z11,z12,z13,z14,z15,z16,z17,z18,z19,z20,z21,z22,z23,z24,z25,z26,z27,z28,z29,z30,Int.reduceLE,Int.reduceLT,z31,z32,z33,z34,qa4]
 try simp only[qb6,qb7,qc8,List.set_cons_zero,List.cons.injEq,and_true,true_and]
 have h1:=h.one
 have hw:=h.rd.w
 have har:=h.ar
 have hdl:=wn6 h.rd
 refine⟨h.rd,by omega,?_⟩
 rw[show(nL rows 0).length=rdW rows from rfl]
 unfold qg6
 generalize qd6 rows=K at *
 obtain⟨d,P⟩:=K
 dsimp only at har hdl ⊢
 have hcnt:=har.cnt
 refine⟨(),0,Nat.zero_le _,⟨rfl,rfl⟩,λf hf=>⟨λhlt=>?_,λhge=>?_⟩⟩
 ·refine⟨f,0,Nat.zero_le _,⟨⟨rfl,rfl⟩,rfl⟩,λk hk=>⟨λhlk=>⟨hlk,λht=>⟨qa7 ?_ ?_,k+1,hlk,by omega,by rw[qm2,ht,Bool.true_and],by omega⟩,λht=>⟨qa7 ?_ ?_,k+1,hlk,by omega,by rw[qm2,ht,Bool.false_and],by omega⟩⟩,λhgk=>?_⟩⟩
  ·omega
  ·have:=xf3 har; omega
  ·omega
  ·have:=xf3 har; omega
  obtain rfl:k=P.length:=by omega
  refine⟨λhfree=>⟨qa7 (by omega) (by omega),f+1,by omega,by omega,by omega,by rw[qh0,if_neg (by rw[hfree]; decide)]⟩,λhfree=>?_⟩
  refine⟨f,0,Nat.zero_le _,⟨⟨rfl,rfl⟩,rfl⟩,λk hk=>⟨λhlk=>?_,λhgk=>?_⟩⟩
  ·have hp:=har.pv k hlk
   have hr:=har.each k (by omega)
   have hp':0<=nI P k/\nI P k<((nL d k).length:Int):=⟨hp.1,by omega⟩
   have hb1:=har.big k hlk (nI P k).toNat (by omega)
   have hz:=har.nz k hlk
   have ha:=har.al f hlt hfree k hk
   have ha2:=har.al f hlt hfree (k+1) hlk
   have e1:nI (nL d k) (nI P k).toNat=q61 d P k:=rfl
   rw[e1] at hb1 ⊢
   have e2:qk1 d P (k+1)=(qk1 d P k).tdiv (qf2 (qk1 d P k) (q61 d P k))*q61 d P k:=rfl
   rw[<- e2]
   have hq:qg3 BIG ((qk1 d P k).tdiv (qf2 (qk1 d P k) (q61 d P k))):=qk5 ha
   have g1:=qq7 (a:=qk1 d P k) (b:=q61 d P k) (Or.inr hz)
   have hpl:=xf3 har
   have hB:BIG=4000000000000000000:=rfl
   unfold qg3 at *
   refine⟨hlk,by omega,hp',⟨ha,hb1⟩,by omega,qa7 (by omega) (by omega),by omega,hp',qa7 (by omega) (by omega),qa7 (by omega) (by omega),k+1,hlk,by omega,rfl,by omega⟩
  ·obtain rfl:k=P.length:=by omega
   have hl0:(List.replicate (rdW rows) T3.ty.dflt).length=rdW rows:=List.length_replicate
   refine⟨by omega,by omega,by omega,by omega,f,0,Nat.zero_le _,⟨rfl,rfl,rfl⟩,λk hk=>⟨λhlk=>?_,λhgk=>?_⟩⟩
   ·have hp:=har.pv k hlk
    have hr:=har.each k (by omega)
    have hp':0<=nI P k/\nI P k<((nL d k).length:Int):=⟨hp.1,by omega⟩
    have hb2:=har.big k hlk f hlt
    have hz:=har.nz k hlk
    have hpr:=har.pr f hlt hfree k hlk
    have ha:=har.al f hlt hfree P.length (Nat.le_refl _)
    have e1:nI (nL d k) (nI P k).toNat=q61 d P k:=rfl
    rw[e1]
    have hq:qg3 BIG ((qk1 d P P.length).tdiv (q61 d P k)):=qk5 ha
    have hl:=q3e d P (rdW rows) f k
    have hp'':0<=nI P k/\nI P k<((q71 d P (rdW rows) f k).length:Int):=⟨hp.1,by omega⟩
    have hpl:=xf3 har
    have hB:BIG=4000000000000000000:=rfl
    unfold qg3 at *
    refine⟨hlk,by omega,by omega,qa7 (by omega) (by omega),by omega,hp',hz,qa7 (by omega) (by omega),qa7 (by omega) (by omega),hp'',by omega,qa7 (by omega) (by omega),k+1,hlk,by omega,by omega,rfl⟩
   ·obtain rfl:k=P.length:=by omega
    have hl:=q3e d P (rdW rows) f P.length
    have hkl:=q89 d P (rdW rows) f
    refine⟨⟨by omega,wc9 har hlt hfree _ (Nat.le_refl _)⟩,by omega,qa7 (by omega) (by omega),f+1,by omega,by omega,by omega,?_⟩
    rw[qh0,if_pos hfree]
 ·obtain rfl:f=rdW rows:=by omega
  rfl
end Go.Proofs.YtdibdlelmkcccaaGreat
