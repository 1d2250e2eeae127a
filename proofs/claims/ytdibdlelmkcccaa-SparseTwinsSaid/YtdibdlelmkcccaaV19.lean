/- Circuits: contract by the engine. No condition. -/
import Derived.Test.YtdibdlelmkcccaaV17
set_option linter.unusedVariables false
set_option linter.unusedSimpArgs false
namespace Go.Proofs.Ytdibdlelmkcccaa
open Go Go.RowKit Eng
def qn0 (piv:List Int) (f:Nat):Nat->Bool
 | 0=>true
 | k+1=>qn0 piv f k && (nI piv k != (f:Int))
def q63 (d:List (List Int)) (piv:List Int) (k:Nat):Int:=nI (nL d k) (nI piv k).toNat
def ql2 (d:List (List Int)) (piv:List Int):Nat->Int
 | 0=>1
 | k+1=>(ql2 d piv k).tdiv (qf8 (ql2 d piv k) (q63 d piv k))*q63 d piv k
def q7y (d:List (List Int)) (piv:List Int) (n f:Nat):Nat->List Int
 | 0=>(List.replicate n 0).set f (ql2 d piv piv.length)
 | k+1=>(q7y d piv n f k).set (nI piv k).toNat ((0-nI (nL d k) f)*(ql2 d piv piv.length).tdiv (q63 d piv k))
def qh8 (d:List (List Int)) (piv:List Int) (n:Nat):Nat->List (List Int)
 | 0=>[]
 | f+1=>if qn0 piv f piv.length then qh8 d piv n f++[qj7 (q7y d piv n f piv.length)] else qh8 d piv n f
def qg5 (rows:List (List Int)):List (List Int):=qh8 (qa1 rows).1 (qa1 rows).2 (rdW rows) (rdW rows)
structure xv1 (d:List (List Int)) (piv:List Int) (n:Nat):Prop where
 cnt:d.length=piv.length
 each:∀k,k<d.length->(nL d k).length=n
 pv:∀k,k<piv.length->0<=nI piv k/\nI piv k<n
 nz:∀k,k<piv.length->q63 d piv k≠0
 big:∀k,k<piv.length->∀i,i<n->qf3 BIG (nI (nL d k) i)
 al:∀f,f<n->qn0 piv f piv.length=true->∀k,k<=piv.length->qf3 BIG (ql2 d piv k)
 pr:∀f,f<n->qn0 piv f piv.length=true->∀k,k<piv.length->qf3 BIG ((0-nI (nL d k) f)*(ql2 d piv piv.length).tdiv (q63 d piv k))
structure xl8 (rows:List (List Int)):Prop where
 rd:w85 rows
 one:1<=rows.length
 ar:xv1 (qa1 rows).1 (qa1 rows).2 (rdW rows)
theorem q3l (d:List (List Int)) (piv:List Int) (n f:Nat):∀k,(q7y d piv n f k).length=n
 | 0=>by simp[q7y]
 | k+1=>by rw[q7y,List.length_set]; exact q3l d piv n f k
theorem q82 (d:List (List Int)) (piv:List Int) (n:Nat):∀f,(qh8 d piv n f).length<=f
 | 0=>Nat.le_refl _
 | f+1=>by
  have:=q82 d piv n f
  rw[qh8]
  split
  ·simp; omega
  ·omega
theorem wb3 {d:List (List Int)} {piv:List Int} {n f:Nat} (h:xv1 d piv n) (hf:f<n) (hfree:qn0 piv f piv.length=true):∀k,k<=piv.length->∀x∈q7y d piv n f k,qf3 BIG x
 | 0,_,x,hx=>by
  rw[q7y] at hx
  rcases List.mem_or_eq_of_mem_set hx with hx | rfl
  ·obtain rfl:=(List.mem_replicate.1 hx).2
   unfold BIG; omega
  ·exact h.al f hf hfree _ (Nat.le_refl _)
 | k+1,hk,x,hx=>by
  rw[q7y] at hx
  rcases List.mem_or_eq_of_mem_set hx with hx | rfl
  ·exact wb3 h hf hfree k (by omega) x hx
  ·exact h.pr f hf hfree k (by omega)
abbrev sKr:qc9:=qh6 false none [qk0] [qk0] (λx=>xl8 x.1) (λx=>(qg5 x.1,()))
def x4i (rows:List (List Int)):Nat->Option Inv
 | 0=>some (Inv.of [5,25] 1 (λf:Nat=>[(5,.own 0),(25,.lit (.int .i64 f))]) (λf=>[.vec 24 (.list (.int .i64)) (qh8 (qa1 rows).1 (qa1 rows).2 (rdW rows) f)]) (λf=>f<=rdW rows) (λf=>rdW rows-f))
 | 1=>some (Eng.Inv.mk Nat Nat [5,7,30] 1 (λf k=>[(5,.own 0),(7,.lit (.bool (qn0 (qa1 rows).2 f k))),(30,.lit (.int .i64 k))]) (λf k=>[.vec 24 (.list (.int .i64)) (qh8 (qa1 rows).1 (qa1 rows).2 (rdW rows) f)]) (λf k=>k<=(qa1 rows).2.length) (λf k=>(qa1 rows).2.length-k))
 | 2=>some (Eng.Inv.mk Nat Nat [5,10,45] 1 (λf k=>[(5,.own 0),(10,.lit (.int .i64 (ql2 (qa1 rows).1 (qa1 rows).2 k))),(45,.lit (.int .i64 k))]) (λf k=>[.vec 24 (.list (.int .i64)) (qh8 (qa1 rows).1 (qa1 rows).2 (rdW rows) f)]) (λf k=>k<=(qa1 rows).2.length) (λf k=>(qa1 rows).2.length-k))
 | 3=>some (Eng.Inv.mk Nat Nat [5,13,81] 2 (λf k=>[(5,.own 0),(13,.own 1),(81,.lit (.int .i64 k))]) (λf k=>[.vec 24 (.list (.int .i64)) (qh8 (qa1 rows).1 (qa1 rows).2 (rdW rows) f),.vec 3 (.int .i64) (q7y (qa1 rows).1 (qa1 rows).2 (rdW rows) f k)]) (λf k=>k<=(qa1 rows).2.length) (λf k=>(qa1 rows).2.length-k))
 | _=>none
theorem wk3 {rows:List (List Int)} (h:w85 rows):(qa1 rows).1.length<=1000:=by
 have:=(wp4 h (rdW rows)).dn
 have:=h.w
 show(qg6 rows (rdW rows)).done_.length<=1000
 omega
theorem w87 {d:List (List Int)} {P:List Int} {n:Nat} (h:xv1 d P n) (hn:d.length<=1000:=by omega):P.length<=1000:=by have:=h.cnt; omega
theorem w88:qe1 Try.prog 127 sKr:=by
 refine meets (snd (SpecsOk.cons w86 (SpecsOk.cons q8z (SpecsOk.cons q2k (SpecsOk.nil _))))) Try.func127 rfl rfl (λx=>x4i x.1) (λ_=>by kernel_rfl) (by decide) ?_
 rintro⟨rows,⟨⟩⟩ h
 revert rows
 intro(rows:List (List Int)) (h:xl8 rows)
 refine qe6 (B:=w85 rows/\((0:Int)<=(0:Int)/\(0:Int)<(↑(List.length rows):Int))/\∃(v0:Unit),∃(v1:Nat),Nat.le v1 (rdW rows)/\((True/\(0:Int)=(↑v1:Int)/\True)/\qh8 (Prod.fst (qa1 rows)) (Prod.snd (qa1 rows)) (rdW rows) v1=[]/\True)/\∀(v2:Nat),Nat.le v2 (rdW rows)->(decide ((↑v2:Int)<(↑(List.length (qa3 (Ty.list (Ty.int .i64)) rows (0:Nat))):Int))=true->∃(v5:Nat),∃(v6:Nat),Nat.le v6 (List.length (Prod.snd (qa1 rows)))/\((True/\true=qn0 (Prod.snd (qa1 rows)) v5 v6/\(0:Int)=(↑v6:Int)/\True)/\qh8 (Prod.fst (qa1 rows)) (Prod.snd (qa1 rows)) (rdW rows) v2=qh8 (Prod.fst (qa1 rows)) (Prod.snd (qa1 rows)) (rdW rows) v5/\True)/\∀(v7:Nat),Nat.le v7 (List.length (Prod.snd (qa1 rows)))->(decide ((↑v7:Int)<(↑(List.length (Prod.snd (qa1 rows))):Int))=true->((0:Int)<=(↑v7:Int)/\(↑v7:Int)<(↑(List.length (Prod.snd (qa1 rows))):Int))/\(qn0 (Prod.snd (qa1 rows)) v5 v7=true->fits .i64 ((↑v7:Int)+(1:Int))/\∃(v11:Nat),Nat.le v11 (List.length (Prod.snd (qa1 rows)))/\List.length (Prod.snd (qa1 rows))-v11<List.length (Prod.snd (qa1 rows))-v7/\(True/\(qa3 (Ty.int .i64) (Prod.snd (qa1 rows)) (Int.toNat (↑v7:Int)) != (↑v2:Int))=qn0 (Prod.snd (qa1 rows)) v5 v11/\(↑v7:Int)+(1:Int)=(↑v11:Int)/\True)/\qh8 (Prod.fst (qa1 rows)) (Prod.snd (qa1 rows)) (rdW rows) v5=qh8 (Prod.fst (qa1 rows)) (Prod.snd (qa1 rows)) (rdW rows) v5/\True)/\(qn0 (Prod.snd (qa1 rows)) v5 v7=false->fits .i64 ((↑v7:Int)+(1:Int))/\∃(v11:Nat),Nat.le v11 (List.length (Prod.snd (qa1 rows)))/\List.length (Prod.snd (qa1 rows))-v11<List.length (Prod.snd (qa1 rows))-v7/\(True/\false=qn0 (Prod.snd (qa1 rows)) v5 v11/\(↑v7:Int)+(1:Int)=(↑v11:Int)/\True)/\qh8 (Prod.fst (qa1 rows)) (Prod.snd (qa1 rows)) (rdW rows) v5=qh8 (Prod.fst (qa1 rows)) (Prod.snd (qa1 rows)) (rdW rows) v5/\True))/\(decide ((↑v7:Int)<(↑(List.length (Prod.snd (qa1 rows))):Int))=false->((!qn0 (Prod.snd (qa1 rows)) v5 v7)=true->fits .i64 ((↑v2:Int)+(1:Int))/\∃(v11:Nat),Nat.le v11 (rdW rows)/\rdW rows-v11<rdW rows-v2/\(True/\(↑v2:Int)+(1:Int)=(↑v11:Int)/\True)/\qh8 (Prod.fst (qa1 rows)) (Prod.snd (qa1 rows)) (rdW rows) v5=qh8 (Prod.fst (qa1 rows)) (Prod.snd (qa1 rows)) (rdW rows) v11/\True)/\((!qn0 (Prod.snd (qa1 rows)) v5 v7)=false->∃(v11:Nat),∃(v12:Nat),Nat.le v12 (List.length (Prod.snd (qa1 rows)))/\((True/\(1:Int)=ql2 (Prod.fst (qa1 rows)) (Prod.snd (qa1 rows)) v12/\(0:Int)=(↑v12:Int)/\True)/\qh8 (Prod.fst (qa1 rows)) (Prod.snd (qa1 rows)) (rdW rows) v5=qh8 (Prod.fst (qa1 rows)) (Prod.snd (qa1 rows)) (rdW rows) v11/\True)/\∀(v13:Nat),Nat.le v13 (List.length (Prod.snd (qa1 rows)))->(decide ((↑v13:Int)<(↑(List.length (Prod.snd (qa1 rows))):Int))=true->((0:Int)<=(↑v13:Int)/\(↑v13:Int)<(↑(List.length (Prod.snd (qa1 rows))):Int))/\((0:Int)<=(↑v13:Int)/\(↑v13:Int)<(↑(List.length (Prod.fst (qa1 rows))):Int))/\((0:Int)<=qa3 (Ty.int .i64) (Prod.snd (qa1 rows)) (Int.toNat (↑v13:Int))/\qa3 (Ty.int .i64) (Prod.snd (qa1 rows)) (Int.toNat (↑v13:Int))<(↑(List.length (qa3 (Ty.list (Ty.int .i64)) (Prod.fst (qa1 rows)) (Int.toNat (↑v13:Int)))):Int))/\(((-4000000000000000000:Int)<=ql2 (Prod.fst (qa1 rows)) (Prod.snd (qa1 rows)) v13/\ql2 (Prod.fst (qa1 rows)) (Prod.snd (qa1 rows)) v13<=BIG)/\(-4000000000000000000:Int)<=qa3 (Ty.int .i64) (qa3 (Ty.list (Ty.int .i64)) (Prod.fst (qa1 rows)) (Int.toNat (↑v13:Int))) (Int.toNat (qa3 (Ty.int .i64) (Prod.snd (qa1 rows)) (Int.toNat (↑v13:Int))))/\qa3 (Ty.int .i64) (qa3 (Ty.list (Ty.int .i64)) (Prod.fst (qa1 rows)) (Int.toNat (↑v13:Int))) (Int.toNat (qa3 (Ty.int .i64) (Prod.snd (qa1 rows)) (Int.toNat (↑v13:Int))))<=BIG)/\qf8 (ql2 (Prod.fst (qa1 rows)) (Prod.snd (qa1 rows)) v13) (qa3 (Ty.int .i64) (qa3 (Ty.list (Ty.int .i64)) (Prod.fst (qa1 rows)) (Int.toNat (↑v13:Int))) (Int.toNat (qa3 (Ty.int .i64) (Prod.snd (qa1 rows)) (Int.toNat (↑v13:Int)))))≠(0:Int)/\fits .i64 (Int.tdiv (ql2 (Prod.fst (qa1 rows)) (Prod.snd (qa1 rows)) v13) (qf8 (ql2 (Prod.fst (qa1 rows)) (Prod.snd (qa1 rows)) v13) (qa3 (Ty.int .i64) (qa3 (Ty.list (Ty.int .i64)) (Prod.fst (qa1 rows)) (Int.toNat (↑v13:Int))) (Int.toNat (qa3 (Ty.int .i64) (Prod.snd (qa1 rows)) (Int.toNat (↑v13:Int)))))))/\((0:Int)<=(↑v13:Int)/\(↑v13:Int)<(↑(List.length (Prod.fst (qa1 rows))):Int))/\((0:Int)<=qa3 (Ty.int .i64) (Prod.snd (qa1 rows)) (Int.toNat (↑v13:Int))/\qa3 (Ty.int .i64) (Prod.snd (qa1 rows)) (Int.toNat (↑v13:Int))<(↑(List.length (qa3 (Ty.list (Ty.int .i64)) (Prod.fst (qa1 rows)) (Int.toNat (↑v13:Int)))):Int))/\fits .i64 (Int.tdiv (ql2 (Prod.fst (qa1 rows)) (Prod.snd (qa1 rows)) v13) (qf8 (ql2 (Prod.fst (qa1 rows)) (Prod.snd (qa1 rows)) v13) (qa3 (Ty.int .i64) (qa3 (Ty.list (Ty.int .i64)) (Prod.fst (qa1 rows)) (Int.toNat (↑v13:Int))) (Int.toNat (qa3 (Ty.int .i64) (Prod.snd (qa1 rows)) (Int.toNat (↑v13:Int))))))*qa3 (Ty.int .i64) (qa3 (Ty.list (Ty.int .i64)) (Prod.fst (qa1 rows)) (Int.toNat (↑v13:Int))) (Int.toNat (qa3 (Ty.int .i64) (Prod.snd (qa1 rows)) (Int.toNat (↑v13:Int)))))/\fits .i64 ((↑v13:Int)+(1:Int))/\∃(v16:Nat),Nat.le v16 (List.length (Prod.snd (qa1 rows)))/\List.length (Prod.snd (qa1 rows))-v16<List.length (Prod.snd (qa1 rows))-v13/\(True/\Int.tdiv (ql2 (Prod.fst (qa1 rows)) (Prod.snd (qa1 rows)) v13) (qf8 (ql2 (Prod.fst (qa1 rows)) (Prod.snd (qa1 rows)) v13) (qa3 (Ty.int .i64) (qa3 (Ty.list (Ty.int .i64)) (Prod.fst (qa1 rows)) (Int.toNat (↑v13:Int))) (Int.toNat (qa3 (Ty.int .i64) (Prod.snd (qa1 rows)) (Int.toNat (↑v13:Int))))))*qa3 (Ty.int .i64) (qa3 (Ty.list (Ty.int .i64)) (Prod.fst (qa1 rows)) (Int.toNat (↑v13:Int))) (Int.toNat (qa3 (Ty.int .i64) (Prod.snd (qa1 rows)) (Int.toNat (↑v13:Int))))=ql2 (Prod.fst (qa1 rows)) (Prod.snd (qa1 rows)) v16/\(↑v13:Int)+(1:Int)=(↑v16:Int)/\True)/\qh8 (Prod.fst (qa1 rows)) (Prod.snd (qa1 rows)) (rdW rows) v11=qh8 (Prod.fst (qa1 rows)) (Prod.snd (qa1 rows)) (rdW rows) v11/\True)/\(decide ((↑v13:Int)<(↑(List.length (Prod.snd (qa1 rows))):Int))=false->((0:Int)<=(0:Int)/\(0:Int)<(↑(List.length rows):Int))/\((↑(List.length (qa3 (Ty.list (Ty.int .i64)) rows (0:Nat))):Int)=(↑(List.length (qa3 (Ty.list (Ty.int .i64)) rows (0:Nat))):Int)/\(0:Int)<=(↑(List.length (qa3 (Ty.list (Ty.int .i64)) rows (0:Nat))):Int)/\(↑(List.length (qa3 (Ty.list (Ty.int .i64)) rows (0:Nat))):Int)<=(1000000:Int))/\((0:Int)<=(↑v2:Int)/\(↑v2:Int)<(↑(List.length (List.replicate (Int.toNat (↑(List.length (qa3 (Ty.list (Ty.int .i64)) rows (0:Nat))):Int)) (Ty.dflt (TI.ty T3)))):Int))/\Int.toNat (↑v2:Int)<List.length (List.replicate (Int.toNat (↑(List.length (qa3 (Ty.list (Ty.int .i64)) rows (0:Nat))):Int)) (Ty.dflt (TI.ty T3)))/\∃(v16:Nat),∃(v17:Nat),Nat.le v17 (List.length (Prod.snd (qa1 rows)))/\((True/\True/\(0:Int)=(↑v17:Int)/\True)/\qh8 (Prod.fst (qa1 rows)) (Prod.snd (qa1 rows)) (rdW rows) v11=qh8 (Prod.fst (qa1 rows)) (Prod.snd (qa1 rows)) (rdW rows) v16/\List.set (List.replicate (Int.toNat (↑(List.length (qa3 (Ty.list (Ty.int .i64)) rows (0:Nat))):Int)) (Ty.dflt (TI.ty T3))) (Int.toNat (↑v2:Int)) (ql2 (Prod.fst (qa1 rows)) (Prod.snd (qa1 rows)) v13)=q7y (Prod.fst (qa1 rows)) (Prod.snd (qa1 rows)) (rdW rows) v16 v17/\True)/\∀(v18:Nat),Nat.le v18 (List.length (Prod.snd (qa1 rows)))->(decide ((↑v18:Int)<(↑(List.length (Prod.snd (qa1 rows))):Int))=true->((0:Int)<=(↑v18:Int)/\(↑v18:Int)<(↑(List.length (Prod.snd (qa1 rows))):Int))/\((0:Int)<=(↑v18:Int)/\(↑v18:Int)<(↑(List.length (Prod.fst (qa1 rows))):Int))/\((0:Int)<=(↑v2:Int)/\(↑v2:Int)<(↑(List.length (qa3 (Ty.list (Ty.int .i64)) (Prod.fst (qa1 rows)) (Int.toNat (↑v18:Int)))):Int))/\fits .i64 ((0:Int)-qa3 (Ty.int .i64) (qa3 (Ty.list (Ty.int .i64)) (Prod.fst (qa1 rows)) (Int.toNat (↑v18:Int))) (Int.toNat (↑v2:Int)))/\((0:Int)<=(↑v18:Int)/\(↑v18:Int)<(↑(List.length (Prod.fst (qa1 rows))):Int))/\((0:Int)<=qa3 (Ty.int .i64) (Prod.snd (qa1 rows)) (Int.toNat (↑v18:Int))/\qa3 (Ty.int .i64) (Prod.snd (qa1 rows)) (Int.toNat (↑v18:Int))<(↑(List.length (qa3 (Ty.list (Ty.int .i64)) (Prod.fst (qa1 rows)) (Int.toNat (↑v18:Int)))):Int))/\qa3 (Ty.int .i64) (qa3 (Ty.list (Ty.int .i64)) (Prod.fst (qa1 rows)) (Int.toNat (↑v18:Int))) (Int.toNat (qa3 (Ty.int .i64) (Prod.snd (qa1 rows)) (Int.toNat (↑v18:Int))))≠(0:Int)/\fits .i64 (Int.tdiv (ql2 (Prod.fst (qa1 rows)) (Prod.snd (qa1 rows)) v13) (qa3 (Ty.int .i64) (qa3 (Ty.list (Ty.int .i64)) (Prod.fst (qa1 rows)) (Int.toNat (↑v18:Int))) (Int.toNat (qa3 (Ty.int .i64) (Prod.snd (qa1 rows)) (Int.toNat (↑v18:Int))))))/\fits .i64 (((0:Int)-qa3 (Ty.int .i64) (qa3 (Ty.list (Ty.int .i64)) (Prod.fst (qa1 rows)) (Int.toNat (↑v18:Int))) (Int.toNat (↑v2:Int)))*Int.tdiv (ql2 (Prod.fst (qa1 rows)) (Prod.snd (qa1 rows)) v13) (qa3 (Ty.int .i64) (qa3 (Ty.list (Ty.int .i64)) (Prod.fst (qa1 rows)) (Int.toNat (↑v18:Int))) (Int.toNat (qa3 (Ty.int .i64) (Prod.snd (qa1 rows)) (Int.toNat (↑v18:Int))))))/\((0:Int)<=qa3 (Ty.int .i64) (Prod.snd (qa1 rows)) (Int.toNat (↑v18:Int))/\qa3 (Ty.int .i64) (Prod.snd (qa1 rows)) (Int.toNat (↑v18:Int))<(↑(List.length (q7y (Prod.fst (qa1 rows)) (Prod.snd (qa1 rows)) (rdW rows) v16 v18)):Int))/\Int.toNat (qa3 (Ty.int .i64) (Prod.snd (qa1 rows)) (Int.toNat (↑v18:Int)))<List.length (q7y (Prod.fst (qa1 rows)) (Prod.snd (qa1 rows)) (rdW rows) v16 v18)/\fits .i64 ((↑v18:Int)+(1:Int))/\∃(v21:Nat),Nat.le v21 (List.length (Prod.snd (qa1 rows)))/\List.length (Prod.snd (qa1 rows))-v21<List.length (Prod.snd (qa1 rows))-v18/\(True/\True/\(↑v18:Int)+(1:Int)=(↑v21:Int)/\True)/\qh8 (Prod.fst (qa1 rows)) (Prod.snd (qa1 rows)) (rdW rows) v16=qh8 (Prod.fst (qa1 rows)) (Prod.snd (qa1 rows)) (rdW rows) v16/\List.set (q7y (Prod.fst (qa1 rows)) (Prod.snd (qa1 rows)) (rdW rows) v16 v18) (Int.toNat (qa3 (Ty.int .i64) (Prod.snd (qa1 rows)) (Int.toNat (↑v18:Int)))) (((0:Int)-qa3 (Ty.int .i64) (qa3 (Ty.list (Ty.int .i64)) (Prod.fst (qa1 rows)) (Int.toNat (↑v18:Int))) (Int.toNat (↑v2:Int)))*Int.tdiv (ql2 (Prod.fst (qa1 rows)) (Prod.snd (qa1 rows)) v13) (qa3 (Ty.int .i64) (qa3 (Ty.list (Ty.int .i64)) (Prod.fst (qa1 rows)) (Int.toNat (↑v18:Int))) (Int.toNat (qa3 (Ty.int .i64) (Prod.snd (qa1 rows)) (Int.toNat (↑v18:Int))))))=q7y (Prod.fst (qa1 rows)) (Prod.snd (qa1 rows)) (rdW rows) v16 v21/\True)/\(decide ((↑v18:Int)<(↑(List.length (Prod.snd (qa1 rows))):Int))=false->q3x (q7y (Prod.fst (qa1 rows)) (Prod.snd (qa1 rows)) (rdW rows) v16 v18)/\((0:Nat)<(0:Nat)+(1:Nat)/\Nat.le (List.length (qh8 (Prod.fst (qa1 rows)) (Prod.snd (qa1 rows)) (rdW rows) v16)+((0:Nat)+(1:Nat))) (1000000:Nat))/\fits .i64 ((↑v2:Int)+(1:Int))/\∃(v21:Nat),Nat.le v21 (rdW rows)/\rdW rows-v21<rdW rows-v2/\(True/\(↑v2:Int)+(1:Int)=(↑v21:Int)/\True)/\qh8 (Prod.fst (qa1 rows)) (Prod.snd (qa1 rows)) (rdW rows) v16++[qj7 (q7y (Prod.fst (qa1 rows)) (Prod.snd (qa1 rows)) (rdW rows) v16 v18)]=qh8 (Prod.fst (qa1 rows)) (Prod.snd (qa1 rows)) (rdW rows) v21/\True)))))/\(decide ((↑v2:Int)<(↑(List.length (qa3 (Ty.list (Ty.int .i64)) rows (0:Nat))):Int))=false->qh8 (Prod.fst (qa1 rows)) (Prod.snd (qa1 rows)) (rdW rows) v2=qg5 rows)) (by kernel_rfl) ?_
 try simp only[z0,z1,z2,z3,z4,z5,z6,z7,z8,z9,z10,Int.reduceEq,z11,z12,z13,z14,z15,z16,z17,z18,z19,z20,z21,z22,z23,z24,z25,z26,z27,z28,z29,z30,Int.reduceLE,Int.reduceLT,z31,z32,z33,z34,qa4]
 try simp only[qb8,qb9,qd2,List.set_cons_zero,List.cons.injEq,and_true,true_and]
 have h1:=h.one
 have hw:=h.rd.w
 have har:=h.ar
 have hdl:=wk3 h.rd
 refine⟨h.rd,by omega,?_⟩
 rw[show(nL rows 0).length=rdW rows from rfl]
 unfold qg5
 generalize qa1 rows=K at *
 obtain⟨d,P⟩:=K
 dsimp only at har hdl ⊢
 have hcnt:=har.cnt
 refine⟨(),0,Nat.zero_le _,⟨rfl,rfl⟩,λf hf=>⟨λhlt=>?_,λhge=>?_⟩⟩
 ·refine⟨f,0,Nat.zero_le _,⟨⟨rfl,rfl⟩,rfl⟩,λk hk=>⟨λhlk=>⟨hlk,λht=>⟨qa8 ?_ ?_,k+1,hlk,by omega,by rw[qn0,ht,Bool.true_and],by omega⟩,λht=>⟨qa8 ?_ ?_,k+1,hlk,by omega,by rw[qn0,ht,Bool.false_and],by omega⟩⟩,λhgk=>?_⟩⟩
  ·omega
  ·have:=w87 har; omega
  ·omega
  ·have:=w87 har; omega
  obtain rfl:k=P.length:=by omega
  refine⟨λhfree=>⟨qa8 (by omega) (by omega),f+1,by omega,by omega,by omega,by rw[qh8,if_neg (by rw[hfree]; decide)]⟩,λhfree=>?_⟩
  refine⟨f,0,Nat.zero_le _,⟨⟨rfl,rfl⟩,rfl⟩,λk hk=>⟨λhlk=>?_,λhgk=>?_⟩⟩
  ·have hp:=har.pv k hlk
   have hr:=har.each k (by omega)
   have hp':0<=nI P k/\nI P k<((nL d k).length:Int):=⟨hp.1,by omega⟩
   have hb1:=har.big k hlk (nI P k).toNat (by omega)
   have hz:=har.nz k hlk
   have ha:=har.al f hlt hfree k hk
   have ha2:=har.al f hlt hfree (k+1) hlk
   have e1:nI (nL d k) (nI P k).toNat=q63 d P k:=rfl
   rw[e1] at hb1 ⊢
   have e2:ql2 d P (k+1)=(ql2 d P k).tdiv (qf8 (ql2 d P k) (q63 d P k))*q63 d P k:=rfl
   rw[<- e2]
   have hq:qf3 BIG ((ql2 d P k).tdiv (qf8 (ql2 d P k) (q63 d P k))):=ql4 ha
   have g1:=qr4 (a:=ql2 d P k) (b:=q63 d P k) (Or.inr hz)
   have hpl:=w87 har
   have hB:BIG=4000000000000000000:=rfl
   unfold qf3 at *
   refine⟨hlk,by omega,hp',⟨ha,hb1⟩,by omega,qa8 (by omega) (by omega),by omega,hp',qa8 (by omega) (by omega),qa8 (by omega) (by omega),k+1,hlk,by omega,rfl,by omega⟩
  ·obtain rfl:k=P.length:=by omega
   have hl0:(List.replicate (rdW rows) T3.ty.dflt).length=rdW rows:=List.length_replicate
   refine⟨by omega,by omega,by omega,by omega,f,0,Nat.zero_le _,⟨rfl,rfl,rfl⟩,λk hk=>⟨λhlk=>?_,λhgk=>?_⟩⟩
   ·have hp:=har.pv k hlk
    have hr:=har.each k (by omega)
    have hp':0<=nI P k/\nI P k<((nL d k).length:Int):=⟨hp.1,by omega⟩
    have hb2:=har.big k hlk f hlt
    have hz:=har.nz k hlk
    have hpr:=har.pr f hlt hfree k hlk
    have ha:=har.al f hlt hfree P.length (Nat.le_refl _)
    have e1:nI (nL d k) (nI P k).toNat=q63 d P k:=rfl
    rw[e1]
    have hq:qf3 BIG ((ql2 d P P.length).tdiv (q63 d P k)):=ql4 ha
    have hl:=q3l d P (rdW rows) f k
    have hp'':0<=nI P k/\nI P k<((q7y d P (rdW rows) f k).length:Int):=⟨hp.1,by omega⟩
    have hpl:=w87 har
    have hB:BIG=4000000000000000000:=rfl
    unfold qf3 at *
    refine⟨hlk,by omega,by omega,qa8 (by omega) (by omega),by omega,hp',hz,qa8 (by omega) (by omega),qa8 (by omega) (by omega),hp'',by omega,qa8 (by omega) (by omega),k+1,hlk,by omega,by omega,rfl⟩
   ·obtain rfl:k=P.length:=by omega
    have hl:=q3l d P (rdW rows) f P.length
    have hkl:=q82 d P (rdW rows) f
    refine⟨⟨by omega,wb3 har hlt hfree _ (Nat.le_refl _)⟩,by omega,qa8 (by omega) (by omega),f+1,by omega,by omega,by omega,?_⟩
    rw[qh8,if_pos hfree]
 ·obtain rfl:f=rdW rows:=by omega
  rfl
end Go.Proofs.Ytdibdlelmkcccaa
set_option linter.unusedVariables false
set_option linter.unusedSimpArgs false
namespace Go.Proofs.Ytdibdlelmkcccaa
open Go Go.RowKit Eng
def qd7 (n:Nat) (set v:List Int):Nat->List Int
 | 0=>List.replicate n 0
 | j+1=>(qd7 n set v j).set (nI set j).toNat (nI v j)
def q75 (l:List (List Int)):Bool:=decide (l.length=1) && !((nL l 0).any λe=>(0:Int)==e)
def xv2 (m:List (List Int)) (n:Nat) (set:List Int):List Int:=q6x (qd7 n set (nL (ql8 m set) 0) set.length)
def qs1 (m:List (List Int)) (n:Nat) (L:List (List Int)):Nat->List (List Int)
 | 0=>[]
 | c+1=>if q75 (ql8 m (nL L c)) then qs1 m n L c++[xv2 m n (nL L c)] else qs1 m n L c
def q2n (m:List (List Int)) (n:Nat):Nat->List (List Int)
 | 0=>[]
 | k+1=>q2n m n k++qs1 m n (qe3 n (k+1:Nat)) (qe3 n (k+1:Nat)).length
def q5m (m:List (List Int)):Nat:=min ((qb3 m (q0y (nL m 0).length)).2.length+1) (nL m 0).length
def q1x (m:List (List Int)):List (List Int) × Int:=if qd3 m=false then([],1) else(q2n m (nL m 0).length (q5m m),0)
structure wb4 (m:List (List Int)):Prop where
 rank:wj9 m
 ker:∀k,k<(nL m 0).length->∀set∈qe3 (nL m 0).length (k+1:Nat),w11 m set
abbrev x4j:qc9:=qh6 true none [qk0] [qk0,qg1] (λx=>qd3 x.1=true->wb4 x.1) (λx=>((q1x x.1).1,(q1x x.1).2,()))
def x0q (m:List (List Int)) (n:Nat):Nat->Option Inv
 | 0=>some (Inv.of [30] 4 (λk:Nat=>[(30,.lit (.int .i64 k))]) (λk=>[.box 23 (.cons (.dat (.list (.int .i64)) m) .nil),.box 3 (.cons (.lit (.int .i64 n)) .nil),.box 22 (.cons (.msl 3 .none) .nil),.mat 24 3 (.int .i64) (q2n m n k) .none .none]) (λk=>k<=q5m m) (λk=>q5m m-k))
 | 1=>some (Eng.Inv.mk Nat Nat [] 4 (λ_ _=>[]) (λk c=>[.box 23 (.cons (.dat (.list (.int .i64)) m) .nil),.box 3 (.cons (.lit (.int .i64 n)) .nil),.box 22 (.cons (.msl 3 .none) .nil),.mat 24 3 (.int .i64) (q2n m n k++qs1 m n (qe3 n (k+1:Nat)) c) .none .none]) (λk c=>c<=(qe3 n (k+1:Nat)).length) (λk c=>c))
 | 2=>some (Eng.Inv.mk (q7x × Nat × Nat × List Int) Nat [9,11,52,54] 6 (λq j=>[(9,.msl 4 (some 0)),(11,.own 5),(52,.msl 4 (some 0)),(54,.lit (.int .i64 j))]) (λq j=>[.box 23 (.cons (.dat (.list (.int .i64)) m) .nil),.box 3 (.cons (.lit (.int .i64 n)) .nil),.box 22 (.cons (.msl 3 .none) .nil),.mat 24 3 (.int .i64) (q2n m n q.2.1++qs1 m n (qe3 n (q.2.1+1:Nat)) q.2.2.1) .none .none,.mat 3 3 (.int .i64) [q.2.2.2] (some []) (some q.1),.vec 3 (.int .i64) (qd7 n q.2.2.2 (nL (ql8 m q.2.2.2) 0) j)]) (λq j=>j<=q.2.2.2.length) (λq j=>q.2.2.2.length-j))
 | _=>none
def x0r (mats em:List Nat) (specs:List (Nat × qc9)) (muts:List (Nat × qn3)) (its:List (Nat × q14)):Ctx:={ specs:=specs,tys:=tys,wr:=[],muts:=muts,mats:=mats,em:=em,its:=its }
theorem x0s (mats em:List Nat) {specs:List (Nat × qc9)} {muts:List (Nat × qn3)} {its:List (Nat × q14)} (h:SpecsOk Try.prog specs) (hm:MutsOk muts) (hi:ItsOk its):Sound Try.prog (x0r mats em specs muts its):=SpecsOk.sound h q3d (by kernel_rfl) hi (hmu:=hm)
theorem q64 (m:List (List Int)) (n:Nat) (L:List (List Int)):∀c,(qs1 m n L c).length<=c
 | 0=>Nat.le_refl _
 | c+1=>by
  have:=q64 m n L c
  rw[qs1]
  split
  ·simp; omega
  ·omega
theorem wp9:((List.range 11).all λn=>(List.range 12).all λk=>decide ((qe3 (n:Nat) (k:Nat)).length<=1000))=true:=by decide +kernel
theorem wk4 (n k:Nat) (hn:n<=10) (hk:k<=11):(qe3 (n:Nat) (k:Nat)).length<=1000:=
 of_decide_eq_true (List.all_eq_true.1 (List.all_eq_true.1 wp9 n (List.mem_range.2 (by omega))) k (List.mem_range.2 (by omega)))
theorem wy4 (m:List (List Int)) (n:Nat) (hn:n<=10):∀k,k<=11->(q2n m n k).length<=1000*k
 | 0,_=>Nat.le_refl _
 | k+1,hk=>by
  have h1:=wy4 m n hn k (by omega)
  have h2:=wk4 n (k+1) hn hk
  have h3:=q64 m n (qe3 (n:Nat) (k+1:Nat)) (qe3 (n:Nat) (k+1:Nat)).length
  rw[q2n,List.length_append]
  omega
theorem q65 {R:List (List Int)} {P:List Int} {n:Nat} (h:w5k R P n) (hn:n<=1000):∀f,f<=n->∀x∈qo8 R P n f,x.length=n/\q3x x
 | 0,_,x,hx=>by cases hx
 | f+1,hf,x,hx=>by
  rw[qo8] at hx
  split at hx
  ·exact q65 h hn f (by omega) x hx
  ·rename_i hfree
   rcases List.mem_append.1 hx with hx | hx
   ·exact q65 h hn f (by omega) x hx
   ·obtain rfl:=List.mem_singleton.1 hx
    have hb:q3x (hTo R P n f P.length):=⟨by rw[q6y]; exact hn,wp2 h (by omega) (Bool.eq_false_iff.2 hfree) _ (Nat.le_refl _)⟩
    exact⟨by rw[q8r,q6y],q8x hb⟩
theorem q66 {m:List (List Int)} {set:List Int} (h:w11 m set) (x:List Int) (hx:x∈ql8 m set):x.length=set.length/\set.length<=1000/\q3x x:=by
 have hw:=h.red.w
 have:=q65 h.ar hw _ (Nat.le_refl _) x hx
 exact⟨this.1,hw,this.2⟩
theorem qk1 (n:Nat) (set v:List Int):∀j,(qd7 n set v j).length=n
 | 0=>by simp[qd7]
 | j+1=>by rw[qd7,List.length_set]; exact qk1 n set v j
theorem q03 {n:Nat} {set v:List Int} (hv:q3x v) (hn:n<=1000) (hl:v.length=set.length):∀j,j<=set.length->q3x (qd7 n set v j)
 | 0,_=>⟨by simp[qd7]; omega,λx hx=>by
  obtain rfl:=(List.mem_replicate.1 hx).2
  unfold BIG; omega⟩
 | j+1,hj=>by
  have h1:=q03 hv hn hl j (by omega)
  refine⟨by rw[qk1]; exact hn,λx hx=>?_⟩
  rw[qd7] at hx
  rcases List.mem_or_eq_of_mem_set hx with hx | rfl
  ·exact h1.2 x hx
  ·exact qz4 hv (by omega)
theorem w5x:qe1 Try.prog 96 x4j:=by
 refine meets (x0s [72] [] (SpecsOk.cons w13 (SpecsOk.cons q8w (SpecsOk.cons w5l (SpecsOk.cons wj7 (SpecsOk.nil _))))) (MutsOk.cons w1z MutsOk.nil) (ItsOk.cons q8v ItsOk.nil)) Try.func96 rfl rfl (λx=>x0q x.1 (nL x.1 0).length) (λ_=>by kernel_rfl) (by decide) ?_
 rintro⟨m,⟨⟩⟩ h
 revert m
 intro(m:List (List Int)) (h:qd3 m=true->wb4 m)
 refine qe6 (B:=(qd3 m=true->wj9 m)/\((Prod.snd (qx0 m) != (0:Int))=true->Prod.fst (q1x m)=[]/\Prod.snd (qx0 m)=Prod.snd (q1x m)/\True)/\((Prod.snd (qx0 m) != (0:Int))=false->((0:Int)<=(0:Int)/\(0:Int)<(↑(List.length m):Int))/\fits .i64 (Prod.fst (qx0 m)+(1:Int))/\∃(v1:Unit),∃(v2:Nat),Nat.le v2 (q5m m)/\(((0:Int)=(↑v2:Int)/\True)/\(m=m/\True)/\((↑(List.length (qa3 (Ty.list (Ty.int .i64)) m (0:Nat))):Int)=(↑(List.length (nL m (0:Nat))):Int)/\True)/\(True/\True)/\q2n m (List.length (nL m (0:Nat))) v2=[]/\True)/\∀(v3:Nat),Nat.le v3 (q5m m)->(decide ((↑v3:Int)<max2 false (Prod.fst (qx0 m)+(1:Int)) (↑(List.length (qa3 (Ty.list (Ty.int .i64)) m (0:Nat))):Int))=true->fits .i64 ((↑v3:Int)+(1:Int))/\True/\(((0:Ty.den qg1)<=(↑v3:Int)+(1:Int)/\(↑v3:Int)+(1:Int)<=(1000:Ty.den qg1))/\(0:Ty.den qg1)<=(↑(List.length (nL m (0:Nat))):Int)/\(↑(List.length (nL m (0:Nat))):Int)<=(1000:Ty.den qg1))/\∃(v6:Nat),∃(v7:Nat),Nat.le v7 (List.length (qe3 (↑(List.length (nL m (0:Nat))):Int) (↑(v6+(1:Nat)):Int)))/\v7=(0:Nat)/\((m=m/\True)/\((↑(List.length (nL m (0:Nat))):Int)=(↑(List.length (nL m (0:Nat))):Int)/\True)/\(True/\True)/\(q2n m (List.length (nL m (0:Nat))) v3=q2n m (List.length (nL m (0:Nat))) v6++qs1 m (List.length (nL m (0:Nat))) (qe3 (↑(List.length (nL m (0:Nat))):Int) (↑(v6+(1:Nat)):Int)) v7/\True/\True)/\True)/\∀(v8:Nat),Nat.le v8 (List.length (qe3 (↑(List.length (nL m (0:Nat))):Int) (↑(v6+(1:Nat)):Int)))->(∀(v10:List Int × qa7._f [] PUnit.unit),(List.map (λ(v12:List Int)=>(v12,())) (qe3 (↑(List.length (nL m (0:Nat))):Int) ((↑v3:Int)+(1:Int))))[v8]?=some v10->∀(v12:q7x),w11 m (qa3 (Ty.list (Ty.int .i64)) [Prod.fst v10] (0:Nat))/\(((↑(List.length (ql8 m (qa3 (Ty.list (Ty.int .i64)) [Prod.fst v10] (0:Nat)))):Int) != (1:Int))=true->[Prod.fst v10]=[Prod.fst v10]/\v12=v12/\True/\∃(v14:Nat),Nat.le v14 (List.length (qe3 (↑(List.length (nL m (0:Nat))):Int) (↑(v6+(1:Nat)):Int)))/\v14=v8+(1:Nat)/\(m=m/\True)/\((↑(List.length (nL m (0:Nat))):Int)=(↑(List.length (nL m (0:Nat))):Int)/\True)/\(True/\True)/\(q2n m (List.length (nL m (0:Nat))) v6++qs1 m (List.length (nL m (0:Nat))) (qe3 (↑(List.length (nL m (0:Nat))):Int) (↑(v6+(1:Nat)):Int)) v8=q2n m (List.length (nL m (0:Nat))) v6++qs1 m (List.length (nL m (0:Nat))) (qe3 (↑(List.length (nL m (0:Nat))):Int) (↑(v6+(1:Nat)):Int)) v14/\True/\True)/\True)/\(((↑(List.length (ql8 m (qa3 (Ty.list (Ty.int .i64)) [Prod.fst v10] (0:Nat)))):Int) != (1:Int))=false->((0:Int)<=(0:Int)/\(0:Int)<(↑(List.length (ql8 m (qa3 (Ty.list (Ty.int .i64)) [Prod.fst v10] (0:Nat)))):Int))/\List.length (qa3 (Ty.list (Ty.int .i64)) (ql8 m (qa3 (Ty.list (Ty.int .i64)) [Prod.fst v10] (0:Nat))) (0:Nat))<=(1000000:Nat)/\((List.any (qa3 (Ty.list (Ty.int .i64)) (ql8 m (qa3 (Ty.list (Ty.int .i64)) [Prod.fst v10] (0:Nat))) (0:Nat)) λ(v15:Int)=>(0:Int)==v15)=true->[Prod.fst v10]=[Prod.fst v10]/\v12=v12/\True/\∃(v15:Nat),Nat.le v15 (List.length (qe3 (↑(List.length (nL m (0:Nat))):Int) (↑(v6+(1:Nat)):Int)))/\v15=v8+(1:Nat)/\(m=m/\True)/\((↑(List.length (nL m (0:Nat))):Int)=(↑(List.length (nL m (0:Nat))):Int)/\True)/\(True/\True)/\(q2n m (List.length (nL m (0:Nat))) v6++qs1 m (List.length (nL m (0:Nat))) (qe3 (↑(List.length (nL m (0:Nat))):Int) (↑(v6+(1:Nat)):Int)) v8=q2n m (List.length (nL m (0:Nat))) v6++qs1 m (List.length (nL m (0:Nat))) (qe3 (↑(List.length (nL m (0:Nat))):Int) (↑(v6+(1:Nat)):Int)) v15/\True/\True)/\True)/\((List.any (qa3 (Ty.list (Ty.int .i64)) (ql8 m (qa3 (Ty.list (Ty.int .i64)) [Prod.fst v10] (0:Nat))) (0:Nat)) λ(v15:Int)=>(0:Int)==v15)=false->((↑(List.length (nL m (0:Nat))):Int)=(↑(List.length (nL m (0:Nat))):Int)/\(0:Int)<=(↑(List.length (nL m (0:Nat))):Int)/\(↑(List.length (nL m (0:Nat))):Int)<=(1000000:Int))/\∃(v15:q7x × Nat × Nat × List Int),∃(v16:Nat),Nat.le v16 (List.length (Prod.snd (Prod.snd (Prod.snd v15))))/\((some (0:Nat)=some (0:Nat)/\True/\some (0:Nat)=some (0:Nat)/\(0:Int)=(↑v16:Int)/\True)/\(m=m/\True)/\((↑(List.length (nL m (0:Nat))):Int)=(↑(List.length (nL m (0:Nat))):Int)/\True)/\(True/\True)/\(q2n m (List.length (nL m (0:Nat))) v6++qs1 m (List.length (nL m (0:Nat))) (qe3 (↑(List.length (nL m (0:Nat))):Int) (↑(v6+(1:Nat)):Int)) v8=q2n m (List.length (nL m (0:Nat))) (Prod.fst (Prod.snd v15))++qs1 m (List.length (nL m (0:Nat))) (qe3 (↑(List.length (nL m (0:Nat))):Int) (↑(Prod.fst (Prod.snd v15)+(1:Nat)):Int)) (Prod.fst (Prod.snd (Prod.snd v15)))/\True/\True)/\([Prod.fst v10]=[Prod.snd (Prod.snd (Prod.snd v15))]/\True/\v12=Prod.fst v15)/\List.replicate (Int.toNat (↑(List.length (nL m (0:Nat))):Int)) (Ty.dflt (TI.ty T3))=qd7 (List.length (nL m (0:Nat))) (Prod.snd (Prod.snd (Prod.snd v15))) (nL (ql8 m (Prod.snd (Prod.snd (Prod.snd v15)))) (0:Nat)) v16/\True)/\∀(v17:Nat),Nat.le v17 (List.length (Prod.snd (Prod.snd (Prod.snd v15))))->(decide ((↑v17:Int)<(↑(List.length (qa3 (Ty.list (Ty.int .i64)) [Prod.fst v10] (0:Nat))):Int))=true->((0:Int)<=(↑v17:Int)/\(↑v17:Int)<(↑(List.length (qa3 (Ty.list (Ty.int .i64)) [Prod.snd (Prod.snd (Prod.snd v15))] (0:Nat))):Int))/\Int.toNat (↑v17:Int)<List.length (qa3 (Ty.list (Ty.int .i64)) [Prod.snd (Prod.snd (Prod.snd v15))] (0:Nat))/\((0:Int)<=(0:Int)/\(0:Int)<(↑(List.length (ql8 m (qa3 (Ty.list (Ty.int .i64)) [Prod.fst v10] (0:Nat)))):Int))/\((0:Int)<=(↑v17:Int)/\(↑v17:Int)<(↑(List.length (qa3 (Ty.list (Ty.int .i64)) (ql8 m (qa3 (Ty.list (Ty.int .i64)) [Prod.fst v10] (0:Nat))) (0:Nat))):Int))/\((0:Int)<=qa3 (Ty.int .i64) (qa3 (Ty.list (Ty.int .i64)) [Prod.snd (Prod.snd (Prod.snd v15))] (0:Nat)) (Int.toNat (↑v17:Int))/\qa3 (Ty.int .i64) (qa3 (Ty.list (Ty.int .i64)) [Prod.snd (Prod.snd (Prod.snd v15))] (0:Nat)) (Int.toNat (↑v17:Int))<(↑(List.length (qd7 (List.length (nL m (0:Nat))) (Prod.snd (Prod.snd (Prod.snd v15))) (nL (ql8 m (Prod.snd (Prod.snd (Prod.snd v15)))) (0:Nat)) v17)):Int))/\Int.toNat (qa3 (Ty.int .i64) (qa3 (Ty.list (Ty.int .i64)) [Prod.snd (Prod.snd (Prod.snd v15))] (0:Nat)) (Int.toNat (↑v17:Int)))<List.length (qd7 (List.length (nL m (0:Nat))) (Prod.snd (Prod.snd (Prod.snd v15))) (nL (ql8 m (Prod.snd (Prod.snd (Prod.snd v15)))) (0:Nat)) v17)/\fits .i64 ((↑v17:Int)+(1:Int))/\∃(v20:Nat),Nat.le v20 (List.length (Prod.snd (Prod.snd (Prod.snd v15))))/\List.length (Prod.snd (Prod.snd (Prod.snd v15)))-v20<List.length (Prod.snd (Prod.snd (Prod.snd v15)))-v17/\(some (0:Nat)=some (0:Nat)/\True/\some (0:Nat)=some (0:Nat)/\(↑v17:Int)+(1:Int)=(↑v20:Int)/\True)/\(m=m/\True)/\((↑(List.length (nL m (0:Nat))):Int)=(↑(List.length (nL m (0:Nat))):Int)/\True)/\(True/\True)/\(q2n m (List.length (nL m (0:Nat))) (Prod.fst (Prod.snd v15))++qs1 m (List.length (nL m (0:Nat))) (qe3 (↑(List.length (nL m (0:Nat))):Int) (↑(Prod.fst (Prod.snd v15)+(1:Nat)):Int)) (Prod.fst (Prod.snd (Prod.snd v15)))=q2n m (List.length (nL m (0:Nat))) (Prod.fst (Prod.snd v15))++qs1 m (List.length (nL m (0:Nat))) (qe3 (↑(List.length (nL m (0:Nat))):Int) (↑(Prod.fst (Prod.snd v15)+(1:Nat)):Int)) (Prod.fst (Prod.snd (Prod.snd v15)))/\True/\True)/\([Prod.snd (Prod.snd (Prod.snd v15))]=[Prod.snd (Prod.snd (Prod.snd v15))]/\True/\Prod.fst v15=Prod.fst v15)/\List.set (qd7 (List.length (nL m (0:Nat))) (Prod.snd (Prod.snd (Prod.snd v15))) (nL (ql8 m (Prod.snd (Prod.snd (Prod.snd v15)))) (0:Nat)) v17) (Int.toNat (qa3 (Ty.int .i64) (qa3 (Ty.list (Ty.int .i64)) [Prod.snd (Prod.snd (Prod.snd v15))] (0:Nat)) (Int.toNat (↑v17:Int)))) (qa3 (Ty.int .i64) (qa3 (Ty.list (Ty.int .i64)) (ql8 m (qa3 (Ty.list (Ty.int .i64)) [Prod.fst v10] (0:Nat))) (0:Nat)) (Int.toNat (↑v17:Int)))=qd7 (List.length (nL m (0:Nat))) (Prod.snd (Prod.snd (Prod.snd v15))) (nL (ql8 m (Prod.snd (Prod.snd (Prod.snd v15)))) (0:Nat)) v20/\True)/\(decide ((↑v17:Int)<(↑(List.length (qa3 (Ty.list (Ty.int .i64)) [Prod.fst v10] (0:Nat))):Int))=false->q3x (nL [qd7 (List.length (nL m (0:Nat))) (Prod.snd (Prod.snd (Prod.snd v15))) (nL (ql8 m (Prod.snd (Prod.snd (Prod.snd v15)))) (0:Nat)) v17] (0:Nat))/\((0:Nat)<(0:Nat)+(1:Nat)/\List.length (q2n m (List.length (nL m (0:Nat))) (Prod.fst (Prod.snd v15))++qs1 m (List.length (nL m (0:Nat))) (qe3 (↑(List.length (nL m (0:Nat))):Int) (↑(Prod.fst (Prod.snd v15)+(1:Nat)):Int)) (Prod.fst (Prod.snd (Prod.snd v15))))+((0:Nat)+(1:Nat))<=(1000000:Nat))/\[Prod.snd (Prod.snd (Prod.snd v15))]=[Prod.fst v10]/\Prod.fst v15=v12/\True/\∃(v20:Nat),Nat.le v20 (List.length (qe3 (↑(List.length (nL m (0:Nat))):Int) (↑(v6+(1:Nat)):Int)))/\v20=v8+(1:Nat)/\(m=m/\True)/\((↑(List.length (nL m (0:Nat))):Int)=(↑(List.length (nL m (0:Nat))):Int)/\True)/\(True/\True)/\(q2n m (List.length (nL m (0:Nat))) (Prod.fst (Prod.snd v15))++qs1 m (List.length (nL m (0:Nat))) (qe3 (↑(List.length (nL m (0:Nat))):Int) (↑(Prod.fst (Prod.snd v15)+(1:Nat)):Int)) (Prod.fst (Prod.snd (Prod.snd v15)))++[qa3 (Ty.list (Ty.int .i64)) [q6x (nL [qd7 (List.length (nL m (0:Nat))) (Prod.snd (Prod.snd (Prod.snd v15))) (nL (ql8 m (Prod.snd (Prod.snd (Prod.snd v15)))) (0:Nat)) v17] (0:Nat))] (0:Nat)]=q2n m (List.length (nL m (0:Nat))) v6++qs1 m (List.length (nL m (0:Nat))) (qe3 (↑(List.length (nL m (0:Nat))):Int) (↑(v6+(1:Nat)):Int)) v20/\True/\True)/\True))))/\(v8=List.length (List.map (λ(v11:List Int)=>(v11,())) (qe3 (↑(List.length (nL m (0:Nat))):Int) ((↑v3:Int)+(1:Int))))->fits .i64 ((↑v3:Int)+(1:Int))/\∃(v11:Nat),Nat.le v11 (q5m m)/\q5m m-v11<q5m m-v3/\((↑v3:Int)+(1:Int)=(↑v11:Int)/\True)/\(m=m/\True)/\((↑(List.length (nL m (0:Nat))):Int)=(↑(List.length (nL m (0:Nat))):Int)/\True)/\(True/\True)/\(q2n m (List.length (nL m (0:Nat))) v6++qs1 m (List.length (nL m (0:Nat))) (qe3 (↑(List.length (nL m (0:Nat))):Int) (↑(v6+(1:Nat)):Int)) v8=q2n m (List.length (nL m (0:Nat))) v11/\True/\True)/\True))/\(decide ((↑v3:Int)<max2 false (Prod.fst (qx0 m)+(1:Int)) (↑(List.length (qa3 (Ty.list (Ty.int .i64)) m (0:Nat))):Int))=false->q3w (Ty.int .i64) (q2n m (List.length (nL m (0:Nat))) v3) none=Prod.fst (q1x m)/\(0:Int)=Prod.snd (q1x m)/\True))) (by kernel_rfl) ?_
 try simp only[z0,z1,z2,z3,z4,z5,z6,z7,z8,z9,z10,Int.reduceEq,z11,z12,z13,z14,z15,z16,z17,z18,z19,z20,z21,z22,z23,z24,z25,z26,z27,z28,z29,z30,Int.reduceLE,Int.reduceLT,z31,z32,z33,z34,qa4]
 try simp only[qb8,qb9,qd2,List.set_cons_zero,List.cons.injEq,and_true,true_and]
 refine⟨λhv=>(h hv).rank,λhe=>?_,λhe=>?_⟩
 ·have hv:qd3 m=false:=by
   cases e:qd3 m with
   | false=>rfl
   | true=>exact absurd (by simp[qx0,e]) he
  simp[qx0,q1x,hv]
 have hv:qd3 m=true:=by
  cases e:qd3 m with
  | true=>rfl
  | false=>simp[qx0,e] at he
 have hO:=h hv
 have hM:=Mk.of hv
 have hm1:=hM.rows1
 have hn1:=hM.pix1
 have hn10:=hM.pix10
 have hrank:(qb3 m (q0y (nL m 0).length)).2.length<=10:=by
  have:=(q1q hO.rank.red (nL m 0).length).pivj
  unfold qb3
  rw[ql1]
  exact Nat.le_trans this hn10
 have hr:qx0 m=(((qb3 m (q0y (nL m 0).length)).2.length:Int),0):=by simp[qx0,hv]
 have hcN:q5m m=min ((qb3 m (q0y (nL m 0).length)).2.length+1) (nL m 0).length:=rfl
 have hcR:q1x m=(q2n m (nL m 0).length (q5m m),0):=by simp[q1x,hv]
 rw[hr,hcR]
 generalize(qb3 m (q0y (nL m 0).length)).2.length=r at *
 have hker:=hO.ker
 generalize hnn:(nL m 0).length=n at *
 dsimp only
 refine⟨by omega,qa8 (by omega) (by omega),(),0,Nat.zero_le _,⟨rfl,rfl⟩,λk hk=>⟨λhlt=>?_,λhge=>?_⟩⟩
 ·have hlt:(k:Int)<min ((r:Int)+1) n:=hlt
  have hkn:k<n:=by omega
  have hca:((k:Int)+1)=((k+1:Nat):Int):=by omega
  have hkl:=wy4 m n hn10 k (by omega)
  have hsl:=wk4 n (k+1) hn10 (by omega)
  rw[hca]
  have hb1:(0:Int)<=((k+1:Nat):Int)/\((k+1:Nat):Int)<=1000:=by omega
  refine⟨qa8 (by omega) (by omega),⟨hb1,by omega⟩,k,0,Nat.zero_le _,rfl,by simp[qs1],λc hc=>⟨?_,λhce=>?_⟩⟩
  ·rintro⟨set,⟨⟩⟩ hset T
   dsimp only
   have hs:(qe3 n (k+1:Nat))[c]? = some set:=by
    rw[List.getElem?_map] at hset
    obtain⟨x,hx,hx2⟩:=Option.map_eq_some_iff.1 hset
    injection hx2 with hx2
    rw[<- hx2]; exact hx
   have hcl:c<(qe3 n (k+1:Nat)).length:=(List.getElem?_eq_some_iff.1 hs).1
   have hnl:nL (qe3 n (k+1:Nat)) c=set:=by rw[qm7 _ c hcl]; exact(List.getElem?_eq_some_iff.1 hs).2
   have hK:w11 m set:=hker k hkn set (List.mem_of_getElem? hs)
   have hctl:=q64 m n (qe3 n (k+1:Nat)) c
   refine⟨hK,λh1=>⟨c+1,hcl,rfl,?_⟩,λh1=>⟨by omega,?_,λh2=>⟨c+1,hcl,rfl,?_⟩,λh2=>⟨by omega,(T,k,c,set),0,Nat.zero_le _,⟨rfl,rfl,⟨rfl,rfl⟩,rfl⟩,λj hj=>⟨λhjl=>?_,λhjl=>?_⟩⟩⟩⟩
   ·rw[qs1,hnl,if_neg]
    intro q
    unfold q75 at q
    rw[Bool.and_eq_true,decide_eq_true_eq] at q
    exact h1 (by omega)
   ·have h0:=q66 hK (nL (ql8 m set) 0) (qo5 _ 0 (by omega))
    omega
   ·rw[qs1,hnl,if_neg]
    intro q
    unfold q75 at q
    rw[Bool.and_eq_true,h2] at q
    cases q.2
   ·dsimp only at hj ⊢
    have hat:=hK.cho.at_ 0 (by omega) j hjl
    rw[hnn] at hat
    have hkm:=q66 hK (nL (ql8 m set) 0) (qo5 _ 0 (by omega))
    have hsp:=qk1 n set (nL (ql8 m set) 0) j
    have hat':0<=nI set j/\nI set j<((qd7 n set (nL (ql8 m set) 0) j).length:Int):=⟨hat.1,by omega⟩
    exact⟨hjl,hjl,by omega,by omega,hat',by omega,qa8 (by omega) (by omega),j+1,hjl,by omega,by omega,rfl⟩
   ·dsimp only at hj ⊢
    obtain rfl:j=set.length:=by omega
    have hkm:=q66 hK (nL (ql8 m set) 0) (qo5 _ 0 (by omega))
    refine⟨q03 hkm.2.2 (by omega) hkm.1 _ (Nat.le_refl _),by rw[List.length_append]; omega,rfl,rfl,c+1,hcl,rfl,?_⟩
    have hg:q75 (ql8 m set)=true:=by
     unfold q75
     rw[h2,Bool.and_eq_true,decide_eq_true_eq]
     exact⟨by omega,rfl⟩
    rw[qs1,hnl,if_pos hg,List.append_assoc]
    rfl
  ·rw[List.length_map] at hce
   subst hce
   exact⟨qa8 (by omega) (by omega),k+1,by omega,by omega,rfl,rfl⟩
 ·have hge:min ((r:Int)+1) n<=k:=hge
  obtain rfl:k=q5m m:=by omega
  exact⟨rfl,rfl⟩
end Go.Proofs.Ytdibdlelmkcccaa
