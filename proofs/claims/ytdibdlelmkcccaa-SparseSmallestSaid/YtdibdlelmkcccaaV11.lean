/- Kernel vectors: contract by the engine. No condition. -/
import Derived.Test.YtdibdlelmkcccaaV10
set_option linter.unusedVariables false
set_option linter.unusedSimpArgs false
namespace Go.Proofs.Ytdibdlelmkcccaa
open Go Go.RowKit Eng
def q4c (r:List (List Int)) (piv:List Int) (f k:Nat):Int:=(nI (nL r k) (nI piv k).toNat).tdiv (qf2 (nI (nL r k) (nI piv k).toNat) (nI (nL r k) f))
def qf4 (r:List (List Int)) (piv:List Int) (f:Nat):Nat->Int
 | 0=>1
 | k+1=>qf4 r piv f k*(q4c r piv f k).tdiv (qf2 (qf4 r piv f k) (q4c r piv f k))
def hTo (r:List (List Int)) (piv:List Int) (n f:Nat):Nat->List Int
 | 0=>(List.replicate n 0).set f (qf4 r piv f piv.length)
 | k+1=>(hTo r piv n f k).set (nI piv k).toNat (((0-nI (nL r k) f)*qf4 r piv f piv.length).tdiv (nI (nL r k) (nI piv k).toNat))
def qm8 (r:List (List Int)) (piv:List Int) (n:Nat):Nat->List (List Int)
 | 0=>[]
 | f+1=>if piv.any λe=>(f:Int)==e then qm8 r piv n f else qm8 r piv n f++[qe3 (hTo r piv n f piv.length)]
def qx9 (m:List (List Int)) (pix:List Int):List (List Int):=qa9 m pix λ_=>[]
def qb5 (m:List (List Int)) (pix:List Int):List (List Int) × List Int:=qc0 (qx9 m pix) pix.length
def qn6 (m:List (List Int)) (pix:List Int):List (List Int):=qm8 (qb5 m pix).1 (qb5 m pix).2 pix.length pix.length
structure w9v (r:List (List Int)) (piv:List Int) (n:Nat):Prop where
 nz:∀k,k<piv.length->nI (nL r k) (nI piv k).toNat≠0
 big:∀k,k<piv.length->∀i,i<n->qd2 BIG (nI (nL r k) i)
 tm:∀f,f<n->(piv.any λe=>(f:Int)==e)=false->∀k,k<=piv.length->qd2 BIG (qf4 r piv f k)/\qf4 r piv f k≠0
 pr:∀f,f<n->(piv.any λe=>(f:Int)==e)=false->∀k,k<piv.length->qd2 BIG ((0-nI (nL r k) f)*qf4 r piv f piv.length)
structure w2e (m:List (List Int)) (pix:List Int):Prop where
 cho:ChoOk m pix (λ_=>True) (λ_=>[])
 red:q54 (qx9 m pix) pix.length pix.length
 ar:w9v (qb5 m pix).1 (qb5 m pix).2 pix.length
theorem q2y (R:List (List Int)):∀j,∀e∈(qc0 R j).2,0<=e/\e<(j:Int)
 | 0=>λe h=>by cases h
 | j+1=>λe h=>by
  rw[qc0,qu9] at h
  split at h
  ·have:=q2y R j e h; omega
  ·rcases List.mem_append.1 h with h | h
   ·have:=q2y R j e h; omega
   ·have:e=(j:Int):=by simpa using h
    omega
theorem q6a (r:List (List Int)) (piv:List Int) (n f:Nat):∀k,(hTo r piv n f k).length=n
 | 0=>by simp[hTo]
 | k+1=>by rw[hTo,List.length_set]; exact q6a r piv n f k
theorem wi3 (r:List (List Int)) (piv:List Int) (n:Nat):∀f,(qm8 r piv n f).length<=f
 | 0=>Nat.le_refl _
 | f+1=>by
  have:=wi3 r piv n f
  rw[qm8]
  split
  ·omega
  ·simp; omega
theorem wo7 {r:List (List Int)} {piv:List Int} {n f:Nat} (h:w9v r piv n) (hf:f<n) (hfree:(piv.any λe=>(f:Int)==e)=false):∀k,k<=piv.length->∀x∈hTo r piv n f k,qd2 BIG x
 | 0,_,x,hx=>by
  rw[hTo] at hx
  rcases List.mem_or_eq_of_mem_set hx with hx | rfl
  ·obtain rfl:=(List.mem_replicate.1 hx).2
   unfold BIG; omega
  ·exact(h.tm f hf hfree _ (Nat.le_refl _)).1
 | k+1,hk,x,hx=>by
  rw[hTo] at hx
  rcases List.mem_or_eq_of_mem_set hx with hx | rfl
  ·exact wo7 h hf hfree k (by omega) x hx
  ·exact qo6 (h.pr f hf hfree k (by omega))
abbrev x6r:qc7:=qg3 true none [ql6,qf7] [ql6] (λx=>w2e x.1 x.2.1) (λx=>(qn6 x.1 x.2.1,()))
def x2e (m:List (List Int)) (pix:List Int):Nat->Option Inv
 | 0=>some (Inv.of [5,7,25] 2 (λf:Nat=>[(5,.msl 0 .none),(7,.msl 1 .none),(25,.lit (.int .i64 f))]) (λf=>[.mat 24 3 (.int .i64) (qb5 m pix).1 .none .none,.mat 24 3 (.int .i64) (qm8 (qb5 m pix).1 (qb5 m pix).2 pix.length f) .none .none]) (λf=>f<=pix.length) (λf=>pix.length-f))
 | 1=>some (Eng.Inv.mk Nat Nat [5,7,9,33] 2 (λf k=>[(5,.msl 0 .none),(7,.msl 1 .none),(9,.lit (.int .i64 (qf4 (qb5 m pix).1 (qb5 m pix).2 f k))),(33,.lit (.int .i64 k))]) (λf k=>[.mat 24 3 (.int .i64) (qb5 m pix).1 .none .none,.mat 24 3 (.int .i64) (qm8 (qb5 m pix).1 (qb5 m pix).2 pix.length f) .none .none]) (λf k=>k<=(qb5 m pix).2.length) (λf k=>(qb5 m pix).2.length-k))
 | 2=>some (Eng.Inv.mk Nat Nat [5,7,13,78] 3 (λf k=>[(5,.msl 0 .none),(7,.msl 1 .none),(13,.own 2),(78,.lit (.int .i64 k))]) (λf k=>[.mat 24 3 (.int .i64) (qb5 m pix).1 .none .none,.mat 24 3 (.int .i64) (qm8 (qb5 m pix).1 (qb5 m pix).2 pix.length f) .none .none,.vec 3 (.int .i64) (hTo (qb5 m pix).1 (qb5 m pix).2 pix.length f k)]) (λf k=>k<=(qb5 m pix).2.length) (λf k=>(qb5 m pix).2.length-k))
 | _=>none
def x2f (mats em:List Nat) (specs:List (Nat × qc7)) (muts:List (Nat × ql3)):Ctx:={ specs:=specs,tys:=tys,wr:=[],muts:=muts,mats:=mats,em:=em }
theorem xl6 (mats em:List Nat) {specs:List (Nat × qc7)} {muts:List (Nat × ql3)} (h:SpecsOk Try.prog specs) (hm:MutsOk muts):Sound Try.prog (x2f mats em specs muts):=SpecsOk.sound h q2q (by kernel_rfl) (hmu:=hm)
theorem w54:qd8 Try.prog 124 x6r:=by
 refine meets (xl6 [109] [] (SpecsOk.cons (q53 (fs:=[(148,xl1)]) (SpecsOk.cons q76 (SpecsOk.nil _))) (SpecsOk.cons wi2 (SpecsOk.cons qn3 (SpecsOk.nil _)))) (MutsOk.cons q58 (MutsOk.cons q1t MutsOk.nil))) Try.func124 rfl rfl (λx=>x2e x.1 x.2.1) (λ_=>by kernel_rfl) (by decide) ?_
 rintro⟨m,pix,⟨⟩⟩ h
 revert m pix
 intro(m:List (List Int)) (pix:List Int) (h:w2e m pix)
 refine @qe0 _ (∃(v0:qa6 [qg4]->Prop),∃(v1:qa6 [qg4]->List Int),(∀(v2:Int × qa6._f [] PUnit.unit),v0 v2->True/\[]=v1 v2)/\ChoOk m pix v0 v1/\((0:Ty.den qg4)<=(↑(List.length pix):Int)/\∃(v2:Nat),q54 (qa9 m pix λ(v3:Int)=>v1 (v3,())) (Int.toNat (↑(List.length pix):Int)) v2)/\∃(v2:Unit),∃(v3:Nat),Nat.le v3 (List.length pix)/\((True/\True/\(0:Int)=(↑v3:Int)/\True)/\(Prod.fst (qc0 (qa9 m pix λ(v4:Int)=>v1 (v4,())) (Int.toNat (↑(List.length pix):Int)))=Prod.fst (qb5 m pix)/\True/\True)/\qm8 (Prod.fst (qb5 m pix)) (Prod.snd (qb5 m pix)) (List.length pix) v3=[]/\True)/\∀(v4:Nat),Nat.le v4 (List.length pix)->(decide ((↑v4:Int)<(↑(List.length pix):Int))=true->List.length (Prod.snd (qc0 (qa9 m pix λ(v7:Int)=>v1 (v7,())) (Int.toNat (↑(List.length pix):Int))))<=(1000000:Nat)/\((List.any (Prod.snd (qc0 (qa9 m pix λ(v8:Int)=>v1 (v8,())) (Int.toNat (↑(List.length pix):Int)))) λ(v8:Int)=>(↑v4:Int)==v8)=true->fits .i64 ((↑v4:Int)+(1:Int))/\∃(v8:Nat),Nat.le v8 (List.length pix)/\List.length pix-v8<List.length pix-v4/\(True/\True/\(↑v4:Int)+(1:Int)=(↑v8:Int)/\True)/\(Prod.fst (qb5 m pix)=Prod.fst (qb5 m pix)/\True/\True)/\(qm8 (Prod.fst (qb5 m pix)) (Prod.snd (qb5 m pix)) (List.length pix) v4=qm8 (Prod.fst (qb5 m pix)) (Prod.snd (qb5 m pix)) (List.length pix) v8/\True/\True)/\True)/\((List.any (Prod.snd (qc0 (qa9 m pix λ(v8:Int)=>v1 (v8,())) (Int.toNat (↑(List.length pix):Int)))) λ(v8:Int)=>(↑v4:Int)==v8)=false->∃(v8:Nat),∃(v9:Nat),Nat.le v9 (List.length (Prod.snd (qb5 m pix)))/\((True/\True/\(1:Int)=qf4 (Prod.fst (qb5 m pix)) (Prod.snd (qb5 m pix)) v8 v9/\(0:Int)=(↑v9:Int)/\True)/\(Prod.fst (qb5 m pix)=Prod.fst (qb5 m pix)/\True/\True)/\(qm8 (Prod.fst (qb5 m pix)) (Prod.snd (qb5 m pix)) (List.length pix) v4=qm8 (Prod.fst (qb5 m pix)) (Prod.snd (qb5 m pix)) (List.length pix) v8/\True/\True)/\True)/\∀(v10:Nat),Nat.le v10 (List.length (Prod.snd (qb5 m pix)))->(decide ((↑v10:Int)<(↑(List.length (Prod.snd (qc0 (qa9 m pix λ(v13:Int)=>v1 (v13,())) (Int.toNat (↑(List.length pix):Int))))):Int))=true->((0:Int)<=(↑v10:Int)/\(↑v10:Int)<(↑(List.length (Prod.snd (qc0 (qa9 m pix λ(v13:Int)=>v1 (v13,())) (Int.toNat (↑(List.length pix):Int))))):Int))/\((0:Int)<=(↑v10:Int)/\(↑v10:Int)<(↑(qe9 (List.length (Prod.fst (qb5 m pix))) none):Int))/\Int.toNat (↑v10:Int)<qe9 (List.length (Prod.fst (qb5 m pix))) none/\((0:Int)<=qa1 (Ty.int .i64) (Prod.snd (qc0 (qa9 m pix λ(v13:Int)=>v1 (v13,())) (Int.toNat (↑(List.length pix):Int)))) (Int.toNat (↑v10:Int))/\qa1 (Ty.int .i64) (Prod.snd (qc0 (qa9 m pix λ(v13:Int)=>v1 (v13,())) (Int.toNat (↑(List.length pix):Int)))) (Int.toNat (↑v10:Int))<(↑(List.length (qa1 (Ty.list (Ty.int .i64)) (Prod.fst (qb5 m pix)) (qf3 none (Int.toNat (↑v10:Int))))):Int))/\Int.toNat (qa1 (Ty.int .i64) (Prod.snd (qc0 (qa9 m pix λ(v13:Int)=>v1 (v13,())) (Int.toNat (↑(List.length pix):Int)))) (Int.toNat (↑v10:Int)))<List.length (qa1 (Ty.list (Ty.int .i64)) (Prod.fst (qb5 m pix)) (qf3 none (Int.toNat (↑v10:Int))))/\((0:Int)<=(↑v10:Int)/\(↑v10:Int)<(↑(qe9 (List.length (Prod.fst (qb5 m pix))) none):Int))/\Int.toNat (↑v10:Int)<qe9 (List.length (Prod.fst (qb5 m pix))) none/\((0:Int)<=qa1 (Ty.int .i64) (Prod.snd (qc0 (qa9 m pix λ(v13:Int)=>v1 (v13,())) (Int.toNat (↑(List.length pix):Int)))) (Int.toNat (↑v10:Int))/\qa1 (Ty.int .i64) (Prod.snd (qc0 (qa9 m pix λ(v13:Int)=>v1 (v13,())) (Int.toNat (↑(List.length pix):Int)))) (Int.toNat (↑v10:Int))<(↑(List.length (qa1 (Ty.list (Ty.int .i64)) (Prod.fst (qb5 m pix)) (qf3 none (Int.toNat (↑v10:Int))))):Int))/\Int.toNat (qa1 (Ty.int .i64) (Prod.snd (qc0 (qa9 m pix λ(v13:Int)=>v1 (v13,())) (Int.toNat (↑(List.length pix):Int)))) (Int.toNat (↑v10:Int)))<List.length (qa1 (Ty.list (Ty.int .i64)) (Prod.fst (qb5 m pix)) (qf3 none (Int.toNat (↑v10:Int))))/\((0:Int)<=(↑v10:Int)/\(↑v10:Int)<(↑(qe9 (List.length (Prod.fst (qb5 m pix))) none):Int))/\Int.toNat (↑v10:Int)<qe9 (List.length (Prod.fst (qb5 m pix))) none/\((0:Int)<=(↑v4:Int)/\(↑v4:Int)<(↑(List.length (qa1 (Ty.list (Ty.int .i64)) (Prod.fst (qb5 m pix)) (qf3 none (Int.toNat (↑v10:Int))))):Int))/\Int.toNat (↑v4:Int)<List.length (qa1 (Ty.list (Ty.int .i64)) (Prod.fst (qb5 m pix)) (qf3 none (Int.toNat (↑v10:Int))))/\(((-4000000000000000000:Int)<=qa1 (Ty.int .i64) (qa1 (Ty.list (Ty.int .i64)) (Prod.fst (qb5 m pix)) (qf3 none (Int.toNat (↑v10:Int)))) (Int.toNat (qa1 (Ty.int .i64) (Prod.snd (qc0 (qa9 m pix λ(v13:Int)=>v1 (v13,())) (Int.toNat (↑(List.length pix):Int)))) (Int.toNat (↑v10:Int))))/\qa1 (Ty.int .i64) (qa1 (Ty.list (Ty.int .i64)) (Prod.fst (qb5 m pix)) (qf3 none (Int.toNat (↑v10:Int)))) (Int.toNat (qa1 (Ty.int .i64) (Prod.snd (qc0 (qa9 m pix λ(v13:Int)=>v1 (v13,())) (Int.toNat (↑(List.length pix):Int)))) (Int.toNat (↑v10:Int))))<=BIG)/\(-4000000000000000000:Int)<=qa1 (Ty.int .i64) (qa1 (Ty.list (Ty.int .i64)) (Prod.fst (qb5 m pix)) (qf3 none (Int.toNat (↑v10:Int)))) (Int.toNat (↑v4:Int))/\qa1 (Ty.int .i64) (qa1 (Ty.list (Ty.int .i64)) (Prod.fst (qb5 m pix)) (qf3 none (Int.toNat (↑v10:Int)))) (Int.toNat (↑v4:Int))<=BIG)/\qf2 (qa1 (Ty.int .i64) (qa1 (Ty.list (Ty.int .i64)) (Prod.fst (qb5 m pix)) (qf3 none (Int.toNat (↑v10:Int)))) (Int.toNat (qa1 (Ty.int .i64) (Prod.snd (qc0 (qa9 m pix λ(v13:Int)=>v1 (v13,())) (Int.toNat (↑(List.length pix):Int)))) (Int.toNat (↑v10:Int))))) (qa1 (Ty.int .i64) (qa1 (Ty.list (Ty.int .i64)) (Prod.fst (qb5 m pix)) (qf3 none (Int.toNat (↑v10:Int)))) (Int.toNat (↑v4:Int)))≠(0:Int)/\fits .i64 (Int.tdiv (qa1 (Ty.int .i64) (qa1 (Ty.list (Ty.int .i64)) (Prod.fst (qb5 m pix)) (qf3 none (Int.toNat (↑v10:Int)))) (Int.toNat (qa1 (Ty.int .i64) (Prod.snd (qc0 (qa9 m pix λ(v13:Int)=>v1 (v13,())) (Int.toNat (↑(List.length pix):Int)))) (Int.toNat (↑v10:Int))))) (qf2 (qa1 (Ty.int .i64) (qa1 (Ty.list (Ty.int .i64)) (Prod.fst (qb5 m pix)) (qf3 none (Int.toNat (↑v10:Int)))) (Int.toNat (qa1 (Ty.int .i64) (Prod.snd (qc0 (qa9 m pix λ(v13:Int)=>v1 (v13,())) (Int.toNat (↑(List.length pix):Int)))) (Int.toNat (↑v10:Int))))) (qa1 (Ty.int .i64) (qa1 (Ty.list (Ty.int .i64)) (Prod.fst (qb5 m pix)) (qf3 none (Int.toNat (↑v10:Int)))) (Int.toNat (↑v4:Int)))))/\(((-4000000000000000000:Int)<=qf4 (Prod.fst (qb5 m pix)) (Prod.snd (qb5 m pix)) v8 v10/\qf4 (Prod.fst (qb5 m pix)) (Prod.snd (qb5 m pix)) v8 v10<=BIG)/\(-4000000000000000000:Int)<=Int.tdiv (qa1 (Ty.int .i64) (qa1 (Ty.list (Ty.int .i64)) (Prod.fst (qb5 m pix)) (qf3 none (Int.toNat (↑v10:Int)))) (Int.toNat (qa1 (Ty.int .i64) (Prod.snd (qc0 (qa9 m pix λ(v13:Int)=>v1 (v13,())) (Int.toNat (↑(List.length pix):Int)))) (Int.toNat (↑v10:Int))))) (qf2 (qa1 (Ty.int .i64) (qa1 (Ty.list (Ty.int .i64)) (Prod.fst (qb5 m pix)) (qf3 none (Int.toNat (↑v10:Int)))) (Int.toNat (qa1 (Ty.int .i64) (Prod.snd (qc0 (qa9 m pix λ(v13:Int)=>v1 (v13,())) (Int.toNat (↑(List.length pix):Int)))) (Int.toNat (↑v10:Int))))) (qa1 (Ty.int .i64) (qa1 (Ty.list (Ty.int .i64)) (Prod.fst (qb5 m pix)) (qf3 none (Int.toNat (↑v10:Int)))) (Int.toNat (↑v4:Int))))/\Int.tdiv (qa1 (Ty.int .i64) (qa1 (Ty.list (Ty.int .i64)) (Prod.fst (qb5 m pix)) (qf3 none (Int.toNat (↑v10:Int)))) (Int.toNat (qa1 (Ty.int .i64) (Prod.snd (qc0 (qa9 m pix λ(v13:Int)=>v1 (v13,())) (Int.toNat (↑(List.length pix):Int)))) (Int.toNat (↑v10:Int))))) (qf2 (qa1 (Ty.int .i64) (qa1 (Ty.list (Ty.int .i64)) (Prod.fst (qb5 m pix)) (qf3 none (Int.toNat (↑v10:Int)))) (Int.toNat (qa1 (Ty.int .i64) (Prod.snd (qc0 (qa9 m pix λ(v13:Int)=>v1 (v13,())) (Int.toNat (↑(List.length pix):Int)))) (Int.toNat (↑v10:Int))))) (qa1 (Ty.int .i64) (qa1 (Ty.list (Ty.int .i64)) (Prod.fst (qb5 m pix)) (qf3 none (Int.toNat (↑v10:Int)))) (Int.toNat (↑v4:Int))))<=BIG)/\qf2 (qf4 (Prod.fst (qb5 m pix)) (Prod.snd (qb5 m pix)) v8 v10) (Int.tdiv (qa1 (Ty.int .i64) (qa1 (Ty.list (Ty.int .i64)) (Prod.fst (qb5 m pix)) (qf3 none (Int.toNat (↑v10:Int)))) (Int.toNat (qa1 (Ty.int .i64) (Prod.snd (qc0 (qa9 m pix λ(v13:Int)=>v1 (v13,())) (Int.toNat (↑(List.length pix):Int)))) (Int.toNat (↑v10:Int))))) (qf2 (qa1 (Ty.int .i64) (qa1 (Ty.list (Ty.int .i64)) (Prod.fst (qb5 m pix)) (qf3 none (Int.toNat (↑v10:Int)))) (Int.toNat (qa1 (Ty.int .i64) (Prod.snd (qc0 (qa9 m pix λ(v13:Int)=>v1 (v13,())) (Int.toNat (↑(List.length pix):Int)))) (Int.toNat (↑v10:Int))))) (qa1 (Ty.int .i64) (qa1 (Ty.list (Ty.int .i64)) (Prod.fst (qb5 m pix)) (qf3 none (Int.toNat (↑v10:Int)))) (Int.toNat (↑v4:Int)))))≠(0:Int)/\fits .i64 (Int.tdiv (Int.tdiv (qa1 (Ty.int .i64) (qa1 (Ty.list (Ty.int .i64)) (Prod.fst (qb5 m pix)) (qf3 none (Int.toNat (↑v10:Int)))) (Int.toNat (qa1 (Ty.int .i64) (Prod.snd (qc0 (qa9 m pix λ(v13:Int)=>v1 (v13,())) (Int.toNat (↑(List.length pix):Int)))) (Int.toNat (↑v10:Int))))) (qf2 (qa1 (Ty.int .i64) (qa1 (Ty.list (Ty.int .i64)) (Prod.fst (qb5 m pix)) (qf3 none (Int.toNat (↑v10:Int)))) (Int.toNat (qa1 (Ty.int .i64) (Prod.snd (qc0 (qa9 m pix λ(v13:Int)=>v1 (v13,())) (Int.toNat (↑(List.length pix):Int)))) (Int.toNat (↑v10:Int))))) (qa1 (Ty.int .i64) (qa1 (Ty.list (Ty.int .i64)) (Prod.fst (qb5 m pix)) (qf3 none (Int.toNat (↑v10:Int)))) (Int.toNat (↑v4:Int))))) (qf2 (qf4 (Prod.fst (qb5 m pix)) (Prod.snd (qb5 m pix)) v8 v10) (Int.tdiv (qa1 (Ty.int .i64) (qa1 (Ty.list (Ty.int .i64)) (Prod.fst (qb5 m pix)) (qf3 none (Int.toNat (↑v10:Int)))) (Int.toNat (qa1 (Ty.int .i64) (Prod.snd (qc0 (qa9 m pix λ(v13:Int)=>v1 (v13,())) (Int.toNat (↑(List.length pix):Int)))) (Int.toNat (↑v10:Int))))) (qf2 (qa1 (Ty.int .i64) (qa1 (Ty.list (Ty.int .i64)) (Prod.fst (qb5 m pix)) (qf3 none (Int.toNat (↑v10:Int)))) (Int.toNat (qa1 (Ty.int .i64) (Prod.snd (qc0 (qa9 m pix λ(v13:Int)=>v1 (v13,())) (Int.toNat (↑(List.length pix):Int)))) (Int.toNat (↑v10:Int))))) (qa1 (Ty.int .i64) (qa1 (Ty.list (Ty.int .i64)) (Prod.fst (qb5 m pix)) (qf3 none (Int.toNat (↑v10:Int)))) (Int.toNat (↑v4:Int)))))))/\fits .i64 (qf4 (Prod.fst (qb5 m pix)) (Prod.snd (qb5 m pix)) v8 v10*Int.tdiv (Int.tdiv (qa1 (Ty.int .i64) (qa1 (Ty.list (Ty.int .i64)) (Prod.fst (qb5 m pix)) (qf3 none (Int.toNat (↑v10:Int)))) (Int.toNat (qa1 (Ty.int .i64) (Prod.snd (qc0 (qa9 m pix λ(v13:Int)=>v1 (v13,())) (Int.toNat (↑(List.length pix):Int)))) (Int.toNat (↑v10:Int))))) (qf2 (qa1 (Ty.int .i64) (qa1 (Ty.list (Ty.int .i64)) (Prod.fst (qb5 m pix)) (qf3 none (Int.toNat (↑v10:Int)))) (Int.toNat (qa1 (Ty.int .i64) (Prod.snd (qc0 (qa9 m pix λ(v13:Int)=>v1 (v13,())) (Int.toNat (↑(List.length pix):Int)))) (Int.toNat (↑v10:Int))))) (qa1 (Ty.int .i64) (qa1 (Ty.list (Ty.int .i64)) (Prod.fst (qb5 m pix)) (qf3 none (Int.toNat (↑v10:Int)))) (Int.toNat (↑v4:Int))))) (qf2 (qf4 (Prod.fst (qb5 m pix)) (Prod.snd (qb5 m pix)) v8 v10) (Int.tdiv (qa1 (Ty.int .i64) (qa1 (Ty.list (Ty.int .i64)) (Prod.fst (qb5 m pix)) (qf3 none (Int.toNat (↑v10:Int)))) (Int.toNat (qa1 (Ty.int .i64) (Prod.snd (qc0 (qa9 m pix λ(v13:Int)=>v1 (v13,())) (Int.toNat (↑(List.length pix):Int)))) (Int.toNat (↑v10:Int))))) (qf2 (qa1 (Ty.int .i64) (qa1 (Ty.list (Ty.int .i64)) (Prod.fst (qb5 m pix)) (qf3 none (Int.toNat (↑v10:Int)))) (Int.toNat (qa1 (Ty.int .i64) (Prod.snd (qc0 (qa9 m pix λ(v13:Int)=>v1 (v13,())) (Int.toNat (↑(List.length pix):Int)))) (Int.toNat (↑v10:Int))))) (qa1 (Ty.int .i64) (qa1 (Ty.list (Ty.int .i64)) (Prod.fst (qb5 m pix)) (qf3 none (Int.toNat (↑v10:Int)))) (Int.toNat (↑v4:Int)))))))/\fits .i64 ((↑v10:Int)+(1:Int))/\∃(v13:Nat),Nat.le v13 (List.length (Prod.snd (qb5 m pix)))/\List.length (Prod.snd (qb5 m pix))-v13<List.length (Prod.snd (qb5 m pix))-v10/\(True/\True/\qf4 (Prod.fst (qb5 m pix)) (Prod.snd (qb5 m pix)) v8 v10*Int.tdiv (Int.tdiv (qa1 (Ty.int .i64) (qa1 (Ty.list (Ty.int .i64)) (Prod.fst (qb5 m pix)) (qf3 none (Int.toNat (↑v10:Int)))) (Int.toNat (qa1 (Ty.int .i64) (Prod.snd (qc0 (qa9 m pix λ(v14:Int)=>v1 (v14,())) (Int.toNat (↑(List.length pix):Int)))) (Int.toNat (↑v10:Int))))) (qf2 (qa1 (Ty.int .i64) (qa1 (Ty.list (Ty.int .i64)) (Prod.fst (qb5 m pix)) (qf3 none (Int.toNat (↑v10:Int)))) (Int.toNat (qa1 (Ty.int .i64) (Prod.snd (qc0 (qa9 m pix λ(v14:Int)=>v1 (v14,())) (Int.toNat (↑(List.length pix):Int)))) (Int.toNat (↑v10:Int))))) (qa1 (Ty.int .i64) (qa1 (Ty.list (Ty.int .i64)) (Prod.fst (qb5 m pix)) (qf3 none (Int.toNat (↑v10:Int)))) (Int.toNat (↑v4:Int))))) (qf2 (qf4 (Prod.fst (qb5 m pix)) (Prod.snd (qb5 m pix)) v8 v10) (Int.tdiv (qa1 (Ty.int .i64) (qa1 (Ty.list (Ty.int .i64)) (Prod.fst (qb5 m pix)) (qf3 none (Int.toNat (↑v10:Int)))) (Int.toNat (qa1 (Ty.int .i64) (Prod.snd (qc0 (qa9 m pix λ(v14:Int)=>v1 (v14,())) (Int.toNat (↑(List.length pix):Int)))) (Int.toNat (↑v10:Int))))) (qf2 (qa1 (Ty.int .i64) (qa1 (Ty.list (Ty.int .i64)) (Prod.fst (qb5 m pix)) (qf3 none (Int.toNat (↑v10:Int)))) (Int.toNat (qa1 (Ty.int .i64) (Prod.snd (qc0 (qa9 m pix λ(v14:Int)=>v1 (v14,())) (Int.toNat (↑(List.length pix):Int)))) (Int.toNat (↑v10:Int))))) (qa1 (Ty.int .i64) (qa1 (Ty.list (Ty.int .i64)) (Prod.fst (qb5 m pix)) (qf3 none (Int.toNat (↑v10:Int)))) (Int.toNat (↑v4:Int))))))=qf4 (Prod.fst (qb5 m pix)) (Prod.snd (qb5 m pix)) v8 v13/\(↑v10:Int)+(1:Int)=(↑v13:Int)/\True)/\(Prod.fst (qb5 m pix)=Prod.fst (qb5 m pix)/\True/\True)/\(qm8 (Prod.fst (qb5 m pix)) (Prod.snd (qb5 m pix)) (List.length pix) v8=qm8 (Prod.fst (qb5 m pix)) (Prod.snd (qb5 m pix)) (List.length pix) v8/\True/\True)/\True)/\(decide ((↑v10:Int)<(↑(List.length (Prod.snd (qc0 (qa9 m pix λ(v13:Int)=>v1 (v13,())) (Int.toNat (↑(List.length pix):Int))))):Int))=false->((↑(List.length pix):Int)=(↑(List.length pix):Int)/\(0:Int)<=(↑(List.length pix):Int)/\(↑(List.length pix):Int)<=(1000000:Int))/\((0:Int)<=(↑v4:Int)/\(↑v4:Int)<(↑(List.length (List.replicate (Int.toNat (↑(List.length pix):Int)) (Ty.dflt (TI.ty T3)))):Int))/\Int.toNat (↑v4:Int)<List.length (List.replicate (Int.toNat (↑(List.length pix):Int)) (Ty.dflt (TI.ty T3)))/\∃(v13:Nat),∃(v14:Nat),Nat.le v14 (List.length (Prod.snd (qb5 m pix)))/\((True/\True/\True/\(0:Int)=(↑v14:Int)/\True)/\(Prod.fst (qb5 m pix)=Prod.fst (qb5 m pix)/\True/\True)/\(qm8 (Prod.fst (qb5 m pix)) (Prod.snd (qb5 m pix)) (List.length pix) v8=qm8 (Prod.fst (qb5 m pix)) (Prod.snd (qb5 m pix)) (List.length pix) v13/\True/\True)/\List.set (List.replicate (Int.toNat (↑(List.length pix):Int)) (Ty.dflt (TI.ty T3))) (Int.toNat (↑v4:Int)) (qf4 (Prod.fst (qb5 m pix)) (Prod.snd (qb5 m pix)) v8 v10)=hTo (Prod.fst (qb5 m pix)) (Prod.snd (qb5 m pix)) (List.length pix) v13 v14/\True)/\∀(v15:Nat),Nat.le v15 (List.length (Prod.snd (qb5 m pix)))->(decide ((↑v15:Int)<(↑(List.length (Prod.snd (qc0 (qa9 m pix λ(v18:Int)=>v1 (v18,())) (Int.toNat (↑(List.length pix):Int))))):Int))=true->((0:Int)<=(↑v15:Int)/\(↑v15:Int)<(↑(List.length (Prod.snd (qc0 (qa9 m pix λ(v18:Int)=>v1 (v18,())) (Int.toNat (↑(List.length pix):Int))))):Int))/\((0:Int)<=(↑v15:Int)/\(↑v15:Int)<(↑(qe9 (List.length (Prod.fst (qb5 m pix))) none):Int))/\Int.toNat (↑v15:Int)<qe9 (List.length (Prod.fst (qb5 m pix))) none/\((0:Int)<=(↑v4:Int)/\(↑v4:Int)<(↑(List.length (qa1 (Ty.list (Ty.int .i64)) (Prod.fst (qb5 m pix)) (qf3 none (Int.toNat (↑v15:Int))))):Int))/\Int.toNat (↑v4:Int)<List.length (qa1 (Ty.list (Ty.int .i64)) (Prod.fst (qb5 m pix)) (qf3 none (Int.toNat (↑v15:Int))))/\fits .i64 ((0:Int)-qa1 (Ty.int .i64) (qa1 (Ty.list (Ty.int .i64)) (Prod.fst (qb5 m pix)) (qf3 none (Int.toNat (↑v15:Int)))) (Int.toNat (↑v4:Int)))/\fits .i64 (((0:Int)-qa1 (Ty.int .i64) (qa1 (Ty.list (Ty.int .i64)) (Prod.fst (qb5 m pix)) (qf3 none (Int.toNat (↑v15:Int)))) (Int.toNat (↑v4:Int)))*qf4 (Prod.fst (qb5 m pix)) (Prod.snd (qb5 m pix)) v8 v10)/\((0:Int)<=(↑v15:Int)/\(↑v15:Int)<(↑(qe9 (List.length (Prod.fst (qb5 m pix))) none):Int))/\Int.toNat (↑v15:Int)<qe9 (List.length (Prod.fst (qb5 m pix))) none/\((0:Int)<=qa1 (Ty.int .i64) (Prod.snd (qc0 (qa9 m pix λ(v18:Int)=>v1 (v18,())) (Int.toNat (↑(List.length pix):Int)))) (Int.toNat (↑v15:Int))/\qa1 (Ty.int .i64) (Prod.snd (qc0 (qa9 m pix λ(v18:Int)=>v1 (v18,())) (Int.toNat (↑(List.length pix):Int)))) (Int.toNat (↑v15:Int))<(↑(List.length (qa1 (Ty.list (Ty.int .i64)) (Prod.fst (qb5 m pix)) (qf3 none (Int.toNat (↑v15:Int))))):Int))/\Int.toNat (qa1 (Ty.int .i64) (Prod.snd (qc0 (qa9 m pix λ(v18:Int)=>v1 (v18,())) (Int.toNat (↑(List.length pix):Int)))) (Int.toNat (↑v15:Int)))<List.length (qa1 (Ty.list (Ty.int .i64)) (Prod.fst (qb5 m pix)) (qf3 none (Int.toNat (↑v15:Int))))/\qa1 (Ty.int .i64) (qa1 (Ty.list (Ty.int .i64)) (Prod.fst (qb5 m pix)) (qf3 none (Int.toNat (↑v15:Int)))) (Int.toNat (qa1 (Ty.int .i64) (Prod.snd (qc0 (qa9 m pix λ(v18:Int)=>v1 (v18,())) (Int.toNat (↑(List.length pix):Int)))) (Int.toNat (↑v15:Int))))≠(0:Int)/\fits .i64 (Int.tdiv (((0:Int)-qa1 (Ty.int .i64) (qa1 (Ty.list (Ty.int .i64)) (Prod.fst (qb5 m pix)) (qf3 none (Int.toNat (↑v15:Int)))) (Int.toNat (↑v4:Int)))*qf4 (Prod.fst (qb5 m pix)) (Prod.snd (qb5 m pix)) v8 v10) (qa1 (Ty.int .i64) (qa1 (Ty.list (Ty.int .i64)) (Prod.fst (qb5 m pix)) (qf3 none (Int.toNat (↑v15:Int)))) (Int.toNat (qa1 (Ty.int .i64) (Prod.snd (qc0 (qa9 m pix λ(v18:Int)=>v1 (v18,())) (Int.toNat (↑(List.length pix):Int)))) (Int.toNat (↑v15:Int))))))/\((0:Int)<=qa1 (Ty.int .i64) (Prod.snd (qc0 (qa9 m pix λ(v18:Int)=>v1 (v18,())) (Int.toNat (↑(List.length pix):Int)))) (Int.toNat (↑v15:Int))/\qa1 (Ty.int .i64) (Prod.snd (qc0 (qa9 m pix λ(v18:Int)=>v1 (v18,())) (Int.toNat (↑(List.length pix):Int)))) (Int.toNat (↑v15:Int))<(↑(List.length (hTo (Prod.fst (qb5 m pix)) (Prod.snd (qb5 m pix)) (List.length pix) v13 v15)):Int))/\Int.toNat (qa1 (Ty.int .i64) (Prod.snd (qc0 (qa9 m pix λ(v18:Int)=>v1 (v18,())) (Int.toNat (↑(List.length pix):Int)))) (Int.toNat (↑v15:Int)))<List.length (hTo (Prod.fst (qb5 m pix)) (Prod.snd (qb5 m pix)) (List.length pix) v13 v15)/\fits .i64 ((↑v15:Int)+(1:Int))/\∃(v18:Nat),Nat.le v18 (List.length (Prod.snd (qb5 m pix)))/\List.length (Prod.snd (qb5 m pix))-v18<List.length (Prod.snd (qb5 m pix))-v15/\(True/\True/\True/\(↑v15:Int)+(1:Int)=(↑v18:Int)/\True)/\(Prod.fst (qb5 m pix)=Prod.fst (qb5 m pix)/\True/\True)/\(qm8 (Prod.fst (qb5 m pix)) (Prod.snd (qb5 m pix)) (List.length pix) v13=qm8 (Prod.fst (qb5 m pix)) (Prod.snd (qb5 m pix)) (List.length pix) v13/\True/\True)/\List.set (hTo (Prod.fst (qb5 m pix)) (Prod.snd (qb5 m pix)) (List.length pix) v13 v15) (Int.toNat (qa1 (Ty.int .i64) (Prod.snd (qc0 (qa9 m pix λ(v19:Int)=>v1 (v19,())) (Int.toNat (↑(List.length pix):Int)))) (Int.toNat (↑v15:Int)))) (Int.tdiv (((0:Int)-qa1 (Ty.int .i64) (qa1 (Ty.list (Ty.int .i64)) (Prod.fst (qb5 m pix)) (qf3 none (Int.toNat (↑v15:Int)))) (Int.toNat (↑v4:Int)))*qf4 (Prod.fst (qb5 m pix)) (Prod.snd (qb5 m pix)) v8 v10) (qa1 (Ty.int .i64) (qa1 (Ty.list (Ty.int .i64)) (Prod.fst (qb5 m pix)) (qf3 none (Int.toNat (↑v15:Int)))) (Int.toNat (qa1 (Ty.int .i64) (Prod.snd (qc0 (qa9 m pix λ(v19:Int)=>v1 (v19,())) (Int.toNat (↑(List.length pix):Int)))) (Int.toNat (↑v15:Int))))))=hTo (Prod.fst (qb5 m pix)) (Prod.snd (qb5 m pix)) (List.length pix) v13 v18/\True)/\(decide ((↑v15:Int)<(↑(List.length (Prod.snd (qc0 (qa9 m pix λ(v18:Int)=>v1 (v18,())) (Int.toNat (↑(List.length pix):Int))))):Int))=false->q9z (nL [hTo (Prod.fst (qb5 m pix)) (Prod.snd (qb5 m pix)) (List.length pix) v13 v15] (0:Nat))/\((0:Nat)<(0:Nat)+(1:Nat)/\List.length (qm8 (Prod.fst (qb5 m pix)) (Prod.snd (qb5 m pix)) (List.length pix) v13)+((0:Nat)+(1:Nat))<=(1000000:Nat))/\fits .i64 ((↑v4:Int)+(1:Int))/\∃(v18:Nat),Nat.le v18 (List.length pix)/\List.length pix-v18<List.length pix-v4/\(True/\True/\(↑v4:Int)+(1:Int)=(↑v18:Int)/\True)/\(Prod.fst (qb5 m pix)=Prod.fst (qb5 m pix)/\True/\True)/\(qm8 (Prod.fst (qb5 m pix)) (Prod.snd (qb5 m pix)) (List.length pix) v13++[qa1 (Ty.list (Ty.int .i64)) [qe3 (nL [hTo (Prod.fst (qb5 m pix)) (Prod.snd (qb5 m pix)) (List.length pix) v13 v15] (0:Nat))] (0:Nat)]=qm8 (Prod.fst (qb5 m pix)) (Prod.snd (qb5 m pix)) (List.length pix) v18/\True/\True)/\True))))/\(decide ((↑v4:Int)<(↑(List.length pix):Int))=false->q28 (Ty.int .i64) (qm8 (Prod.fst (qb5 m pix)) (Prod.snd (qb5 m pix)) (List.length pix) v4) none=qn6 m pix)) (by kernel_rfl) ?_
 try simp only[z0,z1,z2,z3,z4,z5,z6,z7,z8,z9,z10,Int.reduceEq,z11,z12,z13,z14,z15,z16,z17,z18,z19,z20,z21,z22,z23,z24,z25,z26,z27,z28,z29,z30,Int.reduceLE,Int.reduceLT,z31,z32,z33,z34,qa3]
 try simp only[qb3,qb4,qc8,List.set_cons_zero,List.cons.injEq,and_true,true_and]
 have hcr:=h.cho.rows
 have hcc:=h.cho.cols
 have hrw:=h.red.w
 refine⟨λ_=>True,λ_=>[],λ_ _=>rfl,h.cho,⟨pix.length,h.red⟩,?_⟩
 have hkr:qc0 (qa9 m pix λ_=>[]) pix.length=qb5 m pix:=rfl
 have hsh:=q07 h.red pix.length
 have hpv:=q2y (qx9 m pix) pix.length
 have har:=h.ar
 have hcl:(qx9 m pix).length=m.length:=qm2 _ _ _
 simp only[Int.toNat_natCast]
 unfold qn6
 rw[hkr]
 change RedSh _ _ (qb5 m pix) _ at hsh
 change ∀e∈(qb5 m pix).2,_ at hpv
 generalize qb5 m pix=K at *
 obtain⟨R,P⟩:=K
 dsimp only at hpv har ⊢
 have hRn:=hsh.cnt
 have hRe:=hsh.each
 have hPn:=hsh.piv
 have hPj:=hsh.pivj
 dsimp only at hRn hRe hPn hPj
 have hPk:∀k,k<P.length->0<=nI P k/\nI P k<pix.length:=λk hk=>hpv _ (by rw[qi5 P k hk]; exact List.getElem_mem hk)
 simp only[q3j,q56,wh9]
 refine⟨(),0,Nat.zero_le _,⟨by first | rfl | trivial,by first | rfl | trivial,by first | rfl | trivial⟩,λf hf=>⟨λhlt=>⟨by omega,λhin=>?_,λhfree=>?_⟩,λhge=>?_⟩⟩
 ·refine⟨qb9 (by omega) (by omega),f+1,by omega,by omega,by omega,?_⟩
  rw[qm8,if_pos hin]
 ·refine⟨f,0,Nat.zero_le _,⟨⟨rfl,rfl⟩,rfl⟩,λk hk=>⟨λhlk=>?_,λhgk=>?_⟩⟩
  ·have hp:=hPk k hlk
   have hr:=hRe k (by omega)
   have hp':0<=nI P k/\nI P k<((nL R k).length:Int):=⟨hp.1,by omega⟩
   have hb1:=har.big k hlk (nI P k).toNat (by omega)
   have hb2:=har.big k hlk f hlt
   have hz:=har.nz k hlk
   have ht:=har.tm f hlt hfree k hk
   have ht2:=(har.tm f hlt hfree (k+1) hlk).1
   have e2:qf4 R P f (k+1)=qf4 R P f k*(q4c R P f k).tdiv (qf2 (qf4 R P f k) (q4c R P f k)):=rfl
   have hq:qd2 BIG (q4c R P f k):=qo6 hb1
   have e1:(nI (nL R k) (nI P k).toNat).tdiv (qf2 (nI (nL R k) (nI P k).toNat) (nI (nL R k) f))=q4c R P f k:=rfl
   rw[e1,<- e2]
   have hq2:qd2 BIG ((q4c R P f k).tdiv (qf2 (qf4 R P f k) (q4c R P f k))):=qo6 hq
   have g1:=qp3 (a:=nI (nL R k) (nI P k).toNat) (b:=nI (nL R k) f) (Or.inl hz)
   have g2:=qp3 (a:=qf4 R P f k) (b:=q4c R P f k) (Or.inl ht.2)
   have hB:BIG=4000000000000000000:=rfl
   unfold qd2 at *
   refine⟨hlk,by omega,by omega,hp',by omega,by omega,by omega,hp',by omega,by omega,by omega,by omega,by omega,⟨hb1,hb2⟩,by omega,qb9 (by omega) (by omega),⟨ht.1,hq⟩,by omega,qb9 (by omega) (by omega),qb9 (by omega) (by omega),qb9 (by omega) (by omega),k+1,by omega,by omega,rfl,by omega⟩
  ·obtain rfl:k=P.length:=by omega
   have hl0:(List.replicate pix.length T3.ty.dflt).length=pix.length:=List.length_replicate
   refine⟨by omega,by omega,by omega,f,0,Nat.zero_le _,⟨rfl,rfl,rfl⟩,λk hk=>⟨λhlk=>?_,λhgk=>?_⟩⟩
   ·have hp:=hPk k hlk
    have hr:=hRe k (by omega)
    have hp':0<=nI P k/\nI P k<((nL R k).length:Int):=⟨hp.1,by omega⟩
    have hb2:=har.big k hlk f hlt
    have hz:=har.nz k hlk
    have hpr:=har.pr f hlt hfree k hlk
    have hq:qd2 BIG (((0-nI (nL R k) f)*qf4 R P f P.length).tdiv (nI (nL R k) (nI P k).toNat)):=qo6 hpr
    have hl:=q6a R P pix.length f k
    have hp'':0<=nI P k/\nI P k<((hTo R P pix.length f k).length:Int):=⟨hp.1,by omega⟩
    have hB:BIG=4000000000000000000:=rfl
    unfold qd2 at *
    refine⟨hlk,by omega,by omega,by omega,by omega,qb9 (by omega) (by omega),qb9 (by omega) (by omega),by omega,by omega,hp',by omega,hz,qb9 (by omega) (by omega),hp'',by omega,qb9 (by omega) (by omega),k+1,by omega,by omega,by omega,rfl⟩
   ·obtain rfl:k=P.length:=by omega
    have hl:=q6a R P pix.length f P.length
    have hkl:=wi3 R P pix.length f
    refine⟨⟨by omega,wo7 har hlt hfree _ (Nat.le_refl _)⟩,by omega,qb9 (by omega) (by omega),f+1,by omega,by omega,by omega,?_⟩
    rw[qm8,if_neg (by rw[hfree]; decide)]
 ·obtain rfl:f=pix.length:=by omega
  rfl
end Go.Proofs.Ytdibdlelmkcccaa
