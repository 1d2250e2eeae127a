/- Kernel vectors: contract by the engine. No condition. -/
import Derived.Test.YtempacilejhbgaaGreatV10
set_option linter.unusedVariables false
set_option linter.unusedSimpArgs false
namespace Go.Proofs.YtempacilejhbgaaGreat
open Go Go.RowKit Eng
def q4h (r:List (List Int)) (piv:List Int) (f k:Nat):Int:=(nI (nL r k) (nI piv k).toNat).tdiv (gcdI (nI (nL r k) (nI piv k).toNat) (nI (nL r k) f))
def qf7 (r:List (List Int)) (piv:List Int) (f:Nat):Nat->Int
 | 0=>1
 | k+1=>qf7 r piv f k*(q4h r piv f k).tdiv (gcdI (qf7 r piv f k) (q4h r piv f k))
def hTo (r:List (List Int)) (piv:List Int) (n f:Nat):Nat->List Int
 | 0=>(List.replicate n 0).set f (qf7 r piv f piv.length)
 | k+1=>(hTo r piv n f k).set (nI piv k).toNat (((0-nI (nL r k) f)*qf7 r piv f piv.length).tdiv (nI (nL r k) (nI piv k).toNat))
def qn9 (r:List (List Int)) (piv:List Int) (n:Nat):Nat->List (List Int)
 | 0=>[]
 | f+1=>if piv.any λe=>(f:Int)==e then qn9 r piv n f else qn9 r piv n f++[qd9 (hTo r piv n f piv.length)]
def q14 (m:List (List Int)) (pix:List Int):List (List Int):=qc7 m pix λ_=>[]
def qj1 (m:List (List Int)) (pix:List Int):List (List Int) × List Int:=qd2 (q14 m pix) pix.length
def qk7 (m:List (List Int)) (pix:List Int):List (List Int):=qn9 (qj1 m pix).1 (qj1 m pix).2 pix.length pix.length
structure w83 (r:List (List Int)) (piv:List Int) (n:Nat):Prop where
 nz:∀k,k<piv.length->nI (nL r k) (nI piv k).toNat≠0
 big:∀k,k<piv.length->∀i,i<n->qe8 BIG (nI (nL r k) i)
 tm:∀f,f<n->(piv.any λe=>(f:Int)==e)=false->∀k,k<=piv.length->qe8 BIG (qf7 r piv f k)/\qf7 r piv f k≠0
 pr:∀f,f<n->(piv.any λe=>(f:Int)==e)=false->∀k,k<piv.length->qe8 BIG ((0-nI (nL r k) f)*qf7 r piv f piv.length)
structure w11 (m:List (List Int)) (pix:List Int):Prop where
 cho:ChoOk m pix (λ_=>True) (λ_=>[])
 red:q9t (q14 m pix) pix.length pix.length
 ar:w83 (qj1 m pix).1 (qj1 m pix).2 pix.length
theorem q59 (R:List (List Int)):∀j,∀e∈(qd2 R j).2,0<=e/\e<(j:Int)
 | 0=>λe h=>by cases h
 | j+1=>λe h=>by
  rw[qd2,qu8] at h
  split at h
  ·have:=q59 R j e h; omega
  ·rcases List.mem_append.1 h with h | h
   ·have:=q59 R j e h; omega
   ·have:e=(j:Int):=by simpa using h
    omega
theorem q6a (r:List (List Int)) (piv:List Int) (n f:Nat):∀k,(hTo r piv n f k).length=n
 | 0=>by simp[hTo]
 | k+1=>by rw[hTo,List.length_set]; exact q6a r piv n f k
theorem wi3 (r:List (List Int)) (piv:List Int) (n:Nat):∀f,(qn9 r piv n f).length<=f
 | 0=>Nat.le_refl _
 | f+1=>by
  have:=wi3 r piv n f
  rw[qn9]
  split
  ·omega
  ·simp; omega
theorem wp0 {r:List (List Int)} {piv:List Int} {n f:Nat} (h:w83 r piv n) (hf:f<n) (hfree:(piv.any λe=>(f:Int)==e)=false):∀k,k<=piv.length->∀x∈hTo r piv n f k,qe8 BIG x
 | 0,_,x,hx=>by
  rw[hTo] at hx
  rcases List.mem_or_eq_of_mem_set hx with hx | rfl
  ·obtain rfl:=(List.mem_replicate.1 hx).2
   unfold BIG; omega
  ·exact(h.tm f hf hfree _ (Nat.le_refl _)).1
 | k+1,hk,x,hx=>by
  rw[hTo] at hx
  rcases List.mem_or_eq_of_mem_set hx with hx | rfl
  ·exact wp0 h hf hfree k (by omega) x hx
  ·exact qk4 (h.pr f hf hfree k (by omega))
abbrev x4o:qc0:=qg7 true none [qk0,qf2] [qk0] (λx=>w11 x.1 x.2.1) (λx=>(qk7 x.1 x.2.1,()))
def x0q (m:List (List Int)) (pix:List Int):Nat->Option Inv
 | 0=>some (Inv.of [5,7,25] 2 (λf:Nat=>[(5,.msl 0 .none),(7,.msl 1 .none),(25,.lit (.int .i64 f))]) (λf=>[.mat 24 3 (.int .i64) (qj1 m pix).1 .none .none,.mat 24 3 (.int .i64) (qn9 (qj1 m pix).1 (qj1 m pix).2 pix.length f) .none .none]) (λf=>f<=pix.length) (λf=>pix.length-f))
 | 1=>some (Eng.Inv.mk Nat Nat [5,7,9,33] 2 (λf k=>[(5,.msl 0 .none),(7,.msl 1 .none),(9,.lit (.int .i64 (qf7 (qj1 m pix).1 (qj1 m pix).2 f k))),(33,.lit (.int .i64 k))]) (λf k=>[.mat 24 3 (.int .i64) (qj1 m pix).1 .none .none,.mat 24 3 (.int .i64) (qn9 (qj1 m pix).1 (qj1 m pix).2 pix.length f) .none .none]) (λf k=>k<=(qj1 m pix).2.length) (λf k=>(qj1 m pix).2.length-k))
 | 2=>some (Eng.Inv.mk Nat Nat [5,7,13,78] 3 (λf k=>[(5,.msl 0 .none),(7,.msl 1 .none),(13,.own 2),(78,.lit (.int .i64 k))]) (λf k=>[.mat 24 3 (.int .i64) (qj1 m pix).1 .none .none,.mat 24 3 (.int .i64) (qn9 (qj1 m pix).1 (qj1 m pix).2 pix.length f) .none .none,.vec 3 (.int .i64) (hTo (qj1 m pix).1 (qj1 m pix).2 pix.length f k)]) (λf k=>k<=(qj1 m pix).2.length) (λf k=>(qj1 m pix).2.length-k))
 | _=>none
def x0r (mats em:List Nat) (specs:List (Nat × qc0)) (muts:List (Nat × qo7)):Ctx:={ specs:=specs,tys:=tys,wr:=[],muts:=muts,mats:=mats,em:=em }
theorem xs1 (mats em:List Nat) {specs:List (Nat × qc0)} {muts:List (Nat × qo7)} (h:SpecsOk Tryz.prog specs) (hm:MutsOk muts):Sound Tryz.prog (x0r mats em specs muts):=SpecsOk.sound h q4a (by kernel_rfl) (hmu:=hm)
theorem w5e:qd7 Tryz.prog 134 x4o:=by
 refine meets (xs1 [109] [] (SpecsOk.cons (wh5 (fs:=[(155,xi2)]) (SpecsOk.cons q73 (SpecsOk.nil _))) (SpecsOk.cons wi2 (SpecsOk.cons qr7 (SpecsOk.nil _)))) (MutsOk.cons wi0 (MutsOk.cons q1x MutsOk.nil))) Tryz.func134 rfl rfl (λx=>x0q x.1 x.2.1) (λ_=>by kernel_rfl) (by decide) ?_
 rintro⟨m,pix,⟨⟩⟩ h
 revert m pix
 intro(m:List (List Int)) (pix:List Int) (h:w11 m pix)
 refine @qe1 _ (let Q0:=Prod.fst (qj1 m pix); let Q1:=List.length pix; let Q2:=Prod.snd (qj1 m pix); let Q3:=qj1 m pix; let Q4:=qf3 (List.length Q0) none; let Q5:=List.length Q2; let Q6:=List.length Q0; ∃(v0:qa6 [qd6]->Prop),∃(v1:qa6 [qd6]->List Int),(∀(v2:Int × qa6._f [] PUnit.unit),v0 v2->True/\[]=v1 v2)/\ChoOk m pix v0 v1/\((0:Ty.den qd6)<=(↑Q1:Int)/\∃(v2:Nat),q9t (qc7 m pix λ(v3:Int)=>v1 (v3,())) (Int.toNat (↑Q1:Int)) v2)/\∃(v2:Unit),∃(v3:Nat),Nat.le v3 Q1/\((True/\True/\(0:Int)=(↑v3:Int)/\True)/\(Prod.fst (qd2 (qc7 m pix λ(v4:Int)=>v1 (v4,())) (Int.toNat (↑Q1:Int)))=Prod.fst Q3/\True/\True)/\qn9 Q0 Q2 Q1 v3=[]/\True)/\∀(v4:Nat),Nat.le v4 Q1->(decide ((↑v4:Int)<(↑Q1:Int))=true->List.length (Prod.snd (qd2 (qc7 m pix λ(v7:Int)=>v1 (v7,())) (Int.toNat (↑Q1:Int))))<=(1000000:Nat)/\((List.any (Prod.snd (qd2 (qc7 m pix λ(v8:Int)=>v1 (v8,())) (Int.toNat (↑Q1:Int)))) λ(v8:Int)=>(↑v4:Int)==v8)=true->fits .i64 ((↑v4:Int)+(1:Int))/\∃(v8:Nat),Nat.le v8 Q1/\List.length pix-v8<List.length pix-v4/\(True/\True/\(↑v4:Int)+(1:Int)=(↑v8:Int)/\True)/\(Prod.fst Q3=Prod.fst Q3/\True/\True)/\(qn9 Q0 Q2 Q1 v4=qn9 Q0 Q2 Q1 v8/\True/\True)/\True)/\((List.any (Prod.snd (qd2 (qc7 m pix λ(v8:Int)=>v1 (v8,())) (Int.toNat (↑Q1:Int)))) λ(v8:Int)=>(↑v4:Int)==v8)=false->∃(v8:Nat),∃(v9:Nat),Nat.le v9 Q5/\((True/\True/\(1:Int)=qf7 Q0 Q2 v8 v9/\(0:Int)=(↑v9:Int)/\True)/\(Prod.fst Q3=Prod.fst Q3/\True/\True)/\(qn9 Q0 Q2 Q1 v4=qn9 Q0 Q2 Q1 v8/\True/\True)/\True)/\∀(v10:Nat),Nat.le v10 Q5->(decide ((↑v10:Int)<(↑(List.length (Prod.snd (qd2 (qc7 m pix λ(v13:Int)=>v1 (v13,())) (Int.toNat (↑Q1:Int))))):Int))=true->((0:Int)<=(↑v10:Int)/\(↑v10:Int)<(↑(List.length (Prod.snd (qd2 (qc7 m pix λ(v13:Int)=>v1 (v13,())) (Int.toNat (↑Q1:Int))))):Int))/\((0:Int)<=(↑v10:Int)/\(↑v10:Int)<(↑Q4:Int))/\Int.toNat (↑v10:Int)<qf3 Q6 none/\((0:Int)<=qa1 (Ty.int .i64) (Prod.snd (qd2 (qc7 m pix λ(v13:Int)=>v1 (v13,())) (Int.toNat (↑Q1:Int)))) (Int.toNat (↑v10:Int))/\qa1 (Ty.int .i64) (Prod.snd (qd2 (qc7 m pix λ(v13:Int)=>v1 (v13,())) (Int.toNat (↑Q1:Int)))) (Int.toNat (↑v10:Int))<(↑(List.length (qa1 (Ty.list (Ty.int .i64)) Q0 (qg2 none (Int.toNat (↑v10:Int))))):Int))/\Int.toNat (qa1 (Ty.int .i64) (Prod.snd (qd2 (qc7 m pix λ(v13:Int)=>v1 (v13,())) (Int.toNat (↑Q1:Int)))) (Int.toNat (↑v10:Int)))<List.length (qa1 (Ty.list (Ty.int .i64)) Q0 (qg2 none (Int.toNat (↑v10:Int))))/\((0:Int)<=(↑v10:Int)/\(↑v10:Int)<(↑Q4:Int))/\Int.toNat (↑v10:Int)<qf3 Q6 none/\((0:Int)<=qa1 (Ty.int .i64) (Prod.snd (qd2 (qc7 m pix λ(v13:Int)=>v1 (v13,())) (Int.toNat (↑Q1:Int)))) (Int.toNat (↑v10:Int))/\qa1 (Ty.int .i64) (Prod.snd (qd2 (qc7 m pix λ(v13:Int)=>v1 (v13,())) (Int.toNat (↑Q1:Int)))) (Int.toNat (↑v10:Int))<(↑(List.length (qa1 (Ty.list (Ty.int .i64)) Q0 (qg2 none (Int.toNat (↑v10:Int))))):Int))/\Int.toNat (qa1 (Ty.int .i64) (Prod.snd (qd2 (qc7 m pix λ(v13:Int)=>v1 (v13,())) (Int.toNat (↑Q1:Int)))) (Int.toNat (↑v10:Int)))<List.length (qa1 (Ty.list (Ty.int .i64)) Q0 (qg2 none (Int.toNat (↑v10:Int))))/\((0:Int)<=(↑v10:Int)/\(↑v10:Int)<(↑Q4:Int))/\Int.toNat (↑v10:Int)<qf3 Q6 none/\((0:Int)<=(↑v4:Int)/\(↑v4:Int)<(↑(List.length (qa1 (Ty.list (Ty.int .i64)) Q0 (qg2 none (Int.toNat (↑v10:Int))))):Int))/\Int.toNat (↑v4:Int)<List.length (qa1 (Ty.list (Ty.int .i64)) Q0 (qg2 none (Int.toNat (↑v10:Int))))/\(((-4000000000000000000:Int)<=qa1 (Ty.int .i64) (qa1 (Ty.list (Ty.int .i64)) Q0 (qg2 none (Int.toNat (↑v10:Int)))) (Int.toNat (qa1 (Ty.int .i64) (Prod.snd (qd2 (qc7 m pix λ(v13:Int)=>v1 (v13,())) (Int.toNat (↑Q1:Int)))) (Int.toNat (↑v10:Int))))/\qa1 (Ty.int .i64) (qa1 (Ty.list (Ty.int .i64)) Q0 (qg2 none (Int.toNat (↑v10:Int)))) (Int.toNat (qa1 (Ty.int .i64) (Prod.snd (qd2 (qc7 m pix λ(v13:Int)=>v1 (v13,())) (Int.toNat (↑Q1:Int)))) (Int.toNat (↑v10:Int))))<=BIG)/\(-4000000000000000000:Int)<=qa1 (Ty.int .i64) (qa1 (Ty.list (Ty.int .i64)) Q0 (qg2 none (Int.toNat (↑v10:Int)))) (Int.toNat (↑v4:Int))/\qa1 (Ty.int .i64) (qa1 (Ty.list (Ty.int .i64)) Q0 (qg2 none (Int.toNat (↑v10:Int)))) (Int.toNat (↑v4:Int))<=BIG)/\gcdI (qa1 (Ty.int .i64) (qa1 (Ty.list (Ty.int .i64)) Q0 (qg2 none (Int.toNat (↑v10:Int)))) (Int.toNat (qa1 (Ty.int .i64) (Prod.snd (qd2 (qc7 m pix λ(v13:Int)=>v1 (v13,())) (Int.toNat (↑Q1:Int)))) (Int.toNat (↑v10:Int))))) (qa1 (Ty.int .i64) (qa1 (Ty.list (Ty.int .i64)) Q0 (qg2 none (Int.toNat (↑v10:Int)))) (Int.toNat (↑v4:Int)))≠(0:Int)/\fits .i64 (Int.tdiv (qa1 (Ty.int .i64) (qa1 (Ty.list (Ty.int .i64)) Q0 (qg2 none (Int.toNat (↑v10:Int)))) (Int.toNat (qa1 (Ty.int .i64) (Prod.snd (qd2 (qc7 m pix λ(v13:Int)=>v1 (v13,())) (Int.toNat (↑Q1:Int)))) (Int.toNat (↑v10:Int))))) (gcdI (qa1 (Ty.int .i64) (qa1 (Ty.list (Ty.int .i64)) Q0 (qg2 none (Int.toNat (↑v10:Int)))) (Int.toNat (qa1 (Ty.int .i64) (Prod.snd (qd2 (qc7 m pix λ(v13:Int)=>v1 (v13,())) (Int.toNat (↑Q1:Int)))) (Int.toNat (↑v10:Int))))) (qa1 (Ty.int .i64) (qa1 (Ty.list (Ty.int .i64)) Q0 (qg2 none (Int.toNat (↑v10:Int)))) (Int.toNat (↑v4:Int)))))/\(((-4000000000000000000:Int)<=qf7 Q0 Q2 v8 v10/\qf7 Q0 Q2 v8 v10<=BIG)/\(-4000000000000000000:Int)<=Int.tdiv (qa1 (Ty.int .i64) (qa1 (Ty.list (Ty.int .i64)) Q0 (qg2 none (Int.toNat (↑v10:Int)))) (Int.toNat (qa1 (Ty.int .i64) (Prod.snd (qd2 (qc7 m pix λ(v13:Int)=>v1 (v13,())) (Int.toNat (↑Q1:Int)))) (Int.toNat (↑v10:Int))))) (gcdI (qa1 (Ty.int .i64) (qa1 (Ty.list (Ty.int .i64)) Q0 (qg2 none (Int.toNat (↑v10:Int)))) (Int.toNat (qa1 (Ty.int .i64) (Prod.snd (qd2 (qc7 m pix λ(v13:Int)=>v1 (v13,())) (Int.toNat (↑Q1:Int)))) (Int.toNat (↑v10:Int))))) (qa1 (Ty.int .i64) (qa1 (Ty.list (Ty.int .i64)) Q0 (qg2 none (Int.toNat (↑v10:Int)))) (Int.toNat (↑v4:Int))))/\Int.tdiv (qa1 (Ty.int .i64) (qa1 (Ty.list (Ty.int .i64)) Q0 (qg2 none (Int.toNat (↑v10:Int)))) (Int.toNat (qa1 (Ty.int .i64) (Prod.snd (qd2 (qc7 m pix λ(v13:Int)=>v1 (v13,())) (Int.toNat (↑Q1:Int)))) (Int.toNat (↑v10:Int))))) (gcdI (qa1 (Ty.int .i64) (qa1 (Ty.list (Ty.int .i64)) Q0 (qg2 none (Int.toNat (↑v10:Int)))) (Int.toNat (qa1 (Ty.int .i64) (Prod.snd (qd2 (qc7 m pix λ(v13:Int)=>v1 (v13,())) (Int.toNat (↑Q1:Int)))) (Int.toNat (↑v10:Int))))) (qa1 (Ty.int .i64) (qa1 (Ty.list (Ty.int .i64)) Q0 (qg2 none (Int.toNat (↑v10:Int)))) (Int.toNat (↑v4:Int))))<=BIG)/\gcdI (qf7 Q0 Q2 v8 v10) (Int.tdiv (qa1 (Ty.int .i64) (qa1 (Ty.list (Ty.int .i64)) Q0 (qg2 none (Int.toNat (↑v10:Int)))) (Int.toNat (qa1 (Ty.int .i64) (Prod.snd (qd2 (qc7 m pix λ(v13:Int)=>v1 (v13,())) (Int.toNat (↑Q1:Int)))) (Int.toNat (↑v10:Int))))) (gcdI (qa1 (Ty.int .i64) (qa1 (Ty.list (Ty.int .i64)) Q0 (qg2 none (Int.toNat (↑v10:Int)))) (Int.toNat (qa1 (Ty.int .i64) (Prod.snd (qd2 (qc7 m pix λ(v13:Int)=>v1 (v13,())) (Int.toNat (↑Q1:Int)))) (Int.toNat (↑v10:Int))))) (qa1 (Ty.int .i64) (qa1 (Ty.list (Ty.int .i64)) Q0 (qg2 none (Int.toNat (↑v10:Int)))) (Int.toNat (↑v4:Int)))))≠(0:Int)/\fits .i64 (Int.tdiv (Int.tdiv (qa1 (Ty.int .i64) (qa1 (Ty.list (Ty.int .i64)) Q0 (qg2 none (Int.toNat (↑v10:Int)))) (Int.toNat (qa1 (Ty.int .i64) (Prod.snd (qd2 (qc7 m pix λ(v13:Int)=>v1 (v13,())) (Int.toNat (↑Q1:Int)))) (Int.toNat (↑v10:Int))))) (gcdI (qa1 (Ty.int .i64) (qa1 (Ty.list (Ty.int .i64)) Q0 (qg2 none (Int.toNat (↑v10:Int)))) (Int.toNat (qa1 (Ty.int .i64) (Prod.snd (qd2 (qc7 m pix λ(v13:Int)=>v1 (v13,())) (Int.toNat (↑Q1:Int)))) (Int.toNat (↑v10:Int))))) (qa1 (Ty.int .i64) (qa1 (Ty.list (Ty.int .i64)) Q0 (qg2 none (Int.toNat (↑v10:Int)))) (Int.toNat (↑v4:Int))))) (gcdI (qf7 Q0 Q2 v8 v10) (Int.tdiv (qa1 (Ty.int .i64) (qa1 (Ty.list (Ty.int .i64)) Q0 (qg2 none (Int.toNat (↑v10:Int)))) (Int.toNat (qa1 (Ty.int .i64) (Prod.snd (qd2 (qc7 m pix λ(v13:Int)=>v1 (v13,())) (Int.toNat (↑Q1:Int)))) (Int.toNat (↑v10:Int))))) (gcdI (qa1 (Ty.int .i64) (qa1 (Ty.list (Ty.int .i64)) Q0 (qg2 none (Int.toNat (↑v10:Int)))) (Int.toNat (qa1 (Ty.int .i64) (Prod.snd (qd2 (qc7 m pix λ(v13:Int)=>v1 (v13,())) (Int.toNat (↑Q1:Int)))) (Int.toNat (↑v10:Int))))) (qa1 (Ty.int .i64) (qa1 (Ty.list (Ty.int .i64)) Q0 (qg2 none (Int.toNat (↑v10:Int)))) (Int.toNat (↑v4:Int)))))))/\fits .i64 (qf7 Q0 Q2 v8 v10*Int.tdiv (Int.tdiv (qa1 (Ty.int .i64) (qa1 (Ty.list (Ty.int .i64)) Q0 (qg2 none (Int.toNat (↑v10:Int)))) (Int.toNat (qa1 (Ty.int .i64) (Prod.snd (qd2 (qc7 m pix λ(v13:Int)=>v1 (v13,())) (Int.toNat (↑Q1:Int)))) (Int.toNat (↑v10:Int))))) (gcdI (qa1 (Ty.int .i64) (qa1 (Ty.list (Ty.int .i64)) Q0 (qg2 none (Int.toNat (↑v10:Int)))) (Int.toNat (qa1 (Ty.int .i64) (Prod.snd (qd2 (qc7 m pix λ(v13:Int)=>v1 (v13,())) (Int.toNat (↑Q1:Int)))) (Int.toNat (↑v10:Int))))) (qa1 (Ty.int .i64) (qa1 (Ty.list (Ty.int .i64)) Q0 (qg2 none (Int.toNat (↑v10:Int)))) (Int.toNat (↑v4:Int))))) (gcdI (qf7 Q0 Q2 v8 v10) (Int.tdiv (qa1 (Ty.int .i64) (qa1 (Ty.list (Ty.int .i64)) Q0 (qg2 none (Int.toNat (↑v10:Int)))) (Int.toNat (qa1 (Ty.int .i64) (Prod.snd (qd2 (qc7 m pix λ(v13:Int)=>v1 (v13,())) (Int.toNat (↑Q1:Int)))) (Int.toNat (↑v10:Int))))) (gcdI (qa1 (Ty.int .i64) (qa1 (Ty.list (Ty.int .i64)) Q0 (qg2 none (Int.toNat (↑v10:Int)))) (Int.toNat (qa1 (Ty.int .i64) (Prod.snd (qd2 (qc7 m pix λ(v13:Int)=>v1 (v13,())) (Int.toNat (↑Q1:Int)))) (Int.toNat (↑v10:Int))))) (qa1 (Ty.int .i64) (qa1 (Ty.list (Ty.int .i64)) Q0 (qg2 none (Int.toNat (↑v10:Int)))) (Int.toNat (↑v4:Int)))))))/\fits .i64 ((↑v10:Int)+(1:Int))/\∃(v13:Nat),Nat.le v13 Q5/\List.length Q2-v13<List.length Q2-v10/\(True/\True/\qf7 Q0 Q2 v8 v10*Int.tdiv (Int.tdiv (qa1 (Ty.int .i64) (qa1 (Ty.list (Ty.int .i64)) Q0 (qg2 none (Int.toNat (↑v10:Int)))) (Int.toNat (qa1 (Ty.int .i64) (Prod.snd (qd2 (qc7 m pix λ(v14:Int)=>v1 (v14,())) (Int.toNat (↑Q1:Int)))) (Int.toNat (↑v10:Int))))) (gcdI (qa1 (Ty.int .i64) (qa1 (Ty.list (Ty.int .i64)) Q0 (qg2 none (Int.toNat (↑v10:Int)))) (Int.toNat (qa1 (Ty.int .i64) (Prod.snd (qd2 (qc7 m pix λ(v14:Int)=>v1 (v14,())) (Int.toNat (↑Q1:Int)))) (Int.toNat (↑v10:Int))))) (qa1 (Ty.int .i64) (qa1 (Ty.list (Ty.int .i64)) Q0 (qg2 none (Int.toNat (↑v10:Int)))) (Int.toNat (↑v4:Int))))) (gcdI (qf7 Q0 Q2 v8 v10) (Int.tdiv (qa1 (Ty.int .i64) (qa1 (Ty.list (Ty.int .i64)) Q0 (qg2 none (Int.toNat (↑v10:Int)))) (Int.toNat (qa1 (Ty.int .i64) (Prod.snd (qd2 (qc7 m pix λ(v14:Int)=>v1 (v14,())) (Int.toNat (↑Q1:Int)))) (Int.toNat (↑v10:Int))))) (gcdI (qa1 (Ty.int .i64) (qa1 (Ty.list (Ty.int .i64)) Q0 (qg2 none (Int.toNat (↑v10:Int)))) (Int.toNat (qa1 (Ty.int .i64) (Prod.snd (qd2 (qc7 m pix λ(v14:Int)=>v1 (v14,())) (Int.toNat (↑Q1:Int)))) (Int.toNat (↑v10:Int))))) (qa1 (Ty.int .i64) (qa1 (Ty.list (Ty.int .i64)) Q0 (qg2 none (Int.toNat (↑v10:Int)))) (Int.toNat (↑v4:Int))))))=qf7 Q0 Q2 v8 v13/\(↑v10:Int)+(1:Int)=(↑v13:Int)/\True)/\(Prod.fst Q3=Prod.fst Q3/\True/\True)/\(qn9 Q0 Q2 Q1 v8=qn9 Q0 Q2 Q1 v8/\True/\True)/\True)/\(decide ((↑v10:Int)<(↑(List.length (Prod.snd (qd2 (qc7 m pix λ(v13:Int)=>v1 (v13,())) (Int.toNat (↑Q1:Int))))):Int))=false->((↑Q1:Int)=(↑Q1:Int)/\(0:Int)<=(↑Q1:Int)/\(↑Q1:Int)<=(1000000:Int))/\((0:Int)<=(↑v4:Int)/\(↑v4:Int)<(↑(List.length (List.replicate (Int.toNat (↑Q1:Int)) (Ty.dflt (TI.ty T3)))):Int))/\Int.toNat (↑v4:Int)<List.length (List.replicate (Int.toNat (↑Q1:Int)) (Ty.dflt (TI.ty T3)))/\∃(v13:Nat),∃(v14:Nat),Nat.le v14 Q5/\((True/\True/\True/\(0:Int)=(↑v14:Int)/\True)/\(Prod.fst Q3=Prod.fst Q3/\True/\True)/\(qn9 Q0 Q2 Q1 v8=qn9 Q0 Q2 Q1 v13/\True/\True)/\List.set (List.replicate (Int.toNat (↑Q1:Int)) (Ty.dflt (TI.ty T3))) (Int.toNat (↑v4:Int)) (qf7 Q0 Q2 v8 v10)=hTo Q0 Q2 Q1 v13 v14/\True)/\∀(v15:Nat),Nat.le v15 Q5->(decide ((↑v15:Int)<(↑(List.length (Prod.snd (qd2 (qc7 m pix λ(v18:Int)=>v1 (v18,())) (Int.toNat (↑Q1:Int))))):Int))=true->((0:Int)<=(↑v15:Int)/\(↑v15:Int)<(↑(List.length (Prod.snd (qd2 (qc7 m pix λ(v18:Int)=>v1 (v18,())) (Int.toNat (↑Q1:Int))))):Int))/\((0:Int)<=(↑v15:Int)/\(↑v15:Int)<(↑Q4:Int))/\Int.toNat (↑v15:Int)<qf3 Q6 none/\((0:Int)<=(↑v4:Int)/\(↑v4:Int)<(↑(List.length (qa1 (Ty.list (Ty.int .i64)) Q0 (qg2 none (Int.toNat (↑v15:Int))))):Int))/\Int.toNat (↑v4:Int)<List.length (qa1 (Ty.list (Ty.int .i64)) Q0 (qg2 none (Int.toNat (↑v15:Int))))/\fits .i64 ((0:Int)-qa1 (Ty.int .i64) (qa1 (Ty.list (Ty.int .i64)) Q0 (qg2 none (Int.toNat (↑v15:Int)))) (Int.toNat (↑v4:Int)))/\fits .i64 (((0:Int)-qa1 (Ty.int .i64) (qa1 (Ty.list (Ty.int .i64)) Q0 (qg2 none (Int.toNat (↑v15:Int)))) (Int.toNat (↑v4:Int)))*qf7 Q0 Q2 v8 v10)/\((0:Int)<=(↑v15:Int)/\(↑v15:Int)<(↑Q4:Int))/\Int.toNat (↑v15:Int)<qf3 Q6 none/\((0:Int)<=qa1 (Ty.int .i64) (Prod.snd (qd2 (qc7 m pix λ(v18:Int)=>v1 (v18,())) (Int.toNat (↑Q1:Int)))) (Int.toNat (↑v15:Int))/\qa1 (Ty.int .i64) (Prod.snd (qd2 (qc7 m pix λ(v18:Int)=>v1 (v18,())) (Int.toNat (↑Q1:Int)))) (Int.toNat (↑v15:Int))<(↑(List.length (qa1 (Ty.list (Ty.int .i64)) Q0 (qg2 none (Int.toNat (↑v15:Int))))):Int))/\Int.toNat (qa1 (Ty.int .i64) (Prod.snd (qd2 (qc7 m pix λ(v18:Int)=>v1 (v18,())) (Int.toNat (↑Q1:Int)))) (Int.toNat (↑v15:Int)))<List.length (qa1 (Ty.list (Ty.int .i64)) Q0 (qg2 none (Int.toNat (↑v15:Int))))/\qa1 (Ty.int .i64) (qa1 (Ty.list (Ty.int .i64)) Q0 (qg2 none (Int.toNat (↑v15:Int)))) (Int.toNat (qa1 (Ty.int .i64) (Prod.snd (qd2 (qc7 m pix λ(v18:Int)=>v1 (v18,())) (Int.toNat (↑Q1:Int)))) (Int.toNat (↑v15:Int))))≠(0:Int)/\fits .i64 (Int.tdiv (((0:Int)-qa1 (Ty.int .i64) (qa1 (Ty.list (Ty.int .i64)) Q0 (qg2 none (Int.toNat (↑v15:Int)))) (Int.toNat (↑v4:Int)))*qf7 Q0 Q2 v8 v10) (qa1 (Ty.int .i64) (qa1 (Ty.list (Ty.int .i64)) Q0 (qg2 none (Int.toNat (↑v15:Int)))) (Int.toNat (qa1 (Ty.int .i64) (Prod.snd (qd2 (qc7 m pix λ(v18:Int)=>v1 (v18,())) (Int.toNat (↑Q1:Int)))) (Int.toNat (↑v15:Int))))))/\((0:Int)<=qa1 (Ty.int .i64) (Prod.snd (qd2 (qc7 m pix λ(v18:Int)=>v1 (v18,())) (Int.toNat (↑Q1:Int)))) (Int.toNat (↑v15:Int))/\qa1 (Ty.int .i64) (Prod.snd (qd2 (qc7 m pix λ(v18:Int)=>v1 (v18,())) (Int.toNat (↑Q1:Int)))) (Int.toNat (↑v15:Int))<(↑(List.length (hTo Q0 Q2 Q1 v13 v15)):Int))/\Int.toNat (qa1 (Ty.int .i64) (Prod.snd (qd2 (qc7 m pix λ(v18:Int)=>v1 (v18,())) (Int.toNat (↑Q1:Int)))) (Int.toNat (↑v15:Int)))<List.length (hTo Q0 Q2 Q1 v13 v15)/\fits .i64 ((↑v15:Int)+(1:Int))/\∃(v18:Nat),Nat.le v18 Q5/\List.length Q2-v18<List.length Q2-v15/\(True/\True/\True/\(↑v15:Int)+(1:Int)=(↑v18:Int)/\True)/\(Prod.fst Q3=Prod.fst Q3/\True/\True)/\(qn9 Q0 Q2 Q1 v13=qn9 Q0 Q2 Q1 v13/\True/\True)/\List.set (hTo Q0 Q2 Q1 v13 v15) (Int.toNat (qa1 (Ty.int .i64) (Prod.snd (qd2 (qc7 m pix λ(v19:Int)=>v1 (v19,())) (Int.toNat (↑Q1:Int)))) (Int.toNat (↑v15:Int)))) (Int.tdiv (((0:Int)-qa1 (Ty.int .i64) (qa1 (Ty.list (Ty.int .i64)) Q0 (qg2 none (Int.toNat (↑v15:Int)))) (Int.toNat (↑v4:Int)))*qf7 Q0 Q2 v8 v10) (qa1 (Ty.int .i64) (qa1 (Ty.list (Ty.int .i64)) Q0 (qg2 none (Int.toNat (↑v15:Int)))) (Int.toNat (qa1 (Ty.int .i64) (Prod.snd (qd2 (qc7 m pix λ(v19:Int)=>v1 (v19,())) (Int.toNat (↑Q1:Int)))) (Int.toNat (↑v15:Int))))))=hTo Q0 Q2 Q1 v13 v18/\True)/\(decide ((↑v15:Int)<(↑(List.length (Prod.snd (qd2 (qc7 m pix λ(v18:Int)=>v1 (v18,())) (Int.toNat (↑Q1:Int))))):Int))=false->q3l (nL [hTo Q0 Q2 Q1 v13 v15] (0:Nat))/\((0:Nat)<(0:Nat)+(1:Nat)/\List.length (qn9 Q0 Q2 Q1 v13)+((0:Nat)+(1:Nat))<=(1000000:Nat))/\fits .i64 ((↑v4:Int)+(1:Int))/\∃(v18:Nat),Nat.le v18 Q1/\List.length pix-v18<List.length pix-v4/\(True/\True/\(↑v4:Int)+(1:Int)=(↑v18:Int)/\True)/\(Prod.fst Q3=Prod.fst Q3/\True/\True)/\(qn9 Q0 Q2 Q1 v13++[qa1 (Ty.list (Ty.int .i64)) [qd9 (nL [hTo Q0 Q2 Q1 v13 v15] (0:Nat))] (0:Nat)]=qn9 Q0 Q2 Q1 v18/\True/\True)/\True))))/\(decide ((↑v4:Int)<(↑Q1:Int))=false->q28 (Ty.int .i64) (qn9 Q0 Q2 Q1 v4) none=qk7 m pix)) (by kernel_rfl) ?_
 try simp only[z0,z1,z2,z3,z4,z5,z6,z7,z8,z9,z10,Int.reduceEq,z11,z12,z13,z14,z15,z16,z17,z18,z19,z20,z21,z22,z23,z24,z25,z26,z27,z28,z29,z30,Int.reduceLE,Int.reduceLT,z31,z32,z33,z34,qa4]
 try simp only[qb3,qb4,qb9,List.set_cons_zero,List.cons.injEq,and_true,true_and]
 have hcr:=h.cho.rows
 have hcc:=h.cho.cols
 have hrw:=h.red.w
 refine⟨λ_=>True,λ_=>[],λ_ _=>rfl,h.cho,⟨pix.length,h.red⟩,?_⟩
 have hkr:qd2 (qc7 m pix λ_=>[]) pix.length=qj1 m pix:=rfl
 have hsh:=q4u h.red pix.length
 have hpv:=q59 (q14 m pix) pix.length
 have har:=h.ar
 have hcl:(q14 m pix).length=m.length:=q1y _ _ _
 simp only[Int.toNat_natCast]
 unfold qk7
 rw[hkr]
 change RedSh _ _ (qj1 m pix) _ at hsh
 change ∀e∈(qj1 m pix).2,_ at hpv
 generalize qj1 m pix=K at *
 obtain⟨R,P⟩:=K
 dsimp only at hpv har ⊢
 have hRn:=hsh.cnt
 have hRe:=hsh.each
 have hPn:=hsh.piv
 have hPj:=hsh.pivj
 dsimp only at hRn hRe hPn hPj
 have hPk:∀k,k<P.length->0<=nI P k/\nI P k<pix.length:=λk hk=>hpv _ (by rw[qg5 P k hk]; exact List.getElem_mem hk)
 simp only[q74,wh7,wh8]
 refine⟨(),0,Nat.zero_le _,⟨by first | rfl | trivial,by first | rfl | trivial,by first | rfl | trivial⟩,λf hf=>⟨λhlt=>⟨by omega,λhin=>?_,λhfree=>?_⟩,λhge=>?_⟩⟩
 ·refine⟨qa7 (by omega) (by omega),f+1,by omega,by omega,by omega,?_⟩
  rw[qn9,if_pos hin]
 ·refine⟨f,0,Nat.zero_le _,⟨⟨rfl,rfl⟩,rfl⟩,λk hk=>⟨λhlk=>?_,λhgk=>?_⟩⟩
  ·have hp:=hPk k hlk
   have hr:=hRe k (by omega)
   have hp':0<=nI P k/\nI P k<((nL R k).length:Int):=⟨hp.1,by omega⟩
   have hb1:=har.big k hlk (nI P k).toNat (by omega)
   have hb2:=har.big k hlk f hlt
   have hz:=har.nz k hlk
   have ht:=har.tm f hlt hfree k hk
   have ht2:=(har.tm f hlt hfree (k+1) hlk).1
   have e2:qf7 R P f (k+1)=qf7 R P f k*(q4h R P f k).tdiv (gcdI (qf7 R P f k) (q4h R P f k)):=rfl
   have hq:qe8 BIG (q4h R P f k):=qk4 hb1
   have e1:(nI (nL R k) (nI P k).toNat).tdiv (gcdI (nI (nL R k) (nI P k).toNat) (nI (nL R k) f))=q4h R P f k:=rfl
   rw[e1,<- e2]
   have hq2:qe8 BIG ((q4h R P f k).tdiv (gcdI (qf7 R P f k) (q4h R P f k))):=qk4 hq
   have g1:=qp9 (a:=nI (nL R k) (nI P k).toNat) (b:=nI (nL R k) f) (Or.inl hz)
   have g2:=qp9 (a:=qf7 R P f k) (b:=q4h R P f k) (Or.inl ht.2)
   have hB:BIG=4000000000000000000:=rfl
   unfold qe8 at *
   refine⟨hlk,by omega,by omega,hp',by omega,by omega,by omega,hp',by omega,by omega,by omega,by omega,by omega,⟨hb1,hb2⟩,by omega,qa7 (by omega) (by omega),⟨ht.1,hq⟩,by omega,qa7 (by omega) (by omega),qa7 (by omega) (by omega),qa7 (by omega) (by omega),k+1,by omega,by omega,rfl,by omega⟩
  ·obtain rfl:k=P.length:=by omega
   have hl0:(List.replicate pix.length T3.ty.dflt).length=pix.length:=List.length_replicate
   refine⟨by omega,by omega,by omega,f,0,Nat.zero_le _,⟨rfl,rfl,rfl⟩,λk hk=>⟨λhlk=>?_,λhgk=>?_⟩⟩
   ·have hp:=hPk k hlk
    have hr:=hRe k (by omega)
    have hp':0<=nI P k/\nI P k<((nL R k).length:Int):=⟨hp.1,by omega⟩
    have hb2:=har.big k hlk f hlt
    have hz:=har.nz k hlk
    have hpr:=har.pr f hlt hfree k hlk
    have hq:qe8 BIG (((0-nI (nL R k) f)*qf7 R P f P.length).tdiv (nI (nL R k) (nI P k).toNat)):=qk4 hpr
    have hl:=q6a R P pix.length f k
    have hp'':0<=nI P k/\nI P k<((hTo R P pix.length f k).length:Int):=⟨hp.1,by omega⟩
    have hB:BIG=4000000000000000000:=rfl
    unfold qe8 at *
    refine⟨hlk,by omega,by omega,by omega,by omega,qa7 (by omega) (by omega),qa7 (by omega) (by omega),by omega,by omega,hp',by omega,hz,qa7 (by omega) (by omega),hp'',by omega,qa7 (by omega) (by omega),k+1,by omega,by omega,by omega,rfl⟩
   ·obtain rfl:k=P.length:=by omega
    have hl:=q6a R P pix.length f P.length
    have hkl:=wi3 R P pix.length f
    refine⟨⟨by omega,wp0 har hlt hfree _ (Nat.le_refl _)⟩,by omega,qa7 (by omega) (by omega),f+1,by omega,by omega,by omega,?_⟩
    rw[qn9,if_neg (by rw[hfree]; decide)]
 ·obtain rfl:f=pix.length:=by omega
  rfl
end Go.Proofs.YtempacilejhbgaaGreat
