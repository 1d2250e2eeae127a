/- Kernel vectors: contract by the engine. No condition. -/
import Derived.Test.YtmijnbjlhnpokaaGreatV10
set_option linter.unusedVariables false
set_option linter.unusedSimpArgs false
namespace Go.Proofs.YtmijnbjlhnpokaaGreat
open Go Go.RowKit Eng
def q5p (r:List (List Int)) (piv:List Int) (f k:Nat):Int:=(nI (nL r k) (nI piv k).toNat).tdiv (qe2 (nI (nL r k) (nI piv k).toNat) (nI (nL r k) f))
def qg2 (r:List (List Int)) (piv:List Int) (f:Nat):Nat->Int
 | 0=>1
 | k+1=>qg2 r piv f k*(q5p r piv f k).tdiv (qe2 (qg2 r piv f k) (q5p r piv f k))
def hTo (r:List (List Int)) (piv:List Int) (n f:Nat):Nat->List Int
 | 0=>(List.replicate n 0).set f (qg2 r piv f piv.length)
 | k+1=>(hTo r piv n f k).set (nI piv k).toNat (((0-nI (nL r k) f)*qg2 r piv f piv.length).tdiv (nI (nL r k) (nI piv k).toNat))
def qp1 (r:List (List Int)) (piv:List Int) (n:Nat):Nat->List (List Int)
 | 0=>[]
 | f+1=>if piv.any λe=>(f:Int)==e then qp1 r piv n f else qp1 r piv n f++[qf2 (hTo r piv n f piv.length)]
def qq6 (m:List (List Int)) (pix:List Int):List (List Int):=qa9 m pix λ_=>[]
def qi8 (m:List (List Int)) (pix:List Int):List (List Int) × List Int:=qa6 (qq6 m pix) pix.length
def qp7 (m:List (List Int)) (pix:List Int):List (List Int):=qp1 (qi8 m pix).1 (qi8 m pix).2 pix.length pix.length
structure xf2 (r:List (List Int)) (piv:List Int) (n:Nat):Prop where
 nz:∀k,k<piv.length->nI (nL r k) (nI piv k).toNat≠0
 big:∀k,k<piv.length->∀i,i<n->qc8 BIG (nI (nL r k) i)
 tm:∀f,f<n->(piv.any λe=>(f:Int)==e)=false->∀k,k<=piv.length->qc8 BIG (qg2 r piv f k)/\qg2 r piv f k≠0
 pr:∀f,f<n->(piv.any λe=>(f:Int)==e)=false->∀k,k<piv.length->qc8 BIG ((0-nI (nL r k) f)*qg2 r piv f piv.length)
structure w3p (m:List (List Int)) (pix:List Int):Prop where
 cho:ChoOk m pix (λ_=>True) (λ_=>[])
 red:q08 (qq6 m pix) pix.length pix.length
 ar:xf2 (qi8 m pix).1 (qi8 m pix).2 pix.length
theorem q1b (R:List (List Int)):∀j,∀e∈(qa6 R j).2,0<=e/\e<(j:Int)
 | 0=>λe h=>by cases h
 | j+1=>λe h=>by
  rw[qa6,qw5] at h
  split at h
  ·have:=q1b R j e h; omega
  ·rcases List.mem_append.1 h with h | h
   ·have:=q1b R j e h; omega
   ·have:e=(j:Int):=by simpa using h
    omega
theorem q7k (r:List (List Int)) (piv:List Int) (n f:Nat):∀k,(hTo r piv n f k).length=n
 | 0=>by simp[hTo]
 | k+1=>by rw[hTo,List.length_set]; exact q7k r piv n f k
theorem wm7 (r:List (List Int)) (piv:List Int) (n:Nat):∀f,(qp1 r piv n f).length<=f
 | 0=>Nat.le_refl _
 | f+1=>by
  have:=wm7 r piv n f
  rw[qp1]
  split
  ·omega
  ·simp; omega
theorem wt5 {r:List (List Int)} {piv:List Int} {n f:Nat} (h:xf2 r piv n) (hf:f<n) (hfree:(piv.any λe=>(f:Int)==e)=false):∀k,k<=piv.length->∀x∈hTo r piv n f k,qc8 BIG x
 | 0,_,x,hx=>by
  rw[hTo] at hx
  rcases List.mem_or_eq_of_mem_set hx with hx | rfl
  ·obtain rfl:=(List.mem_replicate.1 hx).2
   unfold BIG; omega
  ·exact(h.tm f hf hfree _ (Nat.le_refl _)).1
 | k+1,hk,x,hx=>by
  rw[hTo] at hx
  rcases List.mem_or_eq_of_mem_set hx with hx | rfl
  ·exact wt5 h hf hfree k (by omega) x hx
  ·exact ql3 (h.pr f hf hfree k (by omega))
abbrev x9v:qc9:=qg4 true none [qo2,qf1] [qo2] (λx=>w3p x.1 x.2.1) (λx=>(qp7 x.1 x.2.1,()))
def x42 (m:List (List Int)) (pix:List Int):Nat->Option Inv
 | 0=>some (Inv.of [5,7,25] 2 (λf:Nat=>[(5,.msl 0 .none),(7,.msl 1 .none),(25,.lit (.int .i64 f))]) (λf=>[.mat 34 3 (.int .i64) (qi8 m pix).1 .none .none,.mat 34 3 (.int .i64) (qp1 (qi8 m pix).1 (qi8 m pix).2 pix.length f) .none .none]) (λf=>f<=pix.length) (λf=>pix.length-f))
 | 1=>some (Eng.Inv.mk Nat Nat [5,7,9,33] 2 (λf k=>[(5,.msl 0 .none),(7,.msl 1 .none),(9,.lit (.int .i64 (qg2 (qi8 m pix).1 (qi8 m pix).2 f k))),(33,.lit (.int .i64 k))]) (λf k=>[.mat 34 3 (.int .i64) (qi8 m pix).1 .none .none,.mat 34 3 (.int .i64) (qp1 (qi8 m pix).1 (qi8 m pix).2 pix.length f) .none .none]) (λf k=>k<=(qi8 m pix).2.length) (λf k=>(qi8 m pix).2.length-k))
 | 2=>some (Eng.Inv.mk Nat Nat [5,7,13,78] 3 (λf k=>[(5,.msl 0 .none),(7,.msl 1 .none),(13,.own 2),(78,.lit (.int .i64 k))]) (λf k=>[.mat 34 3 (.int .i64) (qi8 m pix).1 .none .none,.mat 34 3 (.int .i64) (qp1 (qi8 m pix).1 (qi8 m pix).2 pix.length f) .none .none,.vec 3 (.int .i64) (hTo (qi8 m pix).1 (qi8 m pix).2 pix.length f k)]) (λf k=>k<=(qi8 m pix).2.length) (λf k=>(qi8 m pix).2.length-k))
 | _=>none
def x44 (mats em:List Nat) (specs:List (Nat × qc9)) (muts:List (Nat × qs6)):Ctx:={ specs:=specs,tys:=tys,wr:=[],muts:=muts,mats:=mats,em:=em }
theorem w7k (mats em:List Nat) {specs:List (Nat × qc9)} {muts:List (Nat × qs6)} (h:SpecsOk Tryz.prog specs) (hm:MutsOk muts):Sound Tryz.prog (x44 mats em specs muts):=SpecsOk.sound h q3s (by kernel_rfl) (hmu:=hm)
theorem w7l:Meets Tryz.prog 118 x9v:=by
 refine meets (w7k [109] [] (SpecsOk.cons (q3y (fs:=[(73,xe2)]) (SpecsOk.cons q4y (SpecsOk.nil _))) (SpecsOk.cons wm6 (SpecsOk.cons qp6 (SpecsOk.nil _)))) (MutsOk.cons q09 (MutsOk.cons q2v MutsOk.nil))) Tryz.func118 rfl rfl (λx=>x42 x.1 x.2.1) (λ_=>by kernel_rfl) (by decide) ?_
 rintro⟨m,pix,⟨⟩⟩ h
 revert m pix
 intro(m:List (List Int)) (pix:List Int) (h:w3p m pix)
 refine @qe1 _ (let Q0:=qi8 m pix; let Q1:=qe7 Q0.1.length none; ∃(v0:qa5 [qg0]->Prop),∃(v1:qa5 [qg0]->List Int),(∀(v2:Int × qa5._f [] PUnit.unit),v0 v2->True/\[]=v1 v2)/\ChoOk m pix v0 v1/\((0:Ty.den qg0)<=(↑pix.length:Int)/\∃(v2:Nat),q08 (qa9 m pix λ(v3:Int)=>v1 (v3,())) (↑pix.length:Int).toNat v2)/\∃(v2:Unit),∃(v3:Nat),Nat.le v3 pix.length/\((True/\True/\(0:Int)=(↑v3:Int)/\True)/\((qa6 (qa9 m pix λ(v4:Int)=>v1 (v4,())) (↑pix.length:Int).toNat).1=Q0.1/\True/\True)/\qp1 Q0.1 Q0.2 pix.length v3=[]/\True)/\∀(v4:Nat),Nat.le v4 pix.length->(decide ((↑v4:Int)<(↑pix.length:Int))=true->(qa6 (qa9 m pix λ(v7:Int)=>v1 (v7,())) (↑pix.length:Int).toNat).2.length<=(1000000:Nat)/\((List.any (qa6 (qa9 m pix λ(v8:Int)=>v1 (v8,())) (↑pix.length:Int).toNat).2 λ(v8:Int)=>(↑v4:Int)==v8)=true->fits .i64 ((↑v4:Int)+(1:Int))/\∃(v8:Nat),Nat.le v8 pix.length/\pix.length-v8<pix.length-v4/\(True/\True/\(↑v4:Int)+(1:Int)=(↑v8:Int)/\True)/\(Q0.1=Q0.1/\True/\True)/\(qp1 Q0.1 Q0.2 pix.length v4=qp1 Q0.1 Q0.2 pix.length v8/\True/\True)/\True)/\((List.any (qa6 (qa9 m pix λ(v8:Int)=>v1 (v8,())) (↑pix.length:Int).toNat).2 λ(v8:Int)=>(↑v4:Int)==v8)=false->∃(v8:Nat),∃(v9:Nat),Nat.le v9 Q0.2.length/\((True/\True/\(1:Int)=qg2 Q0.1 Q0.2 v8 v9/\(0:Int)=(↑v9:Int)/\True)/\(Q0.1=Q0.1/\True/\True)/\(qp1 Q0.1 Q0.2 pix.length v4=qp1 Q0.1 Q0.2 pix.length v8/\True/\True)/\True)/\∀(v10:Nat),Nat.le v10 Q0.2.length->(decide ((↑v10:Int)<(↑(qa6 (qa9 m pix λ(v13:Int)=>v1 (v13,())) (↑pix.length:Int).toNat).2.length:Int))=true->((0:Int)<=(↑v10:Int)/\(↑v10:Int)<(↑(qa6 (qa9 m pix λ(v13:Int)=>v1 (v13,())) (↑pix.length:Int).toNat).2.length:Int))/\((0:Int)<=(↑v10:Int)/\(↑v10:Int)<(↑Q1:Int))/\v10<qe7 Q0.1.length none/\((0:Int)<=nI (qa6 (qa9 m pix λ(v13:Int)=>v1 (v13,())) (↑pix.length:Int).toNat).2 v10/\nI (qa6 (qa9 m pix λ(v13:Int)=>v1 (v13,())) (↑pix.length:Int).toNat).2 v10<(↑(nL Q0.1 (qd4 none v10)).length:Int))/\(nI (qa6 (qa9 m pix λ(v13:Int)=>v1 (v13,())) (↑pix.length:Int).toNat).2 v10).toNat<(nL Q0.1 (qd4 none v10)).length/\((0:Int)<=(↑v10:Int)/\(↑v10:Int)<(↑Q1:Int))/\v10<qe7 Q0.1.length none/\((0:Int)<=nI (qa6 (qa9 m pix λ(v13:Int)=>v1 (v13,())) (↑pix.length:Int).toNat).2 v10/\nI (qa6 (qa9 m pix λ(v13:Int)=>v1 (v13,())) (↑pix.length:Int).toNat).2 v10<(↑(nL Q0.1 (qd4 none v10)).length:Int))/\(nI (qa6 (qa9 m pix λ(v13:Int)=>v1 (v13,())) (↑pix.length:Int).toNat).2 v10).toNat<(nL Q0.1 (qd4 none v10)).length/\((0:Int)<=(↑v10:Int)/\(↑v10:Int)<(↑Q1:Int))/\v10<qe7 Q0.1.length none/\((0:Int)<=(↑v4:Int)/\(↑v4:Int)<(↑(nL Q0.1 (qd4 none v10)).length:Int))/\v4<(nL Q0.1 (qd4 none v10)).length/\(((-4000000000000000000:Int)<=nI (nL Q0.1 (qd4 none v10)) (nI (qa6 (qa9 m pix λ(v13:Int)=>v1 (v13,())) (↑pix.length:Int).toNat).2 v10).toNat/\nI (nL Q0.1 (qd4 none v10)) (nI (qa6 (qa9 m pix λ(v13:Int)=>v1 (v13,())) (↑pix.length:Int).toNat).2 v10).toNat<=BIG)/\(-4000000000000000000:Int)<=nI (nL Q0.1 (qd4 none v10)) v4/\nI (nL Q0.1 (qd4 none v10)) v4<=BIG)/\qe2 (nI (nL Q0.1 (qd4 none v10)) (nI (qa6 (qa9 m pix λ(v13:Int)=>v1 (v13,())) (↑pix.length:Int).toNat).2 v10).toNat) (nI (nL Q0.1 (qd4 none v10)) v4)≠(0:Int)/\fits .i64 (Int.tdiv (nI (nL Q0.1 (qd4 none v10)) (nI (qa6 (qa9 m pix λ(v13:Int)=>v1 (v13,())) (↑pix.length:Int).toNat).2 v10).toNat) (qe2 (nI (nL Q0.1 (qd4 none v10)) (nI (qa6 (qa9 m pix λ(v13:Int)=>v1 (v13,())) (↑pix.length:Int).toNat).2 v10).toNat) (nI (nL Q0.1 (qd4 none v10)) v4)))/\(((-4000000000000000000:Int)<=qg2 Q0.1 Q0.2 v8 v10/\qg2 Q0.1 Q0.2 v8 v10<=BIG)/\(-4000000000000000000:Int)<=Int.tdiv (nI (nL Q0.1 (qd4 none v10)) (nI (qa6 (qa9 m pix λ(v13:Int)=>v1 (v13,())) (↑pix.length:Int).toNat).2 v10).toNat) (qe2 (nI (nL Q0.1 (qd4 none v10)) (nI (qa6 (qa9 m pix λ(v13:Int)=>v1 (v13,())) (↑pix.length:Int).toNat).2 v10).toNat) (nI (nL Q0.1 (qd4 none v10)) v4))/\Int.tdiv (nI (nL Q0.1 (qd4 none v10)) (nI (qa6 (qa9 m pix λ(v13:Int)=>v1 (v13,())) (↑pix.length:Int).toNat).2 v10).toNat) (qe2 (nI (nL Q0.1 (qd4 none v10)) (nI (qa6 (qa9 m pix λ(v13:Int)=>v1 (v13,())) (↑pix.length:Int).toNat).2 v10).toNat) (nI (nL Q0.1 (qd4 none v10)) v4))<=BIG)/\qe2 (qg2 Q0.1 Q0.2 v8 v10) (Int.tdiv (nI (nL Q0.1 (qd4 none v10)) (nI (qa6 (qa9 m pix λ(v13:Int)=>v1 (v13,())) (↑pix.length:Int).toNat).2 v10).toNat) (qe2 (nI (nL Q0.1 (qd4 none v10)) (nI (qa6 (qa9 m pix λ(v13:Int)=>v1 (v13,())) (↑pix.length:Int).toNat).2 v10).toNat) (nI (nL Q0.1 (qd4 none v10)) v4)))≠(0:Int)/\fits .i64 (Int.tdiv (Int.tdiv (nI (nL Q0.1 (qd4 none v10)) (nI (qa6 (qa9 m pix λ(v13:Int)=>v1 (v13,())) (↑pix.length:Int).toNat).2 v10).toNat) (qe2 (nI (nL Q0.1 (qd4 none v10)) (nI (qa6 (qa9 m pix λ(v13:Int)=>v1 (v13,())) (↑pix.length:Int).toNat).2 v10).toNat) (nI (nL Q0.1 (qd4 none v10)) v4))) (qe2 (qg2 Q0.1 Q0.2 v8 v10) (Int.tdiv (nI (nL Q0.1 (qd4 none v10)) (nI (qa6 (qa9 m pix λ(v13:Int)=>v1 (v13,())) (↑pix.length:Int).toNat).2 v10).toNat) (qe2 (nI (nL Q0.1 (qd4 none v10)) (nI (qa6 (qa9 m pix λ(v13:Int)=>v1 (v13,())) (↑pix.length:Int).toNat).2 v10).toNat) (nI (nL Q0.1 (qd4 none v10)) v4)))))/\fits .i64 (qg2 Q0.1 Q0.2 v8 v10*Int.tdiv (Int.tdiv (nI (nL Q0.1 (qd4 none v10)) (nI (qa6 (qa9 m pix λ(v13:Int)=>v1 (v13,())) (↑pix.length:Int).toNat).2 v10).toNat) (qe2 (nI (nL Q0.1 (qd4 none v10)) (nI (qa6 (qa9 m pix λ(v13:Int)=>v1 (v13,())) (↑pix.length:Int).toNat).2 v10).toNat) (nI (nL Q0.1 (qd4 none v10)) v4))) (qe2 (qg2 Q0.1 Q0.2 v8 v10) (Int.tdiv (nI (nL Q0.1 (qd4 none v10)) (nI (qa6 (qa9 m pix λ(v13:Int)=>v1 (v13,())) (↑pix.length:Int).toNat).2 v10).toNat) (qe2 (nI (nL Q0.1 (qd4 none v10)) (nI (qa6 (qa9 m pix λ(v13:Int)=>v1 (v13,())) (↑pix.length:Int).toNat).2 v10).toNat) (nI (nL Q0.1 (qd4 none v10)) v4)))))/\fits .i64 ((↑v10:Int)+(1:Int))/\∃(v13:Nat),Nat.le v13 Q0.2.length/\Q0.2.length-v13<Q0.2.length-v10/\(True/\True/\qg2 Q0.1 Q0.2 v8 v10*Int.tdiv (Int.tdiv (nI (nL Q0.1 (qd4 none v10)) (nI (qa6 (qa9 m pix λ(v14:Int)=>v1 (v14,())) (↑pix.length:Int).toNat).2 v10).toNat) (qe2 (nI (nL Q0.1 (qd4 none v10)) (nI (qa6 (qa9 m pix λ(v14:Int)=>v1 (v14,())) (↑pix.length:Int).toNat).2 v10).toNat) (nI (nL Q0.1 (qd4 none v10)) v4))) (qe2 (qg2 Q0.1 Q0.2 v8 v10) (Int.tdiv (nI (nL Q0.1 (qd4 none v10)) (nI (qa6 (qa9 m pix λ(v14:Int)=>v1 (v14,())) (↑pix.length:Int).toNat).2 v10).toNat) (qe2 (nI (nL Q0.1 (qd4 none v10)) (nI (qa6 (qa9 m pix λ(v14:Int)=>v1 (v14,())) (↑pix.length:Int).toNat).2 v10).toNat) (nI (nL Q0.1 (qd4 none v10)) v4))))=qg2 Q0.1 Q0.2 v8 v13/\(↑v10:Int)+(1:Int)=(↑v13:Int)/\True)/\(Q0.1=Q0.1/\True/\True)/\(qp1 Q0.1 Q0.2 pix.length v8=qp1 Q0.1 Q0.2 pix.length v8/\True/\True)/\True)/\(decide ((↑v10:Int)<(↑(qa6 (qa9 m pix λ(v13:Int)=>v1 (v13,())) (↑pix.length:Int).toNat).2.length:Int))=false->((↑pix.length:Int)=(↑pix.length:Int)/\(0:Int)<=(↑pix.length:Int)/\(↑pix.length:Int)<=(1000000:Int))/\((0:Int)<=(↑v4:Int)/\(↑v4:Int)<(↑(List.replicate (↑pix.length:Int).toNat (Ty.dflt (TI.ty T3))).length:Int))/\v4<(List.replicate (↑pix.length:Int).toNat (Ty.dflt (TI.ty T3))).length/\∃(v13:Nat),∃(v14:Nat),Nat.le v14 Q0.2.length/\((True/\True/\True/\(0:Int)=(↑v14:Int)/\True)/\(Q0.1=Q0.1/\True/\True)/\(qp1 Q0.1 Q0.2 pix.length v8=qp1 Q0.1 Q0.2 pix.length v13/\True/\True)/\List.set (List.replicate (↑pix.length:Int).toNat (Ty.dflt (TI.ty T3))) v4 (qg2 Q0.1 Q0.2 v8 v10)=hTo Q0.1 Q0.2 pix.length v13 v14/\True)/\∀(v15:Nat),Nat.le v15 Q0.2.length->(decide ((↑v15:Int)<(↑(qa6 (qa9 m pix λ(v18:Int)=>v1 (v18,())) (↑pix.length:Int).toNat).2.length:Int))=true->((0:Int)<=(↑v15:Int)/\(↑v15:Int)<(↑(qa6 (qa9 m pix λ(v18:Int)=>v1 (v18,())) (↑pix.length:Int).toNat).2.length:Int))/\((0:Int)<=(↑v15:Int)/\(↑v15:Int)<(↑Q1:Int))/\v15<qe7 Q0.1.length none/\((0:Int)<=(↑v4:Int)/\(↑v4:Int)<(↑(nL Q0.1 (qd4 none v15)).length:Int))/\v4<(nL Q0.1 (qd4 none v15)).length/\fits .i64 ((0:Int)-nI (nL Q0.1 (qd4 none v15)) v4)/\fits .i64 (((0:Int)-nI (nL Q0.1 (qd4 none v15)) v4)*qg2 Q0.1 Q0.2 v8 v10)/\((0:Int)<=(↑v15:Int)/\(↑v15:Int)<(↑Q1:Int))/\v15<qe7 Q0.1.length none/\((0:Int)<=nI (qa6 (qa9 m pix λ(v18:Int)=>v1 (v18,())) (↑pix.length:Int).toNat).2 v15/\nI (qa6 (qa9 m pix λ(v18:Int)=>v1 (v18,())) (↑pix.length:Int).toNat).2 v15<(↑(nL Q0.1 (qd4 none v15)).length:Int))/\(nI (qa6 (qa9 m pix λ(v18:Int)=>v1 (v18,())) (↑pix.length:Int).toNat).2 v15).toNat<(nL Q0.1 (qd4 none v15)).length/\nI (nL Q0.1 (qd4 none v15)) (nI (qa6 (qa9 m pix λ(v18:Int)=>v1 (v18,())) (↑pix.length:Int).toNat).2 v15).toNat≠(0:Int)/\fits .i64 (Int.tdiv (((0:Int)-nI (nL Q0.1 (qd4 none v15)) v4)*qg2 Q0.1 Q0.2 v8 v10) (nI (nL Q0.1 (qd4 none v15)) (nI (qa6 (qa9 m pix λ(v18:Int)=>v1 (v18,())) (↑pix.length:Int).toNat).2 v15).toNat))/\((0:Int)<=nI (qa6 (qa9 m pix λ(v18:Int)=>v1 (v18,())) (↑pix.length:Int).toNat).2 v15/\nI (qa6 (qa9 m pix λ(v18:Int)=>v1 (v18,())) (↑pix.length:Int).toNat).2 v15<(↑(hTo Q0.1 Q0.2 pix.length v13 v15).length:Int))/\(nI (qa6 (qa9 m pix λ(v18:Int)=>v1 (v18,())) (↑pix.length:Int).toNat).2 v15).toNat<(hTo Q0.1 Q0.2 pix.length v13 v15).length/\fits .i64 ((↑v15:Int)+(1:Int))/\∃(v18:Nat),Nat.le v18 Q0.2.length/\Q0.2.length-v18<Q0.2.length-v15/\(True/\True/\True/\(↑v15:Int)+(1:Int)=(↑v18:Int)/\True)/\(Q0.1=Q0.1/\True/\True)/\(qp1 Q0.1 Q0.2 pix.length v13=qp1 Q0.1 Q0.2 pix.length v13/\True/\True)/\List.set (hTo Q0.1 Q0.2 pix.length v13 v15) (nI (qa6 (qa9 m pix λ(v19:Int)=>v1 (v19,())) (↑pix.length:Int).toNat).2 v15).toNat (Int.tdiv (((0:Int)-nI (nL Q0.1 (qd4 none v15)) v4)*qg2 Q0.1 Q0.2 v8 v10) (nI (nL Q0.1 (qd4 none v15)) (nI (qa6 (qa9 m pix λ(v19:Int)=>v1 (v19,())) (↑pix.length:Int).toNat).2 v15).toNat))=hTo Q0.1 Q0.2 pix.length v13 v18/\True)/\(decide ((↑v15:Int)<(↑(qa6 (qa9 m pix λ(v18:Int)=>v1 (v18,())) (↑pix.length:Int).toNat).2.length:Int))=false->q7e (nL [hTo Q0.1 Q0.2 pix.length v13 v15] (0:Nat))/\((0:Nat)<(0:Nat)+(1:Nat)/\(qp1 Q0.1 Q0.2 pix.length v13).length+((0:Nat)+(1:Nat))<=(1000000:Nat))/\fits .i64 ((↑v4:Int)+(1:Int))/\∃(v18:Nat),Nat.le v18 pix.length/\pix.length-v18<pix.length-v4/\(True/\True/\(↑v4:Int)+(1:Int)=(↑v18:Int)/\True)/\(Q0.1=Q0.1/\True/\True)/\(qp1 Q0.1 Q0.2 pix.length v13++[nL [qf2 (nL [hTo Q0.1 Q0.2 pix.length v13 v15] (0:Nat))] (0:Nat)]=qp1 Q0.1 Q0.2 pix.length v18/\True/\True)/\True))))/\(decide ((↑v4:Int)<(↑pix.length:Int))=false->q4l (Ty.int .i64) (qp1 Q0.1 Q0.2 pix.length v4) none=qp7 m pix)) (by kernel_rfl) ?_
 try simp only[z0,z1,z2,z3,z4,z5,z6,z7,z8,z9,z10,Int.reduceEq,z11,z12,z13,z14,z15,z16,z17,z18,z19,z20,z21,z22,z23,z24,z25,z26,z27,z28,z29,z30,Int.reduceLE,Int.reduceLT,z31,z32,z33,z34,qa1]
 try simp only[qb5,qb6,qd2,z31,z32,z2,z1]
 have hcr:=h.cho.rows
 have hcc:=h.cho.cols
 have hrw:=h.red.w
 refine⟨λ_=>True,λ_=>[],λ_ _=>rfl,h.cho,⟨pix.length,h.red⟩,?_⟩
 have hkr:qa6 (qa9 m pix λ_=>[]) pix.length=qi8 m pix:=rfl
 have hsh:=qv8 h.red pix.length
 have hpv:=q1b (qq6 m pix) pix.length
 have har:=h.ar
 have hcl:(qq6 m pix).length=m.length:=qo3 _ _ _
 simp only[Int.toNat_natCast]
 unfold qp7
 rw[hkr]
 change RedSh _ _ (qi8 m pix) _ at hsh
 change ∀e∈(qi8 m pix).2,_ at hpv
 generalize qi8 m pix=K at *
 obtain⟨R,P⟩:=K
 dsimp only at hpv har ⊢
 have hRn:=hsh.cnt
 have hRe:=hsh.each
 have hPn:=hsh.piv
 have hPj:=hsh.pivj
 dsimp only at hRn hRe hPn hPj
 have hPk:∀k,k<P.length->0<=nI P k/\nI P k<pix.length:=λk hk=>hpv _ (by rw[qh7 P k hk]; exact List.getElem_mem hk)
 simp only[q1y,q31,wm3]
 refine⟨(),0,Nat.zero_le _,⟨by first | rfl | trivial,by first | rfl | trivial,by first | rfl | trivial⟩,λf hf=>⟨λhlt=>⟨by omega,λhin=>?_,λhfree=>?_⟩,λhge=>?_⟩⟩
 ·refine⟨qa7 (by omega) (by omega),f+1,by omega,by omega,by omega,?_⟩
  rw[qp1,if_pos hin]
 ·refine⟨f,0,Nat.zero_le _,⟨⟨rfl,rfl⟩,rfl⟩,λk hk=>⟨λhlk=>?_,λhgk=>?_⟩⟩
  ·have hp:=hPk k hlk
   have hr:=hRe k (by omega)
   have hp':0<=nI P k/\nI P k<((nL R k).length:Int):=⟨hp.1,by omega⟩
   have hb1:=har.big k hlk (nI P k).toNat (by omega)
   have hb2:=har.big k hlk f hlt
   have hz:=har.nz k hlk
   have ht:=har.tm f hlt hfree k hk
   have ht2:=(har.tm f hlt hfree (k+1) hlk).1
   have e2:qg2 R P f (k+1)=qg2 R P f k*(q5p R P f k).tdiv (qe2 (qg2 R P f k) (q5p R P f k)):=rfl
   have hq:qc8 BIG (q5p R P f k):=ql3 hb1
   have e1:(nI (nL R k) (nI P k).toNat).tdiv (qe2 (nI (nL R k) (nI P k).toNat) (nI (nL R k) f))=q5p R P f k:=rfl
   rw[e1,<- e2]
   have hq2:qc8 BIG ((q5p R P f k).tdiv (qe2 (qg2 R P f k) (q5p R P f k))):=ql3 hq
   have g1:=qm8 (a:=nI (nL R k) (nI P k).toNat) (b:=nI (nL R k) f) (Or.inl hz)
   have g2:=qm8 (a:=qg2 R P f k) (b:=q5p R P f k) (Or.inl ht.2)
   have hB:BIG=4000000000000000000:=rfl
   unfold qc8 at *
   refine⟨hlk,by omega,by omega,hp',by omega,by omega,by omega,hp',by omega,by omega,by omega,by omega,by omega,⟨hb1,hb2⟩,by omega,qa7 (by omega) (by omega),⟨ht.1,hq⟩,by omega,qa7 (by omega) (by omega),qa7 (by omega) (by omega),qa7 (by omega) (by omega),k+1,by omega,by omega,rfl,by omega⟩
  ·obtain rfl:k=P.length:=by omega
   have hl0:(List.replicate pix.length T3.ty.dflt).length=pix.length:=List.length_replicate
   refine⟨by omega,by omega,by omega,f,0,Nat.zero_le _,⟨rfl,rfl,rfl⟩,λk hk=>⟨λhlk=>?_,λhgk=>?_⟩⟩
   ·have hp:=hPk k hlk
    have hr:=hRe k (by omega)
    have hp':0<=nI P k/\nI P k<((nL R k).length:Int):=⟨hp.1,by omega⟩
    have hb2:=har.big k hlk f hlt
    have hz:=har.nz k hlk
    have hpr:=har.pr f hlt hfree k hlk
    have hq:qc8 BIG (((0-nI (nL R k) f)*qg2 R P f P.length).tdiv (nI (nL R k) (nI P k).toNat)):=ql3 hpr
    have hl:=q7k R P pix.length f k
    have hp'':0<=nI P k/\nI P k<((hTo R P pix.length f k).length:Int):=⟨hp.1,by omega⟩
    have hB:BIG=4000000000000000000:=rfl
    unfold qc8 at *
    refine⟨hlk,by omega,by omega,by omega,by omega,qa7 (by omega) (by omega),qa7 (by omega) (by omega),by omega,by omega,hp',by omega,hz,qa7 (by omega) (by omega),hp'',by omega,qa7 (by omega) (by omega),k+1,by omega,by omega,by omega,rfl⟩
   ·obtain rfl:k=P.length:=by omega
    have hl:=q7k R P pix.length f P.length
    have hkl:=wm7 R P pix.length f
    refine⟨⟨by omega,wt5 har hlt hfree _ (Nat.le_refl _)⟩,by omega,qa7 (by omega) (by omega),f+1,by omega,by omega,by omega,?_⟩
    rw[qp1,if_neg (by rw[hfree]; decide)]
 ·obtain rfl:f=pix.length:=by omega
  rfl
end Go.Proofs.YtmijnbjlhnpokaaGreat
