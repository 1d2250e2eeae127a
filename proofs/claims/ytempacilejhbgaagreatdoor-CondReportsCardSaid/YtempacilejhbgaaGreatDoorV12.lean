/- Rank and solutions: contracts by the engine. No condition. -/
import Derived.Test.YtempacilejhbgaaGreatDoorV10
set_option linter.unusedVariables false
set_option linter.unusedSimpArgs false
namespace Go.Proofs.YtempacilejhbgaaGreatDoor
open Go Go.RowKit Eng
def q4m (r:List (List Int)) (piv:List Int) (f k:Nat):Int:=(nI (nL r k) (nI piv k).toNat).tdiv (gcdI (nI (nL r k) (nI piv k).toNat) (nI (nL r k) f))
def qf2 (r:List (List Int)) (piv:List Int) (f:Nat):Nat->Int
 | 0=>1
 | k+1=>qf2 r piv f k*(q4m r piv f k).tdiv (gcdI (qf2 r piv f k) (q4m r piv f k))
def hTo (r:List (List Int)) (piv:List Int) (n f:Nat):Nat->List Int
 | 0=>(List.replicate n 0).set f (qf2 r piv f piv.length)
 | k+1=>(hTo r piv n f k).set (nI piv k).toNat (((0-nI (nL r k) f)*qf2 r piv f piv.length).tdiv (nI (nL r k) (nI piv k).toNat))
def qn5 (r:List (List Int)) (piv:List Int) (n:Nat):Nat->List (List Int)
 | 0=>[]
 | f+1=>if piv.any λe=>(f:Int)==e then qn5 r piv n f else qn5 r piv n f++[qd8 (hTo r piv n f piv.length)]
def q19 (m:List (List Int)) (pix:List Int):List (List Int):=qc0 m pix λ_=>[]
def qj2 (m:List (List Int)) (pix:List Int):List (List Int) × List Int:=qd2 (q19 m pix) pix.length
def qk5 (m:List (List Int)) (pix:List Int):List (List Int):=qn5 (qj2 m pix).1 (qj2 m pix).2 pix.length pix.length
structure w9g (r:List (List Int)) (piv:List Int) (n:Nat):Prop where
 nz:∀k,k<piv.length->nI (nL r k) (nI piv k).toNat≠0
 big:∀k,k<piv.length->∀i,i<n->qf3 BIG (nI (nL r k) i)
 tm:∀f,f<n->(piv.any λe=>(f:Int)==e)=false->∀k,k<=piv.length->qf3 BIG (qf2 r piv f k)/\qf2 r piv f k≠0
 pr:∀f,f<n->(piv.any λe=>(f:Int)==e)=false->∀k,k<piv.length->qf3 BIG ((0-nI (nL r k) f)*qf2 r piv f piv.length)
structure w2g (m:List (List Int)) (pix:List Int):Prop where
 cho:ChoOk m pix (λ_=>True) (λ_=>[])
 red:q7m (q19 m pix) pix.length pix.length
 ar:w9g (qj2 m pix).1 (qj2 m pix).2 pix.length
theorem q6e (R:List (List Int)):∀j,∀e∈(qd2 R j).2,0<=e/\e<(j:Int)
 | 0=>λe h=>by cases h
 | j+1=>λe h=>by
  rw[qd2,qu8] at h
  split at h
  ·have:=q6e R j e h; omega
  ·rcases List.mem_append.1 h with h | h
   ·have:=q6e R j e h; omega
   ·have:e=(j:Int):=by simpa using h
    omega
theorem q6f (r:List (List Int)) (piv:List Int) (n f:Nat):∀k,(hTo r piv n f k).length=n
 | 0=>by simp[hTo]
 | k+1=>by rw[hTo,List.length_set]; exact q6f r piv n f k
theorem wi6 (r:List (List Int)) (piv:List Int) (n:Nat):∀f,(qn5 r piv n f).length<=f
 | 0=>Nat.le_refl _
 | f+1=>by
  have:=wi6 r piv n f
  rw[qn5]
  split
  ·omega
  ·simp; omega
theorem wp6 {r:List (List Int)} {piv:List Int} {n f:Nat} (h:w9g r piv n) (hf:f<n) (hfree:(piv.any λe=>(f:Int)==e)=false):∀k,k<=piv.length->∀x∈hTo r piv n f k,qf3 BIG x
 | 0,_,x,hx=>by
  rw[hTo] at hx
  rcases List.mem_or_eq_of_mem_set hx with hx | rfl
  ·obtain rfl:=(List.mem_replicate.1 hx).2
   unfold BIG; omega
  ·exact(h.tm f hf hfree _ (Nat.le_refl _)).1
 | k+1,hk,x,hx=>by
  rw[hTo] at hx
  rcases List.mem_or_eq_of_mem_set hx with hx | rfl
  ·exact wp6 h hf hfree k (by omega) x hx
  ·exact qj9 (h.pr f hf hfree k (by omega))
abbrev x4y:qb9:=qg6 true none [tMask,tInts] [tMask] (λx=>w2g x.1 x.2.1) (λx=>(qk5 x.1 x.2.1,()))
def x01 (m:List (List Int)) (pix:List Int):Nat->Option Inv
 | 0=>some (Inv.of [5,7,25] 2 (λf:Nat=>[(5,.msl 0 .none),(7,.msl 1 .none),(25,.lit (.int .i64 f))]) (λf=>[.mat 27 3 (.int .i64) (qj2 m pix).1 .none .none,.mat 27 3 (.int .i64) (qn5 (qj2 m pix).1 (qj2 m pix).2 pix.length f) .none .none]) (λf=>f<=pix.length) (λf=>pix.length-f))
 | 1=>some (Eng.Inv.mk Nat Nat [5,7,9,33] 2 (λf k=>[(5,.msl 0 .none),(7,.msl 1 .none),(9,.lit (.int .i64 (qf2 (qj2 m pix).1 (qj2 m pix).2 f k))),(33,.lit (.int .i64 k))]) (λf k=>[.mat 27 3 (.int .i64) (qj2 m pix).1 .none .none,.mat 27 3 (.int .i64) (qn5 (qj2 m pix).1 (qj2 m pix).2 pix.length f) .none .none]) (λf k=>k<=(qj2 m pix).2.length) (λf k=>(qj2 m pix).2.length-k))
 | 2=>some (Eng.Inv.mk Nat Nat [5,7,13,78] 3 (λf k=>[(5,.msl 0 .none),(7,.msl 1 .none),(13,.own 2),(78,.lit (.int .i64 k))]) (λf k=>[.mat 27 3 (.int .i64) (qj2 m pix).1 .none .none,.mat 27 3 (.int .i64) (qn5 (qj2 m pix).1 (qj2 m pix).2 pix.length f) .none .none,.vec 3 (.int .i64) (hTo (qj2 m pix).1 (qj2 m pix).2 pix.length f k)]) (λf k=>k<=(qj2 m pix).2.length) (λf k=>(qj2 m pix).2.length-k))
 | _=>none
def x02 (mats em:List Nat) (specs:List (Nat × qb9)) (muts:List (Nat × qo6)):Ctx:={ specs:=specs,tys:=tys,wr:=[],muts:=muts,mats:=mats,em:=em }
theorem xt2 (mats em:List Nat) {specs:List (Nat × qb9)} {muts:List (Nat × qo6)} (h:SpecsOk Tryz.prog specs) (hm:MutsOk muts):Sound Tryz.prog (x02 mats em specs muts):=SpecsOk.sound h q0h (by kernel_rfl) (hmu:=hm)
theorem w5s:Meets Tryz.prog 43 x4y:=by
 refine meets (xt2 [109] [] (SpecsOk.cons (wh9 (fs:=[(66,xj9)]) (SpecsOk.cons q8f (SpecsOk.nil _))) (SpecsOk.cons wi5 (SpecsOk.cons qr5 (SpecsOk.nil _)))) (MutsOk.cons wi4 (MutsOk.cons q17 MutsOk.nil))) Tryz.func43 rfl rfl (λx=>x01 x.1 x.2.1) (λ_=>by kernel_rfl) (by decide) ?_
 rintro⟨m,pix,⟨⟩⟩ h
 revert m pix
 intro(m:List (List Int)) (pix:List Int) (h:w2g m pix)
 refine @qe7 _ (let Q0:=qj2 m pix; let Q1:=qe9 Q0.1.length none; ∃(v0:qa4 [tInt]->Prop),∃(v1:qa4 [tInt]->List Int),(∀(v2:Int × qa4._f [] PUnit.unit),v0 v2->True/\[]=v1 v2)/\ChoOk m pix v0 v1/\((0:Ty.den tInt)<=(↑pix.length:Int)/\∃(v2:Nat),q7m (qc0 m pix λ(v3:Int)=>v1 (v3,())) (↑pix.length:Int).toNat v2)/\∃(v2:Unit),∃(v3:Nat),Nat.le v3 pix.length/\((True/\True/\(0:Int)=(↑v3:Int)/\True)/\((qd2 (qc0 m pix λ(v4:Int)=>v1 (v4,())) (↑pix.length:Int).toNat).1=Q0.1/\True/\True)/\qn5 Q0.1 Q0.2 pix.length v3=[]/\True)/\∀(v4:Nat),Nat.le v4 pix.length->(decide ((↑v4:Int)<(↑pix.length:Int))=true->(qd2 (qc0 m pix λ(v7:Int)=>v1 (v7,())) (↑pix.length:Int).toNat).2.length<=(1000000:Nat)/\((List.any (qd2 (qc0 m pix λ(v8:Int)=>v1 (v8,())) (↑pix.length:Int).toNat).2 λ(v8:Int)=>(↑v4:Int)==v8)=true->fits .i64 ((↑v4:Int)+(1:Int))/\∃(v8:Nat),Nat.le v8 pix.length/\pix.length-v8<pix.length-v4/\(True/\True/\(↑v4:Int)+(1:Int)=(↑v8:Int)/\True)/\(Q0.1=Q0.1/\True/\True)/\(qn5 Q0.1 Q0.2 pix.length v4=qn5 Q0.1 Q0.2 pix.length v8/\True/\True)/\True)/\((List.any (qd2 (qc0 m pix λ(v8:Int)=>v1 (v8,())) (↑pix.length:Int).toNat).2 λ(v8:Int)=>(↑v4:Int)==v8)=false->∃(v8:Nat),∃(v9:Nat),Nat.le v9 Q0.2.length/\((True/\True/\(1:Int)=qf2 Q0.1 Q0.2 v8 v9/\(0:Int)=(↑v9:Int)/\True)/\(Q0.1=Q0.1/\True/\True)/\(qn5 Q0.1 Q0.2 pix.length v4=qn5 Q0.1 Q0.2 pix.length v8/\True/\True)/\True)/\∀(v10:Nat),Nat.le v10 Q0.2.length->(decide ((↑v10:Int)<(↑(qd2 (qc0 m pix λ(v13:Int)=>v1 (v13,())) (↑pix.length:Int).toNat).2.length:Int))=true->((0:Int)<=(↑v10:Int)/\(↑v10:Int)<(↑(qd2 (qc0 m pix λ(v13:Int)=>v1 (v13,())) (↑pix.length:Int).toNat).2.length:Int))/\((0:Int)<=(↑v10:Int)/\(↑v10:Int)<(↑Q1:Int))/\v10<qe9 Q0.1.length none/\((0:Int)<=nI (qd2 (qc0 m pix λ(v13:Int)=>v1 (v13,())) (↑pix.length:Int).toNat).2 v10/\nI (qd2 (qc0 m pix λ(v13:Int)=>v1 (v13,())) (↑pix.length:Int).toNat).2 v10<(↑(nL Q0.1 (qf7 none v10)).length:Int))/\(nI (qd2 (qc0 m pix λ(v13:Int)=>v1 (v13,())) (↑pix.length:Int).toNat).2 v10).toNat<(nL Q0.1 (qf7 none v10)).length/\((0:Int)<=(↑v10:Int)/\(↑v10:Int)<(↑Q1:Int))/\v10<qe9 Q0.1.length none/\((0:Int)<=nI (qd2 (qc0 m pix λ(v13:Int)=>v1 (v13,())) (↑pix.length:Int).toNat).2 v10/\nI (qd2 (qc0 m pix λ(v13:Int)=>v1 (v13,())) (↑pix.length:Int).toNat).2 v10<(↑(nL Q0.1 (qf7 none v10)).length:Int))/\(nI (qd2 (qc0 m pix λ(v13:Int)=>v1 (v13,())) (↑pix.length:Int).toNat).2 v10).toNat<(nL Q0.1 (qf7 none v10)).length/\((0:Int)<=(↑v10:Int)/\(↑v10:Int)<(↑Q1:Int))/\v10<qe9 Q0.1.length none/\((0:Int)<=(↑v4:Int)/\(↑v4:Int)<(↑(nL Q0.1 (qf7 none v10)).length:Int))/\v4<(nL Q0.1 (qf7 none v10)).length/\(((-4000000000000000000:Int)<=nI (nL Q0.1 (qf7 none v10)) (nI (qd2 (qc0 m pix λ(v13:Int)=>v1 (v13,())) (↑pix.length:Int).toNat).2 v10).toNat/\nI (nL Q0.1 (qf7 none v10)) (nI (qd2 (qc0 m pix λ(v13:Int)=>v1 (v13,())) (↑pix.length:Int).toNat).2 v10).toNat<=BIG)/\(-4000000000000000000:Int)<=nI (nL Q0.1 (qf7 none v10)) v4/\nI (nL Q0.1 (qf7 none v10)) v4<=BIG)/\gcdI (nI (nL Q0.1 (qf7 none v10)) (nI (qd2 (qc0 m pix λ(v13:Int)=>v1 (v13,())) (↑pix.length:Int).toNat).2 v10).toNat) (nI (nL Q0.1 (qf7 none v10)) v4)≠(0:Int)/\fits .i64 (Int.tdiv (nI (nL Q0.1 (qf7 none v10)) (nI (qd2 (qc0 m pix λ(v13:Int)=>v1 (v13,())) (↑pix.length:Int).toNat).2 v10).toNat) (gcdI (nI (nL Q0.1 (qf7 none v10)) (nI (qd2 (qc0 m pix λ(v13:Int)=>v1 (v13,())) (↑pix.length:Int).toNat).2 v10).toNat) (nI (nL Q0.1 (qf7 none v10)) v4)))/\(((-4000000000000000000:Int)<=qf2 Q0.1 Q0.2 v8 v10/\qf2 Q0.1 Q0.2 v8 v10<=BIG)/\(-4000000000000000000:Int)<=Int.tdiv (nI (nL Q0.1 (qf7 none v10)) (nI (qd2 (qc0 m pix λ(v13:Int)=>v1 (v13,())) (↑pix.length:Int).toNat).2 v10).toNat) (gcdI (nI (nL Q0.1 (qf7 none v10)) (nI (qd2 (qc0 m pix λ(v13:Int)=>v1 (v13,())) (↑pix.length:Int).toNat).2 v10).toNat) (nI (nL Q0.1 (qf7 none v10)) v4))/\Int.tdiv (nI (nL Q0.1 (qf7 none v10)) (nI (qd2 (qc0 m pix λ(v13:Int)=>v1 (v13,())) (↑pix.length:Int).toNat).2 v10).toNat) (gcdI (nI (nL Q0.1 (qf7 none v10)) (nI (qd2 (qc0 m pix λ(v13:Int)=>v1 (v13,())) (↑pix.length:Int).toNat).2 v10).toNat) (nI (nL Q0.1 (qf7 none v10)) v4))<=BIG)/\gcdI (qf2 Q0.1 Q0.2 v8 v10) (Int.tdiv (nI (nL Q0.1 (qf7 none v10)) (nI (qd2 (qc0 m pix λ(v13:Int)=>v1 (v13,())) (↑pix.length:Int).toNat).2 v10).toNat) (gcdI (nI (nL Q0.1 (qf7 none v10)) (nI (qd2 (qc0 m pix λ(v13:Int)=>v1 (v13,())) (↑pix.length:Int).toNat).2 v10).toNat) (nI (nL Q0.1 (qf7 none v10)) v4)))≠(0:Int)/\fits .i64 (Int.tdiv (Int.tdiv (nI (nL Q0.1 (qf7 none v10)) (nI (qd2 (qc0 m pix λ(v13:Int)=>v1 (v13,())) (↑pix.length:Int).toNat).2 v10).toNat) (gcdI (nI (nL Q0.1 (qf7 none v10)) (nI (qd2 (qc0 m pix λ(v13:Int)=>v1 (v13,())) (↑pix.length:Int).toNat).2 v10).toNat) (nI (nL Q0.1 (qf7 none v10)) v4))) (gcdI (qf2 Q0.1 Q0.2 v8 v10) (Int.tdiv (nI (nL Q0.1 (qf7 none v10)) (nI (qd2 (qc0 m pix λ(v13:Int)=>v1 (v13,())) (↑pix.length:Int).toNat).2 v10).toNat) (gcdI (nI (nL Q0.1 (qf7 none v10)) (nI (qd2 (qc0 m pix λ(v13:Int)=>v1 (v13,())) (↑pix.length:Int).toNat).2 v10).toNat) (nI (nL Q0.1 (qf7 none v10)) v4)))))/\fits .i64 (qf2 Q0.1 Q0.2 v8 v10*Int.tdiv (Int.tdiv (nI (nL Q0.1 (qf7 none v10)) (nI (qd2 (qc0 m pix λ(v13:Int)=>v1 (v13,())) (↑pix.length:Int).toNat).2 v10).toNat) (gcdI (nI (nL Q0.1 (qf7 none v10)) (nI (qd2 (qc0 m pix λ(v13:Int)=>v1 (v13,())) (↑pix.length:Int).toNat).2 v10).toNat) (nI (nL Q0.1 (qf7 none v10)) v4))) (gcdI (qf2 Q0.1 Q0.2 v8 v10) (Int.tdiv (nI (nL Q0.1 (qf7 none v10)) (nI (qd2 (qc0 m pix λ(v13:Int)=>v1 (v13,())) (↑pix.length:Int).toNat).2 v10).toNat) (gcdI (nI (nL Q0.1 (qf7 none v10)) (nI (qd2 (qc0 m pix λ(v13:Int)=>v1 (v13,())) (↑pix.length:Int).toNat).2 v10).toNat) (nI (nL Q0.1 (qf7 none v10)) v4)))))/\fits .i64 ((↑v10:Int)+(1:Int))/\∃(v13:Nat),Nat.le v13 Q0.2.length/\Q0.2.length-v13<Q0.2.length-v10/\(True/\True/\qf2 Q0.1 Q0.2 v8 v10*Int.tdiv (Int.tdiv (nI (nL Q0.1 (qf7 none v10)) (nI (qd2 (qc0 m pix λ(v14:Int)=>v1 (v14,())) (↑pix.length:Int).toNat).2 v10).toNat) (gcdI (nI (nL Q0.1 (qf7 none v10)) (nI (qd2 (qc0 m pix λ(v14:Int)=>v1 (v14,())) (↑pix.length:Int).toNat).2 v10).toNat) (nI (nL Q0.1 (qf7 none v10)) v4))) (gcdI (qf2 Q0.1 Q0.2 v8 v10) (Int.tdiv (nI (nL Q0.1 (qf7 none v10)) (nI (qd2 (qc0 m pix λ(v14:Int)=>v1 (v14,())) (↑pix.length:Int).toNat).2 v10).toNat) (gcdI (nI (nL Q0.1 (qf7 none v10)) (nI (qd2 (qc0 m pix λ(v14:Int)=>v1 (v14,())) (↑pix.length:Int).toNat).2 v10).toNat) (nI (nL Q0.1 (qf7 none v10)) v4))))=qf2 Q0.1 Q0.2 v8 v13/\(↑v10:Int)+(1:Int)=(↑v13:Int)/\True)/\(Q0.1=Q0.1/\True/\True)/\(qn5 Q0.1 Q0.2 pix.length v8=qn5 Q0.1 Q0.2 pix.length v8/\True/\True)/\True)/\(decide ((↑v10:Int)<(↑(qd2 (qc0 m pix λ(v13:Int)=>v1 (v13,())) (↑pix.length:Int).toNat).2.length:Int))=false->((↑pix.length:Int)=(↑pix.length:Int)/\(0:Int)<=(↑pix.length:Int)/\(↑pix.length:Int)<=(1000000:Int))/\((0:Int)<=(↑v4:Int)/\(↑v4:Int)<(↑(List.replicate (↑pix.length:Int).toNat (Ty.dflt (TI.ty T3))).length:Int))/\v4<(List.replicate (↑pix.length:Int).toNat (Ty.dflt (TI.ty T3))).length/\∃(v13:Nat),∃(v14:Nat),Nat.le v14 Q0.2.length/\((True/\True/\True/\(0:Int)=(↑v14:Int)/\True)/\(Q0.1=Q0.1/\True/\True)/\(qn5 Q0.1 Q0.2 pix.length v8=qn5 Q0.1 Q0.2 pix.length v13/\True/\True)/\List.set (List.replicate (↑pix.length:Int).toNat (Ty.dflt (TI.ty T3))) v4 (qf2 Q0.1 Q0.2 v8 v10)=hTo Q0.1 Q0.2 pix.length v13 v14/\True)/\∀(v15:Nat),Nat.le v15 Q0.2.length->(decide ((↑v15:Int)<(↑(qd2 (qc0 m pix λ(v18:Int)=>v1 (v18,())) (↑pix.length:Int).toNat).2.length:Int))=true->((0:Int)<=(↑v15:Int)/\(↑v15:Int)<(↑(qd2 (qc0 m pix λ(v18:Int)=>v1 (v18,())) (↑pix.length:Int).toNat).2.length:Int))/\((0:Int)<=(↑v15:Int)/\(↑v15:Int)<(↑Q1:Int))/\v15<qe9 Q0.1.length none/\((0:Int)<=(↑v4:Int)/\(↑v4:Int)<(↑(nL Q0.1 (qf7 none v15)).length:Int))/\v4<(nL Q0.1 (qf7 none v15)).length/\fits .i64 ((0:Int)-nI (nL Q0.1 (qf7 none v15)) v4)/\fits .i64 (((0:Int)-nI (nL Q0.1 (qf7 none v15)) v4)*qf2 Q0.1 Q0.2 v8 v10)/\((0:Int)<=(↑v15:Int)/\(↑v15:Int)<(↑Q1:Int))/\v15<qe9 Q0.1.length none/\((0:Int)<=nI (qd2 (qc0 m pix λ(v18:Int)=>v1 (v18,())) (↑pix.length:Int).toNat).2 v15/\nI (qd2 (qc0 m pix λ(v18:Int)=>v1 (v18,())) (↑pix.length:Int).toNat).2 v15<(↑(nL Q0.1 (qf7 none v15)).length:Int))/\(nI (qd2 (qc0 m pix λ(v18:Int)=>v1 (v18,())) (↑pix.length:Int).toNat).2 v15).toNat<(nL Q0.1 (qf7 none v15)).length/\nI (nL Q0.1 (qf7 none v15)) (nI (qd2 (qc0 m pix λ(v18:Int)=>v1 (v18,())) (↑pix.length:Int).toNat).2 v15).toNat≠(0:Int)/\fits .i64 (Int.tdiv (((0:Int)-nI (nL Q0.1 (qf7 none v15)) v4)*qf2 Q0.1 Q0.2 v8 v10) (nI (nL Q0.1 (qf7 none v15)) (nI (qd2 (qc0 m pix λ(v18:Int)=>v1 (v18,())) (↑pix.length:Int).toNat).2 v15).toNat))/\((0:Int)<=nI (qd2 (qc0 m pix λ(v18:Int)=>v1 (v18,())) (↑pix.length:Int).toNat).2 v15/\nI (qd2 (qc0 m pix λ(v18:Int)=>v1 (v18,())) (↑pix.length:Int).toNat).2 v15<(↑(hTo Q0.1 Q0.2 pix.length v13 v15).length:Int))/\(nI (qd2 (qc0 m pix λ(v18:Int)=>v1 (v18,())) (↑pix.length:Int).toNat).2 v15).toNat<(hTo Q0.1 Q0.2 pix.length v13 v15).length/\fits .i64 ((↑v15:Int)+(1:Int))/\∃(v18:Nat),Nat.le v18 Q0.2.length/\Q0.2.length-v18<Q0.2.length-v15/\(True/\True/\True/\(↑v15:Int)+(1:Int)=(↑v18:Int)/\True)/\(Q0.1=Q0.1/\True/\True)/\(qn5 Q0.1 Q0.2 pix.length v13=qn5 Q0.1 Q0.2 pix.length v13/\True/\True)/\List.set (hTo Q0.1 Q0.2 pix.length v13 v15) (nI (qd2 (qc0 m pix λ(v19:Int)=>v1 (v19,())) (↑pix.length:Int).toNat).2 v15).toNat (Int.tdiv (((0:Int)-nI (nL Q0.1 (qf7 none v15)) v4)*qf2 Q0.1 Q0.2 v8 v10) (nI (nL Q0.1 (qf7 none v15)) (nI (qd2 (qc0 m pix λ(v19:Int)=>v1 (v19,())) (↑pix.length:Int).toNat).2 v15).toNat))=hTo Q0.1 Q0.2 pix.length v13 v18/\True)/\(decide ((↑v15:Int)<(↑(qd2 (qc0 m pix λ(v18:Int)=>v1 (v18,())) (↑pix.length:Int).toNat).2.length:Int))=false->q3s (nL [hTo Q0.1 Q0.2 pix.length v13 v15] (0:Nat))/\((0:Nat)<(0:Nat)+(1:Nat)/\(qn5 Q0.1 Q0.2 pix.length v13).length+((0:Nat)+(1:Nat))<=(1000000:Nat))/\fits .i64 ((↑v4:Int)+(1:Int))/\∃(v18:Nat),Nat.le v18 pix.length/\pix.length-v18<pix.length-v4/\(True/\True/\(↑v4:Int)+(1:Int)=(↑v18:Int)/\True)/\(Q0.1=Q0.1/\True/\True)/\(qn5 Q0.1 Q0.2 pix.length v13++[nL [qd8 (nL [hTo Q0.1 Q0.2 pix.length v13 v15] (0:Nat))] (0:Nat)]=qn5 Q0.1 Q0.2 pix.length v18/\True/\True)/\True))))/\(decide ((↑v4:Int)<(↑pix.length:Int))=false->q3h (Ty.int .i64) (qn5 Q0.1 Q0.2 pix.length v4) none=qk5 m pix)) (by kernel_rfl) ?_
 try simp only[z0,z1,z2,z3,z4,z5,z6,z7,z8,z9,z10,Int.reduceEq,z11,z12,z13,z14,z15,z16,z17,z18,z19,z20,z21,z22,z23,z24,z25,z26,z27,z28,z29,z30,Int.reduceLE,Int.reduceLT,z31,z32,z33,z34,qa3]
 try simp only[qb6,qb7,qc7,z31,z32,z2,z1]
 have hcr:=h.cho.rows
 have hcc:=h.cho.cols
 have hrw:=h.red.w
 refine⟨λ_=>True,λ_=>[],λ_ _=>rfl,h.cho,⟨pix.length,h.red⟩,?_⟩
 have hkr:qd2 (qc0 m pix λ_=>[]) pix.length=qj2 m pix:=rfl
 have hsh:=q43 h.red pix.length
 have hpv:=q6e (q19 m pix) pix.length
 have har:=h.ar
 have hcl:(q19 m pix).length=m.length:=q18 _ _ _
 simp only[Int.toNat_natCast]
 unfold qk5
 rw[hkr]
 change RedSh _ _ (qj2 m pix) _ at hsh
 change ∀e∈(qj2 m pix).2,_ at hpv
 generalize qj2 m pix=K at *
 obtain⟨R,P⟩:=K
 dsimp only at hpv har ⊢
 have hRn:=hsh.cnt
 have hRe:=hsh.each
 have hPn:=hsh.piv
 have hPj:=hsh.pivj
 dsimp only at hRn hRe hPn hPj
 have hPk:∀k,k<P.length->0<=nI P k/\nI P k<pix.length:=λk hk=>hpv _ (by rw[qg4 P k hk]; exact List.getElem_mem hk)
 simp only[q8g,wi1,wi2]
 refine⟨(),0,Nat.zero_le _,⟨by first | rfl | trivial,by first | rfl | trivial,by first | rfl | trivial⟩,λf hf=>⟨λhlt=>⟨by omega,λhin=>?_,λhfree=>?_⟩,λhge=>?_⟩⟩
 ·refine⟨qa7 (by omega) (by omega),f+1,by omega,by omega,by omega,?_⟩
  rw[qn5,if_pos hin]
 ·refine⟨f,0,Nat.zero_le _,⟨⟨rfl,rfl⟩,rfl⟩,λk hk=>⟨λhlk=>?_,λhgk=>?_⟩⟩
  ·have hp:=hPk k hlk
   have hr:=hRe k (by omega)
   have hp':0<=nI P k/\nI P k<((nL R k).length:Int):=⟨hp.1,by omega⟩
   have hb1:=har.big k hlk (nI P k).toNat (by omega)
   have hb2:=har.big k hlk f hlt
   have hz:=har.nz k hlk
   have ht:=har.tm f hlt hfree k hk
   have ht2:=(har.tm f hlt hfree (k+1) hlk).1
   have e2:qf2 R P f (k+1)=qf2 R P f k*(q4m R P f k).tdiv (gcdI (qf2 R P f k) (q4m R P f k)):=rfl
   have hq:qf3 BIG (q4m R P f k):=qj9 hb1
   have e1:(nI (nL R k) (nI P k).toNat).tdiv (gcdI (nI (nL R k) (nI P k).toNat) (nI (nL R k) f))=q4m R P f k:=rfl
   rw[e1,<- e2]
   have hq2:qf3 BIG ((q4m R P f k).tdiv (gcdI (qf2 R P f k) (q4m R P f k))):=qj9 hq
   have g1:=qp6 (a:=nI (nL R k) (nI P k).toNat) (b:=nI (nL R k) f) (Or.inl hz)
   have g2:=qp6 (a:=qf2 R P f k) (b:=q4m R P f k) (Or.inl ht.2)
   have hB:BIG=4000000000000000000:=rfl
   unfold qf3 at *
   refine⟨hlk,by omega,by omega,hp',by omega,by omega,by omega,hp',by omega,by omega,by omega,by omega,by omega,⟨hb1,hb2⟩,by omega,qa7 (by omega) (by omega),⟨ht.1,hq⟩,by omega,qa7 (by omega) (by omega),qa7 (by omega) (by omega),qa7 (by omega) (by omega),k+1,by omega,by omega,rfl,by omega⟩
  ·obtain rfl:k=P.length:=by omega
   have hl0:(List.replicate pix.length T3.ty.dflt).length=pix.length:=List.length_replicate
   refine⟨by omega,by omega,by omega,f,0,Nat.zero_le _,⟨rfl,rfl,rfl⟩,λk hk=>⟨λhlk=>?_,λhgk=>?_⟩⟩
   ·have hp:=hPk k hlk
    have hr:=hRe k (by omega)
    have hp':0<=nI P k/\nI P k<((nL R k).length:Int):=⟨hp.1,by omega⟩
    have hb2:=har.big k hlk f hlt
    have hz:=har.nz k hlk
    have hpr:=har.pr f hlt hfree k hlk
    have hq:qf3 BIG (((0-nI (nL R k) f)*qf2 R P f P.length).tdiv (nI (nL R k) (nI P k).toNat)):=qj9 hpr
    have hl:=q6f R P pix.length f k
    have hp'':0<=nI P k/\nI P k<((hTo R P pix.length f k).length:Int):=⟨hp.1,by omega⟩
    have hB:BIG=4000000000000000000:=rfl
    unfold qf3 at *
    refine⟨hlk,by omega,by omega,by omega,by omega,qa7 (by omega) (by omega),qa7 (by omega) (by omega),by omega,by omega,hp',by omega,hz,qa7 (by omega) (by omega),hp'',by omega,qa7 (by omega) (by omega),k+1,by omega,by omega,by omega,rfl⟩
   ·obtain rfl:k=P.length:=by omega
    have hl:=q6f R P pix.length f P.length
    have hkl:=wi6 R P pix.length f
    refine⟨⟨by omega,wp6 har hlt hfree _ (Nat.le_refl _)⟩,by omega,qa7 (by omega) (by omega),f+1,by omega,by omega,by omega,?_⟩
    rw[qn5,if_neg (by rw[hfree]; decide)]
 ·obtain rfl:f=pix.length:=by omega
  rfl
structure Named (n:Nat) (pix:List Int):Prop where
 at_:∀j,j<pix.length->0<=nI pix j/\nI pix j<n
 asc:∀i j,i<j->j<pix.length->nI pix i<nI pix j
theorem Named.of {n:Nat} {pix:List Int} (h:x0s n pix=0):Named n pix:=by
 unfold x0s at h
 split at h
 ·cases h
 ·rename_i ha
  split at h
  ·cases h
  ·rename_i hb
   have ha:=wy0.1 (by cases e:xs5 pix with | true=>rfl | false=>exact absurd e ha)
   refine⟨λj hj=>?_,λi j hij hj=>?_⟩
   ·rw[Bool.not_eq_true,List.any_eq_false] at hb
    have:=hb (nI pix j) (by rw[qg4 pix j hj]; exact List.getElem_mem hj)
    have:=inB_iff.1 (by simpa using this)
    exact⟨this.1,by have:=this.2; omega⟩
   ·induction j with
    | zero=>omega
    | succ j ih=>
     have h1:=ha (j+1) (by omega) hj
     simp only[Nat.add_sub_cancel] at h1
     rcases Nat.lt_or_ge i j with h | h
     ·exact Int.lt_trans (ih h (by omega)) h1
     ·rw[show i=j by omega]; exact h1
theorem Named.gap {n:Nat} {pix:List Int} (h:Named n pix):∀j,j<pix.length->(j:Int)<=nI pix j
 | 0,hj=>by have:=(h.at_ 0 hj).1; omega
 | j+1,hj=>by have:=h.gap j (by omega); have:=h.asc j (j+1) (by omega) hj; omega
theorem Named.len {n:Nat} {pix:List Int} (h:Named n pix):pix.length<=n:=by
 rcases Nat.eq_zero_or_pos pix.length with e | e
 ·omega
 ·have h1:=h.gap (pix.length-1) (by omega)
  have h2:=(h.at_ (pix.length-1) (by omega)).2
  omega
theorem Named.idx (n:Nat):Named n (qo5 n):=by
 refine⟨λj hj=>?_,λi j hij hj=>?_⟩
 ·rw[qe8] at hj; rw[q0j _ _ hj]; omega
 ·rw[qe8] at hj; rw[q0j _ _ hj,q0j _ _ (by omega)]; omega
structure Asked (m:List (List Int)) (y pix:List Int):Prop where
 msk:Mk m
 val:validB m=true
 len:y.length=m.length
 out:x0t y=false
 nam:Named (nL m 0).length pix
theorem Asked.of {m:List (List Int)} {y pix:List Int} (h:x2u m y pix=0):Asked m y pix:=by
 unfold x2u at h
 split at h
 ·cases h
 ·rename_i hv
  have hv:validB m=true:=by cases e:validB m with | true=>rfl | false=>exact absurd e hv
  split at h
  ·cases h
  ·rename_i hl
   split at h
   ·cases h
   ·rename_i ho
    unfold xd5 at h
    rw[if_neg (by rw[hv]; decide)] at h
    exact⟨Mk.of hv,hv,Decidable.not_not.1 hl,by simpa using ho,Named.of h⟩
theorem Asked.at_ {m:List (List Int)} {y pix:List Int} (h:Asked m y pix) (i:Nat) (hi:i<m.length):qf3 1000000 (nI y i):=by
 have h1:=h.out
 unfold x0t at h1
 rw[List.any_eq_false] at h1
 have:=h1 (nI y i) (by rw[qg4 y i (by rw[h.len]; exact hi)]; exact List.getElem_mem _)
 have:=inB_iff.1 (by simpa using this)
 exact⟨by have:=this.1; omega,this.2⟩
theorem ChoOk.of {m:List (List Int)} {pix:List Int} (hM:Mk m) (hn:Named (nL m 0).length pix) {p:qa4 [.int .i64]->Prop} {f:qa4 [.int .i64]->List Int} (hf:∀i:Nat,i<m.length->p ((i:Int),())/\(f ((i:Int),())).length<=10000):ChoOk m pix p f:=by
 have h1:=hM.rows6
 have h2:=hn.len
 have h3:=hM.pix10
 refine⟨by omega,by omega,λi hi j hj=>?_,hf⟩
 have:=hn.at_ j hj
 rw[hM.each i hi]
 exact this
structure wy5 (m:List (List Int)):Prop where
 red:q7m (q19 m (qo5 (nL m 0).length)) (nL m 0).length (nL m 0).length
def qv9 (m:List (List Int)):Int × Int:=if validB m=false then(0,1) else((qj2 m (qo5 (nL m 0).length)).2.length,0)
abbrev x03:qb9:=qg6 true none [tMask] [tInt,tInt] (λx=>validB x.1=true->wy5 x.1) (λx=>((qv9 x.1).1,(qv9 x.1).2,()))
theorem w2h:Meets Tryz.prog 41 x03:=by
 refine meets (xt2 [] [] (SpecsOk.cons q40 (SpecsOk.cons q58 (SpecsOk.cons (wh9 (fs:=[(66,xj9)]) (SpecsOk.cons q8f (SpecsOk.nil _))) (SpecsOk.nil _)))) (MutsOk.cons wi4 MutsOk.nil)) Tryz.func41 rfl rfl (λ_ _=>none) (λ_=>by kernel_rfl) (by decide) ?_
 rintro⟨m,⟨⟩⟩ h
 revert m
 intro(m:List (List Int)) (h:validB m=true->wy5 m)
 refine @qe7 _ (True/\((!validB m)=true->(0:Int)=(qv9 m).1/\(1:Int)=(qv9 m).2/\True)/\((!validB m)=false->((0:Int)<=(0:Int)/\(0:Int)<(↑m.length:Int))/\(↑(nL m (0:Nat)).length:Int)<=(100000:Ty.den tInt)/\∃(v1:qa4 [tInt]->Prop),∃(v2:qa4 [tInt]->List Int),(∀(v3:Int × qa4._f [] PUnit.unit),v1 v3->True/\[]=v2 v3)/\ChoOk m (qo5 (↑(nL m (0:Nat)).length:Int).toNat) v1 v2/\((0:Int)<=(0:Int)/\(0:Int)<(↑m.length:Int))/\((0:Ty.den tInt)<=(↑(nL m (0:Nat)).length:Int)/\∃(v3:Nat),q7m (qc0 m (qo5 (↑(nL m (0:Nat)).length:Int).toNat) λ(v4:Int)=>v2 (v4,())) (↑(nL m (0:Nat)).length:Int).toNat v3)/\(↑(qd2 (qc0 m (qo5 (↑(nL m (0:Nat)).length:Int).toNat) λ(v3:Int)=>v2 (v3,())) (↑(nL m (0:Nat)).length:Int).toNat).2.length:Int)=(qv9 m).1/\(0:Int)=(qv9 m).2/\True)) (by kernel_rfl) ?_
 try simp only[z0,z1,z2,z3,z4,z5,z6,z7,z8,z9,z10,Int.reduceEq,z11,z12,z13,z14,z15,z16,z17,z18,z19,z20,z21,z22,z23,z24,z25,z26,z27,z28,z29,z30,Int.reduceLE,Int.reduceLT,z31,z32,z33,z34,qa3]
 try simp only[qb6,qb7,qc7,z31,z32,z2,z1]
 refine⟨λhv=>by simp[qv9,hv],λhv=>?_⟩
 have hM:=Mk.of hv
 have h1:=hM.rows1
 have h2:=hM.pix10
 have hr:=(h hv).red
 have e:qv9 m=(((qj2 m (qo5 (nL m 0).length)).2.length:Int),0):=by simp[qv9,hv]
 rw[e]
 refine⟨by omega,by omega,λ_=>True,λ_=>[],λ_ _=>rfl,ChoOk.of hM (Named.idx _) λ_ _=>⟨trivial,Nat.zero_le _⟩,by omega,⟨_,hr⟩,?_,rfl⟩
 unfold qj2
 rw[qe8]
 rfl
end Go.Proofs.YtempacilejhbgaaGreatDoor
