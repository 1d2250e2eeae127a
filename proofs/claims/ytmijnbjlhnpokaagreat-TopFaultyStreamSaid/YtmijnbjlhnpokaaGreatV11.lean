/- Kernel vectors: contract by the engine. No condition. -/
import Derived.Test.YtmijnbjlhnpokaaGreatV10
set_option linter.unusedVariables false
set_option linter.unusedSimpArgs false
namespace Go.Proofs.YtmijnbjlhnpokaaGreat
open Go Go.RowKit Eng
def q5i (r:List (List Int)) (piv:List Int) (f k:Nat):Int:=(nI (nL r k) (nI piv k).toNat).tdiv (gcdI (nI (nL r k) (nI piv k).toNat) (nI (nL r k) f))
def qf4 (r:List (List Int)) (piv:List Int) (f:Nat):Nat->Int
 | 0=>1
 | k+1=>qf4 r piv f k*(q5i r piv f k).tdiv (gcdI (qf4 r piv f k) (q5i r piv f k))
def hTo (r:List (List Int)) (piv:List Int) (n f:Nat):Nat->List Int
 | 0=>(List.replicate n 0).set f (qf4 r piv f piv.length)
 | k+1=>(hTo r piv n f k).set (nI piv k).toNat (((0-nI (nL r k) f)*qf4 r piv f piv.length).tdiv (nI (nL r k) (nI piv k).toNat))
def qn9 (r:List (List Int)) (piv:List Int) (n:Nat):Nat->List (List Int)
 | 0=>[]
 | f+1=>if piv.any λe=>(f:Int)==e then qn9 r piv n f else qn9 r piv n f++[qe3 (hTo r piv n f piv.length)]
def q2p (m:List (List Int)) (pix:List Int):List (List Int):=qb3 m pix λ_=>[]
def qj2 (m:List (List Int)) (pix:List Int):List (List Int) × List Int:=qc7 (q2p m pix) pix.length
def qk7 (m:List (List Int)) (pix:List Int):List (List Int):=qn9 (qj2 m pix).1 (qj2 m pix).2 pix.length pix.length
structure xj5 (r:List (List Int)) (piv:List Int) (n:Nat):Prop where
 nz:∀k,k<piv.length->nI (nL r k) (nI piv k).toNat≠0
 big:∀k,k<piv.length->∀i,i<n->qf0 BIG (nI (nL r k) i)
 tm:∀f,f<n->(piv.any λe=>(f:Int)==e)=false->∀k,k<=piv.length->qf0 BIG (qf4 r piv f k)/\qf4 r piv f k≠0
 pr:∀f,f<n->(piv.any λe=>(f:Int)==e)=false->∀k,k<piv.length->qf0 BIG ((0-nI (nL r k) f)*qf4 r piv f piv.length)
structure w4l (m:List (List Int)) (pix:List Int):Prop where
 cho:ChoOk m pix (λ_=>True) (λ_=>[])
 red:q4h (q2p m pix) pix.length pix.length
 ar:xj5 (qj2 m pix).1 (qj2 m pix).2 pix.length
theorem q3p (R:List (List Int)):∀j,∀e∈(qc7 R j).2,0<=e/\e<(j:Int)
 | 0=>λe h=>by cases h
 | j+1=>λe h=>by
  rw[qc7,qv3] at h
  split at h
  ·have:=q3p R j e h; omega
  ·rcases List.mem_append.1 h with h | h
   ·have:=q3p R j e h; omega
   ·have:e=(j:Int):=by simpa using h
    omega
theorem q7b (r:List (List Int)) (piv:List Int) (n f:Nat):∀k,(hTo r piv n f k).length=n
 | 0=>by simp[hTo]
 | k+1=>by rw[hTo,List.length_set]; exact q7b r piv n f k
theorem wm9 (r:List (List Int)) (piv:List Int) (n:Nat):∀f,(qn9 r piv n f).length<=f
 | 0=>Nat.le_refl _
 | f+1=>by
  have:=wm9 r piv n f
  rw[qn9]
  split
  ·omega
  ·simp; omega
theorem ww6 {r:List (List Int)} {piv:List Int} {n f:Nat} (h:xj5 r piv n) (hf:f<n) (hfree:(piv.any λe=>(f:Int)==e)=false):∀k,k<=piv.length->∀x∈hTo r piv n f k,qf0 BIG x
 | 0,_,x,hx=>by
  rw[hTo] at hx
  rcases List.mem_or_eq_of_mem_set hx with hx | rfl
  ·obtain rfl:=(List.mem_replicate.1 hx).2
   unfold BIG; omega
  ·exact(h.tm f hf hfree _ (Nat.le_refl _)).1
 | k+1,hk,x,hx=>by
  rw[hTo] at hx
  rcases List.mem_or_eq_of_mem_set hx with hx | rfl
  ·exact ww6 h hf hfree k (by omega) x hx
  ·exact qr2 (h.pr f hf hfree k (by omega))
abbrev yk1:qb4:=qf2 true none [qf3,qe8] [qf3] (λx=>w4l x.1 x.2.1) (λx=>(qk7 x.1 x.2.1,()))
def x8c (m:List (List Int)) (pix:List Int):Nat->Option Inv
 | 0=>some (Inv.of [5,7,25] 2 (λf:Nat=>[(5,.msl 0 .none),(7,.msl 1 .none),(25,.lit (.int .i64 f))]) (λf=>[.mat 34 3 (.int .i64) (qj2 m pix).1 .none .none,.mat 34 3 (.int .i64) (qn9 (qj2 m pix).1 (qj2 m pix).2 pix.length f) .none .none]) (λf=>f<=pix.length) (λf=>pix.length-f))
 | 1=>some (Eng.Inv.mk Nat Nat [5,7,9,33] 2 (λf k=>[(5,.msl 0 .none),(7,.msl 1 .none),(9,.lit (.int .i64 (qf4 (qj2 m pix).1 (qj2 m pix).2 f k))),(33,.lit (.int .i64 k))]) (λf k=>[.mat 34 3 (.int .i64) (qj2 m pix).1 .none .none,.mat 34 3 (.int .i64) (qn9 (qj2 m pix).1 (qj2 m pix).2 pix.length f) .none .none]) (λf k=>k<=(qj2 m pix).2.length) (λf k=>(qj2 m pix).2.length-k))
 | 2=>some (Eng.Inv.mk Nat Nat [5,7,13,78] 3 (λf k=>[(5,.msl 0 .none),(7,.msl 1 .none),(13,.own 2),(78,.lit (.int .i64 k))]) (λf k=>[.mat 34 3 (.int .i64) (qj2 m pix).1 .none .none,.mat 34 3 (.int .i64) (qn9 (qj2 m pix).1 (qj2 m pix).2 pix.length f) .none .none,.vec 3 (.int .i64) (hTo (qj2 m pix).1 (qj2 m pix).2 pix.length f k)]) (λf k=>k<=(qj2 m pix).2.length) (λf k=>(qj2 m pix).2.length-k))
 | _=>none
def x8d (mats em:List Nat) (specs:List (Nat × qb4)) (muts:List (Nat × ql6)):Ctx:={ specs:=specs,tys:=tys,wr:=[],muts:=muts,mats:=mats,em:=em }
theorem xz6 (mats em:List Nat) {specs:List (Nat × qb4)} {muts:List (Nat × ql6)} (h:SpecsOk Tryz.prog specs) (hm:MutsOk muts):Sound Tryz.prog (x8d mats em specs muts):=SpecsOk.sound h q0x (by kernel_rfl) (hmu:=hm)
theorem w8m:Meets Tryz.prog 118 yk1:=by
 refine meets (xz6 [109] [] (SpecsOk.cons (q64 (fs:=[(73,xz1)]) (SpecsOk.cons q9k (SpecsOk.nil _))) (SpecsOk.cons wm8 (SpecsOk.cons qs0 (SpecsOk.nil _)))) (MutsOk.cons q68 (MutsOk.cons q2n MutsOk.nil))) Tryz.func118 rfl rfl (λx=>x8c x.1 x.2.1) (λ_=>by kernel_rfl) (by decide) ?_
 rintro⟨m,pix,⟨⟩⟩ h
 revert m pix
 intro(m:List (List Int)) (pix:List Int) (h:w4l m pix)
 refine @qd1 _ (let Q0:=qj2 m pix; let Q1:=qe2 Q0.1.length none; ∃(v0:qa4 [qd0]->Prop),∃(v1:qa4 [qd0]->List Int),(∀(v2:Int × qa4._f [] PUnit.unit),v0 v2->True/\[]=v1 v2)/\ChoOk m pix v0 v1/\((0:Ty.den qd0)<=(↑pix.length:Int)/\∃(v2:Nat),q4h (qb3 m pix λ(v3:Int)=>v1 (v3,())) (↑pix.length:Int).toNat v2)/\∃(v2:Unit),∃(v3:Nat),Nat.le v3 pix.length/\((True/\True/\(0:Int)=(↑v3:Int)/\True)/\((qc7 (qb3 m pix λ(v4:Int)=>v1 (v4,())) (↑pix.length:Int).toNat).1=Q0.1/\True/\True)/\qn9 Q0.1 Q0.2 pix.length v3=[]/\True)/\∀(v4:Nat),Nat.le v4 pix.length->(decide ((↑v4:Int)<(↑pix.length:Int))=true->(qc7 (qb3 m pix λ(v7:Int)=>v1 (v7,())) (↑pix.length:Int).toNat).2.length<=(1000000:Nat)/\((List.any (qc7 (qb3 m pix λ(v8:Int)=>v1 (v8,())) (↑pix.length:Int).toNat).2 λ(v8:Int)=>(↑v4:Int)==v8)=true->fits .i64 ((↑v4:Int)+(1:Int))/\∃(v8:Nat),Nat.le v8 pix.length/\pix.length-v8<pix.length-v4/\(True/\True/\(↑v4:Int)+(1:Int)=(↑v8:Int)/\True)/\(Q0.1=Q0.1/\True/\True)/\(qn9 Q0.1 Q0.2 pix.length v4=qn9 Q0.1 Q0.2 pix.length v8/\True/\True)/\True)/\((List.any (qc7 (qb3 m pix λ(v8:Int)=>v1 (v8,())) (↑pix.length:Int).toNat).2 λ(v8:Int)=>(↑v4:Int)==v8)=false->∃(v8:Nat),∃(v9:Nat),Nat.le v9 Q0.2.length/\((True/\True/\(1:Int)=qf4 Q0.1 Q0.2 v8 v9/\(0:Int)=(↑v9:Int)/\True)/\(Q0.1=Q0.1/\True/\True)/\(qn9 Q0.1 Q0.2 pix.length v4=qn9 Q0.1 Q0.2 pix.length v8/\True/\True)/\True)/\∀(v10:Nat),Nat.le v10 Q0.2.length->(decide ((↑v10:Int)<(↑(qc7 (qb3 m pix λ(v13:Int)=>v1 (v13,())) (↑pix.length:Int).toNat).2.length:Int))=true->((0:Int)<=(↑v10:Int)/\(↑v10:Int)<(↑(qc7 (qb3 m pix λ(v13:Int)=>v1 (v13,())) (↑pix.length:Int).toNat).2.length:Int))/\((0:Int)<=(↑v10:Int)/\(↑v10:Int)<(↑Q1:Int))/\v10<qe2 Q0.1.length none/\((0:Int)<=nI (qc7 (qb3 m pix λ(v13:Int)=>v1 (v13,())) (↑pix.length:Int).toNat).2 v10/\nI (qc7 (qb3 m pix λ(v13:Int)=>v1 (v13,())) (↑pix.length:Int).toNat).2 v10<(↑(nL Q0.1 (qe7 none v10)).length:Int))/\(nI (qc7 (qb3 m pix λ(v13:Int)=>v1 (v13,())) (↑pix.length:Int).toNat).2 v10).toNat<(nL Q0.1 (qe7 none v10)).length/\((0:Int)<=(↑v10:Int)/\(↑v10:Int)<(↑Q1:Int))/\v10<qe2 Q0.1.length none/\((0:Int)<=nI (qc7 (qb3 m pix λ(v13:Int)=>v1 (v13,())) (↑pix.length:Int).toNat).2 v10/\nI (qc7 (qb3 m pix λ(v13:Int)=>v1 (v13,())) (↑pix.length:Int).toNat).2 v10<(↑(nL Q0.1 (qe7 none v10)).length:Int))/\(nI (qc7 (qb3 m pix λ(v13:Int)=>v1 (v13,())) (↑pix.length:Int).toNat).2 v10).toNat<(nL Q0.1 (qe7 none v10)).length/\((0:Int)<=(↑v10:Int)/\(↑v10:Int)<(↑Q1:Int))/\v10<qe2 Q0.1.length none/\((0:Int)<=(↑v4:Int)/\(↑v4:Int)<(↑(nL Q0.1 (qe7 none v10)).length:Int))/\v4<(nL Q0.1 (qe7 none v10)).length/\(((-4000000000000000000:Int)<=nI (nL Q0.1 (qe7 none v10)) (nI (qc7 (qb3 m pix λ(v13:Int)=>v1 (v13,())) (↑pix.length:Int).toNat).2 v10).toNat/\nI (nL Q0.1 (qe7 none v10)) (nI (qc7 (qb3 m pix λ(v13:Int)=>v1 (v13,())) (↑pix.length:Int).toNat).2 v10).toNat<=BIG)/\(-4000000000000000000:Int)<=nI (nL Q0.1 (qe7 none v10)) v4/\nI (nL Q0.1 (qe7 none v10)) v4<=BIG)/\gcdI (nI (nL Q0.1 (qe7 none v10)) (nI (qc7 (qb3 m pix λ(v13:Int)=>v1 (v13,())) (↑pix.length:Int).toNat).2 v10).toNat) (nI (nL Q0.1 (qe7 none v10)) v4)≠(0:Int)/\fits .i64 (Int.tdiv (nI (nL Q0.1 (qe7 none v10)) (nI (qc7 (qb3 m pix λ(v13:Int)=>v1 (v13,())) (↑pix.length:Int).toNat).2 v10).toNat) (gcdI (nI (nL Q0.1 (qe7 none v10)) (nI (qc7 (qb3 m pix λ(v13:Int)=>v1 (v13,())) (↑pix.length:Int).toNat).2 v10).toNat) (nI (nL Q0.1 (qe7 none v10)) v4)))/\(((-4000000000000000000:Int)<=qf4 Q0.1 Q0.2 v8 v10/\qf4 Q0.1 Q0.2 v8 v10<=BIG)/\(-4000000000000000000:Int)<=Int.tdiv (nI (nL Q0.1 (qe7 none v10)) (nI (qc7 (qb3 m pix λ(v13:Int)=>v1 (v13,())) (↑pix.length:Int).toNat).2 v10).toNat) (gcdI (nI (nL Q0.1 (qe7 none v10)) (nI (qc7 (qb3 m pix λ(v13:Int)=>v1 (v13,())) (↑pix.length:Int).toNat).2 v10).toNat) (nI (nL Q0.1 (qe7 none v10)) v4))/\Int.tdiv (nI (nL Q0.1 (qe7 none v10)) (nI (qc7 (qb3 m pix λ(v13:Int)=>v1 (v13,())) (↑pix.length:Int).toNat).2 v10).toNat) (gcdI (nI (nL Q0.1 (qe7 none v10)) (nI (qc7 (qb3 m pix λ(v13:Int)=>v1 (v13,())) (↑pix.length:Int).toNat).2 v10).toNat) (nI (nL Q0.1 (qe7 none v10)) v4))<=BIG)/\gcdI (qf4 Q0.1 Q0.2 v8 v10) (Int.tdiv (nI (nL Q0.1 (qe7 none v10)) (nI (qc7 (qb3 m pix λ(v13:Int)=>v1 (v13,())) (↑pix.length:Int).toNat).2 v10).toNat) (gcdI (nI (nL Q0.1 (qe7 none v10)) (nI (qc7 (qb3 m pix λ(v13:Int)=>v1 (v13,())) (↑pix.length:Int).toNat).2 v10).toNat) (nI (nL Q0.1 (qe7 none v10)) v4)))≠(0:Int)/\fits .i64 (Int.tdiv (Int.tdiv (nI (nL Q0.1 (qe7 none v10)) (nI (qc7 (qb3 m pix λ(v13:Int)=>v1 (v13,())) (↑pix.length:Int).toNat).2 v10).toNat) (gcdI (nI (nL Q0.1 (qe7 none v10)) (nI (qc7 (qb3 m pix λ(v13:Int)=>v1 (v13,())) (↑pix.length:Int).toNat).2 v10).toNat) (nI (nL Q0.1 (qe7 none v10)) v4))) (gcdI (qf4 Q0.1 Q0.2 v8 v10) (Int.tdiv (nI (nL Q0.1 (qe7 none v10)) (nI (qc7 (qb3 m pix λ(v13:Int)=>v1 (v13,())) (↑pix.length:Int).toNat).2 v10).toNat) (gcdI (nI (nL Q0.1 (qe7 none v10)) (nI (qc7 (qb3 m pix λ(v13:Int)=>v1 (v13,())) (↑pix.length:Int).toNat).2 v10).toNat) (nI (nL Q0.1 (qe7 none v10)) v4)))))/\fits .i64 (qf4 Q0.1 Q0.2 v8 v10*Int.tdiv (Int.tdiv (nI (nL Q0.1 (qe7 none v10)) (nI (qc7 (qb3 m pix λ(v13:Int)=>v1 (v13,())) (↑pix.length:Int).toNat).2 v10).toNat) (gcdI (nI (nL Q0.1 (qe7 none v10)) (nI (qc7 (qb3 m pix λ(v13:Int)=>v1 (v13,())) (↑pix.length:Int).toNat).2 v10).toNat) (nI (nL Q0.1 (qe7 none v10)) v4))) (gcdI (qf4 Q0.1 Q0.2 v8 v10) (Int.tdiv (nI (nL Q0.1 (qe7 none v10)) (nI (qc7 (qb3 m pix λ(v13:Int)=>v1 (v13,())) (↑pix.length:Int).toNat).2 v10).toNat) (gcdI (nI (nL Q0.1 (qe7 none v10)) (nI (qc7 (qb3 m pix λ(v13:Int)=>v1 (v13,())) (↑pix.length:Int).toNat).2 v10).toNat) (nI (nL Q0.1 (qe7 none v10)) v4)))))/\fits .i64 ((↑v10:Int)+(1:Int))/\∃(v13:Nat),Nat.le v13 Q0.2.length/\Q0.2.length-v13<Q0.2.length-v10/\(True/\True/\qf4 Q0.1 Q0.2 v8 v10*Int.tdiv (Int.tdiv (nI (nL Q0.1 (qe7 none v10)) (nI (qc7 (qb3 m pix λ(v14:Int)=>v1 (v14,())) (↑pix.length:Int).toNat).2 v10).toNat) (gcdI (nI (nL Q0.1 (qe7 none v10)) (nI (qc7 (qb3 m pix λ(v14:Int)=>v1 (v14,())) (↑pix.length:Int).toNat).2 v10).toNat) (nI (nL Q0.1 (qe7 none v10)) v4))) (gcdI (qf4 Q0.1 Q0.2 v8 v10) (Int.tdiv (nI (nL Q0.1 (qe7 none v10)) (nI (qc7 (qb3 m pix λ(v14:Int)=>v1 (v14,())) (↑pix.length:Int).toNat).2 v10).toNat) (gcdI (nI (nL Q0.1 (qe7 none v10)) (nI (qc7 (qb3 m pix λ(v14:Int)=>v1 (v14,())) (↑pix.length:Int).toNat).2 v10).toNat) (nI (nL Q0.1 (qe7 none v10)) v4))))=qf4 Q0.1 Q0.2 v8 v13/\(↑v10:Int)+(1:Int)=(↑v13:Int)/\True)/\(Q0.1=Q0.1/\True/\True)/\(qn9 Q0.1 Q0.2 pix.length v8=qn9 Q0.1 Q0.2 pix.length v8/\True/\True)/\True)/\(decide ((↑v10:Int)<(↑(qc7 (qb3 m pix λ(v13:Int)=>v1 (v13,())) (↑pix.length:Int).toNat).2.length:Int))=false->((↑pix.length:Int)=(↑pix.length:Int)/\(0:Int)<=(↑pix.length:Int)/\(↑pix.length:Int)<=(1000000:Int))/\((0:Int)<=(↑v4:Int)/\(↑v4:Int)<(↑(List.replicate (↑pix.length:Int).toNat (Ty.dflt (TI.ty T3))).length:Int))/\v4<(List.replicate (↑pix.length:Int).toNat (Ty.dflt (TI.ty T3))).length/\∃(v13:Nat),∃(v14:Nat),Nat.le v14 Q0.2.length/\((True/\True/\True/\(0:Int)=(↑v14:Int)/\True)/\(Q0.1=Q0.1/\True/\True)/\(qn9 Q0.1 Q0.2 pix.length v8=qn9 Q0.1 Q0.2 pix.length v13/\True/\True)/\List.set (List.replicate (↑pix.length:Int).toNat (Ty.dflt (TI.ty T3))) v4 (qf4 Q0.1 Q0.2 v8 v10)=hTo Q0.1 Q0.2 pix.length v13 v14/\True)/\∀(v15:Nat),Nat.le v15 Q0.2.length->(decide ((↑v15:Int)<(↑(qc7 (qb3 m pix λ(v18:Int)=>v1 (v18,())) (↑pix.length:Int).toNat).2.length:Int))=true->((0:Int)<=(↑v15:Int)/\(↑v15:Int)<(↑(qc7 (qb3 m pix λ(v18:Int)=>v1 (v18,())) (↑pix.length:Int).toNat).2.length:Int))/\((0:Int)<=(↑v15:Int)/\(↑v15:Int)<(↑Q1:Int))/\v15<qe2 Q0.1.length none/\((0:Int)<=(↑v4:Int)/\(↑v4:Int)<(↑(nL Q0.1 (qe7 none v15)).length:Int))/\v4<(nL Q0.1 (qe7 none v15)).length/\fits .i64 ((0:Int)-nI (nL Q0.1 (qe7 none v15)) v4)/\fits .i64 (((0:Int)-nI (nL Q0.1 (qe7 none v15)) v4)*qf4 Q0.1 Q0.2 v8 v10)/\((0:Int)<=(↑v15:Int)/\(↑v15:Int)<(↑Q1:Int))/\v15<qe2 Q0.1.length none/\((0:Int)<=nI (qc7 (qb3 m pix λ(v18:Int)=>v1 (v18,())) (↑pix.length:Int).toNat).2 v15/\nI (qc7 (qb3 m pix λ(v18:Int)=>v1 (v18,())) (↑pix.length:Int).toNat).2 v15<(↑(nL Q0.1 (qe7 none v15)).length:Int))/\(nI (qc7 (qb3 m pix λ(v18:Int)=>v1 (v18,())) (↑pix.length:Int).toNat).2 v15).toNat<(nL Q0.1 (qe7 none v15)).length/\nI (nL Q0.1 (qe7 none v15)) (nI (qc7 (qb3 m pix λ(v18:Int)=>v1 (v18,())) (↑pix.length:Int).toNat).2 v15).toNat≠(0:Int)/\fits .i64 (Int.tdiv (((0:Int)-nI (nL Q0.1 (qe7 none v15)) v4)*qf4 Q0.1 Q0.2 v8 v10) (nI (nL Q0.1 (qe7 none v15)) (nI (qc7 (qb3 m pix λ(v18:Int)=>v1 (v18,())) (↑pix.length:Int).toNat).2 v15).toNat))/\((0:Int)<=nI (qc7 (qb3 m pix λ(v18:Int)=>v1 (v18,())) (↑pix.length:Int).toNat).2 v15/\nI (qc7 (qb3 m pix λ(v18:Int)=>v1 (v18,())) (↑pix.length:Int).toNat).2 v15<(↑(hTo Q0.1 Q0.2 pix.length v13 v15).length:Int))/\(nI (qc7 (qb3 m pix λ(v18:Int)=>v1 (v18,())) (↑pix.length:Int).toNat).2 v15).toNat<(hTo Q0.1 Q0.2 pix.length v13 v15).length/\fits .i64 ((↑v15:Int)+(1:Int))/\∃(v18:Nat),Nat.le v18 Q0.2.length/\Q0.2.length-v18<Q0.2.length-v15/\(True/\True/\True/\(↑v15:Int)+(1:Int)=(↑v18:Int)/\True)/\(Q0.1=Q0.1/\True/\True)/\(qn9 Q0.1 Q0.2 pix.length v13=qn9 Q0.1 Q0.2 pix.length v13/\True/\True)/\List.set (hTo Q0.1 Q0.2 pix.length v13 v15) (nI (qc7 (qb3 m pix λ(v19:Int)=>v1 (v19,())) (↑pix.length:Int).toNat).2 v15).toNat (Int.tdiv (((0:Int)-nI (nL Q0.1 (qe7 none v15)) v4)*qf4 Q0.1 Q0.2 v8 v10) (nI (nL Q0.1 (qe7 none v15)) (nI (qc7 (qb3 m pix λ(v19:Int)=>v1 (v19,())) (↑pix.length:Int).toNat).2 v15).toNat))=hTo Q0.1 Q0.2 pix.length v13 v18/\True)/\(decide ((↑v15:Int)<(↑(qc7 (qb3 m pix λ(v18:Int)=>v1 (v18,())) (↑pix.length:Int).toNat).2.length:Int))=false->wc6 (nL [hTo Q0.1 Q0.2 pix.length v13 v15] (0:Nat))/\((0:Nat)<(0:Nat)+(1:Nat)/\(qn9 Q0.1 Q0.2 pix.length v13).length+((0:Nat)+(1:Nat))<=(1000000:Nat))/\fits .i64 ((↑v4:Int)+(1:Int))/\∃(v18:Nat),Nat.le v18 pix.length/\pix.length-v18<pix.length-v4/\(True/\True/\(↑v4:Int)+(1:Int)=(↑v18:Int)/\True)/\(Q0.1=Q0.1/\True/\True)/\(qn9 Q0.1 Q0.2 pix.length v13++[nL [qe3 (nL [hTo Q0.1 Q0.2 pix.length v13 v15] (0:Nat))] (0:Nat)]=qn9 Q0.1 Q0.2 pix.length v18/\True/\True)/\True))))/\(decide ((↑v4:Int)<(↑pix.length:Int))=false->q1t (Ty.int .i64) (qn9 Q0.1 Q0.2 pix.length v4) none=qk7 m pix)) (by kernel_rfl) ?_
 try simp only[z0,z1,z2,z3,z4,z5,z6,z7,z8,z9,z10,Int.reduceEq,z11,z12,z13,z14,z15,z16,z17,z18,z19,z20,z21,z22,z23,z24,z25,z26,z27,z28,z29,z30,Int.reduceLE,Int.reduceLT,z31,z32,z33,z34,qa1]
 try simp only[qa7,qa8,qb5,z31,z32,z2,z1]
 have hcr:=h.cho.rows
 have hcc:=h.cho.cols
 have hrw:=h.red.w
 refine⟨λ_=>True,λ_=>[],λ_ _=>rfl,h.cho,⟨pix.length,h.red⟩,?_⟩
 have hkr:qc7 (qb3 m pix λ_=>[]) pix.length=qj2 m pix:=rfl
 have hsh:=q1o h.red pix.length
 have hpv:=q3p (q2p m pix) pix.length
 have har:=h.ar
 have hcl:(q2p m pix).length=m.length:=qp5 _ _ _
 simp only[Int.toNat_natCast]
 unfold qk7
 rw[hkr]
 change RedSh _ _ (qj2 m pix) _ at hsh
 change ∀e∈(qj2 m pix).2,_ at hpv
 generalize qj2 m pix=K at *
 obtain⟨R,P⟩:=K
 dsimp only at hpv har ⊢
 have hRn:=hsh.cnt
 have hRe:=hsh.each
 have hPn:=hsh.piv
 have hPj:=hsh.pivj
 dsimp only at hRn hRe hPn hPj
 have hPk:∀k,k<P.length->0<=nI P k/\nI P k<pix.length:=λk hk=>hpv _ (by rw[qh0 P k hk]; exact List.getElem_mem hk)
 simp only[q4i,q66,wm5]
 refine⟨(),0,Nat.zero_le _,⟨by first | rfl | trivial,by first | rfl | trivial,by first | rfl | trivial⟩,λf hf=>⟨λhlt=>⟨by omega,λhin=>?_,λhfree=>?_⟩,λhge=>?_⟩⟩
 ·refine⟨qb8 (by omega) (by omega),f+1,by omega,by omega,by omega,?_⟩
  rw[qn9,if_pos hin]
 ·refine⟨f,0,Nat.zero_le _,⟨⟨rfl,rfl⟩,rfl⟩,λk hk=>⟨λhlk=>?_,λhgk=>?_⟩⟩
  ·have hp:=hPk k hlk
   have hr:=hRe k (by omega)
   have hp':0<=nI P k/\nI P k<((nL R k).length:Int):=⟨hp.1,by omega⟩
   have hb1:=har.big k hlk (nI P k).toNat (by omega)
   have hb2:=har.big k hlk f hlt
   have hz:=har.nz k hlk
   have ht:=har.tm f hlt hfree k hk
   have ht2:=(har.tm f hlt hfree (k+1) hlk).1
   have e2:qf4 R P f (k+1)=qf4 R P f k*(q5i R P f k).tdiv (gcdI (qf4 R P f k) (q5i R P f k)):=rfl
   have hq:qf0 BIG (q5i R P f k):=qr2 hb1
   have e1:(nI (nL R k) (nI P k).toNat).tdiv (gcdI (nI (nL R k) (nI P k).toNat) (nI (nL R k) f))=q5i R P f k:=rfl
   rw[e1,<- e2]
   have hq2:qf0 BIG ((q5i R P f k).tdiv (gcdI (qf4 R P f k) (q5i R P f k))):=qr2 hq
   have g1:=qq0 (a:=nI (nL R k) (nI P k).toNat) (b:=nI (nL R k) f) (Or.inl hz)
   have g2:=qq0 (a:=qf4 R P f k) (b:=q5i R P f k) (Or.inl ht.2)
   have hB:BIG=4000000000000000000:=rfl
   unfold qf0 at *
   refine⟨hlk,by omega,by omega,hp',by omega,by omega,by omega,hp',by omega,by omega,by omega,by omega,by omega,⟨hb1,hb2⟩,by omega,qb8 (by omega) (by omega),⟨ht.1,hq⟩,by omega,qb8 (by omega) (by omega),qb8 (by omega) (by omega),qb8 (by omega) (by omega),k+1,by omega,by omega,rfl,by omega⟩
  ·obtain rfl:k=P.length:=by omega
   have hl0:(List.replicate pix.length T3.ty.dflt).length=pix.length:=List.length_replicate
   refine⟨by omega,by omega,by omega,f,0,Nat.zero_le _,⟨rfl,rfl,rfl⟩,λk hk=>⟨λhlk=>?_,λhgk=>?_⟩⟩
   ·have hp:=hPk k hlk
    have hr:=hRe k (by omega)
    have hp':0<=nI P k/\nI P k<((nL R k).length:Int):=⟨hp.1,by omega⟩
    have hb2:=har.big k hlk f hlt
    have hz:=har.nz k hlk
    have hpr:=har.pr f hlt hfree k hlk
    have hq:qf0 BIG (((0-nI (nL R k) f)*qf4 R P f P.length).tdiv (nI (nL R k) (nI P k).toNat)):=qr2 hpr
    have hl:=q7b R P pix.length f k
    have hp'':0<=nI P k/\nI P k<((hTo R P pix.length f k).length:Int):=⟨hp.1,by omega⟩
    have hB:BIG=4000000000000000000:=rfl
    unfold qf0 at *
    refine⟨hlk,by omega,by omega,by omega,by omega,qb8 (by omega) (by omega),qb8 (by omega) (by omega),by omega,by omega,hp',by omega,hz,qb8 (by omega) (by omega),hp'',by omega,qb8 (by omega) (by omega),k+1,by omega,by omega,by omega,rfl⟩
   ·obtain rfl:k=P.length:=by omega
    have hl:=q7b R P pix.length f P.length
    have hkl:=wm9 R P pix.length f
    refine⟨⟨by omega,ww6 har hlt hfree _ (Nat.le_refl _)⟩,by omega,qb8 (by omega) (by omega),f+1,by omega,by omega,by omega,?_⟩
    rw[qn9,if_neg (by rw[hfree]; decide)]
 ·obtain rfl:f=pix.length:=by omega
  rfl
end Go.Proofs.YtmijnbjlhnpokaaGreat
