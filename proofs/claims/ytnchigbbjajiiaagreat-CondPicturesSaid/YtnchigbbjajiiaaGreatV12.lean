/- Rank and solutions: contracts by the engine. No condition. -/
import Derived.Test.YtnchigbbjajiiaaGreatV10
set_option linter.unusedVariables false
set_option linter.unusedSimpArgs false
namespace Go.Proofs.YtnchigbbjajiiaaGreat
open Go Go.RowKit Eng
def q6h (r:List (List Int)) (piv:List Int) (f k:Nat):Int:=(nI (nL r k) (nI piv k).toNat).tdiv (gcdI (nI (nL r k) (nI piv k).toNat) (nI (nL r k) f))
def qf7 (r:List (List Int)) (piv:List Int) (f:Nat):Nat->Int
 | 0=>1
 | k+1=>qf7 r piv f k*(q6h r piv f k).tdiv (gcdI (qf7 r piv f k) (q6h r piv f k))
def hTo (r:List (List Int)) (piv:List Int) (n f:Nat):Nat->List Int
 | 0=>(List.replicate n 0).set f (qf7 r piv f piv.length)
 | k+1=>(hTo r piv n f k).set (nI piv k).toNat (((0-nI (nL r k) f)*qf7 r piv f piv.length).tdiv (nI (nL r k) (nI piv k).toNat))
def qp5 (r:List (List Int)) (piv:List Int) (n:Nat):Nat->List (List Int)
 | 0=>[]
 | f+1=>if piv.any λe=>(f:Int)==e then qp5 r piv n f else qp5 r piv n f++[qe4 (hTo r piv n f piv.length)]
def q3h (m:List (List Int)) (pix:List Int):List (List Int):=qb9 m pix λ_=>[]
def qk4 (m:List (List Int)) (pix:List Int):List (List Int) × List Int:=qb7 (q3h m pix) pix.length
def qn3 (m:List (List Int)) (pix:List Int):List (List Int):=qp5 (qk4 m pix).1 (qk4 m pix).2 pix.length pix.length
structure xy1 (r:List (List Int)) (piv:List Int) (n:Nat):Prop where
 nz:∀k,k<piv.length->nI (nL r k) (nI piv k).toNat≠0
 big:∀k,k<piv.length->∀i,i<n->qc0 BIG (nI (nL r k) i)
 tm:∀f,f<n->(piv.any λe=>(f:Int)==e)=false->∀k,k<=piv.length->qc0 BIG (qf7 r piv f k)/\qf7 r piv f k≠0
 pr:∀f,f<n->(piv.any λe=>(f:Int)==e)=false->∀k,k<piv.length->qc0 BIG ((0-nI (nL r k) f)*qf7 r piv f piv.length)
structure w66 (m:List (List Int)) (pix:List Int):Prop where
 cho:ChoOk m pix (λ_=>True) (λ_=>[])
 red:q78 (q3h m pix) pix.length pix.length
 ar:xy1 (qk4 m pix).1 (qk4 m pix).2 pix.length
theorem q8d (R:List (List Int)):∀j,∀e∈(qb7 R j).2,0<=e/\e<(j:Int)
 | 0=>λe h=>by cases h
 | j+1=>λe h=>by
  rw[qb7,qx7] at h
  split at h
  ·have:=q8d R j e h; omega
  ·rcases zal.1 h with h | h
   ·have:=q8d R j e h; omega
   grind
theorem q8e (r:List (List Int)) (piv:List Int) (n f:Nat):∀k,(hTo r piv n f k).length=n
 | 0=>by simp[hTo]
 | k+1=>by rw[hTo,za7]; exact q8e r piv n f k
theorem wv5 (r:List (List Int)) (piv:List Int) (n:Nat):∀f,(qp5 r piv n f).length<=f
 | 0=>zab _
 | f+1=>by
  have:=wv5 r piv n f
  grind [qp5]
theorem w1g {r:List (List Int)} {piv:List Int} {n f:Nat} (h:xy1 r piv n) (hf:f<n) (hfree:(piv.any λe=>(f:Int)==e)=false):∀k,k<=piv.length->∀x∈hTo r piv n f k,qc0 BIG x
 | 0,_,x,hx=>by
  rw[hTo] at hx
  rcases zau hx with hx | rfl
  ·obtain rfl:=(zc2.1 hx).2
   grind [BIG]
  ·exact(h.tm f hf hfree _ (zab _)).1
 | k+1,hk,x,hx=>by
  rw[hTo] at hx
  rcases zau hx with hx | rfl
  ·exact w1g h hf hfree k ow x hx
  ·exact ql7 (h.pr f hf hfree k ow)
abbrev yx2:qb3:=qe8 true none [tMask,tInts] [tMask] (λx=>w66 x.1 x.2.1) (λx=>(qn3 x.1 x.2.1,()))
def yk8 (m:List (List Int)) (pix:List Int):Nat->Option Inv
 | 0=>some (Inv.of [5,7,25] 2 (λf:Nat=>[(5,.msl 0 .none),(7,.msl 1 .none),(25,.lit (.int .i64 f))]) (λf=>[.mat 24 3 (.int .i64) (qk4 m pix).1 .none .none,.mat 24 3 (.int .i64) (qp5 (qk4 m pix).1 (qk4 m pix).2 pix.length f) .none .none]) (λf=>f<=pix.length) (λf=>pix.length-f))
 | 1=>some (Eng.Inv.mk Nat Nat [5,7,9,33] 2 (λf k=>[(5,.msl 0 .none),(7,.msl 1 .none),(9,.lit (.int .i64 (qf7 (qk4 m pix).1 (qk4 m pix).2 f k))),(33,.lit (.int .i64 k))]) (λf k=>[.mat 24 3 (.int .i64) (qk4 m pix).1 .none .none,.mat 24 3 (.int .i64) (qp5 (qk4 m pix).1 (qk4 m pix).2 pix.length f) .none .none]) (λf k=>k<=(qk4 m pix).2.length) (λf k=>(qk4 m pix).2.length-k))
 | 2=>some (Eng.Inv.mk Nat Nat [5,7,13,78] 3 (λf k=>[(5,.msl 0 .none),(7,.msl 1 .none),(13,.own 2),(78,.lit (.int .i64 k))]) (λf k=>[.mat 24 3 (.int .i64) (qk4 m pix).1 .none .none,.mat 24 3 (.int .i64) (qp5 (qk4 m pix).1 (qk4 m pix).2 pix.length f) .none .none,.vec 3 (.int .i64) (hTo (qk4 m pix).1 (qk4 m pix).2 pix.length f k)]) (λf k=>k<=(qk4 m pix).2.length) (λf k=>(qk4 m pix).2.length-k))
 | _=>none
def yk9 (mats em:List Nat) (specs:List (Nat × qb3)) (muts:List (Nat × qr3)):Ctx:={ specs:=specs,tys:=tys,wr:=[],muts:=muts,mats:=mats,em:=em }
theorem x8p (mats em:List Nat) {specs:List (Nat × qb3)} {muts:List (Nat × qr3)} (h:SpecsOk Tryz.prog specs) (hm:MutsOk muts):Sound Tryz.prog (yk9 mats em specs muts):=SpecsOk.sound h q4f kq (hmu:=hm)
theorem xe0:Meets Tryz.prog 155 yx2:=by
 refine meets (x8p [109] [] (SpecsOk.cons (wu5 (fs:=[(202,x4m)]) (SpecsOk.cons wc9 (SpecsOk.nil _))) (SpecsOk.cons wv4 (SpecsOk.cons qu6 (SpecsOk.nil _)))) (MutsOk.cons wv0 (MutsOk.cons q3g MutsOk.nil))) Tryz.func155 rfl rfl (λx=>yk8 x.1 x.2.1) (λ_=>by kernel_rfl) dc ?_
 rintro⟨m,pix,⟨⟩⟩ h
 revert m pix
 intro(m:List (List Int)) (pix:List Int) (h:w66 m pix)
 refine vcs (let Q0:=qk4 m pix; let Q1:=qf5 Q0.1.length none; ∃(v0:qa5 [tInt]->Prop),∃(v1:qa5 [tInt]->List Int),(∀(v2:Int × qa5._f [] PUnit.unit),v0 v2->True/\[]=v1 v2)/\ChoOk m pix v0 v1/\((0:Ty.den tInt)<=(↑pix.length:Int)/\∃(v2:Nat),q78 (qb9 m pix λ(v3:Int)=>v1 (v3,())) (↑pix.length:Int).toNat v2)/\∃(v2:Unit),∃(v3:Nat),Nat.le v3 pix.length/\((True/\True/\(0:Int)=(↑v3:Int)/\True)/\((qb7 (qb9 m pix λ(v4:Int)=>v1 (v4,())) (↑pix.length:Int).toNat).1=Q0.1/\True/\True)/\qp5 Q0.1 Q0.2 pix.length v3=[]/\True)/\∀(v4:Nat),Nat.le v4 pix.length->(decide ((↑v4:Int)<(↑pix.length:Int))=true->(qb7 (qb9 m pix λ(v7:Int)=>v1 (v7,())) (↑pix.length:Int).toNat).2.length<=(1000000:Nat)/\((List.any (qb7 (qb9 m pix λ(v8:Int)=>v1 (v8,())) (↑pix.length:Int).toNat).2 λ(v8:Int)=>(↑v4:Int)==v8)=true->fits .i64 ((↑v4:Int)+(1:Int))/\∃(v8:Nat),Nat.le v8 pix.length/\pix.length-v8<pix.length-v4/\(True/\True/\(↑v4:Int)+(1:Int)=(↑v8:Int)/\True)/\(Q0.1=Q0.1/\True/\True)/\(qp5 Q0.1 Q0.2 pix.length v4=qp5 Q0.1 Q0.2 pix.length v8/\True/\True)/\True)/\((List.any (qb7 (qb9 m pix λ(v8:Int)=>v1 (v8,())) (↑pix.length:Int).toNat).2 λ(v8:Int)=>(↑v4:Int)==v8)=false->∃(v8:Nat),∃(v9:Nat),Nat.le v9 Q0.2.length/\((True/\True/\(1:Int)=qf7 Q0.1 Q0.2 v8 v9/\(0:Int)=(↑v9:Int)/\True)/\(Q0.1=Q0.1/\True/\True)/\(qp5 Q0.1 Q0.2 pix.length v4=qp5 Q0.1 Q0.2 pix.length v8/\True/\True)/\True)/\∀(v10:Nat),Nat.le v10 Q0.2.length->(decide ((↑v10:Int)<(↑(qb7 (qb9 m pix λ(v13:Int)=>v1 (v13,())) (↑pix.length:Int).toNat).2.length:Int))=true->((0:Int)<=(↑v10:Int)/\(↑v10:Int)<(↑(qb7 (qb9 m pix λ(v13:Int)=>v1 (v13,())) (↑pix.length:Int).toNat).2.length:Int))/\((0:Int)<=(↑v10:Int)/\(↑v10:Int)<(↑Q1:Int))/\v10<qf5 Q0.1.length none/\((0:Int)<=nI (qb7 (qb9 m pix λ(v13:Int)=>v1 (v13,())) (↑pix.length:Int).toNat).2 v10/\nI (qb7 (qb9 m pix λ(v13:Int)=>v1 (v13,())) (↑pix.length:Int).toNat).2 v10<(↑(nL Q0.1 (qg2 none v10)).length:Int))/\(nI (qb7 (qb9 m pix λ(v13:Int)=>v1 (v13,())) (↑pix.length:Int).toNat).2 v10).toNat<(nL Q0.1 (qg2 none v10)).length/\((0:Int)<=(↑v10:Int)/\(↑v10:Int)<(↑Q1:Int))/\v10<qf5 Q0.1.length none/\((0:Int)<=nI (qb7 (qb9 m pix λ(v13:Int)=>v1 (v13,())) (↑pix.length:Int).toNat).2 v10/\nI (qb7 (qb9 m pix λ(v13:Int)=>v1 (v13,())) (↑pix.length:Int).toNat).2 v10<(↑(nL Q0.1 (qg2 none v10)).length:Int))/\(nI (qb7 (qb9 m pix λ(v13:Int)=>v1 (v13,())) (↑pix.length:Int).toNat).2 v10).toNat<(nL Q0.1 (qg2 none v10)).length/\((0:Int)<=(↑v10:Int)/\(↑v10:Int)<(↑Q1:Int))/\v10<qf5 Q0.1.length none/\((0:Int)<=(↑v4:Int)/\(↑v4:Int)<(↑(nL Q0.1 (qg2 none v10)).length:Int))/\v4<(nL Q0.1 (qg2 none v10)).length/\(((-4000000000000000000:Int)<=nI (nL Q0.1 (qg2 none v10)) (nI (qb7 (qb9 m pix λ(v13:Int)=>v1 (v13,())) (↑pix.length:Int).toNat).2 v10).toNat/\nI (nL Q0.1 (qg2 none v10)) (nI (qb7 (qb9 m pix λ(v13:Int)=>v1 (v13,())) (↑pix.length:Int).toNat).2 v10).toNat<=BIG)/\(-4000000000000000000:Int)<=nI (nL Q0.1 (qg2 none v10)) v4/\nI (nL Q0.1 (qg2 none v10)) v4<=BIG)/\gcdI (nI (nL Q0.1 (qg2 none v10)) (nI (qb7 (qb9 m pix λ(v13:Int)=>v1 (v13,())) (↑pix.length:Int).toNat).2 v10).toNat) (nI (nL Q0.1 (qg2 none v10)) v4)≠(0:Int)/\fits .i64 (Int.tdiv (nI (nL Q0.1 (qg2 none v10)) (nI (qb7 (qb9 m pix λ(v13:Int)=>v1 (v13,())) (↑pix.length:Int).toNat).2 v10).toNat) (gcdI (nI (nL Q0.1 (qg2 none v10)) (nI (qb7 (qb9 m pix λ(v13:Int)=>v1 (v13,())) (↑pix.length:Int).toNat).2 v10).toNat) (nI (nL Q0.1 (qg2 none v10)) v4)))/\(((-4000000000000000000:Int)<=qf7 Q0.1 Q0.2 v8 v10/\qf7 Q0.1 Q0.2 v8 v10<=BIG)/\(-4000000000000000000:Int)<=Int.tdiv (nI (nL Q0.1 (qg2 none v10)) (nI (qb7 (qb9 m pix λ(v13:Int)=>v1 (v13,())) (↑pix.length:Int).toNat).2 v10).toNat) (gcdI (nI (nL Q0.1 (qg2 none v10)) (nI (qb7 (qb9 m pix λ(v13:Int)=>v1 (v13,())) (↑pix.length:Int).toNat).2 v10).toNat) (nI (nL Q0.1 (qg2 none v10)) v4))/\Int.tdiv (nI (nL Q0.1 (qg2 none v10)) (nI (qb7 (qb9 m pix λ(v13:Int)=>v1 (v13,())) (↑pix.length:Int).toNat).2 v10).toNat) (gcdI (nI (nL Q0.1 (qg2 none v10)) (nI (qb7 (qb9 m pix λ(v13:Int)=>v1 (v13,())) (↑pix.length:Int).toNat).2 v10).toNat) (nI (nL Q0.1 (qg2 none v10)) v4))<=BIG)/\gcdI (qf7 Q0.1 Q0.2 v8 v10) (Int.tdiv (nI (nL Q0.1 (qg2 none v10)) (nI (qb7 (qb9 m pix λ(v13:Int)=>v1 (v13,())) (↑pix.length:Int).toNat).2 v10).toNat) (gcdI (nI (nL Q0.1 (qg2 none v10)) (nI (qb7 (qb9 m pix λ(v13:Int)=>v1 (v13,())) (↑pix.length:Int).toNat).2 v10).toNat) (nI (nL Q0.1 (qg2 none v10)) v4)))≠(0:Int)/\fits .i64 (Int.tdiv (Int.tdiv (nI (nL Q0.1 (qg2 none v10)) (nI (qb7 (qb9 m pix λ(v13:Int)=>v1 (v13,())) (↑pix.length:Int).toNat).2 v10).toNat) (gcdI (nI (nL Q0.1 (qg2 none v10)) (nI (qb7 (qb9 m pix λ(v13:Int)=>v1 (v13,())) (↑pix.length:Int).toNat).2 v10).toNat) (nI (nL Q0.1 (qg2 none v10)) v4))) (gcdI (qf7 Q0.1 Q0.2 v8 v10) (Int.tdiv (nI (nL Q0.1 (qg2 none v10)) (nI (qb7 (qb9 m pix λ(v13:Int)=>v1 (v13,())) (↑pix.length:Int).toNat).2 v10).toNat) (gcdI (nI (nL Q0.1 (qg2 none v10)) (nI (qb7 (qb9 m pix λ(v13:Int)=>v1 (v13,())) (↑pix.length:Int).toNat).2 v10).toNat) (nI (nL Q0.1 (qg2 none v10)) v4)))))/\fits .i64 (qf7 Q0.1 Q0.2 v8 v10*Int.tdiv (Int.tdiv (nI (nL Q0.1 (qg2 none v10)) (nI (qb7 (qb9 m pix λ(v13:Int)=>v1 (v13,())) (↑pix.length:Int).toNat).2 v10).toNat) (gcdI (nI (nL Q0.1 (qg2 none v10)) (nI (qb7 (qb9 m pix λ(v13:Int)=>v1 (v13,())) (↑pix.length:Int).toNat).2 v10).toNat) (nI (nL Q0.1 (qg2 none v10)) v4))) (gcdI (qf7 Q0.1 Q0.2 v8 v10) (Int.tdiv (nI (nL Q0.1 (qg2 none v10)) (nI (qb7 (qb9 m pix λ(v13:Int)=>v1 (v13,())) (↑pix.length:Int).toNat).2 v10).toNat) (gcdI (nI (nL Q0.1 (qg2 none v10)) (nI (qb7 (qb9 m pix λ(v13:Int)=>v1 (v13,())) (↑pix.length:Int).toNat).2 v10).toNat) (nI (nL Q0.1 (qg2 none v10)) v4)))))/\fits .i64 ((↑v10:Int)+(1:Int))/\∃(v13:Nat),Nat.le v13 Q0.2.length/\Q0.2.length-v13<Q0.2.length-v10/\(True/\True/\qf7 Q0.1 Q0.2 v8 v10*Int.tdiv (Int.tdiv (nI (nL Q0.1 (qg2 none v10)) (nI (qb7 (qb9 m pix λ(v14:Int)=>v1 (v14,())) (↑pix.length:Int).toNat).2 v10).toNat) (gcdI (nI (nL Q0.1 (qg2 none v10)) (nI (qb7 (qb9 m pix λ(v14:Int)=>v1 (v14,())) (↑pix.length:Int).toNat).2 v10).toNat) (nI (nL Q0.1 (qg2 none v10)) v4))) (gcdI (qf7 Q0.1 Q0.2 v8 v10) (Int.tdiv (nI (nL Q0.1 (qg2 none v10)) (nI (qb7 (qb9 m pix λ(v14:Int)=>v1 (v14,())) (↑pix.length:Int).toNat).2 v10).toNat) (gcdI (nI (nL Q0.1 (qg2 none v10)) (nI (qb7 (qb9 m pix λ(v14:Int)=>v1 (v14,())) (↑pix.length:Int).toNat).2 v10).toNat) (nI (nL Q0.1 (qg2 none v10)) v4))))=qf7 Q0.1 Q0.2 v8 v13/\(↑v10:Int)+(1:Int)=(↑v13:Int)/\True)/\(Q0.1=Q0.1/\True/\True)/\(qp5 Q0.1 Q0.2 pix.length v8=qp5 Q0.1 Q0.2 pix.length v8/\True/\True)/\True)/\(decide ((↑v10:Int)<(↑(qb7 (qb9 m pix λ(v13:Int)=>v1 (v13,())) (↑pix.length:Int).toNat).2.length:Int))=false->((↑pix.length:Int)=(↑pix.length:Int)/\(0:Int)<=(↑pix.length:Int)/\(↑pix.length:Int)<=(1000000:Int))/\((0:Int)<=(↑v4:Int)/\(↑v4:Int)<(↑(List.replicate (↑pix.length:Int).toNat (Ty.dflt (TI.ty T3))).length:Int))/\v4<(List.replicate (↑pix.length:Int).toNat (Ty.dflt (TI.ty T3))).length/\∃(v13:Nat),∃(v14:Nat),Nat.le v14 Q0.2.length/\((True/\True/\True/\(0:Int)=(↑v14:Int)/\True)/\(Q0.1=Q0.1/\True/\True)/\(qp5 Q0.1 Q0.2 pix.length v8=qp5 Q0.1 Q0.2 pix.length v13/\True/\True)/\List.set (List.replicate (↑pix.length:Int).toNat (Ty.dflt (TI.ty T3))) v4 (qf7 Q0.1 Q0.2 v8 v10)=hTo Q0.1 Q0.2 pix.length v13 v14/\True)/\∀(v15:Nat),Nat.le v15 Q0.2.length->(decide ((↑v15:Int)<(↑(qb7 (qb9 m pix λ(v18:Int)=>v1 (v18,())) (↑pix.length:Int).toNat).2.length:Int))=true->((0:Int)<=(↑v15:Int)/\(↑v15:Int)<(↑(qb7 (qb9 m pix λ(v18:Int)=>v1 (v18,())) (↑pix.length:Int).toNat).2.length:Int))/\((0:Int)<=(↑v15:Int)/\(↑v15:Int)<(↑Q1:Int))/\v15<qf5 Q0.1.length none/\((0:Int)<=(↑v4:Int)/\(↑v4:Int)<(↑(nL Q0.1 (qg2 none v15)).length:Int))/\v4<(nL Q0.1 (qg2 none v15)).length/\fits .i64 ((0:Int)-nI (nL Q0.1 (qg2 none v15)) v4)/\fits .i64 (((0:Int)-nI (nL Q0.1 (qg2 none v15)) v4)*qf7 Q0.1 Q0.2 v8 v10)/\((0:Int)<=(↑v15:Int)/\(↑v15:Int)<(↑Q1:Int))/\v15<qf5 Q0.1.length none/\((0:Int)<=nI (qb7 (qb9 m pix λ(v18:Int)=>v1 (v18,())) (↑pix.length:Int).toNat).2 v15/\nI (qb7 (qb9 m pix λ(v18:Int)=>v1 (v18,())) (↑pix.length:Int).toNat).2 v15<(↑(nL Q0.1 (qg2 none v15)).length:Int))/\(nI (qb7 (qb9 m pix λ(v18:Int)=>v1 (v18,())) (↑pix.length:Int).toNat).2 v15).toNat<(nL Q0.1 (qg2 none v15)).length/\nI (nL Q0.1 (qg2 none v15)) (nI (qb7 (qb9 m pix λ(v18:Int)=>v1 (v18,())) (↑pix.length:Int).toNat).2 v15).toNat≠(0:Int)/\fits .i64 (Int.tdiv (((0:Int)-nI (nL Q0.1 (qg2 none v15)) v4)*qf7 Q0.1 Q0.2 v8 v10) (nI (nL Q0.1 (qg2 none v15)) (nI (qb7 (qb9 m pix λ(v18:Int)=>v1 (v18,())) (↑pix.length:Int).toNat).2 v15).toNat))/\((0:Int)<=nI (qb7 (qb9 m pix λ(v18:Int)=>v1 (v18,())) (↑pix.length:Int).toNat).2 v15/\nI (qb7 (qb9 m pix λ(v18:Int)=>v1 (v18,())) (↑pix.length:Int).toNat).2 v15<(↑(hTo Q0.1 Q0.2 pix.length v13 v15).length:Int))/\(nI (qb7 (qb9 m pix λ(v18:Int)=>v1 (v18,())) (↑pix.length:Int).toNat).2 v15).toNat<(hTo Q0.1 Q0.2 pix.length v13 v15).length/\fits .i64 ((↑v15:Int)+(1:Int))/\∃(v18:Nat),Nat.le v18 Q0.2.length/\Q0.2.length-v18<Q0.2.length-v15/\(True/\True/\True/\(↑v15:Int)+(1:Int)=(↑v18:Int)/\True)/\(Q0.1=Q0.1/\True/\True)/\(qp5 Q0.1 Q0.2 pix.length v13=qp5 Q0.1 Q0.2 pix.length v13/\True/\True)/\List.set (hTo Q0.1 Q0.2 pix.length v13 v15) (nI (qb7 (qb9 m pix λ(v19:Int)=>v1 (v19,())) (↑pix.length:Int).toNat).2 v15).toNat (Int.tdiv (((0:Int)-nI (nL Q0.1 (qg2 none v15)) v4)*qf7 Q0.1 Q0.2 v8 v10) (nI (nL Q0.1 (qg2 none v15)) (nI (qb7 (qb9 m pix λ(v19:Int)=>v1 (v19,())) (↑pix.length:Int).toNat).2 v15).toNat))=hTo Q0.1 Q0.2 pix.length v13 v18/\True)/\(decide ((↑v15:Int)<(↑(qb7 (qb9 m pix λ(v18:Int)=>v1 (v18,())) (↑pix.length:Int).toNat).2.length:Int))=false->q5d (nL [hTo Q0.1 Q0.2 pix.length v13 v15] (0:Nat))/\((0:Nat)<(0:Nat)+(1:Nat)/\(qp5 Q0.1 Q0.2 pix.length v13).length+((0:Nat)+(1:Nat))<=(1000000:Nat))/\fits .i64 ((↑v4:Int)+(1:Int))/\∃(v18:Nat),Nat.le v18 pix.length/\pix.length-v18<pix.length-v4/\(True/\True/\(↑v4:Int)+(1:Int)=(↑v18:Int)/\True)/\(Q0.1=Q0.1/\True/\True)/\(qp5 Q0.1 Q0.2 pix.length v13++[nL [qe4 (nL [hTo Q0.1 Q0.2 pix.length v13 v15] (0:Nat))] (0:Nat)]=qp5 Q0.1 Q0.2 pix.length v18/\True/\True)/\True))))/\(decide ((↑v4:Int)<(↑pix.length:Int))=false->q4x (Ty.int .i64) (qp5 Q0.1 Q0.2 pix.length v4) none=qn3 m pix)) ?_
 have hcr:=h.cho.rows
 have hcc:=h.cho.cols
 have hrw:=h.red.w
 refine⟨λ_=>True,λ_=>[],λ_ _=>rfl,h.cho,⟨pix.length,h.red⟩,?_⟩
 have hkr:qb7 (qb9 m pix λ_=>[]) pix.length=qk4 m pix:=rfl
 have hsh:=q60 h.red pix.length
 have hpv:=q8d (q3h m pix) pix.length
 have har:=h.ar
 have hcl:(q3h m pix).length=m.length:=q0s _ _ _
 simp only[Int.toNat_natCast]
 unfold qn3
 rw[hkr]
 change RedSh _ _ (qk4 m pix) _ at hsh
 change ∀e∈(qk4 m pix).2,_ at hpv
 generalize qk4 m pix=K at *
 obtain⟨R,P⟩:=K
 dsimp only at hpv har ⊢
 have hRn:=hsh.cnt
 have hRe:=hsh.each
 have hPn:=hsh.piv
 have hPj:=hsh.pivj
 dsimp only at hRn hRe hPn hPj
 have hPk:∀k,k<P.length->0<=nI P k/\nI P k<pix.length:=λk hk=>hpv _ (by grind [qf1,List.getElem_mem])
 simp only[wd0,wu7,wu8]
 refine⟨(),0,zae _,⟨by rfl,by simp,by rfl⟩,λf hf=>⟨λhlt=>⟨ow,λhin=>?_,λhfree=>?_⟩,λhge=>?_⟩⟩
 ·refine⟨qa3,f+1,ow,ow,ow,?_⟩
  rw[qp5,zao hin]
 ·refine⟨f,0,zae _,⟨⟨rfl,rfl⟩,rfl⟩,λk hk=>⟨λhlk=>?_,λhgk=>?_⟩⟩
  ·have hp:=hPk k hlk
   have hr:=hRe k ow
   have hp':0<=nI P k/\nI P k<((nL R k).length:Int):=⟨hp.1,ow⟩
   have hb1:=har.big k hlk (nI P k).toNat ow
   have hb2:=har.big k hlk f hlt
   have hz:=har.nz k hlk
   have ht:=har.tm f hlt hfree k hk
   have ht2:=(har.tm f hlt hfree (k+1) hlk).1
   have e2:qf7 R P f (k+1)=qf7 R P f k*(q6h R P f k).tdiv (gcdI (qf7 R P f k) (q6h R P f k)):=rfl
   have hq:qc0 BIG (q6h R P f k):=ql7 hb1
   have e1:(nI (nL R k) (nI P k).toNat).tdiv (gcdI (nI (nL R k) (nI P k).toNat) (nI (nL R k) f))=q6h R P f k:=rfl
   rw[e1,<- e2]
   have hq2:qc0 BIG ((q6h R P f k).tdiv (gcdI (qf7 R P f k) (q6h R P f k))):=ql7 hq
   have g1:=ql9 (a:=nI (nL R k) (nI P k).toNat) (b:=nI (nL R k) f) (Or.inl hz)
   have g2:=ql9 (a:=qf7 R P f k) (b:=q6h R P f k) (Or.inl ht.2)
   have hB:BIG=4000000000000000000:=rfl
   unfold qc0 at *
   refine⟨hlk,ow,ow,hp',ow,ow,ow,hp',ow,ow,ow,ow,ow,⟨hb1,hb2⟩,ow,qa3,⟨ht.1,hq⟩,ow,qa3,qa3,qa3,k+1,ow,ow,rfl,ow⟩
  ·obtain rfl:k=P.length:=ow
   have hl0:(List.replicate pix.length T3.ty.dflt).length=pix.length:=zbh
   refine⟨ow,ow,ow,f,0,zae _,⟨rfl,rfl,rfl⟩,λk hk=>⟨λhlk=>?_,λhgk=>?_⟩⟩
   ·have hp:=hPk k hlk
    have hr:=hRe k ow
    have hp':0<=nI P k/\nI P k<((nL R k).length:Int):=⟨hp.1,ow⟩
    have hb2:=har.big k hlk f hlt
    have hz:=har.nz k hlk
    have hpr:=har.pr f hlt hfree k hlk
    have hq:qc0 BIG (((0-nI (nL R k) f)*qf7 R P f P.length).tdiv (nI (nL R k) (nI P k).toNat)):=ql7 hpr
    have hl:=q8e R P pix.length f k
    have hp'':0<=nI P k/\nI P k<((hTo R P pix.length f k).length:Int):=⟨hp.1,ow⟩
    have hB:BIG=4000000000000000000:=rfl
    unfold qc0 at *
    refine⟨hlk,ow,ow,ow,ow,qa3,qa3,ow,ow,hp',ow,hz,qa3,hp'',ow,qa3,k+1,ow,ow,ow,rfl⟩
   ·obtain rfl:k=P.length:=ow
    have hl:=q8e R P pix.length f P.length
    have hkl:=wv5 R P pix.length f
    refine⟨⟨ow,w1g har hlt hfree _ (zab _)⟩,ow,qa3,f+1,ow,ow,ow,?_⟩
    rw[qp5,zak (by grind)]
 grind
structure Named (n:Nat) (pix:List Int):Prop where
 at_:∀j,j<pix.length->0<=nI pix j/\nI pix j<n
 asc:∀i j,i<j->j<pix.length->nI pix i<nI pix j
theorem Named.of {n:Nat} {pix:List Int} (h:wo3 n pix=0):Named n pix:=by
 unfold wo3 at h
 split at h
 ·cases h
 ·rename_i ha
  split at h
  ·cases h
  ·rename_i hb
   have ha:=q6x.1 (by cases e:w6r pix with | true=>rfl | false=>grind)
   refine⟨λj hj=>?_,λi j hij hj=>?_⟩
   ·rw[Bool.not_eq_true,zbr] at hb
    grind [nI,qf1,List.getElem_mem,inB_iff]
   ·induction j with
    | zero=>omega
    | succ j ih=>
     grind
theorem Named.gap {n:Nat} {pix:List Int} (h:Named n pix):∀j,j<pix.length->(j:Int)<=nI pix j
 | 0,hj=>by have:=(h.at_ 0 hj).1; omega
 | j+1,hj=>by have:=h.gap j ow; have:=h.asc j (j+1) ow hj; omega
theorem Named.len {n:Nat} {pix:List Int} (h:Named n pix):pix.length<=n:=by
 rcases zb7 pix.length with e | e
 ·omega
 ·have h1:=h.gap (pix.length-1) ow
  have h2:=(h.at_ (pix.length-1) ow).2
  omega
theorem Named.idx (n:Nat):Named n (qp8 n):=by
 refine⟨λj hj=>?_,λi j hij hj=>?_⟩
 all_goals grind [qg1,q5e]
structure Asked (m:List (List Int)) (y pix:List Int):Prop where
 msk:Mk m
 val:validB m=true
 len:y.length=m.length
 out:w6s y=false
 nam:Named (nL m 0).length pix
theorem Asked.of {m:List (List Int)} {y pix:List Int} (h:q4j m y pix=0):Asked m y pix:=by
 unfold q4j at h
 split at h
 ·cases h
 ·rename_i hv
  have hv:validB m=true:=by grind
  split at h
  ·cases h
  ·rename_i hl
   split at h
   ·cases h
   ·rename_i ho
    unfold x2f at h
    rw[zak ow] at h
    exact⟨Mk.of hv,hv,Decidable.not_not.1 hl,by grind,Named.of h⟩
theorem Asked.at_ {m:List (List Int)} {y pix:List Int} (h:Asked m y pix) (i:Nat) (hi:i<m.length):qc0 1000000 (nI y i):=by
 have h1:=h.out
 unfold w6s at h1
 rw[zbr] at h1
 have:=h1 (nI y i) (by rw[qf1 y i (by rw[h.len]; omega)]; simp)
 grind [inB_iff]
theorem ChoOk.of {m:List (List Int)} {pix:List Int} (hM:Mk m) (hn:Named (nL m 0).length pix) {p:qa5 [.int .i64]->Prop} {f:qa5 [.int .i64]->List Int} (hf:∀i:Nat,i<m.length->p ((i:Int),())/\(f ((i:Int),())).length<=10000):ChoOk m pix p f:=by
 have h1:=hM.rows6
 have h2:=hn.len
 have h3:=hM.pix10
 refine⟨ow,ow,λi hi j hj=>?_,hf⟩
 have:=hn.at_ j hj
 rw[hM.each i hi]
 omega
structure w35 (m:List (List Int)):Prop where
 red:q78 (q3h m (qp8 (nL m 0).length)) (nL m 0).length (nL m 0).length
def q0u (m:List (List Int)):Int × Int:=if validB m=false then(0,1) else((qk4 m (qp8 (nL m 0).length)).2.length,0)
abbrev yl0:qb3:=qe8 true none [tMask] [tInt,tInt] (λx=>validB x.1=true->w35 x.1) (λx=>((q0u x.1).1,(q0u x.1).2,()))
theorem w67:Meets Tryz.prog 153 yl0:=by
 refine meets (x8p [] [] (SpecsOk.cons q6w (SpecsOk.cons q77 (SpecsOk.cons (wu5 (fs:=[(202,x4m)]) (SpecsOk.cons wc9 (SpecsOk.nil _))) (SpecsOk.nil _)))) (MutsOk.cons wv0 MutsOk.nil)) Tryz.func153 rfl rfl (λ_ _=>none) (λ_=>by kernel_rfl) dc ?_
 rintro⟨m,⟨⟩⟩ h
 revert m
 intro(m:List (List Int)) (h:validB m=true->w35 m)
 refine vcs (True/\((!validB m)=true->(0:Int)=(q0u m).1/\(1:Int)=(q0u m).2/\True)/\((!validB m)=false->((0:Int)<=(0:Int)/\(0:Int)<(↑m.length:Int))/\(↑(nL m (0:Nat)).length:Int)<=(100000:Ty.den tInt)/\∃(v1:qa5 [tInt]->Prop),∃(v2:qa5 [tInt]->List Int),(∀(v3:Int × qa5._f [] PUnit.unit),v1 v3->True/\[]=v2 v3)/\ChoOk m (qp8 (↑(nL m (0:Nat)).length:Int).toNat) v1 v2/\((0:Int)<=(0:Int)/\(0:Int)<(↑m.length:Int))/\((0:Ty.den tInt)<=(↑(nL m (0:Nat)).length:Int)/\∃(v3:Nat),q78 (qb9 m (qp8 (↑(nL m (0:Nat)).length:Int).toNat) λ(v4:Int)=>v2 (v4,())) (↑(nL m (0:Nat)).length:Int).toNat v3)/\(↑(qb7 (qb9 m (qp8 (↑(nL m (0:Nat)).length:Int).toNat) λ(v3:Int)=>v2 (v3,())) (↑(nL m (0:Nat)).length:Int).toNat).2.length:Int)=(q0u m).1/\(0:Int)=(q0u m).2/\True)) ?_
 refine⟨λhv=>by grind [q0u],λhv=>?_⟩
 have hM:=Mk.of hv
 have h1:=hM.rows1
 have h2:=hM.pix10
 have hr:=(h hv).red
 have e:q0u m=(((qk4 m (qp8 (nL m 0).length)).2.length:Int),0):=by grind [q0u]
 rw[e]
 refine⟨ow,ow,λ_=>True,λ_=>[],λ_ _=>rfl,ChoOk.of hM (Named.idx _) λ_ _=>⟨trivial,zae _⟩,ow,⟨_,hr⟩,?_,rfl⟩
 unfold qk4
 rw[qg1]
 rfl
def qa8 (m:List (List Int)) (pix y:List Int):List (List Int):=qb9 m pix λi=>[nI y i.toNat]
def qz0 (m:List (List Int)) (pix y:List Int):List (List Int) × List Int:=qb7 (qa8 m pix y) pix.length
def q8f (R:List (List Int)) (P:List Int) (n:Nat):Bool:=(List.range R.length).any λk=>decide (P.length<=k) && nI (nL R k) n != 0
def wo5 (R:List (List Int)) (P:List Int) (n k:Nat):Int × Int:=ofR (nI (nL R k) n) (nI (nL R k) (nI P k).toNat)
def xe1 (R:List (List Int)) (P:List Int) (n:Nat):List (Int × Int) × Int:=if q8f R P n then([],8) else if P.length<n then([],11) else((List.range P.length).map (wo5 R P n),0)
def q6i (m:List (List Int)) (pix y:List Int):List (Int × Int) × Int:=if q4j m y pix=0 then xe1 (qz0 m pix y).1 (qz0 m pix y).2 pix.length else([],q4j m y pix)
structure yl1 (R:List (List Int)) (P:List Int) (n:Nat):Prop where
 nz:∀k,k<P.length->nI (nL R k) (nI P k).toNat≠0
 bigD:∀k,k<P.length->qc0 BIG (nI (nL R k) (nI P k).toNat)
 bigN:∀k,k<P.length->qc0 BIG (nI (nL R k) n)
structure x8q (m:List (List Int)) (pix y:List Int):Prop where
 red:q78 (qa8 m pix y) pix.length (pix.length+1)
 ar:yl1 (qz0 m pix y).1 (qz0 m pix y).2 pix.length
structure x8r (m:List (List Int)) (pix y:List Int):Prop where
 len:pix.length<=1000000
 ok:q4j m y pix=0->x8q m pix y
end Go.Proofs.YtnchigbbjajiiaaGreat
