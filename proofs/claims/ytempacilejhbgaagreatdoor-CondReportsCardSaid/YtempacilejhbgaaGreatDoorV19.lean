/- Circuits: contract by the engine. No condition. -/
import Derived.Test.YtempacilejhbgaaGreatDoorV18
set_option linter.unusedVariables false
set_option linter.unusedSimpArgs false
namespace Go.Proofs.YtempacilejhbgaaGreatDoor
open Go Go.RowKit Eng
def qd1 (n:Nat) (set v:List Int):Nat->List Int
 | 0=>List.replicate n 0
 | j+1=>(qd1 n set v j).set (nI set j).toNat (nI v j)
def q7n (l:List (List Int)):Bool:=decide (l.length=1) && !((nL l 0).any λe=>(0:Int)==e)
def xx1 (m:List (List Int)) (n:Nat) (set:List Int):List Int:=q6d (qd1 n set (nL (qk5 m set) 0) set.length)
def qq1 (m:List (List Int)) (n:Nat) (L:List (List Int)):Nat->List (List Int)
 | 0=>[]
 | c+1=>if q7n (qk5 m (nL L c)) then qq1 m n L c++[xx1 m n (nL L c)] else qq1 m n L c
def q1j (m:List (List Int)) (n:Nat):Nat->List (List Int)
 | 0=>[]
 | k+1=>q1j m n k++qq1 m n (qa6 n (k+1:Nat)) (qa6 n (k+1:Nat)).length
def q3b (m:List (List Int)):Nat:=min ((qj2 m (qo5 (nL m 0).length)).2.length+1) (nL m 0).length
def qc9 (m:List (List Int)):List (List Int) × Int:=if validB m=false then([],1) else(q1j m (nL m 0).length (q3b m),0)
structure q7o (m:List (List Int)):Prop where
 rank:wy5 m
 ker:∀k,k<(nL m 0).length->∀set∈qa6 (nL m 0).length (k+1:Nat),w2g m set
abbrev x46:qb9:=qg6 true none [tMask] [tMask,tInt] (λx=>validB x.1=true->q7o x.1) (λx=>((qc9 x.1).1,(qc9 x.1).2,()))
def x08 (m:List (List Int)) (n:Nat):Nat->Option Inv
 | 0=>some (Inv.of [30] 4 (λk:Nat=>[(30,.lit (.int .i64 k))]) (λk=>[.box 23 (.cons (.dat (.list (.int .i64)) m) .nil),.box 3 (.cons (.lit (.int .i64 n)) .nil),.box 22 (.cons (.msl 3 .none) .nil),.mat 27 3 (.int .i64) (q1j m n k) .none .none]) (λk=>k<=q3b m) (λk=>q3b m-k))
 | 1=>some (Eng.Inv.mk Nat Nat [] 4 (λ_ _=>[]) (λk c=>[.box 23 (.cons (.dat (.list (.int .i64)) m) .nil),.box 3 (.cons (.lit (.int .i64 n)) .nil),.box 22 (.cons (.msl 3 .none) .nil),.mat 27 3 (.int .i64) (q1j m n k++qq1 m n (qa6 n (k+1:Nat)) c) .none .none]) (λk c=>c<=(qa6 n (k+1:Nat)).length) (λk c=>c))
 | 2=>some (Eng.Inv.mk (q5b × Nat × Nat × List Int) Nat [9,11,52,54] 6 (λq j=>[(9,.msl 4 (some 0)),(11,.own 5),(52,.msl 4 (some 0)),(54,.lit (.int .i64 j))]) (λq j=>[.box 23 (.cons (.dat (.list (.int .i64)) m) .nil),.box 3 (.cons (.lit (.int .i64 n)) .nil),.box 22 (.cons (.msl 3 .none) .nil),.mat 27 3 (.int .i64) (q1j m n q.2.1++qq1 m n (qa6 n (q.2.1+1:Nat)) q.2.2.1) .none .none,.mat 3 3 (.int .i64) [q.2.2.2] (some []) (some q.1),.vec 3 (.int .i64) (qd1 n q.2.2.2 (nL (qk5 m q.2.2.2) 0) j)]) (λq j=>j<=q.2.2.2.length) (λq j=>q.2.2.2.length-j))
 | _=>none
def x1a (mats em:List Nat) (specs:List (Nat × qb9)) (muts:List (Nat × qo6)) (its:List (Nat × q1l)):Ctx:={ specs:=specs,tys:=tys,wr:=[],muts:=muts,mats:=mats,em:=em,its:=its }
theorem x1b (mats em:List Nat) {specs:List (Nat × qb9)} {muts:List (Nat × qo6)} {its:List (Nat × q1l)} (h:SpecsOk Tryz.prog specs) (hm:MutsOk muts) (hi:ItsOk its):Sound Tryz.prog (x1a mats em specs muts its):=SpecsOk.sound h q0h (by kernel_rfl) hi (hmu:=hm)
theorem q6k (m:List (List Int)) (n:Nat) (L:List (List Int)):∀c,(qq1 m n L c).length<=c
 | 0=>Nat.le_refl _
 | c+1=>by
  have:=q6k m n L c
  rw[qq1]
  split
  ·simp; omega
  ·omega
theorem wq0:((List.range 11).all λn=>(List.range 12).all λk=>decide ((qa6 (n:Nat) (k:Nat)).length<=1000))=true:=by decide +kernel
theorem q3c (n k:Nat) (hn:n<=10) (hk:k<=11):(qa6 (n:Nat) (k:Nat)).length<=1000:=
 of_decide_eq_true (List.all_eq_true.1 (List.all_eq_true.1 wq0 n (List.mem_range.2 (by omega))) k (List.mem_range.2 (by omega)))
theorem q96 (m:List (List Int)) (n:Nat) (hn:n<=10):∀k,k<=11->(q1j m n k).length<=1000*k
 | 0,_=>Nat.le_refl _
 | k+1,hk=>by
  have h1:=q96 m n hn k (by omega)
  have h2:=q3c n (k+1) hn hk
  have h3:=q6k m n (qa6 (n:Nat) (k+1:Nat)) (qa6 (n:Nat) (k+1:Nat)).length
  rw[q1j,List.length_append]
  omega
theorem q6l {R:List (List Int)} {P:List Int} {n:Nat} (h:w9g R P n) (hn:n<=1000):∀f,f<=n->∀x∈qn5 R P n f,x.length=n/\q3s x
 | 0,_,x,hx=>by cases hx
 | f+1,hf,x,hx=>by
  rw[qn5] at hx
  split at hx
  ·exact q6l h hn f (by omega) x hx
  ·rename_i hfree
   rcases List.mem_append.1 hx with hx | hx
   ·exact q6l h hn f (by omega) x hx
   ·obtain rfl:=List.mem_singleton.1 hx
    have hb:q3s (hTo R P n f P.length):=⟨by rw[q6f]; exact hn,wp6 h (by omega) (Bool.eq_false_iff.2 hfree) _ (Nat.le_refl _)⟩
    exact⟨by rw[q8h,q6f],q8l hb⟩
theorem q6m {m:List (List Int)} {set:List Int} (h:w2g m set) (x:List Int) (hx:x∈qk5 m set):x.length=set.length/\set.length<=1000/\q3s x:=by
 have hw:=h.red.w
 have:=q6l h.ar hw _ (Nat.le_refl _) x hx
 exact⟨this.1,hw,this.2⟩
theorem qi8 (n:Nat) (set v:List Int):∀j,(qd1 n set v j).length=n
 | 0=>by simp[qd1]
 | j+1=>by rw[qd1,List.length_set]; exact qi8 n set v j
theorem q0l {n:Nat} {set v:List Int} (hv:q3s v) (hn:n<=1000) (hl:v.length=set.length):∀j,j<=set.length->q3s (qd1 n set v j)
 | 0,_=>⟨by simp[qd1]; omega,λx hx=>by
  obtain rfl:=(List.mem_replicate.1 hx).2
  unfold BIG; omega⟩
 | j+1,hj=>by
  have h1:=q0l hv hn hl j (by omega)
  refine⟨by rw[qi8]; exact hn,λx hx=>?_⟩
  rw[qd1] at hx
  rcases List.mem_or_eq_of_mem_set hx with hx | rfl
  ·exact h1.2 x hx
  ·exact q0i hv (by omega)
theorem w5w:Meets Tryz.prog 24 x46:=by
 refine meets (x1b [72] [] (SpecsOk.cons w2h (SpecsOk.cons w2d (SpecsOk.cons w5s (SpecsOk.cons wi5 (SpecsOk.nil _))))) (MutsOk.cons w2f MutsOk.nil) (ItsOk.cons w2c ItsOk.nil)) Tryz.func24 rfl rfl (λx=>x08 x.1 (nL x.1 0).length) (λ_=>by kernel_rfl) (by decide) ?_
 rintro⟨m,⟨⟩⟩ h
 revert m
 intro(m:List (List Int)) (h:validB m=true->q7o m)
 refine @qe7 _ ((validB m=true->wy5 m)/\(((qv9 m).2 != (0:Int))=true->(qc9 m).1=[]/\(qv9 m).2=(qc9 m).2/\True)/\(((qv9 m).2 != (0:Int))=false->((0:Int)<=(0:Int)/\(0:Int)<(↑m.length:Int))/\fits .i64 ((qv9 m).1+(1:Int))/\∃(v1:Unit),∃(v2:Nat),Nat.le v2 (q3b m)/\(((0:Int)=(↑v2:Int)/\True)/\(m=m/\True)/\((↑(nL m (0:Nat)).length:Int)=(↑(nL m (0:Nat)).length:Int)/\True)/\(True/\True)/\q1j m (nL m (0:Nat)).length v2=[]/\True)/\∀(v3:Nat),Nat.le v3 (q3b m)->(decide ((↑v3:Int)<max2 false ((qv9 m).1+(1:Int)) (↑(nL m (0:Nat)).length:Int))=true->fits .i64 ((↑v3:Int)+(1:Int))/\True/\(((0:Ty.den tInt)<=(↑v3:Int)+(1:Int)/\(↑v3:Int)+(1:Int)<=(1000:Ty.den tInt))/\(0:Ty.den tInt)<=(↑(nL m (0:Nat)).length:Int)/\(↑(nL m (0:Nat)).length:Int)<=(1000:Ty.den tInt))/\∃(v6:Nat),∃(v7:Nat),Nat.le v7 (qa6 (↑(nL m (0:Nat)).length:Int) (↑(v6+(1:Nat)):Int)).length/\v7=(0:Nat)/\((m=m/\True)/\((↑(nL m (0:Nat)).length:Int)=(↑(nL m (0:Nat)).length:Int)/\True)/\(True/\True)/\(q1j m (nL m (0:Nat)).length v3=q1j m (nL m (0:Nat)).length v6++qq1 m (nL m (0:Nat)).length (qa6 (↑(nL m (0:Nat)).length:Int) (↑(v6+(1:Nat)):Int)) v7/\True/\True)/\True)/\∀(v8:Nat),Nat.le v8 (qa6 (↑(nL m (0:Nat)).length:Int) (↑(v6+(1:Nat)):Int)).length->(∀(v10:List Int × qa4._f [] PUnit.unit),(List.map (λ(v12:List Int)=>(v12,())) (qa6 (↑(nL m (0:Nat)).length:Int) ((↑v3:Int)+(1:Int))))[v8]?=some v10->∀(v12:q5b),w2g m (nL [v10.1] (0:Nat))/\(((↑(qk5 m (nL [v10.1] (0:Nat))).length:Int) != (1:Int))=true->[v10.1]=[v10.1]/\v12=v12/\True/\∃(v14:Nat),Nat.le v14 (qa6 (↑(nL m (0:Nat)).length:Int) (↑(v6+(1:Nat)):Int)).length/\v14=v8+(1:Nat)/\(m=m/\True)/\((↑(nL m (0:Nat)).length:Int)=(↑(nL m (0:Nat)).length:Int)/\True)/\(True/\True)/\(q1j m (nL m (0:Nat)).length v6++qq1 m (nL m (0:Nat)).length (qa6 (↑(nL m (0:Nat)).length:Int) (↑(v6+(1:Nat)):Int)) v8=q1j m (nL m (0:Nat)).length v6++qq1 m (nL m (0:Nat)).length (qa6 (↑(nL m (0:Nat)).length:Int) (↑(v6+(1:Nat)):Int)) v14/\True/\True)/\True)/\(((↑(qk5 m (nL [v10.1] (0:Nat))).length:Int) != (1:Int))=false->((0:Int)<=(0:Int)/\(0:Int)<(↑(qk5 m (nL [v10.1] (0:Nat))).length:Int))/\(nL (qk5 m (nL [v10.1] (0:Nat))) (0:Nat)).length<=(1000000:Nat)/\((List.any (nL (qk5 m (nL [v10.1] (0:Nat))) (0:Nat)) λ(v15:Int)=>(0:Int)==v15)=true->[v10.1]=[v10.1]/\v12=v12/\True/\∃(v15:Nat),Nat.le v15 (qa6 (↑(nL m (0:Nat)).length:Int) (↑(v6+(1:Nat)):Int)).length/\v15=v8+(1:Nat)/\(m=m/\True)/\((↑(nL m (0:Nat)).length:Int)=(↑(nL m (0:Nat)).length:Int)/\True)/\(True/\True)/\(q1j m (nL m (0:Nat)).length v6++qq1 m (nL m (0:Nat)).length (qa6 (↑(nL m (0:Nat)).length:Int) (↑(v6+(1:Nat)):Int)) v8=q1j m (nL m (0:Nat)).length v6++qq1 m (nL m (0:Nat)).length (qa6 (↑(nL m (0:Nat)).length:Int) (↑(v6+(1:Nat)):Int)) v15/\True/\True)/\True)/\((List.any (nL (qk5 m (nL [v10.1] (0:Nat))) (0:Nat)) λ(v15:Int)=>(0:Int)==v15)=false->((↑(nL m (0:Nat)).length:Int)=(↑(nL m (0:Nat)).length:Int)/\(0:Int)<=(↑(nL m (0:Nat)).length:Int)/\(↑(nL m (0:Nat)).length:Int)<=(1000000:Int))/\∃(v15:q5b × Nat × Nat × List Int),∃(v16:Nat),Nat.le v16 v15.2.2.2.length/\((some (0:Nat)=some (0:Nat)/\True/\some (0:Nat)=some (0:Nat)/\(0:Int)=(↑v16:Int)/\True)/\(m=m/\True)/\((↑(nL m (0:Nat)).length:Int)=(↑(nL m (0:Nat)).length:Int)/\True)/\(True/\True)/\(q1j m (nL m (0:Nat)).length v6++qq1 m (nL m (0:Nat)).length (qa6 (↑(nL m (0:Nat)).length:Int) (↑(v6+(1:Nat)):Int)) v8=q1j m (nL m (0:Nat)).length v15.2.1++qq1 m (nL m (0:Nat)).length (qa6 (↑(nL m (0:Nat)).length:Int) (↑(v15.2.1+(1:Nat)):Int)) v15.2.2.1/\True/\True)/\([v10.1]=[v15.2.2.2]/\True/\v12=v15.1)/\List.replicate (↑(nL m (0:Nat)).length:Int).toNat (Ty.dflt (TI.ty T3))=qd1 (nL m (0:Nat)).length v15.2.2.2 (nL (qk5 m v15.2.2.2) (0:Nat)) v16/\True)/\∀(v17:Nat),Nat.le v17 v15.2.2.2.length->(decide ((↑v17:Int)<(↑(nL [v10.1] (0:Nat)).length:Int))=true->((0:Int)<=(↑v17:Int)/\(↑v17:Int)<(↑(nL [v15.2.2.2] (0:Nat)).length:Int))/\v17<(nL [v15.2.2.2] (0:Nat)).length/\((0:Int)<=(0:Int)/\(0:Int)<(↑(qk5 m (nL [v10.1] (0:Nat))).length:Int))/\((0:Int)<=(↑v17:Int)/\(↑v17:Int)<(↑(nL (qk5 m (nL [v10.1] (0:Nat))) (0:Nat)).length:Int))/\((0:Int)<=nI (nL [v15.2.2.2] (0:Nat)) v17/\nI (nL [v15.2.2.2] (0:Nat)) v17<(↑(qd1 (nL m (0:Nat)).length v15.2.2.2 (nL (qk5 m v15.2.2.2) (0:Nat)) v17).length:Int))/\(nI (nL [v15.2.2.2] (0:Nat)) v17).toNat<(qd1 (nL m (0:Nat)).length v15.2.2.2 (nL (qk5 m v15.2.2.2) (0:Nat)) v17).length/\fits .i64 ((↑v17:Int)+(1:Int))/\∃(v20:Nat),Nat.le v20 v15.2.2.2.length/\v15.2.2.2.length-v20<v15.2.2.2.length-v17/\(some (0:Nat)=some (0:Nat)/\True/\some (0:Nat)=some (0:Nat)/\(↑v17:Int)+(1:Int)=(↑v20:Int)/\True)/\(m=m/\True)/\((↑(nL m (0:Nat)).length:Int)=(↑(nL m (0:Nat)).length:Int)/\True)/\(True/\True)/\(q1j m (nL m (0:Nat)).length v15.2.1++qq1 m (nL m (0:Nat)).length (qa6 (↑(nL m (0:Nat)).length:Int) (↑(v15.2.1+(1:Nat)):Int)) v15.2.2.1=q1j m (nL m (0:Nat)).length v15.2.1++qq1 m (nL m (0:Nat)).length (qa6 (↑(nL m (0:Nat)).length:Int) (↑(v15.2.1+(1:Nat)):Int)) v15.2.2.1/\True/\True)/\([v15.2.2.2]=[v15.2.2.2]/\True/\v15.1=v15.1)/\List.set (qd1 (nL m (0:Nat)).length v15.2.2.2 (nL (qk5 m v15.2.2.2) (0:Nat)) v17) (nI (nL [v15.2.2.2] (0:Nat)) v17).toNat (nI (nL (qk5 m (nL [v10.1] (0:Nat))) (0:Nat)) v17)=qd1 (nL m (0:Nat)).length v15.2.2.2 (nL (qk5 m v15.2.2.2) (0:Nat)) v20/\True)/\(decide ((↑v17:Int)<(↑(nL [v10.1] (0:Nat)).length:Int))=false->q3s (nL [qd1 (nL m (0:Nat)).length v15.2.2.2 (nL (qk5 m v15.2.2.2) (0:Nat)) v17] (0:Nat))/\((0:Nat)<(0:Nat)+(1:Nat)/\(q1j m (nL m (0:Nat)).length v15.2.1++qq1 m (nL m (0:Nat)).length (qa6 (↑(nL m (0:Nat)).length:Int) (↑(v15.2.1+(1:Nat)):Int)) v15.2.2.1).length+((0:Nat)+(1:Nat))<=(1000000:Nat))/\[v15.2.2.2]=[v10.1]/\v15.1=v12/\True/\∃(v20:Nat),Nat.le v20 (qa6 (↑(nL m (0:Nat)).length:Int) (↑(v6+(1:Nat)):Int)).length/\v20=v8+(1:Nat)/\(m=m/\True)/\((↑(nL m (0:Nat)).length:Int)=(↑(nL m (0:Nat)).length:Int)/\True)/\(True/\True)/\(q1j m (nL m (0:Nat)).length v15.2.1++qq1 m (nL m (0:Nat)).length (qa6 (↑(nL m (0:Nat)).length:Int) (↑(v15.2.1+(1:Nat)):Int)) v15.2.2.1++[nL [q6d (nL [qd1 (nL m (0:Nat)).length v15.2.2.2 (nL (qk5 m v15.2.2.2) (0:Nat)) v17] (0:Nat))] (0:Nat)]=q1j m (nL m (0:Nat)).length v6++qq1 m (nL m (0:Nat)).length (qa6 (↑(nL m (0:Nat)).length:Int) (↑(v6+(1:Nat)):Int)) v20/\True/\True)/\True))))/\(v8=(List.map (λ(v11:List Int)=>(v11,())) (qa6 (↑(nL m (0:Nat)).length:Int) ((↑v3:Int)+(1:Int)))).length->fits .i64 ((↑v3:Int)+(1:Int))/\∃(v11:Nat),Nat.le v11 (q3b m)/\q3b m-v11<q3b m-v3/\((↑v3:Int)+(1:Int)=(↑v11:Int)/\True)/\(m=m/\True)/\((↑(nL m (0:Nat)).length:Int)=(↑(nL m (0:Nat)).length:Int)/\True)/\(True/\True)/\(q1j m (nL m (0:Nat)).length v6++qq1 m (nL m (0:Nat)).length (qa6 (↑(nL m (0:Nat)).length:Int) (↑(v6+(1:Nat)):Int)) v8=q1j m (nL m (0:Nat)).length v11/\True/\True)/\True))/\(decide ((↑v3:Int)<max2 false ((qv9 m).1+(1:Int)) (↑(nL m (0:Nat)).length:Int))=false->q3h (Ty.int .i64) (q1j m (nL m (0:Nat)).length v3) none=(qc9 m).1/\(0:Int)=(qc9 m).2/\True))) (by kernel_rfl) ?_
 try simp only[z0,z1,z2,z3,z4,z5,z6,z7,z8,z9,z10,Int.reduceEq,z11,z12,z13,z14,z15,z16,z17,z18,z19,z20,z21,z22,z23,z24,z25,z26,z27,z28,z29,z30,Int.reduceLE,Int.reduceLT,z31,z32,z33,z34,qa3]
 try simp only[qb6,qb7,qc7,z31,z32,z2,z1]
 refine⟨λhv=>(h hv).rank,λhe=>?_,λhe=>?_⟩
 ·have hv:validB m=false:=by
   cases e:validB m with
   | false=>rfl
   | true=>exact absurd (by simp[qv9,e]) he
  simp[qv9,qc9,hv]
 have hv:validB m=true:=by
  cases e:validB m with
  | true=>rfl
  | false=>simp[qv9,e] at he
 have hO:=h hv
 have hM:=Mk.of hv
 have hm1:=hM.rows1
 have hn1:=hM.pix1
 have hn10:=hM.pix10
 have hrank:(qj2 m (qo5 (nL m 0).length)).2.length<=10:=by
  have:=(q43 hO.rank.red (nL m 0).length).pivj
  unfold qj2
  rw[qe8]
  exact Nat.le_trans this hn10
 have hr:qv9 m=(((qj2 m (qo5 (nL m 0).length)).2.length:Int),0):=by simp[qv9,hv]
 have hcN:q3b m=min ((qj2 m (qo5 (nL m 0).length)).2.length+1) (nL m 0).length:=rfl
 have hcR:qc9 m=(q1j m (nL m 0).length (q3b m),0):=by simp[qc9,hv]
 rw[hr,hcR]
 generalize(qj2 m (qo5 (nL m 0).length)).2.length=r at *
 have hker:=hO.ker
 generalize hnn:(nL m 0).length=n at *
 dsimp only
 refine⟨by omega,qa7 (by omega) (by omega),(),0,Nat.zero_le _,⟨rfl,rfl⟩,λk hk=>⟨λhlt=>?_,λhge=>?_⟩⟩
 ·have hlt:(k:Int)<min ((r:Int)+1) n:=hlt
  have hkn:k<n:=by omega
  have hca:((k:Int)+1)=((k+1:Nat):Int):=by omega
  have hkl:=q96 m n hn10 k (by omega)
  have hsl:=q3c n (k+1) hn10 (by omega)
  rw[hca]
  have hb1:(0:Int)<=((k+1:Nat):Int)/\((k+1:Nat):Int)<=1000:=by omega
  refine⟨qa7 (by omega) (by omega),⟨hb1,by omega⟩,k,0,Nat.zero_le _,rfl,by simp[qq1],λc hc=>⟨?_,λhce=>?_⟩⟩
  ·rintro⟨set,⟨⟩⟩ hset T
   dsimp only
   have hs:(qa6 n (k+1:Nat))[c]? = some set:=by
    rw[List.getElem?_map] at hset
    obtain⟨x,hx,hx2⟩:=Option.map_eq_some_iff.1 hset
    injection hx2 with hx2
    rw[<- hx2]; exact hx
   have hcl:c<(qa6 n (k+1:Nat)).length:=(List.getElem?_eq_some_iff.1 hs).1
   have hnl:nL (qa6 n (k+1:Nat)) c=set:=by rw[ql4 _ c hcl]; exact(List.getElem?_eq_some_iff.1 hs).2
   have hK:w2g m set:=hker k hkn set (List.mem_of_getElem? hs)
   have hctl:=q6k m n (qa6 n (k+1:Nat)) c
   refine⟨hK,λh1=>⟨c+1,hcl,rfl,?_⟩,λh1=>⟨by omega,?_,λh2=>⟨c+1,hcl,rfl,?_⟩,λh2=>⟨by omega,(T,k,c,set),0,Nat.zero_le _,⟨rfl,rfl,⟨rfl,rfl⟩,rfl⟩,λj hj=>⟨λhjl=>?_,λhjl=>?_⟩⟩⟩⟩
   ·rw[qq1,hnl,if_neg]
    intro q
    unfold q7n at q
    rw[Bool.and_eq_true,decide_eq_true_eq] at q
    exact h1 (by omega)
   ·have h0:=q6m hK (nL (qk5 m set) 0) (qk1 _ 0 (by omega))
    omega
   ·rw[qq1,hnl,if_neg]
    intro q
    unfold q7n at q
    rw[Bool.and_eq_true,h2] at q
    cases q.2
   ·dsimp only at hj ⊢
    have hat:=hK.cho.at_ 0 (by omega) j hjl
    rw[hnn] at hat
    have hkm:=q6m hK (nL (qk5 m set) 0) (qk1 _ 0 (by omega))
    have hsp:=qi8 n set (nL (qk5 m set) 0) j
    have hat':0<=nI set j/\nI set j<((qd1 n set (nL (qk5 m set) 0) j).length:Int):=⟨hat.1,by omega⟩
    exact⟨hjl,hjl,by omega,by omega,hat',by omega,qa7 (by omega) (by omega),j+1,hjl,by omega,by omega,rfl⟩
   ·dsimp only at hj ⊢
    obtain rfl:j=set.length:=by omega
    have hkm:=q6m hK (nL (qk5 m set) 0) (qk1 _ 0 (by omega))
    refine⟨q0l hkm.2.2 (by omega) hkm.1 _ (Nat.le_refl _),by rw[List.length_append]; omega,rfl,rfl,c+1,hcl,rfl,?_⟩
    have hg:q7n (qk5 m set)=true:=by
     unfold q7n
     rw[h2,Bool.and_eq_true,decide_eq_true_eq]
     exact⟨by omega,rfl⟩
    rw[qq1,hnl,if_pos hg,List.append_assoc]
    rfl
  ·rw[List.length_map] at hce
   subst hce
   exact⟨qa7 (by omega) (by omega),k+1,by omega,by omega,rfl,rfl⟩
 ·have hge:min ((r:Int)+1) n<=k:=hge
  obtain rfl:k=q3b m:=by omega
  exact⟨rfl,rfl⟩
end Go.Proofs.YtempacilejhbgaaGreatDoor
