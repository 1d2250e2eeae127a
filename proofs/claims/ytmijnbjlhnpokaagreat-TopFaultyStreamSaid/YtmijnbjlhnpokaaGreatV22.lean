/- Twins, program and reference: contracts by the engine. No condition. -/
import Derived.Test.YtmijnbjlhnpokaaGreatV18
set_option linter.unusedVariables false
set_option linter.unusedSimpArgs false
namespace Go.Proofs.YtmijnbjlhnpokaaGreat
open Go Go.RowKit Eng
def qg1 (n:Nat) (set v:List Int):Nat->List Int
 | 0=>List.replicate n 0
 | j+1=>(qg1 n set v j).set (nI set j).toNat (nI v j)
def q8m (l:List (List Int)):Bool:=decide (l.length=1) && !((nL l 0).any λe=>(0:Int)==e)
def x5x (m:List (List Int)) (n:Nat) (set:List Int):List Int:=q7a (qg1 n set (nL (qk7 m set) 0) set.length)
def qq7 (m:List (List Int)) (n:Nat) (L:List (List Int)):Nat->List (List Int)
 | 0=>[]
 | c+1=>if q8m (qk7 m (nL L c)) then qq7 m n L c++[x5x m n (nL L c)] else qq7 m n L c
def q2q (m:List (List Int)) (n:Nat):Nat->List (List Int)
 | 0=>[]
 | k+1=>q2q m n k++qq7 m n (qe9 n (k+1:Nat)) (qe9 n (k+1:Nat)).length
def q31 (m:List (List Int)):Nat:=min ((qj2 m (qp1 (nL m 0).length)).2.length+1) (nL m 0).length
def qv0 (m:List (List Int)):List (List Int) × Int:=if qb9 m=false then([],1) else(q2q m (nL m 0).length (q31 m),0)
structure wn6 (m:List (List Int)):Prop where
 rank:w1s m
 ker:∀k,k<(nL m 0).length->∀set∈qe9 (nL m 0).length (k+1:Nat),w4l m set
abbrev yk5:qb4:=qf2 true none [qf3] [qf3,qd0] (λx=>qb9 x.1=true->wn6 x.1) (λx=>((qv0 x.1).1,(qv0 x.1).2,()))
def x8r (m:List (List Int)) (n:Nat):Nat->Option Inv
 | 0=>some (Inv.of [30] 4 (λk:Nat=>[(30,.lit (.int .i64 k))]) (λk=>[.box 23 (.cons (.dat (.list (.int .i64)) m) .nil),.box 3 (.cons (.lit (.int .i64 n)) .nil),.box 22 (.cons (.msl 3 .none) .nil),.mat 34 3 (.int .i64) (q2q m n k) .none .none]) (λk=>k<=q31 m) (λk=>q31 m-k))
 | 1=>some (Eng.Inv.mk Nat Nat [] 4 (λ_ _=>[]) (λk c=>[.box 23 (.cons (.dat (.list (.int .i64)) m) .nil),.box 3 (.cons (.lit (.int .i64 n)) .nil),.box 22 (.cons (.msl 3 .none) .nil),.mat 34 3 (.int .i64) (q2q m n k++qq7 m n (qe9 n (k+1:Nat)) c) .none .none]) (λk c=>c<=(qe9 n (k+1:Nat)).length) (λk c=>c))
 | 2=>some (Eng.Inv.mk (q5b × Nat × Nat × List Int) Nat [9,11,52,54] 6 (λq j=>[(9,.msl 4 (some 0)),(11,.own 5),(52,.msl 4 (some 0)),(54,.lit (.int .i64 j))]) (λq j=>[.box 23 (.cons (.dat (.list (.int .i64)) m) .nil),.box 3 (.cons (.lit (.int .i64 n)) .nil),.box 22 (.cons (.msl 3 .none) .nil),.mat 34 3 (.int .i64) (q2q m n q.2.1++qq7 m n (qe9 n (q.2.1+1:Nat)) q.2.2.1) .none .none,.mat 3 3 (.int .i64) [q.2.2.2] (some []) (some q.1),.vec 3 (.int .i64) (qg1 n q.2.2.2 (nL (qk7 m q.2.2.2) 0) j)]) (λq j=>j<=q.2.2.2.length) (λq j=>q.2.2.2.length-j))
 | _=>none
def x8s (mats em:List Nat) (specs:List (Nat × qb4)) (muts:List (Nat × ql6)) (its:List (Nat × qw1)):Ctx:={ specs:=specs,tys:=tys,wr:=[],muts:=muts,mats:=mats,em:=em,its:=its }
theorem xz9 (mats em:List Nat) {specs:List (Nat × qb4)} {muts:List (Nat × ql6)} {its:List (Nat × qw1)} (h:SpecsOk Tryz.prog specs) (hm:MutsOk muts) (hi:ItsOk its):Sound Tryz.prog (x8s mats em specs muts its):=SpecsOk.sound h q0x (by kernel_rfl) hi (hmu:=hm)
theorem q7e (m:List (List Int)) (n:Nat) (L:List (List Int)):∀c,(qq7 m n L c).length<=c
 | 0=>Nat.le_refl _
 | c+1=>by
  have:=q7e m n L c
  rw[qq7]
  split
  ·simp; omega
  ·omega
theorem ww9:((List.range 11).all λn=>(List.range 12).all λk=>decide ((qe9 (n:Nat) (k:Nat)).length<=1000))=true:=by decide +kernel
theorem wn7 (n k:Nat) (hn:n<=10) (hk:k<=11):(qe9 (n:Nat) (k:Nat)).length<=1000:=
 of_decide_eq_true (List.all_eq_true.1 (List.all_eq_true.1 ww9 n (List.mem_range.2 (by omega))) k (List.mem_range.2 (by omega)))
theorem wd6 (m:List (List Int)) (n:Nat) (hn:n<=10):∀k,k<=11->(q2q m n k).length<=1000*k
 | 0,_=>Nat.le_refl _
 | k+1,hk=>by
  have h1:=wd6 m n hn k (by omega)
  have h2:=wn7 n (k+1) hn hk
  have h3:=q7e m n (qe9 (n:Nat) (k+1:Nat)) (qe9 (n:Nat) (k+1:Nat)).length
  rw[q2q,List.length_append]
  omega
theorem q7f {R:List (List Int)} {P:List Int} {n:Nat} (h:xj5 R P n) (hn:n<=1000):∀f,f<=n->∀x∈qn9 R P n f,x.length=n/\wc6 x
 | 0,_,x,hx=>by cases hx
 | f+1,hf,x,hx=>by
  rw[qn9] at hx
  split at hx
  ·exact q7f h hn f (by omega) x hx
  ·rename_i hfree
   rcases List.mem_append.1 hx with hx | hx
   ·exact q7f h hn f (by omega) x hx
   ·obtain rfl:=List.mem_singleton.1 hx
    have hb:wc6 (hTo R P n f P.length):=⟨by rw[q7b]; exact hn,ww6 h (by omega) (Bool.eq_false_iff.2 hfree) _ (Nat.le_refl _)⟩
    exact⟨by rw[q9l,q7b],q9r hb⟩
theorem q7g {m:List (List Int)} {set:List Int} (h:w4l m set) (x:List Int) (hx:x∈qk7 m set):x.length=set.length/\set.length<=1000/\wc6 x:=by
 have hw:=h.red.w
 have:=q7f h.ar hw _ (Nat.le_refl _) x hx
 exact⟨this.1,hw,this.2⟩
theorem qk8 (n:Nat) (set v:List Int):∀j,(qg1 n set v j).length=n
 | 0=>by simp[qg1]
 | j+1=>by rw[qg1,List.length_set]; exact qk8 n set v j
theorem q48 {n:Nat} {set v:List Int} (hv:wc6 v) (hn:n<=1000) (hl:v.length=set.length):∀j,j<=set.length->wc6 (qg1 n set v j)
 | 0,_=>⟨by simp[qg1]; omega,λx hx=>by
  obtain rfl:=(List.mem_replicate.1 hx).2
  unfold BIG; omega⟩
 | j+1,hj=>by
  have h1:=q48 hv hn hl j (by omega)
  refine⟨by rw[qk8]; exact hn,λx hx=>?_⟩
  rw[qg1] at hx
  rcases List.mem_or_eq_of_mem_set hx with hx | rfl
  ·exact h1.2 x hx
  ·exact q61 hv (by omega)
theorem w8t:Meets Tryz.prog 64 yk5:=by
 refine meets (xz9 [72] [] (SpecsOk.cons w4m (SpecsOk.cons q9q (SpecsOk.cons w8m (SpecsOk.cons wm8 (SpecsOk.nil _))))) (MutsOk.cons w4k MutsOk.nil) (ItsOk.cons q9p ItsOk.nil)) Tryz.func64 rfl rfl (λx=>x8r x.1 (nL x.1 0).length) (λ_=>by kernel_rfl) (by decide) ?_
 rintro⟨m,⟨⟩⟩ h
 revert m
 intro(m:List (List Int)) (h:qb9 m=true->wn6 m)
 refine @qd1 _ ((qb9 m=true->w1s m)/\(((qw8 m).2 != (0:Int))=true->(qv0 m).1=[]/\(qw8 m).2=(qv0 m).2/\True)/\(((qw8 m).2 != (0:Int))=false->((0:Int)<=(0:Int)/\(0:Int)<(↑m.length:Int))/\fits .i64 ((qw8 m).1+(1:Int))/\∃(v1:Unit),∃(v2:Nat),Nat.le v2 (q31 m)/\(((0:Int)=(↑v2:Int)/\True)/\(m=m/\True)/\((↑(nL m (0:Nat)).length:Int)=(↑(nL m (0:Nat)).length:Int)/\True)/\(True/\True)/\q2q m (nL m (0:Nat)).length v2=[]/\True)/\∀(v3:Nat),Nat.le v3 (q31 m)->(decide ((↑v3:Int)<max2 false ((qw8 m).1+(1:Int)) (↑(nL m (0:Nat)).length:Int))=true->fits .i64 ((↑v3:Int)+(1:Int))/\True/\(((0:Ty.den qd0)<=(↑v3:Int)+(1:Int)/\(↑v3:Int)+(1:Int)<=(1000:Ty.den qd0))/\(0:Ty.den qd0)<=(↑(nL m (0:Nat)).length:Int)/\(↑(nL m (0:Nat)).length:Int)<=(1000:Ty.den qd0))/\∃(v6:Nat),∃(v7:Nat),Nat.le v7 (qe9 (↑(nL m (0:Nat)).length:Int) (↑(v6+(1:Nat)):Int)).length/\v7=(0:Nat)/\((m=m/\True)/\((↑(nL m (0:Nat)).length:Int)=(↑(nL m (0:Nat)).length:Int)/\True)/\(True/\True)/\(q2q m (nL m (0:Nat)).length v3=q2q m (nL m (0:Nat)).length v6++qq7 m (nL m (0:Nat)).length (qe9 (↑(nL m (0:Nat)).length:Int) (↑(v6+(1:Nat)):Int)) v7/\True/\True)/\True)/\∀(v8:Nat),Nat.le v8 (qe9 (↑(nL m (0:Nat)).length:Int) (↑(v6+(1:Nat)):Int)).length->(∀(v10:List Int × qa4._f [] PUnit.unit),(List.map (λ(v12:List Int)=>(v12,())) (qe9 (↑(nL m (0:Nat)).length:Int) ((↑v3:Int)+(1:Int))))[v8]?=some v10->∀(v12:q5b),w4l m (nL [v10.1] (0:Nat))/\(((↑(qk7 m (nL [v10.1] (0:Nat))).length:Int) != (1:Int))=true->[v10.1]=[v10.1]/\v12=v12/\True/\∃(v14:Nat),Nat.le v14 (qe9 (↑(nL m (0:Nat)).length:Int) (↑(v6+(1:Nat)):Int)).length/\v14=v8+(1:Nat)/\(m=m/\True)/\((↑(nL m (0:Nat)).length:Int)=(↑(nL m (0:Nat)).length:Int)/\True)/\(True/\True)/\(q2q m (nL m (0:Nat)).length v6++qq7 m (nL m (0:Nat)).length (qe9 (↑(nL m (0:Nat)).length:Int) (↑(v6+(1:Nat)):Int)) v8=q2q m (nL m (0:Nat)).length v6++qq7 m (nL m (0:Nat)).length (qe9 (↑(nL m (0:Nat)).length:Int) (↑(v6+(1:Nat)):Int)) v14/\True/\True)/\True)/\(((↑(qk7 m (nL [v10.1] (0:Nat))).length:Int) != (1:Int))=false->((0:Int)<=(0:Int)/\(0:Int)<(↑(qk7 m (nL [v10.1] (0:Nat))).length:Int))/\(nL (qk7 m (nL [v10.1] (0:Nat))) (0:Nat)).length<=(1000000:Nat)/\((List.any (nL (qk7 m (nL [v10.1] (0:Nat))) (0:Nat)) λ(v15:Int)=>(0:Int)==v15)=true->[v10.1]=[v10.1]/\v12=v12/\True/\∃(v15:Nat),Nat.le v15 (qe9 (↑(nL m (0:Nat)).length:Int) (↑(v6+(1:Nat)):Int)).length/\v15=v8+(1:Nat)/\(m=m/\True)/\((↑(nL m (0:Nat)).length:Int)=(↑(nL m (0:Nat)).length:Int)/\True)/\(True/\True)/\(q2q m (nL m (0:Nat)).length v6++qq7 m (nL m (0:Nat)).length (qe9 (↑(nL m (0:Nat)).length:Int) (↑(v6+(1:Nat)):Int)) v8=q2q m (nL m (0:Nat)).length v6++qq7 m (nL m (0:Nat)).length (qe9 (↑(nL m (0:Nat)).length:Int) (↑(v6+(1:Nat)):Int)) v15/\True/\True)/\True)/\((List.any (nL (qk7 m (nL [v10.1] (0:Nat))) (0:Nat)) λ(v15:Int)=>(0:Int)==v15)=false->((↑(nL m (0:Nat)).length:Int)=(↑(nL m (0:Nat)).length:Int)/\(0:Int)<=(↑(nL m (0:Nat)).length:Int)/\(↑(nL m (0:Nat)).length:Int)<=(1000000:Int))/\∃(v15:q5b × Nat × Nat × List Int),∃(v16:Nat),Nat.le v16 v15.2.2.2.length/\((some (0:Nat)=some (0:Nat)/\True/\some (0:Nat)=some (0:Nat)/\(0:Int)=(↑v16:Int)/\True)/\(m=m/\True)/\((↑(nL m (0:Nat)).length:Int)=(↑(nL m (0:Nat)).length:Int)/\True)/\(True/\True)/\(q2q m (nL m (0:Nat)).length v6++qq7 m (nL m (0:Nat)).length (qe9 (↑(nL m (0:Nat)).length:Int) (↑(v6+(1:Nat)):Int)) v8=q2q m (nL m (0:Nat)).length v15.2.1++qq7 m (nL m (0:Nat)).length (qe9 (↑(nL m (0:Nat)).length:Int) (↑(v15.2.1+(1:Nat)):Int)) v15.2.2.1/\True/\True)/\([v10.1]=[v15.2.2.2]/\True/\v12=v15.1)/\List.replicate (↑(nL m (0:Nat)).length:Int).toNat (Ty.dflt (TI.ty T3))=qg1 (nL m (0:Nat)).length v15.2.2.2 (nL (qk7 m v15.2.2.2) (0:Nat)) v16/\True)/\∀(v17:Nat),Nat.le v17 v15.2.2.2.length->(decide ((↑v17:Int)<(↑(nL [v10.1] (0:Nat)).length:Int))=true->((0:Int)<=(↑v17:Int)/\(↑v17:Int)<(↑(nL [v15.2.2.2] (0:Nat)).length:Int))/\v17<(nL [v15.2.2.2] (0:Nat)).length/\((0:Int)<=(0:Int)/\(0:Int)<(↑(qk7 m (nL [v10.1] (0:Nat))).length:Int))/\((0:Int)<=(↑v17:Int)/\(↑v17:Int)<(↑(nL (qk7 m (nL [v10.1] (0:Nat))) (0:Nat)).length:Int))/\((0:Int)<=nI (nL [v15.2.2.2] (0:Nat)) v17/\nI (nL [v15.2.2.2] (0:Nat)) v17<(↑(qg1 (nL m (0:Nat)).length v15.2.2.2 (nL (qk7 m v15.2.2.2) (0:Nat)) v17).length:Int))/\(nI (nL [v15.2.2.2] (0:Nat)) v17).toNat<(qg1 (nL m (0:Nat)).length v15.2.2.2 (nL (qk7 m v15.2.2.2) (0:Nat)) v17).length/\fits .i64 ((↑v17:Int)+(1:Int))/\∃(v20:Nat),Nat.le v20 v15.2.2.2.length/\v15.2.2.2.length-v20<v15.2.2.2.length-v17/\(some (0:Nat)=some (0:Nat)/\True/\some (0:Nat)=some (0:Nat)/\(↑v17:Int)+(1:Int)=(↑v20:Int)/\True)/\(m=m/\True)/\((↑(nL m (0:Nat)).length:Int)=(↑(nL m (0:Nat)).length:Int)/\True)/\(True/\True)/\(q2q m (nL m (0:Nat)).length v15.2.1++qq7 m (nL m (0:Nat)).length (qe9 (↑(nL m (0:Nat)).length:Int) (↑(v15.2.1+(1:Nat)):Int)) v15.2.2.1=q2q m (nL m (0:Nat)).length v15.2.1++qq7 m (nL m (0:Nat)).length (qe9 (↑(nL m (0:Nat)).length:Int) (↑(v15.2.1+(1:Nat)):Int)) v15.2.2.1/\True/\True)/\([v15.2.2.2]=[v15.2.2.2]/\True/\v15.1=v15.1)/\List.set (qg1 (nL m (0:Nat)).length v15.2.2.2 (nL (qk7 m v15.2.2.2) (0:Nat)) v17) (nI (nL [v15.2.2.2] (0:Nat)) v17).toNat (nI (nL (qk7 m (nL [v10.1] (0:Nat))) (0:Nat)) v17)=qg1 (nL m (0:Nat)).length v15.2.2.2 (nL (qk7 m v15.2.2.2) (0:Nat)) v20/\True)/\(decide ((↑v17:Int)<(↑(nL [v10.1] (0:Nat)).length:Int))=false->wc6 (nL [qg1 (nL m (0:Nat)).length v15.2.2.2 (nL (qk7 m v15.2.2.2) (0:Nat)) v17] (0:Nat))/\((0:Nat)<(0:Nat)+(1:Nat)/\(q2q m (nL m (0:Nat)).length v15.2.1++qq7 m (nL m (0:Nat)).length (qe9 (↑(nL m (0:Nat)).length:Int) (↑(v15.2.1+(1:Nat)):Int)) v15.2.2.1).length+((0:Nat)+(1:Nat))<=(1000000:Nat))/\[v15.2.2.2]=[v10.1]/\v15.1=v12/\True/\∃(v20:Nat),Nat.le v20 (qe9 (↑(nL m (0:Nat)).length:Int) (↑(v6+(1:Nat)):Int)).length/\v20=v8+(1:Nat)/\(m=m/\True)/\((↑(nL m (0:Nat)).length:Int)=(↑(nL m (0:Nat)).length:Int)/\True)/\(True/\True)/\(q2q m (nL m (0:Nat)).length v15.2.1++qq7 m (nL m (0:Nat)).length (qe9 (↑(nL m (0:Nat)).length:Int) (↑(v15.2.1+(1:Nat)):Int)) v15.2.2.1++[nL [q7a (nL [qg1 (nL m (0:Nat)).length v15.2.2.2 (nL (qk7 m v15.2.2.2) (0:Nat)) v17] (0:Nat))] (0:Nat)]=q2q m (nL m (0:Nat)).length v6++qq7 m (nL m (0:Nat)).length (qe9 (↑(nL m (0:Nat)).length:Int) (↑(v6+(1:Nat)):Int)) v20/\True/\True)/\True))))/\(v8=(List.map (λ(v11:List Int)=>(v11,())) (qe9 (↑(nL m (0:Nat)).length:Int) ((↑v3:Int)+(1:Int)))).length->fits .i64 ((↑v3:Int)+(1:Int))/\∃(v11:Nat),Nat.le v11 (q31 m)/\q31 m-v11<q31 m-v3/\((↑v3:Int)+(1:Int)=(↑v11:Int)/\True)/\(m=m/\True)/\((↑(nL m (0:Nat)).length:Int)=(↑(nL m (0:Nat)).length:Int)/\True)/\(True/\True)/\(q2q m (nL m (0:Nat)).length v6++qq7 m (nL m (0:Nat)).length (qe9 (↑(nL m (0:Nat)).length:Int) (↑(v6+(1:Nat)):Int)) v8=q2q m (nL m (0:Nat)).length v11/\True/\True)/\True))/\(decide ((↑v3:Int)<max2 false ((qw8 m).1+(1:Int)) (↑(nL m (0:Nat)).length:Int))=false->q1t (Ty.int .i64) (q2q m (nL m (0:Nat)).length v3) none=(qv0 m).1/\(0:Int)=(qv0 m).2/\True))) (by kernel_rfl) ?_
 try simp only[z0,z1,z2,z3,z4,z5,z6,z7,z8,z9,z10,Int.reduceEq,z11,z12,z13,z14,z15,z16,z17,z18,z19,z20,z21,z22,z23,z24,z25,z26,z27,z28,z29,z30,Int.reduceLE,Int.reduceLT,z31,z32,z33,z34,qa1]
 try simp only[qa7,qa8,qb5,z31,z32,z2,z1]
 refine⟨λhv=>(h hv).rank,λhe=>?_,λhe=>?_⟩
 ·have hv:qb9 m=false:=by
   cases e:qb9 m with
   | false=>rfl
   | true=>exact absurd (by simp[qw8,e]) he
  simp[qw8,qv0,hv]
 have hv:qb9 m=true:=by
  cases e:qb9 m with
  | true=>rfl
  | false=>simp[qw8,e] at he
 have hO:=h hv
 have hM:=Mk.of hv
 have hm1:=hM.rows1
 have hn1:=hM.pix1
 have hn10:=hM.pix10
 have hrank:(qj2 m (qp1 (nL m 0).length)).2.length<=10:=by
  have:=(q1o hO.rank.red (nL m 0).length).pivj
  unfold qj2
  rw[qf1]
  exact Nat.le_trans this hn10
 have hr:qw8 m=(((qj2 m (qp1 (nL m 0).length)).2.length:Int),0):=by simp[qw8,hv]
 have hcN:q31 m=min ((qj2 m (qp1 (nL m 0).length)).2.length+1) (nL m 0).length:=rfl
 have hcR:qv0 m=(q2q m (nL m 0).length (q31 m),0):=by simp[qv0,hv]
 rw[hr,hcR]
 generalize(qj2 m (qp1 (nL m 0).length)).2.length=r at *
 have hker:=hO.ker
 generalize hnn:(nL m 0).length=n at *
 dsimp only
 refine⟨by omega,qb8 (by omega) (by omega),(),0,Nat.zero_le _,⟨rfl,rfl⟩,λk hk=>⟨λhlt=>?_,λhge=>?_⟩⟩
 ·have hlt:(k:Int)<min ((r:Int)+1) n:=hlt
  have hkn:k<n:=by omega
  have hca:((k:Int)+1)=((k+1:Nat):Int):=by omega
  have hkl:=wd6 m n hn10 k (by omega)
  have hsl:=wn7 n (k+1) hn10 (by omega)
  rw[hca]
  have hb1:(0:Int)<=((k+1:Nat):Int)/\((k+1:Nat):Int)<=1000:=by omega
  refine⟨qb8 (by omega) (by omega),⟨hb1,by omega⟩,k,0,Nat.zero_le _,rfl,by simp[qq7],λc hc=>⟨?_,λhce=>?_⟩⟩
  ·rintro⟨set,⟨⟩⟩ hset T
   dsimp only
   have hs:(qe9 n (k+1:Nat))[c]? = some set:=by
    rw[List.getElem?_map] at hset
    obtain⟨x,hx,hx2⟩:=Option.map_eq_some_iff.1 hset
    injection hx2 with hx2
    rw[<- hx2]; exact hx
   have hcl:c<(qe9 n (k+1:Nat)).length:=(List.getElem?_eq_some_iff.1 hs).1
   have hnl:nL (qe9 n (k+1:Nat)) c=set:=by rw[qm1 _ c hcl]; exact(List.getElem?_eq_some_iff.1 hs).2
   have hK:w4l m set:=hker k hkn set (List.mem_of_getElem? hs)
   have hctl:=q7e m n (qe9 n (k+1:Nat)) c
   refine⟨hK,λh1=>⟨c+1,hcl,rfl,?_⟩,λh1=>⟨by omega,?_,λh2=>⟨c+1,hcl,rfl,?_⟩,λh2=>⟨by omega,(T,k,c,set),0,Nat.zero_le _,⟨rfl,rfl,⟨rfl,rfl⟩,rfl⟩,λj hj=>⟨λhjl=>?_,λhjl=>?_⟩⟩⟩⟩
   ·rw[qq7,hnl,if_neg]
    intro q
    unfold q8m at q
    rw[Bool.and_eq_true,decide_eq_true_eq] at q
    exact h1 (by omega)
   ·have h0:=q7g hK (nL (qk7 m set) 0) (qu9 _ 0 (by omega))
    omega
   ·rw[qq7,hnl,if_neg]
    intro q
    unfold q8m at q
    rw[Bool.and_eq_true,h2] at q
    cases q.2
   ·dsimp only at hj ⊢
    have hat:=hK.cho.at_ 0 (by omega) j hjl
    rw[hnn] at hat
    have hkm:=q7g hK (nL (qk7 m set) 0) (qu9 _ 0 (by omega))
    have hsp:=qk8 n set (nL (qk7 m set) 0) j
    have hat':0<=nI set j/\nI set j<((qg1 n set (nL (qk7 m set) 0) j).length:Int):=⟨hat.1,by omega⟩
    exact⟨hjl,hjl,by omega,by omega,hat',by omega,qb8 (by omega) (by omega),j+1,hjl,by omega,by omega,rfl⟩
   ·dsimp only at hj ⊢
    obtain rfl:j=set.length:=by omega
    have hkm:=q7g hK (nL (qk7 m set) 0) (qu9 _ 0 (by omega))
    refine⟨q48 hkm.2.2 (by omega) hkm.1 _ (Nat.le_refl _),by rw[List.length_append]; omega,rfl,rfl,c+1,hcl,rfl,?_⟩
    have hg:q8m (qk7 m set)=true:=by
     unfold q8m
     rw[h2,Bool.and_eq_true,decide_eq_true_eq]
     exact⟨by omega,rfl⟩
    rw[qq7,hnl,if_pos hg,List.append_assoc]
    rfl
  ·rw[List.length_map] at hce
   subst hce
   exact⟨qb8 (by omega) (by omega),k+1,by omega,by omega,rfl,rfl⟩
 ·have hge:min ((r:Int)+1) n<=k:=hge
  obtain rfl:k=q31 m:=by omega
  exact⟨rfl,rfl⟩
def q1w (a b:List Int):Nat->Int
 | 0=>0
 | k+1=>q1w a b k+nI a k*nI b k
structure w8u (a b:List Int):Prop where
 len:a.length<=10
 le:a.length<=b.length
 sa:∀i,i<a.length->-1<=nI a i/\nI a i<=1
 sb:∀i,i<a.length->qf0 1000000 (nI b i)
theorem wn8 {x y K:Int} (hx:-1<=x/\x<=1) (hy:qf0 K y):qf0 K (x*y):=by
 unfold qf0 at *
 rcases(show x=-1\/x=0\/x=1 by omega) with rfl | rfl | rfl
 ·rw[show(-1:Int)*y=-y by omega]; omega
 ·rw[Int.zero_mul]; omega
 ·rw[Int.one_mul]; exact hy
theorem w1t {a b:List Int} (h:w8u a b):∀k,k<=a.length->qf0 (1000000*k) (q1w a b k)
 | 0,_=>by unfold qf0; simp[q1w]
 | k+1,hk=>by
  have h1:=w1t h k (by omega)
  have h2:=wn8 (h.sa k (by omega)) (h.sb k (by omega))
  unfold qf0 at *
  rw[q1w]
  omega
abbrev yk6:qb4:=qf2 true none [qe8,qe8] [qd0] (λx=>w8u x.1 x.2.1) (λx=>(q1w x.1 x.2.1 x.1.length,()))
def xj9 (a b:List Int):Nat->Option Inv
 | 0=>some (Inv.of [5,10] 0 (λk:Nat=>[(5,.lit (.int .i64 (q1w a b k))),(10,.lit (.int .i64 k))]) (λ_=>[]) (λk=>k<=a.length) (λk=>a.length-k))
 | _=>none
theorem wn9:Meets Tryz.prog 172 yk6:=by
 refine meets (snd (SpecsOk.nil _)) Tryz.func172 rfl rfl (λx=>xj9 x.1 x.2.1) (λ_=>by kernel_rfl) (by decide) ?_
 rintro⟨a,b,⟨⟩⟩ h
 revert a b
 intro(a:List Int) (b:List Int) (h:w8u a b)
 refine @qd1 _ (∃(v0:Unit),∃(v1:Nat),Nat.le v1 a.length/\(((0:Int)=q1w a b v1/\(0:Int)=(↑v1:Int)/\True)/\True)/\∀(v2:Nat),Nat.le v2 a.length->(decide ((↑v2:Int)<(↑a.length:Int))=true->((0:Int)<=(↑v2:Int)/\(↑v2:Int)<(↑a.length:Int))/\((0:Int)<=(↑v2:Int)/\(↑v2:Int)<(↑b.length:Int))/\fits .i64 (nI a v2*nI b v2)/\fits .i64 (q1w a b v2+nI a v2*nI b v2)/\fits .i64 ((↑v2:Int)+(1:Int))/\∃(v5:Nat),Nat.le v5 a.length/\a.length-v5<a.length-v2/\(q1w a b v2+nI a v2*nI b v2=q1w a b v5/\(↑v2:Int)+(1:Int)=(↑v5:Int)/\True)/\True)/\(decide ((↑v2:Int)<(↑a.length:Int))=false->q1w a b v2=q1w a b a.length)) (by kernel_rfl) ?_
 try simp only[z0,z1,z2,z3,z4,z5,z6,z7,z8,z9,z10,Int.reduceEq,z11,z12,z13,z14,z15,z16,z17,z18,z19,z20,z21,z22,z23,z24,z25,z26,z27,z28,z29,z30,Int.reduceLE,Int.reduceLT,z31,z32,z33,z34,qa1]
 try simp only[qa7,qa8,qb5,z31,z32,z2,z1]
 have hl:=h.len
 have hle:=h.le
 refine⟨(),0,Nat.zero_le _,⟨rfl,rfl⟩,λk hk=>⟨λhlt=>?_,λhge=>?_⟩⟩
 ·have h1:=w1t h k hk
  have h2:=wn8 (h.sa k hlt) (h.sb k hlt)
  unfold qf0 at h1 h2
  exact⟨hlt,by omega,qb8 (by omega) (by omega),qb8 (by omega) (by omega),qb8 (by omega) (by omega),k+1,hlt,by omega,rfl,by omega⟩
 ·obtain rfl:k=a.length:=by omega
  rfl
abbrev x35:qb4:=hspec [] true none [.cap qf3] [qd0] (λx=>0<x.1.length) (λx=>((nL x.1 0).length,()))
theorem w4s:Meets Tryz.prog 174 x35:=by
 refine qk0 (SpecsOk.nil _) (snd (SpecsOk.nil _)) Tryz.func174 rfl rfl (λ_ _=>none) (λ_=>by kernel_rfl) (by decide) ?_
 rintro⟨m,⟨⟩⟩ h
 revert m
 intro(m:List (List Int)) (h:0<m.length)
 refine @qd1 _ (((0:Int)<=(0:Int)/\(0:Int)<(↑m.length:Int))/\(↑(nL m (0:Nat)).length:Int)=(↑(nL m (0:Nat)).length:Int)) (by kernel_rfl) ?_
 try simp only[z0,z1,z2,z3,z4,z5,z6,z7,z8,z9,z10,Int.reduceEq,z11,z12,z13,z14,z15,z16,z17,z18,z19,z20,z21,z22,z23,z24,z25,z26,z27,z28,z29,z30,Int.reduceLE,Int.reduceLT,z31,z32,z33,z34,qa1]
 try simp only[qa7,qa8,qb5,z31,z32,z2,z1]
 omega
abbrev x36:qb4:=hspec [] true none [.d qd0,.cap qd0] [.bool] (λx=>qf0 BIG x.2.1) (λx=>(inB x.1 (0-x.2.1) x.2.1,()))
theorem w4t:Meets Tryz.prog 225 x36:=by
 refine qk0 (SpecsOk.nil _) (snd (SpecsOk.cons qs1 (SpecsOk.nil _))) Tryz.func225 rfl rfl (λ_ _=>none) (λ_=>by kernel_rfl) (by decide) ?_
 rintro⟨n,k,⟨⟩⟩ h
 revert n k
 intro(n:Int) (k:Int) (h:qf0 BIG k)
 refine @qd1 _ (fits .i64 ((0:Int)-k)/\True/\inB n ((0:Int)-k) k=inB n ((0:Int)-k) k) (by kernel_rfl) ?_
 try simp only[z0,z1,z2,z3,z4,z5,z6,z7,z8,z9,z10,Int.reduceEq,z11,z12,z13,z14,z15,z16,z17,z18,z19,z20,z21,z22,z23,z24,z25,z26,z27,z28,z29,z30,Int.reduceLE,Int.reduceLT,z31,z32,z33,z34,qa1]
 try simp only[qa7,qa8,qb5,z31,z32,z2,z1]
 unfold qf0 BIG at h
 exact qb8 (by omega) (by omega)
def w4u (m:List (List Int)) (l:List Int) (n k:Int):Int:=if qb9 m=false then 1 else if(l.length:Int)≠n then 9 else if(l.all λe=>inB e (0-k) k)=false then 7 else 0
abbrev yk7 (fs:List (Nat × qb4)):qb4:=hspec fs true none [.d qf3,.d qe8,.fn [] qd0,.d qd0] [qd0] (λx=>(qb9 x.1=true->x.2.2.1.1 ())/\qf0 BIG x.2.2.2.1/\x.2.1.length<=1000000) (λx=>(w4u x.1 x.2.1 (x.2.2.1.2 ()) x.2.2.2.1,()))
theorem w8v {fs:List (Nat × qb4)} (hfs:SpecsOk Tryz.prog fs):Meets Tryz.prog 173 (yk7 fs):=by
 refine qk0 hfs (snd (SpecsOk.cons qq1 (SpecsOk.cons (q9i (fs:=[(225,x36)]) (SpecsOk.cons w4t (SpecsOk.nil _))) (SpecsOk.nil _)))) Tryz.func173 rfl rfl (λ_ _=>none) (λ_=>by kernel_rfl) (by decide) ?_
 rintro⟨m,l,⟨p,f⟩,k,⟨⟩⟩ h
 revert m l p f k
 intro(m:List (List Int)) (l:List Int) (p:qa4 []->Prop) (f:qa4 []->Int) (k:Int) (h:(qb9 m=true->p ())/\qf0 BIG k/\l.length<=1000000)
 refine @qd1 _ (True/\((!qb9 m)=true->(1:Int)=w4u m l (f ()) k)/\((!qb9 m)=false->p ()/\(((↑l.length:Int) != f ())=true->(9:Int)=w4u m l (f ()) k)/\(((↑l.length:Int) != f ())=false->∃(v2:qa4 [qd0]->Prop),∃(v3:qa4 [qd0]->Bool),(∀(v4:Int × qa4._f [] PUnit.unit),v2 v4->qf0 BIG k/\inB v4.1 ((0:Int)-k) k=v3 v4)/\(l.length<=(1000000:Nat)/\∀(v4:Nat),v4<l.length->v2 (nI l v4,()))/\((!List.all l λ(v5:Int)=>v3 (v5,()))=true->(7:Int)=w4u m l (f ()) k)/\((!List.all l λ(v5:Int)=>v3 (v5,()))=false->(0:Int)=w4u m l (f ()) k)))) (by kernel_rfl) ?_
 try simp only[z0,z1,z2,z3,z4,z5,z6,z7,z8,z9,z10,Int.reduceEq,z11,z12,z13,z14,z15,z16,z17,z18,z19,z20,z21,z22,z23,z24,z25,z26,z27,z28,z29,z30,Int.reduceLE,Int.reduceLT,z31,z32,z33,z34,qa1]
 try simp only[qa7,qa8,qb5,z31,z32,z2,z1]
 obtain⟨h1,h2,h3⟩:=h
 refine⟨λhv=>by simp[w4u,hv],λhv=>⟨h1 hv,λhl=>by simp[w4u,hv,hl],λhl=>⟨λ_=>True,λx=>inB x.1 (0-k) k,λ_ _=>⟨h2,rfl⟩,⟨h3,λ_ _=>trivial⟩,λha=>?_,λha=>?_⟩⟩⟩
 ·unfold w4u; rw[if_neg (by rw[hv]; decide),if_neg (λq=>q hl),if_pos ha]
 ·unfold w4u; rw[if_neg (by rw[hv]; decide),if_neg (λq=>q hl),if_neg (by rw[ha]; decide)]
def q8n (m:List (List Int)) (x:List Int):Int:=w4u m x (nL m 0).length 1000000
abbrev yk8:qb4:=qf2 true none [qf3,qe8] [qd0] (λx=>x.2.1.length<=1000000) (λx=>(q8n x.1 x.2.1,()))
theorem wo0:Meets Tryz.prog 111 yk8:=by
 refine meets (snd (SpecsOk.cons (w8v (fs:=[(174,x35)]) (SpecsOk.cons w4s (SpecsOk.nil _))) (SpecsOk.nil _))) Tryz.func111 rfl rfl (λ_ _=>none) (λ_=>by kernel_rfl) (by decide) ?_
 rintro⟨m,x,⟨⟩⟩ h
 revert m x
 intro(m:List (List Int)) (x:List Int) (h:x.length<=1000000)
 refine @qd1 _ (∃(v0:qa4 []->Prop),∃(v1:qa4 []->Int),(∀(v2:Unit),v0 v2->(0:Nat)<m.length/\(↑(nL m (0:Nat)).length:Int)=v1 v2)/\((qb9 m=true->v0 ())/\qf0 BIG (1000000:Int)/\x.length<=(1000000:Nat))/\w4u m x (v1 ()) (1000000:Int)=q8n m x) (by kernel_rfl) ?_
 try simp only[z0,z1,z2,z3,z4,z5,z6,z7,z8,z9,z10,Int.reduceEq,z11,z12,z13,z14,z15,z16,z17,z18,z19,z20,z21,z22,z23,z24,z25,z26,z27,z28,z29,z30,Int.reduceLE,Int.reduceLT,z31,z32,z33,z34,qa1]
 try simp only[qa7,qa8,qb5,z31,z32,z2,z1]
 exact⟨λ_=>0<m.length,λ_=>((nL m 0).length:Int),λ_ hp=>⟨hp,rfl⟩,⟨λhv=>by have:=(Mk.of hv).rows1; omega,⟨by decide,by decide⟩,h⟩,rfl⟩
structure Shw (m:List (List Int)) (x:List Int):Prop where
 msk:Mk m
 val:qb9 m=true
 len:x.length=(nL m 0).length
 bd:∀i,i<x.length->qf0 1000000 (nI x i)
theorem Shw.of {m:List (List Int)} {x:List Int} (h:q8n m x=0):Shw m x:=by
 unfold q8n w4u at h
 split at h
 ·cases h
 ·rename_i hv
  have hv:qb9 m=true:=by cases e:qb9 m with | true=>rfl | false=>exact absurd e hv
  split at h
  ·cases h
  ·rename_i hl
   split at h
   ·cases h
   ·rename_i ha
    have ha:(x.all λe=>inB e (0-1000000) 1000000)=true:=by simpa using ha
    refine⟨Mk.of hv,hv,by omega,λi hi=>?_⟩
    have:=qh6.1 (List.all_eq_true.1 ha (nI x i) (by rw[qh0 x i hi]; exact List.getElem_mem hi))
    unfold qf0; omega
theorem Shw.dot {m:List (List Int)} {x:List Int} (h:Shw m x) (k:Nat) (hk:k<m.length):w8u (nL m k) x:=by
 have h1:=h.msk.each k hk
 have h2:=h.msk.pix10
 have h3:=h.len
 exact⟨by omega,by omega,λi hi=>h.msk.small k hk i (by omega),λi hi=>h.bd i (by omega)⟩
def q7h (m:List (List Int)) (x:List Int):List Int:=(List.range m.length).map λi=>q1w (nL m i) x (nL m i).length
def qs5 (m:List (List Int)) (x:List Int):List Int × Int:=if q8n m x=0 then(q7h m x,0) else([],q8n m x)
abbrev x8t:qb4:=qf2 true none [qf3,qe8] [qe8,qd0] (λx=>x.2.1.length<=1000000) (λx=>((qs5 x.1 x.2.1).1,(qs5 x.1 x.2.1).2,()))
def x37 (m:List (List Int)) (x:List Int):Nat->Option Inv
 | 0=>some (Inv.of [7,18] 1 (λk:Nat=>[(7,.own 0),(18,.lit (.int .i64 k))]) (λk=>[.vec 3 (.int .i64) ((q7h m x).take k)]) (λk=>k<=m.length) (λk=>m.length-k))
 | _=>none
theorem q9u:Meets Tryz.prog 110 x8t:=by
 refine meets (snd (SpecsOk.cons wo0 (SpecsOk.cons wn9 (SpecsOk.nil _)))) Tryz.func110 rfl rfl (λx=>x37 x.1 x.2.1) (λ_=>by kernel_rfl) (by decide) ?_
 rintro⟨m,x,⟨⟩⟩ h
 revert m x
 intro(m:List (List Int)) (x:List Int) (h:x.length<=1000000)
 refine @qd1 _ (let Q0:=q7h m x; let Q1:=qs5 m x; x.length<=(1000000:Nat)/\((q8n m x != (0:Int))=true->Q1.1=[]/\q8n m x=Q1.2/\True)/\((q8n m x != (0:Int))=false->∃(v1:Unit),∃(v2:Nat),Nat.le v2 m.length/\((True/\(0:Int)=(↑v2:Int)/\True)/\List.take v2 Q0=[]/\True)/\∀(v3:Nat),Nat.le v3 m.length->(decide ((↑v3:Int)<(↑m.length:Int))=true->((0:Int)<=(↑v3:Int)/\(↑v3:Int)<(↑m.length:Int))/\w8u (nL m v3) x/\((0:Nat)<List.length [q1w (nL m v3) x (nL m v3).length]/\Nat.le ((List.take v3 Q0).length+List.length [q1w (nL m v3) x (nL m v3).length]) (1000000:Nat))/\fits .i64 ((↑v3:Int)+(1:Int))/\∃(v6:Nat),Nat.le v6 m.length/\m.length-v6<m.length-v3/\(True/\(↑v3:Int)+(1:Int)=(↑v6:Int)/\True)/\List.take v3 Q0++[q1w (nL m v3) x (nL m v3).length]=List.take v6 Q0/\True)/\(decide ((↑v3:Int)<(↑m.length:Int))=false->List.take v3 Q0=Q1.1/\(0:Int)=Q1.2/\True))) (by kernel_rfl) ?_
 try simp only[z0,z1,z2,z3,z4,z5,z6,z7,z8,z9,z10,Int.reduceEq,z11,z12,z13,z14,z15,z16,z17,z18,z19,z20,z21,z22,z23,z24,z25,z26,z27,z28,z29,z30,Int.reduceLE,Int.reduceLT,z31,z32,z33,z34,qa1]
 try simp only[qa7,qa8,qb5,z31,z32,z2,z1]
 refine⟨h,λhe=>by simp[qs5,he],λhe=>?_⟩
 have hS:=Shw.of he
 have hM:=hS.msk
 have h6:=hM.rows6
 have h10:=hM.pix10
 have hlen:(q7h m x).length=m.length:=by simp[q7h]
 have hR:qs5 m x=(q7h m x,0):=by simp[qs5,he]
 rw[hR]
 refine⟨(),0,Nat.zero_le _,⟨rfl,rfl⟩,λk hk=>⟨λhlt=>⟨hlt,hS.dot k hlt,by rw[List.length_take]; omega,qb8 (by omega) (by omega),k+1,hlt,by omega,by omega,?_⟩,λhge=>⟨List.take_of_length_le (by omega),rfl⟩⟩⟩
 rw[w79 _ k (by omega),qh0 (q7h m x) k (by omega)]
 simp[q7h]
end Go.Proofs.YtmijnbjlhnpokaaGreat
