/- Circuits: contract by the engine. No condition. -/
import Derived.Test.YtempacilejhbgaaGreatV18
set_option linter.unusedVariables false
set_option linter.unusedSimpArgs false
namespace Go.Proofs.YtempacilejhbgaaGreat
open Go Go.RowKit Eng
def qd1 (n:Nat) (set v:List Int):Nat->List Int
 | 0=>List.replicate n 0
 | j+1=>(qd1 n set v j).set (nI set j).toNat (nI v j)
def q7e (l:List (List Int)):Bool:=decide (l.length=1) && !((nL l 0).any λe=>(0:Int)==e)
def xw0 (m:List (List Int)) (n:Nat) (set:List Int):List Int:=q58 (qd1 n set (nL (qk7 m set) 0) set.length)
def qq5 (m:List (List Int)) (n:Nat) (L:List (List Int)):Nat->List (List Int)
 | 0=>[]
 | c+1=>if q7e (qk7 m (nL L c)) then qq5 m n L c++[xw0 m n (nL L c)] else qq5 m n L c
def q1g (m:List (List Int)) (n:Nat):Nat->List (List Int)
 | 0=>[]
 | k+1=>q1g m n k++qq5 m n (qh0 n (k+1:Nat)) (qh0 n (k+1:Nat)).length
def q25 (m:List (List Int)):Nat:=min ((qj1 m (qo9 (nL m 0).length)).2.length+1) (nL m 0).length
def qo1 (m:List (List Int)):List (List Int) × Int:=if qc8 m=false then([],1) else(q1g m (nL m 0).length (q25 m),0)
structure q6f (m:List (List Int)):Prop where
 rank:wx5 m
 ker:∀k,k<(nL m 0).length->∀set∈qh0 (nL m 0).length (k+1:Nat),w11 m set
abbrev x4t:qc0:=qg7 true none [qk0] [qk0,qd6] (λx=>qc8 x.1=true->q6f x.1) (λx=>((qo1 x.1).1,(qo1 x.1).2,()))
def x0x (m:List (List Int)) (n:Nat):Nat->Option Inv
 | 0=>some (Inv.of [30] 4 (λk:Nat=>[(30,.lit (.int .i64 k))]) (λk=>[.box 23 (.cons (.dat (.list (.int .i64)) m) .nil),.box 3 (.cons (.lit (.int .i64 n)) .nil),.box 22 (.cons (.msl 3 .none) .nil),.mat 24 3 (.int .i64) (q1g m n k) .none .none]) (λk=>k<=q25 m) (λk=>q25 m-k))
 | 1=>some (Eng.Inv.mk Nat Nat [] 4 (λ_ _=>[]) (λk c=>[.box 23 (.cons (.dat (.list (.int .i64)) m) .nil),.box 3 (.cons (.lit (.int .i64 n)) .nil),.box 22 (.cons (.msl 3 .none) .nil),.mat 24 3 (.int .i64) (q1g m n k++qq5 m n (qh0 n (k+1:Nat)) c) .none .none]) (λk c=>c<=(qh0 n (k+1:Nat)).length) (λk c=>c))
 | 2=>some (Eng.Inv.mk (q45 × Nat × Nat × List Int) Nat [9,11,52,54] 6 (λq j=>[(9,.msl 4 (some 0)),(11,.own 5),(52,.msl 4 (some 0)),(54,.lit (.int .i64 j))]) (λq j=>[.box 23 (.cons (.dat (.list (.int .i64)) m) .nil),.box 3 (.cons (.lit (.int .i64 n)) .nil),.box 22 (.cons (.msl 3 .none) .nil),.mat 24 3 (.int .i64) (q1g m n q.2.1++qq5 m n (qh0 n (q.2.1+1:Nat)) q.2.2.1) .none .none,.mat 3 3 (.int .i64) [q.2.2.2] (some []) (some q.1),.vec 3 (.int .i64) (qd1 n q.2.2.2 (nL (qk7 m q.2.2.2) 0) j)]) (λq j=>j<=q.2.2.2.length) (λq j=>q.2.2.2.length-j))
 | _=>none
def x0y (mats em:List Nat) (specs:List (Nat × qc0)) (muts:List (Nat × qo7)) (its:List (Nat × q1i)):Ctx:={ specs:=specs,tys:=tys,wr:=[],muts:=muts,mats:=mats,em:=em,its:=its }
theorem x0z (mats em:List Nat) {specs:List (Nat × qc0)} {muts:List (Nat × qo7)} {its:List (Nat × q1i)} (h:SpecsOk Tryz.prog specs) (hm:MutsOk muts) (hi:ItsOk its):Sound Tryz.prog (x0y mats em specs muts its):=SpecsOk.sound h q4a (by kernel_rfl) hi (hmu:=hm)
theorem q6g (m:List (List Int)) (n:Nat) (L:List (List Int)):∀c,(qq5 m n L c).length<=c
 | 0=>Nat.le_refl _
 | c+1=>by
  have:=q6g m n L c
  rw[qq5]
  split
  ·simp; omega
  ·omega
theorem wp4:((List.range 11).all λn=>(List.range 12).all λk=>decide ((qh0 (n:Nat) (k:Nat)).length<=1000))=true:=by decide +kernel
theorem wi9 (n k:Nat) (hn:n<=10) (hk:k<=11):(qh0 (n:Nat) (k:Nat)).length<=1000:=
 of_decide_eq_true (List.all_eq_true.1 (List.all_eq_true.1 wp4 n (List.mem_range.2 (by omega))) k (List.mem_range.2 (by omega)))
theorem q9y (m:List (List Int)) (n:Nat) (hn:n<=10):∀k,k<=11->(q1g m n k).length<=1000*k
 | 0,_=>Nat.le_refl _
 | k+1,hk=>by
  have h1:=q9y m n hn k (by omega)
  have h2:=wi9 n (k+1) hn hk
  have h3:=q6g m n (qh0 (n:Nat) (k+1:Nat)) (qh0 (n:Nat) (k+1:Nat)).length
  rw[q1g,List.length_append]
  omega
theorem q6h {R:List (List Int)} {P:List Int} {n:Nat} (h:w83 R P n) (hn:n<=1000):∀f,f<=n->∀x∈qn9 R P n f,x.length=n/\q3l x
 | 0,_,x,hx=>by cases hx
 | f+1,hf,x,hx=>by
  rw[qn9] at hx
  split at hx
  ·exact q6h h hn f (by omega) x hx
  ·rename_i hfree
   rcases List.mem_append.1 hx with hx | hx
   ·exact q6h h hn f (by omega) x hx
   ·obtain rfl:=List.mem_singleton.1 hx
    have hb:q3l (hTo R P n f P.length):=⟨by rw[q6a]; exact hn,wp0 h (by omega) (Bool.eq_false_iff.2 hfree) _ (Nat.le_refl _)⟩
    exact⟨by rw[q75,q6a],q79 hb⟩
theorem q6i {m:List (List Int)} {set:List Int} (h:w11 m set) (x:List Int) (hx:x∈qk7 m set):x.length=set.length/\set.length<=1000/\q3l x:=by
 have hw:=h.red.w
 have:=q6h h.ar hw _ (Nat.le_refl _) x hx
 exact⟨this.1,hw,this.2⟩
theorem qj3 (n:Nat) (set v:List Int):∀j,(qd1 n set v j).length=n
 | 0=>by simp[qd1]
 | j+1=>by rw[qd1,List.length_set]; exact qj3 n set v j
theorem q0l {n:Nat} {set v:List Int} (hv:q3l v) (hn:n<=1000) (hl:v.length=set.length):∀j,j<=set.length->q3l (qd1 n set v j)
 | 0,_=>⟨by simp[qd1]; omega,λx hx=>by
  obtain rfl:=(List.mem_replicate.1 hx).2
  unfold BIG; omega⟩
 | j+1,hj=>by
  have h1:=q0l hv hn hl j (by omega)
  refine⟨by rw[qj3]; exact hn,λx hx=>?_⟩
  rw[qd1] at hx
  rcases List.mem_or_eq_of_mem_set hx with hx | rfl
  ·exact h1.2 x hx
  ·exact q0i hv (by omega)
theorem w5i:qd7 Tryz.prog 106 x4t:=by
 refine meets (x0z [72] [] (SpecsOk.cons w13 (SpecsOk.cons w1x (SpecsOk.cons w5e (SpecsOk.cons wi2 (SpecsOk.nil _))))) (MutsOk.cons w1z MutsOk.nil) (ItsOk.cons w1w ItsOk.nil)) Tryz.func106 rfl rfl (λx=>x0x x.1 (nL x.1 0).length) (λ_=>by kernel_rfl) (by decide) ?_
 rintro⟨m,⟨⟩⟩ h
 revert m
 intro(m:List (List Int)) (h:qc8 m=true->q6f m)
 refine @qe1 _ ((qc8 m=true->wx5 m)/\((Prod.snd (qv8 m) != (0:Int))=true->Prod.fst (qo1 m)=[]/\Prod.snd (qv8 m)=Prod.snd (qo1 m)/\True)/\((Prod.snd (qv8 m) != (0:Int))=false->((0:Int)<=(0:Int)/\(0:Int)<(↑(List.length m):Int))/\fits .i64 (Prod.fst (qv8 m)+(1:Int))/\∃(v1:Unit),∃(v2:Nat),Nat.le v2 (q25 m)/\(((0:Int)=(↑v2:Int)/\True)/\(m=m/\True)/\((↑(List.length (qa1 (Ty.list (Ty.int .i64)) m (0:Nat))):Int)=(↑(List.length (nL m (0:Nat))):Int)/\True)/\(True/\True)/\q1g m (List.length (nL m (0:Nat))) v2=[]/\True)/\∀(v3:Nat),Nat.le v3 (q25 m)->(decide ((↑v3:Int)<max2 false (Prod.fst (qv8 m)+(1:Int)) (↑(List.length (qa1 (Ty.list (Ty.int .i64)) m (0:Nat))):Int))=true->fits .i64 ((↑v3:Int)+(1:Int))/\True/\(((0:Ty.den qd6)<=(↑v3:Int)+(1:Int)/\(↑v3:Int)+(1:Int)<=(1000:Ty.den qd6))/\(0:Ty.den qd6)<=(↑(List.length (nL m (0:Nat))):Int)/\(↑(List.length (nL m (0:Nat))):Int)<=(1000:Ty.den qd6))/\∃(v6:Nat),∃(v7:Nat),Nat.le v7 (List.length (qh0 (↑(List.length (nL m (0:Nat))):Int) (↑(v6+(1:Nat)):Int)))/\v7=(0:Nat)/\((m=m/\True)/\((↑(List.length (nL m (0:Nat))):Int)=(↑(List.length (nL m (0:Nat))):Int)/\True)/\(True/\True)/\(q1g m (List.length (nL m (0:Nat))) v3=q1g m (List.length (nL m (0:Nat))) v6++qq5 m (List.length (nL m (0:Nat))) (qh0 (↑(List.length (nL m (0:Nat))):Int) (↑(v6+(1:Nat)):Int)) v7/\True/\True)/\True)/\∀(v8:Nat),Nat.le v8 (List.length (qh0 (↑(List.length (nL m (0:Nat))):Int) (↑(v6+(1:Nat)):Int)))->(∀(v10:List Int × qa6._f [] PUnit.unit),(List.map (λ(v12:List Int)=>(v12,())) (qh0 (↑(List.length (nL m (0:Nat))):Int) ((↑v3:Int)+(1:Int))))[v8]?=some v10->∀(v12:q45),w11 m (qa1 (Ty.list (Ty.int .i64)) [Prod.fst v10] (0:Nat))/\(((↑(List.length (qk7 m (qa1 (Ty.list (Ty.int .i64)) [Prod.fst v10] (0:Nat)))):Int) != (1:Int))=true->[Prod.fst v10]=[Prod.fst v10]/\v12=v12/\True/\∃(v14:Nat),Nat.le v14 (List.length (qh0 (↑(List.length (nL m (0:Nat))):Int) (↑(v6+(1:Nat)):Int)))/\v14=v8+(1:Nat)/\(m=m/\True)/\((↑(List.length (nL m (0:Nat))):Int)=(↑(List.length (nL m (0:Nat))):Int)/\True)/\(True/\True)/\(q1g m (List.length (nL m (0:Nat))) v6++qq5 m (List.length (nL m (0:Nat))) (qh0 (↑(List.length (nL m (0:Nat))):Int) (↑(v6+(1:Nat)):Int)) v8=q1g m (List.length (nL m (0:Nat))) v6++qq5 m (List.length (nL m (0:Nat))) (qh0 (↑(List.length (nL m (0:Nat))):Int) (↑(v6+(1:Nat)):Int)) v14/\True/\True)/\True)/\(((↑(List.length (qk7 m (qa1 (Ty.list (Ty.int .i64)) [Prod.fst v10] (0:Nat)))):Int) != (1:Int))=false->((0:Int)<=(0:Int)/\(0:Int)<(↑(List.length (qk7 m (qa1 (Ty.list (Ty.int .i64)) [Prod.fst v10] (0:Nat)))):Int))/\List.length (qa1 (Ty.list (Ty.int .i64)) (qk7 m (qa1 (Ty.list (Ty.int .i64)) [Prod.fst v10] (0:Nat))) (0:Nat))<=(1000000:Nat)/\((List.any (qa1 (Ty.list (Ty.int .i64)) (qk7 m (qa1 (Ty.list (Ty.int .i64)) [Prod.fst v10] (0:Nat))) (0:Nat)) λ(v15:Int)=>(0:Int)==v15)=true->[Prod.fst v10]=[Prod.fst v10]/\v12=v12/\True/\∃(v15:Nat),Nat.le v15 (List.length (qh0 (↑(List.length (nL m (0:Nat))):Int) (↑(v6+(1:Nat)):Int)))/\v15=v8+(1:Nat)/\(m=m/\True)/\((↑(List.length (nL m (0:Nat))):Int)=(↑(List.length (nL m (0:Nat))):Int)/\True)/\(True/\True)/\(q1g m (List.length (nL m (0:Nat))) v6++qq5 m (List.length (nL m (0:Nat))) (qh0 (↑(List.length (nL m (0:Nat))):Int) (↑(v6+(1:Nat)):Int)) v8=q1g m (List.length (nL m (0:Nat))) v6++qq5 m (List.length (nL m (0:Nat))) (qh0 (↑(List.length (nL m (0:Nat))):Int) (↑(v6+(1:Nat)):Int)) v15/\True/\True)/\True)/\((List.any (qa1 (Ty.list (Ty.int .i64)) (qk7 m (qa1 (Ty.list (Ty.int .i64)) [Prod.fst v10] (0:Nat))) (0:Nat)) λ(v15:Int)=>(0:Int)==v15)=false->((↑(List.length (nL m (0:Nat))):Int)=(↑(List.length (nL m (0:Nat))):Int)/\(0:Int)<=(↑(List.length (nL m (0:Nat))):Int)/\(↑(List.length (nL m (0:Nat))):Int)<=(1000000:Int))/\∃(v15:q45 × Nat × Nat × List Int),∃(v16:Nat),Nat.le v16 (List.length (Prod.snd (Prod.snd (Prod.snd v15))))/\((some (0:Nat)=some (0:Nat)/\True/\some (0:Nat)=some (0:Nat)/\(0:Int)=(↑v16:Int)/\True)/\(m=m/\True)/\((↑(List.length (nL m (0:Nat))):Int)=(↑(List.length (nL m (0:Nat))):Int)/\True)/\(True/\True)/\(q1g m (List.length (nL m (0:Nat))) v6++qq5 m (List.length (nL m (0:Nat))) (qh0 (↑(List.length (nL m (0:Nat))):Int) (↑(v6+(1:Nat)):Int)) v8=q1g m (List.length (nL m (0:Nat))) (Prod.fst (Prod.snd v15))++qq5 m (List.length (nL m (0:Nat))) (qh0 (↑(List.length (nL m (0:Nat))):Int) (↑(Prod.fst (Prod.snd v15)+(1:Nat)):Int)) (Prod.fst (Prod.snd (Prod.snd v15)))/\True/\True)/\([Prod.fst v10]=[Prod.snd (Prod.snd (Prod.snd v15))]/\True/\v12=Prod.fst v15)/\List.replicate (Int.toNat (↑(List.length (nL m (0:Nat))):Int)) (Ty.dflt (TI.ty T3))=qd1 (List.length (nL m (0:Nat))) (Prod.snd (Prod.snd (Prod.snd v15))) (nL (qk7 m (Prod.snd (Prod.snd (Prod.snd v15)))) (0:Nat)) v16/\True)/\∀(v17:Nat),Nat.le v17 (List.length (Prod.snd (Prod.snd (Prod.snd v15))))->(decide ((↑v17:Int)<(↑(List.length (qa1 (Ty.list (Ty.int .i64)) [Prod.fst v10] (0:Nat))):Int))=true->((0:Int)<=(↑v17:Int)/\(↑v17:Int)<(↑(List.length (qa1 (Ty.list (Ty.int .i64)) [Prod.snd (Prod.snd (Prod.snd v15))] (0:Nat))):Int))/\Int.toNat (↑v17:Int)<List.length (qa1 (Ty.list (Ty.int .i64)) [Prod.snd (Prod.snd (Prod.snd v15))] (0:Nat))/\((0:Int)<=(0:Int)/\(0:Int)<(↑(List.length (qk7 m (qa1 (Ty.list (Ty.int .i64)) [Prod.fst v10] (0:Nat)))):Int))/\((0:Int)<=(↑v17:Int)/\(↑v17:Int)<(↑(List.length (qa1 (Ty.list (Ty.int .i64)) (qk7 m (qa1 (Ty.list (Ty.int .i64)) [Prod.fst v10] (0:Nat))) (0:Nat))):Int))/\((0:Int)<=qa1 (Ty.int .i64) (qa1 (Ty.list (Ty.int .i64)) [Prod.snd (Prod.snd (Prod.snd v15))] (0:Nat)) (Int.toNat (↑v17:Int))/\qa1 (Ty.int .i64) (qa1 (Ty.list (Ty.int .i64)) [Prod.snd (Prod.snd (Prod.snd v15))] (0:Nat)) (Int.toNat (↑v17:Int))<(↑(List.length (qd1 (List.length (nL m (0:Nat))) (Prod.snd (Prod.snd (Prod.snd v15))) (nL (qk7 m (Prod.snd (Prod.snd (Prod.snd v15)))) (0:Nat)) v17)):Int))/\Int.toNat (qa1 (Ty.int .i64) (qa1 (Ty.list (Ty.int .i64)) [Prod.snd (Prod.snd (Prod.snd v15))] (0:Nat)) (Int.toNat (↑v17:Int)))<List.length (qd1 (List.length (nL m (0:Nat))) (Prod.snd (Prod.snd (Prod.snd v15))) (nL (qk7 m (Prod.snd (Prod.snd (Prod.snd v15)))) (0:Nat)) v17)/\fits .i64 ((↑v17:Int)+(1:Int))/\∃(v20:Nat),Nat.le v20 (List.length (Prod.snd (Prod.snd (Prod.snd v15))))/\List.length (Prod.snd (Prod.snd (Prod.snd v15)))-v20<List.length (Prod.snd (Prod.snd (Prod.snd v15)))-v17/\(some (0:Nat)=some (0:Nat)/\True/\some (0:Nat)=some (0:Nat)/\(↑v17:Int)+(1:Int)=(↑v20:Int)/\True)/\(m=m/\True)/\((↑(List.length (nL m (0:Nat))):Int)=(↑(List.length (nL m (0:Nat))):Int)/\True)/\(True/\True)/\(q1g m (List.length (nL m (0:Nat))) (Prod.fst (Prod.snd v15))++qq5 m (List.length (nL m (0:Nat))) (qh0 (↑(List.length (nL m (0:Nat))):Int) (↑(Prod.fst (Prod.snd v15)+(1:Nat)):Int)) (Prod.fst (Prod.snd (Prod.snd v15)))=q1g m (List.length (nL m (0:Nat))) (Prod.fst (Prod.snd v15))++qq5 m (List.length (nL m (0:Nat))) (qh0 (↑(List.length (nL m (0:Nat))):Int) (↑(Prod.fst (Prod.snd v15)+(1:Nat)):Int)) (Prod.fst (Prod.snd (Prod.snd v15)))/\True/\True)/\([Prod.snd (Prod.snd (Prod.snd v15))]=[Prod.snd (Prod.snd (Prod.snd v15))]/\True/\Prod.fst v15=Prod.fst v15)/\List.set (qd1 (List.length (nL m (0:Nat))) (Prod.snd (Prod.snd (Prod.snd v15))) (nL (qk7 m (Prod.snd (Prod.snd (Prod.snd v15)))) (0:Nat)) v17) (Int.toNat (qa1 (Ty.int .i64) (qa1 (Ty.list (Ty.int .i64)) [Prod.snd (Prod.snd (Prod.snd v15))] (0:Nat)) (Int.toNat (↑v17:Int)))) (qa1 (Ty.int .i64) (qa1 (Ty.list (Ty.int .i64)) (qk7 m (qa1 (Ty.list (Ty.int .i64)) [Prod.fst v10] (0:Nat))) (0:Nat)) (Int.toNat (↑v17:Int)))=qd1 (List.length (nL m (0:Nat))) (Prod.snd (Prod.snd (Prod.snd v15))) (nL (qk7 m (Prod.snd (Prod.snd (Prod.snd v15)))) (0:Nat)) v20/\True)/\(decide ((↑v17:Int)<(↑(List.length (qa1 (Ty.list (Ty.int .i64)) [Prod.fst v10] (0:Nat))):Int))=false->q3l (nL [qd1 (List.length (nL m (0:Nat))) (Prod.snd (Prod.snd (Prod.snd v15))) (nL (qk7 m (Prod.snd (Prod.snd (Prod.snd v15)))) (0:Nat)) v17] (0:Nat))/\((0:Nat)<(0:Nat)+(1:Nat)/\List.length (q1g m (List.length (nL m (0:Nat))) (Prod.fst (Prod.snd v15))++qq5 m (List.length (nL m (0:Nat))) (qh0 (↑(List.length (nL m (0:Nat))):Int) (↑(Prod.fst (Prod.snd v15)+(1:Nat)):Int)) (Prod.fst (Prod.snd (Prod.snd v15))))+((0:Nat)+(1:Nat))<=(1000000:Nat))/\[Prod.snd (Prod.snd (Prod.snd v15))]=[Prod.fst v10]/\Prod.fst v15=v12/\True/\∃(v20:Nat),Nat.le v20 (List.length (qh0 (↑(List.length (nL m (0:Nat))):Int) (↑(v6+(1:Nat)):Int)))/\v20=v8+(1:Nat)/\(m=m/\True)/\((↑(List.length (nL m (0:Nat))):Int)=(↑(List.length (nL m (0:Nat))):Int)/\True)/\(True/\True)/\(q1g m (List.length (nL m (0:Nat))) (Prod.fst (Prod.snd v15))++qq5 m (List.length (nL m (0:Nat))) (qh0 (↑(List.length (nL m (0:Nat))):Int) (↑(Prod.fst (Prod.snd v15)+(1:Nat)):Int)) (Prod.fst (Prod.snd (Prod.snd v15)))++[qa1 (Ty.list (Ty.int .i64)) [q58 (nL [qd1 (List.length (nL m (0:Nat))) (Prod.snd (Prod.snd (Prod.snd v15))) (nL (qk7 m (Prod.snd (Prod.snd (Prod.snd v15)))) (0:Nat)) v17] (0:Nat))] (0:Nat)]=q1g m (List.length (nL m (0:Nat))) v6++qq5 m (List.length (nL m (0:Nat))) (qh0 (↑(List.length (nL m (0:Nat))):Int) (↑(v6+(1:Nat)):Int)) v20/\True/\True)/\True))))/\(v8=List.length (List.map (λ(v11:List Int)=>(v11,())) (qh0 (↑(List.length (nL m (0:Nat))):Int) ((↑v3:Int)+(1:Int))))->fits .i64 ((↑v3:Int)+(1:Int))/\∃(v11:Nat),Nat.le v11 (q25 m)/\q25 m-v11<q25 m-v3/\((↑v3:Int)+(1:Int)=(↑v11:Int)/\True)/\(m=m/\True)/\((↑(List.length (nL m (0:Nat))):Int)=(↑(List.length (nL m (0:Nat))):Int)/\True)/\(True/\True)/\(q1g m (List.length (nL m (0:Nat))) v6++qq5 m (List.length (nL m (0:Nat))) (qh0 (↑(List.length (nL m (0:Nat))):Int) (↑(v6+(1:Nat)):Int)) v8=q1g m (List.length (nL m (0:Nat))) v11/\True/\True)/\True))/\(decide ((↑v3:Int)<max2 false (Prod.fst (qv8 m)+(1:Int)) (↑(List.length (qa1 (Ty.list (Ty.int .i64)) m (0:Nat))):Int))=false->q28 (Ty.int .i64) (q1g m (List.length (nL m (0:Nat))) v3) none=Prod.fst (qo1 m)/\(0:Int)=Prod.snd (qo1 m)/\True))) (by kernel_rfl) ?_
 try simp only[z0,z1,z2,z3,z4,z5,z6,z7,z8,z9,z10,Int.reduceEq,z11,z12,z13,z14,z15,z16,z17,z18,z19,z20,z21,z22,z23,z24,z25,z26,z27,z28,z29,z30,Int.reduceLE,Int.reduceLT,z31,z32,z33,z34,qa4]
 try simp only[qb3,qb4,qb9,List.set_cons_zero,List.cons.injEq,and_true,true_and]
 refine⟨λhv=>(h hv).rank,λhe=>?_,λhe=>?_⟩
 ·have hv:qc8 m=false:=by
   cases e:qc8 m with
   | false=>rfl
   | true=>exact absurd (by simp[qv8,e]) he
  simp[qv8,qo1,hv]
 have hv:qc8 m=true:=by
  cases e:qc8 m with
  | true=>rfl
  | false=>simp[qv8,e] at he
 have hO:=h hv
 have hM:=Mk.of hv
 have hm1:=hM.rows1
 have hn1:=hM.pix1
 have hn10:=hM.pix10
 have hrank:(qj1 m (qo9 (nL m 0).length)).2.length<=10:=by
  have:=(q4u hO.rank.red (nL m 0).length).pivj
  unfold qj1
  rw[qf5]
  exact Nat.le_trans this hn10
 have hr:qv8 m=(((qj1 m (qo9 (nL m 0).length)).2.length:Int),0):=by simp[qv8,hv]
 have hcN:q25 m=min ((qj1 m (qo9 (nL m 0).length)).2.length+1) (nL m 0).length:=rfl
 have hcR:qo1 m=(q1g m (nL m 0).length (q25 m),0):=by simp[qo1,hv]
 rw[hr,hcR]
 generalize(qj1 m (qo9 (nL m 0).length)).2.length=r at *
 have hker:=hO.ker
 generalize hnn:(nL m 0).length=n at *
 dsimp only
 refine⟨by omega,qa7 (by omega) (by omega),(),0,Nat.zero_le _,⟨rfl,rfl⟩,λk hk=>⟨λhlt=>?_,λhge=>?_⟩⟩
 ·have hlt:(k:Int)<min ((r:Int)+1) n:=hlt
  have hkn:k<n:=by omega
  have hca:((k:Int)+1)=((k+1:Nat):Int):=by omega
  have hkl:=q9y m n hn10 k (by omega)
  have hsl:=wi9 n (k+1) hn10 (by omega)
  rw[hca]
  have hb1:(0:Int)<=((k+1:Nat):Int)/\((k+1:Nat):Int)<=1000:=by omega
  refine⟨qa7 (by omega) (by omega),⟨hb1,by omega⟩,k,0,Nat.zero_le _,rfl,by simp[qq5],λc hc=>⟨?_,λhce=>?_⟩⟩
  ·rintro⟨set,⟨⟩⟩ hset T
   dsimp only
   have hs:(qh0 n (k+1:Nat))[c]? = some set:=by
    rw[List.getElem?_map] at hset
    obtain⟨x,hx,hx2⟩:=Option.map_eq_some_iff.1 hset
    injection hx2 with hx2
    rw[<- hx2]; exact hx
   have hcl:c<(qh0 n (k+1:Nat)).length:=(List.getElem?_eq_some_iff.1 hs).1
   have hnl:nL (qh0 n (k+1:Nat)) c=set:=by rw[ql4 _ c hcl]; exact(List.getElem?_eq_some_iff.1 hs).2
   have hK:w11 m set:=hker k hkn set (List.mem_of_getElem? hs)
   have hctl:=q6g m n (qh0 n (k+1:Nat)) c
   refine⟨hK,λh1=>⟨c+1,hcl,rfl,?_⟩,λh1=>⟨by omega,?_,λh2=>⟨c+1,hcl,rfl,?_⟩,λh2=>⟨by omega,(T,k,c,set),0,Nat.zero_le _,⟨rfl,rfl,⟨rfl,rfl⟩,rfl⟩,λj hj=>⟨λhjl=>?_,λhjl=>?_⟩⟩⟩⟩
   ·rw[qq5,hnl,if_neg]
    intro q
    unfold q7e at q
    rw[Bool.and_eq_true,decide_eq_true_eq] at q
    exact h1 (by omega)
   ·have h0:=q6i hK (nL (qk7 m set) 0) (qn6 _ 0 (by omega))
    omega
   ·rw[qq5,hnl,if_neg]
    intro q
    unfold q7e at q
    rw[Bool.and_eq_true,h2] at q
    cases q.2
   ·dsimp only at hj ⊢
    have hat:=hK.cho.at_ 0 (by omega) j hjl
    rw[hnn] at hat
    have hkm:=q6i hK (nL (qk7 m set) 0) (qn6 _ 0 (by omega))
    have hsp:=qj3 n set (nL (qk7 m set) 0) j
    have hat':0<=nI set j/\nI set j<((qd1 n set (nL (qk7 m set) 0) j).length:Int):=⟨hat.1,by omega⟩
    exact⟨hjl,hjl,by omega,by omega,hat',by omega,qa7 (by omega) (by omega),j+1,hjl,by omega,by omega,rfl⟩
   ·dsimp only at hj ⊢
    obtain rfl:j=set.length:=by omega
    have hkm:=q6i hK (nL (qk7 m set) 0) (qn6 _ 0 (by omega))
    refine⟨q0l hkm.2.2 (by omega) hkm.1 _ (Nat.le_refl _),by rw[List.length_append]; omega,rfl,rfl,c+1,hcl,rfl,?_⟩
    have hg:q7e (qk7 m set)=true:=by
     unfold q7e
     rw[h2,Bool.and_eq_true,decide_eq_true_eq]
     exact⟨by omega,rfl⟩
    rw[qq5,hnl,if_pos hg,List.append_assoc]
    rfl
  ·rw[List.length_map] at hce
   subst hce
   exact⟨qa7 (by omega) (by omega),k+1,by omega,by omega,rfl,rfl⟩
 ·have hge:min ((r:Int)+1) n<=k:=hge
  obtain rfl:k=q25 m:=by omega
  exact⟨rfl,rfl⟩
end Go.Proofs.YtempacilejhbgaaGreat
