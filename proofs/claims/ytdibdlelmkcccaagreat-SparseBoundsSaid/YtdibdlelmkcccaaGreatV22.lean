/- Twins, program and reference: contracts by the engine. No condition. -/
import Derived.Test.YtdibdlelmkcccaaGreatV18
set_option linter.unusedVariables false
set_option linter.unusedSimpArgs false
namespace Go.Proofs.YtdibdlelmkcccaaGreat
open Go Go.RowKit Eng
def qd2 (n:Nat) (set v:List Int):Nat->List Int
 | 0=>List.replicate n 0
 | j+1=>(qd2 n set v j).set (nI set j).toNat (nI v j)
def q79 (l:List (List Int)):Bool:=decide (l.length=1) && !((nL l 0).any λe=>(0:Int)==e)
def x2y (m:List (List Int)) (n:Nat) (set:List Int):List Int:=q6v (qd2 n set (nL (qk9 m set) 0) set.length)
def qr3 (m:List (List Int)) (n:Nat) (L:List (List Int)):Nat->List (List Int)
 | 0=>[]
 | c+1=>if q79 (qk9 m (nL L c)) then qr3 m n L c++[x2y m n (nL L c)] else qr3 m n L c
def q2c (m:List (List Int)) (n:Nat):Nat->List (List Int)
 | 0=>[]
 | k+1=>q2c m n k++qr3 m n (qe6 n (k+1:Nat)) (qe6 n (k+1:Nat)).length
def q5i (m:List (List Int)):Nat:=min ((qi6 m (q0l (nL m 0).length)).2.length+1) (nL m 0).length
def q2d (m:List (List Int)):List (List Int) × Int:=if validB m=false then([],1) else(q2c m (nL m 0).length (q5i m),0)
structure wn7 (m:List (List Int)):Prop where
 rank:wn0 m
 ker:∀k,k<(nL m 0).length->∀set∈qe6 (nL m 0).length (k+1:Nat),w3y m set
abbrev x92:qc0:=qf8 true none [tMask] [tMask,tInt] (λx=>validB x.1=true->wn7 x.1) (λx=>((q2d x.1).1,(q2d x.1).2,()))
def x5l (m:List (List Int)) (n:Nat):Nat->Option Inv
 | 0=>some (Inv.of [30] 4 (λk:Nat=>[(30,.lit (.int .i64 k))]) (λk=>[.box 23 (.cons (.dat (.list (.int .i64)) m) .nil),.box 3 (.cons (.lit (.int .i64 n)) .nil),.box 22 (.cons (.msl 3 .none) .nil),.mat 24 3 (.int .i64) (q2c m n k) .none .none]) (λk=>k<=q5i m) (λk=>q5i m-k))
 | 1=>some (Eng.Inv.mk Nat Nat [] 4 (λ_ _=>[]) (λk c=>[.box 23 (.cons (.dat (.list (.int .i64)) m) .nil),.box 3 (.cons (.lit (.int .i64 n)) .nil),.box 22 (.cons (.msl 3 .none) .nil),.mat 24 3 (.int .i64) (q2c m n k++qr3 m n (qe6 n (k+1:Nat)) c) .none .none]) (λk c=>c<=(qe6 n (k+1:Nat)).length) (λk c=>c))
 | 2=>some (Eng.Inv.mk (q7y × Nat × Nat × List Int) Nat [9,11,52,54] 6 (λq j=>[(9,.msl 4 (some 0)),(11,.own 5),(52,.msl 4 (some 0)),(54,.lit (.int .i64 j))]) (λq j=>[.box 23 (.cons (.dat (.list (.int .i64)) m) .nil),.box 3 (.cons (.lit (.int .i64 n)) .nil),.box 22 (.cons (.msl 3 .none) .nil),.mat 24 3 (.int .i64) (q2c m n q.2.1++qr3 m n (qe6 n (q.2.1+1:Nat)) q.2.2.1) .none .none,.mat 3 3 (.int .i64) [q.2.2.2] (some []) (some q.1),.vec 3 (.int .i64) (qd2 n q.2.2.2 (nL (qk9 m q.2.2.2) 0) j)]) (λq j=>j<=q.2.2.2.length) (λq j=>q.2.2.2.length-j))
 | _=>none
def x5m (mats em:List Nat) (specs:List (Nat × qc0)) (muts:List (Nat × qr6)) (its:List (Nat × qz3)):Ctx:={ specs:=specs,tys:=tys,wr:=[],muts:=muts,mats:=mats,em:=em,its:=its }
theorem x5n (mats em:List Nat) {specs:List (Nat × qc0)} {muts:List (Nat × qr6)} {its:List (Nat × qz3)} (h:SpecsOk Tryz.prog specs) (hm:MutsOk muts) (hi:ItsOk its):Sound Tryz.prog (x5m mats em specs muts its):=SpecsOk.sound h q1o (by kernel_rfl) hi (hmu:=hm)
theorem q62 (m:List (List Int)) (n:Nat) (L:List (List Int)):∀c,(qr3 m n L c).length<=c
 | 0=>Nat.le_refl _
 | c+1=>by
  have:=q62 m n L c
  rw[qr3]
  split
  ·simp; omega
  ·omega
theorem wu7:((List.range 11).all λn=>(List.range 12).all λk=>decide ((qe6 (n:Nat) (k:Nat)).length<=1000))=true:=by decide +kernel
theorem wn8 (n k:Nat) (hn:n<=10) (hk:k<=11):(qe6 (n:Nat) (k:Nat)).length<=1000:=
 of_decide_eq_true (List.all_eq_true.1 (List.all_eq_true.1 wu7 n (List.mem_range.2 (by omega))) k (List.mem_range.2 (by omega)))
theorem w1g (m:List (List Int)) (n:Nat) (hn:n<=10):∀k,k<=11->(q2c m n k).length<=1000*k
 | 0,_=>Nat.le_refl _
 | k+1,hk=>by
  have h1:=w1g m n hn k (by omega)
  have h2:=wn8 n (k+1) hn hk
  have h3:=q62 m n (qe6 (n:Nat) (k+1:Nat)) (qe6 (n:Nat) (k+1:Nat)).length
  rw[q2c,List.length_append]
  omega
theorem q63 {R:List (List Int)} {P:List Int} {n:Nat} (h:w7h R P n) (hn:n<=1000):∀f,f<=n->∀x∈qo2 R P n f,x.length=n/\q36 x
 | 0,_,x,hx=>by cases hx
 | f+1,hf,x,hx=>by
  rw[qo2] at hx
  split at hx
  ·exact q63 h hn f (by omega) x hx
  ·rename_i hfree
   rcases List.mem_append.1 hx with hx | hx
   ·exact q63 h hn f (by omega) x hx
   ·obtain rfl:=List.mem_singleton.1 hx
    have hb:q36 (hTo R P n f P.length):=⟨by rw[q6w]; exact hn,wt9 h (by omega) (Bool.eq_false_iff.2 hfree) _ (Nat.le_refl _)⟩
    exact⟨by rw[q8y,q6w],q84 hb⟩
theorem q64 {m:List (List Int)} {set:List Int} (h:w3y m set) (x:List Int) (hx:x∈qk9 m set):x.length=set.length/\set.length<=1000/\q36 x:=by
 have hw:=h.red.w
 have:=q63 h.ar hw _ (Nat.le_refl _) x hx
 exact⟨this.1,hw,this.2⟩
theorem qj2 (n:Nat) (set v:List Int):∀j,(qd2 n set v j).length=n
 | 0=>by simp[qd2]
 | j+1=>by rw[qd2,List.length_set]; exact qj2 n set v j
theorem q0o {n:Nat} {set v:List Int} (hv:q36 v) (hn:n<=1000) (hl:v.length=set.length):∀j,j<=set.length->q36 (qd2 n set v j)
 | 0,_=>⟨by simp[qd2]; omega,λx hx=>by
  obtain rfl:=(List.mem_replicate.1 hx).2
  unfold BIG; omega⟩
 | j+1,hj=>by
  have h1:=q0o hv hn hl j (by omega)
  refine⟨by rw[qj2]; exact hn,λx hx=>?_⟩
  rw[qd2] at hx
  rcases List.mem_or_eq_of_mem_set hx with hx | rfl
  ·exact h1.2 x hx
  ·exact q0k hv (by omega)
theorem w7u:qd3 Tryz.prog 125 x92:=by
 refine meets (x5n [72] [] (SpecsOk.cons w3z (SpecsOk.cons q83 (SpecsOk.cons w7i (SpecsOk.cons wm8 (SpecsOk.nil _))))) (MutsOk.cons w3x MutsOk.nil) (ItsOk.cons q82 ItsOk.nil)) Tryz.func125 rfl rfl (λx=>x5l x.1 (nL x.1 0).length) (λ_=>by kernel_rfl) (by decide) ?_
 rintro⟨m,⟨⟩⟩ h
 revert m
 intro(m:List (List Int)) (h:validB m=true->wn7 m)
 refine @qd8 _ ((validB m=true->wn0 m)/\((Prod.snd (qw5 m) != (0:Int))=true->Prod.fst (q2d m)=[]/\Prod.snd (qw5 m)=Prod.snd (q2d m)/\True)/\((Prod.snd (qw5 m) != (0:Int))=false->((0:Int)<=(0:Int)/\(0:Int)<(↑(List.length m):Int))/\fits .i64 (Prod.fst (qw5 m)+(1:Int))/\∃(v1:Unit),∃(v2:Nat),Nat.le v2 (q5i m)/\(((0:Int)=(↑v2:Int)/\True)/\(m=m/\True)/\((↑(List.length (qa1 (Ty.list (Ty.int .i64)) m (0:Nat))):Int)=(↑(List.length (nL m (0:Nat))):Int)/\True)/\(True/\True)/\q2c m (List.length (nL m (0:Nat))) v2=[]/\True)/\∀(v3:Nat),Nat.le v3 (q5i m)->(decide ((↑v3:Int)<max2 false (Prod.fst (qw5 m)+(1:Int)) (↑(List.length (qa1 (Ty.list (Ty.int .i64)) m (0:Nat))):Int))=true->fits .i64 ((↑v3:Int)+(1:Int))/\True/\(((0:Ty.den tInt)<=(↑v3:Int)+(1:Int)/\(↑v3:Int)+(1:Int)<=(1000:Ty.den tInt))/\(0:Ty.den tInt)<=(↑(List.length (nL m (0:Nat))):Int)/\(↑(List.length (nL m (0:Nat))):Int)<=(1000:Ty.den tInt))/\∃(v6:Nat),∃(v7:Nat),Nat.le v7 (List.length (qe6 (↑(List.length (nL m (0:Nat))):Int) (↑(v6+(1:Nat)):Int)))/\v7=(0:Nat)/\((m=m/\True)/\((↑(List.length (nL m (0:Nat))):Int)=(↑(List.length (nL m (0:Nat))):Int)/\True)/\(True/\True)/\(q2c m (List.length (nL m (0:Nat))) v3=q2c m (List.length (nL m (0:Nat))) v6++qr3 m (List.length (nL m (0:Nat))) (qe6 (↑(List.length (nL m (0:Nat))):Int) (↑(v6+(1:Nat)):Int)) v7/\True/\True)/\True)/\∀(v8:Nat),Nat.le v8 (List.length (qe6 (↑(List.length (nL m (0:Nat))):Int) (↑(v6+(1:Nat)):Int)))->(∀(v10:List Int × qa5._f [] PUnit.unit),(List.map (λ(v12:List Int)=>(v12,())) (qe6 (↑(List.length (nL m (0:Nat))):Int) ((↑v3:Int)+(1:Int))))[v8]?=some v10->∀(v12:q7y),w3y m (qa1 (Ty.list (Ty.int .i64)) [Prod.fst v10] (0:Nat))/\(((↑(List.length (qk9 m (qa1 (Ty.list (Ty.int .i64)) [Prod.fst v10] (0:Nat)))):Int) != (1:Int))=true->[Prod.fst v10]=[Prod.fst v10]/\v12=v12/\True/\∃(v14:Nat),Nat.le v14 (List.length (qe6 (↑(List.length (nL m (0:Nat))):Int) (↑(v6+(1:Nat)):Int)))/\v14=v8+(1:Nat)/\(m=m/\True)/\((↑(List.length (nL m (0:Nat))):Int)=(↑(List.length (nL m (0:Nat))):Int)/\True)/\(True/\True)/\(q2c m (List.length (nL m (0:Nat))) v6++qr3 m (List.length (nL m (0:Nat))) (qe6 (↑(List.length (nL m (0:Nat))):Int) (↑(v6+(1:Nat)):Int)) v8=q2c m (List.length (nL m (0:Nat))) v6++qr3 m (List.length (nL m (0:Nat))) (qe6 (↑(List.length (nL m (0:Nat))):Int) (↑(v6+(1:Nat)):Int)) v14/\True/\True)/\True)/\(((↑(List.length (qk9 m (qa1 (Ty.list (Ty.int .i64)) [Prod.fst v10] (0:Nat)))):Int) != (1:Int))=false->((0:Int)<=(0:Int)/\(0:Int)<(↑(List.length (qk9 m (qa1 (Ty.list (Ty.int .i64)) [Prod.fst v10] (0:Nat)))):Int))/\List.length (qa1 (Ty.list (Ty.int .i64)) (qk9 m (qa1 (Ty.list (Ty.int .i64)) [Prod.fst v10] (0:Nat))) (0:Nat))<=(1000000:Nat)/\((List.any (qa1 (Ty.list (Ty.int .i64)) (qk9 m (qa1 (Ty.list (Ty.int .i64)) [Prod.fst v10] (0:Nat))) (0:Nat)) λ(v15:Int)=>(0:Int)==v15)=true->[Prod.fst v10]=[Prod.fst v10]/\v12=v12/\True/\∃(v15:Nat),Nat.le v15 (List.length (qe6 (↑(List.length (nL m (0:Nat))):Int) (↑(v6+(1:Nat)):Int)))/\v15=v8+(1:Nat)/\(m=m/\True)/\((↑(List.length (nL m (0:Nat))):Int)=(↑(List.length (nL m (0:Nat))):Int)/\True)/\(True/\True)/\(q2c m (List.length (nL m (0:Nat))) v6++qr3 m (List.length (nL m (0:Nat))) (qe6 (↑(List.length (nL m (0:Nat))):Int) (↑(v6+(1:Nat)):Int)) v8=q2c m (List.length (nL m (0:Nat))) v6++qr3 m (List.length (nL m (0:Nat))) (qe6 (↑(List.length (nL m (0:Nat))):Int) (↑(v6+(1:Nat)):Int)) v15/\True/\True)/\True)/\((List.any (qa1 (Ty.list (Ty.int .i64)) (qk9 m (qa1 (Ty.list (Ty.int .i64)) [Prod.fst v10] (0:Nat))) (0:Nat)) λ(v15:Int)=>(0:Int)==v15)=false->((↑(List.length (nL m (0:Nat))):Int)=(↑(List.length (nL m (0:Nat))):Int)/\(0:Int)<=(↑(List.length (nL m (0:Nat))):Int)/\(↑(List.length (nL m (0:Nat))):Int)<=(1000000:Int))/\∃(v15:q7y × Nat × Nat × List Int),∃(v16:Nat),Nat.le v16 (List.length (Prod.snd (Prod.snd (Prod.snd v15))))/\((some (0:Nat)=some (0:Nat)/\True/\some (0:Nat)=some (0:Nat)/\(0:Int)=(↑v16:Int)/\True)/\(m=m/\True)/\((↑(List.length (nL m (0:Nat))):Int)=(↑(List.length (nL m (0:Nat))):Int)/\True)/\(True/\True)/\(q2c m (List.length (nL m (0:Nat))) v6++qr3 m (List.length (nL m (0:Nat))) (qe6 (↑(List.length (nL m (0:Nat))):Int) (↑(v6+(1:Nat)):Int)) v8=q2c m (List.length (nL m (0:Nat))) (Prod.fst (Prod.snd v15))++qr3 m (List.length (nL m (0:Nat))) (qe6 (↑(List.length (nL m (0:Nat))):Int) (↑(Prod.fst (Prod.snd v15)+(1:Nat)):Int)) (Prod.fst (Prod.snd (Prod.snd v15)))/\True/\True)/\([Prod.fst v10]=[Prod.snd (Prod.snd (Prod.snd v15))]/\True/\v12=Prod.fst v15)/\List.replicate (Int.toNat (↑(List.length (nL m (0:Nat))):Int)) (Ty.dflt (TI.ty T3))=qd2 (List.length (nL m (0:Nat))) (Prod.snd (Prod.snd (Prod.snd v15))) (nL (qk9 m (Prod.snd (Prod.snd (Prod.snd v15)))) (0:Nat)) v16/\True)/\∀(v17:Nat),Nat.le v17 (List.length (Prod.snd (Prod.snd (Prod.snd v15))))->(decide ((↑v17:Int)<(↑(List.length (qa1 (Ty.list (Ty.int .i64)) [Prod.fst v10] (0:Nat))):Int))=true->((0:Int)<=(↑v17:Int)/\(↑v17:Int)<(↑(List.length (qa1 (Ty.list (Ty.int .i64)) [Prod.snd (Prod.snd (Prod.snd v15))] (0:Nat))):Int))/\Int.toNat (↑v17:Int)<List.length (qa1 (Ty.list (Ty.int .i64)) [Prod.snd (Prod.snd (Prod.snd v15))] (0:Nat))/\((0:Int)<=(0:Int)/\(0:Int)<(↑(List.length (qk9 m (qa1 (Ty.list (Ty.int .i64)) [Prod.fst v10] (0:Nat)))):Int))/\((0:Int)<=(↑v17:Int)/\(↑v17:Int)<(↑(List.length (qa1 (Ty.list (Ty.int .i64)) (qk9 m (qa1 (Ty.list (Ty.int .i64)) [Prod.fst v10] (0:Nat))) (0:Nat))):Int))/\((0:Int)<=qa1 (Ty.int .i64) (qa1 (Ty.list (Ty.int .i64)) [Prod.snd (Prod.snd (Prod.snd v15))] (0:Nat)) (Int.toNat (↑v17:Int))/\qa1 (Ty.int .i64) (qa1 (Ty.list (Ty.int .i64)) [Prod.snd (Prod.snd (Prod.snd v15))] (0:Nat)) (Int.toNat (↑v17:Int))<(↑(List.length (qd2 (List.length (nL m (0:Nat))) (Prod.snd (Prod.snd (Prod.snd v15))) (nL (qk9 m (Prod.snd (Prod.snd (Prod.snd v15)))) (0:Nat)) v17)):Int))/\Int.toNat (qa1 (Ty.int .i64) (qa1 (Ty.list (Ty.int .i64)) [Prod.snd (Prod.snd (Prod.snd v15))] (0:Nat)) (Int.toNat (↑v17:Int)))<List.length (qd2 (List.length (nL m (0:Nat))) (Prod.snd (Prod.snd (Prod.snd v15))) (nL (qk9 m (Prod.snd (Prod.snd (Prod.snd v15)))) (0:Nat)) v17)/\fits .i64 ((↑v17:Int)+(1:Int))/\∃(v20:Nat),Nat.le v20 (List.length (Prod.snd (Prod.snd (Prod.snd v15))))/\List.length (Prod.snd (Prod.snd (Prod.snd v15)))-v20<List.length (Prod.snd (Prod.snd (Prod.snd v15)))-v17/\(some (0:Nat)=some (0:Nat)/\True/\some (0:Nat)=some (0:Nat)/\(↑v17:Int)+(1:Int)=(↑v20:Int)/\True)/\(m=m/\True)/\((↑(List.length (nL m (0:Nat))):Int)=(↑(List.length (nL m (0:Nat))):Int)/\True)/\(True/\True)/\(q2c m (List.length (nL m (0:Nat))) (Prod.fst (Prod.snd v15))++qr3 m (List.length (nL m (0:Nat))) (qe6 (↑(List.length (nL m (0:Nat))):Int) (↑(Prod.fst (Prod.snd v15)+(1:Nat)):Int)) (Prod.fst (Prod.snd (Prod.snd v15)))=q2c m (List.length (nL m (0:Nat))) (Prod.fst (Prod.snd v15))++qr3 m (List.length (nL m (0:Nat))) (qe6 (↑(List.length (nL m (0:Nat))):Int) (↑(Prod.fst (Prod.snd v15)+(1:Nat)):Int)) (Prod.fst (Prod.snd (Prod.snd v15)))/\True/\True)/\([Prod.snd (Prod.snd (Prod.snd v15))]=[Prod.snd (Prod.snd (Prod.snd v15))]/\True/\Prod.fst v15=Prod.fst v15)/\List.set (qd2 (List.length (nL m (0:Nat))) (Prod.snd (Prod.snd (Prod.snd v15))) (nL (qk9 m (Prod.snd (Prod.snd (Prod.snd v15)))) (0:Nat)) v17) (Int.toNat (qa1 (Ty.int .i64) (qa1 (Ty.list (Ty.int .i64)) [Prod.snd (Prod.snd (Prod.snd v15))] (0:Nat)) (Int.toNat (↑v17:Int)))) (qa1 (Ty.int .i64) (qa1 (Ty.list (Ty.int .i64)) (qk9 m (qa1 (Ty.list (Ty.int .i64)) [Prod.fst v10] (0:Nat))) (0:Nat)) (Int.toNat (↑v17:Int)))=qd2 (List.length (nL m (0:Nat))) (Prod.snd (Prod.snd (Prod.snd v15))) (nL (qk9 m (Prod.snd (Prod.snd (Prod.snd v15)))) (0:Nat)) v20/\True)/\(decide ((↑v17:Int)<(↑(List.length (qa1 (Ty.list (Ty.int .i64)) [Prod.fst v10] (0:Nat))):Int))=false->q36 (nL [qd2 (List.length (nL m (0:Nat))) (Prod.snd (Prod.snd (Prod.snd v15))) (nL (qk9 m (Prod.snd (Prod.snd (Prod.snd v15)))) (0:Nat)) v17] (0:Nat))/\((0:Nat)<(0:Nat)+(1:Nat)/\List.length (q2c m (List.length (nL m (0:Nat))) (Prod.fst (Prod.snd v15))++qr3 m (List.length (nL m (0:Nat))) (qe6 (↑(List.length (nL m (0:Nat))):Int) (↑(Prod.fst (Prod.snd v15)+(1:Nat)):Int)) (Prod.fst (Prod.snd (Prod.snd v15))))+((0:Nat)+(1:Nat))<=(1000000:Nat))/\[Prod.snd (Prod.snd (Prod.snd v15))]=[Prod.fst v10]/\Prod.fst v15=v12/\True/\∃(v20:Nat),Nat.le v20 (List.length (qe6 (↑(List.length (nL m (0:Nat))):Int) (↑(v6+(1:Nat)):Int)))/\v20=v8+(1:Nat)/\(m=m/\True)/\((↑(List.length (nL m (0:Nat))):Int)=(↑(List.length (nL m (0:Nat))):Int)/\True)/\(True/\True)/\(q2c m (List.length (nL m (0:Nat))) (Prod.fst (Prod.snd v15))++qr3 m (List.length (nL m (0:Nat))) (qe6 (↑(List.length (nL m (0:Nat))):Int) (↑(Prod.fst (Prod.snd v15)+(1:Nat)):Int)) (Prod.fst (Prod.snd (Prod.snd v15)))++[qa1 (Ty.list (Ty.int .i64)) [q6v (nL [qd2 (List.length (nL m (0:Nat))) (Prod.snd (Prod.snd (Prod.snd v15))) (nL (qk9 m (Prod.snd (Prod.snd (Prod.snd v15)))) (0:Nat)) v17] (0:Nat))] (0:Nat)]=q2c m (List.length (nL m (0:Nat))) v6++qr3 m (List.length (nL m (0:Nat))) (qe6 (↑(List.length (nL m (0:Nat))):Int) (↑(v6+(1:Nat)):Int)) v20/\True/\True)/\True))))/\(v8=List.length (List.map (λ(v11:List Int)=>(v11,())) (qe6 (↑(List.length (nL m (0:Nat))):Int) ((↑v3:Int)+(1:Int))))->fits .i64 ((↑v3:Int)+(1:Int))/\∃(v11:Nat),Nat.le v11 (q5i m)/\q5i m-v11<q5i m-v3/\((↑v3:Int)+(1:Int)=(↑v11:Int)/\True)/\(m=m/\True)/\((↑(List.length (nL m (0:Nat))):Int)=(↑(List.length (nL m (0:Nat))):Int)/\True)/\(True/\True)/\(q2c m (List.length (nL m (0:Nat))) v6++qr3 m (List.length (nL m (0:Nat))) (qe6 (↑(List.length (nL m (0:Nat))):Int) (↑(v6+(1:Nat)):Int)) v8=q2c m (List.length (nL m (0:Nat))) v11/\True/\True)/\True))/\(decide ((↑v3:Int)<max2 false (Prod.fst (qw5 m)+(1:Int)) (↑(List.length (qa1 (Ty.list (Ty.int .i64)) m (0:Nat))):Int))=false->q3p (Ty.int .i64) (q2c m (List.length (nL m (0:Nat))) v3) none=Prod.fst (q2d m)/\(0:Int)=Prod.snd (q2d m)/\True))) (by kernel_rfl) ?_
 try simp only[z0,z1,z2,z3,z4,z5,z6,z7,z8,z9,z10,Int.reduceEq,z11,z12,z13,z14,z15,z16,z17,z18,z19,z20,z21,z22,z23,z24,z25,z26,z27,z28,z29,z30,Int.reduceLE,Int.reduceLT,z31,z32,z33,z34,qa4]
 try simp only[qb6,qb7,qc8,List.set_cons_zero,List.cons.injEq,and_true,true_and]
 refine⟨λhv=>(h hv).rank,λhe=>?_,λhe=>?_⟩
 ·have hv:validB m=false:=by
   cases e:validB m with
   | false=>rfl
   | true=>exact absurd (by simp[qw5,e]) he
  simp[qw5,q2d,hv]
 have hv:validB m=true:=by
  cases e:validB m with
  | true=>rfl
  | false=>simp[qw5,e] at he
 have hO:=h hv
 have hM:=Mk.of hv
 have hm1:=hM.rows1
 have hn1:=hM.pix1
 have hn10:=hM.pix10
 have hrank:(qi6 m (q0l (nL m 0).length)).2.length<=10:=by
  have:=(q1d hO.rank.red (nL m 0).length).pivj
  unfold qi6
  rw[qk0]
  exact Nat.le_trans this hn10
 have hr:qw5 m=(((qi6 m (q0l (nL m 0).length)).2.length:Int),0):=by simp[qw5,hv]
 have hcN:q5i m=min ((qi6 m (q0l (nL m 0).length)).2.length+1) (nL m 0).length:=rfl
 have hcR:q2d m=(q2c m (nL m 0).length (q5i m),0):=by simp[q2d,hv]
 rw[hr,hcR]
 generalize(qi6 m (q0l (nL m 0).length)).2.length=r at *
 have hker:=hO.ker
 generalize hnn:(nL m 0).length=n at *
 dsimp only
 refine⟨by omega,qa7 (by omega) (by omega),(),0,Nat.zero_le _,⟨rfl,rfl⟩,λk hk=>⟨λhlt=>?_,λhge=>?_⟩⟩
 ·have hlt:(k:Int)<min ((r:Int)+1) n:=hlt
  have hkn:k<n:=by omega
  have hca:((k:Int)+1)=((k+1:Nat):Int):=by omega
  have hkl:=w1g m n hn10 k (by omega)
  have hsl:=wn8 n (k+1) hn10 (by omega)
  rw[hca]
  have hb1:(0:Int)<=((k+1:Nat):Int)/\((k+1:Nat):Int)<=1000:=by omega
  refine⟨qa7 (by omega) (by omega),⟨hb1,by omega⟩,k,0,Nat.zero_le _,rfl,by simp[qr3],λc hc=>⟨?_,λhce=>?_⟩⟩
  ·rintro⟨set,⟨⟩⟩ hset T
   dsimp only
   have hs:(qe6 n (k+1:Nat))[c]? = some set:=by
    rw[List.getElem?_map] at hset
    obtain⟨x,hx,hx2⟩:=Option.map_eq_some_iff.1 hset
    injection hx2 with hx2
    rw[<- hx2]; exact hx
   have hcl:c<(qe6 n (k+1:Nat)).length:=(List.getElem?_eq_some_iff.1 hs).1
   have hnl:nL (qe6 n (k+1:Nat)) c=set:=by rw[ql9 _ c hcl]; exact(List.getElem?_eq_some_iff.1 hs).2
   have hK:w3y m set:=hker k hkn set (List.mem_of_getElem? hs)
   have hctl:=q62 m n (qe6 n (k+1:Nat)) c
   refine⟨hK,λh1=>⟨c+1,hcl,rfl,?_⟩,λh1=>⟨by omega,?_,λh2=>⟨c+1,hcl,rfl,?_⟩,λh2=>⟨by omega,(T,k,c,set),0,Nat.zero_le _,⟨rfl,rfl,⟨rfl,rfl⟩,rfl⟩,λj hj=>⟨λhjl=>?_,λhjl=>?_⟩⟩⟩⟩
   ·rw[qr3,hnl,if_neg]
    intro q
    unfold q79 at q
    rw[Bool.and_eq_true,decide_eq_true_eq] at q
    exact h1 (by omega)
   ·have h0:=q64 hK (nL (qk9 m set) 0) (qn8 _ 0 (by omega))
    omega
   ·rw[qr3,hnl,if_neg]
    intro q
    unfold q79 at q
    rw[Bool.and_eq_true,h2] at q
    cases q.2
   ·dsimp only at hj ⊢
    have hat:=hK.cho.at_ 0 (by omega) j hjl
    rw[hnn] at hat
    have hkm:=q64 hK (nL (qk9 m set) 0) (qn8 _ 0 (by omega))
    have hsp:=qj2 n set (nL (qk9 m set) 0) j
    have hat':0<=nI set j/\nI set j<((qd2 n set (nL (qk9 m set) 0) j).length:Int):=⟨hat.1,by omega⟩
    exact⟨hjl,hjl,by omega,by omega,hat',by omega,qa7 (by omega) (by omega),j+1,hjl,by omega,by omega,rfl⟩
   ·dsimp only at hj ⊢
    obtain rfl:j=set.length:=by omega
    have hkm:=q64 hK (nL (qk9 m set) 0) (qn8 _ 0 (by omega))
    refine⟨q0o hkm.2.2 (by omega) hkm.1 _ (Nat.le_refl _),by rw[List.length_append]; omega,rfl,rfl,c+1,hcl,rfl,?_⟩
    have hg:q79 (qk9 m set)=true:=by
     unfold q79
     rw[h2,Bool.and_eq_true,decide_eq_true_eq]
     exact⟨by omega,rfl⟩
    rw[qr3,hnl,if_pos hg,List.append_assoc]
    rfl
  ·rw[List.length_map] at hce
   subst hce
   exact⟨qa7 (by omega) (by omega),k+1,by omega,by omega,rfl,rfl⟩
 ·have hge:min ((r:Int)+1) n<=k:=hge
  obtain rfl:k=q5i m:=by omega
  exact⟨rfl,rfl⟩
def qi8 (m:List (List Int)):List Int × Int:=if(q2d m).2≠0 then([],(q2d m).2) else if(q2d m).1=[] then([],8) else(nL (q2d m).1 0,0)
abbrev x5o:qc0:=qf8 false none [tMask] [tInts,tInt] (λx=>validB x.1=true->wn7 x.1) (λx=>((qi8 x.1).1,(qi8 x.1).2,()))
theorem w38:qd3 Tryz.prog 81 x5o:=by
 refine meets (snd (SpecsOk.cons w7u (SpecsOk.nil _))) Tryz.func81 rfl rfl (λ_ _=>none) (λ_=>by kernel_rfl) (by decide) ?_
 rintro⟨m,⟨⟩⟩ h
 revert m
 intro(m:List (List Int)) (h:validB m=true->wn7 m)
 refine @qd8 _ (let Q0:=List.length (Prod.fst (q2d m)); (validB m=true->wn7 m)/\((Prod.snd (q2d m) != (0:Int))=true->Prod.fst (qi8 m)=[]/\Prod.snd (q2d m)=Prod.snd (qi8 m)/\True)/\((Prod.snd (q2d m) != (0:Int))=false->(((↑Q0:Int)==(0:Int))=true->Prod.fst (qi8 m)=[]/\(8:Int)=Prod.snd (qi8 m)/\True)/\(((↑Q0:Int)==(0:Int))=false->((0:Int)<=(0:Int)/\(0:Int)<(↑Q0:Int))/\qa1 (Ty.list (Ty.int .i64)) (Prod.fst (q2d m)) (0:Nat)=Prod.fst (qi8 m)/\(0:Int)=Prod.snd (qi8 m)/\True))) (by kernel_rfl) ?_
 try simp only[z0,z1,z2,z3,z4,z5,z6,z7,z8,z9,z10,Int.reduceEq,z11,z12,z13,z14,z15,z16,z17,z18,z19,z20,z21,z22,z23,z24,z25,z26,z27,z28,z29,z30,Int.reduceLE,Int.reduceLT,z31,z32,z33,z34,qa4]
 try simp only[qb6,qb7,qc8,List.set_cons_zero,List.cons.injEq,and_true,true_and]
 refine⟨h,λhe=>by simp[qi8,he],λhe=>⟨λh0=>?_,λh0=>?_⟩⟩
 ·have e:(q2d m).1=[]:=List.eq_nil_of_length_eq_zero (by omega)
  simp[qi8,he,e]
 ·have e:¬(q2d m).1=[]:=λe=>by rw[e] at h0; exact h0 rfl
  unfold qi8
  rw[if_neg (λq=>q he),if_neg e]
  exact⟨by omega,rfl,rfl⟩
def q1p (l:List Int):Nat->Nat
 | 0=>0
 | k+1=>if nI l k≠0 then q1p l k+1 else q1p l k
theorem q65 (l:List Int):∀k,q1p l k<=k
 | 0=>Nat.le_refl _
 | k+1=>by have:=q65 l k; rw[q1p]; split <;> omega
def qm3 (m:List (List Int)):Int × Int:=((q1p (qi8 m).1 (qi8 m).1.length:Int),(qi8 m).2)
structure wd0 (m:List (List Int)):Prop where
 cir:validB m=true->wn7 m
 len:(qi8 m).1.length<=1000
abbrev x1c:qc0:=qf8 true none [tMask] [tInt,tInt] (λx=>wd0 x.1) (λx=>((qm3 x.1).1,(qm3 x.1).2,()))
def xs5 (l:List Int):Nat->Option Inv
 | 0=>some (Inv.of [6,16] 0 (λk:Nat=>[(6,.lit (.int .i64 (q1p l k))),(16,.lit (.int .i64 k))]) (λ_=>[]) (λk=>k<=l.length) (λk=>l.length-k))
 | _=>none
theorem wu8:qd3 Tryz.prog 44 x1c:=by
 refine meets (snd (SpecsOk.cons w38 (SpecsOk.nil _))) Tryz.func44 rfl rfl (λx=>xs5 (qi8 x.1).1) (λ_=>by kernel_rfl) (by decide) ?_
 rintro⟨m,⟨⟩⟩ h
 revert m
 intro(m:List (List Int)) (h:wd0 m)
 refine @qd8 _ (let Q0:=Prod.fst (qi8 m); let Q1:=List.length Q0; (validB m=true->wn7 m)/\∃(v0:Unit),∃(v1:Nat),Nat.le v1 Q1/\(((0:Int)=(↑(q1p Q0 v1):Int)/\(0:Int)=(↑v1:Int)/\True)/\True)/\∀(v2:Nat),Nat.le v2 Q1->(decide ((↑v2:Int)<(↑Q1:Int))=true->((0:Int)<=(↑v2:Int)/\(↑v2:Int)<(↑Q1:Int))/\((qa1 (Ty.int .i64) Q0 (Int.toNat (↑v2:Int)) != (0:Int))=true->fits .i64 ((↑(q1p Q0 v2):Int)+(1:Int))/\fits .i64 ((↑v2:Int)+(1:Int))/\∃(v6:Nat),Nat.le v6 Q1/\List.length Q0-v6<List.length Q0-v2/\((↑(q1p Q0 v2):Int)+(1:Int)=(↑(q1p Q0 v6):Int)/\(↑v2:Int)+(1:Int)=(↑v6:Int)/\True)/\True)/\((qa1 (Ty.int .i64) Q0 (Int.toNat (↑v2:Int)) != (0:Int))=false->fits .i64 ((↑v2:Int)+(1:Int))/\∃(v6:Nat),Nat.le v6 Q1/\List.length Q0-v6<List.length Q0-v2/\((↑(q1p Q0 v2):Int)=(↑(q1p Q0 v6):Int)/\(↑v2:Int)+(1:Int)=(↑v6:Int)/\True)/\True))/\(decide ((↑v2:Int)<(↑Q1:Int))=false->(↑(q1p Q0 v2):Int)=Prod.fst (qm3 m)/\Prod.snd (qi8 m)=Prod.snd (qm3 m)/\True)) (by kernel_rfl) ?_
 try simp only[z0,z1,z2,z3,z4,z5,z6,z7,z8,z9,z10,Int.reduceEq,z11,z12,z13,z14,z15,z16,z17,z18,z19,z20,z21,z22,z23,z24,z25,z26,z27,z28,z29,z30,Int.reduceLE,Int.reduceLT,z31,z32,z33,z34,qa4]
 try simp only[qb6,qb7,qc8,List.set_cons_zero,List.cons.injEq,and_true,true_and]
 have hl:=h.len
 refine⟨h.cir,(),0,Nat.zero_le _,⟨rfl,rfl⟩,λi hi=>⟨λhlt=>?_,λhge=>?_⟩⟩
 ·have:=q65 (qi8 m).1 i
  exact⟨hlt,λhz=>⟨qa7 (by omega) (by omega),qa7 (by omega) (by omega),i+1,hlt,by omega,by rw[q1p,if_pos hz]; omega,by omega⟩,λhz=>⟨qa7 (by omega) (by omega),i+1,hlt,by omega,by rw[q1p,if_neg (λq=>q hz)],by omega⟩⟩
 ·obtain rfl:i=(qi8 m).1.length:=by omega
  exact⟨rfl,rfl⟩
def qu4 (m:List (List Int)):Int × Int:=if(qm3 m).2=0 then(((qm3 m).1-1).tdiv 2,0) else if(qm3 m).2=8 then((nL m 0).length,0) else(0,(qm3 m).2)
abbrev x5p:qc0:=qf8 true none [tMask] [tInt,tInt] (λx=>wd0 x.1) (λx=>((qu4 x.1).1,(qu4 x.1).2,()))
theorem q9a:qd3 Tryz.prog 11 x5p:=by
 refine meets (snd (SpecsOk.cons wu8 (SpecsOk.nil _))) Tryz.func11 rfl rfl (λ_ _=>none) (λ_=>by kernel_rfl) (by decide) ?_
 rintro⟨m,⟨⟩⟩ h
 revert m
 intro(m:List (List Int)) (h:wd0 m)
 refine @qd8 _ (let Q0:=qm3 m; wd0 m/\((Prod.snd Q0==(0:Int))=true->fits .i64 (Prod.fst Q0-(1:Int))/\(2:Int)≠(0:Int)/\fits .i64 (Int.tdiv (Prod.fst Q0-(1:Int)) (2:Int))/\Int.tdiv (Prod.fst Q0-(1:Int)) (2:Int)=Prod.fst (qu4 m)/\(0:Int)=Prod.snd (qu4 m)/\True)/\((Prod.snd Q0==(0:Int))=false->((Prod.snd Q0==(8:Int))=true->((0:Int)<=(0:Int)/\(0:Int)<(↑(List.length m):Int))/\(↑(List.length (qa1 (Ty.list (Ty.int .i64)) m (0:Nat))):Int)=Prod.fst (qu4 m)/\(0:Int)=Prod.snd (qu4 m)/\True)/\((Prod.snd Q0==(8:Int))=false->(0:Int)=Prod.fst (qu4 m)/\Prod.snd Q0=Prod.snd (qu4 m)/\True))) (by kernel_rfl) ?_
 try simp only[z0,z1,z2,z3,z4,z5,z6,z7,z8,z9,z10,Int.reduceEq,z11,z12,z13,z14,z15,z16,z17,z18,z19,z20,z21,z22,z23,z24,z25,z26,z27,z28,z29,z30,Int.reduceLE,Int.reduceLT,z31,z32,z33,z34,qa4]
 try simp only[qb6,qb7,qc8,List.set_cons_zero,List.cons.injEq,and_true,true_and]
 have hl:=h.len
 have hn:=q65 (qi8 m).1 (qi8 m).1.length
 have e1:(qm3 m).1=(q1p (qi8 m).1 (qi8 m).1.length:Int):=rfl
 have hb:qg3 1000 ((qm3 m).1-1):=by unfold qg3; rw[e1]; omega
 have hb2:qg3 1000 (((qm3 m).1-1).tdiv 2):=qk5 hb
 unfold qg3 at hb hb2
 refine⟨h,λhe=>⟨qa7 (by omega) (by omega),qa7 (by omega) (by omega),by simp[qu4,he]⟩,λhe=>⟨λh8=>⟨?_,by simp[qu4,h8]⟩,λh8=>by simp[qu4,he,h8]⟩⟩
 have hv:validB m=true:=by
  cases e:validB m with
  | true=>rfl
  | false=>
   have e2:(qm3 m).2=1:=by simp[qm3,qi8,q2d,e]
   rw[e2] at h8; cases h8
 have:=(Mk.of hv).rows1
 omega
def xs6 (a b:List Int):Nat->Int
 | 0=>0
 | k+1=>xs6 a b k+nI a k*nI b k
def x7e (m:List (List Int)) (l:List Int) (n k:Int):Int:=if validB m=false then 1 else if(l.length:Int)≠n then 9 else if(l.all λe=>inB e (0-k) k)=false then 7 else 0
def x7g (m:List (List Int)) (x:List Int):Int:=x7e m x (nL m 0).length 1000000
structure Shw (m:List (List Int)) (x:List Int):Prop where
 msk:Mk m
 val:validB m=true
 len:x.length=(nL m 0).length
 bd:∀i,i<x.length->qg3 1000000 (nI x i)
theorem Shw.of {m:List (List Int)} {x:List Int} (h:x7g m x=0):Shw m x:=by
 unfold x7g x7e at h
 split at h
 ·cases h
 ·rename_i hv
  have hv:validB m=true:=by cases e:validB m with | true=>rfl | false=>exact absurd e hv
  split at h
  ·cases h
  ·rename_i hl
   split at h
   ·cases h
   ·rename_i ha
    have ha:(x.all λe=>inB e (0-1000000) 1000000)=true:=by simpa using ha
    refine⟨Mk.of hv,hv,by omega,λi hi=>?_⟩
    have:=inB_iff.1 (List.all_eq_true.1 ha (nI x i) (by rw[qh7 x i hi]; exact List.getElem_mem hi))
    unfold qg3; omega
end Go.Proofs.YtdibdlelmkcccaaGreat
