/- Circuits: contract by the engine. No condition. -/
import Derived.Test.YtdibdlelmkcccaaV17
set_option linter.unusedVariables false
set_option linter.unusedSimpArgs false
namespace Go.Proofs.Ytdibdlelmkcccaa
open Go Go.RowKit Eng
def wj3 (piv:List Int) (f:Nat):Nat->Bool
 | 0=>true
 | k+1=>wj3 piv f k && (nI piv k != (f:Int))
def w2p (d:List (List Int)) (piv:List Int) (k:Nat):Int:=nI (nL d k) (nI piv k).toNat
def q3n (d:List (List Int)) (piv:List Int):Nat->Int
 | 0=>1
 | k+1=>(q3n d piv k).tdiv (qf2 (q3n d piv k) (w2p d piv k))*w2p d piv k
def xw1 (d:List (List Int)) (piv:List Int) (n f:Nat):Nat->List Int
 | 0=>(List.replicate n 0).set f (q3n d piv piv.length)
 | k+1=>(xw1 d piv n f k).set (nI piv k).toNat ((0-nI (nL d k) f)*(q3n d piv piv.length).tdiv (w2p d piv k))
def wj4 (d:List (List Int)) (piv:List Int) (n:Nat):Nat->List (List Int)
 | 0=>[]
 | f+1=>if wj3 piv f piv.length then wj4 d piv n f++[qs8 (xw1 d piv n f piv.length)] else wj4 d piv n f
def w6e (rows:List (List Int)):List (List Int):=wj4 (qu1 rows).1 (qu1 rows).2 (rdW rows) (rdW rows)
end Go.Proofs.Ytdibdlelmkcccaa
set_option linter.unusedVariables false
set_option linter.unusedSimpArgs false
namespace Go.Proofs.Ytdibdlelmkcccaa
open Go Go.RowKit Eng
def qj1 (n:Nat) (set v:List Int):Nat->List Int
 | 0=>List.replicate n 0
 | j+1=>(qj1 n set v j).set (nI set j).toNat (nI v j)
def w6f (l:List (List Int)):Bool:=decide (l.length=1) && !((nL l 0).any λe=>(0:Int)==e)
def x6y (m:List (List Int)) (n:Nat) (set:List Int):List Int:=q7j (qj1 n set (nL (qn6 m set) 0) set.length)
def qr3 (m:List (List Int)) (n:Nat) (L:List (List Int)):Nat->List (List Int)
 | 0=>[]
 | c+1=>if w6f (qn6 m (nL L c)) then qr3 m n L c++[x6y m n (nL L c)] else qr3 m n L c
def q4d (m:List (List Int)) (n:Nat):Nat->List (List Int)
 | 0=>[]
 | k+1=>q4d m n k++qr3 m n (qe8 n (k+1:Nat)) (qe8 n (k+1:Nat)).length
def w6g (m:List (List Int)):Nat:=min ((qb5 m (q1y (nL m 0).length)).2.length+1) (nL m 0).length
def q6d (m:List (List Int)):List (List Int) × Int:=if qe7 m=false then([],1) else(q4d m (nL m 0).length (w6g m),0)
structure wp2 (m:List (List Int)):Prop where
 rank:wi4 m
 ker:∀k,k<(nL m 0).length->∀set∈qe8 (nL m 0).length (k+1:Nat),w2e m set
abbrev x6z:qc7:=qg3 true none [ql6] [ql6,qg4] (λx=>qe7 x.1=true->wp2 x.1) (λx=>((q6d x.1).1,(q6d x.1).2,()))
def x2v (m:List (List Int)) (n:Nat):Nat->Option Inv
 | 0=>some (Inv.of [30] 4 (λk:Nat=>[(30,.lit (.int .i64 k))]) (λk=>[.box 23 (.cons (.dat (.list (.int .i64)) m) .nil),.box 3 (.cons (.lit (.int .i64 n)) .nil),.box 22 (.cons (.msl 3 .none) .nil),.mat 24 3 (.int .i64) (q4d m n k) .none .none]) (λk=>k<=w6g m) (λk=>w6g m-k))
 | 1=>some (Eng.Inv.mk Nat Nat [] 4 (λ_ _=>[]) (λk c=>[.box 23 (.cons (.dat (.list (.int .i64)) m) .nil),.box 3 (.cons (.lit (.int .i64 n)) .nil),.box 22 (.cons (.msl 3 .none) .nil),.mat 24 3 (.int .i64) (q4d m n k++qr3 m n (qe8 n (k+1:Nat)) c) .none .none]) (λk c=>c<=(qe8 n (k+1:Nat)).length) (λk c=>c))
 | 2=>some (Eng.Inv.mk (q7d × Nat × Nat × List Int) Nat [9,11,52,54] 6 (λq j=>[(9,.msl 4 (some 0)),(11,.own 5),(52,.msl 4 (some 0)),(54,.lit (.int .i64 j))]) (λq j=>[.box 23 (.cons (.dat (.list (.int .i64)) m) .nil),.box 3 (.cons (.lit (.int .i64 n)) .nil),.box 22 (.cons (.msl 3 .none) .nil),.mat 24 3 (.int .i64) (q4d m n q.2.1++qr3 m n (qe8 n (q.2.1+1:Nat)) q.2.2.1) .none .none,.mat 3 3 (.int .i64) [q.2.2.2] (some []) (some q.1),.vec 3 (.int .i64) (qj1 n q.2.2.2 (nL (qn6 m q.2.2.2) 0) j)]) (λq j=>j<=q.2.2.2.length) (λq j=>q.2.2.2.length-j))
 | _=>none
def x2w (mats em:List Nat) (specs:List (Nat × qc7)) (muts:List (Nat × ql3)) (its:List (Nat × q1g)):Ctx:={ specs:=specs,tys:=tys,wr:=[],muts:=muts,mats:=mats,em:=em,its:=its }
theorem x2x (mats em:List Nat) {specs:List (Nat × qc7)} {muts:List (Nat × ql3)} {its:List (Nat × q1g)} (h:SpecsOk Try.prog specs) (hm:MutsOk muts) (hi:ItsOk its):Sound Try.prog (x2w mats em specs muts its):=SpecsOk.sound h q2q (by kernel_rfl) hi (hmu:=hm)
theorem q6e (m:List (List Int)) (n:Nat) (L:List (List Int)):∀c,(qr3 m n L c).length<=c
 | 0=>Nat.le_refl _
 | c+1=>by
  have:=q6e m n L c
  rw[qr3]
  split
  ·simp; omega
  ·omega
theorem wp3:((List.range 11).all λn=>(List.range 12).all λk=>decide ((qe8 (n:Nat) (k:Nat)).length<=1000))=true:=by decide +kernel
theorem wj5 (n k:Nat) (hn:n<=10) (hk:k<=11):(qe8 (n:Nat) (k:Nat)).length<=1000:=
 of_decide_eq_true (List.all_eq_true.1 (List.all_eq_true.1 wp3 n (List.mem_range.2 (by omega))) k (List.mem_range.2 (by omega)))
theorem wy8 (m:List (List Int)) (n:Nat) (hn:n<=10):∀k,k<=11->(q4d m n k).length<=1000*k
 | 0,_=>Nat.le_refl _
 | k+1,hk=>by
  have h1:=wy8 m n hn k (by omega)
  have h2:=wj5 n (k+1) hn hk
  have h3:=q6e m n (qe8 (n:Nat) (k+1:Nat)) (qe8 (n:Nat) (k+1:Nat)).length
  rw[q4d,List.length_append]
  omega
theorem q6f {R:List (List Int)} {P:List Int} {n:Nat} (h:w9v R P n) (hn:n<=1000):∀f,f<=n->∀x∈qm8 R P n f,x.length=n/\q9z x
 | 0,_,x,hx=>by cases hx
 | f+1,hf,x,hx=>by
  rw[qm8] at hx
  split at hx
  ·exact q6f h hn f (by omega) x hx
  ·rename_i hfree
   rcases List.mem_append.1 hx with hx | hx
   ·exact q6f h hn f (by omega) x hx
   ·obtain rfl:=List.mem_singleton.1 hx
    have hb:q9z (hTo R P n f P.length):=⟨by rw[q6a]; exact hn,wo7 h (by omega) (Bool.eq_false_iff.2 hfree) _ (Nat.le_refl _)⟩
    exact⟨by rw[q78,q6a],q8e hb⟩
theorem q6g {m:List (List Int)} {set:List Int} (h:w2e m set) (x:List Int) (hx:x∈qn6 m set):x.length=set.length/\set.length<=1000/\q9z x:=by
 have hw:=h.red.w
 have:=q6f h.ar hw _ (Nat.le_refl _) x hx
 exact⟨this.1,hw,this.2⟩
theorem q0f (n:Nat) (set v:List Int):∀j,(qj1 n set v j).length=n
 | 0=>by simp[qj1]
 | j+1=>by rw[qj1,List.length_set]; exact q0f n set v j
theorem q33 {n:Nat} {set v:List Int} (hv:q9z v) (hn:n<=1000) (hl:v.length=set.length):∀j,j<=set.length->q9z (qj1 n set v j)
 | 0,_=>⟨by simp[qj1]; omega,λx hx=>by
  obtain rfl:=(List.mem_replicate.1 hx).2
  unfold BIG; omega⟩
 | j+1,hj=>by
  have h1:=q33 hv hn hl j (by omega)
  refine⟨by rw[q0f]; exact hn,λx hx=>?_⟩
  rw[qj1] at hx
  rcases List.mem_or_eq_of_mem_set hx with hx | rfl
  ·exact h1.2 x hx
  ·exact q5x hv (by omega)
theorem w6h:qd8 Try.prog 96 x6z:=by
 refine meets (x2x [72] [] (SpecsOk.cons w2f (SpecsOk.cons q8d (SpecsOk.cons w54 (SpecsOk.cons wi2 (SpecsOk.nil _))))) (MutsOk.cons w2d MutsOk.nil) (ItsOk.cons q8c ItsOk.nil)) Try.func96 rfl rfl (λx=>x2v x.1 (nL x.1 0).length) (λ_=>by kernel_rfl) (by decide) ?_
 rintro⟨m,⟨⟩⟩ h
 revert m
 intro(m:List (List Int)) (h:qe7 m=true->wp2 m)
 refine @qe0 _ ((qe7 m=true->wi4 m)/\((Prod.snd (qv7 m) != (0:Int))=true->Prod.fst (q6d m)=[]/\Prod.snd (qv7 m)=Prod.snd (q6d m)/\True)/\((Prod.snd (qv7 m) != (0:Int))=false->((0:Int)<=(0:Int)/\(0:Int)<(↑(List.length m):Int))/\fits .i64 (Prod.fst (qv7 m)+(1:Int))/\∃(v1:Unit),∃(v2:Nat),Nat.le v2 (w6g m)/\(((0:Int)=(↑v2:Int)/\True)/\(m=m/\True)/\((↑(List.length (qa1 (Ty.list (Ty.int .i64)) m (0:Nat))):Int)=(↑(List.length (nL m (0:Nat))):Int)/\True)/\(True/\True)/\q4d m (List.length (nL m (0:Nat))) v2=[]/\True)/\∀(v3:Nat),Nat.le v3 (w6g m)->(decide ((↑v3:Int)<max2 false (Prod.fst (qv7 m)+(1:Int)) (↑(List.length (qa1 (Ty.list (Ty.int .i64)) m (0:Nat))):Int))=true->fits .i64 ((↑v3:Int)+(1:Int))/\True/\(((0:Ty.den qg4)<=(↑v3:Int)+(1:Int)/\(↑v3:Int)+(1:Int)<=(1000:Ty.den qg4))/\(0:Ty.den qg4)<=(↑(List.length (nL m (0:Nat))):Int)/\(↑(List.length (nL m (0:Nat))):Int)<=(1000:Ty.den qg4))/\∃(v6:Nat),∃(v7:Nat),Nat.le v7 (List.length (qe8 (↑(List.length (nL m (0:Nat))):Int) (↑(v6+(1:Nat)):Int)))/\v7=(0:Nat)/\((m=m/\True)/\((↑(List.length (nL m (0:Nat))):Int)=(↑(List.length (nL m (0:Nat))):Int)/\True)/\(True/\True)/\(q4d m (List.length (nL m (0:Nat))) v3=q4d m (List.length (nL m (0:Nat))) v6++qr3 m (List.length (nL m (0:Nat))) (qe8 (↑(List.length (nL m (0:Nat))):Int) (↑(v6+(1:Nat)):Int)) v7/\True/\True)/\True)/\∀(v8:Nat),Nat.le v8 (List.length (qe8 (↑(List.length (nL m (0:Nat))):Int) (↑(v6+(1:Nat)):Int)))->(∀(v10:List Int × qa6._f [] PUnit.unit),(List.map (λ(v12:List Int)=>(v12,())) (qe8 (↑(List.length (nL m (0:Nat))):Int) ((↑v3:Int)+(1:Int))))[v8]?=some v10->∀(v12:q7d),w2e m (qa1 (Ty.list (Ty.int .i64)) [Prod.fst v10] (0:Nat))/\(((↑(List.length (qn6 m (qa1 (Ty.list (Ty.int .i64)) [Prod.fst v10] (0:Nat)))):Int) != (1:Int))=true->[Prod.fst v10]=[Prod.fst v10]/\v12=v12/\True/\∃(v14:Nat),Nat.le v14 (List.length (qe8 (↑(List.length (nL m (0:Nat))):Int) (↑(v6+(1:Nat)):Int)))/\v14=v8+(1:Nat)/\(m=m/\True)/\((↑(List.length (nL m (0:Nat))):Int)=(↑(List.length (nL m (0:Nat))):Int)/\True)/\(True/\True)/\(q4d m (List.length (nL m (0:Nat))) v6++qr3 m (List.length (nL m (0:Nat))) (qe8 (↑(List.length (nL m (0:Nat))):Int) (↑(v6+(1:Nat)):Int)) v8=q4d m (List.length (nL m (0:Nat))) v6++qr3 m (List.length (nL m (0:Nat))) (qe8 (↑(List.length (nL m (0:Nat))):Int) (↑(v6+(1:Nat)):Int)) v14/\True/\True)/\True)/\(((↑(List.length (qn6 m (qa1 (Ty.list (Ty.int .i64)) [Prod.fst v10] (0:Nat)))):Int) != (1:Int))=false->((0:Int)<=(0:Int)/\(0:Int)<(↑(List.length (qn6 m (qa1 (Ty.list (Ty.int .i64)) [Prod.fst v10] (0:Nat)))):Int))/\List.length (qa1 (Ty.list (Ty.int .i64)) (qn6 m (qa1 (Ty.list (Ty.int .i64)) [Prod.fst v10] (0:Nat))) (0:Nat))<=(1000000:Nat)/\((List.any (qa1 (Ty.list (Ty.int .i64)) (qn6 m (qa1 (Ty.list (Ty.int .i64)) [Prod.fst v10] (0:Nat))) (0:Nat)) λ(v15:Int)=>(0:Int)==v15)=true->[Prod.fst v10]=[Prod.fst v10]/\v12=v12/\True/\∃(v15:Nat),Nat.le v15 (List.length (qe8 (↑(List.length (nL m (0:Nat))):Int) (↑(v6+(1:Nat)):Int)))/\v15=v8+(1:Nat)/\(m=m/\True)/\((↑(List.length (nL m (0:Nat))):Int)=(↑(List.length (nL m (0:Nat))):Int)/\True)/\(True/\True)/\(q4d m (List.length (nL m (0:Nat))) v6++qr3 m (List.length (nL m (0:Nat))) (qe8 (↑(List.length (nL m (0:Nat))):Int) (↑(v6+(1:Nat)):Int)) v8=q4d m (List.length (nL m (0:Nat))) v6++qr3 m (List.length (nL m (0:Nat))) (qe8 (↑(List.length (nL m (0:Nat))):Int) (↑(v6+(1:Nat)):Int)) v15/\True/\True)/\True)/\((List.any (qa1 (Ty.list (Ty.int .i64)) (qn6 m (qa1 (Ty.list (Ty.int .i64)) [Prod.fst v10] (0:Nat))) (0:Nat)) λ(v15:Int)=>(0:Int)==v15)=false->((↑(List.length (nL m (0:Nat))):Int)=(↑(List.length (nL m (0:Nat))):Int)/\(0:Int)<=(↑(List.length (nL m (0:Nat))):Int)/\(↑(List.length (nL m (0:Nat))):Int)<=(1000000:Int))/\∃(v15:q7d × Nat × Nat × List Int),∃(v16:Nat),Nat.le v16 (List.length (Prod.snd (Prod.snd (Prod.snd v15))))/\((some (0:Nat)=some (0:Nat)/\True/\some (0:Nat)=some (0:Nat)/\(0:Int)=(↑v16:Int)/\True)/\(m=m/\True)/\((↑(List.length (nL m (0:Nat))):Int)=(↑(List.length (nL m (0:Nat))):Int)/\True)/\(True/\True)/\(q4d m (List.length (nL m (0:Nat))) v6++qr3 m (List.length (nL m (0:Nat))) (qe8 (↑(List.length (nL m (0:Nat))):Int) (↑(v6+(1:Nat)):Int)) v8=q4d m (List.length (nL m (0:Nat))) (Prod.fst (Prod.snd v15))++qr3 m (List.length (nL m (0:Nat))) (qe8 (↑(List.length (nL m (0:Nat))):Int) (↑(Prod.fst (Prod.snd v15)+(1:Nat)):Int)) (Prod.fst (Prod.snd (Prod.snd v15)))/\True/\True)/\([Prod.fst v10]=[Prod.snd (Prod.snd (Prod.snd v15))]/\True/\v12=Prod.fst v15)/\List.replicate (Int.toNat (↑(List.length (nL m (0:Nat))):Int)) (Ty.dflt (TI.ty T3))=qj1 (List.length (nL m (0:Nat))) (Prod.snd (Prod.snd (Prod.snd v15))) (nL (qn6 m (Prod.snd (Prod.snd (Prod.snd v15)))) (0:Nat)) v16/\True)/\∀(v17:Nat),Nat.le v17 (List.length (Prod.snd (Prod.snd (Prod.snd v15))))->(decide ((↑v17:Int)<(↑(List.length (qa1 (Ty.list (Ty.int .i64)) [Prod.fst v10] (0:Nat))):Int))=true->((0:Int)<=(↑v17:Int)/\(↑v17:Int)<(↑(List.length (qa1 (Ty.list (Ty.int .i64)) [Prod.snd (Prod.snd (Prod.snd v15))] (0:Nat))):Int))/\Int.toNat (↑v17:Int)<List.length (qa1 (Ty.list (Ty.int .i64)) [Prod.snd (Prod.snd (Prod.snd v15))] (0:Nat))/\((0:Int)<=(0:Int)/\(0:Int)<(↑(List.length (qn6 m (qa1 (Ty.list (Ty.int .i64)) [Prod.fst v10] (0:Nat)))):Int))/\((0:Int)<=(↑v17:Int)/\(↑v17:Int)<(↑(List.length (qa1 (Ty.list (Ty.int .i64)) (qn6 m (qa1 (Ty.list (Ty.int .i64)) [Prod.fst v10] (0:Nat))) (0:Nat))):Int))/\((0:Int)<=qa1 (Ty.int .i64) (qa1 (Ty.list (Ty.int .i64)) [Prod.snd (Prod.snd (Prod.snd v15))] (0:Nat)) (Int.toNat (↑v17:Int))/\qa1 (Ty.int .i64) (qa1 (Ty.list (Ty.int .i64)) [Prod.snd (Prod.snd (Prod.snd v15))] (0:Nat)) (Int.toNat (↑v17:Int))<(↑(List.length (qj1 (List.length (nL m (0:Nat))) (Prod.snd (Prod.snd (Prod.snd v15))) (nL (qn6 m (Prod.snd (Prod.snd (Prod.snd v15)))) (0:Nat)) v17)):Int))/\Int.toNat (qa1 (Ty.int .i64) (qa1 (Ty.list (Ty.int .i64)) [Prod.snd (Prod.snd (Prod.snd v15))] (0:Nat)) (Int.toNat (↑v17:Int)))<List.length (qj1 (List.length (nL m (0:Nat))) (Prod.snd (Prod.snd (Prod.snd v15))) (nL (qn6 m (Prod.snd (Prod.snd (Prod.snd v15)))) (0:Nat)) v17)/\fits .i64 ((↑v17:Int)+(1:Int))/\∃(v20:Nat),Nat.le v20 (List.length (Prod.snd (Prod.snd (Prod.snd v15))))/\List.length (Prod.snd (Prod.snd (Prod.snd v15)))-v20<List.length (Prod.snd (Prod.snd (Prod.snd v15)))-v17/\(some (0:Nat)=some (0:Nat)/\True/\some (0:Nat)=some (0:Nat)/\(↑v17:Int)+(1:Int)=(↑v20:Int)/\True)/\(m=m/\True)/\((↑(List.length (nL m (0:Nat))):Int)=(↑(List.length (nL m (0:Nat))):Int)/\True)/\(True/\True)/\(q4d m (List.length (nL m (0:Nat))) (Prod.fst (Prod.snd v15))++qr3 m (List.length (nL m (0:Nat))) (qe8 (↑(List.length (nL m (0:Nat))):Int) (↑(Prod.fst (Prod.snd v15)+(1:Nat)):Int)) (Prod.fst (Prod.snd (Prod.snd v15)))=q4d m (List.length (nL m (0:Nat))) (Prod.fst (Prod.snd v15))++qr3 m (List.length (nL m (0:Nat))) (qe8 (↑(List.length (nL m (0:Nat))):Int) (↑(Prod.fst (Prod.snd v15)+(1:Nat)):Int)) (Prod.fst (Prod.snd (Prod.snd v15)))/\True/\True)/\([Prod.snd (Prod.snd (Prod.snd v15))]=[Prod.snd (Prod.snd (Prod.snd v15))]/\True/\Prod.fst v15=Prod.fst v15)/\List.set (qj1 (List.length (nL m (0:Nat))) (Prod.snd (Prod.snd (Prod.snd v15))) (nL (qn6 m (Prod.snd (Prod.snd (Prod.snd v15)))) (0:Nat)) v17) (Int.toNat (qa1 (Ty.int .i64) (qa1 (Ty.list (Ty.int .i64)) [Prod.snd (Prod.snd (Prod.snd v15))] (0:Nat)) (Int.toNat (↑v17:Int)))) (qa1 (Ty.int .i64) (qa1 (Ty.list (Ty.int .i64)) (qn6 m (qa1 (Ty.list (Ty.int .i64)) [Prod.fst v10] (0:Nat))) (0:Nat)) (Int.toNat (↑v17:Int)))=qj1 (List.length (nL m (0:Nat))) (Prod.snd (Prod.snd (Prod.snd v15))) (nL (qn6 m (Prod.snd (Prod.snd (Prod.snd v15)))) (0:Nat)) v20/\True)/\(decide ((↑v17:Int)<(↑(List.length (qa1 (Ty.list (Ty.int .i64)) [Prod.fst v10] (0:Nat))):Int))=false->q9z (nL [qj1 (List.length (nL m (0:Nat))) (Prod.snd (Prod.snd (Prod.snd v15))) (nL (qn6 m (Prod.snd (Prod.snd (Prod.snd v15)))) (0:Nat)) v17] (0:Nat))/\((0:Nat)<(0:Nat)+(1:Nat)/\List.length (q4d m (List.length (nL m (0:Nat))) (Prod.fst (Prod.snd v15))++qr3 m (List.length (nL m (0:Nat))) (qe8 (↑(List.length (nL m (0:Nat))):Int) (↑(Prod.fst (Prod.snd v15)+(1:Nat)):Int)) (Prod.fst (Prod.snd (Prod.snd v15))))+((0:Nat)+(1:Nat))<=(1000000:Nat))/\[Prod.snd (Prod.snd (Prod.snd v15))]=[Prod.fst v10]/\Prod.fst v15=v12/\True/\∃(v20:Nat),Nat.le v20 (List.length (qe8 (↑(List.length (nL m (0:Nat))):Int) (↑(v6+(1:Nat)):Int)))/\v20=v8+(1:Nat)/\(m=m/\True)/\((↑(List.length (nL m (0:Nat))):Int)=(↑(List.length (nL m (0:Nat))):Int)/\True)/\(True/\True)/\(q4d m (List.length (nL m (0:Nat))) (Prod.fst (Prod.snd v15))++qr3 m (List.length (nL m (0:Nat))) (qe8 (↑(List.length (nL m (0:Nat))):Int) (↑(Prod.fst (Prod.snd v15)+(1:Nat)):Int)) (Prod.fst (Prod.snd (Prod.snd v15)))++[qa1 (Ty.list (Ty.int .i64)) [q7j (nL [qj1 (List.length (nL m (0:Nat))) (Prod.snd (Prod.snd (Prod.snd v15))) (nL (qn6 m (Prod.snd (Prod.snd (Prod.snd v15)))) (0:Nat)) v17] (0:Nat))] (0:Nat)]=q4d m (List.length (nL m (0:Nat))) v6++qr3 m (List.length (nL m (0:Nat))) (qe8 (↑(List.length (nL m (0:Nat))):Int) (↑(v6+(1:Nat)):Int)) v20/\True/\True)/\True))))/\(v8=List.length (List.map (λ(v11:List Int)=>(v11,())) (qe8 (↑(List.length (nL m (0:Nat))):Int) ((↑v3:Int)+(1:Int))))->fits .i64 ((↑v3:Int)+(1:Int))/\∃(v11:Nat),Nat.le v11 (w6g m)/\w6g m-v11<w6g m-v3/\((↑v3:Int)+(1:Int)=(↑v11:Int)/\True)/\(m=m/\True)/\((↑(List.length (nL m (0:Nat))):Int)=(↑(List.length (nL m (0:Nat))):Int)/\True)/\(True/\True)/\(q4d m (List.length (nL m (0:Nat))) v6++qr3 m (List.length (nL m (0:Nat))) (qe8 (↑(List.length (nL m (0:Nat))):Int) (↑(v6+(1:Nat)):Int)) v8=q4d m (List.length (nL m (0:Nat))) v11/\True/\True)/\True))/\(decide ((↑v3:Int)<max2 false (Prod.fst (qv7 m)+(1:Int)) (↑(List.length (qa1 (Ty.list (Ty.int .i64)) m (0:Nat))):Int))=false->q28 (Ty.int .i64) (q4d m (List.length (nL m (0:Nat))) v3) none=Prod.fst (q6d m)/\(0:Int)=Prod.snd (q6d m)/\True))) (by kernel_rfl) ?_
 try simp only[z0,z1,z2,z3,z4,z5,z6,z7,z8,z9,z10,Int.reduceEq,z11,z12,z13,z14,z15,z16,z17,z18,z19,z20,z21,z22,z23,z24,z25,z26,z27,z28,z29,z30,Int.reduceLE,Int.reduceLT,z31,z32,z33,z34,qa3]
 try simp only[qb3,qb4,qc8,List.set_cons_zero,List.cons.injEq,and_true,true_and]
 refine⟨λhv=>(h hv).rank,λhe=>?_,λhe=>?_⟩
 ·have hv:qe7 m=false:=by
   cases e:qe7 m with
   | false=>rfl
   | true=>exact absurd (by simp[qv7,e]) he
  simp[qv7,q6d,hv]
 have hv:qe7 m=true:=by
  cases e:qe7 m with
  | true=>rfl
  | false=>simp[qv7,e] at he
 have hO:=h hv
 have hM:=Mk.of hv
 have hm1:=hM.rows1
 have hn1:=hM.pix1
 have hn10:=hM.pix10
 have hrank:(qb5 m (q1y (nL m 0).length)).2.length<=10:=by
  have:=(q07 hO.rank.red (nL m 0).length).pivj
  unfold qb5
  rw[qr1]
  exact Nat.le_trans this hn10
 have hr:qv7 m=(((qb5 m (q1y (nL m 0).length)).2.length:Int),0):=by simp[qv7,hv]
 have hcN:w6g m=min ((qb5 m (q1y (nL m 0).length)).2.length+1) (nL m 0).length:=rfl
 have hcR:q6d m=(q4d m (nL m 0).length (w6g m),0):=by simp[q6d,hv]
 rw[hr,hcR]
 generalize(qb5 m (q1y (nL m 0).length)).2.length=r at *
 have hker:=hO.ker
 generalize hnn:(nL m 0).length=n at *
 dsimp only
 refine⟨by omega,qb9 (by omega) (by omega),(),0,Nat.zero_le _,⟨rfl,rfl⟩,λk hk=>⟨λhlt=>?_,λhge=>?_⟩⟩
 ·have hlt:(k:Int)<min ((r:Int)+1) n:=hlt
  have hkn:k<n:=by omega
  have hca:((k:Int)+1)=((k+1:Nat):Int):=by omega
  have hkl:=wy8 m n hn10 k (by omega)
  have hsl:=wj5 n (k+1) hn10 (by omega)
  rw[hca]
  have hb1:(0:Int)<=((k+1:Nat):Int)/\((k+1:Nat):Int)<=1000:=by omega
  refine⟨qb9 (by omega) (by omega),⟨hb1,by omega⟩,k,0,Nat.zero_le _,rfl,by simp[qr3],λc hc=>⟨?_,λhce=>?_⟩⟩
  ·rintro⟨set,⟨⟩⟩ hset T
   dsimp only
   have hs:(qe8 n (k+1:Nat))[c]? = some set:=by
    rw[List.getElem?_map] at hset
    obtain⟨x,hx,hx2⟩:=Option.map_eq_some_iff.1 hset
    injection hx2 with hx2
    rw[<- hx2]; exact hx
   have hcl:c<(qe8 n (k+1:Nat)).length:=(List.getElem?_eq_some_iff.1 hs).1
   have hnl:nL (qe8 n (k+1:Nat)) c=set:=by rw[qq0 _ c hcl]; exact(List.getElem?_eq_some_iff.1 hs).2
   have hK:w2e m set:=hker k hkn set (List.mem_of_getElem? hs)
   have hctl:=q6e m n (qe8 n (k+1:Nat)) c
   refine⟨hK,λh1=>⟨c+1,hcl,rfl,?_⟩,λh1=>⟨by omega,?_,λh2=>⟨c+1,hcl,rfl,?_⟩,λh2=>⟨by omega,(T,k,c,set),0,Nat.zero_le _,⟨rfl,rfl,⟨rfl,rfl⟩,rfl⟩,λj hj=>⟨λhjl=>?_,λhjl=>?_⟩⟩⟩⟩
   ·rw[qr3,hnl,if_neg]
    intro q
    unfold w6f at q
    rw[Bool.and_eq_true,decide_eq_true_eq] at q
    exact h1 (by omega)
   ·have h0:=q6g hK (nL (qn6 m set) 0) (q1f _ 0 (by omega))
    omega
   ·rw[qr3,hnl,if_neg]
    intro q
    unfold w6f at q
    rw[Bool.and_eq_true,h2] at q
    cases q.2
   ·dsimp only at hj ⊢
    have hat:=hK.cho.at_ 0 (by omega) j hjl
    rw[hnn] at hat
    have hkm:=q6g hK (nL (qn6 m set) 0) (q1f _ 0 (by omega))
    have hsp:=q0f n set (nL (qn6 m set) 0) j
    have hat':0<=nI set j/\nI set j<((qj1 n set (nL (qn6 m set) 0) j).length:Int):=⟨hat.1,by omega⟩
    exact⟨hjl,hjl,by omega,by omega,hat',by omega,qb9 (by omega) (by omega),j+1,hjl,by omega,by omega,rfl⟩
   ·dsimp only at hj ⊢
    obtain rfl:j=set.length:=by omega
    have hkm:=q6g hK (nL (qn6 m set) 0) (q1f _ 0 (by omega))
    refine⟨q33 hkm.2.2 (by omega) hkm.1 _ (Nat.le_refl _),by rw[List.length_append]; omega,rfl,rfl,c+1,hcl,rfl,?_⟩
    have hg:w6f (qn6 m set)=true:=by
     unfold w6f
     rw[h2,Bool.and_eq_true,decide_eq_true_eq]
     exact⟨by omega,rfl⟩
    rw[qr3,hnl,if_pos hg,List.append_assoc]
    rfl
  ·rw[List.length_map] at hce
   subst hce
   exact⟨qb9 (by omega) (by omega),k+1,by omega,by omega,rfl,rfl⟩
 ·have hge:min ((r:Int)+1) n<=k:=hge
  obtain rfl:k=w6g m:=by omega
  exact⟨rfl,rfl⟩
end Go.Proofs.Ytdibdlelmkcccaa
