/- Circuits: contract by the engine. No condition. -/
import Derived.Test.YtnchigbbjajiiaaGreatV18
set_option linter.unusedVariables false
set_option linter.unusedSimpArgs false
namespace Go.Proofs.YtnchigbbjajiiaaGreat
open Go Go.RowKit Eng
def qd3 (n:Nat) (set v:List Int):Nat->List Int
 | 0=>List.replicate n 0
 | j+1=>(qd3 n set v j).set (nI set j).toNat (nI v j)
def ww0 (l:List (List Int)):Bool:=decide (l.length=1) && !((nL l 0).any λe=>(0:Int)==e)
def ye3 (m:List (List Int)) (n:Nat) (set:List Int):List Int:=q8c (qd3 n set (nL (qn3 m set) 0) set.length)
def qt6 (m:List (List Int)) (n:Nat) (L:List (List Int)):Nat->List (List Int)
 | 0=>[]
 | c+1=>if ww0 (qn3 m (nL L c)) then qt6 m n L c++[ye3 m n (nL L c)] else qt6 m n L c
def q3j (m:List (List Int)) (n:Nat):Nat->List (List Int)
 | 0=>[]
 | k+1=>q3j m n k++qt6 m n (qg4 n (k+1:Nat)) (qg4 n (k+1:Nat)).length
def q6j (m:List (List Int)):Nat:=min ((qk4 m (qp8 (nL m 0).length)).2.length+1) (nL m 0).length
def qf2 (m:List (List Int)):List (List Int) × Int:=if validB m=false then([],1) else(q3j m (nL m 0).length (q6j m),0)
structure q99 (m:List (List Int)):Prop where
 rank:w35 m
 ker:∀k,k<(nL m 0).length->∀set∈qg4 (nL m 0).length (k+1:Nat),w66 m set
abbrev yx8:qb3:=qe8 true none [tMask] [tMask,tInt] (λx=>validB x.1=true->q99 x.1) (λx=>((qf2 x.1).1,(qf2 x.1).2,()))
def yl6 (m:List (List Int)) (n:Nat):Nat->Option Inv
 | 0=>some (Inv.of [30] 4 (λk:Nat=>[(30,.lit (.int .i64 k))]) (λk=>[.box 23 (.cons (.dat (.list (.int .i64)) m) .nil),.box 3 (.cons (.lit (.int .i64 n)) .nil),.box 22 (.cons (.msl 3 .none) .nil),.mat 24 3 (.int .i64) (q3j m n k) .none .none]) (λk=>k<=q6j m) (λk=>q6j m-k))
 | 1=>some (Eng.Inv.mk Nat Nat [] 4 (λ_ _=>[]) (λk c=>[.box 23 (.cons (.dat (.list (.int .i64)) m) .nil),.box 3 (.cons (.lit (.int .i64 n)) .nil),.box 22 (.cons (.msl 3 .none) .nil),.mat 24 3 (.int .i64) (q3j m n k++qt6 m n (qg4 n (k+1:Nat)) c) .none .none]) (λk c=>c<=(qg4 n (k+1:Nat)).length) (λk c=>c))
 | 2=>some (Eng.Inv.mk (q7a × Nat × Nat × List Int) Nat [9,11,52,54] 6 (λq j=>[(9,.msl 4 (some 0)),(11,.own 5),(52,.msl 4 (some 0)),(54,.lit (.int .i64 j))]) (λq j=>[.box 23 (.cons (.dat (.list (.int .i64)) m) .nil),.box 3 (.cons (.lit (.int .i64 n)) .nil),.box 22 (.cons (.msl 3 .none) .nil),.mat 24 3 (.int .i64) (q3j m n q.2.1++qt6 m n (qg4 n (q.2.1+1:Nat)) q.2.2.1) .none .none,.mat 3 3 (.int .i64) [q.2.2.2] (some []) (some q.1),.vec 3 (.int .i64) (qd3 n q.2.2.2 (nL (qn3 m q.2.2.2) 0) j)]) (λq j=>j<=q.2.2.2.length) (λq j=>q.2.2.2.length-j))
 | _=>none
def yl7 (mats em:List Nat) (specs:List (Nat × qb3)) (muts:List (Nat × qr3)) (its:List (Nat × q2y)):Ctx:={ specs:=specs,tys:=tys,wr:=[],muts:=muts,mats:=mats,em:=em,its:=its }
theorem yl8 (mats em:List Nat) {specs:List (Nat × qb3)} {muts:List (Nat × qr3)} {its:List (Nat × q2y)} (h:SpecsOk Tryz.prog specs) (hm:MutsOk muts) (hi:ItsOk its):Sound Tryz.prog (yl7 mats em specs muts its):=SpecsOk.sound h q4f kq hi (hmu:=hm)
theorem q8k (m:List (List Int)) (n:Nat) (L:List (List Int)):∀c,(qt6 m n L c).length<=c
 | 0=>zab _
 | c+1=>by
  have:=q8k m n L c
  grind [qt6]
theorem w1j:((List.range 11).all λn=>(List.range 12).all λk=>decide ((qg4 (n:Nat) (k:Nat)).length<=1000))=true:=by decide +kernel
theorem ww1 (n k:Nat) (hn:n<=10) (hk:k<=11):(qg4 (n:Nat) (k:Nat)).length<=1000:=
 zbn (zar.1 (zar.1 w1j n (za2.2 ow)) k (za2.2 ow))
theorem wl2 (m:List (List Int)) (n:Nat) (hn:n<=10):∀k,k<=11->(q3j m n k).length<=1000*k
 | 0,_=>zab _
 | k+1,hk=>by
  have h1:=wl2 m n hn k ow
  grind [ww1,q8k,qg4,q3j,List.length_append]
theorem q8l {R:List (List Int)} {P:List Int} {n:Nat} (h:xy1 R P n) (hn:n<=1000):∀f,f<=n->∀x∈qp5 R P n f,x.length=n/\q5d x
 | 0,_,x,hx=>by cases hx
 | f+1,hf,x,hx=>by
  rw[qp5] at hx
  split at hx
  ·exact q8l h hn f ow x hx
  ·rename_i hfree
   rcases zal.1 hx with hx | hx
   ·exact q8l h hn f ow x hx
   ·obtain rfl:=zaw.1 hx
    have hb:q5d (hTo R P n f P.length):=⟨by grind [q8e],w1g h ow (zec.2 hfree) _ (zab _)⟩
    grind [wd1,q8e,wd8]
theorem q8m {m:List (List Int)} {set:List Int} (h:w66 m set) (x:List Int) (hx:x∈qn3 m set):x.length=set.length/\set.length<=1000/\q5d x:=by
 have hw:=h.red.w
 have:=q8l h.ar hw _ (zab _) x hx
 grind
theorem qj5 (n:Nat) (set v:List Int):∀j,(qd3 n set v j).length=n
 | 0=>by simp[qd3]
 | j+1=>by rw[qd3,za7]; exact qj5 n set v j
theorem q1r {n:Nat} {set v:List Int} (hv:q5d v) (hn:n<=1000) (hl:v.length=set.length):∀j,j<=set.length->q5d (qd3 n set v j)
 | 0,_=>⟨by grind [qd3],λx hx=>by
  obtain rfl:=(zc2.1 hx).2
  grind [BIG]⟩
 | j+1,hj=>by
  have h1:=q1r hv hn hl j ow
  refine⟨by grind [qj5],λx hx=>?_⟩
  rw[qd3] at hx
  rcases zau hx with hx | rfl
  ·exact h1.2 x hx
  ·exact q1m hv ow
theorem xe7:Meets Tryz.prog 111 yx8:=by
 refine meets (yl8 [72] [] (SpecsOk.cons w67 (SpecsOk.cons w63 (SpecsOk.cons xe0 (SpecsOk.cons wv4 (SpecsOk.nil _))))) (MutsOk.cons w65 MutsOk.nil) (ItsOk.cons w62 ItsOk.nil)) Tryz.func111 rfl rfl (λx=>yl6 x.1 (nL x.1 0).length) (λ_=>by kernel_rfl) dc ?_
 rintro⟨m,⟨⟩⟩ h
 revert m
 intro(m:List (List Int)) (h:validB m=true->q99 m)
 refine vcs ((validB m=true->w35 m)/\(((q0u m).2 != (0:Int))=true->(qf2 m).1=[]/\(q0u m).2=(qf2 m).2/\True)/\(((q0u m).2 != (0:Int))=false->((0:Int)<=(0:Int)/\(0:Int)<(↑m.length:Int))/\fits .i64 ((q0u m).1+(1:Int))/\∃(v1:Unit),∃(v2:Nat),Nat.le v2 (q6j m)/\(((0:Int)=(↑v2:Int)/\True)/\(m=m/\True)/\((↑(nL m (0:Nat)).length:Int)=(↑(nL m (0:Nat)).length:Int)/\True)/\(True/\True)/\q3j m (nL m (0:Nat)).length v2=[]/\True)/\∀(v3:Nat),Nat.le v3 (q6j m)->(decide ((↑v3:Int)<max2 false ((q0u m).1+(1:Int)) (↑(nL m (0:Nat)).length:Int))=true->fits .i64 ((↑v3:Int)+(1:Int))/\True/\(((0:Ty.den tInt)<=(↑v3:Int)+(1:Int)/\(↑v3:Int)+(1:Int)<=(1000:Ty.den tInt))/\(0:Ty.den tInt)<=(↑(nL m (0:Nat)).length:Int)/\(↑(nL m (0:Nat)).length:Int)<=(1000:Ty.den tInt))/\∃(v6:Nat),∃(v7:Nat),Nat.le v7 (qg4 (↑(nL m (0:Nat)).length:Int) (↑(v6+(1:Nat)):Int)).length/\v7=(0:Nat)/\((m=m/\True)/\((↑(nL m (0:Nat)).length:Int)=(↑(nL m (0:Nat)).length:Int)/\True)/\(True/\True)/\(q3j m (nL m (0:Nat)).length v3=q3j m (nL m (0:Nat)).length v6++qt6 m (nL m (0:Nat)).length (qg4 (↑(nL m (0:Nat)).length:Int) (↑(v6+(1:Nat)):Int)) v7/\True/\True)/\True)/\∀(v8:Nat),Nat.le v8 (qg4 (↑(nL m (0:Nat)).length:Int) (↑(v6+(1:Nat)):Int)).length->(∀(v10:List Int × qa5._f [] PUnit.unit),(List.map (λ(v12:List Int)=>(v12,())) (qg4 (↑(nL m (0:Nat)).length:Int) ((↑v3:Int)+(1:Int))))[v8]?=some v10->∀(v12:q7a),w66 m (nL [v10.1] (0:Nat))/\(((↑(qn3 m (nL [v10.1] (0:Nat))).length:Int) != (1:Int))=true->[v10.1]=[v10.1]/\v12=v12/\True/\∃(v14:Nat),Nat.le v14 (qg4 (↑(nL m (0:Nat)).length:Int) (↑(v6+(1:Nat)):Int)).length/\v14=v8+(1:Nat)/\(m=m/\True)/\((↑(nL m (0:Nat)).length:Int)=(↑(nL m (0:Nat)).length:Int)/\True)/\(True/\True)/\(q3j m (nL m (0:Nat)).length v6++qt6 m (nL m (0:Nat)).length (qg4 (↑(nL m (0:Nat)).length:Int) (↑(v6+(1:Nat)):Int)) v8=q3j m (nL m (0:Nat)).length v6++qt6 m (nL m (0:Nat)).length (qg4 (↑(nL m (0:Nat)).length:Int) (↑(v6+(1:Nat)):Int)) v14/\True/\True)/\True)/\(((↑(qn3 m (nL [v10.1] (0:Nat))).length:Int) != (1:Int))=false->((0:Int)<=(0:Int)/\(0:Int)<(↑(qn3 m (nL [v10.1] (0:Nat))).length:Int))/\(nL (qn3 m (nL [v10.1] (0:Nat))) (0:Nat)).length<=(1000000:Nat)/\((List.any (nL (qn3 m (nL [v10.1] (0:Nat))) (0:Nat)) λ(v15:Int)=>(0:Int)==v15)=true->[v10.1]=[v10.1]/\v12=v12/\True/\∃(v15:Nat),Nat.le v15 (qg4 (↑(nL m (0:Nat)).length:Int) (↑(v6+(1:Nat)):Int)).length/\v15=v8+(1:Nat)/\(m=m/\True)/\((↑(nL m (0:Nat)).length:Int)=(↑(nL m (0:Nat)).length:Int)/\True)/\(True/\True)/\(q3j m (nL m (0:Nat)).length v6++qt6 m (nL m (0:Nat)).length (qg4 (↑(nL m (0:Nat)).length:Int) (↑(v6+(1:Nat)):Int)) v8=q3j m (nL m (0:Nat)).length v6++qt6 m (nL m (0:Nat)).length (qg4 (↑(nL m (0:Nat)).length:Int) (↑(v6+(1:Nat)):Int)) v15/\True/\True)/\True)/\((List.any (nL (qn3 m (nL [v10.1] (0:Nat))) (0:Nat)) λ(v15:Int)=>(0:Int)==v15)=false->((↑(nL m (0:Nat)).length:Int)=(↑(nL m (0:Nat)).length:Int)/\(0:Int)<=(↑(nL m (0:Nat)).length:Int)/\(↑(nL m (0:Nat)).length:Int)<=(1000000:Int))/\∃(v15:q7a × Nat × Nat × List Int),∃(v16:Nat),Nat.le v16 v15.2.2.2.length/\((some (0:Nat)=some (0:Nat)/\True/\some (0:Nat)=some (0:Nat)/\(0:Int)=(↑v16:Int)/\True)/\(m=m/\True)/\((↑(nL m (0:Nat)).length:Int)=(↑(nL m (0:Nat)).length:Int)/\True)/\(True/\True)/\(q3j m (nL m (0:Nat)).length v6++qt6 m (nL m (0:Nat)).length (qg4 (↑(nL m (0:Nat)).length:Int) (↑(v6+(1:Nat)):Int)) v8=q3j m (nL m (0:Nat)).length v15.2.1++qt6 m (nL m (0:Nat)).length (qg4 (↑(nL m (0:Nat)).length:Int) (↑(v15.2.1+(1:Nat)):Int)) v15.2.2.1/\True/\True)/\([v10.1]=[v15.2.2.2]/\True/\v12=v15.1)/\List.replicate (↑(nL m (0:Nat)).length:Int).toNat (Ty.dflt (TI.ty T3))=qd3 (nL m (0:Nat)).length v15.2.2.2 (nL (qn3 m v15.2.2.2) (0:Nat)) v16/\True)/\∀(v17:Nat),Nat.le v17 v15.2.2.2.length->(decide ((↑v17:Int)<(↑(nL [v10.1] (0:Nat)).length:Int))=true->((0:Int)<=(↑v17:Int)/\(↑v17:Int)<(↑(nL [v15.2.2.2] (0:Nat)).length:Int))/\v17<(nL [v15.2.2.2] (0:Nat)).length/\((0:Int)<=(0:Int)/\(0:Int)<(↑(qn3 m (nL [v10.1] (0:Nat))).length:Int))/\((0:Int)<=(↑v17:Int)/\(↑v17:Int)<(↑(nL (qn3 m (nL [v10.1] (0:Nat))) (0:Nat)).length:Int))/\((0:Int)<=nI (nL [v15.2.2.2] (0:Nat)) v17/\nI (nL [v15.2.2.2] (0:Nat)) v17<(↑(qd3 (nL m (0:Nat)).length v15.2.2.2 (nL (qn3 m v15.2.2.2) (0:Nat)) v17).length:Int))/\(nI (nL [v15.2.2.2] (0:Nat)) v17).toNat<(qd3 (nL m (0:Nat)).length v15.2.2.2 (nL (qn3 m v15.2.2.2) (0:Nat)) v17).length/\fits .i64 ((↑v17:Int)+(1:Int))/\∃(v20:Nat),Nat.le v20 v15.2.2.2.length/\v15.2.2.2.length-v20<v15.2.2.2.length-v17/\(some (0:Nat)=some (0:Nat)/\True/\some (0:Nat)=some (0:Nat)/\(↑v17:Int)+(1:Int)=(↑v20:Int)/\True)/\(m=m/\True)/\((↑(nL m (0:Nat)).length:Int)=(↑(nL m (0:Nat)).length:Int)/\True)/\(True/\True)/\(q3j m (nL m (0:Nat)).length v15.2.1++qt6 m (nL m (0:Nat)).length (qg4 (↑(nL m (0:Nat)).length:Int) (↑(v15.2.1+(1:Nat)):Int)) v15.2.2.1=q3j m (nL m (0:Nat)).length v15.2.1++qt6 m (nL m (0:Nat)).length (qg4 (↑(nL m (0:Nat)).length:Int) (↑(v15.2.1+(1:Nat)):Int)) v15.2.2.1/\True/\True)/\([v15.2.2.2]=[v15.2.2.2]/\True/\v15.1=v15.1)/\List.set (qd3 (nL m (0:Nat)).length v15.2.2.2 (nL (qn3 m v15.2.2.2) (0:Nat)) v17) (nI (nL [v15.2.2.2] (0:Nat)) v17).toNat (nI (nL (qn3 m (nL [v10.1] (0:Nat))) (0:Nat)) v17)=qd3 (nL m (0:Nat)).length v15.2.2.2 (nL (qn3 m v15.2.2.2) (0:Nat)) v20/\True)/\(decide ((↑v17:Int)<(↑(nL [v10.1] (0:Nat)).length:Int))=false->q5d (nL [qd3 (nL m (0:Nat)).length v15.2.2.2 (nL (qn3 m v15.2.2.2) (0:Nat)) v17] (0:Nat))/\((0:Nat)<(0:Nat)+(1:Nat)/\(q3j m (nL m (0:Nat)).length v15.2.1++qt6 m (nL m (0:Nat)).length (qg4 (↑(nL m (0:Nat)).length:Int) (↑(v15.2.1+(1:Nat)):Int)) v15.2.2.1).length+((0:Nat)+(1:Nat))<=(1000000:Nat))/\[v15.2.2.2]=[v10.1]/\v15.1=v12/\True/\∃(v20:Nat),Nat.le v20 (qg4 (↑(nL m (0:Nat)).length:Int) (↑(v6+(1:Nat)):Int)).length/\v20=v8+(1:Nat)/\(m=m/\True)/\((↑(nL m (0:Nat)).length:Int)=(↑(nL m (0:Nat)).length:Int)/\True)/\(True/\True)/\(q3j m (nL m (0:Nat)).length v15.2.1++qt6 m (nL m (0:Nat)).length (qg4 (↑(nL m (0:Nat)).length:Int) (↑(v15.2.1+(1:Nat)):Int)) v15.2.2.1++[nL [q8c (nL [qd3 (nL m (0:Nat)).length v15.2.2.2 (nL (qn3 m v15.2.2.2) (0:Nat)) v17] (0:Nat))] (0:Nat)]=q3j m (nL m (0:Nat)).length v6++qt6 m (nL m (0:Nat)).length (qg4 (↑(nL m (0:Nat)).length:Int) (↑(v6+(1:Nat)):Int)) v20/\True/\True)/\True))))/\(v8=(List.map (λ(v11:List Int)=>(v11,())) (qg4 (↑(nL m (0:Nat)).length:Int) ((↑v3:Int)+(1:Int)))).length->fits .i64 ((↑v3:Int)+(1:Int))/\∃(v11:Nat),Nat.le v11 (q6j m)/\q6j m-v11<q6j m-v3/\((↑v3:Int)+(1:Int)=(↑v11:Int)/\True)/\(m=m/\True)/\((↑(nL m (0:Nat)).length:Int)=(↑(nL m (0:Nat)).length:Int)/\True)/\(True/\True)/\(q3j m (nL m (0:Nat)).length v6++qt6 m (nL m (0:Nat)).length (qg4 (↑(nL m (0:Nat)).length:Int) (↑(v6+(1:Nat)):Int)) v8=q3j m (nL m (0:Nat)).length v11/\True/\True)/\True))/\(decide ((↑v3:Int)<max2 false ((q0u m).1+(1:Int)) (↑(nL m (0:Nat)).length:Int))=false->q4x (Ty.int .i64) (q3j m (nL m (0:Nat)).length v3) none=(qf2 m).1/\(0:Int)=(qf2 m).2/\True))) ?_
 refine⟨λhv=>(h hv).rank,λhe=>?_,λhe=>?_⟩
 ·grind [validB,absurd,q0u,qf2]
 have hv:validB m=true:=by
  grind [validB,q0u]
 have hO:=h hv
 have hM:=Mk.of hv
 have hm1:=hM.rows1
 have hn1:=hM.pix1
 have hn10:=hM.pix10
 have hrank:(qk4 m (qp8 (nL m 0).length)).2.length<=10:=by
  have:=(q60 hO.rank.red (nL m 0).length).pivj
  grind [qk4,qg1,Nat.le_trans]
 have hr:q0u m=(((qk4 m (qp8 (nL m 0).length)).2.length:Int),0):=by grind [q0u]
 have hcN:q6j m=min ((qk4 m (qp8 (nL m 0).length)).2.length+1) (nL m 0).length:=rfl
 have hcR:qf2 m=(q3j m (nL m 0).length (q6j m),0):=by grind [qf2]
 rw[hr,hcR]
 generalize(qk4 m (qp8 (nL m 0).length)).2.length=r at *
 have hker:=hO.ker
 generalize hnn:(nL m 0).length=n at *
 dsimp only
 refine⟨ow,qa3,(),0,zae _,⟨rfl,rfl⟩,λk hk=>⟨λhlt=>?_,λhge=>?_⟩⟩
 ·have hlt:(k:Int)<min ((r:Int)+1) n:=hlt
  have hkn:k<n:=ow
  have hca:((k:Int)+1)=((k+1:Nat):Int):=ow
  have hkl:=wl2 m n hn10 k ow
  have hsl:=ww1 n (k+1) hn10 ow
  rw[hca]
  have hb1:(0:Int)<=((k+1:Nat):Int)/\((k+1:Nat):Int)<=1000:=ow
  refine⟨qa3,⟨hb1,ow⟩,k,0,zae _,rfl,by simp[qt6],λc hc=>⟨?_,λhce=>?_⟩⟩
  ·rintro⟨set,⟨⟩⟩ hset T
   dsimp only
   have hs:(qg4 n (k+1:Nat))[c]? = some set:=by
    grind
   have hcl:c<(qg4 n (k+1:Nat)).length:=(zag.1 hs).1
   have hnl:nL (qg4 n (k+1:Nat)) c=set:=by grind [qm3,List.getElem?_eq_some_iff]
   have hK:w66 m set:=hker k hkn set (zah hs)
   have hctl:=q8k m n (qg4 n (k+1:Nat)) c
   refine⟨hK,λh1=>⟨c+1,hcl,rfl,?_⟩,λh1=>⟨ow,?_,λh2=>⟨c+1,hcl,rfl,?_⟩,λh2=>⟨ow,(T,k,c,set),0,zae _,⟨rfl,rfl,⟨rfl,rfl⟩,rfl⟩,λj hj=>⟨λhjl=>?_,λhjl=>?_⟩⟩⟩⟩
   ·rw[qt6,hnl,zak]
    intro q
    simp_all [ww0,Bool.and_eq_true,decide_eq_true_eq]
   ·grind [q8m,nL,qn3,set,qn7]
   ·simp_all [qt6,if_neg,ww0,Bool.and_eq_true]
   ·dsimp only at hj ⊢
    have hat:=hK.cho.at_ 0 ow j hjl
    rw[hnn] at hat
    have hkm:=q8m hK (nL (qn3 m set) 0) (qn7 _ 0 ow)
    have hsp:=qj5 n set (nL (qn3 m set) 0) j
    have hat':0<=nI set j/\nI set j<((qd3 n set (nL (qn3 m set) 0) j).length:Int):=⟨hat.1,ow⟩
    exact⟨hjl,hjl,ow,ow,hat',ow,qa3,j+1,hjl,ow,ow,rfl⟩
   ·dsimp only at hj ⊢
    obtain rfl:j=set.length:=ow
    have hkm:=q8m hK (nL (qn3 m set) 0) (qn7 _ 0 ow)
    refine⟨q1r hkm.2.2 ow hkm.1 _ (zab _),by grind,rfl,rfl,c+1,hcl,rfl,?_⟩
    have hg:ww0 (qn3 m set)=true:=by
     unfold ww0
     grind
    rw[qt6,hnl,zao hg,zd9]
    rfl
  ·rw[za8] at hce
   subst hce
   exact⟨qa3,k+1,ow,ow,rfl,rfl⟩
 ·have hge:min ((r:Int)+1) n<=k:=hge
  obtain rfl:k=q6j m:=ow
  exact⟨rfl,rfl⟩
end Go.Proofs.YtnchigbbjajiiaaGreat
