/- The reference's circuits: contracts by the engine. No condition. -/
import Derived.Test.YtempacilejhbgaaGreatV22
set_option linter.unusedVariables false
set_option linter.unusedSimpArgs false
namespace Go.Proofs.YtempacilejhbgaaGreat
open Go Go.RowKit Eng
def qh7 (m:List (List Int)) (s:List Int):List (List Int):=qg4 (qj5 m s)
def qo9 (v:List Int):Nat->Bool
 | 0=>true
 | k+1=>qo9 v k && (nI v k != 0)
def q1x (m:List (List Int)) (s:List Int):Bool:=decide (s.length≠0) && decide (s.length<=m.length+1)
def q2u (m:List (List Int)) (n:Nat) (s:List Int):List Int:=qd1 n s (nL (qh7 m s) 0) s.length
def ws1 (m:List (List Int)) (n:Nat) (s:List Int):List Int:=if nI (q2u m n s) (nI s 0).toNat<0 then qj0 (q2u m n s) (-1) else q2u m n s
def qs1 (m:List (List Int)) (s:List Int):Bool:=q1x m s && decide ((qh7 m s).length=1) && qo9 (nL (qh7 m s) 0) s.length
def qg7 (m:List (List Int)) (n:Nat) (L:List (List Int)):Nat->List (List Int)
 | 0=>[]
 | c+1=>if qs1 m (nL L c) then qg7 m n L c++[ws1 m n (nL L c)] else qg7 m n L c
def qp3 (m:List (List Int)):List (List Int) × Int:=if validB m=false then([],1) else(qg7 m (nL m 0).length (qe1 (nL m 0).length) (qe1 (nL m 0).length).length,0)
structure yd0 (m:List (List Int)):Prop where
 n7:(nL m 0).length<=7
 kr:∀s∈qe1 (nL m 0).length,q1x m s=true->x0l (qj5 m s)/\xi7 m s
structure wh6 (m:List (List Int)):Prop where
 fit:w7u m
 ok:validB m=true->yd0 m
theorem q9z (m:List (List Int)) (n:Nat) (L:List (List Int)):∀c,(qg7 m n L c).length<=c
 | 0=>Nat.le_refl _
 | c+1=>by
  have:=q9z m n L c
  rw[qg7]
  split
  ·simp; omega
  ·omega
theorem q4w {d:List (List Int)} {P:List Int} {n:Nat} (h:x3v d P n) (hn:n<=1000):∀f,f<=n->∀x∈qg9 d P n f,x.length=n/\q4o x
 | 0,_,x,hx=>by cases hx
 | f+1,hf,x,hx=>by
  rw[qg9] at hx
  split at hx
  ·rename_i hfree
   rcases List.mem_append.1 hx with hx | hx
   ·exact q4w h hn f (by omega) x hx
   ·obtain rfl:=List.mem_singleton.1 hx
    refine⟨by rw[qm7,q3v],by rw[qm7,q3v]; exact hn,λx hx=>?_⟩
    obtain⟨y,hy,rfl⟩:=List.mem_map.1 hx
    exact qj9 (wf7 h (by omega) hfree _ (Nat.le_refl _) y hy)
  ·exact q4w h hn f (by omega) x hx
theorem wy7 {rows:List (List Int)} (h:x0l rows) (x:List Int) (hx:x∈qg4 rows):x.length=rdW rows/\q4o x:=
 q4w h.ar h.rd.w _ (Nat.le_refl _) x hx
theorem xk8 {m:List (List Int)} (hm:0<m.length) (s:List Int):rdW (qj5 m s)=s.length:=by
 unfold rdW
 rw[qz7 m s 0 hm,qu0]
abbrev yd1:qb9:=qf6 false none [tMask] [tMask,tInt] (λx=>wh6 x.1) (λx=>((qp3 x.1).1,(qp3 x.1).2,()))
def x6t (m:List (List Int)) (n:Nat):Nat->Option Inv
 | 0=>some (Inv.of [4,21] 1 (λc:Nat=>[(4,.own 0),(21,.lit (.int .i64 c))]) (λc=>[.vec 24 (.list (.int .i64)) (qg7 m n (qe1 n) c)]) (λc=>c<=(qe1 n).length) (λc=>(qe1 n).length-c))
 | 1=>some (Eng.Inv.mk (Nat × List Int) Nat [4,8,9,50] 2 (λq k=>[(4,.own 0),(8,.own 1),(9,.lit (.bool (qo9 (nL (qh7 m q.2) 0) k))),(50,.lit (.int .i64 k))]) (λq k=>[.vec 24 (.list (.int .i64)) (qg7 m n (qe1 n) q.1),.vec 3 (.int .i64) (qd1 n q.2 (nL (qh7 m q.2) 0) k)]) (λq k=>k<=q.2.length) (λq k=>q.2.length-k))
 | _=>none
theorem ws3:qd4 Tryz.prog 107 yd1:=by
 refine meets (snd (SpecsOk.cons we8 (SpecsOk.cons wx8 (SpecsOk.cons w4s (SpecsOk.cons xj0 (SpecsOk.cons wp9 (SpecsOk.nil _))))))) Tryz.func107 rfl rfl (λx=>x6t x.1 (nL x.1 0).length) (λ_=>by kernel_rfl) (by decide) ?_
 rintro⟨m,⟨⟩⟩ h
 revert m
 intro(m:List (List Int)) (h:wh6 m)
 refine @qd7 _ (w7u m/\((!validB m)=true->(qp3 m).1=[]/\(1:Int)=(qp3 m).2/\True)/\((!validB m)=false->((0:Int)<=(0:Int)/\(0:Int)<(↑m.length:Int))/\((0:Ty.den tInt)<=(↑(nL m (0:Nat)).length:Int)/\(↑(nL m (0:Nat)).length:Int)<=(7:Ty.den tInt))/\∃(v1:Unit),∃(v2:Nat),Nat.le v2 (qe1 (nL m (0:Nat)).length).length/\((True/\(0:Int)=(↑v2:Int)/\True)/\qg7 m (nL m (0:Nat)).length (qe1 (nL m (0:Nat)).length) v2=[]/\True)/\∀(v3:Nat),Nat.le v3 (qe1 (nL m (0:Nat)).length).length->(decide ((↑v3:Int)<(↑(qe1 (↑(nL m (0:Nat)).length:Int).toNat).length:Int))=true->((0:Int)<=(↑v3:Int)/\(↑v3:Int)<(↑(qe1 (↑(nL m (0:Nat)).length:Int).toNat).length:Int))/\(((↑(nL (qe1 (↑(nL m (0:Nat)).length:Int).toNat) v3).length:Int)==(0:Int))=true->fits .i64 ((↑v3:Int)+(1:Int))/\∃(v7:Nat),Nat.le v7 (qe1 (nL m (0:Nat)).length).length/\(qe1 (nL m (0:Nat)).length).length-v7<(qe1 (nL m (0:Nat)).length).length-v3/\(True/\(↑v3:Int)+(1:Int)=(↑v7:Int)/\True)/\qg7 m (nL m (0:Nat)).length (qe1 (nL m (0:Nat)).length) v3=qg7 m (nL m (0:Nat)).length (qe1 (nL m (0:Nat)).length) v7/\True)/\(((↑(nL (qe1 (↑(nL m (0:Nat)).length:Int).toNat) v3).length:Int)==(0:Int))=false->fits .i64 ((↑m.length:Int)+(1:Int))/\(decide ((↑m.length:Int)+(1:Int)<(↑(nL (qe1 (↑(nL m (0:Nat)).length:Int).toNat) v3).length:Int))=true->fits .i64 ((↑v3:Int)+(1:Int))/\∃(v8:Nat),Nat.le v8 (qe1 (nL m (0:Nat)).length).length/\(qe1 (nL m (0:Nat)).length).length-v8<(qe1 (nL m (0:Nat)).length).length-v3/\(True/\(↑v3:Int)+(1:Int)=(↑v8:Int)/\True)/\qg7 m (nL m (0:Nat)).length (qe1 (nL m (0:Nat)).length) v3=qg7 m (nL m (0:Nat)).length (qe1 (nL m (0:Nat)).length) v8/\True)/\(decide ((↑m.length:Int)+(1:Int)<(↑(nL (qe1 (↑(nL m (0:Nat)).length:Int).toNat) v3).length:Int))=false->xi7 m (nL (qe1 (↑(nL m (0:Nat)).length:Int).toNat) v3)/\x0l (qj5 m (nL (qe1 (↑(nL m (0:Nat)).length:Int).toNat) v3))/\(((↑(qg4 (qj5 m (nL (qe1 (↑(nL m (0:Nat)).length:Int).toNat) v3))).length:Int) != (1:Int))=true->fits .i64 ((↑v3:Int)+(1:Int))/\∃(v9:Nat),Nat.le v9 (qe1 (nL m (0:Nat)).length).length/\(qe1 (nL m (0:Nat)).length).length-v9<(qe1 (nL m (0:Nat)).length).length-v3/\(True/\(↑v3:Int)+(1:Int)=(↑v9:Int)/\True)/\qg7 m (nL m (0:Nat)).length (qe1 (nL m (0:Nat)).length) v3=qg7 m (nL m (0:Nat)).length (qe1 (nL m (0:Nat)).length) v9/\True)/\(((↑(qg4 (qj5 m (nL (qe1 (↑(nL m (0:Nat)).length:Int).toNat) v3))).length:Int) != (1:Int))=false->((0:Int)<=(0:Int)/\(0:Int)<(↑m.length:Int))/\((↑(nL m (0:Nat)).length:Int)=(↑(nL m (0:Nat)).length:Int)/\(0:Int)<=(↑(nL m (0:Nat)).length:Int)/\(↑(nL m (0:Nat)).length:Int)<=(1000000:Int))/\∃(v9:Nat × List Int),∃(v10:Nat),Nat.le v10 v9.2.length/\((True/\True/\true=qo9 (nL (qh7 m v9.2) (0:Nat)) v10/\(0:Int)=(↑v10:Int)/\True)/\qg7 m (nL m (0:Nat)).length (qe1 (nL m (0:Nat)).length) v3=qg7 m (nL m (0:Nat)).length (qe1 (nL m (0:Nat)).length) v9.1/\List.replicate (↑(nL m (0:Nat)).length:Int).toNat (Ty.dflt (TI.ty T3))=qd1 (nL m (0:Nat)).length v9.2 (nL (qh7 m v9.2) (0:Nat)) v10/\True)/\∀(v11:Nat),Nat.le v11 v9.2.length->(decide ((↑v11:Int)<(↑(nL (qe1 (↑(nL m (0:Nat)).length:Int).toNat) v3).length:Int))=true->((0:Int)<=(↑v11:Int)/\(↑v11:Int)<(↑(nL (qe1 (↑(nL m (0:Nat)).length:Int).toNat) v3).length:Int))/\((0:Int)<=(0:Int)/\(0:Int)<(↑(qg4 (qj5 m (nL (qe1 (↑(nL m (0:Nat)).length:Int).toNat) v3))).length:Int))/\((0:Int)<=(↑v11:Int)/\(↑v11:Int)<(↑(nL (qg4 (qj5 m (nL (qe1 (↑(nL m (0:Nat)).length:Int).toNat) v3))) (0:Nat)).length:Int))/\((0:Int)<=nI (nL (qe1 (↑(nL m (0:Nat)).length:Int).toNat) v3) v11/\nI (nL (qe1 (↑(nL m (0:Nat)).length:Int).toNat) v3) v11<(↑(qd1 (nL m (0:Nat)).length v9.2 (nL (qh7 m v9.2) (0:Nat)) v11).length:Int))/\(nI (nL (qe1 (↑(nL m (0:Nat)).length:Int).toNat) v3) v11).toNat<(qd1 (nL m (0:Nat)).length v9.2 (nL (qh7 m v9.2) (0:Nat)) v11).length/\(qo9 (nL (qh7 m v9.2) (0:Nat)) v11=true->((0:Int)<=(0:Int)/\(0:Int)<(↑(qg4 (qj5 m (nL (qe1 (↑(nL m (0:Nat)).length:Int).toNat) v3))).length:Int))/\((0:Int)<=(↑v11:Int)/\(↑v11:Int)<(↑(nL (qg4 (qj5 m (nL (qe1 (↑(nL m (0:Nat)).length:Int).toNat) v3))) (0:Nat)).length:Int))/\fits .i64 ((↑v11:Int)+(1:Int))/\∃(v15:Nat),Nat.le v15 v9.2.length/\v9.2.length-v15<v9.2.length-v11/\(True/\True/\(nI (nL (qg4 (qj5 m (nL (qe1 (↑(nL m (0:Nat)).length:Int).toNat) v3))) (0:Nat)) v11 != (0:Int))=qo9 (nL (qh7 m v9.2) (0:Nat)) v15/\(↑v11:Int)+(1:Int)=(↑v15:Int)/\True)/\qg7 m (nL m (0:Nat)).length (qe1 (nL m (0:Nat)).length) v9.1=qg7 m (nL m (0:Nat)).length (qe1 (nL m (0:Nat)).length) v9.1/\List.set (qd1 (nL m (0:Nat)).length v9.2 (nL (qh7 m v9.2) (0:Nat)) v11) (nI (nL (qe1 (↑(nL m (0:Nat)).length:Int).toNat) v3) v11).toNat (nI (nL (qg4 (qj5 m (nL (qe1 (↑(nL m (0:Nat)).length:Int).toNat) v3))) (0:Nat)) v11)=qd1 (nL m (0:Nat)).length v9.2 (nL (qh7 m v9.2) (0:Nat)) v15/\True)/\(qo9 (nL (qh7 m v9.2) (0:Nat)) v11=false->fits .i64 ((↑v11:Int)+(1:Int))/\∃(v15:Nat),Nat.le v15 v9.2.length/\v9.2.length-v15<v9.2.length-v11/\(True/\True/\false=qo9 (nL (qh7 m v9.2) (0:Nat)) v15/\(↑v11:Int)+(1:Int)=(↑v15:Int)/\True)/\qg7 m (nL m (0:Nat)).length (qe1 (nL m (0:Nat)).length) v9.1=qg7 m (nL m (0:Nat)).length (qe1 (nL m (0:Nat)).length) v9.1/\List.set (qd1 (nL m (0:Nat)).length v9.2 (nL (qh7 m v9.2) (0:Nat)) v11) (nI (nL (qe1 (↑(nL m (0:Nat)).length:Int).toNat) v3) v11).toNat (nI (nL (qg4 (qj5 m (nL (qe1 (↑(nL m (0:Nat)).length:Int).toNat) v3))) (0:Nat)) v11)=qd1 (nL m (0:Nat)).length v9.2 (nL (qh7 m v9.2) (0:Nat)) v15/\True))/\(decide ((↑v11:Int)<(↑(nL (qe1 (↑(nL m (0:Nat)).length:Int).toNat) v3).length:Int))=false->((!qo9 (nL (qh7 m v9.2) (0:Nat)) v11)=true->fits .i64 ((↑v3:Int)+(1:Int))/\∃(v15:Nat),Nat.le v15 (qe1 (nL m (0:Nat)).length).length/\(qe1 (nL m (0:Nat)).length).length-v15<(qe1 (nL m (0:Nat)).length).length-v3/\(True/\(↑v3:Int)+(1:Int)=(↑v15:Int)/\True)/\qg7 m (nL m (0:Nat)).length (qe1 (nL m (0:Nat)).length) v9.1=qg7 m (nL m (0:Nat)).length (qe1 (nL m (0:Nat)).length) v15/\True)/\((!qo9 (nL (qh7 m v9.2) (0:Nat)) v11)=false->((0:Int)<=(0:Int)/\(0:Int)<(↑(nL (qe1 (↑(nL m (0:Nat)).length:Int).toNat) v3).length:Int))/\((0:Int)<=nI (nL (qe1 (↑(nL m (0:Nat)).length:Int).toNat) v3) (0:Nat)/\nI (nL (qe1 (↑(nL m (0:Nat)).length:Int).toNat) v3) (0:Nat)<(↑(qd1 (nL m (0:Nat)).length v9.2 (nL (qh7 m v9.2) (0:Nat)) v11).length:Int))/\(nI (nL (qe1 (↑(nL m (0:Nat)).length:Int).toNat) v3) (0:Nat)).toNat<(qd1 (nL m (0:Nat)).length v9.2 (nL (qh7 m v9.2) (0:Nat)) v11).length/\(decide (nI (qd1 (nL m (0:Nat)).length v9.2 (nL (qh7 m v9.2) (0:Nat)) v11) (nI (nL (qe1 (↑(nL m (0:Nat)).length:Int).toNat) v3) (0:Nat)).toNat<(0:Int))=true->w8a (qd1 (nL m (0:Nat)).length v9.2 (nL (qh7 m v9.2) (0:Nat)) v11) (-1:Int)/\((0:Nat)<List.length [qj0 (qd1 (nL m (0:Nat)).length v9.2 (nL (qh7 m v9.2) (0:Nat)) v11) (-1:Int)]/\Nat.le ((qg7 m (nL m (0:Nat)).length (qe1 (nL m (0:Nat)).length) v9.1).length+List.length [qj0 (qd1 (nL m (0:Nat)).length v9.2 (nL (qh7 m v9.2) (0:Nat)) v11) (-1:Int)]) (1000000:Nat))/\fits .i64 ((↑v3:Int)+(1:Int))/\∃(v16:Nat),Nat.le v16 (qe1 (nL m (0:Nat)).length).length/\(qe1 (nL m (0:Nat)).length).length-v16<(qe1 (nL m (0:Nat)).length).length-v3/\(True/\(↑v3:Int)+(1:Int)=(↑v16:Int)/\True)/\qg7 m (nL m (0:Nat)).length (qe1 (nL m (0:Nat)).length) v9.1++[qj0 (qd1 (nL m (0:Nat)).length v9.2 (nL (qh7 m v9.2) (0:Nat)) v11) (-1:Int)]=qg7 m (nL m (0:Nat)).length (qe1 (nL m (0:Nat)).length) v16/\True)/\(decide (nI (qd1 (nL m (0:Nat)).length v9.2 (nL (qh7 m v9.2) (0:Nat)) v11) (nI (nL (qe1 (↑(nL m (0:Nat)).length:Int).toNat) v3) (0:Nat)).toNat<(0:Int))=false->((0:Nat)<(0:Nat)+(1:Nat)/\Nat.le ((qg7 m (nL m (0:Nat)).length (qe1 (nL m (0:Nat)).length) v9.1).length+((0:Nat)+(1:Nat))) (1000000:Nat))/\fits .i64 ((↑v3:Int)+(1:Int))/\∃(v16:Nat),Nat.le v16 (qe1 (nL m (0:Nat)).length).length/\(qe1 (nL m (0:Nat)).length).length-v16<(qe1 (nL m (0:Nat)).length).length-v3/\(True/\(↑v3:Int)+(1:Int)=(↑v16:Int)/\True)/\qg7 m (nL m (0:Nat)).length (qe1 (nL m (0:Nat)).length) v9.1++[qd1 (nL m (0:Nat)).length v9.2 (nL (qh7 m v9.2) (0:Nat)) v11]=qg7 m (nL m (0:Nat)).length (qe1 (nL m (0:Nat)).length) v16/\True)))))))/\(decide ((↑v3:Int)<(↑(qe1 (↑(nL m (0:Nat)).length:Int).toNat).length:Int))=false->qg7 m (nL m (0:Nat)).length (qe1 (nL m (0:Nat)).length) v3=(qp3 m).1/\(0:Int)=(qp3 m).2/\True))) (by kernel_rfl) ?_
 try simp only[z0,z1,z2,z3,z4,z5,z6,z7,z8,z9,z10,Int.reduceEq,z11,z12,z13,z14,z15,z16,z17,z18,z19,z20,z21,z22,z23,z24,z25,z26,z27,z28,z29,z30,Int.reduceLE,Int.reduceLT,z31,z32,z33,z34,qa1]
 try simp only[qb3,qb4,qc0,z31,z32,z2,z1]
 refine⟨h.fit,λhv=>by simp[qp3,hv],λhv=>?_⟩
 have hM:=Mk.of hv
 have hO:=h.ok hv
 have hm1:=hM.rows1
 have hm6:=hM.rows6
 have hn7:=hO.n7
 have hkr:=hO.kr
 have hR:qp3 m=(qg7 m (nL m 0).length (qe1 (nL m 0).length) (qe1 (nL m 0).length).length,0):=by simp[qp3,hv]
 rw[hR]
 have hst:=wq1 (n:=(nL m 0).length) (k:=128) hn7 (Nat.le_refl _)
 change(qe1 (nL m 0).length).length<=128/\∀s∈qe1 (nL m 0).length,_ at hst
 obtain⟨hsl,hsm⟩:=hst
 generalize hnn:(nL m 0).length=n at *
 simp only[show ∀x,qg4 (qj5 m x)=qh7 m x from λ_=>rfl]
 clear hR
 generalize qe1 n=SA at *
 refine⟨by omega,by omega,(),0,Nat.zero_le _,⟨rfl,rfl⟩,λc hc=>⟨λhlt=>?_,λhge=>?_⟩⟩
 ·have hcl:=q9z m n SA c
  have hs2:=hsm _ (qk5 SA c hlt)
  have hk2:=hkr _ (qk5 SA c hlt)
  obtain⟨s,hs⟩:∃s,nL SA c=s:=⟨_,rfl⟩
  rw[hs] at hs2 hk2 ⊢
  have hs1:=hs2.1
  have no:qs1 m s=false->qg7 m n SA c=qg7 m n SA (c+1):=λq=>by
   rw[qg7,hs,if_neg (by rw[q]; decide)]
  have nok:q1x m s=false->qs1 m s=false:=λq=>by simp[qs1,q]
  refine⟨hlt,λh0=>⟨qa4 (by omega) (by omega),c+1,hlt,by omega,by omega,no (nok ?_)⟩,λh0=>⟨qa4 (by omega) (by omega),λh1=>⟨qa4 (by omega) (by omega),c+1,hlt,by omega,by omega,no (nok ?_)⟩,λh1=>?_⟩⟩
  ·have:s.length=0:=by omega
   simp[q1x,this]
  ·have:¬s.length<=m.length+1:=by omega
   simp[q1x,this]
  have hok:q1x m s=true:=by
   unfold q1x
   rw[Bool.and_eq_true,decide_eq_true_eq,decide_eq_true_eq]
   omega
  obtain⟨hK,hC⟩:=hk2 hok
  refine⟨hC,hK,λh2=>⟨qa4 (by omega) (by omega),c+1,hlt,by omega,by omega,no ?_⟩,λh2=>?_⟩
  ·have:¬(qh7 m s).length=1:=by omega
   simp[qs1,this]
  have h2:(qh7 m s).length=1:=by omega
  have hkm:=wy7 hK (nL (qh7 m s) 0) (qk5 (qh7 m s) 0 (by omega))
  rw[xk8 (by omega)] at hkm
  obtain⟨hkl,hkb⟩:=hkm
  have hat:∀j,j<s.length->0<=nI s j/\nI s j<n:=λj hj=>hs2.2 _ (by rw[qg1 s j hj]; exact List.getElem_mem hj)
  have hat':∀j i,j<s.length->0<=nI s j/\nI s j<((qd1 n s (nL (qh7 m s) 0) i).length:Int):=λj i hj=>by
   have:=hat j hj
   rw[qj1]; exact this
  refine⟨by omega,by omega,(c,s),0,Nat.zero_le _,⟨⟨rfl,rfl⟩,rfl,rfl⟩,λj hj=>⟨λhjl=>?_,λhjl=>?_⟩⟩
  ·dsimp only at hj ⊢
   have ha:=hat' j j hjl
   refine⟨hjl,by omega,by omega,ha,by omega,λhw=>⟨by omega,by omega,qa4 (by omega) (by omega),j+1,hjl,by omega,⟨by rw[qo9,hw,Bool.true_and],by omega⟩,rfl⟩,λhw=>⟨qa4 (by omega) (by omega),j+1,hjl,by omega,⟨by rw[qo9,hw,Bool.false_and],by omega⟩,rfl⟩⟩
  ·dsimp only at hj ⊢
   obtain rfl:j=s.length:=by omega
   refine⟨λhw=>⟨qa4 (by omega) (by omega),c+1,hlt,by omega,by omega,no (by simp[qs1,hw])⟩,λhw=>?_⟩
   have yes:qs1 m s=true:=by simp[qs1,hok,h2,hw]
   have hsb:q4o (qd1 n s (nL (qh7 m s) 0) s.length):=q05 hkb (by omega) hkl _ (Nat.le_refl _)
   have ha:=hat' 0 s.length (by omega)
   have hst:=qj1 n s (nL (qh7 m s) 0) s.length
   refine⟨by omega,ha,by omega,λhng=>⟨⟨hsb.1,λi hi=>?_⟩,by omega,qa4 (by omega) (by omega),c+1,hlt,by omega,by omega,?_⟩,λhng=>⟨by omega,qa4 (by omega) (by omega),c+1,hlt,by omega,by omega,?_⟩⟩
   ·have:=q03 hsb hi
    unfold qf0 at *
    omega
   ·rw[qg7,hs,if_pos yes,ws1]
    rw[if_pos (show nI (q2u m n s) (nI s 0).toNat<0 from hng)]
    rfl
   ·rw[qg7,hs,if_pos yes,ws1]
    rw[if_neg (show ¬nI (q2u m n s) (nI s 0).toNat<0 from by show ¬nI (qd1 n s (nL (qh7 m s) 0) s.length) (nI s 0).toNat<0; omega)]
    rfl
 ·obtain rfl:c=SA.length:=by omega
  exact⟨rfl,by first | rfl | trivial⟩
def qk8 (m:List (List Int)):List Int × Int:=if(qp3 m).2≠0 then([],(qp3 m).2) else if(qp3 m).1=[] then([],8) else(nL (qp3 m).1 0,0)
abbrev x2s:qb9:=qf6 false none [tMask] [tInts,tInt] (λx=>wh6 x.1) (λx=>((qk8 x.1).1,(qk8 x.1).2,()))
theorem wy8:qd4 Tryz.prog 96 x2s:=by
 refine meets (snd (SpecsOk.cons ws3 (SpecsOk.nil _))) Tryz.func96 rfl rfl (λ_ _=>none) (λ_=>by kernel_rfl) (by decide) ?_
 rintro⟨m,⟨⟩⟩ h
 revert m
 intro(m:List (List Int)) (h:wh6 m)
 refine @qd7 _ (let Q0:=qk8 m; wh6 m/\(((qp3 m).2 != (0:Int))=true->Q0.1=[]/\(qp3 m).2=Q0.2/\True)/\(((qp3 m).2 != (0:Int))=false->(((↑(qp3 m).1.length:Int)==(0:Int))=true->Q0.1=[]/\(8:Int)=Q0.2/\True)/\(((↑(qp3 m).1.length:Int)==(0:Int))=false->((0:Int)<=(0:Int)/\(0:Int)<(↑(qp3 m).1.length:Int))/\nL (qp3 m).1 (0:Nat)=Q0.1/\(0:Int)=Q0.2/\True))) (by kernel_rfl) ?_
 try simp only[z0,z1,z2,z3,z4,z5,z6,z7,z8,z9,z10,Int.reduceEq,z11,z12,z13,z14,z15,z16,z17,z18,z19,z20,z21,z22,z23,z24,z25,z26,z27,z28,z29,z30,Int.reduceLE,Int.reduceLT,z31,z32,z33,z34,qa1]
 try simp only[qb3,qb4,qc0,z31,z32,z2,z1]
 refine⟨h,λhe=>by simp[qk8,he],λhe=>⟨λh0=>?_,λh0=>?_⟩⟩
 ·have e:(qp3 m).1=[]:=List.eq_nil_of_length_eq_zero (by omega)
  simp[qk8,he,e]
 ·have e:¬(qp3 m).1=[]:=λe=>by rw[e] at h0; exact h0 rfl
  unfold qk8
  rw[if_neg (λq=>q he),if_neg e]
  exact⟨by omega,rfl,rfl⟩
def qi7 (m:List (List Int)):Int × Int:=if(qk8 m).2≠0 then(0,(qk8 m).2) else((wh5 (qk8 m).1 (qk8 m).1.length:Int),0)
structure x2t (m:List (List Int)):Prop where
 cr:wh6 m
 len:(qk8 m).1.length<=1000
abbrev xx9:qb9:=qf6 true none [tMask] [tInt,tInt] (λx=>x2t x.1) (λx=>((qi7 x.1).1,(qi7 x.1).2,()))
def xk9 (l:List Int):Nat->Option Inv
 | 0=>some (Inv.of [6,19] 0 (λk:Nat=>[(6,.lit (.int .i64 (wh5 l k))),(19,.lit (.int .i64 k))]) (λ_=>[]) (λk=>k<=l.length) (λk=>l.length-k))
 | _=>none
theorem ws4:qd4 Tryz.prog 53 xx9:=by
 refine meets (snd (SpecsOk.cons wy8 (SpecsOk.nil _))) Tryz.func53 rfl rfl (λx=>xk9 (qk8 x.1).1) (λ_=>by kernel_rfl) (by decide) ?_
 rintro⟨m,⟨⟩⟩ h
 revert m
 intro(m:List (List Int)) (h:x2t m)
 refine @qd7 _ (let Q0:=qk8 m; let Q1:=qi7 m; wh6 m/\((Q0.2 != (0:Int))=true->(0:Int)=Q1.1/\Q0.2=Q1.2/\True)/\((Q0.2 != (0:Int))=false->∃(v1:Unit),∃(v2:Nat),Nat.le v2 Q0.1.length/\(((0:Int)=(↑(wh5 Q0.1 v2):Int)/\(0:Int)=(↑v2:Int)/\True)/\True)/\∀(v3:Nat),Nat.le v3 Q0.1.length->(decide ((↑v3:Int)<(↑Q0.1.length:Int))=true->((0:Int)<=(↑v3:Int)/\(↑v3:Int)<(↑Q0.1.length:Int))/\((nI Q0.1 v3 != (0:Int))=true->fits .i64 ((↑(wh5 Q0.1 v3):Int)+(1:Int))/\fits .i64 ((↑v3:Int)+(1:Int))/\∃(v7:Nat),Nat.le v7 Q0.1.length/\Q0.1.length-v7<Q0.1.length-v3/\((↑(wh5 Q0.1 v3):Int)+(1:Int)=(↑(wh5 Q0.1 v7):Int)/\(↑v3:Int)+(1:Int)=(↑v7:Int)/\True)/\True)/\((nI Q0.1 v3 != (0:Int))=false->fits .i64 ((↑v3:Int)+(1:Int))/\∃(v7:Nat),Nat.le v7 Q0.1.length/\Q0.1.length-v7<Q0.1.length-v3/\((↑(wh5 Q0.1 v3):Int)=(↑(wh5 Q0.1 v7):Int)/\(↑v3:Int)+(1:Int)=(↑v7:Int)/\True)/\True))/\(decide ((↑v3:Int)<(↑Q0.1.length:Int))=false->(↑(wh5 Q0.1 v3):Int)=Q1.1/\(0:Int)=Q1.2/\True))) (by kernel_rfl) ?_
 try simp only[z0,z1,z2,z3,z4,z5,z6,z7,z8,z9,z10,Int.reduceEq,z11,z12,z13,z14,z15,z16,z17,z18,z19,z20,z21,z22,z23,z24,z25,z26,z27,z28,z29,z30,Int.reduceLE,Int.reduceLT,z31,z32,z33,z34,qa1]
 try simp only[qb3,qb4,qc0,z31,z32,z2,z1]
 have hl:=h.len
 refine⟨h.cr,λhe=>by simp[qi7,he],λhe=>?_⟩
 have hR:qi7 m=((wh5 (qk8 m).1 (qk8 m).1.length:Int),0):=by simp[qi7,he]
 rw[hR]
 refine⟨(),0,Nat.zero_le _,⟨rfl,rfl⟩,λi hi=>⟨λhlt=>?_,λhge=>?_⟩⟩
 ·have:=w8x (qk8 m).1 i
  exact⟨hlt,λhz=>⟨qa4 (by omega) (by omega),qa4 (by omega) (by omega),i+1,hlt,by omega,by rw[wh5,if_pos hz]; omega,by omega⟩,λhz=>⟨qa4 (by omega) (by omega),i+1,hlt,by omega,by rw[wh5,if_neg (λq=>q hz)],by omega⟩⟩
 ·obtain rfl:i=(qk8 m).1.length:=by omega
  exact⟨rfl,rfl⟩
end Go.Proofs.YtempacilejhbgaaGreat
