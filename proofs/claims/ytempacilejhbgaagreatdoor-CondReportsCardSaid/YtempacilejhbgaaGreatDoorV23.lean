/- The reference's circuits: contracts by the engine. No condition. -/
import Derived.Test.YtempacilejhbgaaGreatDoorV22
set_option linter.unusedVariables false
set_option linter.unusedSimpArgs false
namespace Go.Proofs.YtempacilejhbgaaGreatDoor
open Go Go.RowKit Eng
def qh7 (m:List (List Int)) (s:List Int):List (List Int):=qg0 (qj1 m s)
def qo3 (v:List Int):Nat->Bool
 | 0=>true
 | k+1=>qo3 v k && (nI v k != 0)
def q1h (m:List (List Int)) (s:List Int):Bool:=decide (s.length≠0) && decide (s.length<=m.length+1)
def q2c (m:List (List Int)) (n:Nat) (s:List Int):List Int:=qd1 n s (nL (qh7 m s) 0) s.length
def wk4 (m:List (List Int)) (n:Nat) (s:List Int):List Int:=if nI (q2c m n s) (nI s 0).toNat<0 then qi7 (q2c m n s) (-1) else q2c m n s
def qq9 (m:List (List Int)) (s:List Int):Bool:=q1h m s && decide ((qh7 m s).length=1) && qo3 (nL (qh7 m s) 0) s.length
def qg8 (m:List (List Int)) (n:Nat) (L:List (List Int)):Nat->List (List Int)
 | 0=>[]
 | c+1=>if qq9 m (nL L c) then qg8 m n L c++[wk4 m n (nL L c)] else qg8 m n L c
def q2d (m:List (List Int)):List (List Int) × Int:=if validB m=false then([],1) else(qg8 m (nL m 0).length (qd9 (nL m 0).length) (qd9 (nL m 0).length).length,0)
structure x5q (m:List (List Int)):Prop where
 n7:(nL m 0).length<=7
 kr:∀s∈qd9 (nL m 0).length,q1h m s=true->xn9 (qj1 m s)/\w9j m s
structure w95 (m:List (List Int)):Prop where
 fit:w7l m
 ok:validB m=true->x5q m
theorem q8r (m:List (List Int)) (n:Nat) (L:List (List Int)):∀c,(qg8 m n L c).length<=c
 | 0=>Nat.le_refl _
 | c+1=>by
  have:=q8r m n L c
  rw[qg8]
  split
  ·simp; omega
  ·omega
theorem q34 {d:List (List Int)} {P:List Int} {n:Nat} (h:xx0 d P n) (hn:n<=1000):∀f,f<=n->∀x∈qg9 d P n f,x.length=n/\q3s x
 | 0,_,x,hx=>by cases hx
 | f+1,hf,x,hx=>by
  rw[qg9] at hx
  split at hx
  ·rename_i hfree
   rcases List.mem_append.1 hx with hx | hx
   ·exact q34 h hn f (by omega) x hx
   ·obtain rfl:=List.mem_singleton.1 hx
    refine⟨by rw[qm3,q3a],by rw[qm3,q3a]; exact hn,λx hx=>?_⟩
    obtain⟨y,hy,rfl⟩:=List.mem_map.1 hx
    exact qj9 (q95 h (by omega) hfree _ (Nat.le_refl _) y hy)
  ·exact q34 h hn f (by omega) x hx
theorem wr0 {rows:List (List Int)} (h:xn9 rows) (x:List Int) (hx:x∈qg0 rows):x.length=rdW rows/\q3s x:=
 q34 h.ar h.rd.w _ (Nat.le_refl _) x hx
theorem w96 {m:List (List Int)} (hm:0<m.length) (s:List Int):rdW (qj1 m s)=s.length:=by
 unfold rdW
 rw[qy0 m s 0 hm,qs8]
abbrev x5r:qb9:=qg6 false none [tMask] [tMask,tInt] (λx=>w95 x.1) (λx=>((q2d x.1).1,(q2d x.1).2,()))
def x1w (m:List (List Int)) (n:Nat):Nat->Option Inv
 | 0=>some (Inv.of [4,21] 1 (λc:Nat=>[(4,.own 0),(21,.lit (.int .i64 c))]) (λc=>[.vec 27 (.list (.int .i64)) (qg8 m n (qd9 n) c)]) (λc=>c<=(qd9 n).length) (λc=>(qd9 n).length-c))
 | 1=>some (Eng.Inv.mk (Nat × List Int) Nat [4,8,9,50] 2 (λq k=>[(4,.own 0),(8,.own 1),(9,.lit (.bool (qo3 (nL (qh7 m q.2) 0) k))),(50,.lit (.int .i64 k))]) (λq k=>[.vec 27 (.list (.int .i64)) (qg8 m n (qd9 n) q.1),.vec 3 (.int .i64) (qd1 n q.2 (nL (qh7 m q.2) 0) k)]) (λq k=>k<=q.2.length) (λq k=>q.2.length-k))
 | _=>none
theorem w6h:Meets Tryz.prog 57 x5r:=by
 refine meets (snd (SpecsOk.cons wy1 (SpecsOk.cons wp9 (SpecsOk.cons w2i (SpecsOk.cons w9n (SpecsOk.cons wi8 (SpecsOk.nil _))))))) Tryz.func57 rfl rfl (λx=>x1w x.1 (nL x.1 0).length) (λ_=>by kernel_rfl) (by decide) ?_
 rintro⟨m,⟨⟩⟩ h
 revert m
 intro(m:List (List Int)) (h:w95 m)
 refine @qe7 _ (w7l m/\((!validB m)=true->(q2d m).1=[]/\(1:Int)=(q2d m).2/\True)/\((!validB m)=false->((0:Int)<=(0:Int)/\(0:Int)<(↑m.length:Int))/\((0:Ty.den tInt)<=(↑(nL m (0:Nat)).length:Int)/\(↑(nL m (0:Nat)).length:Int)<=(7:Ty.den tInt))/\∃(v1:Unit),∃(v2:Nat),Nat.le v2 (qd9 (nL m (0:Nat)).length).length/\((True/\(0:Int)=(↑v2:Int)/\True)/\qg8 m (nL m (0:Nat)).length (qd9 (nL m (0:Nat)).length) v2=[]/\True)/\∀(v3:Nat),Nat.le v3 (qd9 (nL m (0:Nat)).length).length->(decide ((↑v3:Int)<(↑(qd9 (↑(nL m (0:Nat)).length:Int).toNat).length:Int))=true->((0:Int)<=(↑v3:Int)/\(↑v3:Int)<(↑(qd9 (↑(nL m (0:Nat)).length:Int).toNat).length:Int))/\(((↑(nL (qd9 (↑(nL m (0:Nat)).length:Int).toNat) v3).length:Int)==(0:Int))=true->fits .i64 ((↑v3:Int)+(1:Int))/\∃(v7:Nat),Nat.le v7 (qd9 (nL m (0:Nat)).length).length/\(qd9 (nL m (0:Nat)).length).length-v7<(qd9 (nL m (0:Nat)).length).length-v3/\(True/\(↑v3:Int)+(1:Int)=(↑v7:Int)/\True)/\qg8 m (nL m (0:Nat)).length (qd9 (nL m (0:Nat)).length) v3=qg8 m (nL m (0:Nat)).length (qd9 (nL m (0:Nat)).length) v7/\True)/\(((↑(nL (qd9 (↑(nL m (0:Nat)).length:Int).toNat) v3).length:Int)==(0:Int))=false->fits .i64 ((↑m.length:Int)+(1:Int))/\(decide ((↑m.length:Int)+(1:Int)<(↑(nL (qd9 (↑(nL m (0:Nat)).length:Int).toNat) v3).length:Int))=true->fits .i64 ((↑v3:Int)+(1:Int))/\∃(v8:Nat),Nat.le v8 (qd9 (nL m (0:Nat)).length).length/\(qd9 (nL m (0:Nat)).length).length-v8<(qd9 (nL m (0:Nat)).length).length-v3/\(True/\(↑v3:Int)+(1:Int)=(↑v8:Int)/\True)/\qg8 m (nL m (0:Nat)).length (qd9 (nL m (0:Nat)).length) v3=qg8 m (nL m (0:Nat)).length (qd9 (nL m (0:Nat)).length) v8/\True)/\(decide ((↑m.length:Int)+(1:Int)<(↑(nL (qd9 (↑(nL m (0:Nat)).length:Int).toNat) v3).length:Int))=false->w9j m (nL (qd9 (↑(nL m (0:Nat)).length:Int).toNat) v3)/\xn9 (qj1 m (nL (qd9 (↑(nL m (0:Nat)).length:Int).toNat) v3))/\(((↑(qg0 (qj1 m (nL (qd9 (↑(nL m (0:Nat)).length:Int).toNat) v3))).length:Int) != (1:Int))=true->fits .i64 ((↑v3:Int)+(1:Int))/\∃(v9:Nat),Nat.le v9 (qd9 (nL m (0:Nat)).length).length/\(qd9 (nL m (0:Nat)).length).length-v9<(qd9 (nL m (0:Nat)).length).length-v3/\(True/\(↑v3:Int)+(1:Int)=(↑v9:Int)/\True)/\qg8 m (nL m (0:Nat)).length (qd9 (nL m (0:Nat)).length) v3=qg8 m (nL m (0:Nat)).length (qd9 (nL m (0:Nat)).length) v9/\True)/\(((↑(qg0 (qj1 m (nL (qd9 (↑(nL m (0:Nat)).length:Int).toNat) v3))).length:Int) != (1:Int))=false->((0:Int)<=(0:Int)/\(0:Int)<(↑m.length:Int))/\((↑(nL m (0:Nat)).length:Int)=(↑(nL m (0:Nat)).length:Int)/\(0:Int)<=(↑(nL m (0:Nat)).length:Int)/\(↑(nL m (0:Nat)).length:Int)<=(1000000:Int))/\∃(v9:Nat × List Int),∃(v10:Nat),Nat.le v10 v9.2.length/\((True/\True/\true=qo3 (nL (qh7 m v9.2) (0:Nat)) v10/\(0:Int)=(↑v10:Int)/\True)/\qg8 m (nL m (0:Nat)).length (qd9 (nL m (0:Nat)).length) v3=qg8 m (nL m (0:Nat)).length (qd9 (nL m (0:Nat)).length) v9.1/\List.replicate (↑(nL m (0:Nat)).length:Int).toNat (Ty.dflt (TI.ty T3))=qd1 (nL m (0:Nat)).length v9.2 (nL (qh7 m v9.2) (0:Nat)) v10/\True)/\∀(v11:Nat),Nat.le v11 v9.2.length->(decide ((↑v11:Int)<(↑(nL (qd9 (↑(nL m (0:Nat)).length:Int).toNat) v3).length:Int))=true->((0:Int)<=(↑v11:Int)/\(↑v11:Int)<(↑(nL (qd9 (↑(nL m (0:Nat)).length:Int).toNat) v3).length:Int))/\((0:Int)<=(0:Int)/\(0:Int)<(↑(qg0 (qj1 m (nL (qd9 (↑(nL m (0:Nat)).length:Int).toNat) v3))).length:Int))/\((0:Int)<=(↑v11:Int)/\(↑v11:Int)<(↑(nL (qg0 (qj1 m (nL (qd9 (↑(nL m (0:Nat)).length:Int).toNat) v3))) (0:Nat)).length:Int))/\((0:Int)<=nI (nL (qd9 (↑(nL m (0:Nat)).length:Int).toNat) v3) v11/\nI (nL (qd9 (↑(nL m (0:Nat)).length:Int).toNat) v3) v11<(↑(qd1 (nL m (0:Nat)).length v9.2 (nL (qh7 m v9.2) (0:Nat)) v11).length:Int))/\(nI (nL (qd9 (↑(nL m (0:Nat)).length:Int).toNat) v3) v11).toNat<(qd1 (nL m (0:Nat)).length v9.2 (nL (qh7 m v9.2) (0:Nat)) v11).length/\(qo3 (nL (qh7 m v9.2) (0:Nat)) v11=true->((0:Int)<=(0:Int)/\(0:Int)<(↑(qg0 (qj1 m (nL (qd9 (↑(nL m (0:Nat)).length:Int).toNat) v3))).length:Int))/\((0:Int)<=(↑v11:Int)/\(↑v11:Int)<(↑(nL (qg0 (qj1 m (nL (qd9 (↑(nL m (0:Nat)).length:Int).toNat) v3))) (0:Nat)).length:Int))/\fits .i64 ((↑v11:Int)+(1:Int))/\∃(v15:Nat),Nat.le v15 v9.2.length/\v9.2.length-v15<v9.2.length-v11/\(True/\True/\(nI (nL (qg0 (qj1 m (nL (qd9 (↑(nL m (0:Nat)).length:Int).toNat) v3))) (0:Nat)) v11 != (0:Int))=qo3 (nL (qh7 m v9.2) (0:Nat)) v15/\(↑v11:Int)+(1:Int)=(↑v15:Int)/\True)/\qg8 m (nL m (0:Nat)).length (qd9 (nL m (0:Nat)).length) v9.1=qg8 m (nL m (0:Nat)).length (qd9 (nL m (0:Nat)).length) v9.1/\List.set (qd1 (nL m (0:Nat)).length v9.2 (nL (qh7 m v9.2) (0:Nat)) v11) (nI (nL (qd9 (↑(nL m (0:Nat)).length:Int).toNat) v3) v11).toNat (nI (nL (qg0 (qj1 m (nL (qd9 (↑(nL m (0:Nat)).length:Int).toNat) v3))) (0:Nat)) v11)=qd1 (nL m (0:Nat)).length v9.2 (nL (qh7 m v9.2) (0:Nat)) v15/\True)/\(qo3 (nL (qh7 m v9.2) (0:Nat)) v11=false->fits .i64 ((↑v11:Int)+(1:Int))/\∃(v15:Nat),Nat.le v15 v9.2.length/\v9.2.length-v15<v9.2.length-v11/\(True/\True/\false=qo3 (nL (qh7 m v9.2) (0:Nat)) v15/\(↑v11:Int)+(1:Int)=(↑v15:Int)/\True)/\qg8 m (nL m (0:Nat)).length (qd9 (nL m (0:Nat)).length) v9.1=qg8 m (nL m (0:Nat)).length (qd9 (nL m (0:Nat)).length) v9.1/\List.set (qd1 (nL m (0:Nat)).length v9.2 (nL (qh7 m v9.2) (0:Nat)) v11) (nI (nL (qd9 (↑(nL m (0:Nat)).length:Int).toNat) v3) v11).toNat (nI (nL (qg0 (qj1 m (nL (qd9 (↑(nL m (0:Nat)).length:Int).toNat) v3))) (0:Nat)) v11)=qd1 (nL m (0:Nat)).length v9.2 (nL (qh7 m v9.2) (0:Nat)) v15/\True))/\(decide ((↑v11:Int)<(↑(nL (qd9 (↑(nL m (0:Nat)).length:Int).toNat) v3).length:Int))=false->((!qo3 (nL (qh7 m v9.2) (0:Nat)) v11)=true->fits .i64 ((↑v3:Int)+(1:Int))/\∃(v15:Nat),Nat.le v15 (qd9 (nL m (0:Nat)).length).length/\(qd9 (nL m (0:Nat)).length).length-v15<(qd9 (nL m (0:Nat)).length).length-v3/\(True/\(↑v3:Int)+(1:Int)=(↑v15:Int)/\True)/\qg8 m (nL m (0:Nat)).length (qd9 (nL m (0:Nat)).length) v9.1=qg8 m (nL m (0:Nat)).length (qd9 (nL m (0:Nat)).length) v15/\True)/\((!qo3 (nL (qh7 m v9.2) (0:Nat)) v11)=false->((0:Int)<=(0:Int)/\(0:Int)<(↑(nL (qd9 (↑(nL m (0:Nat)).length:Int).toNat) v3).length:Int))/\((0:Int)<=nI (nL (qd9 (↑(nL m (0:Nat)).length:Int).toNat) v3) (0:Nat)/\nI (nL (qd9 (↑(nL m (0:Nat)).length:Int).toNat) v3) (0:Nat)<(↑(qd1 (nL m (0:Nat)).length v9.2 (nL (qh7 m v9.2) (0:Nat)) v11).length:Int))/\(nI (nL (qd9 (↑(nL m (0:Nat)).length:Int).toNat) v3) (0:Nat)).toNat<(qd1 (nL m (0:Nat)).length v9.2 (nL (qh7 m v9.2) (0:Nat)) v11).length/\(decide (nI (qd1 (nL m (0:Nat)).length v9.2 (nL (qh7 m v9.2) (0:Nat)) v11) (nI (nL (qd9 (↑(nL m (0:Nat)).length:Int).toNat) v3) (0:Nat)).toNat<(0:Int))=true->w5u (qd1 (nL m (0:Nat)).length v9.2 (nL (qh7 m v9.2) (0:Nat)) v11) (-1:Int)/\((0:Nat)<List.length [qi7 (qd1 (nL m (0:Nat)).length v9.2 (nL (qh7 m v9.2) (0:Nat)) v11) (-1:Int)]/\Nat.le ((qg8 m (nL m (0:Nat)).length (qd9 (nL m (0:Nat)).length) v9.1).length+List.length [qi7 (qd1 (nL m (0:Nat)).length v9.2 (nL (qh7 m v9.2) (0:Nat)) v11) (-1:Int)]) (1000000:Nat))/\fits .i64 ((↑v3:Int)+(1:Int))/\∃(v16:Nat),Nat.le v16 (qd9 (nL m (0:Nat)).length).length/\(qd9 (nL m (0:Nat)).length).length-v16<(qd9 (nL m (0:Nat)).length).length-v3/\(True/\(↑v3:Int)+(1:Int)=(↑v16:Int)/\True)/\qg8 m (nL m (0:Nat)).length (qd9 (nL m (0:Nat)).length) v9.1++[qi7 (qd1 (nL m (0:Nat)).length v9.2 (nL (qh7 m v9.2) (0:Nat)) v11) (-1:Int)]=qg8 m (nL m (0:Nat)).length (qd9 (nL m (0:Nat)).length) v16/\True)/\(decide (nI (qd1 (nL m (0:Nat)).length v9.2 (nL (qh7 m v9.2) (0:Nat)) v11) (nI (nL (qd9 (↑(nL m (0:Nat)).length:Int).toNat) v3) (0:Nat)).toNat<(0:Int))=false->((0:Nat)<(0:Nat)+(1:Nat)/\Nat.le ((qg8 m (nL m (0:Nat)).length (qd9 (nL m (0:Nat)).length) v9.1).length+((0:Nat)+(1:Nat))) (1000000:Nat))/\fits .i64 ((↑v3:Int)+(1:Int))/\∃(v16:Nat),Nat.le v16 (qd9 (nL m (0:Nat)).length).length/\(qd9 (nL m (0:Nat)).length).length-v16<(qd9 (nL m (0:Nat)).length).length-v3/\(True/\(↑v3:Int)+(1:Int)=(↑v16:Int)/\True)/\qg8 m (nL m (0:Nat)).length (qd9 (nL m (0:Nat)).length) v9.1++[qd1 (nL m (0:Nat)).length v9.2 (nL (qh7 m v9.2) (0:Nat)) v11]=qg8 m (nL m (0:Nat)).length (qd9 (nL m (0:Nat)).length) v16/\True)))))))/\(decide ((↑v3:Int)<(↑(qd9 (↑(nL m (0:Nat)).length:Int).toNat).length:Int))=false->qg8 m (nL m (0:Nat)).length (qd9 (nL m (0:Nat)).length) v3=(q2d m).1/\(0:Int)=(q2d m).2/\True))) (by kernel_rfl) ?_
 try simp only[z0,z1,z2,z3,z4,z5,z6,z7,z8,z9,z10,Int.reduceEq,z11,z12,z13,z14,z15,z16,z17,z18,z19,z20,z21,z22,z23,z24,z25,z26,z27,z28,z29,z30,Int.reduceLE,Int.reduceLT,z31,z32,z33,z34,qa3]
 try simp only[qb6,qb7,qc7,z31,z32,z2,z1]
 refine⟨h.fit,λhv=>by simp[q2d,hv],λhv=>?_⟩
 have hM:=Mk.of hv
 have hO:=h.ok hv
 have hm1:=hM.rows1
 have hm6:=hM.rows6
 have hn7:=hO.n7
 have hkr:=hO.kr
 have hR:q2d m=(qg8 m (nL m 0).length (qd9 (nL m 0).length) (qd9 (nL m 0).length).length,0):=by simp[q2d,hv]
 rw[hR]
 have hst:=wj0 (n:=(nL m 0).length) (k:=128) hn7 (Nat.le_refl _)
 change(qd9 (nL m 0).length).length<=128/\∀s∈qd9 (nL m 0).length,_ at hst
 obtain⟨hsl,hsm⟩:=hst
 generalize hnn:(nL m 0).length=n at *
 simp only[show ∀x,qg0 (qj1 m x)=qh7 m x from λ_=>rfl]
 clear hR
 generalize qd9 n=SA at *
 refine⟨by omega,by omega,(),0,Nat.zero_le _,⟨rfl,rfl⟩,λc hc=>⟨λhlt=>?_,λhge=>?_⟩⟩
 ·have hcl:=q8r m n SA c
  have hs2:=hsm _ (qk1 SA c hlt)
  have hk2:=hkr _ (qk1 SA c hlt)
  obtain⟨s,hs⟩:∃s,nL SA c=s:=⟨_,rfl⟩
  rw[hs] at hs2 hk2 ⊢
  have hs1:=hs2.1
  have no:qq9 m s=false->qg8 m n SA c=qg8 m n SA (c+1):=λq=>by
   rw[qg8,hs,if_neg (by rw[q]; decide)]
  have nok:q1h m s=false->qq9 m s=false:=λq=>by simp[qq9,q]
  refine⟨hlt,λh0=>⟨qa7 (by omega) (by omega),c+1,hlt,by omega,by omega,no (nok ?_)⟩,λh0=>⟨qa7 (by omega) (by omega),λh1=>⟨qa7 (by omega) (by omega),c+1,hlt,by omega,by omega,no (nok ?_)⟩,λh1=>?_⟩⟩
  ·have:s.length=0:=by omega
   simp[q1h,this]
  ·have:¬s.length<=m.length+1:=by omega
   simp[q1h,this]
  have hok:q1h m s=true:=by
   unfold q1h
   rw[Bool.and_eq_true,decide_eq_true_eq,decide_eq_true_eq]
   omega
  obtain⟨hK,hC⟩:=hk2 hok
  refine⟨hC,hK,λh2=>⟨qa7 (by omega) (by omega),c+1,hlt,by omega,by omega,no ?_⟩,λh2=>?_⟩
  ·have:¬(qh7 m s).length=1:=by omega
   simp[qq9,this]
  have h2:(qh7 m s).length=1:=by omega
  have hkm:=wr0 hK (nL (qh7 m s) 0) (qk1 (qh7 m s) 0 (by omega))
  rw[w96 (by omega)] at hkm
  obtain⟨hkl,hkb⟩:=hkm
  have hat:∀j,j<s.length->0<=nI s j/\nI s j<n:=λj hj=>hs2.2 _ (by rw[qg4 s j hj]; exact List.getElem_mem hj)
  have hat':∀j i,j<s.length->0<=nI s j/\nI s j<((qd1 n s (nL (qh7 m s) 0) i).length:Int):=λj i hj=>by
   have:=hat j hj
   rw[qi8]; exact this
  refine⟨by omega,by omega,(c,s),0,Nat.zero_le _,⟨⟨rfl,rfl⟩,rfl,rfl⟩,λj hj=>⟨λhjl=>?_,λhjl=>?_⟩⟩
  ·dsimp only at hj ⊢
   have ha:=hat' j j hjl
   refine⟨hjl,by omega,by omega,ha,by omega,λhw=>⟨by omega,by omega,qa7 (by omega) (by omega),j+1,hjl,by omega,⟨by rw[qo3,hw,Bool.true_and],by omega⟩,rfl⟩,λhw=>⟨qa7 (by omega) (by omega),j+1,hjl,by omega,⟨by rw[qo3,hw,Bool.false_and],by omega⟩,rfl⟩⟩
  ·dsimp only at hj ⊢
   obtain rfl:j=s.length:=by omega
   refine⟨λhw=>⟨qa7 (by omega) (by omega),c+1,hlt,by omega,by omega,no (by simp[qq9,hw])⟩,λhw=>?_⟩
   have yes:qq9 m s=true:=by simp[qq9,hok,h2,hw]
   have hsb:q3s (qd1 n s (nL (qh7 m s) 0) s.length):=q0l hkb (by omega) hkl _ (Nat.le_refl _)
   have ha:=hat' 0 s.length (by omega)
   have hst:=qi8 n s (nL (qh7 m s) 0) s.length
   refine⟨by omega,ha,by omega,λhng=>⟨⟨hsb.1,λi hi=>?_⟩,by omega,qa7 (by omega) (by omega),c+1,hlt,by omega,by omega,?_⟩,λhng=>⟨by omega,qa7 (by omega) (by omega),c+1,hlt,by omega,by omega,?_⟩⟩
   ·have:=q0i hsb hi
    unfold qf3 at *
    omega
   ·rw[qg8,hs,if_pos yes,wk4]
    rw[if_pos (show nI (q2c m n s) (nI s 0).toNat<0 from hng)]
    rfl
   ·rw[qg8,hs,if_pos yes,wk4]
    rw[if_neg (show ¬nI (q2c m n s) (nI s 0).toNat<0 from by show ¬nI (qd1 n s (nL (qh7 m s) 0) s.length) (nI s 0).toNat<0; omega)]
    rfl
 ·obtain rfl:c=SA.length:=by omega
  exact⟨rfl,by first | rfl | trivial⟩
end Go.Proofs.YtempacilejhbgaaGreatDoor
