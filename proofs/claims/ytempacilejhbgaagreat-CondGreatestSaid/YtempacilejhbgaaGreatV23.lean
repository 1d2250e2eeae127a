/- The reference's circuits: contracts by the engine. No condition. -/
import Derived.Test.YtempacilejhbgaaGreatV22
set_option linter.unusedVariables false
set_option linter.unusedSimpArgs false
namespace Go.Proofs.YtempacilejhbgaaGreat
open Go Go.RowKit Eng
def qh6 (m:List (List Int)) (s:List Int):List (List Int):=qg1 (qj1 m s)
def qo1 (v:List Int):Nat->Bool
 | 0=>true
 | k+1=>qo1 v k && (nI v k != 0)
def q1h (m:List (List Int)) (s:List Int):Bool:=decide (s.length≠0) && decide (s.length<=m.length+1)
def q2d (m:List (List Int)) (n:Nat) (s:List Int):List Int:=qd1 n s (nL (qh6 m s) 0) s.length
def wm6 (m:List (List Int)) (n:Nat) (s:List Int):List Int:=if nI (q2d m n s) (nI s 0).toNat<0 then qi7 (q2d m n s) (-1) else q2d m n s
def qr1 (m:List (List Int)) (s:List Int):Bool:=q1h m s && decide ((qh6 m s).length=1) && qo1 (nL (qh6 m s) 0) s.length
def qg7 (m:List (List Int)) (n:Nat) (L:List (List Int)):Nat->List (List Int)
 | 0=>[]
 | c+1=>if qr1 m (nL L c) then qg7 m n L c++[wm6 m n (nL L c)] else qg7 m n L c
def q2e (m:List (List Int)):List (List Int) × Int:=if validB m=false then([],1) else(qg7 m (nL m 0).length (qe0 (nL m 0).length) (qe0 (nL m 0).length).length,0)
structure x61 (m:List (List Int)):Prop where
 n7:(nL m 0).length<=7
 kr:∀s∈qe0 (nL m 0).length,q1h m s=true->xr3 (qj1 m s)/\xa3 m s
structure xc6 (m:List (List Int)):Prop where
 fit:wd8 m
 ok:validB m=true->x61 m
theorem q84 (m:List (List Int)) (n:Nat) (L:List (List Int)):∀c,(qg7 m n L c).length<=c
 | 0=>Nat.le_refl _
 | c+1=>by
  have:=q84 m n L c
  rw[qg7]
  split
  ·simp; omega
  ·omega
theorem q4g {d:List (List Int)} {P:List Int} {n:Nat} (h:x0e d P n) (hn:n<=1000):∀f,f<=n->∀x∈qg9 d P n f,x.length=n/\q3y x
 | 0,_,x,hx=>by cases hx
 | f+1,hf,x,hx=>by
  rw[qg9] at hx
  split at hx
  ·rename_i hfree
   rcases List.mem_append.1 hx with hx | hx
   ·exact q4g h hn f (by omega) x hx
   ·obtain rfl:=List.mem_singleton.1 hx
    refine⟨by rw[qm1,q3d],by rw[qm1,q3d]; exact hn,λx hx=>?_⟩
    obtain⟨y,hy,rfl⟩:=List.mem_map.1 hx
    exact qk0 (wb1 h (by omega) hfree _ (Nat.le_refl _) y hy)
  ·exact q4g h hn f (by omega) x hx
theorem wt6 {rows:List (List Int)} (h:xr3 rows) (x:List Int) (hx:x∈qg1 rows):x.length=rdW rows/\q3y x:=
 q4g h.ar h.rd.w _ (Nat.le_refl _) x hx
theorem xc7 {m:List (List Int)} (hm:0<m.length) (s:List Int):rdW (qj1 m s)=s.length:=by
 unfold rdW
 rw[qy2 m s 0 hm,qs8]
abbrev x62:qb9:=qg2 false none [tMask] [tMask,tInt] (λx=>xc6 x.1) (λx=>((q2e x.1).1,(q2e x.1).2,()))
def x3d (m:List (List Int)) (n:Nat):Nat->Option Inv
 | 0=>some (Inv.of [4,21] 1 (λc:Nat=>[(4,.own 0),(21,.lit (.int .i64 c))]) (λc=>[.vec 24 (.list (.int .i64)) (qg7 m n (qe0 n) c)]) (λc=>c<=(qe0 n).length) (λc=>(qe0 n).length-c))
 | 1=>some (Eng.Inv.mk (Nat × List Int) Nat [4,8,9,50] 2 (λq k=>[(4,.own 0),(8,.own 1),(9,.lit (.bool (qo1 (nL (qh6 m q.2) 0) k))),(50,.lit (.int .i64 k))]) (λq k=>[.vec 24 (.list (.int .i64)) (qg7 m n (qe0 n) q.1),.vec 3 (.int .i64) (qd1 n q.2 (nL (qh6 m q.2) 0) k)]) (λq k=>k<=q.2.length) (λq k=>q.2.length-k))
 | _=>none
theorem w65:Meets Tryz.prog 107 x62:=by
 refine meets (snd (SpecsOk.cons wa6 (SpecsOk.cons ws8 (SpecsOk.cons w23 (SpecsOk.cons xa6 (SpecsOk.cons wl0 (SpecsOk.nil _))))))) Tryz.func107 rfl rfl (λx=>x3d x.1 (nL x.1 0).length) (λ_=>by kernel_rfl) (by decide) ?_
 rintro⟨m,⟨⟩⟩ h
 revert m
 intro(m:List (List Int)) (h:xc6 m)
 refine @qd8 _ (wd8 m/\((!validB m)=true->(q2e m).1=[]/\(1:Int)=(q2e m).2/\True)/\((!validB m)=false->((0:Int)<=(0:Int)/\(0:Int)<(↑m.length:Int))/\((0:Ty.den tInt)<=(↑(nL m (0:Nat)).length:Int)/\(↑(nL m (0:Nat)).length:Int)<=(7:Ty.den tInt))/\∃(v1:Unit),∃(v2:Nat),Nat.le v2 (qe0 (nL m (0:Nat)).length).length/\((True/\(0:Int)=(↑v2:Int)/\True)/\qg7 m (nL m (0:Nat)).length (qe0 (nL m (0:Nat)).length) v2=[]/\True)/\∀(v3:Nat),Nat.le v3 (qe0 (nL m (0:Nat)).length).length->(decide ((↑v3:Int)<(↑(qe0 (↑(nL m (0:Nat)).length:Int).toNat).length:Int))=true->((0:Int)<=(↑v3:Int)/\(↑v3:Int)<(↑(qe0 (↑(nL m (0:Nat)).length:Int).toNat).length:Int))/\(((↑(nL (qe0 (↑(nL m (0:Nat)).length:Int).toNat) v3).length:Int)==(0:Int))=true->fits .i64 ((↑v3:Int)+(1:Int))/\∃(v7:Nat),Nat.le v7 (qe0 (nL m (0:Nat)).length).length/\(qe0 (nL m (0:Nat)).length).length-v7<(qe0 (nL m (0:Nat)).length).length-v3/\(True/\(↑v3:Int)+(1:Int)=(↑v7:Int)/\True)/\qg7 m (nL m (0:Nat)).length (qe0 (nL m (0:Nat)).length) v3=qg7 m (nL m (0:Nat)).length (qe0 (nL m (0:Nat)).length) v7/\True)/\(((↑(nL (qe0 (↑(nL m (0:Nat)).length:Int).toNat) v3).length:Int)==(0:Int))=false->fits .i64 ((↑m.length:Int)+(1:Int))/\(decide ((↑m.length:Int)+(1:Int)<(↑(nL (qe0 (↑(nL m (0:Nat)).length:Int).toNat) v3).length:Int))=true->fits .i64 ((↑v3:Int)+(1:Int))/\∃(v8:Nat),Nat.le v8 (qe0 (nL m (0:Nat)).length).length/\(qe0 (nL m (0:Nat)).length).length-v8<(qe0 (nL m (0:Nat)).length).length-v3/\(True/\(↑v3:Int)+(1:Int)=(↑v8:Int)/\True)/\qg7 m (nL m (0:Nat)).length (qe0 (nL m (0:Nat)).length) v3=qg7 m (nL m (0:Nat)).length (qe0 (nL m (0:Nat)).length) v8/\True)/\(decide ((↑m.length:Int)+(1:Int)<(↑(nL (qe0 (↑(nL m (0:Nat)).length:Int).toNat) v3).length:Int))=false->xa3 m (nL (qe0 (↑(nL m (0:Nat)).length:Int).toNat) v3)/\xr3 (qj1 m (nL (qe0 (↑(nL m (0:Nat)).length:Int).toNat) v3))/\(((↑(qg1 (qj1 m (nL (qe0 (↑(nL m (0:Nat)).length:Int).toNat) v3))).length:Int) != (1:Int))=true->fits .i64 ((↑v3:Int)+(1:Int))/\∃(v9:Nat),Nat.le v9 (qe0 (nL m (0:Nat)).length).length/\(qe0 (nL m (0:Nat)).length).length-v9<(qe0 (nL m (0:Nat)).length).length-v3/\(True/\(↑v3:Int)+(1:Int)=(↑v9:Int)/\True)/\qg7 m (nL m (0:Nat)).length (qe0 (nL m (0:Nat)).length) v3=qg7 m (nL m (0:Nat)).length (qe0 (nL m (0:Nat)).length) v9/\True)/\(((↑(qg1 (qj1 m (nL (qe0 (↑(nL m (0:Nat)).length:Int).toNat) v3))).length:Int) != (1:Int))=false->((0:Int)<=(0:Int)/\(0:Int)<(↑m.length:Int))/\((↑(nL m (0:Nat)).length:Int)=(↑(nL m (0:Nat)).length:Int)/\(0:Int)<=(↑(nL m (0:Nat)).length:Int)/\(↑(nL m (0:Nat)).length:Int)<=(1000000:Int))/\∃(v9:Nat × List Int),∃(v10:Nat),Nat.le v10 v9.2.length/\((True/\True/\true=qo1 (nL (qh6 m v9.2) (0:Nat)) v10/\(0:Int)=(↑v10:Int)/\True)/\qg7 m (nL m (0:Nat)).length (qe0 (nL m (0:Nat)).length) v3=qg7 m (nL m (0:Nat)).length (qe0 (nL m (0:Nat)).length) v9.1/\List.replicate (↑(nL m (0:Nat)).length:Int).toNat (Ty.dflt (TI.ty T3))=qd1 (nL m (0:Nat)).length v9.2 (nL (qh6 m v9.2) (0:Nat)) v10/\True)/\∀(v11:Nat),Nat.le v11 v9.2.length->(decide ((↑v11:Int)<(↑(nL (qe0 (↑(nL m (0:Nat)).length:Int).toNat) v3).length:Int))=true->((0:Int)<=(↑v11:Int)/\(↑v11:Int)<(↑(nL (qe0 (↑(nL m (0:Nat)).length:Int).toNat) v3).length:Int))/\((0:Int)<=(0:Int)/\(0:Int)<(↑(qg1 (qj1 m (nL (qe0 (↑(nL m (0:Nat)).length:Int).toNat) v3))).length:Int))/\((0:Int)<=(↑v11:Int)/\(↑v11:Int)<(↑(nL (qg1 (qj1 m (nL (qe0 (↑(nL m (0:Nat)).length:Int).toNat) v3))) (0:Nat)).length:Int))/\((0:Int)<=nI (nL (qe0 (↑(nL m (0:Nat)).length:Int).toNat) v3) v11/\nI (nL (qe0 (↑(nL m (0:Nat)).length:Int).toNat) v3) v11<(↑(qd1 (nL m (0:Nat)).length v9.2 (nL (qh6 m v9.2) (0:Nat)) v11).length:Int))/\(nI (nL (qe0 (↑(nL m (0:Nat)).length:Int).toNat) v3) v11).toNat<(qd1 (nL m (0:Nat)).length v9.2 (nL (qh6 m v9.2) (0:Nat)) v11).length/\(qo1 (nL (qh6 m v9.2) (0:Nat)) v11=true->((0:Int)<=(0:Int)/\(0:Int)<(↑(qg1 (qj1 m (nL (qe0 (↑(nL m (0:Nat)).length:Int).toNat) v3))).length:Int))/\((0:Int)<=(↑v11:Int)/\(↑v11:Int)<(↑(nL (qg1 (qj1 m (nL (qe0 (↑(nL m (0:Nat)).length:Int).toNat) v3))) (0:Nat)).length:Int))/\fits .i64 ((↑v11:Int)+(1:Int))/\∃(v15:Nat),Nat.le v15 v9.2.length/\v9.2.length-v15<v9.2.length-v11/\(True/\True/\(nI (nL (qg1 (qj1 m (nL (qe0 (↑(nL m (0:Nat)).length:Int).toNat) v3))) (0:Nat)) v11 != (0:Int))=qo1 (nL (qh6 m v9.2) (0:Nat)) v15/\(↑v11:Int)+(1:Int)=(↑v15:Int)/\True)/\qg7 m (nL m (0:Nat)).length (qe0 (nL m (0:Nat)).length) v9.1=qg7 m (nL m (0:Nat)).length (qe0 (nL m (0:Nat)).length) v9.1/\List.set (qd1 (nL m (0:Nat)).length v9.2 (nL (qh6 m v9.2) (0:Nat)) v11) (nI (nL (qe0 (↑(nL m (0:Nat)).length:Int).toNat) v3) v11).toNat (nI (nL (qg1 (qj1 m (nL (qe0 (↑(nL m (0:Nat)).length:Int).toNat) v3))) (0:Nat)) v11)=qd1 (nL m (0:Nat)).length v9.2 (nL (qh6 m v9.2) (0:Nat)) v15/\True)/\(qo1 (nL (qh6 m v9.2) (0:Nat)) v11=false->fits .i64 ((↑v11:Int)+(1:Int))/\∃(v15:Nat),Nat.le v15 v9.2.length/\v9.2.length-v15<v9.2.length-v11/\(True/\True/\false=qo1 (nL (qh6 m v9.2) (0:Nat)) v15/\(↑v11:Int)+(1:Int)=(↑v15:Int)/\True)/\qg7 m (nL m (0:Nat)).length (qe0 (nL m (0:Nat)).length) v9.1=qg7 m (nL m (0:Nat)).length (qe0 (nL m (0:Nat)).length) v9.1/\List.set (qd1 (nL m (0:Nat)).length v9.2 (nL (qh6 m v9.2) (0:Nat)) v11) (nI (nL (qe0 (↑(nL m (0:Nat)).length:Int).toNat) v3) v11).toNat (nI (nL (qg1 (qj1 m (nL (qe0 (↑(nL m (0:Nat)).length:Int).toNat) v3))) (0:Nat)) v11)=qd1 (nL m (0:Nat)).length v9.2 (nL (qh6 m v9.2) (0:Nat)) v15/\True))/\(decide ((↑v11:Int)<(↑(nL (qe0 (↑(nL m (0:Nat)).length:Int).toNat) v3).length:Int))=false->((!qo1 (nL (qh6 m v9.2) (0:Nat)) v11)=true->fits .i64 ((↑v3:Int)+(1:Int))/\∃(v15:Nat),Nat.le v15 (qe0 (nL m (0:Nat)).length).length/\(qe0 (nL m (0:Nat)).length).length-v15<(qe0 (nL m (0:Nat)).length).length-v3/\(True/\(↑v3:Int)+(1:Int)=(↑v15:Int)/\True)/\qg7 m (nL m (0:Nat)).length (qe0 (nL m (0:Nat)).length) v9.1=qg7 m (nL m (0:Nat)).length (qe0 (nL m (0:Nat)).length) v15/\True)/\((!qo1 (nL (qh6 m v9.2) (0:Nat)) v11)=false->((0:Int)<=(0:Int)/\(0:Int)<(↑(nL (qe0 (↑(nL m (0:Nat)).length:Int).toNat) v3).length:Int))/\((0:Int)<=nI (nL (qe0 (↑(nL m (0:Nat)).length:Int).toNat) v3) (0:Nat)/\nI (nL (qe0 (↑(nL m (0:Nat)).length:Int).toNat) v3) (0:Nat)<(↑(qd1 (nL m (0:Nat)).length v9.2 (nL (qh6 m v9.2) (0:Nat)) v11).length:Int))/\(nI (nL (qe0 (↑(nL m (0:Nat)).length:Int).toNat) v3) (0:Nat)).toNat<(qd1 (nL m (0:Nat)).length v9.2 (nL (qh6 m v9.2) (0:Nat)) v11).length/\(decide (nI (qd1 (nL m (0:Nat)).length v9.2 (nL (qh6 m v9.2) (0:Nat)) v11) (nI (nL (qe0 (↑(nL m (0:Nat)).length:Int).toNat) v3) (0:Nat)).toNat<(0:Int))=true->w6h (qd1 (nL m (0:Nat)).length v9.2 (nL (qh6 m v9.2) (0:Nat)) v11) (-1:Int)/\((0:Nat)<List.length [qi7 (qd1 (nL m (0:Nat)).length v9.2 (nL (qh6 m v9.2) (0:Nat)) v11) (-1:Int)]/\Nat.le ((qg7 m (nL m (0:Nat)).length (qe0 (nL m (0:Nat)).length) v9.1).length+List.length [qi7 (qd1 (nL m (0:Nat)).length v9.2 (nL (qh6 m v9.2) (0:Nat)) v11) (-1:Int)]) (1000000:Nat))/\fits .i64 ((↑v3:Int)+(1:Int))/\∃(v16:Nat),Nat.le v16 (qe0 (nL m (0:Nat)).length).length/\(qe0 (nL m (0:Nat)).length).length-v16<(qe0 (nL m (0:Nat)).length).length-v3/\(True/\(↑v3:Int)+(1:Int)=(↑v16:Int)/\True)/\qg7 m (nL m (0:Nat)).length (qe0 (nL m (0:Nat)).length) v9.1++[qi7 (qd1 (nL m (0:Nat)).length v9.2 (nL (qh6 m v9.2) (0:Nat)) v11) (-1:Int)]=qg7 m (nL m (0:Nat)).length (qe0 (nL m (0:Nat)).length) v16/\True)/\(decide (nI (qd1 (nL m (0:Nat)).length v9.2 (nL (qh6 m v9.2) (0:Nat)) v11) (nI (nL (qe0 (↑(nL m (0:Nat)).length:Int).toNat) v3) (0:Nat)).toNat<(0:Int))=false->((0:Nat)<(0:Nat)+(1:Nat)/\Nat.le ((qg7 m (nL m (0:Nat)).length (qe0 (nL m (0:Nat)).length) v9.1).length+((0:Nat)+(1:Nat))) (1000000:Nat))/\fits .i64 ((↑v3:Int)+(1:Int))/\∃(v16:Nat),Nat.le v16 (qe0 (nL m (0:Nat)).length).length/\(qe0 (nL m (0:Nat)).length).length-v16<(qe0 (nL m (0:Nat)).length).length-v3/\(True/\(↑v3:Int)+(1:Int)=(↑v16:Int)/\True)/\qg7 m (nL m (0:Nat)).length (qe0 (nL m (0:Nat)).length) v9.1++[qd1 (nL m (0:Nat)).length v9.2 (nL (qh6 m v9.2) (0:Nat)) v11]=qg7 m (nL m (0:Nat)).length (qe0 (nL m (0:Nat)).length) v16/\True)))))))/\(decide ((↑v3:Int)<(↑(qe0 (↑(nL m (0:Nat)).length:Int).toNat).length:Int))=false->qg7 m (nL m (0:Nat)).length (qe0 (nL m (0:Nat)).length) v3=(q2e m).1/\(0:Int)=(q2e m).2/\True))) (by kernel_rfl) ?_
 try simp only[z0,z1,z2,z3,z4,z5,z6,z7,z8,z9,z10,Int.reduceEq,z11,z12,z13,z14,z15,z16,z17,z18,z19,z20,z21,z22,z23,z24,z25,z26,z27,z28,z29,z30,Int.reduceLE,Int.reduceLT,z31,z32,z33,z34,qa3]
 try simp only[qb3,qb4,qc7,z31,z32,z2,z1]
 refine⟨h.fit,λhv=>by simp[q2e,hv],λhv=>?_⟩
 have hM:=Mk.of hv
 have hO:=h.ok hv
 have hm1:=hM.rows1
 have hm6:=hM.rows6
 have hn7:=hO.n7
 have hkr:=hO.kr
 have hR:q2e m=(qg7 m (nL m 0).length (qe0 (nL m 0).length) (qe0 (nL m 0).length).length,0):=by simp[q2e,hv]
 rw[hR]
 have hst:=wl2 (n:=(nL m 0).length) (k:=128) hn7 (Nat.le_refl _)
 change(qe0 (nL m 0).length).length<=128/\∀s∈qe0 (nL m 0).length,_ at hst
 obtain⟨hsl,hsm⟩:=hst
 generalize hnn:(nL m 0).length=n at *
 simp only[show ∀x,qg1 (qj1 m x)=qh6 m x from λ_=>rfl]
 clear hR
 generalize qe0 n=SA at *
 refine⟨by omega,by omega,(),0,Nat.zero_le _,⟨rfl,rfl⟩,λc hc=>⟨λhlt=>?_,λhge=>?_⟩⟩
 ·have hcl:=q84 m n SA c
  have hs2:=hsm _ (qj4 SA c hlt)
  have hk2:=hkr _ (qj4 SA c hlt)
  obtain⟨s,hs⟩:∃s,nL SA c=s:=⟨_,rfl⟩
  rw[hs] at hs2 hk2 ⊢
  have hs1:=hs2.1
  have no:qr1 m s=false->qg7 m n SA c=qg7 m n SA (c+1):=λq=>by
   rw[qg7,hs,if_neg (by rw[q]; decide)]
  have nok:q1h m s=false->qr1 m s=false:=λq=>by simp[qr1,q]
  refine⟨hlt,λh0=>⟨qa7 (by omega) (by omega),c+1,hlt,by omega,by omega,no (nok ?_)⟩,λh0=>⟨qa7 (by omega) (by omega),λh1=>⟨qa7 (by omega) (by omega),c+1,hlt,by omega,by omega,no (nok ?_)⟩,λh1=>?_⟩⟩
  ·have:s.length=0:=by omega
   simp[q1h,this]
  ·have:¬s.length<=m.length+1:=by omega
   simp[q1h,this]
  have hok:q1h m s=true:=by
   unfold q1h
   rw[Bool.and_eq_true,decide_eq_true_eq,decide_eq_true_eq]
   omega
  obtain⟨hK,hC⟩:=hk2 hok
  refine⟨hC,hK,λh2=>⟨qa7 (by omega) (by omega),c+1,hlt,by omega,by omega,no ?_⟩,λh2=>?_⟩
  ·have:¬(qh6 m s).length=1:=by omega
   simp[qr1,this]
  have h2:(qh6 m s).length=1:=by omega
  have hkm:=wt6 hK (nL (qh6 m s) 0) (qj4 (qh6 m s) 0 (by omega))
  rw[xc7 (by omega)] at hkm
  obtain⟨hkl,hkb⟩:=hkm
  have hat:∀j,j<s.length->0<=nI s j/\nI s j<n:=λj hj=>hs2.2 _ (by rw[qf8 s j hj]; exact List.getElem_mem hj)
  have hat':∀j i,j<s.length->0<=nI s j/\nI s j<((qd1 n s (nL (qh6 m s) 0) i).length:Int):=λj i hj=>by
   have:=hat j hj
   rw[qi8]; exact this
  refine⟨by omega,by omega,(c,s),0,Nat.zero_le _,⟨⟨rfl,rfl⟩,rfl,rfl⟩,λj hj=>⟨λhjl=>?_,λhjl=>?_⟩⟩
  ·dsimp only at hj ⊢
   have ha:=hat' j j hjl
   refine⟨hjl,by omega,by omega,ha,by omega,λhw=>⟨by omega,by omega,qa7 (by omega) (by omega),j+1,hjl,by omega,⟨by rw[qo1,hw,Bool.true_and],by omega⟩,rfl⟩,λhw=>⟨qa7 (by omega) (by omega),j+1,hjl,by omega,⟨by rw[qo1,hw,Bool.false_and],by omega⟩,rfl⟩⟩
  ·dsimp only at hj ⊢
   obtain rfl:j=s.length:=by omega
   refine⟨λhw=>⟨qa7 (by omega) (by omega),c+1,hlt,by omega,by omega,no (by simp[qr1,hw])⟩,λhw=>?_⟩
   have yes:qr1 m s=true:=by simp[qr1,hok,h2,hw]
   have hsb:q3y (qd1 n s (nL (qh6 m s) 0) s.length):=q0o hkb (by omega) hkl _ (Nat.le_refl _)
   have ha:=hat' 0 s.length (by omega)
   have hst:=qi8 n s (nL (qh6 m s) 0) s.length
   refine⟨by omega,ha,by omega,λhng=>⟨⟨hsb.1,λi hi=>?_⟩,by omega,qa7 (by omega) (by omega),c+1,hlt,by omega,by omega,?_⟩,λhng=>⟨by omega,qa7 (by omega) (by omega),c+1,hlt,by omega,by omega,?_⟩⟩
   ·have:=q0k hsb hi
    unfold qe8 at *
    omega
   ·rw[qg7,hs,if_pos yes,wm6]
    rw[if_pos (show nI (q2d m n s) (nI s 0).toNat<0 from hng)]
    rfl
   ·rw[qg7,hs,if_pos yes,wm6]
    rw[if_neg (show ¬nI (q2d m n s) (nI s 0).toNat<0 from by show ¬nI (qd1 n s (nL (qh6 m s) 0) s.length) (nI s 0).toNat<0; omega)]
    rfl
 ·obtain rfl:c=SA.length:=by omega
  exact⟨rfl,by first | rfl | trivial⟩
end Go.Proofs.YtempacilejhbgaaGreat
