/- How great determinants of few small numbers are. Plain mathematics. No condition. -/
import Derived.Test.YtempacilejhbgaaW9
set_option linter.unusedVariables false
namespace Go.Proofs.Ytempacilejhbgaa
theorem q9k (i:Nat):(sgn i).natAbs=1:=by unfold sgn; split <;> rfl
theorem w06 {n B:Nat} {A:Nat->Nat->Int} (h1:∀i,i<n+1->(A i 0).natAbs<=1) (h2:∀i,i<n+1->(det n (λa b=>A (skp i a) (b+1))).natAbs<=B):(det (n+1) A).natAbs<=(n+1)*B:=by
 rw[det]
 refine xn0 λi hi=>?_
 rw[Int.natAbs_mul,Int.natAbs_mul,q9k,Nat.one_mul]
 calc(A i 0).natAbs*_<=1*B:=Nat.mul_le_mul (h1 i hi) (h2 i hi)
  _=B:=Nat.one_mul _
def xv4:Nat->Nat
 | 0=>1
 | n+1=>(n+1)*xv4 n
theorem w4s:∀(n:Nat) {A:Nat->Nat->Int},(∀i j,i<n->j<n->(A i j).natAbs<=1)->(det n A).natAbs<=xv4 n
 | 0,_,_=>Nat.le_refl _
 | n+1,A,h=>w06 (λi hi=>h i 0 hi (by omega)) λi hi=>w4s n λa b ha hb=>h _ _ (q53 ha) (by omega)
def d3 (x y z:Nat):Int:=
 let b:=λ(c k:Nat)=>((c / 2 ^ k % 2:Nat):Int)
 b x 0*(b y 1*b z 2-b y 2*b z 1)-b y 0*(b x 1*b z 2-b x 2*b z 1)+b z 0*(b x 1*b y 2-b x 2*b y 1)
def q56 (x:Int):Int:=if 0<x then x else 0
def xx9 (p q r s:Nat):Bool:=decide (q56 (d3 q r s)+q56 (- d3 p r s)+q56 (d3 p q s)+q56 (- d3 p q r)<=4) && decide (q56 (- d3 q r s)+q56 (d3 p r s)+q56 (- d3 p q s)+q56 (d3 p q r)<=4)
theorem w8b:((List.range 8).all λp=>(List.range 8).all λq=>(List.range 8).all λr=>(List.range 8).all λs=>xx9 p q r s)=true:=by decide +kernel
theorem w8c (A:Nat->Nat->Int):det 3 A=A 0 0*(A 1 1*A 2 2-A 1 2*A 2 1)-A 1 0*(A 0 1*A 2 2-A 0 2*A 2 1)+A 2 0*(A 0 1*A 1 2-A 0 2*A 1 1):=by
 simp[det,sm,skp,sgn]
 grind
theorem xp2 (A:Nat->Nat->Int):det 4 A=A 0 0*det 3 (λa b=>A (skp 0 a) (b+1))-A 1 0*det 3 (λa b=>A (skp 1 a) (b+1))+A 2 0*det 3 (λa b=>A (skp 2 a) (b+1))-A 3 0*det 3 (λa b=>A (skp 3 a) (b+1)):=by
 rw[det]
 simp only[sm,show sgn 0=1 from rfl,show sgn 1=-1 from rfl,show sgn 2=1 from rfl,show sgn 3=-1 from rfl]
 grind
def qm1 (x y z:Int):Nat:=(x+2*y+4*z).toNat
def Bit (x:Int):Prop:=x=0\/x=1
theorem xf3 {x y z:Int} (hx:Bit x) (hy:Bit y) (hz:Bit z):qm1 x y z<8:=by unfold qm1 Bit at *; omega
theorem w4t {A:Nat->Nat->Int} (h:∀i j,i<3->j<3->Bit (A i j)):d3 (qm1 (A 0 0) (A 0 1) (A 0 2)) (qm1 (A 1 0) (A 1 1) (A 1 2)) (qm1 (A 2 0) (A 2 1) (A 2 2))=det 3 A:=by
 rw[w8c]
 have hb:∀i,i<3->((qm1 (A i 0) (A i 1) (A i 2) / 2 ^ 0 % 2:Nat):Int)=A i 0/\((qm1 (A i 0) (A i 1) (A i 2) / 2 ^ 1 % 2:Nat):Int)=A i 1/\((qm1 (A i 0) (A i 1) (A i 2) / 2 ^ 2 % 2:Nat):Int)=A i 2:=λi hi=>by
  have h0:=h i 0 hi (by omega)
  have h1:=h i 1 hi (by omega)
  have h2:=h i 2 hi (by omega)
  unfold Bit at h0 h1 h2
  unfold qm1
  rcases h0 with e0 | e0 <;> rcases h1 with e1 | e1 <;> rcases h2 with e2 | e2 <;> rw[e0,e1,e2] <;> decide
 unfold d3
 try dsimp only
 obtain⟨a0,a1,a2⟩:=hb 0 (by omega)
 obtain⟨b0,b1,b2⟩:=hb 1 (by omega)
 obtain⟨c0,c1,c2⟩:=hb 2 (by omega)
 rw[a0,a1,a2,b0,b1,b2,c0,c1,c2]
theorem qt5 {x:Int}:x<=q56 x/\0<=q56 x:=by unfold q56; split <;> omega
theorem w8d {A:Nat->Nat->Int} (h:∀i j,i<4->j<4->Bit (A i j)):(det 4 A).natAbs<=4:=by
 have hc:∀i,i<4->qm1 (A i 1) (A i 2) (A i 3)<8:=λi hi=>xf3 (h i 1 hi (by omega)) (h i 2 hi (by omega)) (h i 3 hi (by omega))
 have hk:=List.all_eq_true.1 (List.all_eq_true.1 (List.all_eq_true.1 (List.all_eq_true.1 w8b _ (List.mem_range.2 (hc 0 (by omega)))) _ (List.mem_range.2 (hc 1 (by omega)))) _ (List.mem_range.2 (hc 2 (by omega)))) _ (List.mem_range.2 (hc 3 (by omega)))
 unfold xx9 at hk
 rw[Bool.and_eq_true,decide_eq_true_eq,decide_eq_true_eq] at hk
 have e:∀i,i<4->det 3 (λa b=>A (skp i a) (b+1))=d3 (qm1 (A (skp i 0) 1) (A (skp i 0) 2) (A (skp i 0) 3)) (qm1 (A (skp i 1) 1) (A (skp i 1) 2) (A (skp i 1) 3)) (qm1 (A (skp i 2) 1) (A (skp i 2) 2) (A (skp i 2) 3)):=λi hi=>
  (w4t (A:=λa b=>A (skp i a) (b+1)) λa b ha hb=>h _ _ (q53 ha) (by omega)).symm
 rw[xp2,e 0 (by omega),e 1 (by omega),e 2 (by omega),e 3 (by omega)]
 have s0:skp 0 0=1/\skp 0 1=2/\skp 0 2=3/\skp 1 0=0/\skp 1 1=2/\skp 1 2=3/\skp 2 0=0/\skp 2 1=1/\skp 2 2=3/\skp 3 0=0/\skp 3 1=1/\skp 3 2=2:=by decide
 obtain⟨k0,k1,k2,k3,k4,k5,k6,k7,k8,k9,k10,k11⟩:=s0
 rw[k0,k1,k2,k3,k4,k5,k6,k7,k8,k9,k10,k11]
 generalize d3 (qm1 (A 1 1) (A 1 2) (A 1 3)) (qm1 (A 2 1) (A 2 2) (A 2 3)) (qm1 (A 3 1) (A 3 2) (A 3 3))=m0 at hk ⊢
 generalize d3 (qm1 (A 0 1) (A 0 2) (A 0 3)) (qm1 (A 2 1) (A 2 2) (A 2 3)) (qm1 (A 3 1) (A 3 2) (A 3 3))=m1 at hk ⊢
 generalize d3 (qm1 (A 0 1) (A 0 2) (A 0 3)) (qm1 (A 1 1) (A 1 2) (A 1 3)) (qm1 (A 3 1) (A 3 2) (A 3 3))=m2 at hk ⊢
 generalize d3 (qm1 (A 0 1) (A 0 2) (A 0 3)) (qm1 (A 1 1) (A 1 2) (A 1 3)) (qm1 (A 2 1) (A 2 2) (A 2 3))=m3 at hk ⊢
 have p0:=qt5 (x:=m0); have p1:=qt5 (x:=m1); have p2:=qt5 (x:=m2); have p3:=qt5 (x:=m3)
 have n0:=qt5 (x:=-m0); have n1:=qt5 (x:=-m1); have n2:=qt5 (x:=-m2); have n3:=qt5 (x:=-m3)
 have h0:=h 0 0 (by omega) (by omega); have h1:=h 1 0 (by omega) (by omega); have h2:=h 2 0 (by omega) (by omega); have h3:=h 3 0 (by omega) (by omega)
 unfold Bit at h0 h1 h2 h3
 rcases h0 with e0 | e0 <;> rcases h1 with e1 | e1 <;> rcases h2 with e2 | e2 <;> rcases h3 with e3 | e3 <;> rw[e0,e1,e2,e3] <;> omega
def One (x:Int):Prop:=x=1\/x=-1
theorem w07 (e d:Nat->Int) (B:Nat->Nat->Int):det 4 (λi j=>-2*(e i*d j*B i j))=16*(e 0*e 1*e 2*e 3*(d 0*d 1*d 2*d 3))*det 4 B:=by
 rw[xp2,xp2,w8c,w8c,w8c,w8c,w8c,w8c,w8c,w8c]
 simp only[skp]
 simp
 grind
theorem q9l {n:Nat} (A:Nat->Nat->Int) (c:Nat->Int) (hn:0<n):∀k,k<=n->det n (λi j=>if 0<i/\i<k then A i j-c i*A 0 j else A i j)=det n A
 | 0,_=>qh0 n λi j _ _=>by rw[if_neg (by omega)]
 | k+1,hk=>by
  rw[<- q9l A c hn k (by omega)]
  by_cases e:k=0
  ·exact qh0 n λi j _ _=>by rw[if_neg (by omega),if_neg (by omega)]
  ·have h1:(λi j=>if 0<i/\i<k+1 then A i j-c i*A 0 j else A i j)=upd (λi j=>if 0<i/\i<k then A i j-c i*A 0 j else A i j) k (λj=>1*A k j+(- c k)*A 0 j):=by
    funext i j; unfold upd
    by_cases q:i=k
    ·rw[if_pos q,q,if_pos (by omega)]; grind
    ·rw[if_neg q]
     try dsimp only
     by_cases q2:0<i/\i<k
     ·rw[if_pos q2,if_pos (by omega)]
     ·rw[if_neg q2,if_neg (by omega)]
   have h2:upd (λi j=>if 0<i/\i<k then A i j-c i*A 0 j else A i j) k (A k)=λi j=>if 0<i/\i<k then A i j-c i*A 0 j else A i j:=by
    funext i j; unfold upd
    by_cases q:i=k
    ·rw[if_pos q,q,if_neg (by omega)]
    ·rw[if_neg q]
   have h3:det n (upd (λi j=>if 0<i/\i<k then A i j-c i*A 0 j else A i j) k (A 0))=0:=q55 (r:=k) (s:=0) (by omega) hn e λj hj=>by
    unfold upd
    rw[if_pos rfl,if_neg (Ne.symm e)]
    try dsimp only
    rw[if_neg (by omega)]
   rw[h1,qp3 n _ k (by omega),h2,h3]; omega
theorem w9n {x:Int} (h:One x):x*x=1:=by rcases h with rfl | rfl <;> rfl
theorem q57 {x:Int} (h:One x):x.natAbs=1:=by rcases h with rfl | rfl <;> rfl
theorem w8e {A:Nat->Nat->Int} (h:∀i j,i<5->j<5->One (A i j)):(det 5 A).natAbs<=64:=by
 obtain⟨B,hB⟩:∃B:Nat->Nat->Int,∀i j,B i j=if A (i+1) 0*A (i+1) (j+1)=A 0 0*A 0 (j+1) then 0 else 1:=⟨_,λ_ _=>rfl⟩
 have hbit:∀i j,i<4->j<4->Bit (B i j):=λi j _ _=>by
  rw[hB]; unfold Bit; split
  ·exact .inl rfl
  ·exact .inr rfl
 rw[<- q9l A (λi=>A i 0*A 0 0) (by omega) 5 (Nat.le_refl _),det,qr7 (k:=0) (by omega) λi hi hne=>?_]
 ·try dsimp only
  have e:det 4 (λa b=>if 0<skp 0 a/\skp 0 a<5 then A (skp 0 a) (b+1)-A (skp 0 a) 0*A 0 0*A 0 (b+1) else A (skp 0 a) (b+1))=det 4 (λi j=>-2*((λi=>A (i+1) 0) i*(λj=>A 0 0*A 0 (j+1)) j*B i j)):=qh0 4 λa b ha hb=>by
   have es:skp 0 a=a+1:=by unfold skp; rw[if_neg (Nat.not_lt_zero _)]
   rw[es,if_pos (by omega),hB]
   try dsimp only
   have o1:=h (a+1) 0 (by omega) (by omega)
   have o2:=h (a+1) (b+1) (by omega) (by omega)
   have o3:=h 0 0 (by omega) (by omega)
   have o4:=h 0 (b+1) (by omega) (by omega)
   unfold One at o1 o2 o3 o4
   rcases o1 with q1 | q1 <;> rcases o2 with q2 | q2 <;> rcases o3 with q3 | q3 <;> rcases o4 with q4 | q4 <;> rw[q1,q2,q3,q4] <;> decide
  rw[e,w07,if_neg (by omega)]
  have b4:=w8d hbit
  have o:=λi j (hi:i<5) (hj:j<5)=>q57 (h i j hi hj)
  simp only[Int.natAbs_mul,q9k,o 0 0 (by omega) (by omega),o 1 0 (by omega) (by omega),o 2 0 (by omega) (by omega),o 3 0 (by omega) (by omega),o 4 0 (by omega) (by omega),o 0 1 (by omega) (by omega),o 0 2 (by omega) (by omega),o 0 3 (by omega) (by omega),o 0 4 (by omega) (by omega),Nat.mul_one,Nat.one_mul,show(0+1)=1 from rfl,show(1+1)=2 from rfl,show(2+1)=3 from rfl,show(3+1)=4 from rfl,show(16:Int).natAbs=16 from rfl]
  omega
 ·try dsimp only
  rw[if_pos (by omega),Int.mul_assoc (A i 0),w9n (h 0 0 (by omega) (by omega))]
  simp
theorem wg9:∀k,k<=5->∀A:Nat->Nat->Int,(∀i j,i<5->j<5->(A i j).natAbs<=1)->(∀i j,i<5->k<=i->j<5->A i j≠0)->(det 5 A).natAbs<=64
 | 0,_,A,h1,h2=>w8e λi j hi hj=>by
  have:=h1 i j hi hj
  have:=h2 i j hi (Nat.zero_le _) hj
  unfold One; omega
 | k+1,hk,A,h1,h2=>by
  have key:∀t,t<=5->∀v:Nat->Int,(∀j,j<5->(v j).natAbs<=1)->(∀j,j<5->t<=j->v j≠0)->(det 5 (upd A k v)).natAbs<=64:=λt=>by
   induction t with
   | zero=>
    intro _ v hv1 hv2
    refine wg9 k (by omega) _ (λi j hi hj=>?_) λi j hi hki hj=>?_
    ·unfold upd; split
     ·exact hv1 j hj
     ·exact h1 i j hi hj
    ·unfold upd; split
     ·exact hv2 j hj (Nat.zero_le _)
     ·exact h2 i j hi (by omega) hj
   | succ t ih=>
    intro ht v hv1 hv2
    by_cases e:v t=0
    ·have a1:=ih (by omega) (λj=>if j=t then 1 else v j) (λj hj=>by
      (try dsimp only); split
      ·decide
      ·exact hv1 j hj) (λj hj htj=>by
      (try dsimp only); split
      ·decide
      ·exact hv2 j hj (by omega))
     have a2:=ih (by omega) (λj=>if j=t then -1 else v j) (λj hj=>by
      (try dsimp only); split
      ·decide
      ·exact hv1 j hj) (λj hj htj=>by
      (try dsimp only); split
      ·decide
      ·exact hv2 j hj (by omega))
     have e1:=qp3 5 A k (by omega) 1 1 (λj=>if j=t then 1 else v j) (λj=>if j=t then -1 else v j)
     have e2:=qp3 5 A k (by omega) 2 0 v v
     have e3:(λj=>(1:Int)*(if j=t then 1 else v j)+1*(if j=t then -1 else v j))=λj=>2*v j+0*v j:=by
      funext j
      by_cases q:j=t
      ·rw[if_pos q,if_pos q,q,e]; rfl
      ·rw[if_neg q,if_neg q]; omega
     rw[e3,e2] at e1
     omega
    ·exact ih (by omega) v hv1 λj hj htj=>by
      rcases Nat.lt_or_ge t j with q | q
      ·exact hv2 j hj q
      ·rw[show j=t by omega]; exact e
  have:=key 5 (Nat.le_refl _) (A k) (λj hj=>h1 k j (by omega) hj) λj hj h5=>by omega
  rwa [qt0] at this
end Go.Proofs.Ytempacilejhbgaa
