/- Common divisors; rows shortened and cleared: contracts by the engine. No condition. -/
import Derived.Test.YtmijnbjlhnpokaaGreatW10
import Derived.Test.YtmijnbjlhnpokaaGreatV0
set_option linter.unusedVariables false
namespace Go.Proofs.YtmijnbjlhnpokaaGreat
def prF:Nat->(Nat->Int)->Int
 | 0,_=>1
 | n+1,d=>d 0*prF n λj=>d (j+1)
def prL:Nat->(Nat->Int)->Int
 | 0,_=>1
 | n+1,d=>prL n d*d n
theorem w6s:∀(n:Nat) (d:Nat->Int) (c:Nat),(∀j,j<n->(d j).natAbs=c)->(prF n d).natAbs=c ^ n
 | 0,_,c,_=>by rw[Nat.pow_zero]; rfl
 | n+1,d,c,h=>by
  rw[prF,Int.natAbs_mul,h 0 (by omega),w6s n _ c λj hj=>h (j+1) (by omega),Nat.pow_succ,Nat.mul_comm]
theorem w6t:∀(n:Nat) (d:Nat->Int),(∀j,j<n->(d j).natAbs=1)->(prL n d).natAbs=1
 | 0,_,_=>rfl
 | n+1,d,h=>by
  rw[prL,Int.natAbs_mul,h n (by omega),w6t n d λj hj=>h j (by omega)]
theorem w0y:∀(n:Nat) (d:Nat->Int) (A:Nat->Nat->Int),det n (λi j=>d j*A i j)=prF n d*det n A
 | 0,_,_=>rfl
 | n+1,d,A=>by
  rw[det,det,prF,<- qg5]
  refine qb4 λi hi=>?_
  try dsimp only
  rw[w0y n (λj=>d (j+1)) (λa b=>A (skp i a) (b+1))]
  grind
theorem w0z {n:Nat} (e:Nat->Int) (A:Nat->Nat->Int):∀k,k<=n->det n (λi j=>(if i<k then e i else 1)*A i j)=prL k e*det n A
 | 0,_=>by
  rw[prL,Int.one_mul]
  exact qf7 n λi j _ _=>by rw[if_neg (Nat.not_lt_zero _),Int.one_mul]
 | k+1,hk=>by
  obtain⟨F,hF⟩:∃F:Nat->Nat->Int,F=λi j=>(if i<k then e i else 1)*A i j:=⟨_,rfl⟩
  have ih:=w0z (n:=n) e A k (by omega)
  rw[<- hF] at ih
  have h1:=qp5 n F k (by omega) (e k) 0 (F k) (λ_=>0)
  have h2:(0:Int)*det n (upd F k λ_=>0)=0:=Int.zero_mul _
  rw[qv6,ih] at h1
  have h1:=h1.trans (show e k*(prL k e*det n A)+0*det n (upd F k λ_=>0)=e k*(prL k e*det n A) by omega)
  rw[prL,show prL k e*e k*det n A=e k*(prL k e*det n A) by grind,<- h1]
  refine qf7 n λi j hi hj=>?_
  unfold upd
  by_cases q:i=k
  ·rw[if_pos q,q,hF]
   try dsimp only
   rw[if_pos (Nat.lt_succ_self _),if_neg (Nat.lt_irrefl _)]
   grind
  ·rw[if_neg q,hF]
   try dsimp only
   by_cases q2:i<k
   ·rw[if_pos q2,if_pos (by omega)]
   ·rw[if_neg q2,if_neg (by omega)]
theorem xd4 {n:Nat} {A:Nat->Nat->Int} (h:∀i j,i<n+1->j<n+1->One (A i j)):∃B:Nat->Nat->Int,(∀i j,i<n->j<n->Bit (B i j))/\(det (n+1) A).natAbs=2 ^ n*(det n B).natAbs:=by
 obtain⟨B,hB⟩:∃B:Nat->Nat->Int,∀i j,B i j=if A (i+1) 0*A (i+1) (j+1)=A 0 0*A 0 (j+1) then 0 else 1:=⟨_,λ_ _=>rfl⟩
 have hbit:∀i j,i<n->j<n->Bit (B i j):=λi j _ _=>by
  rw[hB]; unfold Bit; split
  ·exact .inl rfl
  ·exact .inr rfl
 refine⟨B,hbit,?_⟩
 rw[<- wd6 A (λi=>A i 0*A 0 0) (by omega) (n+1) (Nat.le_refl _),det,qo7 (k:=0) (by omega) λi hi hne=>?_]
 ·try dsimp only
  have e:det n (λa b=>if 0<skp 0 a/\skp 0 a<n+1 then A (skp 0 a) (b+1)-A (skp 0 a) 0*A 0 0*A 0 (b+1) else A (skp 0 a) (b+1))=det n (λi j=>(if i<n then(λi=>A (i+1) 0) i else 1)*(λi j=>(λj=>-2*(A 0 0*A 0 (j+1))) j*B i j) i j):=qf7 n λa b ha hb=>by
   have es:skp 0 a=a+1:=by unfold skp; rw[if_neg (Nat.not_lt_zero _)]
   rw[es,if_pos (by omega),if_pos ha]
   try dsimp only
   rw[hB]
   have o1:=h (a+1) 0 (by omega) (by omega)
   have o2:=h (a+1) (b+1) (by omega) (by omega)
   have o3:=h 0 0 (by omega) (by omega)
   have o4:=h 0 (b+1) (by omega) (by omega)
   unfold One at o1 o2 o3 o4
   rcases o1 with q1 | q1 <;> rcases o2 with q2 | q2 <;> rcases o3 with q3 | q3 <;> rcases o4 with q4 | q4 <;> rw[q1,q2,q3,q4] <;> decide
  rw[e,w0z _ _ n (Nat.le_refl _),w0y,if_neg (by omega)]
  have p1:=w6t n (λi=>A (i+1) 0) λj hj=>q7b (h (j+1) 0 (by omega) (by omega))
  have p2:=w6s n (λj=>-2*(A 0 0*A 0 (j+1))) 2 λj hj=>by
   have a:=q7b (h 0 0 (by omega) (by omega))
   have b:=q7b (h 0 (j+1) (by omega) (by omega))
   try dsimp only
   rw[Int.natAbs_mul,Int.natAbs_mul,a,b]; rfl
  have o:=q7b (h 0 0 (by omega) (by omega))
  rw[Int.natAbs_mul,Int.natAbs_mul,Int.natAbs_mul,Int.natAbs_mul,wd5,o,p1,p2,Nat.one_mul,Nat.one_mul]
 ·try dsimp only
  rw[if_pos (by omega),Int.mul_assoc (A i 0),xk4 (h 0 0 (by omega) (by omega))]
  simp
def d4 (p q r s:Nat):Int:=((p % 2:Nat):Int)*d3 (q / 2) (r / 2) (s / 2)-((q % 2:Nat):Int)*d3 (p / 2) (r / 2) (s / 2)+((r % 2:Nat):Int)*d3 (p / 2) (q / 2) (s / 2)-((s % 2:Nat):Int)*d3 (p / 2) (q / 2) (r / 2)
def x4o (p q r s t:Nat):Bool:=
 decide (q7a (d4 q r s t)+q7a (- d4 p r s t)+q7a (d4 p q s t)+q7a (- d4 p q r t)+q7a (d4 p q r s)<=5) && decide (q7a (- d4 q r s t)+q7a (d4 p r s t)+q7a (- d4 p q s t)+q7a (d4 p q r t)+q7a (- d4 p q r s)<=5)
theorem xd5:((List.range 16).all λp=>(List.range 16).all λq=>Nat.blt q p || (List.range 16).all λr=>Nat.blt r q || (List.range 16).all λs=>Nat.blt s r || (List.range 16).all λt=>Nat.blt t s || x4o p q r s t)=true:=by decide +kernel
theorem xq7 {p q r s t:Nat} (h1:p<=q) (h2:q<=r) (h3:r<=s) (h4:s<=t) (h5:t<16):x4o p q r s t=true:=by
 have no:∀{a b:Nat},a<=b->Nat.blt b a=false:=λ{a b} h=>by
  cases e:Nat.blt b a with
  | false=>rfl
  | true=>have:=Nat.le_of_ble_eq_true e; omega
 have a1:=List.all_eq_true.1 (List.all_eq_true.1 xd5 p (List.mem_range.2 (by omega))) q (List.mem_range.2 (by omega))
 rw[no h1,Bool.false_or] at a1
 have a2:=List.all_eq_true.1 a1 r (List.mem_range.2 (by omega))
 rw[no h2,Bool.false_or] at a2
 have a3:=List.all_eq_true.1 a2 s (List.mem_range.2 (by omega))
 rw[no h3,Bool.false_or] at a3
 have a4:=List.all_eq_true.1 a3 t (List.mem_range.2 (by omega))
 rwa [no h4,Bool.false_or] at a4
def code4 (x y z w:Int):Nat:=(x+2*y+4*z+8*w).toNat
theorem w00 {x y z w:Int} (hx:Bit x) (hy:Bit y) (hz:Bit z) (hw:Bit w):code4 x y z w<16/\code4 x y z w / 2=qp0 y z w/\((code4 x y z w % 2:Nat):Int)=x:=by
 unfold code4 qp0 Bit at *; omega
theorem xq8 {A:Nat->Nat->Int} (h:∀i j,i<4->j<4->Bit (A i j)):d4 (code4 (A 0 0) (A 0 1) (A 0 2) (A 0 3)) (code4 (A 1 0) (A 1 1) (A 1 2) (A 1 3)) (code4 (A 2 0) (A 2 1) (A 2 2) (A 2 3)) (code4 (A 3 0) (A 3 1) (A 3 2) (A 3 3))=det 4 A:=by
 have hc:=λi (hi:i<4)=>w00 (h i 0 hi (by omega)) (h i 1 hi (by omega)) (h i 2 hi (by omega)) (h i 3 hi (by omega))
 obtain⟨_,a1,a2⟩:=hc 0 (by omega)
 obtain⟨_,b1,b2⟩:=hc 1 (by omega)
 obtain⟨_,c1,c2⟩:=hc 2 (by omega)
 obtain⟨_,e1,e2⟩:=hc 3 (by omega)
 unfold d4
 rw[a1,a2,b1,b2,c1,c2,e1,e2,x2o]
 have m:∀i,i<4->det 3 (λa b=>A (skp i a) (b+1))=d3 (qp0 (A (skp i 0) 1) (A (skp i 0) 2) (A (skp i 0) 3)) (qp0 (A (skp i 1) 1) (A (skp i 1) 2) (A (skp i 1) 3)) (qp0 (A (skp i 2) 1) (A (skp i 2) 2) (A (skp i 2) 3)):=λi hi=>
  (w6r (A:=λa b=>A (skp i a) (b+1)) λa b ha hb=>h _ _ (q68 ha) (by omega)).symm
 rw[m 0 (by omega),m 1 (by omega),m 2 (by omega),m 3 (by omega)]
 rfl
theorem x9a (A:Nat->Nat->Int):det 5 A=A 0 0*det 4 (λa b=>A (skp 0 a) (b+1))-A 1 0*det 4 (λa b=>A (skp 1 a) (b+1))+A 2 0*det 4 (λa b=>A (skp 2 a) (b+1))-A 3 0*det 4 (λa b=>A (skp 3 a) (b+1))+A 4 0*det 4 (λa b=>A (skp 4 a) (b+1)):=by
 rw[det]
 simp only[sm,show sgn 0=1 from rfl,show sgn 1=-1 from rfl,show sgn 2=1 from rfl,show sgn 3=-1 from rfl,show sgn 4=1 from rfl]
 grind
def cdR (A:Nat->Nat->Int) (i:Nat):Nat:=code4 (A i 1) (A i 2) (A i 3) (A i 4)
theorem q7c {x m:Int} (h:Bit x):x*m<=q7a m/\- (x*m)<=q7a (- m):=by
 have h1:=qw4 (x:=m)
 have h2:=qw4 (x:=-m)
 rcases h with rfl | rfl
 ·rw[Int.zero_mul]; omega
 ·rw[Int.one_mul]; omega
theorem ws7 {A:Nat->Nat->Int} (h:∀i j,i<5->j<5->Bit (A i j)) (hs:∀i,i<4->cdR A i<=cdR A (i+1)):(det 5 A).natAbs<=5:=by
 have hk:=xq7 (hs 0 (by omega)) (hs 1 (by omega)) (hs 2 (by omega)) (hs 3 (by omega)) (w00 (h 4 1 (by omega) (by omega)) (h 4 2 (by omega) (by omega)) (h 4 3 (by omega) (by omega)) (h 4 4 (by omega) (by omega))).1
 unfold x4o at hk
 rw[Bool.and_eq_true,decide_eq_true_eq,decide_eq_true_eq] at hk
 have m:∀i,i<5->det 4 (λa b=>A (skp i a) (b+1))=d4 (cdR A (skp i 0)) (cdR A (skp i 1)) (cdR A (skp i 2)) (cdR A (skp i 3)):=λi hi=>
  (xq8 (A:=λa b=>A (skp i a) (b+1)) λa b ha hb=>h _ _ (q68 ha) (by omega)).symm
 rw[x9a,m 0 (by omega),m 1 (by omega),m 2 (by omega),m 3 (by omega),m 4 (by omega)]
 change _/\_ at hk
 have e0:d4 (cdR A (skp 0 0)) (cdR A (skp 0 1)) (cdR A (skp 0 2)) (cdR A (skp 0 3))=d4 (cdR A 1) (cdR A 2) (cdR A 3) (cdR A 4):=rfl
 have e1:d4 (cdR A (skp 1 0)) (cdR A (skp 1 1)) (cdR A (skp 1 2)) (cdR A (skp 1 3))=d4 (cdR A 0) (cdR A 2) (cdR A 3) (cdR A 4):=rfl
 have e2:d4 (cdR A (skp 2 0)) (cdR A (skp 2 1)) (cdR A (skp 2 2)) (cdR A (skp 2 3))=d4 (cdR A 0) (cdR A 1) (cdR A 3) (cdR A 4):=rfl
 have e3:d4 (cdR A (skp 3 0)) (cdR A (skp 3 1)) (cdR A (skp 3 2)) (cdR A (skp 3 3))=d4 (cdR A 0) (cdR A 1) (cdR A 2) (cdR A 4):=rfl
 have e4:d4 (cdR A (skp 4 0)) (cdR A (skp 4 1)) (cdR A (skp 4 2)) (cdR A (skp 4 3))=d4 (cdR A 0) (cdR A 1) (cdR A 2) (cdR A 3):=rfl
 rw[e0,e1,e2,e3,e4]
 generalize d4 (cdR A 1) (cdR A 2) (cdR A 3) (cdR A 4)=m0 at hk ⊢
 generalize d4 (cdR A 0) (cdR A 2) (cdR A 3) (cdR A 4)=m1 at hk ⊢
 generalize d4 (cdR A 0) (cdR A 1) (cdR A 3) (cdR A 4)=m2 at hk ⊢
 generalize d4 (cdR A 0) (cdR A 1) (cdR A 2) (cdR A 4)=m3 at hk ⊢
 generalize d4 (cdR A 0) (cdR A 1) (cdR A 2) (cdR A 3)=m4 at hk ⊢
 have b0:=q7c (m:=m0) (h 0 0 (by omega) (by omega))
 have b1:=q7c (m:=m1) (h 1 0 (by omega) (by omega))
 have b2:=q7c (m:=m2) (h 2 0 (by omega) (by omega))
 have b3:=q7c (m:=m3) (h 3 0 (by omega) (by omega))
 have b4:=q7c (m:=m4) (h 4 0 (by omega) (by omega))
 generalize A 0 0*m0=x0 at *
 generalize A 1 0*m1=x1 at *
 generalize A 2 0*m2=x2 at *
 generalize A 3 0*m3=x3 at *
 generalize A 4 0*m4=x4 at *
 omega
theorem xk5 (g:Nat->Nat) (n:Nat):∀d s,s+d+1=n->∃t,s<=t/\t<n/\∀j,s<=j->j<n->g t<=g j
 | 0,s,h=>⟨s,Nat.le_refl _,by omega,λj h1 h2=>by rw[show j=s by omega]; exact Nat.le_refl _⟩
 | d+1,s,h=>by
  obtain⟨t,t1,t2,t3⟩:=xk5 g n d (s+1) (by omega)
  by_cases q:g s<=g t
  ·refine⟨s,Nat.le_refl _,by omega,λj h1 h2=>?_⟩
   rcases Nat.eq_or_lt_of_le h1 with e | e
   ·rw[<- e]; exact Nat.le_refl _
   ·exact Nat.le_trans q (t3 j e h2)
  ·refine⟨t,by omega,t2,λj h1 h2=>?_⟩
   rcases Nat.eq_or_lt_of_le h1 with e | e
   ·rw[<- e]; omega
   ·exact t3 j e h2
theorem xd6 {n:Nat} (A:Nat->Nat->Int) {s t:Nat} (hs:s<n) (ht:t<n) (hne:s≠t):(det n (upd (upd A s (A t)) t (A s))).natAbs=(det n A).natAbs:=by
 have h:=wd1 (n:=n) (A:=A) (r:=s) (s:=t) hs ht hne (λw=>q4w (r:=s) (s:=t) hs ht hne λj hj=>by
  unfold upd
  rw[if_neg hne,if_pos rfl,if_pos rfl]) (A s) (A t)
 have e:upd (upd A s (A s)) t (A t)=A:=by rw[qv6]; exact qv6 A t
 rw[e] at h
 rw[h,Int.natAbs_neg]
theorem q4x {n:Nat} (Q:(Nat->Int)->Prop) (cd:(Nat->Int)->Nat) {B:Nat} (hB:∀A:Nat->Nat->Int,(∀i,i<n->Q (A i))->(∀i j,i<j->j<n->cd (A i)<=cd (A j))->(det n A).natAbs<=B) :
  ∀d s,s+d=n->∀A:Nat->Nat->Int,(∀i,i<n->Q (A i))->(∀i j,i<s->i<j->j<n->cd (A i)<=cd (A j))->(det n A).natAbs<=B
 | 0,s,hs,A,h1,h2=>hB A h1 λi j hi hj=>h2 i j (by omega) hi hj
 | d+1,s,hs,A,h1,h2=>by
  obtain⟨t,t1,t2,t3⟩:=xk5 (λi=>cd (A i)) n d s (by omega)
  try dsimp only at t3
  by_cases e:s=t
  ·exact q4x Q cd hB d (s+1) (by omega) A h1 λi j hi hij hj=>by
    rcases Nat.lt_succ_iff_lt_or_eq.1 hi with q | q
    ·exact h2 i j q hij hj
    ·rw[q]
     have:=t3 j (by omega) hj
     rwa [<- e] at this
  ·rw[<- xd6 A (show s<n by omega) t2 e]
   have at_:∀i,upd (upd A s (A t)) t (A s) i=A (if i=t then s else if i=s then t else i):=λi=>by
    funext j
    unfold upd
    by_cases q:i=t
    ·rw[if_pos q,if_pos q]
    ·rw[if_neg q,if_neg q]
     by_cases q2:i=s
     ·rw[if_pos q2,if_pos q2]
     ·rw[if_neg q2,if_neg q2]
   refine q4x Q cd hB d (s+1) (by omega) _ (λi hi=>?_) λi j hi hij hj=>?_
   ·rw[at_]
    refine h1 _ ?_
    split
    ·omega
    ·split <;> omega
   ·rw[at_,at_]
    by_cases q:i=s
    ·rw[if_neg (by omega),if_pos q]
     refine t3 _ ?_ ?_
     ·split
      ·omega
      ·split <;> omega
     ·split
      ·omega
      ·split <;> omega
    ·rw[if_neg (by omega),if_neg q]
     refine h2 i _ (by omega) ?_ ?_
     ·split
      ·omega
      ·split <;> omega
     ·split
      ·omega
      ·split <;> omega
theorem xd7 {A:Nat->Nat->Int} (h:∀i j,i<5->j<5->Bit (A i j)):(det 5 A).natAbs<=5:=
 q4x (n:=5) (λr=>∀j,j<5->Bit (r j)) (λr=>code4 (r 1) (r 2) (r 3) (r 4)) (B:=5) (λA h1 h2=>ws7 (λi j hi hj=>h1 i hi j hj) λi hi=>h2 i (i+1) (by omega) (by omega)) 5 0 rfl A (λi hi j hj=>h i j hi hj) λi j hi=>absurd hi (Nat.not_lt_zero _)
theorem wl5 {n B:Nat} (hB:∀A:Nat->Nat->Int,(∀i j,i<n->j<n->One (A i j))->(det n A).natAbs<=B):∀k,k<=n->∀A:Nat->Nat->Int,(∀i j,i<n->j<n->(A i j).natAbs<=1)->(∀i j,i<n->k<=i->j<n->A i j≠0)->(det n A).natAbs<=B
 | 0,_,A,h1,h2=>hB A λi j hi hj=>by
  have:=h1 i j hi hj
  have:=h2 i j hi (Nat.zero_le _) hj
  unfold One; omega
 | k+1,hk,A,h1,h2=>by
  have key:∀t,t<=n->∀v:Nat->Int,(∀j,j<n->(v j).natAbs<=1)->(∀j,j<n->t<=j->v j≠0)->(det n (upd A k v)).natAbs<=B:=λt=>by
   induction t with
   | zero=>
    intro _ v hv1 hv2
    refine wl5 hB k (by omega) _ (λi j hi hj=>?_) λi j hi hki hj=>?_
    ·unfold upd; split
     ·exact hv1 j hj
     ·exact h1 i j hi hj
    ·unfold upd; split
     ·exact hv2 j hj (Nat.zero_le _)
     ·exact h2 i j hi (by omega) hj
   | succ t ih=>
    intro ht v hv1 hv2
    by_cases e:v t=0
    ·have a1:=ih (by omega) (λj=>if j=t then 1 else v j) (λj hj=>by
      (try dsimp only); split
      ·decide
      ·exact hv1 j hj) (λj hj htj=>by
      (try dsimp only); split
      ·decide
      ·exact hv2 j hj (by omega))
     have a2:=ih (by omega) (λj=>if j=t then -1 else v j) (λj hj=>by
      (try dsimp only); split
      ·decide
      ·exact hv1 j hj) (λj hj htj=>by
      (try dsimp only); split
      ·decide
      ·exact hv2 j hj (by omega))
     have e1:=qp5 n A k (by omega) 1 1 (λj=>if j=t then 1 else v j) (λj=>if j=t then -1 else v j)
     have e2:=qp5 n A k (by omega) 2 0 v v
     have e3:(λj=>(1:Int)*(if j=t then 1 else v j)+1*(if j=t then -1 else v j))=λj=>2*v j+0*v j:=by
      funext j
      by_cases q:j=t
      ·rw[if_pos q,if_pos q,q,e]; rfl
      ·rw[if_neg q,if_neg q]; omega
     rw[e3,e2] at e1
     omega
    ·exact ih (by omega) v hv1 λj hj htj=>by
      rcases Nat.lt_or_ge t j with q | q
      ·exact hv2 j hj q
      ·rw[show j=t by omega]; exact e
  have:=key n (Nat.le_refl _) (A k) (λj hj=>h1 k j (by omega) hj) λj hj h5=>by omega
  rwa [qv6] at this
theorem ws8 {n:Nat} (hn:n<=6) {A:Nat->Nat->Int} (h:∀i j,i<n->j<n->(A i j).natAbs<=1):(det n A).natAbs<=160:=by
 rcases Nat.lt_or_ge n 5 with q | q
 ·have:=w6q n h
  have hf:∀k:Fin 5,x4n k.val<=160:=by decide
  exact Nat.le_trans this (hf ⟨n,q⟩)
 ·rcases Nat.lt_or_ge n 6 with q2 | q2
  ·obtain rfl:n=5:=by omega
   exact Nat.le_trans (wl4 5 (Nat.le_refl _) A h λi j hi h5=>by omega) (by decide)
  ·obtain rfl:n=6:=by omega
   refine wl5 (n:=6) (B:=160) (λA hA=>?_) 6 (Nat.le_refl _) A h λi j hi h5=>by omega
   obtain⟨B,hB,e⟩:=xd4 (n:=5) hA
   have:=xd7 hB
   rw[e]
   omega
end Go.Proofs.YtmijnbjlhnpokaaGreat
set_option linter.unusedSimpArgs false
namespace Go.Proofs.YtmijnbjlhnpokaaGreat
open Go Go.RowKit Eng
def qe2 (a b:Int):Int:=(Int.gcd a b:Int)
abbrev qc8 (K x:Int):Prop:=-K<=x/\x<=K
def BIG:Int:=4000000000000000000
theorem q7d (a b:Int):0<=qe2 a b:=Int.natCast_nonneg _
theorem xd8 (a b:Int):qe2 (max a (0-a)) (max b (0-b))=qe2 a b:=by
 unfold qe2
 have h1:(max a (0-a)).natAbs=a.natAbs:=by omega
 have h2:(max b (0-b)).natAbs=b.natAbs:=by omega
 show((Nat.gcd (max a (0-a)).natAbs (max b (0-b)).natAbs:Nat):Int)=(Nat.gcd a.natAbs b.natAbs:Nat)
 rw[h1,h2]
theorem w6u {a b:Int} (ha:0<=a) (hb:0<=b):qe2 b (a.tmod b)=qe2 a b:=by
 unfold qe2
 obtain⟨m,rfl⟩:=Int.eq_ofNat_of_zero_le ha
 obtain⟨n,rfl⟩:=Int.eq_ofNat_of_zero_le hb
 rw[Int.tmod_eq_emod_of_nonneg ha]
 have e:((m:Int) % (n:Int))=((m % n:Nat):Int):=rfl
 rw[e,Int.gcd_natCast_natCast,Int.gcd_natCast_natCast]
 congr 1
 rw[Nat.gcd_comm n,<- Nat.gcd_rec,Nat.gcd_comm]
theorem w6v (a:Int) (h:0<=a):qe2 a 0=a:=by
 unfold qe2
 rw[Int.gcd_zero_right]
 omega
theorem wl6 {a:Int} (b:Int) (h:a≠0):qe2 a b<=a.natAbs:=by
 unfold qe2
 exact Int.ofNat_le.2 (Nat.le_of_dvd (by omega) (Nat.gcd_dvd_left _ _))
theorem wd7 (a:Int) {b:Int} (h:b≠0):qe2 a b<=b.natAbs:=by
 unfold qe2
 exact Int.ofNat_le.2 (Nat.le_of_dvd (by omega) (Nat.gcd_dvd_right _ _))
theorem w6w {a b:Int} (ha:-BIG<=a/\a<=BIG) (hb:-BIG<=b/\b<=BIG):0<=qe2 a b/\qe2 a b<=BIG:=by
 refine⟨q7d _ _,?_⟩
 unfold BIG at *
 by_cases h:a=0
 ·by_cases k:b=0
  ·subst h k; decide
  ·have:=wd7 a k; omega
 ·have:=wl6 b h; omega
theorem qm8 {a b:Int} (h:a≠0\/b≠0):0<qe2 a b:=by
 unfold qe2
 have:0<Int.gcd a b:=by rw[Int.gcd_pos_iff]; exact h
 omega
theorem ql3 {a g K:Int} (hk:-K<=a/\a<=K):-K<=a.tdiv g/\a.tdiv g<=K:=by
 have h1:(a.tdiv g).natAbs<=a.natAbs:=by
  rw[Int.natAbs_tdiv]; exact Nat.div_le_self _ _
 omega
def w01:qc9:=qg4 true none [qg0,qg0] [qg0] (λx=>(-BIG<=x.1/\x.1<=BIG)/\-BIG<=x.2.1/\x.2.1<=BIG) (λx=>(qe2 x.1 x.2.1,()))
def w6x (a b:Int):Nat->Option Inv
 | 0=>some (Inv.of [0,1] 0 (λs:Int × Int=>[(0,.lit (.int .i64 s.1)),(1,.lit (.int .i64 s.2))]) (λ_=>[]) (λs=>(0<=s.1/\s.1<=BIG)/\(0<=s.2/\s.2<=BIG)/\qe2 s.1 s.2=qe2 a b) (λs=>s.2.toNat))
 | _=>none
theorem qp6:Meets Tryz.prog 138 w01:=by
 refine meets (snd (SpecsOk.nil _)) Tryz.func138 rfl rfl (λx=>w6x x.1 x.2.1) (λ_=>by kernel_rfl) (by decide) ?_
 rintro⟨a,b,⟨⟩⟩ h
 revert a b
 intro(a:Int) (b:Int) (h:(-BIG<=a/\a<=BIG)/\-BIG<=b/\b<=BIG)
 refine @qe1 _ (fits .i64 ((0:Int)-a)/\fits .i64 ((0:Int)-b)/\∃(v0:Unit),∃(v1:Int × Int),(((0:Int)<=v1.1/\v1.1<=BIG)/\((0:Int)<=v1.2/\v1.2<=BIG)/\qe2 v1.1 v1.2=qe2 a b)/\((max2 true a ((0:Int)-a)=v1.1/\max2 true b ((0:Int)-b)=v1.2/\True)/\True)/\∀(v2:Int × Int),((0:Int)<=v2.1/\v2.1<=BIG)/\((0:Int)<=v2.2/\v2.2<=BIG)/\qe2 v2.1 v2.2=qe2 a b->((v2.2 != (0:Int))=true->v2.2≠(0:Int)/\∃(v5:Int × Int),(((0:Int)<=v5.1/\v5.1<=BIG)/\((0:Int)<=v5.2/\v5.2<=BIG)/\qe2 v5.1 v5.2=qe2 a b)/\v5.2.toNat<v2.2.toNat/\(v2.2=v5.1/\Int.tmod v2.1 v2.2=v5.2/\True)/\True)/\((v2.2 != (0:Int))=false->v2.1=qe2 a b)) (by kernel_rfl) ?_
 try simp only[z0,z1,z2,z3,z4,z5,z6,z7,z8,z9,z10,Int.reduceEq,z11,z12,z13,z14,z15,z16,z17,z18,z19,z20,z21,z22,z23,z24,z25,z26,z27,z28,z29,z30,Int.reduceLE,Int.reduceLT,z31,z32,z33,z34,qa1]
 try simp only[qb5,qb6,qd2,z31,z32,z2,z1]
 have hB:BIG=4000000000000000000:=rfl
 refine⟨qa7 (by omega) (by omega),qa7 (by omega) (by omega),(),(max a (0-a),max b (0-b)),⟨⟨by dsimp only; omega,by dsimp only; omega⟩,⟨by dsimp only; omega,by dsimp only; omega⟩,xd8 a b⟩,⟨rfl,rfl⟩,?_⟩
 rintro⟨x,y⟩ ⟨⟨h1,h2⟩,⟨h3,h4⟩,h5⟩
 dsimp only at h1 h2 h3 h4 h5 ⊢
 refine⟨λhy=>⟨hy,(y,x.tmod y),⟨⟨h3,h4⟩,?_,?_⟩,?_,rfl,rfl⟩,λhy=>?_⟩
 ·rw[Int.tmod_eq_emod_of_nonneg h1]
  have k1:=Int.emod_nonneg x hy
  have k2:=Int.emod_lt_of_pos x (show 0<y by omega)
  exact⟨k1,by dsimp only; omega⟩
 ·exact(w6u h1 h3).trans h5
 ·rw[Int.tmod_eq_emod_of_nonneg h1]
  have k1:=Int.emod_nonneg x hy
  have k2:=Int.emod_lt_of_pos x (show 0<y by omega)
  dsimp only; omega
 ·subst hy
  rw[w6v x h1] at h5
  exact h5
def ofR (n d:Int):Int × Int:=if d<0 then(n.tdiv (0-qe2 n d),d.tdiv (0-qe2 n d)) else(n.tdiv (qe2 n d),d.tdiv (qe2 n d))
def sOf:qc9:=qg4 true none [qg0,qg0] [x4j] (λx=>(-BIG<=x.1/\x.1<=BIG)/\(-BIG<=x.2.1/\x.2.1<=BIG)/\x.2.1≠0) (λx=>(ofR x.1 x.2.1,()))
theorem w02:Meets Tryz.prog 80 sOf:=by
 refine meets (snd (SpecsOk.cons qp6 (SpecsOk.nil _))) Tryz.func80 rfl rfl (λx=>λ_=>none) (λ_=>by kernel_rfl) (by decide) ?_
 rintro⟨a,b,⟨⟩⟩ h
 revert a b
 intro(a:Int) (b:Int) (h:(-BIG<=a/\a<=BIG)/\(-BIG<=b/\b<=BIG)/\b≠0)
 refine @qe1 _ (let Q0:=qe2 a b; (((-4000000000000000000:Int)<=a/\a<=BIG)/\(-4000000000000000000:Int)<=b/\b<=BIG)/\(decide (b<(0:Int))=true->fits .i64 ((0:Int)-qe2 a b)/\(0:Int)-qe2 a b≠(0:Int)/\fits .i64 (Int.tdiv a ((0:Int)-qe2 a b))/\(0:Int)-qe2 a b≠(0:Int)/\fits .i64 (Int.tdiv b ((0:Int)-qe2 a b))/\Int.tdiv a ((0:Int)-qe2 a b)=(ofR a b).1/\Int.tdiv b ((0:Int)-qe2 a b)=(ofR a b).2/\True)/\(decide (b<(0:Int))=false->qe2 a b≠(0:Int)/\fits .i64 (Int.tdiv a Q0)/\qe2 a b≠(0:Int)/\fits .i64 (Int.tdiv b Q0)/\Int.tdiv a Q0=(ofR a b).1/\Int.tdiv b Q0=(ofR a b).2/\True)) (by kernel_rfl) ?_
 try simp only[z0,z1,z2,z3,z4,z5,z6,z7,z8,z9,z10,Int.reduceEq,z11,z12,z13,z14,z15,z16,z17,z18,z19,z20,z21,z22,z23,z24,z25,z26,z27,z28,z29,z30,Int.reduceLE,Int.reduceLT,z31,z32,z33,z34,qa1]
 try simp only[qb5,qb6,qd2,z31,z32,z2,z1]
 have hB:BIG=4000000000000000000:=rfl
 have hg:=w6w h.1 h.2.1
 have hp:=qm8 (a:=a) (b:=b) (.inr h.2.2)
 refine⟨⟨h.1,h.2.1⟩,λhb=>?_,λhb=>?_⟩
 ·have h1:=ql3 (g:=0-qe2 a b) h.1
  have h2:=ql3 (g:=0-qe2 a b) h.2.1
  have e:ofR a b=(a.tdiv (0-qe2 a b),b.tdiv (0-qe2 a b)):=by unfold ofR; rw[if_pos hb]
  rw[e]
  exact⟨qa7 (by omega) (by omega),by omega,qa7 (by omega) (by omega),by omega,qa7 (by omega) (by omega),rfl,rfl⟩
 ·have h1:=ql3 (g:=qe2 a b) h.1
  have h2:=ql3 (g:=qe2 a b) h.2.1
  have e:ofR a b=(a.tdiv (qe2 a b),b.tdiv (qe2 a b)):=by unfold ofR; rw[if_neg (by omega)]
  rw[e]
  exact⟨by omega,qa7 (by omega) (by omega),by omega,qa7 (by omega) (by omega),rfl,rfl⟩
def gcdL (l:List Int):Int:=l.foldl qe2 0
def qf2 (l:List Int):List Int:=if 1<gcdL l then l.map λx=>x.tdiv (gcdL l) else l
def q7e (l:List Int):Prop:=l.length<=1000/\∀x∈l,-BIG<=x/\x<=BIG
def xk6:qs6:=w6f (wc6 []) false false 0 3 (.int .i64) (λrows _=>q7e (nL rows 0)) (λ_ _=>.tup .nil) (λrows _=>[qf2 (nL rows 0)])
def shK (l:List Int) (k:Nat):List Int:=if 1<gcdL l then(l.take k).map (λx=>x.tdiv (gcdL l))++l.drop k else l
def xq9 (T:q8a) (l:List Int):Nat->Option Inv
 | 0=>some (Inv.of [0,6,2,8] 1 (λk:Nat=>[(0,.msl 0 (some 0)),(6,.msl 0 (some 0)),(2,.lit (.int .i64 (gcdL (l.take k)))),(8,.lit (.int .i64 k))]) (λ_=>[.mat 0 3 (.int .i64) [l] (some []) (some T)]) (λk=>k<=l.length) (λk=>l.length-k))
 | 1=>some (Inv.of [0,18] 1 (λs:Nat × List Int=>[(0,.msl 0 (some 0)),(18,.lit (.int .i64 s.1))]) (λs=>[.mat 0 3 (.int .i64) [s.2] (some []) (some T)]) (λs=>s.1<=l.length/\s.2=shK l s.1) (λs=>l.length-s.1))
 | _=>none
theorem q7f (l:List Int) (k:Nat) (hk:k<l.length):gcdL (l.take (k+1))=qe2 (gcdL (l.take k)) (nI l k):=by
 rw[List.take_add_one,List.getElem?_eq_getElem hk]
 simp only[gcdL,List.foldl_append,Option.toList_some,List.foldl_cons,List.foldl_nil]
 rw[qh7 l k hk]
theorem q2u {l:List Int} (h:q7e l) {k:Nat} (hk:k<l.length):qc8 BIG (nI l k):=by
 rw[qh7 l k hk]
 exact h.2 _ (List.getElem_mem hk)
theorem ws9 {l:List Int} (h:q7e l):∀k,k<=l.length->0<=gcdL (l.take k)/\gcdL (l.take k)<=BIG
 | 0,_=>by simp[gcdL,BIG]
 | k+1,hk=>by
  rw[q7f l k hk]
  have h1:=ws9 h k (by omega)
  refine w6w ⟨?_,h1.2⟩ (q2u h hk)
  have hB:BIG=4000000000000000000:=rfl
  omega
theorem wt0 (l:List Int) (k:Nat) (hk:k<=l.length):(shK l k).length=l.length:=by
 unfold shK
 split
 ·simp; omega
 ·rfl
theorem x0e (l:List Int) (k:Nat) (hk:k<l.length):nI (shK l k) k=nI l k:=by
 unfold shK
 split
 ·unfold nI qd1
  rw[List.getD_eq_getElem?_getD,List.getD_eq_getElem?_getD,List.getElem?_append_right (by simp; omega)]
  simp
  congr 2
  omega
 ·rfl
theorem xd9 (l:List Int) (k:Nat) (hk:k<l.length) (hg:1<gcdL l):(shK l k).set k ((nI l k).tdiv (gcdL l))=shK l (k+1):=by
 have h1:=wt0 l k (by omega)
 have h2:=wt0 l (k+1) (by omega)
 apply List.ext_getElem (by rw[List.length_set,h1,h2])
 intro i hi _
 rw[List.length_set,h1] at hi
 rw[List.getElem_set]
 unfold shK
 simp only[if_pos hg]
 by_cases e:k=i
 ·subst e
  rw[if_pos rfl,List.getElem_append_left (by simp; omega),qh7 l k hk]
  simp
 ·rw[if_neg e]
  by_cases h:i<k
  ·rw[List.getElem_append_left (by simp; omega),List.getElem_append_left (by simp; omega)]
   simp
  ·rw[List.getElem_append_right (by simp; omega),List.getElem_append_right (by simp; omega)]
   simp only[List.length_map,List.length_take,List.getElem_drop]
   congr 1
   omega
theorem q2v:qx1 Tryz.prog 177 xk6:=by
 refine w0s (snd (SpecsOk.cons qp6 (SpecsOk.nil _))) Tryz.func177 rfl rfl (q1u []) (λT rows _=>xq9 T (nL rows 0)) (λ_ _ _=>by kernel_rfl) (by decide) ?_ rfl
 rintro T rows ⟨⟩ h hone
 obtain⟨l,rfl⟩:∃l:List Int,rows=[l]:=by
  have h1:=hone rfl
  match rows,h1 with
  | [l],_=>exact⟨l,rfl⟩
 have h:q7e l:=h
 refine @qe1 _ (∃(v0:Unit),∃(v1:Nat),Nat.le v1 (nL [l] (0:Nat)).length/\((some (0:Nat)=some (0:Nat)/\some (0:Nat)=some (0:Nat)/\(0:Int)=gcdL (List.take v1 (nL [l] (0:Nat)))/\(0:Int)=(↑v1:Int)/\True)/\([l]=[nL [l] (0:Nat)]/\True/\T=T)/\True)/\∀(v2:Nat),Nat.le v2 (nL [l] (0:Nat)).length->(decide ((↑v2:Int)<(↑(nL [l] (0:Nat)).length:Int))=true->((0:Int)<=(↑v2:Int)/\(↑v2:Int)<(↑(nL [nL [l] (0:Nat)] (0:Nat)).length:Int))/\v2<(nL [nL [l] (0:Nat)] (0:Nat)).length/\(((-4000000000000000000:Int)<=gcdL (List.take v2 (nL [l] (0:Nat)))/\gcdL (List.take v2 (nL [l] (0:Nat)))<=BIG)/\(-4000000000000000000:Int)<=nI (nL [nL [l] (0:Nat)] (0:Nat)) v2/\nI (nL [nL [l] (0:Nat)] (0:Nat)) v2<=BIG)/\fits .i64 ((↑v2:Int)+(1:Int))/\∃(v5:Nat),Nat.le v5 (nL [l] (0:Nat)).length/\(nL [l] (0:Nat)).length-v5<(nL [l] (0:Nat)).length-v2/\(some (0:Nat)=some (0:Nat)/\some (0:Nat)=some (0:Nat)/\qe2 (gcdL (List.take v2 (nL [l] (0:Nat)))) (nI (nL [nL [l] (0:Nat)] (0:Nat)) v2)=gcdL (List.take v5 (nL [l] (0:Nat)))/\(↑v2:Int)+(1:Int)=(↑v5:Int)/\True)/\([nL [l] (0:Nat)]=[nL [l] (0:Nat)]/\True/\T=T)/\True)/\(decide ((↑v2:Int)<(↑(nL [l] (0:Nat)).length:Int))=false->∃(v5:Unit),∃(v6:Nat × List Int),(v6.1<=(nL [l] (0:Nat)).length/\v6.2=shK (nL [l] (0:Nat)) v6.1)/\((some (0:Nat)=some (0:Nat)/\(0:Int)=(↑v6.1:Int)/\True)/\([nL [l] (0:Nat)]=[v6.2]/\True/\T=T)/\True)/\∀(v7:Nat × List Int),v7.1<=(nL [l] (0:Nat)).length/\v7.2=shK (nL [l] (0:Nat)) v7.1->(decide ((↑v7.1:Int)<(↑(nL [nL [l] (0:Nat)] (0:Nat)).length:Int))=true->(decide ((1:Int)<gcdL (List.take v2 (nL [l] (0:Nat))))=true->((0:Int)<=(↑v7.1:Int)/\(↑v7.1:Int)<(↑(nL [v7.2] (0:Nat)).length:Int))/\(↑v7.1:Int).toNat<(nL [v7.2] (0:Nat)).length/\gcdL (List.take v2 (nL [l] (0:Nat)))≠(0:Int)/\fits .i64 (Int.tdiv (nI (nL [v7.2] (0:Nat)) (↑v7.1:Int).toNat) (gcdL (List.take v2 (nL [l] (0:Nat)))))/\((0:Int)<=(↑v7.1:Int)/\(↑v7.1:Int)<(↑(nL [v7.2] (0:Nat)).length:Int))/\(↑v7.1:Int).toNat<(nL [v7.2] (0:Nat)).length/\fits .i64 ((↑v7.1:Int)+(1:Int))/\∃(v11:Nat × List Int),(v11.1<=(nL [l] (0:Nat)).length/\v11.2=shK (nL [l] (0:Nat)) v11.1)/\(nL [l] (0:Nat)).length-v11.1<(nL [l] (0:Nat)).length-v7.1/\(some (0:Nat)=some (0:Nat)/\(↑v7.1:Int)+(1:Int)=(↑v11.1:Int)/\True)/\(List.set [v7.2] (0:Nat) (List.set (nL [v7.2] (0:Nat)) (↑v7.1:Int).toNat (Int.tdiv (nI (nL [v7.2] (0:Nat)) (↑v7.1:Int).toNat) (gcdL (List.take v2 (nL [l] (0:Nat))))))=[v11.2]/\True/\T=T)/\True)/\(decide ((1:Int)<gcdL (List.take v2 (nL [l] (0:Nat))))=false->fits .i64 ((↑v7.1:Int)+(1:Int))/\∃(v11:Nat × List Int),(v11.1<=(nL [l] (0:Nat)).length/\v11.2=shK (nL [l] (0:Nat)) v11.1)/\(nL [l] (0:Nat)).length-v11.1<(nL [l] (0:Nat)).length-v7.1/\(some (0:Nat)=some (0:Nat)/\(↑v7.1:Int)+(1:Int)=(↑v11.1:Int)/\True)/\([v7.2]=[v11.2]/\True/\T=T)/\True))/\(decide ((↑v7.1:Int)<(↑(nL [nL [l] (0:Nat)] (0:Nat)).length:Int))=false->[v7.2]=[qf2 (nL [l] (0:Nat))]/\T=T/\True/\True))) (by kernel_rfl) ?_
 try simp only[z0,z1,z2,z3,z4,z5,z6,z7,z8,z9,z10,Int.reduceEq,z11,z12,z13,z14,z15,z16,z17,z18,z19,z20,z21,z22,z23,z24,z25,z26,z27,z28,z29,z30,Int.reduceLE,Int.reduceLT,z31,z32,z33,z34,qa1]
 try simp only[qb5,qb6,qd2,z31,z32,z2,z1]
 have hB:BIG=4000000000000000000:=rfl
 refine⟨(),0,Nat.zero_le _,⟨rfl,rfl⟩,λk hk=>⟨λhlt=>?_,λhge=>?_⟩⟩
 ·have h1:=ws9 h k hk
  have h2:=q2u h hlt
  exact⟨hlt,hlt,⟨⟨by omega,h1.2⟩,h2⟩,qa7 (by have:=h.1; omega) (by have:=h.1; omega),k+1,by omega,by omega,(q7f l k hlt).symm,by omega⟩
 ·obtain rfl:k=l.length:=by omega
  simp only[List.take_length,decide_eq_true_eq,decide_eq_false_iff_not,Int.not_lt]
  have sh0:shK l 0=l:=by unfold shK; split <;> simp
  refine⟨(),(0,l),⟨Nat.zero_le _,sh0.symm⟩,⟨rfl,rfl⟩,?_⟩
  rintro⟨k,r⟩ ⟨h1,h2⟩
  dsimp only at h1 h2 ⊢
  subst h2
  have hl:=wt0 l k h1
  refine⟨λhlt=>⟨λhg=>?_,λhg=>?_⟩,λhge=>?_⟩
  ·have h3:=q2u h hlt
   have h4:=ql3 (g:=gcdL l) h3
   rw[x0e l k hlt]
   refine⟨by omega,by omega,by omega,qa7 (by omega) (by omega),by omega,by omega,qa7 (by have:=h.1; omega) (by have:=h.1; omega),(k+1,shK l (k+1)),⟨by dsimp only; omega,rfl⟩,by dsimp only; omega,by dsimp only; omega,xd9 l k hlt hg⟩
  ·refine⟨qa7 (by have:=h.1; omega) (by have:=h.1; omega),(k+1,shK l (k+1)),⟨by dsimp only; omega,rfl⟩,by dsimp only; omega,by dsimp only; omega,?_⟩
   unfold shK
   rw[if_neg (by omega),if_neg (by omega)]
  ·obtain rfl:k=l.length:=by omega
   unfold shK qf2
   split
   ·simp
   ·rfl
end Go.Proofs.YtmijnbjlhnpokaaGreat
