/- The errors of masks, readings and pixels: contracts by the engine. No condition. -/
import Derived.Test.YtmijnbjlhnpokaaGreatW10
import Derived.Test.YtmijnbjlhnpokaaGreatV0
set_option linter.unusedVariables false
namespace Go.Proofs.YtmijnbjlhnpokaaGreat
def prF:Nat->(Nat->Int)->Int
 | 0,_=>1
 | n+1,d=>d 0*prF n λj=>d (j+1)
def prL:Nat->(Nat->Int)->Int
 | 0,_=>1
 | n+1,d=>prL n d*d n
theorem w7y:∀(n:Nat) (d:Nat->Int) (c:Nat),(∀j,j<n->(d j).natAbs=c)->(prF n d).natAbs=c ^ n
 | 0,_,c,_=>by rw[Nat.pow_zero]; rfl
 | n+1,d,c,h=>by
  rw[prF,Int.natAbs_mul,h 0 (by omega),w7y n _ c λj hj=>h (j+1) (by omega),Nat.pow_succ,Nat.mul_comm]
theorem w7z:∀(n:Nat) (d:Nat->Int),(∀j,j<n->(d j).natAbs=1)->(prL n d).natAbs=1
 | 0,_,_=>rfl
 | n+1,d,h=>by
  rw[prL,Int.natAbs_mul,h n (by omega),w7z n d λj hj=>h j (by omega)]
theorem w1z:∀(n:Nat) (d:Nat->Int) (A:Nat->Nat->Int),det n (λi j=>d j*A i j)=prF n d*det n A
 | 0,_,_=>rfl
 | n+1,d,A=>by
  rw[det,det,prF,<- qf7]
  refine qa7 λi hi=>?_
  try dsimp only
  rw[w1z n (λj=>d (j+1)) (λa b=>A (skp i a) (b+1))]
  grind
theorem w11 {n:Nat} (e:Nat->Int) (A:Nat->Nat->Int):∀k,k<=n->det n (λi j=>(if i<k then e i else 1)*A i j)=prL k e*det n A
 | 0,_=>by
  rw[prL,Int.one_mul]
  exact qf2 n λi j _ _=>by rw[if_neg (Nat.not_lt_zero _),Int.one_mul]
 | k+1,hk=>by
  obtain⟨F,hF⟩:∃F:Nat->Nat->Int,F=λi j=>(if i<k then e i else 1)*A i j:=⟨_,rfl⟩
  have ih:=w11 (n:=n) e A k (by omega)
  rw[<- hF] at ih
  have h1:=qn7 n F k (by omega) (e k) 0 (F k) (λ_=>0)
  have h2:(0:Int)*det n (upd F k λ_=>0)=0:=Int.zero_mul _
  rw[qv1,ih] at h1
  have h1:=h1.trans (show e k*(prL k e*det n A)+0*det n (upd F k λ_=>0)=e k*(prL k e*det n A) by omega)
  rw[prL,show prL k e*e k*det n A=e k*(prL k e*det n A) by grind,<- h1]
  refine qf2 n λi j hi hj=>?_
  unfold upd
  by_cases q:i=k
  ·rw[if_pos q,q,hF]
   try dsimp only
   rw[if_pos (Nat.lt_succ_self _),if_neg (Nat.lt_irrefl _)]
   grind
  ·rw[if_neg q,hF]
   try dsimp only
   by_cases q2:i<k
   ·rw[if_pos q2,if_pos (by omega)]
   ·rw[if_neg q2,if_neg (by omega)]
theorem xj1 {n:Nat} {A:Nat->Nat->Int} (h:∀i j,i<n+1->j<n+1->One (A i j)):∃B:Nat->Nat->Int,(∀i j,i<n->j<n->Bit (B i j))/\(det (n+1) A).natAbs=2 ^ n*(det n B).natAbs:=by
 obtain⟨B,hB⟩:∃B:Nat->Nat->Int,∀i j,B i j=if A (i+1) 0*A (i+1) (j+1)=A 0 0*A 0 (j+1) then 0 else 1:=⟨_,λ_ _=>rfl⟩
 have hbit:∀i j,i<n->j<n->Bit (B i j):=λi j _ _=>by
  rw[hB]; unfold Bit; split
  ·exact .inl rfl
  ·exact .inr rfl
 refine⟨B,hbit,?_⟩
 rw[<- wg8 A (λi=>A i 0*A 0 0) (by omega) (n+1) (Nat.le_refl _),det,qk1 (k:=0) (by omega) λi hi hne=>?_]
 ·try dsimp only
  have e:det n (λa b=>if 0<skp 0 a/\skp 0 a<n+1 then A (skp 0 a) (b+1)-A (skp 0 a) 0*A 0 0*A 0 (b+1) else A (skp 0 a) (b+1))=det n (λi j=>(if i<n then(λi=>A (i+1) 0) i else 1)*(λi j=>(λj=>-2*(A 0 0*A 0 (j+1))) j*B i j) i j):=qf2 n λa b ha hb=>by
   have es:skp 0 a=a+1:=by unfold skp; rw[if_neg (Nat.not_lt_zero _)]
   rw[es,if_pos (by omega),if_pos ha]
   try dsimp only
   rw[hB]
   have o1:=h (a+1) 0 (by omega) (by omega)
   have o2:=h (a+1) (b+1) (by omega) (by omega)
   have o3:=h 0 0 (by omega) (by omega)
   have o4:=h 0 (b+1) (by omega) (by omega)
   unfold One at o1 o2 o3 o4
   rcases o1 with q1 | q1 <;> rcases o2 with q2 | q2 <;> rcases o3 with q3 | q3 <;> rcases o4 with q4 | q4 <;> rw[q1,q2,q3,q4] <;> decide
  rw[e,w11 _ _ n (Nat.le_refl _),w1z,if_neg (by omega)]
  have p1:=w7z n (λi=>A (i+1) 0) λj hj=>q7d (h (j+1) 0 (by omega) (by omega))
  have p2:=w7y n (λj=>-2*(A 0 0*A 0 (j+1))) 2 λj hj=>by
   have a:=q7d (h 0 0 (by omega) (by omega))
   have b:=q7d (h 0 (j+1) (by omega) (by omega))
   try dsimp only
   rw[Int.natAbs_mul,Int.natAbs_mul,a,b]; rfl
  have o:=q7d (h 0 0 (by omega) (by omega))
  rw[Int.natAbs_mul,Int.natAbs_mul,Int.natAbs_mul,Int.natAbs_mul,wg7,o,p1,p2,Nat.one_mul,Nat.one_mul]
 ·try dsimp only
  rw[if_pos (by omega),Int.mul_assoc (A i 0),xr0 (h 0 0 (by omega) (by omega))]
  simp
def d4 (p q r s:Nat):Int:=((p % 2:Nat):Int)*d3 (q / 2) (r / 2) (s / 2)-((q % 2:Nat):Int)*d3 (p / 2) (r / 2) (s / 2)+((r % 2:Nat):Int)*d3 (p / 2) (q / 2) (s / 2)-((s % 2:Nat):Int)*d3 (p / 2) (q / 2) (r / 2)
def x6v (p q r s t:Nat):Bool:=
 decide (q7c (d4 q r s t)+q7c (- d4 p r s t)+q7c (d4 p q s t)+q7c (- d4 p q r t)+q7c (d4 p q r s)<=5) && decide (q7c (- d4 q r s t)+q7c (d4 p r s t)+q7c (- d4 p q s t)+q7c (d4 p q r t)+q7c (- d4 p q r s)<=5)
theorem xj2:((List.range 16).all λp=>(List.range 16).all λq=>Nat.blt q p || (List.range 16).all λr=>Nat.blt r q || (List.range 16).all λs=>Nat.blt s r || (List.range 16).all λt=>Nat.blt t s || x6v p q r s t)=true:=by decide +kernel
theorem xx3 {p q r s t:Nat} (h1:p<=q) (h2:q<=r) (h3:r<=s) (h4:s<=t) (h5:t<16):x6v p q r s t=true:=by
 have no:∀{a b:Nat},a<=b->Nat.blt b a=false:=λ{a b} h=>by
  cases e:Nat.blt b a with
  | false=>rfl
  | true=>have:=Nat.le_of_ble_eq_true e; omega
 have a1:=List.all_eq_true.1 (List.all_eq_true.1 xj2 p (List.mem_range.2 (by omega))) q (List.mem_range.2 (by omega))
 rw[no h1,Bool.false_or] at a1
 have a2:=List.all_eq_true.1 a1 r (List.mem_range.2 (by omega))
 rw[no h2,Bool.false_or] at a2
 have a3:=List.all_eq_true.1 a2 s (List.mem_range.2 (by omega))
 rw[no h3,Bool.false_or] at a3
 have a4:=List.all_eq_true.1 a3 t (List.mem_range.2 (by omega))
 rwa [no h4,Bool.false_or] at a4
def code4 (x y z w:Int):Nat:=(x+2*y+4*z+8*w).toNat
theorem w13 {x y z w:Int} (hx:Bit x) (hy:Bit y) (hz:Bit z) (hw:Bit w):code4 x y z w<16/\code4 x y z w / 2=qo4 y z w/\((code4 x y z w % 2:Nat):Int)=x:=by
 unfold code4 qo4 Bit at *; omega
theorem xx4 {A:Nat->Nat->Int} (h:∀i j,i<4->j<4->Bit (A i j)):d4 (code4 (A 0 0) (A 0 1) (A 0 2) (A 0 3)) (code4 (A 1 0) (A 1 1) (A 1 2) (A 1 3)) (code4 (A 2 0) (A 2 1) (A 2 2) (A 2 3)) (code4 (A 3 0) (A 3 1) (A 3 2) (A 3 3))=det 4 A:=by
 have hc:=λi (hi:i<4)=>w13 (h i 0 hi (by omega)) (h i 1 hi (by omega)) (h i 2 hi (by omega)) (h i 3 hi (by omega))
 obtain⟨_,a1,a2⟩:=hc 0 (by omega)
 obtain⟨_,b1,b2⟩:=hc 1 (by omega)
 obtain⟨_,c1,c2⟩:=hc 2 (by omega)
 obtain⟨_,e1,e2⟩:=hc 3 (by omega)
 unfold d4
 rw[a1,a2,b1,b2,c1,c2,e1,e2,x5c]
 have m:∀i,i<4->det 3 (λa b=>A (skp i a) (b+1))=d3 (qo4 (A (skp i 0) 1) (A (skp i 0) 2) (A (skp i 0) 3)) (qo4 (A (skp i 1) 1) (A (skp i 1) 2) (A (skp i 1) 3)) (qo4 (A (skp i 2) 1) (A (skp i 2) 2) (A (skp i 2) 3)):=λi hi=>
  (w7w (A:=λa b=>A (skp i a) (b+1)) λa b ha hb=>h _ _ (q5e ha) (by omega)).symm
 rw[m 0 (by omega),m 1 (by omega),m 2 (by omega),m 3 (by omega)]
 rfl
theorem yc2 (A:Nat->Nat->Int):det 5 A=A 0 0*det 4 (λa b=>A (skp 0 a) (b+1))-A 1 0*det 4 (λa b=>A (skp 1 a) (b+1))+A 2 0*det 4 (λa b=>A (skp 2 a) (b+1))-A 3 0*det 4 (λa b=>A (skp 3 a) (b+1))+A 4 0*det 4 (λa b=>A (skp 4 a) (b+1)):=by
 rw[det]
 simp only[sm,show sgn 0=1 from rfl,show sgn 1=-1 from rfl,show sgn 2=1 from rfl,show sgn 3=-1 from rfl,show sgn 4=1 from rfl]
 grind
def cdR (A:Nat->Nat->Int) (i:Nat):Nat:=code4 (A i 1) (A i 2) (A i 3) (A i 4)
theorem q7f {x m:Int} (h:Bit x):x*m<=q7c m/\- (x*m)<=q7c (- m):=by
 have h1:=qv8 (x:=m)
 have h2:=qv8 (x:=-m)
 rcases h with rfl | rfl
 ·rw[Int.zero_mul]; omega
 ·rw[Int.one_mul]; omega
theorem ww7 {A:Nat->Nat->Int} (h:∀i j,i<5->j<5->Bit (A i j)) (hs:∀i,i<4->cdR A i<=cdR A (i+1)):(det 5 A).natAbs<=5:=by
 have hk:=xx3 (hs 0 (by omega)) (hs 1 (by omega)) (hs 2 (by omega)) (hs 3 (by omega)) (w13 (h 4 1 (by omega) (by omega)) (h 4 2 (by omega) (by omega)) (h 4 3 (by omega) (by omega)) (h 4 4 (by omega) (by omega))).1
 unfold x6v at hk
 rw[Bool.and_eq_true,decide_eq_true_eq,decide_eq_true_eq] at hk
 have m:∀i,i<5->det 4 (λa b=>A (skp i a) (b+1))=d4 (cdR A (skp i 0)) (cdR A (skp i 1)) (cdR A (skp i 2)) (cdR A (skp i 3)):=λi hi=>
  (xx4 (A:=λa b=>A (skp i a) (b+1)) λa b ha hb=>h _ _ (q5e ha) (by omega)).symm
 rw[yc2,m 0 (by omega),m 1 (by omega),m 2 (by omega),m 3 (by omega),m 4 (by omega)]
 change _/\_ at hk
 have e0:d4 (cdR A (skp 0 0)) (cdR A (skp 0 1)) (cdR A (skp 0 2)) (cdR A (skp 0 3))=d4 (cdR A 1) (cdR A 2) (cdR A 3) (cdR A 4):=rfl
 have e1:d4 (cdR A (skp 1 0)) (cdR A (skp 1 1)) (cdR A (skp 1 2)) (cdR A (skp 1 3))=d4 (cdR A 0) (cdR A 2) (cdR A 3) (cdR A 4):=rfl
 have e2:d4 (cdR A (skp 2 0)) (cdR A (skp 2 1)) (cdR A (skp 2 2)) (cdR A (skp 2 3))=d4 (cdR A 0) (cdR A 1) (cdR A 3) (cdR A 4):=rfl
 have e3:d4 (cdR A (skp 3 0)) (cdR A (skp 3 1)) (cdR A (skp 3 2)) (cdR A (skp 3 3))=d4 (cdR A 0) (cdR A 1) (cdR A 2) (cdR A 4):=rfl
 have e4:d4 (cdR A (skp 4 0)) (cdR A (skp 4 1)) (cdR A (skp 4 2)) (cdR A (skp 4 3))=d4 (cdR A 0) (cdR A 1) (cdR A 2) (cdR A 3):=rfl
 rw[e0,e1,e2,e3,e4]
 generalize d4 (cdR A 1) (cdR A 2) (cdR A 3) (cdR A 4)=m0 at hk ⊢
 generalize d4 (cdR A 0) (cdR A 2) (cdR A 3) (cdR A 4)=m1 at hk ⊢
 generalize d4 (cdR A 0) (cdR A 1) (cdR A 3) (cdR A 4)=m2 at hk ⊢
 generalize d4 (cdR A 0) (cdR A 1) (cdR A 2) (cdR A 4)=m3 at hk ⊢
 generalize d4 (cdR A 0) (cdR A 1) (cdR A 2) (cdR A 3)=m4 at hk ⊢
 have b0:=q7f (m:=m0) (h 0 0 (by omega) (by omega))
 have b1:=q7f (m:=m1) (h 1 0 (by omega) (by omega))
 have b2:=q7f (m:=m2) (h 2 0 (by omega) (by omega))
 have b3:=q7f (m:=m3) (h 3 0 (by omega) (by omega))
 have b4:=q7f (m:=m4) (h 4 0 (by omega) (by omega))
 generalize A 0 0*m0=x0 at *
 generalize A 1 0*m1=x1 at *
 generalize A 2 0*m2=x2 at *
 generalize A 3 0*m3=x3 at *
 generalize A 4 0*m4=x4 at *
 omega
theorem xr1 (g:Nat->Nat) (n:Nat):∀d s,s+d+1=n->∃t,s<=t/\t<n/\∀j,s<=j->j<n->g t<=g j
 | 0,s,h=>⟨s,Nat.le_refl _,by omega,λj h1 h2=>by rw[show j=s by omega]; exact Nat.le_refl _⟩
 | d+1,s,h=>by
  obtain⟨t,t1,t2,t3⟩:=xr1 g n d (s+1) (by omega)
  by_cases q:g s<=g t
  ·refine⟨s,Nat.le_refl _,by omega,λj h1 h2=>?_⟩
   rcases Nat.eq_or_lt_of_le h1 with e | e
   ·rw[<- e]; exact Nat.le_refl _
   ·exact Nat.le_trans q (t3 j e h2)
  ·refine⟨t,by omega,t2,λj h1 h2=>?_⟩
   rcases Nat.eq_or_lt_of_le h1 with e | e
   ·rw[<- e]; omega
   ·exact t3 j e h2
theorem xj3 {n:Nat} (A:Nat->Nat->Int) {s t:Nat} (hs:s<n) (ht:t<n) (hne:s≠t):(det n (upd (upd A s (A t)) t (A s))).natAbs=(det n A).natAbs:=by
 have h:=wg1 (n:=n) (A:=A) (r:=s) (s:=t) hs ht hne (λw=>q4o (r:=s) (s:=t) hs ht hne λj hj=>by
  unfold upd
  rw[if_neg hne,if_pos rfl,if_pos rfl]) (A s) (A t)
 have e:upd (upd A s (A s)) t (A t)=A:=by rw[qv1]; exact qv1 A t
 rw[e] at h
 rw[h,Int.natAbs_neg]
theorem q4p {n:Nat} (Q:(Nat->Int)->Prop) (cd:(Nat->Int)->Nat) {B:Nat} (hB:∀A:Nat->Nat->Int,(∀i,i<n->Q (A i))->(∀i j,i<j->j<n->cd (A i)<=cd (A j))->(det n A).natAbs<=B) :
  ∀d s,s+d=n->∀A:Nat->Nat->Int,(∀i,i<n->Q (A i))->(∀i j,i<s->i<j->j<n->cd (A i)<=cd (A j))->(det n A).natAbs<=B
 | 0,s,hs,A,h1,h2=>hB A h1 λi j hi hj=>h2 i j (by omega) hi hj
 | d+1,s,hs,A,h1,h2=>by
  obtain⟨t,t1,t2,t3⟩:=xr1 (λi=>cd (A i)) n d s (by omega)
  try dsimp only at t3
  by_cases e:s=t
  ·exact q4p Q cd hB d (s+1) (by omega) A h1 λi j hi hij hj=>by
    rcases Nat.lt_succ_iff_lt_or_eq.1 hi with q | q
    ·exact h2 i j q hij hj
    ·rw[q]
     have:=t3 j (by omega) hj
     rwa [<- e] at this
  ·rw[<- xj3 A (show s<n by omega) t2 e]
   have at_:∀i,upd (upd A s (A t)) t (A s) i=A (if i=t then s else if i=s then t else i):=λi=>by
    funext j
    unfold upd
    by_cases q:i=t
    ·rw[if_pos q,if_pos q]
    ·rw[if_neg q,if_neg q]
     by_cases q2:i=s
     ·rw[if_pos q2,if_pos q2]
     ·rw[if_neg q2,if_neg q2]
   refine q4p Q cd hB d (s+1) (by omega) _ (λi hi=>?_) λi j hi hij hj=>?_
   ·rw[at_]
    refine h1 _ ?_
    split
    ·omega
    ·split <;> omega
   ·rw[at_,at_]
    by_cases q:i=s
    ·rw[if_neg (by omega),if_pos q]
     refine t3 _ ?_ ?_
     ·split
      ·omega
      ·split <;> omega
     ·split
      ·omega
      ·split <;> omega
    ·rw[if_neg (by omega),if_neg q]
     refine h2 i _ (by omega) ?_ ?_
     ·split
      ·omega
      ·split <;> omega
     ·split
      ·omega
      ·split <;> omega
theorem xj4 {A:Nat->Nat->Int} (h:∀i j,i<5->j<5->Bit (A i j)):(det 5 A).natAbs<=5:=
 q4p (n:=5) (λr=>∀j,j<5->Bit (r j)) (λr=>code4 (r 1) (r 2) (r 3) (r 4)) (B:=5) (λA h1 h2=>ww7 (λi j hi hj=>h1 i hi j hj) λi hi=>h2 i (i+1) (by omega) (by omega)) 5 0 rfl A (λi hi j hj=>h i j hi hj) λi j hi=>absurd hi (Nat.not_lt_zero _)
theorem wn9 {n B:Nat} (hB:∀A:Nat->Nat->Int,(∀i j,i<n->j<n->One (A i j))->(det n A).natAbs<=B):∀k,k<=n->∀A:Nat->Nat->Int,(∀i j,i<n->j<n->(A i j).natAbs<=1)->(∀i j,i<n->k<=i->j<n->A i j≠0)->(det n A).natAbs<=B
 | 0,_,A,h1,h2=>hB A λi j hi hj=>by
  have:=h1 i j hi hj
  have:=h2 i j hi (Nat.zero_le _) hj
  unfold One; omega
 | k+1,hk,A,h1,h2=>by
  have key:∀t,t<=n->∀v:Nat->Int,(∀j,j<n->(v j).natAbs<=1)->(∀j,j<n->t<=j->v j≠0)->(det n (upd A k v)).natAbs<=B:=λt=>by
   induction t with
   | zero=>
    intro _ v hv1 hv2
    refine wn9 hB k (by omega) _ (λi j hi hj=>?_) λi j hi hki hj=>?_
    ·unfold upd; split
     ·exact hv1 j hj
     ·exact h1 i j hi hj
    ·unfold upd; split
     ·exact hv2 j hj (Nat.zero_le _)
     ·exact h2 i j hi (by omega) hj
   | succ t ih=>
    intro ht v hv1 hv2
    by_cases e:v t=0
    ·have a1:=ih (by omega) (λj=>if j=t then 1 else v j) (λj hj=>by
      (try dsimp only); split
      ·decide
      ·exact hv1 j hj) (λj hj htj=>by
      (try dsimp only); split
      ·decide
      ·exact hv2 j hj (by omega))
     have a2:=ih (by omega) (λj=>if j=t then -1 else v j) (λj hj=>by
      (try dsimp only); split
      ·decide
      ·exact hv1 j hj) (λj hj htj=>by
      (try dsimp only); split
      ·decide
      ·exact hv2 j hj (by omega))
     have e1:=qn7 n A k (by omega) 1 1 (λj=>if j=t then 1 else v j) (λj=>if j=t then -1 else v j)
     have e2:=qn7 n A k (by omega) 2 0 v v
     have e3:(λj=>(1:Int)*(if j=t then 1 else v j)+1*(if j=t then -1 else v j))=λj=>2*v j+0*v j:=by
      funext j
      by_cases q:j=t
      ·rw[if_pos q,if_pos q,q,e]; rfl
      ·rw[if_neg q,if_neg q]; omega
     rw[e3,e2] at e1
     omega
    ·exact ih (by omega) v hv1 λj hj htj=>by
      rcases Nat.lt_or_ge t j with q | q
      ·exact hv2 j hj q
      ·rw[show j=t by omega]; exact e
  have:=key n (Nat.le_refl _) (A k) (λj hj=>h1 k j (by omega) hj) λj hj h5=>by omega
  rwa [qv1] at this
theorem ww8 {n:Nat} (hn:n<=6) {A:Nat->Nat->Int} (h:∀i j,i<n->j<n->(A i j).natAbs<=1):(det n A).natAbs<=160:=by
 rcases Nat.lt_or_ge n 5 with q | q
 ·have:=ww6 n h
  have hf:∀k:Fin 5,x5b k.val<=160:=by decide
  exact Nat.le_trans this (hf ⟨n,q⟩)
 ·rcases Nat.lt_or_ge n 6 with q2 | q2
  ·obtain rfl:n=5:=by omega
   exact Nat.le_trans (q7e 5 (Nat.le_refl _) A h λi j hi h5=>by omega) (by decide)
  ·obtain rfl:n=6:=by omega
   refine wn9 (n:=6) (B:=160) (λA hA=>?_) 6 (Nat.le_refl _) A h λi j hi h5=>by omega
   obtain⟨B,hB,e⟩:=xj1 (n:=5) hA
   have:=xj4 hB
   rw[e]
   omega
end Go.Proofs.YtmijnbjlhnpokaaGreat
set_option linter.unusedSimpArgs false
namespace Go.Proofs.YtmijnbjlhnpokaaGreat
open Go Go.RowKit Eng
def qd8 (a b:Int):Int:=(Int.gcd a b:Int)
abbrev qd6 (K x:Int):Prop:=-K<=x/\x<=K
def BIG:Int:=4000000000000000000
theorem q7g (a b:Int):0<=qd8 a b:=Int.natCast_nonneg _
theorem xj5 (a b:Int):qd8 (max a (0-a)) (max b (0-b))=qd8 a b:=by
 unfold qd8
 have h1:(max a (0-a)).natAbs=a.natAbs:=by omega
 have h2:(max b (0-b)).natAbs=b.natAbs:=by omega
 show((Nat.gcd (max a (0-a)).natAbs (max b (0-b)).natAbs:Nat):Int)=(Nat.gcd a.natAbs b.natAbs:Nat)
 rw[h1,h2]
theorem w70 {a b:Int} (ha:0<=a) (hb:0<=b):qd8 b (a.tmod b)=qd8 a b:=by
 unfold qd8
 obtain⟨m,rfl⟩:=Int.eq_ofNat_of_zero_le ha
 obtain⟨n,rfl⟩:=Int.eq_ofNat_of_zero_le hb
 rw[Int.tmod_eq_emod_of_nonneg ha]
 have e:((m:Int) % (n:Int))=((m % n:Nat):Int):=rfl
 rw[e,Int.gcd_natCast_natCast,Int.gcd_natCast_natCast]
 congr 1
 rw[Nat.gcd_comm n,<- Nat.gcd_rec,Nat.gcd_comm]
theorem w71 (a:Int) (h:0<=a):qd8 a 0=a:=by
 unfold qd8
 rw[Int.gcd_zero_right]
 omega
theorem wo0 {a:Int} (b:Int) (h:a≠0):qd8 a b<=a.natAbs:=by
 unfold qd8
 exact Int.ofNat_le.2 (Nat.le_of_dvd (by omega) (Nat.gcd_dvd_left _ _))
theorem wg9 (a:Int) {b:Int} (h:b≠0):qd8 a b<=b.natAbs:=by
 unfold qd8
 exact Int.ofNat_le.2 (Nat.le_of_dvd (by omega) (Nat.gcd_dvd_right _ _))
theorem w72 {a b:Int} (ha:-BIG<=a/\a<=BIG) (hb:-BIG<=b/\b<=BIG):0<=qd8 a b/\qd8 a b<=BIG:=by
 refine⟨q7g _ _,?_⟩
 unfold BIG at *
 by_cases h:a=0
 ·by_cases k:b=0
  ·subst h k; decide
  ·have:=wg9 a k; omega
 ·have:=wo0 b h; omega
theorem qm5 {a b:Int} (h:a≠0\/b≠0):0<qd8 a b:=by
 unfold qd8
 have:0<Int.gcd a b:=by rw[Int.gcd_pos_iff]; exact h
 omega
theorem ql4 {a g K:Int} (hk:-K<=a/\a<=K):-K<=a.tdiv g/\a.tdiv g<=K:=by
 have h1:(a.tdiv g).natAbs<=a.natAbs:=by
  rw[Int.natAbs_tdiv]; exact Nat.div_le_self _ _
 omega
def xj6:qb9:=qg2 true none [tInt,tInt] [tInt] (λx=>(-BIG<=x.1/\x.1<=BIG)/\-BIG<=x.2.1/\x.2.1<=BIG) (λx=>(qd8 x.1 x.2.1,()))
def w73 (a b:Int):Nat->Option Inv
 | 0=>some (Inv.of [0,1] 0 (λs:Int × Int=>[(0,.lit (.int .i64 s.1)),(1,.lit (.int .i64 s.2))]) (λ_=>[]) (λs=>(0<=s.1/\s.1<=BIG)/\(0<=s.2/\s.2<=BIG)/\qd8 s.1 s.2=qd8 a b) (λs=>s.2.toNat))
 | _=>none
theorem qo9:Meets Tryz.prog 138 xj6:=by
 refine meets (snd (SpecsOk.nil _)) Tryz.func138 rfl rfl (λx=>w73 x.1 x.2.1) (λ_=>by kernel_rfl) (by decide) ?_
 rintro⟨a,b,⟨⟩⟩ h
 revert a b
 intro(a:Int) (b:Int) (h:(-BIG<=a/\a<=BIG)/\-BIG<=b/\b<=BIG)
 refine @qe1 _ (fits .i64 ((0:Int)-a)/\fits .i64 ((0:Int)-b)/\∃(v0:Unit),∃(v1:Int × Int),(((0:Int)<=v1.1/\v1.1<=BIG)/\((0:Int)<=v1.2/\v1.2<=BIG)/\qd8 v1.1 v1.2=qd8 a b)/\((max2 true a ((0:Int)-a)=v1.1/\max2 true b ((0:Int)-b)=v1.2/\True)/\True)/\∀(v2:Int × Int),((0:Int)<=v2.1/\v2.1<=BIG)/\((0:Int)<=v2.2/\v2.2<=BIG)/\qd8 v2.1 v2.2=qd8 a b->((v2.2 != (0:Int))=true->v2.2≠(0:Int)/\∃(v5:Int × Int),(((0:Int)<=v5.1/\v5.1<=BIG)/\((0:Int)<=v5.2/\v5.2<=BIG)/\qd8 v5.1 v5.2=qd8 a b)/\v5.2.toNat<v2.2.toNat/\(v2.2=v5.1/\Int.tmod v2.1 v2.2=v5.2/\True)/\True)/\((v2.2 != (0:Int))=false->v2.1=qd8 a b)) (by kernel_rfl) ?_
 try simp only[z0,z1,z2,z3,z4,z5,z6,z7,z8,z9,z10,Int.reduceEq,z11,z12,z13,z14,z15,z16,z17,z18,z19,z20,z21,z22,z23,z24,z25,z26,z27,z28,z29,z30,Int.reduceLE,Int.reduceLT,z31,z32,z33,z34,qa3]
 try simp only[qb5,qb6,qd0,z31,z32,z2,z1]
 have hB:BIG=4000000000000000000:=rfl
 refine⟨qa9 (by omega) (by omega),qa9 (by omega) (by omega),(),(max a (0-a),max b (0-b)),⟨⟨by dsimp only; omega,by dsimp only; omega⟩,⟨by dsimp only; omega,by dsimp only; omega⟩,xj5 a b⟩,⟨rfl,rfl⟩,?_⟩
 rintro⟨x,y⟩ ⟨⟨h1,h2⟩,⟨h3,h4⟩,h5⟩
 dsimp only at h1 h2 h3 h4 h5 ⊢
 refine⟨λhy=>⟨hy,(y,x.tmod y),⟨⟨h3,h4⟩,?_,?_⟩,?_,rfl,rfl⟩,λhy=>?_⟩
 ·rw[Int.tmod_eq_emod_of_nonneg h1]
  have k1:=Int.emod_nonneg x hy
  have k2:=Int.emod_lt_of_pos x (show 0<y by omega)
  exact⟨k1,by dsimp only; omega⟩
 ·exact(w70 h1 h3).trans h5
 ·rw[Int.tmod_eq_emod_of_nonneg h1]
  have k1:=Int.emod_nonneg x hy
  have k2:=Int.emod_lt_of_pos x (show 0<y by omega)
  dsimp only; omega
 ·subst hy
  rw[w71 x h1] at h5
  exact h5
def ofR (n d:Int):Int × Int:=if d<0 then(n.tdiv (0-qd8 n d),d.tdiv (0-qd8 n d)) else(n.tdiv (qd8 n d),d.tdiv (qd8 n d))
def sOf:qb9:=qg2 true none [tInt,tInt] [ya1] (λx=>(-BIG<=x.1/\x.1<=BIG)/\(-BIG<=x.2.1/\x.2.1<=BIG)/\x.2.1≠0) (λx=>(ofR x.1 x.2.1,()))
theorem w14:Meets Tryz.prog 80 sOf:=by
 refine meets (snd (SpecsOk.cons qo9 (SpecsOk.nil _))) Tryz.func80 rfl rfl (λx=>λ_=>none) (λ_=>by kernel_rfl) (by decide) ?_
 rintro⟨a,b,⟨⟩⟩ h
 revert a b
 intro(a:Int) (b:Int) (h:(-BIG<=a/\a<=BIG)/\(-BIG<=b/\b<=BIG)/\b≠0)
 refine @qe1 _ (let Q0:=qd8 a b; (((-4000000000000000000:Int)<=a/\a<=BIG)/\(-4000000000000000000:Int)<=b/\b<=BIG)/\(decide (b<(0:Int))=true->fits .i64 ((0:Int)-qd8 a b)/\(0:Int)-qd8 a b≠(0:Int)/\fits .i64 (Int.tdiv a ((0:Int)-qd8 a b))/\(0:Int)-qd8 a b≠(0:Int)/\fits .i64 (Int.tdiv b ((0:Int)-qd8 a b))/\Int.tdiv a ((0:Int)-qd8 a b)=(ofR a b).1/\Int.tdiv b ((0:Int)-qd8 a b)=(ofR a b).2/\True)/\(decide (b<(0:Int))=false->qd8 a b≠(0:Int)/\fits .i64 (Int.tdiv a Q0)/\qd8 a b≠(0:Int)/\fits .i64 (Int.tdiv b Q0)/\Int.tdiv a Q0=(ofR a b).1/\Int.tdiv b Q0=(ofR a b).2/\True)) (by kernel_rfl) ?_
 try simp only[z0,z1,z2,z3,z4,z5,z6,z7,z8,z9,z10,Int.reduceEq,z11,z12,z13,z14,z15,z16,z17,z18,z19,z20,z21,z22,z23,z24,z25,z26,z27,z28,z29,z30,Int.reduceLE,Int.reduceLT,z31,z32,z33,z34,qa3]
 try simp only[qb5,qb6,qd0,z31,z32,z2,z1]
 have hB:BIG=4000000000000000000:=rfl
 have hg:=w72 h.1 h.2.1
 have hp:=qm5 (a:=a) (b:=b) (.inr h.2.2)
 refine⟨⟨h.1,h.2.1⟩,λhb=>?_,λhb=>?_⟩
 ·have h1:=ql4 (g:=0-qd8 a b) h.1
  have h2:=ql4 (g:=0-qd8 a b) h.2.1
  have e:ofR a b=(a.tdiv (0-qd8 a b),b.tdiv (0-qd8 a b)):=by unfold ofR; rw[if_pos hb]
  rw[e]
  exact⟨qa9 (by omega) (by omega),by omega,qa9 (by omega) (by omega),by omega,qa9 (by omega) (by omega),rfl,rfl⟩
 ·have h1:=ql4 (g:=qd8 a b) h.1
  have h2:=ql4 (g:=qd8 a b) h.2.1
  have e:ofR a b=(a.tdiv (qd8 a b),b.tdiv (qd8 a b)):=by unfold ofR; rw[if_neg (by omega)]
  rw[e]
  exact⟨by omega,qa9 (by omega) (by omega),by omega,qa9 (by omega) (by omega),rfl,rfl⟩
def gcdL (l:List Int):Int:=l.foldl qd8 0
def qe2 (l:List Int):List Int:=if 1<gcdL l then l.map λx=>x.tdiv (gcdL l) else l
def wh0 (l:List Int):Prop:=l.length<=1000/\∀x∈l,-BIG<=x/\x<=BIG
def xr2:qp4:=w7l (we9 []) false false 0 3 (.int .i64) (λrows _=>wh0 (nL rows 0)) (λ_ _=>.tup .nil) (λrows _=>[qe2 (nL rows 0)])
def shK (l:List Int) (k:Nat):List Int:=if 1<gcdL l then(l.take k).map (λx=>x.tdiv (gcdL l))++l.drop k else l
def xx5 (T:q8m) (l:List Int):Nat->Option Inv
 | 0=>some (Inv.of [0,6,2,8] 1 (λk:Nat=>[(0,.msl 0 (some 0)),(6,.msl 0 (some 0)),(2,.lit (.int .i64 (gcdL (l.take k)))),(8,.lit (.int .i64 k))]) (λ_=>[.mat 0 3 (.int .i64) [l] (some []) (some T)]) (λk=>k<=l.length) (λk=>l.length-k))
 | 1=>some (Inv.of [0,18] 1 (λs:Nat × List Int=>[(0,.msl 0 (some 0)),(18,.lit (.int .i64 s.1))]) (λs=>[.mat 0 3 (.int .i64) [s.2] (some []) (some T)]) (λs=>s.1<=l.length/\s.2=shK l s.1) (λs=>l.length-s.1))
 | _=>none
theorem wo1 (l:List Int) (k:Nat) (hk:k<l.length):gcdL (l.take (k+1))=qd8 (gcdL (l.take k)) (nI l k):=by
 rw[List.take_add_one,List.getElem?_eq_getElem hk]
 simp only[gcdL,List.foldl_append,Option.toList_some,List.foldl_cons,List.foldl_nil]
 rw[qg1 l k hk]
theorem q7h {l:List Int} (h:wh0 l) {k:Nat} (hk:k<l.length):qd6 BIG (nI l k):=by
 rw[qg1 l k hk]
 exact h.2 _ (List.getElem_mem hk)
theorem w74 {l:List Int} (h:wh0 l):∀k,k<=l.length->0<=gcdL (l.take k)/\gcdL (l.take k)<=BIG
 | 0,_=>by simp[gcdL,BIG]
 | k+1,hk=>by
  rw[wo1 l k hk]
  have h1:=w74 h k (by omega)
  refine w72 ⟨?_,h1.2⟩ (q7h h hk)
  have hB:BIG=4000000000000000000:=rfl
  omega
theorem ww9 (l:List Int) (k:Nat) (hk:k<=l.length):(shK l k).length=l.length:=by
 unfold shK
 split
 ·simp; omega
 ·rfl
theorem x2y (l:List Int) (k:Nat) (hk:k<l.length):nI (shK l k) k=nI l k:=by
 unfold shK
 split
 ·unfold nI qd4
  rw[List.getD_eq_getElem?_getD,List.getD_eq_getElem?_getD,List.getElem?_append_right (by simp; omega)]
  simp
  congr 2
  omega
 ·rfl
theorem xj7 (l:List Int) (k:Nat) (hk:k<l.length) (hg:1<gcdL l):(shK l k).set k ((nI l k).tdiv (gcdL l))=shK l (k+1):=by
 have h1:=ww9 l k (by omega)
 have h2:=ww9 l (k+1) (by omega)
 apply List.ext_getElem (by rw[List.length_set,h1,h2])
 intro i hi _
 rw[List.length_set,h1] at hi
 rw[List.getElem_set]
 unfold shK
 simp only[if_pos hg]
 by_cases e:k=i
 ·subst e
  rw[if_pos rfl,List.getElem_append_left (by simp; omega),qg1 l k hk]
  simp
 ·rw[if_neg e]
  by_cases h:i<k
  ·rw[List.getElem_append_left (by simp; omega),List.getElem_append_left (by simp; omega)]
   simp
  ·rw[List.getElem_append_right (by simp; omega),List.getElem_append_right (by simp; omega)]
   simp only[List.length_map,List.length_take,List.getElem_drop]
   congr 1
   omega
theorem q2v:qs1 Tryz.prog 177 xr2:=by
 refine w1t (snd (SpecsOk.cons qo9 (SpecsOk.nil _))) Tryz.func177 rfl rfl (q1x []) (λT rows _=>xx5 T (nL rows 0)) (λ_ _ _=>by kernel_rfl) (by decide) ?_ rfl
 rintro T rows ⟨⟩ h hone
 obtain⟨l,rfl⟩:∃l:List Int,rows=[l]:=by
  have h1:=hone rfl
  match rows,h1 with
  | [l],_=>exact⟨l,rfl⟩
 have h:wh0 l:=h
 refine @qe1 _ (∃(v0:Unit),∃(v1:Nat),Nat.le v1 (nL [l] (0:Nat)).length/\((some (0:Nat)=some (0:Nat)/\some (0:Nat)=some (0:Nat)/\(0:Int)=gcdL (List.take v1 (nL [l] (0:Nat)))/\(0:Int)=(↑v1:Int)/\True)/\([l]=[nL [l] (0:Nat)]/\True/\T=T)/\True)/\∀(v2:Nat),Nat.le v2 (nL [l] (0:Nat)).length->(decide ((↑v2:Int)<(↑(nL [l] (0:Nat)).length:Int))=true->((0:Int)<=(↑v2:Int)/\(↑v2:Int)<(↑(nL [nL [l] (0:Nat)] (0:Nat)).length:Int))/\v2<(nL [nL [l] (0:Nat)] (0:Nat)).length/\(((-4000000000000000000:Int)<=gcdL (List.take v2 (nL [l] (0:Nat)))/\gcdL (List.take v2 (nL [l] (0:Nat)))<=BIG)/\(-4000000000000000000:Int)<=nI (nL [nL [l] (0:Nat)] (0:Nat)) v2/\nI (nL [nL [l] (0:Nat)] (0:Nat)) v2<=BIG)/\fits .i64 ((↑v2:Int)+(1:Int))/\∃(v5:Nat),Nat.le v5 (nL [l] (0:Nat)).length/\(nL [l] (0:Nat)).length-v5<(nL [l] (0:Nat)).length-v2/\(some (0:Nat)=some (0:Nat)/\some (0:Nat)=some (0:Nat)/\qd8 (gcdL (List.take v2 (nL [l] (0:Nat)))) (nI (nL [nL [l] (0:Nat)] (0:Nat)) v2)=gcdL (List.take v5 (nL [l] (0:Nat)))/\(↑v2:Int)+(1:Int)=(↑v5:Int)/\True)/\([nL [l] (0:Nat)]=[nL [l] (0:Nat)]/\True/\T=T)/\True)/\(decide ((↑v2:Int)<(↑(nL [l] (0:Nat)).length:Int))=false->∃(v5:Unit),∃(v6:Nat × List Int),(v6.1<=(nL [l] (0:Nat)).length/\v6.2=shK (nL [l] (0:Nat)) v6.1)/\((some (0:Nat)=some (0:Nat)/\(0:Int)=(↑v6.1:Int)/\True)/\([nL [l] (0:Nat)]=[v6.2]/\True/\T=T)/\True)/\∀(v7:Nat × List Int),v7.1<=(nL [l] (0:Nat)).length/\v7.2=shK (nL [l] (0:Nat)) v7.1->(decide ((↑v7.1:Int)<(↑(nL [nL [l] (0:Nat)] (0:Nat)).length:Int))=true->(decide ((1:Int)<gcdL (List.take v2 (nL [l] (0:Nat))))=true->((0:Int)<=(↑v7.1:Int)/\(↑v7.1:Int)<(↑(nL [v7.2] (0:Nat)).length:Int))/\(↑v7.1:Int).toNat<(nL [v7.2] (0:Nat)).length/\gcdL (List.take v2 (nL [l] (0:Nat)))≠(0:Int)/\fits .i64 (Int.tdiv (nI (nL [v7.2] (0:Nat)) (↑v7.1:Int).toNat) (gcdL (List.take v2 (nL [l] (0:Nat)))))/\((0:Int)<=(↑v7.1:Int)/\(↑v7.1:Int)<(↑(nL [v7.2] (0:Nat)).length:Int))/\(↑v7.1:Int).toNat<(nL [v7.2] (0:Nat)).length/\fits .i64 ((↑v7.1:Int)+(1:Int))/\∃(v11:Nat × List Int),(v11.1<=(nL [l] (0:Nat)).length/\v11.2=shK (nL [l] (0:Nat)) v11.1)/\(nL [l] (0:Nat)).length-v11.1<(nL [l] (0:Nat)).length-v7.1/\(some (0:Nat)=some (0:Nat)/\(↑v7.1:Int)+(1:Int)=(↑v11.1:Int)/\True)/\(List.set [v7.2] (0:Nat) (List.set (nL [v7.2] (0:Nat)) (↑v7.1:Int).toNat (Int.tdiv (nI (nL [v7.2] (0:Nat)) (↑v7.1:Int).toNat) (gcdL (List.take v2 (nL [l] (0:Nat))))))=[v11.2]/\True/\T=T)/\True)/\(decide ((1:Int)<gcdL (List.take v2 (nL [l] (0:Nat))))=false->fits .i64 ((↑v7.1:Int)+(1:Int))/\∃(v11:Nat × List Int),(v11.1<=(nL [l] (0:Nat)).length/\v11.2=shK (nL [l] (0:Nat)) v11.1)/\(nL [l] (0:Nat)).length-v11.1<(nL [l] (0:Nat)).length-v7.1/\(some (0:Nat)=some (0:Nat)/\(↑v7.1:Int)+(1:Int)=(↑v11.1:Int)/\True)/\([v7.2]=[v11.2]/\True/\T=T)/\True))/\(decide ((↑v7.1:Int)<(↑(nL [nL [l] (0:Nat)] (0:Nat)).length:Int))=false->[v7.2]=[qe2 (nL [l] (0:Nat))]/\T=T/\True/\True))) (by kernel_rfl) ?_
 try simp only[z0,z1,z2,z3,z4,z5,z6,z7,z8,z9,z10,Int.reduceEq,z11,z12,z13,z14,z15,z16,z17,z18,z19,z20,z21,z22,z23,z24,z25,z26,z27,z28,z29,z30,Int.reduceLE,Int.reduceLT,z31,z32,z33,z34,qa3]
 try simp only[qb5,qb6,qd0,z31,z32,z2,z1]
 have hB:BIG=4000000000000000000:=rfl
 refine⟨(),0,Nat.zero_le _,⟨rfl,rfl⟩,λk hk=>⟨λhlt=>?_,λhge=>?_⟩⟩
 ·have h1:=w74 h k hk
  have h2:=q7h h hlt
  exact⟨hlt,hlt,⟨⟨by omega,h1.2⟩,h2⟩,qa9 (by have:=h.1; omega) (by have:=h.1; omega),k+1,by omega,by omega,(wo1 l k hlt).symm,by omega⟩
 ·obtain rfl:k=l.length:=by omega
  simp only[List.take_length,decide_eq_true_eq,decide_eq_false_iff_not,Int.not_lt]
  have sh0:shK l 0=l:=by unfold shK; split <;> simp
  refine⟨(),(0,l),⟨Nat.zero_le _,sh0.symm⟩,⟨rfl,rfl⟩,?_⟩
  rintro⟨k,r⟩ ⟨h1,h2⟩
  dsimp only at h1 h2 ⊢
  subst h2
  have hl:=ww9 l k h1
  refine⟨λhlt=>⟨λhg=>?_,λhg=>?_⟩,λhge=>?_⟩
  ·have h3:=q7h h hlt
   have h4:=ql4 (g:=gcdL l) h3
   rw[x2y l k hlt]
   refine⟨by omega,by omega,by omega,qa9 (by omega) (by omega),by omega,by omega,qa9 (by have:=h.1; omega) (by have:=h.1; omega),(k+1,shK l (k+1)),⟨by dsimp only; omega,rfl⟩,by dsimp only; omega,by dsimp only; omega,xj7 l k hlt hg⟩
  ·refine⟨qa9 (by have:=h.1; omega) (by have:=h.1; omega),(k+1,shK l (k+1)),⟨by dsimp only; omega,rfl⟩,by dsimp only; omega,by dsimp only; omega,?_⟩
   unfold shK
   rw[if_neg (by omega),if_neg (by omega)]
  ·obtain rfl:k=l.length:=by omega
   unfold shK qe2
   split
   ·simp
   ·rfl
def x2z:Int:=2000000000000000000
def q1 (r b:List Int) (c:Nat):Int:=(nI b c).tdiv (qd8 (nI r c) (nI b c))
def q2 (r b:List Int) (c:Nat):Int:=(nI r c).tdiv (qd8 (nI r c) (nI b c))
def xx6 (r b:List Int) (c i:Nat):Int:=(nI r i)*q1 r b c-(nI b i)*q2 r b c
def q5f (r b:List Int) (c:Nat):List Int:=(List.range r.length).map (xx6 r b c)
def qw8 (r b:List Int) (c:Nat):List Int:=qe2 (q5f r b c)
structure wo2 (r b:List Int) (c:Nat):Prop where
 at_:c<r.length
 len:b.length=r.length
 max:r.length<=1000
 ne:(nI b c)≠(0:Int)
 bdr:qd6 BIG (nI r c)
 bdb:qd6 BIG (nI b c)
 one:∀i,i<r.length->qd6 x2z ((nI r i)*q1 r b c)
 two:∀i,i<r.length->qd6 x2z ((nI b i)*q2 r b c)
def xr3:qp4:=w7l (we9 [tInts,tInt]) false false 0 3 (.int .i64) (λrows x=>0<=x.2.1/\wo2 (nL rows 0) x.1 x.2.1.toNat) (λ_ _=>.tup .nil) (λrows x=>[qw8 (nL rows 0) x.1 x.2.1.toNat])
def clK (r b:List Int) (c k:Nat):List Int:=ovr (.int .i64) (xx6 r b c) r k
def xx7 (T:q8m) (r b:List Int) (c:Nat):Nat->Option Inv
 | 0=>some (Inv.of [0,23] 11 (λs:Nat × List Int=>[(0,.msl 0 (some 0)),(23,.lit (.int .i64 s.1))]) (λs=>[.mat 0 3 (.int .i64) [s.2] (some []) (some T),.dead,.dead,.dead,.dead,.dead,.dead,.dead,.dead,.dead,.dead]) (λs=>s.1<=r.length/\s.2=clK r b c s.1) (λs=>r.length-s.1))
 | _=>none
theorem q14 (r b:List Int) (c:Nat):(q5f r b c).length=r.length:=by simp[q5f]
theorem xx8 (r b:List Int) (c k:Nat):(clK r b c k).length=r.length:=qt7 (.int .i64) _ r k
theorem x21 (r b:List Int) (c k:Nat) (hk:k<r.length):nI (clK r b c k) k=nI r k:=(q69 (.int .i64) _ r k k hk).trans (if_neg (Nat.lt_irrefl k))
theorem xj8 (r b:List Int) (c k:Nat):(clK r b c k).set k (xx6 r b c k)=clK r b c (k+1):=qz5 (.int .i64) _ r k
theorem xx9 (r b:List Int) (c:Nat):clK r b c r.length=q5f r b c:=q4m (.int .i64) _ r _ (Nat.le_refl _)
theorem w37 {r b:List Int} {c:Nat} (h:wo2 r b c):wh0 (q5f r b c):=by
 refine⟨by rw[q14]; exact h.max,λx hx=>?_⟩
 unfold q5f at hx
 obtain⟨i,hi,rfl⟩:=List.mem_map.1 hx
 have hi:=List.mem_range.1 hi
 have h1:=h.one i hi
 have h2:=h.two i hi
 unfold xx6
 unfold x2z at h1 h2
 unfold BIG
 omega
theorem wx0:qs1 Tryz.prog 131 xr3:=by
 refine w1t (ya3 (SpecsOk.cons qo9 (SpecsOk.nil _)) (MutsOk.cons q2v MutsOk.nil)) Tryz.func131 rfl rfl (q1x [tInts,tInt]) (λT rows x=>xx7 T (nL rows 0) x.1 x.2.1.toNat) (λ_ _ _=>by kernel_rfl) (by decide) ?_ rfl
 rintro T rows ⟨b,c,⟨⟩⟩ h hone
 revert b c
 intro(b:List Int) (c:Int) h
 obtain⟨r,rfl⟩:∃l:List Int,rows=[l]:=by
  have h1:=hone rfl
  match rows,h1 with
  | [l],_=>exact⟨l,rfl⟩
 have h:0<=c/\wo2 r b c.toNat:=h
 obtain⟨j,rfl⟩:∃j:Nat,c=j:=⟨c.toNat,by omega⟩
 refine @qe1 _ (let Q0:=qp4.t xr2; ((0:Int)<=(↑j:Int)/\(↑j:Int)<(↑(nL [r] (0:Nat)).length:Int))/\(↑j:Int).toNat<(nL [r] (0:Nat)).length/\((0:Int)<=(↑j:Int)/\(↑j:Int)<(↑b.length:Int))/\(((-4000000000000000000:Int)<=nI (nL [r] (0:Nat)) (↑j:Int).toNat/\nI (nL [r] (0:Nat)) (↑j:Int).toNat<=BIG)/\(-4000000000000000000:Int)<=nI b (↑j:Int).toNat/\nI b (↑j:Int).toNat<=BIG)/\∃(v0:Unit),∃(v1:Nat × List Int),(v1.1<=(nL [r] (0:Nat)).length/\v1.2=clK (nL [r] (0:Nat)) b (↑j:Int).toNat v1.1)/\((some (0:Nat)=some (0:Nat)/\(0:Int)=(↑v1.1:Int)/\True)/\([r]=[v1.2]/\True/\T=T)/\True/\True/\True/\True/\True/\True/\True/\True/\True/\True/\True)/\∀(v2:Nat × List Int),v2.1<=(nL [r] (0:Nat)).length/\v2.2=clK (nL [r] (0:Nat)) b (↑j:Int).toNat v2.1->(decide ((↑v2.1:Int)<(↑(nL [r] (0:Nat)).length:Int))=true->((0:Int)<=(↑v2.1:Int)/\(↑v2.1:Int)<(↑(nL [v2.2] (0:Nat)).length:Int))/\(↑v2.1:Int).toNat<(nL [v2.2] (0:Nat)).length/\qd8 (nI (nL [r] (0:Nat)) (↑j:Int).toNat) (nI b (↑j:Int).toNat)≠(0:Int)/\fits .i64 (Int.tdiv (nI b (↑j:Int).toNat) (qd8 (nI (nL [r] (0:Nat)) (↑j:Int).toNat) (nI b (↑j:Int).toNat)))/\fits .i64 (nI (nL [v2.2] (0:Nat)) (↑v2.1:Int).toNat*Int.tdiv (nI b (↑j:Int).toNat) (qd8 (nI (nL [r] (0:Nat)) (↑j:Int).toNat) (nI b (↑j:Int).toNat)))/\((0:Int)<=(↑v2.1:Int)/\(↑v2.1:Int)<(↑b.length:Int))/\qd8 (nI (nL [r] (0:Nat)) (↑j:Int).toNat) (nI b (↑j:Int).toNat)≠(0:Int)/\fits .i64 (Int.tdiv (nI (nL [r] (0:Nat)) (↑j:Int).toNat) (qd8 (nI (nL [r] (0:Nat)) (↑j:Int).toNat) (nI b (↑j:Int).toNat)))/\fits .i64 (nI b (↑v2.1:Int).toNat*Int.tdiv (nI (nL [r] (0:Nat)) (↑j:Int).toNat) (qd8 (nI (nL [r] (0:Nat)) (↑j:Int).toNat) (nI b (↑j:Int).toNat)))/\fits .i64 (nI (nL [v2.2] (0:Nat)) (↑v2.1:Int).toNat*Int.tdiv (nI b (↑j:Int).toNat) (qd8 (nI (nL [r] (0:Nat)) (↑j:Int).toNat) (nI b (↑j:Int).toNat))-nI b (↑v2.1:Int).toNat*Int.tdiv (nI (nL [r] (0:Nat)) (↑j:Int).toNat) (qd8 (nI (nL [r] (0:Nat)) (↑j:Int).toNat) (nI b (↑j:Int).toNat)))/\((0:Int)<=(↑v2.1:Int)/\(↑v2.1:Int)<(↑(nL [v2.2] (0:Nat)).length:Int))/\(↑v2.1:Int).toNat<(nL [v2.2] (0:Nat)).length/\fits .i64 ((↑v2.1:Int)+(1:Int))/\∃(v5:Nat × List Int),(v5.1<=(nL [r] (0:Nat)).length/\v5.2=clK (nL [r] (0:Nat)) b (↑j:Int).toNat v5.1)/\(nL [r] (0:Nat)).length-v5.1<(nL [r] (0:Nat)).length-v2.1/\(some (0:Nat)=some (0:Nat)/\(↑v2.1:Int)+(1:Int)=(↑v5.1:Int)/\True)/\(List.set [v2.2] (0:Nat) (List.set (nL [v2.2] (0:Nat)) (↑v2.1:Int).toNat (nI (nL [v2.2] (0:Nat)) (↑v2.1:Int).toNat*Int.tdiv (nI b (↑j:Int).toNat) (qd8 (nI (nL [r] (0:Nat)) (↑j:Int).toNat) (nI b (↑j:Int).toNat))-nI b (↑v2.1:Int).toNat*Int.tdiv (nI (nL [r] (0:Nat)) (↑j:Int).toNat) (qd8 (nI (nL [r] (0:Nat)) (↑j:Int).toNat) (nI b (↑j:Int).toNat))))=[v5.2]/\True/\T=T)/\True/\True/\True/\True/\True/\True/\True/\True/\True/\True/\True)/\(decide ((↑v2.1:Int)<(↑(nL [r] (0:Nat)).length:Int))=false->wh0 (nL [qd4 (Ty.list Q0) [v2.2] (0:Nat)] (0:Nat))/\List.set [v2.2] (0:Nat) (qd4 (Ty.list Q0) [qe2 (nL [qd4 (Ty.list Q0) [v2.2] (0:Nat)] (0:Nat))] (0:Nat))=[qw8 (nL [r] (0:Nat)) b (↑j:Int).toNat]/\T=T/\True/\True)) (by kernel_rfl) ?_
 try simp only[z0,z1,z2,z3,z4,z5,z6,z7,z8,z9,z10,Int.reduceEq,z11,z12,z13,z14,z15,z16,z17,z18,z19,z20,z21,z22,z23,z24,z25,z26,z27,z28,z29,z30,Int.reduceLE,Int.reduceLT,z31,z32,z33,z34,qa3]
 try simp only[qb5,qb6,qd0,z31,z32,z2,z1]
 obtain⟨_,h⟩:=h
 rw[Int.toNat_natCast] at h
 have hB:BIG=4000000000000000000:=rfl
 have hB2:x2z=2000000000000000000:=rfl
 have hl:=h.len
 have hj:=h.at_
 have hmx:=h.max
 refine⟨hj,hj,by omega,⟨by rw[<- hB]; exact h.bdr,by rw[<- hB]; exact h.bdb⟩,(),(0,r),⟨Nat.zero_le _,(q1y (.int .i64) _ r).symm⟩,⟨rfl,rfl⟩,?_⟩
 rintro⟨k,l⟩ ⟨h1,h2⟩
 dsimp only at h1 h2 ⊢
 subst h2
 have hkl:=xx8 r b j k
 refine⟨λhlt=>?_,λhge=>?_⟩
 ·have hg:=qm5 (a:=nI r j) (b:=nI b j) (.inr h.ne)
  have k1:=ql4 (g:=qd8 (nI r j) (nI b j)) h.bdr
  have k2:=ql4 (g:=qd8 (nI r j) (nI b j)) h.bdb
  have k3:=h.one k hlt
  have k4:=h.two k hlt
  rw[x21 r b j k hlt]
  unfold q1 at k3
  unfold q2 at k4
  exact⟨by omega,by omega,by omega,qa9 (by omega) (by omega),qa9 (by omega) (by omega),by omega,by omega,qa9 (by omega) (by omega),qa9 (by omega) (by omega),qa9 (by omega) (by omega),by omega,by omega,qa9 (by omega) (by omega),(k+1,clK r b j (k+1)),⟨by dsimp only; omega,rfl⟩,by dsimp only; omega,by dsimp only; omega,xj8 r b j k⟩
 ·obtain rfl:k=r.length:=by omega
  rw[xx9]
  exact⟨w37 h,rfl⟩
def ixT (t:Ty) (f:t.den->Bool) (l:List t.den):Int:=if l.any f then(l.findIdx f:Int) else -1
theorem wo3 (t:Ty) (f:t.den->Bool) (l:List t.den) (k:Nat) (hk:k<l.length) (h:∀i,i<k->f (qd4 t l i)=false) (hf:f (qd4 t l k)=true):ixT t f l=k:=by
 have hk':f l[k]=true:=by rw[<- qj8 l k hk]; exact hf
 unfold ixT
 rw[if_pos (List.any_eq_true.2 ⟨_,List.getElem_mem hk,hk'⟩)]
 have:l.findIdx f=k:=by
  rw[List.findIdx_eq hk]
  refine⟨hk',λj hj=>?_⟩
  have:=h j hj
  rw[qj8 l j (by omega)] at this
  exact this
 rw[this]
theorem q53 (t:Ty) (f:t.den->Bool) (l:List t.den) (h:∀i,i<l.length->f (qd4 t l i)=false):ixT t f l=-1:=by
 unfold ixT
 rw[if_neg]
 intro he
 obtain⟨x,hx,hf⟩:=List.any_eq_true.1 he
 obtain⟨i,hi,rfl⟩:=List.getElem_of_mem hx
 have:=h i hi
 rw[qj8 l i hi,hf] at this
 cases this
theorem q15 (t:Ty) (f:t.den->Bool) (l:List t.den):decide (0<=ixT t f l)=l.any f:=by
 unfold ixT
 split
 ·rename_i h; rw[h]; simp
 ·rename_i h; simp at h ⊢; exact h
theorem xr4 (t:Ty) (f:t.den->Bool) (l:List t.den):ixT t f l<l.length/\-1<=ixT t f l:=by
 unfold ixT
 split
 ·rename_i h
  have:l.findIdx f<l.length:=List.findIdx_lt_length.2 (List.any_eq_true.1 h)
  omega
 ·omega
def x5d (t:Ty) (l:List t.den) (f:t.den->Bool):Nat->Option Inv
 | 0=>some (Inv.of [8] 0 (λk:Nat=>[(8,.lit (.int .i64 k))]) (λ_=>[]) (λk=>k<=l.length/\∀i,i<k->f (qd4 t l i)=false) (λk=>l.length-k))
 | _=>none
abbrev yc3 (fs:List (Nat × qb9)):qb9:=hspec fs true none [.d (.list (.list (.int .i64))),.fn [.list (.int .i64)] .bool] [tInt] (λx=>x.1.length<=1000000/\∀i,i<x.1.length->x.2.1.1 (qd4 (.list (.int .i64)) x.1 i,())) (λx=>(ixT (.list (.int .i64)) (λe=>x.2.1.2 (e,())) x.1,()))
theorem wo4 {fs:List (Nat × qb9)} (hfs:SpecsOk Tryz.prog fs):Meets Tryz.prog 129 (yc3 fs):=by
 refine qr1 hfs (snd (SpecsOk.nil _)) Tryz.func129 rfl rfl (λx=>x5d (.list (.int .i64)) x.1 (λe=>x.2.1.2 (e,()))) (λ_=>by kernel_rfl) (by decide) ?_
 rintro⟨l,⟨p,f⟩,⟨⟩⟩ h
 revert l p f
 intro(l:List (Ty.den (.list (.int .i64)))) (p:qa5 [.list (.int .i64)]->Prop) (f:qa5 [.list (.int .i64)]->Bool) (h:l.length<=1000000/\∀i,i<l.length->p (qd4 (.list (.int .i64)) l i,()))
 refine @qe1 _ (∃(v0:Unit),∃(v1:Nat),(v1<=l.length/\∀(v2:Nat),Nat.le (Nat.succ v2) v1->f (nL l v2,())=false)/\(((0:Int)=(↑v1:Int)/\True)/\True)/\∀(v2:Nat),(v2<=l.length/\∀(v4:Nat),Nat.le (Nat.succ v4) v2->f (nL l v4,())=false)->(decide ((↑v2:Int)<(↑l.length:Int))=true->((0:Int)<=(↑v2:Int)/\(↑v2:Int)<(↑l.length:Int))/\p (nL l v2,())/\(f (nL l v2,())=true->(↑v2:Int)=ixT (Ty.list (Ty.int .i64)) (λ(v6:List Int)=>f (v6,())) l)/\(f (nL l v2,())=false->fits .i64 ((↑v2:Int)+(1:Int))/\∃(v6:Nat),(v6<=l.length/\∀(v7:Nat),Nat.le (Nat.succ v7) v6->f (nL l v7,())=false)/\l.length-v6<l.length-v2/\((↑v2:Int)+(1:Int)=(↑v6:Int)/\True)/\True))/\(decide ((↑v2:Int)<(↑l.length:Int))=false->(-1:Int)=ixT (Ty.list (Ty.int .i64)) (λ(v5:List Int)=>f (v5,())) l)) (by kernel_rfl) ?_
 try simp only[z0,z1,z2,z3,z4,z5,z6,z7,z8,z9,z10,Int.reduceEq,z11,z12,z13,z14,z15,z16,z17,z18,z19,z20,z21,z22,z23,z24,z25,z26,z27,z28,z29,z30,Int.reduceLE,Int.reduceLT,z31,z32,z33,z34,qa3]
 try simp only[qb5,qb6,qd0,z31,z32,z2,z1]
 obtain⟨hl,hp⟩:=h
 refine⟨(),0,⟨Nat.zero_le _,λi hi=>absurd hi (by omega)⟩,rfl,λk ⟨hk,hall⟩=>?_⟩
 refine⟨λhlt=>⟨hlt,hp k hlt,λhf=>(wo3 (.list (.int .i64)) (λe=>f (e,())) l k hlt hall hf).symm,λhf=>⟨qa9 (by omega) (by omega),k+1,⟨by omega,λi hi=>?_⟩,by omega,by omega⟩⟩,λhge=>(q53 (.list (.int .i64)) (λe=>f (e,())) l λi hi=>hall i (by omega)).symm⟩
 by_cases e:i=k
 ·subst e; exact hf
 ·exact hall i (by omega)
abbrev yc4 (fs:List (Nat × qb9)):qb9:=hspec fs true none [.d (.list (.int .i64)),.fn [.int .i64] .bool] [tInt] (λx=>x.1.length<=1000000/\∀i,i<x.1.length->x.2.1.1 (qd4 (.int .i64) x.1 i,())) (λx=>(ixT (.int .i64) (λe=>x.2.1.2 (e,())) x.1,()))
theorem wo5 {fs:List (Nat × qb9)} (hfs:SpecsOk Tryz.prog fs):Meets Tryz.prog 178 (yc4 fs):=by
 refine qr1 hfs (snd (SpecsOk.nil _)) Tryz.func178 rfl rfl (λx=>x5d (.int .i64) x.1 (λe=>x.2.1.2 (e,()))) (λ_=>by kernel_rfl) (by decide) ?_
 rintro⟨l,⟨p,f⟩,⟨⟩⟩ h
 revert l p f
 intro(l:List (Ty.den (.int .i64))) (p:qa5 [.int .i64]->Prop) (f:qa5 [.int .i64]->Bool) (h:l.length<=1000000/\∀i,i<l.length->p (qd4 (.int .i64) l i,()))
 refine @qe1 _ (∃(v0:Unit),∃(v1:Nat),(v1<=l.length/\∀(v2:Nat),Nat.le (Nat.succ v2) v1->f (nI l v2,())=false)/\(((0:Int)=(↑v1:Int)/\True)/\True)/\∀(v2:Nat),(v2<=l.length/\∀(v4:Nat),Nat.le (Nat.succ v4) v2->f (nI l v4,())=false)->(decide ((↑v2:Int)<(↑l.length:Int))=true->((0:Int)<=(↑v2:Int)/\(↑v2:Int)<(↑l.length:Int))/\p (nI l v2,())/\(f (nI l v2,())=true->(↑v2:Int)=ixT (Ty.int .i64) (λ(v6:Int)=>f (v6,())) l)/\(f (nI l v2,())=false->fits .i64 ((↑v2:Int)+(1:Int))/\∃(v6:Nat),(v6<=l.length/\∀(v7:Nat),Nat.le (Nat.succ v7) v6->f (nI l v7,())=false)/\l.length-v6<l.length-v2/\((↑v2:Int)+(1:Int)=(↑v6:Int)/\True)/\True))/\(decide ((↑v2:Int)<(↑l.length:Int))=false->(-1:Int)=ixT (Ty.int .i64) (λ(v5:Int)=>f (v5,())) l)) (by kernel_rfl) ?_
 try simp only[z0,z1,z2,z3,z4,z5,z6,z7,z8,z9,z10,Int.reduceEq,z11,z12,z13,z14,z15,z16,z17,z18,z19,z20,z21,z22,z23,z24,z25,z26,z27,z28,z29,z30,Int.reduceLE,Int.reduceLT,z31,z32,z33,z34,qa3]
 try simp only[qb5,qb6,qd0,z31,z32,z2,z1]
 obtain⟨hl,hp⟩:=h
 refine⟨(),0,⟨Nat.zero_le _,λi hi=>absurd hi (by omega)⟩,rfl,λk ⟨hk,hall⟩=>?_⟩
 refine⟨λhlt=>⟨hlt,hp k hlt,λhf=>(wo3 (.int .i64) (λe=>f (e,())) l k hlt hall hf).symm,λhf=>⟨qa9 (by omega) (by omega),k+1,⟨by omega,λi hi=>?_⟩,by omega,by omega⟩⟩,λhge=>(q53 (.int .i64) (λe=>f (e,())) l λi hi=>hall i (by omega)).symm⟩
 by_cases e:i=k
 ·subst e; exact hf
 ·exact hall i (by omega)
abbrev yc5 (fs:List (Nat × qb9)):qb9:=hspec fs true none [.d (.list (.prod (.int .i64) (.int .i64))),.fn [.prod (.int .i64) (.int .i64)] .bool] [tInt] (λx=>x.1.length<=1000000/\∀i,i<x.1.length->x.2.1.1 (qd4 (.prod (.int .i64) (.int .i64)) x.1 i,())) (λx=>(ixT (.prod (.int .i64) (.int .i64)) (λe=>x.2.1.2 (e,())) x.1,()))
theorem w75 {fs:List (Nat × qb9)} (hfs:SpecsOk Tryz.prog fs):Meets Tryz.prog 250 (yc5 fs):=by
 refine qr1 hfs (snd (SpecsOk.nil _)) Tryz.func250 rfl rfl (λx=>x5d (.prod (.int .i64) (.int .i64)) x.1 (λe=>x.2.1.2 (e,()))) (λ_=>by kernel_rfl) (by decide) ?_
 rintro⟨l,⟨p,f⟩,⟨⟩⟩ h
 revert l p f
 intro(l:List (Ty.den (.prod (.int .i64) (.int .i64)))) (p:qa5 [.prod (.int .i64) (.int .i64)]->Prop) (f:qa5 [.prod (.int .i64) (.int .i64)]->Bool) (h:l.length<=1000000/\∀i,i<l.length->p (qd4 (.prod (.int .i64) (.int .i64)) l i,()))
 refine @qe1 _ (∃(v0:Unit),∃(v1:Nat),(v1<=l.length/\∀(v2:Nat),Nat.le (Nat.succ v2) v1->f (qd4 (Ty.prod (Ty.int .i64) (Ty.int .i64)) l v2,())=false)/\(((0:Int)=(↑v1:Int)/\True)/\True)/\∀(v2:Nat),(v2<=l.length/\∀(v4:Nat),Nat.le (Nat.succ v4) v2->f (qd4 (Ty.prod (Ty.int .i64) (Ty.int .i64)) l v4,())=false)->(decide ((↑v2:Int)<(↑l.length:Int))=true->((0:Int)<=(↑v2:Int)/\(↑v2:Int)<(↑l.length:Int))/\p (((qd4 (Ty.prod (Ty.int .i64) (Ty.int .i64)) l v2).1,(qd4 (Ty.prod (Ty.int .i64) (Ty.int .i64)) l v2).2),())/\(f (((qd4 (Ty.prod (Ty.int .i64) (Ty.int .i64)) l v2).1,(qd4 (Ty.prod (Ty.int .i64) (Ty.int .i64)) l v2).2),())=true->(↑v2:Int)=ixT (Ty.prod (Ty.int .i64) (Ty.int .i64)) (λ(v6:Int × Int)=>f (v6,())) l)/\(f (((qd4 (Ty.prod (Ty.int .i64) (Ty.int .i64)) l v2).1,(qd4 (Ty.prod (Ty.int .i64) (Ty.int .i64)) l v2).2),())=false->fits .i64 ((↑v2:Int)+(1:Int))/\∃(v6:Nat),(v6<=l.length/\∀(v7:Nat),Nat.le (Nat.succ v7) v6->f (qd4 (Ty.prod (Ty.int .i64) (Ty.int .i64)) l v7,())=false)/\l.length-v6<l.length-v2/\((↑v2:Int)+(1:Int)=(↑v6:Int)/\True)/\True))/\(decide ((↑v2:Int)<(↑l.length:Int))=false->(-1:Int)=ixT (Ty.prod (Ty.int .i64) (Ty.int .i64)) (λ(v5:Int × Int)=>f (v5,())) l)) (by kernel_rfl) ?_
 try simp only[z0,z1,z2,z3,z4,z5,z6,z7,z8,z9,z10,Int.reduceEq,z11,z12,z13,z14,z15,z16,z17,z18,z19,z20,z21,z22,z23,z24,z25,z26,z27,z28,z29,z30,Int.reduceLE,Int.reduceLT,z31,z32,z33,z34,qa3]
 try simp only[qb5,qb6,qd0,z31,z32,z2,z1]
 obtain⟨hl,hp⟩:=h
 refine⟨(),0,⟨Nat.zero_le _,λi hi=>absurd hi (by omega)⟩,rfl,λk ⟨hk,hall⟩=>?_⟩
 refine⟨λhlt=>⟨hlt,hp k hlt,λhf=>(wo3 (.prod (.int .i64) (.int .i64)) (λe=>f (e,())) l k hlt hall hf).symm,λhf=>⟨qa9 (by omega) (by omega),k+1,⟨by omega,λi hi=>?_⟩,by omega,by omega⟩⟩,λhge=>(q53 (.prod (.int .i64) (.int .i64)) (λe=>f (e,())) l λi hi=>hall i (by omega)).symm⟩
 by_cases e:i=k
 ·subst e; exact hf
 ·exact hall i (by omega)
abbrev yc6 (fs:List (Nat × qb9)):qb9:=hspec fs true none [.d (.list (.list (.int .i64))),.fn [.list (.int .i64)] .bool] [.bool] (λx=>x.1.length<=1000000/\∀i,i<x.1.length->x.2.1.1 (qd4 (.list (.int .i64)) x.1 i,())) (λx=>(x.1.any λe=>x.2.1.2 (e,()),()))
theorem w76 {fs:List (Nat × qb9)} (hfs:SpecsOk Tryz.prog fs):Meets Tryz.prog 107 (yc6 fs):=by
 refine qr1 hfs (snd (SpecsOk.cons (wo4 (fs:=fs) hfs) (SpecsOk.nil _))) Tryz.func107 rfl rfl (λx=>λ_=>none) (λ_=>by kernel_rfl) (by decide) ?_
 rintro⟨l,⟨p,f⟩,⟨⟩⟩ h
 revert l p f
 intro(l:List (Ty.den (.list (.int .i64)))) (p:qa5 [.list (.int .i64)]->Prop) (f:qa5 [.list (.int .i64)]->Bool) (h:l.length<=1000000/\∀i,i<l.length->p (qd4 (.list (.int .i64)) l i,()))
 refine @qe1 _ (∃(v0:qa5 [Ty.list (Ty.int .i64)]->Prop),∃(v1:qa5 [Ty.list (Ty.int .i64)]->Bool),([Ty.list (Ty.int .i64)]=[Ty.list (Ty.int .i64)]/\Ty.bool=Ty.bool/\p ≍ v0/\f ≍ v1)/\(l.length<=(1000000:Nat)/\∀(v2:Nat),v2<l.length->v0 (nL l v2,()))/\decide ((0:Int)<=ixT (Ty.list (Ty.int .i64)) (λ(v2:List Int)=>v1 (v2,())) l)=List.any l λ(v2:List Int)=>f (v2,())) (by kernel_rfl) ?_
 try simp only[z0,z1,z2,z3,z4,z5,z6,z7,z8,z9,z10,Int.reduceEq,z11,z12,z13,z14,z15,z16,z17,z18,z19,z20,z21,z22,z23,z24,z25,z26,z27,z28,z29,z30,Int.reduceLE,Int.reduceLT,z31,z32,z33,z34,qa3]
 try simp only[qb5,qb6,qd0,z31,z32,z2,z1]
 exact⟨p,f,⟨HEq.rfl,HEq.rfl⟩,h,q15 (.list (.int .i64)) (λe=>f (e,())) l⟩
abbrev yc7 (fs:List (Nat × qb9)):qb9:=hspec fs true none [.d (.list (.int .i64)),.fn [.int .i64] .bool] [.bool] (λx=>x.1.length<=1000000/\∀i,i<x.1.length->x.2.1.1 (qd4 (.int .i64) x.1 i,())) (λx=>(x.1.any λe=>x.2.1.2 (e,()),()))
theorem q3q {fs:List (Nat × qb9)} (hfs:SpecsOk Tryz.prog fs):Meets Tryz.prog 132 (yc7 fs):=by
 refine qr1 hfs (snd (SpecsOk.cons (wo5 (fs:=fs) hfs) (SpecsOk.nil _))) Tryz.func132 rfl rfl (λx=>λ_=>none) (λ_=>by kernel_rfl) (by decide) ?_
 rintro⟨l,⟨p,f⟩,⟨⟩⟩ h
 revert l p f
 intro(l:List (Ty.den (.int .i64))) (p:qa5 [.int .i64]->Prop) (f:qa5 [.int .i64]->Bool) (h:l.length<=1000000/\∀i,i<l.length->p (qd4 (.int .i64) l i,()))
 refine @qe1 _ (∃(v0:qa5 [Ty.int .i64]->Prop),∃(v1:qa5 [Ty.int .i64]->Bool),([Ty.int .i64]=[Ty.int .i64]/\Ty.bool=Ty.bool/\p ≍ v0/\f ≍ v1)/\(l.length<=(1000000:Nat)/\∀(v2:Nat),v2<l.length->v0 (nI l v2,()))/\decide ((0:Int)<=ixT (Ty.int .i64) (λ(v2:Int)=>v1 (v2,())) l)=List.any l λ(v2:Int)=>f (v2,())) (by kernel_rfl) ?_
 try simp only[z0,z1,z2,z3,z4,z5,z6,z7,z8,z9,z10,Int.reduceEq,z11,z12,z13,z14,z15,z16,z17,z18,z19,z20,z21,z22,z23,z24,z25,z26,z27,z28,z29,z30,Int.reduceLE,Int.reduceLT,z31,z32,z33,z34,qa3]
 try simp only[qb5,qb6,qd0,z31,z32,z2,z1]
 exact⟨p,f,⟨HEq.rfl,HEq.rfl⟩,h,q15 (.int .i64) (λe=>f (e,())) l⟩
abbrev yc8 (fs:List (Nat × qb9)):qb9:=hspec fs true none [.d (.list (.prod (.int .i64) (.int .i64))),.fn [.prod (.int .i64) (.int .i64)] .bool] [.bool] (λx=>x.1.length<=1000000/\∀i,i<x.1.length->x.2.1.1 (qd4 (.prod (.int .i64) (.int .i64)) x.1 i,())) (λx=>(x.1.any λe=>x.2.1.2 (e,()),()))
theorem w77 {fs:List (Nat × qb9)} (hfs:SpecsOk Tryz.prog fs):Meets Tryz.prog 239 (yc8 fs):=by
 refine qr1 hfs (snd (SpecsOk.cons (w75 (fs:=fs) hfs) (SpecsOk.nil _))) Tryz.func239 rfl rfl (λx=>λ_=>none) (λ_=>by kernel_rfl) (by decide) ?_
 rintro⟨l,⟨p,f⟩,⟨⟩⟩ h
 revert l p f
 intro(l:List (Ty.den (.prod (.int .i64) (.int .i64)))) (p:qa5 [.prod (.int .i64) (.int .i64)]->Prop) (f:qa5 [.prod (.int .i64) (.int .i64)]->Bool) (h:l.length<=1000000/\∀i,i<l.length->p (qd4 (.prod (.int .i64) (.int .i64)) l i,()))
 refine @qe1 _ (∃(v0:qa5 [Ty.prod (Ty.int .i64) (Ty.int .i64)]->Prop),∃(v1:qa5 [Ty.prod (Ty.int .i64) (Ty.int .i64)]->Bool),([Ty.prod (Ty.int .i64) (Ty.int .i64)]=[Ty.prod (Ty.int .i64) (Ty.int .i64)]/\Ty.bool=Ty.bool/\p ≍ v0/\f ≍ v1)/\(l.length<=(1000000:Nat)/\∀(v2:Nat),v2<l.length->v0 (qd4 (Ty.prod (Ty.int .i64) (Ty.int .i64)) l v2,()))/\decide ((0:Int)<=ixT (Ty.prod (Ty.int .i64) (Ty.int .i64)) (λ(v2:Int × Int)=>v1 (v2,())) l)=List.any l λ(v2:Int × Int)=>f (v2,())) (by kernel_rfl) ?_
 try simp only[z0,z1,z2,z3,z4,z5,z6,z7,z8,z9,z10,Int.reduceEq,z11,z12,z13,z14,z15,z16,z17,z18,z19,z20,z21,z22,z23,z24,z25,z26,z27,z28,z29,z30,Int.reduceLE,Int.reduceLT,z31,z32,z33,z34,qa3]
 try simp only[qb5,qb6,qd0,z31,z32,z2,z1]
 exact⟨p,f,⟨HEq.rfl,HEq.rfl⟩,h,q15 (.prod (.int .i64) (.int .i64)) (λe=>f (e,())) l⟩
def inB (n lo hi:Int):Bool:=decide (lo<=n) && decide (n<=hi)
theorem inB_iff {n lo hi:Int}:inB n lo hi=true↔lo<=n/\n<=hi:=by simp[inB]
abbrev wh1:qb9:=qg2 true none [tInt,tInt,tInt] [.bool] (λ_=>True) (λx=>(inB x.1 x.2.1 x.2.2.1,()))
theorem qz6:Meets Tryz.prog 121 wh1:=by
 refine meets (snd (SpecsOk.nil _)) Tryz.func121 rfl rfl (λ_ _=>none) (λ_=>by kernel_rfl) (by decide) ?_
 rintro⟨n,lo,hi,⟨⟩⟩ -
 revert n lo hi
 intro(n:Int) (lo:Int) (hi:Int)
 refine @qe1 _ ((decide (lo<=n)=true->decide (n<=hi)=inB n lo hi)/\(decide (lo<=n)=false->false=inB n lo hi)) (by kernel_rfl) ?_
 try simp only[z0,z1,z2,z3,z4,z5,z6,z7,z8,z9,z10,Int.reduceEq,z11,z12,z13,z14,z15,z16,z17,z18,z19,z20,z21,z22,z23,z24,z25,z26,z27,z28,z29,z30,Int.reduceLE,Int.reduceLT,z31,z32,z33,z34,qa3]
 try simp only[qb5,qb6,qd0,z31,z32,z2,z1]
 constructor
 ·intro h1
  simp[inB,h1]
 ·intro h1
  have:¬lo<=n:=by omega
  simp[inB,this]
theorem q3r:Meets Tryz.prog 191 wh1:=by
 refine meets (snd (SpecsOk.nil _)) Tryz.func191 rfl rfl (λ_ _=>none) (λ_=>by kernel_rfl) (by decide) ?_
 rintro⟨n,lo,hi,⟨⟩⟩ -
 revert n lo hi
 intro(n:Int) (lo:Int) (hi:Int)
 refine @qe1 _ ((decide (lo<=n)=true->decide (n<=hi)=inB n lo hi)/\(decide (lo<=n)=false->false=inB n lo hi)) (by kernel_rfl) ?_
 try simp only[z0,z1,z2,z3,z4,z5,z6,z7,z8,z9,z10,Int.reduceEq,z11,z12,z13,z14,z15,z16,z17,z18,z19,z20,z21,z22,z23,z24,z25,z26,z27,z28,z29,z30,Int.reduceLE,Int.reduceLT,z31,z32,z33,z34,qa3]
 try simp only[qb5,qb6,qd0,z31,z32,z2,z1]
 constructor
 ·intro h1
  simp[inB,h1]
 ·intro h1
  have:¬lo<=n:=by omega
  simp[inB,this]
theorem qz7:Meets Tryz.prog 75 wh1:=by
 refine meets (snd (SpecsOk.nil _)) Tryz.func75 rfl rfl (λ_ _=>none) (λ_=>by kernel_rfl) (by decide) ?_
 rintro⟨n,lo,hi,⟨⟩⟩ -
 revert n lo hi
 intro(n:Int) (lo:Int) (hi:Int)
 refine @qe1 _ ((decide (lo<=n)=true->decide (n<=hi)=inB n lo hi)/\(decide (lo<=n)=false->false=inB n lo hi)) (by kernel_rfl) ?_
 try simp only[z0,z1,z2,z3,z4,z5,z6,z7,z8,z9,z10,Int.reduceEq,z11,z12,z13,z14,z15,z16,z17,z18,z19,z20,z21,z22,z23,z24,z25,z26,z27,z28,z29,z30,Int.reduceLE,Int.reduceLT,z31,z32,z33,z34,qa3]
 try simp only[qb5,qb6,qd0,z31,z32,z2,z1]
 constructor
 ·intro h1
  simp[inB,h1]
 ·intro h1
  have:¬lo<=n:=by omega
  simp[inB,this]
theorem wh2:Meets Tryz.prog 141 wh1:=by
 refine meets (snd (SpecsOk.nil _)) Tryz.func141 rfl rfl (λ_ _=>none) (λ_=>by kernel_rfl) (by decide) ?_
 rintro⟨n,lo,hi,⟨⟩⟩ -
 revert n lo hi
 intro(n:Int) (lo:Int) (hi:Int)
 refine @qe1 _ ((decide (lo<=n)=true->decide (n<=hi)=inB n lo hi)/\(decide (lo<=n)=false->false=inB n lo hi)) (by kernel_rfl) ?_
 try simp only[z0,z1,z2,z3,z4,z5,z6,z7,z8,z9,z10,Int.reduceEq,z11,z12,z13,z14,z15,z16,z17,z18,z19,z20,z21,z22,z23,z24,z25,z26,z27,z28,z29,z30,Int.reduceLE,Int.reduceLT,z31,z32,z33,z34,qa3]
 try simp only[qb5,qb6,qd0,z31,z32,z2,z1]
 constructor
 ·intro h1
  simp[inB,h1]
 ·intro h1
  have:¬lo<=n:=by omega
  simp[inB,this]
abbrev xr5 (fs:List (Nat × qb9)):qb9:=hspec fs true none [.d tInt,.capfn [tInt] .bool] [.bool] (λx=>x.2.1.1 (x.1,())) (λx=>(!(x.2.1.2 (x.1,())),()))
theorem wx1 {fs:List (Nat × qb9)} (hfs:SpecsOk Tryz.prog fs):Meets Tryz.prog 226 (xr5 fs):=by
 refine qr1 hfs (snd (SpecsOk.nil _)) Tryz.func226 rfl rfl (λ_ _=>none) (λ_=>by kernel_rfl) (by decide) ?_
 rintro⟨n,⟨p,f⟩,⟨⟩⟩ h
 revert n p f
 intro(n:Int) (p:qa5 [.int .i64]->Prop) (f:qa5 [.int .i64]->Bool) (h:p (n,()))
 refine @qe1 _ (p (n,())/\(!f (n,()))=!f (n,())) (by kernel_rfl) ?_
 try simp only[z0,z1,z2,z3,z4,z5,z6,z7,z8,z9,z10,Int.reduceEq,z11,z12,z13,z14,z15,z16,z17,z18,z19,z20,z21,z22,z23,z24,z25,z26,z27,z28,z29,z30,Int.reduceLE,Int.reduceLT,z31,z32,z33,z34,qa3]
 try simp only[qb5,qb6,qd0,z31,z32,z2,z1]
 exact h
abbrev xr6 (fs:List (Nat × qb9)):qb9:=hspec fs true none [.d tInts,.capfn [tInts] .bool] [.bool] (λx=>x.2.1.1 (x.1,())) (λx=>(!(x.2.1.2 (x.1,())),()))
theorem wx2 {fs:List (Nat × qb9)} (hfs:SpecsOk Tryz.prog fs):Meets Tryz.prog 180 (xr6 fs):=by
 refine qr1 hfs (snd (SpecsOk.nil _)) Tryz.func180 rfl rfl (λ_ _=>none) (λ_=>by kernel_rfl) (by decide) ?_
 rintro⟨n,⟨p,f⟩,⟨⟩⟩ h
 revert n p f
 intro(n:List Int) (p:qa5 [.list (.int .i64)]->Prop) (f:qa5 [.list (.int .i64)]->Bool) (h:p (n,()))
 refine @qe1 _ (p (n,())/\(!f (n,()))=!f (n,())) (by kernel_rfl) ?_
 try simp only[z0,z1,z2,z3,z4,z5,z6,z7,z8,z9,z10,Int.reduceEq,z11,z12,z13,z14,z15,z16,z17,z18,z19,z20,z21,z22,z23,z24,z25,z26,z27,z28,z29,z30,Int.reduceLE,Int.reduceLT,z31,z32,z33,z34,qa3]
 try simp only[qb5,qb6,qd0,z31,z32,z2,z1]
 exact h
abbrev fsI (fs:List (Nat × qb9)):List (Nat × qb9):=[(226,xr5 fs)]
abbrev fsL (fs:List (Nat × qb9)):List (Nat × qb9):=[(180,xr6 fs)]
abbrev x6w (fs:List (Nat × qb9)):qb9:=hspec fs true none [.d tInts,.fn [tInt] .bool] [.bool] (λx=>x.1.length<=1000000/\∀i,i<x.1.length->x.2.1.1 (nI x.1 i,())) (λx=>(x.1.all λe=>x.2.1.2 (e,()),()))
abbrev x6x (fs:List (Nat × qb9)):qb9:=hspec fs true none [.d tMask,.fn [tInts] .bool] [.bool] (λx=>x.1.length<=1000000/\∀i,i<x.1.length->x.2.1.1 (nL x.1 i,())) (λx=>(x.1.all λe=>x.2.1.2 (e,()),()))
theorem w38 {fs:List (Nat × qb9)} (hfs:SpecsOk Tryz.prog fs):Meets Tryz.prog 181 (x6w fs):=by
 refine qr1 hfs (snd (SpecsOk.cons (q3q (fs:=fsI fs) (SpecsOk.cons (wx1 hfs) (SpecsOk.nil _))) (SpecsOk.nil _))) Tryz.func181 rfl rfl (λ_ _=>none) (λ_=>by kernel_rfl) (by decide) ?_
 rintro⟨l,⟨p,f⟩,⟨⟩⟩ h
 revert l p f
 intro(l:List Int) (p:qa5 [.int .i64]->Prop) (f:qa5 [.int .i64]->Bool) (h:l.length<=1000000/\∀i,i<l.length->p (nI l i,()))
 refine @qe1 _ (∃(v0:qa5 [Ty.int .i64]->Prop),∃(v1:qa5 [Ty.int .i64]->Bool),(∀(v2:Int × qa5._f [] PUnit.unit),v0 v2->∃(v4:qa5 [tInt]->Prop),∃(v5:qa5 [tInt]->Bool),([tInt]=[tInt]/\Ty.bool=Ty.bool/\p ≍ v4/\f ≍ v5)/\v4 (v2.1,())/\(!v5 (v2.1,()))=v1 v2)/\(l.length<=(1000000:Nat)/\∀(v2:Nat),v2<l.length->v0 (nI l v2,()))/\(!List.any l λ(v2:Int)=>v1 (v2,()))=List.all l λ(v2:Int)=>f (v2,())) (by kernel_rfl) ?_
 try simp only[z0,z1,z2,z3,z4,z5,z6,z7,z8,z9,z10,Int.reduceEq,z11,z12,z13,z14,z15,z16,z17,z18,z19,z20,z21,z22,z23,z24,z25,z26,z27,z28,z29,z30,Int.reduceLE,Int.reduceLT,z31,z32,z33,z34,qa3]
 try simp only[qb5,qb6,qd0,z31,z32,z2,z1]
 exact⟨p,λx=>!f x,λx hx=>⟨p,f,⟨HEq.rfl,HEq.rfl⟩,hx,(Bool.not_not (f x)).symm⟩,h,by simp[List.not_all_eq_any_not]⟩
theorem w39 {fs:List (Nat × qb9)} (hfs:SpecsOk Tryz.prog fs):Meets Tryz.prog 122 (x6x fs):=by
 refine qr1 hfs (snd (SpecsOk.cons (w76 (fs:=fsL fs) (SpecsOk.cons (wx2 hfs) (SpecsOk.nil _))) (SpecsOk.nil _))) Tryz.func122 rfl rfl (λ_ _=>none) (λ_=>by kernel_rfl) (by decide) ?_
 rintro⟨l,⟨p,f⟩,⟨⟩⟩ h
 revert l p f
 intro(l:List (List Int)) (p:qa5 [.list (.int .i64)]->Prop) (f:qa5 [.list (.int .i64)]->Bool) (h:l.length<=1000000/\∀i,i<l.length->p (nL l i,()))
 refine @qe1 _ (∃(v0:qa5 [Ty.list (Ty.int .i64)]->Prop),∃(v1:qa5 [Ty.list (Ty.int .i64)]->Bool),(∀(v2:List Int × qa5._f [] PUnit.unit),v0 v2->∃(v4:qa5 [tInts]->Prop),∃(v5:qa5 [tInts]->Bool),([tInts]=[tInts]/\Ty.bool=Ty.bool/\p ≍ v4/\f ≍ v5)/\v4 (v2.1,())/\(!v5 (v2.1,()))=v1 v2)/\(l.length<=(1000000:Nat)/\∀(v2:Nat),v2<l.length->v0 (nL l v2,()))/\(!List.any l λ(v2:List Int)=>v1 (v2,()))=List.all l λ(v2:List Int)=>f (v2,())) (by kernel_rfl) ?_
 try simp only[z0,z1,z2,z3,z4,z5,z6,z7,z8,z9,z10,Int.reduceEq,z11,z12,z13,z14,z15,z16,z17,z18,z19,z20,z21,z22,z23,z24,z25,z26,z27,z28,z29,z30,Int.reduceLE,Int.reduceLT,z31,z32,z33,z34,qa3]
 try simp only[qb5,qb6,qd0,z31,z32,z2,z1]
 exact⟨p,λx=>!f x,λx hx=>⟨p,f,⟨HEq.rfl,HEq.rfl⟩,hx,(Bool.not_not (f x)).symm⟩,h,by simp[List.not_all_eq_any_not]⟩
abbrev x22:qb9:=qg2 true none [tInt] [.bool] (λ_=>True) (λx=>(inB x.1 (-1) 1,()))
theorem w4a:Meets Tryz.prog 182 x22:=by
 refine meets (snd (SpecsOk.cons qz6 (SpecsOk.nil _))) Tryz.func182 rfl rfl (λ_ _=>none) (λ_=>by kernel_rfl) (by decide) ?_
 rintro⟨n,⟨⟩⟩ -
 revert n
 intro(n:Int)
 refine @qe1 _ (True/\inB n (-1:Int) (1:Int)=inB n (-1:Int) (1:Int)) (by kernel_rfl) ?_
 try simp only[z0,z1,z2,z3,z4,z5,z6,z7,z8,z9,z10,Int.reduceEq,z11,z12,z13,z14,z15,z16,z17,z18,z19,z20,z21,z22,z23,z24,z25,z26,z27,z28,z29,z30,Int.reduceLE,Int.reduceLT,z31,z32,z33,z34,qa3]
 try simp only[qb5,qb6,qd0,z31,z32,z2,z1]
def rowB (l:List Int):Bool:=inB l.length 1 10 && l.all λn=>inB n (-1) 1
abbrev yc9:qb9:=qg2 true none [tInts] [.bool] (λ_=>True) (λx=>(rowB x.1,()))
theorem w78:Meets Tryz.prog 124 yc9:=by
 refine meets (snd (SpecsOk.cons qz6 (SpecsOk.cons (w38 (fs:=[(182,x22)]) (SpecsOk.cons w4a (SpecsOk.nil _))) (SpecsOk.nil _)))) Tryz.func124 rfl rfl (λ_ _=>none) (λ_=>by kernel_rfl) (by decide) ?_
 rintro⟨l,⟨⟩⟩ -
 revert l
 intro(l:List Int)
 refine @qe1 _ (True/\(inB (↑l.length:Int) (1:Int) (10:Int)=true->∃(v1:qa5 [tInt]->Prop),∃(v2:qa5 [tInt]->Bool),(∀(v3:Int × qa5._f [] PUnit.unit),v1 v3->True/\inB v3.1 (-1:Int) (1:Int)=v2 v3)/\(l.length<=(1000000:Nat)/\∀(v3:Nat),v3<l.length->v1 (nI l v3,()))/\(List.all l λ(v3:Int)=>v2 (v3,()))=rowB l)/\(inB (↑l.length:Int) (1:Int) (10:Int)=false->false=rowB l)) (by kernel_rfl) ?_
 try simp only[z0,z1,z2,z3,z4,z5,z6,z7,z8,z9,z10,Int.reduceEq,z11,z12,z13,z14,z15,z16,z17,z18,z19,z20,z21,z22,z23,z24,z25,z26,z27,z28,z29,z30,Int.reduceLE,Int.reduceLT,z31,z32,z33,z34,qa3]
 try simp only[qb5,qb6,qd0,z31,z32,z2,z1]
 refine⟨λh=>⟨λ_=>True,λx=>inB x.1 (-1) 1,λ_ _=>rfl,⟨by rw[inB_iff] at h; omega,λ_ _=>trivial⟩,by simp[rowB,h]⟩,λh=>by simp[rowB,h]⟩
abbrev ya5:qb9:=hspec [] true none [.d tInts,.cap tMask] [.bool] (λx=>0<x.2.1.length) (λx=>(decide (x.1.length=(nL x.2.1 0).length) && rowB x.1,()))
theorem w79:Meets Tryz.prog 123 ya5:=by
 refine qr1 (SpecsOk.nil _) (snd (SpecsOk.cons w78 (SpecsOk.nil _))) Tryz.func123 rfl rfl (λ_ _=>none) (λ_=>by kernel_rfl) (by decide) ?_
 rintro⟨l,m,⟨⟩⟩ h
 revert l m
 intro(l:List Int) (m:List (List Int)) (h:0<m.length)
 refine @qe1 _ (((0:Int)<=(0:Int)/\(0:Int)<(↑m.length:Int))/\(((↑l.length:Int)==(↑(nL m (0:Nat)).length:Int))=true->True/\rowB l=(decide (l.length=(nL m (0:Nat)).length) && rowB l))/\(((↑l.length:Int)==(↑(nL m (0:Nat)).length:Int))=false->false=(decide (l.length=(nL m (0:Nat)).length) && rowB l))) (by kernel_rfl) ?_
 try simp only[z0,z1,z2,z3,z4,z5,z6,z7,z8,z9,z10,Int.reduceEq,z11,z12,z13,z14,z15,z16,z17,z18,z19,z20,z21,z22,z23,z24,z25,z26,z27,z28,z29,z30,Int.reduceLE,Int.reduceLT,z31,z32,z33,z34,qa3]
 try simp only[qb5,qb6,qd0,z31,z32,z2,z1]
 refine⟨by omega,λh1=>?_,λh1=>?_⟩
 ·rw[decide_eq_true (Int.ofNat.inj h1)]; simp
 ·rw[decide_eq_false λe=>h1 (congrArg _ e)]; simp
def validB (m:List (List Int)):Bool:=inB m.length 1 6 && m.all λl=>decide (l.length=(nL m 0).length) && rowB l
abbrev sMV:qb9:=qg2 true none [tMask] [.bool] (λ_=>True) (λx=>(validB x.1,()))
theorem q54:Meets Tryz.prog 65 sMV:=by
 refine meets (snd (SpecsOk.cons qz6 (SpecsOk.cons (w39 (fs:=[(123,ya5)]) (SpecsOk.cons w79 (SpecsOk.nil _))) (SpecsOk.nil _)))) Tryz.func65 rfl rfl (λ_ _=>none) (λ_=>by kernel_rfl) (by decide) ?_
 rintro⟨m,⟨⟩⟩ -
 revert m
 intro(m:List (List Int))
 refine @qe1 _ (True/\(inB (↑m.length:Int) (1:Int) (6:Int)=true->∃(v1:qa5 [tInts]->Prop),∃(v2:qa5 [tInts]->Bool),(∀(v3:List Int × qa5._f [] PUnit.unit),v1 v3->(0:Nat)<m.length/\(decide (v3.1.length=(nL m (0:Nat)).length) && rowB v3.1)=v2 v3)/\(m.length<=(1000000:Nat)/\∀(v3:Nat),v3<m.length->v1 (nL m v3,()))/\(List.all m λ(v3:List Int)=>v2 (v3,()))=validB m)/\(inB (↑m.length:Int) (1:Int) (6:Int)=false->false=validB m)) (by kernel_rfl) ?_
 try simp only[z0,z1,z2,z3,z4,z5,z6,z7,z8,z9,z10,Int.reduceEq,z11,z12,z13,z14,z15,z16,z17,z18,z19,z20,z21,z22,z23,z24,z25,z26,z27,z28,z29,z30,Int.reduceLE,Int.reduceLT,z31,z32,z33,z34,qa3]
 try simp only[qb5,qb6,qd0,z31,z32,z2,z1]
 refine⟨λh=>?_,λh=>by simp[validB,h]⟩
 have hm:=inB_iff.1 h
 exact⟨λ_=>True,λx=>decide (x.1.length=(nL m 0).length) && rowB x.1,λx _=>⟨by omega,rfl⟩,⟨by omega,λ_ _=>trivial⟩,by simp[validB,h]⟩
abbrev x23:qb9:=hspec [] true none [.d tInt,.cap tInt] [.bool] (λx=>0<=x.2.1/\x.2.1<=BIG) (λx=>(!(inB x.1 (0-x.2.1) x.2.1),()))
theorem w4b:Meets Tryz.prog 190 x23:=by
 refine qr1 (SpecsOk.nil _) (snd (SpecsOk.cons q3r (SpecsOk.nil _))) Tryz.func190 rfl rfl (λ_ _=>none) (λ_=>by kernel_rfl) (by decide) ?_
 rintro⟨n,k,⟨⟩⟩ h
 revert n k
 intro(n:Int) (k:Int) (h:0<=k/\k<=BIG)
 refine @qe1 _ (fits .i64 ((0:Int)-k)/\True/\(!inB n ((0:Int)-k) k)=!inB n ((0:Int)-k) k) (by kernel_rfl) ?_
 try simp only[z0,z1,z2,z3,z4,z5,z6,z7,z8,z9,z10,Int.reduceEq,z11,z12,z13,z14,z15,z16,z17,z18,z19,z20,z21,z22,z23,z24,z25,z26,z27,z28,z29,z30,Int.reduceLE,Int.reduceLT,z31,z32,z33,z34,qa3]
 try simp only[qb5,qb6,qd0,z31,z32,z2,z1]
 unfold BIG at h
 exact qa9 (by omega) (by omega)
abbrev yd0:qb9:=w7i false none [tInt] (λ_=>True) (λx=>.clo 190 (.cons (.imm (.cons (.lit (.int .i64 x.1)) .nil) 0) .nil))
theorem w8a:Meets Tryz.prog 133 yd0:=by
 refine wn3 (snd (SpecsOk.nil _)) Tryz.func133 rfl rfl (λ_ _=>none) (λ_=>by kernel_rfl) (by decide) ?_
 rintro⟨m,⟨⟩⟩ -
 revert m
 intro(m:Int)
 refine @qe1 _ (((m=m/\True)/\(0:Nat)=(0:Nat))/\True) (by kernel_rfl) ?_
 try simp only[z0,z1,z2,z3,z4,z5,z6,z7,z8,z9,z10,Int.reduceEq,z11,z12,z13,z14,z15,z16,z17,z18,z19,z20,z21,z22,z23,z24,z25,z26,z27,z28,z29,z30,Int.reduceLE,Int.reduceLT,z31,z32,z33,z34,qa3]
 try simp only[qb5,qb6,qd0,z31,z32,z2,z1]
abbrev x26:qb9:=hspec [] true none [.d tInt,.cap tInt] [.bool] (λx=>0<=x.2.1/\x.2.1<=BIG) (λx=>(!(inB x.1 0 (x.2.1-1)),()))
theorem w4c:Meets Tryz.prog 229 x26:=by
 refine qr1 (SpecsOk.nil _) (snd (SpecsOk.cons q3r (SpecsOk.nil _))) Tryz.func229 rfl rfl (λ_ _=>none) (λ_=>by kernel_rfl) (by decide) ?_
 rintro⟨n,k,⟨⟩⟩ h
 revert n k
 intro(n:Int) (k:Int) (h:0<=k/\k<=BIG)
 refine @qe1 _ (fits .i64 (k-(1:Int))/\True/\(!inB n (0:Int) (k-(1:Int)))=!inB n (0:Int) (k-(1:Int))) (by kernel_rfl) ?_
 try simp only[z0,z1,z2,z3,z4,z5,z6,z7,z8,z9,z10,Int.reduceEq,z11,z12,z13,z14,z15,z16,z17,z18,z19,z20,z21,z22,z23,z24,z25,z26,z27,z28,z29,z30,Int.reduceLE,Int.reduceLT,z31,z32,z33,z34,qa3]
 try simp only[qb5,qb6,qd0,z31,z32,z2,z1]
 unfold BIG at h
 exact qa9 (by omega) (by omega)
def xj9 (l:List Int):Bool:=(List.range l.length).all λi=>decide (i=0) || decide (nI l (i-1)<nI l i)
def w15 (n:Int) (l:List Int):Int:=if xj9 l=false then 7 else if l.any (λp=>!(inB p 0 (n-1))) then 5 else 0
theorem q3s {l:List Int}:xj9 l=true↔∀i,0<i->i<l.length->nI l (i-1)<nI l i:=by
 unfold xj9
 rw[List.all_eq_true]
 constructor
 ·intro h i h0 hi
  have:=h i (List.mem_range.2 hi)
  simp only[Bool.or_eq_true,decide_eq_true_eq] at this
  exact this.resolve_left (by omega)
 ·intro h i hi
  simp only[Bool.or_eq_true,decide_eq_true_eq]
  by_cases e:i=0
  ·exact .inl e
  ·exact .inr (h i (by omega) (List.mem_range.1 hi))
structure AscTo (l:List Int) (k:Nat):Prop where
 le:k<=l.length
 lt:∀i,0<i->i<k->nI l (i-1)<nI l i
theorem AscTo.step {l:List Int} {k:Nat} (h:AscTo l k) (hk:k<l.length) (h1:k=0\/nI l (k-1)<nI l k):AscTo l (k+1):=
 ⟨hk,λi h0 hi=>by
  by_cases e:i=k
  ·subst e; exact h1.resolve_left (by omega)
  ·exact h.lt i h0 (by omega)⟩
theorem AscTo.all {l:List Int} (h:AscTo l l.length):xj9 l=true:=q3s.2 h.lt
theorem xk0 {l:List Int} {k:Nat} (h0:0<k) (hk:k<l.length) (h:nI l k<=nI l (k-1)):xj9 l=false:=by
 cases e:xj9 l with
 | false=>rfl
 | true=>have:=q3s.1 e k h0 hk; omega
def x6y (n:Int) (l:List Int):Nat->Option Inv
 | 0=>some (Inv.of [9] 1 (λk:Nat=>[(9,.lit (.int .i64 k))]) (λ_=>[.box 3 (.cons (.lit (.int .i64 n)) .nil)]) (λk=>AscTo l k) (λk=>l.length-k))
 | _=>none
abbrev yd1:qb9:=qg2 true none [tInt,tInts] [tInt] (λx=>(0<=x.1/\x.1<=BIG)/\x.2.1.length<=1000000) (λx=>(w15 x.1 x.2.1,()))
theorem w8b:Meets Tryz.prog 192 yd1:=by
 refine meets (snd (SpecsOk.cons (q3q (fs:=[(229,x26)]) (SpecsOk.cons w4c (SpecsOk.nil _))) (SpecsOk.nil _))) Tryz.func192 rfl rfl (λx=>x6y x.1 x.2.1) (λ_=>by kernel_rfl) (by decide) ?_
 rintro⟨n,l,⟨⟩⟩ h
 revert n l
 intro(n:Int) (l:List Int) (h:(0<=n/\n<=BIG)/\l.length<=1000000)
 refine @qe1 _ (∃(v0:Unit),∃(v1:Nat),AscTo l v1/\(((0:Int)=(↑v1:Int)/\True)/\(n=n/\True)/\True)/\∀(v2:Nat),AscTo l v2->(decide ((↑v2:Int)<(↑l.length:Int))=true->((0:Int)<=(↑v2:Int)/\(↑v2:Int)<(↑l.length:Int))/\(decide ((0:Int)<(↑v2:Int))=true->fits .i64 ((↑v2:Int)-(1:Int))/\((0:Int)<=(↑v2:Int)-(1:Int)/\(↑v2:Int)-(1:Int)<(↑l.length:Int))/\(decide (nI l v2<=nI l ((↑v2:Int)-(1:Int)).toNat)=true->(7:Int)=w15 n l)/\(decide (nI l v2<=nI l ((↑v2:Int)-(1:Int)).toNat)=false->fits .i64 ((↑v2:Int)+(1:Int))/\∃(v7:Nat),AscTo l v7/\l.length-v7<l.length-v2/\((↑v2:Int)+(1:Int)=(↑v7:Int)/\True)/\(n=n/\True)/\True))/\(decide ((0:Int)<(↑v2:Int))=false->fits .i64 ((↑v2:Int)+(1:Int))/\∃(v6:Nat),AscTo l v6/\l.length-v6<l.length-v2/\((↑v2:Int)+(1:Int)=(↑v6:Int)/\True)/\(n=n/\True)/\True))/\(decide ((↑v2:Int)<(↑l.length:Int))=false->∃(v5:qa5 [Ty.int .i64]->Prop),∃(v6:qa5 [Ty.int .i64]->Bool),(∀(v7:Int × qa5._f [] PUnit.unit),v5 v7->((0:PTy.den (PTy.cap tInt))<=n/\n<=BIG)/\(!inB v7.1 (0:Int) (n-(1:Int)))=v6 v7)/\(l.length<=(1000000:Nat)/\∀(v7:Nat),v7<l.length->v5 (nI l v7,()))/\((List.any l λ(v8:Int)=>v6 (v8,()))=true->(5:Int)=w15 n l)/\((List.any l λ(v8:Int)=>v6 (v8,()))=false->(0:Int)=w15 n l))) (by kernel_rfl) ?_
 try simp only[z0,z1,z2,z3,z4,z5,z6,z7,z8,z9,z10,Int.reduceEq,z11,z12,z13,z14,z15,z16,z17,z18,z19,z20,z21,z22,z23,z24,z25,z26,z27,z28,z29,z30,Int.reduceLE,Int.reduceLT,z31,z32,z33,z34,qa3]
 try simp only[qb5,qb6,qd0,z31,z32,z2,z1]
 obtain⟨hn,hl⟩:=h
 refine⟨(),0,⟨Nat.zero_le _,λi h0 hi=>by omega⟩,rfl,λk hk=>⟨λhlt=>⟨hlt,λh0=>?_,λh0=>⟨qa9 (by omega) (by omega),k+1,hk.step hlt (.inl (by omega)),by omega,by omega⟩⟩,λhge=>?_⟩⟩
 ·have e:((k:Int)-1).toNat=k-1:=by omega
  rw[e]
  refine⟨qa9 (by omega) (by omega),by omega,λh1=>?_,λh1=>⟨qa9 (by omega) (by omega),k+1,hk.step hlt (.inr h1),by omega,by omega⟩⟩
  unfold w15
  rw[if_pos (xk0 (by omega) hlt h1)]
 ·obtain rfl:k=l.length:=by have:=hk.le; omega
  refine⟨λ_=>True,λx=>!(inB x.1 0 (n-1)),λx _=>⟨hn,by simp⟩,⟨hl,λ_ _=>trivial⟩,λh1=>?_,λh1=>?_⟩
  ·unfold w15
   rw[if_neg (by simp[hk.all]),if_pos h1]
  ·unfold w15
   rw[if_neg (by simp[hk.all]),if_neg (by rw[h1]; decide)]
end Go.Proofs.YtmijnbjlhnpokaaGreat
