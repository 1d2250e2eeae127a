/- Six rows of -1, 0 and 1 have a determinant of at most 160. Plain mathematics. No condition. -/
import Derived.Test.YtmijnbjlhnpokaaGreatW10
set_option linter.unusedVariables false
namespace Go.Proofs.YtmijnbjlhnpokaaGreat
def prF:Nat->(Nat->Int)->Int
 | 0,_=>1
 | n+1,d=>d 0*prF n λj=>d (j+1)
def prL:Nat->(Nat->Int)->Int
 | 0,_=>1
 | n+1,d=>prL n d*d n
theorem w91:∀(n:Nat) (d:Nat->Int) (c:Nat),(∀j,j<n->(d j).natAbs=c)->(prF n d).natAbs=c ^ n
 | 0,_,c,_=>by rw[Nat.pow_zero]; rfl
 | n+1,d,c,h=>by
  rw[prF,Int.natAbs_mul,h 0 (by omega),w91 n _ c λj hj=>h (j+1) (by omega),Nat.pow_succ,Nat.mul_comm]
theorem w92:∀(n:Nat) (d:Nat->Int),(∀j,j<n->(d j).natAbs=1)->(prL n d).natAbs=1
 | 0,_,_=>rfl
 | n+1,d,h=>by
  rw[prL,Int.natAbs_mul,h n (by omega),w92 n d λj hj=>h j (by omega)]
theorem w2h:∀(n:Nat) (d:Nat->Int) (A:Nat->Nat->Int),det n (λi j=>d j*A i j)=prF n d*det n A
 | 0,_,_=>rfl
 | n+1,d,A=>by
  rw[det,det,prF,<- qu0]
  refine qg7 λi hi=>?_
  try dsimp only
  rw[w2h n (λj=>d (j+1)) (λa b=>A (skp i a) (b+1))]
  grind
theorem w2i {n:Nat} (e:Nat->Int) (A:Nat->Nat->Int):∀k,k<=n->det n (λi j=>(if i<k then e i else 1)*A i j)=prL k e*det n A
 | 0,_=>by
  rw[prL,Int.one_mul]
  exact qh8 n λi j _ _=>by rw[if_neg (Nat.not_lt_zero _),Int.one_mul]
 | k+1,hk=>by
  obtain⟨F,hF⟩:∃F:Nat->Nat->Int,F=λi j=>(if i<k then e i else 1)*A i j:=⟨_,rfl⟩
  have ih:=w2i (n:=n) e A k (by omega)
  rw[<- hF] at ih
  have h1:=qr4 n F k (by omega) (e k) 0 (F k) (λ_=>0)
  have h2:(0:Int)*det n (upd F k λ_=>0)=0:=Int.zero_mul _
  rw[qv1,ih] at h1
  have h1:=h1.trans (show e k*(prL k e*det n A)+0*det n (upd F k λ_=>0)=e k*(prL k e*det n A) by omega)
  rw[prL,show prL k e*e k*det n A=e k*(prL k e*det n A) by grind,<- h1]
  refine qh8 n λi j hi hj=>?_
  unfold upd
  by_cases q:i=k
  ·rw[if_pos q,q,hF]
   try dsimp only
   rw[if_pos (Nat.lt_succ_self _),if_neg (Nat.lt_irrefl _)]
   grind
  ·rw[if_neg q,hF]
   try dsimp only
   by_cases q2:i<k
   ·rw[if_pos q2,if_pos (by omega)]
   ·rw[if_neg q2,if_neg (by omega)]
theorem xn1 {n:Nat} {A:Nat->Nat->Int} (h:∀i j,i<n+1->j<n+1->One (A i j)):∃B:Nat->Nat->Int,(∀i j,i<n->j<n->Bit (B i j))/\(det (n+1) A).natAbs=2 ^ n*(det n B).natAbs:=by
 obtain⟨B,hB⟩:∃B:Nat->Nat->Int,∀i j,B i j=if A (i+1) 0*A (i+1) (j+1)=A 0 0*A 0 (j+1) then 0 else 1:=⟨_,λ_ _=>rfl⟩
 have hbit:∀i j,i<n->j<n->Bit (B i j):=λi j _ _=>by
  rw[hB]; unfold Bit; split
  ·exact .inl rfl
  ·exact .inr rfl
 refine⟨B,hbit,?_⟩
 rw[<- wg1 A (λi=>A i 0*A 0 0) (by omega) (n+1) (Nat.le_refl _),det,qu1 (k:=0) (by omega) λi hi hne=>?_]
 ·try dsimp only
  have e:det n (λa b=>if 0<skp 0 a/\skp 0 a<n+1 then A (skp 0 a) (b+1)-A (skp 0 a) 0*A 0 0*A 0 (b+1) else A (skp 0 a) (b+1))=det n (λi j=>(if i<n then(λi=>A (i+1) 0) i else 1)*(λi j=>(λj=>-2*(A 0 0*A 0 (j+1))) j*B i j) i j):=qh8 n λa b ha hb=>by
   have es:skp 0 a=a+1:=by unfold skp; rw[if_neg (Nat.not_lt_zero _)]
   rw[es,if_pos (by omega),if_pos ha]
   try dsimp only
   rw[hB]
   have o1:=h (a+1) 0 (by omega) (by omega)
   have o2:=h (a+1) (b+1) (by omega) (by omega)
   have o3:=h 0 0 (by omega) (by omega)
   have o4:=h 0 (b+1) (by omega) (by omega)
   unfold One at o1 o2 o3 o4
   rcases o1 with q1 | q1 <;> rcases o2 with q2 | q2 <;> rcases o3 with q3 | q3 <;> rcases o4 with q4 | q4 <;> rw[q1,q2,q3,q4] <;> decide
  rw[e,w2i _ _ n (Nat.le_refl _),w2h,if_neg (by omega)]
  have p1:=w92 n (λi=>A (i+1) 0) λj hj=>q7x (h (j+1) 0 (by omega) (by omega))
  have p2:=w91 n (λj=>-2*(A 0 0*A 0 (j+1))) 2 λj hj=>by
   have a:=q7x (h 0 0 (by omega) (by omega))
   have b:=q7x (h 0 (j+1) (by omega) (by omega))
   try dsimp only
   rw[Int.natAbs_mul,Int.natAbs_mul,a,b]; rfl
  have o:=q7x (h 0 0 (by omega) (by omega))
  rw[Int.natAbs_mul,Int.natAbs_mul,Int.natAbs_mul,Int.natAbs_mul,wf9,o,p1,p2,Nat.one_mul,Nat.one_mul]
 ·try dsimp only
  rw[if_pos (by omega),Int.mul_assoc (A i 0),xs8 (h 0 0 (by omega) (by omega))]
  simp
def d4 (p q r s:Nat):Int:=((p % 2:Nat):Int)*d3 (q / 2) (r / 2) (s / 2)-((q % 2:Nat):Int)*d3 (p / 2) (r / 2) (s / 2)+((r % 2:Nat):Int)*d3 (p / 2) (q / 2) (s / 2)-((s % 2:Nat):Int)*d3 (p / 2) (q / 2) (r / 2)
def ya7 (p q r s t:Nat):Bool:=
 decide (q7w (d4 q r s t)+q7w (- d4 p r s t)+q7w (d4 p q s t)+q7w (- d4 p q r t)+q7w (d4 p q r s)<=5) && decide (q7w (- d4 q r s t)+q7w (d4 p r s t)+q7w (- d4 p q s t)+q7w (d4 p q r t)+q7w (- d4 p q r s)<=5)
theorem xn2:((List.range 16).all λp=>(List.range 16).all λq=>Nat.blt q p || (List.range 16).all λr=>Nat.blt r q || (List.range 16).all λs=>Nat.blt s r || (List.range 16).all λt=>Nat.blt t s || ya7 p q r s t)=true:=by decide +kernel
theorem x0x {p q r s t:Nat} (h1:p<=q) (h2:q<=r) (h3:r<=s) (h4:s<=t) (h5:t<16):ya7 p q r s t=true:=by
 have no:∀{a b:Nat},a<=b->Nat.blt b a=false:=λ{a b} h=>by
  cases e:Nat.blt b a with
  | false=>rfl
  | true=>have:=Nat.le_of_ble_eq_true e; omega
 have a1:=List.all_eq_true.1 (List.all_eq_true.1 xn2 p (List.mem_range.2 (by omega))) q (List.mem_range.2 (by omega))
 rw[no h1,Bool.false_or] at a1
 have a2:=List.all_eq_true.1 a1 r (List.mem_range.2 (by omega))
 rw[no h2,Bool.false_or] at a2
 have a3:=List.all_eq_true.1 a2 s (List.mem_range.2 (by omega))
 rw[no h3,Bool.false_or] at a3
 have a4:=List.all_eq_true.1 a3 t (List.mem_range.2 (by omega))
 rwa [no h4,Bool.false_or] at a4
def code4 (x y z w:Int):Nat:=(x+2*y+4*z+8*w).toNat
theorem w2j {x y z w:Int} (hx:Bit x) (hy:Bit y) (hz:Bit z) (hw:Bit w):code4 x y z w<16/\code4 x y z w / 2=qo0 y z w/\((code4 x y z w % 2:Nat):Int)=x:=by
 unfold code4 qo0 Bit at *; omega
theorem x0y {A:Nat->Nat->Int} (h:∀i j,i<4->j<4->Bit (A i j)):d4 (code4 (A 0 0) (A 0 1) (A 0 2) (A 0 3)) (code4 (A 1 0) (A 1 1) (A 1 2) (A 1 3)) (code4 (A 2 0) (A 2 1) (A 2 2) (A 2 3)) (code4 (A 3 0) (A 3 1) (A 3 2) (A 3 3))=det 4 A:=by
 have hc:=λi (hi:i<4)=>w2j (h i 0 hi (by omega)) (h i 1 hi (by omega)) (h i 2 hi (by omega)) (h i 3 hi (by omega))
 obtain⟨_,a1,a2⟩:=hc 0 (by omega)
 obtain⟨_,b1,b2⟩:=hc 1 (by omega)
 obtain⟨_,c1,c2⟩:=hc 2 (by omega)
 obtain⟨_,e1,e2⟩:=hc 3 (by omega)
 unfold d4
 rw[a1,a2,b1,b2,c1,c2,e1,e2,x5z]
 have m:∀i,i<4->det 3 (λa b=>A (skp i a) (b+1))=d3 (qo0 (A (skp i 0) 1) (A (skp i 0) 2) (A (skp i 0) 3)) (qo0 (A (skp i 1) 1) (A (skp i 1) 2) (A (skp i 1) 3)) (qo0 (A (skp i 2) 1) (A (skp i 2) 2) (A (skp i 2) 3)):=λi hi=>
  (w90 (A:=λa b=>A (skp i a) (b+1)) λa b ha hb=>h _ _ (q7t ha) (by omega)).symm
 rw[m 0 (by omega),m 1 (by omega),m 2 (by omega),m 3 (by omega)]
 rfl
theorem yp1 (A:Nat->Nat->Int):det 5 A=A 0 0*det 4 (λa b=>A (skp 0 a) (b+1))-A 1 0*det 4 (λa b=>A (skp 1 a) (b+1))+A 2 0*det 4 (λa b=>A (skp 2 a) (b+1))-A 3 0*det 4 (λa b=>A (skp 3 a) (b+1))+A 4 0*det 4 (λa b=>A (skp 4 a) (b+1)):=by
 rw[det]
 simp only[sm,show sgn 0=1 from rfl,show sgn 1=-1 from rfl,show sgn 2=1 from rfl,show sgn 3=-1 from rfl,show sgn 4=1 from rfl]
 grind
def cdR (A:Nat->Nat->Int) (i:Nat):Nat:=code4 (A i 1) (A i 2) (A i 3) (A i 4)
theorem q7y {x m:Int} (h:Bit x):x*m<=q7w m/\- (x*m)<=q7w (- m):=by
 have h1:=qv7 (x:=m)
 have h2:=qv7 (x:=-m)
 rcases h with rfl | rfl
 ·rw[Int.zero_mul]; omega
 ·rw[Int.one_mul]; omega
theorem wy8 {A:Nat->Nat->Int} (h:∀i j,i<5->j<5->Bit (A i j)) (hs:∀i,i<4->cdR A i<=cdR A (i+1)):(det 5 A).natAbs<=5:=by
 have hk:=x0x (hs 0 (by omega)) (hs 1 (by omega)) (hs 2 (by omega)) (hs 3 (by omega)) (w2j (h 4 1 (by omega) (by omega)) (h 4 2 (by omega) (by omega)) (h 4 3 (by omega) (by omega)) (h 4 4 (by omega) (by omega))).1
 unfold ya7 at hk
 rw[Bool.and_eq_true,decide_eq_true_eq,decide_eq_true_eq] at hk
 have m:∀i,i<5->det 4 (λa b=>A (skp i a) (b+1))=d4 (cdR A (skp i 0)) (cdR A (skp i 1)) (cdR A (skp i 2)) (cdR A (skp i 3)):=λi hi=>
  (x0y (A:=λa b=>A (skp i a) (b+1)) λa b ha hb=>h _ _ (q7t ha) (by omega)).symm
 rw[yp1,m 0 (by omega),m 1 (by omega),m 2 (by omega),m 3 (by omega),m 4 (by omega)]
 change _/\_ at hk
 have e0:d4 (cdR A (skp 0 0)) (cdR A (skp 0 1)) (cdR A (skp 0 2)) (cdR A (skp 0 3))=d4 (cdR A 1) (cdR A 2) (cdR A 3) (cdR A 4):=rfl
 have e1:d4 (cdR A (skp 1 0)) (cdR A (skp 1 1)) (cdR A (skp 1 2)) (cdR A (skp 1 3))=d4 (cdR A 0) (cdR A 2) (cdR A 3) (cdR A 4):=rfl
 have e2:d4 (cdR A (skp 2 0)) (cdR A (skp 2 1)) (cdR A (skp 2 2)) (cdR A (skp 2 3))=d4 (cdR A 0) (cdR A 1) (cdR A 3) (cdR A 4):=rfl
 have e3:d4 (cdR A (skp 3 0)) (cdR A (skp 3 1)) (cdR A (skp 3 2)) (cdR A (skp 3 3))=d4 (cdR A 0) (cdR A 1) (cdR A 2) (cdR A 4):=rfl
 have e4:d4 (cdR A (skp 4 0)) (cdR A (skp 4 1)) (cdR A (skp 4 2)) (cdR A (skp 4 3))=d4 (cdR A 0) (cdR A 1) (cdR A 2) (cdR A 3):=rfl
 rw[e0,e1,e2,e3,e4]
 generalize d4 (cdR A 1) (cdR A 2) (cdR A 3) (cdR A 4)=m0 at hk ⊢
 generalize d4 (cdR A 0) (cdR A 2) (cdR A 3) (cdR A 4)=m1 at hk ⊢
 generalize d4 (cdR A 0) (cdR A 1) (cdR A 3) (cdR A 4)=m2 at hk ⊢
 generalize d4 (cdR A 0) (cdR A 1) (cdR A 2) (cdR A 4)=m3 at hk ⊢
 generalize d4 (cdR A 0) (cdR A 1) (cdR A 2) (cdR A 3)=m4 at hk ⊢
 have b0:=q7y (m:=m0) (h 0 0 (by omega) (by omega))
 have b1:=q7y (m:=m1) (h 1 0 (by omega) (by omega))
 have b2:=q7y (m:=m2) (h 2 0 (by omega) (by omega))
 have b3:=q7y (m:=m3) (h 3 0 (by omega) (by omega))
 have b4:=q7y (m:=m4) (h 4 0 (by omega) (by omega))
 generalize A 0 0*m0=x0 at *
 generalize A 1 0*m1=x1 at *
 generalize A 2 0*m2=x2 at *
 generalize A 3 0*m3=x3 at *
 generalize A 4 0*m4=x4 at *
 omega
theorem xs9 (g:Nat->Nat) (n:Nat):∀d s,s+d+1=n->∃t,s<=t/\t<n/\∀j,s<=j->j<n->g t<=g j
 | 0,s,h=>⟨s,Nat.le_refl _,by omega,λj h1 h2=>by rw[show j=s by omega]; exact Nat.le_refl _⟩
 | d+1,s,h=>by
  obtain⟨t,t1,t2,t3⟩:=xs9 g n d (s+1) (by omega)
  by_cases q:g s<=g t
  ·refine⟨s,Nat.le_refl _,by omega,λj h1 h2=>?_⟩
   rcases Nat.eq_or_lt_of_le h1 with e | e
   ·rw[<- e]; exact Nat.le_refl _
   ·exact Nat.le_trans q (t3 j e h2)
  ·refine⟨t,by omega,t2,λj h1 h2=>?_⟩
   rcases Nat.eq_or_lt_of_le h1 with e | e
   ·rw[<- e]; omega
   ·exact t3 j e h2
theorem xn3 {n:Nat} (A:Nat->Nat->Int) {s t:Nat} (hs:s<n) (ht:t<n) (hne:s≠t):(det n (upd (upd A s (A t)) t (A s))).natAbs=(det n A).natAbs:=by
 have h:=wf7 (n:=n) (A:=A) (r:=s) (s:=t) hs ht hne (λw=>q7v (r:=s) (s:=t) hs ht hne λj hj=>by
  unfold upd
  rw[if_neg hne,if_pos rfl,if_pos rfl]) (A s) (A t)
 have e:upd (upd A s (A s)) t (A t)=A:=by rw[qv1]; exact qv1 A t
 rw[e] at h
 rw[h,Int.natAbs_neg]
theorem q4s {n:Nat} (Q:(Nat->Int)->Prop) (cd:(Nat->Int)->Nat) {B:Nat} (hB:∀A:Nat->Nat->Int,(∀i,i<n->Q (A i))->(∀i j,i<j->j<n->cd (A i)<=cd (A j))->(det n A).natAbs<=B) :
  ∀d s,s+d=n->∀A:Nat->Nat->Int,(∀i,i<n->Q (A i))->(∀i j,i<s->i<j->j<n->cd (A i)<=cd (A j))->(det n A).natAbs<=B
 | 0,s,hs,A,h1,h2=>hB A h1 λi j hi hj=>h2 i j (by omega) hi hj
 | d+1,s,hs,A,h1,h2=>by
  obtain⟨t,t1,t2,t3⟩:=xs9 (λi=>cd (A i)) n d s (by omega)
  try dsimp only at t3
  by_cases e:s=t
  ·exact q4s Q cd hB d (s+1) (by omega) A h1 λi j hi hij hj=>by
    rcases Nat.lt_succ_iff_lt_or_eq.1 hi with q | q
    ·exact h2 i j q hij hj
    ·rw[q]
     have:=t3 j (by omega) hj
     rwa [<- e] at this
  ·rw[<- xn3 A (show s<n by omega) t2 e]
   have at_:∀i,upd (upd A s (A t)) t (A s) i=A (if i=t then s else if i=s then t else i):=λi=>by
    funext j
    unfold upd
    by_cases q:i=t
    ·rw[if_pos q,if_pos q]
    ·rw[if_neg q,if_neg q]
     by_cases q2:i=s
     ·rw[if_pos q2,if_pos q2]
     ·rw[if_neg q2,if_neg q2]
   refine q4s Q cd hB d (s+1) (by omega) _ (λi hi=>?_) λi j hi hij hj=>?_
   ·rw[at_]
    refine h1 _ ?_
    split
    ·omega
    ·split <;> omega
   ·rw[at_,at_]
    by_cases q:i=s
    ·rw[if_neg (by omega),if_pos q]
     refine t3 _ ?_ ?_
     ·split
      ·omega
      ·split <;> omega
     ·split
      ·omega
      ·split <;> omega
    ·rw[if_neg (by omega),if_neg q]
     refine h2 i _ (by omega) ?_ ?_
     ·split
      ·omega
      ·split <;> omega
     ·split
      ·omega
      ·split <;> omega
theorem xn4 {A:Nat->Nat->Int} (h:∀i j,i<5->j<5->Bit (A i j)):(det 5 A).natAbs<=5:=
 q4s (n:=5) (λr=>∀j,j<5->Bit (r j)) (λr=>code4 (r 1) (r 2) (r 3) (r 4)) (B:=5) (λA h1 h2=>wy8 (λi j hi hj=>h1 i hi j hj) λi hi=>h2 i (i+1) (by omega) (by omega)) 5 0 rfl A (λi hi j hj=>h i j hi hj) λi j hi=>absurd hi (Nat.not_lt_zero _)
theorem wr6 {n B:Nat} (hB:∀A:Nat->Nat->Int,(∀i j,i<n->j<n->One (A i j))->(det n A).natAbs<=B):∀k,k<=n->∀A:Nat->Nat->Int,(∀i j,i<n->j<n->(A i j).natAbs<=1)->(∀i j,i<n->k<=i->j<n->A i j≠0)->(det n A).natAbs<=B
 | 0,_,A,h1,h2=>hB A λi j hi hj=>by
  have:=h1 i j hi hj
  have:=h2 i j hi (Nat.zero_le _) hj
  unfold One; omega
 | k+1,hk,A,h1,h2=>by
  have key:∀t,t<=n->∀v:Nat->Int,(∀j,j<n->(v j).natAbs<=1)->(∀j,j<n->t<=j->v j≠0)->(det n (upd A k v)).natAbs<=B:=λt=>by
   induction t with
   | zero=>
    intro _ v hv1 hv2
    refine wr6 hB k (by omega) _ (λi j hi hj=>?_) λi j hi hki hj=>?_
    ·unfold upd; split
     ·exact hv1 j hj
     ·exact h1 i j hi hj
    ·unfold upd; split
     ·exact hv2 j hj (Nat.zero_le _)
     ·exact h2 i j hi (by omega) hj
   | succ t ih=>
    intro ht v hv1 hv2
    by_cases e:v t=0
    ·have a1:=ih (by omega) (λj=>if j=t then 1 else v j) (λj hj=>by
      (try dsimp only); split
      ·decide
      ·exact hv1 j hj) (λj hj htj=>by
      (try dsimp only); split
      ·decide
      ·exact hv2 j hj (by omega))
     have a2:=ih (by omega) (λj=>if j=t then -1 else v j) (λj hj=>by
      (try dsimp only); split
      ·decide
      ·exact hv1 j hj) (λj hj htj=>by
      (try dsimp only); split
      ·decide
      ·exact hv2 j hj (by omega))
     have e1:=qr4 n A k (by omega) 1 1 (λj=>if j=t then 1 else v j) (λj=>if j=t then -1 else v j)
     have e2:=qr4 n A k (by omega) 2 0 v v
     have e3:(λj=>(1:Int)*(if j=t then 1 else v j)+1*(if j=t then -1 else v j))=λj=>2*v j+0*v j:=by
      funext j
      by_cases q:j=t
      ·rw[if_pos q,if_pos q,q,e]; rfl
      ·rw[if_neg q,if_neg q]; omega
     rw[e3,e2] at e1
     omega
    ·exact ih (by omega) v hv1 λj hj htj=>by
      rcases Nat.lt_or_ge t j with q | q
      ·exact hv2 j hj q
      ·rw[show j=t by omega]; exact e
  have:=key n (Nat.le_refl _) (A k) (λj hj=>h1 k j (by omega) hj) λj hj h5=>by omega
  rwa [qv1] at this
theorem w93 {n:Nat} (hn:n<=6) {A:Nat->Nat->Int} (h:∀i j,i<n->j<n->(A i j).natAbs<=1):(det n A).natAbs<=160:=by
 rcases Nat.lt_or_ge n 5 with q | q
 ·have:=w9z n h
  have hf:∀k:Fin 5,ya6 k.val<=160:=by decide
  exact Nat.le_trans this (hf ⟨n,q⟩)
 ·rcases Nat.lt_or_ge n 6 with q2 | q2
  ·obtain rfl:n=5:=by omega
   exact Nat.le_trans (wr5 5 (Nat.le_refl _) A h λi j hi h5=>by omega) (by decide)
  ·obtain rfl:n=6:=by omega
   refine wr6 (n:=6) (B:=160) (λA hA=>?_) 6 (Nat.le_refl _) A h λi j hi h5=>by omega
   obtain⟨B,hB,e⟩:=xn1 (n:=5) hA
   have:=xn4 hB
   rw[e]
   omega
end Go.Proofs.YtmijnbjlhnpokaaGreat
