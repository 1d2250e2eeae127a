/- Kernel vectors: how great they are, and that there is one way to write them. Plain mathematics. No condition. -/
import Derived.Test.YtdibdlelmkcccaaW10
import Derived.Test.YtdibdlelmkcccaaW11
set_option linter.unusedVariables false
namespace Go.Proofs.Ytdibdlelmkcccaa
def prF:Nat->(Nat->Int)->Int
 | 0,_=>1
 | n+1,d=>d 0*prF n λj=>d (j+1)
def prL:Nat->(Nat->Int)->Int
 | 0,_=>1
 | n+1,d=>prL n d*d n
theorem w7l:∀(n:Nat) (d:Nat->Int) (c:Nat),(∀j,j<n->(d j).natAbs=c)->(prF n d).natAbs=c ^ n
 | 0,_,c,_=>by rw[Nat.pow_zero]; rfl
 | n+1,d,c,h=>by
  rw[prF,Int.natAbs_mul,h 0 (by omega),w7l n _ c λj hj=>h (j+1) (by omega),Nat.pow_succ,Nat.mul_comm]
theorem w7m:∀(n:Nat) (d:Nat->Int),(∀j,j<n->(d j).natAbs=1)->(prL n d).natAbs=1
 | 0,_,_=>rfl
 | n+1,d,h=>by
  rw[prL,Int.natAbs_mul,h n (by omega),w7m n d λj hj=>h j (by omega)]
theorem w0p:∀(n:Nat) (d:Nat->Int) (A:Nat->Nat->Int),det n (λi j=>d j*A i j)=prF n d*det n A
 | 0,_,_=>rfl
 | n+1,d,A=>by
  rw[det,det,prF,<- qt1]
  refine qh3 λi hi=>?_
  try dsimp only
  rw[w0p n (λj=>d (j+1)) (λa b=>A (skp i a) (b+1))]
  grind
theorem w0q {n:Nat} (e:Nat->Int) (A:Nat->Nat->Int):∀k,k<=n->det n (λi j=>(if i<k then e i else 1)*A i j)=prL k e*det n A
 | 0,_=>by
  rw[prL,Int.one_mul]
  exact qh7 n λi j _ _=>by rw[if_neg (Nat.not_lt_zero _),Int.one_mul]
 | k+1,hk=>by
  obtain⟨F,hF⟩:∃F:Nat->Nat->Int,F=λi j=>(if i<k then e i else 1)*A i j:=⟨_,rfl⟩
  have ih:=w0q (n:=n) e A k (by omega)
  rw[<- hF] at ih
  have h1:=qo8 n F k (by omega) (e k) 0 (F k) (λ_=>0)
  have h2:(0:Int)*det n (upd F k λ_=>0)=0:=Int.zero_mul _
  rw[qu3,ih] at h1
  have h1:=h1.trans (show e k*(prL k e*det n A)+0*det n (upd F k λ_=>0)=e k*(prL k e*det n A) by omega)
  rw[prL,show prL k e*e k*det n A=e k*(prL k e*det n A) by grind,<- h1]
  refine qh7 n λi j hi hj=>?_
  unfold upd
  by_cases q:i=k
  ·rw[if_pos q,q,hF]
   try dsimp only
   rw[if_pos (Nat.lt_succ_self _),if_neg (Nat.lt_irrefl _)]
   grind
  ·rw[if_neg q,hF]
   try dsimp only
   by_cases q2:i<k
   ·rw[if_pos q2,if_pos (by omega)]
   ·rw[if_neg q2,if_neg (by omega)]
theorem xb6 {n:Nat} {A:Nat->Nat->Int} (h:∀i j,i<n+1->j<n+1->One (A i j)):∃B:Nat->Nat->Int,(∀i j,i<n->j<n->Bit (B i j))/\(det (n+1) A).natAbs=2 ^ n*(det n B).natAbs:=by
 obtain⟨B,hB⟩:∃B:Nat->Nat->Int,∀i j,B i j=if A (i+1) 0*A (i+1) (j+1)=A 0 0*A 0 (j+1) then 0 else 1:=⟨_,λ_ _=>rfl⟩
 have hbit:∀i j,i<n->j<n->Bit (B i j):=λi j _ _=>by
  rw[hB]; unfold Bit; split
  ·exact .inl rfl
  ·exact .inr rfl
 refine⟨B,hbit,?_⟩
 rw[<- wa9 A (λi=>A i 0*A 0 0) (by omega) (n+1) (Nat.le_refl _),det,qv9 (k:=0) (by omega) λi hi hne=>?_]
 ·try dsimp only
  have e:det n (λa b=>if 0<skp 0 a/\skp 0 a<n+1 then A (skp 0 a) (b+1)-A (skp 0 a) 0*A 0 0*A 0 (b+1) else A (skp 0 a) (b+1))=det n (λi j=>(if i<n then(λi=>A (i+1) 0) i else 1)*(λi j=>(λj=>-2*(A 0 0*A 0 (j+1))) j*B i j) i j):=qh7 n λa b ha hb=>by
   have es:skp 0 a=a+1:=by unfold skp; rw[if_neg (Nat.not_lt_zero _)]
   rw[es,if_pos (by omega),if_pos ha]
   try dsimp only
   rw[hB]
   have o1:=h (a+1) 0 (by omega) (by omega)
   have o2:=h (a+1) (b+1) (by omega) (by omega)
   have o3:=h 0 0 (by omega) (by omega)
   have o4:=h 0 (b+1) (by omega) (by omega)
   unfold One at o1 o2 o3 o4
   rcases o1 with q1 | q1 <;> rcases o2 with q2 | q2 <;> rcases o3 with q3 | q3 <;> rcases o4 with q4 | q4 <;> rw[q1,q2,q3,q4] <;> decide
  rw[e,w0q _ _ n (Nat.le_refl _),w0p,if_neg (by omega)]
  have p1:=w7m n (λi=>A (i+1) 0) λj hj=>q60 (h (j+1) 0 (by omega) (by omega))
  have p2:=w7l n (λj=>-2*(A 0 0*A 0 (j+1))) 2 λj hj=>by
   have a:=q60 (h 0 0 (by omega) (by omega))
   have b:=q60 (h 0 (j+1) (by omega) (by omega))
   try dsimp only
   rw[Int.natAbs_mul,Int.natAbs_mul,a,b]; rfl
  have o:=q60 (h 0 0 (by omega) (by omega))
  rw[Int.natAbs_mul,Int.natAbs_mul,Int.natAbs_mul,Int.natAbs_mul,wa8,o,p1,p2,Nat.one_mul,Nat.one_mul]
 ·try dsimp only
  rw[if_pos (by omega),Int.mul_assoc (A i 0),xf8 (h 0 0 (by omega) (by omega))]
  simp
def d4 (p q r s:Nat):Int:=((p % 2:Nat):Int)*d3 (q / 2) (r / 2) (s / 2)-((q % 2:Nat):Int)*d3 (p / 2) (r / 2) (s / 2)+((r % 2:Nat):Int)*d3 (p / 2) (q / 2) (s / 2)-((s % 2:Nat):Int)*d3 (p / 2) (q / 2) (r / 2)
def x3i (p q r s t:Nat):Bool:=
 decide (q6y (d4 q r s t)+q6y (- d4 p r s t)+q6y (d4 p q s t)+q6y (- d4 p q r t)+q6y (d4 p q r s)<=5) && decide (q6y (- d4 q r s t)+q6y (d4 p r s t)+q6y (- d4 p q s t)+q6y (d4 p q r t)+q6y (- d4 p q r s)<=5)
theorem xb7:((List.range 16).all λp=>(List.range 16).all λq=>Nat.blt q p || (List.range 16).all λr=>Nat.blt r q || (List.range 16).all λs=>Nat.blt s r || (List.range 16).all λt=>Nat.blt t s || x3i p q r s t)=true:=by decide +kernel
theorem xo3 {p q r s t:Nat} (h1:p<=q) (h2:q<=r) (h3:r<=s) (h4:s<=t) (h5:t<16):x3i p q r s t=true:=by
 have no:∀{a b:Nat},a<=b->Nat.blt b a=false:=λ{a b} h=>by
  cases e:Nat.blt b a with
  | false=>rfl
  | true=>have:=Nat.le_of_ble_eq_true e; omega
 have a1:=List.all_eq_true.1 (List.all_eq_true.1 xb7 p (List.mem_range.2 (by omega))) q (List.mem_range.2 (by omega))
 rw[no h1,Bool.false_or] at a1
 have a2:=List.all_eq_true.1 a1 r (List.mem_range.2 (by omega))
 rw[no h2,Bool.false_or] at a2
 have a3:=List.all_eq_true.1 a2 s (List.mem_range.2 (by omega))
 rw[no h3,Bool.false_or] at a3
 have a4:=List.all_eq_true.1 a3 t (List.mem_range.2 (by omega))
 rwa [no h4,Bool.false_or] at a4
def code4 (x y z w:Int):Nat:=(x+2*y+4*z+8*w).toNat
theorem w0r {x y z w:Int} (hx:Bit x) (hy:Bit y) (hz:Bit z) (hw:Bit w):code4 x y z w<16/\code4 x y z w / 2=qm9 y z w/\((code4 x y z w % 2:Nat):Int)=x:=by
 unfold code4 qm9 Bit at *; omega
theorem xo4 {A:Nat->Nat->Int} (h:∀i j,i<4->j<4->Bit (A i j)):d4 (code4 (A 0 0) (A 0 1) (A 0 2) (A 0 3)) (code4 (A 1 0) (A 1 1) (A 1 2) (A 1 3)) (code4 (A 2 0) (A 2 1) (A 2 2) (A 2 3)) (code4 (A 3 0) (A 3 1) (A 3 2) (A 3 3))=det 4 A:=by
 have hc:=λi (hi:i<4)=>w0r (h i 0 hi (by omega)) (h i 1 hi (by omega)) (h i 2 hi (by omega)) (h i 3 hi (by omega))
 obtain⟨_,a1,a2⟩:=hc 0 (by omega)
 obtain⟨_,b1,b2⟩:=hc 1 (by omega)
 obtain⟨_,c1,c2⟩:=hc 2 (by omega)
 obtain⟨_,e1,e2⟩:=hc 3 (by omega)
 unfold d4
 rw[a1,a2,b1,b2,c1,c2,e1,e2,x0i]
 have m:∀i,i<4->det 3 (λa b=>A (skp i a) (b+1))=d3 (qm9 (A (skp i 0) 1) (A (skp i 0) 2) (A (skp i 0) 3)) (qm9 (A (skp i 1) 1) (A (skp i 1) 2) (A (skp i 1) 3)) (qm9 (A (skp i 2) 1) (A (skp i 2) 2) (A (skp i 2) 3)):=λi hi=>
  (w7j (A:=λa b=>A (skp i a) (b+1)) λa b ha hb=>h _ _ (q6v ha) (by omega)).symm
 rw[m 0 (by omega),m 1 (by omega),m 2 (by omega),m 3 (by omega)]
 rfl
theorem x7h (A:Nat->Nat->Int):det 5 A=A 0 0*det 4 (λa b=>A (skp 0 a) (b+1))-A 1 0*det 4 (λa b=>A (skp 1 a) (b+1))+A 2 0*det 4 (λa b=>A (skp 2 a) (b+1))-A 3 0*det 4 (λa b=>A (skp 3 a) (b+1))+A 4 0*det 4 (λa b=>A (skp 4 a) (b+1)):=by
 rw[det]
 simp only[sm,show sgn 0=1 from rfl,show sgn 1=-1 from rfl,show sgn 2=1 from rfl,show sgn 3=-1 from rfl,show sgn 4=1 from rfl]
 grind
def cdR (A:Nat->Nat->Int) (i:Nat):Nat:=code4 (A i 1) (A i 2) (A i 3) (A i 4)
theorem q62 {x m:Int} (h:Bit x):x*m<=q6y m/\- (x*m)<=q6y (- m):=by
 have h1:=qv0 (x:=m)
 have h2:=qv0 (x:=-m)
 rcases h with rfl | rfl
 ·rw[Int.zero_mul]; omega
 ·rw[Int.one_mul]; omega
theorem wq9 {A:Nat->Nat->Int} (h:∀i j,i<5->j<5->Bit (A i j)) (hs:∀i,i<4->cdR A i<=cdR A (i+1)):(det 5 A).natAbs<=5:=by
 have hk:=xo3 (hs 0 (by omega)) (hs 1 (by omega)) (hs 2 (by omega)) (hs 3 (by omega)) (w0r (h 4 1 (by omega) (by omega)) (h 4 2 (by omega) (by omega)) (h 4 3 (by omega) (by omega)) (h 4 4 (by omega) (by omega))).1
 unfold x3i at hk
 rw[Bool.and_eq_true,decide_eq_true_eq,decide_eq_true_eq] at hk
 have m:∀i,i<5->det 4 (λa b=>A (skp i a) (b+1))=d4 (cdR A (skp i 0)) (cdR A (skp i 1)) (cdR A (skp i 2)) (cdR A (skp i 3)):=λi hi=>
  (xo4 (A:=λa b=>A (skp i a) (b+1)) λa b ha hb=>h _ _ (q6v ha) (by omega)).symm
 rw[x7h,m 0 (by omega),m 1 (by omega),m 2 (by omega),m 3 (by omega),m 4 (by omega)]
 change _/\_ at hk
 have e0:d4 (cdR A (skp 0 0)) (cdR A (skp 0 1)) (cdR A (skp 0 2)) (cdR A (skp 0 3))=d4 (cdR A 1) (cdR A 2) (cdR A 3) (cdR A 4):=rfl
 have e1:d4 (cdR A (skp 1 0)) (cdR A (skp 1 1)) (cdR A (skp 1 2)) (cdR A (skp 1 3))=d4 (cdR A 0) (cdR A 2) (cdR A 3) (cdR A 4):=rfl
 have e2:d4 (cdR A (skp 2 0)) (cdR A (skp 2 1)) (cdR A (skp 2 2)) (cdR A (skp 2 3))=d4 (cdR A 0) (cdR A 1) (cdR A 3) (cdR A 4):=rfl
 have e3:d4 (cdR A (skp 3 0)) (cdR A (skp 3 1)) (cdR A (skp 3 2)) (cdR A (skp 3 3))=d4 (cdR A 0) (cdR A 1) (cdR A 2) (cdR A 4):=rfl
 have e4:d4 (cdR A (skp 4 0)) (cdR A (skp 4 1)) (cdR A (skp 4 2)) (cdR A (skp 4 3))=d4 (cdR A 0) (cdR A 1) (cdR A 2) (cdR A 3):=rfl
 rw[e0,e1,e2,e3,e4]
 generalize d4 (cdR A 1) (cdR A 2) (cdR A 3) (cdR A 4)=m0 at hk ⊢
 generalize d4 (cdR A 0) (cdR A 2) (cdR A 3) (cdR A 4)=m1 at hk ⊢
 generalize d4 (cdR A 0) (cdR A 1) (cdR A 3) (cdR A 4)=m2 at hk ⊢
 generalize d4 (cdR A 0) (cdR A 1) (cdR A 2) (cdR A 4)=m3 at hk ⊢
 generalize d4 (cdR A 0) (cdR A 1) (cdR A 2) (cdR A 3)=m4 at hk ⊢
 have b0:=q62 (m:=m0) (h 0 0 (by omega) (by omega))
 have b1:=q62 (m:=m1) (h 1 0 (by omega) (by omega))
 have b2:=q62 (m:=m2) (h 2 0 (by omega) (by omega))
 have b3:=q62 (m:=m3) (h 3 0 (by omega) (by omega))
 have b4:=q62 (m:=m4) (h 4 0 (by omega) (by omega))
 generalize A 0 0*m0=x0 at *
 generalize A 1 0*m1=x1 at *
 generalize A 2 0*m2=x2 at *
 generalize A 3 0*m3=x3 at *
 generalize A 4 0*m4=x4 at *
 omega
theorem xf9 (g:Nat->Nat) (n:Nat):∀d s,s+d+1=n->∃t,s<=t/\t<n/\∀j,s<=j->j<n->g t<=g j
 | 0,s,h=>⟨s,Nat.le_refl _,by omega,λj h1 h2=>by rw[show j=s by omega]; exact Nat.le_refl _⟩
 | d+1,s,h=>by
  obtain⟨t,t1,t2,t3⟩:=xf9 g n d (s+1) (by omega)
  by_cases q:g s<=g t
  ·refine⟨s,Nat.le_refl _,by omega,λj h1 h2=>?_⟩
   rcases Nat.eq_or_lt_of_le h1 with e | e
   ·rw[<- e]; exact Nat.le_refl _
   ·exact Nat.le_trans q (t3 j e h2)
  ·refine⟨t,by omega,t2,λj h1 h2=>?_⟩
   rcases Nat.eq_or_lt_of_le h1 with e | e
   ·rw[<- e]; omega
   ·exact t3 j e h2
theorem xb8 {n:Nat} (A:Nat->Nat->Int) {s t:Nat} (hs:s<n) (ht:t<n) (hne:s≠t):(det n (upd (upd A s (A t)) t (A s))).natAbs=(det n A).natAbs:=by
 have h:=wa6 (n:=n) (A:=A) (r:=s) (s:=t) hs ht hne (λw=>q6x (r:=s) (s:=t) hs ht hne λj hj=>by
  unfold upd
  rw[if_neg hne,if_pos rfl,if_pos rfl]) (A s) (A t)
 have e:upd (upd A s (A s)) t (A t)=A:=by rw[qu3]; exact qu3 A t
 rw[e] at h
 rw[h,Int.natAbs_neg]
theorem q3r {n:Nat} (Q:(Nat->Int)->Prop) (cd:(Nat->Int)->Nat) {B:Nat} (hB:∀A:Nat->Nat->Int,(∀i,i<n->Q (A i))->(∀i j,i<j->j<n->cd (A i)<=cd (A j))->(det n A).natAbs<=B) :
  ∀d s,s+d=n->∀A:Nat->Nat->Int,(∀i,i<n->Q (A i))->(∀i j,i<s->i<j->j<n->cd (A i)<=cd (A j))->(det n A).natAbs<=B
 | 0,s,hs,A,h1,h2=>hB A h1 λi j hi hj=>h2 i j (by omega) hi hj
 | d+1,s,hs,A,h1,h2=>by
  obtain⟨t,t1,t2,t3⟩:=xf9 (λi=>cd (A i)) n d s (by omega)
  try dsimp only at t3
  by_cases e:s=t
  ·exact q3r Q cd hB d (s+1) (by omega) A h1 λi j hi hij hj=>by
    rcases Nat.lt_succ_iff_lt_or_eq.1 hi with q | q
    ·exact h2 i j q hij hj
    ·rw[q]
     have:=t3 j (by omega) hj
     rwa [<- e] at this
  ·rw[<- xb8 A (show s<n by omega) t2 e]
   have at_:∀i,upd (upd A s (A t)) t (A s) i=A (if i=t then s else if i=s then t else i):=λi=>by
    funext j
    unfold upd
    by_cases q:i=t
    ·rw[if_pos q,if_pos q]
    ·rw[if_neg q,if_neg q]
     by_cases q2:i=s
     ·rw[if_pos q2,if_pos q2]
     ·rw[if_neg q2,if_neg q2]
   refine q3r Q cd hB d (s+1) (by omega) _ (λi hi=>?_) λi j hi hij hj=>?_
   ·rw[at_]
    refine h1 _ ?_
    split
    ·omega
    ·split <;> omega
   ·rw[at_,at_]
    by_cases q:i=s
    ·rw[if_neg (by omega),if_pos q]
     refine t3 _ ?_ ?_
     ·split
      ·omega
      ·split <;> omega
     ·split
      ·omega
      ·split <;> omega
    ·rw[if_neg (by omega),if_neg q]
     refine h2 i _ (by omega) ?_ ?_
     ·split
      ·omega
      ·split <;> omega
     ·split
      ·omega
      ·split <;> omega
theorem xb9 {A:Nat->Nat->Int} (h:∀i j,i<5->j<5->Bit (A i j)):(det 5 A).natAbs<=5:=
 q3r (n:=5) (λr=>∀j,j<5->Bit (r j)) (λr=>code4 (r 1) (r 2) (r 3) (r 4)) (B:=5) (λA h1 h2=>wq9 (λi j hi hj=>h1 i hi j hj) λi hi=>h2 i (i+1) (by omega) (by omega)) 5 0 rfl A (λi hi j hj=>h i j hi hj) λi j hi=>absurd hi (Nat.not_lt_zero _)
theorem wl0 {n B:Nat} (hB:∀A:Nat->Nat->Int,(∀i j,i<n->j<n->One (A i j))->(det n A).natAbs<=B):∀k,k<=n->∀A:Nat->Nat->Int,(∀i j,i<n->j<n->(A i j).natAbs<=1)->(∀i j,i<n->k<=i->j<n->A i j≠0)->(det n A).natAbs<=B
 | 0,_,A,h1,h2=>hB A λi j hi hj=>by
  have:=h1 i j hi hj
  have:=h2 i j hi (Nat.zero_le _) hj
  unfold One; omega
 | k+1,hk,A,h1,h2=>by
  have key:∀t,t<=n->∀v:Nat->Int,(∀j,j<n->(v j).natAbs<=1)->(∀j,j<n->t<=j->v j≠0)->(det n (upd A k v)).natAbs<=B:=λt=>by
   induction t with
   | zero=>
    intro _ v hv1 hv2
    refine wl0 hB k (by omega) _ (λi j hi hj=>?_) λi j hi hki hj=>?_
    ·unfold upd; split
     ·exact hv1 j hj
     ·exact h1 i j hi hj
    ·unfold upd; split
     ·exact hv2 j hj (Nat.zero_le _)
     ·exact h2 i j hi (by omega) hj
   | succ t ih=>
    intro ht v hv1 hv2
    by_cases e:v t=0
    ·have a1:=ih (by omega) (λj=>if j=t then 1 else v j) (λj hj=>by
      (try dsimp only); split
      ·decide
      ·exact hv1 j hj) (λj hj htj=>by
      (try dsimp only); split
      ·decide
      ·exact hv2 j hj (by omega))
     have a2:=ih (by omega) (λj=>if j=t then -1 else v j) (λj hj=>by
      (try dsimp only); split
      ·decide
      ·exact hv1 j hj) (λj hj htj=>by
      (try dsimp only); split
      ·decide
      ·exact hv2 j hj (by omega))
     have e1:=qo8 n A k (by omega) 1 1 (λj=>if j=t then 1 else v j) (λj=>if j=t then -1 else v j)
     have e2:=qo8 n A k (by omega) 2 0 v v
     have e3:(λj=>(1:Int)*(if j=t then 1 else v j)+1*(if j=t then -1 else v j))=λj=>2*v j+0*v j:=by
      funext j
      by_cases q:j=t
      ·rw[if_pos q,if_pos q,q,e]; rfl
      ·rw[if_neg q,if_neg q]; omega
     rw[e3,e2] at e1
     omega
    ·exact ih (by omega) v hv1 λj hj htj=>by
      rcases Nat.lt_or_ge t j with q | q
      ·exact hv2 j hj q
      ·rw[show j=t by omega]; exact e
  have:=key n (Nat.le_refl _) (A k) (λj hj=>h1 k j (by omega) hj) λj hj h5=>by omega
  rwa [qu3] at this
theorem w7n {n:Nat} (hn:n<=6) {A:Nat->Nat->Int} (h:∀i j,i<n->j<n->(A i j).natAbs<=1):(det n A).natAbs<=160:=by
 rcases Nat.lt_or_ge n 5 with q | q
 ·have:=wq8 n h
  have hf:∀k:Fin 5,x0h k.val<=160:=by decide
  exact Nat.le_trans this (hf ⟨n,q⟩)
 ·rcases Nat.lt_or_ge n 6 with q2 | q2
  ·obtain rfl:n=5:=by omega
   exact Nat.le_trans (q61 5 (Nat.le_refl _) A h λi j hi h5=>by omega) (by decide)
  ·obtain rfl:n=6:=by omega
   refine wl0 (n:=6) (B:=160) (λA hA=>?_) 6 (Nat.le_refl _) A h λi j hi h5=>by omega
   obtain⟨B,hB,e⟩:=xb6 (n:=5) hA
   have:=xb9 hB
   rw[e]
   omega
end Go.Proofs.Ytdibdlelmkcccaa
set_option linter.unusedVariables false
namespace Go.Proofs.Ytdibdlelmkcccaa
open Go Go.RowKit Eng
def mkM (n W:Nat) (A:Nat->Nat->Int):List (List Int):=(List.range n).map λa=>(List.range W).map λc=>A a c
theorem w7o {n W:Nat} (A:Nat->Nat->Int) {a:Nat} (ha:a<n):nL (mkM n W A) a=(List.range W).map λc=>A a c:=by
 rw[qq0 _ _ (by simp[mkM]; exact ha)]; simp[mkM]
theorem xy9 {n W:Nat} (A:Nat->Nat->Int) {a c:Nat} (ha:a<n) (hc:c<W):nI (nL (mkM n W A) a) c=A a c:=by
 rw[w7o A ha,qi5 _ _ (by simp; exact hc)]; simp
theorem xo6 (n W:Nat) (A:Nat->Nat->Int):Mat n W (mkM n W A):=⟨by simp[mkM],λi hi=>by rw[w7o A hi]; simp⟩
theorem w7p {n W:Nat} (A:Nat->Nat->Int) (h:n<W):∃z,Sol n W A z/\∃f,f<W/\z f≠0:=by
 have hM:=xo6 n W A
 have hst:=qr4 hM W (Nat.le_refl _)
 have hpl:=hst.pl
 obtain⟨f,hf,hq⟩:=Asc.free (N:=W) (P:=(qc0 (mkM n W A) W).2) (by omega)
 obtain⟨z,z1,z2,_⟩:=hst.free (Nat.le_refl _) hf hq λi h1 h2=>hst.zero i h1 h2 f hf
 refine⟨z,λa ha=>?_,f,hf,z2⟩
 rw[<- z1 a ha]
 refine qh3 λc hc=>?_
 unfold rowOf
 rw[xy9 A ha hc]
theorem xo7 {n:Nat} {B:Nat->Nat->Int} {lam:Nat->Int} (h:∀j,j<n->(sm n λi=>lam i*B i j)=0) {r:Nat} (hr:r<n) (hl:lam r≠0):det n B=0:=by
 have h1:=wa7 B hr lam n (Nat.le_refl _)
 rw[if_pos hr] at h1
 have h2:det n (upd B r λj=>sm n λi=>lam i*B i j)=det n (upd B r λ_=>0):=qh7 n λi j hi hj=>by
  unfold upd; split
  ·exact h j hj
  ·rfl
 rw[h2,q0l hr] at h1
 exact qd0 h1.symm hl
theorem xo8 {n:Nat} {B:Nat->Nat->Int} {k l:Nat} (hk:k<n) (hl:l<n) (hne:k≠l) (h:∀i,i<n->B i k=B i l):det n B=0:=by
 obtain⟨z,z1,f,hf,z2⟩:=w7p (n:=n-1) (W:=n) (λa c=>B c (skp l a)) (by omega)
 have e:∀j,j<n->j≠l->(sm n λi=>z i*B i j)=0:=λj hj hne=>by
  have h1:=z1 (if j<l then j else j-1) (by split <;> omega)
  have h2:skp l (if j<l then j else j-1)=j:=by
   by_cases q:j<l
   ·rw[if_pos q]; unfold skp; rw[if_pos q]
   ·rw[if_neg q]; unfold skp; rw[if_neg (by omega)]; omega
  try dsimp only at h1
  rw[h2] at h1
  rw[<- h1]
  exact qh3 λi hi=>Int.mul_comm _ _
 refine xo7 (lam:=z) (λj hj=>?_) hf z2
 by_cases q:j=l
 ·rw[q,<- e k hk hne]
  refine qh3 λi hi=>?_
  rw[h i hi]
 ·exact e j hj q
theorem xo9 {n:Nat} {A:Nat->Nat->Int} (h:∀lam:Nat->Int,(∀j,j<n->(sm n λi=>lam i*A i j)=0)->∀i,i<n->lam i=0):det n A≠0:=by
 refine xf7 λk hk=>?_
 obtain⟨z,z1,f,hf,z2⟩:=w7p (n:=n) (W:=n+1) (λj c=>if c<n then A c j else if k=j then 1 else 0) (by omega)
 have e:∀j,j<n->(sm n λi=>z i*A i j)+(if k=j then 1 else 0)*z n=0:=λj hj=>by
  have h1:=z1 j hj
  rw[sm] at h1
  try dsimp only at h1
  rw[if_neg (Nat.lt_irrefl _)] at h1
  have h2:(sm n λi=>z i*A i j)=sm n λc=>(if c<n then A c j else if k=j then 1 else 0)*z c:=qh3 λi hi=>by
   try dsimp only
   rw[if_pos hi,Int.mul_comm]
  rw[h2]
  exact h1
 have hn:z n≠0:=λhz=>by
  have h2:=h z λj hj=>by
   have:=e j hj
   rw[hz,Int.mul_zero,Int.add_zero] at this
   exact this
  rcases Nat.lt_or_ge f n with q | q
  ·exact z2 (h2 f q)
  ·exact z2 (by rw[show f=n by omega]; exact hz)
 refine⟨- z n,z,by omega,λj hj=>?_⟩
 have:=e j hj
 split
 ·rename_i q; rw[if_pos q] at this; omega
 ·rename_i q; rw[if_neg q] at this; omega
def isP (P:List Int) (c:Nat):Prop:=∃q,q<P.length/\nI P q=(c:Int)
theorem wb0 {P:List Int} {c:Nat}:¬isP P c↔∀q,q<P.length->nI P q≠(c:Int):=
 ⟨λh q hq e=>h ⟨q,hq,e⟩,λh ⟨q,hq,e⟩=>h q hq e⟩
theorem St.isP_at {n W j:Nat} {R:Nat->Nat->Int} {rows:List (List Int)} {P:List Int} (h:St n W R j rows P) {k:Nat} (hk:k<P.length):isP P (nI P k).toNat:=⟨k,hk,by have:=(h.pos k hk).1; omega⟩
theorem St.row_eq {n W:Nat} {R:Nat->Nat->Int} {rows:List (List Int)} {P:List Int} (h:St n W R W rows P) {z:Nat->Int} (hz:Sol n W R z) {f:Nat} (hf:f<W) (hnp:¬isP P f) (h0:∀c,c<W->c≠f->¬isP P c->z c=0) {k:Nat} (hk:k<P.length) :
  nI (nL rows k) (nI P k).toNat*z (nI P k).toNat+nI (nL rows k) f*z f=0:=by
 have hpl:=h.pl
 have hp:=h.pos k hk
 have e:=(h.sol z).1 hz k (by omega)
 unfold dt at e
 have hne:(nI P k).toNat≠f:=λq=>hnp (by rw[<- q]; exact h.isP_at hk)
 rw[q6n (k:=(nI P k).toNat) (l:=f) (by omega) hf hne λc hc h1 h2=>?_] at e
 ·exact e
 ·try dsimp only
  by_cases q:isP P c
  ·obtain⟨q2,hq2,e2⟩:=q
   have:=(h.pos q2 hq2).2.2.2.2 k (by omega) λe3=>h1 (by rw[e3,e2]; rfl)
   rw[e2,Int.toNat_natCast] at this
   rw[this,Int.zero_mul]
  ·rw[h0 c hc h2 q,Int.mul_zero]
theorem St.sol_mk {n W:Nat} {R:Nat->Nat->Int} {rows:List (List Int)} {P:List Int} (h:St n W R W rows P) {z:Nat->Int} {f:Nat} (hf:f<W) (hnp:¬isP P f) (h0:∀c,c<W->c≠f->¬isP P c->z c=0)
  (hr:∀k,k<P.length->nI (nL rows k) (nI P k).toNat*z (nI P k).toNat+nI (nL rows k) f*z f=0):Sol n W R z:=by
 refine(h.sol z).2 λi hi=>?_
 unfold dt
 rcases Nat.lt_or_ge i P.length with q | q
 ·have hp:=h.pos i q
  have hne:(nI P i).toNat≠f:=λq2=>hnp (by rw[<- q2]; exact h.isP_at q)
  rw[q6n (k:=(nI P i).toNat) (l:=f) (by omega) hf hne λc hc h1 h2=>?_]
  ·exact hr i q
  ·try dsimp only
   by_cases q1:isP P c
   ·obtain⟨q2,hq2,e2⟩:=q1
    have:=(h.pos q2 hq2).2.2.2.2 i hi λe3=>h1 (by rw[e3,e2]; rfl)
    rw[e2,Int.toNat_natCast] at this
    rw[this,Int.zero_mul]
   ·rw[h0 c hc h2 q1,Int.mul_zero]
 ·exact qt0 λc hc=>by
   try dsimp only
   rw[h.zero i q hi c hc,Int.zero_mul]
theorem St.piv_same {n W:Nat} {R:Nat->Nat->Int} {rows rows':List (List Int)} {P P':List Int} (h:St n W R W rows P) (h':St n W R W rows' P') {f:Nat} (hp:isP P f):isP P' f:=Classical.byContradiction λhn=>by
 obtain⟨k,hk,e⟩:=hp
 have hpk:=h.pos k hk
 rw[e,Int.toNat_natCast] at hpk
 have hf:f<W:=by omega
 have hpl':=h'.pl
 obtain⟨z,z1,z2,z3⟩:=h'.free (Nat.le_refl _) hf (wb0.1 hn) λi h1 h2=>h'.zero i h1 h2 f hf
 have zl:∀c,c<W->f<c->z c=0:=λc hc hfc=>by
  by_cases q:isP P' c
  ·obtain⟨q2,hq2,e2⟩:=q
   have h1:=h'.row_eq z1 hf hn (λc hc h1 h2=>z3 c hc h1 (wb0.1 h2)) hq2
   have h2:=h'.pos q2 hq2
   rw[e2,Int.toNat_natCast] at h1 h2
   rw[h2.2.2.2.1 f hfc,Int.zero_mul,Int.add_zero] at h1
   exact qd0 h1 (by omega)
  ·exact z3 c hc (by omega) (wb0.1 q)
 have hpl:=h.pl
 have h1:=(h.sol z).1 z1 k (by omega)
 unfold dt at h1
 rw[qv9 (k:=f) hf λc hc hne=>?_] at h1
 ·exact absurd (qd0 h1 (by omega)) z2
 ·try dsimp only
  rcases Nat.lt_or_ge c f with q | q
  ·rw[hpk.2.2.2.1 c q,Int.zero_mul]
  ·rw[zl c hc (by omega),Int.mul_zero]
theorem St.basis {n W:Nat} {R:Nat->Nat->Int} {rows:List (List Int)} {P:List Int} (h:St n W R W rows P):∃τ:Nat->Nat,(∀i,i<P.length->τ i<n)/\∀k,k<P.length->∃(c:Int) (lam:Nat->Int),c≠0/\∀col,col<W->(sm P.length λq=>lam q*R (τ q) col)=c*nI (nL rows k) col:=by
 obtain⟨ρ,pv,τ,hE,t1,t2,t3,t4,t5,t6⟩:=h.tag
 have hpl:=h.pl
 refine⟨τ,λi hi=>t1 i (by omega),λk hk=>?_⟩
 obtain⟨c,l,hc,hl,hs,_⟩:=hE.comb (τ k) (t1 k (by omega))
 refine⟨c,λq=>l (τ q),hc,λcol hcol=>?_⟩
 rw[<- t4 k (by omega) col hcol,hl col hcol]
 refine(q41 P.length (f:=λb=>l b*R b col) (λq hq=>t1 q (by omega)) (λq k hq hk=>t2 q k (by omega) (by omega)) λb hb hq=>?_).symm
 try dsimp only
 obtain⟨i,hi,rfl⟩:=t3 b hb
 have hiN:¬i<P.length:=λq=>hq i q rfl
 have hl0:l (τ i)=0:=Classical.byContradiction λq=>by
  rcases hs (τ i) hb q with q2 | q2
  ·rw[t5 i hi,if_neg hiN] at q2; exact q2 rfl
  ·exact hq k hk q2.symm
 rw[hl0,Int.zero_mul]
theorem St.minors {n W:Nat} {R:Nat->Nat->Int} {rows:List (List Int)} {P:List Int} (h:St n W R W rows P) (hn:n<=6) (h1:∀a c,a<n->c<W->(R a c).natAbs<=1) :
  ∃D:Int,D≠0/\D.natAbs<=160/\∀f,f<W->¬isP P f->∃w:Nat->Int,(∀k,k<P.length->(w k).natAbs<=160)/\∀k,k<P.length->nI (nL rows k) (nI P k).toNat*w k+nI (nL rows k) f*D=0:=by
 obtain⟨τ,t1,hcomb⟩:=h.basis
 have hpl:=h.pl
 have hpW:∀k,k<P.length->(nI P k).toNat<W:=λk hk=>by have:=h.pos k hk; omega
 have hrow:∀k,k<P.length->∀c,c<P.length->nI (nL rows k) (nI P c).toNat=if k=c then nI (nL rows k) (nI P k).toNat else 0:=λk hk c hc=>by
  by_cases q:k=c
  ·rw[if_pos q,<- q]
  ·rw[if_neg q]
   exact(h.pos c hc).2.2.2.2 k (by omega) q
 have hpp:∀k,k<P.length->0<nI (nL rows k) (nI P k).toNat:=λk hk=>(h.pos k hk).2.2.1
 -- what all the first rows say is said by the reduced ones
 have tell:∀(m:Nat) (s:Nat->Nat) (w:Nat->Int),(∀c,c<m->s c<W)->(∀b,b<P.length->(sm m λc=>R (τ b) (s c)*w c)=0)->∀k,k<P.length->(sm m λc=>nI (nL rows k) (s c)*w c)=0:=λm s w hs hw k hk=>by
  obtain⟨c0,lam,hc0,hl⟩:=hcomb k hk
  refine qd0 (a:=c0) ?_ hc0
  rw[<- qt1]
  have e:(sm m λc=>c0*(nI (nL rows k) (s c)*w c))=sm m λc=>sm P.length λq=>lam q*(R (τ q) (s c)*w c):=qh3 λc hc=>by
   try dsimp only
   rw[<- Int.mul_assoc,<- hl (s c) (hs c hc),Int.mul_comm,<- qt1]
   refine qh3 λq hq=>?_
   grind
  rw[e,xm1]
  refine qt0 λq hq=>?_
  try dsimp only
  rw[qt1,hw q hq,Int.mul_zero]
 refine⟨det P.length λa b=>R (τ b) (nI P a).toNat,xo9 λlam hlam k hk=>?_,w7n (by omega) λa b ha hb=>h1 _ _ (t1 b hb) (hpW a ha),λf hf hnp=>?_⟩
 ·have e:=tell P.length (λa=>(nI P a).toNat) lam hpW (λb hb=>by
   rw[<- hlam b hb]
   exact qh3 λc hc=>Int.mul_comm _ _) k hk
  rw[qv9 (k:=k) hk λi hi hne=>by
   try dsimp only
   rw[hrow k hk i hi,if_neg (Ne.symm hne),Int.zero_mul]] at e
  exact qd0 e (by have:=hpp k hk; omega)
 ·obtain⟨s,hs0,hsk⟩:∃s:Nat->Nat,s 0=f/\∀c,s (c+1)=(nI P c).toNat:=⟨λc=>match c with | 0=>f | c+1=>(nI P c).toNat,rfl,λ_=>rfl⟩
  have hsW:∀c,c<P.length+1->s c<W:=λc hc=>by
   cases c with
   | zero=>rw[hs0]; exact hf
   | succ c=>rw[hsk]; exact hpW c (by omega)
  obtain⟨w,hw⟩:∃w:Nat->Int,∀c,w c=sgn c*det P.length λa b=>R (τ b) (s (skp c a)):=⟨_,λ_=>rfl⟩
  have e0:w 0=det P.length λa b=>R (τ b) (nI P a).toNat:=by
   rw[hw,show sgn 0=1 from rfl,Int.one_mul]
   refine qh7 _ λa b ha hb=>?_
   have:skp 0 a=a+1:=by unfold skp; rw[if_neg (Nat.not_lt_zero _)]
   rw[this,hsk]
  refine⟨λk=>w (k+1),λk hk=>?_,λk hk=>?_⟩
  ·try dsimp only
   rw[hw,Int.natAbs_mul,wa8,Nat.one_mul]
   exact w7n (by omega) λa b ha hb=>h1 _ _ (t1 b hb) (hsW _ (q6v ha))
  ·have e:=tell (P.length+1) s w hsW (λb hb=>by
    have hd:det (P.length+1) (λc j=>if j=0 then R (τ b) (s c) else R (τ (j-1)) (s c))=0:=xo8 (k:=0) (l:=b+1) (by omega) (by omega) (by omega) λi hi=>by
     try dsimp only
     rw[if_pos rfl,if_neg (by omega),Nat.add_sub_cancel]
    rw[det] at hd
    rw[<- hd]
    refine qh3 λc hc=>?_
    try dsimp only
    rw[if_pos rfl,hw]
    have:det P.length (λa b=>R (τ b) (s (skp c a)))=det P.length λa b_1=>if b_1+1=0 then R (τ b) (s (skp c a)) else R (τ (b_1+1-1)) (s (skp c a)):=qh7 _ λi j hi hj=>by
     rw[if_neg (by omega),Nat.add_sub_cancel]
    rw[<- this]
    grind) k hk
   rw[q6n (k:=k+1) (l:=0) (by omega) (by omega) (by omega) λc hc h2 h3=>?_] at e
   ·try dsimp only at e
    rw[hsk,hs0,e0] at e
    exact e
   ·try dsimp only
    cases c with
    | zero=>exact absurd rfl h3
    | succ c=>rw[hsk,hrow k hk c (by omega),if_neg (by omega),Int.zero_mul]
theorem St.piv_160 {n W:Nat} {R:Nat->Nat->Int} {rows:List (List Int)} {P:List Int} (h:St n W R W rows P) (hn:n<=6) (h1:∀a c,a<n->c<W->(R a c).natAbs<=1) {k:Nat} (hk:k<P.length):(nI (nL rows k) (nI P k).toNat).natAbs<=160:=by
 have hpl:=h.pl
 have hp:=h.pos k hk
 obtain⟨D,hD,hD2,hw⟩:=h.minors hn h1
 obtain⟨ρ,pv,τ,hE,t1,t2,t3,t4,t5,t6⟩:=h.tag
 rcases t6 k (by omega) with⟨s,hs,e⟩ | e | e
 ·have:=h1 (τ k) (nI P k).toNat (t1 k (by omega)) (by omega)
  rw[e _ (by omega),Int.natAbs_mul]
  have:s.natAbs=1:=by rcases hs with rfl | rfl <;> rfl
  rw[this]; omega
 ·have:=e (nI P k).toNat (by omega)
  omega
 ·have hx:∀c,∃x:Int,c<W->D*nI (nL rows k) c=nI (nL rows k) (nI P k).toNat*x/\(c=(nI P k).toNat->x=D):=λc=>by
   by_cases q:c=(nI P k).toNat
   ·exact⟨D,λ_=>⟨by rw[q,Int.mul_comm],λ_=>rfl⟩⟩
   ·by_cases q2:isP P c
    ·obtain⟨q3,hq3,e3⟩:=q2
     refine⟨0,λ_=>⟨?_,λq4=>absurd q4 q⟩⟩
     have:=(h.pos q3 hq3).2.2.2.2 k (by omega) λq4=>q (by rw[q4,e3]; rfl)
     rw[e3,Int.toNat_natCast] at this
     rw[this,Int.mul_zero,Int.mul_zero]
    ·by_cases q4:c<W
     ·obtain⟨w,_,w2⟩:=hw c q4 q2
      have:=w2 k hk
      exact⟨- w k,λ_=>⟨by grind,λq4=>absurd q4 q⟩⟩
     ·exact⟨0,λq5=>absurd q5 q4⟩
  obtain⟨x,hx⟩:=Classical.axiomOfChoice hx
  have:=wk1 (W:=W) (r:=nI (nL rows k)) (s:=x) (α:=D) (β:=nI (nL rows k) (nI P k).toNat) hD (λc hc=>(hx c hc).1) e (nI P k).toNat (by omega)
  rw[(hx _ (by omega)).2 rfl] at this
  omega
structure KV (n W:Nat) (R:Nat->Nat->Int) (P:List Int) (f:Nat) (v:List Int):Prop where
 len:v.length=W
 sol:Sol n W R (nI v)
 free:∀c,c<W->c≠f->¬isP P c->nI v c=0
 pos:0<nI v f
theorem KV.prim {n W:Nat} {R:Nat->Nat->Int} {P:List Int} {f:Nat} {v:List Int} (h:KV n W R P f v) (hf:f<W):KV n W R P f (qs8 v):=by
 have hl:=h.len
 have hg:0<max (gcdL v) 1:=by omega
 have hm:∀c,c<W->max (gcdL v) 1*nI (qs8 v) c=nI v c:=λc hc=>qw0 v (by omega)
 refine⟨by rw[qs9]; exact hl,λa ha=>?_,λc hc h1 h2=>?_,?_⟩
 ·have:=h.sol a ha
  refine qd0 (a:=max (gcdL v) 1) ?_ (by omega)
  rw[<- qt1,<- this]
  refine qh3 λc hc=>?_
  try dsimp only
  rw[<- hm c hc]
  grind
 ·have:=hm c hc
  rw[h.free c hc h1 h2] at this
  exact qd0 this (by omega)
 ·have:=hm f hf
  have:=h.pos
  exact q38 hg (by omega)
theorem KV.trans {n W:Nat} {R:Nat->Nat->Int} {P P':List Int} {f:Nat} {v:List Int} (h:KV n W R P f v) (hP:∀c,isP P c↔isP P' c):KV n W R P' f v:=
 ⟨h.len,h.sol,λc hc h1 h2=>h.free c hc h1 λq=>h2 ((hP c).1 q),h.pos⟩
theorem KV.cross {n W:Nat} {R:Nat->Nat->Int} {rows:List (List Int)} {P:List Int} (hs:St n W R W rows P) {f:Nat} (hf:f<W) (hnp:¬isP P f) {v u:List Int} (hv:KV n W R P f v) (hu:KV n W R P f u):∀c,c<W->nI u f*nI v c=nI v f*nI u c:=λc hc=>by
 by_cases q:c=f
 ·rw[q,Int.mul_comm]
 ·by_cases q2:isP P c
  ·obtain⟨k,hk,e⟩:=q2
   have a:=hs.row_eq hv.sol hf hnp hv.free hk
   have b:=hs.row_eq hu.sol hf hnp hu.free hk
   have hp:=(hs.pos k hk).2.2.1
   rw[e,Int.toNat_natCast] at a b hp
   have:nI (nL rows k) c*(nI u f*nI v c-nI v f*nI u c)=0:=by grind
   have:=qd0 this (by omega)
   omega
  ·rw[hv.free c hc q q2,hu.free c hc q q2,Int.mul_zero,Int.mul_zero]
theorem Prim.gcd {v:List Int} {W f:Nat} (h:Prim v) (hl:v.length=W) (hf:f<W) (hp:0<nI v f):∀d:Nat,(∀c,c<W->d∣(nI v c).natAbs)->d=1:=by
 subst hl
 rcases h with h | h
 ·have:=h f hf; omega
 ·exact h
theorem KV.uniq {n W:Nat} {R:Nat->Nat->Int} {rows:List (List Int)} {P:List Int} (hs:St n W R W rows P) {f:Nat} (hf:f<W) (hnp:¬isP P f) {v u:List Int} (hv:KV n W R P f v) (hu:KV n W R P f u) (pv:Prim v) (pu:Prim u):v=u:=by
 have hc:=hv.cross hs hf hnp hu
 have a:=wk1 (W:=W) (r:=nI v) (s:=nI u) (α:=nI u f) (β:=nI v f) (by have:=hu.pos; omega) hc (pv.gcd hv.len hf hv.pos)
 have b:=wk1 (W:=W) (r:=nI u) (s:=nI v) (α:=nI v f) (β:=nI u f) (by have:=hv.pos; omega) (λc h=>(hc c h).symm) (pu.gcd hu.len hf hu.pos)
 have hff:nI u f=nI v f:=by
  have:=a f hf; have:=b f hf; have:=hv.pos; have:=hu.pos; omega
 have h1:=hv.len
 have h2:=hu.len
 refine List.ext_getElem (by omega) λi hi hi2=>?_
 rw[<- qi5 v i hi,<- qi5 u i hi2]
 have:=hc i (by omega)
 rw[hff] at this
 exact Int.eq_of_mul_eq_mul_left (by have:=hv.pos; omega) this
theorem KV.small {n W:Nat} {R:Nat->Nat->Int} {rows:List (List Int)} {P:List Int} (hs:St n W R W rows P) (hn:n<=6) (h1:∀a c,a<n->c<W->(R a c).natAbs<=1) {f:Nat} (hf:f<W) (hnp:¬isP P f) {v:List Int} (hv:KV n W R P f v) (pv:Prim v):∀x∈v,x.natAbs<=160:=by
 obtain⟨D,hD,hD2,hw⟩:=hs.minors hn h1
 obtain⟨w,w1,w2⟩:=hw f hf hnp
 have hx:∀c,∃x:Int,c<W->D*nI v c=nI v f*x/\x.natAbs<=160:=λc=>by
  by_cases q:c=f
  ·exact⟨D,λ_=>⟨by rw[q,Int.mul_comm],hD2⟩⟩
  ·by_cases q2:isP P c
   ·obtain⟨k,hk,e⟩:=q2
    refine⟨w k,λ_=>⟨?_,w1 k hk⟩⟩
    have a:=hs.row_eq hv.sol hf hnp hv.free hk
    have b:=w2 k hk
    have hp:=(hs.pos k hk).2.2.1
    rw[e,Int.toNat_natCast] at a b hp
    have:nI (nL rows k) c*(D*nI v c-nI v f*w k)=0:=by grind
    have:=qd0 this (by omega)
    omega
   ·exact⟨0,λhc=>⟨by rw[hv.free c hc q q2,Int.mul_zero,Int.mul_zero],by decide⟩⟩
 obtain⟨x,hx⟩:=Classical.axiomOfChoice hx
 have:=wk1 (W:=W) (r:=nI v) (s:=x) (α:=D) (β:=nI v f) hD (λc hc=>(hx c hc).1) (pv.gcd hv.len hf hv.pos)
 intro y hy
 obtain⟨c,hc,rfl⟩:=q8m hy
 have hl:=hv.len
 exact Nat.le_trans (this c (by omega)) (hx c (by omega)).2
end Go.Proofs.Ytdibdlelmkcccaa
