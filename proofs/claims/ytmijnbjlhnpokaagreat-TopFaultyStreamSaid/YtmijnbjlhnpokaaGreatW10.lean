/- How great determinants of few small numbers are. Plain mathematics. No condition. -/
import Derived.Test.YtmijnbjlhnpokaaGreatW2
set_option linter.unusedVariables false
namespace Go.Proofs.YtmijnbjlhnpokaaGreat
def sgn (i:Nat):Int:=if i % 2=0 then 1 else -1
def skp (i a:Nat):Nat:=if a<i then a else a+1
def det:Nat->(Nat->Nat->Int)->Int
 | 0,_=>1
 | n+1,A=>sm (n+1) λi=>sgn i*A i 0*det n (λa b=>A (skp i a) (b+1))
theorem q7t {n i a:Nat} (ha:a<n):skp i a<n+1:=by unfold skp; split <;> omega
theorem xs7 (i a:Nat):skp i a≠i:=by unfold skp; split <;> omega
theorem qh8:∀(n:Nat) {A B:Nat->Nat->Int},(∀i j,i<n->j<n->A i j=B i j)->det n A=det n B
 | 0,_,_,_=>rfl
 | n+1,A,B,h=>by
  rw[det,det]
  refine qg7 λi hi=>?_
  rw[h i 0 hi (by omega),qh8 n (A:=λa b=>A (skp i a) (b+1)) (B:=λa b=>B (skp i a) (b+1)) λa b ha hb=>h _ _ (q7t ha) (by omega)]
def upd (A:Nat->Nat->Int) (r:Nat) (u:Nat->Int):Nat->Nat->Int:=λi j=>if i=r then u j else A i j
theorem qv1 (A:Nat->Nat->Int) (r:Nat):upd A r (A r)=A:=by
 funext i j; unfold upd; split
 ·rename_i h; rw[h]
 ·rfl
theorem wf5 (A:Nat->Nat->Int) {r s:Nat} (h:r≠s) (u v:Nat->Int):upd (upd A r u) s v=upd (upd A s v) r u:=by
 funext i j; unfold upd
 by_cases e:i=s
 ·rw[if_pos e,if_neg (by omega),if_pos e]
 ·rw[if_neg e,if_neg e]
theorem q4r (A:Nat->Nat->Int) (r:Nat) (w:Nat->Int):(λa b=>upd A r w (skp r a) (b+1))=λa b=>A (skp r a) (b+1):=by
 funext a b; unfold upd; rw[if_neg (xs7 r a)]
theorem q7u {i r:Nat} (h:i≠r) (A:Nat->Nat->Int) (w:Nat->Int):(λa b=>upd A r w (skp i a) (b+1))=upd (λa b=>A (skp i a) (b+1)) (if r<i then r else r-1) (λb=>w (b+1)):=by
 funext a b
 have e:skp i a=r↔a=(if r<i then r else r-1):=by unfold skp; split <;> split <;> omega
 unfold upd
 by_cases q:a=(if r<i then r else r-1)
 ·rw[if_pos q,if_pos (e.2 q)]
 ·rw[if_neg q,if_neg λk=>q (e.1 k)]
theorem qr4:∀(n:Nat) (A:Nat->Nat->Int) (r:Nat),r<n->∀(x y:Int) (u v:Nat->Int),det n (upd A r (λj=>x*u j+y*v j))=x*det n (upd A r u)+y*det n (upd A r v)
 | n+1,A,r,hr,x,y,u,v=>by
  rw[det,det,det,<- qu0,<- qu0,<- w2c]
  refine qg7 λi hi=>?_
  by_cases e:i=r
  ·subst e
   rw[q4r,q4r,q4r]
   have e1:∀w,upd A i w i 0=w 0:=λw=>if_pos rfl
   rw[e1,e1,e1]
   grind
  ·rw[q7u e,q7u e,q7u e]
   have e1:∀w,upd A r w i 0=A i 0:=λw=>if_neg e
   rw[e1,e1,e1]
   have ih:=qr4 n (λa b=>A (skp i a) (b+1)) (if r<i then r else r-1) (by split <;> omega) x y (λb=>u (b+1)) (λb=>v (b+1))
   try dsimp only at ih ⊢
   rw[ih]
   grind
theorem q04 {n:Nat} {A:Nat->Nat->Int} {r:Nat} (hr:r<n):det n (upd A r λ_=>0)=0:=by
 have:=qr4 n A r hr 0 0 (λ_=>0) (λ_=>0)
 simpa using this
theorem xm6 (r:Nat):sgn (r+1)=- sgn r:=by unfold sgn; split <;> split <;> omega
theorem wf6:∀(n:Nat) (A:Nat->Nat->Int) (r:Nat),r+1<n->(∀j,j<n->A r j=A (r+1) j)->det n A=0
 | n+1,A,r,hr,h=>by
  rw[det,q9w (k:=r) (l:=r+1) (by omega) hr (by omega) λi hi h1 h2=>?_]
  ·have em:det n (λa b=>A (skp r a) (b+1))=det n (λa b=>A (skp (r+1) a) (b+1)):=qh8 n λa b ha hb=>by
    by_cases e:a=r
    ·subst e
     have e1:skp a a=a+1:=by unfold skp; rw[if_neg (Nat.lt_irrefl _)]
     have e2:skp (a+1) a=a:=by unfold skp; rw[if_pos (Nat.lt_succ_self _)]
     rw[e1,e2,h _ (by omega)]
    ·have:skp r a=skp (r+1) a:=by unfold skp; split <;> split <;> omega
     rw[this]
   try dsimp only
   rw[em,h 0 (by omega),xm6]
   grind
  ·try dsimp only
   have:det n (λa b=>A (skp i a) (b+1))=0:=by
    rcases Nat.lt_or_ge i r with q | q
    ·refine wf6 n _ (r-1) (by omega) λj hj=>?_
     have e1:skp i (r-1)=r:=by unfold skp; rw[if_neg (by omega)]; omega
     have e2:skp i (r-1+1)=r+1:=by unfold skp; rw[if_neg (by omega)]; omega
     try dsimp only
     rw[e1,e2,h _ (by omega)]
    ·refine wf6 n _ r (by omega) λj hj=>?_
     have e1:skp i r=r:=by unfold skp; rw[if_pos (by omega)]
     have e2:skp i (r+1)=r+1:=by unfold skp; rw[if_pos (by omega)]
     try dsimp only
     rw[e1,e2,h _ (by omega)]
   rw[this,Int.mul_zero]
theorem wf7 {n:Nat} {A:Nat->Nat->Int} {r s:Nat} (hr:r<n) (hs:s<n) (hne:r≠s) (hz:∀w,det n (upd (upd A r w) s w)=0) (u v:Nat->Int):det n (upd (upd A r u) s v)=- det n (upd (upd A r v) s u):=by
 have h:=hz (λj=>1*u j+1*v j)
 have lin:∀w,det n (upd (upd A r (λj=>1*u j+1*v j)) s w)=det n (upd (upd A r u) s w)+det n (upd (upd A r v) s w):=λw=>by
  rw[wf5 A hne,qr4 n _ r hr,wf5 A hne,wf5 A hne]; omega
 rw[qr4 n _ s hs,lin,lin,hz u,hz v] at h
 omega
theorem w9x:∀(d n:Nat) (A:Nat->Nat->Int) (r s:Nat),s=r+d+1->s<n->(∀j,j<n->A r j=A s j)->det n A=0
 | 0,n,A,r,s,hd,hs,h=>wf6 n A r (by omega) λj hj=>by rw[h j hj,hd]
 | d+1,n,A,r,s,hd,hs,h=>by
  have e:upd (upd A (s-1) (A (s-1))) s (A s)=A:=by rw[qv1]; exact qv1 A s
  have h2:=wf7 (n:=n) (A:=A) (r:=s-1) (s:=s) (by omega) hs (by omega) (λw=>wf6 n _ (s-1) (by omega) λj hj=>by
   unfold upd
   rw[show s-1+1=s by omega,if_neg (by omega),if_pos rfl,if_pos rfl]) (A (s-1)) (A s)
  rw[e] at h2
  have h3:=w9x d n (upd (upd A (s-1) (A s)) s (A (s-1))) r (s-1) (by omega) (by omega) λj hj=>by
   unfold upd
   rw[if_neg (by omega),if_neg (by omega),if_neg (by omega),if_pos rfl]
   exact h j hj
  rw[h2,h3]; rfl
theorem q7v {n:Nat} {A:Nat->Nat->Int} {r s:Nat} (hr:r<n) (hs:s<n) (hne:r≠s) (h:∀j,j<n->A r j=A s j):det n A=0:=by
 rcases Nat.lt_or_gt_of_ne hne with q | q
 ·exact w9x (s-r-1) n A r s (by omega) hs h
 ·exact w9x (r-s-1) n A s r (by omega) hr λj hj=>(h j hj).symm
theorem w2e {n:Nat} (A:Nat->Nat->Int) {r:Nat} (hr:r<n) (lam:Nat->Int):∀k,k<=n->det n (upd A r (λj=>sm k λi=>lam i*A i j))=if r<k then lam r*det n A else 0
 | 0,_=>by
  rw[if_neg (Nat.not_lt_zero _)]
  exact q04 hr
 | k+1,hk=>by
  have ih:=w2e A hr lam k (by omega)
  have e:(λj=>sm (k+1) λi=>lam i*A i j)=λj=>1*(sm k λi=>lam i*A i j)+lam k*A k j:=by funext j; rw[sm]; omega
  rw[e,qr4 n A r hr 1 (lam k) (λj=>sm k λi=>lam i*A i j) (A k),ih]
  by_cases q:k=r
  ·subst q
   rw[qv1,if_neg (Nat.lt_irrefl _),if_pos (Nat.lt_succ_self _)]; omega
  ·have:det n (upd A r (A k))=0:=q7v hr (show k<n by omega) (Ne.symm q) λj hj=>by
    unfold upd
    rw[if_pos rfl,if_neg q]
   rw[this]
   by_cases q2:r<k
   ·rw[if_pos q2,if_pos (by omega)]; omega
   ·rw[if_neg q2,if_neg (by omega)]; omega
theorem w2f {n:Nat} {A:Nat->Nat->Int} (h0:det n A=0):∀(d s:Nat),s+d=n->∀σ:Nat->Nat,(∀i,i<n->σ i<n)->(∀i,i<s->σ i=i)->det n (λi j=>A (σ i) j)=0
 | 0,s,hs,σ,h1,h2=>by
  rw[<- h0]
  exact qh8 n λi j hi hj=>by rw[h2 i (by omega)]
 | d+1,s,hs,σ,h1,h2=>by
  by_cases hx:∃t,s<=t/\t<n/\σ t=s
  ·obtain⟨t,t1,t2,t3⟩:=hx
   have hq:=w2f h0 d (s+1) (by omega) (λi=>if i=s then s else if i=t then σ s else σ i) (λi hi=>by
    (try dsimp only); split
    ·omega
    ·split
     ·exact h1 s (by omega)
     ·exact h1 i hi) (λi hi=>by
    try dsimp only
    by_cases e:i=s
    ·rw[if_pos e,e]
    ·rw[if_neg e,if_neg (by omega)]; exact h2 i (by omega))
   by_cases e:t=s
   ·rw[<- hq]
    refine qh8 n λi j hi hj=>?_
    try dsimp only
    by_cases e2:i=s
    ·rw[if_pos e2,e2,<- e,t3,e]
    ·rw[if_neg e2,if_neg (by omega)]
   ·have ha:=wf7 (n:=n) (A:=λi j=>A (σ i) j) (r:=s) (s:=t) (by omega) t2 (Ne.symm e) (λw=>q7v (r:=s) (s:=t) (by omega) t2 (Ne.symm e) λj hj=>by
     unfold upd
     rw[if_neg (Ne.symm e),if_pos rfl,if_pos rfl]) (A (σ s)) (A (σ t))
    have e1:upd (upd (λi j=>A (σ i) j) s (A (σ s))) t (A (σ t))=λi j=>A (σ i) j:=by
     funext i j; unfold upd
     by_cases q:i=t
     ·rw[if_pos q,q]
     ·rw[if_neg q]
      by_cases q2:i=s
      ·rw[if_pos q2,q2]
      ·rw[if_neg q2]
    have e2:upd (upd (λi j=>A (σ i) j) s (A (σ t))) t (A (σ s))=λi j=>A ((λi=>if i=s then s else if i=t then σ s else σ i) i) j:=by
     funext i j; unfold upd
     try dsimp only
     by_cases q:i=t
     ·rw[if_pos q,if_neg (by omega),if_pos q]
     ·rw[if_neg q]
      by_cases q2:i=s
      ·rw[if_pos q2,if_pos q2,t3]
      ·rw[if_neg q2,if_neg q2,if_neg q]
    rw[e1,e2] at ha
    rw[ha,hq]; rfl
  ·have hns:∀i,i<n->σ i≠s:=λi hi e=>by
    rcases Nat.lt_or_ge i s with q | q
    ·have:=h2 i q; omega
    ·exact hx ⟨i,q,hi,e⟩
   obtain⟨i,j,q1,q2,q3⟩:=q7s (n-1) n (λi=>if σ i<s then σ i else σ i-1) (λi hi=>by
    have:=h1 i hi
    have:=hns i hi
    (try dsimp only); split <;> omega) (by omega)
   have e:σ i=σ j:=by
    have:=hns i (by omega)
    have:=hns j q2
    try dsimp only at q3
    split at q3 <;> split at q3 <;> omega
   exact q7v (r:=i) (s:=j) (by omega) q2 (by omega) λk hk=>by rw[e]
theorem w9y {n:Nat} {A:Nat->Nat->Int} (h0:det n A=0):∀(d k:Nat),k+d=n->∀B:Nat->Nat->Int,(∀i,i<k->∃a,a<n/\∀j,j<n->B i j=A a j)->(∀i,k<=i->i<n->∃lam:Nat->Int,∀j,j<n->B i j=sm n λa=>lam a*A a j)->det n B=0
 | 0,k,hk,B,h1,_=>by
  have hx:∀i,∃a,i<n->a<n/\∀j,j<n->B i j=A a j:=λi=>by
   by_cases hi:i<n
   ·obtain⟨a,h⟩:=h1 i (by omega)
    exact⟨a,λ_=>h⟩
   ·exact⟨0,λq=>absurd q hi⟩
  obtain⟨σ,hσ⟩:=Classical.axiomOfChoice hx
  rw[qh8 n (B:=λi j=>A (σ i) j) λi j hi hj=>(hσ i hi).2 j hj]
  exact w2f h0 n 0 (by omega) σ (λi hi=>(hσ i hi).1) λi hi=>absurd hi (Nat.not_lt_zero _)
 | d+1,k,hk,B,h1,h2=>by
  obtain⟨lam,hl⟩:=h2 k (Nat.le_refl _) (by omega)
  have key:∀m,m<=n->det n (upd B k (λj=>sm m λa=>lam a*A a j))=0:=λm=>by
   induction m with
   | zero=>exact λ_=>q04 (by omega)
   | succ m ih=>
    intro hm
    have e:(λj=>sm (m+1) λi=>lam i*A i j)=λj=>1*(sm m λi=>lam i*A i j)+lam m*A m j:=by funext j; rw[sm]; omega
    rw[e,qr4 n B k (by omega) 1 (lam m) (λj=>sm m λi=>lam i*A i j) (A m),ih (by omega)]
    have:=w9y h0 d (k+1) (by omega) (upd B k (A m)) (λi hi=>by
     by_cases q:i=k
     ·exact⟨m,by omega,λj hj=>by unfold upd; rw[if_pos q]⟩
     ·obtain⟨a,ha,hb⟩:=h1 i (by omega)
      exact⟨a,ha,λj hj=>by unfold upd; rw[if_neg q]; exact hb j hj⟩) (λi h3 h4=>by
     obtain⟨lam',h5⟩:=h2 i (by omega) h4
     exact⟨lam',λj hj=>by unfold upd; rw[if_neg (by omega)]; exact h5 j hj⟩)
    rw[this]; omega
  rw[<- key n (Nat.le_refl _)]
  refine qh8 n λi j hi hj=>?_
  unfold upd
  by_cases q:i=k
  ·rw[if_pos q,q,hl j hj]
  ·rw[if_neg q]
theorem w2g:∀(n:Nat) (d:Nat->Int),(∀i,i<n->d i≠0)->det n (λi j=>if i=j then d i else 0)≠0
 | 0,_,_=>by show(1:Int)≠0; decide
 | n+1,d,h=>by
  rw[det,qu1 (k:=0) (by omega) λi hi hne=>by
   try dsimp only
   rw[if_neg hne]; simp]
  try dsimp only
  have e:det n (λa b=>if skp 0 a=b+1 then d (skp 0 a) else 0)=det n (λa b=>if a=b then d (a+1) else 0):=qh8 n λa b ha hb=>by
   have:skp 0 a=a+1:=by unfold skp; rw[if_neg (Nat.not_lt_zero _)]
   rw[this]
   by_cases q:a=b
   ·rw[if_pos q,if_pos (by omega)]
   ·rw[if_neg q,if_neg (by omega)]
  rw[e,if_pos rfl]
  exact qu2 (qu2 (by decide) (h 0 (by omega))) (w2g n (λa=>d (a+1)) λi hi=>h (i+1) (by omega))
theorem x5b {n:Nat} {A:Nat->Nat->Int} (h:∀k,k<n->∃(d:Int) (lam:Nat->Int),d≠0/\∀j,j<n->(sm n λi=>lam i*A i j)=if k=j then d else 0):det n A≠0:=λh0=>by
 have hx:∀k,∃d:Int,k<n->d≠0/\∃lam:Nat->Int,∀j,j<n->(sm n λi=>lam i*A i j)=if k=j then d else 0:=λk=>by
  by_cases hk:k<n
  ·obtain⟨d,lam,h1,h2⟩:=h k hk
   exact⟨d,λ_=>⟨h1,lam,h2⟩⟩
  ·exact⟨0,λq=>absurd q hk⟩
 obtain⟨d,hd⟩:=Classical.axiomOfChoice hx
 refine w2g n d (λi hi=>(hd i hi).1) (w9y h0 n 0 (by omega) _ (λi hi=>absurd hi (Nat.not_lt_zero _)) λi _ hi=>?_)
 obtain⟨_,lam,hl⟩:=hd i hi
 exact⟨lam,λj hj=>(hl j hj).symm⟩
theorem wf9 (i:Nat):(sgn i).natAbs=1:=by unfold sgn; split <;> rfl
theorem w5j {n B:Nat} {A:Nat->Nat->Int} (h1:∀i,i<n+1->(A i 0).natAbs<=1) (h2:∀i,i<n+1->(det n (λa b=>A (skp i a) (b+1))).natAbs<=B):(det (n+1) A).natAbs<=(n+1)*B:=by
 rw[det]
 refine x46 λi hi=>?_
 rw[Int.natAbs_mul,Int.natAbs_mul,wf9,Nat.one_mul]
 calc(A i 0).natAbs*_<=1*B:=Nat.mul_le_mul (h1 i hi) (h2 i hi)
  _=B:=Nat.one_mul _
def ya6:Nat->Nat
 | 0=>1
 | n+1=>(n+1)*ya6 n
theorem w9z:∀(n:Nat) {A:Nat->Nat->Int},(∀i j,i<n->j<n->(A i j).natAbs<=1)->(det n A).natAbs<=ya6 n
 | 0,_,_=>Nat.le_refl _
 | n+1,A,h=>w5j (λi hi=>h i 0 hi (by omega)) λi hi=>w9z n λa b ha hb=>h _ _ (q7t ha) (by omega)
def d3 (x y z:Nat):Int:=
 let b:=λ(c k:Nat)=>((c / 2 ^ k % 2:Nat):Int)
 b x 0*(b y 1*b z 2-b y 2*b z 1)-b y 0*(b x 1*b z 2-b x 2*b z 1)+b z 0*(b x 1*b y 2-b x 2*b y 1)
def q7w (x:Int):Int:=if 0<x then x else 0
def yg4 (p q r s:Nat):Bool:=decide (q7w (d3 q r s)+q7w (- d3 p r s)+q7w (d3 p q s)+q7w (- d3 p q r)<=4) && decide (q7w (- d3 q r s)+q7w (d3 p r s)+q7w (- d3 p q s)+q7w (d3 p q r)<=4)
theorem xm7:((List.range 8).all λp=>(List.range 8).all λq=>(List.range 8).all λr=>(List.range 8).all λs=>yg4 p q r s)=true:=by decide +kernel
theorem xm8 (A:Nat->Nat->Int):det 3 A=A 0 0*(A 1 1*A 2 2-A 1 2*A 2 1)-A 1 0*(A 0 1*A 2 2-A 0 2*A 2 1)+A 2 0*(A 0 1*A 1 2-A 0 2*A 1 1):=by
 simp[det,sm,skp,sgn]
 grind
theorem x5z (A:Nat->Nat->Int):det 4 A=A 0 0*det 3 (λa b=>A (skp 0 a) (b+1))-A 1 0*det 3 (λa b=>A (skp 1 a) (b+1))+A 2 0*det 3 (λa b=>A (skp 2 a) (b+1))-A 3 0*det 3 (λa b=>A (skp 3 a) (b+1)):=by
 rw[det]
 simp only[sm,show sgn 0=1 from rfl,show sgn 1=-1 from rfl,show sgn 2=1 from rfl,show sgn 3=-1 from rfl]
 grind
def qo0 (x y z:Int):Nat:=(x+2*y+4*z).toNat
def Bit (x:Int):Prop:=x=0\/x=1
theorem x0w {x y z:Int} (hx:Bit x) (hy:Bit y) (hz:Bit z):qo0 x y z<8:=by unfold qo0 Bit at *; omega
theorem w90 {A:Nat->Nat->Int} (h:∀i j,i<3->j<3->Bit (A i j)):d3 (qo0 (A 0 0) (A 0 1) (A 0 2)) (qo0 (A 1 0) (A 1 1) (A 1 2)) (qo0 (A 2 0) (A 2 1) (A 2 2))=det 3 A:=by
 rw[xm8]
 have hb:∀i,i<3->((qo0 (A i 0) (A i 1) (A i 2) / 2 ^ 0 % 2:Nat):Int)=A i 0/\((qo0 (A i 0) (A i 1) (A i 2) / 2 ^ 1 % 2:Nat):Int)=A i 1/\((qo0 (A i 0) (A i 1) (A i 2) / 2 ^ 2 % 2:Nat):Int)=A i 2:=λi hi=>by
  have h0:=h i 0 hi (by omega)
  have h1:=h i 1 hi (by omega)
  have h2:=h i 2 hi (by omega)
  unfold Bit at h0 h1 h2
  unfold qo0
  rcases h0 with e0 | e0 <;> rcases h1 with e1 | e1 <;> rcases h2 with e2 | e2 <;> rw[e0,e1,e2] <;> decide
 unfold d3
 try dsimp only
 obtain⟨a0,a1,a2⟩:=hb 0 (by omega)
 obtain⟨b0,b1,b2⟩:=hb 1 (by omega)
 obtain⟨c0,c1,c2⟩:=hb 2 (by omega)
 rw[a0,a1,a2,b0,b1,b2,c0,c1,c2]
theorem qv7 {x:Int}:x<=q7w x/\0<=q7w x:=by unfold q7w; split <;> omega
theorem xm9 {A:Nat->Nat->Int} (h:∀i j,i<4->j<4->Bit (A i j)):(det 4 A).natAbs<=4:=by
 have hc:∀i,i<4->qo0 (A i 1) (A i 2) (A i 3)<8:=λi hi=>x0w (h i 1 hi (by omega)) (h i 2 hi (by omega)) (h i 3 hi (by omega))
 have hk:=List.all_eq_true.1 (List.all_eq_true.1 (List.all_eq_true.1 (List.all_eq_true.1 xm7 _ (List.mem_range.2 (hc 0 (by omega)))) _ (List.mem_range.2 (hc 1 (by omega)))) _ (List.mem_range.2 (hc 2 (by omega)))) _ (List.mem_range.2 (hc 3 (by omega)))
 unfold yg4 at hk
 rw[Bool.and_eq_true,decide_eq_true_eq,decide_eq_true_eq] at hk
 have e:∀i,i<4->det 3 (λa b=>A (skp i a) (b+1))=d3 (qo0 (A (skp i 0) 1) (A (skp i 0) 2) (A (skp i 0) 3)) (qo0 (A (skp i 1) 1) (A (skp i 1) 2) (A (skp i 1) 3)) (qo0 (A (skp i 2) 1) (A (skp i 2) 2) (A (skp i 2) 3)):=λi hi=>
  (w90 (A:=λa b=>A (skp i a) (b+1)) λa b ha hb=>h _ _ (q7t ha) (by omega)).symm
 rw[x5z,e 0 (by omega),e 1 (by omega),e 2 (by omega),e 3 (by omega)]
 have s0:skp 0 0=1/\skp 0 1=2/\skp 0 2=3/\skp 1 0=0/\skp 1 1=2/\skp 1 2=3/\skp 2 0=0/\skp 2 1=1/\skp 2 2=3/\skp 3 0=0/\skp 3 1=1/\skp 3 2=2:=by decide
 obtain⟨k0,k1,k2,k3,k4,k5,k6,k7,k8,k9,k10,k11⟩:=s0
 rw[k0,k1,k2,k3,k4,k5,k6,k7,k8,k9,k10,k11]
 generalize d3 (qo0 (A 1 1) (A 1 2) (A 1 3)) (qo0 (A 2 1) (A 2 2) (A 2 3)) (qo0 (A 3 1) (A 3 2) (A 3 3))=m0 at hk ⊢
 generalize d3 (qo0 (A 0 1) (A 0 2) (A 0 3)) (qo0 (A 2 1) (A 2 2) (A 2 3)) (qo0 (A 3 1) (A 3 2) (A 3 3))=m1 at hk ⊢
 generalize d3 (qo0 (A 0 1) (A 0 2) (A 0 3)) (qo0 (A 1 1) (A 1 2) (A 1 3)) (qo0 (A 3 1) (A 3 2) (A 3 3))=m2 at hk ⊢
 generalize d3 (qo0 (A 0 1) (A 0 2) (A 0 3)) (qo0 (A 1 1) (A 1 2) (A 1 3)) (qo0 (A 2 1) (A 2 2) (A 2 3))=m3 at hk ⊢
 have p0:=qv7 (x:=m0); have p1:=qv7 (x:=m1); have p2:=qv7 (x:=m2); have p3:=qv7 (x:=m3)
 have n0:=qv7 (x:=-m0); have n1:=qv7 (x:=-m1); have n2:=qv7 (x:=-m2); have n3:=qv7 (x:=-m3)
 have h0:=h 0 0 (by omega) (by omega); have h1:=h 1 0 (by omega) (by omega); have h2:=h 2 0 (by omega) (by omega); have h3:=h 3 0 (by omega) (by omega)
 unfold Bit at h0 h1 h2 h3
 rcases h0 with e0 | e0 <;> rcases h1 with e1 | e1 <;> rcases h2 with e2 | e2 <;> rcases h3 with e3 | e3 <;> rw[e0,e1,e2,e3] <;> omega
def One (x:Int):Prop:=x=1\/x=-1
theorem w5k (e d:Nat->Int) (B:Nat->Nat->Int):det 4 (λi j=>-2*(e i*d j*B i j))=16*(e 0*e 1*e 2*e 3*(d 0*d 1*d 2*d 3))*det 4 B:=by
 rw[x5z,x5z,xm8,xm8,xm8,xm8,xm8,xm8,xm8,xm8]
 simp only[skp]
 simp
 grind
theorem wg1 {n:Nat} (A:Nat->Nat->Int) (c:Nat->Int) (hn:0<n):∀k,k<=n->det n (λi j=>if 0<i/\i<k then A i j-c i*A 0 j else A i j)=det n A
 | 0,_=>qh8 n λi j _ _=>by rw[if_neg (by omega)]
 | k+1,hk=>by
  rw[<- wg1 A c hn k (by omega)]
  by_cases e:k=0
  ·exact qh8 n λi j _ _=>by rw[if_neg (by omega),if_neg (by omega)]
  ·have h1:(λi j=>if 0<i/\i<k+1 then A i j-c i*A 0 j else A i j)=upd (λi j=>if 0<i/\i<k then A i j-c i*A 0 j else A i j) k (λj=>1*A k j+(- c k)*A 0 j):=by
    funext i j; unfold upd
    by_cases q:i=k
    ·rw[if_pos q,q,if_pos (by omega)]; grind
    ·rw[if_neg q]
     try dsimp only
     by_cases q2:0<i/\i<k
     ·rw[if_pos q2,if_pos (by omega)]
     ·rw[if_neg q2,if_neg (by omega)]
   have h2:upd (λi j=>if 0<i/\i<k then A i j-c i*A 0 j else A i j) k (A k)=λi j=>if 0<i/\i<k then A i j-c i*A 0 j else A i j:=by
    funext i j; unfold upd
    by_cases q:i=k
    ·rw[if_pos q,q,if_neg (by omega)]
    ·rw[if_neg q]
   have h3:det n (upd (λi j=>if 0<i/\i<k then A i j-c i*A 0 j else A i j) k (A 0))=0:=q7v (r:=k) (s:=0) (by omega) hn e λj hj=>by
    unfold upd
    rw[if_pos rfl,if_neg (Ne.symm e)]
    try dsimp only
    rw[if_neg (by omega)]
   rw[h1,qr4 n _ k (by omega),h2,h3]; omega
theorem xs8 {x:Int} (h:One x):x*x=1:=by rcases h with rfl | rfl <;> rfl
theorem q7x {x:Int} (h:One x):x.natAbs=1:=by rcases h with rfl | rfl <;> rfl
theorem xn0 {A:Nat->Nat->Int} (h:∀i j,i<5->j<5->One (A i j)):(det 5 A).natAbs<=64:=by
 obtain⟨B,hB⟩:∃B:Nat->Nat->Int,∀i j,B i j=if A (i+1) 0*A (i+1) (j+1)=A 0 0*A 0 (j+1) then 0 else 1:=⟨_,λ_ _=>rfl⟩
 have hbit:∀i j,i<4->j<4->Bit (B i j):=λi j _ _=>by
  rw[hB]; unfold Bit; split
  ·exact .inl rfl
  ·exact .inr rfl
 rw[<- wg1 A (λi=>A i 0*A 0 0) (by omega) 5 (Nat.le_refl _),det,qu1 (k:=0) (by omega) λi hi hne=>?_]
 ·try dsimp only
  have e:det 4 (λa b=>if 0<skp 0 a/\skp 0 a<5 then A (skp 0 a) (b+1)-A (skp 0 a) 0*A 0 0*A 0 (b+1) else A (skp 0 a) (b+1))=det 4 (λi j=>-2*((λi=>A (i+1) 0) i*(λj=>A 0 0*A 0 (j+1)) j*B i j)):=qh8 4 λa b ha hb=>by
   have es:skp 0 a=a+1:=by unfold skp; rw[if_neg (Nat.not_lt_zero _)]
   rw[es,if_pos (by omega),hB]
   try dsimp only
   have o1:=h (a+1) 0 (by omega) (by omega)
   have o2:=h (a+1) (b+1) (by omega) (by omega)
   have o3:=h 0 0 (by omega) (by omega)
   have o4:=h 0 (b+1) (by omega) (by omega)
   unfold One at o1 o2 o3 o4
   rcases o1 with q1 | q1 <;> rcases o2 with q2 | q2 <;> rcases o3 with q3 | q3 <;> rcases o4 with q4 | q4 <;> rw[q1,q2,q3,q4] <;> decide
  rw[e,w5k,if_neg (by omega)]
  have b4:=xm9 hbit
  have o:=λi j (hi:i<5) (hj:j<5)=>q7x (h i j hi hj)
  simp only[Int.natAbs_mul,wf9,o 0 0 (by omega) (by omega),o 1 0 (by omega) (by omega),o 2 0 (by omega) (by omega),o 3 0 (by omega) (by omega),o 4 0 (by omega) (by omega),o 0 1 (by omega) (by omega),o 0 2 (by omega) (by omega),o 0 3 (by omega) (by omega),o 0 4 (by omega) (by omega),Nat.mul_one,Nat.one_mul,show(0+1)=1 from rfl,show(1+1)=2 from rfl,show(2+1)=3 from rfl,show(3+1)=4 from rfl,show(16:Int).natAbs=16 from rfl]
  omega
 ·try dsimp only
  rw[if_pos (by omega),Int.mul_assoc (A i 0),xs8 (h 0 0 (by omega) (by omega))]
  simp
theorem wr5:∀k,k<=5->∀A:Nat->Nat->Int,(∀i j,i<5->j<5->(A i j).natAbs<=1)->(∀i j,i<5->k<=i->j<5->A i j≠0)->(det 5 A).natAbs<=64
 | 0,_,A,h1,h2=>xn0 λi j hi hj=>by
  have:=h1 i j hi hj
  have:=h2 i j hi (Nat.zero_le _) hj
  unfold One; omega
 | k+1,hk,A,h1,h2=>by
  have key:∀t,t<=5->∀v:Nat->Int,(∀j,j<5->(v j).natAbs<=1)->(∀j,j<5->t<=j->v j≠0)->(det 5 (upd A k v)).natAbs<=64:=λt=>by
   induction t with
   | zero=>
    intro _ v hv1 hv2
    refine wr5 k (by omega) _ (λi j hi hj=>?_) λi j hi hki hj=>?_
    ·unfold upd; split
     ·exact hv1 j hj
     ·exact h1 i j hi hj
    ·unfold upd; split
     ·exact hv2 j hj (Nat.zero_le _)
     ·exact h2 i j hi (by omega) hj
   | succ t ih=>
    intro ht v hv1 hv2
    by_cases e:v t=0
    ·have a1:=ih (by omega) (λj=>if j=t then 1 else v j) (λj hj=>by
      (try dsimp only); split
      ·decide
      ·exact hv1 j hj) (λj hj htj=>by
      (try dsimp only); split
      ·decide
      ·exact hv2 j hj (by omega))
     have a2:=ih (by omega) (λj=>if j=t then -1 else v j) (λj hj=>by
      (try dsimp only); split
      ·decide
      ·exact hv1 j hj) (λj hj htj=>by
      (try dsimp only); split
      ·decide
      ·exact hv2 j hj (by omega))
     have e1:=qr4 5 A k (by omega) 1 1 (λj=>if j=t then 1 else v j) (λj=>if j=t then -1 else v j)
     have e2:=qr4 5 A k (by omega) 2 0 v v
     have e3:(λj=>(1:Int)*(if j=t then 1 else v j)+1*(if j=t then -1 else v j))=λj=>2*v j+0*v j:=by
      funext j
      by_cases q:j=t
      ·rw[if_pos q,if_pos q,q,e]; rfl
      ·rw[if_neg q,if_neg q]; omega
     rw[e3,e2] at e1
     omega
    ·exact ih (by omega) v hv1 λj hj htj=>by
      rcases Nat.lt_or_ge t j with q | q
      ·exact hv2 j hj q
      ·rw[show j=t by omega]; exact e
  have:=key 5 (Nat.le_refl _) (A k) (λj hj=>h1 k j (by omega) hj) λj hj h5=>by omega
  rwa [qv1] at this
end Go.Proofs.YtmijnbjlhnpokaaGreat
