/- Reduced rows as lists: one step of an elimination, whoever takes it. Plain mathematics. No condition. -/
import Derived.Test.YtmijnbjlhnpokaaGreatW2
import Derived.Test.YtmijnbjlhnpokaaGreatQ1
set_option linter.unusedVariables false
namespace Go.Proofs.YtmijnbjlhnpokaaGreat
def sgn (i:Nat):Int:=if i % 2=0 then 1 else -1
def skp (i a:Nat):Nat:=if a<i then a else a+1
def det:Nat->(Nat->Nat->Int)->Int
 | 0,_=>1
 | n+1,A=>sm (n+1) λi=>sgn i*A i 0*det n (λa b=>A (skp i a) (b+1))
theorem q74 {n i a:Nat} (ha:a<n):skp i a<n+1:=by unfold skp; split <;> omega
theorem xu5 (i a:Nat):skp i a≠i:=by unfold skp; split <;> omega
theorem qh7:∀(n:Nat) {A B:Nat->Nat->Int},(∀i j,i<n->j<n->A i j=B i j)->det n A=det n B
 | 0,_,_,_=>rfl
 | n+1,A,B,h=>by
  rw[det,det]
  refine qe8 λi hi=>?_
  rw[h i 0 hi (by omega),qh7 n (A:=λa b=>A (skp i a) (b+1)) (B:=λa b=>B (skp i a) (b+1)) λa b ha hb=>h _ _ (q74 ha) (by omega)]
def upd (A:Nat->Nat->Int) (r:Nat) (u:Nat->Int):Nat->Nat->Int:=λi j=>if i=r then u j else A i j
theorem qv2 (A:Nat->Nat->Int) (r:Nat):upd A r (A r)=A:=by
 funext i j; unfold upd; split
 ·rename_i h; rw[h]
 ·rfl
theorem wh6 (A:Nat->Nat->Int) {r s:Nat} (h:r≠s) (u v:Nat->Int):upd (upd A r u) s v=upd (upd A s v) r u:=by
 funext i j; unfold upd
 by_cases e:i=s
 ·rw[if_pos e,if_neg (by omega),if_pos e]
 ·rw[if_neg e,if_neg e]
theorem q40 (A:Nat->Nat->Int) (r:Nat) (w:Nat->Int):(λa b=>upd A r w (skp r a) (b+1))=λa b=>A (skp r a) (b+1):=by
 funext a b; unfold upd; rw[if_neg (xu5 r a)]
theorem q75 {i r:Nat} (h:i≠r) (A:Nat->Nat->Int) (w:Nat->Int):(λa b=>upd A r w (skp i a) (b+1))=upd (λa b=>A (skp i a) (b+1)) (if r<i then r else r-1) (λb=>w (b+1)):=by
 funext a b
 have e:skp i a=r↔a=(if r<i then r else r-1):=by unfold skp; split <;> split <;> omega
 unfold upd
 by_cases q:a=(if r<i then r else r-1)
 ·rw[if_pos q,if_pos (e.2 q)]
 ·rw[if_neg q,if_neg λk=>q (e.1 k)]
theorem qs4:∀(n:Nat) (A:Nat->Nat->Int) (r:Nat),r<n->∀(x y:Int) (u v:Nat->Int),det n (upd A r (λj=>x*u j+y*v j))=x*det n (upd A r u)+y*det n (upd A r v)
 | n+1,A,r,hr,x,y,u,v=>by
  rw[det,det,det,<- qs6,<- qs6,<- w2w]
  refine qe8 λi hi=>?_
  by_cases e:i=r
  ·subst e
   rw[q40,q40,q40]
   have e1:∀w,upd A i w i 0=w 0:=λw=>if_pos rfl
   rw[e1,e1,e1]
   grind
  ·rw[q75 e,q75 e,q75 e]
   have e1:∀w,upd A r w i 0=A i 0:=λw=>if_neg e
   rw[e1,e1,e1]
   have ih:=qs4 n (λa b=>A (skp i a) (b+1)) (if r<i then r else r-1) (by split <;> omega) x y (λb=>u (b+1)) (λb=>v (b+1))
   try dsimp only at ih ⊢
   rw[ih]
   grind
theorem q1b {n:Nat} {A:Nat->Nat->Int} {r:Nat} (hr:r<n):det n (upd A r λ_=>0)=0:=by
 have:=qs4 n A r hr 0 0 (λ_=>0) (λ_=>0)
 simpa using this
theorem xp2 (r:Nat):sgn (r+1)=- sgn r:=by unfold sgn; split <;> split <;> omega
theorem wh7:∀(n:Nat) (A:Nat->Nat->Int) (r:Nat),r+1<n->(∀j,j<n->A r j=A (r+1) j)->det n A=0
 | n+1,A,r,hr,h=>by
  rw[det,wa0 (k:=r) (l:=r+1) (by omega) hr (by omega) λi hi h1 h2=>?_]
  ·have em:det n (λa b=>A (skp r a) (b+1))=det n (λa b=>A (skp (r+1) a) (b+1)):=qh7 n λa b ha hb=>by
    by_cases e:a=r
    ·subst e
     have e1:skp a a=a+1:=by unfold skp; rw[if_neg (Nat.lt_irrefl _)]
     have e2:skp (a+1) a=a:=by unfold skp; rw[if_pos (Nat.lt_succ_self _)]
     rw[e1,e2,h _ (by omega)]
    ·have:skp r a=skp (r+1) a:=by unfold skp; split <;> split <;> omega
     rw[this]
   try dsimp only
   rw[em,h 0 (by omega),xp2]
   grind
  ·try dsimp only
   have:det n (λa b=>A (skp i a) (b+1))=0:=by
    rcases Nat.lt_or_ge i r with q | q
    ·refine wh7 n _ (r-1) (by omega) λj hj=>?_
     have e1:skp i (r-1)=r:=by unfold skp; rw[if_neg (by omega)]; omega
     have e2:skp i (r-1+1)=r+1:=by unfold skp; rw[if_neg (by omega)]; omega
     try dsimp only
     rw[e1,e2,h _ (by omega)]
    ·refine wh7 n _ r (by omega) λj hj=>?_
     have e1:skp i r=r:=by unfold skp; rw[if_pos (by omega)]
     have e2:skp i (r+1)=r+1:=by unfold skp; rw[if_pos (by omega)]
     try dsimp only
     rw[e1,e2,h _ (by omega)]
   rw[this,Int.mul_zero]
theorem wh8 {n:Nat} {A:Nat->Nat->Int} {r s:Nat} (hr:r<n) (hs:s<n) (hne:r≠s) (hz:∀w,det n (upd (upd A r w) s w)=0) (u v:Nat->Int):det n (upd (upd A r u) s v)=- det n (upd (upd A r v) s u):=by
 have h:=hz (λj=>1*u j+1*v j)
 have lin:∀w,det n (upd (upd A r (λj=>1*u j+1*v j)) s w)=det n (upd (upd A r u) s w)+det n (upd (upd A r v) s w):=λw=>by
  rw[wh6 A hne,qs4 n _ r hr,wh6 A hne,wh6 A hne]; omega
 rw[qs4 n _ s hs,lin,lin,hz u,hz v] at h
 omega
theorem xa7:∀(d n:Nat) (A:Nat->Nat->Int) (r s:Nat),s=r+d+1->s<n->(∀j,j<n->A r j=A s j)->det n A=0
 | 0,n,A,r,s,hd,hs,h=>wh7 n A r (by omega) λj hj=>by rw[h j hj,hd]
 | d+1,n,A,r,s,hd,hs,h=>by
  have e:upd (upd A (s-1) (A (s-1))) s (A s)=A:=by rw[qv2]; exact qv2 A s
  have h2:=wh8 (n:=n) (A:=A) (r:=s-1) (s:=s) (by omega) hs (by omega) (λw=>wh7 n _ (s-1) (by omega) λj hj=>by
   unfold upd
   rw[show s-1+1=s by omega,if_neg (by omega),if_pos rfl,if_pos rfl]) (A (s-1)) (A s)
  rw[e] at h2
  have h3:=xa7 d n (upd (upd A (s-1) (A s)) s (A (s-1))) r (s-1) (by omega) (by omega) λj hj=>by
   unfold upd
   rw[if_neg (by omega),if_neg (by omega),if_neg (by omega),if_pos rfl]
   exact h j hj
  rw[h2,h3]; rfl
theorem q76 {n:Nat} {A:Nat->Nat->Int} {r s:Nat} (hr:r<n) (hs:s<n) (hne:r≠s) (h:∀j,j<n->A r j=A s j):det n A=0:=by
 rcases Nat.lt_or_gt_of_ne hne with q | q
 ·exact xa7 (s-r-1) n A r s (by omega) hs h
 ·exact xa7 (r-s-1) n A s r (by omega) hr λj hj=>(h j hj).symm
theorem w2y {n:Nat} (A:Nat->Nat->Int) {r:Nat} (hr:r<n) (lam:Nat->Int):∀k,k<=n->det n (upd A r (λj=>sm k λi=>lam i*A i j))=if r<k then lam r*det n A else 0
 | 0,_=>by
  rw[if_neg (Nat.not_lt_zero _)]
  exact q1b hr
 | k+1,hk=>by
  have ih:=w2y A hr lam k (by omega)
  have e:(λj=>sm (k+1) λi=>lam i*A i j)=λj=>1*(sm k λi=>lam i*A i j)+lam k*A k j:=by funext j; rw[sm]; omega
  rw[e,qs4 n A r hr 1 (lam k) (λj=>sm k λi=>lam i*A i j) (A k),ih]
  by_cases q:k=r
  ·subst q
   rw[qv2,if_neg (Nat.lt_irrefl _),if_pos (Nat.lt_succ_self _)]; omega
  ·have:det n (upd A r (A k))=0:=q76 hr (show k<n by omega) (Ne.symm q) λj hj=>by
    unfold upd
    rw[if_pos rfl,if_neg q]
   rw[this]
   by_cases q2:r<k
   ·rw[if_pos q2,if_pos (by omega)]; omega
   ·rw[if_neg q2,if_neg (by omega)]; omega
theorem w2z {n:Nat} {A:Nat->Nat->Int} (h0:det n A=0):∀(d s:Nat),s+d=n->∀σ:Nat->Nat,(∀i,i<n->σ i<n)->(∀i,i<s->σ i=i)->det n (λi j=>A (σ i) j)=0
 | 0,s,hs,σ,h1,h2=>by
  rw[<- h0]
  exact qh7 n λi j hi hj=>by rw[h2 i (by omega)]
 | d+1,s,hs,σ,h1,h2=>by
  by_cases hx:∃t,s<=t/\t<n/\σ t=s
  ·obtain⟨t,t1,t2,t3⟩:=hx
   have hq:=w2z h0 d (s+1) (by omega) (λi=>if i=s then s else if i=t then σ s else σ i) (λi hi=>by
    (try dsimp only); split
    ·omega
    ·split
     ·exact h1 s (by omega)
     ·exact h1 i hi) (λi hi=>by
    try dsimp only
    by_cases e:i=s
    ·rw[if_pos e,e]
    ·rw[if_neg e,if_neg (by omega)]; exact h2 i (by omega))
   by_cases e:t=s
   ·rw[<- hq]
    refine qh7 n λi j hi hj=>?_
    try dsimp only
    by_cases e2:i=s
    ·rw[if_pos e2,e2,<- e,t3,e]
    ·rw[if_neg e2,if_neg (by omega)]
   ·have ha:=wh8 (n:=n) (A:=λi j=>A (σ i) j) (r:=s) (s:=t) (by omega) t2 (Ne.symm e) (λw=>q76 (r:=s) (s:=t) (by omega) t2 (Ne.symm e) λj hj=>by
     unfold upd
     rw[if_neg (Ne.symm e),if_pos rfl,if_pos rfl]) (A (σ s)) (A (σ t))
    have e1:upd (upd (λi j=>A (σ i) j) s (A (σ s))) t (A (σ t))=λi j=>A (σ i) j:=by
     funext i j; unfold upd
     by_cases q:i=t
     ·rw[if_pos q,q]
     ·rw[if_neg q]
      by_cases q2:i=s
      ·rw[if_pos q2,q2]
      ·rw[if_neg q2]
    have e2:upd (upd (λi j=>A (σ i) j) s (A (σ t))) t (A (σ s))=λi j=>A ((λi=>if i=s then s else if i=t then σ s else σ i) i) j:=by
     funext i j; unfold upd
     try dsimp only
     by_cases q:i=t
     ·rw[if_pos q,if_neg (by omega),if_pos q]
     ·rw[if_neg q]
      by_cases q2:i=s
      ·rw[if_pos q2,if_pos q2,t3]
      ·rw[if_neg q2,if_neg q2,if_neg q]
    rw[e1,e2] at ha
    rw[ha,hq]; rfl
  ·have hns:∀i,i<n->σ i≠s:=λi hi e=>by
    rcases Nat.lt_or_ge i s with q | q
    ·have:=h2 i q; omega
    ·exact hx ⟨i,q,hi,e⟩
   obtain⟨i,j,q1,q2,q3⟩:=q73 (n-1) n (λi=>if σ i<s then σ i else σ i-1) (λi hi=>by
    have:=h1 i hi
    have:=hns i hi
    (try dsimp only); split <;> omega) (by omega)
   have e:σ i=σ j:=by
    have:=hns i (by omega)
    have:=hns j q2
    try dsimp only at q3
    split at q3 <;> split at q3 <;> omega
   exact q76 (r:=i) (s:=j) (by omega) q2 (by omega) λk hk=>by rw[e]
theorem xa8 {n:Nat} {A:Nat->Nat->Int} (h0:det n A=0):∀(d k:Nat),k+d=n->∀B:Nat->Nat->Int,(∀i,i<k->∃a,a<n/\∀j,j<n->B i j=A a j)->(∀i,k<=i->i<n->∃lam:Nat->Int,∀j,j<n->B i j=sm n λa=>lam a*A a j)->det n B=0
 | 0,k,hk,B,h1,_=>by
  have hx:∀i,∃a,i<n->a<n/\∀j,j<n->B i j=A a j:=λi=>by
   by_cases hi:i<n
   ·obtain⟨a,h⟩:=h1 i (by omega)
    exact⟨a,λ_=>h⟩
   ·exact⟨0,λq=>absurd q hi⟩
  obtain⟨σ,hσ⟩:=Classical.axiomOfChoice hx
  rw[qh7 n (B:=λi j=>A (σ i) j) λi j hi hj=>(hσ i hi).2 j hj]
  exact w2z h0 n 0 (by omega) σ (λi hi=>(hσ i hi).1) λi hi=>absurd hi (Nat.not_lt_zero _)
 | d+1,k,hk,B,h1,h2=>by
  obtain⟨lam,hl⟩:=h2 k (Nat.le_refl _) (by omega)
  have key:∀m,m<=n->det n (upd B k (λj=>sm m λa=>lam a*A a j))=0:=λm=>by
   induction m with
   | zero=>exact λ_=>q1b (by omega)
   | succ m ih=>
    intro hm
    have e:(λj=>sm (m+1) λi=>lam i*A i j)=λj=>1*(sm m λi=>lam i*A i j)+lam m*A m j:=by funext j; rw[sm]; omega
    rw[e,qs4 n B k (by omega) 1 (lam m) (λj=>sm m λi=>lam i*A i j) (A m),ih (by omega)]
    have:=xa8 h0 d (k+1) (by omega) (upd B k (A m)) (λi hi=>by
     by_cases q:i=k
     ·exact⟨m,by omega,λj hj=>by unfold upd; rw[if_pos q]⟩
     ·obtain⟨a,ha,hb⟩:=h1 i (by omega)
      exact⟨a,ha,λj hj=>by unfold upd; rw[if_neg q]; exact hb j hj⟩) (λi h3 h4=>by
     obtain⟨lam',h5⟩:=h2 i (by omega) h4
     exact⟨lam',λj hj=>by unfold upd; rw[if_neg (by omega)]; exact h5 j hj⟩)
    rw[this]; omega
  rw[<- key n (Nat.le_refl _)]
  refine qh7 n λi j hi hj=>?_
  unfold upd
  by_cases q:i=k
  ·rw[if_pos q,q,hl j hj]
  ·rw[if_neg q]
theorem w20:∀(n:Nat) (d:Nat->Int),(∀i,i<n->d i≠0)->det n (λi j=>if i=j then d i else 0)≠0
 | 0,_,_=>by show(1:Int)≠0; decide
 | n+1,d,h=>by
  rw[det,qq0 (k:=0) (by omega) λi hi hne=>by
   try dsimp only
   rw[if_neg hne]; simp]
  try dsimp only
  have e:det n (λa b=>if skp 0 a=b+1 then d (skp 0 a) else 0)=det n (λa b=>if a=b then d (a+1) else 0):=qh7 n λa b ha hb=>by
   have:skp 0 a=a+1:=by unfold skp; rw[if_neg (Nat.not_lt_zero _)]
   rw[this]
   by_cases q:a=b
   ·rw[if_pos q,if_pos (by omega)]
   ·rw[if_neg q,if_neg (by omega)]
  rw[e,if_pos rfl]
  exact qv1 (qv1 (by decide) (h 0 (by omega))) (w20 n (λa=>d (a+1)) λi hi=>h (i+1) (by omega))
theorem x5h {n:Nat} {A:Nat->Nat->Int} (h:∀k,k<n->∃(d:Int) (lam:Nat->Int),d≠0/\∀j,j<n->(sm n λi=>lam i*A i j)=if k=j then d else 0):det n A≠0:=λh0=>by
 have hx:∀k,∃d:Int,k<n->d≠0/\∃lam:Nat->Int,∀j,j<n->(sm n λi=>lam i*A i j)=if k=j then d else 0:=λk=>by
  by_cases hk:k<n
  ·obtain⟨d,lam,h1,h2⟩:=h k hk
   exact⟨d,λ_=>⟨h1,lam,h2⟩⟩
  ·exact⟨0,λq=>absurd q hk⟩
 obtain⟨d,hd⟩:=Classical.axiomOfChoice hx
 refine w20 n d (λi hi=>(hd i hi).1) (xa8 h0 n 0 (by omega) _ (λi hi=>absurd hi (Nat.not_lt_zero _)) λi _ hi=>?_)
 obtain⟨_,lam,hl⟩:=hd i hi
 exact⟨lam,λj hj=>(hl j hj).symm⟩
theorem wi0 (i:Nat):(sgn i).natAbs=1:=by unfold sgn; split <;> rfl
theorem w54 {n B:Nat} {A:Nat->Nat->Int} (h1:∀i,i<n+1->(A i 0).natAbs<=1) (h2:∀i,i<n+1->(det n (λa b=>A (skp i a) (b+1))).natAbs<=B):(det (n+1) A).natAbs<=(n+1)*B:=by
 rw[det]
 refine x5d λi hi=>?_
 rw[Int.natAbs_mul,Int.natAbs_mul,wi0,Nat.one_mul]
 calc(A i 0).natAbs*_<=1*B:=Nat.mul_le_mul (h1 i hi) (h2 i hi)
  _=B:=Nat.one_mul _
def ya3:Nat->Nat
 | 0=>1
 | n+1=>(n+1)*ya3 n
theorem xa9:∀(n:Nat) {A:Nat->Nat->Int},(∀i j,i<n->j<n->(A i j).natAbs<=1)->(det n A).natAbs<=ya3 n
 | 0,_,_=>Nat.le_refl _
 | n+1,A,h=>w54 (λi hi=>h i 0 hi (by omega)) λi hi=>xa9 n λa b ha hb=>h _ _ (q74 ha) (by omega)
def d3 (x y z:Nat):Int:=
 let b:=λ(c k:Nat)=>((c / 2 ^ k % 2:Nat):Int)
 b x 0*(b y 1*b z 2-b y 2*b z 1)-b y 0*(b x 1*b z 2-b x 2*b z 1)+b z 0*(b x 1*b y 2-b x 2*b y 1)
def q77 (x:Int):Int:=if 0<x then x else 0
def yg4 (p q r s:Nat):Bool:=decide (q77 (d3 q r s)+q77 (- d3 p r s)+q77 (d3 p q s)+q77 (- d3 p q r)<=4) && decide (q77 (- d3 q r s)+q77 (d3 p r s)+q77 (- d3 p q s)+q77 (d3 p q r)<=4)
theorem xp3:((List.range 8).all λp=>(List.range 8).all λq=>(List.range 8).all λr=>(List.range 8).all λs=>yg4 p q r s)=true:=by decide +kernel
theorem xp4 (A:Nat->Nat->Int):det 3 A=A 0 0*(A 1 1*A 2 2-A 1 2*A 2 1)-A 1 0*(A 0 1*A 2 2-A 0 2*A 2 1)+A 2 0*(A 0 1*A 1 2-A 0 2*A 1 1):=by
 simp[det,sm,skp,sgn]
 grind
theorem x51 (A:Nat->Nat->Int):det 4 A=A 0 0*det 3 (λa b=>A (skp 0 a) (b+1))-A 1 0*det 3 (λa b=>A (skp 1 a) (b+1))+A 2 0*det 3 (λa b=>A (skp 2 a) (b+1))-A 3 0*det 3 (λa b=>A (skp 3 a) (b+1)):=by
 rw[det]
 simp only[sm,show sgn 0=1 from rfl,show sgn 1=-1 from rfl,show sgn 2=1 from rfl,show sgn 3=-1 from rfl]
 grind
def qo7 (x y z:Int):Nat:=(x+2*y+4*z).toNat
def Bit (x:Int):Prop:=x=0\/x=1
theorem x1c {x y z:Int} (hx:Bit x) (hy:Bit y) (hz:Bit z):qo7 x y z<8:=by unfold qo7 Bit at *; omega
theorem xb0 {A:Nat->Nat->Int} (h:∀i j,i<3->j<3->Bit (A i j)):d3 (qo7 (A 0 0) (A 0 1) (A 0 2)) (qo7 (A 1 0) (A 1 1) (A 1 2)) (qo7 (A 2 0) (A 2 1) (A 2 2))=det 3 A:=by
 rw[xp4]
 have hb:∀i,i<3->((qo7 (A i 0) (A i 1) (A i 2) / 2 ^ 0 % 2:Nat):Int)=A i 0/\((qo7 (A i 0) (A i 1) (A i 2) / 2 ^ 1 % 2:Nat):Int)=A i 1/\((qo7 (A i 0) (A i 1) (A i 2) / 2 ^ 2 % 2:Nat):Int)=A i 2:=λi hi=>by
  have h0:=h i 0 hi (by omega)
  have h1:=h i 1 hi (by omega)
  have h2:=h i 2 hi (by omega)
  unfold Bit at h0 h1 h2
  unfold qo7
  rcases h0 with e0 | e0 <;> rcases h1 with e1 | e1 <;> rcases h2 with e2 | e2 <;> rw[e0,e1,e2] <;> decide
 unfold d3
 try dsimp only
 obtain⟨a0,a1,a2⟩:=hb 0 (by omega)
 obtain⟨b0,b1,b2⟩:=hb 1 (by omega)
 obtain⟨c0,c1,c2⟩:=hb 2 (by omega)
 rw[a0,a1,a2,b0,b1,b2,c0,c1,c2]
theorem qw0 {x:Int}:x<=q77 x/\0<=q77 x:=by unfold q77; split <;> omega
theorem xp5 {A:Nat->Nat->Int} (h:∀i j,i<4->j<4->Bit (A i j)):(det 4 A).natAbs<=4:=by
 have hc:∀i,i<4->qo7 (A i 1) (A i 2) (A i 3)<8:=λi hi=>x1c (h i 1 hi (by omega)) (h i 2 hi (by omega)) (h i 3 hi (by omega))
 have hk:=List.all_eq_true.1 (List.all_eq_true.1 (List.all_eq_true.1 (List.all_eq_true.1 xp3 _ (List.mem_range.2 (hc 0 (by omega)))) _ (List.mem_range.2 (hc 1 (by omega)))) _ (List.mem_range.2 (hc 2 (by omega)))) _ (List.mem_range.2 (hc 3 (by omega)))
 unfold yg4 at hk
 rw[Bool.and_eq_true,decide_eq_true_eq,decide_eq_true_eq] at hk
 have e:∀i,i<4->det 3 (λa b=>A (skp i a) (b+1))=d3 (qo7 (A (skp i 0) 1) (A (skp i 0) 2) (A (skp i 0) 3)) (qo7 (A (skp i 1) 1) (A (skp i 1) 2) (A (skp i 1) 3)) (qo7 (A (skp i 2) 1) (A (skp i 2) 2) (A (skp i 2) 3)):=λi hi=>
  (xb0 (A:=λa b=>A (skp i a) (b+1)) λa b ha hb=>h _ _ (q74 ha) (by omega)).symm
 rw[x51,e 0 (by omega),e 1 (by omega),e 2 (by omega),e 3 (by omega)]
 have s0:skp 0 0=1/\skp 0 1=2/\skp 0 2=3/\skp 1 0=0/\skp 1 1=2/\skp 1 2=3/\skp 2 0=0/\skp 2 1=1/\skp 2 2=3/\skp 3 0=0/\skp 3 1=1/\skp 3 2=2:=by decide
 obtain⟨k0,k1,k2,k3,k4,k5,k6,k7,k8,k9,k10,k11⟩:=s0
 rw[k0,k1,k2,k3,k4,k5,k6,k7,k8,k9,k10,k11]
 generalize d3 (qo7 (A 1 1) (A 1 2) (A 1 3)) (qo7 (A 2 1) (A 2 2) (A 2 3)) (qo7 (A 3 1) (A 3 2) (A 3 3))=m0 at hk ⊢
 generalize d3 (qo7 (A 0 1) (A 0 2) (A 0 3)) (qo7 (A 2 1) (A 2 2) (A 2 3)) (qo7 (A 3 1) (A 3 2) (A 3 3))=m1 at hk ⊢
 generalize d3 (qo7 (A 0 1) (A 0 2) (A 0 3)) (qo7 (A 1 1) (A 1 2) (A 1 3)) (qo7 (A 3 1) (A 3 2) (A 3 3))=m2 at hk ⊢
 generalize d3 (qo7 (A 0 1) (A 0 2) (A 0 3)) (qo7 (A 1 1) (A 1 2) (A 1 3)) (qo7 (A 2 1) (A 2 2) (A 2 3))=m3 at hk ⊢
 have p0:=qw0 (x:=m0); have p1:=qw0 (x:=m1); have p2:=qw0 (x:=m2); have p3:=qw0 (x:=m3)
 have n0:=qw0 (x:=-m0); have n1:=qw0 (x:=-m1); have n2:=qw0 (x:=-m2); have n3:=qw0 (x:=-m3)
 have h0:=h 0 0 (by omega) (by omega); have h1:=h 1 0 (by omega) (by omega); have h2:=h 2 0 (by omega) (by omega); have h3:=h 3 0 (by omega) (by omega)
 unfold Bit at h0 h1 h2 h3
 rcases h0 with e0 | e0 <;> rcases h1 with e1 | e1 <;> rcases h2 with e2 | e2 <;> rcases h3 with e3 | e3 <;> rw[e0,e1,e2,e3] <;> omega
def One (x:Int):Prop:=x=1\/x=-1
theorem w55 (e d:Nat->Int) (B:Nat->Nat->Int):det 4 (λi j=>-2*(e i*d j*B i j))=16*(e 0*e 1*e 2*e 3*(d 0*d 1*d 2*d 3))*det 4 B:=by
 rw[x51,x51,xp4,xp4,xp4,xp4,xp4,xp4,xp4,xp4]
 simp only[skp]
 simp
 grind
theorem wi1 {n:Nat} (A:Nat->Nat->Int) (c:Nat->Int) (hn:0<n):∀k,k<=n->det n (λi j=>if 0<i/\i<k then A i j-c i*A 0 j else A i j)=det n A
 | 0,_=>qh7 n λi j _ _=>by rw[if_neg (by omega)]
 | k+1,hk=>by
  rw[<- wi1 A c hn k (by omega)]
  by_cases e:k=0
  ·exact qh7 n λi j _ _=>by rw[if_neg (by omega),if_neg (by omega)]
  ·have h1:(λi j=>if 0<i/\i<k+1 then A i j-c i*A 0 j else A i j)=upd (λi j=>if 0<i/\i<k then A i j-c i*A 0 j else A i j) k (λj=>1*A k j+(- c k)*A 0 j):=by
    funext i j; unfold upd
    by_cases q:i=k
    ·rw[if_pos q,q,if_pos (by omega)]; grind
    ·rw[if_neg q]
     try dsimp only
     by_cases q2:0<i/\i<k
     ·rw[if_pos q2,if_pos (by omega)]
     ·rw[if_neg q2,if_neg (by omega)]
   have h2:upd (λi j=>if 0<i/\i<k then A i j-c i*A 0 j else A i j) k (A k)=λi j=>if 0<i/\i<k then A i j-c i*A 0 j else A i j:=by
    funext i j; unfold upd
    by_cases q:i=k
    ·rw[if_pos q,q,if_neg (by omega)]
    ·rw[if_neg q]
   have h3:det n (upd (λi j=>if 0<i/\i<k then A i j-c i*A 0 j else A i j) k (A 0))=0:=q76 (r:=k) (s:=0) (by omega) hn e λj hj=>by
    unfold upd
    rw[if_pos rfl,if_neg (Ne.symm e)]
    try dsimp only
    rw[if_neg (by omega)]
   rw[h1,qs4 n _ k (by omega),h2,h3]; omega
theorem xu6 {x:Int} (h:One x):x*x=1:=by rcases h with rfl | rfl <;> rfl
theorem q78 {x:Int} (h:One x):x.natAbs=1:=by rcases h with rfl | rfl <;> rfl
theorem xp6 {A:Nat->Nat->Int} (h:∀i j,i<5->j<5->One (A i j)):(det 5 A).natAbs<=64:=by
 obtain⟨B,hB⟩:∃B:Nat->Nat->Int,∀i j,B i j=if A (i+1) 0*A (i+1) (j+1)=A 0 0*A 0 (j+1) then 0 else 1:=⟨_,λ_ _=>rfl⟩
 have hbit:∀i j,i<4->j<4->Bit (B i j):=λi j _ _=>by
  rw[hB]; unfold Bit; split
  ·exact .inl rfl
  ·exact .inr rfl
 rw[<- wi1 A (λi=>A i 0*A 0 0) (by omega) 5 (Nat.le_refl _),det,qq0 (k:=0) (by omega) λi hi hne=>?_]
 ·try dsimp only
  have e:det 4 (λa b=>if 0<skp 0 a/\skp 0 a<5 then A (skp 0 a) (b+1)-A (skp 0 a) 0*A 0 0*A 0 (b+1) else A (skp 0 a) (b+1))=det 4 (λi j=>-2*((λi=>A (i+1) 0) i*(λj=>A 0 0*A 0 (j+1)) j*B i j)):=qh7 4 λa b ha hb=>by
   have es:skp 0 a=a+1:=by unfold skp; rw[if_neg (Nat.not_lt_zero _)]
   rw[es,if_pos (by omega),hB]
   try dsimp only
   have o1:=h (a+1) 0 (by omega) (by omega)
   have o2:=h (a+1) (b+1) (by omega) (by omega)
   have o3:=h 0 0 (by omega) (by omega)
   have o4:=h 0 (b+1) (by omega) (by omega)
   unfold One at o1 o2 o3 o4
   rcases o1 with q1 | q1 <;> rcases o2 with q2 | q2 <;> rcases o3 with q3 | q3 <;> rcases o4 with q4 | q4 <;> rw[q1,q2,q3,q4] <;> decide
  rw[e,w55,if_neg (by omega)]
  have b4:=xp5 hbit
  have o:=λi j (hi:i<5) (hj:j<5)=>q78 (h i j hi hj)
  simp only[Int.natAbs_mul,wi0,o 0 0 (by omega) (by omega),o 1 0 (by omega) (by omega),o 2 0 (by omega) (by omega),o 3 0 (by omega) (by omega),o 4 0 (by omega) (by omega),o 0 1 (by omega) (by omega),o 0 2 (by omega) (by omega),o 0 3 (by omega) (by omega),o 0 4 (by omega) (by omega),Nat.mul_one,Nat.one_mul,show(0+1)=1 from rfl,show(1+1)=2 from rfl,show(2+1)=3 from rfl,show(3+1)=4 from rfl,show(16:Int).natAbs=16 from rfl]
  omega
 ·try dsimp only
  rw[if_pos (by omega),Int.mul_assoc (A i 0),xu6 (h 0 0 (by omega) (by omega))]
  simp
theorem ws7:∀k,k<=5->∀A:Nat->Nat->Int,(∀i j,i<5->j<5->(A i j).natAbs<=1)->(∀i j,i<5->k<=i->j<5->A i j≠0)->(det 5 A).natAbs<=64
 | 0,_,A,h1,h2=>xp6 λi j hi hj=>by
  have:=h1 i j hi hj
  have:=h2 i j hi (Nat.zero_le _) hj
  unfold One; omega
 | k+1,hk,A,h1,h2=>by
  have key:∀t,t<=5->∀v:Nat->Int,(∀j,j<5->(v j).natAbs<=1)->(∀j,j<5->t<=j->v j≠0)->(det 5 (upd A k v)).natAbs<=64:=λt=>by
   induction t with
   | zero=>
    intro _ v hv1 hv2
    refine ws7 k (by omega) _ (λi j hi hj=>?_) λi j hi hki hj=>?_
    ·unfold upd; split
     ·exact hv1 j hj
     ·exact h1 i j hi hj
    ·unfold upd; split
     ·exact hv2 j hj (Nat.zero_le _)
     ·exact h2 i j hi (by omega) hj
   | succ t ih=>
    intro ht v hv1 hv2
    by_cases e:v t=0
    ·have a1:=ih (by omega) (λj=>if j=t then 1 else v j) (λj hj=>by
      (try dsimp only); split
      ·decide
      ·exact hv1 j hj) (λj hj htj=>by
      (try dsimp only); split
      ·decide
      ·exact hv2 j hj (by omega))
     have a2:=ih (by omega) (λj=>if j=t then -1 else v j) (λj hj=>by
      (try dsimp only); split
      ·decide
      ·exact hv1 j hj) (λj hj htj=>by
      (try dsimp only); split
      ·decide
      ·exact hv2 j hj (by omega))
     have e1:=qs4 5 A k (by omega) 1 1 (λj=>if j=t then 1 else v j) (λj=>if j=t then -1 else v j)
     have e2:=qs4 5 A k (by omega) 2 0 v v
     have e3:(λj=>(1:Int)*(if j=t then 1 else v j)+1*(if j=t then -1 else v j))=λj=>2*v j+0*v j:=by
      funext j
      by_cases q:j=t
      ·rw[if_pos q,if_pos q,q,e]; rfl
      ·rw[if_neg q,if_neg q]; omega
     rw[e3,e2] at e1
     omega
    ·exact ih (by omega) v hv1 λj hj htj=>by
      rcases Nat.lt_or_ge t j with q | q
      ·exact hv2 j hj q
      ·rw[show j=t by omega]; exact e
  have:=key 5 (Nat.le_refl _) (A k) (λj hj=>h1 k j (by omega) hj) λj hj h5=>by omega
  rwa [qv2] at this
def prF:Nat->(Nat->Int)->Int
 | 0,_=>1
 | n+1,d=>d 0*prF n λj=>d (j+1)
def prL:Nat->(Nat->Int)->Int
 | 0,_=>1
 | n+1,d=>prL n d*d n
theorem xb1:∀(n:Nat) (d:Nat->Int) (c:Nat),(∀j,j<n->(d j).natAbs=c)->(prF n d).natAbs=c ^ n
 | 0,_,c,_=>by rw[Nat.pow_zero]; rfl
 | n+1,d,c,h=>by
  rw[prF,Int.natAbs_mul,h 0 (by omega),xb1 n _ c λj hj=>h (j+1) (by omega),Nat.pow_succ,Nat.mul_comm]
theorem xb3:∀(n:Nat) (d:Nat->Int),(∀j,j<n->(d j).natAbs=1)->(prL n d).natAbs=1
 | 0,_,_=>rfl
 | n+1,d,h=>by
  rw[prL,Int.natAbs_mul,h n (by omega),xb3 n d λj hj=>h j (by omega)]
theorem w21:∀(n:Nat) (d:Nat->Int) (A:Nat->Nat->Int),det n (λi j=>d j*A i j)=prF n d*det n A
 | 0,_,_=>rfl
 | n+1,d,A=>by
  rw[det,det,prF,<- qs6]
  refine qe8 λi hi=>?_
  try dsimp only
  rw[w21 n (λj=>d (j+1)) (λa b=>A (skp i a) (b+1))]
  grind
theorem w22 {n:Nat} (e:Nat->Int) (A:Nat->Nat->Int):∀k,k<=n->det n (λi j=>(if i<k then e i else 1)*A i j)=prL k e*det n A
 | 0,_=>by
  rw[prL,Int.one_mul]
  exact qh7 n λi j _ _=>by rw[if_neg (Nat.not_lt_zero _),Int.one_mul]
 | k+1,hk=>by
  obtain⟨F,hF⟩:∃F:Nat->Nat->Int,F=λi j=>(if i<k then e i else 1)*A i j:=⟨_,rfl⟩
  have ih:=w22 (n:=n) e A k (by omega)
  rw[<- hF] at ih
  have h1:=qs4 n F k (by omega) (e k) 0 (F k) (λ_=>0)
  have h2:(0:Int)*det n (upd F k λ_=>0)=0:=Int.zero_mul _
  rw[qv2,ih] at h1
  have h1:=h1.trans (show e k*(prL k e*det n A)+0*det n (upd F k λ_=>0)=e k*(prL k e*det n A) by omega)
  rw[prL,show prL k e*e k*det n A=e k*(prL k e*det n A) by grind,<- h1]
  refine qh7 n λi j hi hj=>?_
  unfold upd
  by_cases q:i=k
  ·rw[if_pos q,q,hF]
   try dsimp only
   rw[if_pos (Nat.lt_succ_self _),if_neg (Nat.lt_irrefl _)]
   grind
  ·rw[if_neg q,hF]
   try dsimp only
   by_cases q2:i<k
   ·rw[if_pos q2,if_pos (by omega)]
   ·rw[if_neg q2,if_neg (by omega)]
theorem xp7 {n:Nat} {A:Nat->Nat->Int} (h:∀i j,i<n+1->j<n+1->One (A i j)):∃B:Nat->Nat->Int,(∀i j,i<n->j<n->Bit (B i j))/\(det (n+1) A).natAbs=2 ^ n*(det n B).natAbs:=by
 obtain⟨B,hB⟩:∃B:Nat->Nat->Int,∀i j,B i j=if A (i+1) 0*A (i+1) (j+1)=A 0 0*A 0 (j+1) then 0 else 1:=⟨_,λ_ _=>rfl⟩
 have hbit:∀i j,i<n->j<n->Bit (B i j):=λi j _ _=>by
  rw[hB]; unfold Bit; split
  ·exact .inl rfl
  ·exact .inr rfl
 refine⟨B,hbit,?_⟩
 rw[<- wi1 A (λi=>A i 0*A 0 0) (by omega) (n+1) (Nat.le_refl _),det,qq0 (k:=0) (by omega) λi hi hne=>?_]
 ·try dsimp only
  have e:det n (λa b=>if 0<skp 0 a/\skp 0 a<n+1 then A (skp 0 a) (b+1)-A (skp 0 a) 0*A 0 0*A 0 (b+1) else A (skp 0 a) (b+1))=det n (λi j=>(if i<n then(λi=>A (i+1) 0) i else 1)*(λi j=>(λj=>-2*(A 0 0*A 0 (j+1))) j*B i j) i j):=qh7 n λa b ha hb=>by
   have es:skp 0 a=a+1:=by unfold skp; rw[if_neg (Nat.not_lt_zero _)]
   rw[es,if_pos (by omega),if_pos ha]
   try dsimp only
   rw[hB]
   have o1:=h (a+1) 0 (by omega) (by omega)
   have o2:=h (a+1) (b+1) (by omega) (by omega)
   have o3:=h 0 0 (by omega) (by omega)
   have o4:=h 0 (b+1) (by omega) (by omega)
   unfold One at o1 o2 o3 o4
   rcases o1 with q1 | q1 <;> rcases o2 with q2 | q2 <;> rcases o3 with q3 | q3 <;> rcases o4 with q4 | q4 <;> rw[q1,q2,q3,q4] <;> decide
  rw[e,w22 _ _ n (Nat.le_refl _),w21,if_neg (by omega)]
  have p1:=xb3 n (λi=>A (i+1) 0) λj hj=>q78 (h (j+1) 0 (by omega) (by omega))
  have p2:=xb1 n (λj=>-2*(A 0 0*A 0 (j+1))) 2 λj hj=>by
   have a:=q78 (h 0 0 (by omega) (by omega))
   have b:=q78 (h 0 (j+1) (by omega) (by omega))
   try dsimp only
   rw[Int.natAbs_mul,Int.natAbs_mul,a,b]; rfl
  have o:=q78 (h 0 0 (by omega) (by omega))
  rw[Int.natAbs_mul,Int.natAbs_mul,Int.natAbs_mul,Int.natAbs_mul,wi0,o,p1,p2,Nat.one_mul,Nat.one_mul]
 ·try dsimp only
  rw[if_pos (by omega),Int.mul_assoc (A i 0),xu6 (h 0 0 (by omega) (by omega))]
  simp
def d4 (p q r s:Nat):Int:=((p % 2:Nat):Int)*d3 (q / 2) (r / 2) (s / 2)-((q % 2:Nat):Int)*d3 (p / 2) (r / 2) (s / 2)+((r % 2:Nat):Int)*d3 (p / 2) (q / 2) (s / 2)-((s % 2:Nat):Int)*d3 (p / 2) (q / 2) (r / 2)
def ya4 (p q r s t:Nat):Bool:=
 decide (q77 (d4 q r s t)+q77 (- d4 p r s t)+q77 (d4 p q s t)+q77 (- d4 p q r t)+q77 (d4 p q r s)<=5) && decide (q77 (- d4 q r s t)+q77 (d4 p r s t)+q77 (- d4 p q s t)+q77 (d4 p q r t)+q77 (- d4 p q r s)<=5)
theorem xp8:((List.range 16).all λp=>(List.range 16).all λq=>Nat.blt q p || (List.range 16).all λr=>Nat.blt r q || (List.range 16).all λs=>Nat.blt s r || (List.range 16).all λt=>Nat.blt t s || ya4 p q r s t)=true:=by decide +kernel
theorem x1d {p q r s t:Nat} (h1:p<=q) (h2:q<=r) (h3:r<=s) (h4:s<=t) (h5:t<16):ya4 p q r s t=true:=by
 have no:∀{a b:Nat},a<=b->Nat.blt b a=false:=λ{a b} h=>by
  cases e:Nat.blt b a with
  | false=>rfl
  | true=>have:=Nat.le_of_ble_eq_true e; omega
 have a1:=List.all_eq_true.1 (List.all_eq_true.1 xp8 p (List.mem_range.2 (by omega))) q (List.mem_range.2 (by omega))
 rw[no h1,Bool.false_or] at a1
 have a2:=List.all_eq_true.1 a1 r (List.mem_range.2 (by omega))
 rw[no h2,Bool.false_or] at a2
 have a3:=List.all_eq_true.1 a2 s (List.mem_range.2 (by omega))
 rw[no h3,Bool.false_or] at a3
 have a4:=List.all_eq_true.1 a3 t (List.mem_range.2 (by omega))
 rwa [no h4,Bool.false_or] at a4
def code4 (x y z w:Int):Nat:=(x+2*y+4*z+8*w).toNat
theorem w23 {x y z w:Int} (hx:Bit x) (hy:Bit y) (hz:Bit z) (hw:Bit w):code4 x y z w<16/\code4 x y z w / 2=qo7 y z w/\((code4 x y z w % 2:Nat):Int)=x:=by
 unfold code4 qo7 Bit at *; omega
theorem x1e {A:Nat->Nat->Int} (h:∀i j,i<4->j<4->Bit (A i j)):d4 (code4 (A 0 0) (A 0 1) (A 0 2) (A 0 3)) (code4 (A 1 0) (A 1 1) (A 1 2) (A 1 3)) (code4 (A 2 0) (A 2 1) (A 2 2) (A 2 3)) (code4 (A 3 0) (A 3 1) (A 3 2) (A 3 3))=det 4 A:=by
 have hc:=λi (hi:i<4)=>w23 (h i 0 hi (by omega)) (h i 1 hi (by omega)) (h i 2 hi (by omega)) (h i 3 hi (by omega))
 obtain⟨_,a1,a2⟩:=hc 0 (by omega)
 obtain⟨_,b1,b2⟩:=hc 1 (by omega)
 obtain⟨_,c1,c2⟩:=hc 2 (by omega)
 obtain⟨_,e1,e2⟩:=hc 3 (by omega)
 unfold d4
 rw[a1,a2,b1,b2,c1,c2,e1,e2,x51]
 have m:∀i,i<4->det 3 (λa b=>A (skp i a) (b+1))=d3 (qo7 (A (skp i 0) 1) (A (skp i 0) 2) (A (skp i 0) 3)) (qo7 (A (skp i 1) 1) (A (skp i 1) 2) (A (skp i 1) 3)) (qo7 (A (skp i 2) 1) (A (skp i 2) 2) (A (skp i 2) 3)):=λi hi=>
  (xb0 (A:=λa b=>A (skp i a) (b+1)) λa b ha hb=>h _ _ (q74 ha) (by omega)).symm
 rw[m 0 (by omega),m 1 (by omega),m 2 (by omega),m 3 (by omega)]
 rfl
theorem yo3 (A:Nat->Nat->Int):det 5 A=A 0 0*det 4 (λa b=>A (skp 0 a) (b+1))-A 1 0*det 4 (λa b=>A (skp 1 a) (b+1))+A 2 0*det 4 (λa b=>A (skp 2 a) (b+1))-A 3 0*det 4 (λa b=>A (skp 3 a) (b+1))+A 4 0*det 4 (λa b=>A (skp 4 a) (b+1)):=by
 rw[det]
 simp only[sm,show sgn 0=1 from rfl,show sgn 1=-1 from rfl,show sgn 2=1 from rfl,show sgn 3=-1 from rfl,show sgn 4=1 from rfl]
 grind
def cdR (A:Nat->Nat->Int) (i:Nat):Nat:=code4 (A i 1) (A i 2) (A i 3) (A i 4)
theorem q79 {x m:Int} (h:Bit x):x*m<=q77 m/\- (x*m)<=q77 (- m):=by
 have h1:=qw0 (x:=m)
 have h2:=qw0 (x:=-m)
 rcases h with rfl | rfl
 ·rw[Int.zero_mul]; omega
 ·rw[Int.one_mul]; omega
theorem w0k {A:Nat->Nat->Int} (h:∀i j,i<5->j<5->Bit (A i j)) (hs:∀i,i<4->cdR A i<=cdR A (i+1)):(det 5 A).natAbs<=5:=by
 have hk:=x1d (hs 0 (by omega)) (hs 1 (by omega)) (hs 2 (by omega)) (hs 3 (by omega)) (w23 (h 4 1 (by omega) (by omega)) (h 4 2 (by omega) (by omega)) (h 4 3 (by omega) (by omega)) (h 4 4 (by omega) (by omega))).1
 unfold ya4 at hk
 rw[Bool.and_eq_true,decide_eq_true_eq,decide_eq_true_eq] at hk
 have m:∀i,i<5->det 4 (λa b=>A (skp i a) (b+1))=d4 (cdR A (skp i 0)) (cdR A (skp i 1)) (cdR A (skp i 2)) (cdR A (skp i 3)):=λi hi=>
  (x1e (A:=λa b=>A (skp i a) (b+1)) λa b ha hb=>h _ _ (q74 ha) (by omega)).symm
 rw[yo3,m 0 (by omega),m 1 (by omega),m 2 (by omega),m 3 (by omega),m 4 (by omega)]
 change _/\_ at hk
 have e0:d4 (cdR A (skp 0 0)) (cdR A (skp 0 1)) (cdR A (skp 0 2)) (cdR A (skp 0 3))=d4 (cdR A 1) (cdR A 2) (cdR A 3) (cdR A 4):=rfl
 have e1:d4 (cdR A (skp 1 0)) (cdR A (skp 1 1)) (cdR A (skp 1 2)) (cdR A (skp 1 3))=d4 (cdR A 0) (cdR A 2) (cdR A 3) (cdR A 4):=rfl
 have e2:d4 (cdR A (skp 2 0)) (cdR A (skp 2 1)) (cdR A (skp 2 2)) (cdR A (skp 2 3))=d4 (cdR A 0) (cdR A 1) (cdR A 3) (cdR A 4):=rfl
 have e3:d4 (cdR A (skp 3 0)) (cdR A (skp 3 1)) (cdR A (skp 3 2)) (cdR A (skp 3 3))=d4 (cdR A 0) (cdR A 1) (cdR A 2) (cdR A 4):=rfl
 have e4:d4 (cdR A (skp 4 0)) (cdR A (skp 4 1)) (cdR A (skp 4 2)) (cdR A (skp 4 3))=d4 (cdR A 0) (cdR A 1) (cdR A 2) (cdR A 3):=rfl
 rw[e0,e1,e2,e3,e4]
 generalize d4 (cdR A 1) (cdR A 2) (cdR A 3) (cdR A 4)=m0 at hk ⊢
 generalize d4 (cdR A 0) (cdR A 2) (cdR A 3) (cdR A 4)=m1 at hk ⊢
 generalize d4 (cdR A 0) (cdR A 1) (cdR A 3) (cdR A 4)=m2 at hk ⊢
 generalize d4 (cdR A 0) (cdR A 1) (cdR A 2) (cdR A 4)=m3 at hk ⊢
 generalize d4 (cdR A 0) (cdR A 1) (cdR A 2) (cdR A 3)=m4 at hk ⊢
 have b0:=q79 (m:=m0) (h 0 0 (by omega) (by omega))
 have b1:=q79 (m:=m1) (h 1 0 (by omega) (by omega))
 have b2:=q79 (m:=m2) (h 2 0 (by omega) (by omega))
 have b3:=q79 (m:=m3) (h 3 0 (by omega) (by omega))
 have b4:=q79 (m:=m4) (h 4 0 (by omega) (by omega))
 generalize A 0 0*m0=x0 at *
 generalize A 1 0*m1=x1 at *
 generalize A 2 0*m2=x2 at *
 generalize A 3 0*m3=x3 at *
 generalize A 4 0*m4=x4 at *
 omega
theorem xu7 (g:Nat->Nat) (n:Nat):∀d s,s+d+1=n->∃t,s<=t/\t<n/\∀j,s<=j->j<n->g t<=g j
 | 0,s,h=>⟨s,Nat.le_refl _,by omega,λj h1 h2=>by rw[show j=s by omega]; exact Nat.le_refl _⟩
 | d+1,s,h=>by
  obtain⟨t,t1,t2,t3⟩:=xu7 g n d (s+1) (by omega)
  by_cases q:g s<=g t
  ·refine⟨s,Nat.le_refl _,by omega,λj h1 h2=>?_⟩
   rcases Nat.eq_or_lt_of_le h1 with e | e
   ·rw[<- e]; exact Nat.le_refl _
   ·exact Nat.le_trans q (t3 j e h2)
  ·refine⟨t,by omega,t2,λj h1 h2=>?_⟩
   rcases Nat.eq_or_lt_of_le h1 with e | e
   ·rw[<- e]; omega
   ·exact t3 j e h2
theorem xp9 {n:Nat} (A:Nat->Nat->Int) {s t:Nat} (hs:s<n) (ht:t<n) (hne:s≠t):(det n (upd (upd A s (A t)) t (A s))).natAbs=(det n A).natAbs:=by
 have h:=wh8 (n:=n) (A:=A) (r:=s) (s:=t) hs ht hne (λw=>q76 (r:=s) (s:=t) hs ht hne λj hj=>by
  unfold upd
  rw[if_neg hne,if_pos rfl,if_pos rfl]) (A s) (A t)
 have e:upd (upd A s (A s)) t (A t)=A:=by rw[qv2]; exact qv2 A t
 rw[e] at h
 rw[h,Int.natAbs_neg]
theorem q41 {n:Nat} (Q:(Nat->Int)->Prop) (cd:(Nat->Int)->Nat) {B:Nat} (hB:∀A:Nat->Nat->Int,(∀i,i<n->Q (A i))->(∀i j,i<j->j<n->cd (A i)<=cd (A j))->(det n A).natAbs<=B) :
  ∀d s,s+d=n->∀A:Nat->Nat->Int,(∀i,i<n->Q (A i))->(∀i j,i<s->i<j->j<n->cd (A i)<=cd (A j))->(det n A).natAbs<=B
 | 0,s,hs,A,h1,h2=>hB A h1 λi j hi hj=>h2 i j (by omega) hi hj
 | d+1,s,hs,A,h1,h2=>by
  obtain⟨t,t1,t2,t3⟩:=xu7 (λi=>cd (A i)) n d s (by omega)
  try dsimp only at t3
  by_cases e:s=t
  ·exact q41 Q cd hB d (s+1) (by omega) A h1 λi j hi hij hj=>by
    rcases Nat.lt_succ_iff_lt_or_eq.1 hi with q | q
    ·exact h2 i j q hij hj
    ·rw[q]
     have:=t3 j (by omega) hj
     rwa [<- e] at this
  ·rw[<- xp9 A (show s<n by omega) t2 e]
   have at_:∀i,upd (upd A s (A t)) t (A s) i=A (if i=t then s else if i=s then t else i):=λi=>by
    funext j
    unfold upd
    by_cases q:i=t
    ·rw[if_pos q,if_pos q]
    ·rw[if_neg q,if_neg q]
     by_cases q2:i=s
     ·rw[if_pos q2,if_pos q2]
     ·rw[if_neg q2,if_neg q2]
   refine q41 Q cd hB d (s+1) (by omega) _ (λi hi=>?_) λi j hi hij hj=>?_
   ·rw[at_]
    refine h1 _ ?_
    split
    ·omega
    ·split <;> omega
   ·rw[at_,at_]
    by_cases q:i=s
    ·rw[if_neg (by omega),if_pos q]
     refine t3 _ ?_ ?_
     ·split
      ·omega
      ·split <;> omega
     ·split
      ·omega
      ·split <;> omega
    ·rw[if_neg (by omega),if_neg q]
     refine h2 i _ (by omega) ?_ ?_
     ·split
      ·omega
      ·split <;> omega
     ·split
      ·omega
      ·split <;> omega
theorem xq0 {A:Nat->Nat->Int} (h:∀i j,i<5->j<5->Bit (A i j)):(det 5 A).natAbs<=5:=
 q41 (n:=5) (λr=>∀j,j<5->Bit (r j)) (λr=>code4 (r 1) (r 2) (r 3) (r 4)) (B:=5) (λA h1 h2=>w0k (λi j hi hj=>h1 i hi j hj) λi hi=>h2 i (i+1) (by omega) (by omega)) 5 0 rfl A (λi hi j hj=>h i j hi hj) λi j hi=>absurd hi (Nat.not_lt_zero _)
theorem ws8 {n B:Nat} (hB:∀A:Nat->Nat->Int,(∀i j,i<n->j<n->One (A i j))->(det n A).natAbs<=B):∀k,k<=n->∀A:Nat->Nat->Int,(∀i j,i<n->j<n->(A i j).natAbs<=1)->(∀i j,i<n->k<=i->j<n->A i j≠0)->(det n A).natAbs<=B
 | 0,_,A,h1,h2=>hB A λi j hi hj=>by
  have:=h1 i j hi hj
  have:=h2 i j hi (Nat.zero_le _) hj
  unfold One; omega
 | k+1,hk,A,h1,h2=>by
  have key:∀t,t<=n->∀v:Nat->Int,(∀j,j<n->(v j).natAbs<=1)->(∀j,j<n->t<=j->v j≠0)->(det n (upd A k v)).natAbs<=B:=λt=>by
   induction t with
   | zero=>
    intro _ v hv1 hv2
    refine ws8 hB k (by omega) _ (λi j hi hj=>?_) λi j hi hki hj=>?_
    ·unfold upd; split
     ·exact hv1 j hj
     ·exact h1 i j hi hj
    ·unfold upd; split
     ·exact hv2 j hj (Nat.zero_le _)
     ·exact h2 i j hi (by omega) hj
   | succ t ih=>
    intro ht v hv1 hv2
    by_cases e:v t=0
    ·have a1:=ih (by omega) (λj=>if j=t then 1 else v j) (λj hj=>by
      (try dsimp only); split
      ·decide
      ·exact hv1 j hj) (λj hj htj=>by
      (try dsimp only); split
      ·decide
      ·exact hv2 j hj (by omega))
     have a2:=ih (by omega) (λj=>if j=t then -1 else v j) (λj hj=>by
      (try dsimp only); split
      ·decide
      ·exact hv1 j hj) (λj hj htj=>by
      (try dsimp only); split
      ·decide
      ·exact hv2 j hj (by omega))
     have e1:=qs4 n A k (by omega) 1 1 (λj=>if j=t then 1 else v j) (λj=>if j=t then -1 else v j)
     have e2:=qs4 n A k (by omega) 2 0 v v
     have e3:(λj=>(1:Int)*(if j=t then 1 else v j)+1*(if j=t then -1 else v j))=λj=>2*v j+0*v j:=by
      funext j
      by_cases q:j=t
      ·rw[if_pos q,if_pos q,q,e]; rfl
      ·rw[if_neg q,if_neg q]; omega
     rw[e3,e2] at e1
     omega
    ·exact ih (by omega) v hv1 λj hj htj=>by
      rcases Nat.lt_or_ge t j with q | q
      ·exact hv2 j hj q
      ·rw[show j=t by omega]; exact e
  have:=key n (Nat.le_refl _) (A k) (λj hj=>h1 k j (by omega) hj) λj hj h5=>by omega
  rwa [qv2] at this
theorem xb4 {n:Nat} (hn:n<=6) {A:Nat->Nat->Int} (h:∀i j,i<n->j<n->(A i j).natAbs<=1):(det n A).natAbs<=160:=by
 rcases Nat.lt_or_ge n 5 with q | q
 ·have:=xa9 n h
  have hf:∀k:Fin 5,ya3 k.val<=160:=by decide
  exact Nat.le_trans this (hf ⟨n,q⟩)
 ·rcases Nat.lt_or_ge n 6 with q2 | q2
  ·obtain rfl:n=5:=by omega
   exact Nat.le_trans (ws7 5 (Nat.le_refl _) A h λi j hi h5=>by omega) (by decide)
  ·obtain rfl:n=6:=by omega
   refine ws8 (n:=6) (B:=160) (λA hA=>?_) 6 (Nat.le_refl _) A h λi j hi h5=>by omega
   obtain⟨B,hB,e⟩:=xp7 (n:=5) hA
   have:=xq0 hB
   rw[e]
   omega
end Go.Proofs.YtmijnbjlhnpokaaGreat
set_option linter.unusedSimpArgs false
namespace Go.Proofs.YtmijnbjlhnpokaaGreat
open Go Go.RowKit Ls Eng
structure Pl (w:World) (B n g c:Nat) (vs:List Value) (rs:List (List Int)):Prop where
 head:w.ownsRow B 34 1 (.slice (some ⟨g,0,none⟩) n c) n vs
 rows:RowsOwn w B 3 vs rs
 apart:∀(i j:Nat) u v b,i≠j->vs[i]? = some u->vs[j]? = some v->u.ownBlock=some b->v.ownBlock=some b->False
theorem Pl.len {w:World} {B n g c:Nat} {vs:List Value} {rs:List (List Int)} (h:Pl w B n g c vs rs):vs.length=n/\rs.length=n:=by
 have h1:=h.head.1
 have h2:=h.rows.1
 omega
theorem q1c {w:World} {B e size n:Nat} {v:Value} {xs:List Value} (h:w.ownsRow B e size v n xs) {b:Nat} (hb:v.ownBlock=some b):B<=b/\∃cur,w.heap[b]? = some (.cells cur e (0,0)):=by
 rcases h.2 with⟨h0,_⟩ | ⟨g,cap,cur,hv,hB,hg,_⟩
 ·subst h0; simp[Value.ownBlock] at hb
 ·subst hv
  simp only[Value.ownBlock,Option.some.injEq] at hb
  subst hb
  exact⟨hB,cur,hg⟩
theorem xb5 {w w':World} {B e size n:Nat} {v:Value} {xs:List Value} (h:w.ownsRow B e size v n xs) (hk:∀b,v.ownBlock=some b->w'.heap[b]? = w.heap[b]?):w'.ownsRow B e size v n xs:=by
 refine⟨h.1,?_⟩
 rcases h.2 with h0 | ⟨g,cap,cur,hv,hB,hg,r⟩
 ·exact .inl h0
 ·exact .inr ⟨g,cap,cur,hv,hB,(hk g (by rw[hv]; rfl)).trans hg,r⟩
theorem Pl.step {w w3:World} {B n g c k:Nat} {vs:List Value} {rs:List (List Int)} {v v':Value} {l:List Int} {A':Option Addr} {c':Nat} (h:Pl w B n g c vs rs) (hk:k<n) (hv:vs[k]? = some v) (hl:nL rs k=l) (x:Int)
  (hv':v'=.slice A' (l.length+1) c') (hown:w3.ownsRow B 3 1 v' (l.length+1) (ints (l++[x]))) (hg:w.grownBy w3 v.ownBlock) (hb:∀b,v'.ownBlock=some b->v.ownBlock=some b\/w.heap.size<=b):Pl (w3.setCell ⟨g,k,none⟩ v') B n g c (vs.set k v') (rs.set k (l++[x]))/\w3.grownBy (w3.setCell ⟨g,k,none⟩ v') (some g):=by
 obtain⟨hvl,hrl⟩:=h.len
 obtain⟨A,cc,hvk,hvo⟩:=h.rows.2 k (by omega)
 rw[hv] at hvk
 obtain rfl:=Option.some.inj hvk
 have hgb:B<=g/\∃cur,w.heap[g]? = some (.cells cur 34 (0,0)):=q1c h.head rfl
 have hgne:∀b,(Value.slice A (nthL rs k).length cc).ownBlock=some b->b≠g:=λb hb e=>by
  obtain⟨_,cur,h1⟩:=q1c hvo hb
  obtain⟨_,cur2,h2⟩:=hgb
  subst e
  rw[h2] at h1
  injection h1 with h1
  injection h1 with _ h1
  exact absurd h1 (by decide)
 have hhead3:w3.ownsRow B 34 1 (.slice (some ⟨g,0,none⟩) n c) n vs:=xb5 h.head λb hb=>by
  simp only[Value.ownBlock,Option.some.injEq] at hb
  subst hb
  obtain⟨_,cur,h2⟩:=hgb
  exact hg.block _ (Array.getElem?_eq_some_iff.1 h2).1 λe=>hgne _ e.symm rfl
 have hst:=hhead3.stored k v'
 have hkp:KeepsT 3 w3 (w3.setCell ⟨g,k,none⟩ v'):=KeepsT.stored (e:=3) (by decide) hhead3 hst.2
 refine⟨⟨hst.1,⟨by simp[h.rows.1],λr hr=>?_⟩,λi j u u' b hij hi hj hbi hbj=>?_⟩,hst.2⟩
 ·have hr2:r<rs.length:=by simpa using hr
  by_cases e:r=k
  ·subst e
   have e1:nthL (rs.set r (l++[x])) r=l++[x]:=(wf6 rs r (l++[x]) r hr2).trans (if_pos rfl)
   rw[e1]
   refine⟨A',c',by rw[List.getElem?_set_self (by omega),hv']; simp,?_⟩
   have h9:=q6e hown hkp
   rw[show(l++[x]).length=l.length+1 by simp,<- hv']
   exact h9
  ·obtain⟨A1,c1,q1,q2⟩:=h.rows.2 r hr2
   have e1:nthL (rs.set k (l++[x])) r=nthL rs r:=(wf6 rs k (l++[x]) r hr2).trans (if_neg e)
   rw[e1]
   refine⟨A1,c1,by rw[List.getElem?_set_ne (Ne.symm e)]; exact q1,q6e (xb5 q2 λb hb=>?_) hkp⟩
   obtain⟨_,cur,h2⟩:=q1c q2 hb
   exact hg.block _ (Array.getElem?_eq_some_iff.1 h2).1 λe2=>h.apart r k _ _ b e q1 hv hb e2.symm
 ·have old:∀(q:Nat) u,(vs.set k v')[q]? = some u->q≠k->vs[q]? = some u:=λq u hq hne=>by rwa [List.getElem?_set_ne (Ne.symm hne)] at hq
  have new:∀u,(vs.set k v')[k]? = some u->u=v':=λu hq=>by
   rw[List.getElem?_set_self (by omega)] at hq
   exact(Option.some.inj hq).symm
  have lt:∀(q:Nat) u,vs[q]? = some u->u.ownBlock=some b->b<w.heap.size:=λq u hq hb=>by
   have hql:=(List.getElem?_eq_some_iff.1 hq).1
   obtain⟨A1,c1,q1,q2⟩:=h.rows.2 q (by omega)
   rw[hq] at q1
   obtain rfl:=Option.some.inj q1
   obtain⟨_,cur,h2⟩:=q1c q2 hb
   exact(Array.getElem?_eq_some_iff.1 h2).1
  by_cases ei:i=k
  ·subst ei
   have hj':=old j _ hj (Ne.symm hij)
   rw[new _ hi] at hbi
   rcases hb b hbi with q | q
   ·exact h.apart i j _ _ b hij hv hj' q hbj
   ·have:=lt j _ hj' hbj; omega
  ·have hi':=old i _ hi ei
   by_cases ej:j=k
   ·subst ej
    rw[new _ hj] at hbj
    rcases hb b hbj with q | q
    ·exact h.apart i j _ _ b hij hi' hv hbi q
    ·have:=lt i _ hi' hbi; omega
   ·exact h.apart i j _ _ b hij hi' (old j _ hj ej) hbi hbj
theorem Pl.below {w w':World} {B n g c:Nat} {vs:List Value} {rs:List (List Int)} (h:Pl w B n g c vs rs) (hb:Below w.heap.size w w'):Pl w' B n g c vs rs:=
 ⟨xb5 h.head λb hbb=>by
  obtain⟨_,cur,h2⟩:=q1c h.head hbb
  exact hb.block b (Array.getElem?_eq_some_iff.1 h2).1,h.rows.keep (KeepsT.of_below hb),h.apart⟩
section
variable {P : Program} {Q : Exit -> Act -> World -> Prop}
end
theorem q8a (m:List (List Int)) (pix y:List Int):(qk3 m pix y).length=m.length:=ql2 _ _ _
theorem w56 (m:List (List Int)) (pix y:List Int) (k:Nat) (hk:k<m.length):nL (qk3 m pix y) k=nL (qn4 m pix) k++[nI y k]:=by
 rw[qj8 _ k (by rw[q8a]; exact hk),qr3 m pix k hk]
 simp[qk3,qb4]
open Go Go.RowKit Eng
def dt (W:Nat) (r:List Int) (z:Nat->Int):Int:=sm W λc=>nI r c*z c
theorem w24 {W:Nat} {r' r p:List Int} {z:Nat->Int} {α β γ:Int} (h:∀c,c<W->α*nI r' c=β*nI r c-γ*nI p c):α*dt W r' z=β*dt W r z-γ*dt W p z:=by
 unfold dt
 rw[<- qs6,<- qs6,<- qs6,<- xu3]
 refine qe8 λc hc=>?_
 have:=h c hc
 rw[<- Int.mul_assoc,this,Int.sub_mul,Int.mul_assoc,Int.mul_assoc]
theorem ql6 (P:List Int) (x:Int) {q:Nat} (h:q<P.length):nI (P++[x]) q=nI P q:=by
 rw[qg5 _ q (by rw[List.length_append]; omega),qg5 _ q h,List.getElem_append_left h]
theorem qr8 (P:List Int) (x:Int):nI (P++[x]) P.length=x:=by
 rw[qg5 _ _ (by rw[List.length_append]; exact Nat.lt_succ_self _),List.getElem_append_right (Nat.le_refl _)]
 simp
theorem ws9 {a x:Int} (ha:0<a) (h:0<a*x):0<x:=Int.lt_of_mul_lt_mul_left (a:=a) (by rw[Int.mul_zero]; exact h) (by omega)
structure Elm (W j:Nat) (r' r p:List Int):Prop where
 zero:nI r' j=0
 rel:∃α β γ:Int,0<α/\0<β/\∀c,c<W->α*nI r' c=β*nI r c-γ*nI p c
 nice:∀f,x5g W f (nI r)->x5g W f (nI r')
structure St (n W:Nat) (R:Nat->Nat->Int) (j:Nat) (rows:List (List Int)) (P:List Int):Prop where
 len:rows.length=n
 each:∀i,i<n->(nL rows i).length=W
 tag:∃(ρ:Nat->Nat->Int) (pv:Nat->Option Nat) (τ:Nat->Nat),El n W R ρ pv/\(∀i,i<n->τ i<n)/\(∀i k,i<n->k<n->τ i=τ k->i=k)/\(∀a,a<n->∃i,i<n/\τ i=a)/\(∀i,i<n->∀c,c<W->ρ (τ i) c=nI (nL rows i) c)/\(∀q,q<n->pv (τ q)=if q<P.length then some (nI P q).toNat else none)/\∀i,i<n->x5g W (R (τ i)) (nI (nL rows i))
 sol:∀z:Nat->Int,(∀a,a<n->(sm W λc=>R a c*z c)=0)↔∀i,i<n->dt W (nL rows i) z=0
 pl:P.length<=n
 zero:∀i,P.length<=i->i<n->∀c,c<j->nI (nL rows i) c=0
 pos:∀q,q<P.length->0<=nI P q/\nI P q<j/\0<nI (nL rows q) (nI P q).toNat/\(∀c,c<(nI P q).toNat->nI (nL rows q) c=0)/\∀i,i<n->i≠q->nI (nL rows i) (nI P q).toNat=0
 asc:∀q k,q<k->k<P.length->nI P q<nI P k
theorem St.skip {n W:Nat} {R:Nat->Nat->Int} {j:Nat} {rows:List (List Int)} {P:List Int} (h:St n W R j rows P) (hz:∀i,P.length<=i->i<n->nI (nL rows i) j=0):St n W R (j+1) rows P:=by
 refine⟨h.len,h.each,h.tag,h.sol,h.pl,λi h1 h2 c hc=>?_,λq hq=>?_,h.asc⟩
 ·rcases Nat.lt_succ_iff_lt_or_eq.1 hc with e | e
  ·exact h.zero i h1 h2 c e
  ·rw[e]; exact hz i h1 h2
 ·obtain⟨q1,q2,q3,q4,q5⟩:=h.pos q hq
  exact⟨q1,by omega,q3,q4,q5⟩
theorem St.step {n W:Nat} {R:Nat->Nat->Int} {j:Nat} {rows rows':List (List Int)} {P:List Int} (h:St n W R j rows P) (hj:j<W) (hk:P.length<n) (hlen:rows'.length=n) (heach:∀i,i<n->(nL rows' i).length=W)
  (π:Nat->Nat) (hπ:∀i,i<n->π i<n) (hinj:∀i k,i<n->k<n->π i=π k->i=k) (hsur:∀i,i<n->∃k,k<n/\π k=i) (hfix:∀i,i<P.length->π i=i)
  (hx:∃s:Int,(s=1\/s=-1)/\∀c,c<W->nI (nL rows' P.length) c=s*nI (nL rows (π P.length)) c) (hpos:0<nI (nL rows' P.length) j)
  (ho:∀i,i<n->i≠P.length->Elm W j (nL rows' i) (nL rows (π i)) (nL rows' P.length)):St n W R (j+1) rows' (P++[(j:Int)]):=by
 obtain⟨s,hs,hsx⟩:=hx
 have hs0:s≠0:=by rcases hs with rfl | rfl <;> decide
 have hge:∀i,P.length<=i->i<n->P.length<=π i:=λi h1 h2=>by
  rcases Nat.lt_or_ge (π i) P.length with e | e
  ·have:=hinj (π i) i (hπ i h2) h2 (hfix _ e)
   omega
  ·exact e
 have hnx:nI (nL rows (π P.length)) j≠0:=λe=>by
  have:=hsx j hj
  rw[e,Int.mul_zero] at this
  omega
 have hpk:∀c,c<j->nI (nL rows' P.length) c=0:=λc hc=>by
  rw[hsx c (by omega),h.zero _ (hge _ (Nat.le_refl _) hk) (hπ _ hk) c hc,Int.mul_zero]
 have hpz:∀q,q<P.length->nI (nL rows' P.length) (nI P q).toNat=0:=λq hq=>by
  have:=h.pos q hq
  exact hpk _ (by omega)
 obtain⟨ρ,pv,τ,hE,t1,t2,t3,t4,t5,t6⟩:=h.tag
 have hsur2:∀a,∃i,a<n->i<n/\τ (π i)=a:=λa=>by
  by_cases ha:a<n
  ·obtain⟨i,hi,e⟩:=t3 a ha
   obtain⟨k,hk,e2⟩:=hsur i hi
   exact⟨k,λ_=>⟨hk,by rw[e2,e]⟩⟩
  ·exact⟨0,λq=>absurd q ha⟩
 obtain⟨σ,hσ⟩:=Classical.axiomOfChoice hsur2
 have hστ:∀i,i<n->σ (τ (π i))=i:=λi hi=>by
  obtain⟨q1,q2⟩:=hσ (τ (π i)) (t1 _ (hπ i hi))
  exact hinj _ _ q1 hi (t2 _ _ (hπ _ q1) (hπ _ hi) q2)
 refine⟨hlen,heach,⟨λa c=>nI (nL rows' (σ a)) c,λb=>if b=τ (π P.length) then some j else pv b,λi=>τ (π i),?_,λi hi=>t1 _ (hπ i hi),λi k hi hk e=>hinj _ _ hi hk (t2 _ _ (hπ i hi) (hπ k hk) e),λa ha=>⟨σ a,hσ a ha⟩,λi hi c hc=>by dsimp only; rw[hστ i hi],λq hq=>?_,λi hi=>?_⟩,λz=>?_,by rw[List.length_append]; exact hk,λi h1 h2 c hc=>?_,λq hq=>?_,λq k h1 h2=>?_⟩
 ·refine hE.step (t1 _ (hπ _ hk)) ?_ hj ?_ ⟨s,hs0,λc hc=>?_⟩ λa ha hne=>?_
  ·rw[t5 _ (hπ _ hk),if_neg (Nat.not_lt.2 (hge _ (Nat.le_refl _) hk))]
  ·rw[t4 _ (hπ _ hk) j hj]; exact hnx
  ·try dsimp only
   rw[hστ _ hk,hsx c hc,t4 _ (hπ _ hk) c hc]
  ·obtain⟨q1,q2⟩:=hσ a ha
   have hne2:σ a≠P.length:=λe=>hne (by rw[<- q2,e])
   have hel:=ho _ q1 hne2
   refine⟨hel.zero,?_⟩
   obtain⟨α,β,γ,hα,hβ,hr⟩:=hel.rel
   refine⟨α,β,γ,by omega,by omega,λc hc=>?_⟩
   try dsimp only
   rw[hστ _ hk,hr c hc]
   have:=t4 _ (hπ _ q1) c hc
   rw[q2] at this
   rw[this]
 ·dsimp only
  by_cases e:q=P.length
  ·subst e
   rw[if_pos rfl,if_pos (by rw[List.length_append]; exact Nat.lt_succ_self _),qr8]
   rfl
  ·rw[if_neg λq2=>e (hinj _ _ hq hk (t2 _ _ (hπ _ hq) (hπ _ hk) q2)),t5 _ (hπ _ hq),List.length_append]
   rcases Nat.lt_or_ge q P.length with e2 | e2
   ·rw[hfix _ e2,if_pos e2,if_pos (by omega),ql6 _ _ e2]
   ·rw[if_neg (Nat.not_lt.2 (hge _ e2 hq)),if_neg (by simp; omega)]
 ·dsimp only
  by_cases e:i=P.length
  ·subst e
   rcases t6 _ (hπ _ hi) with⟨u,hu,hr⟩ | hr | hr
   ·refine .inl ⟨s*u,?_,λc hc=>by rw[hsx c hc,hr c hc,Int.mul_assoc]⟩
    rcases hs with rfl | rfl <;> rcases hu with rfl | rfl <;> simp
   ·exact .inr (.inl λc hc=>by rw[hsx c hc,hr c hc,Int.mul_zero])
   ·refine .inr (.inr λd hd=>hr d λc hc=>?_)
    have:=hd c hc
    rw[hsx c hc,Int.natAbs_mul] at this
    have h1:s.natAbs=1:=by rcases hs with rfl | rfl <;> rfl
    rwa [h1,Nat.one_mul] at this
  ·exact(ho i hi e).nice _ (t6 _ (hπ _ hi))
 ·rw[h.sol z]
  have hdk:dt W (nL rows' P.length) z=s*dt W (nL rows (π P.length)) z:=by
   have:=w24 (W:=W) (r':=nL rows' P.length) (r:=nL rows (π P.length)) (p:=[]) (z:=z) (α:=1) (β:=s) (γ:=0) λc hc=>by rw[hsx c hc]; simp
   simpa using this
  constructor
  ·intro hz i hi
   have hzk:dt W (nL rows' P.length) z=0:=by rw[hdk,hz _ (hπ _ hk),Int.mul_zero]
   by_cases e:i=P.length
   ·rw[e]; exact hzk
   ·obtain⟨α,β,γ,hα,hβ,hr⟩:=(ho i hi e).rel
    have:=w24 (z:=z) hr
    rw[hzk,hz _ (hπ _ hi),Int.mul_zero,Int.mul_zero] at this
    exact qd5 (by omega) (show α≠0 by omega)
  ·intro hz i' hi'
   obtain⟨i,hi,rfl⟩:=hsur i' hi'
   by_cases e:i=P.length
   ·have:=hz _ hk
    rw[hdk] at this
    rw[e]
    exact qd5 this hs0
   ·obtain⟨α,β,γ,hα,hβ,hr⟩:=(ho i hi e).rel
    have:=w24 (z:=z) hr
    rw[hz _ hk,hz _ hi,Int.mul_zero,Int.mul_zero] at this
    exact qd5 (a:=β) (by omega) (by omega)
 ·rw[List.length_append] at h1
  have h1:P.length+1<=i:=h1
  have hel:=ho i h2 (by omega)
  rcases Nat.lt_succ_iff_lt_or_eq.1 hc with e | e
  ·obtain⟨α,β,γ,hα,hβ,hr⟩:=hel.rel
   have:=hr c (by omega)
   rw[hpk c e,h.zero _ (hge _ (by omega) h2) (hπ _ h2) c e] at this
   exact qd5 (a:=α) (by simpa using this) (by omega)
  ·rw[e]; exact hel.zero
 ·rw[List.length_append] at hq
  have hq:q<P.length+1:=hq
  rcases Nat.lt_succ_iff_lt_or_eq.1 hq with e | e
  ·rw[ql6 _ _ e]
   obtain⟨q1,q2,q3,q4,q5⟩:=h.pos q e
   have hel:=ho q (by omega) (by omega)
   obtain⟨α,β,γ,hα,hβ,hr⟩:=hel.rel
   refine⟨q1,by omega,ws9 hα ?_,λc hc=>?_,λi hi hne=>?_⟩
   ·rw[hr _ (by omega),hpz q e,hfix _ e,Int.mul_zero,Int.sub_zero]
    exact Int.mul_pos hβ q3
   ·have:=hr c (by omega)
    rw[hpk c (by omega),hfix _ e,q4 c hc] at this
    exact qd5 (a:=α) (by simpa using this) (by omega)
   ·by_cases e3:i=P.length
    ·rw[e3]; exact hpz q e
    ·obtain⟨α,β,γ,hα,hβ,hr⟩:=(ho i hi e3).rel
     have:=hr (nI P q).toNat (by omega)
     rw[hpz q e,q5 (π i) (hπ _ hi) λe4=>hne (hinj _ _ hi (by omega) (by rw[e4,hfix _ e]))] at this
     exact qd5 (a:=α) (by simpa using this) (by omega)
  ·subst e
   rw[qr8]
   refine⟨by omega,by omega,hpos,λc hc=>hpk c hc,λi hi hne=>(ho i hi hne).zero⟩
 ·rw[List.length_append] at h2
  have h2:k<P.length+1:=h2
  rcases Nat.lt_succ_iff_lt_or_eq.1 h2 with e | e
  ·rw[ql6 _ _ e,ql6 _ _ (by omega)]; exact h.asc q k h1 e
  ·subst e
   rw[qr8,ql6 _ _ h1]
   have:=h.pos q h1
   omega
theorem St.bound {n W:Nat} {R:Nat->Nat->Int} {j:Nat} {rows:List (List Int)} {P:List Int} (h:St n W R j rows P) (hone:∀a c,a<n->c<j->(R a c).natAbs<=1) {i c B:Nat} (hi:i<n) (hc:c<W) (hB:∀b,b<n->(R b c).natAbs<=B):(nI (nL rows i) c).natAbs<=n ^ n*B:=by
 obtain⟨ρ,pv,τ,hE,t1,t2,t3,t4,t5,t6⟩:=h.tag
 rw[<- t4 i hi c hc]
 refine hE.bound (λt p ht hp b hb=>?_) (t1 i hi) ?_ hc hB
 ·obtain⟨q,hq,rfl⟩:=t3 t ht
  rw[t5 q hq] at hp
  split at hp
  ·rename_i hqP
   obtain rfl:=Option.some.inj hp
   have:=h.pos q hqP
   exact hone b _ hb (by omega)
  ·cases hp
 ·rcases t6 i hi with⟨s,hs,hr⟩ | hr | hr
  ·exact .inl ⟨s,hs,λc hc=>by rw[t4 i hi c hc]; exact hr c hc⟩
  ·exact .inr (.inl λc hc=>by rw[t4 i hi c hc]; exact hr c hc)
  ·exact .inr (.inr λd hd=>hr d λc hc=>by rw[<- t4 i hi c hc]; exact hd c hc)
end Go.Proofs.YtmijnbjlhnpokaaGreat
