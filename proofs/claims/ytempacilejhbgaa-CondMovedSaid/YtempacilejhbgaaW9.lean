/- Determinants. Plain mathematics. No condition. -/
import Derived.Test.YtempacilejhbgaaW2
set_option linter.unusedVariables false
namespace Go.Proofs.Ytempacilejhbgaa
def sgn (i:Nat):Int:=if i % 2=0 then 1 else -1
def skp (i a:Nat):Nat:=if a<i then a else a+1
def det:Nat->(Nat->Nat->Int)->Int
 | 0,_=>1
 | n+1,A=>sm (n+1) λi=>sgn i*A i 0*det n (λa b=>A (skp i a) (b+1))
theorem q53 {n i a:Nat} (ha:a<n):skp i a<n+1:=by unfold skp; split <;> omega
theorem w9m (i a:Nat):skp i a≠i:=by unfold skp; split <;> omega
theorem qh0:∀(n:Nat) {A B:Nat->Nat->Int},(∀i j,i<n->j<n->A i j=B i j)->det n A=det n B
 | 0,_,_,_=>rfl
 | n+1,A,B,h=>by
  rw[det,det]
  refine qe0 λi hi=>?_
  rw[h i 0 hi (by omega),qh0 n (A:=λa b=>A (skp i a) (b+1)) (B:=λa b=>B (skp i a) (b+1)) λa b ha hb=>h _ _ (q53 ha) (by omega)]
def upd (A:Nat->Nat->Int) (r:Nat) (u:Nat->Int):Nat->Nat->Int:=λi j=>if i=r then u j else A i j
theorem qt0 (A:Nat->Nat->Int) (r:Nat):upd A r (A r)=A:=by
 funext i j; unfold upd; split
 ·rename_i h; rw[h]
 ·rfl
theorem q9h (A:Nat->Nat->Int) {r s:Nat} (h:r≠s) (u v:Nat->Int):upd (upd A r u) s v=upd (upd A s v) r u:=by
 funext i j; unfold upd
 by_cases e:i=s
 ·rw[if_pos e,if_neg (by omega),if_pos e]
 ·rw[if_neg e,if_neg e]
theorem q3b (A:Nat->Nat->Int) (r:Nat) (w:Nat->Int):(λa b=>upd A r w (skp r a) (b+1))=λa b=>A (skp r a) (b+1):=by
 funext a b; unfold upd; rw[if_neg (w9m r a)]
theorem q54 {i r:Nat} (h:i≠r) (A:Nat->Nat->Int) (w:Nat->Int):(λa b=>upd A r w (skp i a) (b+1))=upd (λa b=>A (skp i a) (b+1)) (if r<i then r else r-1) (λb=>w (b+1)):=by
 funext a b
 have e:skp i a=r↔a=(if r<i then r else r-1):=by unfold skp; split <;> split <;> omega
 unfold upd
 by_cases q:a=(if r<i then r else r-1)
 ·rw[if_pos q,if_pos (e.2 q)]
 ·rw[if_neg q,if_neg λk=>q (e.1 k)]
theorem qp3:∀(n:Nat) (A:Nat->Nat->Int) (r:Nat),r<n->∀(x y:Int) (u v:Nat->Int),det n (upd A r (λj=>x*u j+y*v j))=x*det n (upd A r u)+y*det n (upd A r v)
 | n+1,A,r,hr,x,y,u,v=>by
  rw[det,det,det,<- qi8,<- qi8,<- wg6]
  refine qe0 λi hi=>?_
  by_cases e:i=r
  ·subst e
   rw[q3b,q3b,q3b]
   have e1:∀w,upd A i w i 0=w 0:=λw=>if_pos rfl
   rw[e1,e1,e1]
   grind
  ·rw[q54 e,q54 e,q54 e]
   have e1:∀w,upd A r w i 0=A i 0:=λw=>if_neg e
   rw[e1,e1,e1]
   have ih:=qp3 n (λa b=>A (skp i a) (b+1)) (if r<i then r else r-1) (by split <;> omega) x y (λb=>u (b+1)) (λb=>v (b+1))
   try dsimp only at ih ⊢
   rw[ih]
   grind
theorem qz4 {n:Nat} {A:Nat->Nat->Int} {r:Nat} (hr:r<n):det n (upd A r λ_=>0)=0:=by
 have:=qp3 n A r hr 0 0 (λ_=>0) (λ_=>0)
 simpa using this
theorem w8a (r:Nat):sgn (r+1)=- sgn r:=by unfold sgn; split <;> split <;> omega
theorem q9i:∀(n:Nat) (A:Nat->Nat->Int) (r:Nat),r+1<n->(∀j,j<n->A r j=A (r+1) j)->det n A=0
 | n+1,A,r,hr,h=>by
  rw[det,q7u (k:=r) (l:=r+1) (by omega) hr (by omega) λi hi h1 h2=>?_]
  ·have em:det n (λa b=>A (skp r a) (b+1))=det n (λa b=>A (skp (r+1) a) (b+1)):=qh0 n λa b ha hb=>by
    by_cases e:a=r
    ·subst e
     have e1:skp a a=a+1:=by unfold skp; rw[if_neg (Nat.lt_irrefl _)]
     have e2:skp (a+1) a=a:=by unfold skp; rw[if_pos (Nat.lt_succ_self _)]
     rw[e1,e2,h _ (by omega)]
    ·have:skp r a=skp (r+1) a:=by unfold skp; split <;> split <;> omega
     rw[this]
   try dsimp only
   rw[em,h 0 (by omega),w8a]
   grind
  ·try dsimp only
   have:det n (λa b=>A (skp i a) (b+1))=0:=by
    rcases Nat.lt_or_ge i r with q | q
    ·refine q9i n _ (r-1) (by omega) λj hj=>?_
     have e1:skp i (r-1)=r:=by unfold skp; rw[if_neg (by omega)]; omega
     have e2:skp i (r-1+1)=r+1:=by unfold skp; rw[if_neg (by omega)]; omega
     try dsimp only
     rw[e1,e2,h _ (by omega)]
    ·refine q9i n _ r (by omega) λj hj=>?_
     have e1:skp i r=r:=by unfold skp; rw[if_pos (by omega)]
     have e2:skp i (r+1)=r+1:=by unfold skp; rw[if_pos (by omega)]
     try dsimp only
     rw[e1,e2,h _ (by omega)]
   rw[this,Int.mul_zero]
theorem q9j {n:Nat} {A:Nat->Nat->Int} {r s:Nat} (hr:r<n) (hs:s<n) (hne:r≠s) (hz:∀w,det n (upd (upd A r w) s w)=0) (u v:Nat->Int):det n (upd (upd A r u) s v)=- det n (upd (upd A r v) s u):=by
 have h:=hz (λj=>1*u j+1*v j)
 have lin:∀w,det n (upd (upd A r (λj=>1*u j+1*v j)) s w)=det n (upd (upd A r u) s w)+det n (upd (upd A r v) s w):=λw=>by
  rw[q9h A hne,qp3 n _ r hr,q9h A hne,q9h A hne]; omega
 rw[qp3 n _ s hs,lin,lin,hz u,hz v] at h
 omega
theorem w4q:∀(d n:Nat) (A:Nat->Nat->Int) (r s:Nat),s=r+d+1->s<n->(∀j,j<n->A r j=A s j)->det n A=0
 | 0,n,A,r,s,hd,hs,h=>q9i n A r (by omega) λj hj=>by rw[h j hj,hd]
 | d+1,n,A,r,s,hd,hs,h=>by
  have e:upd (upd A (s-1) (A (s-1))) s (A s)=A:=by rw[qt0]; exact qt0 A s
  have h2:=q9j (n:=n) (A:=A) (r:=s-1) (s:=s) (by omega) hs (by omega) (λw=>q9i n _ (s-1) (by omega) λj hj=>by
   unfold upd
   rw[show s-1+1=s by omega,if_neg (by omega),if_pos rfl,if_pos rfl]) (A (s-1)) (A s)
  rw[e] at h2
  have h3:=w4q d n (upd (upd A (s-1) (A s)) s (A (s-1))) r (s-1) (by omega) (by omega) λj hj=>by
   unfold upd
   rw[if_neg (by omega),if_neg (by omega),if_neg (by omega),if_pos rfl]
   exact h j hj
  rw[h2,h3]; rfl
theorem q55 {n:Nat} {A:Nat->Nat->Int} {r s:Nat} (hr:r<n) (hs:s<n) (hne:r≠s) (h:∀j,j<n->A r j=A s j):det n A=0:=by
 rcases Nat.lt_or_gt_of_ne hne with q | q
 ·exact w4q (s-r-1) n A r s (by omega) hs h
 ·exact w4q (r-s-1) n A s r (by omega) hr λj hj=>(h j hj).symm
theorem wt4 {n:Nat} (A:Nat->Nat->Int) {r:Nat} (hr:r<n) (lam:Nat->Int):∀k,k<=n->det n (upd A r (λj=>sm k λi=>lam i*A i j))=if r<k then lam r*det n A else 0
 | 0,_=>by
  rw[if_neg (Nat.not_lt_zero _)]
  exact qz4 hr
 | k+1,hk=>by
  have ih:=wt4 A hr lam k (by omega)
  have e:(λj=>sm (k+1) λi=>lam i*A i j)=λj=>1*(sm k λi=>lam i*A i j)+lam k*A k j:=by funext j; rw[sm]; omega
  rw[e,qp3 n A r hr 1 (lam k) (λj=>sm k λi=>lam i*A i j) (A k),ih]
  by_cases q:k=r
  ·subst q
   rw[qt0,if_neg (Nat.lt_irrefl _),if_pos (Nat.lt_succ_self _)]; omega
  ·have:det n (upd A r (A k))=0:=q55 hr (show k<n by omega) (Ne.symm q) λj hj=>by
    unfold upd
    rw[if_pos rfl,if_neg q]
   rw[this]
   by_cases q2:r<k
   ·rw[if_pos q2,if_pos (by omega)]; omega
   ·rw[if_neg q2,if_neg (by omega)]; omega
theorem wt5 {n:Nat} {A:Nat->Nat->Int} (h0:det n A=0):∀(d s:Nat),s+d=n->∀σ:Nat->Nat,(∀i,i<n->σ i<n)->(∀i,i<s->σ i=i)->det n (λi j=>A (σ i) j)=0
 | 0,s,hs,σ,h1,h2=>by
  rw[<- h0]
  exact qh0 n λi j hi hj=>by rw[h2 i (by omega)]
 | d+1,s,hs,σ,h1,h2=>by
  by_cases hx:∃t,s<=t/\t<n/\σ t=s
  ·obtain⟨t,t1,t2,t3⟩:=hx
   have hq:=wt5 h0 d (s+1) (by omega) (λi=>if i=s then s else if i=t then σ s else σ i) (λi hi=>by
    (try dsimp only); split
    ·omega
    ·split
     ·exact h1 s (by omega)
     ·exact h1 i hi) (λi hi=>by
    try dsimp only
    by_cases e:i=s
    ·rw[if_pos e,e]
    ·rw[if_neg e,if_neg (by omega)]; exact h2 i (by omega))
   by_cases e:t=s
   ·rw[<- hq]
    refine qh0 n λi j hi hj=>?_
    try dsimp only
    by_cases e2:i=s
    ·rw[if_pos e2,e2,<- e,t3,e]
    ·rw[if_neg e2,if_neg (by omega)]
   ·have ha:=q9j (n:=n) (A:=λi j=>A (σ i) j) (r:=s) (s:=t) (by omega) t2 (Ne.symm e) (λw=>q55 (r:=s) (s:=t) (by omega) t2 (Ne.symm e) λj hj=>by
     unfold upd
     rw[if_neg (Ne.symm e),if_pos rfl,if_pos rfl]) (A (σ s)) (A (σ t))
    have e1:upd (upd (λi j=>A (σ i) j) s (A (σ s))) t (A (σ t))=λi j=>A (σ i) j:=by
     funext i j; unfold upd
     by_cases q:i=t
     ·rw[if_pos q,q]
     ·rw[if_neg q]
      by_cases q2:i=s
      ·rw[if_pos q2,q2]
      ·rw[if_neg q2]
    have e2:upd (upd (λi j=>A (σ i) j) s (A (σ t))) t (A (σ s))=λi j=>A ((λi=>if i=s then s else if i=t then σ s else σ i) i) j:=by
     funext i j; unfold upd
     try dsimp only
     by_cases q:i=t
     ·rw[if_pos q,if_neg (by omega),if_pos q]
     ·rw[if_neg q]
      by_cases q2:i=s
      ·rw[if_pos q2,if_pos q2,t3]
      ·rw[if_neg q2,if_neg q2,if_neg q]
    rw[e1,e2] at ha
    rw[ha,hq]; rfl
  ·have hns:∀i,i<n->σ i≠s:=λi hi e=>by
    rcases Nat.lt_or_ge i s with q | q
    ·have:=h2 i q; omega
    ·exact hx ⟨i,q,hi,e⟩
   obtain⟨i,j,q1,q2,q3⟩:=q3o (n-1) n (λi=>if σ i<s then σ i else σ i-1) (λi hi=>by
    have:=h1 i hi
    have:=hns i hi
    (try dsimp only); split <;> omega) (by omega)
   have e:σ i=σ j:=by
    have:=hns i (by omega)
    have:=hns j q2
    try dsimp only at q3
    split at q3 <;> split at q3 <;> omega
   exact q55 (r:=i) (s:=j) (by omega) q2 (by omega) λk hk=>by rw[e]
theorem w4r {n:Nat} {A:Nat->Nat->Int} (h0:det n A=0):∀(d k:Nat),k+d=n->∀B:Nat->Nat->Int,(∀i,i<k->∃a,a<n/\∀j,j<n->B i j=A a j)->(∀i,k<=i->i<n->∃lam:Nat->Int,∀j,j<n->B i j=sm n λa=>lam a*A a j)->det n B=0
 | 0,k,hk,B,h1,_=>by
  have hx:∀i,∃a,i<n->a<n/\∀j,j<n->B i j=A a j:=λi=>by
   by_cases hi:i<n
   ·obtain⟨a,h⟩:=h1 i (by omega)
    exact⟨a,λ_=>h⟩
   ·exact⟨0,λq=>absurd q hi⟩
  obtain⟨σ,hσ⟩:=Classical.axiomOfChoice hx
  rw[qh0 n (B:=λi j=>A (σ i) j) λi j hi hj=>(hσ i hi).2 j hj]
  exact wt5 h0 n 0 (by omega) σ (λi hi=>(hσ i hi).1) λi hi=>absurd hi (Nat.not_lt_zero _)
 | d+1,k,hk,B,h1,h2=>by
  obtain⟨lam,hl⟩:=h2 k (Nat.le_refl _) (by omega)
  have key:∀m,m<=n->det n (upd B k (λj=>sm m λa=>lam a*A a j))=0:=λm=>by
   induction m with
   | zero=>exact λ_=>qz4 (by omega)
   | succ m ih=>
    intro hm
    have e:(λj=>sm (m+1) λi=>lam i*A i j)=λj=>1*(sm m λi=>lam i*A i j)+lam m*A m j:=by funext j; rw[sm]; omega
    rw[e,qp3 n B k (by omega) 1 (lam m) (λj=>sm m λi=>lam i*A i j) (A m),ih (by omega)]
    have:=w4r h0 d (k+1) (by omega) (upd B k (A m)) (λi hi=>by
     by_cases q:i=k
     ·exact⟨m,by omega,λj hj=>by unfold upd; rw[if_pos q]⟩
     ·obtain⟨a,ha,hb⟩:=h1 i (by omega)
      exact⟨a,ha,λj hj=>by unfold upd; rw[if_neg q]; exact hb j hj⟩) (λi h3 h4=>by
     obtain⟨lam',h5⟩:=h2 i (by omega) h4
     exact⟨lam',λj hj=>by unfold upd; rw[if_neg (by omega)]; exact h5 j hj⟩)
    rw[this]; omega
  rw[<- key n (Nat.le_refl _)]
  refine qh0 n λi j hi hj=>?_
  unfold upd
  by_cases q:i=k
  ·rw[if_pos q,q,hl j hj]
  ·rw[if_neg q]
theorem wt6:∀(n:Nat) (d:Nat->Int),(∀i,i<n->d i≠0)->det n (λi j=>if i=j then d i else 0)≠0
 | 0,_,_=>by show(1:Int)≠0; decide
 | n+1,d,h=>by
  rw[det,qr7 (k:=0) (by omega) λi hi hne=>by
   try dsimp only
   rw[if_neg hne]; simp]
  try dsimp only
  have e:det n (λa b=>if skp 0 a=b+1 then d (skp 0 a) else 0)=det n (λa b=>if a=b then d (a+1) else 0):=qh0 n λa b ha hb=>by
   have:skp 0 a=a+1:=by unfold skp; rw[if_neg (Nat.not_lt_zero _)]
   rw[this]
   by_cases q:a=b
   ·rw[if_pos q,if_pos (by omega)]
   ·rw[if_neg q,if_neg (by omega)]
  rw[e,if_pos rfl]
  exact qs9 (qs9 (by decide) (h 0 (by omega))) (wt6 n (λa=>d (a+1)) λi hi=>h (i+1) (by omega))
theorem xn4 {n:Nat} {A:Nat->Nat->Int} (h:∀k,k<n->∃(d:Int) (lam:Nat->Int),d≠0/\∀j,j<n->(sm n λi=>lam i*A i j)=if k=j then d else 0):det n A≠0:=λh0=>by
 have hx:∀k,∃d:Int,k<n->d≠0/\∃lam:Nat->Int,∀j,j<n->(sm n λi=>lam i*A i j)=if k=j then d else 0:=λk=>by
  by_cases hk:k<n
  ·obtain⟨d,lam,h1,h2⟩:=h k hk
   exact⟨d,λ_=>⟨h1,lam,h2⟩⟩
  ·exact⟨0,λq=>absurd q hk⟩
 obtain⟨d,hd⟩:=Classical.axiomOfChoice hx
 refine wt6 n d (λi hi=>(hd i hi).1) (w4r h0 n 0 (by omega) _ (λi hi=>absurd hi (Nat.not_lt_zero _)) λi _ hi=>?_)
 obtain⟨_,lam,hl⟩:=hd i hi
 exact⟨lam,λj hj=>(hl j hj).symm⟩
end Go.Proofs.Ytempacilejhbgaa
