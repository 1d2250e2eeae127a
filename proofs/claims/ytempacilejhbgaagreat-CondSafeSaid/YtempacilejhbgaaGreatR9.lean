/- The order of a mask lies between the bound by coherence and the half of the least circuit. Plain mathematics. No condition. -/
import Derived.Test.YtempacilejhbgaaGreatKT4
import Derived.Test.YtempacilejhbgaaGreatKMNum
import Derived.Test.YtempacilejhbgaaGreatR8
set_option linter.unusedVariables false
set_option linter.unusedSimpArgs false
namespace Go.Proofs.YtempacilejhbgaaGreat.K
open Go Go.RowKit Eng Ls
def alkF (m:List (List Int)) (l:List (Nat × Nat)):List (Int × Int):=(l.filter (alk m)).map λq=>((q.1:Int),(q.2:Int))
open Go.RowKit Ls
def Lo (b:Int × Int):Prop:=0<=b.1/\0<b.2/\Nat.gcd b.1.toNat b.2.toNat=1
theorem yd8:Lo (0,1):=by unfold Lo; simp
theorem x64 {a b:Int × Int} (ha:Lo a) (hb:Lo b) (h:a.1*b.2=b.1*a.2):a=b:=by
 obtain⟨a1,a2⟩:=a
 obtain⟨b1,b2⟩:=b
 obtain⟨h1,h2,h3⟩:=ha
 obtain⟨k1,k2,k3⟩:=hb
 simp only at *
 obtain⟨x1,rfl⟩:=Int.eq_ofNat_of_zero_le h1
 obtain⟨x2,rfl⟩:=Int.eq_ofNat_of_zero_le (Int.le_of_lt h2)
 obtain⟨y1,rfl⟩:=Int.eq_ofNat_of_zero_le k1
 obtain⟨y2,rfl⟩:=Int.eq_ofNat_of_zero_le (Int.le_of_lt k2)
 simp only[Int.toNat_natCast] at h3 k3
 have hn:x1*y2=y1*x2:=by exact_mod_cast h
 have d1:x2∣y2:=Nat.Coprime.dvd_of_dvd_mul_left (show Nat.Coprime x2 x1 by rw[Nat.Coprime,Nat.gcd_comm]; exact h3) ⟨y1,by rw[hn,Nat.mul_comm]⟩
 have d2:y2∣x2:=Nat.Coprime.dvd_of_dvd_mul_left (show Nat.Coprime y2 y1 by rw[Nat.Coprime,Nat.gcd_comm]; exact k3) ⟨x1,by rw[<- hn,Nat.mul_comm]⟩
 have e:x2=y2:=Nat.dvd_antisymm d1 d2
 subst e
 have hp:0<x2:=by omega
 have:x1=y1:=Nat.eq_of_mul_eq_mul_right hp hn
 rw[this]
theorem xa2 {a b:List Int} (h:(likP a b).2=true):Lo (likP a b).1:=by
 unfold likP at h ⊢
 split at h
 ·cases h
 ·rename_i h0
  rw[if_neg h0]
  have hp:0<likeD a b:=by omega
  have hg:0<Nat.gcd (likeN a b) (likeD a b):=Nat.gcd_pos_of_pos_right _ hp
  refine⟨Int.natCast_nonneg _,?_,?_⟩
  ·unfold ratD
   have:0<likeD a b / Nat.gcd (likeN a b) (likeD a b):=Nat.div_pos (Nat.le_of_dvd hp (Nat.gcd_dvd_right _ _)) hg
   exact Int.natCast_pos.2 this
  ·unfold ratN ratD
   simp only[Int.toNat_natCast]
   exact Nat.coprime_div_gcd_div_gcd hg
def lk (m:List (List Int)) (q:Nat × Nat):(Int × Int) × Bool:=likP (colA m q.1) (colA m q.2)
structure Best (m:List (List Int)) (l:List (Nat × Nat)) (b:Int × Int):Prop where
 lo:Lo b
 mem:b=(0,1)\/∃q∈l,b=(lk m q).1
 all:∀q∈l,(lk m q).2=true/\(lk m q).1.1*b.2<=b.1*(lk m q).1.2
theorem xn1 {r1 r2 b1 b2 q1 q2:Int} (hr2:0<r2) (hb2:0<b2) (hq2:0<q2) (h1:r1*b2<=b1*r2) (h2:b1*q2<q1*b2):r1*q2<=q1*r2:=by
 have e1:r1*b2*q2<=b1*r2*q2:=Int.mul_le_mul_of_nonneg_right h1 (Int.le_of_lt hq2)
 have e2:b1*q2*r2<=q1*b2*r2:=Int.mul_le_mul_of_nonneg_right (Int.le_of_lt h2) (Int.le_of_lt hr2)
 have e3:b1*r2*q2=b1*q2*r2:=by rw[Int.mul_assoc,Int.mul_comm r2 q2,<- Int.mul_assoc]
 have e4:r1*b2*q2=r1*q2*b2:=by rw[Int.mul_assoc,Int.mul_comm b2 q2,<- Int.mul_assoc]
 have e5:q1*b2*r2=q1*r2*b2:=by rw[Int.mul_assoc,Int.mul_comm b2 r2,<- Int.mul_assoc]
 have e6:r1*q2*b2<=q1*r2*b2:=by omega
 exact Int.le_of_mul_le_mul_right e6 hb2
theorem wa4 (m:List (List Int)) (b:Int × Int) (q:Nat × Nat):qn3 m (some b) q=if(lk m q).2=true then some (if(lk m q).1.1*b.2 > b.1*(lk m q).1.2 then(lk m q).1 else b) else none:=by
 show(match(lk m q).2 with
  | false=>none
  | true=>some (if(lk m q).1.1*b.2 > b.1*(lk m q).1.2 then(lk m q).1 else b))=_
 cases(lk m q).2 <;> rfl
theorem xa3 {m:List (List Int)} {l:List (Nat × Nat)} {b b':Int × Int} {q:Nat × Nat} (h:Best m l b) (hs:qn3 m (some b) q=some b'):Best m (l++[q]) b':=by
 rw[wa4] at hs
 split at hs
 ·rename_i hq
  have hlo:Lo (lk m q).1:=xa2 hq
  injection hs with hs
  split at hs
  ·rename_i hg
   subst hs
   refine⟨hlo,.inr ⟨q,by simp,rfl⟩,λr hr=>?_⟩
   rcases List.mem_append.1 hr with hr | hr
   ·obtain⟨r1,r2⟩:=h.all r hr
    exact⟨r1,xn1 (xa2 r1).2.1 h.lo.2.1 hlo.2.1 r2 hg⟩
   ·obtain rfl:r=q:=by simpa using hr
    exact⟨hq,Int.le_refl _⟩
  ·rename_i hg
   subst hs
   refine⟨h.lo,h.mem.imp id λ⟨r,hr,e⟩=>⟨r,by simp[hr],e⟩,λr hr=>?_⟩
   rcases List.mem_append.1 hr with hr | hr
   ·exact h.all r hr
   ·obtain rfl:r=q:=by simpa using hr
    exact⟨hq,by omega⟩
 ·cases hs
theorem xa4 {m:List (List Int)}:∀(r l:List (Nat × Nat)) (b b':Int × Int),Best m l b->r.foldl (qn3 m) (some b)=some b'->Best m (l++r) b'
 | [],l,b,b',h,hs=>by
  simp at hs
  subst hs
  simpa using h
 | q :: r,l,b,b',h,hs=>by
  rw[List.foldl_cons] at hs
  cases hc:qn3 m (some b) q with
  | none=>
   rw[hc] at hs
   have:∀r:List (Nat × Nat),r.foldl (qn3 m) none=none:=λr=>by induction r with
    | nil=>rfl
    | cons q r ih=>exact ih
   rw[this] at hs; cases hs
  | some b1=>
   rw[hc] at hs
   have:=xa4 r (l++[q]) b1 b' (xa3 h hc) hs
   simpa using this
theorem cohF_best {m:List (List Int)} {l:List (Nat × Nat)} {b:Int × Int} (h:wa3 m l=some b):Best m l b:=by
 have:=xa4 l [] (0,1) b ⟨yd8,.inl rfl,λq hq=>by cases hq⟩ h
 simpa using this
theorem w28 {m:List (List Int)}:∀(r:List (Nat × Nat)) (b:Int × Int),(∀q∈r,(lk m q).2=true)->∃b',r.foldl (qn3 m) (some b)=some b'
 | [],b,_=>⟨b,rfl⟩
 | q :: r,b,h=>by
  rw[List.foldl_cons,wa4,if_pos (h q (by simp))]
  exact w28 r _ λq' hq'=>h q' (by simp[hq'])
theorem xa5 {m:List (List Int)} {l l':List (Nat × Nat)} {b b':Int × Int} (h:Best m l b) (h':Best m l' b') (hm:∀q,q∈l↔q∈l'):b=b':=by
 have one:∀{l l':List (Nat × Nat)} {b b':Int × Int},Best m l b->Best m l' b'->(∀q,q∈l->q∈l')->b.1*b'.2<=b'.1*b.2:=by
  intro l l' b b' h h' hm
  rcases h.mem with rfl | ⟨q,hq,e⟩
  ·have:=h'.lo.1
   simp only[Int.zero_mul,Int.mul_one]; omega
  ·rw[e]
   exact(h'.all q (hm q hq)).2
 refine x64 h.lo h'.lo ?_
 have h1:=one h h' λq=>(hm q).1
 have h2:=one h' h λq=>(hm q).2
 omega
theorem mem_prs {p i:Nat} {q:Nat × Nat}:q∈prs p i↔q.1<i/\q.1<q.2/\q.2<p:=by
 induction i with
 | zero=>simp[prs]
 | succ i ih=>
  rw[prs,List.mem_append,ih]
  obtain⟨a,b⟩:=q
  simp only[rowP,List.mem_map,List.mem_range,Prod.mk.injEq]
  constructor
  ·rintro(h | ⟨d,hd,rfl,rfl⟩)
   ·omega
   ·omega
  ·rintro⟨h1,h2,h3⟩
   by_cases e:a=i
   ·exact .inr ⟨b-(i+1),by omega,by omega,by omega⟩
   ·exact .inl (by omega)
theorem xn2 {j:Nat} {q:Nat × Nat}:q∈w0g j↔q.1<q.2/\q.2<j:=by
 induction j with
 | zero=>simp[w0g]
 | succ j ih=>
  rw[w0g,List.mem_append,ih]
  obtain⟨a,b⟩:=q
  simp only[w5c,List.mem_map,List.mem_range,Prod.mk.injEq]
  constructor
  ·rintro(h | ⟨d,hd,rfl,rfl⟩)
   ·omega
   ·omega
  ·rintro⟨h1,h2⟩
   by_cases e:b=j
   ·exact .inr ⟨a,by omega,rfl,e.symm⟩
   ·exact .inl (by omega)
theorem wj3 (m:List (List Int)) (q:Nat × Nat):q∈prsL m↔q∈w0g (nthL m 0).length:=by
 show q∈prs (nthL m 0).length (nthL m 0).length↔_
 rw[mem_prs,xn2]
 omega
theorem cohK_all (m:List (List Int)):xc3 m (prsL m).length=wa3 m (prsL m):=by
 unfold xc3 wa3
 rw[List.take_length]
theorem q4b {m:List (List Int)} {l:List (Nat × Nat)}:(wa3 m l).isNone=false↔∀q∈l,(lk m q).2=true:=by
 constructor
 ·intro h q hq
  cases hc:wa3 m l with
  | none=>rw[hc] at h; cases h
  | some b=>exact((cohF_best hc).all q hq).1
 ·intro h
  obtain⟨b,hb⟩:=w28 l (0,1) h
  have:wa3 m l=some b:=hb
  rw[this]; rfl
theorem wa5 (m:List (List Int)):(xc3 m (prsL m).length).isNone=(rcL m).isNone:=by
 rw[cohK_all]
 unfold rcL
 cases h:(wa3 m (prsL m)).isNone with
 | false=>
  have h1:=q4b.1 h
  exact(q4b.2 λq hq=>h1 q ((wj3 m q).2 hq)).symm
 | true=>
  cases h':(wa3 m (w0g (nthL m 0).length)).isNone with
  | true=>rfl
  | false=>
   have h1:=q4b.1 h'
   have:=q4b.2 λq hq=>h1 q ((wj3 m q).1 hq)
   rw[this] at h; cases h
theorem cohE_same (m:List (List Int)):cohE m=rcE m:=by
 unfold cohE rcE
 rw[wa5]
 rfl
theorem coh_some {m:List (List Int)} (h:cohE m=0):validB m=true/\∃b,wa3 m (prsL m)=some b/\cohR m=b/\rcL m=some b:=by
 have hv:validB m=true:=by
  cases hv:validB m with
  | true=>rfl
  | false=>simp[cohE,hv] at h
 have hn:(wa3 m (prsL m)).isNone=false:=by
  unfold cohE at h
  rw[if_neg (by simp[hv])] at h
  split at h
  ·cases h
  ·split at h
   ·cases h
   ·rename_i hh
    rw[cohK_all] at hh
    cases hz:(wa3 m (prsL m)).isNone with
    | false=>rfl
    | true=>exact absurd hz hh
 cases hb:wa3 m (prsL m) with
 | none=>rw[hb] at hn; cases hn
 | some b=>
  have hn':=wa5 m
  rw[cohK_all,hb] at hn'
  cases hb':rcL m with
  | none=>rw[hb'] at hn'; cases hn'
  | some b'=>
   have e:=xa5 (cohF_best hb) (cohF_best hb') (wj3 m)
   subst e
   refine⟨hv,b,rfl,?_,rfl⟩
   unfold cohR
   rw[if_pos h,cohK_all,hb]
   rfl
theorem cohR_same (m:List (List Int)):cohR m=rcR m:=by
 by_cases h:cohE m=0
 ·obtain⟨_,b,_,h2,h3⟩:=coh_some h
  unfold rcR
  rw[if_pos (by rw[<- cohE_same]; exact h),h3,h2]
  rfl
 ·unfold cohR rcR
  rw[if_neg h,if_neg (by rw[<- cohE_same]; exact h)]
end Go.Proofs.YtempacilejhbgaaGreat.K
namespace Go.Proofs.YtempacilejhbgaaGreat
open Go Go.RowKit Eng
theorem xa6 (m:List (List Int)):K.validB m=validB m:=rfl
theorem xa7 (f:Nat->Int):∀n,sm (n+1) f=f 0+sm n λi=>f (i+1)
 | 0=>by simp[sm]
 | n+1=>by rw[sm,xa7 f n,sm]; omega
theorem q46:∀(m:List (List Int)) (i j:Nat),K.dotI (K.colA m i) (K.colA m j)=sm m.length λa=>nI (nL m a) i*nI (nL m a) j
 | [],_,_=>rfl
 | r :: m,i,j=>by
  rw[List.length_cons,xa7]
  show nI r i*nI r j+K.dotI (K.colA m i) (K.colA m j)=_
  rw[q46 m i j]
  rfl
def cq (m:List (List Int)) (i j:Nat):Int:=sm m.length λa=>nI (nL m a) i*nI (nL m a) j
theorem x3k (m:List (List Int)) (i j:Nat):cq m i j=cq m j i:=qf2 λa _=>Int.mul_comm _ _
theorem x65 (m:List (List Int)) (i:Nat):0<=cq m i i:=by
 unfold cq
 generalize m.length=n
 induction n with
 | zero=>exact Int.le_refl _
 | succ n ih=>rw[sm]; have:=isq (nI (nL m n) i); omega
theorem xz7 {m:List (List Int)} {i j:Nat} (h:i<j) (hj:j<(nL m 0).length):(i,j)∈K.prsL m:=by
 unfold K.prsL
 rw[K.mem_prs]
 have hj:j<(qh4 (.list (.int .i64)) m 0:List Int).length:=hj
 exact⟨by omega,h,hj⟩
theorem q55 {m:List (List Int)} {b:Int × Int} (hB:K.Best m (K.prsL m) b) {i j:Nat} (h:i<j) (hj:j<(nL m 0).length):0<cq m i i*cq m j j/\cq m i j*cq m i j*b.2<=b.1*(cq m i i*cq m j j):=by
 obtain⟨h1,h2⟩:=hB.all _ (xz7 h hj)
 unfold K.lk K.likP at h1 h2
 simp only at h1 h2
 split at h1
 ·cases h1
 ·rename_i h0
  rw[if_neg h0] at h2
  unfold K.likeD K.likeN at *
  rw[q46,q46] at h0
  rw[q46,q46,q46] at h2
  change ¬(cq m i i*cq m j j).toNat=0 at h0
  change K.ratN (cq m i j*cq m i j).toNat (cq m i i*cq m j j).toNat*b.2<=b.1*K.ratD (cq m i j*cq m i j).toNat (cq m i i*cq m j j).toNat at h2
  have hP:0<cq m i i*cq m j j:=by omega
  refine⟨hP,?_⟩
  have hQ:=isq (cq m i j)
  generalize cq m i i*cq m j j=P at *
  generalize cq m i j*cq m i j=Q at *
  obtain⟨p,rfl⟩:=Int.eq_ofNat_of_zero_le (Int.le_of_lt hP)
  obtain⟨q,rfl⟩:=Int.eq_ofNat_of_zero_le hQ
  simp only[Int.toNat_natCast] at h2
  unfold K.ratN K.ratD at h2
  have e1:Nat.gcd q p*(q / Nat.gcd q p)=q:=Nat.mul_div_cancel' (Nat.gcd_dvd_left q p)
  have e2:Nat.gcd q p*(p / Nat.gcd q p)=p:=Nat.mul_div_cancel' (Nat.gcd_dvd_right q p)
  generalize Nat.gcd q p=g at *
  generalize q / g=x at *
  generalize p / g=y at *
  subst e1
  subst e2
  have h3:=Int.mul_le_mul_of_nonneg_left h2 (Int.natCast_nonneg g)
  have e3:((g*x:Nat):Int)*b.2=g*(x*b.2):=by rw[Int.natCast_mul,Int.mul_assoc]
  have e4:b.1*((g*y:Nat):Int)=g*(b.1*y):=by rw[Int.natCast_mul,<- Int.mul_assoc,Int.mul_comm b.1,Int.mul_assoc]
  rw[e3,e4]
  exact h3
def wu0 (m:List (List Int)):Int:=K.cohE m
def wj4 (m:List (List Int)):Int:=if K.cohE m=0 then(bndTo (K.cohR m).1 (K.cohR m).2 (nL m 0).length 0:Nat) else 0
theorem x67 {m:List (List Int)} {d:Nat->Int} (h:Sol m.length (nL m 0).length (rowOf m) d) (j:Nat):(sm (nL m 0).length λc=>d c*cq m c j)=0:=by
 have e:(sm (nL m 0).length λc=>d c*cq m c j)=sm m.length λa=>nI (nL m a) j*sm (nL m 0).length λc=>rowOf m a c*d c:=by
  have e1:(sm (nL m 0).length λc=>d c*cq m c j)=sm (nL m 0).length λc=>sm m.length λa=>d c*(nI (nL m a) c*nI (nL m a) j):=qf2 λc _=>(qn7 _ _ _).symm
  rw[e1,wy5]
  refine qf2 λa _=>?_
  rw[<- qn7]
  refine qf2 λc _=>?_
  show d c*(nI (nL m a) c*nI (nL m a) j)=nI (nL m a) j*(nI (nL m a) c*d c)
  grind
 rw[e]
 exact qr7 λa ha=>by rw[h a ha,Int.mul_zero]
end Go.Proofs.YtempacilejhbgaaGreat
set_option linter.unusedSimpArgs false
namespace Go.Proofs.YtempacilejhbgaaGreat
open Go Go.RowKit Eng
theorem w0i {h p:List Int} (hh:wk1 h p):hlf (shR h p)=decide (szL h<=2*inL h p):=by
 have k:=qv4 hh
 have hp:=q2s hh.ok hh.ne
 have e:=k.eq
 have h1:=k.pos
 unfold hlf
 generalize shR h p=r at *
 generalize inL h p=n at *
 generalize szL h=d at *
 have e2:2*r.1*d=2*n*r.2:=by rw[Int.mul_assoc,e,Int.mul_assoc]
 rw[decide_eq_decide]
 constructor
 ·intro q
  have q2:=Int.mul_le_mul_of_nonneg_right q (c:=d) (by omega)
  rw[e2] at q2
  refine Int.le_of_mul_le_mul_left (a:=r.2) ?_ (by omega)
  rw[Int.mul_comm r.2 (2*n)]; exact q2
 ·intro q
  have q2:=Int.mul_le_mul_of_nonneg_right q (c:=r.2) (by omega)
  rw[<- e2] at q2
  refine Int.le_of_mul_le_mul_left (a:=d) ?_ hp
  rw[Int.mul_comm d (2*r.1)]; exact q2
theorem xr5:hlf (0,1)=false:=by decide
theorem w29 (h:List Int) {k j:Nat} (hkj:k<=j):inL h (q0h h k)<=inL h (q0h h j):=by
 rw[q38,q38]
 have:∀(l:List Int) (k j:Nat),k<=j->q08 (szV h) (l.take k)<=q08 (szV h) (l.take j):=λl=>by
  induction l with
  | nil=>intro k j _; simp
  | cons x l ih=>
   intro k j hkj
   have hx:0<=szV h x:=Int.natCast_nonneg _
   have nn:∀l:List Int,0<=q08 (szV h) l:=λl=>by
    induction l with
    | nil=>exact Int.le_refl _
    | cons y l ih2=>have:0<=szV h y:=Int.natCast_nonneg _; simp only[q08]; omega
   cases k with
   | zero=>simpa[q08] using nn (List.take j (x :: l))
   | succ k=>
    cases j with
    | zero=>omega
    | succ j=>
     have:=ih k j (by omega)
     simp only[List.take_succ_cons,q08]
     omega
 exact this _ _ _ hkj
theorem w0j {l:List (List Int)} {k:Nat} (hk:hlf (qi2 l k l.length)=true):∀f j,j<k->ordF l f j<k
 | 0,j,hj=>hj
 | f+1,j,hj=>by
  rw[ordF]
  split
  ·rename_i q
   have:j+1≠k:=λe=>by rw[e,hk] at q; cases q
   exact w0j hk f (j+1) (by omega)
  ·exact hj
theorem xa8 {l:List (List Int)} {B:Nat}:∀f j,j<=B->B<=j+f->(∀i,j<i->i<=B->hlf (qi2 l i l.length)=false)->B<=ordF l f j
 | 0,j,h1,h2,_=>by rw[ordF]; omega
 | f+1,j,h1,h2,h3=>by
  rw[ordF]
  by_cases e:j=B
  ·subst e
   split
   ·have ge:∀f k,k<=ordF l f k:=λf=>by
     induction f with
     | zero=>exact λk=>Nat.le_refl _
     | succ f ih=>
      intro k
      rw[ordF]
      split
      ·have:=ih (k+1); omega
      ·exact Nat.le_refl _
    have:=ge f (j+1); omega
   ·exact Nat.le_refl _
  ·rw[if_pos (h3 (j+1) (by omega) (by omega))]
   exact xa8 f (j+1) (by omega) (by omega) λi hi hB=>h3 i (by omega) hB
theorem x3l (m:List (List Int)):ordL m<=(nL m 0).length:=by
 have:∀l f k,ordF l f k<=k+f:=λl f=>by
  induction f with
  | zero=>exact λk=>Nat.le_refl _
  | succ f ih=>
   intro k
   rw[ordF]
   split
   ·have:=ih (k+1); omega
   ·omega
 have:=this (qc8 m).1 (nL m 0).length 0
 unfold ordL
 omega
theorem xn3 {m:List (List Int)} (hv:validB m=true) (h7:(nL m 0).length<=7):hlf (qi2 (qc8 m).1 0 (qc8 m).1.length)=false:=by
 have hT:=(xm2 (m:=m) λ_=>h7).shs hv 0 (Nat.zero_le _)
 rcases(qx7 hT _ (Nat.le_refl _)).2 with e | ⟨i,hi,e⟩
 ·rw[e]; exact xr5
 ·rw[e]
  obtain⟨s,hc⟩:=qs2 hv h7 hi
  have hs:=q42 hv hc (q39 hc 0)
  rw[w0i hs]
  have:inL (nL (qc8 m).1 i) (q0h (nL (qc8 m).1 i) 0)=0:=by rw[q38]; rfl
  rw[this]
  have:=wz8 hc
  exact decide_eq_false (by omega)
theorem xn4 {m:List (List Int)} (hv:validB m=true) (h7:(nL m 0).length<=7) {k:Nat} (hk:k<=ordL m):hlf (qi2 (qc8 m).1 k (qc8 m).1.length)=false:=by
 rcases Nat.eq_zero_or_pos k with e | e
 ·subst e; exact xn3 hv h7
 ·cases q:hlf (qi2 (qc8 m).1 k (qc8 m).1.length) with
  | false=>rfl
  | true=>
   have:=w0j q (nL m 0).length 0 e
   unfold ordL at hk
   omega
theorem x3m {m:List (List Int)} (hv:validB m=true) (h7:(nL m 0).length<=7) {p:List Int} (hp:Named (nL m 0).length p):leQ (qq7 (qc8 m).1 p (qc8 m).1.length) (qi2 (qc8 m).1 p.length (qc8 m).1.length):=by
 have hpl:=hp.len
 have hT:=(xm2 (m:=m) λ_=>h7).shs hv p.length hpl
 have om:xq2 (qc8 m).1 p:=⟨q0c hv,λi hi=>by
  obtain⟨s,hc⟩:=qs2 hv h7 hi
  exact q42 hv hc hp⟩
 have lt:=qo8 hT _ (Nat.le_refl _)
 rw[Int.toNat_natCast] at lt
 rcases(w21 om _ (Nat.le_refl _)).2 with e | ⟨i,hi,e⟩
 ·rw[e]; exact w20 lt
 ·rw[e]
  obtain⟨s,hc⟩:=qs2 hv h7 hi
  have hs:=om.ok i hi
  have hl:=q42 hv hc (q39 hc p.length)
  have:=q2s hs.ok hs.ne
  exact q1a (qv4 hs).pos (qv4 hl).pos lt.pos (x23 hs hl (Int.mul_le_mul_of_nonneg_right (q51 (by rw[hc.len]; exact hp)) (by omega))) ((qx7 hT _ (Nat.le_refl _)).1 i hi)
theorem x3n {m:List (List Int)} (hv:validB m=true) (h7:(nL m 0).length<=7) {p:List Int} (hp:Named (nL m 0).length p):qr5 (qq7 (qc8 m).1 p (qc8 m).1.length):=
 q0a ⟨q0c hv,λi hi=>by
  obtain⟨s,hc⟩:=qs2 hv h7 hi
  exact q42 hv hc hp⟩ _ (Nat.le_refl _)
theorem xz8 {m:List (List Int)} (hv:validB m=true) (h7:(nL m 0).length<=7) {p:List Int} (hp:Named (nL m 0).length p) (hk:p.length<=ordL m):hlf (qq7 (qc8 m).1 p (qc8 m).1.length)=false:=by
 have hT:=(xm2 (m:=m) λ_=>h7).shs hv p.length hp.len
 have lt:=qo8 hT _ (Nat.le_refl _)
 rw[Int.toNat_natCast] at lt
 exact w9o (x3n hv h7 hp).pos lt.pos (x3m hv h7 hp) (xn4 hv h7 hk)
theorem w3a {f:Int->Int} {q:Int->Bool}:∀l:List Int,(∀x∈l,q x=false->f x=0)->q08 f (l.filter q)=q08 f l
 | [],_=>rfl
 | x :: l,h=>by
  have ih:=w3a (q:=q) l λy hy=>h y (by simp[hy])
  cases e:q x with
  | true=>rw[List.filter_cons_of_pos e]; simp only[q08,ih]
  | false=>
   rw[List.filter_cons_of_neg (by rw[e]; decide)]
   have:=h x (by simp) e
   simp only[q08,ih,this,Int.zero_add]
theorem xn5 {m:List (List Int)} {s h:List Int} (hc:w45 m s h):szL h=inL h s:=by
 rw[q2x]
 have e1:szL h=inL h (qo3 h.length):=by
  rw[<- x26,<- xz0 rfl]
  unfold sA sB
  rw[qe8]
  refine qf2 λi hi=>?_
  rw[qz6 _ _ hi,Int.toNat_natCast]
 rw[e1,q2x]
 have hp:((qo3 h.length).filter λx=>decide (x∈s)).Perm s:=by
  rw[List.perm_ext_iff_of_nodup ((q36 (w9l _)).sublist List.filter_sublist) (q36 (q34 hc.nam))]
  intro a
  rw[List.mem_filter,decide_eq_true_eq]
  refine⟨λq=>q.2,λq=>⟨wi5.2 ?_,q⟩⟩
  obtain⟨i,hi,rfl⟩:=List.mem_iff_getElem.1 q
  have:=hc.nam.at_ i hi
  rw[qg1 s i hi] at this
  rw[hc.len]; exact this
 rw[<- q77 _ hp]
 refine(w3a _ λx hx hn=>?_).symm
 have hx:=wi5.1 hx
 rw[hc.len] at hx
 have hn:¬x∈s:=of_decide_eq_false hn
 have:=hc.off x.toNat (by omega) λj hj e=>hn (by
  have:x=nI s j:=by omega
  rw[this]; exact q2t hj)
 show qj2 (nI h x.toNat)=0
 rw[this]; rfl
theorem w5e {n:Nat} {p:List Int} (h:Named n p) (k:Nat):Named n (p.take k):=by
 refine q2y ((q34 h).sublist (List.take_sublist _ _)) λx hx=>?_
 obtain⟨i,hi,rfl⟩:=List.mem_iff_getElem.1 (List.mem_of_mem_take hx)
 have:=h.at_ i hi
 rwa [qg1 p i hi] at this
theorem w5f {n:Nat} {p:List Int} (h:Named n p) (k:Nat):Named n (p.drop k):=by
 refine q2y ((q34 h).sublist (List.drop_sublist _ _)) λx hx=>?_
 obtain⟨i,hi,rfl⟩:=List.mem_iff_getElem.1 (List.mem_of_mem_drop hx)
 have:=h.at_ i hi
 rwa [qg1 p i hi] at this
theorem xa9 {m:List (List Int)} {s h:List Int} (hc:w45 m s h) {k:Nat} (hk:s.length<=2*k):szL h<=2*inL h (q0h h k):=by
 have e:szL h=inL h (s.take k)+inL h (s.drop k):=by
  rw[xn5 hc,q2x,q2x,q2x,<- wi4,List.take_append_drop]
 have h1:=q51 (h:=h) (p:=s.take k) (by rw[hc.len]; exact w5e hc.nam k)
 have h2:=q51 (h:=h) (p:=s.drop k) (by rw[hc.len]; exact w5f hc.nam k)
 have m1:=w29 h (k:=(s.take k).length) (j:=k) (by rw[List.length_take]; omega)
 have m2:=w29 h (k:=(s.drop k).length) (j:=k) (by rw[List.length_drop]; omega)
 omega
theorem xn6 {m:List (List Int)} (hv:validB m=true) (h7:(nL m 0).length<=7) {i:Nat} (hi:i<(qc8 m).1.length) {s:List Int} (hc:w45 m s (nL (qc8 m).1 i)):2*ordL m+1<=s.length:=by
 have hl:=hc.nam.len
 have hpos:=hc.pos
 obtain⟨k,hk⟩:∃k,k=(s.length+1) / 2:=⟨_,rfl⟩
 have hT:=(xm2 (m:=m) λ_=>h7).shs hv k (by omega)
 have lt:=qo8 hT _ (Nat.le_refl _)
 rw[Int.toNat_natCast] at lt
 have hsh:=q42 hv hc (q39 hc k)
 have h1:hlf (shR (nL (qc8 m).1 i) (q0h (nL (qc8 m).1 i) k))=true:=by
  rw[w0i hsh]
  exact decide_eq_true (xa9 hc (by omega))
 have h2:hlf (qi2 (qc8 m).1 k (qc8 m).1.length)=true:=by
  cases q:hlf (qi2 (qc8 m).1 k (qc8 m).1.length) with
  | true=>rfl
  | false=>have:=w9o (qv4 hsh).pos lt.pos ((qx7 hT _ (Nat.le_refl _)).1 i hi) q; rw[h1] at this; cases this
 have:=w0j h2 (nL m 0).length 0 (by omega)
 unfold ordL
 omega
end Go.Proofs.YtempacilejhbgaaGreat
