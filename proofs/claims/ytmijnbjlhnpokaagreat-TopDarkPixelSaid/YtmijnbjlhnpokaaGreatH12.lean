/- Known pixels: contracts by the engine. No condition. -/
import Derived.Test.YtmijnbjlhnpokaaGreatW2
import Derived.Test.YtmijnbjlhnpokaaGreatW17
import Derived.Test.YtmijnbjlhnpokaaGreatQ1
import Derived.Test.YtmijnbjlhnpokaaGreatW11
import Derived.Test.YtmijnbjlhnpokaaGreatV12
set_option linter.unusedVariables false
set_option linter.unusedSimpArgs false
namespace Go.Proofs.YtmijnbjlhnpokaaGreat
open Go Go.RowKit Eng
theorem w3j {m:List (List Int)} (hv:qa9 m=true) (h7:(nL m 0).length<=7):(qi1 m).1=(List.range (nL m 0).length).flatMap λk=>wt9 m (k+1):=by
 have e1:qi1 m=(q2d m (nL m 0).length (q3y m),0):=by simp[qi1,hv]
 rw[e1]
 exact w3e hv h7
theorem x5m {m:List (List Int)} (hv:qa9 m=true) (h7:(nL m 0).length<=7) {h:List Int} (hh:h∈(qi1 m).1):∃s,w3g m s h:=by
 rw[w3j hv h7,List.mem_flatMap] at hh
 obtain⟨k,_,hk⟩:=hh
 obtain⟨s,hs,_⟩:=wi6 (Mk.of hv) hk
 exact⟨s,hs⟩
theorem x1n {m:List (List Int)} (hv:qa9 m=true) (h7:(nL m 0).length<=7) {s:List Int} (hs:Named (nL m 0).length s) (h1:0<s.length) (hc:IsC m s):∃h∈(qi1 m).1,w3g m s h:=by
 refine⟨_,?_,w0o (Mk.of hv) hs h1 hc⟩
 rw[w3j hv h7,List.mem_flatMap]
 have:=hs.len
 refine⟨s.length-1,List.mem_range.2 (by omega),?_⟩
 rw[show s.length-1+1=s.length by omega]
 exact w3h (Mk.of hv) hs h1 hc
theorem wi7 {m:List (List Int)} (hv:qa9 m=true) {s h:List Int} (hc:w3g m s h):HOk h:=by
 have:=(Mk.of hv).pix10
 refine⟨by rw[hc.len]; omega,λi=>?_⟩
 have:=hc.small i
 unfold qf8; omega
theorem xd3 (h:List Int):∀k,q8v h k=sm k λi=>q1y (nI h i)
 | 0=>rfl
 | k+1=>by rw[q8v,xd3 h k]; rfl
theorem xd4 {n:Nat} {f:Nat->Int} (h:∀i,i<n->0<=f i):0<=sm n f:=by
 induction n with
 | zero=>exact Int.le_refl _
 | succ n ih=>
  have h1:=ih λi hi=>h i (by omega)
  have h2:=h n (by omega)
  show 0<=sm n f+f n
  omega
theorem x5n {n:Nat} {f:Nat->Int} (h:∀i,i<n->0<=f i) {k:Nat} (hk:k<n) (hf:0<f k):0<sm n f:=by
 induction n with
 | zero=>omega
 | succ n ih=>
  have h2:=h n (by omega)
  have h1:=xd4 (n:=n) λi hi=>h i (by omega)
  show 0<sm n f+f n
  rcases Nat.lt_succ_iff_lt_or_eq.1 hk with e | e
  ·have:=ih (λi hi=>h i (by omega)) e; omega
  ·subst e; omega
theorem w0p (x:Int):0<=q1y x:=Int.natCast_nonneg _
theorem x5o {h:List Int} {i:Nat} (hi:i<h.length) (hx:nI h i≠0):0<szL h:=by
 unfold szL
 rw[xd3]
 refine x5n (λi _=>w0p _) hi ?_
 show 0<q1y (nI h i)
 unfold q1y; omega
theorem x1o {m:List (List Int)} {s h:List Int} (hc:w3g m s h):0<szL h:=by
 have h1:=hc.nam.at_ 0 hc.pos
 exact x5o (i:=(nI s 0).toNat) (by rw[hc.len]; omega) (hc.on 0 hc.pos)
theorem xq8 {l:List Int} {j:Nat} (h:j+1<l.length):(swp l j).Perm l:=by
 unfold swp
 rw[qg5 l j (by omega),qg5 l (j+1) h]
 have e1:l=l.take j++l[j] :: l[j+1] :: l.drop (j+2):=by
  rw[<- List.drop_eq_getElem_cons h,<- List.drop_eq_getElem_cons (by omega),List.take_append_drop]
 generalize hx:l[j]=x at *
 generalize hy:l[j+1]=y at *
 have hlt:(l.take j).length=j:=by rw[List.length_take]; omega
 generalize l.take j=a at *
 generalize l.drop (j+2)=b at *
 subst e1
 have e2:(a++x :: y :: b).set (j+1) x=a++x :: x :: b:=by
  rw[List.set_append_right _ _ (by omega),hlt,show j+1-j=1 by omega]; rfl
 have e3:(a++x :: x :: b).set j y=a++y :: x :: b:=by
  rw[List.set_append_right _ _ (by omega),hlt,Nat.sub_self]; rfl
 rw[e2,e3]
 exact List.Perm.append_left a (List.Perm.swap x y b)
theorem wu1 (f:Int->Int->Int):∀(j:Nat) (l:List Int),j<l.length->(q1a f j l).Perm l
 | 0,l,_=>List.Perm.refl l
 | j+1,l,h=>by
  rw[q1a]
  split
  ·exact(wu1 f j (swp l j) (by rw[wh3]; omega)).trans (xq8 h)
  ·exact List.Perm.refl l
theorem w3k (f:Int->Int->Int) (l:List Int):∀k,k<l.length\/k=0->(q0a f l k).Perm l
 | 0,_=>List.Perm.refl l
 | k+1,h=>by
  have h1:=(q14 f l k (by omega)).1
  exact(wu1 f (k+1) (q0a f l k) (by omega)).trans (w3k f l k (by omega))
def wv4 (f:Int->Int):List Int->Int
 | []=>0
 | x :: r=>f x+wv4 f r
theorem xd5 (f:Int->Int) {a b:List Int} (h:a.Perm b):wv4 f a=wv4 f b:=by
 induction h with
 | nil=>rfl
 | cons x _ ih=>simp[wv4,ih]
 | swap x y l=>simp[wv4]; omega
 | trans _ _ ih1 ih2=>exact ih1.trans ih2
theorem w3l (f:Int->Int):∀a b:List Int,wv4 f (a++b)=wv4 f a+wv4 f b
 | [],b=>by simp[wv4]
 | x :: a,b=>by simp[wv4,w3l f a b]; omega
def szV (h:List Int) (x:Int):Int:=q1y (nI h x.toNat)
theorem x1p (h:List Int) (p:List Int):inL h p=wv4 (szV h) p:=by
 have:∀k,k<=p.length->qv9 h p k=wv4 (szV h) (p.take k):=λk=>by
  induction k with
  | zero=>exact λ_=>by simp[qv9,wv4]
  | succ k ih=>
   intro hk
   have hs:p.take (k+1)=p.take k++[nI p k]:=by
    rw[List.take_add_one,List.getElem?_eq_getElem (by omega),qg5 p k (by omega)]; rfl
   rw[qv9,ih (by omega),hs,w3l]
   simp[wv4,szV]
 rw[inL,this _ (Nat.le_refl _),List.take_length]
theorem xq9 {n:Nat} {p:List Int} (h:Named n p):p.Pairwise (· < ·):=by
 rw[List.pairwise_iff_getElem]
 intro i j hi hj hij
 have:=h.asc i j hij hj
 rwa [qg5 p i hi,qg5 p j hj] at this
theorem w0q {n:Nat} {p:List Int} (h:p.Pairwise (· < ·)) (hb:∀x∈p,0<=x/\x<n):Named n p:=by
 refine⟨λj hj=>hb _ (q4y hj),λi j hij hj=>?_⟩
 rw[qg5 p i (by omega),qg5 p j hj]
 exact List.pairwise_iff_getElem.1 h i j (by omega) hj hij
theorem xr0 {p:List Int} (h:p.Pairwise (· < ·)):p.Nodup:=h.imp λ{a b} q e=>by omega
theorem x5p (n:Nat):(ql7 n).Pairwise (· < ·):=xq9 (Named.idx n)
theorem x1q {n:Nat} {x:Int}:x∈ql7 n↔0<=x/\x<n:=by
 constructor
 ·intro hx
  obtain⟨i,hi,rfl⟩:=List.mem_iff_getElem.1 hx
  rw[<- qg5 _ _ hi]
  rw[qd8] at hi
  rw[qv5 _ _ hi]; omega
 ·intro hx
  have:nI (ql7 n) x.toNat=x:=by rw[qv5 _ _ (by omega)]; omega
  rw[<- this]
  exact q4y (by rw[qd8]; omega)
def x2j (h:List Int):List Int:=insL (q5s h) (ql7 h.length)
theorem wu3 (h:List Int):(x2j h).Perm (ql7 h.length):=w3k _ _ _ (by rw[qd8]; omega)
theorem wu4 (h:List Int) (k:Nat):(q7z h k).Perm ((x2j h).take k):=List.mergeSort_perm ..
theorem w58 {h:List Int} {k:Nat}:Named h.length (q7z h k):=by
 have hp:=wu4 h k
 have hnd:(x2j h).Nodup:=(xr0 (x5p _)).perm (wu3 h).symm
 have hnd2:(q7z h k).Nodup:=(hnd.sublist (List.take_sublist k _)).perm hp.symm
 have hsrt:(q7z h k).Pairwise (·<=·):=by
  have:=List.pairwise_mergeSort (le:=λx y:Int=>decide (x<=y)) (λa b c h1 h2=>by simp only[decide_eq_true_eq] at *; omega) (λa b=>by
   rcases Int.le_total a b with q | q
   ·simp[q]
   ·simp[q]) ((x2j h).take k)
  exact this.imp λ{a b} q=>of_decide_eq_true q
 refine w0q ?_ λx hx=>x1q.1 ((wu3 h).mem_iff.1 (List.mem_of_mem_take (hp.mem_iff.1 hx)))
 exact List.Pairwise.imp₂ (λa b h1 h2=>by omega) hsrt hnd2
theorem xr1 (h:List Int) (k:Nat):inL h (q7z h k)=wv4 (szV h) ((x2j h).take k):=by rw[x1p,xd5 _ (wu4 h k)]
theorem q2e {m:List (List Int)} (hM:Mk m):∀(K:Nat) (d:Nat->Int),q8k (nL m 0).length d<=K->Sol m.length (nL m 0).length (rowOf m) d->(∃c,c<(nL m 0).length/\d c≠0)->∃s,Named (nL m 0).length s/\0<s.length/\IsC m s/\∀j,j<s.length->d (nI s j).toNat≠0
 | 0,d,hK,_,⟨c,hc,hd⟩=>by
  have:=cnt_lt (d:=λ_=>0) (e:=d) (c0:=c) rfl hd _ hc λc _ q=>absurd rfl q
  omega
 | K+1,d,hK,hs,⟨c1,hc1,hd1⟩=>by
  have hN:=(qy0 d (nL m 0).length).1
  have hnz:=(qy0 d (nL m 0).length).2
  have hin:=wi5 d (nL m 0).length
  have hl:=q6b d (nL m 0).length
  generalize wv3 (nL m 0).length d=s at hN hnz hin hl
  have h1:0<s.length:=by obtain⟨j,hj,_⟩:=hin c1 hc1 hd1; omega
  have hO:=qk5 hM hN h1
  by_cases hC:IsC m s
  ·exact⟨s,hN,h1,hC,hnz⟩
  ·have hsW:∀c,c<s.length->(nI s c).toNat<(nL m 0).length:=λc hc=>by have:=hN.at_ c hc; omega
   have hu:Sol m.length s.length (rowOf (qn4 m s)) λc=>d (nI s c).toNat:=λa ha=>by
    have e:=hs a ha
    rw[q39 s.length (f:=λc=>rowOf m a c*d c) (τ:=λc=>(nI s c).toNat) hsW (λq k hq hk e=>hN.inj hq hk e) λb hb hq=>by
     try dsimp only
     rw[Classical.byContradiction λq:¬d b=0=>by
      obtain⟨j,hj,e⟩:=hin b hb q
      exact hq j hj (by(try dsimp only); rw[e,Int.toNat_natCast]),Int.mul_zero]] at e
    rw[<- e]
    refine qe8 λc hc=>?_
    unfold rowOf
    rw[qr3 m s a ha,qp5 _ _ _ hc]
   have hx:∃z,Sol m.length s.length (rowOf (qn4 m s)) z/\(∃c,c<s.length/\z c=0)/\∃c,c<s.length/\z c≠0:=Classical.byContradiction λhno=>by
    have:=hO.one_mk hu hnz λz hz h0 c hc=>Classical.byContradiction λq=>hno ⟨z,hz,h0,c,hc,q⟩
    exact hC ⟨this.1,this.2⟩
   obtain⟨z,hz,⟨c0,hc0,hz0⟩,c2,hc2,hz2⟩:=hx
   have hat:∀c,c<s.length->(sm s.length λq=>if(nI s q).toNat=(nI s c).toNat then z q else 0)=z c:=λc hc=>by
    rw[qq0 (k:=c) hc λi hi hne=>by
     try dsimp only
     rw[if_neg λe=>hne (hN.inj hi hc e)]]
    try dsimp only
    rw[if_pos rfl]
   have hoff:∀c,c<(nL m 0).length->(sm s.length λq=>if(nI s q).toNat=c then z q else 0)≠0->d c≠0:=λc hc hne q=>hne (sm_zero λi hi=>by
    try dsimp only
    rw[if_neg λe=>hnz i hi (by rw[e]; exact q)])
   have hlt:=cnt_lt (d:=λcol=>sm s.length λq=>if(nI s q).toNat=col then z q else 0) (e:=d) (c0:=(nI s c0).toNat) (by(try dsimp only); rw[hat c0 hc0]; exact hz0) (hnz c0 hc0) _ (hsW c0 hc0) hoff
   obtain⟨s',k1,k2,k3,k4⟩:=q2e hM K (λcol=>sm s.length λq=>if(nI s q).toNat=col then z q else 0) (by omega) (λa ha=>by
    rw[wt7 hsW]
    rw[<- hz a ha]
    refine qe8 λc hc=>?_
    unfold rowOf
    rw[qr3 m s a ha,qp5 _ _ _ hc]) ⟨(nI s c2).toNat,hsW c2 hc2,by(try dsimp only); rw[hat c2 hc2]; exact hz2⟩
   exact⟨s',k1,k2,k3,λj hj=>hoff _ (by have:=k1.at_ j hj; omega) (k4 j hj)⟩
def sA (n:Nat) (d:Nat->Int):Int:=sm n λi=>q1y (d i)
def sB (p:List Int) (d:Nat->Int):Int:=sm p.length λj=>q1y (d (nI p j).toNat)
def sg (x:Int):Int:=if x<0 then -1 else 1
def x1r (a b:Int × Int):Bool:=decide (a.1*b.2<b.1*a.2)
theorem q6c {m:List (List Int)} (hv:qa9 m=true):(qi1 m).1.length<=1000000:=by
 have hM:=Mk.of hv
 have h10:=hM.pix10
 have e1:qi1 m=(q2d m (nL m 0).length (q3y m),0):=by simp[qi1,hv]
 have hc:q3y m<=(nL m 0).length:=by unfold q3y; omega
 have:=wg1 m (nL m 0).length h10 (q3y m) (by omega)
 rw[e1]
 show(q2d m (nL m 0).length (q3y m)).length<=_
 omega
theorem wu5 {m:List (List Int)} (hv:qa9 m=true) (h7:(nL m 0).length<=7) {i:Nat} (hi:i<(qi1 m).1.length):∃s,w3g m s (nL (qi1 m).1 i):=x5m hv h7 (qx4 _ _ hi)
theorem x1s {m:List (List Int)} (hv:qa9 m=true) {s h p:List Int} (hc:w3g m s h) (hp:Named (nL m 0).length p):xf3 h p:=by
 have h10:=(Mk.of hv).pix10
 have hl:=hp.len
 exact⟨wi7 hv hc,by omega,λj hj=>by rw[hc.len]; exact hp.at_ j hj,by have:=x1o hc; omega⟩
theorem x5q {m:List (List Int)} {s h:List Int} (hc:w3g m s h) (k:Nat):Named (nL m 0).length (q7z h k):=by
 have:=w58 (h:=h) (k:=k)
 rwa [hc.len] at this
theorem yo5 {m:List (List Int)} (h7:qa9 m=true->(nL m 0).length<=7):xu2 m:=by
 refine⟨λhv=>xq4 hv,λhv k hk=>⟨q6c hv,λi hi=>?_,λi hi=>?_⟩⟩
 ·obtain⟨s,hc⟩:=wu5 hv (h7 hv) hi
  have hM:=Mk.of hv
  have m1:=hM.pix1
  have m10:=hM.pix10
  exact⟨wi7 hv hc,by rw[hc.len]; omega,by rw[hc.len]; omega,Int.natCast_nonneg _,by rw[hc.len]; omega⟩
 ·obtain⟨s,hc⟩:=wu5 hv (h7 hv) hi
  rw[Int.toNat_natCast]
  exact x1s hv hc (x5q hc k)
def leQ (a b:Int × Int):Prop:=a.1*b.2<=b.1*a.2
theorem q6d (a:Int × Int):leQ a a:=Int.le_refl _
theorem wu6 {a b c:Int × Int} (ha:1<=a.2) (hb:1<=b.2) (hc:1<=c.2) (h1:leQ a b) (h2:leQ b c):leQ a c:=by
 unfold leQ at *
 have k1:a.1*b.2*c.2<=b.1*a.2*c.2:=Int.mul_le_mul_of_nonneg_right h1 (by omega)
 have k2:b.1*c.2*a.2<=c.1*b.2*a.2:=Int.mul_le_mul_of_nonneg_right h2 (by omega)
 refine Int.le_of_mul_le_mul_left (a:=b.2) ?_ (by omega)
 have e1:b.2*(a.1*c.2)=a.1*b.2*c.2:=by grind
 have e2:b.2*(c.1*a.2)=c.1*b.2*a.2:=by grind
 have e3:b.1*a.2*c.2=b.1*c.2*a.2:=by grind
 omega
theorem w3m {a b:Int × Int}:0<wj7 a b↔b.1*a.2<a.1*b.2:=by
 unfold wj7
 split
 ·rename_i h; constructor <;> intro q <;> omega
 ·split
  ·constructor <;> intro q <;> omega
  ·constructor <;> intro q <;> omega
theorem top_le {a b:Int × Int}:leQ a (wj8 a b)/\leQ b (wj8 a b):=by
 unfold wj8
 split
 ·rename_i h
  exact⟨Int.le_of_lt (w3m.1 h),q6d b⟩
 ·rename_i h
  refine⟨q6d a,Int.not_lt.1 λq=>h (w3m.2 q)⟩
theorem w3n {l:List (List Int)} {p:List Int} (h:x2h l p):∀k,k<=l.length->(∀i,i<k->leQ (shR (nL l i) p) (qz8 l p k))/\(qz8 l p k=(0,1)\/∃i,i<k/\qz8 l p k=shR (nL l i) p)
 | 0,_=>⟨λi hi=>by omega,.inl rfl⟩
 | k+1,hk=>by
  obtain⟨h1,h2⟩:=w3n h k (by omega)
  have t:=top_le (a:=qz8 l p k) (b:=shR (nL l k) p)
  refine⟨λi hi=>?_,?_⟩
  ·rcases Nat.lt_succ_iff_lt_or_eq.1 hi with e | e
   ·exact wu6 (q7y (h.ok i (by omega))).pos (qz9 h k (by omega)).pos (qz9 h (k+1) hk).pos (h1 i e) t.1
   ·subst e; exact t.2
  ·show wj8 (qz8 l p k) (shR (nL l k) p)=(0,1)\/∃i,i<k+1/\wj8 (qz8 l p k) (shR (nL l k) p)=shR (nL l i) p
   unfold wj8
   split
   ·exact .inr ⟨k,by omega,rfl⟩
   ·rcases h2 with h2 | ⟨i,hi,h2⟩
    ·exact .inl h2
    ·exact .inr ⟨i,by omega,h2⟩
open Go Go.Proofs Go.RowKit Eng Ls
def smB (m:List (List Int)) (n:Int):Bool:=(m.all λl=>decide ((l.length:Int)<=n)) && decide (m.length<=6)
structure x52 (m:List (List Int)) (n:Int) (k:Nat):Prop where
 le:k<=m.length
 all:∀i,i<k->((nL m i).length:Int)<=n
def yo6 (m:List (List Int)) (n:Int):Nat->Option Inv
 | 0=>some (Inv.of [9] 0 (λk:Nat=>[(9,.lit (.int .i64 k))]) (λ_=>[]) (λk=>x52 m n k) (λk=>m.length-k))
 | _=>none
abbrev sSm:qb7:=qf1 true none [qg0,qc8] [.bool] (λx=>x.1.length<=9223372036854775807) (λx=>(smB x.1 x.2.1,()))
theorem xr2:Meets Tryz.prog 9 sSm:=by
 refine meets (snd (SpecsOk.nil _)) Tryz.func9 rfl rfl (λx=>yo6 x.1 x.2.1) (λ_=>by kernel_rfl) (by decide) ?_
 rintro⟨m,n,⟨⟩⟩ h
 revert m n
 intro(m:List (List Int)) (n:Int) (h:m.length<=9223372036854775807)
 refine @qd1 _ (∃(v0:Unit),∃(v1:Nat),x52 m n v1/\(((0:Int)=(↑v1:Int)/\True)/\True)/\∀(v2:Nat),x52 m n v2->(decide ((↑v2:Int)<(↑m.length:Int))=true->((0:Int)<=(↑v2:Int)/\(↑v2:Int)<(↑m.length:Int))/\(decide (n<(↑(nL m v2).length:Int))=true->false=smB m n)/\(decide (n<(↑(nL m v2).length:Int))=false->fits .i64 ((↑v2:Int)+(1:Int))/\∃(v6:Nat),x52 m n v6/\m.length-v6<m.length-v2/\((↑v2:Int)+(1:Int)=(↑v6:Int)/\True)/\True))/\(decide ((↑v2:Int)<(↑m.length:Int))=false->decide ((↑m.length:Int)<=(6:Int))=smB m n)) (by kernel_rfl) ?_
 try simp only[z0,z1,z2,z3,z4,z5,z6,z7,z8,z9,z10,Int.reduceEq,z11,z12,z13,z14,z15,z16,z17,z18,z19,z20,z21,z22,z23,z24,z25,z26,z27,z28,z29,z30,Int.reduceLE,Int.reduceLT,z31,z32,z33,z34,qa1]
 try simp only[qa7,qa8,qb8,z31,z32,z2,z1]
 refine⟨(),0,⟨Nat.zero_le _,λi hi=>absurd hi (by omega)⟩,rfl,λk hk=>⟨λhlt=>⟨hlt,λhn=>?_,λhn=>?_⟩,λhge=>?_⟩⟩
 ·unfold smB
  have:(m.all λl=>decide ((l.length:Int)<=n))=false:=by
   rw[List.all_eq_false]
   exact⟨nL m k,by rw[qj8 m k hlt]; exact List.getElem_mem hlt,by simpa using hn⟩
  rw[this]; rfl
 ·refine⟨qb5 (by omega) (by omega),k+1,⟨hlt,λi hi=>?_⟩,by omega,by omega⟩
  by_cases q:i=k
  ·subst q; exact hn
  ·exact hk.all i (by omega)
 ·have hkl:=hk.le
  have:(m.all λl=>decide ((l.length:Int)<=n))=true:=by
   rw[List.all_eq_true]
   intro l hl
   obtain⟨i,hi,rfl⟩:=List.getElem_of_mem hl
   have:=hk.all i (by omega)
   rw[qj8 m i hi] at this
   exact decide_eq_true this
  unfold smB
  rw[this,Bool.true_and]
  exact decide_eq_decide.2 (by omega)
def x1t (l:List (List Int)) (k:Nat):Nat->Int × Int
 | 0=>(0,1)
 | i+1=>wj8 (x1t l k i) (ofR (wv4 (szV (nL l i)) ((x2j (nL l i)).take k)) (szL (nL l i)))
theorem w3o (l:List (List Int)) (k:Nat):∀n,qp9 l k n=x1t l k n
 | 0=>rfl
 | n+1=>by
  rw[qp9,x1t,w3o l k n]
  unfold shR
  rw[xr1]
abbrev m9:List (List Int):=[[1,1,0],[0,1,1]]
abbrev p9:List (List Int):=[[0,0,0],[0,5,0]]
theorem yo7:w53 m9=(1,0):=by
 have hc:(qi1 m9).1=[[1,-1,1]]:=by decide +kernel
 have hv:qa9 m9=true:=by decide
 unfold w53 ordL
 rw[if_pos hv,hc]
 show(((ordF [[1,-1,1]] 3 0:Nat):Int),(0:Int))=(1,0)
 simp only[ordF,w3o]
 decide +kernel
theorem cc9:xu2 m9:=yo5 λ_=>by show 3<=7; decide
theorem yo8:w2t m9 p9 2 1=(true,0):=by decide +kernel
theorem wh9:w9w m9 (qq3 m9 p9 2 2) 1:=by
 intro i hi h1 h2
 have hi:i<2:=hi
 match i,hi,h1 with
 | 0,_,h1=>cases h1
 | 1,_,_=>
  show w0b m9 [5,5] 1
  have hL:q4t m9 [5,5] 1=[([1],[(5,1)])]:=by decide +kernel
  refine⟨⟨⟨by decide,by decide,by decide,by decide,by decide,λj hj s hs=>?_⟩,by rw[hL]; decide⟩,λf hf=>?_⟩
  ·have hN:fitsN m9 1=2:=by decide
   have:=wt4 hs
   rw[hN] at hj
   exact⟨x5j (by omega),by omega⟩
  ·rw[hL] at hf
   obtain rfl:=List.mem_singleton.1 hf
   refine⟨rfl,by decide,λj hj=>?_⟩
   obtain rfl:j=0:=by have:j<1:=hj; omega
   exact⟨by decide,by decide⟩
abbrev ya6:qb7:=qf1 true none [] [.bool] (λ_=>True) (λ_=>(true,()))
theorem w59:Meets Tryz.prog 10 ya6:=by
 refine meets (snd (SpecsOk.cons w0i (SpecsOk.cons w5u (SpecsOk.cons w91 (SpecsOk.nil _))))) Tryz.func10 rfl rfl (λ_ _=>none) (λ_=>by kernel_rfl) (by decide) ?_
 rintro⟨⟩ -
 refine @qd1 _ (xu2 [[(1:Int),(1:Int),(0:Int)],[(0:Int),(1:Int),(1:Int)]]/\True/\((0:Int)=(0:Int)->∀(v1:Nat),Nat.le (Nat.succ v1) (2:Nat)->(nFr (qq3 [[(1:Int),(1:Int),(0:Int)],[(0:Int),(1:Int),(1:Int)]] [[(0:Int),(0:Int),(0:Int)],[(0:Int),(5:Int),(0:Int)]] (2:Nat) (2:Nat)) v1).1=false->wj6 [[(1:Int),(1:Int),(0:Int)],[(0:Int),(1:Int),(1:Int)]] (nFr (qq3 [[(1:Int),(1:Int),(0:Int)],[(0:Int),(1:Int),(1:Int)]] [[(0:Int),(0:Int),(0:Int)],[(0:Int),(5:Int),(0:Int)]] (2:Nat) (2:Nat)) v1).2 (1:Int)=(0:Int)->w0b [[(1:Int),(1:Int),(0:Int)],[(0:Int),(1:Int),(1:Int)]] (nFr (qq3 [[(1:Int),(1:Int),(0:Int)],[(0:Int),(1:Int),(1:Int)]] [[(0:Int),(0:Int),(0:Int)],[(0:Int),(5:Int),(0:Int)]] (2:Nat) (2:Nat)) v1).2 (1:Int))/\(((0:Int)==(0:Int))=true->(((w53 [[(1:Int),(1:Int),(0:Int)],[(0:Int),(1:Int),(1:Int)]]).1==(1:Int))=true->(((0:Int)==(0:Int))=true->(((↑(6:Nat):Int)==(6:Int))=true->(((0:Int)==(0:Int))=true->(w2t [[(1:Int),(1:Int),(0:Int)],[(0:Int),(1:Int),(1:Int)]] [[(0:Int),(0:Int),(0:Int)],[(0:Int),(5:Int),(0:Int)]] (2:Int) (1:Int)).1=true)/\(((0:Int)==(0:Int))=false->false=true))/\(((↑(6:Nat):Int)==(6:Int))=false->false=true))/\(((0:Int)==(0:Int))=false->false=true))/\(((w53 [[(1:Int),(1:Int),(0:Int)],[(0:Int),(1:Int),(1:Int)]]).1==(1:Int))=false->false=true))/\(((0:Int)==(0:Int))=false->false=true)) (by kernel_rfl) ?_
 try simp only[z0,z1,z2,z3,z4,z5,z6,z7,z8,z9,z10,Int.reduceEq,z11,z12,z13,z14,z15,z16,z17,z18,z19,z20,z21,z22,z23,z24,z25,z26,z27,z28,z29,z30,Int.reduceLE,Int.reduceLT,z31,z32,z33,z34,qa1]
 try simp only[qa7,qa8,qb8,z31,z32,z2,z1]
 have ho:(w53 m9).1=1:=congrArg Prod.fst yo7
 have hs:(w2t m9 p9 2 1).1=true:=congrArg Prod.fst yo8
 exact⟨cc9,wh9,⟨⟨λ_=>⟨⟨λ_=>⟨hs,λq=>absurd trivial q⟩,λq=>absurd rfl q⟩,λq=>absurd trivial q⟩,λq=>absurd ho q⟩,λq=>absurd trivial q⟩⟩
theorem w3p {m:List (List Int)} {f:Flt} (h:(ql8 m f).2=0):fVB m f=true/\(ql8 m f).1=qi2 m f:=by
 unfold ql8 at h ⊢
 split at h
 ·rename_i q; rw[if_pos q]; exact⟨q,rfl⟩
 ·cases h
theorem w3q {m:List (List Int)} {i p:Nat} (l:List Int) (hi:i<m.length) (hl:l.length=(nL m i).length):(nL (m.set i l) 0).length=(nL m 0).length:=by
 rw[qj8 _ 0 (by rw[List.length_set]; omega),qj8 m 0 (by omega),List.getElem_set]
 split
 ·rename_i h; subst h; rw[hl,qj8 m 0 hi]
 ·rfl
theorem xd6 {m:List (List Int)} {f:Flt} (h:fVB m f=true):(nL (qi2 m f) 0).length=(nL m 0).length:=by
 unfold fVB at h
 rw[Bool.and_eq_true] at h
 obtain⟨hv,hf⟩:=h
 have hM:=Mk.of hv
 have m1:=hM.rows1
 obtain⟨kd,r,p⟩:=f
 unfold qi2
 dsimp only
 split
 ·rename_i hk
  have hr:0<=r/\r<=(m.length:Int)-1:=DeedPre.row (k:=kd) ⟨rfl,hv,hf⟩ (.inl hk)
  exact w3q (p:=0) _ (by omega) (by simp[qq8])
 ·split
  ·rw[wg8 (by omega)]; split <;> simp
  ·split
   ·rename_i hk
    have hr:0<=r/\r<=(m.length:Int)-1:=DeedPre.row (k:=kd) ⟨rfl,hv,hf⟩ (.inr hk)
    exact w3q (p:=0) _ (by omega) (by simp)
   ·rfl
theorem x1u {m m':List (List Int)} (h:(nL m' 0).length=(nL m 0).length) (x:List Int):q2a m' x=q2a m x:=by unfold q2a; rw[h]
theorem wu7 {m p:List (List Int)} (h:Vp m p) {i j:Nat} (hi:i<p.length) (hj:j<p.length):w2g m (q4u (nL p i) (nL p j))=0:=by
 have h1:=h.len i hi
 have h2:=h.len j hj
 have hl:(q4u (nL p i) (nL p j)).length=(nL m 0).length:=(q33 _ _ _).trans h2
 unfold w2g w5m
 rw[if_neg (by rw[h.val]; decide),if_neg (by rw[hl]; exact λq=>q rfl),if_neg]
 rw[Bool.not_eq_false,List.all_eq_true]
 intro x hx
 unfold q4u q7u at hx
 obtain⟨k,hk,rfl⟩:=List.mem_map.1 hx
 have hk:=List.mem_range.1 hk
 have b1:=h.bd i hi k (by omega)
 have b2:=h.bd j hj k (by omega)
 unfold qf8 at b1 b2
 exact qh5.2 (by omega)
structure TfsStep (m p:List (List Int)) (f:Flt) (i:Nat):Prop where
 chg:yg1 m (nL p (i-1)) (nL p i)=(q4u (nL p (i-1)) (nL p i),0)
 rds:yf6 m f (q4u (nL p (i-1)) (nL p i))=((qv8 (qi2 m f) (q4u (nL p (i-1)) (nL p i))).1,0)
 enc:xn7 (qi2 m f) p p.length i=(false,(qv8 (qi2 m f) (q4u (nL p (i-1)) (nL p i))).1)
 len:(qv8 (qi2 m f) (q4u (nL p (i-1)) (nL p i))).1.length=m.length
 clen:(q4u (nL p (i-1)) (nL p i)).length<=10
 exp:exR m f [(q4u (nL p (i-1)) (nL p i),(qv8 (qi2 m f) (q4u (nL p (i-1)) (nL p i))).1)]=(true,0)
theorem TfsStep.of {m p:List (List Int)} {f:Flt} {i:Nat} (hf:fVB m f=true) (hp:vpB (qi2 m f) p=true) (h1:1<=i) (hi:i<p.length):TfsStep m p f i:=by
 have hvm:qa9 m=true:=by unfold fVB at hf; rw[Bool.and_eq_true] at hf; exact hf.1
 have hV:=Vp.of hp
 have hl0:=xd6 hf
 have hpm:vpB m p=true:=by
  unfold vpB at hp ⊢
  rw[Bool.and_eq_true,Bool.and_eq_true] at hp ⊢
  refine⟨⟨hvm,hp.1.2⟩,?_⟩
  have:q2a (qi2 m f)=q2a m:=funext (x1u hl0)
  rw[<- this]; exact hp.2
 have hVm:=Vp.of hpm
 have hsm:=wu7 hVm (i:=i-1) (j:=i) (by omega) hi
 have hsb:=wu7 hV (i:=i-1) (j:=i) (by omega) hi
 have hcl:(q4u (nL p (i-1)) (nL p i)).length<=10:=by
  have:=hVm.len i hi
  have h10:=hVm.msk.pix10
  unfold q4u
  rw[q33]; omega
 have hlen:(qv8 (qi2 m f) (q4u (nL p (i-1)) (nL p i))).1.length=m.length:=by
  unfold qv8
  rw[if_pos hsb]
  exact(w9o _ _).trans (xm7 _ _)
 have hrd:x8t m f (q4u (nL p (i-1)) (nL p i))=(qv8 (qi2 m f) (q4u (nL p (i-1)) (nL p i))).1:=rfl
 refine⟨?_,?_,?_,hlen,hcl,?_⟩
 ·unfold yg1
  rw[if_pos]
  unfold vpB at hpm ⊢
  rw[Bool.and_eq_true,Bool.and_eq_true,List.all_eq_true] at hpm
  rw[Bool.and_eq_true,Bool.and_eq_true,List.all_eq_true]
  refine⟨⟨hvm,rfl⟩,λx hx=>?_⟩
  rcases List.mem_cons.1 hx with rfl | hx
  ·exact hpm.2 _ (by rw[qj8 p (i-1) (by omega)]; exact List.getElem_mem _)
  ·rw[List.mem_singleton.1 hx]
   exact hpm.2 _ (by rw[qj8 p i hi]; exact List.getElem_mem _)
 ·unfold yf6
  rw[if_neg (by rw[hf]; decide),if_pos hsm,hrd]
 ·unfold xn7
  rw[if_neg (by rw[Nat.mod_eq_of_lt hi]; omega)]
 ·unfold exR
  have ht:vtB m [(q4u (nL p (i-1)) (nL p i),(qv8 (qi2 m f) (q4u (nL p (i-1)) (nL p i))).1)]=true:=by
   unfold vtB yf7
   simp[hvm,hsm,hlen]
  rw[hf,ht]
  simp[yf8,hrd]
open Go Go.Proofs Go.RowKit Eng
def q8w (n:Nat) (i:Int):List Int:=(List.replicate n 0).set i.toNat 1
abbrev yg5:qb7:=hspec [] true none [.d qc8,.cap qc8] [qe9] (λx=>0<=x.1/\x.1<x.2.1/\x.2.1<=1000) (λx=>(q8w x.2.1.toNat x.1,()))
theorem xd7:Meets Tryz.prog 228 yg5:=by
 refine qm7 (SpecsOk.nil _) (snd (SpecsOk.nil _)) Tryz.func228 rfl rfl (λ_ _=>none) (λ_=>by kernel_rfl) (by decide) ?_
 rintro⟨i,n,⟨⟩⟩ h
 revert i n
 intro(i:Int) (n:Int) (h:0<=i/\i<n/\n<=1000)
 refine @qd1 _ ((n=n/\(0:Int)<=n/\n<=(1000000:Int))/\((0:Int)<=i/\i<(↑(List.replicate n.toNat (Ty.dflt (TI.ty T3))).length:Int))/\i.toNat<(List.replicate n.toNat (Ty.dflt (TI.ty T3))).length/\List.set (List.replicate n.toNat (Ty.dflt (TI.ty T3))) i.toNat (1:Int)=q8w n.toNat i) (by kernel_rfl) ?_
 try simp only[z0,z1,z2,z3,z4,z5,z6,z7,z8,z9,z10,Int.reduceEq,z11,z12,z13,z14,z15,z16,z17,z18,z19,z20,z21,z22,z23,z24,z25,z26,z27,z28,z29,z30,Int.reduceLE,Int.reduceLT,z31,z32,z33,z34,qa1]
 try simp only[qa7,qa8,qb8,z31,z32,z2,z1]
 rw[List.length_replicate]
 exact⟨⟨by omega,by omega⟩,⟨h.1,by omega⟩,by omega,rfl⟩
abbrev ya7:qb7:=we6 false none [qc8] (λ_=>True) (λx=>.clo 228 (.cons (.imm (.cons (.lit (.int .i64 x.1)) .nil) 0) .nil))
theorem w6a:Meets Tryz.prog 189 ya7:=by
 refine q3k (snd (SpecsOk.nil _)) Tryz.func189 rfl rfl (λx _=>none) (λ_=>by kernel_rfl) (by decide) ?_
 rintro⟨n,⟨⟩⟩ -
 revert n
 intro(n:Int)
 refine @qd1 _ (((n=n/\True)/\(0:Nat)=(0:Nat))/\True) (by kernel_rfl) ?_
 try simp only[z0,z1,z2,z3,z4,z5,z6,z7,z8,z9,z10,Int.reduceEq,z11,z12,z13,z14,z15,z16,z17,z18,z19,z20,z21,z22,z23,z24,z25,z26,z27,z28,z29,z30,Int.reduceLE,Int.reduceLT,z31,z32,z33,z34,qa1]
 try simp only[qa7,qa8,qb8,z31,z32,z2,z1]
def ixE (l:List Int) (x:Int):Int:=ixT (.int .i64) (λe=>x==e) l
def ya8 (l:List Int) (x:Int):Nat->Option Inv
 | 0=>some (Inv.of [8] 0 (λk:Nat=>[(8,.lit (.int .i64 k))]) (λ_=>[]) (λk=>k<=l.length/\∀i,i<k->(x==qf2 (.int .i64) l i)=false) (λk=>l.length-k))
 | _=>none
abbrev yo9:qb7:=qf1 true none [qe9,qc8] [qc8] (λx=>x.1.length<=1000000) (λx=>(ixE x.1 x.2.1,()))
theorem xd8:Meets Tryz.prog 128 yo9:=by
 refine meets (snd (SpecsOk.nil _)) Tryz.func128 rfl rfl (λx=>ya8 x.1 x.2.1) (λ_=>by kernel_rfl) (by decide) ?_
 rintro⟨l,x,⟨⟩⟩ h
 revert l x
 intro(l:List Int) (x:Int) (h:l.length<=1000000)
 refine @qd1 _ (∃(v0:Unit),∃(v1:Nat),(v1<=l.length/\∀(v2:Nat),Nat.le (Nat.succ v2) v1->(x==nI l v2)=false)/\(((0:Int)=(↑v1:Int)/\True)/\True)/\∀(v2:Nat),(v2<=l.length/\∀(v4:Nat),Nat.le (Nat.succ v4) v2->(x==nI l v4)=false)->(decide ((↑v2:Int)<(↑l.length:Int))=true->((0:Int)<=(↑v2:Int)/\(↑v2:Int)<(↑l.length:Int))/\((x==nI l v2)=true->(↑v2:Int)=ixE l x)/\((x==nI l v2)=false->fits .i64 ((↑v2:Int)+(1:Int))/\∃(v6:Nat),(v6<=l.length/\∀(v7:Nat),Nat.le (Nat.succ v7) v6->(x==nI l v7)=false)/\l.length-v6<l.length-v2/\((↑v2:Int)+(1:Int)=(↑v6:Int)/\True)/\True))/\(decide ((↑v2:Int)<(↑l.length:Int))=false->(-1:Int)=ixE l x)) (by kernel_rfl) ?_
 try simp only[z0,z1,z2,z3,z4,z5,z6,z7,z8,z9,z10,Int.reduceEq,z11,z12,z13,z14,z15,z16,z17,z18,z19,z20,z21,z22,z23,z24,z25,z26,z27,z28,z29,z30,Int.reduceLE,Int.reduceLT,z31,z32,z33,z34,qa1]
 try simp only[qa7,qa8,qb8,z31,z32,z2,z1]
 have no:∀i,¬x=nI l i->(x==qf2 (.int .i64) l i)=false:=λi hi=>by
  show decide (x=nI l i)=false
  exact decide_eq_false hi
 refine⟨(),0,⟨Nat.zero_le _,λi hi=>absurd hi (by omega)⟩,rfl,λk ⟨hk,hall⟩=>⟨λhlt=>⟨hlt,λhe=>?_,λhn=>⟨qb5 (by omega) (by omega),k+1,⟨hlt,λi hi=>?_⟩,by omega,by omega⟩⟩,λhge=>?_⟩⟩
 ·exact(q9q (.int .i64) (λe=>x==e) l k hlt (λi hi=>no i (hall i hi)) (show decide (x=nI l k)=true from decide_eq_true he)).symm
 ·by_cases q:i=k
  ·subst q; exact hn
  ·exact hall i (by omega)
 ·exact(q1r (.int .i64) (λe=>x==e) l λi hi=>no i (hall i (by omega))).symm
def q0b (m:List (List Int)):List (List Int):=qb4 m (ql7 (nL m 0).length) λi=>q8w m.length i
def qj6 (m:List (List Int)):List (List Int) × List Int:=qc7 (q0b m) (nL m 0).length
theorem q8l (n:Nat) (i:Int):(q8w n i).length=n:=by rw[q8w,List.length_set,List.length_replicate]
theorem xr3 {n i c:Nat} (hc:c<n):nI (q8w n (i:Int)) c=if c=i then 1 else 0:=by
 rw[qg5 _ c (by rw[q8l]; exact hc)]
 simp only[q8w,Int.toNat_natCast,List.getElem_set,List.getElem_replicate]
 split <;> rename_i h
 ·rw[if_pos h.symm]
 ·rw[if_neg (λe=>h e.symm)]
theorem q44 {m:List (List Int)} {i c:Nat} (hi:i<m.length) (hc:c<(nL m 0).length):nI (nL (q0b m) i) c=nI (nL m i) c:=by
 unfold q0b
 rw[qx1 _ _ _ i hi,qg5 _ c (by rw[List.length_append,qj2,qd8]; omega),List.getElem_append_left (by rw[qj2,qd8]; exact hc),<- qg5,qp5 _ _ _ (by rw[qd8]; exact hc),qv5 _ _ hc,Int.toNat_natCast]
theorem w6b {m:List (List Int)} {i c:Nat} (hi:i<m.length) (hc:c<m.length):nI (nL (q0b m) i) ((nL m 0).length+c)=if c=i then 1 else 0:=by
 unfold q0b
 rw[qx1 _ _ _ i hi,qg5 _ _ (by rw[List.length_append,qj2,qd8,q8l]; omega),List.getElem_append_right (by rw[qj2,qd8]; omega)]
 simp only[qj2,qd8,Nat.add_sub_cancel_left]
 rw[<- qg5,xr3 hc]
theorem q4a {m:List (List Int)} (hM:Mk m):Small m.length (nL m 0).length ((nL m 0).length+m.length) (q0b m):=by
 have m6:=hM.rows6
 have p10:=hM.pix10
 refine⟨⟨ql2 _ _ _,λi hi=>?_⟩,m6,by omega,by omega,λa c ha hc=>?_,λa c ha hc=>?_⟩
 ·unfold q0b; rw[qx1 _ _ _ i hi,List.length_append,qj2,qd8,q8l]
 ·rw[q44 ha hc]; have:=hM.small a ha c hc; omega
 ·rcases Nat.lt_or_ge c (nL m 0).length with h | h
  ·rw[q44 ha h]; have:=hM.small a ha c h; omega
  ·obtain⟨d,rfl⟩:∃d,c=(nL m 0).length+d:=⟨c-(nL m 0).length,by omega⟩
   rw[w6b ha (by omega)]; split <;> decide
theorem xd9 {m:List (List Int)} (hM:Mk m):St m.length ((nL m 0).length+m.length) (rowOf (q0b m)) (nL m 0).length (qj6 m).1 (qj6 m).2:=qv3 (q4a hM).toMat _ (by omega)
structure q5j (m:List (List Int)):Prop where
 val:qa9 m=true
 red:∃W,q2u (q0b m) (nL m 0).length W
theorem x5r {m:List (List Int)} (hv:qa9 m=true):q5j m:=⟨hv,_,q36 (q4a (Mk.of hv))⟩
abbrev ya9:qb7:=qf1 false none [qg0] [qg0,qe9] (λx=>q5j x.1) (λx=>((qj6 x.1).1,(qj6 x.1).2,()))
theorem w6c:Meets Tryz.prog 127 ya9:=by
 refine meets (xl8 [] [] (SpecsOk.cons q3p (SpecsOk.cons w6a (SpecsOk.cons (q3q (fs:=[(228,yg5)]) (SpecsOk.cons xd7 (SpecsOk.nil _))) (SpecsOk.nil _)))) (MutsOk.cons q3u MutsOk.nil)) Tryz.func127 rfl rfl (λ_ _=>none) (λ_=>by kernel_rfl) (by decide) ?_
 rintro⟨m,⟨⟩⟩ h
 revert m
 intro(m:List (List Int)) (h:q5j m)
 refine @qd1 _ (((0:Int)<=(0:Int)/\(0:Int)<(↑m.length:Int))/\(↑(nL m (0:Nat)).length:Int)<=(100000:Ty.den qc8)/\True/\∃(v0:qa4 [qc8]->Prop),∃(v1:qa4 [qc8]->List Int),(∀(v2:Int × qa4._f [] PUnit.unit),v0 v2->((0:PTy.den (PTy.d qc8))<=v2.1/\v2.1<(↑m.length:Int)/\(↑m.length:Int)<=(1000:PTy.den (PTy.cap qc8)))/\q8w (↑m.length:Int).toNat v2.1=v1 v2)/\ChoOk m (ql7 (↑(nL m (0:Nat)).length:Int).toNat) v0 v1/\((0:Int)<=(0:Int)/\(0:Int)<(↑m.length:Int))/\((0:Ty.den qc8)<=(↑(nL m (0:Nat)).length:Int)/\∃(v2:Nat),q2u (qb4 m (ql7 (↑(nL m (0:Nat)).length:Int).toNat) λ(v3:Int)=>v1 (v3,())) (↑(nL m (0:Nat)).length:Int).toNat v2)/\q15 (Ty.int .i64) (qc7 (qb4 m (ql7 (↑(nL m (0:Nat)).length:Int).toNat) λ(v2:Int)=>v1 (v2,())) (↑(nL m (0:Nat)).length:Int).toNat).1 none=(qj6 m).1/\(qc7 (qb4 m (ql7 (↑(nL m (0:Nat)).length:Int).toNat) λ(v2:Int)=>v1 (v2,())) (↑(nL m (0:Nat)).length:Int).toNat).2=(qj6 m).2/\True) (by kernel_rfl) ?_
 try simp only[z0,z1,z2,z3,z4,z5,z6,z7,z8,z9,z10,Int.reduceEq,z11,z12,z13,z14,z15,z16,z17,z18,z19,z20,z21,z22,z23,z24,z25,z26,z27,z28,z29,z30,Int.reduceLE,Int.reduceLT,z31,z32,z33,z34,qa1]
 try simp only[qa7,qa8,qb8,z31,z32,z2,z1]
 have hM:=Mk.of h.val
 have m1:=hM.rows1
 have m6:=hM.rows6
 have p10:=hM.pix10
 refine⟨by omega,by omega,λx=>0<=x.1/\x.1<m.length,λx=>q8w m.length x.1,λx hx=>⟨⟨hx.1,hx.2,by omega⟩,rfl⟩,ChoOk.of hM (Named.idx _) λi hi=>⟨⟨Int.natCast_nonneg i,Int.ofNat_lt.2 hi⟩,?_⟩,by omega,h.red,rfl,rfl⟩
 rw[q8w,List.length_set,List.length_replicate]; omega
def x2k (l:List Int) (n:Nat) (p:Int):Bool:=(List.range n).any λj=>nI l j != 0 && decide ((j:Int)≠p)
def knB (m:List (List Int)) (p:Int):Bool:=decide (0<=ixE (qj6 m).2 p) && !x2k (nL (qj6 m).1 (ixE (qj6 m).2 p).toNat) (nL m 0).length p
def wtR (m:List (List Int)) (p:Int):List Int × Int × Bool:=if knB m p then((nL (qj6 m).1 (ixE (qj6 m).2 p).toNat).drop (nL m 0).length,nI (nL (qj6 m).1 (ixE (qj6 m).2 p).toNat) p.toNat,true) else([],0,false)
structure x1v (m:List (List Int)) (p:Int):Prop where
 seen:q5j m
 lo:0<=p
 hi:p<(nL m 0).length
def yp0 (l:List Int) (n:Nat) (p:Int):Nat->Option Inv
 | 0=>some (Inv.of [32] 11 (λk:Nat=>[(32,.lit (.int .i64 k))]) (λ_=>[.dead,.dead,.dead,.dead,.dead,.dead,.dead,.dead,.dead,.dead,.dead]) (λk=>k<=n/\∀i,i<k->nI l i=0\/(i:Int)=p) (λk=>n-k))
 | _=>none
abbrev sWt:qb7:=qf1 false none [qg0,qc8] [qe9,qc8,.bool] (λx=>x1v x.1 x.2.1) (λx=>((wtR x.1 x.2.1).1,(wtR x.1 x.2.1).2.1,(wtR x.1 x.2.1).2.2,()))
theorem xr4:Meets Tryz.prog 69 sWt:=by
 refine meets (snd (SpecsOk.cons w6c (SpecsOk.cons xd8 (SpecsOk.nil _)))) Tryz.func69 rfl rfl (λx=>yp0 (nL (qj6 x.1).1 (ixE (qj6 x.1).2 x.2.1).toNat) (nL x.1 0).length x.2.1) (λ_=>by kernel_rfl) (by decide) ?_
 rintro⟨m,p,⟨⟩⟩ h
 revert m p
 intro(m:List (List Int)) (p:Int) (h:x1v m p)
 refine @qd1 _ (let Q0:=nL (qj6 m).1 (ixE (qj6 m).2 p).toNat; q5j m/\(qj6 m).2.length<=(1000000:Nat)/\(decide (ixE (qj6 m).2 p<(0:Int))=true->(wtR m p).1=[]/\(0:Int)=(wtR m p).2.1/\false=(wtR m p).2.2/\True)/\(decide (ixE (qj6 m).2 p<(0:Int))=false->((0:Int)<=ixE (qj6 m).2 p/\ixE (qj6 m).2 p<(↑(qj6 m).1.length:Int))/\((0:Int)<=(0:Int)/\(0:Int)<(↑m.length:Int))/\((0:Int)<=(0:Int)/\(0:Int)<=(↑(nL m (0:Nat)).length:Int)/\(↑(nL m (0:Nat)).length:Int)<=(↑Q0.length:Int))/\∃(v1:Unit),∃(v2:Nat),(v2<=(nL m (0:Nat)).length/\∀(v3:Nat),Nat.le (Nat.succ v3) v2->nI Q0 v3=(0:Int)\/(↑v3:Int)=p)/\(((0:Int)=(↑v2:Int)/\True)/\True/\True/\True/\True/\True/\True/\True/\True/\True/\True/\True/\True)/\∀(v3:Nat),(v3<=(nL m (0:Nat)).length/\∀(v5:Nat),Nat.le (Nat.succ v5) v3->nI Q0 v5=(0:Int)\/(↑v5:Int)=p)->(decide ((↑v3:Int)<(↑(List.drop (0:Nat) (List.take (↑(nL m (0:Nat)).length:Int).toNat Q0)).length:Int))=true->((0:Int)<=(↑v3:Int)/\(↑v3:Int)<(↑(List.drop (0:Nat) (List.take (↑(nL m (0:Nat)).length:Int).toNat Q0)).length:Int))/\((nI (List.drop (0:Nat) (List.take (↑(nL m (0:Nat)).length:Int).toNat Q0)) v3 != (0:Int))=true->(((↑v3:Int) != p)=true->(wtR m p).1=[]/\(0:Int)=(wtR m p).2.1/\false=(wtR m p).2.2/\True)/\(((↑v3:Int) != p)=false->fits .i64 ((↑v3:Int)+(1:Int))/\∃(v8:Nat),(v8<=(nL m (0:Nat)).length/\∀(v9:Nat),Nat.le (Nat.succ v9) v8->nI Q0 v9=(0:Int)\/(↑v9:Int)=p)/\(nL m (0:Nat)).length-v8<(nL m (0:Nat)).length-v3/\((↑v3:Int)+(1:Int)=(↑v8:Int)/\True)/\True/\True/\True/\True/\True/\True/\True/\True/\True/\True/\True/\True))/\((nI (List.drop (0:Nat) (List.take (↑(nL m (0:Nat)).length:Int).toNat Q0)) v3 != (0:Int))=false->fits .i64 ((↑v3:Int)+(1:Int))/\∃(v7:Nat),(v7<=(nL m (0:Nat)).length/\∀(v8:Nat),Nat.le (Nat.succ v8) v7->nI Q0 v8=(0:Int)\/(↑v8:Int)=p)/\(nL m (0:Nat)).length-v7<(nL m (0:Nat)).length-v3/\((↑v3:Int)+(1:Int)=(↑v7:Int)/\True)/\True/\True/\True/\True/\True/\True/\True/\True/\True/\True/\True/\True))/\(decide ((↑v3:Int)<(↑(List.drop (0:Nat) (List.take (↑(nL m (0:Nat)).length:Int).toNat Q0)).length:Int))=false->((0:Int)<=ixE (qj6 m).2 p/\ixE (qj6 m).2 p<(↑(qj6 m).1.length:Int))/\((0:Int)<=(0:Int)/\(0:Int)<(↑m.length:Int))/\((0:Int)<=(↑(nL m (0:Nat)).length:Int)/\(↑(nL m (0:Nat)).length:Int)<=(↑Q0.length:Int)/\(↑Q0.length:Int)<=(↑Q0.length:Int))/\((0:Int)<=ixE (qj6 m).2 p/\ixE (qj6 m).2 p<(↑(qj6 m).1.length:Int))/\((0:Int)<=p/\p<(↑Q0.length:Int))/\List.drop (↑(nL m (0:Nat)).length:Int).toNat (List.take (↑Q0.length:Int).toNat Q0)=(wtR m p).1/\nI Q0 p.toNat=(wtR m p).2.1/\true=(wtR m p).2.2/\True))) (by kernel_rfl) ?_
 try simp only[z0,z1,z2,z3,z4,z5,z6,z7,z8,z9,z10,Int.reduceEq,z11,z12,z13,z14,z15,z16,z17,z18,z19,z20,z21,z22,z23,z24,z25,z26,z27,z28,z29,z30,Int.reduceLE,Int.reduceLT,z31,z32,z33,z34,qa1]
 try simp only[qa7,qa8,qb8,z31,z32,z2,z1]
 have hv:=h.seen.val
 have hM:=Mk.of hv
 have hst:=xd9 hM
 have m1:=hM.rows1
 have m6:=hM.rows6
 have p10:=hM.pix10
 have hlo:=h.lo
 have hhi:=h.hi
 have hpl:=hst.pl
 have hlen:=hst.len
 have no:knB m p=false->(wtR m p).1=[]/\0=(wtR m p).2.1/\false=(wtR m p).2.2:=λq=>by unfold wtR; rw[q]; exact⟨rfl,rfl,rfl⟩
 refine⟨h.seen,by omega,λhk=>no ?_,λhk=>?_⟩
 ·unfold knB; rw[decide_eq_false (by omega)]; rfl
 have hkl:=(w8o (.int .i64) (λe=>p==e) (qj6 m).2).1
 have hkl:ixE (qj6 m).2 p<(qj6 m).2.length:=hkl
 obtain⟨k,hkk⟩:∃k:Nat,ixE (qj6 m).2 p=k:=⟨_,(Int.toNat_of_nonneg hk).symm⟩
 have hrow:(nL (qj6 m).1 (ixE (qj6 m).2 p).toNat).length=(nL m 0).length+m.length:=hst.each _ (by omega)
 have hkn:knB m p=!x2k (nL (qj6 m).1 (ixE (qj6 m).2 p).toNat) (nL m 0).length p:=by unfold knB; rw[decide_eq_true hk,Bool.true_and]
 generalize hr:nL (qj6 m).1 (ixE (qj6 m).2 p).toNat=r at *
 have htk:∀i,i<(nL m 0).length->nI (r.take (nL m 0).length) i=nI r i:=λi hi=>by
  rw[qg5 _ i (by rw[List.length_take]; omega),qg5 r i (by omega),List.getElem_take]
 simp only[List.drop_zero,List.length_take,hrow,Nat.min_eq_left (Nat.le_add_right (nL m 0).length m.length)]
 refine⟨⟨hk,by omega⟩,by omega,by omega,(),0,⟨Nat.zero_le _,λi hi=>absurd hi (by omega)⟩,rfl,λj ⟨hj,hall⟩=>⟨λhlt=>⟨hlt,λhne=>⟨λhjp=>?_,λhjp=>?_⟩,λhe=>?_⟩,λhge=>?_⟩⟩
 ·rw[htk j hlt] at hne
  refine no ?_
  rw[hkn]
  have:x2k r (nL m 0).length p=true:=by
   unfold x2k
   rw[List.any_eq_true]
   exact⟨j,List.mem_range.2 hlt,by simp[hne,hjp]⟩
  rw[this]; rfl
 ·refine⟨qb5 (by omega) (by omega),j+1,⟨hlt,λi hi=>?_⟩,by omega,by omega⟩
  by_cases q:i=j
  ·subst q; exact .inr hjp
  ·exact hall i (by omega)
 ·rw[htk j hlt] at he
  refine⟨qb5 (by omega) (by omega),j+1,⟨hlt,λi hi=>?_⟩,by omega,by omega⟩
  by_cases q:i=j
  ·subst q; exact .inl he
  ·exact hall i (by omega)
 ·have hoff:x2k r (nL m 0).length p=false:=by
   unfold x2k
   rw[List.any_eq_false]
   intro i hi
   have hi:=List.mem_range.1 hi
   rcases hall i (by omega) with q | q
   ·simp[q]
   ·simp[q]
  have hw:wtR m p=(r.drop (nL m 0).length,nI r p.toNat,true):=by
   unfold wtR
   rw[hkn,hoff,hr]; rfl
  rw[hw]
  refine⟨⟨hk,by omega⟩,by omega,⟨by omega,by omega⟩,⟨hk,by omega⟩,⟨hlo,by omega⟩,?_,rfl,rfl⟩
  rw[List.take_of_length_le (by omega)]
def wi8 (m:List (List Int)) (k:Nat):List Int:=((List.range k).filter λ(j:Nat)=>knB m ((j:Nat):Int)).map λ(j:Nat)=>(j:Int)
def knR (m:List (List Int)):List Int × Int:=if qa9 m then(wi8 m (nL m 0).length,0) else([],1)
abbrev sKn:qb7:=qf1 false none [qg0] [qe9,qc8] (λx=>qa9 x.1=true->q5j x.1) (λx=>((knR x.1).1,(knR x.1).2,()))
def yp1 (m:List (List Int)):Nat->Option Inv
 | 0=>some (Inv.of [4,16] 1 (λk:Nat=>[(4,.own 0),(16,.lit (.int .i64 k))]) (λk=>[.vec 3 (.int .i64) (wi8 m k)]) (λk=>k<=(nL m 0).length) (λk=>(nL m 0).length-k))
 | _=>none
theorem xr5:Meets Tryz.prog 19 sKn:=by
 refine meets (snd (SpecsOk.cons qp4 (SpecsOk.cons xr4 (SpecsOk.nil _)))) Tryz.func19 rfl rfl (λx=>yp1 x.1) (λ_=>by kernel_rfl) (by decide) ?_
 rintro⟨m,⟨⟩⟩ h
 revert m
 intro(m:List (List Int)) (h:qa9 m=true->q5j m)
 refine @qd1 _ (True/\((!qa9 m)=true->(knR m).1=[]/\(1:Int)=(knR m).2/\True)/\((!qa9 m)=false->((0:Int)<=(0:Int)/\(0:Int)<(↑m.length:Int))/\∃(v1:Unit),∃(v2:Nat),Nat.le v2 (nL m (0:Nat)).length/\((True/\(0:Int)=(↑v2:Int)/\True)/\wi8 m v2=[]/\True)/\∀(v3:Nat),Nat.le v3 (nL m (0:Nat)).length->(decide ((↑v3:Int)<(↑(nL m (0:Nat)).length:Int))=true->x1v m (↑v3:Int)/\((wtR m (↑v3:Int)).2.2=true->((0:Nat)<List.length [(↑v3:Int)]/\Nat.le ((wi8 m v3).length+List.length [(↑v3:Int)]) (1000000:Nat))/\fits .i64 ((↑v3:Int)+(1:Int))/\∃(v7:Nat),Nat.le v7 (nL m (0:Nat)).length/\(nL m (0:Nat)).length-v7<(nL m (0:Nat)).length-v3/\(True/\(↑v3:Int)+(1:Int)=(↑v7:Int)/\True)/\wi8 m v3++[(↑v3:Int)]=wi8 m v7/\True)/\((wtR m (↑v3:Int)).2.2=false->fits .i64 ((↑v3:Int)+(1:Int))/\∃(v7:Nat),Nat.le v7 (nL m (0:Nat)).length/\(nL m (0:Nat)).length-v7<(nL m (0:Nat)).length-v3/\(True/\(↑v3:Int)+(1:Int)=(↑v7:Int)/\True)/\wi8 m v3=wi8 m v7/\True))/\(decide ((↑v3:Int)<(↑(nL m (0:Nat)).length:Int))=false->wi8 m v3=(knR m).1/\(0:Int)=(knR m).2/\True))) (by kernel_rfl) ?_
 try simp only[z0,z1,z2,z3,z4,z5,z6,z7,z8,z9,z10,Int.reduceEq,z11,z12,z13,z14,z15,z16,z17,z18,z19,z20,z21,z22,z23,z24,z25,z26,z27,z28,z29,z30,Int.reduceLE,Int.reduceLT,z31,z32,z33,z34,qa1]
 try simp only[qa7,qa8,qb8,z31,z32,z2,z1]
 refine⟨λhv=>by simp[knR,hv],λhv=>?_⟩
 have hM:=Mk.of hv
 have m1:=hM.rows1
 have p10:=hM.pix10
 have hR:knR m=(wi8 m (nL m 0).length,0):=by simp[knR,hv]
 have hln:∀k,(wi8 m k).length<=k:=λk=>by
  unfold wi8
  rw[List.length_map]
  exact Nat.le_trans (List.length_filter_le _ _) (by simp)
 have hsn:∀k,wi8 m (k+1)=wi8 m k++if knB m (k:Int) then[(k:Int)] else[]:=λk=>by
  unfold wi8
  rw[List.range_succ,List.filter_append,List.map_append]
  congr 1
  by_cases q:knB m (k:Int)=true
  ·rw[if_pos q]; simp[q]
  ·rw[if_neg q]; simp[q]
 have hw:∀k:Nat,(wtR m (k:Int)).2.2=knB m (k:Int):=λk=>by
  unfold wtR; cases knB m (k:Int) <;> rfl
 refine⟨by omega,(),0,Nat.zero_le _,⟨rfl,rfl⟩,λk hk=>⟨λhlt=>⟨⟨h hv,by omega,by omega⟩,λhb=>?_,λhb=>?_⟩,λhge=>?_⟩⟩
 ·have:=hln k
  rw[hw] at hb
  exact⟨by omega,qb5 (by omega) (by omega),k+1,hlt,by omega,by omega,by rw[hsn,if_pos hb]⟩
 ·rw[hw] at hb
  exact⟨qb5 (by omega) (by omega),k+1,hlt,by omega,by omega,by rw[hsn,if_neg (by rw[hb]; decide),List.append_nil]⟩
 ·obtain rfl:k=(nL m 0).length:=by omega
  rw[hR]; exact⟨rfl,rfl⟩
end Go.Proofs.YtmijnbjlhnpokaaGreat
