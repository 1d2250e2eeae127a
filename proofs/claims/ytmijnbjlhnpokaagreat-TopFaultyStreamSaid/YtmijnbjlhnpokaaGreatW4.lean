/- Both eliminations, and what they need: plain mathematics. No condition. -/
import Derived.Test.YtmijnbjlhnpokaaGreatW3
set_option linter.unusedVariables false
namespace Go.Proofs.YtmijnbjlhnpokaaGreat
open Go Go.RowKit Eng
theorem q4t (l:List Int) {c:Nat} (h:l.length<=c):nI l c=0:=by
 unfold nI qe6
 simp[List.getElem?_eq_none h]
 rfl
theorem w97 {l:List Int} {f:Int->Int} {c:Nat} (h:c<l.length):nI (l.map f) c=f (nI l c):=by
 rw[qh0 _ _ (by simpa using h),qh0 _ _ h,List.getElem_map]
theorem q71 {l:List Int} {c:Nat} (h:c<l.length):nI l c∈l:=by rw[qh0 _ _ h]; exact List.getElem_mem h
theorem q72 {l:List Int} {x:Int} (h:x∈l):∃c,c<l.length/\x=nI l c:=by
 obtain⟨c,hc,rfl⟩:=List.mem_iff_getElem.1 h
 exact⟨c,hc,(qh0 l c hc).symm⟩
theorem w98 (a b:Int):(gcdI a b).natAbs=Nat.gcd a.natAbs b.natAbs:=rfl
theorem x5e:∀(l:List Int) (a:Int),(l.foldl gcdI a).natAbs∣a.natAbs/\(∀x∈l,(l.foldl gcdI a).natAbs∣x.natAbs)/\∀d:Nat,d∣a.natAbs->(∀x∈l,d∣x.natAbs)->d∣(l.foldl gcdI a).natAbs
 | [],a=>⟨Nat.dvd_refl _,λx hx=>(by cases hx),λd h _=>h⟩
 | y :: l,a=>by
  obtain⟨h1,h2,h3⟩:=x5e l (gcdI a y)
  rw[List.foldl_cons]
  rw[w98] at h1 h3
  refine⟨Nat.dvd_trans h1 (Nat.gcd_dvd_left _ _),λx hx=>?_,λd ha hx=>h3 d (Nat.dvd_gcd ha (hx y (by simp))) λx hx'=>hx x (by simp[hx'])⟩
  rcases List.mem_cons.1 hx with rfl | hx
  ·exact Nat.dvd_trans h1 (Nat.gcd_dvd_right _ _)
  ·exact h2 x hx
theorem q73:∀(l:List Int) (a:Int),0<=a->0<=l.foldl gcdI a
 | [],a,h=>h
 | y :: l,a,_=>q73 l _ (q60 _ _)
theorem q2u (l:List Int):0<=gcdL l:=q73 l 0 (by decide)
theorem q5a (l:List Int):qe3 l=qr3 l:=by
 have h0:=q2u l
 unfold qe3 qr3
 split
 ·rename_i h
  rw[show max (gcdL l) 1=gcdL l by omega]
 ·rename_i h
  rw[show max (gcdL l) 1=1 by omega]
  simp
theorem qx1 (l:List Int) {c:Nat} (hc:c<l.length):max (gcdL l) 1*nI (qr3 l) c=nI l c:=by
 have h0:=q2u l
 unfold qr3
 rw[w97 hc]
 apply Int.mul_tdiv_cancel'
 rcases Int.lt_or_le 0 (gcdL l) with h | h
 ·rw[show max (gcdL l) 1=gcdL l by omega]
  exact Int.natAbs_dvd_natAbs.1 ((x5e l 0).2.1 _ (q71 hc))
 ·rw[show max (gcdL l) 1=1 by omega]
  exact Int.one_dvd _
def Prim (l:List Int):Prop:=(∀c,c<l.length->nI l c=0)\/∀d:Nat,(∀c,c<l.length->d∣(nI l c).natAbs)->d=1
theorem qn7 (l:List Int):Prim (qr3 l):=by
 have h0:=q2u l
 unfold Prim
 rw[qt8]
 rcases Int.lt_or_le 0 (gcdL l) with h | h
 ·refine .inr λd hd=>?_
  have hm:max (gcdL l) 1=gcdL l:=by omega
  have h1:(gcdL l).natAbs*d∣(gcdL l).natAbs:=(x5e l 0).2.2 _ (Nat.dvd_zero _) λx hx=>by
   obtain⟨c,hc,rfl⟩:=q72 hx
   rw[<- qx1 l hc,hm,Int.natAbs_mul]
   exact Nat.mul_dvd_mul_left _ (hd c hc)
  have h2:(gcdL l).natAbs*d∣(gcdL l).natAbs*1:=by rw[Nat.mul_one]; exact h1
  exact Nat.dvd_one.1 (Nat.dvd_of_mul_dvd_mul_left (by omega) h2)
 ·refine .inl λc hc=>?_
  have h1:nI l c=0:=by
   have:=(x5e l 0).2.1 _ (q71 hc)
   have e:(l.foldl gcdI 0).natAbs=0:=by
    have:gcdL l=0:=by omega
    unfold gcdL at this; rw[this]; rfl
   rw[e] at this
   have:=Nat.eq_zero_of_zero_dvd this
   omega
  have:=qx1 l hc
  rw[h1,show max (gcdL l) 1=1 by omega,Int.one_mul] at this
  exact this
theorem Prim.nice {l:List Int} {W:Nat} (h:Prim l) (hl:l.length=W) (f:Nat->Int):x49 W f (nI l):=by
 subst hl
 exact .inr (h.imp id id)
theorem xn6 (l:List Int) (c:Nat):(nI (qr3 l) c).natAbs<=(nI l c).natAbs:=by
 rcases Nat.lt_or_ge c l.length with h | h
 ·unfold qr3
  rw[w97 h,Int.natAbs_tdiv]; exact Nat.div_le_self _ _
 ·rw[q4t _ (by rw[qt8]; exact h)]; simp
theorem xt0 {W j:Nat} {u r p:List Int} {β γ:Int} (hj:j<W) (hu:u.length=W) (h0:nI u j=0) (hβ:0<β) (h:∀c,c<W->nI u c=β*nI r c-γ*nI p c):Elm W j (qr3 u) r p:=by
 subst hu
 have hG:0<max (gcdL u) 1:=by omega
 refine⟨?_,⟨max (gcdL u) 1,β,γ,hG,hβ,λc hc=>by rw[qx1 u hc]; exact h c hc⟩,λf _=>(qn7 u).nice (qt8 u) f⟩
 have:=qx1 u hj
 rw[h0] at this
 exact qd2 this (by omega)
theorem xn7 {W j:Nat} {r p:List Int} (h0:nI r j=0):Elm W j r r p:=⟨h0,⟨1,1,0,by decide,by decide,λc _=>by simp⟩,λ_ h=>h⟩
theorem wr9 (r b:List Int) (j:Nat) {c:Nat} (hc:c<r.length):nI (q47 r b j) c=xy6 r b j c:=by
 rw[qh0 _ _ (by rw[q1i]; exact hc)]
 simp[q47]
theorem w99 {W j:Nat} {r p:List Int} (hj:j<W) (hr:r.length=W) (hp:0<nI p j):Elm W j (qw6 r p j) r p:=by
 have hg:0<gcdI (nI r j) (nI p j):=qq0 (.inr (by omega))
 have e1:gcdI (nI r j) (nI p j)*q1 r p j=nI p j:=Int.mul_tdiv_cancel' (Int.natAbs_dvd_natAbs.1 (Nat.gcd_dvd_right _ _))
 have e2:gcdI (nI r j) (nI p j)*q2 r p j=nI r j:=Int.mul_tdiv_cancel' (Int.natAbs_dvd_natAbs.1 (Nat.gcd_dvd_left _ _))
 unfold qw6
 rw[q5a]
 refine xt0 (β:=q1 r p j) (γ:=q2 r p j) hj (by rw[q1i]; exact hr) ?_ (q70 hg (by omega)) λc hc=>?_
 ·rw[wr9 r p j (by omega)]
  unfold xy6
  have h3:nI r j*q1 r p j=nI p j*q2 r p j:=by
   generalize gcdI (nI r j) (nI p j)=g at e1 e2
   rw[<- e1,<- e2]
   grind
  omega
 ·rw[wr9 r p j (by omega)]
  unfold xy6
  grind
theorem wg6 (r p:List Int) (j:Nat) {c:Nat} (hc:c<r.length):nI (wn1 r p j) c=nI r c*nI p j-nI p c*nI r j:=by
 rw[qh0 _ _ (by simp[wn1]; exact hc)]
 simp[wn1]
theorem xa1 (r p:List Int) (j:Nat):(wn1 r p j).length=r.length:=by simp[wn1]
theorem q74 {W j:Nat} {r p:List Int} (hj:j<W) (hr:r.length=W) (hp:0<nI p j):Elm W j (qi1 r p j) r p:=by
 unfold qi1
 refine xt0 (β:=nI p j) (γ:=nI r j) hj (by rw[xa1]; exact hr) ?_ hp λc hc=>?_
 ·rw[wg6 r p j (by omega)]; grind
 ·rw[wg6 r p j (by omega)]; grind
structure Mat (n W:Nat) (M:List (List Int)):Prop where
 len:M.length=n
 each:∀i,i<n->(nL M i).length=W
def rowOf (M:List (List Int)):Nat->Nat->Int:=λa c=>nI (nL M a) c
theorem q9x (r:List Int) (c:Nat):nI (xi6 r) c=- nI r c:=by
 rcases Nat.lt_or_ge c r.length with h | h
 ·rw[qh0 _ _ (by rw[q5v]; exact h)]
  simp[xi6]
 ·rw[q4t _ h,q4t _ (by rw[q5v]; exact h)]; rfl
theorem xa2 (r:List (List Int)) (k i:Nat):nL (r.drop k) i=nL r (k+i):=by
 unfold nL qe6
 rw[List.getD_eq_getElem?_getD,List.getD_eq_getElem?_getD,List.getElem?_drop]
theorem xa3 {r:List (List Int)} {k j:Nat} (h:qs3 r k j<0):∀i,k<=i->i<r.length->nI (nL r i) j=0:=λi h1 h2=>by
 unfold qs3 ixT at h
 split at h
 ·omega
 ·rename_i hn
  have:=List.any_eq_false.1 (Bool.eq_false_iff.2 hn) (nL r i) (by
   have:=xa2 r k (i-k)
   rw[show k+(i-k)=i by omega] at this
   rw[<- this]
   exact qu9 _ _ (by rw[List.length_drop]; omega))
  simpa using this
theorem w2m {r:List (List Int)} {k j:Nat} (h:0<=qs3 r k j):nI (nL r (k+(qs3 r k j).toNat)) j≠0:=by
 unfold qs3 ixT at h ⊢
 split at h
 ·rename_i ha
  rw[if_pos ha]
  have h1:=List.findIdx_getElem (xs:=r.drop k) (p:=λr=>nI r j != 0) (w:=List.findIdx_lt_length.2 (by simpa using ha))
  have h2:(r.drop k).findIdx (λr=>nI r j != 0)<(r.drop k).length:=List.findIdx_lt_length.2 (by simpa using ha)
  rw[<- qm1 _ _ h2,xa2] at h1
  simpa using h1
 ·omega
theorem St.zero_ {n W:Nat} {M:List (List Int)} (h:Mat n W M):St n W (rowOf M) 0 M []:=by
 refine⟨h.len,h.each,⟨rowOf M,λ_=>none,id,El.start λa _=>⟨1,by decide,λj _=>Int.one_mul _⟩,λi hi=>hi,λi k _ _ e=>e,λa ha=>⟨a,ha,rfl⟩,λi _ c _=>rfl,λq _=>by simp,λi _=>.inl ⟨1,.inl rfl,λc _=>(Int.one_mul _).symm⟩⟩,λz=>Iff.rfl,Nat.zero_le _,λi _ _ c hc=>absurd hc (Nat.not_lt_zero _),λq hq=>absurd hq (Nat.not_lt_zero _),λq k _ hk=>absurd hk (Nat.not_lt_zero _)⟩
theorem q9y {n W j:Nat} {R:Nat->Nat->Int} {s:List (List Int) × List Int} (hj:j<W) (h:St n W R j s.1 s.2):St n W R (j+1) (qv3 s j).1 (qv3 s j).2:=by
 obtain⟨r,P⟩:=s
 have h:St n W R j r P:=h
 unfold qv3
 split
 ·rename_i hn
  exact h.skip λi h1 h2=>xa3 hn i h1 (by rw[h.len]; exact h2)
 ·rename_i hn
  have hn:0<=qs3 r P.length j:=Int.not_lt.1 hn
  have hlen:=h.len
  have hpl:=h.pl
  have hb:=q1l r P.length j (by omega) hn
  have hk:P.length<n:=by omega
  have hne:=w2m hn
  show St n W R (j+1) (xc3 (qi7 r P.length j) P.length j) (P++[(j:Int)])
  obtain⟨b,hbd⟩:∃b,b=P.length+(qs3 r P.length j).toNat:=⟨_,rfl⟩
  rw[<- hbd] at hb hne
  have hsw:∀i,i<n->nL (q1k r P.length j) i=nL r (if i=P.length then b else if i=b then P.length else i):=λi hi=>by
   unfold q1k
   rw[<- hbd,q3m _ _ _ (by omega) hb i (by omega)]
   by_cases e1:i=b
   ·rw[if_pos e1]
    by_cases e2:i=P.length
    ·rw[if_pos e2,<- e1,e2]
    ·rw[if_neg e2,if_pos e1]
   ·rw[if_neg e1]
    by_cases e2:i=P.length
    ·rw[if_pos e2,if_pos e2]
    ·rw[if_neg e2,if_neg e2,if_neg e1]
  have hpr:∀i,i<n->i≠P.length->nL (qi7 r P.length j) i=nL (q1k r P.length j) i:=λi hi hne=>by
   rw[q3n _ _ _ _ (by omega),if_neg λq=>hne q.1]
  have hpk:∃s:Int,(s=1\/s=-1)/\(∀c,nI (nL (qi7 r P.length j) P.length) c=s*nI (nL r b) c)/\0<nI (nL (qi7 r P.length j) P.length) j:=by
   have e:=hsw P.length hk
   rw[if_pos rfl] at e
   rw[q3n _ _ _ _ (by omega),e]
   by_cases q:nI (nL r b) j<0
   ·rw[if_pos ⟨rfl,q⟩]
    refine⟨-1,.inr rfl,λc=>by rw[q9x]; omega,by rw[q9x]; omega⟩
   ·rw[if_neg λk=>q k.2]
    exact⟨1,.inl rfl,λc=>by omega,by omega⟩
  obtain⟨s,hs,hsx,hpos⟩:=hpk
  have hcl:xc3 (qi7 r P.length j) P.length j=xc3 (qi7 r P.length j) P.length j:=rfl
  have hat:∀i,i<n->nL (xc3 (qi7 r P.length j) P.length j) i=wh2 (qi7 r P.length j) P.length j i:=λi hi=>w8e _ _ _ _ (by rw[qi5]; omega)
  have heach:=q1m (r:=r) (k:=P.length) (j:=j) (W:=W) (by omega) hn λi hi=>h.each i (by omega)
  have hatk:nL (xc3 (qi7 r P.length j) P.length j) P.length=nL (qi7 r P.length j) P.length:=by
   rw[hat _ hk]; unfold wh2; rw[if_neg λq=>q.1 rfl]
  refine h.step hj hk (by rw[wd1,qi5]; exact hlen) (λi hi=>?_) (λi=>if i=P.length then b else if i=b then P.length else i) (λi hi=>?_) (λi k hi hk2 e=>?_) (λi hi=>?_) (λi hi=>?_) ⟨s,hs,λc hc=>?_⟩ ?_ λi hi hne2=>?_
  ·rw[hat i hi]; unfold wh2
   split
   ·rw[q9m]; exact heach i (by omega)
   ·exact heach i (by omega)
  ·(try dsimp only); split
   ·omega
   ·split <;> omega
  ·try dsimp only at e
   split at e <;> split at e <;> (try split at e) <;> (try split at e) <;> omega
  ·refine⟨if i=P.length then b else if i=b then P.length else i,?_,?_⟩
   ·split
    ·omega
    ·split <;> omega
   ·try dsimp only
    by_cases e1:i=P.length
    ·rw[if_pos e1]
     by_cases e3:b=P.length
     ·rw[if_pos e3]; omega
     ·rw[if_neg e3,if_pos rfl]; omega
    ·rw[if_neg e1]
     by_cases e2:i=b
     ·rw[if_pos e2,if_pos rfl]; omega
     ·rw[if_neg e2,if_neg e1,if_neg e2]
  ·try dsimp only
   rw[if_neg (by omega),if_neg (by omega)]
  ·rw[hatk,if_pos rfl]; exact hsx c
  ·rw[hatk]; exact hpos
  ·rw[hatk,hat i hi]
   try dsimp only
   rw[<- hsw i hi,<- hpr i hi hne2]
   unfold wh2
   by_cases q:nI (nL (qi7 r P.length j) i) j=0
   ·rw[if_neg λk=>k.2 q]
    exact xn7 q
   ·rw[if_pos ⟨hne2,q⟩]
    exact w99 hj (heach i (by omega)) hpos
theorem qz3 {n W:Nat} {M:List (List Int)} (h:Mat n W M):∀j,j<=W->St n W (rowOf M) j (qc7 M j).1 (qc7 M j).2
 | 0,_=>St.zero_ h
 | j+1,hj=>q9y (by omega) (qz3 h j (by omega))
structure Small (n C W:Nat) (M:List (List Int)):Prop extends Mat n W M where
 n6:n<=6
 cw:C<=W
 w:W<=1000
 one:∀a c,a<n->c<C->(nI (nL M a) c).natAbs<=1
 read:∀a c,a<n->c<W->(nI (nL M a) c).natAbs<=1000000
theorem yp4 {n:Nat} (h:n<=6):n ^ n<=46656:=by
 have:∀k:Fin 7,k.val ^ k.val<=46656:=by decide
 exact this ⟨n,by omega⟩
theorem St.small {n C W j:Nat} {M rows:List (List Int)} {P:List Int} (hM:Small n C W M) (h:St n W (rowOf M) j rows P) (hj:j<=C) {i:Nat} (hi:i<n):(∀c,c<C->(nI (nL rows i) c).natAbs<=46656)/\∀c,c<W->(nI (nL rows i) c).natAbs<=46656000000:=by
 have h6:=yp4 hM.n6
 have hcw:=hM.cw
 refine⟨λc hc=>?_,λc hc=>?_⟩
 ·have:=h.bound (λa c ha hc=>hM.one a c ha (by omega)) hi (show c<W by omega) (B:=1) λb hb=>hM.one b c hb hc
  omega
 ·have:=h.bound (λa c ha hc=>hM.one a c ha (by omega)) hi hc (B:=1000000) λb hb=>hM.read b c hb hc
  omega
theorem q2v {a b:Int} {A B:Nat} (ha:a.natAbs<=A) (hb:b.natAbs<=B):(a*b).natAbs<=A*B:=by
 rw[Int.natAbs_mul]; exact Nat.mul_le_mul ha hb
theorem q52 (a b:Int):(a.tdiv b).natAbs<=a.natAbs:=by rw[Int.natAbs_tdiv]; exact Nat.div_le_self _ _
structure Sml (n C W K B:Nat) (M:List (List Int)):Prop extends Mat n W M where
 n6:n<=6
 cw:C<=W
 w:W<=1000
 k1:1<=K
 kk:K*K<=B
 kB:K<=691200
 bB:B<=700000000000
 read:∀a c,a<n->c<W->(nI (nL M a) c).natAbs<=B
 small:∀j rows P,j<=C->St n W (rowOf M) j rows P->∀i,i<n->(∀c,c<C->(nI (nL rows i) c).natAbs<=K)/\∀c,c<W->(nI (nL rows i) c).natAbs<=B
theorem Small.sml {n C W:Nat} {M:List (List Int)} (h:Small n C W M):Sml n C W 46656 46656000000 M:=
 ⟨h.toMat,h.n6,h.cw,h.w,by decide,by decide,by decide,by decide,λa c ha hc=>by have:=h.read a c ha hc; omega,λj rows P hj hs i hi=>hs.small h hj hi⟩
theorem x01 {n C W K B:Nat} {M:List (List Int)} (hM:Sml n C W K B M):q4h M C W:=by
 have hkB:=hM.kB
 have hbB:=hM.bB
 have hBK:B*K<=700000000000*691200:=Nat.mul_le_mul hbB hkB
 have hn:=hM.n6
 have hl:=hM.len
 have hw:=hM.w
 have hcw:=hM.cw
 refine⟨by omega,hw,hM.cw,λi hi=>hM.each i (by omega),λj hj hp=>?_⟩
 have hst:=qz3 hM.toMat j (by omega)
 have hsm:=λ{i} (hi:i<n)=>hM.small _ _ _ (by omega) hst i hi
 have hlen:=hst.len
 have hpl:=hst.pl
 generalize qc7 M j=s at hp hst hsm hlen hpl ⊢
 obtain⟨r,P⟩:=s
 simp only[] at hp hst hsm hlen hpl ⊢
 have hb:=q1l r P.length j (by omega) hp
 have heachS:=q67 (r:=r) (k:=P.length) (j:=j) (W:=W) (by omega) hp λi hi=>hst.each i (by omega)
 have heach:=q1m (r:=r) (k:=P.length) (j:=j) (W:=W) (by omega) hp λi hi=>hst.each i (by omega)
 have hsw:∀i,i<n->(∀c,c<C->(nI (nL (q1k r P.length j) i) c).natAbs<=K)/\∀c,c<W->(nI (nL (q1k r P.length j) i) c).natAbs<=B:=λi hi=>by
  unfold q1k
  rw[q3m _ _ _ (by omega) hb i (by omega)]
  split
  ·exact hsm (by omega)
  ·split
   ·exact hsm (by omega)
   ·exact hsm hi
 have hpr:∀i,i<n->(∀c,c<C->(nI (nL (qi7 r P.length j) i) c).natAbs<=K)/\∀c,c<W->(nI (nL (qi7 r P.length j) i) c).natAbs<=B:=λi hi=>by
  rw[q3n _ _ _ _ (by omega)]
  split
  ·refine⟨λc hc=>?_,λc hc=>?_⟩
   ·rw[q9x,Int.natAbs_neg]; exact(hsw _ (by omega)).1 c hc
   ·rw[q9x,Int.natAbs_neg]; exact(hsw _ (by omega)).2 c hc
  ·exact hsw i hi
 have hst2:=q9y (j:=j) (by omega) (show St n W (rowOf M) j (r,P).1 (r,P).2 from hst)
 have hpk:nI (nL (qi7 r P.length j) P.length) j≠0:=by
  have e:=w2m hp
  have hs:nL (q1k r P.length j) P.length=nL r (P.length+(qs3 r P.length j).toNat):=by
   unfold q1k
   rw[q3m _ _ _ (by omega) hb _ (by omega)]
   split
   ·rename_i q; rw[<- q]
   ·rw[if_pos rfl]
  rw[q3n _ _ _ _ (by omega)]
  split
  ·rw[q9x,hs]; omega
  ·rw[hs]; exact e
 have hB:BIG=4000000000000000000:=rfl
 have hB2:x3k=2000000000000000000:=rfl
 refine⟨λx hx=>?_,λi hi hne hz=>⟨?_,?_,?_,hpk,?_,?_,λc hc=>?_,λc hc=>?_⟩⟩
 ·obtain⟨c,hc,rfl⟩:=q72 hx
  have h1:=heachS P.length (by omega)
  have:=(hsw P.length (by omega)).2 c (by omega)
  constructor <;> omega
 ·rw[heach i (by omega)]; omega
 ·rw[heach i (by omega),heach P.length (by omega)]
 ·rw[heach i (by omega)]; exact hw
 ·have:=(hpr i (by omega)).1 j hj
  constructor <;> omega
 ·have:=(hpr P.length (by omega)).1 j hj
  constructor <;> omega
 ·rw[heach i (by omega)] at hc
  have h1:=(hpr i (by omega)).2 c hc
  have h2:=(hpr P.length (by omega)).1 j hj
  have h3:(q1 (nL (qi7 r P.length j) i) (nL (qi7 r P.length j) P.length) j).natAbs<=K:=Nat.le_trans (q52 _ _) h2
  have:=q2v h1 h3
  constructor <;> omega
 ·rw[heach i (by omega)] at hc
  have h1:=(hpr P.length (by omega)).2 c hc
  have h2:=(hpr i (by omega)).1 j hj
  have h3:(q2 (nL (qi7 r P.length j) i) (nL (qi7 r P.length j) P.length) j).natAbs<=K:=Nat.le_trans (q52 _ _) h2
  have:=q2v h1 h3
  constructor <;> omega
theorem ws0 {n C W:Nat} {M:List (List Int)} (hM:Small n C W M):q4h M C W:=x01 hM.sml
end Go.Proofs.YtmijnbjlhnpokaaGreat
