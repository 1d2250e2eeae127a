/- The program's test of a fit is the reference's: its fractions are small. Plain mathematics. No condition. -/
import Derived.Test.YtmijnbjlhnpokaaGreatW3
set_option linter.unusedVariables false
namespace Go.Proofs.YtmijnbjlhnpokaaGreat
open Go Go.RowKit Eng
theorem q2x (l:List Int) {c:Nat} (h:l.length<=c):nI l c=0:=by
 unfold nI qf2
 simp[List.getElem?_eq_none h]
 rfl
theorem w25 {l:List Int} {f:Int->Int} {c:Nat} (h:c<l.length):nI (l.map f) c=f (nI l c):=by
 rw[qg5 _ _ (by simpa using h),qg5 _ _ h,List.getElem_map]
theorem wa1 {l:List Int} {c:Nat} (h:c<l.length):nI l c∈l:=by rw[qg5 _ _ h]; exact List.getElem_mem h
theorem wt0 {l:List Int} {x:Int} (h:x∈l):∃c,c<l.length/\x=nI l c:=by
 obtain⟨c,hc,rfl⟩:=List.mem_iff_getElem.1 h
 exact⟨c,hc,(qg5 l c hc).symm⟩
theorem xb6 (a b:Int):(gcdI a b).natAbs=Nat.gcd a.natAbs b.natAbs:=rfl
theorem x5i:∀(l:List Int) (a:Int),(l.foldl gcdI a).natAbs∣a.natAbs/\(∀x∈l,(l.foldl gcdI a).natAbs∣x.natAbs)/\∀d:Nat,d∣a.natAbs->(∀x∈l,d∣x.natAbs)->d∣(l.foldl gcdI a).natAbs
 | [],a=>⟨Nat.dvd_refl _,λx hx=>(by cases hx),λd h _=>h⟩
 | y :: l,a=>by
  obtain⟨h1,h2,h3⟩:=x5i l (gcdI a y)
  rw[List.foldl_cons]
  rw[xb6] at h1 h3
  refine⟨Nat.dvd_trans h1 (Nat.gcd_dvd_left _ _),λx hx=>?_,λd ha hx=>h3 d (Nat.dvd_gcd ha (hx y (by simp))) λx hx'=>hx x (by simp[hx'])⟩
  rcases List.mem_cons.1 hx with rfl | hx
  ·exact Nat.dvd_trans h1 (Nat.gcd_dvd_right _ _)
  ·exact h2 x hx
theorem q8b:∀(l:List Int) (a:Int),0<=a->0<=l.foldl gcdI a
 | [],a,h=>h
 | y :: l,a,_=>q8b l _ (q7a _ _)
theorem q2y (l:List Int):0<=gcdL l:=q8b l 0 (by decide)
theorem q5i (l:List Int):qe4 l=qu3 l:=by
 have h0:=q2y l
 unfold qe4 qu3
 split
 ·rename_i h
  rw[show max (gcdL l) 1=gcdL l by omega]
 ·rename_i h
  rw[show max (gcdL l) 1=1 by omega]
  simp
theorem qx5 (l:List Int) {c:Nat} (hc:c<l.length):max (gcdL l) 1*nI (qu3 l) c=nI l c:=by
 have h0:=q2y l
 unfold qu3
 rw[w25 hc]
 apply Int.mul_tdiv_cancel'
 rcases Int.lt_or_le 0 (gcdL l) with h | h
 ·rw[show max (gcdL l) 1=gcdL l by omega]
  exact Int.natAbs_dvd_natAbs.1 ((x5i l 0).2.1 _ (wa1 hc))
 ·rw[show max (gcdL l) 1=1 by omega]
  exact Int.one_dvd _
def Prim (l:List Int):Prop:=(∀c,c<l.length->nI l c=0)\/∀d:Nat,(∀c,c<l.length->d∣(nI l c).natAbs)->d=1
theorem qo4 (l:List Int):Prim (qu3 l):=by
 have h0:=q2y l
 unfold Prim
 rw[qx2]
 rcases Int.lt_or_le 0 (gcdL l) with h | h
 ·refine .inr λd hd=>?_
  have hm:max (gcdL l) 1=gcdL l:=by omega
  have h1:(gcdL l).natAbs*d∣(gcdL l).natAbs:=(x5i l 0).2.2 _ (Nat.dvd_zero _) λx hx=>by
   obtain⟨c,hc,rfl⟩:=wt0 hx
   rw[<- qx5 l hc,hm,Int.natAbs_mul]
   exact Nat.mul_dvd_mul_left _ (hd c hc)
  have h2:(gcdL l).natAbs*d∣(gcdL l).natAbs*1:=by rw[Nat.mul_one]; exact h1
  exact Nat.dvd_one.1 (Nat.dvd_of_mul_dvd_mul_left (by omega) h2)
 ·refine .inl λc hc=>?_
  have h1:nI l c=0:=by
   have:=(x5i l 0).2.1 _ (wa1 hc)
   have e:(l.foldl gcdI 0).natAbs=0:=by
    have:gcdL l=0:=by omega
    unfold gcdL at this; rw[this]; rfl
   rw[e] at this
   have:=Nat.eq_zero_of_zero_dvd this
   omega
  have:=qx5 l hc
  rw[h1,show max (gcdL l) 1=1 by omega,Int.one_mul] at this
  exact this
theorem Prim.nice {l:List Int} {W:Nat} (h:Prim l) (hl:l.length=W) (f:Nat->Int):x5g W f (nI l):=by
 subst hl
 exact .inr (h.imp id id)
theorem xu8 {W j:Nat} {u r p:List Int} {β γ:Int} (hj:j<W) (hu:u.length=W) (h0:nI u j=0) (hβ:0<β) (h:∀c,c<W->nI u c=β*nI r c-γ*nI p c):Elm W j (qu3 u) r p:=by
 subst hu
 have hG:0<max (gcdL u) 1:=by omega
 refine⟨?_,⟨max (gcdL u) 1,β,γ,hG,hβ,λc hc=>by rw[qx5 u hc]; exact h c hc⟩,λf _=>(qo4 u).nice (qx2 u) f⟩
 have:=qx5 u hj
 rw[h0] at this
 exact qd5 this (by omega)
theorem xq1 {W j:Nat} {r p:List Int} (h0:nI r j=0):Elm W j r r p:=⟨h0,⟨1,1,0,by decide,by decide,λc _=>by simp⟩,λ_ h=>h⟩
theorem wt1 (r b:List Int) (j:Nat) {c:Nat} (hc:c<r.length):nI (q5f r b j) c=x0g r b j c:=by
 rw[qg5 _ _ (by rw[q1q]; exact hc)]
 simp[q5f]
theorem xb7 {W j:Nat} {r p:List Int} (hj:j<W) (hr:r.length=W) (hp:0<nI p j):Elm W j (qw9 r p j) r p:=by
 have hg:0<gcdI (nI r j) (nI p j):=qu9 (.inr (by omega))
 have e1:gcdI (nI r j) (nI p j)*q1 r p j=nI p j:=Int.mul_tdiv_cancel' (Int.natAbs_dvd_natAbs.1 (Nat.gcd_dvd_right _ _))
 have e2:gcdI (nI r j) (nI p j)*q2 r p j=nI r j:=Int.mul_tdiv_cancel' (Int.natAbs_dvd_natAbs.1 (Nat.gcd_dvd_left _ _))
 unfold qw9
 rw[q5i]
 refine xu8 (β:=q1 r p j) (γ:=q2 r p j) hj (by rw[q1q]; exact hr) ?_ (ws9 hg (by omega)) λc hc=>?_
 ·rw[wt1 r p j (by omega)]
  unfold x0g
  have h3:nI r j*q1 r p j=nI p j*q2 r p j:=by
   generalize gcdI (nI r j) (nI p j)=g at e1 e2
   rw[<- e1,<- e2]
   grind
  omega
 ·rw[wt1 r p j (by omega)]
  unfold x0g
  grind
theorem w26 (r p:List Int) (j:Nat) {c:Nat} (hc:c<r.length):nI (wy5 r p j) c=nI r c*nI p j-nI p c*nI r j:=by
 rw[qg5 _ _ (by simp[wy5]; exact hc)]
 simp[wy5]
theorem xb8 (r p:List Int) (j:Nat):(wy5 r p j).length=r.length:=by simp[wy5]
theorem q8c {W j:Nat} {r p:List Int} (hj:j<W) (hr:r.length=W) (hp:0<nI p j):Elm W j (qi6 r p j) r p:=by
 unfold qi6
 refine xu8 (β:=nI p j) (γ:=nI r j) hj (by rw[xb8]; exact hr) ?_ hp λc hc=>?_
 ·rw[w26 r p j (by omega)]; grind
 ·rw[w26 r p j (by omega)]; grind
structure Mat (n W:Nat) (M:List (List Int)):Prop where
 len:M.length=n
 each:∀i,i<n->(nL M i).length=W
def rowOf (M:List (List Int)):Nat->Nat->Int:=λa c=>nI (nL M a) c
theorem wa2 (r:List Int) (c:Nat):nI (xk8 r) c=- nI r c:=by
 rcases Nat.lt_or_ge c r.length with h | h
 ·rw[qg5 _ _ (by rw[q53]; exact h)]
  simp[xk8]
 ·rw[q2x _ h,q2x _ (by rw[q53]; exact h)]; rfl
theorem xb9 (r:List (List Int)) (k i:Nat):nL (r.drop k) i=nL r (k+i):=by
 unfold nL qf2
 rw[List.getD_eq_getElem?_getD,List.getD_eq_getElem?_getD,List.getElem?_drop]
theorem xc0 {r:List (List Int)} {k j:Nat} (h:qt3 r k j<0):∀i,k<=i->i<r.length->nI (nL r i) j=0:=λi h1 h2=>by
 unfold qt3 ixT at h
 split at h
 ·omega
 ·rename_i hn
  have:=List.any_eq_false.1 (Bool.eq_false_iff.2 hn) (nL r i) (by
   have:=xb9 r k (i-k)
   rw[show k+(i-k)=i by omega] at this
   rw[<- this]
   exact qx4 _ _ (by rw[List.length_drop]; omega))
  simpa using this
theorem w27 {r:List (List Int)} {k j:Nat} (h:0<=qt3 r k j):nI (nL r (k+(qt3 r k j).toNat)) j≠0:=by
 unfold qt3 ixT at h ⊢
 split at h
 ·rename_i ha
  rw[if_pos ha]
  have h1:=List.findIdx_getElem (xs:=r.drop k) (p:=λr=>nI r j != 0) (w:=List.findIdx_lt_length.2 (by simpa using ha))
  have h2:(r.drop k).findIdx (λr=>nI r j != 0)<(r.drop k).length:=List.findIdx_lt_length.2 (by simpa using ha)
  rw[<- qj8 _ _ h2,xb9] at h1
  simpa using h1
 ·omega
theorem St.zero_ {n W:Nat} {M:List (List Int)} (h:Mat n W M):St n W (rowOf M) 0 M []:=by
 refine⟨h.len,h.each,⟨rowOf M,λ_=>none,id,El.start λa _=>⟨1,by decide,λj _=>Int.one_mul _⟩,λi hi=>hi,λi k _ _ e=>e,λa ha=>⟨a,ha,rfl⟩,λi _ c _=>rfl,λq _=>by simp,λi _=>.inl ⟨1,.inl rfl,λc _=>(Int.one_mul _).symm⟩⟩,λz=>Iff.rfl,Nat.zero_le _,λi _ _ c hc=>absurd hc (Nat.not_lt_zero _),λq hq=>absurd hq (Nat.not_lt_zero _),λq k _ hk=>absurd hk (Nat.not_lt_zero _)⟩
theorem wa3 {n W j:Nat} {R:Nat->Nat->Int} {s:List (List Int) × List Int} (hj:j<W) (h:St n W R j s.1 s.2):St n W R (j+1) (qv6 s j).1 (qv6 s j).2:=by
 obtain⟨r,P⟩:=s
 have h:St n W R j r P:=h
 unfold qv6
 split
 ·rename_i hn
  exact h.skip λi h1 h2=>xc0 hn i h1 (by rw[h.len]; exact h2)
 ·rename_i hn
  have hn:0<=qt3 r P.length j:=Int.not_lt.1 hn
  have hlen:=h.len
  have hpl:=h.pl
  have hb:=q1u r P.length j (by omega) hn
  have hk:P.length<n:=by omega
  have hne:=w27 hn
  show St n W R (j+1) (xe8 (qi7 r P.length j) P.length j) (P++[(j:Int)])
  obtain⟨b,hbd⟩:∃b,b=P.length+(qt3 r P.length j).toNat:=⟨_,rfl⟩
  rw[<- hbd] at hb hne
  have hsw:∀i,i<n->nL (q1t r P.length j) i=nL r (if i=P.length then b else if i=b then P.length else i):=λi hi=>by
   unfold q1t
   rw[<- hbd,q3r _ _ _ (by omega) hb i (by omega)]
   by_cases e1:i=b
   ·rw[if_pos e1]
    by_cases e2:i=P.length
    ·rw[if_pos e2,<- e1,e2]
    ·rw[if_neg e2,if_pos e1]
   ·rw[if_neg e1]
    by_cases e2:i=P.length
    ·rw[if_pos e2,if_pos e2]
    ·rw[if_neg e2,if_neg e2,if_neg e1]
  have hpr:∀i,i<n->i≠P.length->nL (qi7 r P.length j) i=nL (q1t r P.length j) i:=λi hi hne=>by
   rw[q3s _ _ _ _ (by omega),if_neg λq=>hne q.1]
  have hpk:∃s:Int,(s=1\/s=-1)/\(∀c,nI (nL (qi7 r P.length j) P.length) c=s*nI (nL r b) c)/\0<nI (nL (qi7 r P.length j) P.length) j:=by
   have e:=hsw P.length hk
   rw[if_pos rfl] at e
   rw[q3s _ _ _ _ (by omega),e]
   by_cases q:nI (nL r b) j<0
   ·rw[if_pos ⟨rfl,q⟩]
    refine⟨-1,.inr rfl,λc=>by rw[wa2]; omega,by rw[wa2]; omega⟩
   ·rw[if_neg λk=>q k.2]
    exact⟨1,.inl rfl,λc=>by omega,by omega⟩
  obtain⟨s,hs,hsx,hpos⟩:=hpk
  have hcl:xe8 (qi7 r P.length j) P.length j=xe8 (qi7 r P.length j) P.length j:=rfl
  have hat:∀i,i<n->nL (xe8 (qi7 r P.length j) P.length j) i=wj4 (qi7 r P.length j) P.length j i:=λi hi=>w82 _ _ _ _ (by rw[qi4]; omega)
  have heach:=q1v (r:=r) (k:=P.length) (j:=j) (W:=W) (by omega) hn λi hi=>h.each i (by omega)
  have hatk:nL (xe8 (qi7 r P.length j) P.length j) P.length=nL (qi7 r P.length j) P.length:=by
   rw[hat _ hk]; unfold wj4; rw[if_neg λq=>q.1 rfl]
  refine h.step hj hk (by rw[wf7,qi4]; exact hlen) (λi hi=>?_) (λi=>if i=P.length then b else if i=b then P.length else i) (λi hi=>?_) (λi k hi hk2 e=>?_) (λi hi=>?_) (λi hi=>?_) ⟨s,hs,λc hc=>?_⟩ ?_ λi hi hne2=>?_
  ·rw[hat i hi]; unfold wj4
   split
   ·rw[q9v]; exact heach i (by omega)
   ·exact heach i (by omega)
  ·(try dsimp only); split
   ·omega
   ·split <;> omega
  ·try dsimp only at e
   split at e <;> split at e <;> (try split at e) <;> (try split at e) <;> omega
  ·refine⟨if i=P.length then b else if i=b then P.length else i,?_,?_⟩
   ·split
    ·omega
    ·split <;> omega
   ·try dsimp only
    by_cases e1:i=P.length
    ·rw[if_pos e1]
     by_cases e3:b=P.length
     ·rw[if_pos e3]; omega
     ·rw[if_neg e3,if_pos rfl]; omega
    ·rw[if_neg e1]
     by_cases e2:i=b
     ·rw[if_pos e2,if_pos rfl]; omega
     ·rw[if_neg e2,if_neg e1,if_neg e2]
  ·try dsimp only
   rw[if_neg (by omega),if_neg (by omega)]
  ·rw[hatk,if_pos rfl]; exact hsx c
  ·rw[hatk]; exact hpos
  ·rw[hatk,hat i hi]
   try dsimp only
   rw[<- hsw i hi,<- hpr i hi hne2]
   unfold wj4
   by_cases q:nI (nL (qi7 r P.length j) i) j=0
   ·rw[if_neg λk=>k.2 q]
    exact xq1 q
   ·rw[if_pos ⟨hne2,q⟩]
    exact xb7 hj (heach i (by omega)) hpos
theorem qv3 {n W:Nat} {M:List (List Int)} (h:Mat n W M):∀j,j<=W->St n W (rowOf M) j (qc7 M j).1 (qc7 M j).2
 | 0,_=>St.zero_ h
 | j+1,hj=>wa3 (by omega) (qv3 h j (by omega))
structure Small (n C W:Nat) (M:List (List Int)):Prop extends Mat n W M where
 n6:n<=6
 cw:C<=W
 w:W<=1000
 one:∀a c,a<n->c<C->(nI (nL M a) c).natAbs<=1
 read:∀a c,a<n->c<W->(nI (nL M a) c).natAbs<=1000000
theorem yo4 {n:Nat} (h:n<=6):n ^ n<=46656:=by
 have:∀k:Fin 7,k.val ^ k.val<=46656:=by decide
 exact this ⟨n,by omega⟩
theorem St.small {n C W j:Nat} {M rows:List (List Int)} {P:List Int} (hM:Small n C W M) (h:St n W (rowOf M) j rows P) (hj:j<=C) {i:Nat} (hi:i<n):(∀c,c<C->(nI (nL rows i) c).natAbs<=46656)/\∀c,c<W->(nI (nL rows i) c).natAbs<=46656000000:=by
 have h6:=yo4 hM.n6
 have hcw:=hM.cw
 refine⟨λc hc=>?_,λc hc=>?_⟩
 ·have:=h.bound (λa c ha hc=>hM.one a c ha (by omega)) hi (show c<W by omega) (B:=1) λb hb=>hM.one b c hb hc
  omega
 ·have:=h.bound (λa c ha hc=>hM.one a c ha (by omega)) hi hc (B:=1000000) λb hb=>hM.read b c hb hc
  omega
theorem w0l {a b:Int} {A B:Nat} (ha:a.natAbs<=A) (hb:b.natAbs<=B):(a*b).natAbs<=A*B:=by
 rw[Int.natAbs_mul]; exact Nat.mul_le_mul ha hb
theorem q58 (a b:Int):(a.tdiv b).natAbs<=a.natAbs:=by rw[Int.natAbs_tdiv]; exact Nat.div_le_self _ _
structure Sml (n C W K B:Nat) (M:List (List Int)):Prop extends Mat n W M where
 n6:n<=6
 cw:C<=W
 w:W<=1000
 k1:1<=K
 kk:K*K<=B
 kB:K<=691200
 bB:B<=700000000000
 read:∀a c,a<n->c<W->(nI (nL M a) c).natAbs<=B
 small:∀j rows P,j<=C->St n W (rowOf M) j rows P->∀i,i<n->(∀c,c<C->(nI (nL rows i) c).natAbs<=K)/\∀c,c<W->(nI (nL rows i) c).natAbs<=B
theorem Small.sml {n C W:Nat} {M:List (List Int)} (h:Small n C W M):Sml n C W 46656 46656000000 M:=
 ⟨h.toMat,h.n6,h.cw,h.w,by decide,by decide,by decide,by decide,λa c ha hc=>by have:=h.read a c ha hc; omega,λj rows P hj hs i hi=>hs.small h hj hi⟩
theorem x1f {n C W K B:Nat} {M:List (List Int)} (hM:Sml n C W K B M):q2u M C W:=by
 have hkB:=hM.kB
 have hbB:=hM.bB
 have hBK:B*K<=700000000000*691200:=Nat.mul_le_mul hbB hkB
 have hn:=hM.n6
 have hl:=hM.len
 have hw:=hM.w
 have hcw:=hM.cw
 refine⟨by omega,hw,hM.cw,λi hi=>hM.each i (by omega),λj hj hp=>?_⟩
 have hst:=qv3 hM.toMat j (by omega)
 have hsm:=λ{i} (hi:i<n)=>hM.small _ _ _ (by omega) hst i hi
 have hlen:=hst.len
 have hpl:=hst.pl
 generalize qc7 M j=s at hp hst hsm hlen hpl ⊢
 obtain⟨r,P⟩:=s
 simp only[] at hp hst hsm hlen hpl ⊢
 have hb:=q1u r P.length j (by omega) hp
 have heachS:=q7f (r:=r) (k:=P.length) (j:=j) (W:=W) (by omega) hp λi hi=>hst.each i (by omega)
 have heach:=q1v (r:=r) (k:=P.length) (j:=j) (W:=W) (by omega) hp λi hi=>hst.each i (by omega)
 have hsw:∀i,i<n->(∀c,c<C->(nI (nL (q1t r P.length j) i) c).natAbs<=K)/\∀c,c<W->(nI (nL (q1t r P.length j) i) c).natAbs<=B:=λi hi=>by
  unfold q1t
  rw[q3r _ _ _ (by omega) hb i (by omega)]
  split
  ·exact hsm (by omega)
  ·split
   ·exact hsm (by omega)
   ·exact hsm hi
 have hpr:∀i,i<n->(∀c,c<C->(nI (nL (qi7 r P.length j) i) c).natAbs<=K)/\∀c,c<W->(nI (nL (qi7 r P.length j) i) c).natAbs<=B:=λi hi=>by
  rw[q3s _ _ _ _ (by omega)]
  split
  ·refine⟨λc hc=>?_,λc hc=>?_⟩
   ·rw[wa2,Int.natAbs_neg]; exact(hsw _ (by omega)).1 c hc
   ·rw[wa2,Int.natAbs_neg]; exact(hsw _ (by omega)).2 c hc
  ·exact hsw i hi
 have hst2:=wa3 (j:=j) (by omega) (show St n W (rowOf M) j (r,P).1 (r,P).2 from hst)
 have hpk:nI (nL (qi7 r P.length j) P.length) j≠0:=by
  have e:=w27 hp
  have hs:nL (q1t r P.length j) P.length=nL r (P.length+(qt3 r P.length j).toNat):=by
   unfold q1t
   rw[q3r _ _ _ (by omega) hb _ (by omega)]
   split
   ·rename_i q; rw[<- q]
   ·rw[if_pos rfl]
  rw[q3s _ _ _ _ (by omega)]
  split
  ·rw[wa2,hs]; omega
  ·rw[hs]; exact e
 have hB:BIG=4000000000000000000:=rfl
 have hB2:x3w=2000000000000000000:=rfl
 refine⟨λx hx=>?_,λi hi hne hz=>⟨?_,?_,?_,hpk,?_,?_,λc hc=>?_,λc hc=>?_⟩⟩
 ·obtain⟨c,hc,rfl⟩:=wt0 hx
  have h1:=heachS P.length (by omega)
  have:=(hsw P.length (by omega)).2 c (by omega)
  constructor <;> omega
 ·rw[heach i (by omega)]; omega
 ·rw[heach i (by omega),heach P.length (by omega)]
 ·rw[heach i (by omega)]; exact hw
 ·have:=(hpr i (by omega)).1 j hj
  constructor <;> omega
 ·have:=(hpr P.length (by omega)).1 j hj
  constructor <;> omega
 ·rw[heach i (by omega)] at hc
  have h1:=(hpr i (by omega)).2 c hc
  have h2:=(hpr P.length (by omega)).1 j hj
  have h3:(q1 (nL (qi7 r P.length j) i) (nL (qi7 r P.length j) P.length) j).natAbs<=K:=Nat.le_trans (q58 _ _) h2
  have:=w0l h1 h3
  constructor <;> omega
 ·rw[heach i (by omega)] at hc
  have h1:=(hpr P.length (by omega)).2 c hc
  have h2:=(hpr i (by omega)).1 j hj
  have h3:(q2 (nL (qi7 r P.length j) i) (nL (qi7 r P.length j) P.length) j).natAbs<=K:=Nat.le_trans (q58 _ _) h2
  have:=w0l h1 h3
  constructor <;> omega
theorem q36 {n C W:Nat} {M:List (List Int)} (hM:Small n C W M):q2u M C W:=x1f hM.sml
theorem qx6 (a b:List (List Int)) {i:Nat} (h:i<a.length):nL (a++b) i=nL a i:=by
 rw[qj8 _ i (by rw[List.length_append]; omega),qj8 _ i h,List.getElem_append_left h]
theorem q38 (a b:List (List Int)) (i:Nat):nL (a++b) (a.length+i)=nL b i:=by
 unfold nL qf2
 rw[List.getD_eq_getElem?_getD,List.getD_eq_getElem?_getD,List.getElem?_append_right (by omega)]
 congr 2; omega
theorem xu9 {f:List Int->List Int} {l:List (List Int)} {i:Nat} (h:i<l.length):nL (l.map f) i=f (nL l i):=by
 rw[qj8 _ i (by simpa using h),qj8 _ i h,List.getElem_map]
theorem wt2 (left:List (List Int)) (p:List Int) (j a:Nat):∀K,(qr5 left p j a K).length=(if a<K then K-1 else K)/\∀i,i<(qr5 left p j a K).length->nL (qr5 left p j a K) i=qi6 (nL left (if i<a then i else i+1)) p j
 | 0=>⟨by rw[if_neg (Nat.not_lt_zero _)]; rfl,λi hi=>absurd hi (Nat.not_lt_zero _)⟩
 | K+1=>by
  obtain⟨h1,h2⟩:=wt2 left p j a K
  rw[qr5]
  by_cases e:K=a
  ·subst e
   rw[if_neg (λq=>q rfl)]
   rw[if_neg (Nat.lt_irrefl _)] at h1
   exact⟨by rw[h1,if_pos (Nat.lt_succ_self _)]; rfl,h2⟩
  ·rw[if_pos (by omega)]
   refine⟨?_,λi hi=>?_⟩
   ·rw[List.length_append,h1]
    show _+1=_
    split <;> split <;> omega
   ·rw[List.length_append] at hi
    have hi:i<(qr5 left p j a K).length+1:=hi
    rcases Nat.lt_succ_iff_lt_or_eq.1 hi with q | q
    ·rw[qx6 _ _ q]; exact h2 i q
    ·rw[q]
     have:=q38 (qr5 left p j a K) [qi6 (nL left K) p j] 0
     rw[Nat.add_zero] at this
     rw[this,qb8,h1]
     congr 2
     split <;> split <;> omega
theorem wa4 {left:List (List Int)} {j:Nat}:∀K,lastTo left j K<0->∀i,i<K->nI (nL left i) j=0
 | 0,_,i,hi=>absurd hi (Nat.not_lt_zero _)
 | K+1,h,i,hi=>by
  rw[lastTo] at h
  split at h
  ·omega
  ·rename_i hz
   rcases Nat.lt_succ_iff_lt_or_eq.1 hi with q | q
   ·exact wa4 K h i q
   ·rw[q]; exact Classical.not_not.1 hz
theorem wt3 {left:List (List Int)} {j:Nat}:∀K,0<=lastTo left j K->nI (nL left (lastTo left j K).toNat) j≠0
 | 0,h=>by have:(0:Int)<=-1:=h; omega
 | K+1,h=>by
  rw[lastTo] at h ⊢
  split at h
  ·rename_i hz
   rw[if_pos hz]
   simpa using hz
  ·rename_i hz
   rw[if_neg hz]
   exact wt3 K h
theorem q59 (l:List Int) (n:Int) (c:Nat):nI (q7j l n) c=nI l c*n:=by
 rcases Nat.lt_or_ge c l.length with h | h
 ·unfold q7j; rw[w25 h]
 ·rw[q2x _ h,q2x _ (by rw[qx3]; exact h),Int.zero_mul]
structure Rst (n W:Nat) (R:Nat->Nat->Int) (j:Nat) (s:RS):Prop where
 st:St n W R j (s.done_++s.left) s.piv
 cnt:s.done_.length=s.piv.length
 prim:∀x∈s.left,Prim x
theorem xq2 (left:List (List Int)) (j:Nat) (a:Int) (hne:nI (nL left a.toNat) j≠0):∃s:Int,(s=1\/s=-1)/\(∀c,nI (w9h left j a) c=s*nI (nL left a.toNat) c)/\0<nI (w9h left j a) j:=by
 unfold w9h
 by_cases q:nI (nL left a.toNat) j<0
 ·rw[if_pos q]
  exact⟨-1,.inr rfl,λc=>by rw[q59]; omega,by rw[q59]; omega⟩
 ·rw[if_neg q]
  exact⟨1,.inl rfl,λc=>by omega,by omega⟩
theorem xq3 {n W j:Nat} {R:Nat->Nat->Int} {s:RS} (hj:j<W) (h:Rst n W R j s):Rst n W R (j+1) (w9i s j):=by
 obtain⟨left,dn,P⟩:=s
 obtain⟨hst,hcnt,hprim⟩:=h
 have hst:St n W R j (dn++left) P:=hst
 have hcnt:dn.length=P.length:=hcnt
 have hprim:∀x∈left,Prim x:=hprim
 have hlen:=hst.len
 rw[List.length_append] at hlen
 have hL:∀i,i<left.length->nL (dn++left) (P.length+i)=nL left i:=λi hi=>by rw[<- hcnt]; exact q38 _ _ _
 have hD:∀i,i<P.length->nL (dn++left) i=nL dn i:=λi hi=>qx6 _ _ (by omega)
 unfold w9i
 dsimp only
 split
 ·rename_i hn
  refine⟨hst.skip λi h1 h2=>?_,hcnt,hprim⟩
  have:=hL (i-P.length) (by omega)
  rw[show P.length+(i-P.length)=i by omega] at this
  rw[this]
  exact wa4 _ hn _ (by omega)
 ·rename_i hn
  have hn:0<=lastTo left j left.length:=Int.not_lt.1 hn
  have hlt:=(q7k left j left.length).1
  have hne:=wt3 _ hn
  obtain⟨sg,hs,hsx,hpos⟩:=xq2 left j (lastTo left j left.length) hne
  have hplen:(w9h left j (lastTo left j left.length)).length=(nL left (lastTo left j left.length).toNat).length:=by
   unfold w9h; split
   ·exact qx3 _ _
   ·rfl
  generalize hA:w9h left j (lastTo left j left.length)=p at hsx hpos hplen ⊢
  obtain⟨a,ha⟩:∃a:Nat,lastTo left j left.length=(a:Int):=⟨(lastTo left j left.length).toNat,by omega⟩
  rw[ha] at hlt hne hsx hplen ⊢
  rw[Int.toNat_natCast] at hne hsx hplen
  have halt:a<left.length:=by omega
  obtain⟨r1,r2⟩:=wt2 left p j a left.length
  rw[if_pos halt] at r1
  have hW:∀i,i<left.length->(nL left i).length=W:=λi hi=>by rw[<- hL i hi]; exact hst.each _ (by omega)
  have hWd:∀i,i<P.length->(nL dn i).length=W:=λi hi=>by rw[<- hD i hi]; exact hst.each _ (by omega)
  have hdl:(dn.map λr=>qi6 r p j).length=P.length:=by simp[hcnt]
  have hA1:∀i,i<P.length->nL (((dn.map λr=>qi6 r p j)++[p])++qr5 left p j a left.length) i=qi6 (nL dn i) p j:=λi hi=>by
   rw[qx6 _ _ (by rw[List.length_append]; omega),qx6 _ _ (by omega),xu9 (by omega)]
  have hA2:nL (((dn.map λr=>qi6 r p j)++[p])++qr5 left p j a left.length) P.length=p:=by
   rw[qx6 _ _ (by rw[List.length_append,hdl]; exact Nat.lt_succ_self _)]
   have:=q38 (dn.map λr=>qi6 r p j) [p] 0
   rw[hdl,Nat.add_zero] at this
   rw[this,qb8]
  have hA3:∀i,i<left.length-1->nL (((dn.map λr=>qi6 r p j)++[p])++qr5 left p j a left.length) (P.length+1+i)=qi6 (nL left (if i<a then i else i+1)) p j:=λi hi=>by
   have e:((dn.map λr=>qi6 r p j)++[p]).length=P.length+1:=by rw[List.length_append,hdl]; rfl
   have:=q38 ((dn.map λr=>qi6 r p j)++[p]) (qr5 left p j a left.length) i
   rw[e] at this
   rw[this,r2 i (by omega)]
  refine⟨?_,by rw[List.length_append,List.length_append,hdl]; rfl,λx hx=>?_⟩
  ·refine hst.step hj (by omega) ?_ (λi hi=>?_) (λi=>if i<P.length then i else if i=P.length then P.length+a else if i-P.length-1<a then i-1 else i) (λi hi=>?_) (λi k hi hk e=>?_) (λi hi=>?_) (λi hi=>?_) ⟨sg,hs,λc hc=>?_⟩ ?_ λi hi hne2=>?_
   ·rw[List.length_append,List.length_append,hdl,r1]
    show P.length+1+_=n
    omega
   ·rcases Nat.lt_trichotomy i P.length with q | q | q
    ·rw[hA1 i q,qv0]; exact hWd i q
    ·rw[q,hA2,hplen]; exact hW a halt
    ·have:=hA3 (i-P.length-1) (by omega)
     rw[show P.length+1+(i-P.length-1)=i by omega] at this
     rw[this,qv0]
     exact hW _ (by split <;> omega)
   ·(try dsimp only); split
    ·omega
    ·split
     ·omega
     ·split <;> omega
   ·try dsimp only at e
    split at e <;> split at e <;> (try split at e) <;> (try split at e) <;> (try split at e) <;> (try split at e) <;> omega
   ·rcases Nat.lt_or_ge i P.length with q | q
    ·exact⟨i,hi,by(try dsimp only); rw[if_pos q]⟩
    ·rcases Nat.lt_trichotomy i (P.length+a) with k | k | k
     ·exact⟨i+1,by omega,by(try dsimp only); rw[if_neg (by omega),if_neg (by omega),if_pos (by omega)]; omega⟩
     ·exact⟨P.length,by omega,by(try dsimp only); rw[if_neg (by omega),if_pos rfl]; omega⟩
     ·exact⟨i,hi,by(try dsimp only); rw[if_neg (by omega),if_neg (by omega),if_neg (by omega)]⟩
   ·(try dsimp only); rw[if_pos hi]
   ·rw[hA2,if_neg (Nat.lt_irrefl _),if_pos rfl,hL a halt]; exact hsx c
   ·rw[hA2]; exact hpos
   ·rw[hA2]
    try dsimp only
    rcases Nat.lt_or_ge i P.length with q | q
    ·rw[hA1 i q,if_pos q,hD i q]
     exact q8c hj (hWd i q) hpos
    ·have:=hA3 (i-P.length-1) (by omega)
     rw[show P.length+1+(i-P.length-1)=i by omega] at this
     have hπi:(if i<P.length then i else if i=P.length then P.length+a else if i-P.length-1<a then i-1 else i)=(if i-P.length-1<a then i-1 else i):=by rw[if_neg (by omega),if_neg hne2]
     rw[this,hπi]
     have e:nL (dn++left) (if i-P.length-1<a then i-1 else i)=nL left (if i-P.length-1<a then i-P.length-1 else i-P.length-1+1):=by
      have:=hL (if i-P.length-1<a then i-P.length-1 else i-P.length-1+1) (by split <;> omega)
      rw[<- this]
      congr 1
      split <;> omega
     rw[e]
     exact q8c hj (hW _ (by split <;> omega)) hpos
  ·obtain⟨i,_,_,rfl⟩:=q1x _ _ _ _ _ x hx
   exact qo4 _
theorem wi2 {n W:Nat} {M:List (List Int)} (h:Mat n W M):∀j,j<=W->Rst n W (rowOf M) j (qn0 M j)
 | 0,_=>by
  have hl:(M.map qu3).length=n:=by rw[List.length_map]; exact h.len
  have ha:∀i,i<n->nL (M.map qu3) i=qu3 (nL M i):=λi hi=>xu9 (by rw[h.len]; exact hi)
  have hm:∀i,i<n->∀c,c<W->max (gcdL (nL M i)) 1*nI (qu3 (nL M i)) c=nI (nL M i) c:=λi hi c hc=>qx5 _ (by rw[h.each i hi]; exact hc)
  refine⟨?_,rfl,λx hx=>?_⟩
  ·show St n W (rowOf M) 0 (M.map qu3) []
   refine⟨hl,λi hi=>by rw[ha i hi,qx2]; exact h.each i hi,⟨rowOf (M.map qu3),λ_=>none,id,El.start λa ha'=>⟨max (gcdL (nL M a)) 1,by omega,λj hj=>?_⟩,λi hi=>hi,λi k _ _ e=>e,λa ha=>⟨a,ha,rfl⟩,λi _ c _=>rfl,λq _=>by simp,λi hi=>?_⟩,λz=>?_,Nat.zero_le _,λi _ _ c hc=>absurd hc (Nat.not_lt_zero _),λq hq=>absurd hq (Nat.not_lt_zero _),λq k _ hk=>absurd hk (Nat.not_lt_zero _)⟩
   ·unfold rowOf
    rw[ha a ha']; exact hm a ha' j hj
   ·rw[ha i hi]
    exact(qo4 _).nice (by rw[qx2]; exact h.each i hi) _
   ·have hd:∀i,i<n->max (gcdL (nL M i)) 1*dt W (nL (M.map qu3) i) z=dt W (nL M i) z:=λi hi=>by
     have:=w24 (W:=W) (r':=nL (M.map qu3) i) (r:=nL M i) (p:=[]) (z:=z) (α:=max (gcdL (nL M i)) 1) (β:=1) (γ:=0) λc hc=>by rw[ha i hi,hm i hi c hc]; omega
     omega
    constructor
    ·intro hz i hi
     have h1:=hd i hi
     have h2:dt W (nL M i) z=0:=hz i hi
     rw[h2] at h1
     exact qd5 h1 (by omega)
    ·intro hz i hi
     have h1:=hd i hi
     rw[hz i hi,Int.mul_zero] at h1
     exact h1.symm
  ·obtain⟨u,_,rfl⟩:=List.mem_map.1 hx
   exact qo4 u
 | j+1,hj=>xq3 (by omega) (wi2 h j (by omega))
theorem Prim.last {l:List Int} {N:Nat} (h:Prim l) (hl:l.length=N+1) (hz:∀c,c<N->nI l c=0):(nI l N).natAbs<=1:=by
 rcases h with h | h
 ·rw[h N (by omega)]; decide
 ·have:=h (nI l N).natAbs λc hc=>by
   rcases Nat.lt_or_ge c N with q | q
   ·rw[hz c q]; exact Nat.dvd_zero _
   ·rw[show c=N by omega]; exact Nat.dvd_refl _
  omega
theorem exL:∀(k:Nat) (p:Nat->Int),(∀q,q<k->p q≠0)->∃(L:Int) (u:Nat->Int),L≠0/\∀q,q<k->L=p q*u q
 | 0,p,_=>⟨1,λ_=>0,by decide,λq h=>absurd h (Nat.not_lt_zero _)⟩
 | k+1,p,h=>by
  obtain⟨L,u,h1,h2⟩:=exL k p λq hq=>h q (by omega)
  refine⟨L*p k,λq=>if q=k then L else u q*p k,qv1 h1 (h k (by omega)),λq hq=>?_⟩
  try dsimp only
  by_cases e:q=k
  ·rw[if_pos e,e,Int.mul_comm]
  ·rw[if_neg e,<- Int.mul_assoc,<- h2 q (by omega)]
def Sol (n W:Nat) (R:Nat->Nat->Int) (z:Nat->Int):Prop:=∀a,a<n->(sm W λc=>R a c*z c)=0
theorem St.inj {n W:Nat} {R:Nat->Nat->Int} {j:Nat} {rows:List (List Int)} {P:List Int} (h:St n W R j rows P) {q k:Nat} (hq:q<P.length) (hk:k<P.length) (e:nI P q=nI P k):q=k:=by
 rcases Nat.lt_trichotomy q k with q1 | q1 | q1
 ·have:=h.asc q k q1 hk; omega
 ·exact q1
 ·have:=h.asc k q q1 hq; omega
theorem St.free {n W:Nat} {R:Nat->Nat->Int} {j:Nat} {rows:List (List Int)} {P:List Int} (h:St n W R j rows P) (hj:j<=W) {f:Nat} (hf:f<W) (hnp:∀q,q<P.length->nI P q≠(f:Int)) (hz:∀i,P.length<=i->i<n->nI (nL rows i) f=0) :
  ∃z,Sol n W R z/\z f≠0/\∀c,c<W->c≠f->(∀q,q<P.length->nI P q≠(c:Int))->z c=0:=by
 obtain⟨L,u,hL,hu⟩:=exL P.length (λq=>nI (nL rows q) (nI P q).toNat) λq hq=>by have:=(h.pos q hq).2.2.1; (try dsimp only); omega
 have hpl:=h.pl
 have hzf:(if f=f then L else sm P.length λq=>if nI P q=(f:Int) then-u q*nI (nL rows q) f else 0)=L:=if_pos rfl
 obtain⟨z,hzd⟩:∃z:Nat->Int,∀c,z c=if c=f then L else sm P.length λq=>if nI P q=(c:Int) then-u q*nI (nL rows q) f else 0:=⟨_,λ_=>rfl⟩
 have z1:z f=L:=by rw[hzd,if_pos rfl]
 have z2:∀c,c≠f->(∀q,q<P.length->nI P q≠(c:Int))->z c=0:=λc hc hq=>by
  rw[hzd,if_neg hc]
  exact sm_zero λq h=>if_neg (hq q h)
 have z3:∀q,q<P.length->z (nI P q).toNat=- u q*nI (nL rows q) f:=λq hq=>by
  have hp:=h.pos q hq
  have e:((nI P q).toNat:Int)=nI P q:=by omega
  rw[hzd,if_neg (λk=>hnp q hq (by omega)),qq0 hq λi hi hne=>by
   try dsimp only
   rw[if_neg λk=>hne (h.inj hi hq (by omega))]]
  try dsimp only
  rw[if_pos e.symm]
 refine⟨z,(h.sol z).2 λi hi=>?_,by rw[z1]; exact hL,λc hc=>z2 c⟩
 unfold dt
 rcases Nat.lt_or_ge i P.length with q | q
 ·have hp:=h.pos i q
  rw[wa0 (k:=f) (l:=(nI P i).toNat) hf (by omega) (λk=>hnp i q (by omega)) λc hc h1 h2=>?_]
  ·try dsimp only
   rw[z1,z3 i q]
   have:=hu i q
   try dsimp only at this
   rw[this]
   grind
  ·try dsimp only
   by_cases hx:∃q,q<P.length/\nI P q=(c:Int)
   ·obtain⟨q2,hq2,e⟩:=hx
    have hp2:=h.pos q2 hq2
    have:nI (nL rows i) (nI P q2).toNat=0:=hp2.2.2.2.2 i hi λk=>h2 (by rw[k,e]; rfl)
    rw[e,Int.toNat_natCast] at this
    rw[this,Int.zero_mul]
   ·rw[z2 c h1 λq hq e=>hx ⟨q,hq,e⟩,Int.mul_zero]
 ·refine sm_zero λc hc=>?_
  try dsimp only
  by_cases e:c=f
  ·rw[e,hz i q hi,Int.zero_mul]
  ·by_cases hx:∃q,q<P.length/\nI P q=(c:Int)
   ·obtain⟨q2,hq2,e⟩:=hx
    have hp2:=h.pos q2 hq2
    have:nI (nL rows i) (nI P q2).toNat=0:=hp2.2.2.2.2 i hi (by omega)
    rw[e,Int.toNat_natCast] at this
    rw[this,Int.zero_mul]
   ·rw[z2 c e λq hq e=>hx ⟨q,hq,e⟩,Int.mul_zero]
structure Asc (N:Nat) (P:List Int):Prop where
 at_:∀q,q<P.length->0<=nI P q/\nI P q<N
 asc:∀q k,q<k->k<P.length->nI P q<nI P k
theorem Asc.ge {N:Nat} {P:List Int} (h:Asc N P):∀q,q<P.length->(q:Int)<=nI P q
 | 0,hq=>(h.at_ 0 hq).1
 | q+1,hq=>by
  have h1:=h.ge q (by omega)
  have h2:=h.asc q (q+1) (by omega) hq
  omega
theorem Asc.le {N:Nat} {P:List Int} (h:Asc N P):P.length<=N:=by
 rcases Nat.eq_zero_or_pos P.length with q | q
 ·omega
 ·have h1:=h.ge (P.length-1) (by omega)
  have h2:=h.at_ (P.length-1) (by omega)
  omega
theorem Asc.up {N:Nat} {P:List Int} (h:Asc N P):∀d,d<P.length->nI P (P.length-1-d)+d<N
 | 0,hd=>by have:=(h.at_ (P.length-1-0) (by omega)).2; omega
 | d+1,hd=>by
  have h1:=h.up d (by omega)
  have h2:=h.asc (P.length-1-(d+1)) (P.length-1-d) (by omega) (by omega)
  omega
theorem Asc.id {N:Nat} {P:List Int} (h:Asc N P) (hl:P.length=N) {q:Nat} (hq:q<N):nI P q=q:=by
 have h1:=h.ge q (by omega)
 have h2:=h.up (P.length-1-q) (by omega)
 rw[show P.length-1-(P.length-1-q)=q by omega] at h2
 omega
theorem Asc.free {N:Nat} {P:List Int} (hl:P.length<N):∃f,f<N/\∀q,q<P.length->nI P q≠(f:Int):=by
 refine Classical.byContradiction λhno=>?_
 have hx:∀f,∃q,f<N->q<P.length/\nI P q=(f:Int):=λf=>by
  by_cases hf:f<N
  ·refine Classical.byContradiction λh2=>hno ⟨f,hf,λq hq e=>h2 ⟨q,λ_=>⟨hq,e⟩⟩⟩
  ·exact⟨0,λh=>absurd h hf⟩
 obtain⟨g,hg⟩:=Classical.axiomOfChoice hx
 obtain⟨i,k,h1,h2,h3⟩:=q73 P.length N g (λi hi=>(hg i hi).1) hl
 have e1:=(hg i (by omega)).2
 have e2:=(hg k h2).2
 rw[h3] at e1
 omega
structure Good (n N:Nat) (R:Nat->Nat->Int) (rows:List (List Int)) (P:List Int):Prop where
 st:∃j,N<=j/\j<=N+1/\St n (N+1) R j rows P
 lt:∀q,q<P.length->nI P q<N
 no:∀i,P.length<=i->i<n->nI (nL rows i) N=0
theorem Good.asc {n N:Nat} {R:Nat->Nat->Int} {rows:List (List Int)} {P:List Int} (h:Good n N R rows P):Asc N P:=by
 obtain⟨j,_,_,hs⟩:=h.st
 exact⟨λq hq=>⟨(hs.pos q hq).1,h.lt q hq⟩,hs.asc⟩
theorem Good.last {n N:Nat} {R:Nat->Nat->Int} {rows:List (List Int)} {P:List Int} (h:Good n N R rows P):∃z,Sol n (N+1) R z/\z N≠0:=by
 obtain⟨j,_,h2,hs⟩:=h.st
 obtain⟨z,z1,z2,_⟩:=hs.free h2 (f:=N) (by omega) (λq hq=>by have:=h.lt q hq; omega) h.no
 exact⟨z,z1,z2⟩
theorem Good.more {n N:Nat} {R:Nat->Nat->Int} {rows:List (List Int)} {P:List Int} (h:Good n N R rows P) (hl:P.length<N):∃z f,Sol n (N+1) R z/\f<N/\z f≠0/\z N=0:=by
 obtain⟨j,h1,h2,hs⟩:=h.st
 obtain⟨f,hf,hq⟩:=Asc.free hl
 obtain⟨z,z1,z2,z3⟩:=hs.free h2 (f:=f) (by omega) hq λi h3 h4=>hs.zero i h3 h4 f (by omega)
 exact⟨z,f,z1,hf,z2,z3 N (by omega) (by omega) λq hq=>by have:=h.lt q hq; omega⟩
theorem Good.row {n N:Nat} {R:Nat->Nat->Int} {rows:List (List Int)} {P:List Int} (h:Good n N R rows P) (hl:P.length=N) {z:Nat->Int} (hz:Sol n (N+1) R z) {k:Nat} (hk:k<N):0<nI (nL rows k) k/\nI (nL rows k) k*z k+nI (nL rows k) N*z N=0:=by
 obtain⟨j,h1,h2,hs⟩:=h.st
 have hid:=λ{q} (hq:q<N)=>h.asc.id hl hq
 have hp:=hs.pos k (by omega)
 have hpl:=hs.pl
 rw[hid hk,Int.toNat_natCast] at hp
 refine⟨hp.2.2.1,?_⟩
 have:=(hs.sol z).1 hz k (by omega)
 unfold dt at this
 rw[wa0 (k:=k) (l:=N) (by omega) (by omega) (by omega) λc hc h1 h2=>?_] at this
 ·exact this
 ·have hp2:=(hs.pos c (by omega)).2.2.2.2 k (by omega) (by omega)
  rw[hid (by omega),Int.toNat_natCast] at hp2
  try dsimp only
  rw[hp2,Int.zero_mul]
theorem Good.len {n N:Nat} {R:Nat->Nat->Int} {rows rows':List (List Int)} {P P':List Int} (h:Good n N R rows P) (h':Good n N R rows' P') (hl:P.length<N):P'.length<N:=by
 rcases Nat.lt_or_ge P'.length N with q | q
 ·exact q
 ·have hl':P'.length=N:=by have:=h'.asc.le; omega
  obtain⟨z,f,z1,z2,z3,z4⟩:=h.more hl
  obtain⟨k1,k2⟩:=h'.row hl' z1 z2
  rw[z4,Int.mul_zero,Int.add_zero] at k2
  exact absurd (qd5 k2 (by omega)) z3
theorem Good.val {n N:Nat} {R:Nat->Nat->Int} {rows rows':List (List Int)} {P P':List Int} (h:Good n N R rows P) (h':Good n N R rows' P') (hl:P.length=N) (hl':P'.length=N) {k:Nat} (hk:k<N):nI (nL rows k) N*nI (nL rows' k) k=nI (nL rows' k) N*nI (nL rows k) k:=by
 obtain⟨z,z1,z2⟩:=h.last
 obtain⟨a1,a2⟩:=h.row hl z1 hk
 obtain⟨b1,b2⟩:=h'.row hl' z1 hk
 have:z N*(nI (nL rows k) N*nI (nL rows' k) k-nI (nL rows' k) N*nI (nL rows k) k)=0:=by grind
 have:=qd5 this z2
 omega
theorem xc1 {m:List (List Int)} {y pix:List Int} (h:Asked m y pix):Small m.length pix.length (pix.length+1) (qk3 m pix y):=by
 have hM:=h.msk
 have h6:=hM.rows6
 have hp10:=hM.pix10
 have hpl:=h.nam.len
 have hat:∀i,i<m.length->nL (qk3 m pix y) i=qx0 (nL m i) pix++[nI y i]:=λi hi=>by
  rw[w56 m pix y i hi,qr3 m pix i hi]
 have hlo:∀i,i<m.length->∀c,c<pix.length->(nI (nL (qk3 m pix y) i) c).natAbs<=1:=λi hi c hc=>by
  rw[hat i hi,ql6 _ _ (by rw[qj2]; exact hc),qp5 _ _ _ hc]
  have h1:=h.nam.at_ c hc
  have h2:=hM.small i hi (nI pix c).toNat (by omega)
  omega
 refine⟨⟨q8a m pix y,λi hi=>by rw[hat i hi,List.length_append,qj2]; rfl⟩,h6,by omega,by omega,λa c ha hc=>hlo a ha c hc,λa c ha hc=>?_⟩
 rcases Nat.lt_or_ge c pix.length with q | q
 ·have:=hlo a ha c q; omega
 ·have e:nI (nL (qk3 m pix y) a) c=nI y a:=by
   rw[hat a ha,show c=(qx0 (nL m a) pix).length by rw[qj2]; omega,qr8]
  have:=h.at_ a ha
  rw[e]
  omega
theorem x5j {m:List (List Int)} {pix y:List Int} (hl:pix.length<=100000):q3w m pix y:=by
 refine⟨by omega,λh=>?_⟩
 have hA:=Asked.of h
 have hS:=xc1 hA
 refine⟨q36 hS,?_⟩
 have hst:=qv3 hS.toMat pix.length (by omega)
 have hpl:=hst.pl
 have hlen:=hst.len
 have hB:BIG=4000000000000000000:=rfl
 refine⟨λk hk=>?_,λk hk=>?_,λk hk=>?_⟩
 ·have:=(hst.pos k hk).2.2.1
  show nI (nL (qc7 (qk3 m pix y) pix.length).1 k) (nI (qc7 (qk3 m pix y) pix.length).2 k).toNat≠0
  omega
 ·have hk:k<(qc7 (qk3 m pix y) pix.length).2.length:=hk
  have h1:=hst.pos k hk
  have:=(hst.small hS (Nat.le_refl _) (i:=k) (by omega)).2 (nI (qc7 (qk3 m pix y) pix.length).2 k).toNat (by omega)
  show qf8 BIG (nI (nL (qc7 (qk3 m pix y) pix.length).1 k) (nI (qc7 (qk3 m pix y) pix.length).2 k).toNat)
  constructor <;> omega
 ·have hk:k<(qc7 (qk3 m pix y) pix.length).2.length:=hk
  have:=(hst.small hS (Nat.le_refl _) (i:=k) (by omega)).2 pix.length (by omega)
  show qf8 BIG (nI (nL (qc7 (qk3 m pix y) pix.length).1 k) pix.length)
  constructor <;> omega
theorem wt4 {n k:Nat} {s:List Int} (h:s∈qf0 (n:Nat) (k:Nat)):s.length=k/\k<=n:=by
 unfold qf0 at h
 split at h
 ·have:=wp1 h
  exact⟨by omega,by omega⟩
 ·cases h
theorem q8d (l:List Int) {p:Nat} (hp:p<l.length) (x:Int) (q:Nat):nI (l.set p x) q=if q=p then x else nI l q:=by
 by_cases e:q=p
 ·subst e
  rw[if_pos rfl,qg5 _ _ (by rw[List.length_set]; exact hp),List.getElem_set_self]
 ·rw[if_neg e]
  unfold nI qf2
  rw[List.getD_eq_getElem?_getD,List.getD_eq_getElem?_getD,List.getElem?_set_ne (Ne.symm e)]
theorem q39:∀(N:Nat) {n:Nat} {f:Nat->Int} {τ:Nat->Nat},(∀q,q<N->τ q<n)->(∀q k,q<N->k<N->τ q=τ k->q=k)->(∀b,b<n->(∀q,q<N->τ q≠b)->f b=0)->sm n f=sm N λq=>f (τ q)
 | 0,n,f,τ,_,_,h=>sm_zero λb hb=>h b hb λq hq=>absurd hq (Nat.not_lt_zero _)
 | N+1,n,f,τ,h1,h2,h3=>by
  have e:sm n f=sm n (λb=>if b=τ N then 0 else f b)+sm n (λb=>if b=τ N then f b else 0):=by
   rw[<- w2w]
   refine qe8 λb _=>?_
   by_cases q:b=τ N
   ·rw[if_pos q,if_pos q]; omega
   ·rw[if_neg q,if_neg q]; omega
  have ih:=q39 N (n:=n) (f:=λb=>if b=τ N then 0 else f b) (τ:=τ) (λq hq=>h1 q (by omega)) (λq k hq hk=>h2 q k (by omega) (by omega)) λb hb hq=>by
   try dsimp only
   by_cases q:b=τ N
   ·rw[if_pos q]
   ·rw[if_neg q]
    refine h3 b hb λk hk=>?_
    rcases Nat.lt_succ_iff_lt_or_eq.1 hk with q2 | q2
    ·exact hq k q2
    ·rw[q2]; exact Ne.symm q
  rw[e,ih,qq0 (k:=τ N) (h1 N (by omega)) λb _ hne=>if_neg hne,if_pos rfl,sm]
  congr 1
  refine qe8 λq hq=>?_
  try dsimp only
  rw[if_neg λk=>by have:=h2 q N (by omega) (by omega) k; omega]
end Go.Proofs.YtmijnbjlhnpokaaGreat
