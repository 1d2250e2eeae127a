/- The reference's elimination: plain mathematics. No condition. -/
import Derived.Test.YtnchigbbjajiiaaGreatW3
set_option linter.unusedVariables false
namespace Go.Proofs.YtnchigbbjajiiaaGreat
open Go Go.RowKit Eng
theorem wm6 (l:List Int) {c:Nat} (h:l.length<=c):nI l c=0:=by
 unfold nI qe0
 simp[List.getElem?_eq_none h]
 rfl
theorem xi2 {l:List Int} {f:Int->Int} {c:Nat} (h:c<l.length):nI (l.map f) c=f (nI l c):=by
 grind [qf1]
theorem q8y {l:List Int} {c:Nat} (h:c<l.length):nI l c∈l:=by grind [qf1,List.getElem_mem]
theorem q8z {l:List Int} {x:Int} (h:x∈l):∃c,c<l.length/\x=nI l c:=by
 obtain⟨c,hc,rfl⟩:=zbz.1 h
 exact⟨c,hc,(qf1 l c hc).symm⟩
theorem xi3 (a b:Int):(gcdI a b).natAbs=Nat.gcd a.natAbs b.natAbs:=rfl
theorem x9y:∀(l:List Int) (a:Int),(l.foldl gcdI a).natAbs∣a.natAbs/\(∀x∈l,(l.foldl gcdI a).natAbs∣x.natAbs)/\∀d:Nat,d∣a.natAbs->(∀x∈l,d∣x.natAbs)->d∣(l.foldl gcdI a).natAbs
 | [],a=>⟨Nat.dvd_refl _,λx hx=>(by grind),λd h _=>h⟩
 | y :: l,a=>by
  obtain⟨h1,h2,h3⟩:=x9y l (gcdI a y)
  rw[List.foldl_cons]
  rw[xi3] at h1 h3
  refine⟨Nat.dvd_trans h1 (zb1 _ _),λx hx=>?_,λd ha hx=>h3 d (Nat.dvd_gcd ha (hx y (by simp))) λx hx'=>hx x (by grind)⟩
  rcases zas.1 hx with rfl | hx
  all_goals grind [Nat.dvd_trans,Nat.gcd_dvd_right]
theorem q80:∀(l:List Int) (a:Int),0<=a->0<=l.foldl gcdI a
 | [],a,h=>h
 | y :: l,a,_=>q80 l _ (q72 _ _)
theorem q3n (l:List Int):0<=gcdL l:=q80 l 0 dc
theorem q6b (l:List Int):qe4 l=qk1 l:=by
 have h0:=q3n l
 unfold qe4 qk1
 split
 ·grind
 simp_all [max,gcdL]
theorem qz3 (l:List Int) {c:Nat} (hc:c<l.length):max (gcdL l) 1*nI (qk1 l) c=nI l c:=by
 have h0:=q3n l
 unfold qk1
 rw[xi2 hc]
 apply za9
 rcases zct 0 (gcdL l) with h | h
 ·grind [max,gcdL,Int.natAbs_dvd_natAbs,x9y,q8y]
 ·rw[show max (gcdL l) 1=1 by omega]
  simp
def Prim (l:List Int):Prop:=(∀c,c<l.length->nI l c=0)\/∀d:Nat,(∀c,c<l.length->d∣(nI l c).natAbs)->d=1
theorem qp3 (l:List Int):Prim (qk1 l):=by
 have h0:=q3n l
 unfold Prim
 rw[qn6]
 rcases zct 0 (gcdL l) with h | h
 ·refine .inr λd hd=>?_
  have hm:max (gcdL l) 1=gcdL l:=ow
  have h1:(gcdL l).natAbs*d∣(gcdL l).natAbs:=(x9y l 0).2.2 _ (Nat.dvd_zero _) λx hx=>by
   obtain⟨c,hc,rfl⟩:=q8z hx
   grind [qz3,Int.natAbs_mul,Nat.mul_dvd_mul_left]
  have h2:(gcdL l).natAbs*d∣(gcdL l).natAbs*1:=by grind
  exact Nat.dvd_one.1 (Nat.dvd_of_mul_dvd_mul_left ow h2)
 ·refine .inl λc hc=>?_
  have h1:nI l c=0:=by
   have:=(x9y l 0).2.1 _ (q8y hc)
   have e:(l.foldl gcdI 0).natAbs=0:=by
    grind [gcdL]
   simp_all
  have:=qz3 l hc
  grind
theorem Prim.nice {l:List Int} {W:Nat} (h:Prim l) (hl:l.length=W) (f:Nat->Int):x9s W f (nI l):=by
 subst hl
 exact .inr (h.imp id id)
theorem x0o (l:List Int) (c:Nat):(nI (qk1 l) c).natAbs<=(nI l c).natAbs:=by
 rcases zaq c l.length with h | h
 ·unfold qk1
  rw[xi2 h,zck]; exact zcr _ _
 grind [wm6,qn6]
theorem x2q {W j:Nat} {u r p:List Int} {β γ:Int} (hj:j<W) (hu:u.length=W) (h0:nI u j=0) (hβ:0<β) (h:∀c,c<W->nI u c=β*nI r c-γ*nI p c):Elm W j (qk1 u) r p:=by
 subst hu
 have hG:0<max (gcdL u) 1:=ow
 refine⟨?_,⟨max (gcdL u) 1,β,γ,hG,hβ,λc hc=>by grind [qz3]⟩,λf _=>(qp3 u).nice (qn6 u) f⟩
 grind [qz3,qc9]
theorem x0p {W j:Nat} {r p:List Int} (h0:nI r j=0):Elm W j r r p:=⟨h0,⟨1,1,0,dc,dc,λc _=>by simp⟩,λ_ h=>h⟩
theorem xi4 (r b:List Int) (j:Nat) {c:Nat} (hc:c<r.length):nI (q57 r b j) c=x6v r b j c:=by
 grind [qf1,q2f,q57]
theorem xi5 {W j:Nat} {r p:List Int} (hj:j<W) (hr:r.length=W) (hp:0<nI p j):Elm W j (qz0 r p j) r p:=by
 have hg:0<gcdI (nI r j) (nI p j):=ql9 (.inr ow)
 have e1:gcdI (nI r j) (nI p j)*q1 r p j=nI p j:=za9 (za7.1 (zb4 _ _))
 have e2:gcdI (nI r j) (nI p j)*q2 r p j=nI r j:=za9 (za7.1 (zb1 _ _))
 unfold qz0
 rw[q6b]
 refine x2q (β:=q1 r p j) (γ:=q2 r p j) hj (by grind [q2f]) ?_ (q4q hg ow) λc hc=>?_
 all_goals grind [xi4,x6v,nI,q1,q2,gcdI]
theorem w4o (r p:List Int) (j:Nat) {c:Nat} (hc:c<r.length):nI (q5i r p j) c=nI r c*nI p j-nI p c*nI r j:=by
 grind [qf1,q5i]
theorem xi6 (r p:List Int) (j:Nat):(q5i r p j).length=r.length:=by simp[q5i]
theorem q81 {W j:Nat} {r p:List Int} (hj:j<W) (hr:r.length=W) (hp:0<nI p j):Elm W j (qe3 r p j) r p:=by
 unfold qe3
 refine x2q (β:=nI p j) (γ:=nI r j) hj (by grind [xi6]) ?_ hp λc hc=>?_
 all_goals grind [w4o]
structure Mat (n W:Nat) (M:List (List Int)):Prop where
 len:M.length=n
 each:∀i,i<n->(nL M i).length=W
def rowOf (M:List (List Int)):Nat->Nat->Int:=λa c=>nI (nL M a) c
theorem wx0 (r:List Int) (c:Nat):nI (xx3 r) c=- nI r c:=by
 grind [Nat.lt_or_ge,qf1,wk5,xx3,wm6]
theorem xi7 (r:List (List Int)) (k i:Nat):nL (r.drop k) i=nL r (k+i):=by
 grind [nL,qe0]
theorem xi8 {r:List (List Int)} {k j:Nat} (h:qu8 r k j<0):∀i,k<=i->i<r.length->nI (nL r i) j=0:=λi h1 h2=>by
 unfold qu8 ixT at h
 split at h
 ·omega
 ·rename_i hn
  have:=zbp.1 (zee.2 hn) (nL r i) (by
   have:=xi7 r k (i-k)
   grind [qn7,List.length_drop])
  grind
theorem w4p {r:List (List Int)} {k j:Nat} (h:0<=qu8 r k j):nI (nL r (k+(qu8 r k j).toNat)) j≠0:=by
 unfold qu8 ixT at h ⊢
 split at h
 ·rename_i ha
  rw[zaj ha]
  have h1:=List.findIdx_getElem (xs:=r.drop k) (p:=λr=>nI r j != 0) (w:=List.findIdx_lt_length.2 (by grind))
  grind [nI,List.findIdx_lt_length,qm3,xi7]
 omega
theorem St.zero_ {n W:Nat} {M:List (List Int)} (h:Mat n W M):St n W (rowOf M) 0 M []:=by
 refine⟨h.len,h.each,⟨rowOf M,λ_=>none,id,El.start λa _=>⟨1,dc,λj _=>ze1 _⟩,λi hi=>hi,λi k _ _ e=>e,λa ha=>⟨a,ha,rfl⟩,λi _ c _=>rfl,λq _=>by simp,λi _=>.inl ⟨1,.inl rfl,λc _=>(ze1 _).symm⟩⟩,λz=>zeq,zae _,λi _ _ c hc=>absurd hc (zat _),λq hq=>absurd hq (zat _),λq k _ hk=>absurd hk (zat _)⟩
theorem we8 {n W j:Nat} {R:Nat->Nat->Int} {s:List (List Int) × List Int} (hj:j<W) (h:St n W R j s.1 s.2):St n W R (j+1) (qx8 s j).1 (qx8 s j).2:=by
 obtain⟨r,P⟩:=s
 have h:St n W R j r P:=h
 unfold qx8
 split
 ·rename_i hn
  exact h.skip λi h1 h2=>xi8 hn i h1 (by rw[h.len]; omega)
 ·rename_i hn
  have hn:0<=qu8 r P.length j:=zbf.1 hn
  have hlen:=h.len
  have hpl:=h.pl
  have hb:=q2i r P.length j ow hn
  have hk:P.length<n:=ow
  have hne:=w4p hn
  show St n W R (j+1) (xq8 (qj1 r P.length j) P.length j) (P++[(j:Int)])
  obtain⟨b,hbd⟩:∃b,b=P.length+(qu8 r P.length j).toNat:=⟨_,rfl⟩
  rw[<- hbd] at hb hne
  have hsw:∀i,i<n->nL (q2h r P.length j) i=nL r (if i=P.length then b else if i=b then P.length else i):=λi hi=>by
   unfold q2h
   rw[<- hbd,q4k _ _ _ ow hb i ow]
   grind
  have hpr:∀i,i<n->i≠P.length->nL (qj1 r P.length j) i=nL (q2h r P.length j) i:=λi hi hne=>by
   simp_all [q4l,if_neg]
  have hpk:∃s:Int,(s=1\/s=-1)/\(∀c,nI (nL (qj1 r P.length j) P.length) c=s*nI (nL r b) c)/\0<nI (nL (qj1 r P.length j) P.length) j:=by
   have e:=hsw P.length hk
   rw[zaj rfl] at e
   rw[q4l _ _ _ _ ow,e]
   by_cases q:nI (nL r b) j<0
   ·rw[zaj ⟨rfl,q⟩]
    refine⟨-1,.inr rfl,λc=>by grind [wx0],by grind [wx0]⟩
   ·rw[zag λk=>q k.2]
    exact⟨1,.inl rfl,λc=>by omega,ow⟩
  obtain⟨s,hs,hsx,hpos⟩:=hpk
  have hcl:xq8 (qj1 r P.length j) P.length j=xq8 (qj1 r P.length j) P.length j:=rfl
  have hat:∀i,i<n->nL (xq8 (qj1 r P.length j) P.length j) i=wo4 (qj1 r P.length j) P.length j i:=λi hi=>xd2 _ _ _ _ (by grind [qm4])
  have heach:=q2j (r:=r) (k:=P.length) (j:=j) (W:=W) ow hn λi hi=>h.each i ow
  have hatk:nL (xq8 (qj1 r P.length j) P.length j) P.length=nL (qj1 r P.length j) P.length:=by
   rw[hat _ hk]; unfold wo4; simp
  refine h.step hj hk (by grind [wk8,qm4]) (λi hi=>?_) (λi=>if i=P.length then b else if i=b then P.length else i) (λi hi=>?_) (λi k hi hk2 e=>?_) (λi hi=>?_) (λi hi=>?_) ⟨s,hs,λc hc=>?_⟩ ?_ λi hi hne2=>?_
  ·grind [wo4,wd5]
  ·grind
  ·grind
  ·refine⟨if i=P.length then b else if i=b then P.length else i,?_,?_⟩
   all_goals grind
  ·grind
  ·grind
  ·grind
  ·rw[hatk,hat i hi]
   try dsimp only
   rw[<- hsw i hi,<- hpr i hi hne2]
   unfold wo4
   by_cases q:nI (nL (qj1 r P.length j) i) j=0
   ·simp_all [if_neg,x0p]
   ·rw[zaj ⟨hne2,q⟩]
    grind [xi5]
theorem qt2 {n W:Nat} {M:List (List Int)} (h:Mat n W M):∀j,j<=W->St n W (rowOf M) j (qb7 M j).1 (qb7 M j).2
 | 0,_=>St.zero_ h
 | j+1,hj=>we8 ow (qt2 h j ow)
structure Small (n C W:Nat) (M:List (List Int)):Prop extends Mat n W M where
 n6:n<=6
 cw:C<=W
 w:W<=1000
 one:∀a c,a<n->c<C->(nI (nL M a) c).natAbs<=1
 read:∀a c,a<n->c<W->(nI (nL M a) c).natAbs<=1000000
theorem yz1 {n:Nat} (h:n<=6):n ^ n<=46656:=by
 have:∀k:Fin 7,k.val ^ k.val<=46656:=dc
 exact this ⟨n,ow⟩
theorem St.small {n C W j:Nat} {M rows:List (List Int)} {P:List Int} (hM:Small n C W M) (h:St n W (rowOf M) j rows P) (hj:j<=C) {i:Nat} (hi:i<n):(∀c,c<C->(nI (nL rows i) c).natAbs<=46656)/\∀c,c<W->(nI (nL rows i) c).natAbs<=46656000000:=by
 have h6:=yz1 hM.n6
 have hcw:=hM.cw
 refine⟨λc hc=>?_,λc hc=>?_⟩
 ·have:=h.bound (λa c ha hc=>hM.one a c ha ow) hi (show c<W by omega) (B:=1) λb hb=>hM.one b c hb hc
  omega
 ·have:=h.bound (λa c ha hc=>hM.one a c ha ow) hi hc (B:=1000000) λb hb=>hM.read b c hb hc
  omega
theorem q0w {a b:Int} {A B:Nat} (ha:a.natAbs<=A) (hb:b.natAbs<=B):(a*b).natAbs<=A*B:=by
 simp_all [Int.natAbs_mul,Nat.mul_le_mul]
theorem q0x (a b:Int):(a.tdiv b).natAbs<=a.natAbs:=by rw[zck]; exact zcr _ _
structure Sml (n C W K B:Nat) (M:List (List Int)):Prop extends Mat n W M where
 n6:n<=6
 cw:C<=W
 w:W<=1000
 k1:1<=K
 kk:K*K<=B
 kB:K<=691200
 bB:B<=700000000000
 read:∀a c,a<n->c<W->(nI (nL M a) c).natAbs<=B
 small:∀j rows P,j<=C->St n W (rowOf M) j rows P->∀i,i<n->(∀c,c<C->(nI (nL rows i) c).natAbs<=K)/\∀c,c<W->(nI (nL rows i) c).natAbs<=B
theorem Small.sml {n C W:Nat} {M:List (List Int)} (h:Small n C W M):Sml n C W 46656 46656000000 M:=
 ⟨h.toMat,h.n6,h.cw,h.w,dc,dc,dc,dc,λa c ha hc=>by have:=h.read a c ha hc; omega,λj rows P hj hs i hi=>hs.small h hj hi⟩
theorem x5h {n C W K B:Nat} {M:List (List Int)} (hM:Sml n C W K B M):q78 M C W:=by
 have hkB:=hM.kB
 have hbB:=hM.bB
 have hBK:B*K<=700000000000*691200:=zbl hbB hkB
 have hn:=hM.n6
 have hl:=hM.len
 have hw:=hM.w
 have hcw:=hM.cw
 refine⟨ow,hw,hM.cw,λi hi=>hM.each i ow,λj hj hp=>?_⟩
 have hst:=qt2 hM.toMat j ow
 have hsm:=λ{i} (hi:i<n)=>hM.small _ _ _ ow hst i hi
 have hlen:=hst.len
 have hpl:=hst.pl
 generalize qb7 M j=s at hp hst hsm hlen hpl ⊢
 obtain⟨r,P⟩:=s
 simp only[] at hp hst hsm hlen hpl ⊢
 have hb:=q2i r P.length j ow hp
 have heachS:=q8a (r:=r) (k:=P.length) (j:=j) (W:=W) ow hp λi hi=>hst.each i ow
 have heach:=q2j (r:=r) (k:=P.length) (j:=j) (W:=W) ow hp λi hi=>hst.each i ow
 have hsw:∀i,i<n->(∀c,c<C->(nI (nL (q2h r P.length j) i) c).natAbs<=K)/\∀c,c<W->(nI (nL (q2h r P.length j) i) c).natAbs<=B:=λi hi=>by
  unfold q2h
  grind [q4k]
 have hpr:∀i,i<n->(∀c,c<C->(nI (nL (qj1 r P.length j) i) c).natAbs<=K)/\∀c,c<W->(nI (nL (qj1 r P.length j) i) c).natAbs<=B:=λi hi=>by
  rw[q4l _ _ _ _ ow]
  split
  all_goals grind [wx0,Int.natAbs_neg]
 have hst2:=we8 (j:=j) ow (show St n W (rowOf M) j (r,P).1 (r,P).2 from hst)
 have hpk:nI (nL (qj1 r P.length j) P.length) j≠0:=by
  have e:=w4p hp
  have hs:nL (q2h r P.length j) P.length=nL r (P.length+(qu8 r P.length j).toNat):=by
   unfold q2h
   rw[q4k _ _ _ ow hb _ ow]
   grind
  rw[q4l _ _ _ _ ow]
  split
  ·rw[wx0,hs]; omega
  ·rw[hs]; exact e
 have hB:BIG=4000000000000000000:=rfl
 have hB2:x8d=2000000000000000000:=rfl
 refine⟨λx hx=>?_,λi hi hne hz=>⟨?_,?_,?_,hpk,?_,?_,λc hc=>?_,λc hc=>?_⟩⟩
 ·obtain⟨c,hc,rfl⟩:=q8z hx
  grind
 ·grind
 ·grind
 ·grind
 ·grind
 ·have:=(hpr P.length ow).1 j hj
  constructor <;> omega
 ·rw[heach i ow] at hc
  have h1:=(hpr i ow).2 c hc
  have h2:=(hpr P.length ow).1 j hj
  have h3:(q1 (nL (qj1 r P.length j) i) (nL (qj1 r P.length j) P.length) j).natAbs<=K:=zal (q0x _ _) h2
  have:=q0w h1 h3
  omega
 ·rw[heach i ow] at hc
  have h1:=(hpr P.length ow).2 c hc
  have h2:=(hpr i ow).1 j hj
  have h3:(q2 (nL (qj1 r P.length j) i) (nL (qj1 r P.length j) P.length) j).natAbs<=K:=zal (q0x _ _) h2
  have:=q0w h1 h3
  omega
theorem wx1 {n C W:Nat} {M:List (List Int)} (hM:Small n C W M):q78 M C W:=x5h hM.sml
theorem qo0 (a b:List (List Int)) {i:Nat} (h:i<a.length):nL (a++b) i=nL a i:=by
 grind [qm3,List.length_append,List.getElem_append_left]
theorem qz4 (a b:List (List Int)) (i:Nat):nL (a++b) (a.length+i)=nL b i:=by
 grind [nL,qe0,List.getElem?_append_right]
theorem xi9 {f:List Int->List Int} {l:List (List Int)} {i:Nat} (h:i<l.length):nL (l.map f) i=f (nL l i):=by
 grind [qm3]
theorem wx2 (left:List (List Int)) (p:List Int) (j a:Nat):∀K,(qg0 left p j a K).length=(if a<K then K-1 else K)/\∀i,i<(qg0 left p j a K).length->nL (qg0 left p j a K) i=qe3 (nL left (if i<a then i else i+1)) p j
 | 0=>⟨by rfl,λi hi=>absurd hi (zat _)⟩
 | K+1=>by
  obtain⟨h1,h2⟩:=wx2 left p j a K
  rw[qg0]
  by_cases e:K=a
  ·grind
  ·rw[zaj ow]
   refine⟨?_,λi hi=>?_⟩
   ·grind
   ·rw[zay] at hi
    have hi:i<(qg0 left p j a K).length+1:=hi
    rcases zau.1 hi with q | q
    ·grind [qo0]
    ·rw[q]
     have:=qz4 (qg0 left p j a K) [qe3 (nL left K) p j] 0
     rw[zb9] at this
     grind [wc7]
theorem we9 {left:List (List Int)} {j:Nat}:∀K,lastTo left j K<0->∀i,i<K->nI (nL left i) j=0
 | 0,_,i,hi=>absurd hi (zat _)
 | K+1,h,i,hi=>by
  rw[lastTo] at h
  split at h
  ·omega
  ·rename_i hz
   rcases zau.1 hi with q | q
   ·exact we9 K h i q
   grind
theorem q82 {left:List (List Int)} {j:Nat}:∀K,0<=lastTo left j K->nI (nL left (lastTo left j K).toNat) j≠0
 | 0,h=>by have:(0:Int)<=-1:=h; omega
 | K+1,h=>by
  rw[lastTo] at h ⊢
  split at h
  ·grind
  ·rename_i hz
   rw[zag hz]
   exact q82 K h
theorem q64 (l:List Int) (n:Int) (c:Nat):nI (qk3 l n) c=nI l c*n:=by
 rcases zaq c l.length with h | h
 all_goals simp_all [qk3,xi2,wm6,qu9,Int.zero_mul]
structure Rst (n W:Nat) (R:Nat->Nat->Int) (j:Nat) (s:RS):Prop where
 st:St n W R j (s.done_++s.left) s.piv
 cnt:s.done_.length=s.piv.length
 prim:∀x∈s.left,Prim x
theorem w4q (left:List (List Int)) (j:Nat) (a:Int) (hne:nI (nL left a.toNat) j≠0):∃s:Int,(s=1\/s=-1)/\(∀c,nI (qw4 left j a) c=s*nI (nL left a.toNat) c)/\0<nI (qw4 left j a) j:=by
 unfold qw4
 by_cases q:nI (nL left a.toNat) j<0
 ·rw[zaj q]
  exact⟨-1,.inr rfl,λc=>by grind [q64],by grind [q64]⟩
 ·rw[zag q]
  exact⟨1,.inl rfl,λc=>by omega,ow⟩
theorem x0q {n W j:Nat} {R:Nat->Nat->Int} {s:RS} (hj:j<W) (h:Rst n W R j s):Rst n W R (j+1) (q8g s j):=by
 obtain⟨left,dn,P⟩:=s
 obtain⟨hst,hcnt,hprim⟩:=h
 have hst:St n W R j (dn++left) P:=hst
 have hcnt:dn.length=P.length:=hcnt
 have hprim:∀x∈left,Prim x:=hprim
 have hlen:=hst.len
 rw[zay] at hlen
 have hL:∀i,i<left.length->nL (dn++left) (P.length+i)=nL left i:=λi hi=>by grind [qz4]
 have hD:∀i,i<P.length->nL (dn++left) i=nL dn i:=λi hi=>qo0 _ _ ow
 unfold q8g
 dsimp only
 split
 ·rename_i hn
  refine⟨hst.skip λi h1 h2=>?_,hcnt,hprim⟩
  have:=hL (i-P.length) ow
  grind [we9]
 ·rename_i hn
  have hn:0<=lastTo left j left.length:=zbf.1 hn
  have hlt:=(q1r left j left.length).1
  have hne:=q82 _ hn
  obtain⟨sg,hs,hsx,hpos⟩:=w4q left j (lastTo left j left.length) hne
  have hplen:(qw4 left j (lastTo left j left.length)).length=(nL left (lastTo left j left.length).toNat).length:=by
   grind [qw4,qu9]
  generalize hA:qw4 left j (lastTo left j left.length)=p at hsx hpos hplen ⊢
  obtain⟨a,ha⟩:∃a:Nat,lastTo left j left.length=(a:Int):=⟨(lastTo left j left.length).toNat,ow⟩
  rw[ha] at hlt hne hsx hplen ⊢
  rw[zap] at hne hsx hplen
  have halt:a<left.length:=ow
  obtain⟨r1,r2⟩:=wx2 left p j a left.length
  rw[zaj halt] at r1
  have hW:∀i,i<left.length->(nL left i).length=W:=λi hi=>by rw[<- hL i hi]; exact hst.each _ ow
  have hWd:∀i,i<P.length->(nL dn i).length=W:=λi hi=>by rw[<- hD i hi]; exact hst.each _ ow
  have hdl:(dn.map λr=>qe3 r p j).length=P.length:=by grind
  have hA1:∀i,i<P.length->nL (((dn.map λr=>qe3 r p j)++[p])++qg0 left p j a left.length) i=qe3 (nL dn i) p j:=λi hi=>by
   grind [qo0,List.length_append,xi9]
  have hA2:nL (((dn.map λr=>qe3 r p j)++[p])++qg0 left p j a left.length) P.length=p:=by
   rw[qo0 _ _ (by grind)]
   have:=qz4 (dn.map λr=>qe3 r p j) [p] 0
   simp_all [Nat.add_zero,wc7]
  have hA3:∀i,i<left.length-1->nL (((dn.map λr=>qe3 r p j)++[p])++qg0 left p j a left.length) (P.length+1+i)=qe3 (nL left (if i<a then i else i+1)) p j:=λi hi=>by
   have e:((dn.map λr=>qe3 r p j)++[p]).length=P.length+1:=by grind
   have:=qz4 ((dn.map λr=>qe3 r p j)++[p]) (qg0 left p j a left.length) i
   grind
  refine⟨?_,by grind,λx hx=>?_⟩
  ·refine hst.step hj ow ?_ (λi hi=>?_) (λi=>if i<P.length then i else if i=P.length then P.length+a else if i-P.length-1<a then i-1 else i) (λi hi=>?_) (λi k hi hk e=>?_) (λi hi=>?_) (λi hi=>?_) ⟨sg,hs,λc hc=>?_⟩ ?_ λi hi hne2=>?_
   ·grind
   ·rcases zcv i P.length with q | q | q
    ·grind [qx2]
    ·grind
    ·have:=hA3 (i-P.length-1) ow
     grind [qx2]
   ·grind
   ·grind
   ·rcases zaq i P.length with q | q
    ·grind
    ·rcases zcv i (P.length+a) with k | k | k
     ·exact⟨i+1,ow,by grind⟩
     ·exact⟨P.length,ow,by grind⟩
     ·exact⟨i,hi,by grind⟩
   ·grind
   ·grind
   ·grind
   ·rw[hA2]
    try dsimp only
    rcases zaq i P.length with q | q
    ·simp_all [if_pos,q81]
    ·have:=hA3 (i-P.length-1) ow
     rw[show P.length+1+(i-P.length-1)=i by omega] at this
     have hπi:(if i<P.length then i else if i=P.length then P.length+a else if i-P.length-1<a then i-1 else i)=(if i-P.length-1<a then i-1 else i):=by grind
     grind [nL,q81]
  ·obtain⟨i,_,_,rfl⟩:=q2k _ _ _ _ _ x hx
   exact qp3 _
theorem qx4 {n W:Nat} {M:List (List Int)} (h:Mat n W M):∀j,j<=W->Rst n W (rowOf M) j (qf8 M j)
 | 0,_=>by
  have hl:(M.map qk1).length=n:=by rw[za4]; exact h.len
  have ha:∀i,i<n->nL (M.map qk1) i=qk1 (nL M i):=λi hi=>xi9 (by grind)
  have hm:∀i,i<n->∀c,c<W->max (gcdL (nL M i)) 1*nI (qk1 (nL M i)) c=nI (nL M i) c:=λi hi c hc=>qz3 _ (by rw[h.each i hi]; omega)
  refine⟨?_,rfl,λx hx=>?_⟩
  ·show St n W (rowOf M) 0 (M.map qk1) []
   refine⟨hl,λi hi=>by rw[ha i hi,qn6]; exact h.each i hi,⟨rowOf (M.map qk1),λ_=>none,id,El.start λa ha'=>⟨max (gcdL (nL M a)) 1,ow,λj hj=>?_⟩,λi hi=>hi,λi k _ _ e=>e,λa ha=>⟨a,ha,rfl⟩,λi _ c _=>rfl,λq _=>by simp,λi hi=>?_⟩,λz=>?_,zae _,λi _ _ c hc=>absurd hc (zat _),λq hq=>absurd hq (zat _),λq k _ hk=>absurd hk (zat _)⟩
   ·grind [rowOf]
   ·rw[ha i hi]
    exact(qp3 _).nice (by rw[qn6]; exact h.each i hi) _
   ·have hd:∀i,i<n->max (gcdL (nL M i)) 1*dt W (nL (M.map qk1) i) z=dt W (nL M i) z:=λi hi=>by
     have:=w4n (W:=W) (r':=nL (M.map qk1) i) (r:=nL M i) (p:=[]) (z:=z) (α:=max (gcdL (nL M i)) 1) (β:=1) (γ:=0) λc hc=>by grind
     omega
    constructor
    ·intro hz i hi
     have h1:=hd i hi
     have h2:dt W (nL M i) z=0:=hz i hi
     grind [qc9]
    ·intro hz i hi
     have h1:=hd i hi
     rw[hz i hi,zbb] at h1
     exact h1.symm
  ·obtain⟨u,_,rfl⟩:=zba.1 hx
   exact qp3 u
 | j+1,hj=>x0q ow (qx4 h j ow)
theorem Prim.last {l:List Int} {N:Nat} (h:Prim l) (hl:l.length=N+1) (hz:∀c,c<N->nI l c=0):(nI l N).natAbs<=1:=by
 rcases h with h | h
 ·rw[h N ow]; decide
 ·have:=h (nI l N).natAbs λc hc=>by
   rcases zaq c N with q | q
   ·rw[hz c q]; exact Nat.dvd_zero _
   ·rw[show c=N by omega]; exact Nat.dvd_refl _
  omega
theorem x9z {n N K B:Nat} {M:List (List Int)} (hM:Sml n N (N+1) K B M) (h0:0<n):xe5 M/\∀k,k<(qf8 M (N+1)).done_.length->∀c,c<N+1->(nI (nL (qf8 M (N+1)).done_ k) c).natAbs<=B:=by
 have hB:BIG=4000000000000000000:=rfl
 have hk1:=hM.k1
 have hkk:=hM.kk
 have hkB:=hM.kB
 have hbB:=hM.bB
 have hBK:B*K<=700000000000*691200:=zbl hbB hkB
 have hn:=hM.n6
 have hl:=hM.len
 have hw:=hM.w
 have hW:rdW M=N+1:=hM.each 0 h0
 -- the numbers at a step
 have key:∀j,j<N+1->0<=lastTo (qf8 M j).left j (qf8 M j).left.length->x4t (qf8 M j) j/\((∀c,c<N+1->(nI (qw4 (qf8 M j).left j (lastTo (qf8 M j).left j (qf8 M j).left.length)) c).natAbs<=B)/\∀i,i<(qf8 M j).done_.length->j=N->∀c,c<N+1->(nI (q5i (nL (qf8 M j).done_ i) (qw4 (qf8 M j).left j (lastTo (qf8 M j).left j (qf8 M j).left.length)) j) c).natAbs<=B):=by
  intro j hj hp
  have hst:=qx4 hM.toMat j ow
  generalize qf8 M j=s at hp hst ⊢
  obtain⟨left,dn,P⟩:=s
  obtain⟨hst,hcnt,hprim⟩:=hst
  have hst:St n (N+1) (rowOf M) j (dn++left) P:=hst
  have hcnt:dn.length=P.length:=hcnt
  have hprim:∀x∈left,Prim x:=hprim
  simp only[] at hp ⊢
  have hlen:=hst.len
  rw[zay] at hlen
  have hL:∀i,i<left.length->nL (dn++left) (P.length+i)=nL left i:=λi hi=>by rw[<- hcnt]; exact qz4 _ _ _
  have hD:∀i,i<P.length->nL (dn++left) i=nL dn i:=λi hi=>qo0 _ _ ow
  have hlt:=(q1r left j left.length).1
  have hne:=q82 _ hp
  obtain⟨sg,hs,hsx,hpos⟩:=w4q left j (lastTo left j left.length) hne
  have hsm:=λ{i} (hi:i<n)=>hM.small _ _ _ (show j<=N by omega) hst i hi
  obtain⟨a,ha⟩:∃a:Nat,lastTo left j left.length=(a:Int):=⟨(lastTo left j left.length).toNat,ow⟩
  have hplen:(qw4 left j (lastTo left j left.length)).length=(nL left a).length:=by
   unfold qw4; rw[ha]; split
   ·exact qu9 _ _
   ·rfl
  have ea:(lastTo left j left.length).toNat=a:=ow
  rw[ea] at hne hsx
  have halt:a<left.length:=ow
  have hWl:∀i,i<left.length->(nL left i).length=N+1:=λi hi=>by rw[<- hL i hi]; exact hst.each _ ow
  have hWd:∀i,i<P.length->(nL dn i).length=N+1:=λi hi=>by rw[<- hD i hi]; exact hst.each _ ow
  have bl:∀i,i<left.length->(∀c,c<N->(nI (nL left i) c).natAbs<=K)/\∀c,c<N+1->(nI (nL left i) c).natAbs<=B:=λi hi=>by rw[<- hL i hi]; exact hsm ow
  have bd:∀i,i<P.length->(∀c,c<N->(nI (nL dn i) c).natAbs<=K)/\∀c,c<N+1->(nI (nL dn i) c).natAbs<=B:=λi hi=>by rw[<- hD i hi]; exact hsm ow
  have hab:∀c,(nI (qw4 left j (lastTo left j left.length)) c).natAbs=(nI (nL left a) c).natAbs:=λc=>by
   rw[hsx c,zbq]
   rcases hs with rfl | rfl <;> simp
  -- the numbers in the column,and in a row
  have zl:∀i,i<left.length->j=N->∀c,c<N->nI (nL left i) c=0:=λi hi e c hc=>by
   rw[<- hL i hi]
   exact hst.zero _ ow ow c ow
  have cl:∀i,i<left.length->(nI (nL left i) j).natAbs<=K:=λi hi=>by
   rcases zaq j N with q | q
   ·exact(bl i hi).1 j q
   ·have e:j=N:=ow
    have:=(hprim _ (qn7 left i hi)).last (hWl i hi) (zl i hi e)
    rw[e]; omega
  have hpj:(nI (qw4 left j (lastTo left j left.length)) j).natAbs<=K:=by rw[hab]; exact cl a halt
  have hpc:∀c,c<N+1->(nI (qw4 left j (lastTo left j left.length)) c).natAbs<=B:=λc hc=>by rw[hab]; exact(bl a halt).2 c hc
  have rowB:∀r:List Int,r.length=N+1->(∀c,c<N+1->(nI r c).natAbs<=B)->((nI r j).natAbs<=K\/j=N)->xy4 r (qw4 left j (lastTo left j left.length)) j:=λr hr hb hc0=>by
   have b1:∀k,k<N+1->(nI r k*nI (qw4 left j (lastTo left j left.length)) j).natAbs<=B*K:=λk hk=>q0w (hb k hk) hpj
   have b2:∀k,k<N+1->(nI (qw4 left j (lastTo left j left.length)) k*nI r j).natAbs<=B*K:=λk hk=>by
    rcases hc0 with q | q
    ·exact q0w (hpc k hk) q
    ·rcases zaq k N with q2 | q2
     ·have e0:nI (qw4 left j (lastTo left j left.length)) k=0:=by
       have:=hab k
       rw[zl a halt q k q2] at this
       omega
      rw[e0,zbv]; exact zae _
     ·have e1:k=j:=ow
      rw[e1,ze7]
      exact q0w (hb j ow) hpj
   refine⟨ow,by rw[hplen,hWl a halt,hr],ow,λk hk=>?_,λk hk=>?_,λk hk=>?_⟩
   ·have:=b1 k ow; constructor <;> omega
   ·have:=b2 k ow; constructor <;> omega
   ·have h1:=b1 k ow
    have h2:=b2 k ow
    constructor <;> omega
  refine⟨⟨λ_=>⟨by rw[ha,zap,hWl a halt]; exact hw,λc hc=>?_⟩,λi hi _=>rowB _ (hWl i hi) (bl i hi).2 (.inl (cl i hi)),λi hi=>?_⟩,hpc,λi hi e c hc=>?_⟩
  ·rw[ha,zap] at hc ⊢
   have hc:c<(nL left a).length:=hc
   rw[hWl a halt] at hc
   have:=(bl a halt).2 c hc
   show qc0 BIG (nI (nL left a) c*(-1))
   constructor <;> omega
  ·have hi:i<dn.length:=hi
   have hi2:i<P.length:=ow
   refine rowB _ (hWd i hi2) (bd i hi2).2 ?_
   rcases zaq j N with q | q
   ·exact .inl ((bd i hi2).1 j q)
   ·exact .inr ow
  ·have hi2:i<P.length:=ow
   rw[w4o _ _ _ (by rw[hWd i hi2]; exact hc)]
   rcases zaq c N with q | q
   ·have e0:nI (qw4 left j (lastTo left j left.length)) c=0:=by
     have:=hab c
     rw[zl a halt e c q] at this
     omega
    have e1:(nI (qw4 left j (lastTo left j left.length)) j).natAbs<=K:=hpj
    have:=q0w ((bd i hi2).1 c q) e1
    rw[e0,zbv,Int.sub_zero]
    omega
   ·have e1:c=j:=ow
    rw[e1,ze7,Int.sub_self]; exact zae _
 refine⟨⟨ow,ow,λi hi=>by rw[hW]; exact hM.each i ow,λi hi=>⟨by rw[hM.each i ow]; exact hw,λx hx=>?_⟩,λj hj hp=>(key j ow hp).1⟩,λk hk c hc=>?_⟩
 ·obtain⟨c,hc,rfl⟩:=q8z hx
  have:=hM.read i c ow (by rw[hM.each i ow] at hc; exact hc)
  constructor <;> omega
 ·have hst:=qx4 hM.toMat N ow
  have hk2:k<(q8g (qf8 M N) N).done_.length:=hk
  show(nI (nL (q8g (qf8 M N) N).done_ k) c).natAbs<=B
  have key:=key N ow
  unfold q8g at hk2 ⊢
  split at hk2
  ·rename_i hn
   rw[zaj hn]
   have hlen:=hst.st.len
   rw[zay] at hlen
   rw[<- qo0 _ (qf8 M N).left hk2]
   exact(hM.small _ _ _ (zab _) hst.st _ ow).2 c hc
  ·rename_i hn
   rw[zag hn]
   obtain⟨_,k1,k2⟩:=key (zbf.1 hn)
   rw[zay,za4] at hk2
   have hk2:k<(qf8 M N).done_.length+1:=hk2
   try dsimp only
   rcases zau.1 hk2 with q | q
   ·rw[qo0 _ _ (by rw[za4]; exact q),xi9 q]
    exact zal (x0o _ _) (k2 k q rfl c hc)
   ·rw[q]
    have:=qz4 ((qf8 M N).done_.map λr=>qe3 r (qw4 (qf8 M N).left N (lastTo (qf8 M N).left N (qf8 M N).left.length)) N) [qw4 (qf8 M N).left N (lastTo (qf8 M N).left N (qf8 M N).left.length)] 0
    rw[za4,zb9] at this
    rw[this,wc7]
    exact k1 c hc
theorem w4r {n N:Nat} {M:List (List Int)} (hM:Small n N (N+1) M) (h0:0<n):xe5 M/\∀k,k<(qf8 M (N+1)).done_.length->∀c,c<N+1->(nI (nL (qf8 M (N+1)).done_ k) c).natAbs<=46656000000:=x9z hM.sml h0
end Go.Proofs.YtnchigbbjajiiaaGreat
