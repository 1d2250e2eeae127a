/- The rest of a reading: the program's is the reference's, and how great its numbers are. Plain mathematics. No condition. -/
import Derived.Test.YtmijnbjlhnpokaaGreatW22
import Derived.Test.YtmijnbjlhnpokaaGreatZD
set_option linter.unusedVariables false
namespace Go.Proofs.YtmijnbjlhnpokaaGreat
open Go Go.RowKit Eng
structure InW (w:Nat) (C:List Int):Prop where
 at_:∀j,j<C.length->0<=nI C j/\nI C j<w
 len:C.length<=100
def Ind (m:List (List Int)) (l:List Int):Prop:=∀z:Nat->Int,(∀i,i<m.length->(sm l.length λc=>nI (nL m i) (nI l c).toNat*z c)=0)->∀c,c<l.length->z c=0
theorem qv2 (m:List (List Int)) (C:List Int):qq3 m C=qg7 m C:=by simp[qq3,qa9,qg7]
theorem qv7 (m:List (List Int)) (C:List Int) {a c:Nat} (ha:a<m.length) (hc:c<C.length):rowOf (qg7 m C) a c=nI (nL m a) (nI C c).toNat:=by
 unfold rowOf; rw[qz2 _ _ _ ha,q3f _ _ _ hc]
theorem q3q {m:List (List Int)} {C:List Int} (hM:Mk m) (hC:InW (nL m 0).length C) (h1:1<=C.length):Ones m.length C.length (qg7 m C):=by
 have hl:=hC.len
 refine⟨⟨q00 _ _,λi hi=>by rw[qz2 _ _ _ hi,ql0]⟩,hM.rows1,hM.rows6,h1,by omega,λa c ha hc=>?_⟩
 have h2:=qv7 m C ha hc
 unfold rowOf at h2
 rw[h2]
 have h3:=hC.at_ c hc
 have:=hM.small a ha (nI C c).toNat (by omega)
 omega
theorem St.piv_ind {n W j:Nat} {R:Nat->Nat->Int} {rows:List (List Int)} {P:List Int} (h:St n W R j rows P) (hj:j<=W) {z':Nat->Int} (hz:∀a,a<n->(sm P.length λq=>R a (nI P q).toNat*z' q)=0):∀q,q<P.length->z' q=0:=by
 have hpl:=h.pl
 obtain⟨z,hzd⟩:∃z:Nat->Int,∀c,z c=sm P.length λq=>if nI P q=(c:Int) then z' q else 0:=⟨_,λ_=>rfl⟩
 have zq:∀q,q<P.length->z (nI P q).toNat=z' q:=λq hq=>by
  have hp:=h.pos q hq
  rw[hzd,qp5 hq λi hi hne=>if_neg λk=>hne (h.inj hi hq (by omega)),if_pos (by omega)]
 have z0:∀c,(∀q,q<P.length->(nI P q).toNat≠c)->z c=0:=λc hc=>by
  rw[hzd]
  refine sm_zero λq hq=>if_neg λk=>hc q hq (by omega)
 have him:∀f:Nat->Int,(sm W λc=>f c*z c)=sm P.length λq=>f (nI P q).toNat*z' q:=λf=>by
  rw[q3p P.length (n:=W) (f:=λc=>f c*z c) (τ:=λq=>(nI P q).toNat) (λq hq=>by have:=h.pos q hq; (try dsimp only); omega) (λq k hq hk e=>h.inj hq hk (by have:=h.pos q hq; have:=h.pos k hk; (try dsimp only at e); omega)) λb hb hq=>by
   try dsimp only
   rw[z0 b hq,Int.mul_zero]]
  refine qc9 λq hq=>?_
  try dsimp only
  rw[zq q hq]
 have hsol:=(h.sol z).1 λa ha=>by rw[him]; exact hz a ha
 intro q hq
 have h1:=hsol q (by omega)
 unfold dt at h1
 rw[him,qp5 hq λi hi hne=>by
  try dsimp only
  rw[(h.pos i hi).2.2.2.2 q (by omega) (Ne.symm hne),Int.zero_mul]] at h1
 exact qd1 h1 (by have:=(h.pos q hq).2.2.1; omega)
theorem St.ind_iff {n W:Nat} {R:Nat->Nat->Int} {rows:List (List Int)} {P:List Int} (h:St n W R W rows P):P.length=W↔∀z,Sol n W R z->∀c,c<W->z c=0:=by
 have hA:Asc W P:=⟨λq hq=>⟨(h.pos q hq).1,(h.pos q hq).2.1⟩,h.asc⟩
 refine⟨λhl z hz c hc=>?_,λhz=>?_⟩
 ·refine h.piv_ind (Nat.le_refl _) (z':=z) (λa ha=>?_) c (by omega)
  rw[<- hz a ha,hl]
  refine qc9 λq hq=>?_
  rw[hA.id hl hq,Int.toNat_natCast]
 ·rcases Nat.lt_or_ge P.length W with q | q
  ·obtain⟨f,hf,hnp⟩:=Asc.free q
   obtain⟨z,z1,z2,_⟩:=h.free (Nat.le_refl _) hf hnp λi h1 h2=>h.zero i h1 h2 f hf
   exact absurd (hz z z1 f hf) z2
  ·have:=hA.le; omega
theorem w0x {m:List (List Int)} {C:List Int} (hM:Mk m) (hC:InW (nL m 0).length C) (h1:1<=C.length):wm5 m C=true↔Ind m C:=by
 have hO:=q3q hM hC h1
 have hst:=hO.stR
 have e:wm5 m C=true↔(qh1 (qg7 m C) C.length).piv.length=C.length:=by
  unfold wm5 qb7
  rw[hO.rdW,beq_iff_eq]
  exact⟨λq=>Int.ofNat.inj q,λq=>congrArg Int.ofNat q⟩
 rw[e,hst.ind_iff]
 refine⟨λh z hz=>h z λa ha=>?_,λh z hz=>h z λa ha=>?_⟩
 ·rw[<- hz a ha]
  exact qc9 λc hc=>by rw[qv7 m C ha hc]
 ·rw[<- hz a ha]
  exact qc9 λc hc=>by rw[qv7 m C ha hc]
theorem St.ind_map {m:List (List Int)} {C:List Int} {j:Nat} {rows:List (List Int)} {P:List Int} (h:St m.length C.length (rowOf (qg7 m C)) j rows P) (hj:j<=C.length):Ind m (P.map λk=>nI C k.toNat):=by
 intro z hz c hc
 rw[List.length_map] at hc
 refine h.piv_ind hj (z':=z) (λa ha=>?_) c hc
 have h1:=hz a ha
 rw[List.length_map] at h1
 rw[<- h1]
 refine qc9 λq hq=>?_
 have hp:=h.pos q hq
 rw[qv7 m C ha (by omega),q42 (f:=λk=>nI C k.toNat) hq]
theorem St.img {n W j:Nat} {R:Nat->Nat->Int} {rows:List (List Int)} {P:List Int} (h:St n W R j rows P) (hj:j<W) (f z:Nat->Int) (hz:∀c,c<W->c≠j->(∀q,q<P.length->nI P q≠(c:Int))->z c=0):(sm W λc=>f c*z c)=(sm P.length λq=>f (nI P q).toNat*z (nI P q).toNat)+f j*z j:=by
 rw[q3p (P.length+1) (n:=W) (f:=λc=>f c*z c) (τ:=λq=>if q<P.length then(nI P q).toNat else j) (λq hq=>?_) (λq k hq hk e=>?_) λb hb hq=>?_]
 ·rw[sm]
  try dsimp only
  rw[if_neg (Nat.lt_irrefl _)]
  congr 1
  exact qc9 λq hq=>by(try dsimp only); rw[if_pos hq]
 ·try dsimp only
  split
  ·rename_i hq; have:=h.pos q hq; omega
  ·exact hj
 ·try dsimp only at e
  by_cases h1:q<P.length
  ·have p1:=h.pos q h1
   by_cases h2:k<P.length
   ·have p2:=h.pos k h2
    rw[if_pos h1,if_pos h2] at e
    exact h.inj h1 h2 (by omega)
   ·rw[if_pos h1,if_neg h2] at e; omega
  ·by_cases h2:k<P.length
   ·have p2:=h.pos k h2
    rw[if_neg h1,if_pos h2] at e; omega
   ·omega
 ·try dsimp only
  rw[hz b hb (λe=>hq P.length (Nat.lt_succ_self _) (by(try dsimp only); rw[if_neg (Nat.lt_irrefl _),e])) λq h1 e=>hq q (by omega) (by(try dsimp only); rw[if_pos h1,e]; rfl),Int.mul_zero]
theorem xg5 {m:List (List Int)} {C:List Int} (hM:Mk m) (hC:InW (nL m 0).length C):∀j,j<=C.length->qn8 m C j=((qa6 (qg7 m C) j).2).map λk=>nI C k.toNat
 | 0,_=>rfl
 | j+1,hj=>by
  have ih:=xg5 hM hC j (by omega)
  have hO:=q3q hM hC (by omega)
  have hst:=qp1 hO.toMat j (by omega)
  have hst2:=qp1 hO.toMat (j+1) (by omega)
  have hCl:=hC.len
  have hin:∀P:List Int,(∀q,q<P.length->0<=nI P q/\nI P q<C.length)->P.length<=C.length->InW (nL m 0).length (P.map λk=>nI C k.toNat):=λP hP hl=>⟨λq hq=>by
   rw[List.length_map] at hq
   have:=hP q hq
   rw[q42 (f:=λk=>nI C k.toNat) hq]
   exact hC.at_ _ (by omega),by rw[List.length_map]; omega⟩
  have hasc:∀{i rows P},i<=C.length->St m.length C.length (rowOf (qg7 m C)) i rows P->P.length<=C.length:=λhi h=>(⟨λq hq=>⟨(h.pos q hq).1,by have:=(h.pos q hq).2.1; omega⟩,h.asc⟩:Asc C.length _).le
  rw[qn8,ih]
  rw[qa6] at hst2 ⊢
  rw[qt8] at hst2 ⊢
  by_cases hp:qr9 (qa6 (qg7 m C) j).1 (qa6 (qg7 m C) j).2.length j<0
  ·rw[if_pos hp] at hst2 ⊢
   rw[if_neg λhf=>?_]
   obtain⟨z,z1,z2,z3⟩:=hst.free (by omega) (f:=j) (by omega) (λq hq=>by have:=(hst.pos q hq).2.1; omega) λi h1 h2=>wl8 hp i h1 (by have:=hst.len; omega)
   rw[w0x hM ?_ (by simp)] at hf
   ·refine z2 ?_
    have h1:=hf (λq=>if q<(qa6 (qg7 m C) j).2.length then z (nI (qa6 (qg7 m C) j).2 q).toNat else z j) (λi hi=>?_) (qa6 (qg7 m C) j).2.length (by simp)
    ·try dsimp only at h1
     rw[if_neg (Nat.lt_irrefl _)] at h1
     exact h1
    ·have h2:=hst.img (by omega) (rowOf (qg7 m C) i) z z3
     rw[z1 i hi] at h2
     rw[List.length_append,List.length_map,List.length_singleton,sm]
     try dsimp only
     rw[if_neg (Nat.lt_irrefl _)]
     have e1:nI (((qa6 (qg7 m C) j).2.map λk=>nI C k.toNat)++[nI C j]) (qa6 (qg7 m C) j).2.length=nI C j:=by
      have:=qn0 ((qa6 (qg7 m C) j).2.map λk=>nI C k.toNat) (nI C j)
      rw[List.length_map] at this
      exact this
     rw[e1,<- qv7 m C hi (by omega),h2]
     congr 1
     refine qc9 λq hq=>?_
     try dsimp only
     rw[if_pos hq,ql1 _ _ (by rw[List.length_map]; exact hq),q42 (f:=λk=>nI C k.toNat) hq]
     have:=hst.pos q hq
     rw[qv7 m C hi (by omega)]
   ·have hl2:(qa6 (qg7 m C) j).2.length<=j:=(⟨λq hq=>⟨(hst.pos q hq).1,(hst.pos q hq).2.1⟩,hst.asc⟩:Asc j _).le
    have:=hin ((qa6 (qg7 m C) j).2++[(j:Int)]) (λq hq=>?_) (by rw[List.length_append,List.length_singleton]; omega)
    ·rw[List.map_append] at this
     exact this
    ·rw[List.length_append,List.length_singleton] at hq
     rcases Nat.lt_succ_iff_lt_or_eq.1 hq with k | k
     ·rw[ql1 _ _ k]
      have:=hst.pos q k
      omega
     ·rw[k,qn0]
      omega
  ·rw[if_neg hp] at hst2 ⊢
   have e:(((qa6 (qg7 m C) j).2++[(j:Int)]).map λk=>nI C k.toNat)=((qa6 (qg7 m C) j).2.map λk=>nI C k.toNat)++[nI C j]:=by simp
   have hI:=hst2.ind_map (by omega)
   dsimp only at hI ⊢
   rw[e] at hI ⊢
   rw[if_pos]
   rw[w0x hM ?_ (by simp)]
   ·exact hI
   ·rw[<- e]
    have hp2:=hst2.pos
    dsimp only at hp2
    exact hin _ (λq hq=>⟨(hp2 q hq).1,by have:=(hp2 q hq).2.1; omega⟩) (hasc (by omega) hst2)
theorem wt3 {m:List (List Int)} {C:List Int} (hM:Mk m) (hC:InW (nL m 0).length C):qe4 m C=gre m C:=by
 unfold qe4 gre qi1
 rw[xg5 hM hC _ (Nat.le_refl _),qv2]
theorem xn7 {m:List (List Int)} {C:List Int} (hM:Mk m) (hC:InW (nL m 0).length C):InW (nL m 0).length (qe4 m C)/\Ind m (qe4 m C)/\(qe4 m C).length<=m.length/\(qe4 m C).length<=C.length/\∀q,q<(qe4 m C).length->∃k,k<C.length/\nI (qe4 m C) q=nI C k:=by
 have hCl:=hC.len
 have hMat:Mat m.length C.length (qg7 m C):=⟨q00 _ _,λi hi=>by rw[qz2 _ _ _ hi,ql0]⟩
 have hst:=qp1 hMat C.length (Nat.le_refl _)
 have e:qe4 m C=(qa6 (qg7 m C) C.length).2.map λk=>nI C k.toNat:=by unfold qe4 qi1; rw[qv2]
 have hl:=(⟨λq hq=>⟨(hst.pos q hq).1,(hst.pos q hq).2.1⟩,hst.asc⟩:Asc C.length _).le
 have hpl:=hst.pl
 rw[e,List.length_map]
 have hq:∀q,q<(qa6 (qg7 m C) C.length).2.length->∃k,k<C.length/\nI ((qa6 (qg7 m C) C.length).2.map λk=>nI C k.toNat) q=nI C k:=λq hq=>by
  have:=hst.pos q hq
  exact⟨_,by omega,q42 (f:=λk=>nI C k.toNat) hq⟩
 refine⟨⟨λq h=>?_,by rw[List.length_map]; omega⟩,hst.ind_map (Nat.le_refl _),hpl,hl,hq⟩
 rw[List.length_map] at h
 obtain⟨k,h1,h2⟩:=hq q h
 rw[h2]; exact hC.at_ k h1
theorem w22 (x:Int):0<=x*x:=by
 rcases Int.le_total 0 x with h | h
 ·exact Int.mul_nonneg h h
 ·have:=Int.mul_nonneg (show 0<=-x by omega) (show 0<=-x by omega)
  rwa [Int.neg_mul_neg] at this
theorem xn8:∀(n:Nat) {f:Nat->Int},(sm n λi=>f i*f i)=0->∀i,i<n->f i=0
 | 0,_,_,i,hi=>absurd hi (Nat.not_lt_zero _)
 | n+1,f,h,i,hi=>by
  have h0:∀k,0<=sm k λi=>f i*f i:=λk=>by
   induction k with
   | zero=>exact Int.le_refl _
   | succ k ih=>rw[sm]; have:=w22 (f k); omega
  rw[sm] at h
  have h1:=h0 n
  have h2:=w22 (f n)
  rcases Nat.lt_succ_iff_lt_or_eq.1 hi with q | q
  ·exact xn8 n (by omega) i q
  ·rw[q]
   have:f n*f n=0:=by omega
   exact(Int.mul_eq_zero.1 this).elim id id
theorem w0y (m:List (List Int)) (y l:List Int) (x:Nat):(gRow m y l x).length=l.length+1:=by simp[gRow]
theorem q3r (m:List (List Int)) (y l:List Int):(qb9 m y l).length=l.length:=by simp[qb9]
theorem wd1 (m:List (List Int)) (y l:List Int) {x:Nat} (hx:x<l.length):nL (qb9 m y l) x=gRow m y l x:=by
 rw[ql7 _ _ (by rw[q3r]; exact hx)]; simp[qb9]
theorem xn9 (m:List (List Int)) (y l:List Int) (x:Nat) {c:Nat} (hc:c<l.length):nI (gRow m y l x) c=qg8 (qg2 m (nI l x).toNat) (qg2 m (nI l c).toNat) m.length:=by
 unfold gRow
 rw[ql1 _ _ (by simp; exact hc),qh2 _ _ (by simp; exact hc)]; simp
theorem w7l (m:List (List Int)) (y l:List Int) (x:Nat):nI (gRow m y l x) l.length=qg8 (qg2 m (nI l x).toNat) y m.length:=by
 have:=qn0 ((List.range l.length).map λc=>qg8 (qg2 m (nI l x).toNat) (qg2 m (nI l c).toNat) m.length) (qg8 (qg2 m (nI l x).toNat) y m.length)
 simp only[List.length_map,List.length_range] at this
 exact this
def aN (m:List (List Int)) (l:List Int) (i x:Nat):Int:=nI (nL m i) (nI l x).toNat
def bN (m:List (List Int)) (y l:List Int) (i c:Nat):Int:=if c<l.length then aN m l i c else nI y i
theorem qx2 (m:List (List Int)) (y l:List Int) {x c:Nat} (hx:x<l.length) (hc:c<l.length+1):rowOf (qb9 m y l) x c=sm m.length λi=>aN m l i x*bN m y l i c:=by
 unfold rowOf
 rw[wd1 m y l hx]
 rcases Nat.lt_succ_iff_lt_or_eq.1 hc with q | q
 ·rw[xn9 m y l x q,wm4]
  refine qc9 λi hi=>?_
  unfold bN aN
  rw[if_pos q,q4n _ _ _ hi,q4n _ _ _ hi]
 ·rw[q,w7l,wm4]
  refine qc9 λi hi=>?_
  unfold bN aN
  rw[if_neg (Nat.lt_irrefl _),q4n _ _ _ hi]
structure GrOk (m:List (List Int)) (y l:List Int):Prop where
 msk:Mk m
 ylen:y.length=m.length
 ybd:∀i,i<m.length->(nI y i).natAbs<=1000000
 inw:InW (nL m 0).length l
 ind:Ind m l
 n6:l.length<=6
theorem GrOk.one {m:List (List Int)} {y l:List Int} (h:GrOk m y l):∀i x,i<m.length->x<l.length->(aN m l i x).natAbs<=1:=λi x hi hx=>by
 have h3:=h.inw.at_ x hx
 have:=h.msk.small i hi (nI l x).toNat (by omega)
 unfold aN; omega
theorem GrOk.gram {m:List (List Int)} {y l:List Int} (h:GrOk m y l):Gram l.length m.length (l.length+1) (rowOf (qb9 m y l)) (aN m l) (bN m y l) (· < l.length):=
 ⟨h.n6,h.msk.rows6,λx c hx hc=>qx2 m y l hx hc,h.one,λi c hi hc ho=>by unfold bN; rw[if_pos ho]; exact h.one i c hi ho⟩
theorem St.gram {n m W j C:Nat} {R a b:Nat->Nat->Int} {rows:List (List Int)} {P:List Int} (h:St n W R j rows P) (hG:Gram n m W R a b (· < C)) (hj:j<=C) {i c B:Nat} (hi:i<n) (hc:c<W) (hB1:1<=B) (hB:∀i,i<m->(b i c).natAbs<=B):(nI (nL rows i) c).natAbs<=691200*B:=by
 obtain⟨ρ,pv,τ,hE,t1,t2,t3,t4,t5,t6⟩:=h.tag
 rw[<- t4 i hi c hc]
 refine hG.bound hE (λt p ht hp=>?_) (t1 i hi) ?_ hc hB1 hB
 ·obtain⟨q,hq,rfl⟩:=t3 t ht
  rw[t5 q hq] at hp
  split at hp
  ·rename_i hqP
   obtain rfl:=Option.some.inj hp
   have:=h.pos q hqP
   (try dsimp only); omega
  ·cases hp
 ·rcases t6 i hi with⟨s,hs,hr⟩ | hr | hr
  ·exact .inl ⟨s,hs,λc hc=>by rw[t4 i hi c hc]; exact hr c hc⟩
  ·exact .inr (.inl λc hc=>by rw[t4 i hi c hc]; exact hr c hc)
  ·exact .inr (.inr λd hd=>hr d λc hc=>by rw[<- t4 i hi c hc]; exact hd c hc)
theorem GrOk.bB {m:List (List Int)} {y l:List Int} (h:GrOk m y l):∀i c,i<m.length->(bN m y l i c).natAbs<=1000000:=λi c hi=>by
 unfold bN; split
 ·rename_i q; have:=h.one i c hi q; omega
 ·exact h.ybd i hi
theorem GrOk.mat {m:List (List Int)} {y l:List Int}:Mat l.length (l.length+1) (qb9 m y l):=⟨q3r _ _ _,λi hi=>by rw[wd1 _ _ _ hi,w0y]⟩
theorem GrOk.sml {m:List (List Int)} {y l:List Int} (h:GrOk m y l):Sml l.length l.length (l.length+1) 691200 691200000000 (qb9 m y l):=by
 have h6:=h.n6
 have hr6:=h.msk.rows6
 refine⟨GrOk.mat,h6,by omega,by omega,by decide,by decide,by decide,by decide,λa c ha hc=>?_,λj rows P hj hs i hi=>⟨λc hc=>?_,λc hc=>?_⟩⟩
 ·have e:=qx2 m y l ha hc
  unfold rowOf at e
  rw[e]
  have:=wj1 (n:=m.length) (f:=λi=>aN m l i a*bN m y l i c) (B:=1000000) λi hi=>by
   rw[Int.natAbs_mul]
   have:=Nat.mul_le_mul (h.one i a hi ha) (h.bB i c hi)
   omega
  have h2:m.length*1000000<=6*1000000:=Nat.mul_le_mul_right _ hr6
  omega
 ·have:=hs.gram h.gram hj hi (show c<l.length+1 by omega) (B:=1) (Nat.le_refl _) λi hi=>by
   unfold bN; rw[if_pos hc]; exact h.one i c hi hc
  omega
 ·have:=hs.gram h.gram hj hi hc (B:=1000000) (by decide) λi hi=>h.bB i c hi
  omega
theorem GrOk.nons {m:List (List Int)} {y l:List Int} (h:GrOk m y l) {z:Nat->Int} (hz:Sol l.length (l.length+1) (rowOf (qb9 m y l)) z) (h0:z l.length=0):∀c,c<l.length->z c=0:=by
 obtain⟨u,hu⟩:∃u:Nat->Int,∀i,u i=sm l.length λc=>aN m l i c*z c:=⟨_,λ_=>rfl⟩
 have h1:∀x,x<l.length->(sm m.length λi=>aN m l i x*u i)=0:=λx hx=>by
  have e:=hz x hx
  rw[sm,h0,Int.mul_zero,Int.add_zero] at e
  rw[<- e]
  have e2:(sm l.length λc=>rowOf (qb9 m y l) x c*z c)=sm l.length λc=>sm m.length λi=>(aN m l i x*aN m l i c)*z c:=qc9 λc hc=>by
   rw[qx2 m y l hx (by omega),Int.mul_comm,<- qi5]
   refine qc9 λi hi=>?_
   unfold bN; rw[if_pos hc,Int.mul_comm]
  rw[e2,q4a]
  refine qc9 λi hi=>?_
  rw[hu,<- qi5]
  exact qc9 λc hc=>by rw[Int.mul_assoc]
 have h2:(sm m.length λi=>u i*u i)=0:=by
  have e:(sm m.length λi=>u i*u i)=sm m.length λi=>sm l.length λx=>z x*(aN m l i x*u i):=qc9 λi hi=>by
   have:u i*u i=u i*sm l.length λc=>aN m l i c*z c:=by rw[<- hu]
   rw[this,<- qi5]
   refine qc9 λx _=>?_
   grind
  rw[e,q4a]
  refine sm_zero λx hx=>?_
  rw[qi5,h1 x hx,Int.mul_zero]
 have h3:=xn8 _ h2
 exact h.ind z λi hi=>by
  have:=h3 i hi
  rw[hu] at this
  exact this
theorem GrOk.full {m:List (List Int)} {y l:List Int} (h:GrOk m y l) {rows:List (List Int)} {P:List Int} (hst:St l.length (l.length+1) (rowOf (qb9 m y l)) l.length rows P):P.length=l.length:=by
 rcases Nat.lt_or_ge P.length l.length with q | q
 ·obtain⟨f,hf,hnp⟩:=Asc.free q
  obtain⟨z,z1,z2,z3⟩:=hst.free (by omega) (f:=f) (by omega) hnp λi h1 h2=>hst.zero i h1 h2 f hf
  exact absurd (h.nons z1 (z3 l.length (by omega) (by omega) λq hq=>by have:=(hst.pos q hq).2.1; omega) f hf) z2
 ·have:=hst.pl; omega
theorem GrOk.good {m:List (List Int)} {y l:List Int} (h:GrOk m y l) {rows:List (List Int)} {P:List Int} (hst:St l.length (l.length+1) (rowOf (qb9 m y l)) l.length rows P):Good l.length l.length (rowOf (qb9 m y l)) rows P:=
 ⟨⟨l.length,Nat.le_refl _,by omega,hst⟩,λq hq=>(hst.pos q hq).2.1,λi h1 h2=>absurd h1 (by rw[h.full hst]; omega)⟩
theorem w7m {left:List (List Int)} {j:Nat} {a:Int} (h:Prim (nL left a.toNat)):Prim (qt2 left j a):=by
 unfold qt2
 split
 ·rcases h with h | h
  ·exact .inl λc hc=>by rw[qt3] at hc; rw[q5v,h c hc,Int.zero_mul]
  ·refine .inr λd hd=>h d λc hc=>?_
   have:=hd c (by rw[qt3]; exact hc)
   rw[q5v,Int.natAbs_mul] at this
   simpa using this
 ·exact h
theorem wm6 {n W:Nat} {M:List (List Int)} (h:Mat n W M):∀j,j<=W->∀x∈(qh1 M j).done_,Prim x
 | 0,_,x,hx=>by cases hx
 | j+1,hj,x,hx=>by
  have ih:=wm6 h j (by omega)
  obtain⟨hst,hcnt,hprim⟩:=qt0 h j (by omega)
  rw[qh1,q48] at hx
  split at hx
  ·exact ih x hx
  ·rename_i hne
   have hlt:=(qw7 (qh1 M j).left j (qh1 M j).left.length).1
   rcases List.mem_append.1 hx with hx | hx
   ·obtain⟨r,_,rfl⟩:=List.mem_map.1 hx
    exact qq4 _
   ·rw[List.mem_singleton.1 hx]
    exact w7m (hprim _ (qv0 _ _ (by omega)))
theorem xc7 {a d D:Int} (ha:a∣D) (hd:d∣D):a*d.tdiv (qd7 a d)∣D:=by
 refine Int.natAbs_dvd_natAbs.1 ?_
 have h1:=Nat.lcm_dvd (Int.natAbs_dvd_natAbs.2 ha) (Int.natAbs_dvd_natAbs.2 hd)
 have h2:(a*d.tdiv (qd7 a d)).natAbs=Nat.lcm a.natAbs d.natAbs:=by
  rw[Int.natAbs_mul,Int.natAbs_tdiv,wl5,Nat.lcm,Nat.mul_div_assoc _ (Nat.gcd_dvd_right _ _)]; rfl
 rw[h2]; exact h1
theorem w7n (a b:Int):qd7 a b=qd7 b a:=by unfold qd7; rw[Int.gcd_comm]
structure xp9 (m:List (List Int)) (y l:List Int):Prop where
 len:((qb7 (qb9 m y l)).1).length=l.length
 pos:∀k,k<l.length->0<nI (nL (qa6 (qb9 m y l) l.length).1 k) k
 row:∀k,k<l.length->∀c,c<l.length+1->(nI (nL (qa6 (qb9 m y l) l.length).1 k) c).natAbs<=691200000000
 tms:∀k,k<=l.length->0<qh5 (qa6 (qb9 m y l) l.length).1 l.length k/\qh5 (qa6 (qb9 m y l) l.length).1 l.length k<=691200/\qh5 (qa6 (qb9 m y l) l.length).1 l.length k=q0c (qb7 (qb9 m y l)).1 k
 den:∀k,k<l.length->qx5 (qa6 (qb9 m y l) l.length).1 l.length k=nI (nL (qb7 (qb9 m y l)).1 k) k/\0<qx5 (qa6 (qb9 m y l) l.length).1 l.length k/\qx5 (qa6 (qb9 m y l) l.length).1 l.length k∣qh5 (qa6 (qb9 m y l) l.length).1 l.length l.length
 num:∀k,k<l.length->q7m (qa6 (qb9 m y l) l.length).1 l.length k=nI (nL (qb7 (qb9 m y l)).1 k) l.length/\(q7m (qa6 (qb9 m y l) l.length).1 l.length k).natAbs<=691200000000
 mul:∀k,k<l.length->((qh5 (qa6 (qb9 m y l) l.length).1 l.length l.length).tdiv (qx5 (qa6 (qb9 m y l) l.length).1 l.length k)*q7m (qa6 (qb9 m y l) l.length).1 l.length k).natAbs<=691200000000
 each:∀k,k<l.length->(nL (qb7 (qb9 m y l)).1 k).length=l.length+1
 dvd:qh5 (qa6 (qb9 m y l) l.length).1 l.length l.length∣det l.length (rowOf (qb9 m y l))
 sol:∃z,Sol l.length (l.length+1) (rowOf (qb9 m y l)) z/\z l.length≠0/\∀k,k<l.length->qx5 (qa6 (qb9 m y l) l.length).1 l.length k*z k+q7m (qa6 (qb9 m y l) l.length).1 l.length k*z l.length=0
theorem GrOk.rs {m:List (List Int)} {y l:List Int} (h:GrOk m y l):xp9 m y l:=by
 have hG:=h.gram
 have hs:=h.sml
 have hst:=qp1 (GrOk.mat (m:=m) (y:=y) (l:=l)) l.length (by omega)
 obtain⟨hrs,hcnt,hprim⟩:=qt0 (GrOk.mat (m:=m) (y:=y) (l:=l)) l.length (by omega)
 have hpr:=wm6 (GrOk.mat (m:=m) (y:=y) (l:=l)) l.length (by omega)
 have hP:=h.full hst
 have hP3:=h.full hrs
 have hlen:=hrs.len
 rw[List.length_append] at hlen
 have hleft:(qh1 (qb9 m y l) l.length).left=[]:=List.length_eq_zero_iff.1 (by omega)
 rw[hleft,List.append_nil] at hrs
 have hg:=h.good hst
 have hg3:=h.good hrs
 have hred:(qb7 (qb9 m y l)).1=(qh1 (qb9 m y l) l.length).done_:=by
  unfold qb7
  rcases Nat.eq_zero_or_pos l.length with q | q
  ·have e0:qb9 m y l=[]:=List.length_eq_zero_iff.1 (by rw[q3r]; exact q)
   have e1:rdW (qb9 m y l)=0:=by rw[e0]; rfl
   rw[e1,q]
  ·have e1:rdW (qb9 m y l)=l.length+1:=by unfold rdW; rw[wd1 _ _ _ q,w0y]
   rw[e1,q66 rfl hleft 1]
 rw[show xp9 m y l↔xp9 m y l from Iff.rfl]
 have i1:=λq (hq:q<l.length)=>hg.asc.id hP hq
 have i3:=λq (hq:q<l.length)=>hg3.asc.id hP3 hq
 obtain⟨z,z1,z2⟩:=hg.last
 have hdl:(qh1 (qb9 m y l) l.length).done_.length=l.length:=by omega
 have key:∀k,k<l.length->0<nI (nL (qa6 (qb9 m y l) l.length).1 k) k/\qx5 (qa6 (qb9 m y l) l.length).1 l.length k=nI (nL (qb7 (qb9 m y l)).1 k) k/\0<qx5 (qa6 (qb9 m y l) l.length).1 l.length k/\q7m (qa6 (qb9 m y l) l.length).1 l.length k=nI (nL (qb7 (qb9 m y l)).1 k) l.length/\qd7 (nI (nL (qb7 (qb9 m y l)).1 k) l.length) (nI (nL (qb7 (qb9 m y l)).1 k) k)=1/\nI (nL (qb7 (qb9 m y l)).1 k) k*z k+nI (nL (qb7 (qb9 m y l)).1 k) l.length*z l.length=0:=λk hk=>by
  rw[hred]
  have p1:=(hg.row hP z1 hk).1
  obtain⟨p3,p4⟩:=hg3.row hP3 z1 hk
  have hv:=hg.val hg3 hP hP3 hk
  have hgc:qd7 (nI (nL (qh1 (qb9 m y l) l.length).done_ k) l.length) (nI (nL (qh1 (qb9 m y l) l.length).done_ k) k)=1:=by
   have hp:=hpr _ (qv0 _ k (by omega))
   have h1:=hp.gcd (W:=l.length+1) (f:=k) (hrs.each k hk) (by omega) p3 (Nat.gcd (nI (nL (qh1 (qb9 m y l) l.length).done_ k) l.length).natAbs (nI (nL (qh1 (qb9 m y l) l.length).done_ k) k).natAbs) λc hc=>by
    by_cases q1:c=l.length
    ·rw[q1]; exact Nat.gcd_dvd_left _ _
    ·by_cases q2:c=k
     ·rw[q2]; exact Nat.gcd_dvd_right _ _
     ·have hp2:=(hrs.pos c (by omega)).2.2.2.2 k hk (Ne.symm q2)
      rw[i3 c (by omega),Int.toNat_natCast] at hp2
      rw[hp2]; exact Nat.dvd_zero _
   show((Int.gcd _ _:Nat):Int)=1
   unfold Int.gcd
   rw[h1]; rfl
  have he:=w7a p1 p3 hv
  unfold w8h at he
  rw[hgc,Int.tdiv_one,Int.tdiv_one,w7n] at he
  obtain⟨e1,e2⟩:=Prod.mk.inj he
  refine⟨p1,e2,by rw[show qx5 (qa6 (qb9 m y l) l.length).1 l.length k=_ from e2]; exact p3,e1,hgc,p4⟩
 have dl:∀x b,lfm (rowOf (qb9 m y l)) (λb=>some b) x b=rowOf (qb9 m y l) x b:=λx b=>rfl
 have hsym:∀x c,x<l.length->c<l.length->rowOf (qb9 m y l) x c=rowOf (qb9 m y l) c x:=λx c hx hc=>by
  rw[qx2 m y l hx (by omega),qx2 m y l hc (by omega)]
  refine qc9 λi _=>?_
  unfold bN; rw[if_pos hx,if_pos hc,Int.mul_comm]
 obtain⟨D,hD⟩:∃D,D=det l.length (rowOf (qb9 m y l)):=⟨_,rfl⟩
 have hD0:D≠0:=by
  rw[hD]
  refine wt0 λlam hl i hi=>?_
  have:=h.nons (z:=λc=>if c<l.length then lam c else 0) (λa ha=>?_) (if_neg (Nat.lt_irrefl _)) i hi
  ·(try dsimp only at this); rw[if_pos hi] at this; exact this
  ·rw[sm]
   refine Eq.trans ?_ (hl a ha)
   try dsimp only
   rw[if_neg (Nat.lt_irrefl _),Int.mul_zero,Int.add_zero]
   refine qc9 λc hc=>?_
   rw[if_pos hc,hsym a c ha hc,Int.mul_comm]
 have hcr:∀k,k<l.length->z l.length*det l.length (qu0 (rowOf (qb9 m y l)) k λx=>rowOf (qb9 m y l) x l.length)=- z k*D:=λk hk=>by
  have e1:=q5x (rowOf (qb9 m y l)) hk (λc=>- z c) (λc x=>rowOf (qb9 m y l) x c) l.length
  rw[qp5 hk λc hc hne=>by
   have:det l.length (qu0 (rowOf (qb9 m y l)) k λx=>rowOf (qb9 m y l) x c)=0:=ws9 hk hc (Ne.symm hne) λi hi=>by
    unfold qu0; rw[if_pos rfl,if_neg hne]
   (try dsimp only); rw[this,Int.mul_zero]] at e1
  have e2:det l.length (qu0 (rowOf (qb9 m y l)) k λx=>rowOf (qb9 m y l) x k)=D:=by
   rw[hD]
   refine qf7 _ λi j hi hj=>?_
   unfold qu0; split
   ·rename_i q; rw[q]
   ·rfl
  rw[e2] at e1
  rw[<- e1]
  have e3:=q5w l.length (rowOf (qb9 m y l)) k hk (z l.length) 0 (λx=>rowOf (qb9 m y l) x l.length) (λ_=>0)
  rw[Int.zero_mul (det _ _),Int.add_zero] at e3
  rw[<- e3]
  refine qf7 _ λi j hi hj=>?_
  unfold qu0; split
  ·have:=z1 i hi
   rw[sm] at this
   have e4:(sm l.length λc=>- z c*rowOf (qb9 m y l) i c)=- sm l.length λc=>rowOf (qb9 m y l) i c*z c:=by
    have:=qi5 l.length (-1) λc=>rowOf (qb9 m y l) i c*z c
    rw[show(-1:Int)*sm l.length (λc=>rowOf (qb9 m y l) i c*z c)=- sm l.length λc=>rowOf (qb9 m y l) i c*z c by omega] at this
    rw[<- this]
    exact qc9 λc _=>by grind
   try dsimp only
   rw[e4,Int.zero_mul,Int.add_zero,Int.mul_comm]
   omega
  ·rfl
 have hAD:∀k,k<l.length->nI (nL (qb7 (qb9 m y l)).1 k) k*det l.length (qu0 (rowOf (qb9 m y l)) k λx=>rowOf (qb9 m y l) x l.length)=nI (nL (qb7 (qb9 m y l)).1 k) l.length*D:=λk hk=>by
  obtain⟨_,_,_,_,_,hz⟩:=key k hk
  have hc:=hcr k hk
  generalize det l.length (qu0 (rowOf (qb9 m y l)) k λx=>rowOf (qb9 m y l) x l.length)=Dk at hc ⊢
  generalize nI (nL (qb7 (qb9 m y l)).1 k) k=A at hz ⊢
  generalize nI (nL (qb7 (qb9 m y l)).1 k) l.length=C at hz ⊢
  have:z l.length*(A*Dk-C*D)=0:=by grind
  have:=qd1 this z2
  omega
 have hdv:∀k,k<l.length->nI (nL (qb7 (qb9 m y l)).1 k) k∣D:=λk hk=>by
  obtain⟨_,_,_,_,hgc,_⟩:=key k hk
  have h1:nI (nL (qb7 (qb9 m y l)).1 k) k∣nI (nL (qb7 (qb9 m y l)).1 k) l.length*D:=⟨_,(hAD k hk).symm⟩
  have h2:Nat.Coprime (nI (nL (qb7 (qb9 m y l)).1 k) k).natAbs (nI (nL (qb7 (qb9 m y l)).1 k) l.length).natAbs:=by
   have:((Int.gcd (nI (nL (qb7 (qb9 m y l)).1 k) l.length) (nI (nL (qb7 (qb9 m y l)).1 k) k):Nat):Int)=1:=hgc
   rw[Int.gcd_comm] at this
   exact Int.ofNat.inj this
  have h3:=Int.natAbs_dvd_natAbs.2 h1
  rw[Int.natAbs_mul] at h3
  exact Int.natAbs_dvd_natAbs.1 (h2.dvd_of_dvd_mul_left h3)
 have hall:∀k,k<=l.length->0<qh5 (qa6 (qb9 m y l) l.length).1 l.length k/\qh5 (qa6 (qb9 m y l) l.length).1 l.length k=q0c (qb7 (qb9 m y l)).1 k/\qh5 (qa6 (qb9 m y l) l.length).1 l.length k∣D/\∀q,q<k->qx5 (qa6 (qb9 m y l) l.length).1 l.length q∣qh5 (qa6 (qb9 m y l) l.length).1 l.length k:=λk=>by
  induction k with
  | zero=>exact λ_=>⟨by show(0:Int)<1; decide,rfl,Int.one_dvd _,λq hq=>absurd hq (Nat.not_lt_zero _)⟩
  | succ k ih=>
   intro hk
   obtain⟨a1,a2,a3,a4⟩:=ih (by omega)
   obtain⟨_,k1,k2,_⟩:=key k (by omega)
   have hdk:=hdv k (by omega)
   rw[<- k1] at hdk
   obtain⟨d1,d2,d3,_,d5⟩:=w7k a1 k2
   rw[qh5,q0c,<- a2,<- k1,d5]
   refine⟨d1,rfl,xc7 a3 hdk,λq hq=>?_⟩
   rcases Nat.lt_succ_iff_lt_or_eq.1 hq with e | e
   ·exact Int.dvd_trans (a4 q e) d2
   ·rw[e]; exact d3
 have hDb:l.length≠0->D.natAbs<=691200:=λhn=>by
  have:=hG.detB (pv:=λb=>some b) (t:=0) (c:=0) (B:=1) (λt p ht hp=>by obtain rfl:=Option.some.inj hp; omega) (λt p ht hp=>by obtain rfl:=Option.some.inj hp; exact ht) (by omega) (by omega) (Nat.le_refl _) λi hi=>by
   unfold bN; rw[if_pos (by omega)]; exact h.one i 0 hi (by omega)
  have e2:det l.length (qu0 (lfm (rowOf (qb9 m y l)) λb=>some b) 0 λx=>rowOf (qb9 m y l) x 0)=D:=by
   rw[hD]
   refine qf7 _ λi j hi hj=>?_
   unfold qu0; split
   ·rename_i q; rw[q]
   ·rfl
  rw[e2] at this
  omega
 have hDkb:∀k,k<l.length->(det l.length (qu0 (rowOf (qb9 m y l)) k λx=>rowOf (qb9 m y l) x l.length)).natAbs<=691200000000:=λk hk=>by
  have:=hG.detB (pv:=λb=>some b) (t:=k) (c:=l.length) (B:=1000000) (λt p ht hp=>by obtain rfl:=Option.some.inj hp; omega) (λt p ht hp=>by obtain rfl:=Option.some.inj hp; exact ht) hk (by omega) (by decide) λi hi=>h.bB i _ hi
  have e2:det l.length (qu0 (lfm (rowOf (qb9 m y l)) λb=>some b) k λx=>rowOf (qb9 m y l) x l.length)=det l.length (qu0 (rowOf (qb9 m y l)) k λx=>rowOf (qb9 m y l) x l.length):=rfl
  rw[e2] at this
  omega
 have hT:∀k,k<=l.length->qh5 (qa6 (qb9 m y l) l.length).1 l.length k<=691200:=λk hk=>by
  obtain⟨a1,a2,a3,a4⟩:=hall k hk
  rcases Nat.eq_zero_or_pos l.length with q | q
  ·rw[show k=0 by omega]; show(1:Int)<=_; decide
  ·have:=hDb (by omega)
   have h2:=Nat.le_of_dvd (by omega) (Int.natAbs_dvd_natAbs.2 a3)
   omega
 have hmul:∀k,k<l.length->((qh5 (qa6 (qb9 m y l) l.length).1 l.length l.length).tdiv (qx5 (qa6 (qb9 m y l) l.length).1 l.length k)*q7m (qa6 (qb9 m y l) l.length).1 l.length k).natAbs<=691200000000/\(q7m (qa6 (qb9 m y l) l.length).1 l.length k).natAbs<=691200000000:=λk hk=>by
  obtain⟨_,k1,k2,k3,_⟩:=key k hk
  obtain⟨a1,a2,⟨e,he⟩,a4⟩:=hall l.length (Nat.le_refl _)
  obtain⟨t,ht⟩:=a4 k hk
  have hb:=hDkb k hk
  have hA:=hAD k hk
  rw[<- k1,<- k3] at hA
  generalize qx5 (qa6 (qb9 m y l) l.length).1 l.length k=A at k2 hA ht ⊢
  generalize q7m (qa6 (qb9 m y l) l.length).1 l.length k=C at hA ⊢
  generalize det l.length (qu0 (rowOf (qb9 m y l)) k λx=>rowOf (qb9 m y l) x l.length)=Dk at hb hA
  generalize qh5 (qa6 (qb9 m y l) l.length).1 l.length l.length=T at a1 he ht ⊢
  have ht0:0<t:=q41 k2 (by omega)
  have e1:T.tdiv A=t:=by rw[ht]; exact Int.mul_tdiv_cancel_left _ (by omega)
  have e2:A*(Dk-(t*C)*e)=0:=by rw[he,ht] at hA; grind
  have e3:=qd1 e2 (by omega)
  have he0:e≠0:=λq=>hD0 (by rw[he,q,Int.mul_zero])
  have e4:Dk.natAbs=(t*C).natAbs*e.natAbs:=by rw[<- Int.natAbs_mul,show Dk=t*C*e by omega]
  have e5:(t*C).natAbs<=Dk.natAbs:=by rw[e4]; exact Nat.le_mul_of_pos_right _ (by omega)
  rw[e1]
  refine⟨by omega,?_⟩
  have e6:C.natAbs<=(t*C).natAbs:=by rw[Int.natAbs_mul]; exact Nat.le_mul_of_pos_left _ (by omega)
  omega
 refine⟨by rw[hred]; exact hdl,λk hk=>(key k hk).1,λk hk c hc=>?_,λk hk=>⟨(hall k hk).1,hT k hk,(hall k hk).2.1⟩,λk hk=>⟨(key k hk).2.1,(key k hk).2.2.1,(hall _ (Nat.le_refl _)).2.2.2 k hk⟩,λk hk=>⟨(key k hk).2.2.2.1,(hmul k hk).2⟩,λk hk=>(hmul k hk).1,λk hk=>by rw[hred]; exact hrs.each k hk,by rw[<- hD]; exact(hall _ (Nat.le_refl _)).2.2.1,z,z1,z2,λk hk=>?_⟩
 ·exact(hs.small _ _ _ (Nat.le_refl _) hst k hk).2 c hc
 ·obtain⟨_,k1,_,k3,_,k5⟩:=key k hk
  rw[k1,k3]; exact k5
end Go.Proofs.YtmijnbjlhnpokaaGreat
