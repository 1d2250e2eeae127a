/- The circuits of the program and of the reference are the same lists. Plain mathematics. No condition. -/
import Derived.Test.YtdibdlelmkcccaaGreatW15
set_option linter.unusedVariables false
namespace Go.Proofs.YtdibdlelmkcccaaGreat
open Go Go.RowKit Eng
theorem qk4 {m:List (List Int)} {s:List Int} (hM:Mk m) (hs:Named (nL m 0).length s) (h1:0<s.length):Ones m.length s.length (qj1 m s):=by
 have hl:=hs.len
 have h10:=hM.pix10
 refine⟨⟨q6x m s,λi hi=>by rw[qs8 m s i hi,qk8]⟩,hM.rows1,hM.rows6,h1,by omega,λa c ha hc=>?_⟩
 rw[qs8 m s a ha,qv2 _ _ _ hc]
 have:=hs.at_ c hc
 have:=hM.small a ha (nI s c).toNat (by omega)
 omega
theorem qt3 (m:List (List Int)) (s:List Int):qu1 m s=qj1 m s:=by
 unfold qu1 qb3 qj1
 simp
theorem w8u {m:List (List Int)} {s:List Int} (hM:Mk m) (hs:Named (nL m 0).length s) (h1:0<s.length):qk9 m s=qh5 m s:=by
 unfold qk9 qi6 qh5
 rw[qt3]
 exact(qk4 hM hs h1).kernel
theorem q1g {n k:Nat} {s:List Int} (h:s∈qe6 (n:Nat) (k:Nat)):Named n s/\s.length=k:=by
 have hl:=(q7g h).1
 unfold qe6 at h
 split at h
 ·have hc:=wc7 h
  have he:=hc.len
  simp only[Int.toNat_natCast] at hc he
  have step:∀d i,i+d+1<k->nI s i<nI s (i+d+1):=λd=>by
   induction d with
   | zero=>intro i hi; have:=hc.asc (i+1) (by omega) (by omega); simpa using this
   | succ d ih=>
    intro i hi
    have h1:=ih i (by omega)
    have h2:=hc.asc (i+(d+1)+1) (by omega) (by omega)
    rw[show i+(d+1)+1-1=i+d+1 by omega] at h2
    omega
  refine⟨⟨λj hj=>?_,λi j hij hj=>?_⟩,hl⟩
  ·have h1:=hc.lo j (by omega)
   have h2:=hc.hi j (by omega)
   omega
  ·have:=step (j-i-1) i (by omega)
   rwa [show i+(j-i-1)+1=j by omega] at this
 ·cases h
theorem q7r:∀(m k:Nat) (a:Int) (l:List Int),l.length=k->(∀i,i<k->a<=nI l i/\nI l i<a+m)->(∀i j,i<j->j<k->nI l i<nI l j)->l∈qo8 m k a
 | m,0,a,l,hl,_,_=>by
  have:l=[]:=List.eq_nil_of_length_eq_zero hl
  rw[w3u,this]; simp
 | 0,k+1,a,l,hl,hb,_=>by
  have:=hb 0 (by omega)
  omega
 | m+1,k+1,a,l,hl,hb,ha=>by
  match l,hl with
  | x :: t,hl=>
  have hl:t.length=k:=by simpa using hl
  rw[qo8,List.mem_append,List.mem_map]
  by_cases e:x=a
  ·refine .inl ⟨t,q7r m k (a+1) t hl (λi hi=>?_) (λi j hij hj=>ha (i+1) (j+1) (by omega) (by omega)),by rw[e]⟩
   have h1:=hb (i+1) (by omega)
   have h2:=ha 0 (i+1) (by omega) (by omega)
   rw[qr7] at h1
   rw[qu0,qr7] at h2
   omega
  ·refine .inr (q7r m (k+1) (a+1) (x :: t) (by simp[hl]) (λi hi=>?_) ha)
   have h0:=hb 0 (by omega)
   rw[qu0] at h0
   have h1:=hb i hi
   rcases Nat.eq_zero_or_pos i with q | q
   ·rw[q,qu0]; omega
   ·have h2:=ha 0 i q hi
    rw[qu0] at h2
    omega
theorem w8v {n:Nat} {s:List Int} (h:Named n s):s∈qe6 (n:Nat) (s.length:Nat):=by
 have hl:=h.len
 unfold qe6
 rw[if_pos (by omega)]
 refine q7r _ _ _ _ (by rw[Int.toNat_natCast]) (λi hi=>?_) λi j hij hj=>h.asc i j hij (by simpa using hj)
 rw[Int.toNat_natCast] at hi
 have:=h.at_ i hi
 rw[Int.toNat_natCast]
 omega
theorem ww4 {n:Nat} (h7:n<=7) {s:List Int} (h:s∈qd7 n):Named n s:=by
 rw[wv5 h7,List.mem_flatMap] at h
 obtain⟨k,_,hk⟩:=h
 exact(q1g hk).1
theorem x5z {m:List (List Int)} (hv:validB m=true):wn7 m:=by
 have hM:=Mk.of hv
 have h1:=hM.pix1
 have h10:=hM.pix10
 refine⟨⟨?_⟩,λk hk set hset=>?_⟩
 ·have:=(qk4 hM (Named.idx _) (by rw[qk0]; exact h1)).redOk
  rw[qk0] at this
  rw[qt3]
  exact this
 ·obtain⟨hn,hl⟩:=q1g hset
  have hO:=qk4 hM hn (by omega)
  refine⟨ChoOk.of hM hn λ_ _=>⟨trivial,Nat.zero_le _⟩,by rw[qt3]; exact hO.redOk,?_⟩
  unfold qi6
  rw[qt3]
  exact hO.kerAr
theorem x50 {m:List (List Int)} (hf:q77 m) (hl:ql0 m=true):wn9 m:=by
 refine⟨hf,λhv=>?_⟩
 have hM:=Mk.of hv
 have h7:=q5j hl hM
 have h6:=hM.rows6
 refine⟨h7,λs hs hok=>?_⟩
 unfold qy9 at hok
 rw[Bool.and_eq_true,decide_eq_true_eq,decide_eq_true_eq] at hok
 have hn:=ww4 h7 hs
 have hnl:=hn.len
 have hO:=qk4 hM hn (by omega)
 refine⟨hO.krOk,by omega,by omega,λi hi j hj=>?_⟩
 have:=hn.at_ j hj
 rw[hM.each i hi]
 omega
theorem q7s {n:Nat} {s v:List Int} (hs:Named n s):∀k,k<=s.length->∀j,j<k->nI (qd2 n s v k) (nI s j).toNat=nI v j
 | 0,_,j,hj=>absurd hj (Nat.not_lt_zero _)
 | k+1,hk,j,hj=>by
  have h1:=hs.at_ k (by omega)
  have h2:=hs.at_ j (by omega)
  rw[qd2,q7i _ (by rw[qj2]; omega)]
  rcases Nat.lt_succ_iff_lt_or_eq.1 hj with e | e
  ·have:=hs.asc j k e (by omega)
   rw[if_neg (by omega)]
   exact q7s hs k (by omega) j e
  ·rw[if_pos (by rw[e]),e]
theorem we9 {n:Nat} {s v:List Int} (hs:Named n s) {c:Nat} (hc:∀j,j<s.length->nI s j≠(c:Int)):∀k,k<=s.length->nI (qd2 n s v k) c=0
 | 0,_=>xm5 n c
 | k+1,hk=>by
  have h1:=hs.at_ k (by omega)
  have h2:=hc k (by omega)
  rw[qd2,q7i _ (by rw[qj2]; omega),if_neg (by omega)]
  exact we9 hs hc k (by omega)
theorem q7t {v:List Int}:∀k,k<=v.length->(qo9 v k=true↔∀c,c<k->nI v c≠0)
 | 0,_=>⟨λ_ c hc=>absurd hc (Nat.not_lt_zero _),λ_=>rfl⟩
 | k+1,hk=>by
  rw[qo9,Bool.and_eq_true,q7t k (by omega),bne_iff_ne]
  constructor
  ·rintro⟨h1,h2⟩ c hc
   rcases Nat.lt_succ_iff_lt_or_eq.1 hc with e | e
   ·exact h1 c e
   ·rw[e]; exact h2
  ·exact λh=>⟨λc hc=>h c (by omega),h k (by omega)⟩
theorem xh8 {v:List Int}:(v.any λe=>(0:Int)==e)=false↔∀c,c<v.length->nI v c≠0:=by
 rw[List.any_eq_false]
 constructor
 ·intro h c hc e
  have:=h _ (q7b hc)
  rw[e] at this
  exact this rfl
 ·intro h x hx q
  obtain⟨c,hc,rfl⟩:=q7c hx
  exact h c hc (beq_iff_eq.1 q).symm
structure IsC (m:List (List Int)) (s:List Int):Prop where
 one:(qh5 m s).length=1
 nz:∀c,c<s.length->nI (nL (qh5 m s) 0) c≠0
theorem qx0 {m:List (List Int)} {s:List Int} (hM:Mk m) (hs:Named (nL m 0).length s) (hok:qy9 m s=true):qs2 m s=true↔IsC m s:=by
 have h1:0<s.length:=by
  unfold qy9 at hok
  rw[Bool.and_eq_true,decide_eq_true_eq] at hok
  omega
 have hO:=qk4 hM hs h1
 unfold qs2
 rw[hok,Bool.true_and,Bool.and_eq_true,decide_eq_true_eq]
 constructor
 ·rintro⟨a,b⟩
  have hl:=(hO.ker_small (qn8 (qg6 (qj1 m s)) 0 (by show 0<(qh5 m s).length; omega))).1
  exact⟨a,(q7t _ (by show s.length<=(nL (qg6 (qj1 m s)) 0).length; omega)).1 b⟩
 ·intro h
  have hl:=(hO.ker_small (qn8 (qg6 (qj1 m s)) 0 (by have:=h.one; show 0<(qh5 m s).length; omega))).1
  exact⟨h.one,(q7t _ (by show s.length<=(nL (qg6 (qj1 m s)) 0).length; omega)).2 h.nz⟩
theorem wp1 {m:List (List Int)} {s:List Int} (hM:Mk m) (hs:Named (nL m 0).length s) (h1:0<s.length):q79 (qk9 m s)=true↔IsC m s:=by
 have hO:=qk4 hM hs h1
 rw[w8u hM hs h1]
 unfold q79
 rw[Bool.and_eq_true,decide_eq_true_eq,Bool.not_eq_true',xh8]
 constructor
 ·rintro⟨a,b⟩
  have hl:=(hO.ker_small (qn8 (qg6 (qj1 m s)) 0 (by show 0<(qh5 m s).length; omega))).1
  exact⟨a,λc hc=>b c (by show c<(nL (qg6 (qj1 m s)) 0).length; omega)⟩
 ·intro h
  have hl:=(hO.ker_small (qn8 (qg6 (qj1 m s)) 0 (by have:=h.one; show 0<(qh5 m s).length; omega))).1
  exact⟨h.one,λc hc=>h.nz c (by have:c<(nL (qg6 (qj1 m s)) 0).length:=hc; omega)⟩
theorem xv6 {l:List Int} (h:∀d:Nat,(∀c,c<l.length->d∣(nI l c).natAbs)->d=1):qd9 l=l:=by
 have h1:(gcdL l).natAbs=1:=h _ λc hc=>(x1s l 0).2.1 _ (q7b hc)
 unfold qd9
 rw[if_neg (by omega)]
theorem w8w (l:List Int):xd6 l=qj0 l (-1):=by
 refine List.ext_getElem (by rw[q5e,qt1]) λi h1 h2=>?_
 rw[<- qh7 _ i h1,<- qh7 _ i h2,q9f,q5l]
 omega
theorem xv7 {m:List (List Int)} {s:List Int} (hM:Mk m) (hs:Named (nL m 0).length s) (h1:0<s.length) (hc:IsC m s):x2y m (nL m 0).length s=q66 m (nL m 0).length s:=by
 have hO:=qk4 hM hs h1
 obtain⟨f,hf,hnp,ho,hv,hp⟩:=hO.one_free hc.one
 have hnz:=hc.nz
 unfold x2y q66 q19
 rw[w8u hM hs h1]
 change KV _ _ _ _ _ (nL (qh5 m s) 0) at hv
 change Prim (nL (qh5 m s) 0) at hp
 generalize nL (qh5 m s) 0=v at *
 have hat:=λj (hj:j<s.length)=>q7s (v:=v) hs _ (Nat.le_refl _) j hj
 have ho2:∀c:Nat,(∀j,j<s.length->nI s j≠(c:Int))->nI (qd2 (nL m 0).length s v s.length) c=0:=λc hc=>we9 hs hc _ (Nat.le_refl _)
 have hlen:=qj2 (nL m 0).length s v s.length
 generalize qd2 (nL m 0).length s v s.length=u at *
 have hsh:qd9 u=u:=xv6 λd hd=>hp.gcd hv.len hf hv.pos d λc hc=>by
  have h2:=hs.at_ c hc
  rw[<- hat c hc]
  exact hd _ (by omega)
 have h0:=hs.at_ 0 h1
 have hfst:qv8 u=nI s 0:=by
  have:=wl5 (.int .i64) (λe=>e != 0) u (nI s 0).toNat (by omega) (λi hi=>by
   have:nI u i=0:=ho2 i λj hj e=>by
    rcases Nat.eq_zero_or_pos j with q | q
    ·rw[q] at e; omega
    ·have:=hs.asc 0 j q hj
     omega
   show(nI u i != 0)=false
   rw[this]; rfl) (by
   show(nI u (nI s 0).toNat != 0)=true
   rw[hat 0 h1]
   exact bne_iff_ne.2 (hnz 0 h1))
  unfold qv8
  rw[this]
  omega
 unfold q6v
 rw[hsh,hfst]
 by_cases q:nI u (nI s 0).toNat<0
 ·rw[if_pos ⟨h0.1,q⟩,if_pos q,w8w]
 ·rw[if_neg λk=>q k.2,if_neg q]
theorem w14 {N K:Nat} {A:Nat->Int} {σ:Nat->Nat} {w:Nat->Int} (hσ:∀q,q<K->σ q<N):(sm N λcol=>A col*sm K λq=>if σ q=col then w q else 0)=sm K λq=>A (σ q)*w q:=by
 have e:(sm N λcol=>A col*sm K λq=>if σ q=col then w q else 0)=sm N λcol=>sm K λq=>A col*if σ q=col then w q else 0:=qf5 λc hc=>by
  try dsimp only
  rw[qp2]
 rw[e,wv4]
 refine qf5 λq hq=>?_
 try dsimp only
 rw[qs3 (k:=σ q) (hσ q hq) λi hi hne=>by
  try dsimp only
  rw[if_neg (Ne.symm hne),Int.mul_zero]]
 try dsimp only
 rw[if_pos rfl]
theorem xh9 {m:List (List Int)} {s:List Int} (hM:Mk m) (hs:Named (nL m 0).length s) (h1:0<s.length):(qg0 (qj1 m s) s.length).piv.length<=(qi6 m (q0l (nL m 0).length)).2.length:=Nat.le_of_not_lt λhgt=>by
 have hO:=qk4 hM hs h1
 have hF:=(qk4 hM (Named.idx (nL m 0).length) (by rw[qk0]; exact hM.pix1))
 have hstF:=hF.stP
 unfold qi6 at hgt
 rw[qt3] at hgt
 have hst:=hO.stR
 rw[qk0] at hstF hgt
 generalize qc7 (qj1 m (q0l (nL m 0).length)) (nL m 0).length=F at hstF hgt
 obtain⟨rF,PF⟩:=F
 dsimp only at hstF hgt
 generalize(qg0 (qj1 m s) s.length).piv=P at hst hgt
 generalize(qg0 (qj1 m s) s.length).done_++(qg0 (qj1 m s) s.length).left=rows at hst
 have hpl:=hst.pl
 have hplF:=hstF.pl
 have hPs:∀q,q<P.length->(nI P q).toNat<s.length:=λq hq=>by have:=hst.pos q hq; omega
 have hσ:∀q,q<P.length->(nI s (nI P q).toNat).toNat<(nL m 0).length:=λq hq=>by have:=hs.at_ _ (hPs q hq); omega
 obtain⟨w,w1,q0,hq0,w2⟩:=ww1 (n:=PF.length) (W:=P.length) (λk q=>nI (nL rF k) (nI s (nI P q).toNat).toNat) hgt
 have hF2:Sol m.length (nL m 0).length (rowOf (qj1 m (q0l (nL m 0).length))) λcol=>sm P.length λq=>if(nI s (nI P q).toNat).toNat=col then w q else 0:=(hstF.sol _).2 λi hi=>by
  rcases Nat.lt_or_ge i PF.length with q | q
  ·unfold dt
   rw[w14 hσ]
   exact w1 i q
  ·refine qr9 λc hc=>?_
   try dsimp only
   rw[hstF.zero i q hi c hc,Int.zero_mul]
 have hsub:Sol m.length s.length (rowOf (qj1 m s)) λc=>sm P.length λq=>if(nI P q).toNat=c then w q else 0:=λa ha=>by
  rw[w14 hPs]
  have e1:=hF2 a ha
  rw[w14 hσ] at e1
  rw[<- e1]
  refine qf5 λq hq=>?_
  have h2:=hs.at_ _ (hPs q hq)
  unfold rowOf
  rw[qs8 m s a ha,qs8 m _ a ha,qv2 _ _ _ (hPs q hq),qv2 _ _ _ (by rw[qk0]; exact hσ q hq),q6o _ _ (hσ q hq),Int.toNat_natCast]
 have e:=(hst.sol _).1 hsub q0 (by omega)
 unfold dt at e
 rw[w14 hPs,qs3 (k:=q0) hq0 λi hi hne=>by
  try dsimp only
  rw[(hst.pos i hi).2.2.2.2 q0 (by omega) (Ne.symm hne),Int.zero_mul]] at e
 exact w2 (qd0 e (by have:=(hst.pos q0 hq0).2.2.1; omega))
theorem w15 {m:List (List Int)} {s:List Int} (hM:Mk m) (hs:Named (nL m 0).length s) (h1:0<s.length) (hc:IsC m s):s.length<=(qi6 m (q0l (nL m 0).length)).2.length+1:=by
 have hO:=qk4 hM hs h1
 have hr:=xh9 hM hs h1
 obtain⟨f,hf,hnp,ho,_,_⟩:=hO.one_free hc.one
 generalize(qg0 (qj1 m s) s.length).piv=P at *
 refine Nat.le_of_not_lt λhgt=>?_
 have hx:∀a,∃q,a<s.length-1->q<P.length/\nI P q=(skp f a:Int):=λa=>by
  by_cases ha:a<s.length-1
  ·obtain⟨q,hq,e⟩:=ho (skp f a) (by have:=q7j (n:=s.length-1) (i:=f) ha; omega) (xm2 f a)
   exact⟨q,λ_=>⟨hq,e⟩⟩
  ·exact⟨0,λq=>absurd q ha⟩
 obtain⟨g,hg⟩:=Classical.axiomOfChoice hx
 obtain⟨i,j,k1,k2,k3⟩:=q69 P.length (s.length-1) g (λi hi=>(hg i hi).1) (by omega)
 have e1:=(hg i (by omega)).2
 have e2:=(hg j k2).2
 rw[k3] at e1
 have:skp f i=skp f j:=by omega
 unfold skp at this
 split at this <;> split at this <;> omega
def xy1 (m:List (List Int)) (s:List Int):Option (List Int):=if q79 (qk9 m s) then some (x2y m (nL m 0).length s) else none
def q8a (m:List (List Int)) (s:List Int):Option (List Int):=if qs2 m s then some (q66 m (nL m 0).length s) else none
theorem wp2 (m:List (List Int)) (L:List (List Int)):∀c,c<=L.length->qr3 m (nL m 0).length L c=(L.take c).filterMap (xy1 m)
 | 0,_=>rfl
 | c+1,hc=>by
  rw[qr3,takeL_snoc L c (by omega),List.filterMap_append,wp2 m L c (by omega)]
  unfold xy1
  by_cases q:q79 (qk9 m (nL L c))=true
  ·rw[if_pos q]
   simp[List.filterMap,q]
  ·rw[if_neg q]
   have q:q79 (qk9 m (nL L c))=false:=by simpa using q
   simp[List.filterMap,q]
theorem q9k (m:List (List Int)) (L:List (List Int)):∀c,c<=L.length->qg9 m (nL m 0).length L c=(L.take c).filterMap (q8a m)
 | 0,_=>rfl
 | c+1,hc=>by
  rw[qg9,takeL_snoc L c (by omega),List.filterMap_append,q9k m L c (by omega)]
  unfold q8a
  by_cases q:qs2 m (nL L c)=true
  ·rw[if_pos q]
   simp[List.filterMap,q]
  ·rw[if_neg q]
   have q:qs2 m (nL L c)=false:=by simpa using q
   simp[List.filterMap,q]
def wp3 (m:List (List Int)) (k:Nat):List (List Int):=(qe6 (nL m 0).length (k:Nat)).filterMap (q8a m)
theorem w17 (m:List (List Int)):∀K,q2c m (nL m 0).length K=(List.range K).flatMap λ(k:Nat)=>(qe6 (nL m 0).length (k+1:Nat)).filterMap (xy1 m)
 | 0=>rfl
 | K+1=>by
  rw[q2c,w17 m K,List.range_succ,List.flatMap_append,wp2 m _ _ (Nat.le_refl _),List.take_length]
  simp
theorem xv8 {m:List (List Int)} {s:List Int} (hM:Mk m) (hs:Named (nL m 0).length s) (h1:0<s.length) (hr:s.length<=m.length+1):xy1 m s=q8a m s:=by
 have hok:qy9 m s=true:=by
  unfold qy9
  rw[Bool.and_eq_true,decide_eq_true_eq,decide_eq_true_eq]
  omega
 unfold xy1 q8a
 by_cases q:IsC m s
 ·rw[if_pos ((wp1 hM hs h1).2 q),if_pos ((qx0 hM hs hok).2 q),xv7 hM hs h1 q]
 ·rw[if_neg λk=>q ((wp1 hM hs h1).1 k),if_neg λk=>q ((qx0 hM hs hok).1 k)]
theorem w8x {m:List (List Int)} (hM:Mk m):(qi6 m (q0l (nL m 0).length)).2.length<=m.length:=by
 have hF:=(qk4 hM (Named.idx (nL m 0).length) (by rw[qk0]; exact hM.pix1))
 have:=hF.stP.pl
 unfold qi6
 rw[qt3]
 exact this
theorem w8y {m:List (List Int)} (hM:Mk m) {k:Nat} (hk:q5i m<=k) (hn:k<(nL m 0).length):wp3 m (k+1)=[]:=by
 unfold wp3
 rw[List.filterMap_eq_nil_iff]
 intro s hs
 obtain⟨hN,hl⟩:=q1g hs
 unfold q8a
 rw[if_neg]
 intro q
 have hok:qy9 m s=true:=by
  unfold qs2 at q
  rw[Bool.and_eq_true,Bool.and_eq_true] at q
  exact q.1.1
 have:=w15 hM hN (by omega) ((qx0 hM hN hok).1 q)
 unfold q5i at hk
 omega
theorem xi0 {m:List (List Int)} (h7:(nL m 0).length<=7):qg9 m (nL m 0).length (qd7 (nL m 0).length) (qd7 (nL m 0).length).length=(List.range (nL m 0).length).flatMap λk=>wp3 m (k+1):=by
 rw[q9k m _ _ (Nat.le_refl _),List.take_length,wv5 h7,List.filterMap_flatMap,List.range_succ_eq_map,List.flatMap_cons]
 have e0:(qe6 ((nL m 0).length:Nat) (0:Nat)).filterMap (q8a m)=[]:=by
  rw[List.filterMap_eq_nil_iff]
  intro s hs
  have hl:=(q1g hs).2
  unfold q8a qs2 qy9
  rw[hl]
  rfl
 refine(congrArg (λl=>l++_) e0).trans ?_
 rw[List.flatMap_map]
 rfl
theorem wp4 {f:Nat->List (List Int)} {K:Nat}:∀d,(∀k,K<=k->k<K+d->f k=[])->(List.range (K+d)).flatMap f=(List.range K).flatMap f
 | 0,_=>rfl
 | d+1,h=>by
  rw[<- Nat.add_assoc,List.range_succ,List.flatMap_append,wp4 d λk h1 h2=>h k h1 (by omega)]
  simp[h (K+d) (by omega) (by omega)]
theorem w18 {f g:List Int->Option (List Int)}:∀l:List (List Int),(∀x∈l,f x=g x)->l.filterMap f=l.filterMap g
 | [],_=>rfl
 | x :: l,h=>by rw[List.filterMap_cons,List.filterMap_cons,h x (by simp),w18 l λy hy=>h y (by simp[hy])]
theorem w19 {m:List (List Int)} (hv:validB m=true) (h7:(nL m 0).length<=7):q2c m (nL m 0).length (q5i m)=(List.range (nL m 0).length).flatMap λk=>wp3 m (k+1):=by
 have hM:=Mk.of hv
 have hcn:q5i m<=(nL m 0).length:=by unfold q5i; omega
 have e:=wp4 (f:=λk=>wp3 m (k+1)) (K:=q5i m) ((nL m 0).length-q5i m) λk h1 h2=>w8y hM h1 (by omega)
 rw[show q5i m+((nL m 0).length-q5i m)=(nL m 0).length by omega] at e
 rw[e,w17]
 have hr:=w8x hM
 have key:∀K,K<=q5i m->((List.range K).flatMap λ(k:Nat)=>(qe6 (nL m 0).length (k+1:Nat)).filterMap (xy1 m))=(List.range K).flatMap λk=>wp3 m (k+1):=λK=>by
  induction K with
  | zero=>exact λ_=>rfl
  | succ K ih=>
   intro hK
   rw[List.range_succ,List.flatMap_append,List.flatMap_append,ih (by omega)]
   congr 1
   simp only[List.flatMap_cons,List.flatMap_nil,List.append_nil]
   unfold wp3
   refine w18 _ λs hs=>?_
   obtain⟨hN,hl⟩:=q1g hs
   exact xv8 hM hN (by omega) (by unfold q5i at hK; omega)
 exact key _ (Nat.le_refl _)
theorem x2b {m:List (List Int)} (hl:ql0 m=true):q2d m=qr8 m:=by
 by_cases hv:validB m=true
 ·have h7:=q5j hl (Mk.of hv)
  have e1:q2d m=(q2c m (nL m 0).length (q5i m),0):=by simp[q2d,hv]
  have e2:qr8 m=(qg9 m (nL m 0).length (qd7 (nL m 0).length) (qd7 (nL m 0).length).length,0):=by simp[qr8,hv]
  rw[e1,e2,w19 hv h7,xi0 h7]
 ·have hv:validB m=false:=by simpa using hv
  have e1:q2d m=([],1):=by simp[q2d,hv]
  have e2:qr8 m=([],1):=by simp[qr8,hv]
  rw[e1,e2]
theorem w8z {m:List (List Int)} (hl:ql0 m=true):qi8 m=qk3 m:=by
 unfold qi8 qk3
 rw[x2b hl]
theorem q5m {m:List (List Int)} (hl:ql0 m=true):qm3 m=qi5 m:=by
 unfold qm3 qi5
 rw[w8z hl]
 by_cases h:(qk3 m).2=0
 ·rw[if_neg λq=>q h,h]
 ·rw[if_pos h]
  have:(qk3 m).1=[]:=by
   unfold qk3 at h ⊢
   split
   ·rfl
   ·split
    ·rfl
    ·rename_i h1 h2; rw[if_neg h1,if_neg h2] at h; exact absurd rfl h
  rw[this]
  rfl
end Go.Proofs.YtdibdlelmkcccaaGreat
