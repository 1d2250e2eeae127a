/- The circuits of the program and of the reference are the same lists. Plain mathematics. No condition. -/
import Derived.Test.YtdibdlelmkcccaaW15
set_option linter.unusedVariables false
namespace Go.Proofs.Ytdibdlelmkcccaa
open Go Go.RowKit Eng
theorem qk9 {m:List (List Int)} {s:List Int} (hM:Mk m) (hs:Named (nL m 0).length s) (h1:0<s.length):Ones m.length s.length (qi5 m s):=by
 have hl:=hs.len
 have h10:=hM.pix10
 refine⟨⟨q60 m s,λi hi=>by rw[qp7 m s i hi,ql7]⟩,hM.rows1,hM.rows6,h1,by omega,λa c ha hc=>?_⟩
 rw[qp7 m s a ha,qr5 _ _ _ hc]
 have:=hs.at_ c hc
 have:=hM.small a ha (nI s c).toNat (by omega)
 omega
theorem qu0 (m:List (List Int)) (s:List Int):qu6 m s=qi5 m s:=by
 unfold qu6 qb5 qi5
 simp
theorem w6z {m:List (List Int)} {s:List Int} (hM:Mk m) (hs:Named (nL m 0).length s) (h1:0<s.length):ql8 m s=qi7 m s:=by
 unfold ql8 qb3 qi7
 rw[qu0]
 exact(qk9 hM hs h1).kernel
theorem q1t {n k:Nat} {s:List Int} (h:s∈qe3 (n:Nat) (k:Nat)):Named n s/\s.length=k:=by
 have hl:=(q7j h).1
 unfold qe3 at h
 split at h
 ·have hc:=wb0 h
  have he:=hc.len
  simp only[Int.toNat_natCast] at hc he
  have step:∀d i,i+d+1<k->nI s i<nI s (i+d+1):=λd=>by
   induction d with
   | zero=>intro i hi; have:=hc.asc (i+1) (by omega) (by omega); simpa using this
   | succ d ih=>
    intro i hi
    have h1:=ih i (by omega)
    have h2:=hc.asc (i+(d+1)+1) (by omega) (by omega)
    rw[show i+(d+1)+1-1=i+d+1 by omega] at h2
    omega
  refine⟨⟨λj hj=>?_,λi j hij hj=>?_⟩,hl⟩
  ·have h1:=hc.lo j (by omega)
   have h2:=hc.hi j (by omega)
   omega
  ·have:=step (j-i-1) i (by omega)
   rwa [show i+(j-i-1)+1=j by omega] at this
 ·cases h
theorem q7t:∀(m k:Nat) (a:Int) (l:List Int),l.length=k->(∀i,i<k->a<=nI l i/\nI l i<a+m)->(∀i j,i<j->j<k->nI l i<nI l j)->l∈qp6 m k a
 | m,0,a,l,hl,_,_=>by
  have:l=[]:=List.eq_nil_of_length_eq_zero hl
  rw[w1w,this]; simp
 | 0,k+1,a,l,hl,hb,_=>by
  have:=hb 0 (by omega)
  omega
 | m+1,k+1,a,l,hl,hb,ha=>by
  match l,hl with
  | x :: t,hl=>
  have hl:t.length=k:=by simpa using hl
  rw[qp6,List.mem_append,List.mem_map]
  by_cases e:x=a
  ·refine .inl ⟨t,q7t m k (a+1) t hl (λi hi=>?_) (λi j hij hj=>ha (i+1) (j+1) (by omega) (by omega)),by rw[e]⟩
   have h1:=hb (i+1) (by omega)
   have h2:=ha 0 (i+1) (by omega) (by omega)
   rw[qs6] at h1
   rw[qu5,qs6] at h2
   omega
  ·refine .inr (q7t m (k+1) (a+1) (x :: t) (by simp[hl]) (λi hi=>?_) ha)
   have h0:=hb 0 (by omega)
   rw[qu5] at h0
   have h1:=hb i hi
   rcases Nat.eq_zero_or_pos i with q | q
   ·rw[q,qu5]; omega
   ·have h2:=ha 0 i q hi
    rw[qu5] at h2
    omega
theorem w60 {n:Nat} {s:List Int} (h:Named n s):s∈qe3 (n:Nat) (s.length:Nat):=by
 have hl:=h.len
 unfold qe3
 rw[if_pos (by omega)]
 refine q7t _ _ _ _ (by rw[Int.toNat_natCast]) (λi hi=>?_) λi j hij hj=>h.asc i j hij (by simpa using hj)
 rw[Int.toNat_natCast] at hi
 have:=h.at_ i hi
 rw[Int.toNat_natCast]
 omega
theorem ws1 {n:Nat} (h7:n<=7) {s:List Int} (h:s∈qe0 n):Named n s:=by
 rw[wq9 h7,List.mem_flatMap] at h
 obtain⟨k,_,hk⟩:=h
 exact(q1t hk).1
theorem x1a {m:List (List Int)} (hv:qd3 m=true):wb4 m:=by
 have hM:=Mk.of hv
 have h1:=hM.pix1
 have h10:=hM.pix10
 refine⟨⟨?_⟩,λk hk set hset=>?_⟩
 ·have:=(qk9 hM (Named.idx _) (by rw[ql1]; exact h1)).redOk
  rw[ql1] at this
  rw[qu0]
  exact this
 ·obtain⟨hn,hl⟩:=q1t hset
  have hO:=qk9 hM hn (by omega)
  refine⟨ChoOk.of hM hn λ_ _=>⟨trivial,Nat.zero_le _⟩,by rw[qu0]; exact hO.redOk,?_⟩
  unfold qb3
  rw[qu0]
  exact hO.kerAr
theorem x1b {m:List (List Int)} (hf:q6o m) (hl:qk7 m=true):wk7 m:=by
 refine⟨hf,λhv=>?_⟩
 have hM:=Mk.of hv
 have h7:=q5n hl hM
 have h6:=hM.rows6
 refine⟨h7,λs hs hok=>?_⟩
 unfold q0e at hok
 rw[Bool.and_eq_true,decide_eq_true_eq,decide_eq_true_eq] at hok
 have hn:=ws1 h7 hs
 have hnl:=hn.len
 have hO:=qk9 hM hn (by omega)
 refine⟨hO.krOk,by omega,by omega,λi hi j hj=>?_⟩
 have:=hn.at_ j hj
 rw[hM.each i hi]
 omega
theorem q7u {n:Nat} {s v:List Int} (hs:Named n s):∀k,k<=s.length->∀j,j<k->nI (qd7 n s v k) (nI s j).toNat=nI v j
 | 0,_,j,hj=>absurd hj (Nat.not_lt_zero _)
 | k+1,hk,j,hj=>by
  have h1:=hs.at_ k (by omega)
  have h2:=hs.at_ j (by omega)
  rw[qd7,q1y _ (by rw[qk1]; omega)]
  rcases Nat.lt_succ_iff_lt_or_eq.1 hj with e | e
  ·have:=hs.asc j k e (by omega)
   rw[if_neg (by omega)]
   exact q7u hs k (by omega) j e
  ·rw[if_pos (by rw[e]),e]
theorem wc9 {n:Nat} {s v:List Int} (hs:Named n s) {c:Nat} (hc:∀j,j<s.length->nI s j≠(c:Int)):∀k,k<=s.length->nI (qd7 n s v k) c=0
 | 0,_=>q41 n c
 | k+1,hk=>by
  have h1:=hs.at_ k (by omega)
  have h2:=hc k (by omega)
  rw[qd7,q1y _ (by rw[qk1]; omega),if_neg (by omega)]
  exact wc9 hs hc k (by omega)
theorem q7v {v:List Int}:∀k,k<=v.length->(qp8 v k=true↔∀c,c<k->nI v c≠0)
 | 0,_=>⟨λ_ c hc=>absurd hc (Nat.not_lt_zero _),λ_=>rfl⟩
 | k+1,hk=>by
  rw[qp8,Bool.and_eq_true,q7v k (by omega),bne_iff_ne]
  constructor
  ·rintro⟨h1,h2⟩ c hc
   rcases Nat.lt_succ_iff_lt_or_eq.1 hc with e | e
   ·exact h1 c e
   ·rw[e]; exact h2
  ·exact λh=>⟨λc hc=>h c (by omega),h k (by omega)⟩
theorem w9y {v:List Int}:(v.any λe=>(0:Int)==e)=false↔∀c,c<v.length->nI v c≠0:=by
 rw[List.any_eq_false]
 constructor
 ·intro h c hc e
  have:=h _ (q7f hc)
  rw[e] at this
  exact this rfl
 ·intro h x hx q
  obtain⟨c,hc,rfl⟩:=q3p hx
  exact h c hc (beq_iff_eq.1 q).symm
structure IsC (m:List (List Int)) (s:List Int):Prop where
 one:(qi7 m s).length=1
 nz:∀c,c<s.length->nI (nL (qi7 m s) 0) c≠0
theorem qx6 {m:List (List Int)} {s:List Int} (hM:Mk m) (hs:Named (nL m 0).length s) (hok:q0e m s=true):qt0 m s=true↔IsC m s:=by
 have h1:0<s.length:=by
  unfold q0e at hok
  rw[Bool.and_eq_true,decide_eq_true_eq] at hok
  omega
 have hO:=qk9 hM hs h1
 unfold qt0
 rw[hok,Bool.true_and,Bool.and_eq_true,decide_eq_true_eq]
 constructor
 ·rintro⟨a,b⟩
  have hl:=(hO.ker_small (qo5 (qg5 (qi5 m s)) 0 (by show 0<(qi7 m s).length; omega))).1
  exact⟨a,(q7v _ (by show s.length<=(nL (qg5 (qi5 m s)) 0).length; omega)).1 b⟩
 ·intro h
  have hl:=(hO.ker_small (qo5 (qg5 (qi5 m s)) 0 (by have:=h.one; show 0<(qi7 m s).length; omega))).1
  exact⟨h.one,(q7v _ (by show s.length<=(nL (qg5 (qi5 m s)) 0).length; omega)).2 h.nz⟩
theorem wl9 {m:List (List Int)} {s:List Int} (hM:Mk m) (hs:Named (nL m 0).length s) (h1:0<s.length):q75 (ql8 m s)=true↔IsC m s:=by
 have hO:=qk9 hM hs h1
 rw[w6z hM hs h1]
 unfold q75
 rw[Bool.and_eq_true,decide_eq_true_eq,Bool.not_eq_true',w9y]
 constructor
 ·rintro⟨a,b⟩
  have hl:=(hO.ker_small (qo5 (qg5 (qi5 m s)) 0 (by show 0<(qi7 m s).length; omega))).1
  exact⟨a,λc hc=>b c (by show c<(nL (qg5 (qi5 m s)) 0).length; omega)⟩
 ·intro h
  have hl:=(hO.ker_small (qo5 (qg5 (qi5 m s)) 0 (by have:=h.one; show 0<(qi7 m s).length; omega))).1
  exact⟨h.one,λc hc=>h.nz c (by have:c<(nL (qg5 (qi5 m s)) 0).length:=hc; omega)⟩
theorem xk4 {l:List Int} (h:∀d:Nat,(∀c,c<l.length->d∣(nI l c).natAbs)->d=1):qe2 l=l:=by
 have h1:(gcdL l).natAbs=1:=h _ λc hc=>(xt5 l 0).2.1 _ (q7f hc)
 unfold qe2
 rw[if_neg (by omega)]
theorem w61 (l:List Int):w8r l=qi9 l (-1):=by
 refine List.ext_getElem (by rw[q5i,qt8]) λi h1 h2=>?_
 rw[<- qh9 _ i h1,<- qh9 _ i h2,q9a,q5p]
 omega
theorem xk5 {m:List (List Int)} {s:List Int} (hM:Mk m) (hs:Named (nL m 0).length s) (h1:0<s.length) (hc:IsC m s):xv2 m (nL m 0).length s=q7a m (nL m 0).length s:=by
 have hO:=qk9 hM hs h1
 obtain⟨f,hf,hnp,ho,hv,hp⟩:=hO.one_free hc.one
 have hnz:=hc.nz
 unfold xv2 q7a q2l
 rw[w6z hM hs h1]
 change KV _ _ _ _ _ (nL (qi7 m s) 0) at hv
 change Prim (nL (qi7 m s) 0) at hp
 generalize nL (qi7 m s) 0=v at *
 have hat:=λj (hj:j<s.length)=>q7u (v:=v) hs _ (Nat.le_refl _) j hj
 have ho2:∀c:Nat,(∀j,j<s.length->nI s j≠(c:Int))->nI (qd7 (nL m 0).length s v s.length) c=0:=λc hc=>wc9 hs hc _ (Nat.le_refl _)
 have hlen:=qk1 (nL m 0).length s v s.length
 generalize qd7 (nL m 0).length s v s.length=u at *
 have hsh:qe2 u=u:=xk4 λd hd=>hp.gcd hv.len hf hv.pos d λc hc=>by
  have h2:=hs.at_ c hc
  rw[<- hat c hc]
  exact hd _ (by omega)
 have h0:=hs.at_ 0 h1
 have hfst:qw1 u=nI s 0:=by
  have:=wi7 (.int .i64) (λe=>e != 0) u (nI s 0).toNat (by omega) (λi hi=>by
   have:nI u i=0:=ho2 i λj hj e=>by
    rcases Nat.eq_zero_or_pos j with q | q
    ·rw[q] at e; omega
    ·have:=hs.asc 0 j q hj
     omega
   show(nI u i != 0)=false
   rw[this]; rfl) (by
   show(nI u (nI s 0).toNat != 0)=true
   rw[hat 0 h1]
   exact bne_iff_ne.2 (hnz 0 h1))
  unfold qw1
  rw[this]
  omega
 unfold q6x
 rw[hsh,hfst]
 by_cases q:nI u (nI s 0).toNat<0
 ·rw[if_pos ⟨h0.1,q⟩,if_pos q,w61]
 ·rw[if_neg λk=>q k.2,if_neg q]
theorem wm0 {N K:Nat} {A:Nat->Int} {σ:Nat->Nat} {w:Nat->Int} (hσ:∀q,q<K->σ q<N):(sm N λcol=>A col*sm K λq=>if σ q=col then w q else 0)=sm K λq=>A (σ q)*w q:=by
 have e:(sm N λcol=>A col*sm K λq=>if σ q=col then w q else 0)=sm N λcol=>sm K λq=>A col*if σ q=col then w q else 0:=qg3 λc hc=>by
  try dsimp only
  rw[qu8]
 rw[e,w6b]
 refine qg3 λq hq=>?_
 try dsimp only
 rw[qs2 (k:=σ q) (hσ q hq) λi hi hne=>by
  try dsimp only
  rw[if_neg (Ne.symm hne),Int.mul_zero]]
 try dsimp only
 rw[if_pos rfl]
theorem w9z {m:List (List Int)} {s:List Int} (hM:Mk m) (hs:Named (nL m 0).length s) (h1:0<s.length):(qg6 (qi5 m s) s.length).piv.length<=(qb3 m (q0y (nL m 0).length)).2.length:=Nat.le_of_not_lt λhgt=>by
 have hO:=qk9 hM hs h1
 have hF:=(qk9 hM (Named.idx (nL m 0).length) (by rw[ql1]; exact hM.pix1))
 have hstF:=hF.stP
 unfold qb3 at hgt
 rw[qu0] at hgt
 have hst:=hO.stR
 rw[ql1] at hstF hgt
 generalize qd0 (qi5 m (q0y (nL m 0).length)) (nL m 0).length=F at hstF hgt
 obtain⟨rF,PF⟩:=F
 dsimp only at hstF hgt
 generalize(qg6 (qi5 m s) s.length).piv=P at hst hgt
 generalize(qg6 (qi5 m s) s.length).done_++(qg6 (qi5 m s) s.length).left=rows at hst
 have hpl:=hst.pl
 have hplF:=hstF.pl
 have hPs:∀q,q<P.length->(nI P q).toNat<s.length:=λq hq=>by have:=hst.pos q hq; omega
 have hσ:∀q,q<P.length->(nI s (nI P q).toNat).toNat<(nL m 0).length:=λq hq=>by have:=hs.at_ _ (hPs q hq); omega
 obtain⟨w,w1,q0,hq0,w2⟩:=wr7 (n:=PF.length) (W:=P.length) (λk q=>nI (nL rF k) (nI s (nI P q).toNat).toNat) hgt
 have hF2:Sol m.length (nL m 0).length (rowOf (qi5 m (q0y (nL m 0).length))) λcol=>sm P.length λq=>if(nI s (nI P q).toNat).toNat=col then w q else 0:=(hstF.sol _).2 λi hi=>by
  rcases Nat.lt_or_ge i PF.length with q | q
  ·unfold dt
   rw[wm0 hσ]
   exact w1 i q
  ·refine qs7 λc hc=>?_
   try dsimp only
   rw[hstF.zero i q hi c hc,Int.zero_mul]
 have hsub:Sol m.length s.length (rowOf (qi5 m s)) λc=>sm P.length λq=>if(nI P q).toNat=c then w q else 0:=λa ha=>by
  rw[wm0 hPs]
  have e1:=hF2 a ha
  rw[wm0 hσ] at e1
  rw[<- e1]
  refine qg3 λq hq=>?_
  have h2:=hs.at_ _ (hPs q hq)
  unfold rowOf
  rw[qp7 m s a ha,qp7 m _ a ha,qr5 _ _ _ (hPs q hq),qr5 _ _ _ (by rw[ql1]; exact hσ q hq),q6q _ _ (hσ q hq),Int.toNat_natCast]
 have e:=(hst.sol _).1 hsub q0 (by omega)
 unfold dt at e
 rw[wm0 hPs,qs2 (k:=q0) hq0 λi hi hne=>by
  try dsimp only
  rw[(hst.pos i hi).2.2.2.2 q0 (by omega) (Ne.symm hne),Int.zero_mul]] at e
 exact w2 (qd4 e (by have:=(hst.pos q0 hq0).2.2.1; omega))
theorem w0j {m:List (List Int)} {s:List Int} (hM:Mk m) (hs:Named (nL m 0).length s) (h1:0<s.length) (hc:IsC m s):s.length<=(qb3 m (q0y (nL m 0).length)).2.length+1:=by
 have hO:=qk9 hM hs h1
 have hr:=w9z hM hs h1
 obtain⟨f,hf,hnp,ho,_,_⟩:=hO.one_free hc.one
 generalize(qg6 (qi5 m s) s.length).piv=P at *
 refine Nat.le_of_not_lt λhgt=>?_
 have hx:∀a,∃q,a<s.length-1->q<P.length/\nI P q=(skp f a:Int):=λa=>by
  by_cases ha:a<s.length-1
  ·obtain⟨q,hq,e⟩:=ho (skp f a) (by have:=q7l (n:=s.length-1) (i:=f) ha; omega) (xb4 f a)
   exact⟨q,λ_=>⟨hq,e⟩⟩
  ·exact⟨0,λq=>absurd q ha⟩
 obtain⟨g,hg⟩:=Classical.axiomOfChoice hx
 obtain⟨i,j,k1,k2,k3⟩:=q7d P.length (s.length-1) g (λi hi=>(hg i hi).1) (by omega)
 have e1:=(hg i (by omega)).2
 have e2:=(hg j k2).2
 rw[k3] at e1
 have:skp f i=skp f j:=by omega
 unfold skp at this
 split at this <;> split at this <;> omega
def xl9 (m:List (List Int)) (s:List Int):Option (List Int):=if q75 (ql8 m s) then some (xv2 m (nL m 0).length s) else none
def q76 (m:List (List Int)) (s:List Int):Option (List Int):=if qt0 m s then some (q7a m (nL m 0).length s) else none
theorem wm1 (m:List (List Int)) (L:List (List Int)):∀c,c<=L.length->qs1 m (nL m 0).length L c=(L.take c).filterMap (xl9 m)
 | 0,_=>rfl
 | c+1,hc=>by
  rw[qs1,takeL_snoc L c (by omega),List.filterMap_append,wm1 m L c (by omega)]
  unfold xl9
  by_cases q:q75 (ql8 m (nL L c))=true
  ·rw[if_pos q]
   simp[List.filterMap,q]
  ·rw[if_neg q]
   have q:q75 (ql8 m (nL L c))=false:=by simpa using q
   simp[List.filterMap,q]
theorem q9f (m:List (List Int)) (L:List (List Int)):∀c,c<=L.length->qh7 m (nL m 0).length L c=(L.take c).filterMap (q76 m)
 | 0,_=>rfl
 | c+1,hc=>by
  rw[qh7,takeL_snoc L c (by omega),List.filterMap_append,q9f m L c (by omega)]
  unfold q76
  by_cases q:qt0 m (nL L c)=true
  ·rw[if_pos q]
   simp[List.filterMap,q]
  ·rw[if_neg q]
   have q:qt0 m (nL L c)=false:=by simpa using q
   simp[List.filterMap,q]
def wm2 (m:List (List Int)) (k:Nat):List (List Int):=(qe3 (nL m 0).length (k:Nat)).filterMap (q76 m)
theorem w0k (m:List (List Int)):∀K,q2n m (nL m 0).length K=(List.range K).flatMap λ(k:Nat)=>(qe3 (nL m 0).length (k+1:Nat)).filterMap (xl9 m)
 | 0=>rfl
 | K+1=>by
  rw[q2n,w0k m K,List.range_succ,List.flatMap_append,wm1 m _ _ (Nat.le_refl _),List.take_length]
  simp
theorem xk6 {m:List (List Int)} {s:List Int} (hM:Mk m) (hs:Named (nL m 0).length s) (h1:0<s.length) (hr:s.length<=m.length+1):xl9 m s=q76 m s:=by
 have hok:q0e m s=true:=by
  unfold q0e
  rw[Bool.and_eq_true,decide_eq_true_eq,decide_eq_true_eq]
  omega
 unfold xl9 q76
 by_cases q:IsC m s
 ·rw[if_pos ((wl9 hM hs h1).2 q),if_pos ((qx6 hM hs hok).2 q),xk5 hM hs h1 q]
 ·rw[if_neg λk=>q ((wl9 hM hs h1).1 k),if_neg λk=>q ((qx6 hM hs hok).1 k)]
theorem w62 {m:List (List Int)} (hM:Mk m):(qb3 m (q0y (nL m 0).length)).2.length<=m.length:=by
 have hF:=(qk9 hM (Named.idx (nL m 0).length) (by rw[ql1]; exact hM.pix1))
 have:=hF.stP.pl
 unfold qb3
 rw[qu0]
 exact this
theorem w63 {m:List (List Int)} (hM:Mk m) {k:Nat} (hk:q5m m<=k) (hn:k<(nL m 0).length):wm2 m (k+1)=[]:=by
 unfold wm2
 rw[List.filterMap_eq_nil_iff]
 intro s hs
 obtain⟨hN,hl⟩:=q1t hs
 unfold q76
 rw[if_neg]
 intro q
 have hok:q0e m s=true:=by
  unfold qt0 at q
  rw[Bool.and_eq_true,Bool.and_eq_true] at q
  exact q.1.1
 have:=w0j hM hN (by omega) ((qx6 hM hN hok).1 q)
 unfold q5m at hk
 omega
theorem w90 {m:List (List Int)} (h7:(nL m 0).length<=7):qh7 m (nL m 0).length (qe0 (nL m 0).length) (qe0 (nL m 0).length).length=(List.range (nL m 0).length).flatMap λk=>wm2 m (k+1):=by
 rw[q9f m _ _ (Nat.le_refl _),List.take_length,wq9 h7,List.filterMap_flatMap,List.range_succ_eq_map,List.flatMap_cons]
 have e0:(qe3 ((nL m 0).length:Nat) (0:Nat)).filterMap (q76 m)=[]:=by
  rw[List.filterMap_eq_nil_iff]
  intro s hs
  have hl:=(q1t hs).2
  unfold q76 qt0 q0e
  rw[hl]
  rfl
 refine(congrArg (λl=>l++_) e0).trans ?_
 rw[List.flatMap_map]
 rfl
theorem wm3 {f:Nat->List (List Int)} {K:Nat}:∀d,(∀k,K<=k->k<K+d->f k=[])->(List.range (K+d)).flatMap f=(List.range K).flatMap f
 | 0,_=>rfl
 | d+1,h=>by
  rw[<- Nat.add_assoc,List.range_succ,List.flatMap_append,wm3 d λk h1 h2=>h k h1 (by omega)]
  simp[h (K+d) (by omega) (by omega)]
theorem w0l {f g:List Int->Option (List Int)}:∀l:List (List Int),(∀x∈l,f x=g x)->l.filterMap f=l.filterMap g
 | [],_=>rfl
 | x :: l,h=>by rw[List.filterMap_cons,List.filterMap_cons,h x (by simp),w0l l λy hy=>h y (by simp[hy])]
theorem w0m {m:List (List Int)} (hv:qd3 m=true) (h7:(nL m 0).length<=7):q2n m (nL m 0).length (q5m m)=(List.range (nL m 0).length).flatMap λk=>wm2 m (k+1):=by
 have hM:=Mk.of hv
 have hcn:q5m m<=(nL m 0).length:=by unfold q5m; omega
 have e:=wm3 (f:=λk=>wm2 m (k+1)) (K:=q5m m) ((nL m 0).length-q5m m) λk h1 h2=>w63 hM h1 (by omega)
 rw[show q5m m+((nL m 0).length-q5m m)=(nL m 0).length by omega] at e
 rw[e,w0k]
 have hr:=w62 hM
 have key:∀K,K<=q5m m->((List.range K).flatMap λ(k:Nat)=>(qe3 (nL m 0).length (k+1:Nat)).filterMap (xl9 m))=(List.range K).flatMap λk=>wm2 m (k+1):=λK=>by
  induction K with
  | zero=>exact λ_=>rfl
  | succ K ih=>
   intro hK
   rw[List.range_succ,List.flatMap_append,List.flatMap_append,ih (by omega)]
   congr 1
   simp only[List.flatMap_cons,List.flatMap_nil,List.append_nil]
   unfold wm2
   refine w0l _ λs hs=>?_
   obtain⟨hN,hl⟩:=q1t hs
   exact xk6 hM hN (by omega) (by unfold q5m at hK; omega)
 exact key _ (Nat.le_refl _)
theorem xu3 {m:List (List Int)} (hl:qk7 m=true):q1x m=qq8 m:=by
 by_cases hv:qd3 m=true
 ·have h7:=q5n hl (Mk.of hv)
  have e1:q1x m=(q2n m (nL m 0).length (q5m m),0):=by simp[q1x,hv]
  have e2:qq8 m=(qh7 m (nL m 0).length (qe0 (nL m 0).length) (qe0 (nL m 0).length).length,0):=by simp[qq8,hv]
  rw[e1,e2,w0m hv h7,w90 h7]
 ·have hv:qd3 m=false:=by simpa using hv
  have e1:q1x m=([],1):=by simp[q1x,hv]
  have e2:qq8 m=([],1):=by simp[qq8,hv]
  rw[e1,e2]
theorem w64 {m:List (List Int)} (hl:qk7 m=true):qb4 m=qg0 m:=by
 unfold qb4 qg0
 rw[xu3 hl]
theorem w0n {m:List (List Int)} (hl:qk7 m=true):qh5 m=qi0 m:=by
 unfold qh5 qi0
 rw[w64 hl]
 by_cases h:(qg0 m).2=0
 ·rw[if_neg λq=>q h,h]
 ·rw[if_pos h]
  have:(qg0 m).1=[]:=by
   unfold qg0 at h ⊢
   split
   ·rfl
   ·split
    ·rfl
    ·rename_i h1 h2; rw[if_neg h1,if_neg h2] at h; exact absurd rfl h
  rw[this]
  rfl
end Go.Proofs.Ytdibdlelmkcccaa
