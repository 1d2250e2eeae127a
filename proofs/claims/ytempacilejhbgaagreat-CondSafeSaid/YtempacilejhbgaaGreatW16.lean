/- The circuits of the program and of the reference are the same lists. Plain mathematics. No condition. -/
import Derived.Test.YtempacilejhbgaaGreatW15
set_option linter.unusedVariables false
namespace Go.Proofs.YtempacilejhbgaaGreat
open Go Go.RowKit Eng
theorem qk2 {m:List (List Int)} {s:List Int} (hM:Mk m) (hs:Named (nL m 0).length s) (h1:0<s.length):Ones m.length s.length (qj5 m s):=by
 have hl:=hs.len
 have h10:=hM.pix10
 refine⟨⟨q7e m s,λi hi=>by rw[qz7 m s i hi,qu0]⟩,hM.rows1,hM.rows6,h1,by omega,λa c ha hc=>?_⟩
 rw[qz7 m s a ha,q1o _ _ _ hc]
 have:=hs.at_ c hc
 have:=hM.small a ha (nI s c).toNat (by omega)
 omega
theorem qt3 (m:List (List Int)) (s:List Int):q2p m s=qj5 m s:=by
 unfold q2p qc7 qj5
 simp
theorem w9f {m:List (List Int)} {s:List Int} (hM:Mk m) (hs:Named (nL m 0).length s) (h1:0<s.length):qk7 m s=qh7 m s:=by
 unfold qk7 qj6 qh7
 rw[qt3]
 exact(qk2 hM hs h1).kernel
theorem qv8 {n k:Nat} {s:List Int} (h:s∈qa7 (n:Nat) (k:Nat)):Named n s/\s.length=k:=by
 have hl:=(w88 h).1
 unfold qa7 at h
 split at h
 ·have hc:=w17 h
  have he:=hc.len
  simp only[Int.toNat_natCast] at hc he
  have step:∀d i,i+d+1<k->nI s i<nI s (i+d+1):=λd=>by
   induction d with
   | zero=>intro i hi; have:=hc.asc (i+1) (by omega) (by omega); simpa using this
   | succ d ih=>
    intro i hi
    have h1:=ih i (by omega)
    have h2:=hc.asc (i+(d+1)+1) (by omega) (by omega)
    rw[show i+(d+1)+1-1=i+d+1 by omega] at h2
    omega
  refine⟨⟨λj hj=>?_,λi j hij hj=>?_⟩,hl⟩
  ·have h1:=hc.lo j (by omega)
   have h2:=hc.hi j (by omega)
   omega
  ·have:=step (j-i-1) i (by omega)
   rwa [show i+(j-i-1)+1=j by omega] at this
 ·cases h
theorem q74:∀(m k:Nat) (a:Int) (l:List Int),l.length=k->(∀i,i<k->a<=nI l i/\nI l i<a+m)->(∀i j,i<j->j<k->nI l i<nI l j)->l∈qk3 m k a
 | m,0,a,l,hl,_,_=>by
  have:l=[]:=List.eq_nil_of_length_eq_zero hl
  rw[qx1,this]; simp
 | 0,k+1,a,l,hl,hb,_=>by
  have:=hb 0 (by omega)
  omega
 | m+1,k+1,a,l,hl,hb,ha=>by
  match l,hl with
  | x :: t,hl=>
  have hl:t.length=k:=by simpa using hl
  rw[qk3,List.mem_append,List.mem_map]
  by_cases e:x=a
  ·refine .inl ⟨t,q74 m k (a+1) t hl (λi hi=>?_) (λi j hij hj=>ha (i+1) (j+1) (by omega) (by omega)),by rw[e]⟩
   have h1:=hb (i+1) (by omega)
   have h2:=ha 0 (i+1) (by omega) (by omega)
   rw[qp8] at h1
   rw[qu1,qp8] at h2
   omega
  ·refine .inr (q74 m (k+1) (a+1) (x :: t) (by simp[hl]) (λi hi=>?_) ha)
   have h0:=hb 0 (by omega)
   rw[qu1] at h0
   have h1:=hb i hi
   rcases Nat.eq_zero_or_pos i with q | q
   ·rw[q,qu1]; omega
   ·have h2:=ha 0 i q hi
    rw[qu1] at h2
    omega
theorem w9g {n:Nat} {s:List Int} (h:Named n s):s∈qa7 (n:Nat) (s.length:Nat):=by
 have hl:=h.len
 unfold qa7
 rw[if_pos (by omega)]
 refine q74 _ _ _ _ (by rw[Int.toNat_natCast]) (λi hi=>?_) λi j hij hj=>h.asc i j hij (by simpa using hj)
 rw[Int.toNat_natCast] at hi
 have:=h.at_ i hi
 rw[Int.toNat_natCast]
 omega
theorem wz5 {n:Nat} (h7:n<=7) {s:List Int} (h:s∈qe1 n):Named n s:=by
 rw[w87 h7,List.mem_flatMap] at h
 obtain⟨k,_,hk⟩:=h
 exact(qv8 hk).1
theorem xy4 {m:List (List Int)} (hv:validB m=true):q7i m:=by
 have hM:=Mk.of hv
 have h1:=hM.pix1
 have h10:=hM.pix10
 refine⟨⟨?_⟩,λk hk set hset=>?_⟩
 ·have:=(qk2 hM (Named.idx _) (by rw[qe8]; exact h1)).redOk
  rw[qe8] at this
  rw[qt3]
  exact this
 ·obtain⟨hn,hl⟩:=qv8 hset
  have hO:=qk2 hM hn (by omega)
  refine⟨ChoOk.of hM hn λ_ _=>⟨trivial,Nat.zero_le _⟩,by rw[qt3]; exact hO.redOk,?_⟩
  unfold qj6
  rw[qt3]
  exact hO.kerAr
theorem q75 {n:Nat} {s v:List Int} (hs:Named n s):∀k,k<=s.length->∀j,j<k->nI (qd1 n s v k) (nI s j).toNat=nI v j
 | 0,_,j,hj=>absurd hj (Nat.not_lt_zero _)
 | k+1,hk,j,hj=>by
  have h1:=hs.at_ k (by omega)
  have h2:=hs.at_ j (by omega)
  rw[qd1,q71 _ (by rw[qj1]; omega)]
  rcases Nat.lt_succ_iff_lt_or_eq.1 hj with e | e
  ·have:=hs.asc j k e (by omega)
   rw[if_neg (by omega)]
   exact q75 hs k (by omega) j e
  ·rw[if_pos (by rw[e]),e]
theorem wi1 {n:Nat} {s v:List Int} (hs:Named n s) {c:Nat} (hc:∀j,j<s.length->nI s j≠(c:Int)):∀k,k<=s.length->nI (qd1 n s v k) c=0
 | 0,_=>xr0 n c
 | k+1,hk=>by
  have h1:=hs.at_ k (by omega)
  have h2:=hc k (by omega)
  rw[qd1,q71 _ (by rw[qj1]; omega),if_neg (by omega)]
  exact wi1 hs hc k (by omega)
theorem q76 {v:List Int}:∀k,k<=v.length->(qo9 v k=true↔∀c,c<k->nI v c≠0)
 | 0,_=>⟨λ_ c hc=>absurd hc (Nat.not_lt_zero _),λ_=>rfl⟩
 | k+1,hk=>by
  rw[qo9,Bool.and_eq_true,q76 k (by omega),bne_iff_ne]
  constructor
  ·rintro⟨h1,h2⟩ c hc
   rcases Nat.lt_succ_iff_lt_or_eq.1 hc with e | e
   ·exact h1 c e
   ·rw[e]; exact h2
  ·exact λh=>⟨λc hc=>h c (by omega),h k (by omega)⟩
theorem xl5 {v:List Int}:(v.any λe=>(0:Int)==e)=false↔∀c,c<v.length->nI v c≠0:=by
 rw[List.any_eq_false]
 constructor
 ·intro h c hc e
  have:=h _ (q90 hc)
  rw[e] at this
  exact this rfl
 ·intro h x hx q
  obtain⟨c,hc,rfl⟩:=q91 hx
  exact h c hc (beq_iff_eq.1 q).symm
structure IsC (m:List (List Int)) (s:List Int):Prop where
 one:(qh7 m s).length=1
 nz:∀c,c<s.length->nI (nL (qh7 m s) 0) c≠0
theorem q1v {m:List (List Int)} {s:List Int} (hM:Mk m) (hs:Named (nL m 0).length s) (hok:q1x m s=true):qs1 m s=true↔IsC m s:=by
 have h1:0<s.length:=by
  unfold q1x at hok
  rw[Bool.and_eq_true,decide_eq_true_eq] at hok
  omega
 have hO:=qk2 hM hs h1
 unfold qs1
 rw[hok,Bool.true_and,Bool.and_eq_true,decide_eq_true_eq]
 constructor
 ·rintro⟨a,b⟩
  have hl:=(hO.ker_small (qk5 (qg4 (qj5 m s)) 0 (by show 0<(qh7 m s).length; omega))).1
  exact⟨a,(q76 _ (by show s.length<=(nL (qg4 (qj5 m s)) 0).length; omega)).1 b⟩
 ·intro h
  have hl:=(hO.ker_small (qk5 (qg4 (qj5 m s)) 0 (by have:=h.one; show 0<(qh7 m s).length; omega))).1
  exact⟨h.one,(q76 _ (by show s.length<=(nL (qg4 (qj5 m s)) 0).length; omega)).2 h.nz⟩
theorem ws9 {m:List (List Int)} {s:List Int} (hM:Mk m) (hs:Named (nL m 0).length s) (h1:0<s.length):q8p (qk7 m s)=true↔IsC m s:=by
 have hO:=qk2 hM hs h1
 rw[w9f hM hs h1]
 unfold q8p
 rw[Bool.and_eq_true,decide_eq_true_eq,Bool.not_eq_true',xl5]
 constructor
 ·rintro⟨a,b⟩
  have hl:=(hO.ker_small (qk5 (qg4 (qj5 m s)) 0 (by show 0<(qh7 m s).length; omega))).1
  exact⟨a,λc hc=>b c (by show c<(nL (qg4 (qj5 m s)) 0).length; omega)⟩
 ·intro h
  have hl:=(hO.ker_small (qk5 (qg4 (qj5 m s)) 0 (by have:=h.one; show 0<(qh7 m s).length; omega))).1
  exact⟨h.one,λc hc=>h.nz c (by have:c<(nL (qg4 (qj5 m s)) 0).length:=hc; omega)⟩
theorem xy5 {l:List Int} (h:∀d:Nat,(∀c,c<l.length->d∣(nI l c).natAbs)->d=1):qe0 l=l:=by
 have h1:(gcdL l).natAbs=1:=h _ λc hc=>(x2u l 0).2.1 _ (q90 hc)
 unfold qe0
 rw[if_neg (by omega)]
theorem w9h (l:List Int):xh5 l=qj0 l (-1):=by
 refine List.ext_getElem (by rw[q5s,qt1]) λi h1 h2=>?_
 rw[<- qg1 _ i h1,<- qg1 _ i h2,q92,q50]
 omega
theorem xy6 {m:List (List Int)} {s:List Int} (hM:Mk m) (hs:Named (nL m 0).length s) (h1:0<s.length) (hc:IsC m s):x3w m (nL m 0).length s=ws1 m (nL m 0).length s:=by
 have hO:=qk2 hM hs h1
 obtain⟨f,hf,hnp,ho,hv,hp⟩:=hO.one_free hc.one
 have hnz:=hc.nz
 unfold x3w ws1 q2u
 rw[w9f hM hs h1]
 change KV _ _ _ _ _ (nL (qh7 m s) 0) at hv
 change Prim (nL (qh7 m s) 0) at hp
 generalize nL (qh7 m s) 0=v at *
 have hat:=λj (hj:j<s.length)=>q75 (v:=v) hs _ (Nat.le_refl _) j hj
 have ho2:∀c:Nat,(∀j,j<s.length->nI s j≠(c:Int))->nI (qd1 (nL m 0).length s v s.length) c=0:=λc hc=>wi1 hs hc _ (Nat.le_refl _)
 have hlen:=qj1 (nL m 0).length s v s.length
 generalize qd1 (nL m 0).length s v s.length=u at *
 have hsh:qe0 u=u:=xy5 λd hd=>hp.gcd hv.len hf hv.pos d λc hc=>by
  have h2:=hs.at_ c hc
  rw[<- hat c hc]
  exact hd _ (by omega)
 have h0:=hs.at_ 0 h1
 have hfst:qw1 u=nI s 0:=by
  have:=w14 (.int .i64) (λe=>e != 0) u (nI s 0).toNat (by omega) (λi hi=>by
   have:nI u i=0:=ho2 i λj hj e=>by
    rcases Nat.eq_zero_or_pos j with q | q
    ·rw[q] at e; omega
    ·have:=hs.asc 0 j q hj
     omega
   show(nI u i != 0)=false
   rw[this]; rfl) (by
   show(nI u (nI s 0).toNat != 0)=true
   rw[hat 0 h1]
   exact bne_iff_ne.2 (hnz 0 h1))
  unfold qw1
  rw[this]
  omega
 unfold q7b
 rw[hsh,hfst]
 by_cases q:nI u (nI s 0).toNat<0
 ·rw[if_pos ⟨h0.1,q⟩,if_pos q,w9h]
 ·rw[if_neg λk=>q k.2,if_neg q]
theorem w2q {N K:Nat} {A:Nat->Int} {σ:Nat->Nat} {w:Nat->Int} (hσ:∀q,q<K->σ q<N):(sm N λcol=>A col*sm K λq=>if σ q=col then w q else 0)=sm K λq=>A (σ q)*w q:=by
 have e:(sm N λcol=>A col*sm K λq=>if σ q=col then w q else 0)=sm N λcol=>sm K λq=>A col*if σ q=col then w q else 0:=qf2 λc hc=>by
  try dsimp only
  rw[qn7]
 rw[e,wy5]
 refine qf2 λq hq=>?_
 try dsimp only
 rw[qu2 (k:=σ q) (hσ q hq) λi hi hne=>by
  try dsimp only
  rw[if_neg (Ne.symm hne),Int.mul_zero]]
 try dsimp only
 rw[if_pos rfl]
theorem xl6 {m:List (List Int)} {s:List Int} (hM:Mk m) (hs:Named (nL m 0).length s) (h1:0<s.length):(qg8 (qj5 m s) s.length).piv.length<=(qj6 m (qo3 (nL m 0).length)).2.length:=Nat.le_of_not_lt λhgt=>by
 have hO:=qk2 hM hs h1
 have hF:=(qk2 hM (Named.idx (nL m 0).length) (by rw[qe8]; exact hM.pix1))
 have hstF:=hF.stP
 unfold qj6 at hgt
 rw[qt3] at hgt
 have hst:=hO.stR
 rw[qe8] at hstF hgt
 generalize qd2 (qj5 m (qo3 (nL m 0).length)) (nL m 0).length=F at hstF hgt
 obtain⟨rF,PF⟩:=F
 dsimp only at hstF hgt
 generalize(qg8 (qj5 m s) s.length).piv=P at hst hgt
 generalize(qg8 (qj5 m s) s.length).done_++(qg8 (qj5 m s) s.length).left=rows at hst
 have hpl:=hst.pl
 have hplF:=hstF.pl
 have hPs:∀q,q<P.length->(nI P q).toNat<s.length:=λq hq=>by have:=hst.pos q hq; omega
 have hσ:∀q,q<P.length->(nI s (nI P q).toNat).toNat<(nL m 0).length:=λq hq=>by have:=hs.at_ _ (hPs q hq); omega
 obtain⟨w,w1,q0,hq0,w2⟩:=wy9 (n:=PF.length) (W:=P.length) (λk q=>nI (nL rF k) (nI s (nI P q).toNat).toNat) hgt
 have hF2:Sol m.length (nL m 0).length (rowOf (qj5 m (qo3 (nL m 0).length))) λcol=>sm P.length λq=>if(nI s (nI P q).toNat).toNat=col then w q else 0:=(hstF.sol _).2 λi hi=>by
  rcases Nat.lt_or_ge i PF.length with q | q
  ·unfold dt
   rw[w2q hσ]
   exact w1 i q
  ·refine qr7 λc hc=>?_
   try dsimp only
   rw[hstF.zero i q hi c hc,Int.zero_mul]
 have hsub:Sol m.length s.length (rowOf (qj5 m s)) λc=>sm P.length λq=>if(nI P q).toNat=c then w q else 0:=λa ha=>by
  rw[w2q hPs]
  have e1:=hF2 a ha
  rw[w2q hσ] at e1
  rw[<- e1]
  refine qf2 λq hq=>?_
  have h2:=hs.at_ _ (hPs q hq)
  unfold rowOf
  rw[qz7 m s a ha,qz7 m _ a ha,q1o _ _ _ (hPs q hq),q1o _ _ _ (by rw[qe8]; exact hσ q hq),qz6 _ _ (hσ q hq),Int.toNat_natCast]
 have e:=(hst.sol _).1 hsub q0 (by omega)
 unfold dt at e
 rw[w2q hPs,qu2 (k:=q0) hq0 λi hi hne=>by
  try dsimp only
  rw[(hst.pos i hi).2.2.2.2 q0 (by omega) (Ne.symm hne),Int.zero_mul]] at e
 exact w2 (qd6 e (by have:=(hst.pos q0 hq0).2.2.1; omega))
theorem xl7 {m:List (List Int)} {s:List Int} (hM:Mk m) (hs:Named (nL m 0).length s) (h1:0<s.length) (hc:IsC m s):s.length<=(qj6 m (qo3 (nL m 0).length)).2.length+1:=by
 have hO:=qk2 hM hs h1
 have hr:=xl6 hM hs h1
 obtain⟨f,hf,hnp,ho,_,_⟩:=hO.one_free hc.one
 generalize(qg8 (qj5 m s) s.length).piv=P at *
 refine Nat.le_of_not_lt λhgt=>?_
 have hx:∀a,∃q,a<s.length-1->q<P.length/\nI P q=(skp f a:Int):=λa=>by
  by_cases ha:a<s.length-1
  ·obtain⟨q,hq,e⟩:=ho (skp f a) (by have:=q7s (n:=s.length-1) (i:=f) ha; omega) (xq6 f a)
   exact⟨q,λ_=>⟨hq,e⟩⟩
  ·exact⟨0,λq=>absurd q ha⟩
 obtain⟨g,hg⟩:=Classical.axiomOfChoice hx
 obtain⟨i,j,k1,k2,k3⟩:=q7r P.length (s.length-1) g (λi hi=>(hg i hi).1) (by omega)
 have e1:=(hg i (by omega)).2
 have e2:=(hg j k2).2
 rw[k3] at e1
 have:skp f i=skp f j:=by omega
 unfold skp at this
 split at this <;> split at this <;> omega
def x0m (m:List (List Int)) (s:List Int):Option (List Int):=if q8p (qk7 m s) then some (x3w m (nL m 0).length s) else none
def wi2 (m:List (List Int)) (s:List Int):Option (List Int):=if qs1 m s then some (ws1 m (nL m 0).length s) else none
theorem wt0 (m:List (List Int)) (L:List (List Int)):∀c,c<=L.length->qr2 m (nL m 0).length L c=(L.take c).filterMap (x0m m)
 | 0,_=>rfl
 | c+1,hc=>by
  rw[qr2,takeL_snoc L c (by omega),List.filterMap_append,wt0 m L c (by omega)]
  unfold x0m
  by_cases q:q8p (qk7 m (nL L c))=true
  ·rw[if_pos q]
   simp[List.filterMap,q]
  ·rw[if_neg q]
   have q:q8p (qk7 m (nL L c))=false:=by simpa using q
   simp[List.filterMap,q]
theorem q96 (m:List (List Int)) (L:List (List Int)):∀c,c<=L.length->qg7 m (nL m 0).length L c=(L.take c).filterMap (wi2 m)
 | 0,_=>rfl
 | c+1,hc=>by
  rw[qg7,takeL_snoc L c (by omega),List.filterMap_append,q96 m L c (by omega)]
  unfold wi2
  by_cases q:qs1 m (nL L c)=true
  ·rw[if_pos q]
   simp[List.filterMap,q]
  ·rw[if_neg q]
   have q:qs1 m (nL L c)=false:=by simpa using q
   simp[List.filterMap,q]
def xc2 (m:List (List Int)) (k:Nat):List (List Int):=(qa7 (nL m 0).length (k:Nat)).filterMap (wi2 m)
theorem w2r (m:List (List Int)):∀K,q15 m (nL m 0).length K=(List.range K).flatMap λ(k:Nat)=>(qa7 (nL m 0).length (k+1:Nat)).filterMap (x0m m)
 | 0=>rfl
 | K+1=>by
  rw[q15,w2r m K,List.range_succ,List.flatMap_append,wt0 m _ _ (Nat.le_refl _),List.take_length]
  simp
theorem xy7 {m:List (List Int)} {s:List Int} (hM:Mk m) (hs:Named (nL m 0).length s) (h1:0<s.length) (hr:s.length<=m.length+1):x0m m s=wi2 m s:=by
 have hok:q1x m s=true:=by
  unfold q1x
  rw[Bool.and_eq_true,decide_eq_true_eq,decide_eq_true_eq]
  omega
 unfold x0m wi2
 by_cases q:IsC m s
 ·rw[if_pos ((ws9 hM hs h1).2 q),if_pos ((q1v hM hs hok).2 q),xy6 hM hs h1 q]
 ·rw[if_neg λk=>q ((ws9 hM hs h1).1 k),if_neg λk=>q ((q1v hM hs hok).1 k)]
theorem xy8 {m:List (List Int)} (hM:Mk m):(qj6 m (qo3 (nL m 0).length)).2.length<=m.length:=by
 have hF:=(qk2 hM (Named.idx (nL m 0).length) (by rw[qe8]; exact hM.pix1))
 have:=hF.stP.pl
 unfold qj6
 rw[qt3]
 exact this
theorem w9i {m:List (List Int)} (hM:Mk m) {k:Nat} (hk:q3w m<=k) (hn:k<(nL m 0).length):xc2 m (k+1)=[]:=by
 unfold xc2
 rw[List.filterMap_eq_nil_iff]
 intro s hs
 obtain⟨hN,hl⟩:=qv8 hs
 unfold wi2
 rw[if_neg]
 intro q
 have hok:q1x m s=true:=by
  unfold qs1 at q
  rw[Bool.and_eq_true,Bool.and_eq_true] at q
  exact q.1.1
 have:=xl7 hM hN (by omega) ((q1v hM hN hok).1 q)
 unfold q3w at hk
 omega
theorem xl8 {m:List (List Int)} (h7:(nL m 0).length<=7):qg7 m (nL m 0).length (qe1 (nL m 0).length) (qe1 (nL m 0).length).length=(List.range (nL m 0).length).flatMap λk=>xc2 m (k+1):=by
 rw[q96 m _ _ (Nat.le_refl _),List.take_length,w87 h7,List.filterMap_flatMap,List.range_succ_eq_map,List.flatMap_cons]
 have e0:(qa7 ((nL m 0).length:Nat) (0:Nat)).filterMap (wi2 m)=[]:=by
  rw[List.filterMap_eq_nil_iff]
  intro s hs
  have hl:=(qv8 hs).2
  unfold wi2 qs1 q1x
  rw[hl]
  rfl
 refine(congrArg (λl=>l++_) e0).trans ?_
 rw[List.flatMap_map]
 rfl
theorem wt1 {f:Nat->List (List Int)} {K:Nat}:∀d,(∀k,K<=k->k<K+d->f k=[])->(List.range (K+d)).flatMap f=(List.range K).flatMap f
 | 0,_=>rfl
 | d+1,h=>by
  rw[<- Nat.add_assoc,List.range_succ,List.flatMap_append,wt1 d λk h1 h2=>h k h1 (by omega)]
  simp[h (K+d) (by omega) (by omega)]
theorem w2s {f g:List Int->Option (List Int)}:∀l:List (List Int),(∀x∈l,f x=g x)->l.filterMap f=l.filterMap g
 | [],_=>rfl
 | x :: l,h=>by rw[List.filterMap_cons,List.filterMap_cons,h x (by simp),w2s l λy hy=>h y (by simp[hy])]
theorem w2t {m:List (List Int)} (hv:validB m=true) (h7:(nL m 0).length<=7):q15 m (nL m 0).length (q3w m)=(List.range (nL m 0).length).flatMap λk=>xc2 m (k+1):=by
 have hM:=Mk.of hv
 have hcn:q3w m<=(nL m 0).length:=by unfold q3w; omega
 have e:=wt1 (f:=λk=>xc2 m (k+1)) (K:=q3w m) ((nL m 0).length-q3w m) λk h1 h2=>w9i hM h1 (by omega)
 rw[show q3w m+((nL m 0).length-q3w m)=(nL m 0).length by omega] at e
 rw[e,w2r]
 have hr:=xy8 hM
 have key:∀K,K<=q3w m->((List.range K).flatMap λ(k:Nat)=>(qa7 (nL m 0).length (k+1:Nat)).filterMap (x0m m))=(List.range K).flatMap λk=>xc2 m (k+1):=λK=>by
  induction K with
  | zero=>exact λ_=>rfl
  | succ K ih=>
   intro hK
   rw[List.range_succ,List.flatMap_append,List.flatMap_append,ih (by omega)]
   congr 1
   simp only[List.flatMap_cons,List.flatMap_nil,List.append_nil]
   unfold xc2
   refine w2s _ λs hs=>?_
   obtain⟨hN,hl⟩:=qv8 hs
   exact xy7 hM hN (by omega) (by unfold q3w at hK; omega)
 exact key _ (Nat.le_refl _)
end Go.Proofs.YtempacilejhbgaaGreat
