/- Circuits of a mask of at most seven pixels, and their shares. Plain mathematics. No condition. -/
import Derived.Test.YtempacilejhbgaaGreatW15
import Derived.Test.YtempacilejhbgaaGreatQ14
set_option linter.unusedVariables false
namespace Go.Proofs.YtempacilejhbgaaGreat
open Go Go.RowKit Eng
theorem qk1 {m:List (List Int)} {s:List Int} (hM:Mk m) (hs:Named (nL m 0).length s) (h1:0<s.length):Ones m.length s.length (qj3 m s):=by
 have hl:=hs.len
 have h10:=hM.pix10
 refine⟨⟨q7j m s,λi hi=>by rw[qz9 m s i hi,qt7]⟩,hM.rows1,hM.rows6,h1,by omega,λa c ha hc=>?_⟩
 rw[qz9 m s a ha,q1p _ _ _ hc]
 have:=hs.at_ c hc
 have:=hM.small a ha (nI s c).toNat (by omega)
 omega
theorem qt1 (m:List (List Int)) (s:List Int):q2v m s=qj3 m s:=by
 unfold q2v qc8 qj3
 simp
theorem w8c {m:List (List Int)} {s:List Int} (hM:Mk m) (hs:Named (nL m 0).length s) (h1:0<s.length):qk7 m s=qh6 m s:=by
 unfold qk7 qj5 qh6
 rw[qt1]
 exact(qk1 hM hs h1).kernel
theorem qo6 {n k:Nat} {s:List Int} (h:s∈qa4 (n:Nat) (k:Nat)):Named n s/\s.length=k:=by
 have hl:=(w75 h).1
 unfold qa4 at h
 split at h
 ·have hc:=w09 h
  have he:=hc.len
  simp only[Int.toNat_natCast] at hc he
  have step:∀d i,i+d+1<k->nI s i<nI s (i+d+1):=λd=>by
   induction d with
   | zero=>intro i hi; have:=hc.asc (i+1) (by omega) (by omega); simpa using this
   | succ d ih=>
    intro i hi
    have h1:=ih i (by omega)
    have h2:=hc.asc (i+(d+1)+1) (by omega) (by omega)
    rw[show i+(d+1)+1-1=i+d+1 by omega] at h2
    omega
  refine⟨⟨λj hj=>?_,λi j hij hj=>?_⟩,hl⟩
  ·have h1:=hc.lo j (by omega)
   have h2:=hc.hi j (by omega)
   omega
  ·have:=step (j-i-1) i (by omega)
   rwa [show i+(j-i-1)+1=j by omega] at this
 ·cases h
theorem q78:∀(m k:Nat) (a:Int) (l:List Int),l.length=k->(∀i,i<k->a<=nI l i/\nI l i<a+m)->(∀i j,i<j->j<k->nI l i<nI l j)->l∈qk3 m k a
 | m,0,a,l,hl,_,_=>by
  have:l=[]:=List.eq_nil_of_length_eq_zero hl
  rw[qw9,this]; simp
 | 0,k+1,a,l,hl,hb,_=>by
  have:=hb 0 (by omega)
  omega
 | m+1,k+1,a,l,hl,hb,ha=>by
  match l,hl with
  | x :: t,hl=>
  have hl:t.length=k:=by simpa using hl
  rw[qk3,List.mem_append,List.mem_map]
  by_cases e:x=a
  ·refine .inl ⟨t,q78 m k (a+1) t hl (λi hi=>?_) (λi j hij hj=>ha (i+1) (j+1) (by omega) (by omega)),by rw[e]⟩
   have h1:=hb (i+1) (by omega)
   have h2:=ha 0 (i+1) (by omega) (by omega)
   rw[qp6] at h1
   rw[qt8,qp6] at h2
   omega
  ·refine .inr (q78 m (k+1) (a+1) (x :: t) (by simp[hl]) (λi hi=>?_) ha)
   have h0:=hb 0 (by omega)
   rw[qt8] at h0
   have h1:=hb i hi
   rcases Nat.eq_zero_or_pos i with q | q
   ·rw[q,qt8]; omega
   ·have h2:=ha 0 i q hi
    rw[qt8] at h2
    omega
theorem w8d {n:Nat} {s:List Int} (h:Named n s):s∈qa4 (n:Nat) (s.length:Nat):=by
 have hl:=h.len
 unfold qa4
 rw[if_pos (by omega)]
 refine q78 _ _ _ _ (by rw[Int.toNat_natCast]) (λi hi=>?_) λi j hij hj=>h.asc i j hij (by simpa using hj)
 rw[Int.toNat_natCast] at hi
 have:=h.at_ i hi
 rw[Int.toNat_natCast]
 omega
theorem wx6 {n:Nat} (h7:n<=7) {s:List Int} (h:s∈qe2 n):Named n s:=by
 rw[w74 h7,List.mem_flatMap] at h
 obtain⟨k,_,hk⟩:=h
 exact(qo6 hk).1
theorem xg5 {m:List (List Int)} (hv:validB m=true):q5m m:=by
 have hM:=Mk.of hv
 have h1:=hM.pix1
 have h10:=hM.pix10
 refine⟨⟨?_⟩,λk hk set hset=>?_⟩
 ·have:=(qk1 hM (Named.idx _) (by rw[qf0]; exact h1)).redOk
  rw[qf0] at this
  rw[qt1]
  exact this
 ·obtain⟨hn,hl⟩:=qo6 hset
  have hO:=qk1 hM hn (by omega)
  refine⟨ChoOk.of hM hn λ_ _=>⟨trivial,Nat.zero_le _⟩,by rw[qt1]; exact hO.redOk,?_⟩
  unfold qj5
  rw[qt1]
  exact hO.kerAr
theorem q79 {n:Nat} {s v:List Int} (hs:Named n s):∀k,k<=s.length->∀j,j<k->nI (qd1 n s v k) (nI s j).toNat=nI v j
 | 0,_,j,hj=>absurd hj (Nat.not_lt_zero _)
 | k+1,hk,j,hj=>by
  have h1:=hs.at_ k (by omega)
  have h2:=hs.at_ j (by omega)
  rw[qd1,q5i _ (by rw[qj0]; omega)]
  rcases Nat.lt_succ_iff_lt_or_eq.1 hj with e | e
  ·have:=hs.asc j k e (by omega)
   rw[if_neg (by omega)]
   exact q79 hs k (by omega) j e
  ·rw[if_pos (by rw[e]),e]
theorem wh0 {n:Nat} {s v:List Int} (hs:Named n s) {c:Nat} (hc:∀j,j<s.length->nI s j≠(c:Int)):∀k,k<=s.length->nI (qd1 n s v k) c=0
 | 0,_=>xl0 n c
 | k+1,hk=>by
  have h1:=hs.at_ k (by omega)
  have h2:=hc k (by omega)
  rw[qd1,q5i _ (by rw[qj0]; omega),if_neg (by omega)]
  exact wh0 hs hc k (by omega)
theorem q8a {v:List Int}:∀k,k<=v.length->(qo4 v k=true↔∀c,c<k->nI v c≠0)
 | 0,_=>⟨λ_ c hc=>absurd hc (Nat.not_lt_zero _),λ_=>rfl⟩
 | k+1,hk=>by
  rw[qo4,Bool.and_eq_true,q8a k (by omega),bne_iff_ne]
  constructor
  ·rintro⟨h1,h2⟩ c hc
   rcases Nat.lt_succ_iff_lt_or_eq.1 hc with e | e
   ·exact h1 c e
   ·rw[e]; exact h2
  ·exact λh=>⟨λc hc=>h c (by omega),h k (by omega)⟩
theorem xg6 {v:List Int}:(v.any λe=>(0:Int)==e)=false↔∀c,c<v.length->nI v c≠0:=by
 rw[List.any_eq_false]
 constructor
 ·intro h c hc e
  have:=h _ (q90 hc)
  rw[e] at this
  exact this rfl
 ·intro h x hx q
  obtain⟨c,hc,rfl⟩:=q91 hx
  exact h c hc (beq_iff_eq.1 q).symm
structure IsC (m:List (List Int)) (s:List Int):Prop where
 one:(qh6 m s).length=1
 nz:∀c,c<s.length->nI (nL (qh6 m s) 0) c≠0
theorem q1x {m:List (List Int)} {s:List Int} (hM:Mk m) (hs:Named (nL m 0).length s) (hok:q18 m s=true):qs0 m s=true↔IsC m s:=by
 have h1:0<s.length:=by
  unfold q18 at hok
  rw[Bool.and_eq_true,decide_eq_true_eq] at hok
  omega
 have hO:=qk1 hM hs h1
 unfold qs0
 rw[hok,Bool.true_and,Bool.and_eq_true,decide_eq_true_eq]
 constructor
 ·rintro⟨a,b⟩
  have hl:=(hO.ker_small (qj4 (qg4 (qj3 m s)) 0 (by show 0<(qh6 m s).length; omega))).1
  exact⟨a,(q8a _ (by show s.length<=(nL (qg4 (qj3 m s)) 0).length; omega)).1 b⟩
 ·intro h
  have hl:=(hO.ker_small (qj4 (qg4 (qj3 m s)) 0 (by have:=h.one; show 0<(qh6 m s).length; omega))).1
  exact⟨h.one,(q8a _ (by show s.length<=(nL (qg4 (qj3 m s)) 0).length; omega)).2 h.nz⟩
theorem wq5 {m:List (List Int)} {s:List Int} (hM:Mk m) (hs:Named (nL m 0).length s) (h1:0<s.length):q8n (qk7 m s)=true↔IsC m s:=by
 have hO:=qk1 hM hs h1
 rw[w8c hM hs h1]
 unfold q8n
 rw[Bool.and_eq_true,decide_eq_true_eq,Bool.not_eq_true',xg6]
 constructor
 ·rintro⟨a,b⟩
  have hl:=(hO.ker_small (qj4 (qg4 (qj3 m s)) 0 (by show 0<(qh6 m s).length; omega))).1
  exact⟨a,λc hc=>b c (by show c<(nL (qg4 (qj3 m s)) 0).length; omega)⟩
 ·intro h
  have hl:=(hO.ker_small (qj4 (qg4 (qj3 m s)) 0 (by have:=h.one; show 0<(qh6 m s).length; omega))).1
  exact⟨h.one,λc hc=>h.nz c (by have:c<(nL (qg4 (qj3 m s)) 0).length:=hc; omega)⟩
theorem xs2 {l:List Int} (h:∀d:Nat,(∀c,c<l.length->d∣(nI l c).natAbs)->d=1):qe1 l=l:=by
 have h1:(gcdL l).natAbs=1:=h _ λc hc=>(x0v l 0).2.1 _ (q90 hc)
 unfold qe1
 rw[if_neg (by omega)]
theorem w8e (l:List Int):xc2 l=qi9 l (-1):=by
 refine List.ext_getElem (by rw[q53,qs9]) λi h1 h2=>?_
 rw[<- qf6 _ i h1,<- qf6 _ i h2,q92,q59]
 omega
theorem xs3 {m:List (List Int)} {s:List Int} (hM:Mk m) (hs:Named (nL m 0).length s) (h1:0<s.length) (hc:IsC m s):x1n m (nL m 0).length s=wp9 m (nL m 0).length s:=by
 have hO:=qk1 hM hs h1
 obtain⟨f,hf,hnp,ho,hv,hp⟩:=hO.one_free hc.one
 have hnz:=hc.nz
 unfold x1n wp9 q20
 rw[w8c hM hs h1]
 change KV _ _ _ _ _ (nL (qh6 m s) 0) at hv
 change Prim (nL (qh6 m s) 0) at hp
 generalize nL (qh6 m s) 0=v at *
 have hat:=λj (hj:j<s.length)=>q79 (v:=v) hs _ (Nat.le_refl _) j hj
 have ho2:∀c:Nat,(∀j,j<s.length->nI s j≠(c:Int))->nI (qd1 (nL m 0).length s v s.length) c=0:=λc hc=>wh0 hs hc _ (Nat.le_refl _)
 have hlen:=qj0 (nL m 0).length s v s.length
 generalize qd1 (nL m 0).length s v s.length=u at *
 have hsh:qe1 u=u:=xs2 λd hd=>hp.gcd hv.len hf hv.pos d λc hc=>by
  have h2:=hs.at_ c hc
  rw[<- hat c hc]
  exact hd _ (by omega)
 have h0:=hs.at_ 0 h1
 have hfst:qv8 u=nI s 0:=by
  have:=q9c (.int .i64) (λe=>e != 0) u (nI s 0).toNat (by omega) (λi hi=>by
   have:nI u i=0:=ho2 i λj hj e=>by
    rcases Nat.eq_zero_or_pos j with q | q
    ·rw[q] at e; omega
    ·have:=hs.asc 0 j q hj
     omega
   show(nI u i != 0)=false
   rw[this]; rfl) (by
   show(nI u (nI s 0).toNat != 0)=true
   rw[hat 0 h1]
   exact bne_iff_ne.2 (hnz 0 h1))
  unfold qv8
  rw[this]
  omega
 unfold q7g
 rw[hsh,hfst]
 by_cases q:nI u (nI s 0).toNat<0
 ·rw[if_pos ⟨h0.1,q⟩,if_pos q,w8e]
 ·rw[if_neg λk=>q k.2,if_neg q]
theorem w1u {N K:Nat} {A:Nat->Int} {σ:Nat->Nat} {w:Nat->Int} (hσ:∀q,q<K->σ q<N):(sm N λcol=>A col*sm K λq=>if σ q=col then w q else 0)=sm K λq=>A (σ q)*w q:=by
 have e:(sm N λcol=>A col*sm K λq=>if σ q=col then w q else 0)=sm N λcol=>sm K λq=>A col*if σ q=col then w q else 0:=qg5 λc hc=>by
  try dsimp only
  rw[qu1]
 rw[e,w7j]
 refine qg5 λq hq=>?_
 try dsimp only
 rw[qx2 (k:=σ q) (hσ q hq) λi hi hne=>by
  try dsimp only
  rw[if_neg (Ne.symm hne),Int.mul_zero]]
 try dsimp only
 rw[if_pos rfl]
theorem xg7 {m:List (List Int)} {s:List Int} (hM:Mk m) (hs:Named (nL m 0).length s) (h1:0<s.length):(qg8 (qj3 m s) s.length).piv.length<=(qj5 m (qn7 (nL m 0).length)).2.length:=Nat.le_of_not_lt λhgt=>by
 have hO:=qk1 hM hs h1
 have hF:=(qk1 hM (Named.idx (nL m 0).length) (by rw[qf0]; exact hM.pix1))
 have hstF:=hF.stP
 unfold qj5 at hgt
 rw[qt1] at hgt
 have hst:=hO.stR
 rw[qf0] at hstF hgt
 generalize qd3 (qj3 m (qn7 (nL m 0).length)) (nL m 0).length=F at hstF hgt
 obtain⟨rF,PF⟩:=F
 dsimp only at hstF hgt
 generalize(qg8 (qj3 m s) s.length).piv=P at hst hgt
 generalize(qg8 (qj3 m s) s.length).done_++(qg8 (qj3 m s) s.length).left=rows at hst
 have hpl:=hst.pl
 have hplF:=hstF.pl
 have hPs:∀q,q<P.length->(nI P q).toNat<s.length:=λq hq=>by have:=hst.pos q hq; omega
 have hσ:∀q,q<P.length->(nI s (nI P q).toNat).toNat<(nL m 0).length:=λq hq=>by have:=hs.at_ _ (hPs q hq); omega
 obtain⟨w,w1,q0,hq0,w2⟩:=wx3 (n:=PF.length) (W:=P.length) (λk q=>nI (nL rF k) (nI s (nI P q).toNat).toNat) hgt
 have hF2:Sol m.length (nL m 0).length (rowOf (qj3 m (qn7 (nL m 0).length))) λcol=>sm P.length λq=>if(nI s (nI P q).toNat).toNat=col then w q else 0:=(hstF.sol _).2 λi hi=>by
  rcases Nat.lt_or_ge i PF.length with q | q
  ·unfold dt
   rw[w1u hσ]
   exact w1 i q
  ·refine qu0 λc hc=>?_
   try dsimp only
   rw[hstF.zero i q hi c hc,Int.zero_mul]
 have hsub:Sol m.length s.length (rowOf (qj3 m s)) λc=>sm P.length λq=>if(nI P q).toNat=c then w q else 0:=λa ha=>by
  rw[w1u hPs]
  have e1:=hF2 a ha
  rw[w1u hσ] at e1
  rw[<- e1]
  refine qg5 λq hq=>?_
  have h2:=hs.at_ _ (hPs q hq)
  unfold rowOf
  rw[qz9 m s a ha,qz9 m _ a ha,q1p _ _ _ (hPs q hq),q1p _ _ _ (by rw[qf0]; exact hσ q hq),q04 _ _ (hσ q hq),Int.toNat_natCast]
 have e:=(hst.sol _).1 hsub q0 (by omega)
 unfold dt at e
 rw[w1u hPs,qx2 (k:=q0) hq0 λi hi hne=>by
  try dsimp only
  rw[(hst.pos i hi).2.2.2.2 q0 (by omega) (Ne.symm hne),Int.zero_mul]] at e
 exact w2 (qd8 e (by have:=(hst.pos q0 hq0).2.2.1; omega))
theorem xg8 {m:List (List Int)} {s:List Int} (hM:Mk m) (hs:Named (nL m 0).length s) (h1:0<s.length) (hc:IsC m s):s.length<=(qj5 m (qn7 (nL m 0).length)).2.length+1:=by
 have hO:=qk1 hM hs h1
 have hr:=xg7 hM hs h1
 obtain⟨f,hf,hnp,ho,_,_⟩:=hO.one_free hc.one
 generalize(qg8 (qj3 m s) s.length).piv=P at *
 refine Nat.le_of_not_lt λhgt=>?_
 have hx:∀a,∃q,a<s.length-1->q<P.length/\nI P q=(skp f a:Int):=λa=>by
  by_cases ha:a<s.length-1
  ·obtain⟨q,hq,e⟩:=ho (skp f a) (by have:=q7w (n:=s.length-1) (i:=f) ha; omega) (xk6 f a)
   exact⟨q,λ_=>⟨hq,e⟩⟩
  ·exact⟨0,λq=>absurd q ha⟩
 obtain⟨g,hg⟩:=Classical.axiomOfChoice hx
 obtain⟨i,j,k1,k2,k3⟩:=q7v P.length (s.length-1) g (λi hi=>(hg i hi).1) (by omega)
 have e1:=(hg i (by omega)).2
 have e2:=(hg j k2).2
 rw[k3] at e1
 have:skp f i=skp f j:=by omega
 unfold skp at this
 split at this <;> split at this <;> omega
def xu5 (m:List (List Int)) (s:List Int):Option (List Int):=if q8n (qk7 m s) then some (x1n m (nL m 0).length s) else none
def wh1 (m:List (List Int)) (s:List Int):Option (List Int):=if qs0 m s then some (wp9 m (nL m 0).length s) else none
theorem wq6 (m:List (List Int)) (L:List (List Int)):∀c,c<=L.length->qq9 m (nL m 0).length L c=(L.take c).filterMap (xu5 m)
 | 0,_=>rfl
 | c+1,hc=>by
  rw[qq9,takeL_snoc L c (by omega),List.filterMap_append,wq6 m L c (by omega)]
  unfold xu5
  by_cases q:q8n (qk7 m (nL L c))=true
  ·rw[if_pos q]
   simp[List.filterMap,q]
  ·rw[if_neg q]
   have q:q8n (qk7 m (nL L c))=false:=by simpa using q
   simp[List.filterMap,q]
theorem q96 (m:List (List Int)) (L:List (List Int)):∀c,c<=L.length->qg7 m (nL m 0).length L c=(L.take c).filterMap (wh1 m)
 | 0,_=>rfl
 | c+1,hc=>by
  rw[qg7,takeL_snoc L c (by omega),List.filterMap_append,q96 m L c (by omega)]
  unfold wh1
  by_cases q:qs0 m (nL L c)=true
  ·rw[if_pos q]
   simp[List.filterMap,q]
  ·rw[if_neg q]
   have q:qs0 m (nL L c)=false:=by simpa using q
   simp[List.filterMap,q]
def w9e (m:List (List Int)) (k:Nat):List (List Int):=(qa4 (nL m 0).length (k:Nat)).filterMap (wh1 m)
theorem w1w (m:List (List Int)):∀K,q2c m (nL m 0).length K=(List.range K).flatMap λ(k:Nat)=>(qa4 (nL m 0).length (k+1:Nat)).filterMap (xu5 m)
 | 0=>rfl
 | K+1=>by
  rw[q2c,w1w m K,List.range_succ,List.flatMap_append,wq6 m _ _ (Nat.le_refl _),List.take_length]
  simp
theorem xs4 {m:List (List Int)} {s:List Int} (hM:Mk m) (hs:Named (nL m 0).length s) (h1:0<s.length) (hr:s.length<=m.length+1):xu5 m s=wh1 m s:=by
 have hok:q18 m s=true:=by
  unfold q18
  rw[Bool.and_eq_true,decide_eq_true_eq,decide_eq_true_eq]
  omega
 unfold xu5 wh1
 by_cases q:IsC m s
 ·rw[if_pos ((wq5 hM hs h1).2 q),if_pos ((q1x hM hs hok).2 q),xs3 hM hs h1 q]
 ·rw[if_neg λk=>q ((wq5 hM hs h1).1 k),if_neg λk=>q ((q1x hM hs hok).1 k)]
theorem xs5 {m:List (List Int)} (hM:Mk m):(qj5 m (qn7 (nL m 0).length)).2.length<=m.length:=by
 have hF:=(qk1 hM (Named.idx (nL m 0).length) (by rw[qf0]; exact hM.pix1))
 have:=hF.stP.pl
 unfold qj5
 rw[qt1]
 exact this
theorem w8f {m:List (List Int)} (hM:Mk m) {k:Nat} (hk:q31 m<=k) (hn:k<(nL m 0).length):w9e m (k+1)=[]:=by
 unfold w9e
 rw[List.filterMap_eq_nil_iff]
 intro s hs
 obtain⟨hN,hl⟩:=qo6 hs
 unfold wh1
 rw[if_neg]
 intro q
 have hok:q18 m s=true:=by
  unfold qs0 at q
  rw[Bool.and_eq_true,Bool.and_eq_true] at q
  exact q.1.1
 have:=xg8 hM hN (by omega) ((q1x hM hN hok).1 q)
 unfold q31 at hk
 omega
theorem xg9 {m:List (List Int)} (h7:(nL m 0).length<=7):qg7 m (nL m 0).length (qe2 (nL m 0).length) (qe2 (nL m 0).length).length=(List.range (nL m 0).length).flatMap λk=>w9e m (k+1):=by
 rw[q96 m _ _ (Nat.le_refl _),List.take_length,w74 h7,List.filterMap_flatMap,List.range_succ_eq_map,List.flatMap_cons]
 have e0:(qa4 ((nL m 0).length:Nat) (0:Nat)).filterMap (wh1 m)=[]:=by
  rw[List.filterMap_eq_nil_iff]
  intro s hs
  have hl:=(qo6 hs).2
  unfold wh1 qs0 q18
  rw[hl]
  rfl
 refine(congrArg (λl=>l++_) e0).trans ?_
 rw[List.flatMap_map]
 rfl
theorem wq7 {f:Nat->List (List Int)} {K:Nat}:∀d,(∀k,K<=k->k<K+d->f k=[])->(List.range (K+d)).flatMap f=(List.range K).flatMap f
 | 0,_=>rfl
 | d+1,h=>by
  rw[<- Nat.add_assoc,List.range_succ,List.flatMap_append,wq7 d λk h1 h2=>h k h1 (by omega)]
  simp[h (K+d) (by omega) (by omega)]
theorem w1x {f g:List Int->Option (List Int)}:∀l:List (List Int),(∀x∈l,f x=g x)->l.filterMap f=l.filterMap g
 | [],_=>rfl
 | x :: l,h=>by rw[List.filterMap_cons,List.filterMap_cons,h x (by simp),w1x l λy hy=>h y (by simp[hy])]
theorem w1y {m:List (List Int)} (hv:validB m=true) (h7:(nL m 0).length<=7):q2c m (nL m 0).length (q31 m)=(List.range (nL m 0).length).flatMap λk=>w9e m (k+1):=by
 have hM:=Mk.of hv
 have hcn:q31 m<=(nL m 0).length:=by unfold q31; omega
 have e:=wq7 (f:=λk=>w9e m (k+1)) (K:=q31 m) ((nL m 0).length-q31 m) λk h1 h2=>w8f hM h1 (by omega)
 rw[show q31 m+((nL m 0).length-q31 m)=(nL m 0).length by omega] at e
 rw[e,w1w]
 have hr:=xs5 hM
 have key:∀K,K<=q31 m->((List.range K).flatMap λ(k:Nat)=>(qa4 (nL m 0).length (k+1:Nat)).filterMap (xu5 m))=(List.range K).flatMap λk=>w9e m (k+1):=λK=>by
  induction K with
  | zero=>exact λ_=>rfl
  | succ K ih=>
   intro hK
   rw[List.range_succ,List.flatMap_append,List.flatMap_append,ih (by omega)]
   congr 1
   simp only[List.flatMap_cons,List.flatMap_nil,List.append_nil]
   unfold w9e
   refine w1x _ λs hs=>?_
   obtain⟨hN,hl⟩:=qo6 hs
   exact xs4 hM hN (by omega) (by unfold q31 at hK; omega)
 exact key _ (Nat.le_refl _)
def xl2:Nat->(Nat->Int)->Nat
 | 0,_=>0
 | k+1,d=>if d k≠0 then xl2 k d+1 else xl2 k d
theorem w1z (l:List Int):∀k,nzTo l k=xl2 k (nI l)
 | 0=>rfl
 | k+1=>by rw[nzTo,xl2,w1z l k]
def ws1:Nat->(Nat->Int)->List Int
 | 0,_=>[]
 | k+1,d=>if d k≠0 then ws1 k d++[(k:Int)] else ws1 k d
theorem q6a (d:Nat->Int):∀k,(ws1 k d).length=xl2 k d
 | 0=>rfl
 | k+1=>by
  rw[ws1,xl2]
  split
  ·rw[List.length_append,q6a d k]; rfl
  ·exact q6a d k
theorem q1y (d:Nat->Int):∀k,Named k (ws1 k d)/\∀j,j<(ws1 k d).length->d (nI (ws1 k d) j).toNat≠0
 | 0=>⟨⟨λj hj=>absurd hj (Nat.not_lt_zero _),λi j _ hj=>absurd hj (Nat.not_lt_zero _)⟩,λj hj=>absurd hj (Nat.not_lt_zero _)⟩
 | k+1=>by
  obtain⟨h1,h2⟩:=q1y d k
  rw[ws1]
  by_cases q:d k≠0
  ·rw[if_pos q]
   have hl:(ws1 k d++[(k:Int)]).length=(ws1 k d).length+1:=by simp
   refine⟨⟨λj hj=>?_,λi j hij hj=>?_⟩,λj hj=>?_⟩
   ·rw[hl] at hj
    rcases Nat.lt_succ_iff_lt_or_eq.1 hj with e | e
    ·rw[qm7 _ _ e]; have:=h1.at_ j e; omega
    ·rw[e,qu2]; omega
   ·rw[hl] at hj
    rw[qm7 _ _ (show i<(ws1 k d).length by omega)]
    rcases Nat.lt_succ_iff_lt_or_eq.1 hj with e | e
    ·rw[qm7 _ _ e]; exact h1.asc i j hij e
    ·rw[e,qu2]; exact(h1.at_ i (by omega)).2
   ·rw[hl] at hj
    rcases Nat.lt_succ_iff_lt_or_eq.1 hj with e | e
    ·rw[qm7 _ _ e]; exact h2 j e
    ·rw[e,qu2,Int.toNat_natCast]; exact q
  ·rw[if_neg q]
   exact⟨⟨λj hj=>by have:=h1.at_ j hj; omega,h1.asc⟩,h2⟩
theorem w11 (d:Nat->Int):∀k c,c<k->d c≠0->∃j,j<(ws1 k d).length/\nI (ws1 k d) j=(c:Int)
 | k+1,c,hc,hd=>by
  rw[ws1]
  by_cases q:c=k
  ·rw[if_pos (by rw[<- q]; exact hd)]
   exact⟨(ws1 k d).length,by simp,by rw[qu2,q]⟩
  ·obtain⟨j,h1,h2⟩:=w11 d k c (by omega) hd
   split
   ·exact⟨j,by rw[List.length_append]; omega,by rw[qm7 _ _ h1]; exact h2⟩
   ·exact⟨j,h1,h2⟩
theorem Named.inj {n:Nat} {s:List Int} (h:Named n s) {i j:Nat} (hi:i<s.length) (hj:j<s.length) (e:(nI s i).toNat=(nI s j).toNat):i=j:=by
 have h1:=h.at_ i hi
 have h2:=h.at_ j hj
 rcases Nat.lt_trichotomy i j with q | q | q
 ·have:=h.asc i j q hj; omega
 ·exact q
 ·have:=h.asc j i q hi; omega
structure xh0 (m:List (List Int)) (s h:List Int):Prop where
 nam:Named (nL m 0).length s
 pos:0<s.length
 isc:IsC m s
 len:h.length=(nL m 0).length
 nz:xl2 (nL m 0).length (nI h)=s.length
 sol:Sol m.length (nL m 0).length (rowOf m) (nI h)
 on:∀j,j<s.length->nI h (nI s j).toNat≠0
 off:∀c,c<(nL m 0).length->(∀j,j<s.length->nI s j≠(c:Int))->nI h c=0
 small:∀c,(nI h c).natAbs<=160
theorem x0x {N:Nat} {s:List Int} (hs:Named N s) {d:Nat->Int} (hon:∀j,j<s.length->d (nI s j).toNat≠0) (hoff:∀c,c<N->(∀j,j<s.length->nI s j≠(c:Int))->d c=0):xl2 N d=s.length:=by
 have h1:=(q1y d N).1
 have h2:=(q1y d N).2
 have h3:=w11 d N
 rw[<- q6a]
 have sub:∀(s t:List Int),Named N s->Named N t->(∀j,j<s.length->∃i,i<t.length/\nI t i=nI s j)->s.length<=t.length:=λs t hs ht h=>Nat.le_of_not_lt λhgt=>by
  have hx:∀j,∃i,j<s.length->i<t.length/\nI t i=nI s j:=λj=>by
   by_cases hj:j<s.length
   ·obtain⟨i,hi⟩:=h j hj; exact⟨i,λ_=>hi⟩
   ·exact⟨0,λq=>absurd q hj⟩
  obtain⟨g,hg⟩:=Classical.axiomOfChoice hx
  obtain⟨i,j,k1,k2,k3⟩:=q7v t.length s.length g (λi hi=>(hg i hi).1) hgt
  have e1:=(hg i (by omega)).2
  have e2:=(hg j k2).2
  rw[k3] at e1
  have:=hs.asc i j k1 k2
  omega
 refine Nat.le_antisymm (sub _ _ h1 hs λj hj=>?_) (sub _ _ hs h1 λj hj=>?_)
 ·have hb:=h1.at_ j hj
  refine Classical.byContradiction λq=>h2 j hj (hoff _ (by omega) λi hi e=>q ⟨i,hi,by omega⟩)
 ·have hb:=hs.at_ j hj
  obtain⟨i,hi,e⟩:=h3 _ (by omega) (hon j hj)
  exact⟨i,hi,by omega⟩
theorem xs6 {m:List (List Int)} {s:List Int} (hM:Mk m) (hs:Named (nL m 0).length s) (h1:0<s.length) (hc:IsC m s):xh0 m s (wp9 m (nL m 0).length s):=by
 have hO:=qk1 hM hs h1
 obtain⟨f,hf,hnp,ho,hv,hp⟩:=hO.one_free hc.one
 have hsm:=(hO.ker_small (qj4 (qg4 (qj3 m s)) 0 (by have:=hc.one; show 0<(qh6 m s).length; omega))).2
 have hnz:=hc.nz
 unfold wp9 q20
 change KV _ _ _ _ _ (nL (qh6 m s) 0) at hv
 change Prim (nL (qh6 m s) 0) at hp
 change ∀x∈nL (qh6 m s) 0,_ at hsm
 generalize nL (qh6 m s) 0=v at *
 have hat:=λj (hj:j<s.length)=>q79 (v:=v) hs _ (Nat.le_refl _) j hj
 have ho2:∀c:Nat,(∀j,j<s.length->nI s j≠(c:Int))->nI (qd1 (nL m 0).length s v s.length) c=0:=λc hc=>wh0 hs hc _ (Nat.le_refl _)
 have hlen:=qj0 (nL m 0).length s v s.length
 generalize qd1 (nL m 0).length s v s.length=u at *
 have hsW:∀c,c<s.length->(nI s c).toNat<(nL m 0).length:=λc hc=>by have:=hs.at_ c hc; omega
 have hsol:Sol m.length (nL m 0).length (rowOf m) (nI u):=λa ha=>by
  rw[wg7 s.length (f:=λc=>rowOf m a c*nI u c) (τ:=λc=>(nI s c).toNat) hsW (λq k hq hk e=>hs.inj hq hk e) λb hb hq=>by
   try dsimp only
   rw[ho2 b λj hj e=>hq j hj (by(try dsimp only); rw[e,Int.toNat_natCast]),Int.mul_zero]]
  rw[<- hv.sol a ha]
  refine qg5 λc hc=>?_
  try dsimp only
  unfold rowOf
  rw[hat c hc,qz9 m s a ha,q1p _ _ _ hc]
 have hsmall:∀c,(nI u c).natAbs<=160:=λc=>by
  by_cases q:∃j,j<s.length/\nI s j=(c:Int)
  ·obtain⟨j,hj,e⟩:=q
   have:=hat j hj
   rw[e,Int.toNat_natCast] at this
   rw[this]
   exact hsm _ (q90 (by rw[hv.len]; exact hj))
  ·rw[ho2 c λj hj e=>q ⟨j,hj,e⟩]; decide
 have both:∀h:List Int,h.length=u.length->∀sg:Int,(sg=1\/sg=-1)->(∀c,nI h c=nI u c*sg)->xh0 m s h:=λh hl sg hsg he=>by
  have hsg0:sg≠0:=by rcases hsg with rfl | rfl <;> decide
  have hon:∀j,j<s.length->nI h (nI s j).toNat≠0:=λj hj=>by
   rw[he,hat j hj]; exact qv4 (hnz j hj) hsg0
  have hoff:∀c,c<(nL m 0).length->(∀j,j<s.length->nI s j≠(c:Int))->nI h c=0:=λc hc hj=>by
   rw[he,ho2 c hj,Int.zero_mul]
  refine⟨hs,h1,hc,by omega,x0x hs hon hoff,λa ha=>?_,hon,hoff,λc=>?_⟩
  ·have e:=hsol a ha
   have e2:(sm (nL m 0).length λc=>rowOf m a c*nI h c)=sg*sm (nL m 0).length λc=>rowOf m a c*nI u c:=by
    rw[<- qu1]
    refine qg5 λc hc=>?_
    try dsimp only
    rw[he]; grind
   rw[e2,e,Int.mul_zero]
  ·rw[he,Int.natAbs_mul]
   have:=hsmall c
   rcases hsg with rfl | rfl
   ·simpa using this
   ·simpa using this
 split
 ·exact both _ (qs9 _ _) (-1) (.inr rfl) λc=>q59 u (-1) c
 ·exact both _ rfl 1 (.inl rfl) λc=>by omega
theorem xh1 {m:List (List Int)} (hM:Mk m) {k:Nat} {h:List Int} (hh:h∈w9e m k):∃s,xh0 m s h/\s.length=k:=by
 unfold w9e at hh
 rw[List.mem_filterMap] at hh
 obtain⟨s,hs,e⟩:=hh
 obtain⟨hN,hl⟩:=qo6 hs
 unfold wh1 at e
 split at e
 ·rename_i q
  obtain rfl:=Option.some.inj e
  have hok:q18 m s=true:=by
   have q:=q
   unfold qs0 at q
   rw[Bool.and_eq_true,Bool.and_eq_true] at q
   exact q.1.1
  have h1:0<s.length:=by
   unfold q18 at hok
   rw[Bool.and_eq_true,decide_eq_true_eq] at hok
   omega
  exact⟨s,xs6 hM hN h1 ((q1x hM hN hok).1 q),hl⟩
 ·cases e
end Go.Proofs.YtempacilejhbgaaGreat
set_option linter.unusedSimpArgs false
namespace Go.Proofs.YtempacilejhbgaaGreat
open Go Go.RowKit Eng
theorem xh2 {m:List (List Int)} (hv:validB m=true) (h7:(nL m 0).length<=7):(qa9 m).1=(List.range (nL m 0).length).flatMap λk=>w9e m (k+1):=by
 have e1:qa9 m=(q2c m (nL m 0).length (q31 m),0):=by simp[qa9,hv]
 rw[e1]
 exact w1y hv h7
theorem x0y {m:List (List Int)} (hv:validB m=true) (h7:(nL m 0).length<=7) {h:List Int} (hh:h∈(qa9 m).1):∃s,xh0 m s h:=by
 rw[xh2 hv h7,List.mem_flatMap] at hh
 obtain⟨k,_,hk⟩:=hh
 obtain⟨s,hs,_⟩:=xh1 (Mk.of hv) hk
 exact⟨s,hs⟩
theorem wh2 {m:List (List Int)} (hv:validB m=true) {s h:List Int} (hc:xh0 m s h):HOk h:=by
 have:=(Mk.of hv).pix10
 refine⟨by rw[hc.len]; omega,λi=>?_⟩
 have:=hc.small i
 unfold qd5; omega
theorem w8g (h:List Int):∀k,q17 h k=sm k λi=>qp1 (nI h i)
 | 0=>rfl
 | k+1=>by rw[q17,w8g h k]; rfl
theorem wq8 {n:Nat} {f:Nat->Int} (h:∀i,i<n->0<=f i):0<=sm n f:=by
 induction n with
 | zero=>exact Int.le_refl _
 | succ n ih=>
  have h1:=ih λi hi=>h i (by omega)
  have h2:=h n (by omega)
  show 0<=sm n f+f n
  omega
theorem x0z {n:Nat} {f:Nat->Int} (h:∀i,i<n->0<=f i) {k:Nat} (hk:k<n) (hf:0<f k):0<sm n f:=by
 induction n with
 | zero=>omega
 | succ n ih=>
  have h2:=h n (by omega)
  have h1:=wq8 (n:=n) λi hi=>h i (by omega)
  show 0<sm n f+f n
  rcases Nat.lt_succ_iff_lt_or_eq.1 hk with e | e
  ·have:=ih (λi hi=>h i (by omega)) e; omega
  ·subst e; omega
theorem q8b (x:Int):0<=qp1 x:=Int.natCast_nonneg _
theorem x00 {h:List Int} {i:Nat} (hi:i<h.length) (hx:nI h i≠0):0<szL h:=by
 unfold szL
 rw[w8g]
 refine x0z (λi _=>q8b _) hi ?_
 show 0<qp1 (nI h i)
 unfold qp1; omega
theorem w8h {m:List (List Int)} {s h:List Int} (hc:xh0 m s h):0<szL h:=by
 have h1:=hc.nam.at_ 0 hc.pos
 exact x00 (i:=(nI s 0).toNat) (by rw[hc.len]; omega) (hc.on 0 hc.pos)
theorem xh3 {l:List Int} {j:Nat} (h:j+1<l.length):(swp l j).Perm l:=by
 unfold swp
 rw[qf6 l j (by omega),qf6 l (j+1) h]
 have e1:l=l.take j++l[j] :: l[j+1] :: l.drop (j+2):=by
  rw[<- List.drop_eq_getElem_cons h,<- List.drop_eq_getElem_cons (by omega),List.take_append_drop]
 generalize hx:l[j]=x at *
 generalize hy:l[j+1]=y at *
 have hlt:(l.take j).length=j:=by rw[List.length_take]; omega
 generalize l.take j=a at *
 generalize l.drop (j+2)=b at *
 subst e1
 have e2:(a++x :: y :: b).set (j+1) x=a++x :: x :: b:=by
  rw[List.set_append_right _ _ (by omega),hlt,show j+1-j=1 by omega]; rfl
 have e3:(a++x :: x :: b).set j y=a++y :: x :: b:=by
  rw[List.set_append_right _ _ (by omega),hlt,Nat.sub_self]; rfl
 rw[e2,e3]
 exact List.Perm.append_left a (List.Perm.swap x y b)
theorem wq9 (f:Int->Int->Int):∀(j:Nat) (l:List Int),j<l.length->(qv3 f j l).Perm l
 | 0,l,_=>List.Perm.refl l
 | j+1,l,h=>by
  rw[qv3]
  split
  ·exact(wq9 f j (swp l j) (by rw[q7r]; omega)).trans (xh3 h)
  ·exact List.Perm.refl l
theorem w13 (f:Int->Int->Int) (l:List Int):∀k,k<l.length\/k=0->(qu4 f l k).Perm l
 | 0,_=>List.Perm.refl l
 | k+1,h=>by
  have h1:=(q0d f l k (by omega)).1
  exact(wq9 f (k+1) (qu4 f l k) (by omega)).trans (w13 f l k (by omega))
theorem w14 {l:List Int} {j i:Nat} (h:j+1<l.length):nI (swp l j) i=if i=j then nI l (j+1) else if i=j+1 then nI l j else nI l i:=by
 unfold swp
 by_cases e:i=j
 ·subst e
  rw[if_pos rfl]
  exact qs1 (t:=.int .i64) _ _ _ (by rw[List.length_set]; omega)
 ·rw[if_neg e]
  refine(qy1 (t:=.int .i64) _ _ _ _ e).trans ?_
  by_cases e2:i=j+1
  ·subst e2
   rw[if_pos rfl]
   exact qs1 (t:=.int .i64) _ _ _ (by omega)
  ·rw[if_neg e2]
   exact qy1 (t:=.int .i64) _ _ _ _ e2
structure x01 (v:Int->Int) (l:List Int) (j n:Nat):Prop where
 lo:∀a b,a<b->b<n->a≠j->b≠j->v (nI l b)<=v (nI l a)
 hi:∀b,j<b->b<n->v (nI l b)<=v (nI l j)
theorem wr0 {v:Int->Int} {n:Nat}:∀(j:Nat) (l:List Int),j<n->n<=l.length->x01 v l j n->∀a b,a<b->b<n->v (nI (qv3 (λx y=>v y-v x) j l) b)<=v (nI (qv3 (λx y=>v y-v x) j l) a)
 | 0,l,hj,hn,h=>λa b hab hb=>by
  show v (nI l b)<=v (nI l a)
  by_cases e:a=0
  ·subst e; exact h.hi b hab hb
  ·exact h.lo a b hab hb e (by omega)
 | j+1,l,hj,hn,h=>λa b hab hb=>by
  rw[qv3]
  split
  ·rename_i hc
   refine wr0 j (swp l j) (by omega) (by rw[q7r]; omega) ⟨λa b hab hb ha hb'=>?_,λb hjb hb=>?_⟩ a b hab hb
   ·rw[w14 (by omega),w14 (by omega),if_neg ha,if_neg hb']
    by_cases e1:b=j+1
    ·rw[if_pos e1,if_neg (by omega)]
     exact h.lo a j (by omega) (by omega) (by omega) (by omega)
    ·rw[if_neg e1]
     by_cases e2:a=j+1
     ·rw[if_pos e2]
      exact h.lo j b (by omega) hb (by omega) e1
     ·rw[if_neg e2]; exact h.lo a b hab hb e2 e1
   ·rw[w14 (by omega),w14 (by omega),if_neg (by omega),if_pos rfl]
    by_cases e1:b=j+1
    ·rw[if_pos e1]
     omega
    ·rw[if_neg e1]; exact h.hi b (by omega) hb
  ·rename_i hc
   have hge:v (nI l (j+1))<=v (nI l j):=by omega
   by_cases e1:b=j+1
   ·subst e1
    by_cases e2:a=j
    ·subst e2; exact hge
    ·exact Int.le_trans hge (h.lo a j (by omega) (by omega) (by omega) (by omega))
   ·by_cases e2:a=j+1
    ·subst e2; exact h.hi b hab hb
    ·exact h.lo a b hab hb e2 e1
theorem w15 {v:Int->Int} (l:List Int):∀k,k<l.length->∀a b,a<b->b<k+1->v (nI (qu4 (λx y=>v y-v x) l k) b)<=v (nI (qu4 (λx y=>v y-v x) l k) a)
 | 0,_=>λa b hab hb=>by omega
 | k+1,hk=>by
  have h1:=w15 (v:=v) l k (by omega)
  have h2:=(q0d (λx y=>v y-v x) l k (by omega)).1
  rw[qu4]
  exact wr0 (k+1) _ (by omega) (by omega) ⟨λa b hab hb ha hb'=>h1 a b hab (by omega),λb h3 h4=>by omega⟩
end Go.Proofs.YtempacilejhbgaaGreat
