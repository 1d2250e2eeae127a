/- The circuits of the program and of the reference are the same lists. Plain mathematics. No condition. -/
import Derived.Test.YtempacilejhbgaaW15
set_option linter.unusedVariables false
namespace Go.Proofs.Ytempacilejhbgaa
open Go Go.RowKit Eng
theorem qi9 {m:List (List Int)} {s:List Int} (hM:Mk m) (hs:Named (nL m 0).length s) (h1:0<s.length):Ones m.length s.length (qn4 m s):=by
 have hl:=hs.len
 have h10:=hM.pix10
 refine⟨⟨we7 m s,λi hi=>by rw[qx0 m s i hi,qo5]⟩,hM.rows1,hM.rows6,h1,by omega,λa c ha hc=>?_⟩
 rw[qx0 m s a ha,qq0 _ _ _ hc]
 have:=hs.at_ c hc
 have:=hM.small a ha (nI s c).toNat (by omega)
 omega
theorem qq6 (m:List (List Int)) (s:List Int):q1e m s=qn4 m s:=by
 unfold q1e qb5 qn4
 simp
theorem w5a {m:List (List Int)} {s:List Int} (hM:Mk m) (hs:Named (nL m 0).length s) (h1:0<s.length):qj3 m s=qx3 m s:=by
 unfold qj3 qh9 qx3
 rw[qq6]
 exact(qi9 hM hs h1).kernel
theorem q4e {n k:Nat} {s:List Int} (h:s∈qg1 (n:Nat) (k:Nat)):Named n s/\s.length=k:=by
 have hl:=(w44 h).1
 unfold qg1 at h
 split at h
 ·have hc:=ws6 h
  have he:=hc.len
  simp only[Int.toNat_natCast] at hc he
  have step:∀d i,i+d+1<k->nI s i<nI s (i+d+1):=λd=>by
   induction d with
   | zero=>intro i hi; have:=hc.asc (i+1) (by omega) (by omega); simpa using this
   | succ d ih=>
    intro i hi
    have h1:=ih i (by omega)
    have h2:=hc.asc (i+(d+1)+1) (by omega) (by omega)
    rw[show i+(d+1)+1-1=i+d+1 by omega] at h2
    omega
  refine⟨⟨λj hj=>?_,λi j hij hj=>?_⟩,hl⟩
  ·have h1:=hc.lo j (by omega)
   have h2:=hc.hi j (by omega)
   omega
  ·have:=step (j-i-1) i (by omega)
   rwa [show i+(j-i-1)+1=j by omega] at this
 ·cases h
theorem q6g:∀(m k:Nat) (a:Int) (l:List Int),l.length=k->(∀i,i<k->a<=nI l i/\nI l i<a+m)->(∀i j,i<j->j<k->nI l i<nI l j)->l∈qm4 m k a
 | m,0,a,l,hl,_,_=>by
  have:l=[]:=List.eq_nil_of_length_eq_zero hl
  rw[w0o,this]; simp
 | 0,k+1,a,l,hl,hb,_=>by
  have:=hb 0 (by omega)
  omega
 | m+1,k+1,a,l,hl,hb,ha=>by
  match l,hl with
  | x :: t,hl=>
  have hl:t.length=k:=by simpa using hl
  rw[qm4,List.mem_append,List.mem_map]
  by_cases e:x=a
  ·refine .inl ⟨t,q6g m k (a+1) t hl (λi hi=>?_) (λi j hij hj=>ha (i+1) (j+1) (by omega) (by omega)),by rw[e]⟩
   have h1:=hb (i+1) (by omega)
   have h2:=ha 0 (i+1) (by omega) (by omega)
   rw[qp0] at h1
   rw[qr4,qp0] at h2
   omega
  ·refine .inr (q6g m (k+1) (a+1) (x :: t) (by simp[hl]) (λi hi=>?_) ha)
   have h0:=hb 0 (by omega)
   rw[qr4] at h0
   have h1:=hb i hi
   rcases Nat.eq_zero_or_pos i with q | q
   ·rw[q,qr4]; omega
   ·have h2:=ha 0 i q hi
    rw[qr4] at h2
    omega
theorem w5b {n:Nat} {s:List Int} (h:Named n s):s∈qg1 (n:Nat) (s.length:Nat):=by
 have hl:=h.len
 unfold qg1
 rw[if_pos (by omega)]
 refine q6g _ _ _ _ (by rw[Int.toNat_natCast]) (λi hi=>?_) λi j hij hj=>h.asc i j hij (by simpa using hj)
 rw[Int.toNat_natCast] at hi
 have:=h.at_ i hi
 rw[Int.toNat_natCast]
 omega
theorem xv6 {m:List (List Int)} (hv:qb9 m=true):q9a m:=by
 have hM:=Mk.of hv
 have h1:=hM.pix1
 have h10:=hM.pix10
 refine⟨⟨?_⟩,λk hk set hset=>?_⟩
 ·have:=(qi9 hM (Named.idx _) (by rw[qe5]; exact h1)).redOk
  rw[qe5] at this
  rw[qq6]
  exact this
 ·obtain⟨hn,hl⟩:=q4e hset
  have hO:=qi9 hM hn (by omega)
  refine⟨ChoOk.of hM hn λ_ _=>⟨trivial,Nat.zero_le _⟩,by rw[qq6]; exact hO.redOk,?_⟩
  unfold qh9
  rw[qq6]
  exact hO.kerAr
theorem q6h {n:Nat} {s v:List Int} (hs:Named n s):∀k,k<=s.length->∀j,j<k->nI (qf5 n s v k) (nI s j).toNat=nI v j
 | 0,_,j,hj=>absurd hj (Nat.not_lt_zero _)
 | k+1,hk,j,hj=>by
  have h1:=hs.at_ k (by omega)
  have h2:=hs.at_ j (by omega)
  rw[qf5,q6d _ (by rw[qj4]; omega)]
  rcases Nat.lt_succ_iff_lt_or_eq.1 hj with e | e
  ·have:=hs.asc j k e (by omega)
   rw[if_neg (by omega)]
   exact q6h hs k (by omega) j e
  ·rw[if_pos (by rw[e]),e]
theorem q9p {n:Nat} {s v:List Int} (hs:Named n s) {c:Nat} (hc:∀j,j<s.length->nI s j≠(c:Int)):∀k,k<=s.length->nI (qf5 n s v k) c=0
 | 0,_=>w9s n c
 | k+1,hk=>by
  have h1:=hs.at_ k (by omega)
  have h2:=hc k (by omega)
  rw[qf5,q6d _ (by rw[qj4]; omega),if_neg (by omega)]
  exact q9p hs hc k (by omega)
theorem q6i {v:List Int}:∀k,k<=v.length->(q9m v k=true↔∀c,c<k->nI v c≠0)
 | 0,_=>⟨λ_ c hc=>absurd hc (Nat.not_lt_zero _),λ_=>rfl⟩
 | k+1,hk=>by
  rw[q9m,Bool.and_eq_true,q6i k (by omega),bne_iff_ne]
  constructor
  ·rintro⟨h1,h2⟩ c hc
   rcases Nat.lt_succ_iff_lt_or_eq.1 hc with e | e
   ·exact h1 c e
   ·rw[e]; exact h2
  ·exact λh=>⟨λc hc=>h c (by omega),h k (by omega)⟩
theorem w8m {v:List Int}:(v.any λe=>(0:Int)==e)=false↔∀c,c<v.length->nI v c≠0:=by
 rw[List.any_eq_false]
 constructor
 ·intro h c hc e
  have:=h _ (q6a hc)
  rw[e] at this
  exact this rfl
 ·intro h x hx q
  obtain⟨c,hc,rfl⟩:=wh3 hx
  exact h c hc (beq_iff_eq.1 q).symm
structure IsC (m:List (List Int)) (s:List Int):Prop where
 one:(qx3 m s).length=1
 nz:∀c,c<s.length->nI (nL (qx3 m s) 0) c≠0
theorem qv1 {m:List (List Int)} {s:List Int} (hM:Mk m) (hs:Named (nL m 0).length s) (hok:q6v m s=true):wh1 m s=true↔IsC m s:=by
 have h1:0<s.length:=by
  unfold q6v at hok
  rw[Bool.and_eq_true,decide_eq_true_eq] at hok
  omega
 have hO:=qi9 hM hs h1
 unfold wh1
 rw[hok,Bool.true_and,Bool.and_eq_true,decide_eq_true_eq]
 constructor
 ·rintro⟨a,b⟩
  have hl:=(hO.ker_small (qs7 (qi2 (qn4 m s)) 0 (by show 0<(qx3 m s).length; omega))).1
  exact⟨a,(q6i _ (by show s.length<=(nL (qi2 (qn4 m s)) 0).length; omega)).1 b⟩
 ·intro h
  have hl:=(hO.ker_small (qs7 (qi2 (qn4 m s)) 0 (by have:=h.one; show 0<(qx3 m s).length; omega))).1
  exact⟨h.one,(q6i _ (by show s.length<=(nL (qi2 (qn4 m s)) 0).length; omega)).2 h.nz⟩
theorem wh8 {m:List (List Int)} {s:List Int} (hM:Mk m) (hs:Named (nL m 0).length s) (h1:0<s.length):q6t (qj3 m s)=true↔IsC m s:=by
 have hO:=qi9 hM hs h1
 rw[w5a hM hs h1]
 unfold q6t
 rw[Bool.and_eq_true,decide_eq_true_eq,Bool.not_eq_true',w8m]
 constructor
 ·rintro⟨a,b⟩
  have hl:=(hO.ker_small (qs7 (qi2 (qn4 m s)) 0 (by show 0<(qx3 m s).length; omega))).1
  exact⟨a,λc hc=>b c (by show c<(nL (qi2 (qn4 m s)) 0).length; omega)⟩
 ·intro h
  have hl:=(hO.ker_small (qs7 (qi2 (qn4 m s)) 0 (by have:=h.one; show 0<(qx3 m s).length; omega))).1
  exact⟨h.one,λc hc=>h.nz c (by have:c<(nL (qi2 (qn4 m s)) 0).length:=hc; omega)⟩
theorem xg0 {l:List Int} (h:∀d:Nat,(∀c,c<l.length->d∣(nI l c).natAbs)->d=1):qd4 l=l:=by
 have h1:(gcdL l).natAbs=1:=h _ λc hc=>(xn5 l 0).2.1 _ (q6a hc)
 unfold qd4
 rw[if_neg (by omega)]
theorem w5c (l:List Int):w7r l=q5q l (-1):=by
 refine List.ext_getElem (by rw[q33,qu5]) λi h1 h2=>?_
 rw[<- qf9 _ i h1,<- qf9 _ i h2,q7v,q4d]
 omega
theorem xg1 {m:List (List Int)} {s:List Int} (hM:Mk m) (hs:Named (nL m 0).length s) (h1:0<s.length) (hc:IsC m s):xp1 m (nL m 0).length s=w08 m (nL m 0).length s:=by
 have hO:=qi9 hM hs h1
 obtain⟨f,hf,hnp,ho,hv,hp⟩:=hO.one_free hc.one
 have hnz:=hc.nz
 unfold xp1 w08 q59
 rw[w5a hM hs h1]
 change KV _ _ _ _ _ (nL (qx3 m s) 0) at hv
 change Prim (nL (qx3 m s) 0) at hp
 generalize nL (qx3 m s) 0=v at *
 have hat:=λj (hj:j<s.length)=>q6h (v:=v) hs _ (Nat.le_refl _) j hj
 have ho2:∀c:Nat,(∀j,j<s.length->nI s j≠(c:Int))->nI (qf5 (nL m 0).length s v s.length) c=0:=λc hc=>q9p hs hc _ (Nat.le_refl _)
 have hlen:=qj4 (nL m 0).length s v s.length
 generalize qf5 (nL m 0).length s v s.length=u at *
 have hsh:qd4 u=u:=xg0 λd hd=>hp.gcd hv.len hf hv.pos d λc hc=>by
  have h2:=hs.at_ c hc
  rw[<- hat c hc]
  exact hd _ (by omega)
 have h0:=hs.at_ 0 h1
 have hfst:qt4 u=nI s 0:=by
  have:=ws4 (.int .i64) (λe=>e != 0) u (nI s 0).toNat (by omega) (λi hi=>by
   have:nI u i=0:=ho2 i λj hj e=>by
    rcases Nat.eq_zero_or_pos j with q | q
    ·rw[q] at e; omega
    ·have:=hs.asc 0 j q hj
     omega
   show(nI u i != 0)=false
   rw[this]; rfl) (by
   show(nI u (nI s 0).toNat != 0)=true
   rw[hat 0 h1]
   exact bne_iff_ne.2 (hnz 0 h1))
  unfold qt4
  rw[this]
  omega
 unfold q5n
 rw[hsh,hfst]
 by_cases q:nI u (nI s 0).toNat<0
 ·rw[if_pos ⟨h0.1,q⟩,if_pos q,w5c]
 ·rw[if_neg λk=>q k.2,if_neg q]
theorem wh9 {N K:Nat} {A:Nat->Int} {σ:Nat->Nat} {w:Nat->Int} (hσ:∀q,q<K->σ q<N):(sm N λcol=>A col*sm K λq=>if σ q=col then w q else 0)=sm K λq=>A (σ q)*w q:=by
 have e:(sm N λcol=>A col*sm K λq=>if σ q=col then w q else 0)=sm N λcol=>sm K λq=>A col*if σ q=col then w q else 0:=qe0 λc hc=>by
  try dsimp only
  rw[qi8]
 rw[e,w4o]
 refine qe0 λq hq=>?_
 try dsimp only
 rw[qr7 (k:=σ q) (hσ q hq) λi hi hne=>by
  try dsimp only
  rw[if_neg (Ne.symm hne),Int.mul_zero]]
 try dsimp only
 rw[if_pos rfl]
theorem w8n {m:List (List Int)} {s:List Int} (hM:Mk m) (hs:Named (nL m 0).length s) (h1:0<s.length):(qk4 (qn4 m s) s.length).piv.length<=(qh9 m (qm5 (nL m 0).length)).2.length:=Nat.le_of_not_lt λhgt=>by
 have hO:=qi9 hM hs h1
 have hF:=(qi9 hM (Named.idx (nL m 0).length) (by rw[qe5]; exact hM.pix1))
 have hstF:=hF.stP
 unfold qh9 at hgt
 rw[qq6] at hgt
 have hst:=hO.stR
 rw[qe5] at hstF hgt
 generalize qc9 (qn4 m (qm5 (nL m 0).length)) (nL m 0).length=F at hstF hgt
 obtain⟨rF,PF⟩:=F
 dsimp only at hstF hgt
 generalize(qk4 (qn4 m s) s.length).piv=P at hst hgt
 generalize(qk4 (qn4 m s) s.length).done_++(qk4 (qn4 m s) s.length).left=rows at hst
 have hpl:=hst.pl
 have hplF:=hstF.pl
 have hPs:∀q,q<P.length->(nI P q).toNat<s.length:=λq hq=>by have:=hst.pos q hq; omega
 have hσ:∀q,q<P.length->(nI s (nI P q).toNat).toNat<(nL m 0).length:=λq hq=>by have:=hs.at_ _ (hPs q hq); omega
 obtain⟨w,w1,q0,hq0,w2⟩:=wm4 (n:=PF.length) (W:=P.length) (λk q=>nI (nL rF k) (nI s (nI P q).toNat).toNat) hgt
 have hF2:Sol m.length (nL m 0).length (rowOf (qn4 m (qm5 (nL m 0).length))) λcol=>sm P.length λq=>if(nI s (nI P q).toNat).toNat=col then w q else 0:=(hstF.sol _).2 λi hi=>by
  rcases Nat.lt_or_ge i PF.length with q | q
  ·unfold dt
   rw[wh9 hσ]
   exact w1 i q
  ·refine qp2 λc hc=>?_
   try dsimp only
   rw[hstF.zero i q hi c hc,Int.zero_mul]
 have hsub:Sol m.length s.length (rowOf (qn4 m s)) λc=>sm P.length λq=>if(nI P q).toNat=c then w q else 0:=λa ha=>by
  rw[wh9 hPs]
  have e1:=hF2 a ha
  rw[wh9 hσ] at e1
  rw[<- e1]
  refine qe0 λq hq=>?_
  have h2:=hs.at_ _ (hPs q hq)
  unfold rowOf
  rw[qx0 m s a ha,qx0 m _ a ha,qq0 _ _ _ (hPs q hq),qq0 _ _ _ (by rw[qe5]; exact hσ q hq),qz3 _ _ (hσ q hq),Int.toNat_natCast]
 have e:=(hst.sol _).1 hsub q0 (by omega)
 unfold dt at e
 rw[wh9 hPs,qr7 (k:=q0) hq0 λi hi hne=>by
  try dsimp only
  rw[(hst.pos i hi).2.2.2.2 q0 (by omega) (Ne.symm hne),Int.zero_mul]] at e
 exact w2 (qd1 e (by have:=(hst.pos q0 hq0).2.2.1; omega))
theorem wu7 {m:List (List Int)} {s:List Int} (hM:Mk m) (hs:Named (nL m 0).length s) (h1:0<s.length) (hc:IsC m s):s.length<=(qh9 m (qm5 (nL m 0).length)).2.length+1:=by
 have hO:=qi9 hM hs h1
 have hr:=w8n hM hs h1
 obtain⟨f,hf,hnp,ho,_,_⟩:=hO.one_free hc.one
 generalize(qk4 (qn4 m s) s.length).piv=P at *
 refine Nat.le_of_not_lt λhgt=>?_
 have hx:∀a,∃q,a<s.length-1->q<P.length/\nI P q=(skp f a:Int):=λa=>by
  by_cases ha:a<s.length-1
  ·obtain⟨q,hq,e⟩:=ho (skp f a) (by have:=q53 (n:=s.length-1) (i:=f) ha; omega) (w9m f a)
   exact⟨q,λ_=>⟨hq,e⟩⟩
  ·exact⟨0,λq=>absurd q ha⟩
 obtain⟨g,hg⟩:=Classical.axiomOfChoice hx
 obtain⟨i,j,k1,k2,k3⟩:=q3o P.length (s.length-1) g (λi hi=>(hg i hi).1) (by omega)
 have e1:=(hg i (by omega)).2
 have e2:=(hg j k2).2
 rw[k3] at e1
 have:skp f i=skp f j:=by omega
 unfold skp at this
 split at this <;> split at this <;> omega
def xh4 (m:List (List Int)) (s:List Int):Option (List Int):=if q6t (qj3 m s) then some (xp1 m (nL m 0).length s) else none
def w09 (m:List (List Int)) (s:List Int):Option (List Int):=if wh1 m s then some (w08 m (nL m 0).length s) else none
theorem wi0 (m:List (List Int)) (L:List (List Int)):∀c,c<=L.length->qo7 m (nL m 0).length L c=(L.take c).filterMap (xh4 m)
 | 0,_=>rfl
 | c+1,hc=>by
  rw[qo7,takeL_snoc L c (by omega),List.filterMap_append,wi0 m L c (by omega)]
  unfold xh4
  by_cases q:q6t (qj3 m (nL L c))=true
  ·rw[if_pos q]
   simp[List.filterMap,q]
  ·rw[if_neg q]
   have q:q6t (qj3 m (nL L c))=false:=by simpa using q
   simp[List.filterMap,q]
def w5d (m:List (List Int)) (k:Nat):List (List Int):=(qg1 (nL m 0).length (k:Nat)).filterMap (w09 m)
theorem wu8 (m:List (List Int)):∀K,q1f m (nL m 0).length K=(List.range K).flatMap λ(k:Nat)=>(qg1 (nL m 0).length (k+1:Nat)).filterMap (xh4 m)
 | 0=>rfl
 | K+1=>by
  rw[q1f,wu8 m K,List.range_succ,List.flatMap_append,wi0 m _ _ (Nat.le_refl _),List.take_length]
  simp
theorem xg2 {m:List (List Int)} {s:List Int} (hM:Mk m) (hs:Named (nL m 0).length s) (h1:0<s.length) (hr:s.length<=m.length+1):xh4 m s=w09 m s:=by
 have hok:q6v m s=true:=by
  unfold q6v
  rw[Bool.and_eq_true,decide_eq_true_eq,decide_eq_true_eq]
  omega
 unfold xh4 w09
 by_cases q:IsC m s
 ·rw[if_pos ((wh8 hM hs h1).2 q),if_pos ((qv1 hM hs hok).2 q),xg1 hM hs h1 q]
 ·rw[if_neg λk=>q ((wh8 hM hs h1).1 k),if_neg λk=>q ((qv1 hM hs hok).1 k)]
theorem w5e {m:List (List Int)} (hM:Mk m):(qh9 m (qm5 (nL m 0).length)).2.length<=m.length:=by
 have hF:=(qi9 hM (Named.idx (nL m 0).length) (by rw[qe5]; exact hM.pix1))
 have:=hF.stP.pl
 unfold qh9
 rw[qq6]
 exact this
theorem w5f {m:List (List Int)} (hM:Mk m) {k:Nat} (hk:q2m m<=k) (hn:k<(nL m 0).length):w5d m (k+1)=[]:=by
 unfold w5d
 rw[List.filterMap_eq_nil_iff]
 intro s hs
 obtain⟨hN,hl⟩:=q4e hs
 unfold w09
 rw[if_neg]
 intro q
 have hok:q6v m s=true:=by
  unfold wh1 at q
  rw[Bool.and_eq_true,Bool.and_eq_true] at q
  exact q.1.1
 have:=wu7 hM hN (by omega) ((qv1 hM hN hok).1 q)
 unfold q2m at hk
 omega
theorem wi1 {f:Nat->List (List Int)} {K:Nat}:∀d,(∀k,K<=k->k<K+d->f k=[])->(List.range (K+d)).flatMap f=(List.range K).flatMap f
 | 0,_=>rfl
 | d+1,h=>by
  rw[<- Nat.add_assoc,List.range_succ,List.flatMap_append,wi1 d λk h1 h2=>h k h1 (by omega)]
  simp[h (K+d) (by omega) (by omega)]
theorem wu9 {f g:List Int->Option (List Int)}:∀l:List (List Int),(∀x∈l,f x=g x)->l.filterMap f=l.filterMap g
 | [],_=>rfl
 | x :: l,h=>by rw[List.filterMap_cons,List.filterMap_cons,h x (by simp),wu9 l λy hy=>h y (by simp[hy])]
theorem w8o {m:List (List Int)} (hv:qb9 m=true) (h7:(nL m 0).length<=7):q1f m (nL m 0).length (q2m m)=(List.range (nL m 0).length).flatMap λk=>w5d m (k+1):=by
 have hM:=Mk.of hv
 have hcn:q2m m<=(nL m 0).length:=by unfold q2m; omega
 have e:=wi1 (f:=λk=>w5d m (k+1)) (K:=q2m m) ((nL m 0).length-q2m m) λk h1 h2=>w5f hM h1 (by omega)
 rw[show q2m m+((nL m 0).length-q2m m)=(nL m 0).length by omega] at e
 rw[e,wu8]
 have hr:=w5e hM
 have key:∀K,K<=q2m m->((List.range K).flatMap λ(k:Nat)=>(qg1 (nL m 0).length (k+1:Nat)).filterMap (xh4 m))=(List.range K).flatMap λk=>w5d m (k+1):=λK=>by
  induction K with
  | zero=>exact λ_=>rfl
  | succ K ih=>
   intro hK
   rw[List.range_succ,List.flatMap_append,List.flatMap_append,ih (by omega)]
   congr 1
   simp only[List.flatMap_cons,List.flatMap_nil,List.append_nil]
   unfold w5d
   refine wu9 _ λs hs=>?_
   obtain⟨hN,hl⟩:=q4e hs
   exact xg2 hM hN (by omega) (by unfold q2m at hK; omega)
 exact key _ (Nat.le_refl _)
end Go.Proofs.Ytempacilejhbgaa
