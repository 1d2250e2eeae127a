/- Exact fractions; the picture of a fit makes its reading. Plain mathematics. No condition. -/
import Derived.Test.YtnchigbbjajiiaaGreatW15
import Derived.Test.YtnchigbbjajiiaaGreatW18
set_option linter.unusedSimpArgs false
set_option linter.unusedVariables false
namespace Go.Proofs.YtnchigbbjajiiaaGreat
open Go Go.RowKit Eng
theorem ql0 {m:List (List Int)} {s:List Int} (hM:Mk m) (hs:Named (nL m 0).length s) (h1:0<s.length):Ones m.length s.length (qg9 m s):=by
 have hl:=hs.len
 have h10:=hM.pix10
 refine⟨⟨qq8 m s,λi hi=>by grind [qk5,qi0]⟩,hM.rows1,hM.rows6,h1,ow,λa c ha hc=>?_⟩
 rw[qk5 m s a ha,qq6 _ _ _ hc]
 have:=hs.at_ c hc
 have:=hM.small a ha (nI s c).toNat ow
 omega
theorem qv2 (m:List (List Int)) (s:List Int):q3h m s=qg9 m s:=by
 grind [q3h,qb9,qg9]
theorem xj7 {m:List (List Int)} {s:List Int} (hM:Mk m) (hs:Named (nL m 0).length s) (h1:0<s.length):qn3 m s=qi1 m s:=by
 unfold qn3 qk4 qi1
 rw[qv2]
 exact(ql0 hM hs h1).kernel
theorem q2o {n k:Nat} {s:List Int} (h:s∈qg4 (n:Nat) (k:Nat)):Named n s/\s.length=k:=by
 have hl:=(wx3 h).1
 unfold qg4 at h
 split at h
 ·have hc:=w31 h
  have he:=hc.len
  simp only[Int.toNat_natCast] at hc he
  have step:∀d i,i+d+1<k->nI s i<nI s (i+d+1):=λd=>by
   induction d with
   | zero=>intro i hi; have:=hc.asc (i+1) ow ow; grind
   | succ d ih=>
    intro i hi
    have h1:=ih i ow
    have h2:=hc.asc (i+(d+1)+1) ow ow
    grind
  refine⟨⟨λj hj=>?_,λi j hij hj=>?_⟩,hl⟩
  ·have h1:=hc.lo j ow
   have h2:=hc.hi j ow
   omega
  ·have:=step (j-i-1) i ow
   grind
 grind
theorem q88:∀(m k:Nat) (a:Int) (l:List Int),l.length=k->(∀i,i<k->a<=nI l i/\nI l i<a+m)->(∀i j,i<j->j<k->nI l i<nI l j)->l∈qq7 m k a
 | m,0,a,l,hl,_,_=>by
  grind [List.eq_nil_of_length_eq_zero,w60]
 | 0,k+1,a,l,hl,hb,_=>by
  have:=hb 0 ow
  omega
 | m+1,k+1,a,l,hl,hb,ha=>by
  match l,hl with
  | x :: t,hl=>
  have hl:t.length=k:=by grind
  rw[qq7,zal,zba]
  by_cases e:x=a
  ·refine .inl ⟨t,q88 m k (a+1) t hl (λi hi=>?_) (λi j hij hj=>ha (i+1) (j+1) ow ow),by rw[e]⟩
   have h1:=hb (i+1) ow
   have h2:=ha 0 (i+1) ow ow
   grind [qv8,q0t]
  ·refine .inr (q88 m (k+1) (a+1) (x :: t) ow (λi hi=>?_) ha)
   have h0:=hb 0 ow
   rw[q0t] at h0
   have h1:=hb i hi
   rcases zb7 i with q | q
   all_goals grind [q0t]
theorem wx6 {n:Nat} {s:List Int} (h:Named n s):s∈qg4 (n:Nat) (s.length:Nat):=by
 have hl:=h.len
 unfold qg4
 rw[zao ow]
 refine q88 _ _ _ _ (by rfl) (λi hi=>?_) λi j hij hj=>h.asc i j hij ow
 rw[zaq] at hi
 have:=h.at_ i hi
 omega
theorem w13 {n:Nat} (h7:n<=7) {s:List Int} (h:s∈qc8 n):Named n s:=by
 grind [w1r,q2o]
theorem ya0 {m:List (List Int)} (hv:validB m=true):q99 m:=by
 have hM:=Mk.of hv
 have h1:=hM.pix1
 have h10:=hM.pix10
 refine⟨⟨?_⟩,λk hk set hset=>?_⟩
 ·have:=(ql0 hM (Named.idx _) (by grind [qg1])).redOk
  grind [qg1,qv2]
 ·obtain⟨hn,hl⟩:=q2o hset
  have hO:=ql0 hM hn ow
  refine⟨ChoOk.of hM hn λ_ _=>⟨trivial,zae _⟩,by rw[qv2]; exact hO.redOk,?_⟩
  unfold qk4
  rw[qv2]
  exact hO.kerAr
theorem q89 {n:Nat} {s v:List Int} (hs:Named n s):∀k,k<=s.length->∀j,j<k->nI (qd3 n s v k) (nI s j).toNat=nI v j
 | 0,_,j,hj=>absurd hj (zav _)
 | k+1,hk,j,hj=>by
  have h1:=hs.at_ k ow
  have h2:=hs.at_ j ow
  rw[qd3,q85 _ (by grind [qj5])]
  rcases zat.1 hj with e | e
  ·have:=hs.asc j k e ow
   rw[zak ow]
   exact q89 hs k ow j e
  grind
theorem wm9 {n:Nat} {s v:List Int} (hs:Named n s) {c:Nat} (hc:∀j,j<s.length->nI s j≠(c:Int)):∀k,k<=s.length->nI (qd3 n s v k) c=0
 | 0,_=>x2q n c
 | k+1,hk=>by
  have h1:=hs.at_ k ow
  have h2:=hc k ow
  rw[qd3,q85 _ (by grind [qj5]),zak ow]
  exact wm9 hs hc k ow
theorem q9a {v:List Int}:∀k,k<=v.length->(qq9 v k=true↔∀c,c<k->nI v c≠0)
 | 0,_=>⟨λ_ c hc=>absurd hc (zav _),λ_=>rfl⟩
 | k+1,hk=>by
  rw[qq9,za3,q9a k ow,bne_iff_ne]
  grind
theorem x0t {v:List Int}:(v.any λe=>(0:Int)==e)=false↔∀c,c<v.length->nI v c≠0:=by
 rw[zbr]
 constructor
 ·intro h c hc e
  have:=h _ (q8y hc)
  grind
 ·intro h x hx q
  obtain⟨c,hc,rfl⟩:=q8z hx
  grind
structure IsC (m:List (List Int)) (s:List Int):Prop where
 one:(qi1 m s).length=1
 nz:∀c,c<s.length->nI (nL (qi1 m s) 0) c≠0
theorem qz7 {m:List (List Int)} {s:List Int} (hM:Mk m) (hs:Named (nL m 0).length s) (hok:q04 m s=true):qu2 m s=true↔IsC m s:=by
 have h1:0<s.length:=by
  unfold q04 at hok
  grind
 have hO:=ql0 hM hs h1
 unfold qu2
 rw[hok,ze2,za3,zbf]
 constructor
 ·rintro⟨a,b⟩
  have hl:=(hO.ker_small (qn7 (qf8 (qg9 m s)) 0 (by grind [qi1]))).1
  exact⟨a,(q9a _ (by show s.length<=(nL (qf8 (qg9 m s)) 0).length; omega)).1 b⟩
 ·intro h
  have hl:=(hO.ker_small (qn7 (qf8 (qg9 m s)) 0 (by have:=h.one; grind [qi1]))).1
  exact⟨h.one,(q9a _ (by show s.length<=(nL (qf8 (qg9 m s)) 0).length; omega)).2 h.nz⟩
theorem wx7 {m:List (List Int)} {s:List Int} (hM:Mk m) (hs:Named (nL m 0).length s) (h1:0<s.length):ww0 (qn3 m s)=true↔IsC m s:=by
 have hO:=ql0 hM hs h1
 rw[xj7 hM hs h1]
 unfold ww0
 rw[za3,zbf,Bool.not_eq_true',x0t]
 constructor
 ·rintro⟨a,b⟩
  have hl:=(hO.ker_small (qn7 (qf8 (qg9 m s)) 0 (by grind [qi1]))).1
  exact⟨a,λc hc=>b c (by show c<(nL (qf8 (qg9 m s)) 0).length; omega)⟩
 ·intro h
  have hl:=(hO.ker_small (qn7 (qf8 (qg9 m s)) 0 (by have:=h.one; grind [qi1]))).1
  exact⟨h.one,λc hc=>h.nz c (by have:c<(nL (qf8 (qg9 m s)) 0).length:=hc; omega)⟩
theorem x5r {l:List Int} (h:∀d:Nat,(∀c,c<l.length->d∣(nI l c).natAbs)->d=1):qe4 l=l:=by
 have h1:(gcdL l).natAbs=1:=h _ λc hc=>(x9w l 0).2.1 _ (q8y hc)
 unfold qe4
 grind
theorem xj8 (l:List Int):xx2 l=qk3 l (-1):=by
 refine zbb (by rw[wk5,qu9]) λi h1 h2=>?_
 rw[<- qf1 _ i h1,<- qf1 _ i h2,wx0,q64]
 omega
theorem x5s {m:List (List Int)} {s:List Int} (hM:Mk m) (hs:Named (nL m 0).length s) (h1:0<s.length) (hc:IsC m s):ye3 m (nL m 0).length s=wl4 m (nL m 0).length s:=by
 have hO:=ql0 hM hs h1
 obtain⟨f,hf,hnp,ho,hv,hp⟩:=hO.one_free hc.one
 have hnz:=hc.nz
 unfold ye3 wl4 q3k
 rw[xj7 hM hs h1]
 change KV _ _ _ _ _ (nL (qi1 m s) 0) at hv
 change Prim (nL (qi1 m s) 0) at hp
 generalize nL (qi1 m s) 0=v at *
 have hat:=λj (hj:j<s.length)=>q89 (v:=v) hs _ (zab _) j hj
 have ho2:∀c:Nat,(∀j,j<s.length->nI s j≠(c:Int))->nI (qd3 (nL m 0).length s v s.length) c=0:=λc hc=>wm9 hs hc _ (zab _)
 have hlen:=qj5 (nL m 0).length s v s.length
 generalize qd3 (nL m 0).length s v s.length=u at *
 have hsh:qe4 u=u:=x5r λd hd=>hp.gcd hv.len hf hv.pos d λc hc=>by
  have h2:=hs.at_ c hc
  grind
 have h0:=hs.at_ 0 h1
 have hfst:qx8 u=nI s 0:=by
  have:=wt9 (.int .i64) (λe=>e != 0) u (nI s 0).toNat ow (λi hi=>by
   have:nI u i=0:=ho2 i λj hj e=>by
    rcases zb7 j with q | q
    ·grind
    ·have:=hs.asc 0 j q hj
     omega
   grind [nI]) (by
   simp_all [nI,bne_iff_ne])
  grind [qx8]
 simp_all [q8c,nI,if_pos,xj8,if_neg]
theorem q9b {N K:Nat} {A:Nat->Int} {σ:Nat->Nat} {w:Nat->Int} (hσ:∀q,q<K->σ q<N):(sm N λcol=>A col*sm K λq=>if σ q=col then w q else 0)=sm K λq=>A (σ q)*w q:=by
 have e:(sm N λcol=>A col*sm K λq=>if σ q=col then w q else 0)=sm N λcol=>sm K λq=>A col*if σ q=col then w q else 0:=qe1 λc hc=>by
  grind [qk8]
 rw[e,xf6]
 refine qe1 λq hq=>?_
 try dsimp only
 rw[qr0 (k:=σ q) (hσ q hq) λi hi hne=>by
  grind]
 simp
theorem x0u {m:List (List Int)} {s:List Int} (hM:Mk m) (hs:Named (nL m 0).length s) (h1:0<s.length):(qf9 (qg9 m s) s.length).piv.length<=(qk4 m (qp8 (nL m 0).length)).2.length:=zcn λhgt=>by
 have hO:=ql0 hM hs h1
 have hF:=(ql0 hM (Named.idx (nL m 0).length) (by rw[qg1]; exact hM.pix1))
 have hstF:=hF.stP
 unfold qk4 at hgt
 rw[qv2] at hgt
 have hst:=hO.stR
 rw[qg1] at hstF hgt
 generalize qb7 (qg9 m (qp8 (nL m 0).length)) (nL m 0).length=F at hstF hgt
 obtain⟨rF,PF⟩:=F
 dsimp only at hstF hgt
 generalize(qf9 (qg9 m s) s.length).piv=P at hst hgt
 generalize(qf9 (qg9 m s) s.length).done_++(qf9 (qg9 m s) s.length).left=rows at hst
 have hpl:=hst.pl
 have hplF:=hstF.pl
 have hPs:∀q,q<P.length->(nI P q).toNat<s.length:=λq hq=>by have:=hst.pos q hq; omega
 have hσ:∀q,q<P.length->(nI s (nI P q).toNat).toNat<(nL m 0).length:=λq hq=>by have:=hs.at_ _ (hPs q hq); omega
 obtain⟨w,w1,q0,hq0,w2⟩:=w1w (n:=PF.length) (W:=P.length) (λk q=>nI (nL rF k) (nI s (nI P q).toNat).toNat) hgt
 have hF2:Sol m.length (nL m 0).length (rowOf (qg9 m (qp8 (nL m 0).length))) λcol=>sm P.length λq=>if(nI s (nI P q).toNat).toNat=col then w q else 0:=(hstF.sol _).2 λi hi=>by
  rcases zap i PF.length with q | q
  ·unfold dt
   rw[q9b hσ]
   exact w1 i q
  ·refine qm5 λc hc=>?_
   try dsimp only
   rw[hstF.zero i q hi c hc,zb6]
 have hsub:Sol m.length s.length (rowOf (qg9 m s)) λc=>sm P.length λq=>if(nI P q).toNat=c then w q else 0:=λa ha=>by
  rw[q9b hPs]
  have e1:=hF2 a ha
  rw[q9b hσ] at e1
  rw[<- e1]
  refine qe1 λq hq=>?_
  grind [rowOf,qk5,qq6,qg1,q5e,Int.toNat_natCast]
 have e:=(hst.sol _).1 hsub q0 ow
 unfold dt at e
 rw[q9b hPs,qr0 (k:=q0) hq0 λi hi hne=>by
  try dsimp only
  rw[(hst.pos i hi).2.2.2.2 q0 ow (zdd hne),zb6]] at e
 exact w2 (qc9 e (by have:=(hst.pos q0 hq0).2.2.1; omega))
theorem w4w {m:List (List Int)} {s:List Int} (hM:Mk m) (hs:Named (nL m 0).length s) (h1:0<s.length) (hc:IsC m s):s.length<=(qk4 m (qp8 (nL m 0).length)).2.length+1:=by
 have hO:=ql0 hM hs h1
 have hr:=x0u hM hs h1
 obtain⟨f,hf,hnp,ho,_,_⟩:=hO.one_free hc.one
 generalize(qf9 (qg9 m s) s.length).piv=P at *
 refine zcn λhgt=>?_
 have hx:∀a,∃q,a<s.length-1->q<P.length/\nI P q=(skp f a:Int):=λa=>by
  by_cases ha:a<s.length-1
  ·obtain⟨q,hq,e⟩:=ho (skp f a) (by have:=q59 (n:=s.length-1) (i:=f) ha; omega) (x2l f a)
   grind
  ·exact⟨0,λq=>absurd q ha⟩
 obtain⟨g,hg⟩:=zbq hx
 obtain⟨i,j,k1,k2,k3⟩:=q8q P.length (s.length-1) g (λi hi=>(hg i hi).1) ow
 grind [skp]
def x60 (m:List (List Int)) (s:List Int):Option (List Int):=if ww0 (qn3 m s) then some (ye3 m (nL m 0).length s) else none
def wa0 (m:List (List Int)) (s:List Int):Option (List Int):=if qu2 m s then some (wl4 m (nL m 0).length s) else none
theorem wx8 (m:List (List Int)) (L:List (List Int)):∀c,c<=L.length->qt6 m (nL m 0).length L c=(L.take c).filterMap (x60 m)
 | 0,_=>rfl
 | c+1,hc=>by
  rw[qt6,takeL_snoc L c ow,zdc,wx8 m L c ow]
  unfold x60
  grind
theorem wf5 (m:List (List Int)) (L:List (List Int)):∀c,c<=L.length->qh2 m (nL m 0).length L c=(L.take c).filterMap (wa0 m)
 | 0,_=>rfl
 | c+1,hc=>by
  rw[qh2,takeL_snoc L c ow,zdc,wf5 m L c ow]
  unfold wa0
  by_cases q:qu2 m (nL L c)=true
  ·rw[zao q]
   simp[List.filterMap,q]
  ·rw[zak q]
   have q:qu2 m (nL L c)=false:=by simpa using q
   simp[List.filterMap,q]
def w8i (m:List (List Int)) (k:Nat):List (List Int):=(qg4 (nL m 0).length (k:Nat)).filterMap (wa0 m)
theorem w4x (m:List (List Int)):∀K,q3j m (nL m 0).length K=(List.range K).flatMap λ(k:Nat)=>(qg4 (nL m 0).length (k+1:Nat)).filterMap (x60 m)
 | 0=>rfl
 | K+1=>by
  rw[q3j,w4x m K,zc3,zcm,wx8 m _ _ (zab _),zcy]
  simp
theorem x5t {m:List (List Int)} {s:List Int} (hM:Mk m) (hs:Named (nL m 0).length s) (h1:0<s.length) (hr:s.length<=m.length+1):x60 m s=wa0 m s:=by
 have hok:q04 m s=true:=by
  unfold q04
  rw[za3,zbf,zbf]
  omega
 unfold x60 wa0
 by_cases q:IsC m s
 ·rw[zao ((wx7 hM hs h1).2 q),zao ((qz7 hM hs hok).2 q),x5s hM hs h1 q]
 ·rw[zak λk=>q ((wx7 hM hs h1).1 k),zak λk=>q ((qz7 hM hs hok).1 k)]
theorem xj9 {m:List (List Int)} (hM:Mk m):(qk4 m (qp8 (nL m 0).length)).2.length<=m.length:=by
 have hF:=(ql0 hM (Named.idx (nL m 0).length) (by rw[qg1]; exact hM.pix1))
 have:=hF.stP.pl
 unfold qk4
 rw[qv2]
 exact this
theorem xk0 {m:List (List Int)} (hM:Mk m) {k:Nat} (hk:q6j m<=k) (hn:k<(nL m 0).length):w8i m (k+1)=[]:=by
 unfold w8i
 rw[zd8]
 intro s hs
 obtain⟨hN,hl⟩:=q2o hs
 unfold wa0
 rw[zak]
 intro q
 have hok:q04 m s=true:=by
  unfold qu2 at q
  rw[za3,za3] at q
  exact q.1.1
 have:=w4w hM hN ow ((qz7 hM hN hok).1 q)
 unfold q6j at hk
 omega
theorem x0v {m:List (List Int)} (h7:(nL m 0).length<=7):qh2 m (nL m 0).length (qc8 (nL m 0).length) (qc8 (nL m 0).length).length=(List.range (nL m 0).length).flatMap λk=>w8i m (k+1):=by
 rw[wf5 m _ _ (zab _),zcy,w1r h7,List.filterMap_flatMap,List.range_succ_eq_map,List.flatMap_cons]
 have e0:(qg4 ((nL m 0).length:Nat) (0:Nat)).filterMap (wa0 m)=[]:=by
  rw[zd8]
  intro s hs
  have hl:=(q2o hs).2
  unfold wa0 qu2 q04
  rw[hl]
  rfl
 refine(zbi (λl=>l++_) e0).trans ?_
 rw[List.flatMap_map]
 rfl
theorem wx9 {f:Nat->List (List Int)} {K:Nat}:∀d,(∀k,K<=k->k<K+d->f k=[])->(List.range (K+d)).flatMap f=(List.range K).flatMap f
 | 0,_=>rfl
 | d+1,h=>by
  rw[<- zce,zc3,zcm,wx9 d λk h1 h2=>h k h1 ow]
  simp[h (K+d) ow ow]
theorem w4y {f g:List Int->Option (List Int)}:∀l:List (List Int),(∀x∈l,f x=g x)->l.filterMap f=l.filterMap g
 | [],_=>rfl
 | x :: l,h=>by rw[zdv,zdv,h x (by simp),w4y l λy hy=>h y (by simp[hy])]
theorem w4z {m:List (List Int)} (hv:validB m=true) (h7:(nL m 0).length<=7):q3j m (nL m 0).length (q6j m)=(List.range (nL m 0).length).flatMap λk=>w8i m (k+1):=by
 have hM:=Mk.of hv
 have hcn:q6j m<=(nL m 0).length:=by unfold q6j; omega
 have e:=wx9 (f:=λk=>w8i m (k+1)) (K:=q6j m) ((nL m 0).length-q6j m) λk h1 h2=>xk0 hM h1 ow
 rw[show q6j m+((nL m 0).length-q6j m)=(nL m 0).length by omega] at e
 rw[e,w4x]
 have hr:=xj9 hM
 have key:∀K,K<=q6j m->((List.range K).flatMap λ(k:Nat)=>(qg4 (nL m 0).length (k+1:Nat)).filterMap (x60 m))=(List.range K).flatMap λk=>w8i m (k+1):=λK=>by
  induction K with
  | zero=>exact λ_=>rfl
  | succ K ih=>
   intro hK
   rw[zc3,zcm,zcm,ih ow]
   congr 1
   simp only[List.flatMap_cons,List.flatMap_nil,List.append_nil]
   unfold w8i
   refine w4y _ λs hs=>?_
   obtain⟨hN,hl⟩:=q2o hs
   exact x5t hM hN ow (by unfold q6j at hK; omega)
 exact key _ (zab _)
def q9c:Nat->(Nat->Int)->Nat
 | 0,_=>0
 | k+1,d=>if d k≠0 then q9c k d+1 else q9c k d
theorem w40 (l:List Int):∀k,q2l l k=q9c k (nI l)
 | 0=>rfl
 | k+1=>by rw[q2l,q9c,w40 l k]
theorem cnt_le {d e:Nat->Int}:∀k,(∀c,c<k->d c≠0->e c≠0)->q9c k d<=q9c k e
 | 0,_=>zab _
 | k+1,h=>by
  have ih:=cnt_le k λc hc=>h c ow
  rw[q9c,q9c]
  grind
theorem cnt_lt {d e:Nat->Int} {c0:Nat} (h1:d c0=0) (h2:e c0≠0):∀k,c0<k->(∀c,c<k->d c≠0->e c≠0)->q9c k d<q9c k e
 | k+1,hk,h=>by
  rw[q9c,q9c]
  by_cases q:c0=k
  ·have ih:=cnt_le (d:=d) (e:=e) k λc hc=>h c ow
   grind
  ·have ih:=cnt_lt h1 h2 k ow λc hc=>h c ow
   grind
def qr5:Nat->(Nat->Int)->List Int
 | 0,_=>[]
 | k+1,d=>if d k≠0 then qr5 k d++[(k:Int)] else qr5 k d
theorem q4r (d:Nat->Int):∀k,(qr5 k d).length=q9c k d
 | 0=>rfl
 | k+1=>by
  rw[qr5,q9c]
  split
  ·rw[zay,q4r d k]; rfl
  ·exact q4r d k
theorem qh7 (d:Nat->Int):∀k,Named k (qr5 k d)/\∀j,j<(qr5 k d).length->d (nI (qr5 k d) j).toNat≠0
 | 0=>⟨⟨λj hj=>absurd hj (zav _),λi j _ hj=>absurd hj (zav _)⟩,λj hj=>absurd hj (zav _)⟩
 | k+1=>by
  obtain⟨h1,h2⟩:=qh7 d k
  rw[qr5]
  by_cases q:d k≠0
  ·rw[zao q]
   have hl:(qr5 k d++[(k:Int)]).length=(qr5 k d).length+1:=by simp
   refine⟨⟨λj hj=>?_,λi j hij hj=>?_⟩,λj hj=>?_⟩
   ·rw[hl] at hj
    rcases zat.1 hj with e | e
    ·rw[qk9 _ _ e]; have:=h1.at_ j e; omega
    grind [qn9]
   ·rw[hl] at hj
    rw[qk9 _ _ (show i<(qr5 k d).length by omega)]
    rcases zat.1 hj with e | e
    ·rw[qk9 _ _ e]; exact h1.asc i j hij e
    ·rw[e,qn9]; exact(h1.at_ i ow).2
   ·rw[hl] at hj
    rcases zat.1 hj with e | e
    all_goals grind [qk9,qn9,Int.toNat_natCast]
  ·rw[zak q]
   exact⟨⟨λj hj=>by have:=h1.at_ j hj; omega,h1.asc⟩,h2⟩
theorem qt3 (d:Nat->Int):∀k c,c<k->d c≠0->∃j,j<(qr5 k d).length/\nI (qr5 k d) j=(c:Int)
 | k+1,c,hc,hd=>by
  rw[qr5]
  by_cases q:c=k
  ·rw[zao (by grind)]
   grind [qr5,qn9]
  ·obtain⟨j,h1,h2⟩:=qt3 d k c ow hd
   split
   ·exact⟨j,by grind,by grind [qk9]⟩
   grind
theorem Named.inj {n:Nat} {s:List Int} (h:Named n s) {i j:Nat} (hi:i<s.length) (hj:j<s.length) (e:(nI s i).toNat=(nI s j).toNat):i=j:=by
 have h1:=h.at_ i hi
 have h2:=h.at_ j hj
 rcases zcs i j with q | q | q
 ·have:=h.asc i j q hj; omega
 ·exact q
 ·have:=h.asc j i q hi; omega
structure xr1 (m:List (List Int)) (s h:List Int):Prop where
 nam:Named (nL m 0).length s
 pos:0<s.length
 isc:IsC m s
 len:h.length=(nL m 0).length
 nz:q9c (nL m 0).length (nI h)=s.length
 sol:Sol m.length (nL m 0).length (rowOf m) (nI h)
 on:∀j,j<s.length->nI h (nI s j).toNat≠0
 off:∀c,c<(nL m 0).length->(∀j,j<s.length->nI s j≠(c:Int))->nI h c=0
 small:∀c,(nI h c).natAbs<=160
theorem ya1 {N:Nat} {s:List Int} (hs:Named N s) {d:Nat->Int} (hon:∀j,j<s.length->d (nI s j).toNat≠0) (hoff:∀c,c<N->(∀j,j<s.length->nI s j≠(c:Int))->d c=0):q9c N d=s.length:=by
 have h1:=(qh7 d N).1
 have h2:=(qh7 d N).2
 have h3:=qt3 d N
 rw[<- q4r]
 have sub:∀(s t:List Int),Named N s->Named N t->(∀j,j<s.length->∃i,i<t.length/\nI t i=nI s j)->s.length<=t.length:=λs t hs ht h=>zcn λhgt=>by
  have hx:∀j,∃i,j<s.length->i<t.length/\nI t i=nI s j:=λj=>by
   grind
  obtain⟨g,hg⟩:=zbq hx
  obtain⟨i,j,k1,k2,k3⟩:=q8q t.length s.length g (λi hi=>(hg i hi).1) hgt
  have e1:=(hg i ow).2
  have e2:=(hg j k2).2
  rw[k3] at e1
  have:=hs.asc i j k1 k2
  omega
 refine Nat.le_antisymm (sub _ _ h1 hs λj hj=>?_) (sub _ _ hs h1 λj hj=>?_)
 ·have hb:=h1.at_ j hj
  grind
 ·have hb:=hs.at_ j hj
  grind
theorem xk1 {m:List (List Int)} {s:List Int} (hM:Mk m) (hs:Named (nL m 0).length s) (h1:0<s.length) (hc:IsC m s):xr1 m s (wl4 m (nL m 0).length s):=by
 have hO:=ql0 hM hs h1
 obtain⟨f,hf,hnp,ho,hv,hp⟩:=hO.one_free hc.one
 have hsm:=(hO.ker_small (qn7 (qf8 (qg9 m s)) 0 (by have:=hc.one; grind [qi1]))).2
 have hnz:=hc.nz
 unfold wl4 q3k
 change KV _ _ _ _ _ (nL (qi1 m s) 0) at hv
 change Prim (nL (qi1 m s) 0) at hp
 change ∀x∈nL (qi1 m s) 0,_ at hsm
 generalize nL (qi1 m s) 0=v at *
 have hat:=λj (hj:j<s.length)=>q89 (v:=v) hs _ (zab _) j hj
 have ho2:∀c:Nat,(∀j,j<s.length->nI s j≠(c:Int))->nI (qd3 (nL m 0).length s v s.length) c=0:=λc hc=>wm9 hs hc _ (zab _)
 have hlen:=qj5 (nL m 0).length s v s.length
 generalize qd3 (nL m 0).length s v s.length=u at *
 have hsW:∀c,c<s.length->(nI s c).toNat<(nL m 0).length:=λc hc=>by have:=hs.at_ c hc; omega
 have hsol:Sol m.length (nL m 0).length (rowOf m) (nI u):=λa ha=>by
  rw[qx4 s.length (f:=λc=>rowOf m a c*nI u c) (τ:=λc=>(nI s c).toNat) hsW (λq k hq hk e=>hs.inj hq hk e) λb hb hq=>by
   grind]
  rw[<- hv.sol a ha]
  grind [qe1,rowOf,qk5,qq6]
 have hsmall:∀c,(nI u c).natAbs<=160:=λc=>by
  by_cases q:∃j,j<s.length/\nI s j=(c:Int)
  ·obtain⟨j,hj,e⟩:=q
   have:=hat j hj
   rw[e,zaq] at this
   rw[this]
   exact hsm _ (q8y (by rw[hv.len]; omega))
  grind
 have both:∀h:List Int,h.length=u.length->∀sg:Int,(sg=1\/sg=-1)->(∀c,nI h c=nI u c*sg)->xr1 m s h:=λh hl sg hsg he=>by
  have hsg0:sg≠0:=ow
  have hon:∀j,j<s.length->nI h (nI s j).toNat≠0:=λj hj=>by
   grind
  have hoff:∀c,c<(nL m 0).length->(∀j,j<s.length->nI s j≠(c:Int))->nI h c=0:=λc hc hj=>by
   grind
  refine⟨hs,h1,hc,ow,ya1 hs hon hoff,λa ha=>?_,hon,hoff,λc=>?_⟩
  ·have e:=hsol a ha
   have e2:(sm (nL m 0).length λc=>rowOf m a c*nI h c)=sg*sm (nL m 0).length λc=>rowOf m a c*nI u c:=by
    grind [qk8,qe1]
   grind
  grind
 split
 ·exact both _ (qu9 _ _) (-1) (.inr rfl) λc=>q64 u (-1) c
 simp_all
theorem x0w {m:List (List Int)} (hM:Mk m) {k:Nat} {h:List Int} (hh:h∈w8i m k):∃s,xr1 m s h/\s.length=k:=by
 unfold w8i at hh
 rw[zc4] at hh
 obtain⟨s,hs,e⟩:=hh
 obtain⟨hN,hl⟩:=q2o hs
 unfold wa0 at e
 split at e
 ·rename_i q
  obtain rfl:=zaa e
  have hok:q04 m s=true:=by
   simp_all [qu2,Bool.and_eq_true]
  have h1:0<s.length:=by
   unfold q04 at hok
   grind
  grind [xk1,qz7]
 grind
theorem x0x {m:List (List Int)} (hM:Mk m) {s:List Int} (hs:Named (nL m 0).length s) (h1:0<s.length) (hc:IsC m s):wl4 m (nL m 0).length s∈w8i m s.length:=by
 have hr:=w4w hM hs h1 hc
 have hr2:=xj9 hM
 have hok:q04 m s=true:=by
  unfold q04
  grind
 unfold w8i
 rw[zc4]
 refine⟨s,wx6 hs,?_⟩
 simp_all [wa0,if_pos,qz7]
theorem dot_sm (a b:List Int):∀k,qr4 a b k=sm k λi=>nI a i*nI b i
 | 0=>rfl
 | k+1=>by rw[qr4,sm,dot_sm a b k]
abbrev q4y:=Bool × List Int × List Int
def q9x (a:q4y):Int:=if a.1 then-(valL a.2.1:Int) else(valL a.2.1:Int)
def q9y (a:q4y):Int:=(valL a.2.2:Int)
def qe5 (n d:Int):q4y:=(decide (n<0),dgs (max n (0-n)).toNat,dgs d.toNat)
def plusX (a b:q4y):Nat:=valL a.2.1*valL b.2.2
def plusY (a b:q4y):Nat:=valL b.2.1*valL a.2.2
def xk2 (a b:q4y):Nat:=valL a.2.2*valL b.2.2
def plusV (a b:q4y):q4y:=
 if a.1=b.1 then(a.1,dgs (plusX a b+plusY a b),dgs (xk2 a b))
 else if plusY a b<=plusX a b then(a.1,dgs (plusX a b-plusY a b),dgs (xk2 a b)) else(b.1,dgs (plusY a b-plusX a b),dgs (xk2 a b))
def qj7 (n:Int) (a:q4y):q4y:=(a.1 != decide (n<0),dgs ((max n (0-n)).toNat*valL a.2.1),a.2.2)
def wf6 (a b:q4y):Int:=if(plusV a (qj7 (-1) b)).2.1.length=0 then 0 else if(plusV a (qj7 (-1) b)).1 then -1 else 1
theorem xk3 (n d:Int):q9x (qe5 n d)=n:=by
 unfold q9x qe5
 dsimp only
 rw[qg7]
 grind
theorem wy0 {n d:Int} (h:0<=d):q9y (qe5 n d)=d:=by
 grind [q9y,qe5,qg7]
theorem x0y (a b:q4y):q9y (plusV a b)=q9y a*q9y b:=by
 grind [plusV,dgs,xk2,q9y,qg7,Int.natCast_mul]
theorem w41 (a b:q4y):q9x (plusV a b)=q9x a*q9y b+q9x b*q9y a:=by
 have ex:((plusX a b:Nat):Int)=(valL a.2.1:Int)*(valL b.2.2:Int):=zds _ _
 have ey:((plusY a b:Nat):Int)=(valL b.2.1:Int)*(valL a.2.2:Int):=zds _ _
 unfold plusV
 obtain⟨sa,na,da⟩:=a
 obtain⟨sb,nb,db⟩:=b
 unfold q9x q9y
 dsimp only at ex ey ⊢
 generalize plusX (sa,na,da) (sb,nb,db)=X at *
 generalize plusY (sa,na,da) (sb,nb,db)=Y at *
 generalize(valL na:Int)=A at *
 generalize(valL nb:Int)=B at *
 generalize(valL da:Int)=C at *
 generalize(valL db:Int)=D at *
 cases sa <;> cases sb <;> simp only[if_true,if_false,reduceCtorEq,Bool.false_eq_true]
 ·simp_all [qg7,if_true,if_false,Bool.false_eq_true]
 ·by_cases q:Y<=X
  ·rw[zao q,qg7]; grind
  ·rw[zak q,qg7]; grind
 ·by_cases q:Y<=X
  ·rw[zao q,qg7]; grind
  ·rw[zak q,qg7]; grind
 ·rw[qg7]; grind
theorem xk4 (n:Int) (a:q4y):q9y (qj7 n a)=q9y a:=rfl
theorem xk5 (n:Int) (a:q4y):q9x (qj7 n a)=n*q9x a:=by
 obtain⟨sa,na,da⟩:=a
 unfold q9x qj7
 dsimp only
 rw[qg7,zds]
 grind
theorem w7p (a b:q4y):(plusV a b).2.1=dgs (valL (plusV a b).2.1):=by
 have:∃N,(plusV a b).2.1=dgs N:=by
  unfold plusV; split
  ·grind
  ·split
   all_goals grind
 grind [qg7]
def nR (x:List (Int × Int)) (i:Nat):Int × Int:=qe0 (.prod (.int .i64) (.int .i64)) x i
theorem q6l (x:List (Int × Int)) (i:Nat) (h:i<x.length):nR x i=x[i]:=qo5 (t:=.prod (.int .i64) (.int .i64)) x i h
def wa1 (n:Nat) (pix:List Int) (v:List (Int × Int)):Nat->List (Int × Int)
 | 0=>List.replicate n (0,1)
 | k+1=>(wa1 n pix v k).set (nI pix k).toNat (nR v k)
theorem q2p (n:Nat) (pix:List Int) (v:List (Int × Int)):∀k,(wa1 n pix v k).length=n
 | 0=>by simp[wa1]
 | k+1=>by rw[wa1,za7]; exact q2p n pix v k
theorem x2s (l:List (Int × Int)) {p:Nat} (hp:p<l.length) (x:Int × Int) (q:Nat):nR (l.set p x) q=if q=p then x else nR l q:=by
 by_cases h:q=p
 ·subst h
  rw[zao rfl,q6l _ _ (by grind),zdb]
 ·rw[zak h]
  rcases zap q l.length with e | e
  ·simp_all [q6l,List.length_set,List.getElem_set_ne,Ne.symm]
  grind [nR,qe0,List.getElem?_eq_none,List.length_set]
theorem w14 {n:Nat} {pix:List Int} {v:List (Int × Int)} (hs:Named n pix):∀k,k<=pix.length->∀j,j<k->nR (wa1 n pix v k) (nI pix j).toNat=nR v j
 | 0,_,j,hj=>absurd hj (zav _)
 | k+1,hk,j,hj=>by
  have h1:=hs.at_ k ow
  have h2:=hs.at_ j ow
  rw[wa1,x2s _ (by grind [q2p])]
  rcases zat.1 hj with e | e
  ·have:=hs.asc j k e ow
   rw[zak ow]
   exact w14 hs k ow j e
  grind
theorem xk6 {n:Nat} {pix:List Int} {v:List (Int × Int)} (hs:Named n pix) {c:Nat} (hn:c<n) (hc:∀j,j<pix.length->nI pix j≠(c:Int)):∀k,k<=pix.length->nR (wa1 n pix v k) c=(0,1)
 | 0,_=>by grind [wa1,q6l]
 | k+1,hk=>by
  have h1:=hs.at_ k ow
  have h2:=hc k ow
  rw[wa1,x2s _ (by grind [q2p]),zak ow]
  exact xk6 hs hn hc k ow
theorem x0z {m:List (List Int)} {y pix:List Int} (h:(qj4 m y pix).2=true):∃(L:Int) (u:Nat->Int),L≠0/\(∀j,j<pix.length->0<(nR (qj4 m y pix).1.2 j).2/\L=(nR (qj4 m y pix).1.2 j).2*u j) /\
  ∀a,a<m.length->(sm pix.length λj=>nI (nL m a) (nI pix j).toNat*((nR (qj4 m y pix).1.2 j).1*u j))=nI y a*L:=by
 have hI:=qw1 h
 have hA:=Asked.of hI.chk
 have hS:=qw0 hA
 have hst:=qt2 hS.toMat pix.length ow
 have hpl:=hst.pl
 have hvo:=xj3 h
 have hvl:=hI.len
 unfold qj4 at h hvo hvl ⊢
 split at h
 ·cases h
 ·rename_i hno
  rw[zak hno] at hvo hvl ⊢
  have h0:(q6i m pix y).2=0:=zaf λq=>hno (.inl q)
  have es:q6i m pix y=xe1 (qb7 (qa8 m pix y) pix.length).1 (qb7 (qa8 m pix y) pix.length).2 pix.length:=by unfold q6i; rw[zao hI.chk]; rfl
  have hasc:Asc pix.length (qb7 (qa8 m pix y) pix.length).2:=⟨λq hq=>⟨(hst.pos q hq).1,(hst.pos q hq).2.1⟩,hst.asc⟩
  have hle:=hasc.le
  dsimp only at hvo hvl ⊢
  rw[es] at h0 hvo hvl ⊢
  unfold xe1 at h0 hvo hvl ⊢
  split at h0
  ·omega
  ·rename_i hn
   rw[zak hn] at hvo hvl ⊢
   split at h0
   ·omega
   ·rename_i hl
    rw[zak hl] at hvo hvl ⊢
    have hlen:(qb7 (qa8 m pix y) pix.length).2.length=pix.length:=ow
    dsimp only at hvo hvl ⊢
    have hid:=λq (hq:q<pix.length)=>hasc.id hlen hq
    have hat:∀j,j<pix.length->nR (List.map (wo5 (qb7 (qa8 m pix y) pix.length).1 (qb7 (qa8 m pix y) pix.length).2 pix.length) (List.range (qb7 (qa8 m pix y) pix.length).2.length)) j=q4n (nI (nL (qb7 (qa8 m pix y) pix.length).1 j) pix.length) (nI (nL (qb7 (qa8 m pix y) pix.length).1 j) j)/\0<nI (nL (qb7 (qa8 m pix y) pix.length).1 j) j:=λj hj=>by
     have hp:=(hst.pos j ow).2.2.1
     grind [Int.toNat_natCast,q6l,wo5,q83]
    generalize(List.map (wo5 (qb7 (qa8 m pix y) pix.length).1 (qb7 (qa8 m pix y) pix.length).2 pix.length) (List.range (qb7 (qa8 m pix y) pix.length).2.length))=V at *
    have hpos:∀j,j<pix.length->0<(nR V j).2:=λj hj=>by
     obtain⟨q1,_⟩:=hvo (nR V j) (by grind [q6l,List.getElem_mem])
     unfold x6v at q1
     grind
    obtain⟨L,u,hL,hu⟩:=exL pix.length (λj=>(nR V j).2) λj hj=>by grind
    refine⟨L,u,hL,λj hj=>⟨hpos j hj,hu j hj⟩,λa ha=>?_⟩
    obtain⟨z,hz1,hz2⟩:∃z:Nat->Int,(∀j,j<pix.length->z j=(nR V j).1*u j)/\z pix.length=- L:=⟨λj=>if j<pix.length then(nR V j).1*u j else-L,λj hj=>zao hj,zak (zbw _)⟩
    have hsol:Sol m.length (pix.length+1) (rowOf (qa8 m pix y)) z:=(hst.sol z).2 λi hi=>by
     unfold dt
     rcases zap i pix.length with q | q
     ·rw[q58 (k:=i) (l:=pix.length) ow ow ow λc hc h1 h2=>by
       try dsimp only
       have:=(hst.pos c ow).2.2.2.2 i ow (zdd h1)
       grind]
      try dsimp only
      rw[hz1 i q,hz2]
      obtain⟨e1,e2⟩:=hat i q
      have huq:=hu i q
      try dsimp only at huq
      rw[huq,e1]
      generalize nI (nL (qb7 (qa8 m pix y) pix.length).1 i) pix.length=x at *
      generalize nI (nL (qb7 (qa8 m pix y) pix.length).1 i) i=p at *
      have g1:gcdI x p*(q4n x p).1=x:=za9 (za5.1 (zb0 _ _))
      have g2:gcdI x p*(q4n x p).2=p:=za9 (za5.1 (zb3 _ _))
      grind
     ·refine qm5 λc hc=>?_
      try dsimp only
      rcases zap c pix.length with q2 | q2
      ·rw[hst.zero i ow hi c q2,zb6]
      ·have hz0:nI (nL (qb7 (qa8 m pix y) pix.length).1 i) pix.length=0:=zaf λq3=>hn (by
        unfold q8f
        rw[zbm]
        exact⟨i,za2.2 (by have:=hst.len; omega),by grind⟩)
       grind
    have e:=hsol a ha
    rw[sm,hz2] at e
    have hrow:∀c,c<pix.length->rowOf (qa8 m pix y) a c=nI (nL m a) (nI pix c).toNat:=λc hc=>by
     grind [rowOf,qv1,qk5,qk9,qi0,qq6]
    have hlast:rowOf (qa8 m pix y) a pix.length=nI y a:=by
     unfold rowOf
     rw[qv1 m pix y a ha,qk5 m pix a ha]
     grind [qn9,qm0,nL,nI,qi0]
    rw[hlast] at e
    have e2:(sm pix.length λc=>rowOf (qa8 m pix y) a c*z c)=sm pix.length λj=>nI (nL m a) (nI pix j).toNat*((nR V j).1*u j):=qe1 λc hc=>by
     grind
    grind
end Go.Proofs.YtnchigbbjajiiaaGreat
