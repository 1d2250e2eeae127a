/- Circuits are the least solutions; twins. Plain mathematics. No condition. -/
import Derived.Test.YtempacilejhbgaaGreatDoorW15
set_option linter.unusedVariables false
namespace Go.Proofs.YtempacilejhbgaaGreatDoor
open Go Go.RowKit Eng
theorem qj8 {m:List (List Int)} {s:List Int} (hM:Mk m) (hs:Named (nL m 0).length s) (h1:0<s.length):Ones m.length s.length (qj1 m s):=by
 have hl:=hs.len
 have h10:=hM.pix10
 refine⟨⟨q6g m s,λi hi=>by rw[qy0 m s i hi,qs8]⟩,hM.rows1,hM.rows6,h1,by omega,λa c ha hc=>?_⟩
 rw[qy0 m s a ha,q07 _ _ _ hc]
 have:=hs.at_ c hc
 have:=hM.small a ha (nI s c).toNat (by omega)
 omega
theorem qs0 (m:List (List Int)) (s:List Int):q19 m s=qj1 m s:=by
 unfold q19 qc0 qj1
 simp
theorem w6z {m:List (List Int)} {s:List Int} (hM:Mk m) (hs:Named (nL m 0).length s) (h1:0<s.length):qk5 m s=qh7 m s:=by
 unfold qk5 qj2 qh7
 rw[qs0]
 exact(qj8 hM hs h1).kernel
theorem qu6 {n k:Nat} {s:List Int} (h:s∈qa6 (n:Nat) (k:Nat)):Named n s/\s.length=k:=by
 have hl:=(w6s h).1
 unfold qa6 at h
 split at h
 ·have hc:=wy2 h
  have he:=hc.len
  simp only[Int.toNat_natCast] at hc he
  have step:∀d i,i+d+1<k->nI s i<nI s (i+d+1):=λd=>by
   induction d with
   | zero=>intro i hi; have:=hc.asc (i+1) (by omega) (by omega); simpa using this
   | succ d ih=>
    intro i hi
    have h1:=ih i (by omega)
    have h2:=hc.asc (i+(d+1)+1) (by omega) (by omega)
    rw[show i+(d+1)+1-1=i+d+1 by omega] at h2
    omega
  refine⟨⟨λj hj=>?_,λi j hij hj=>?_⟩,hl⟩
  ·have h1:=hc.lo j (by omega)
   have h2:=hc.hi j (by omega)
   omega
  ·have:=step (j-i-1) i (by omega)
   rwa [show i+(j-i-1)+1=j by omega] at this
 ·cases h
theorem q69:∀(m k:Nat) (a:Int) (l:List Int),l.length=k->(∀i,i<k->a<=nI l i/\nI l i<a+m)->(∀i j,i<j->j<k->nI l i<nI l j)->l∈qk0 m k a
 | m,0,a,l,hl,_,_=>by
  have:l=[]:=List.eq_nil_of_length_eq_zero hl
  rw[qv8,this]; simp
 | 0,k+1,a,l,hl,hb,_=>by
  have:=hb 0 (by omega)
  omega
 | m+1,k+1,a,l,hl,hb,ha=>by
  match l,hl with
  | x :: t,hl=>
  have hl:t.length=k:=by simpa using hl
  rw[qk0,List.mem_append,List.mem_map]
  by_cases e:x=a
  ·refine .inl ⟨t,q69 m k (a+1) t hl (λi hi=>?_) (λi j hij hj=>ha (i+1) (j+1) (by omega) (by omega)),by rw[e]⟩
   have h1:=hb (i+1) (by omega)
   have h2:=ha 0 (i+1) (by omega) (by omega)
   rw[qp1] at h1
   rw[qs9,qp1] at h2
   omega
  ·refine .inr (q69 m (k+1) (a+1) (x :: t) (by simp[hl]) (λi hi=>?_) ha)
   have h0:=hb 0 (by omega)
   rw[qs9] at h0
   have h1:=hb i hi
   rcases Nat.eq_zero_or_pos i with q | q
   ·rw[q,qs9]; omega
   ·have h2:=ha 0 i q hi
    rw[qs9] at h2
    omega
theorem w60 {n:Nat} {s:List Int} (h:Named n s):s∈qa6 (n:Nat) (s.length:Nat):=by
 have hl:=h.len
 unfold qa6
 rw[if_pos (by omega)]
 refine q69 _ _ _ _ (by rw[Int.toNat_natCast]) (λi hi=>?_) λi j hij hj=>h.asc i j hij (by simpa using hj)
 rw[Int.toNat_natCast] at hi
 have:=h.at_ i hi
 rw[Int.toNat_natCast]
 omega
theorem wr7 {n:Nat} (h7:n<=7) {s:List Int} (h:s∈qd9 n):Named n s:=by
 rw[w6r h7,List.mem_flatMap] at h
 obtain⟨k,_,hk⟩:=h
 exact(qu6 hk).1
theorem xv4 {m:List (List Int)} (hv:validB m=true):q7o m:=by
 have hM:=Mk.of hv
 have h1:=hM.pix1
 have h10:=hM.pix10
 refine⟨⟨?_⟩,λk hk set hset=>?_⟩
 ·have:=(qj8 hM (Named.idx _) (by rw[qe8]; exact h1)).redOk
  rw[qe8] at this
  rw[qs0]
  exact this
 ·obtain⟨hn,hl⟩:=qu6 hset
  have hO:=qj8 hM hn (by omega)
  refine⟨ChoOk.of hM hn λ_ _=>⟨trivial,Nat.zero_le _⟩,by rw[qs0]; exact hO.redOk,?_⟩
  unfold qj2
  rw[qs0]
  exact hO.kerAr
theorem q7a {n:Nat} {s v:List Int} (hs:Named n s):∀k,k<=s.length->∀j,j<k->nI (qd1 n s v k) (nI s j).toNat=nI v j
 | 0,_,j,hj=>absurd hj (Nat.not_lt_zero _)
 | k+1,hk,j,hj=>by
  have h1:=hs.at_ k (by omega)
  have h2:=hs.at_ j (by omega)
  rw[qd1,q66 _ (by rw[qi8]; omega)]
  rcases Nat.lt_succ_iff_lt_or_eq.1 hj with e | e
  ·have:=hs.asc j k e (by omega)
   rw[if_neg (by omega)]
   exact q7a hs k (by omega) j e
  ·rw[if_pos (by rw[e]),e]
theorem wa9 {n:Nat} {s v:List Int} (hs:Named n s) {c:Nat} (hc:∀j,j<s.length->nI s j≠(c:Int)):∀k,k<=s.length->nI (qd1 n s v k) c=0
 | 0,_=>xe5 n c
 | k+1,hk=>by
  have h1:=hs.at_ k (by omega)
  have h2:=hc k (by omega)
  rw[qd1,q66 _ (by rw[qi8]; omega),if_neg (by omega)]
  exact wa9 hs hc k (by omega)
theorem q7b {v:List Int}:∀k,k<=v.length->(qo3 v k=true↔∀c,c<k->nI v c≠0)
 | 0,_=>⟨λ_ c hc=>absurd hc (Nat.not_lt_zero _),λ_=>rfl⟩
 | k+1,hk=>by
  rw[qo3,Bool.and_eq_true,q7b k (by omega),bne_iff_ne]
  constructor
  ·rintro⟨h1,h2⟩ c hc
   rcases Nat.lt_succ_iff_lt_or_eq.1 hc with e | e
   ·exact h1 c e
   ·rw[e]; exact h2
  ·exact λh=>⟨λc hc=>h c (by omega),h k (by omega)⟩
theorem xa3 {v:List Int}:(v.any λe=>(0:Int)==e)=false↔∀c,c<v.length->nI v c≠0:=by
 rw[List.any_eq_false]
 constructor
 ·intro h c hc e
  have:=h _ (q8s hc)
  rw[e] at this
  exact this rfl
 ·intro h x hx q
  obtain⟨c,hc,rfl⟩:=q8t hx
  exact h c hc (beq_iff_eq.1 q).symm
structure IsC (m:List (List Int)) (s:List Int):Prop where
 one:(qh7 m s).length=1
 nz:∀c,c<s.length->nI (nL (qh7 m s) 0) c≠0
theorem q1e {m:List (List Int)} {s:List Int} (hM:Mk m) (hs:Named (nL m 0).length s) (hok:q1h m s=true):qq9 m s=true↔IsC m s:=by
 have h1:0<s.length:=by
  unfold q1h at hok
  rw[Bool.and_eq_true,decide_eq_true_eq] at hok
  omega
 have hO:=qj8 hM hs h1
 unfold qq9
 rw[hok,Bool.true_and,Bool.and_eq_true,decide_eq_true_eq]
 constructor
 ·rintro⟨a,b⟩
  have hl:=(hO.ker_small (qk1 (qg0 (qj1 m s)) 0 (by show 0<(qh7 m s).length; omega))).1
  exact⟨a,(q7b _ (by show s.length<=(nL (qg0 (qj1 m s)) 0).length; omega)).1 b⟩
 ·intro h
  have hl:=(hO.ker_small (qk1 (qg0 (qj1 m s)) 0 (by have:=h.one; show 0<(qh7 m s).length; omega))).1
  exact⟨h.one,(q7b _ (by show s.length<=(nL (qg0 (qj1 m s)) 0).length; omega)).2 h.nz⟩
theorem wk9 {m:List (List Int)} {s:List Int} (hM:Mk m) (hs:Named (nL m 0).length s) (h1:0<s.length):q7n (qk5 m s)=true↔IsC m s:=by
 have hO:=qj8 hM hs h1
 rw[w6z hM hs h1]
 unfold q7n
 rw[Bool.and_eq_true,decide_eq_true_eq,Bool.not_eq_true',xa3]
 constructor
 ·rintro⟨a,b⟩
  have hl:=(hO.ker_small (qk1 (qg0 (qj1 m s)) 0 (by show 0<(qh7 m s).length; omega))).1
  exact⟨a,λc hc=>b c (by show c<(nL (qg0 (qj1 m s)) 0).length; omega)⟩
 ·intro h
  have hl:=(hO.ker_small (qk1 (qg0 (qj1 m s)) 0 (by have:=h.one; show 0<(qh7 m s).length; omega))).1
  exact⟨h.one,λc hc=>h.nz c (by have:c<(nL (qg0 (qj1 m s)) 0).length:=hc; omega)⟩
theorem xm1 {l:List Int} (h:∀d:Nat,(∀c,c<l.length->d∣(nI l c).natAbs)->d=1):qd8 l=l:=by
 have h1:(gcdL l).natAbs=1:=h _ λc hc=>(xv1 l 0).2.1 _ (q8s hc)
 unfold qd8
 rw[if_neg (by omega)]
theorem w61 (l:List Int):w87 l=qi7 l (-1):=by
 refine List.ext_getElem (by rw[q41,qr8]) λi h1 h2=>?_
 rw[<- qg4 _ i h1,<- qg4 _ i h2,q8u,q47]
 omega
theorem xm2 {m:List (List Int)} {s:List Int} (hM:Mk m) (hs:Named (nL m 0).length s) (h1:0<s.length) (hc:IsC m s):xx1 m (nL m 0).length s=wk4 m (nL m 0).length s:=by
 have hO:=qj8 hM hs h1
 obtain⟨f,hf,hnp,ho,hv,hp⟩:=hO.one_free hc.one
 have hnz:=hc.nz
 unfold xx1 wk4 q2c
 rw[w6z hM hs h1]
 change KV _ _ _ _ _ (nL (qh7 m s) 0) at hv
 change Prim (nL (qh7 m s) 0) at hp
 generalize nL (qh7 m s) 0=v at *
 have hat:=λj (hj:j<s.length)=>q7a (v:=v) hs _ (Nat.le_refl _) j hj
 have ho2:∀c:Nat,(∀j,j<s.length->nI s j≠(c:Int))->nI (qd1 (nL m 0).length s v s.length) c=0:=λc hc=>wa9 hs hc _ (Nat.le_refl _)
 have hlen:=qi8 (nL m 0).length s v s.length
 generalize qd1 (nL m 0).length s v s.length=u at *
 have hsh:qd8 u=u:=xm1 λd hd=>hp.gcd hv.len hf hv.pos d λc hc=>by
  have h2:=hs.at_ c hc
  rw[<- hat c hc]
  exact hd _ (by omega)
 have h0:=hs.at_ 0 h1
 have hfst:qu9 u=nI s 0:=by
  have:=wx9 (.int .i64) (λe=>e != 0) u (nI s 0).toNat (by omega) (λi hi=>by
   have:nI u i=0:=ho2 i λj hj e=>by
    rcases Nat.eq_zero_or_pos j with q | q
    ·rw[q] at e; omega
    ·have:=hs.asc 0 j q hj
     omega
   show(nI u i != 0)=false
   rw[this]; rfl) (by
   show(nI u (nI s 0).toNat != 0)=true
   rw[hat 0 h1]
   exact bne_iff_ne.2 (hnz 0 h1))
  unfold qu9
  rw[this]
  omega
 unfold q6d
 rw[hsh,hfst]
 by_cases q:nI u (nI s 0).toNat<0
 ·rw[if_pos ⟨h0.1,q⟩,if_pos q,w61]
 ·rw[if_neg λk=>q k.2,if_neg q]
theorem w0h {N K:Nat} {A:Nat->Int} {σ:Nat->Nat} {w:Nat->Int} (hσ:∀q,q<K->σ q<N):(sm N λcol=>A col*sm K λq=>if σ q=col then w q else 0)=sm K λq=>A (σ q)*w q:=by
 have e:(sm N λcol=>A col*sm K λq=>if σ q=col then w q else 0)=sm N λcol=>sm K λq=>A col*if σ q=col then w q else 0:=qg3 λc hc=>by
  try dsimp only
  rw[qt2]
 rw[e,w58]
 refine qg3 λq hq=>?_
 try dsimp only
 rw[qw0 (k:=σ q) (hσ q hq) λi hi hne=>by
  try dsimp only
  rw[if_neg (Ne.symm hne),Int.mul_zero]]
 try dsimp only
 rw[if_pos rfl]
theorem xa4 {m:List (List Int)} {s:List Int} (hM:Mk m) (hs:Named (nL m 0).length s) (h1:0<s.length):(qg7 (qj1 m s) s.length).piv.length<=(qj2 m (qo5 (nL m 0).length)).2.length:=Nat.le_of_not_lt λhgt=>by
 have hO:=qj8 hM hs h1
 have hF:=(qj8 hM (Named.idx (nL m 0).length) (by rw[qe8]; exact hM.pix1))
 have hstF:=hF.stP
 unfold qj2 at hgt
 rw[qs0] at hgt
 have hst:=hO.stR
 rw[qe8] at hstF hgt
 generalize qd2 (qj1 m (qo5 (nL m 0).length)) (nL m 0).length=F at hstF hgt
 obtain⟨rF,PF⟩:=F
 dsimp only at hstF hgt
 generalize(qg7 (qj1 m s) s.length).piv=P at hst hgt
 generalize(qg7 (qj1 m s) s.length).done_++(qg7 (qj1 m s) s.length).left=rows at hst
 have hpl:=hst.pl
 have hplF:=hstF.pl
 have hPs:∀q,q<P.length->(nI P q).toNat<s.length:=λq hq=>by have:=hst.pos q hq; omega
 have hσ:∀q,q<P.length->(nI s (nI P q).toNat).toNat<(nL m 0).length:=λq hq=>by have:=hs.at_ _ (hPs q hq); omega
 obtain⟨w,w1,q0,hq0,w2⟩:=wr1 (n:=PF.length) (W:=P.length) (λk q=>nI (nL rF k) (nI s (nI P q).toNat).toNat) hgt
 have hF2:Sol m.length (nL m 0).length (rowOf (qj1 m (qo5 (nL m 0).length))) λcol=>sm P.length λq=>if(nI s (nI P q).toNat).toNat=col then w q else 0:=(hstF.sol _).2 λi hi=>by
  rcases Nat.lt_or_ge i PF.length with q | q
  ·unfold dt
   rw[w0h hσ]
   exact w1 i q
  ·refine qt1 λc hc=>?_
   try dsimp only
   rw[hstF.zero i q hi c hc,Int.zero_mul]
 have hsub:Sol m.length s.length (rowOf (qj1 m s)) λc=>sm P.length λq=>if(nI P q).toNat=c then w q else 0:=λa ha=>by
  rw[w0h hPs]
  have e1:=hF2 a ha
  rw[w0h hσ] at e1
  rw[<- e1]
  refine qg3 λq hq=>?_
  have h2:=hs.at_ _ (hPs q hq)
  unfold rowOf
  rw[qy0 m s a ha,qy0 m _ a ha,q07 _ _ _ (hPs q hq),q07 _ _ _ (by rw[qe8]; exact hσ q hq),q0j _ _ (hσ q hq),Int.toNat_natCast]
 have e:=(hst.sol _).1 hsub q0 (by omega)
 unfold dt at e
 rw[w0h hPs,qw0 (k:=q0) hq0 λi hi hne=>by
  try dsimp only
  rw[(hst.pos i hi).2.2.2.2 q0 (by omega) (Ne.symm hne),Int.zero_mul]] at e
 exact w2 (qd5 e (by have:=(hst.pos q0 hq0).2.2.1; omega))
theorem xa5 {m:List (List Int)} {s:List Int} (hM:Mk m) (hs:Named (nL m 0).length s) (h1:0<s.length) (hc:IsC m s):s.length<=(qj2 m (qo5 (nL m 0).length)).2.length+1:=by
 have hO:=qj8 hM hs h1
 have hr:=xa4 hM hs h1
 obtain⟨f,hf,hnp,ho,_,_⟩:=hO.one_free hc.one
 generalize(qg7 (qj1 m s) s.length).piv=P at *
 refine Nat.le_of_not_lt λhgt=>?_
 have hx:∀a,∃q,a<s.length-1->q<P.length/\nI P q=(skp f a:Int):=λa=>by
  by_cases ha:a<s.length-1
  ·obtain⟨q,hq,e⟩:=ho (skp f a) (by have:=q6w (n:=s.length-1) (i:=f) ha; omega) (xe1 f a)
   exact⟨q,λ_=>⟨hq,e⟩⟩
  ·exact⟨0,λq=>absurd q ha⟩
 obtain⟨g,hg⟩:=Classical.axiomOfChoice hx
 obtain⟨i,j,k1,k2,k3⟩:=q6v P.length (s.length-1) g (λi hi=>(hg i hi).1) (by omega)
 have e1:=(hg i (by omega)).2
 have e2:=(hg j k2).2
 rw[k3] at e1
 have:skp f i=skp f j:=by omega
 unfold skp at this
 split at this <;> split at this <;> omega
def xo0 (m:List (List Int)) (s:List Int):Option (List Int):=if q7n (qk5 m s) then some (xx1 m (nL m 0).length s) else none
def wb0 (m:List (List Int)) (s:List Int):Option (List Int):=if qq9 m s then some (wk4 m (nL m 0).length s) else none
theorem wl0 (m:List (List Int)) (L:List (List Int)):∀c,c<=L.length->qq1 m (nL m 0).length L c=(L.take c).filterMap (xo0 m)
 | 0,_=>rfl
 | c+1,hc=>by
  rw[qq1,takeL_snoc L c (by omega),List.filterMap_append,wl0 m L c (by omega)]
  unfold xo0
  by_cases q:q7n (qk5 m (nL L c))=true
  ·rw[if_pos q]
   simp[List.filterMap,q]
  ·rw[if_neg q]
   have q:q7n (qk5 m (nL L c))=false:=by simpa using q
   simp[List.filterMap,q]
theorem q8y (m:List (List Int)) (L:List (List Int)):∀c,c<=L.length->qg8 m (nL m 0).length L c=(L.take c).filterMap (wb0 m)
 | 0,_=>rfl
 | c+1,hc=>by
  rw[qg8,takeL_snoc L c (by omega),List.filterMap_append,q8y m L c (by omega)]
  unfold wb0
  by_cases q:qq9 m (nL L c)=true
  ·rw[if_pos q]
   simp[List.filterMap,q]
  ·rw[if_neg q]
   have q:qq9 m (nL L c)=false:=by simpa using q
   simp[List.filterMap,q]
def w7o (m:List (List Int)) (k:Nat):List (List Int):=(qa6 (nL m 0).length (k:Nat)).filterMap (wb0 m)
theorem w0i (m:List (List Int)):∀K,q1j m (nL m 0).length K=(List.range K).flatMap λ(k:Nat)=>(qa6 (nL m 0).length (k+1:Nat)).filterMap (xo0 m)
 | 0=>rfl
 | K+1=>by
  rw[q1j,w0i m K,List.range_succ,List.flatMap_append,wl0 m _ _ (Nat.le_refl _),List.take_length]
  simp
theorem xm3 {m:List (List Int)} {s:List Int} (hM:Mk m) (hs:Named (nL m 0).length s) (h1:0<s.length) (hr:s.length<=m.length+1):xo0 m s=wb0 m s:=by
 have hok:q1h m s=true:=by
  unfold q1h
  rw[Bool.and_eq_true,decide_eq_true_eq,decide_eq_true_eq]
  omega
 unfold xo0 wb0
 by_cases q:IsC m s
 ·rw[if_pos ((wk9 hM hs h1).2 q),if_pos ((q1e hM hs hok).2 q),xm2 hM hs h1 q]
 ·rw[if_neg λk=>q ((wk9 hM hs h1).1 k),if_neg λk=>q ((q1e hM hs hok).1 k)]
theorem xm4 {m:List (List Int)} (hM:Mk m):(qj2 m (qo5 (nL m 0).length)).2.length<=m.length:=by
 have hF:=(qj8 hM (Named.idx (nL m 0).length) (by rw[qe8]; exact hM.pix1))
 have:=hF.stP.pl
 unfold qj2
 rw[qs0]
 exact this
theorem w62 {m:List (List Int)} (hM:Mk m) {k:Nat} (hk:q3b m<=k) (hn:k<(nL m 0).length):w7o m (k+1)=[]:=by
 unfold w7o
 rw[List.filterMap_eq_nil_iff]
 intro s hs
 obtain⟨hN,hl⟩:=qu6 hs
 unfold wb0
 rw[if_neg]
 intro q
 have hok:q1h m s=true:=by
  unfold qq9 at q
  rw[Bool.and_eq_true,Bool.and_eq_true] at q
  exact q.1.1
 have:=xa5 hM hN (by omega) ((q1e hM hN hok).1 q)
 unfold q3b at hk
 omega
theorem xa6 {m:List (List Int)} (h7:(nL m 0).length<=7):qg8 m (nL m 0).length (qd9 (nL m 0).length) (qd9 (nL m 0).length).length=(List.range (nL m 0).length).flatMap λk=>w7o m (k+1):=by
 rw[q8y m _ _ (Nat.le_refl _),List.take_length,w6r h7,List.filterMap_flatMap,List.range_succ_eq_map,List.flatMap_cons]
 have e0:(qa6 ((nL m 0).length:Nat) (0:Nat)).filterMap (wb0 m)=[]:=by
  rw[List.filterMap_eq_nil_iff]
  intro s hs
  have hl:=(qu6 hs).2
  unfold wb0 qq9 q1h
  rw[hl]
  rfl
 refine(congrArg (λl=>l++_) e0).trans ?_
 rw[List.flatMap_map]
 rfl
theorem wl1 {f:Nat->List (List Int)} {K:Nat}:∀d,(∀k,K<=k->k<K+d->f k=[])->(List.range (K+d)).flatMap f=(List.range K).flatMap f
 | 0,_=>rfl
 | d+1,h=>by
  rw[<- Nat.add_assoc,List.range_succ,List.flatMap_append,wl1 d λk h1 h2=>h k h1 (by omega)]
  simp[h (K+d) (by omega) (by omega)]
theorem w0j {f g:List Int->Option (List Int)}:∀l:List (List Int),(∀x∈l,f x=g x)->l.filterMap f=l.filterMap g
 | [],_=>rfl
 | x :: l,h=>by rw[List.filterMap_cons,List.filterMap_cons,h x (by simp),w0j l λy hy=>h y (by simp[hy])]
theorem w0k {m:List (List Int)} (hv:validB m=true) (h7:(nL m 0).length<=7):q1j m (nL m 0).length (q3b m)=(List.range (nL m 0).length).flatMap λk=>w7o m (k+1):=by
 have hM:=Mk.of hv
 have hcn:q3b m<=(nL m 0).length:=by unfold q3b; omega
 have e:=wl1 (f:=λk=>w7o m (k+1)) (K:=q3b m) ((nL m 0).length-q3b m) λk h1 h2=>w62 hM h1 (by omega)
 rw[show q3b m+((nL m 0).length-q3b m)=(nL m 0).length by omega] at e
 rw[e,w0i]
 have hr:=xm4 hM
 have key:∀K,K<=q3b m->((List.range K).flatMap λ(k:Nat)=>(qa6 (nL m 0).length (k+1:Nat)).filterMap (xo0 m))=(List.range K).flatMap λk=>w7o m (k+1):=λK=>by
  induction K with
  | zero=>exact λ_=>rfl
  | succ K ih=>
   intro hK
   rw[List.range_succ,List.flatMap_append,List.flatMap_append,ih (by omega)]
   congr 1
   simp only[List.flatMap_cons,List.flatMap_nil,List.append_nil]
   unfold w7o
   refine w0j _ λs hs=>?_
   obtain⟨hN,hl⟩:=qu6 hs
   exact xm3 hM hN (by omega) (by unfold q3b at hK; omega)
 exact key _ (Nat.le_refl _)
def xo1:Nat->(Nat->Int)->Nat
 | 0,_=>0
 | k+1,d=>if d k≠0 then xo1 k d+1 else xo1 k d
def wr9:Nat->(Nat->Int)->List Int
 | 0,_=>[]
 | k+1,d=>if d k≠0 then wr9 k d++[(k:Int)] else wr9 k d
theorem wb1 (d:Nat->Int):∀k,(wr9 k d).length=xo1 k d
 | 0=>rfl
 | k+1=>by
  rw[wr9,xo1]
  split
  ·rw[List.length_append,wb1 d k]; rfl
  ·exact wb1 d k
theorem q4a (d:Nat->Int):∀k,Named k (wr9 k d)/\∀j,j<(wr9 k d).length->d (nI (wr9 k d) j).toNat≠0
 | 0=>⟨⟨λj hj=>absurd hj (Nat.not_lt_zero _),λi j _ hj=>absurd hj (Nat.not_lt_zero _)⟩,λj hj=>absurd hj (Nat.not_lt_zero _)⟩
 | k+1=>by
  obtain⟨h1,h2⟩:=q4a d k
  rw[wr9]
  by_cases q:d k≠0
  ·rw[if_pos q]
   have hl:(wr9 k d++[(k:Int)]).length=(wr9 k d).length+1:=by simp
   refine⟨⟨λj hj=>?_,λi j hij hj=>?_⟩,λj hj=>?_⟩
   ·rw[hl] at hj
    rcases Nat.lt_succ_iff_lt_or_eq.1 hj with e | e
    ·rw[qm5 _ _ e]; have:=h1.at_ j e; omega
    ·rw[e,qt3]; omega
   ·rw[hl] at hj
    rw[qm5 _ _ (show i<(wr9 k d).length by omega)]
    rcases Nat.lt_succ_iff_lt_or_eq.1 hj with e | e
    ·rw[qm5 _ _ e]; exact h1.asc i j hij e
    ·rw[e,qt3]; exact(h1.at_ i (by omega)).2
   ·rw[hl] at hj
    rcases Nat.lt_succ_iff_lt_or_eq.1 hj with e | e
    ·rw[qm5 _ _ e]; exact h2 j e
    ·rw[e,qt3,Int.toNat_natCast]; exact q
  ·rw[if_neg q]
   exact⟨⟨λj hj=>by have:=h1.at_ j hj; omega,h1.asc⟩,h2⟩
theorem w0l (d:Nat->Int):∀k c,c<k->d c≠0->∃j,j<(wr9 k d).length/\nI (wr9 k d) j=(c:Int)
 | k+1,c,hc,hd=>by
  rw[wr9]
  by_cases q:c=k
  ·rw[if_pos (by rw[<- q]; exact hd)]
   exact⟨(wr9 k d).length,by simp,by rw[qt3,q]⟩
  ·obtain⟨j,h1,h2⟩:=w0l d k c (by omega) hd
   split
   ·exact⟨j,by rw[List.length_append]; omega,by rw[qm5 _ _ h1]; exact h2⟩
   ·exact⟨j,h1,h2⟩
theorem Named.inj {n:Nat} {s:List Int} (h:Named n s) {i j:Nat} (hi:i<s.length) (hj:j<s.length) (e:(nI s i).toNat=(nI s j).toNat):i=j:=by
 have h1:=h.at_ i hi
 have h2:=h.at_ j hj
 rcases Nat.lt_trichotomy i j with q | q | q
 ·have:=h.asc i j q hj; omega
 ·exact q
 ·have:=h.asc j i q hi; omega
structure xa7 (m:List (List Int)) (s h:List Int):Prop where
 nam:Named (nL m 0).length s
 pos:0<s.length
 isc:IsC m s
 len:h.length=(nL m 0).length
 nz:xo1 (nL m 0).length (nI h)=s.length
 sol:Sol m.length (nL m 0).length (rowOf m) (nI h)
 on:∀j,j<s.length->nI h (nI s j).toNat≠0
 off:∀c,c<(nL m 0).length->(∀j,j<s.length->nI s j≠(c:Int))->nI h c=0
 small:∀c,(nI h c).natAbs<=160
theorem xv5 {N:Nat} {s:List Int} (hs:Named N s) {d:Nat->Int} (hon:∀j,j<s.length->d (nI s j).toNat≠0) (hoff:∀c,c<N->(∀j,j<s.length->nI s j≠(c:Int))->d c=0):xo1 N d=s.length:=by
 have h1:=(q4a d N).1
 have h2:=(q4a d N).2
 have h3:=w0l d N
 rw[<- wb1]
 have sub:∀(s t:List Int),Named N s->Named N t->(∀j,j<s.length->∃i,i<t.length/\nI t i=nI s j)->s.length<=t.length:=λs t hs ht h=>Nat.le_of_not_lt λhgt=>by
  have hx:∀j,∃i,j<s.length->i<t.length/\nI t i=nI s j:=λj=>by
   by_cases hj:j<s.length
   ·obtain⟨i,hi⟩:=h j hj; exact⟨i,λ_=>hi⟩
   ·exact⟨0,λq=>absurd q hj⟩
  obtain⟨g,hg⟩:=Classical.axiomOfChoice hx
  obtain⟨i,j,k1,k2,k3⟩:=q6v t.length s.length g (λi hi=>(hg i hi).1) hgt
  have e1:=(hg i (by omega)).2
  have e2:=(hg j k2).2
  rw[k3] at e1
  have:=hs.asc i j k1 k2
  omega
 refine Nat.le_antisymm (sub _ _ h1 hs λj hj=>?_) (sub _ _ hs h1 λj hj=>?_)
 ·have hb:=h1.at_ j hj
  refine Classical.byContradiction λq=>h2 j hj (hoff _ (by omega) λi hi e=>q ⟨i,hi,by omega⟩)
 ·have hb:=hs.at_ j hj
  obtain⟨i,hi,e⟩:=h3 _ (by omega) (hon j hj)
  exact⟨i,hi,by omega⟩
theorem xm5 {m:List (List Int)} {s:List Int} (hM:Mk m) (hs:Named (nL m 0).length s) (h1:0<s.length) (hc:IsC m s):xa7 m s (wk4 m (nL m 0).length s):=by
 have hO:=qj8 hM hs h1
 obtain⟨f,hf,hnp,ho,hv,hp⟩:=hO.one_free hc.one
 have hsm:=(hO.ker_small (qk1 (qg0 (qj1 m s)) 0 (by have:=hc.one; show 0<(qh7 m s).length; omega))).2
 have hnz:=hc.nz
 unfold wk4 q2c
 change KV _ _ _ _ _ (nL (qh7 m s) 0) at hv
 change Prim (nL (qh7 m s) 0) at hp
 change ∀x∈nL (qh7 m s) 0,_ at hsm
 generalize nL (qh7 m s) 0=v at *
 have hat:=λj (hj:j<s.length)=>q7a (v:=v) hs _ (Nat.le_refl _) j hj
 have ho2:∀c:Nat,(∀j,j<s.length->nI s j≠(c:Int))->nI (qd1 (nL m 0).length s v s.length) c=0:=λc hc=>wa9 hs hc _ (Nat.le_refl _)
 have hlen:=qi8 (nL m 0).length s v s.length
 generalize qd1 (nL m 0).length s v s.length=u at *
 have hsW:∀c,c<s.length->(nI s c).toNat<(nL m 0).length:=λc hc=>by have:=hs.at_ c hc; omega
 have hsol:Sol m.length (nL m 0).length (rowOf m) (nI u):=λa ha=>by
  rw[wa6 s.length (f:=λc=>rowOf m a c*nI u c) (τ:=λc=>(nI s c).toNat) hsW (λq k hq hk e=>hs.inj hq hk e) λb hb hq=>by
   try dsimp only
   rw[ho2 b λj hj e=>hq j hj (by(try dsimp only); rw[e,Int.toNat_natCast]),Int.mul_zero]]
  rw[<- hv.sol a ha]
  refine qg3 λc hc=>?_
  try dsimp only
  unfold rowOf
  rw[hat c hc,qy0 m s a ha,q07 _ _ _ hc]
 have hsmall:∀c,(nI u c).natAbs<=160:=λc=>by
  by_cases q:∃j,j<s.length/\nI s j=(c:Int)
  ·obtain⟨j,hj,e⟩:=q
   have:=hat j hj
   rw[e,Int.toNat_natCast] at this
   rw[this]
   exact hsm _ (q8s (by rw[hv.len]; exact hj))
  ·rw[ho2 c λj hj e=>q ⟨j,hj,e⟩]; decide
 have both:∀h:List Int,h.length=u.length->∀sg:Int,(sg=1\/sg=-1)->(∀c,nI h c=nI u c*sg)->xa7 m s h:=λh hl sg hsg he=>by
  have hsg0:sg≠0:=by rcases hsg with rfl | rfl <;> decide
  have hon:∀j,j<s.length->nI h (nI s j).toNat≠0:=λj hj=>by
   rw[he,hat j hj]; exact qu4 (hnz j hj) hsg0
  have hoff:∀c,c<(nL m 0).length->(∀j,j<s.length->nI s j≠(c:Int))->nI h c=0:=λc hc hj=>by
   rw[he,ho2 c hj,Int.zero_mul]
  refine⟨hs,h1,hc,by omega,xv5 hs hon hoff,λa ha=>?_,hon,hoff,λc=>?_⟩
  ·have e:=hsol a ha
   have e2:(sm (nL m 0).length λc=>rowOf m a c*nI h c)=sg*sm (nL m 0).length λc=>rowOf m a c*nI u c:=by
    rw[<- qt2]
    refine qg3 λc hc=>?_
    try dsimp only
    rw[he]; grind
   rw[e2,e,Int.mul_zero]
  ·rw[he,Int.natAbs_mul]
   have:=hsmall c
   rcases hsg with rfl | rfl
   ·simpa using this
   ·simpa using this
 split
 ·exact both _ (qr8 _ _) (-1) (.inr rfl) λc=>q47 u (-1) c
 ·exact both _ rfl 1 (.inl rfl) λc=>by omega
theorem xa8 {m:List (List Int)} (hM:Mk m) {k:Nat} {h:List Int} (hh:h∈w7o m k):∃s,xa7 m s h/\s.length=k:=by
 unfold w7o at hh
 rw[List.mem_filterMap] at hh
 obtain⟨s,hs,e⟩:=hh
 obtain⟨hN,hl⟩:=qu6 hs
 unfold wb0 at e
 split at e
 ·rename_i q
  obtain rfl:=Option.some.inj e
  have hok:q1h m s=true:=by
   have q:=q
   unfold qq9 at q
   rw[Bool.and_eq_true,Bool.and_eq_true] at q
   exact q.1.1
  have h1:0<s.length:=by
   unfold q1h at hok
   rw[Bool.and_eq_true,decide_eq_true_eq] at hok
   omega
  exact⟨s,xm5 hM hN h1 ((q1e hM hN hok).1 q),hl⟩
 ·cases e
end Go.Proofs.YtempacilejhbgaaGreatDoor
