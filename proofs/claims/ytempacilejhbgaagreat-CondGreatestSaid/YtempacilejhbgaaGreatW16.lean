/- The circuits of the program and of the reference are the same lists. Plain mathematics. No condition. -/
import Derived.Test.YtempacilejhbgaaGreatW15
set_option linter.unusedVariables false
namespace Go.Proofs.YtempacilejhbgaaGreat
open Go Go.RowKit Eng
theorem qj9 {m:List (List Int)} {s:List Int} (hM:Mk m) (hs:Named (nL m 0).length s) (h1:0<s.length):Ones m.length s.length (qj1 m s):=by
 have hl:=hs.len
 have h10:=hM.pix10
 refine⟨⟨q6s m s,λi hi=>by rw[qy2 m s i hi,qs8]⟩,hM.rows1,hM.rows6,h1,by omega,λa c ha hc=>?_⟩
 rw[qy2 m s a ha,q08 _ _ _ hc]
 have:=hs.at_ c hc
 have:=hM.small a ha (nI s c).toNat (by omega)
 omega
theorem qs1 (m:List (List Int)) (s:List Int):q18 m s=qj1 m s:=by
 unfold q18 qc8 qj1
 simp
theorem w7n {m:List (List Int)} {s:List Int} (hM:Mk m) (hs:Named (nL m 0).length s) (h1:0<s.length):qk4 m s=qh6 m s:=by
 unfold qk4 qj2 qh6
 rw[qs1]
 exact(qj9 hM hs h1).kernel
theorem qo3 {n k:Nat} {s:List Int} (h:s∈qa4 (n:Nat) (k:Nat)):Named n s/\s.length=k:=by
 have hl:=(w7g h).1
 unfold qa4 at h
 split at h
 ·have hc:=w0g h
  have he:=hc.len
  simp only[Int.toNat_natCast] at hc he
  have step:∀d i,i+d+1<k->nI s i<nI s (i+d+1):=λd=>by
   induction d with
   | zero=>intro i hi; have:=hc.asc (i+1) (by omega) (by omega); simpa using this
   | succ d ih=>
    intro i hi
    have h1:=ih i (by omega)
    have h2:=hc.asc (i+(d+1)+1) (by omega) (by omega)
    rw[show i+(d+1)+1-1=i+d+1 by omega] at h2
    omega
  refine⟨⟨λj hj=>?_,λi j hij hj=>?_⟩,hl⟩
  ·have h1:=hc.lo j (by omega)
   have h2:=hc.hi j (by omega)
   omega
  ·have:=step (j-i-1) i (by omega)
   rwa [show i+(j-i-1)+1=j by omega] at this
 ·cases h
theorem q7k:∀(m k:Nat) (a:Int) (l:List Int),l.length=k->(∀i,i<k->a<=nI l i/\nI l i<a+m)->(∀i j,i<j->j<k->nI l i<nI l j)->l∈qk1 m k a
 | m,0,a,l,hl,_,_=>by
  have:l=[]:=List.eq_nil_of_length_eq_zero hl
  rw[qv6,this]; simp
 | 0,k+1,a,l,hl,hb,_=>by
  have:=hb 0 (by omega)
  omega
 | m+1,k+1,a,l,hl,hb,ha=>by
  match l,hl with
  | x :: t,hl=>
  have hl:t.length=k:=by simpa using hl
  rw[qk1,List.mem_append,List.mem_map]
  by_cases e:x=a
  ·refine .inl ⟨t,q7k m k (a+1) t hl (λi hi=>?_) (λi j hij hj=>ha (i+1) (j+1) (by omega) (by omega)),by rw[e]⟩
   have h1:=hb (i+1) (by omega)
   have h2:=ha 0 (i+1) (by omega) (by omega)
   rw[qp1] at h1
   rw[qs9,qp1] at h2
   omega
  ·refine .inr (q7k m (k+1) (a+1) (x :: t) (by simp[hl]) (λi hi=>?_) ha)
   have h0:=hb 0 (by omega)
   rw[qs9] at h0
   have h1:=hb i hi
   rcases Nat.eq_zero_or_pos i with q | q
   ·rw[q,qs9]; omega
   ·have h2:=ha 0 i q hi
    rw[qs9] at h2
    omega
theorem w7o {n:Nat} {s:List Int} (h:Named n s):s∈qa4 (n:Nat) (s.length:Nat):=by
 have hl:=h.len
 unfold qa4
 rw[if_pos (by omega)]
 refine q7k _ _ _ _ (by rw[Int.toNat_natCast]) (λi hi=>?_) λi j hij hj=>h.asc i j hij (by simpa using hj)
 rw[Int.toNat_natCast] at hi
 have:=h.at_ i hi
 rw[Int.toNat_natCast]
 omega
theorem wu0 {n:Nat} (h7:n<=7) {s:List Int} (h:s∈qe0 n):Named n s:=by
 rw[w7f h7,List.mem_flatMap] at h
 obtain⟨k,_,hk⟩:=h
 exact(qo3 hk).1
theorem xz0 {m:List (List Int)} (hv:validB m=true):q7y m:=by
 have hM:=Mk.of hv
 have h1:=hM.pix1
 have h10:=hM.pix10
 refine⟨⟨?_⟩,λk hk set hset=>?_⟩
 ·have:=(qj9 hM (Named.idx _) (by rw[qe9]; exact h1)).redOk
  rw[qe9] at this
  rw[qs1]
  exact this
 ·obtain⟨hn,hl⟩:=qo3 hset
  have hO:=qj9 hM hn (by omega)
  refine⟨ChoOk.of hM hn λ_ _=>⟨trivial,Nat.zero_le _⟩,by rw[qs1]; exact hO.redOk,?_⟩
  unfold qj2
  rw[qs1]
  exact hO.kerAr
theorem q7l {n:Nat} {s v:List Int} (hs:Named n s):∀k,k<=s.length->∀j,j<k->nI (qd1 n s v k) (nI s j).toNat=nI v j
 | 0,_,j,hj=>absurd hj (Nat.not_lt_zero _)
 | k+1,hk,j,hj=>by
  have h1:=hs.at_ k (by omega)
  have h2:=hs.at_ j (by omega)
  rw[qd1,q7h _ (by rw[qi8]; omega)]
  rcases Nat.lt_succ_iff_lt_or_eq.1 hj with e | e
  ·have:=hs.asc j k e (by omega)
   rw[if_neg (by omega)]
   exact q7l hs k (by omega) j e
  ·rw[if_pos (by rw[e]),e]
theorem wc6 {n:Nat} {s v:List Int} (hs:Named n s) {c:Nat} (hc:∀j,j<s.length->nI s j≠(c:Int)):∀k,k<=s.length->nI (qd1 n s v k) c=0
 | 0,_=>xh6 n c
 | k+1,hk=>by
  have h1:=hs.at_ k (by omega)
  have h2:=hc k (by omega)
  rw[qd1,q7h _ (by rw[qi8]; omega),if_neg (by omega)]
  exact wc6 hs hc k (by omega)
theorem q7m {v:List Int}:∀k,k<=v.length->(qo1 v k=true↔∀c,c<k->nI v c≠0)
 | 0,_=>⟨λ_ c hc=>absurd hc (Nat.not_lt_zero _),λ_=>rfl⟩
 | k+1,hk=>by
  rw[qo1,Bool.and_eq_true,q7m k (by omega),bne_iff_ne]
  constructor
  ·rintro⟨h1,h2⟩ c hc
   rcases Nat.lt_succ_iff_lt_or_eq.1 hc with e | e
   ·exact h1 c e
   ·rw[e]; exact h2
  ·exact λh=>⟨λc hc=>h c (by omega),h k (by omega)⟩
theorem xd3 {v:List Int}:(v.any λe=>(0:Int)==e)=false↔∀c,c<v.length->nI v c≠0:=by
 rw[List.any_eq_false]
 constructor
 ·intro h c hc e
  have:=h _ (q85 hc)
  rw[e] at this
  exact this rfl
 ·intro h x hx q
  obtain⟨c,hc,rfl⟩:=q86 hx
  exact h c hc (beq_iff_eq.1 q).symm
structure IsC (m:List (List Int)) (s:List Int):Prop where
 one:(qh6 m s).length=1
 nz:∀c,c<s.length->nI (nL (qh6 m s) 0) c≠0
theorem q1f {m:List (List Int)} {s:List Int} (hM:Mk m) (hs:Named (nL m 0).length s) (hok:q1h m s=true):qr1 m s=true↔IsC m s:=by
 have h1:0<s.length:=by
  unfold q1h at hok
  rw[Bool.and_eq_true,decide_eq_true_eq] at hok
  omega
 have hO:=qj9 hM hs h1
 unfold qr1
 rw[hok,Bool.true_and,Bool.and_eq_true,decide_eq_true_eq]
 constructor
 ·rintro⟨a,b⟩
  have hl:=(hO.ker_small (qj4 (qg1 (qj1 m s)) 0 (by show 0<(qh6 m s).length; omega))).1
  exact⟨a,(q7m _ (by show s.length<=(nL (qg1 (qj1 m s)) 0).length; omega)).1 b⟩
 ·intro h
  have hl:=(hO.ker_small (qj4 (qg1 (qj1 m s)) 0 (by have:=h.one; show 0<(qh6 m s).length; omega))).1
  exact⟨h.one,(q7m _ (by show s.length<=(nL (qg1 (qj1 m s)) 0).length; omega)).2 h.nz⟩
theorem wn1 {m:List (List Int)} {s:List Int} (hM:Mk m) (hs:Named (nL m 0).length s) (h1:0<s.length):q7x (qk4 m s)=true↔IsC m s:=by
 have hO:=qj9 hM hs h1
 rw[w7n hM hs h1]
 unfold q7x
 rw[Bool.and_eq_true,decide_eq_true_eq,Bool.not_eq_true',xd3]
 constructor
 ·rintro⟨a,b⟩
  have hl:=(hO.ker_small (qj4 (qg1 (qj1 m s)) 0 (by show 0<(qh6 m s).length; omega))).1
  exact⟨a,λc hc=>b c (by show c<(nL (qg1 (qj1 m s)) 0).length; omega)⟩
 ·intro h
  have hl:=(hO.ker_small (qj4 (qg1 (qj1 m s)) 0 (by have:=h.one; show 0<(qh6 m s).length; omega))).1
  exact⟨h.one,λc hc=>h.nz c (by have:c<(nL (qg1 (qj1 m s)) 0).length:=hc; omega)⟩
theorem xp0 {l:List Int} (h:∀d:Nat,(∀c,c<l.length->d∣(nI l c).natAbs)->d=1):qd9 l=l:=by
 have h1:(gcdL l).natAbs=1:=h _ λc hc=>(xy8 l 0).2.1 _ (q85 hc)
 unfold qd9
 rw[if_neg (by omega)]
theorem w7p (l:List Int):w9x l=qi7 l (-1):=by
 refine List.ext_getElem (by rw[q5c,qr9]) λi h1 h2=>?_
 rw[<- qf8 _ i h1,<- qf8 _ i h2,q87,q5i]
 omega
theorem xp1 {m:List (List Int)} {s:List Int} (hM:Mk m) (hs:Named (nL m 0).length s) (h1:0<s.length) (hc:IsC m s):x0f m (nL m 0).length s=wm6 m (nL m 0).length s:=by
 have hO:=qj9 hM hs h1
 obtain⟨f,hf,hnp,ho,hv,hp⟩:=hO.one_free hc.one
 have hnz:=hc.nz
 unfold x0f wm6 q2d
 rw[w7n hM hs h1]
 change KV _ _ _ _ _ (nL (qh6 m s) 0) at hv
 change Prim (nL (qh6 m s) 0) at hp
 generalize nL (qh6 m s) 0=v at *
 have hat:=λj (hj:j<s.length)=>q7l (v:=v) hs _ (Nat.le_refl _) j hj
 have ho2:∀c:Nat,(∀j,j<s.length->nI s j≠(c:Int))->nI (qd1 (nL m 0).length s v s.length) c=0:=λc hc=>wc6 hs hc _ (Nat.le_refl _)
 have hlen:=qi8 (nL m 0).length s v s.length
 generalize qd1 (nL m 0).length s v s.length=u at *
 have hsh:qd9 u=u:=xp0 λd hd=>hp.gcd hv.len hf hv.pos d λc hc=>by
  have h2:=hs.at_ c hc
  rw[<- hat c hc]
  exact hd _ (by omega)
 have h0:=hs.at_ 0 h1
 have hfst:qu7 u=nI s 0:=by
  have:=w0f (.int .i64) (λe=>e != 0) u (nI s 0).toNat (by omega) (λi hi=>by
   have:nI u i=0:=ho2 i λj hj e=>by
    rcases Nat.eq_zero_or_pos j with q | q
    ·rw[q] at e; omega
    ·have:=hs.asc 0 j q hj
     omega
   show(nI u i != 0)=false
   rw[this]; rfl) (by
   show(nI u (nI s 0).toNat != 0)=true
   rw[hat 0 h1]
   exact bne_iff_ne.2 (hnz 0 h1))
  unfold qu7
  rw[this]
  omega
 unfold q6p
 rw[hsh,hfst]
 by_cases q:nI u (nI s 0).toNat<0
 ·rw[if_pos ⟨h0.1,q⟩,if_pos q,w7p]
 ·rw[if_neg λk=>q k.2,if_neg q]
theorem w03 {N K:Nat} {A:Nat->Int} {σ:Nat->Nat} {w:Nat->Int} (hσ:∀q,q<K->σ q<N):(sm N λcol=>A col*sm K λq=>if σ q=col then w q else 0)=sm K λq=>A (σ q)*w q:=by
 have e:(sm N λcol=>A col*sm K λq=>if σ q=col then w q else 0)=sm N λcol=>sm K λq=>A col*if σ q=col then w q else 0:=qg4 λc hc=>by
  try dsimp only
  rw[qt1]
 rw[e,w6w]
 refine qg4 λq hq=>?_
 try dsimp only
 rw[qv8 (k:=σ q) (hσ q hq) λi hi hne=>by
  try dsimp only
  rw[if_neg (Ne.symm hne),Int.mul_zero]]
 try dsimp only
 rw[if_pos rfl]
theorem xd4 {m:List (List Int)} {s:List Int} (hM:Mk m) (hs:Named (nL m 0).length s) (h1:0<s.length):(qg8 (qj1 m s) s.length).piv.length<=(qj2 m (qo5 (nL m 0).length)).2.length:=Nat.le_of_not_lt λhgt=>by
 have hO:=qj9 hM hs h1
 have hF:=(qj9 hM (Named.idx (nL m 0).length) (by rw[qe9]; exact hM.pix1))
 have hstF:=hF.stP
 unfold qj2 at hgt
 rw[qs1] at hgt
 have hst:=hO.stR
 rw[qe9] at hstF hgt
 generalize qd2 (qj1 m (qo5 (nL m 0).length)) (nL m 0).length=F at hstF hgt
 obtain⟨rF,PF⟩:=F
 dsimp only at hstF hgt
 generalize(qg8 (qj1 m s) s.length).piv=P at hst hgt
 generalize(qg8 (qj1 m s) s.length).done_++(qg8 (qj1 m s) s.length).left=rows at hst
 have hpl:=hst.pl
 have hplF:=hstF.pl
 have hPs:∀q,q<P.length->(nI P q).toNat<s.length:=λq hq=>by have:=hst.pos q hq; omega
 have hσ:∀q,q<P.length->(nI s (nI P q).toNat).toNat<(nL m 0).length:=λq hq=>by have:=hs.at_ _ (hPs q hq); omega
 obtain⟨w,w1,q0,hq0,w2⟩:=wt7 (n:=PF.length) (W:=P.length) (λk q=>nI (nL rF k) (nI s (nI P q).toNat).toNat) hgt
 have hF2:Sol m.length (nL m 0).length (rowOf (qj1 m (qo5 (nL m 0).length))) λcol=>sm P.length λq=>if(nI s (nI P q).toNat).toNat=col then w q else 0:=(hstF.sol _).2 λi hi=>by
  rcases Nat.lt_or_ge i PF.length with q | q
  ·unfold dt
   rw[w03 hσ]
   exact w1 i q
  ·refine qt0 λc hc=>?_
   try dsimp only
   rw[hstF.zero i q hi c hc,Int.zero_mul]
 have hsub:Sol m.length s.length (rowOf (qj1 m s)) λc=>sm P.length λq=>if(nI P q).toNat=c then w q else 0:=λa ha=>by
  rw[w03 hPs]
  have e1:=hF2 a ha
  rw[w03 hσ] at e1
  rw[<- e1]
  refine qg4 λq hq=>?_
  have h2:=hs.at_ _ (hPs q hq)
  unfold rowOf
  rw[qy2 m s a ha,qy2 m _ a ha,q08 _ _ _ (hPs q hq),q08 _ _ _ (by rw[qe9]; exact hσ q hq),q0l _ _ (hσ q hq),Int.toNat_natCast]
 have e:=(hst.sol _).1 hsub q0 (by omega)
 unfold dt at e
 rw[w03 hPs,qv8 (k:=q0) hq0 λi hi hne=>by
  try dsimp only
  rw[(hst.pos i hi).2.2.2.2 q0 (by omega) (Ne.symm hne),Int.zero_mul]] at e
 exact w2 (qd5 e (by have:=(hst.pos q0 hq0).2.2.1; omega))
theorem xd5 {m:List (List Int)} {s:List Int} (hM:Mk m) (hs:Named (nL m 0).length s) (h1:0<s.length) (hc:IsC m s):s.length<=(qj2 m (qo5 (nL m 0).length)).2.length+1:=by
 have hO:=qj9 hM hs h1
 have hr:=xd4 hM hs h1
 obtain⟨f,hf,hnp,ho,_,_⟩:=hO.one_free hc.one
 generalize(qg8 (qj1 m s) s.length).piv=P at *
 refine Nat.le_of_not_lt λhgt=>?_
 have hx:∀a,∃q,a<s.length-1->q<P.length/\nI P q=(skp f a:Int):=λa=>by
  by_cases ha:a<s.length-1
  ·obtain⟨q,hq,e⟩:=ho (skp f a) (by have:=q68 (n:=s.length-1) (i:=f) ha; omega) (xh2 f a)
   exact⟨q,λ_=>⟨hq,e⟩⟩
  ·exact⟨0,λq=>absurd q ha⟩
 obtain⟨g,hg⟩:=Classical.axiomOfChoice hx
 obtain⟨i,j,k1,k2,k3⟩:=q67 P.length (s.length-1) g (λi hi=>(hg i hi).1) (by omega)
 have e1:=(hg i (by omega)).2
 have e2:=(hg j k2).2
 rw[k3] at e1
 have:skp f i=skp f j:=by omega
 unfold skp at this
 split at this <;> split at this <;> omega
def xr4 (m:List (List Int)) (s:List Int):Option (List Int):=if q7x (qk4 m s) then some (x0f m (nL m 0).length s) else none
def wc7 (m:List (List Int)) (s:List Int):Option (List Int):=if qr1 m s then some (wm6 m (nL m 0).length s) else none
theorem wn3 (m:List (List Int)) (L:List (List Int)):∀c,c<=L.length->qq3 m (nL m 0).length L c=(L.take c).filterMap (xr4 m)
 | 0,_=>rfl
 | c+1,hc=>by
  rw[qq3,takeL_snoc L c (by omega),List.filterMap_append,wn3 m L c (by omega)]
  unfold xr4
  by_cases q:q7x (qk4 m (nL L c))=true
  ·rw[if_pos q]
   simp[List.filterMap,q]
  ·rw[if_neg q]
   have q:q7x (qk4 m (nL L c))=false:=by simpa using q
   simp[List.filterMap,q]
theorem q9b (m:List (List Int)) (L:List (List Int)):∀c,c<=L.length->qg7 m (nL m 0).length L c=(L.take c).filterMap (wc7 m)
 | 0,_=>rfl
 | c+1,hc=>by
  rw[qg7,takeL_snoc L c (by omega),List.filterMap_append,q9b m L c (by omega)]
  unfold wc7
  by_cases q:qr1 m (nL L c)=true
  ·rw[if_pos q]
   simp[List.filterMap,q]
  ·rw[if_neg q]
   have q:qr1 m (nL L c)=false:=by simpa using q
   simp[List.filterMap,q]
def w8h (m:List (List Int)) (k:Nat):List (List Int):=(qa4 (nL m 0).length (k:Nat)).filterMap (wc7 m)
theorem w04 (m:List (List Int)):∀K,q1j m (nL m 0).length K=(List.range K).flatMap λ(k:Nat)=>(qa4 (nL m 0).length (k+1:Nat)).filterMap (xr4 m)
 | 0=>rfl
 | K+1=>by
  rw[q1j,w04 m K,List.range_succ,List.flatMap_append,wn3 m _ _ (Nat.le_refl _),List.take_length]
  simp
theorem xp2 {m:List (List Int)} {s:List Int} (hM:Mk m) (hs:Named (nL m 0).length s) (h1:0<s.length) (hr:s.length<=m.length+1):xr4 m s=wc7 m s:=by
 have hok:q1h m s=true:=by
  unfold q1h
  rw[Bool.and_eq_true,decide_eq_true_eq,decide_eq_true_eq]
  omega
 unfold xr4 wc7
 by_cases q:IsC m s
 ·rw[if_pos ((wn1 hM hs h1).2 q),if_pos ((q1f hM hs hok).2 q),xp1 hM hs h1 q]
 ·rw[if_neg λk=>q ((wn1 hM hs h1).1 k),if_neg λk=>q ((q1f hM hs hok).1 k)]
theorem xp3 {m:List (List Int)} (hM:Mk m):(qj2 m (qo5 (nL m 0).length)).2.length<=m.length:=by
 have hF:=(qj9 hM (Named.idx (nL m 0).length) (by rw[qe9]; exact hM.pix1))
 have:=hF.stP.pl
 unfold qj2
 rw[qs1]
 exact this
theorem w7q {m:List (List Int)} (hM:Mk m) {k:Nat} (hk:q3e m<=k) (hn:k<(nL m 0).length):w8h m (k+1)=[]:=by
 unfold w8h
 rw[List.filterMap_eq_nil_iff]
 intro s hs
 obtain⟨hN,hl⟩:=qo3 hs
 unfold wc7
 rw[if_neg]
 intro q
 have hok:q1h m s=true:=by
  unfold qr1 at q
  rw[Bool.and_eq_true,Bool.and_eq_true] at q
  exact q.1.1
 have:=xd5 hM hN (by omega) ((q1f hM hN hok).1 q)
 unfold q3e at hk
 omega
theorem xd6 {m:List (List Int)} (h7:(nL m 0).length<=7):qg7 m (nL m 0).length (qe0 (nL m 0).length) (qe0 (nL m 0).length).length=(List.range (nL m 0).length).flatMap λk=>w8h m (k+1):=by
 rw[q9b m _ _ (Nat.le_refl _),List.take_length,w7f h7,List.filterMap_flatMap,List.range_succ_eq_map,List.flatMap_cons]
 have e0:(qa4 ((nL m 0).length:Nat) (0:Nat)).filterMap (wc7 m)=[]:=by
  rw[List.filterMap_eq_nil_iff]
  intro s hs
  have hl:=(qo3 hs).2
  unfold wc7 qr1 q1h
  rw[hl]
  rfl
 refine(congrArg (λl=>l++_) e0).trans ?_
 rw[List.flatMap_map]
 rfl
theorem wn4 {f:Nat->List (List Int)} {K:Nat}:∀d,(∀k,K<=k->k<K+d->f k=[])->(List.range (K+d)).flatMap f=(List.range K).flatMap f
 | 0,_=>rfl
 | d+1,h=>by
  rw[<- Nat.add_assoc,List.range_succ,List.flatMap_append,wn4 d λk h1 h2=>h k h1 (by omega)]
  simp[h (K+d) (by omega) (by omega)]
theorem w05 {f g:List Int->Option (List Int)}:∀l:List (List Int),(∀x∈l,f x=g x)->l.filterMap f=l.filterMap g
 | [],_=>rfl
 | x :: l,h=>by rw[List.filterMap_cons,List.filterMap_cons,h x (by simp),w05 l λy hy=>h y (by simp[hy])]
theorem w06 {m:List (List Int)} (hv:validB m=true) (h7:(nL m 0).length<=7):q1j m (nL m 0).length (q3e m)=(List.range (nL m 0).length).flatMap λk=>w8h m (k+1):=by
 have hM:=Mk.of hv
 have hcn:q3e m<=(nL m 0).length:=by unfold q3e; omega
 have e:=wn4 (f:=λk=>w8h m (k+1)) (K:=q3e m) ((nL m 0).length-q3e m) λk h1 h2=>w7q hM h1 (by omega)
 rw[show q3e m+((nL m 0).length-q3e m)=(nL m 0).length by omega] at e
 rw[e,w04]
 have hr:=xp3 hM
 have key:∀K,K<=q3e m->((List.range K).flatMap λ(k:Nat)=>(qa4 (nL m 0).length (k+1:Nat)).filterMap (xr4 m))=(List.range K).flatMap λk=>w8h m (k+1):=λK=>by
  induction K with
  | zero=>exact λ_=>rfl
  | succ K ih=>
   intro hK
   rw[List.range_succ,List.flatMap_append,List.flatMap_append,ih (by omega)]
   congr 1
   simp only[List.flatMap_cons,List.flatMap_nil,List.append_nil]
   unfold w8h
   refine w05 _ λs hs=>?_
   obtain⟨hN,hl⟩:=qo3 hs
   exact xp2 hM hN (by omega) (by unfold q3e at hK; omega)
 exact key _ (Nat.le_refl _)
end Go.Proofs.YtempacilejhbgaaGreat
