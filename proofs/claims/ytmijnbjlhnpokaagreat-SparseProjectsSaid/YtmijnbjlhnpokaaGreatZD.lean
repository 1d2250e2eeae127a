/- The rest of a reading after some columns: what program and reference reckon. No condition. -/
import Derived.Test.YtmijnbjlhnpokaaGreatW14
import Derived.Test.YtmijnbjlhnpokaaGreatV26
set_option linter.unusedVariables false
namespace Go.Proofs.YtmijnbjlhnpokaaGreat
def qr4 (A:Nat->Nat->Int) (r:Nat) (u:Nat->Int):Nat->Nat->Int:=λi j=>if j=r then u i else A i j
theorem q6c:∀(n:Nat) (A:Nat->Nat->Int) (r:Nat),r<n->∀(x y:Int) (u v:Nat->Int),det n (qr4 A r (λi=>x*u i+y*v i))=x*det n (qr4 A r u)+y*det n (qr4 A r v)
 | n+1,A,0,_,x,y,u,v=>by
  rw[det,det,det,<- qg5,<- qg5,<- q5h]
  refine qb4 λi hi=>?_
  have e1:∀w,qr4 A 0 w i 0=w i:=λw=>if_pos rfl
  have e2:∀w,(λa b=>qr4 A 0 w (skp i a) (b+1))=λa b=>A (skp i a) (b+1):=λw=>by
   funext a b; unfold qr4; rw[if_neg (by omega)]
  rw[e1,e1,e1,e2,e2,e2]
  grind
 | n+1,A,r+1,hr,x,y,u,v=>by
  rw[det,det,det,<- qg5,<- qg5,<- q5h]
  refine qb4 λi hi=>?_
  have e1:∀w,qr4 A (r+1) w i 0=A i 0:=λw=>if_neg (by omega)
  have e2:∀w:Nat->Int,(λa b=>qr4 A (r+1) w (skp i a) (b+1))=qr4 (λa b=>A (skp i a) (b+1)) r (λa=>w (skp i a)):=λw=>by
   funext a b; unfold qr4
   by_cases q:b=r
   ·rw[if_pos (by omega),if_pos q]
   ·rw[if_neg (by omega),if_neg q]
  rw[e1,e1,e1,e2,e2,e2]
  have ih:=q6c n (λa b=>A (skp i a) (b+1)) r (by omega) x y (λa=>u (skp i a)) (λa=>v (skp i a))
  try dsimp only at ih ⊢
  rw[ih]
  grind
theorem q5m {n:Nat} {A:Nat->Nat->Int} {r:Nat} (hr:r<n):det n (qr4 A r λ_=>0)=0:=by
 have:=q6c n A r hr 0 0 (λ_=>0) (λ_=>0)
 simpa using this
theorem w1k {n:Nat} {A:Nat->Nat->Int} {r:Nat} (hr:r<n) (h:∀i,i<n->A i r=0):det n A=0:=by
 rw[<- q5m (n:=n) (A:=A) hr]
 refine qf7 n λi j hi hj=>?_
 unfold qr4; split
 ·rename_i e; rw[e]; exact h i hi
 ·rfl
theorem q4e {n:Nat} (A:Nat->Nat->Int) {r:Nat} (hr:r<n) (v:Nat->Int) (U:Nat->Nat->Int):∀m,det n (qr4 A r λi=>sm m λk=>v k*U k i)=sm m λk=>v k*det n (qr4 A r (U k))
 | 0=>q5m hr
 | m+1=>by
  rw[sm,<- q4e A hr v U m]
  have:=q6c n A r hr 1 (v m) (λi=>sm m λk=>v k*U k i) (U m)
  rw[Int.one_mul] at this
  rw[<- this]
  refine congrArg (det n) (congrArg (qr4 A r) ?_)
  funext i
  rw[sm,Int.one_mul]
theorem w1l {n:Nat} (A:Nat->Nat->Int) {r:Nat} (hr:r<n) (v:Nat->Int) (U:Nat->Nat->Int):∀m,det n (upd A r λj=>sm m λk=>v k*U k j)=sm m λk=>v k*det n (upd A r (U k))
 | 0=>qv7 hr
 | m+1=>by
  rw[sm,<- w1l A hr v U m]
  have:=qp5 n A r hr 1 (v m) (λi=>sm m λk=>v k*U k i) (U m)
  rw[Int.one_mul] at this
  rw[<- this]
  refine congrArg (det n) (congrArg (upd A r) ?_)
  funext i
  rw[sm,Int.one_mul]
theorem w1m {n i:Nat} (f:Nat->Int) (hi:i<n):(sm n λx=>f x*(if i=x then 1 else 0))=f i:=by
 rw[qo7 hi λk _ hne=>by rw[if_neg (Ne.symm hne),Int.mul_zero],if_pos rfl,Int.mul_one]
def lfm (R:Nat->Nat->Int) (pv:Nat->Option Nat) (x b:Nat):Int:=match pv b with
 | some p=>R x p
 | none=>if x=b then 1 else 0
theorem El.minor {n W:Nat} {R ρ:Nat->Nat->Int} {pv:Nat->Option Nat} (h:El n W R ρ pv) {a:Nat} (ha:a<n) (hnice:∀d:Nat,(∀c,c<W->d∣(ρ a c).natAbs)->d=1) {c:Nat} (hc:c<W):(ρ a c).natAbs<=(det n (qr4 (lfm R pv) a λx=>R x c)).natAbs:=by
 obtain⟨z,hz⟩:∃z:Nat->Int,∀x,z x=det n (qr4 (lfm R pv) a λi=>if i=x then 1 else 0):=⟨_,λ_=>rfl⟩
 have hs:∀f:Nat->Int,(sm n λx=>f x*z x)=det n (qr4 (lfm R pv) a f):=λf=>by
  rw[qb4 (g:=λx=>f x*det n (qr4 (lfm R pv) a λi=>if i=x then 1 else 0)) λx _=>by rw[hz x],<- q4e (lfm R pv) ha f (λx i=>if i=x then 1 else 0) n]
  refine qf7 n λi j hi hj=>?_
  unfold qr4; split
  ·exact w1m f hi
  ·rfl
 have heq:∀b,b<n->b≠a->sm n (λx=>lfm R pv x b*z x)=0:=λb hb hne=>by
  rw[hs λx=>lfm R pv x b]
  refine wf4 ha hb (Ne.symm hne) λi hi=>?_
  unfold qr4
  rw[if_pos rfl,if_neg hne]
 have hdet:det n (qr4 (lfm R pv) a λx=>lfm R pv x a)≠0:=by
  have e:det n (qr4 (lfm R pv) a λx=>lfm R pv x a)=det n (lfm R pv):=qf7 n λi j hi hj=>by
   unfold qr4; split
   ·rename_i q; rw[q]
   ·rfl
  rw[e]
  refine wf5 λlam hl=>h.ind lam (λb hb hne hpb=>?_) λt p ht htp=>?_
  ·have:=hl b hb
   have e1:(sm n λi=>lam i*lfm R pv i b)=lam b:=by
    rw[qb4 (g:=λx=>lam x*(if b=x then 1 else 0)) λx _=>?_,w1m lam hb]
    unfold lfm; rw[hpb]
    by_cases q:x=b
    ·rw[if_pos q,if_pos q.symm]
    ·rw[if_neg q,if_neg (Ne.symm q)]
   rw[e1] at this
   exact hne this
  ·have:=hl t ht
   rw[<- this]
   refine qb4 λi _=>?_
   unfold lfm; rw[htp]
 obtain⟨a0,ha0,hza⟩:∃a0,a0<n/\z a0≠0:=Classical.byContradiction λq=>hdet (by
  rw[<- hs λx=>lfm R pv x a]
  exact sm_zero λx hx=>by
   have:z x=0:=Classical.byContradiction λk=>q ⟨x,hx,k⟩
   rw[this,Int.mul_zero])
 have hcol:∀t p,t<n->t≠a->pv t=some p->(sm n λb=>z b*R b p)=0:=λt p ht hne htp=>by
  have:=heq t ht hne
  rw[<- this]
  refine qb4 λi _=>?_
  unfold lfm; rw[htp]
  exact Int.mul_comm _ _
 have hnul:∀b,b<n->b≠a->pv b=none->z b=0:=λb hb hne hpb=>by
  have:=heq b hb hne
  rw[qo7 hb λi _ hi=>by unfold lfm; rw[hpb]; simp[hi]] at this
  unfold lfm at this
  rw[hpb] at this
  simpa using this
 obtain⟨c1,la,hc1,hla,hsa,hna⟩:=h.comb a ha
 obtain⟨s,hs'⟩:∃s:Nat->Int,s=λc=>sm n λb=>z b*R b c:=⟨_,rfl⟩
 have hpar:∃α β:Int,α≠0/\∀c,c<W->α*ρ a c=β*s c:=by
  cases hpa:pv a with
  | none=>
   have hz:=h.ind (λb=>z a*la b-la a*z b) (λb hb hne hpb=>by
    by_cases e:b=a
    ·subst e; exact hne (by(try dsimp only); grind)
    ·have q1:la b=0:=Classical.byContradiction λq=>(hsa b hb q).elim (λk=>k hpb) e
     (try dsimp only at hne); rw[q1,hnul b hb e hpb] at hne
     exact hne (by simp)) (λt p ht htp=>by
    have hne:t≠a:=λe=>by rw[e,hpa] at htp; cases htp
    obtain⟨hpW,_,hp0⟩:=h.piv t p ht htp
    rw[ql7 n (z a) (la a) la z (λb=>R b p),<- hla p hpW,hcol t p ht hne htp,hp0 a ha (Ne.symm hne)]
    simp)
   have hza0:z a≠0:=λq=>by
    have:=hz a0 ha0
    try dsimp only at this
    rw[q] at this
    exact hza (qd3 (a:=la a) (by grind) (hna hpa))
   refine⟨z a*c1,la a,qs1 hza0 hc1,λc hc=>?_⟩
   have e1:(sm n λb=>(z a*la b-la a*z b)*R b c)=0:=sm_zero λb hb=>by have:=hz b hb; (try dsimp only at this ⊢); rw[this]; simp
   rw[ql7 n (z a) (la a) la z (λb=>R b c),<- hla c hc] at e1
   rw[hs']
   grind
  | some p=>
   obtain⟨hpW,hpa0,hp0⟩:=h.piv a p ha hpa
   have hz:=h.ind (λb=>(c1*ρ a p)*z b-s p*la b) (λb hb hne hpb=>by
    have hba:b≠a:=λe=>by rw[e,hpa] at hpb; cases hpb
    have q1:la b=0:=Classical.byContradiction λq=>(hsa b hb q).elim (λk=>k hpb) hba
    (try dsimp only at hne); rw[q1,hnul b hb hba hpb] at hne
    exact hne (by simp)) (λt q ht htq=>by
    obtain⟨hqW,_,hq0⟩:=h.piv t q ht htq
    rw[ql7 n (c1*ρ a p) (s p) z la (λb=>R b q),<- hla q hqW]
    by_cases e:t=a
    ·subst e
     rw[hpa] at htq
     obtain rfl:=Option.some.inj htq
     rw[hs']
     grind
    ·rw[hcol t q ht e htq,hq0 a ha (Ne.symm e)]
     simp)
   have he:s p≠0:=λq=>by
    have:=hz a0 ha0
    try dsimp only at this
    rw[q] at this
    exact hza (qd3 (a:=c1*ρ a p) (by grind) (qs1 hc1 hpa0))
   refine⟨s p*c1,c1*ρ a p,qs1 he hc1,λc hc=>?_⟩
   have e1:(sm n λb=>((c1*ρ a p)*z b-s p*la b)*R b c)=0:=sm_zero λb hb=>by have:=hz b hb; (try dsimp only at this ⊢); rw[this]; simp
   rw[ql7 n (c1*ρ a p) (s p) z la (λb=>R b c),<- hla c hc] at e1
   have e2:s c=sm n λb=>z b*R b c:=by rw[hs']
   rw[<- e2] at e1
   grind
 obtain⟨α,β,hα,hab⟩:=hpar
 have h1:=q9a hα hab hnice c hc
 have h2:s c=det n (qr4 (lfm R pv) a λx=>R x c):=by
  rw[<- hs λx=>R x c,hs']
  exact qb4 λi _=>Int.mul_comm _ _
 rw[h2] at h1
 exact h1
def w9o:Nat->Nat
 | 0=>1
 | n+1=>(n+1)*w9o n
theorem xl6 {m K:Nat} (p:Nat->Bool):∀(n:Nat) {f:Nat->Int},(∀i,i<n->(f i).natAbs<=if p i=true then K else 0)->(sm n f).natAbs<=((List.range n).filter p).length*K
 | 0,f,_=>by simp[sm]
 | n+1,f,h=>by
  have h1:=xl6 p (m:=m) n (f:=f) λi hi=>h i (by omega)
  have h2:=h n (Nat.lt_succ_self n)
  rw[sm,List.range_succ,List.filter_append,List.length_append,Nat.add_mul]
  have h3:(List.filter p [n]).length*K=if p n=true then K else 0:=by
   cases e:p n <;> simp[List.filter,e]
  rw[h3]
  omega
structure Mix (n m s:Nat) (a B:Nat->Nat->Int) (un:Nat->Bool) (A:Nat->Nat->Int) (U:List Nat):Prop where
 nd:U.Nodup
 lt:∀i∈U,i<m
 met:∀i∈U,∃x,x<s/\∀j,j<n->A x j=B i j
 row:∀x,x<s->(un x=true/\∀j,j<n->A x j=if x=j then 1 else 0)\/∃i,i<m/\∀j,j<n->A x j=B i j
 rest:∀x,s<=x->x<n->∀j,j<n->A x j=(sm m λi=>a i x*B i j)+if un x=true/\x=j then 1 else 0
theorem w37 (m:Nat) (U:List Nat) (hU:U.Nodup) (hm:∀i∈U,i<m):((List.range m).filter λi=>!U.contains i).length+U.length=m:=by
 have h1:((List.range m).filter λi=>U.contains i).length=U.length:=by
  refine List.Perm.length_eq ((List.perm_ext_iff_of_nodup (List.nodup_range.filter _) hU).2 λx=>?_)
  rw[List.mem_filter,List.mem_range,List.contains_iff_mem]
  exact⟨λh=>h.2,λh=>⟨hm x h,h⟩⟩
 have h2:∀l:List Nat,(l.filter λi=>!U.contains i).length+(l.filter λi=>U.contains i).length=l.length:=λl=>by
  induction l with
  | nil=>rfl
  | cons x l ih=>
   rw[List.filter_cons,List.filter_cons]
   cases e:U.contains x
   ·rw[if_pos (by rfl),if_neg (by decide),List.length_cons,List.length_cons]; omega
   ·rw[if_neg (by decide),if_pos (by rfl),List.length_cons,List.length_cons]; omega
 have h3:=h2 (List.range m)
 rw[List.length_range] at h3
 omega
theorem Mix.bound {n m K:Nat} {a B:Nat->Nat->Int} {un:Nat->Bool} (ha:∀i x,i<m->x<n->(a i x).natAbs<=1) (hB:∀i j,i<m->j<n->un j=true->B i j=0)
  (hK:∀A:Nat->Nat->Int,(∀x,x<n->(un x=true/\∀j,j<n->A x j=if x=j then 1 else 0)\/∃i,i<m/\∀j,j<n->A x j=B i j)->(det n A).natAbs<=K) :
  ∀(d s:Nat),s+d=n->∀(A:Nat->Nat->Int) (U:List Nat),Mix n m s a B un A U->(det n A).natAbs<=w9o (m-U.length)*K
 | 0,s,hs,A,U,h=>by
  have h1:=hK A λx hx=>h.row x (by omega)
  have h2:∀k,0<w9o k:=λk=>by
   induction k with
   | zero=>exact Nat.one_pos
   | succ k ih=>exact Nat.mul_pos (Nat.succ_pos _) ih
  exact Nat.le_trans h1 (Nat.le_mul_of_pos_left _ (h2 _))
 | d+1,s,hs,A,U,h=>by
  have hsn:s<n:=by omega
  have hfl:=w37 m U h.nd h.lt
  -- the row s is a sum
  cases hu:un s with
  | true=>
   have e:det n A=det n (upd A s λj=>if s=j then 1 else 0):=by
    have h1:=qp5 n A s hsn 1 1 (λj=>sm m λi=>a i s*B i j) (λj=>if s=j then 1 else 0)
    have h2:det n A=det n (upd A s λj=>1*(sm m λi=>a i s*B i j)+1*if s=j then 1 else 0):=qf7 n λi j hi hj=>by
     unfold upd; split
     ·rename_i q
      rw[q,h.rest s (Nat.le_refl _) hsn j hj,hu]
      try dsimp only
      rw[Int.one_mul,Int.one_mul]
      simp
     ·rfl
    have h3:det n (upd A s λj=>sm m λi=>a i s*B i j)=0:=w1k hsn λi hi=>by
     unfold upd; split
     ·exact sm_zero λk hk=>by rw[hB k s hk hsn hu,Int.mul_zero]
     ·rename_i q
      rcases Nat.lt_or_ge i s with q2 | q2
      ·rcases h.row i q2 with⟨_,k⟩ | ⟨k,hk,k2⟩
       ·rw[k s hsn,if_neg (by omega)]
       ·rw[k2 s hsn,hB k s hk hsn hu]
      ·rw[h.rest i q2 hi s hsn,if_neg (by omega),Int.add_zero]
       exact sm_zero λk hk=>by rw[hB k s hk hsn hu,Int.mul_zero]
    rw[h2,h1,h3]
    omega
   rw[e]
   refine Mix.bound ha hB hK d (s+1) (by omega) _ U ⟨h.nd,h.lt,λi hi=>?_,λx hx=>?_,λx h1 h2 j hj=>?_⟩
   ·obtain⟨x,hx,k⟩:=h.met i hi
    exact⟨x,by omega,λj hj=>by unfold upd; rw[if_neg (by omega)]; exact k j hj⟩
   ·by_cases q:x=s
    ·subst q
     exact .inl ⟨hu,λj hj=>by unfold upd; rw[if_pos rfl]⟩
    ·rcases h.row x (by omega) with⟨k1,k2⟩ | ⟨i,hi,k⟩
     ·exact .inl ⟨k1,λj hj=>by unfold upd; rw[if_neg q]; exact k2 j hj⟩
     ·exact .inr ⟨i,hi,λj hj=>by unfold upd; rw[if_neg q]; exact k j hj⟩
   ·unfold upd; rw[if_neg (by omega)]; exact h.rest x (by omega) h2 j hj
  | false=>
   have e:det n A=sm m λi=>a i s*det n (upd A s (B i)):=by
    rw[<- w1l A hsn (λi=>a i s) B m]
    refine qf7 n λi j hi hj=>?_
    unfold upd; split
    ·rename_i q
     rw[q,h.rest s (Nat.le_refl _) hsn j hj,hu]
     simp
    ·rfl
   have hstep:∀i,i<m->(a i s*det n (upd A s (B i))).natAbs<=if(!U.contains i)=true then w9o (m-(U.length+1))*K else 0:=λi hi=>by
    rw[Int.natAbs_mul]
    cases q:U.contains i with
    | true=>
     have hmem:=List.contains_iff_mem.1 q
     obtain⟨x,hx,k⟩:=h.met i hmem
     have h0:det n (upd A s (B i))=0:=q4w (r:=x) (s:=s) (by omega) hsn (by omega) λj hj=>by
      unfold upd; rw[if_neg (by omega),if_pos rfl]; exact k j hj
     rw[h0]; simp
    | false=>
     have hmem:i∉U:=λk=>by rw[List.contains_iff_mem.2 k] at q; cases q
     have h1:=Mix.bound ha hB hK d (s+1) (by omega) (upd A s (B i)) (i :: U) ⟨List.nodup_cons.2 ⟨hmem,h.nd⟩,λk hk=>?_,λk hk=>?_,λx hx=>?_,λx h1 h2 j hj=>?_⟩
     ·have h2:=ha i s hi hsn
      have h3:=Nat.mul_le_mul h2 h1
      rw[List.length_cons,Nat.one_mul] at h3
      simpa using h3
     ·rcases List.mem_cons.1 hk with rfl | hk
      ·exact hi
      ·exact h.lt k hk
     ·rcases List.mem_cons.1 hk with rfl | hk
      ·exact⟨s,Nat.lt_succ_self s,λj hj=>by unfold upd; rw[if_pos rfl]⟩
      ·obtain⟨x,hx,k2⟩:=h.met k hk
       exact⟨x,by omega,λj hj=>by unfold upd; rw[if_neg (by omega)]; exact k2 j hj⟩
     ·by_cases q:x=s
      ·subst q
       exact .inr ⟨i,hi,λj hj=>by unfold upd; rw[if_pos rfl]⟩
      ·rcases h.row x (by omega) with⟨k1,k2⟩ | ⟨k,hk,k2⟩
       ·exact .inl ⟨k1,λj hj=>by unfold upd; rw[if_neg q]; exact k2 j hj⟩
       ·exact .inr ⟨k,hk,λj hj=>by unfold upd; rw[if_neg q]; exact k2 j hj⟩
     ·unfold upd; rw[if_neg (by omega)]; exact h.rest x (by omega) h2 j hj
   have h1:=xl6 (m:=m) (λi=>!U.contains i) m hstep
   rw[<- e] at h1
   refine Nat.le_trans h1 ?_
   rcases Nat.eq_zero_or_pos (m-U.length) with q | q
   ·rw[show((List.range m).filter λi=>!U.contains i).length=0 by omega,Nat.zero_mul]; exact Nat.zero_le _
   ·have h2:w9o (m-U.length)=(m-U.length)*w9o (m-(U.length+1)):=by
     obtain⟨k,hk⟩:∃k,m-U.length=k+1:=⟨m-U.length-1,by omega⟩
     rw[hk,show m-(U.length+1)=k by omega,w9o]
    rw[h2,show((List.range m).filter λi=>!U.contains i).length=m-U.length by omega,Nat.mul_assoc]
    exact Nat.le_refl _
structure Gram (n m W:Nat) (R a b:Nat->Nat->Int) (one:Nat->Prop):Prop where
 n6:n<=6
 m6:m<=6
 prod:∀x c,x<n->c<W->R x c=sm m λi=>a i x*b i c
 ones:∀i x,i<m->x<n->(a i x).natAbs<=1
 oneb:∀i c,i<m->c<W->one c->(b i c).natAbs<=1
theorem x1k {k:Nat} (h:k<=6):w9o k<=720:=by
 have:∀k:Fin 7,w9o k.val<=720:=by decide
 exact this ⟨k,by omega⟩
theorem Gram.detB {n m W:Nat} {R a b:Nat->Nat->Int} {one:Nat->Prop} {pv:Nat->Option Nat} (hG:Gram n m W R a b one) (hpW:∀t p,t<n->pv t=some p->p<W) (hp:∀t p,t<n->pv t=some p->one p) {t:Nat} (ht:t<n) {c B:Nat} (hc:c<W) (hB1:1<=B) (hB:∀i,i<m->(b i c).natAbs<=B):(det n (qr4 (lfm R pv) t λx=>R x c)).natAbs<=691200*B:=by
 have n6:=hG.n6
 have m6:=hG.m6
 obtain⟨Bm,hBm⟩:∃Bm:Nat->Nat->Int,∀i j,Bm i j=if j=t then b i c else match pv j with
  | some p=>b i p
  | none=>0:=⟨_,λ_ _=>rfl⟩
 obtain⟨un,hun⟩:∃un:Nat->Bool,∀j,un j=true↔(j≠t/\pv j=none):=by
  refine⟨λj=>decide (j≠t/\pv j=none),λj=>by simp⟩
 have hone:∀i j,i<m->j<n->j≠t->(Bm i j).natAbs<=1:=λi j hi hj hne=>by
  rw[hBm,if_neg hne]
  cases hpj:pv j with
  | some p=>exact hG.oneb i p hi (hpW j p hj hpj) (hp j p hj hpj)
  | none=>exact Nat.zero_le 1
 have key:=Mix.bound (n:=n) (m:=m) (K:=960*B) (a:=a) (B:=Bm) (un:=un) hG.ones (λi j hi hj hu=>by
  obtain⟨q1,q2⟩:=(hun j).1 hu
  rw[hBm,if_neg q1,q2]) (λA hA=>by
   -- the column t alone is great
   have e:det n A=det n (qr4 A t λi=>sm n λk=>A k t*(if i=k then 1 else 0)):=qf7 n λi j hi hj=>by
    unfold qr4; split
    ·rename_i q; rw[q]; exact(w1m (λk=>A k t) hi).symm
    ·rfl
   rw[e,q4e A ht (λk=>A k t) (λk i=>if i=k then 1 else 0) n]
   have h1:=wc8 (n:=n) (B:=B*160) (f:=λk=>A k t*det n (qr4 A t λi=>if i=k then 1 else 0)) λk hk=>by
    rw[Int.natAbs_mul]
    refine Nat.mul_le_mul ?_ (ws8 n6 λi j hi hj=>?_)
    ·rcases hA k hk with⟨q1,q2⟩ | ⟨i,hi,q2⟩
     ·rw[q2 t ht]; split <;> simp <;> omega
     ·rw[q2 t ht,hBm,if_pos rfl]; exact hB i hi
    ·unfold qr4
     by_cases hne:j=t
     ·rw[if_pos hne]; dsimp only; by_cases q:i=k
      ·rw[if_pos q]; decide
      ·rw[if_neg q]; decide
     ·rw[if_neg hne]
      rcases hA i hi with⟨q1,q2⟩ | ⟨r,hr,q2⟩
      ·rw[q2 j hj]; split <;> decide
      ·rw[q2 j hj]; exact hone r j hr hj hne
   have h2:n*(B*160)<=6*(B*160):=Nat.mul_le_mul_right _ n6
   omega) n 0 (by omega) (qr4 (lfm R pv) t λx=>R x c) [] ⟨List.nodup_nil,λi hi=>(List.not_mem_nil hi).elim,λi hi=>(List.not_mem_nil hi).elim,λx hx=>absurd hx (Nat.not_lt_zero _),λx _ hx j hj=>by
    unfold qr4
    by_cases q:j=t
    ·rw[if_pos q]
     try dsimp only
     rw[hG.prod x c hx hc]
     have e1:¬(un x=true/\x=j):=λk=>((hun x).1 k.1).1 (k.2.trans q)
     rw[if_neg e1,Int.add_zero]
     refine qb4 λi hi=>?_
     rw[hBm,if_pos q]
    ·rw[if_neg q]
     unfold lfm
     cases hpj:pv j with
     | some p=>
      have e1:¬(un x=true/\x=j):=λk=>by
       have:=((hun x).1 k.1).2
       rw[k.2,hpj] at this; cases this
      try dsimp only
      rw[hG.prod x p hx (hpW j p hj hpj),if_neg e1,Int.add_zero]
      refine qb4 λi hi=>?_
      rw[hBm,if_neg q,hpj]
     | none=>
      try dsimp only
      rw[sm_zero λi hi=>by rw[hBm,if_neg q,hpj]; simp,Int.zero_add]
      by_cases q2:x=j
      ·rw[if_pos q2,if_pos ⟨(hun x).2 ⟨by rw[q2]; exact q,by rw[q2]; exact hpj⟩,q2⟩]
      ·rw[if_neg q2,if_neg λk=>q2 k.2]⟩
 have h1:w9o (m-([]:List Nat).length)<=720:=x1k (by simp; omega)
 have h2:=Nat.mul_le_mul_right (960*B) h1
 omega
theorem Gram.bound {n m W:Nat} {R a b ρ:Nat->Nat->Int} {one:Nat->Prop} {pv:Nat->Option Nat} (hG:Gram n m W R a b one) (h:El n W R ρ pv) (hp:∀t p,t<n->pv t=some p->one p) {t:Nat} (ht:t<n) (hnice:xw4 W (R t) (ρ t)) {c B:Nat} (hc:c<W) (hB1:1<=B) (hB:∀i,i<m->(b i c).natAbs<=B):(ρ t c).natAbs<=691200*B:=by
 have n6:=hG.n6
 have m6:=hG.m6
 rcases hnice with⟨s,hs,hr⟩ | hr | hr
 ·rw[hr c hc,Int.natAbs_mul,hG.prod t c ht hc]
  have h2:s.natAbs=1:=by rcases hs with rfl | rfl <;> rfl
  have h3:=wc8 (n:=m) (f:=λi=>a i t*b i c) (B:=B) λi hi=>by
   rw[Int.natAbs_mul]
   have:=Nat.mul_le_mul (hG.ones i t hi ht) (hB i hi)
   omega
  have h4:m*B<=6*B:=Nat.mul_le_mul_right _ m6
  rw[h2]
  omega
 ·rw[hr c hc]; simp
 exact Nat.le_trans (h.minor ht hr hc) (hG.detB (λt p h1 h2=>(h.piv t p h1 h2).1) hp ht hc hB1 hB)
open Go Go.RowKit Eng
theorem w8g {P:List Int} {f:Nat}:(P.any λe=>(f:Int)==e)=true↔isP P f:=by
 rw[List.any_eq_true]
 constructor
 ·rintro⟨x,hx,e⟩
  obtain⟨q,hq,rfl⟩:=q5k hx
  exact⟨q,hq,(beq_iff_eq.1 e).symm⟩
 ·rintro⟨q,hq,e⟩
  exact⟨nI P q,q9o hq,beq_iff_eq.2 e.symm⟩
theorem wo4 (P:List Int) (f:Nat):∀k,wn1 P f k=true↔∀q,q<k->nI P q≠(f:Int)
 | 0=>⟨λ_ q hq=>absurd hq (Nat.not_lt_zero _),λ_=>rfl⟩
 | k+1=>by
  rw[wn1,Bool.and_eq_true,wo4 P f k,bne_iff_ne]
  constructor
  ·rintro⟨h1,h2⟩ q hq
   rcases Nat.lt_succ_iff_lt_or_eq.1 hq with e | e
   ·exact h1 q e
   ·rw[e]; exact h2
  ·exact λh=>⟨λq hq=>h q (by omega),h k (by omega)⟩
theorem q9r {P:List Int} {f:Nat}:wn1 P f P.length=true↔¬isP P f:=by rw[wo4,q7z]
def q0k (n f:Nat) (t:Int) (P:List Int) (val:Nat->Int):Nat->List Int
 | 0=>(List.replicate n 0).set f t
 | k+1=>(q0k n f t P val k).set (nI P k).toNat (val k)
theorem qy2 (n f:Nat) (t:Int) (P:List Int) (val:Nat->Int):∀k,(q0k n f t P val k).length=n
 | 0=>by simp[q0k]
 | k+1=>by rw[q0k,List.length_set]; exact qy2 n f t P val k
theorem x1l (n c:Nat):nI (List.replicate n (0:Int)) c=0:=by
 rcases Nat.lt_or_ge c n with h | h
 ·rw[qh7 _ _ (by simpa using h)]; simp
 ·exact q46 _ (by simpa using h)
theorem q70 {n f:Nat} {t:Int} {P:List Int} {val:Nat->Int} (hf:f<n) (hP:∀k,k<P.length->0<=nI P k/\nI P k<n) (hnp:¬isP P f):∀k,k<=P.length->nI (q0k n f t P val k) f=t
 | 0,_=>by rw[q0k,wo3 _ (by simpa using hf),if_pos rfl]
 | k+1,hk=>by
  have:=hP k (by omega)
  rw[q0k,wo3 _ (by rw[qy2]; omega),if_neg λe=>hnp ⟨k,by omega,by omega⟩]
  exact q70 hf hP hnp k (by omega)
theorem wv4 {n f:Nat} {t:Int} {P:List Int} {val:Nat->Int} (hf:f<n) (hP:∀k,k<P.length->0<=nI P k/\nI P k<n) {c:Nat} (hc:c≠f) (hnp:¬isP P c):∀k,k<=P.length->nI (q0k n f t P val k) c=0
 | 0,_=>by rw[q0k,wo3 _ (by simpa using hf),if_neg hc,x1l]
 | k+1,hk=>by
  have:=hP k (by omega)
  rw[q0k,wo3 _ (by rw[qy2]; omega),if_neg λe=>hnp ⟨k,by omega,by omega⟩]
  exact wv4 hf hP hc hnp k (by omega)
theorem wv5 {n f:Nat} {t:Int} {P:List Int} {val:Nat->Int} (hP:∀k,k<P.length->0<=nI P k/\nI P k<n) (hinj:∀q k,q<P.length->k<P.length->nI P q=nI P k->q=k):∀k,k<=P.length->∀q,q<k->nI (q0k n f t P val k) (nI P q).toNat=val q
 | 0,_,q,hq=>absurd hq (Nat.not_lt_zero _)
 | k+1,hk,q,hq=>by
  have h1:=hP k (by omega)
  have h2:=hP q (by omega)
  rw[q0k,wo3 _ (by rw[qy2]; omega)]
  rcases Nat.lt_succ_iff_lt_or_eq.1 hq with e | e
  ·rw[if_neg λe2=>by have:=hinj q k (by omega) (by omega) (by omega); omega]
   exact wv5 hP hinj k (by omega) q e
  ·rw[if_pos (by rw[e]),e]
theorem w8h (r:List (List Int)) (P:List Int) (n f:Nat):∀k,hTo r P n f k=q0k n f (qg2 r P f P.length) P (λk=>((0-nI (nL r k) f)*qg2 r P f P.length).tdiv (nI (nL r k) (nI P k).toNat)) k
 | 0=>rfl
 | k+1=>by rw[hTo,q0k,w8h r P n f k]
theorem w1n (r:List (List Int)) (P:List Int) (n f:Nat):∀k,x0z r P n f k=q0k n f (q44 r P P.length) P (λk=>(0-nI (nL r k) f)*(q44 r P P.length).tdiv (w3x r P k)) k
 | 0=>rfl
 | k+1=>by rw[x0z,q0k,w1n r P n f k]
theorem wv6 (a b:Int):∃x,a=qe2 a b*x:=by
 have h:qe2 a b∣a:=Int.natAbs_dvd_natAbs.1 (Nat.gcd_dvd_left _ _)
 exact h
theorem wv7 (a b:Int):∃x,b=qe2 a b*x:=by
 have h:qe2 a b∣b:=Int.natAbs_dvd_natAbs.1 (Nat.gcd_dvd_right _ _)
 exact h
theorem w8i {a d:Int} (ha:0<a) (hd:0<d):0<a*d.tdiv (qe2 a d)/\a∣a*d.tdiv (qe2 a d)/\d∣a*d.tdiv (qe2 a d)/\(a*d.tdiv (qe2 a d)).natAbs<=a.natAbs*d.natAbs/\a.tdiv (qe2 a d)*d=a*d.tdiv (qe2 a d):=by
 have hg:=qm8 (a:=a) (b:=d) (.inl (by omega))
 obtain⟨x,hx⟩:=wv6 a d
 obtain⟨y,hy⟩:=wv7 a d
 generalize qe2 a d=g at hg hx hy ⊢
 have e1:d.tdiv g=y:=by rw[hy]; exact Int.mul_tdiv_cancel_left _ (by omega)
 have e2:a.tdiv g=x:=by rw[hx]; exact Int.mul_tdiv_cancel_left _ (by omega)
 have hy0:0<y:=q4b hg (by omega)
 rw[e1,e2]
 refine⟨Int.mul_pos ha hy0,⟨y,rfl⟩,⟨x,by rw[hx,hy]; grind⟩,?_,by rw[hx,hy]; grind⟩
 rw[Int.natAbs_mul]
 refine Nat.mul_le_mul_left _ ?_
 rw[<- e1]
 exact q2a _ _
theorem w1o {p r:Int} (hp:0<p):0<p.tdiv (qe2 p r)/\(p.tdiv (qe2 p r)).natAbs<=p.natAbs/\∀t,p.tdiv (qe2 p r)∣t->p∣(0-r)*t:=by
 have hg:=qm8 (a:=p) (b:=r) (.inl (by omega))
 obtain⟨x,hx⟩:=wv6 p r
 obtain⟨y,hy⟩:=wv7 p r
 refine⟨?_,q2a _ _,λt ht=>?_⟩
 ·generalize qe2 p r=g at hg hx hy ⊢
  rw[hx,Int.mul_tdiv_cancel_left _ (by omega)]
  exact q4b hg (by omega)
 ·generalize qe2 p r=g at hg hx hy ht
  rw[hx,Int.mul_tdiv_cancel_left _ (by omega)] at ht
  obtain⟨u,hu⟩:=ht
  exact⟨- (y*u),by rw[hu,hx,hy]; grind⟩
theorem q9s {r:List (List Int)} {P:List Int} {f:Nat} (hp:∀k,k<P.length->0<nI (nL r k) (nI P k).toNat/\(nI (nL r k) (nI P k).toNat).natAbs<=160):∀k,k<=P.length->0<qg2 r P f k/\(qg2 r P f k).natAbs<=160 ^ k/\∀q,q<k->q5p r P f q∣qg2 r P f k
 | 0,_=>⟨by show(0:Int)<1; decide,by show(1:Int).natAbs<=160 ^ 0; decide,λq hq=>absurd hq (Nat.not_lt_zero _)⟩
 | k+1,hk=>by
  obtain⟨a1,a2,a3⟩:=q9s hp k (by omega)
  obtain⟨b1,b2⟩:=hp k (by omega)
  obtain⟨c1,c2,_⟩:=w1o (r:=nI (nL r k) f) b1
  change 0<q5p r P f k at c1
  change(q5p r P f k).natAbs<=_ at c2
  obtain⟨d1,d2,d3,d4,_⟩:=w8i a1 c1
  rw[qg2]
  refine⟨d1,?_,λq hq=>?_⟩
  ·rw[Nat.pow_succ]
   exact Nat.le_trans d4 (Nat.mul_le_mul a2 (by omega))
  ·rcases Nat.lt_succ_iff_lt_or_eq.1 hq with e | e
   ·exact Int.dvd_trans (a3 q e) d2
   ·rw[e]; exact d3
theorem w1p {r:List (List Int)} {P:List Int} (hp:∀k,k<P.length->0<w3x r P k/\(w3x r P k).natAbs<=160):∀k,k<=P.length->0<q44 r P k/\(q44 r P k).natAbs<=160 ^ k/\∀q,q<k->w3x r P q∣q44 r P k
 | 0,_=>⟨by show(0:Int)<1; decide,by show(1:Int).natAbs<=160 ^ 0; decide,λq hq=>absurd hq (Nat.not_lt_zero _)⟩
 | k+1,hk=>by
  obtain⟨a1,a2,a3⟩:=w1p hp k (by omega)
  obtain⟨b1,b2⟩:=hp k (by omega)
  obtain⟨d1,d2,d3,d4,d5⟩:=w8i a1 b1
  rw[q44,d5]
  refine⟨d1,?_,λq hq=>?_⟩
  ·rw[Nat.pow_succ]
   exact Nat.le_trans d4 (Nat.mul_le_mul a2 b2)
  ·rcases Nat.lt_succ_iff_lt_or_eq.1 hq with e | e
   ·exact Int.dvd_trans (a3 q e) d2
   ·rw[e]; exact d3
structure Ones (n W:Nat) (M:List (List Int)):Prop extends Mat n W M where
 n1:0<n
 n6:n<=6
 w1:0<W
 w:W<=1000
 one:∀a c,a<n->c<W->(nI (nL M a) c).natAbs<=1
theorem Ones.small {n W:Nat} {M:List (List Int)} (h:Ones n W M):Small n W W M:=⟨h.toMat,h.n6,Nat.le_refl _,h.w,h.one,λa c ha hc=>by have:=h.one a c ha hc; omega⟩
theorem Ones.small2 {n W:Nat} {M:List (List Int)} (h:Ones n W M):Small n (W-1) (W-1+1) M:=by
 have h1:=h.w1
 have e:W-1+1=W:=by omega
 rw[e]
 exact⟨h.toMat,h.n6,by omega,h.w,λa c ha hc=>h.one a c ha (by omega),λa c ha hc=>by have:=h.one a c ha hc; omega⟩
theorem Ones.rdW {n W:Nat} {M:List (List Int)} (h:Ones n W M):rdW M=W:=h.each 0 h.n1
theorem Ones.stP {n W:Nat} {M:List (List Int)} (h:Ones n W M):St n W (rowOf M) W (qa6 M W).1 (qa6 M W).2:=qt8 h.toMat W (Nat.le_refl _)
theorem Ones.stR {n W:Nat} {M:List (List Int)} (h:Ones n W M):St n W (rowOf M) W ((qh5 M W).done_++(qh5 M W).left) (qh5 M W).piv:=(qr3 h.toMat W (Nat.le_refl _)).st
theorem Ones.at_ {n W:Nat} {M:List (List Int)} (h:Ones n W M) {k:Nat} (hk:k<(qh5 M W).piv.length):nL ((qh5 M W).done_++(qh5 M W).left) k=nL (qh5 M W).done_ k:=qm1 _ _ (by rw[(qr3 h.toMat W (Nat.le_refl _)).cnt]; exact hk)
theorem Ones.rdOk {n W:Nat} {M:List (List Int)} (h:Ones n W M):w9n M:=(w1i h.small2 h.n1).1
theorem Ones.pP {n W:Nat} {M:List (List Int)} (h:Ones n W M):∀k,k<(qa6 M W).2.length->0<nI (nL (qa6 M W).1 k) (nI (qa6 M W).2 k).toNat/\(nI (nL (qa6 M W).1 k) (nI (qa6 M W).2 k).toNat).natAbs<=160:=λk hk=>
 ⟨(h.stP.pos k hk).2.2.1,h.stP.piv_160 h.n6 h.one hk⟩
theorem Ones.pR {n W:Nat} {M:List (List Int)} (h:Ones n W M):∀k,k<(qh5 M W).piv.length->0<w3x (qh5 M W).done_ (qh5 M W).piv k/\(w3x (qh5 M W).done_ (qh5 M W).piv k).natAbs<=160:=λk hk=>by
 have h1:=(h.stR.pos k hk).2.2.1
 have h2:=h.stR.piv_160 h.n6 h.one hk
 rw[h.at_ hk] at h1 h2
 exact⟨h1,h2⟩
theorem Ones.kvP {n W:Nat} {M:List (List Int)} (h:Ones n W M) {f:Nat} (hf:f<W) (hnp:¬isP (qa6 M W).2 f):KV n W (rowOf M) (qa6 M W).2 f (hTo (qa6 M W).1 (qa6 M W).2 W f (qa6 M W).2.length):=by
 have hst:=h.stP
 have hP:∀k,k<(qa6 M W).2.length->0<=nI (qa6 M W).2 k/\nI (qa6 M W).2 k<W:=λk hk=>by have:=hst.pos k hk; omega
 have hT:=q9s (f:=f) h.pP _ (Nat.le_refl _)
 rw[w8h]
 have h0:∀c,c<W->c≠f->¬isP (qa6 M W).2 c->nI (q0k W f (qg2 (qa6 M W).1 (qa6 M W).2 f (qa6 M W).2.length) (qa6 M W).2 (λk=>((0-nI (nL (qa6 M W).1 k) f)*qg2 (qa6 M W).1 (qa6 M W).2 f (qa6 M W).2.length).tdiv (nI (nL (qa6 M W).1 k) (nI (qa6 M W).2 k).toNat)) (qa6 M W).2.length) c=0:=λc hc h1 h2=>wv4 hf hP h1 h2 _ (Nat.le_refl _)
 refine⟨qy2 _ _ _ _ _ _,hst.sol_mk hf hnp h0 λk hk=>?_,h0,?_⟩
 ·rw[wv5 hP (λq k hq hk=>hst.inj hq hk) _ (Nat.le_refl _) k hk,q70 hf hP hnp _ (Nat.le_refl _)]
  have hp:=(h.pP k hk).1
  have hd:=(w1o (r:=nI (nL (qa6 M W).1 k) f) hp).2.2 _ (hT.2.2 k hk)
  rw[Int.mul_tdiv_cancel' hd]
  grind
 ·rw[q70 hf hP hnp _ (Nat.le_refl _)]
  exact hT.1
theorem Ones.kvR {n W:Nat} {M:List (List Int)} (h:Ones n W M) {f:Nat} (hf:f<W) (hnp:¬isP (qh5 M W).piv f):KV n W (rowOf M) (qh5 M W).piv f (x0z (qh5 M W).done_ (qh5 M W).piv W f (qh5 M W).piv.length):=by
 have hst:=h.stR
 have hP:∀k,k<(qh5 M W).piv.length->0<=nI (qh5 M W).piv k/\nI (qh5 M W).piv k<W:=λk hk=>by have:=hst.pos k hk; omega
 have hT:=w1p h.pR _ (Nat.le_refl _)
 rw[w1n]
 have h0:∀c,c<W->c≠f->¬isP (qh5 M W).piv c->nI (q0k W f (q44 (qh5 M W).done_ (qh5 M W).piv (qh5 M W).piv.length) (qh5 M W).piv (λk=>(0-nI (nL (qh5 M W).done_ k) f)*(q44 (qh5 M W).done_ (qh5 M W).piv (qh5 M W).piv.length).tdiv (w3x (qh5 M W).done_ (qh5 M W).piv k)) (qh5 M W).piv.length) c=0:=λc hc h1 h2=>wv4 hf hP h1 h2 _ (Nat.le_refl _)
 refine⟨qy2 _ _ _ _ _ _,hst.sol_mk hf hnp h0 λk hk=>?_,h0,?_⟩
 ·rw[wv5 hP (λq k hq hk=>hst.inj hq hk) _ (Nat.le_refl _) k hk,q70 hf hP hnp _ (Nat.le_refl _),h.at_ hk]
  have hd:w3x (qh5 M W).done_ (qh5 M W).piv k*(q44 (qh5 M W).done_ (qh5 M W).piv (qh5 M W).piv.length).tdiv (w3x (qh5 M W).done_ (qh5 M W).piv k)=_:=Int.mul_tdiv_cancel' (hT.2.2 k hk)
  have e:nI (nL (qh5 M W).done_ k) (nI (qh5 M W).piv k).toNat=w3x (qh5 M W).done_ (qh5 M W).piv k:=rfl
  rw[e]
  grind
 ·rw[q70 hf hP hnp _ (Nat.le_refl _)]
  exact hT.1
theorem Ones.piv {n W:Nat} {M:List (List Int)} (h:Ones n W M) (c:Nat):isP (qa6 M W).2 c↔isP (qh5 M W).piv c:=⟨h.stP.piv_same h.stR,h.stR.piv_same h.stP⟩
theorem Ones.ker {n W:Nat} {M:List (List Int)} (h:Ones n W M):∀f,f<=W->qp1 (qa6 M W).1 (qa6 M W).2 W f=wn3 (qh5 M W).done_ (qh5 M W).piv W f
 | 0,_=>rfl
 | f+1,hf=>by
  have ih:=h.ker f (by omega)
  rw[qp1,wn3,ih]
  by_cases q:isP (qa6 M W).2 f
  ·rw[if_pos (w8g.2 q),if_neg λq2=>q9r.1 q2 ((h.piv f).1 q)]
  ·have q2:¬isP (qh5 M W).piv f:=λq3=>q ((h.piv f).2 q3)
   rw[if_neg λq3=>q (w8g.1 q3),if_pos (q9r.2 q2),q5l]
   have a:=(h.kvP (by omega) q).prim (by omega)
   have b:=((h.kvR (by omega) q2).prim (by omega)).trans λc=>(h.piv c).symm
   rw[a.uniq h.stP (by omega) q b (qq7 _) (qq7 _)]
theorem Ones.kernel {n W:Nat} {M:List (List Int)} (h:Ones n W M):qp1 (qa6 M W).1 (qa6 M W).2 W W=w7w M:=by
 rw[h.ker W (Nat.le_refl _)]
 unfold w7w qd8
 rw[h.rdW]
theorem Named.inj {n:Nat} {s:List Int} (h:Named n s) {i j:Nat} (hi:i<s.length) (hj:j<s.length) (e:(nI s i).toNat=(nI s j).toNat):i=j:=by
 have h1:=h.at_ i hi
 have h2:=h.at_ j hj
 rcases Nat.lt_trichotomy i j with q | q | q
 ·have:=h.asc i j q hj; omega
 ·exact q
 ·have:=h.asc j i q hi; omega
theorem q9t (a b:List Int):∀k,ql0 a b k=sm k λi=>nI a i*nI b i
 | 0=>rfl
 | k+1=>by rw[ql0,sm,q9t a b k]
def qi1 (m:List (List Int)) (j:Nat):List Int:=(List.range m.length).map λi=>nI (nL m i) j
theorem qi7 (m:List (List Int)) (j:Nat):(qi1 m j).length=m.length:=by simp[qi1]
theorem q0d (m:List (List Int)) (j i:Nat) (hi:i<m.length):nI (qi1 m j) i=nI (nL m i) j:=by
 rw[qh7 _ _ (by rw[qi7]; exact hi)]; simp[qi1]
def qf0 (m:List (List Int)) (C:List Int):List Int:=(qi8 m C).2.map λk=>nI C k.toNat
def gRow (m:List (List Int)) (y l:List Int) (x:Nat):List Int:=((List.range l.length).map λc=>ql0 (qi1 m (nI l x).toNat) (qi1 m (nI l c).toNat) m.length)++[ql0 (qi1 m (nI l x).toNat) y m.length]
def qd0 (m:List (List Int)) (y l:List Int):List (List Int):=(List.range l.length).map (gRow m y l)
def q0e (r:List (List Int)) (n k:Nat):Int:=(nI (nL r k) k).tdiv (qe2 (nI (nL r k) k) (nI (nL r k) n))
def q8d (r:List (List Int)) (n k:Nat):Int:=(nI (nL r k) n).tdiv (qe2 (nI (nL r k) k) (nI (nL r k) n))
def qi2 (r:List (List Int)) (n:Nat):Nat->Int
 | 0=>1
 | k+1=>qi2 r n k*(q0e r n k).tdiv (qe2 (qi2 r n k) (q0e r n k))
def x1m (d:List (List Int)):Nat->Int
 | 0=>1
 | k+1=>(x1m d k).tdiv (qe2 (x1m d k) (nI (nL d k) k))*nI (nL d k) k
def rsE (m:List (List Int)) (y l:List Int) (r:List (List Int)) (T:Int):Nat->Nat->Int
 | 0,i=>nI y i*T
 | k+1,i=>rsE m y l r T k i-nI (qi1 m (nI l k).toNat) i*((T.tdiv (q0e r l.length k))*q8d r l.length k)
def rsL (m:List (List Int)) (y l:List Int) (r:List (List Int)) (T:Int) (k:Nat):List Int:=(List.range y.length).map (rsE m y l r T k)
def gP (m:List (List Int)) (y C:List Int):List (List Int):=(qa6 (qd0 m y (qf0 m C)) (qf0 m C).length).1
def qh0 (m:List (List Int)) (y C:List Int):Int:=qi2 (gP m y C) (qf0 m C).length (qf0 m C).length
def qe8 (m:List (List Int)) (y C:List Int):List Int:=rsL m y (qf0 m C) (gP m y C) (qh0 m y C) (qf0 m C).length
theorem qy3 (m:List (List Int)) (y C:List Int):(qe8 m y C).length=y.length:=by simp[qe8,rsL]
end Go.Proofs.YtmijnbjlhnpokaaGreat
