/- The rest of a reading: the program's is the reference's, and how great its numbers are. Plain mathematics. No condition. -/
import Derived.Test.YtmijnbjlhnpokaaGreatW14
import Derived.Test.YtmijnbjlhnpokaaGreatV25
set_option linter.unusedVariables false
namespace Go.Proofs.YtmijnbjlhnpokaaGreat
def qv4 (A:Nat->Nat->Int) (r:Nat) (u:Nat->Int):Nat->Nat->Int:=λi j=>if j=r then u i else A i j
theorem q58:∀(n:Nat) (A:Nat->Nat->Int) (r:Nat),r<n->∀(x y:Int) (u v:Nat->Int),det n (qv4 A r (λi=>x*u i+y*v i))=x*det n (qv4 A r u)+y*det n (qv4 A r v)
 | n+1,A,0,_,x,y,u,v=>by
  rw[det,det,det,<- qi2,<- qi2,<- q67]
  refine qc7 λi hi=>?_
  have e1:∀w,qv4 A 0 w i 0=w i:=λw=>if_pos rfl
  have e2:∀w,(λa b=>qv4 A 0 w (skp i a) (b+1))=λa b=>A (skp i a) (b+1):=λw=>by
   funext a b; unfold qv4; rw[if_neg (by omega)]
  rw[e1,e1,e1,e2,e2,e2]
  grind
 | n+1,A,r+1,hr,x,y,u,v=>by
  rw[det,det,det,<- qi2,<- qi2,<- q67]
  refine qc7 λi hi=>?_
  have e1:∀w,qv4 A (r+1) w i 0=A i 0:=λw=>if_neg (by omega)
  have e2:∀w:Nat->Int,(λa b=>qv4 A (r+1) w (skp i a) (b+1))=qv4 (λa b=>A (skp i a) (b+1)) r (λa=>w (skp i a)):=λw=>by
   funext a b; unfold qv4
   by_cases q:b=r
   ·rw[if_pos (by omega),if_pos q]
   ·rw[if_neg (by omega),if_neg q]
  rw[e1,e1,e1,e2,e2,e2]
  have ih:=q58 n (λa b=>A (skp i a) (b+1)) r (by omega) x y (λa=>u (skp i a)) (λa=>v (skp i a))
  try dsimp only at ih ⊢
  rw[ih]
  grind
theorem q5i {n:Nat} {A:Nat->Nat->Int} {r:Nat} (hr:r<n):det n (qv4 A r λ_=>0)=0:=by
 have:=q58 n A r hr 0 0 (λ_=>0) (λ_=>0)
 simpa using this
theorem xg4 {n:Nat} {A:Nat->Nat->Int} {r:Nat} (hr:r<n) (h:∀i,i<n->A i r=0):det n A=0:=by
 rw[<- q5i (n:=n) (A:=A) hr]
 refine qg2 n λi j hi hj=>?_
 unfold qv4; split
 ·rename_i e; rw[e]; exact h i hi
 ·rfl
theorem q59 {n:Nat} (A:Nat->Nat->Int) {r:Nat} (hr:r<n) (v:Nat->Int) (U:Nat->Nat->Int):∀m,det n (qv4 A r λi=>sm m λk=>v k*U k i)=sm m λk=>v k*det n (qv4 A r (U k))
 | 0=>q5i hr
 | m+1=>by
  rw[sm,<- q59 A hr v U m]
  have:=q58 n A r hr 1 (v m) (λi=>sm m λk=>v k*U k i) (U m)
  rw[Int.one_mul] at this
  rw[<- this]
  refine congrArg (det n) (congrArg (qv4 A r) ?_)
  funext i
  rw[sm,Int.one_mul]
theorem w09 {n:Nat} (A:Nat->Nat->Int) {r:Nat} (hr:r<n) (v:Nat->Int) (U:Nat->Nat->Int):∀m,det n (upd A r λj=>sm m λk=>v k*U k j)=sm m λk=>v k*det n (upd A r (U k))
 | 0=>qw2 hr
 | m+1=>by
  rw[sm,<- w09 A hr v U m]
  have:=qp5 n A r hr 1 (v m) (λi=>sm m λk=>v k*U k i) (U m)
  rw[Int.one_mul] at this
  rw[<- this]
  refine congrArg (det n) (congrArg (upd A r) ?_)
  funext i
  rw[sm,Int.one_mul]
theorem w76 {n i:Nat} (f:Nat->Int) (hi:i<n):(sm n λx=>f x*(if i=x then 1 else 0))=f i:=by
 rw[qo5 hi λk _ hne=>by rw[if_neg (Ne.symm hne),Int.mul_zero],if_pos rfl,Int.mul_one]
def lfm (R:Nat->Nat->Int) (pv:Nat->Option Nat) (x b:Nat):Int:=match pv b with
 | some p=>R x p
 | none=>if x=b then 1 else 0
theorem El.minor {n W:Nat} {R ρ:Nat->Nat->Int} {pv:Nat->Option Nat} (h:El n W R ρ pv) {a:Nat} (ha:a<n) (hnice:∀d:Nat,(∀c,c<W->d∣(ρ a c).natAbs)->d=1) {c:Nat} (hc:c<W):(ρ a c).natAbs<=(det n (qv4 (lfm R pv) a λx=>R x c)).natAbs:=by
 obtain⟨z,hz⟩:∃z:Nat->Int,∀x,z x=det n (qv4 (lfm R pv) a λi=>if i=x then 1 else 0):=⟨_,λ_=>rfl⟩
 have hs:∀f:Nat->Int,(sm n λx=>f x*z x)=det n (qv4 (lfm R pv) a f):=λf=>by
  rw[qc7 (g:=λx=>f x*det n (qv4 (lfm R pv) a λi=>if i=x then 1 else 0)) λx _=>by rw[hz x],<- q59 (lfm R pv) ha f (λx i=>if i=x then 1 else 0) n]
  refine qg2 n λi j hi hj=>?_
  unfold qv4; split
  ·exact w76 f hi
  ·rfl
 have heq:∀b,b<n->b≠a->sm n (λx=>lfm R pv x b*z x)=0:=λb hb hne=>by
  rw[hs λx=>lfm R pv x b]
  refine wu9 ha hb (Ne.symm hne) λi hi=>?_
  unfold qv4
  rw[if_pos rfl,if_neg hne]
 have hdet:det n (qv4 (lfm R pv) a λx=>lfm R pv x a)≠0:=by
  have e:det n (qv4 (lfm R pv) a λx=>lfm R pv x a)=det n (lfm R pv):=qg2 n λi j hi hj=>by
   unfold qv4; split
   ·rename_i q; rw[q]
   ·rfl
  rw[e]
  refine wv0 λlam hl=>h.ind lam (λb hb hne hpb=>?_) λt p ht htp=>?_
  ·have:=hl b hb
   have e1:(sm n λi=>lam i*lfm R pv i b)=lam b:=by
    rw[qc7 (g:=λx=>lam x*(if b=x then 1 else 0)) λx _=>?_,w76 lam hb]
    unfold lfm; rw[hpb]
    by_cases q:x=b
    ·rw[if_pos q,if_pos q.symm]
    ·rw[if_neg q,if_neg (Ne.symm q)]
   rw[e1] at this
   exact hne this
  ·have:=hl t ht
   rw[<- this]
   refine qc7 λi _=>?_
   unfold lfm; rw[htp]
 obtain⟨a0,ha0,hza⟩:∃a0,a0<n/\z a0≠0:=Classical.byContradiction λq=>hdet (by
  rw[<- hs λx=>lfm R pv x a]
  exact sm_zero λx hx=>by
   have:z x=0:=Classical.byContradiction λk=>q ⟨x,hx,k⟩
   rw[this,Int.mul_zero])
 have hcol:∀t p,t<n->t≠a->pv t=some p->(sm n λb=>z b*R b p)=0:=λt p ht hne htp=>by
  have:=heq t ht hne
  rw[<- this]
  refine qc7 λi _=>?_
  unfold lfm; rw[htp]
  exact Int.mul_comm _ _
 have hnul:∀b,b<n->b≠a->pv b=none->z b=0:=λb hb hne hpb=>by
  have:=heq b hb hne
  rw[qo5 hb λi _ hi=>by unfold lfm; rw[hpb]; simp[hi]] at this
  unfold lfm at this
  rw[hpb] at this
  simpa using this
 obtain⟨c1,la,hc1,hla,hsa,hna⟩:=h.comb a ha
 obtain⟨s,hs'⟩:∃s:Nat->Int,s=λc=>sm n λb=>z b*R b c:=⟨_,rfl⟩
 have hpar:∃α β:Int,α≠0/\∀c,c<W->α*ρ a c=β*s c:=by
  cases hpa:pv a with
  | none=>
   have hz:=h.ind (λb=>z a*la b-la a*z b) (λb hb hne hpb=>by
    by_cases e:b=a
    ·subst e; exact hne (by(try dsimp only); grind)
    ·have q1:la b=0:=Classical.byContradiction λq=>(hsa b hb q).elim (λk=>k hpb) e
     (try dsimp only at hne); rw[q1,hnul b hb e hpb] at hne
     exact hne (by simp)) (λt p ht htp=>by
    have hne:t≠a:=λe=>by rw[e,hpa] at htp; cases htp
    obtain⟨hpW,_,hp0⟩:=h.piv t p ht htp
    rw[ql6 n (z a) (la a) la z (λb=>R b p),<- hla p hpW,hcol t p ht hne htp,hp0 a ha (Ne.symm hne)]
    simp)
   have hza0:z a≠0:=λq=>by
    have:=hz a0 ha0
    try dsimp only at this
    rw[q] at this
    exact hza (qd3 (a:=la a) (by grind) (hna hpa))
   refine⟨z a*c1,la a,qp4 hza0 hc1,λc hc=>?_⟩
   have e1:(sm n λb=>(z a*la b-la a*z b)*R b c)=0:=sm_zero λb hb=>by have:=hz b hb; (try dsimp only at this ⊢); rw[this]; simp
   rw[ql6 n (z a) (la a) la z (λb=>R b c),<- hla c hc] at e1
   rw[hs']
   grind
  | some p=>
   obtain⟨hpW,hpa0,hp0⟩:=h.piv a p ha hpa
   have hz:=h.ind (λb=>(c1*ρ a p)*z b-s p*la b) (λb hb hne hpb=>by
    have hba:b≠a:=λe=>by rw[e,hpa] at hpb; cases hpb
    have q1:la b=0:=Classical.byContradiction λq=>(hsa b hb q).elim (λk=>k hpb) hba
    (try dsimp only at hne); rw[q1,hnul b hb hba hpb] at hne
    exact hne (by simp)) (λt q ht htq=>by
    obtain⟨hqW,_,hq0⟩:=h.piv t q ht htq
    rw[ql6 n (c1*ρ a p) (s p) z la (λb=>R b q),<- hla q hqW]
    by_cases e:t=a
    ·subst e
     rw[hpa] at htq
     obtain rfl:=Option.some.inj htq
     rw[hs']
     grind
    ·rw[hcol t q ht e htq,hq0 a ha (Ne.symm e)]
     simp)
   have he:s p≠0:=λq=>by
    have:=hz a0 ha0
    try dsimp only at this
    rw[q] at this
    exact hza (qd3 (a:=c1*ρ a p) (by grind) (qp4 hc1 hpa0))
   refine⟨s p*c1,c1*ρ a p,qp4 he hc1,λc hc=>?_⟩
   have e1:(sm n λb=>((c1*ρ a p)*z b-s p*la b)*R b c)=0:=sm_zero λb hb=>by have:=hz b hb; (try dsimp only at this ⊢); rw[this]; simp
   rw[ql6 n (c1*ρ a p) (s p) z la (λb=>R b c),<- hla c hc] at e1
   have e2:s c=sm n λb=>z b*R b c:=by rw[hs']
   rw[<- e2] at e1
   grind
 obtain⟨α,β,hα,hab⟩:=hpar
 have h1:=q85 hα hab hnice c hc
 have h2:s c=det n (qv4 (lfm R pv) a λx=>R x c):=by
  rw[<- hs λx=>R x c,hs']
  exact qc7 λi _=>Int.mul_comm _ _
 rw[h2] at h1
 exact h1
def w9h:Nat->Nat
 | 0=>1
 | n+1=>(n+1)*w9h n
theorem xk7 {m K:Nat} (p:Nat->Bool):∀(n:Nat) {f:Nat->Int},(∀i,i<n->(f i).natAbs<=if p i=true then K else 0)->(sm n f).natAbs<=((List.range n).filter p).length*K
 | 0,f,_=>by simp[sm]
 | n+1,f,h=>by
  have h1:=xk7 p (m:=m) n (f:=f) λi hi=>h i (by omega)
  have h2:=h n (Nat.lt_succ_self n)
  rw[sm,List.range_succ,List.filter_append,List.length_append,Nat.add_mul]
  have h3:(List.filter p [n]).length*K=if p n=true then K else 0:=by
   cases e:p n <;> simp[List.filter,e]
  rw[h3]
  omega
structure Mix (n m s:Nat) (a B:Nat->Nat->Int) (un:Nat->Bool) (A:Nat->Nat->Int) (U:List Nat):Prop where
 nd:U.Nodup
 lt:∀i∈U,i<m
 met:∀i∈U,∃x,x<s/\∀j,j<n->A x j=B i j
 row:∀x,x<s->(un x=true/\∀j,j<n->A x j=if x=j then 1 else 0)\/∃i,i<m/\∀j,j<n->A x j=B i j
 rest:∀x,s<=x->x<n->∀j,j<n->A x j=(sm m λi=>a i x*B i j)+if un x=true/\x=j then 1 else 0
theorem w3p (m:Nat) (U:List Nat) (hU:U.Nodup) (hm:∀i∈U,i<m):((List.range m).filter λi=>!U.contains i).length+U.length=m:=by
 have h1:((List.range m).filter λi=>U.contains i).length=U.length:=by
  refine List.Perm.length_eq ((List.perm_ext_iff_of_nodup (List.nodup_range.filter _) hU).2 λx=>?_)
  rw[List.mem_filter,List.mem_range,List.contains_iff_mem]
  exact⟨λh=>h.2,λh=>⟨hm x h,h⟩⟩
 have h2:∀l:List Nat,(l.filter λi=>!U.contains i).length+(l.filter λi=>U.contains i).length=l.length:=λl=>by
  induction l with
  | nil=>rfl
  | cons x l ih=>
   rw[List.filter_cons,List.filter_cons]
   cases e:U.contains x
   ·rw[if_pos (by rfl),if_neg (by decide),List.length_cons,List.length_cons]; omega
   ·rw[if_neg (by decide),if_pos (by rfl),List.length_cons,List.length_cons]; omega
 have h3:=h2 (List.range m)
 rw[List.length_range] at h3
 omega
theorem Mix.bound {n m K:Nat} {a B:Nat->Nat->Int} {un:Nat->Bool} (ha:∀i x,i<m->x<n->(a i x).natAbs<=1) (hB:∀i j,i<m->j<n->un j=true->B i j=0)
  (hK:∀A:Nat->Nat->Int,(∀x,x<n->(un x=true/\∀j,j<n->A x j=if x=j then 1 else 0)\/∃i,i<m/\∀j,j<n->A x j=B i j)->(det n A).natAbs<=K) :
  ∀(d s:Nat),s+d=n->∀(A:Nat->Nat->Int) (U:List Nat),Mix n m s a B un A U->(det n A).natAbs<=w9h (m-U.length)*K
 | 0,s,hs,A,U,h=>by
  have h1:=hK A λx hx=>h.row x (by omega)
  have h2:∀k,0<w9h k:=λk=>by
   induction k with
   | zero=>exact Nat.one_pos
   | succ k ih=>exact Nat.mul_pos (Nat.succ_pos _) ih
  exact Nat.le_trans h1 (Nat.le_mul_of_pos_left _ (h2 _))
 | d+1,s,hs,A,U,h=>by
  have hsn:s<n:=by omega
  have hfl:=w3p m U h.nd h.lt
  -- the row s is a sum
  cases hu:un s with
  | true=>
   have e:det n A=det n (upd A s λj=>if s=j then 1 else 0):=by
    have h1:=qp5 n A s hsn 1 1 (λj=>sm m λi=>a i s*B i j) (λj=>if s=j then 1 else 0)
    have h2:det n A=det n (upd A s λj=>1*(sm m λi=>a i s*B i j)+1*if s=j then 1 else 0):=qg2 n λi j hi hj=>by
     unfold upd; split
     ·rename_i q
      rw[q,h.rest s (Nat.le_refl _) hsn j hj,hu]
      try dsimp only
      rw[Int.one_mul,Int.one_mul]
      simp
     ·rfl
    have h3:det n (upd A s λj=>sm m λi=>a i s*B i j)=0:=xg4 hsn λi hi=>by
     unfold upd; split
     ·exact sm_zero λk hk=>by rw[hB k s hk hsn hu,Int.mul_zero]
     ·rename_i q
      rcases Nat.lt_or_ge i s with q2 | q2
      ·rcases h.row i q2 with⟨_,k⟩ | ⟨k,hk,k2⟩
       ·rw[k s hsn,if_neg (by omega)]
       ·rw[k2 s hsn,hB k s hk hsn hu]
      ·rw[h.rest i q2 hi s hsn,if_neg (by omega),Int.add_zero]
       exact sm_zero λk hk=>by rw[hB k s hk hsn hu,Int.mul_zero]
    rw[h2,h1,h3]
    omega
   rw[e]
   refine Mix.bound ha hB hK d (s+1) (by omega) _ U ⟨h.nd,h.lt,λi hi=>?_,λx hx=>?_,λx h1 h2 j hj=>?_⟩
   ·obtain⟨x,hx,k⟩:=h.met i hi
    exact⟨x,by omega,λj hj=>by unfold upd; rw[if_neg (by omega)]; exact k j hj⟩
   ·by_cases q:x=s
    ·subst q
     exact .inl ⟨hu,λj hj=>by unfold upd; rw[if_pos rfl]⟩
    ·rcases h.row x (by omega) with⟨k1,k2⟩ | ⟨i,hi,k⟩
     ·exact .inl ⟨k1,λj hj=>by unfold upd; rw[if_neg q]; exact k2 j hj⟩
     ·exact .inr ⟨i,hi,λj hj=>by unfold upd; rw[if_neg q]; exact k j hj⟩
   ·unfold upd; rw[if_neg (by omega)]; exact h.rest x (by omega) h2 j hj
  | false=>
   have e:det n A=sm m λi=>a i s*det n (upd A s (B i)):=by
    rw[<- w09 A hsn (λi=>a i s) B m]
    refine qg2 n λi j hi hj=>?_
    unfold upd; split
    ·rename_i q
     rw[q,h.rest s (Nat.le_refl _) hsn j hj,hu]
     simp
    ·rfl
   have hstep:∀i,i<m->(a i s*det n (upd A s (B i))).natAbs<=if(!U.contains i)=true then w9h (m-(U.length+1))*K else 0:=λi hi=>by
    rw[Int.natAbs_mul]
    cases q:U.contains i with
    | true=>
     have hmem:=List.contains_iff_mem.1 q
     obtain⟨x,hx,k⟩:=h.met i hmem
     have h0:det n (upd A s (B i))=0:=q4o (r:=x) (s:=s) (by omega) hsn (by omega) λj hj=>by
      unfold upd; rw[if_neg (by omega),if_pos rfl]; exact k j hj
     rw[h0]; simp
    | false=>
     have hmem:i∉U:=λk=>by rw[List.contains_iff_mem.2 k] at q; cases q
     have h1:=Mix.bound ha hB hK d (s+1) (by omega) (upd A s (B i)) (i :: U) ⟨List.nodup_cons.2 ⟨hmem,h.nd⟩,λk hk=>?_,λk hk=>?_,λx hx=>?_,λx h1 h2 j hj=>?_⟩
     ·have h2:=ha i s hi hsn
      have h3:=Nat.mul_le_mul h2 h1
      rw[List.length_cons,Nat.one_mul] at h3
      simpa using h3
     ·rcases List.mem_cons.1 hk with rfl | hk
      ·exact hi
      ·exact h.lt k hk
     ·rcases List.mem_cons.1 hk with rfl | hk
      ·exact⟨s,Nat.lt_succ_self s,λj hj=>by unfold upd; rw[if_pos rfl]⟩
      ·obtain⟨x,hx,k2⟩:=h.met k hk
       exact⟨x,by omega,λj hj=>by unfold upd; rw[if_neg (by omega)]; exact k2 j hj⟩
     ·by_cases q:x=s
      ·subst q
       exact .inr ⟨i,hi,λj hj=>by unfold upd; rw[if_pos rfl]⟩
      ·rcases h.row x (by omega) with⟨k1,k2⟩ | ⟨k,hk,k2⟩
       ·exact .inl ⟨k1,λj hj=>by unfold upd; rw[if_neg q]; exact k2 j hj⟩
       ·exact .inr ⟨k,hk,λj hj=>by unfold upd; rw[if_neg q]; exact k2 j hj⟩
     ·unfold upd; rw[if_neg (by omega)]; exact h.rest x (by omega) h2 j hj
   have h1:=xk7 (m:=m) (λi=>!U.contains i) m hstep
   rw[<- e] at h1
   refine Nat.le_trans h1 ?_
   rcases Nat.eq_zero_or_pos (m-U.length) with q | q
   ·rw[show((List.range m).filter λi=>!U.contains i).length=0 by omega,Nat.zero_mul]; exact Nat.zero_le _
   ·have h2:w9h (m-U.length)=(m-U.length)*w9h (m-(U.length+1)):=by
     obtain⟨k,hk⟩:∃k,m-U.length=k+1:=⟨m-U.length-1,by omega⟩
     rw[hk,show m-(U.length+1)=k by omega,w9h]
    rw[h2,show((List.range m).filter λi=>!U.contains i).length=m-U.length by omega,Nat.mul_assoc]
    exact Nat.le_refl _
structure Gram (n m W:Nat) (R a b:Nat->Nat->Int) (one:Nat->Prop):Prop where
 n6:n<=6
 m6:m<=6
 prod:∀x c,x<n->c<W->R x c=sm m λi=>a i x*b i c
 ones:∀i x,i<m->x<n->(a i x).natAbs<=1
 oneb:∀i c,i<m->c<W->one c->(b i c).natAbs<=1
theorem x0z {k:Nat} (h:k<=6):w9h k<=720:=by
 have:∀k:Fin 7,w9h k.val<=720:=by decide
 exact this ⟨k,by omega⟩
theorem Gram.detB {n m W:Nat} {R a b:Nat->Nat->Int} {one:Nat->Prop} {pv:Nat->Option Nat} (hG:Gram n m W R a b one) (hpW:∀t p,t<n->pv t=some p->p<W) (hp:∀t p,t<n->pv t=some p->one p) {t:Nat} (ht:t<n) {c B:Nat} (hc:c<W) (hB1:1<=B) (hB:∀i,i<m->(b i c).natAbs<=B):(det n (qv4 (lfm R pv) t λx=>R x c)).natAbs<=691200*B:=by
 have n6:=hG.n6
 have m6:=hG.m6
 obtain⟨Bm,hBm⟩:∃Bm:Nat->Nat->Int,∀i j,Bm i j=if j=t then b i c else match pv j with
  | some p=>b i p
  | none=>0:=⟨_,λ_ _=>rfl⟩
 obtain⟨un,hun⟩:∃un:Nat->Bool,∀j,un j=true↔(j≠t/\pv j=none):=by
  refine⟨λj=>decide (j≠t/\pv j=none),λj=>by simp⟩
 have hone:∀i j,i<m->j<n->j≠t->(Bm i j).natAbs<=1:=λi j hi hj hne=>by
  rw[hBm,if_neg hne]
  cases hpj:pv j with
  | some p=>exact hG.oneb i p hi (hpW j p hj hpj) (hp j p hj hpj)
  | none=>exact Nat.zero_le 1
 have key:=Mix.bound (n:=n) (m:=m) (K:=960*B) (a:=a) (B:=Bm) (un:=un) hG.ones (λi j hi hj hu=>by
  obtain⟨q1,q2⟩:=(hun j).1 hu
  rw[hBm,if_neg q1,q2]) (λA hA=>by
   -- the column t alone is great
   have e:det n A=det n (qv4 A t λi=>sm n λk=>A k t*(if i=k then 1 else 0)):=qg2 n λi j hi hj=>by
    unfold qv4; split
    ·rename_i q; rw[q]; exact(w76 (λk=>A k t) hi).symm
    ·rfl
   rw[e,q59 A ht (λk=>A k t) (λk i=>if i=k then 1 else 0) n]
   have h1:=wk3 (n:=n) (B:=B*160) (f:=λk=>A k t*det n (qv4 A t λi=>if i=k then 1 else 0)) λk hk=>by
    rw[Int.natAbs_mul]
    refine Nat.mul_le_mul ?_ (ws8 n6 λi j hi hj=>?_)
    ·rcases hA k hk with⟨q1,q2⟩ | ⟨i,hi,q2⟩
     ·rw[q2 t ht]; split <;> simp <;> omega
     ·rw[q2 t ht,hBm,if_pos rfl]; exact hB i hi
    ·unfold qv4
     by_cases hne:j=t
     ·rw[if_pos hne]; dsimp only; by_cases q:i=k
      ·rw[if_pos q]; decide
      ·rw[if_neg q]; decide
     ·rw[if_neg hne]
      rcases hA i hi with⟨q1,q2⟩ | ⟨r,hr,q2⟩
      ·rw[q2 j hj]; split <;> decide
      ·rw[q2 j hj]; exact hone r j hr hj hne
   have h2:n*(B*160)<=6*(B*160):=Nat.mul_le_mul_right _ n6
   omega) n 0 (by omega) (qv4 (lfm R pv) t λx=>R x c) [] ⟨List.nodup_nil,λi hi=>(List.not_mem_nil hi).elim,λi hi=>(List.not_mem_nil hi).elim,λx hx=>absurd hx (Nat.not_lt_zero _),λx _ hx j hj=>by
    unfold qv4
    by_cases q:j=t
    ·rw[if_pos q]
     try dsimp only
     rw[hG.prod x c hx hc]
     have e1:¬(un x=true/\x=j):=λk=>((hun x).1 k.1).1 (k.2.trans q)
     rw[if_neg e1,Int.add_zero]
     refine qc7 λi hi=>?_
     rw[hBm,if_pos q]
    ·rw[if_neg q]
     unfold lfm
     cases hpj:pv j with
     | some p=>
      have e1:¬(un x=true/\x=j):=λk=>by
       have:=((hun x).1 k.1).2
       rw[k.2,hpj] at this; cases this
      try dsimp only
      rw[hG.prod x p hx (hpW j p hj hpj),if_neg e1,Int.add_zero]
      refine qc7 λi hi=>?_
      rw[hBm,if_neg q,hpj]
     | none=>
      try dsimp only
      rw[sm_zero λi hi=>by rw[hBm,if_neg q,hpj]; simp,Int.zero_add]
      by_cases q2:x=j
      ·rw[if_pos q2,if_pos ⟨(hun x).2 ⟨by rw[q2]; exact q,by rw[q2]; exact hpj⟩,q2⟩]
      ·rw[if_neg q2,if_neg λk=>q2 k.2]⟩
 have h1:w9h (m-([]:List Nat).length)<=720:=x0z (by simp; omega)
 have h2:=Nat.mul_le_mul_right (960*B) h1
 omega
theorem Gram.bound {n m W:Nat} {R a b ρ:Nat->Nat->Int} {one:Nat->Prop} {pv:Nat->Option Nat} (hG:Gram n m W R a b one) (h:El n W R ρ pv) (hp:∀t p,t<n->pv t=some p->one p) {t:Nat} (ht:t<n) (hnice:xt7 W (R t) (ρ t)) {c B:Nat} (hc:c<W) (hB1:1<=B) (hB:∀i,i<m->(b i c).natAbs<=B):(ρ t c).natAbs<=691200*B:=by
 have n6:=hG.n6
 have m6:=hG.m6
 rcases hnice with⟨s,hs,hr⟩ | hr | hr
 ·rw[hr c hc,Int.natAbs_mul,hG.prod t c ht hc]
  have h2:s.natAbs=1:=by rcases hs with rfl | rfl <;> rfl
  have h3:=wk3 (n:=m) (f:=λi=>a i t*b i c) (B:=B) λi hi=>by
   rw[Int.natAbs_mul]
   have:=Nat.mul_le_mul (hG.ones i t hi ht) (hB i hi)
   omega
  have h4:m*B<=6*B:=Nat.mul_le_mul_right _ m6
  rw[h2]
  omega
 ·rw[hr c hc]; simp
 exact Nat.le_trans (h.minor ht hr hc) (hG.detB (λt p h1 h2=>(h.piv t p h1 h2).1) hp ht hc hB1 hB)
open Go Go.RowKit Eng
theorem w77 {P:List Int} {f:Nat}:(P.any λe=>(f:Int)==e)=true↔isP P f:=by
 rw[List.any_eq_true]
 constructor
 ·rintro⟨x,hx,e⟩
  obtain⟨q,hq,rfl⟩:=q5g hx
  exact⟨q,hq,(beq_iff_eq.1 e).symm⟩
 ·rintro⟨q,hq,e⟩
  exact⟨nI P q,q7v hq,beq_iff_eq.2 e.symm⟩
theorem wo2 (P:List Int) (f:Nat):∀k,wm6 P f k=true↔∀q,q<k->nI P q≠(f:Int)
 | 0=>⟨λ_ q hq=>absurd hq (Nat.not_lt_zero _),λ_=>rfl⟩
 | k+1=>by
  rw[wm6,Bool.and_eq_true,wo2 P f k,bne_iff_ne]
  constructor
  ·rintro⟨h1,h2⟩ q hq
   rcases Nat.lt_succ_iff_lt_or_eq.1 hq with e | e
   ·exact h1 q e
   ·rw[e]; exact h2
  ·exact λh=>⟨λq hq=>h q (by omega),h k (by omega)⟩
theorem q9o {P:List Int} {f:Nat}:wm6 P f P.length=true↔¬isP P f:=by rw[wo2,q70]
def q0o (n f:Nat) (t:Int) (P:List Int) (val:Nat->Int):Nat->List Int
 | 0=>(List.replicate n 0).set f t
 | k+1=>(q0o n f t P val k).set (nI P k).toNat (val k)
theorem qy6 (n f:Nat) (t:Int) (P:List Int) (val:Nat->Int):∀k,(q0o n f t P val k).length=n
 | 0=>by simp[q0o]
 | k+1=>by rw[q0o,List.length_set]; exact qy6 n f t P val k
theorem x00 (n c:Nat):nI (List.replicate n (0:Int)) c=0:=by
 rcases Nat.lt_or_ge c n with h | h
 ·rw[qg1 _ _ (by simpa using h)]; simp
 ·exact q4y _ (by simpa using h)
theorem q71 {n f:Nat} {t:Int} {P:List Int} {val:Nat->Int} (hf:f<n) (hP:∀k,k<P.length->0<=nI P k/\nI P k<n) (hnp:¬isP P f):∀k,k<=P.length->nI (q0o n f t P val k) f=t
 | 0,_=>by rw[q0o,wo1 _ (by simpa using hf),if_pos rfl]
 | k+1,hk=>by
  have:=hP k (by omega)
  rw[q0o,wo1 _ (by rw[qy6]; omega),if_neg λe=>hnp ⟨k,by omega,by omega⟩]
  exact q71 hf hP hnp k (by omega)
theorem wv3 {n f:Nat} {t:Int} {P:List Int} {val:Nat->Int} (hf:f<n) (hP:∀k,k<P.length->0<=nI P k/\nI P k<n) {c:Nat} (hc:c≠f) (hnp:¬isP P c):∀k,k<=P.length->nI (q0o n f t P val k) c=0
 | 0,_=>by rw[q0o,wo1 _ (by simpa using hf),if_neg hc,x00]
 | k+1,hk=>by
  have:=hP k (by omega)
  rw[q0o,wo1 _ (by rw[qy6]; omega),if_neg λe=>hnp ⟨k,by omega,by omega⟩]
  exact wv3 hf hP hc hnp k (by omega)
theorem wv4 {n f:Nat} {t:Int} {P:List Int} {val:Nat->Int} (hP:∀k,k<P.length->0<=nI P k/\nI P k<n) (hinj:∀q k,q<P.length->k<P.length->nI P q=nI P k->q=k):∀k,k<=P.length->∀q,q<k->nI (q0o n f t P val k) (nI P q).toNat=val q
 | 0,_,q,hq=>absurd hq (Nat.not_lt_zero _)
 | k+1,hk,q,hq=>by
  have h1:=hP k (by omega)
  have h2:=hP q (by omega)
  rw[q0o,wo1 _ (by rw[qy6]; omega)]
  rcases Nat.lt_succ_iff_lt_or_eq.1 hq with e | e
  ·rw[if_neg λe2=>by have:=hinj q k (by omega) (by omega) (by omega); omega]
   exact wv4 hP hinj k (by omega) q e
  ·rw[if_pos (by rw[e]),e]
theorem w78 (r:List (List Int)) (P:List Int) (n f:Nat):∀k,hTo r P n f k=q0o n f (qf8 r P f P.length) P (λk=>((0-nI (nL r k) f)*qf8 r P f P.length).tdiv (nI (nL r k) (nI P k).toNat)) k
 | 0=>rfl
 | k+1=>by rw[hTo,q0o,w78 r P n f k]
theorem w1a (r:List (List Int)) (P:List Int) (n f:Nat):∀k,x0h r P n f k=q0o n f (q4w r P P.length) P (λk=>(0-nI (nL r k) f)*(q4w r P P.length).tdiv (w3g r P k)) k
 | 0=>rfl
 | k+1=>by rw[x0h,q0o,w1a r P n f k]
theorem w79 (a b:Int):∃x,a=qe1 a b*x:=by
 have h:qe1 a b∣a:=Int.natAbs_dvd_natAbs.1 (Nat.gcd_dvd_left _ _)
 exact h
theorem w8a (a b:Int):∃x,b=qe1 a b*x:=by
 have h:qe1 a b∣b:=Int.natAbs_dvd_natAbs.1 (Nat.gcd_dvd_right _ _)
 exact h
theorem w8b {a d:Int} (ha:0<a) (hd:0<d):0<a*d.tdiv (qe1 a d)/\a∣a*d.tdiv (qe1 a d)/\d∣a*d.tdiv (qe1 a d)/\(a*d.tdiv (qe1 a d)).natAbs<=a.natAbs*d.natAbs/\a.tdiv (qe1 a d)*d=a*d.tdiv (qe1 a d):=by
 have hg:=ql9 (a:=a) (b:=d) (.inl (by omega))
 obtain⟨x,hx⟩:=w79 a d
 obtain⟨y,hy⟩:=w8a a d
 generalize qe1 a d=g at hg hx hy ⊢
 have e1:d.tdiv g=y:=by rw[hy]; exact Int.mul_tdiv_cancel_left _ (by omega)
 have e2:a.tdiv g=x:=by rw[hx]; exact Int.mul_tdiv_cancel_left _ (by omega)
 have hy0:0<y:=q5f hg (by omega)
 rw[e1,e2]
 refine⟨Int.mul_pos ha hy0,⟨y,rfl⟩,⟨x,by rw[hx,hy]; grind⟩,?_,by rw[hx,hy]; grind⟩
 rw[Int.natAbs_mul]
 refine Nat.mul_le_mul_left _ ?_
 rw[<- e1]
 exact q56 _ _
theorem w1b {p r:Int} (hp:0<p):0<p.tdiv (qe1 p r)/\(p.tdiv (qe1 p r)).natAbs<=p.natAbs/\∀t,p.tdiv (qe1 p r)∣t->p∣(0-r)*t:=by
 have hg:=ql9 (a:=p) (b:=r) (.inl (by omega))
 obtain⟨x,hx⟩:=w79 p r
 obtain⟨y,hy⟩:=w8a p r
 refine⟨?_,q56 _ _,λt ht=>?_⟩
 ·generalize qe1 p r=g at hg hx hy ⊢
  rw[hx,Int.mul_tdiv_cancel_left _ (by omega)]
  exact q5f hg (by omega)
 ·generalize qe1 p r=g at hg hx hy ht
  rw[hx,Int.mul_tdiv_cancel_left _ (by omega)] at ht
  obtain⟨u,hu⟩:=ht
  exact⟨- (y*u),by rw[hu,hx,hy]; grind⟩
theorem q9p {r:List (List Int)} {P:List Int} {f:Nat} (hp:∀k,k<P.length->0<nI (nL r k) (nI P k).toNat/\(nI (nL r k) (nI P k).toNat).natAbs<=160):∀k,k<=P.length->0<qf8 r P f k/\(qf8 r P f k).natAbs<=160 ^ k/\∀q,q<k->q5m r P f q∣qf8 r P f k
 | 0,_=>⟨by show(0:Int)<1; decide,by show(1:Int).natAbs<=160 ^ 0; decide,λq hq=>absurd hq (Nat.not_lt_zero _)⟩
 | k+1,hk=>by
  obtain⟨a1,a2,a3⟩:=q9p hp k (by omega)
  obtain⟨b1,b2⟩:=hp k (by omega)
  obtain⟨c1,c2,_⟩:=w1b (r:=nI (nL r k) f) b1
  change 0<q5m r P f k at c1
  change(q5m r P f k).natAbs<=_ at c2
  obtain⟨d1,d2,d3,d4,_⟩:=w8b a1 c1
  rw[qf8]
  refine⟨d1,?_,λq hq=>?_⟩
  ·rw[Nat.pow_succ]
   exact Nat.le_trans d4 (Nat.mul_le_mul a2 (by omega))
  ·rcases Nat.lt_succ_iff_lt_or_eq.1 hq with e | e
   ·exact Int.dvd_trans (a3 q e) d2
   ·rw[e]; exact d3
theorem w1c {r:List (List Int)} {P:List Int} (hp:∀k,k<P.length->0<w3g r P k/\(w3g r P k).natAbs<=160):∀k,k<=P.length->0<q4w r P k/\(q4w r P k).natAbs<=160 ^ k/\∀q,q<k->w3g r P q∣q4w r P k
 | 0,_=>⟨by show(0:Int)<1; decide,by show(1:Int).natAbs<=160 ^ 0; decide,λq hq=>absurd hq (Nat.not_lt_zero _)⟩
 | k+1,hk=>by
  obtain⟨a1,a2,a3⟩:=w1c hp k (by omega)
  obtain⟨b1,b2⟩:=hp k (by omega)
  obtain⟨d1,d2,d3,d4,d5⟩:=w8b a1 b1
  rw[q4w,d5]
  refine⟨d1,?_,λq hq=>?_⟩
  ·rw[Nat.pow_succ]
   exact Nat.le_trans d4 (Nat.mul_le_mul a2 b2)
  ·rcases Nat.lt_succ_iff_lt_or_eq.1 hq with e | e
   ·exact Int.dvd_trans (a3 q e) d2
   ·rw[e]; exact d3
structure Ones (n W:Nat) (M:List (List Int)):Prop extends Mat n W M where
 n1:0<n
 n6:n<=6
 w1:0<W
 w:W<=1000
 one:∀a c,a<n->c<W->(nI (nL M a) c).natAbs<=1
theorem Ones.small {n W:Nat} {M:List (List Int)} (h:Ones n W M):Small n W W M:=⟨h.toMat,h.n6,Nat.le_refl _,h.w,h.one,λa c ha hc=>by have:=h.one a c ha hc; omega⟩
theorem Ones.small2 {n W:Nat} {M:List (List Int)} (h:Ones n W M):Small n (W-1) (W-1+1) M:=by
 have h1:=h.w1
 have e:W-1+1=W:=by omega
 rw[e]
 exact⟨h.toMat,h.n6,by omega,h.w,λa c ha hc=>h.one a c ha (by omega),λa c ha hc=>by have:=h.one a c ha hc; omega⟩
theorem Ones.rdW {n W:Nat} {M:List (List Int)} (h:Ones n W M):rdW M=W:=h.each 0 h.n1
theorem Ones.stP {n W:Nat} {M:List (List Int)} (h:Ones n W M):St n W (rowOf M) W (qa4 M W).1 (qa4 M W).2:=qn8 h.toMat W (Nat.le_refl _)
theorem Ones.stR {n W:Nat} {M:List (List Int)} (h:Ones n W M):St n W (rowOf M) W ((qh2 M W).done_++(qh2 M W).left) (qh2 M W).piv:=(qu1 h.toMat W (Nat.le_refl _)).st
theorem Ones.at_ {n W:Nat} {M:List (List Int)} (h:Ones n W M) {k:Nat} (hk:k<(qh2 M W).piv.length):nL ((qh2 M W).done_++(qh2 M W).left) k=nL (qh2 M W).done_ k:=qm9 _ _ (by rw[(qu1 h.toMat W (Nat.le_refl _)).cnt]; exact hk)
theorem Ones.rdOk {n W:Nat} {M:List (List Int)} (h:Ones n W M):w34 M:=(w07 h.small2 h.n1).1
theorem Ones.pP {n W:Nat} {M:List (List Int)} (h:Ones n W M):∀k,k<(qa4 M W).2.length->0<nI (nL (qa4 M W).1 k) (nI (qa4 M W).2 k).toNat/\(nI (nL (qa4 M W).1 k) (nI (qa4 M W).2 k).toNat).natAbs<=160:=λk hk=>
 ⟨(h.stP.pos k hk).2.2.1,h.stP.piv_160 h.n6 h.one hk⟩
theorem Ones.pR {n W:Nat} {M:List (List Int)} (h:Ones n W M):∀k,k<(qh2 M W).piv.length->0<w3g (qh2 M W).done_ (qh2 M W).piv k/\(w3g (qh2 M W).done_ (qh2 M W).piv k).natAbs<=160:=λk hk=>by
 have h1:=(h.stR.pos k hk).2.2.1
 have h2:=h.stR.piv_160 h.n6 h.one hk
 rw[h.at_ hk] at h1 h2
 exact⟨h1,h2⟩
theorem Ones.kvP {n W:Nat} {M:List (List Int)} (h:Ones n W M) {f:Nat} (hf:f<W) (hnp:¬isP (qa4 M W).2 f):KV n W (rowOf M) (qa4 M W).2 f (hTo (qa4 M W).1 (qa4 M W).2 W f (qa4 M W).2.length):=by
 have hst:=h.stP
 have hP:∀k,k<(qa4 M W).2.length->0<=nI (qa4 M W).2 k/\nI (qa4 M W).2 k<W:=λk hk=>by have:=hst.pos k hk; omega
 have hT:=q9p (f:=f) h.pP _ (Nat.le_refl _)
 rw[w78]
 have h0:∀c,c<W->c≠f->¬isP (qa4 M W).2 c->nI (q0o W f (qf8 (qa4 M W).1 (qa4 M W).2 f (qa4 M W).2.length) (qa4 M W).2 (λk=>((0-nI (nL (qa4 M W).1 k) f)*qf8 (qa4 M W).1 (qa4 M W).2 f (qa4 M W).2.length).tdiv (nI (nL (qa4 M W).1 k) (nI (qa4 M W).2 k).toNat)) (qa4 M W).2.length) c=0:=λc hc h1 h2=>wv3 hf hP h1 h2 _ (Nat.le_refl _)
 refine⟨qy6 _ _ _ _ _ _,hst.sol_mk hf hnp h0 λk hk=>?_,h0,?_⟩
 ·rw[wv4 hP (λq k hq hk=>hst.inj hq hk) _ (Nat.le_refl _) k hk,q71 hf hP hnp _ (Nat.le_refl _)]
  have hp:=(h.pP k hk).1
  have hd:=(w1b (r:=nI (nL (qa4 M W).1 k) f) hp).2.2 _ (hT.2.2 k hk)
  rw[Int.mul_tdiv_cancel' hd]
  grind
 ·rw[q71 hf hP hnp _ (Nat.le_refl _)]
  exact hT.1
theorem Ones.kvR {n W:Nat} {M:List (List Int)} (h:Ones n W M) {f:Nat} (hf:f<W) (hnp:¬isP (qh2 M W).piv f):KV n W (rowOf M) (qh2 M W).piv f (x0h (qh2 M W).done_ (qh2 M W).piv W f (qh2 M W).piv.length):=by
 have hst:=h.stR
 have hP:∀k,k<(qh2 M W).piv.length->0<=nI (qh2 M W).piv k/\nI (qh2 M W).piv k<W:=λk hk=>by have:=hst.pos k hk; omega
 have hT:=w1c h.pR _ (Nat.le_refl _)
 rw[w1a]
 have h0:∀c,c<W->c≠f->¬isP (qh2 M W).piv c->nI (q0o W f (q4w (qh2 M W).done_ (qh2 M W).piv (qh2 M W).piv.length) (qh2 M W).piv (λk=>(0-nI (nL (qh2 M W).done_ k) f)*(q4w (qh2 M W).done_ (qh2 M W).piv (qh2 M W).piv.length).tdiv (w3g (qh2 M W).done_ (qh2 M W).piv k)) (qh2 M W).piv.length) c=0:=λc hc h1 h2=>wv3 hf hP h1 h2 _ (Nat.le_refl _)
 refine⟨qy6 _ _ _ _ _ _,hst.sol_mk hf hnp h0 λk hk=>?_,h0,?_⟩
 ·rw[wv4 hP (λq k hq hk=>hst.inj hq hk) _ (Nat.le_refl _) k hk,q71 hf hP hnp _ (Nat.le_refl _),h.at_ hk]
  have hd:w3g (qh2 M W).done_ (qh2 M W).piv k*(q4w (qh2 M W).done_ (qh2 M W).piv (qh2 M W).piv.length).tdiv (w3g (qh2 M W).done_ (qh2 M W).piv k)=_:=Int.mul_tdiv_cancel' (hT.2.2 k hk)
  have e:nI (nL (qh2 M W).done_ k) (nI (qh2 M W).piv k).toNat=w3g (qh2 M W).done_ (qh2 M W).piv k:=rfl
  rw[e]
  grind
 ·rw[q71 hf hP hnp _ (Nat.le_refl _)]
  exact hT.1
theorem Ones.piv {n W:Nat} {M:List (List Int)} (h:Ones n W M) (c:Nat):isP (qa4 M W).2 c↔isP (qh2 M W).piv c:=⟨h.stP.piv_same h.stR,h.stR.piv_same h.stP⟩
theorem Ones.ker {n W:Nat} {M:List (List Int)} (h:Ones n W M):∀f,f<=W->qo8 (qa4 M W).1 (qa4 M W).2 W f=wm7 (qh2 M W).done_ (qh2 M W).piv W f
 | 0,_=>rfl
 | f+1,hf=>by
  have ih:=h.ker f (by omega)
  rw[qo8,wm7,ih]
  by_cases q:isP (qa4 M W).2 f
  ·rw[if_pos (w77.2 q),if_neg λq2=>q9o.1 q2 ((h.piv f).1 q)]
  ·have q2:¬isP (qh2 M W).piv f:=λq3=>q ((h.piv f).2 q3)
   rw[if_neg λq3=>q (w77.1 q3),if_pos (q9o.2 q2),q5h]
   have a:=(h.kvP (by omega) q).prim (by omega)
   have b:=((h.kvR (by omega) q2).prim (by omega)).trans λc=>(h.piv c).symm
   rw[a.uniq h.stP (by omega) q b (qr1 _) (qr1 _)]
theorem Ones.kernel {n W:Nat} {M:List (List Int)} (h:Ones n W M):qo8 (qa4 M W).1 (qa4 M W).2 W W=w7e M:=by
 rw[h.ker W (Nat.le_refl _)]
 unfold w7e qa6
 rw[h.rdW]
theorem Named.inj {n:Nat} {s:List Int} (h:Named n s) {i j:Nat} (hi:i<s.length) (hj:j<s.length) (e:(nI s i).toNat=(nI s j).toNat):i=j:=by
 have h1:=h.at_ i hi
 have h2:=h.at_ j hj
 rcases Nat.lt_trichotomy i j with q | q | q
 ·have:=h.asc i j q hj; omega
 ·exact q
 ·have:=h.asc j i q hi; omega
theorem q9q (a b:List Int):∀k,qg9 a b k=sm k λi=>nI a i*nI b i
 | 0=>rfl
 | k+1=>by rw[qg9,sm,q9q a b k]
def qg6 (m:List (List Int)) (j:Nat):List Int:=(List.range m.length).map λi=>nI (nL m i) j
theorem qi7 (m:List (List Int)) (j:Nat):(qg6 m j).length=m.length:=by simp[qg6]
theorem q1l (m:List (List Int)) (j i:Nat) (hi:i<m.length):nI (qg6 m j) i=nI (nL m i) j:=by
 rw[qg1 _ _ (by rw[qi7]; exact hi)]; simp[qg6]
def qe5 (m:List (List Int)) (C:List Int):List Int:=(qi0 m C).2.map λk=>nI C k.toNat
def wo3 (m:List (List Int)) (C:List Int):Bool:=(((qa6 (qf3 m C)).2.length:Int)==(C.length:Int))
def qo2 (m:List (List Int)) (C:List Int):Nat->List Int
 | 0=>[]
 | j+1=>if wo3 m (qo2 m C j++[nI C j])=true then qo2 m C j++[nI C j] else qo2 m C j
def gRow (m:List (List Int)) (y l:List Int) (x:Nat):List Int:=((List.range l.length).map λc=>qg9 (qg6 m (nI l x).toNat) (qg6 m (nI l c).toNat) m.length)++[qg9 (qg6 m (nI l x).toNat) y m.length]
def qb8 (m:List (List Int)) (y l:List Int):List (List Int):=(List.range l.length).map (gRow m y l)
def qy7 (r:List (List Int)) (n k:Nat):Int:=(nI (nL r k) k).tdiv (qe1 (nI (nL r k) k) (nI (nL r k) n))
def q6a (r:List (List Int)) (n k:Nat):Int:=(nI (nL r k) n).tdiv (qe1 (nI (nL r k) k) (nI (nL r k) n))
def qh5 (r:List (List Int)) (n:Nat):Nat->Int
 | 0=>1
 | k+1=>qh5 r n k*(qy7 r n k).tdiv (qe1 (qh5 r n k) (qy7 r n k))
def q0q (d:List (List Int)):Nat->Int
 | 0=>1
 | k+1=>(q0q d k).tdiv (qe1 (q0q d k) (nI (nL d k) k))*nI (nL d k) k
def rsE (m:List (List Int)) (y l:List Int) (r:List (List Int)) (T:Int):Nat->Nat->Int
 | 0,i=>nI y i*T
 | k+1,i=>rsE m y l r T k i-nI (qg6 m (nI l k).toNat) i*((T.tdiv (qy7 r l.length k))*q6a r l.length k)
def rsL (m:List (List Int)) (y l:List Int) (r:List (List Int)) (T:Int) (k:Nat):List Int:=(List.range y.length).map (rsE m y l r T k)
def rtE (m:List (List Int)) (y l:List Int) (d:List (List Int)) (A:Int):Nat->Nat->Int
 | 0,i=>nI y i*A
 | k+1,i=>rtE m y l d A k i-(nI (qg6 m (nI l k).toNat) i*nI (nL d k) l.length)*A.tdiv (nI (nL d k) k)
def rtL (m:List (List Int)) (y l:List Int) (d:List (List Int)) (A:Int):List Int:=(List.range y.length).map (rtE m y l d A d.length)
def gP (m:List (List Int)) (y C:List Int):List (List Int):=(qa4 (qb8 m y (qe5 m C)) (qe5 m C).length).1
def qk4 (m:List (List Int)) (y C:List Int):Int:=qh5 (gP m y C) (qe5 m C).length (qe5 m C).length
def qh6 (m:List (List Int)) (y C:List Int):List Int:=rsL m y (qe5 m C) (gP m y C) (qk4 m y C) (qe5 m C).length
def gre (m:List (List Int)) (C:List Int):List Int:=qo2 m C C.length
def gR (m:List (List Int)) (y C:List Int):List (List Int):=(qa6 (qb8 m y (gre m C))).1
def qw9 (m:List (List Int)) (y C:List Int):Int:=q0q (gR m y C) (gR m y C).length
def qm4 (m:List (List Int)) (y C:List Int):List Int:=rtL m y (gre m C) (gR m y C) (qw9 m y C)
theorem q4a (m:List (List Int)) (y C:List Int):(qh6 m y C).length=y.length:=by simp[qh6,rsL]
structure InW (w:Nat) (C:List Int):Prop where
 at_:∀j,j<C.length->0<=nI C j/\nI C j<w
 len:C.length<=100
def Ind (m:List (List Int)) (l:List Int):Prop:=∀z:Nat->Int,(∀i,i<m.length->(sm l.length λc=>nI (nL m i) (nI l c).toNat*z c)=0)->∀c,c<l.length->z c=0
theorem qs6 (m:List (List Int)) (C:List Int):qr0 m C=qf3 m C:=by simp[qr0,qa9,qf3]
theorem qv3 (m:List (List Int)) (C:List Int) {a c:Nat} (ha:a<m.length) (hc:c<C.length):rowOf (qf3 m C) a c=nI (nL m a) (nI C c).toNat:=by
 unfold rowOf; rw[qp9 _ _ _ ha,q0h _ _ _ hc]
theorem q1m {m:List (List Int)} {C:List Int} (hM:Mk m) (hC:InW (nL m 0).length C) (h1:1<=C.length):Ones m.length C.length (qf3 m C):=by
 have hl:=hC.len
 refine⟨⟨qm8 _ _,λi hi=>by rw[qp9 _ _ _ hi,qi3]⟩,hM.rows1,hM.rows6,h1,by omega,λa c ha hc=>?_⟩
 have h2:=qv3 m C ha hc
 unfold rowOf at h2
 rw[h2]
 have h3:=hC.at_ c hc
 have:=hM.small a ha (nI C c).toNat (by omega)
 omega
theorem St.piv_ind {n W j:Nat} {R:Nat->Nat->Int} {rows:List (List Int)} {P:List Int} (h:St n W R j rows P) (hj:j<=W) {z':Nat->Int} (hz:∀a,a<n->(sm P.length λq=>R a (nI P q).toNat*z' q)=0):∀q,q<P.length->z' q=0:=by
 have hpl:=h.pl
 obtain⟨z,hzd⟩:∃z:Nat->Int,∀c,z c=sm P.length λq=>if nI P q=(c:Int) then z' q else 0:=⟨_,λ_=>rfl⟩
 have zq:∀q,q<P.length->z (nI P q).toNat=z' q:=λq hq=>by
  have hp:=h.pos q hq
  rw[hzd,qo5 hq λi hi hne=>if_neg λk=>hne (h.inj hi hq (by omega)),if_pos (by omega)]
 have z0:∀c,(∀q,q<P.length->(nI P q).toNat≠c)->z c=0:=λc hc=>by
  rw[hzd]
  refine sm_zero λq hq=>if_neg λk=>hc q hq (by omega)
 have him:∀f:Nat->Int,(sm W λc=>f c*z c)=sm P.length λq=>f (nI P q).toNat*z' q:=λf=>by
  rw[q39 P.length (n:=W) (f:=λc=>f c*z c) (τ:=λq=>(nI P q).toNat) (λq hq=>by have:=h.pos q hq; (try dsimp only); omega) (λq k hq hk e=>h.inj hq hk (by have:=h.pos q hq; have:=h.pos k hk; (try dsimp only at e); omega)) λb hb hq=>by
   try dsimp only
   rw[z0 b hq,Int.mul_zero]]
  refine qc7 λq hq=>?_
  try dsimp only
  rw[zq q hq]
 have hsol:=(h.sol z).1 λa ha=>by rw[him]; exact hz a ha
 intro q hq
 have h1:=hsol q (by omega)
 unfold dt at h1
 rw[him,qo5 hq λi hi hne=>by
  try dsimp only
  rw[(h.pos i hi).2.2.2.2 q (by omega) (Ne.symm hne),Int.zero_mul]] at h1
 exact qd3 h1 (by have:=(h.pos q hq).2.2.1; omega)
theorem St.ind_iff {n W:Nat} {R:Nat->Nat->Int} {rows:List (List Int)} {P:List Int} (h:St n W R W rows P):P.length=W↔∀z,Sol n W R z->∀c,c<W->z c=0:=by
 have hA:Asc W P:=⟨λq hq=>⟨(h.pos q hq).1,(h.pos q hq).2.1⟩,h.asc⟩
 refine⟨λhl z hz c hc=>?_,λhz=>?_⟩
 ·refine h.piv_ind (Nat.le_refl _) (z':=z) (λa ha=>?_) c (by omega)
  rw[<- hz a ha,hl]
  refine qc7 λq hq=>?_
  rw[hA.id hl hq,Int.toNat_natCast]
 ·rcases Nat.lt_or_ge P.length W with q | q
  ·obtain⟨f,hf,hnp⟩:=Asc.free q
   obtain⟨z,z1,z2,_⟩:=h.free (Nat.le_refl _) hf hnp λi h1 h2=>h.zero i h1 h2 f hf
   exact absurd (hz z z1 f hf) z2
  ·have:=hA.le; omega
theorem w1d {m:List (List Int)} {C:List Int} (hM:Mk m) (hC:InW (nL m 0).length C) (h1:1<=C.length):wo3 m C=true↔Ind m C:=by
 have hO:=q1m hM hC h1
 have hst:=hO.stR
 have e:wo3 m C=true↔(qh2 (qf3 m C) C.length).piv.length=C.length:=by
  unfold wo3 qa6
  rw[hO.rdW,beq_iff_eq]
  exact⟨λq=>Int.ofNat.inj q,λq=>congrArg Int.ofNat q⟩
 rw[e,hst.ind_iff]
 refine⟨λh z hz=>h z λa ha=>?_,λh z hz=>h z λa ha=>?_⟩
 ·rw[<- hz a ha]
  exact qc7 λc hc=>by rw[qv3 m C ha hc]
 ·rw[<- hz a ha]
  exact qc7 λc hc=>by rw[qv3 m C ha hc]
theorem St.ind_map {m:List (List Int)} {C:List Int} {j:Nat} {rows:List (List Int)} {P:List Int} (h:St m.length C.length (rowOf (qf3 m C)) j rows P) (hj:j<=C.length):Ind m (P.map λk=>nI C k.toNat):=by
 intro z hz c hc
 rw[List.length_map] at hc
 refine h.piv_ind hj (z':=z) (λa ha=>?_) c hc
 have h1:=hz a ha
 rw[List.length_map] at h1
 rw[<- h1]
 refine qc7 λq hq=>?_
 have hp:=h.pos q hq
 rw[qv3 m C ha (by omega),q36 (f:=λk=>nI C k.toNat) hq]
theorem St.img {n W j:Nat} {R:Nat->Nat->Int} {rows:List (List Int)} {P:List Int} (h:St n W R j rows P) (hj:j<W) (f z:Nat->Int) (hz:∀c,c<W->c≠j->(∀q,q<P.length->nI P q≠(c:Int))->z c=0):(sm W λc=>f c*z c)=(sm P.length λq=>f (nI P q).toNat*z (nI P q).toNat)+f j*z j:=by
 rw[q39 (P.length+1) (n:=W) (f:=λc=>f c*z c) (τ:=λq=>if q<P.length then(nI P q).toNat else j) (λq hq=>?_) (λq k hq hk e=>?_) λb hb hq=>?_]
 ·rw[sm]
  try dsimp only
  rw[if_neg (Nat.lt_irrefl _)]
  congr 1
  exact qc7 λq hq=>by(try dsimp only); rw[if_pos hq]
 ·try dsimp only
  split
  ·rename_i hq; have:=h.pos q hq; omega
  ·exact hj
 ·try dsimp only at e
  by_cases h1:q<P.length
  ·have p1:=h.pos q h1
   by_cases h2:k<P.length
   ·have p2:=h.pos k h2
    rw[if_pos h1,if_pos h2] at e
    exact h.inj h1 h2 (by omega)
   ·rw[if_pos h1,if_neg h2] at e; omega
  ·by_cases h2:k<P.length
   ·have p2:=h.pos k h2
    rw[if_neg h1,if_pos h2] at e; omega
   ·omega
 ·try dsimp only
  rw[hz b hb (λe=>hq P.length (Nat.lt_succ_self _) (by(try dsimp only); rw[if_neg (Nat.lt_irrefl _),e])) λq h1 e=>hq q (by omega) (by(try dsimp only); rw[if_pos h1,e]; rfl),Int.mul_zero]
theorem xk8 {m:List (List Int)} {C:List Int} (hM:Mk m) (hC:InW (nL m 0).length C):∀j,j<=C.length->qo2 m C j=((qa4 (qf3 m C) j).2).map λk=>nI C k.toNat
 | 0,_=>rfl
 | j+1,hj=>by
  have ih:=xk8 hM hC j (by omega)
  have hO:=q1m hM hC (by omega)
  have hst:=qn8 hO.toMat j (by omega)
  have hst2:=qn8 hO.toMat (j+1) (by omega)
  have hCl:=hC.len
  have hin:∀P:List Int,(∀q,q<P.length->0<=nI P q/\nI P q<C.length)->P.length<=C.length->InW (nL m 0).length (P.map λk=>nI C k.toNat):=λP hP hl=>⟨λq hq=>by
   rw[List.length_map] at hq
   have:=hP q hq
   rw[q36 (f:=λk=>nI C k.toNat) hq]
   exact hC.at_ _ (by omega),by rw[List.length_map]; omega⟩
  have hasc:∀{i rows P},i<=C.length->St m.length C.length (rowOf (qf3 m C)) i rows P->P.length<=C.length:=λhi h=>(⟨λq hq=>⟨(h.pos q hq).1,by have:=(h.pos q hq).2.1; omega⟩,h.asc⟩:Asc C.length _).le
  rw[qo2,ih]
  rw[qa4] at hst2 ⊢
  rw[qv2] at hst2 ⊢
  by_cases hp:qs8 (qa4 (qf3 m C) j).1 (qa4 (qf3 m C) j).2.length j<0
  ·rw[if_pos hp] at hst2 ⊢
   rw[if_neg λhf=>?_]
   obtain⟨z,z1,z2,z3⟩:=hst.free (by omega) (f:=j) (by omega) (λq hq=>by have:=(hst.pos q hq).2.1; omega) λi h1 h2=>wn7 hp i h1 (by have:=hst.len; omega)
   rw[w1d hM ?_ (by simp)] at hf
   ·refine z2 ?_
    have h1:=hf (λq=>if q<(qa4 (qf3 m C) j).2.length then z (nI (qa4 (qf3 m C) j).2 q).toNat else z j) (λi hi=>?_) (qa4 (qf3 m C) j).2.length (by simp)
    ·try dsimp only at h1
     rw[if_neg (Nat.lt_irrefl _)] at h1
     exact h1
    ·have h2:=hst.img (by omega) (rowOf (qf3 m C) i) z z3
     rw[z1 i hi] at h2
     rw[List.length_append,List.length_map,List.length_singleton,sm]
     try dsimp only
     rw[if_neg (Nat.lt_irrefl _)]
     have e1:nI (((qa4 (qf3 m C) j).2.map λk=>nI C k.toNat)++[nI C j]) (qa4 (qf3 m C) j).2.length=nI C j:=by
      have:=ql5 ((qa4 (qf3 m C) j).2.map λk=>nI C k.toNat) (nI C j)
      rw[List.length_map] at this
      exact this
     rw[e1,<- qv3 m C hi (by omega),h2]
     congr 1
     refine qc7 λq hq=>?_
     try dsimp only
     rw[if_pos hq,qk2 _ _ (by rw[List.length_map]; exact hq),q36 (f:=λk=>nI C k.toNat) hq]
     have:=hst.pos q hq
     rw[qv3 m C hi (by omega)]
   ·have hl2:(qa4 (qf3 m C) j).2.length<=j:=(⟨λq hq=>⟨(hst.pos q hq).1,(hst.pos q hq).2.1⟩,hst.asc⟩:Asc j _).le
    have:=hin ((qa4 (qf3 m C) j).2++[(j:Int)]) (λq hq=>?_) (by rw[List.length_append,List.length_singleton]; omega)
    ·rw[List.map_append] at this
     exact this
    ·rw[List.length_append,List.length_singleton] at hq
     rcases Nat.lt_succ_iff_lt_or_eq.1 hq with k | k
     ·rw[qk2 _ _ k]
      have:=hst.pos q k
      omega
     ·rw[k,ql5]
      omega
  ·rw[if_neg hp] at hst2 ⊢
   have e:(((qa4 (qf3 m C) j).2++[(j:Int)]).map λk=>nI C k.toNat)=((qa4 (qf3 m C) j).2.map λk=>nI C k.toNat)++[nI C j]:=by simp
   have hI:=hst2.ind_map (by omega)
   dsimp only at hI ⊢
   rw[e] at hI ⊢
   rw[if_pos]
   rw[w1d hM ?_ (by simp)]
   ·exact hI
   ·rw[<- e]
    have hp2:=hst2.pos
    dsimp only at hp2
    exact hin _ (λq hq=>⟨(hp2 q hq).1,by have:=(hp2 q hq).2.1; omega⟩) (hasc (by omega) hst2)
theorem wv5 {m:List (List Int)} {C:List Int} (hM:Mk m) (hC:InW (nL m 0).length C):qe5 m C=gre m C:=by
 unfold qe5 gre qi0
 rw[xk8 hM hC _ (Nat.le_refl _),qs6]
theorem w8c {m:List (List Int)} {C:List Int} (hM:Mk m) (hC:InW (nL m 0).length C):InW (nL m 0).length (qe5 m C)/\Ind m (qe5 m C)/\(qe5 m C).length<=m.length/\(qe5 m C).length<=C.length/\∀q,q<(qe5 m C).length->∃k,k<C.length/\nI (qe5 m C) q=nI C k:=by
 have hCl:=hC.len
 have hMat:Mat m.length C.length (qf3 m C):=⟨qm8 _ _,λi hi=>by rw[qp9 _ _ _ hi,qi3]⟩
 have hst:=qn8 hMat C.length (Nat.le_refl _)
 have e:qe5 m C=(qa4 (qf3 m C) C.length).2.map λk=>nI C k.toNat:=by unfold qe5 qi0; rw[qs6]
 have hl:=(⟨λq hq=>⟨(hst.pos q hq).1,(hst.pos q hq).2.1⟩,hst.asc⟩:Asc C.length _).le
 have hpl:=hst.pl
 rw[e,List.length_map]
 have hq:∀q,q<(qa4 (qf3 m C) C.length).2.length->∃k,k<C.length/\nI ((qa4 (qf3 m C) C.length).2.map λk=>nI C k.toNat) q=nI C k:=λq hq=>by
  have:=hst.pos q hq
  exact⟨_,by omega,q36 (f:=λk=>nI C k.toNat) hq⟩
 refine⟨⟨λq h=>?_,by rw[List.length_map]; omega⟩,hst.ind_map (Nat.le_refl _),hpl,hl,hq⟩
 rw[List.length_map] at h
 obtain⟨k,h1,h2⟩:=hq q h
 rw[h2]; exact hC.at_ k h1
theorem w3q (x:Int):0<=x*x:=by
 rcases Int.le_total 0 x with h | h
 ·exact Int.mul_nonneg h h
 ·have:=Int.mul_nonneg (show 0<=-x by omega) (show 0<=-x by omega)
  rwa [Int.neg_mul_neg] at this
theorem xr7:∀(n:Nat) {f:Nat->Int},(sm n λi=>f i*f i)=0->∀i,i<n->f i=0
 | 0,_,_,i,hi=>absurd hi (Nat.not_lt_zero _)
 | n+1,f,h,i,hi=>by
  have h0:∀k,0<=sm k λi=>f i*f i:=λk=>by
   induction k with
   | zero=>exact Int.le_refl _
   | succ k ih=>rw[sm]; have:=w3q (f k); omega
  rw[sm] at h
  have h1:=h0 n
  have h2:=w3q (f n)
  rcases Nat.lt_succ_iff_lt_or_eq.1 hi with q | q
  ·exact xr7 n (by omega) i q
  ·rw[q]
   have:f n*f n=0:=by omega
   exact(Int.mul_eq_zero.1 this).elim id id
theorem w1e (m:List (List Int)) (y l:List Int) (x:Nat):(gRow m y l x).length=l.length+1:=by simp[gRow]
theorem q4b (m:List (List Int)) (y l:List Int):(qb8 m y l).length=l.length:=by simp[qb8]
theorem we3 (m:List (List Int)) (y l:List Int) {x:Nat} (hx:x<l.length):nL (qb8 m y l) x=gRow m y l x:=by
 rw[qm2 _ _ (by rw[q4b]; exact hx)]; simp[qb8]
theorem xr8 (m:List (List Int)) (y l:List Int) (x:Nat) {c:Nat} (hc:c<l.length):nI (gRow m y l x) c=qg9 (qg6 m (nI l x).toNat) (qg6 m (nI l c).toNat) m.length:=by
 unfold gRow
 rw[qk2 _ _ (by simp; exact hc),qg1 _ _ (by simp; exact hc)]; simp
theorem w8d (m:List (List Int)) (y l:List Int) (x:Nat):nI (gRow m y l x) l.length=qg9 (qg6 m (nI l x).toNat) y m.length:=by
 have:=ql5 ((List.range l.length).map λc=>qg9 (qg6 m (nI l x).toNat) (qg6 m (nI l c).toNat) m.length) (qg9 (qg6 m (nI l x).toNat) y m.length)
 simp only[List.length_map,List.length_range] at this
 exact this
def aN (m:List (List Int)) (l:List Int) (i x:Nat):Int:=nI (nL m i) (nI l x).toNat
def bN (m:List (List Int)) (y l:List Int) (i c:Nat):Int:=if c<l.length then aN m l i c else nI y i
theorem qy8 (m:List (List Int)) (y l:List Int) {x c:Nat} (hx:x<l.length) (hc:c<l.length+1):rowOf (qb8 m y l) x c=sm m.length λi=>aN m l i x*bN m y l i c:=by
 unfold rowOf
 rw[we3 m y l hx]
 rcases Nat.lt_succ_iff_lt_or_eq.1 hc with q | q
 ·rw[xr8 m y l x q,q9q]
  refine qc7 λi hi=>?_
  unfold bN aN
  rw[if_pos q,q1l _ _ _ hi,q1l _ _ _ hi]
 ·rw[q,w8d,q9q]
  refine qc7 λi hi=>?_
  unfold bN aN
  rw[if_neg (Nat.lt_irrefl _),q1l _ _ _ hi]
structure GrOk (m:List (List Int)) (y l:List Int):Prop where
 msk:Mk m
 ylen:y.length=m.length
 ybd:∀i,i<m.length->(nI y i).natAbs<=1000000
 inw:InW (nL m 0).length l
 ind:Ind m l
 n6:l.length<=6
theorem GrOk.one {m:List (List Int)} {y l:List Int} (h:GrOk m y l):∀i x,i<m.length->x<l.length->(aN m l i x).natAbs<=1:=λi x hi hx=>by
 have h3:=h.inw.at_ x hx
 have:=h.msk.small i hi (nI l x).toNat (by omega)
 unfold aN; omega
theorem GrOk.gram {m:List (List Int)} {y l:List Int} (h:GrOk m y l):Gram l.length m.length (l.length+1) (rowOf (qb8 m y l)) (aN m l) (bN m y l) (· < l.length):=
 ⟨h.n6,h.msk.rows6,λx c hx hc=>qy8 m y l hx hc,h.one,λi c hi hc ho=>by unfold bN; rw[if_pos ho]; exact h.one i c hi ho⟩
theorem St.gram {n m W j C:Nat} {R a b:Nat->Nat->Int} {rows:List (List Int)} {P:List Int} (h:St n W R j rows P) (hG:Gram n m W R a b (· < C)) (hj:j<=C) {i c B:Nat} (hi:i<n) (hc:c<W) (hB1:1<=B) (hB:∀i,i<m->(b i c).natAbs<=B):(nI (nL rows i) c).natAbs<=691200*B:=by
 obtain⟨ρ,pv,τ,hE,t1,t2,t3,t4,t5,t6⟩:=h.tag
 rw[<- t4 i hi c hc]
 refine hG.bound hE (λt p ht hp=>?_) (t1 i hi) ?_ hc hB1 hB
 ·obtain⟨q,hq,rfl⟩:=t3 t ht
  rw[t5 q hq] at hp
  split at hp
  ·rename_i hqP
   obtain rfl:=Option.some.inj hp
   have:=h.pos q hqP
   (try dsimp only); omega
  ·cases hp
 ·rcases t6 i hi with⟨s,hs,hr⟩ | hr | hr
  ·exact .inl ⟨s,hs,λc hc=>by rw[t4 i hi c hc]; exact hr c hc⟩
  ·exact .inr (.inl λc hc=>by rw[t4 i hi c hc]; exact hr c hc)
  ·exact .inr (.inr λd hd=>hr d λc hc=>by rw[<- t4 i hi c hc]; exact hd c hc)
theorem GrOk.bB {m:List (List Int)} {y l:List Int} (h:GrOk m y l):∀i c,i<m.length->(bN m y l i c).natAbs<=1000000:=λi c hi=>by
 unfold bN; split
 ·rename_i q; have:=h.one i c hi q; omega
 ·exact h.ybd i hi
theorem GrOk.mat {m:List (List Int)} {y l:List Int}:Mat l.length (l.length+1) (qb8 m y l):=⟨q4b _ _ _,λi hi=>by rw[we3 _ _ _ hi,w1e]⟩
theorem GrOk.sml {m:List (List Int)} {y l:List Int} (h:GrOk m y l):Sml l.length l.length (l.length+1) 691200 691200000000 (qb8 m y l):=by
 have h6:=h.n6
 have hr6:=h.msk.rows6
 refine⟨GrOk.mat,h6,by omega,by omega,by decide,by decide,by decide,by decide,λa c ha hc=>?_,λj rows P hj hs i hi=>⟨λc hc=>?_,λc hc=>?_⟩⟩
 ·have e:=qy8 m y l ha hc
  unfold rowOf at e
  rw[e]
  have:=wk3 (n:=m.length) (f:=λi=>aN m l i a*bN m y l i c) (B:=1000000) λi hi=>by
   rw[Int.natAbs_mul]
   have:=Nat.mul_le_mul (h.one i a hi ha) (h.bB i c hi)
   omega
  have h2:m.length*1000000<=6*1000000:=Nat.mul_le_mul_right _ hr6
  omega
 ·have:=hs.gram h.gram hj hi (show c<l.length+1 by omega) (B:=1) (Nat.le_refl _) λi hi=>by
   unfold bN; rw[if_pos hc]; exact h.one i c hi hc
  omega
 ·have:=hs.gram h.gram hj hi hc (B:=1000000) (by decide) λi hi=>h.bB i c hi
  omega
theorem GrOk.nons {m:List (List Int)} {y l:List Int} (h:GrOk m y l) {z:Nat->Int} (hz:Sol l.length (l.length+1) (rowOf (qb8 m y l)) z) (h0:z l.length=0):∀c,c<l.length->z c=0:=by
 obtain⟨u,hu⟩:∃u:Nat->Int,∀i,u i=sm l.length λc=>aN m l i c*z c:=⟨_,λ_=>rfl⟩
 have h1:∀x,x<l.length->(sm m.length λi=>aN m l i x*u i)=0:=λx hx=>by
  have e:=hz x hx
  rw[sm,h0,Int.mul_zero,Int.add_zero] at e
  rw[<- e]
  have e2:(sm l.length λc=>rowOf (qb8 m y l) x c*z c)=sm l.length λc=>sm m.length λi=>(aN m l i x*aN m l i c)*z c:=qc7 λc hc=>by
   rw[qy8 m y l hx (by omega),Int.mul_comm,<- qi2]
   refine qc7 λi hi=>?_
   unfold bN; rw[if_pos hc,Int.mul_comm]
  rw[e2,q2y]
  refine qc7 λi hi=>?_
  rw[hu,<- qi2]
  exact qc7 λc hc=>by rw[Int.mul_assoc]
 have h2:(sm m.length λi=>u i*u i)=0:=by
  have e:(sm m.length λi=>u i*u i)=sm m.length λi=>sm l.length λx=>z x*(aN m l i x*u i):=qc7 λi hi=>by
   have:u i*u i=u i*sm l.length λc=>aN m l i c*z c:=by rw[<- hu]
   rw[this,<- qi2]
   refine qc7 λx _=>?_
   grind
  rw[e,q2y]
  refine sm_zero λx hx=>?_
  rw[qi2,h1 x hx,Int.mul_zero]
 have h3:=xr7 _ h2
 exact h.ind z λi hi=>by
  have:=h3 i hi
  rw[hu] at this
  exact this
theorem GrOk.full {m:List (List Int)} {y l:List Int} (h:GrOk m y l) {rows:List (List Int)} {P:List Int} (hst:St l.length (l.length+1) (rowOf (qb8 m y l)) l.length rows P):P.length=l.length:=by
 rcases Nat.lt_or_ge P.length l.length with q | q
 ·obtain⟨f,hf,hnp⟩:=Asc.free q
  obtain⟨z,z1,z2,z3⟩:=hst.free (by omega) (f:=f) (by omega) hnp λi h1 h2=>hst.zero i h1 h2 f hf
  exact absurd (h.nons z1 (z3 l.length (by omega) (by omega) λq hq=>by have:=(hst.pos q hq).2.1; omega) f hf) z2
 ·have:=hst.pl; omega
theorem GrOk.good {m:List (List Int)} {y l:List Int} (h:GrOk m y l) {rows:List (List Int)} {P:List Int} (hst:St l.length (l.length+1) (rowOf (qb8 m y l)) l.length rows P):Good l.length l.length (rowOf (qb8 m y l)) rows P:=
 ⟨⟨l.length,Nat.le_refl _,by omega,hst⟩,λq hq=>(hst.pos q hq).2.1,λi h1 h2=>absurd h1 (by rw[h.full hst]; omega)⟩
theorem w8e {left:List (List Int)} {j:Nat} {a:Int} (h:Prim (nL left a.toNat)):Prim (qu2 left j a):=by
 unfold qu2
 split
 ·rcases h with h | h
  ·exact .inl λc hc=>by rw[qu3] at hc; rw[q57,h c hc,Int.zero_mul]
  ·refine .inr λd hd=>h d λc hc=>?_
   have:=hd c (by rw[qu3]; exact hc)
   rw[q57,Int.natAbs_mul] at this
   simpa using this
 ·exact h
theorem wo4 {n W:Nat} {M:List (List Int)} (h:Mat n W M):∀j,j<=W->∀x∈(qh2 M j).done_,Prim x
 | 0,_,x,hx=>by cases hx
 | j+1,hj,x,hx=>by
  have ih:=wo4 h j (by omega)
  obtain⟨hst,hcnt,hprim⟩:=qu1 h j (by omega)
  rw[qh2,q5n] at hx
  split at hx
  ·exact ih x hx
  ·rename_i hne
   have hlt:=(qy2 (qh2 M j).left j (qh2 M j).left.length).1
   rcases List.mem_append.1 hx with hx | hx
   ·obtain⟨r,_,rfl⟩:=List.mem_map.1 hx
    exact qr1 _
   ·rw[List.mem_singleton.1 hx]
    exact w8e (hprim _ (qw4 _ _ (by omega)))
theorem xg5 {a d D:Int} (ha:a∣D) (hd:d∣D):a*d.tdiv (qe1 a d)∣D:=by
 refine Int.natAbs_dvd_natAbs.1 ?_
 have h1:=Nat.lcm_dvd (Int.natAbs_dvd_natAbs.2 ha) (Int.natAbs_dvd_natAbs.2 hd)
 have h2:(a*d.tdiv (qe1 a d)).natAbs=Nat.lcm a.natAbs d.natAbs:=by
  rw[Int.natAbs_mul,Int.natAbs_tdiv,wn4,Nat.lcm,Nat.mul_div_assoc _ (Nat.gcd_dvd_right _ _)]; rfl
 rw[h2]; exact h1
theorem w8f (a b:Int):qe1 a b=qe1 b a:=by unfold qe1; rw[Int.gcd_comm]
structure xt9 (m:List (List Int)) (y l:List Int):Prop where
 len:((qa6 (qb8 m y l)).1).length=l.length
 pos:∀k,k<l.length->0<nI (nL (qa4 (qb8 m y l) l.length).1 k) k
 row:∀k,k<l.length->∀c,c<l.length+1->(nI (nL (qa4 (qb8 m y l) l.length).1 k) c).natAbs<=691200000000
 tms:∀k,k<=l.length->0<qh5 (qa4 (qb8 m y l) l.length).1 l.length k/\qh5 (qa4 (qb8 m y l) l.length).1 l.length k<=691200/\qh5 (qa4 (qb8 m y l) l.length).1 l.length k=q0q (qa6 (qb8 m y l)).1 k
 den:∀k,k<l.length->qy7 (qa4 (qb8 m y l) l.length).1 l.length k=nI (nL (qa6 (qb8 m y l)).1 k) k/\0<qy7 (qa4 (qb8 m y l) l.length).1 l.length k/\qy7 (qa4 (qb8 m y l) l.length).1 l.length k∣qh5 (qa4 (qb8 m y l) l.length).1 l.length l.length
 num:∀k,k<l.length->q6a (qa4 (qb8 m y l) l.length).1 l.length k=nI (nL (qa6 (qb8 m y l)).1 k) l.length/\(q6a (qa4 (qb8 m y l) l.length).1 l.length k).natAbs<=691200000000
 mul:∀k,k<l.length->((qh5 (qa4 (qb8 m y l) l.length).1 l.length l.length).tdiv (qy7 (qa4 (qb8 m y l) l.length).1 l.length k)*q6a (qa4 (qb8 m y l) l.length).1 l.length k).natAbs<=691200000000
 each:∀k,k<l.length->(nL (qa6 (qb8 m y l)).1 k).length=l.length+1
 dvd:qh5 (qa4 (qb8 m y l) l.length).1 l.length l.length∣det l.length (rowOf (qb8 m y l))
 sol:∃z,Sol l.length (l.length+1) (rowOf (qb8 m y l)) z/\z l.length≠0/\∀k,k<l.length->qy7 (qa4 (qb8 m y l) l.length).1 l.length k*z k+q6a (qa4 (qb8 m y l) l.length).1 l.length k*z l.length=0
theorem GrOk.rs {m:List (List Int)} {y l:List Int} (h:GrOk m y l):xt9 m y l:=by
 have hG:=h.gram
 have hs:=h.sml
 have hst:=qn8 (GrOk.mat (m:=m) (y:=y) (l:=l)) l.length (by omega)
 obtain⟨hrs,hcnt,hprim⟩:=qu1 (GrOk.mat (m:=m) (y:=y) (l:=l)) l.length (by omega)
 have hpr:=wo4 (GrOk.mat (m:=m) (y:=y) (l:=l)) l.length (by omega)
 have hP:=h.full hst
 have hP3:=h.full hrs
 have hlen:=hrs.len
 rw[List.length_append] at hlen
 have hleft:(qh2 (qb8 m y l) l.length).left=[]:=List.length_eq_zero_iff.1 (by omega)
 rw[hleft,List.append_nil] at hrs
 have hg:=h.good hst
 have hg3:=h.good hrs
 have hred:(qa6 (qb8 m y l)).1=(qh2 (qb8 m y l) l.length).done_:=by
  unfold qa6
  rcases Nat.eq_zero_or_pos l.length with q | q
  ·have e0:qb8 m y l=[]:=List.length_eq_zero_iff.1 (by rw[q4b]; exact q)
   have e1:rdW (qb8 m y l)=0:=by rw[e0]; rfl
   rw[e1,q]
  ·have e1:rdW (qb8 m y l)=l.length+1:=by unfold rdW; rw[we3 _ _ _ q,w1e]
   rw[e1,q7m rfl hleft 1]
 rw[show xt9 m y l↔xt9 m y l from Iff.rfl]
 have i1:=λq (hq:q<l.length)=>hg.asc.id hP hq
 have i3:=λq (hq:q<l.length)=>hg3.asc.id hP3 hq
 obtain⟨z,z1,z2⟩:=hg.last
 have hdl:(qh2 (qb8 m y l) l.length).done_.length=l.length:=by omega
 have key:∀k,k<l.length->0<nI (nL (qa4 (qb8 m y l) l.length).1 k) k/\qy7 (qa4 (qb8 m y l) l.length).1 l.length k=nI (nL (qa6 (qb8 m y l)).1 k) k/\0<qy7 (qa4 (qb8 m y l) l.length).1 l.length k/\q6a (qa4 (qb8 m y l) l.length).1 l.length k=nI (nL (qa6 (qb8 m y l)).1 k) l.length/\qe1 (nI (nL (qa6 (qb8 m y l)).1 k) l.length) (nI (nL (qa6 (qb8 m y l)).1 k) k)=1/\nI (nL (qa6 (qb8 m y l)).1 k) k*z k+nI (nL (qa6 (qb8 m y l)).1 k) l.length*z l.length=0:=λk hk=>by
  rw[hred]
  have p1:=(hg.row hP z1 hk).1
  obtain⟨p3,p4⟩:=hg3.row hP3 z1 hk
  have hv:=hg.val hg3 hP hP3 hk
  have hgc:qe1 (nI (nL (qh2 (qb8 m y l) l.length).done_ k) l.length) (nI (nL (qh2 (qb8 m y l) l.length).done_ k) k)=1:=by
   have hp:=hpr _ (qw4 _ k (by omega))
   have h1:=hp.gcd (W:=l.length+1) (f:=k) (hrs.each k hk) (by omega) p3 (Nat.gcd (nI (nL (qh2 (qb8 m y l) l.length).done_ k) l.length).natAbs (nI (nL (qh2 (qb8 m y l) l.length).done_ k) k).natAbs) λc hc=>by
    by_cases q1:c=l.length
    ·rw[q1]; exact Nat.gcd_dvd_left _ _
    ·by_cases q2:c=k
     ·rw[q2]; exact Nat.gcd_dvd_right _ _
     ·have hp2:=(hrs.pos c (by omega)).2.2.2.2 k hk (Ne.symm q2)
      rw[i3 c (by omega),Int.toNat_natCast] at hp2
      rw[hp2]; exact Nat.dvd_zero _
   show((Int.gcd _ _:Nat):Int)=1
   unfold Int.gcd
   rw[h1]; rfl
  have he:=w71 p1 p3 hv
  unfold w3a at he
  rw[hgc,Int.tdiv_one,Int.tdiv_one,w8f] at he
  obtain⟨e1,e2⟩:=Prod.mk.inj he
  refine⟨p1,e2,by rw[show qy7 (qa4 (qb8 m y l) l.length).1 l.length k=_ from e2]; exact p3,e1,hgc,p4⟩
 have dl:∀x b,lfm (rowOf (qb8 m y l)) (λb=>some b) x b=rowOf (qb8 m y l) x b:=λx b=>rfl
 have hsym:∀x c,x<l.length->c<l.length->rowOf (qb8 m y l) x c=rowOf (qb8 m y l) c x:=λx c hx hc=>by
  rw[qy8 m y l hx (by omega),qy8 m y l hc (by omega)]
  refine qc7 λi _=>?_
  unfold bN; rw[if_pos hx,if_pos hc,Int.mul_comm]
 obtain⟨D,hD⟩:∃D,D=det l.length (rowOf (qb8 m y l)):=⟨_,rfl⟩
 have hD0:D≠0:=by
  rw[hD]
  refine wv0 λlam hl i hi=>?_
  have:=h.nons (z:=λc=>if c<l.length then lam c else 0) (λa ha=>?_) (if_neg (Nat.lt_irrefl _)) i hi
  ·(try dsimp only at this); rw[if_pos hi] at this; exact this
  ·rw[sm]
   refine Eq.trans ?_ (hl a ha)
   try dsimp only
   rw[if_neg (Nat.lt_irrefl _),Int.mul_zero,Int.add_zero]
   refine qc7 λc hc=>?_
   rw[if_pos hc,hsym a c ha hc,Int.mul_comm]
 have hcr:∀k,k<l.length->z l.length*det l.length (qv4 (rowOf (qb8 m y l)) k λx=>rowOf (qb8 m y l) x l.length)=- z k*D:=λk hk=>by
  have e1:=q59 (rowOf (qb8 m y l)) hk (λc=>- z c) (λc x=>rowOf (qb8 m y l) x c) l.length
  rw[qo5 hk λc hc hne=>by
   have:det l.length (qv4 (rowOf (qb8 m y l)) k λx=>rowOf (qb8 m y l) x c)=0:=wu9 hk hc (Ne.symm hne) λi hi=>by
    unfold qv4; rw[if_pos rfl,if_neg hne]
   (try dsimp only); rw[this,Int.mul_zero]] at e1
  have e2:det l.length (qv4 (rowOf (qb8 m y l)) k λx=>rowOf (qb8 m y l) x k)=D:=by
   rw[hD]
   refine qg2 _ λi j hi hj=>?_
   unfold qv4; split
   ·rename_i q; rw[q]
   ·rfl
  rw[e2] at e1
  rw[<- e1]
  have e3:=q58 l.length (rowOf (qb8 m y l)) k hk (z l.length) 0 (λx=>rowOf (qb8 m y l) x l.length) (λ_=>0)
  rw[Int.zero_mul (det _ _),Int.add_zero] at e3
  rw[<- e3]
  refine qg2 _ λi j hi hj=>?_
  unfold qv4; split
  ·have:=z1 i hi
   rw[sm] at this
   have e4:(sm l.length λc=>- z c*rowOf (qb8 m y l) i c)=- sm l.length λc=>rowOf (qb8 m y l) i c*z c:=by
    have:=qi2 l.length (-1) λc=>rowOf (qb8 m y l) i c*z c
    rw[show(-1:Int)*sm l.length (λc=>rowOf (qb8 m y l) i c*z c)=- sm l.length λc=>rowOf (qb8 m y l) i c*z c by omega] at this
    rw[<- this]
    exact qc7 λc _=>by grind
   try dsimp only
   rw[e4,Int.zero_mul,Int.add_zero,Int.mul_comm]
   omega
  ·rfl
 have hAD:∀k,k<l.length->nI (nL (qa6 (qb8 m y l)).1 k) k*det l.length (qv4 (rowOf (qb8 m y l)) k λx=>rowOf (qb8 m y l) x l.length)=nI (nL (qa6 (qb8 m y l)).1 k) l.length*D:=λk hk=>by
  obtain⟨_,_,_,_,_,hz⟩:=key k hk
  have hc:=hcr k hk
  generalize det l.length (qv4 (rowOf (qb8 m y l)) k λx=>rowOf (qb8 m y l) x l.length)=Dk at hc ⊢
  generalize nI (nL (qa6 (qb8 m y l)).1 k) k=A at hz ⊢
  generalize nI (nL (qa6 (qb8 m y l)).1 k) l.length=C at hz ⊢
  have:z l.length*(A*Dk-C*D)=0:=by grind
  have:=qd3 this z2
  omega
 have hdv:∀k,k<l.length->nI (nL (qa6 (qb8 m y l)).1 k) k∣D:=λk hk=>by
  obtain⟨_,_,_,_,hgc,_⟩:=key k hk
  have h1:nI (nL (qa6 (qb8 m y l)).1 k) k∣nI (nL (qa6 (qb8 m y l)).1 k) l.length*D:=⟨_,(hAD k hk).symm⟩
  have h2:Nat.Coprime (nI (nL (qa6 (qb8 m y l)).1 k) k).natAbs (nI (nL (qa6 (qb8 m y l)).1 k) l.length).natAbs:=by
   have:((Int.gcd (nI (nL (qa6 (qb8 m y l)).1 k) l.length) (nI (nL (qa6 (qb8 m y l)).1 k) k):Nat):Int)=1:=hgc
   rw[Int.gcd_comm] at this
   exact Int.ofNat.inj this
  have h3:=Int.natAbs_dvd_natAbs.2 h1
  rw[Int.natAbs_mul] at h3
  exact Int.natAbs_dvd_natAbs.1 (h2.dvd_of_dvd_mul_left h3)
 have hall:∀k,k<=l.length->0<qh5 (qa4 (qb8 m y l) l.length).1 l.length k/\qh5 (qa4 (qb8 m y l) l.length).1 l.length k=q0q (qa6 (qb8 m y l)).1 k/\qh5 (qa4 (qb8 m y l) l.length).1 l.length k∣D/\∀q,q<k->qy7 (qa4 (qb8 m y l) l.length).1 l.length q∣qh5 (qa4 (qb8 m y l) l.length).1 l.length k:=λk=>by
  induction k with
  | zero=>exact λ_=>⟨by show(0:Int)<1; decide,rfl,Int.one_dvd _,λq hq=>absurd hq (Nat.not_lt_zero _)⟩
  | succ k ih=>
   intro hk
   obtain⟨a1,a2,a3,a4⟩:=ih (by omega)
   obtain⟨_,k1,k2,_⟩:=key k (by omega)
   have hdk:=hdv k (by omega)
   rw[<- k1] at hdk
   obtain⟨d1,d2,d3,_,d5⟩:=w8b a1 k2
   rw[qh5,q0q,<- a2,<- k1,d5]
   refine⟨d1,rfl,xg5 a3 hdk,λq hq=>?_⟩
   rcases Nat.lt_succ_iff_lt_or_eq.1 hq with e | e
   ·exact Int.dvd_trans (a4 q e) d2
   ·rw[e]; exact d3
 have hDb:l.length≠0->D.natAbs<=691200:=λhn=>by
  have:=hG.detB (pv:=λb=>some b) (t:=0) (c:=0) (B:=1) (λt p ht hp=>by obtain rfl:=Option.some.inj hp; omega) (λt p ht hp=>by obtain rfl:=Option.some.inj hp; exact ht) (by omega) (by omega) (Nat.le_refl _) λi hi=>by
   unfold bN; rw[if_pos (by omega)]; exact h.one i 0 hi (by omega)
  have e2:det l.length (qv4 (lfm (rowOf (qb8 m y l)) λb=>some b) 0 λx=>rowOf (qb8 m y l) x 0)=D:=by
   rw[hD]
   refine qg2 _ λi j hi hj=>?_
   unfold qv4; split
   ·rename_i q; rw[q]
   ·rfl
  rw[e2] at this
  omega
 have hDkb:∀k,k<l.length->(det l.length (qv4 (rowOf (qb8 m y l)) k λx=>rowOf (qb8 m y l) x l.length)).natAbs<=691200000000:=λk hk=>by
  have:=hG.detB (pv:=λb=>some b) (t:=k) (c:=l.length) (B:=1000000) (λt p ht hp=>by obtain rfl:=Option.some.inj hp; omega) (λt p ht hp=>by obtain rfl:=Option.some.inj hp; exact ht) hk (by omega) (by decide) λi hi=>h.bB i _ hi
  have e2:det l.length (qv4 (lfm (rowOf (qb8 m y l)) λb=>some b) k λx=>rowOf (qb8 m y l) x l.length)=det l.length (qv4 (rowOf (qb8 m y l)) k λx=>rowOf (qb8 m y l) x l.length):=rfl
  rw[e2] at this
  omega
 have hT:∀k,k<=l.length->qh5 (qa4 (qb8 m y l) l.length).1 l.length k<=691200:=λk hk=>by
  obtain⟨a1,a2,a3,a4⟩:=hall k hk
  rcases Nat.eq_zero_or_pos l.length with q | q
  ·rw[show k=0 by omega]; show(1:Int)<=_; decide
  ·have:=hDb (by omega)
   have h2:=Nat.le_of_dvd (by omega) (Int.natAbs_dvd_natAbs.2 a3)
   omega
 have hmul:∀k,k<l.length->((qh5 (qa4 (qb8 m y l) l.length).1 l.length l.length).tdiv (qy7 (qa4 (qb8 m y l) l.length).1 l.length k)*q6a (qa4 (qb8 m y l) l.length).1 l.length k).natAbs<=691200000000/\(q6a (qa4 (qb8 m y l) l.length).1 l.length k).natAbs<=691200000000:=λk hk=>by
  obtain⟨_,k1,k2,k3,_⟩:=key k hk
  obtain⟨a1,a2,⟨e,he⟩,a4⟩:=hall l.length (Nat.le_refl _)
  obtain⟨t,ht⟩:=a4 k hk
  have hb:=hDkb k hk
  have hA:=hAD k hk
  rw[<- k1,<- k3] at hA
  generalize qy7 (qa4 (qb8 m y l) l.length).1 l.length k=A at k2 hA ht ⊢
  generalize q6a (qa4 (qb8 m y l) l.length).1 l.length k=C at hA ⊢
  generalize det l.length (qv4 (rowOf (qb8 m y l)) k λx=>rowOf (qb8 m y l) x l.length)=Dk at hb hA
  generalize qh5 (qa4 (qb8 m y l) l.length).1 l.length l.length=T at a1 he ht ⊢
  have ht0:0<t:=q5f k2 (by omega)
  have e1:T.tdiv A=t:=by rw[ht]; exact Int.mul_tdiv_cancel_left _ (by omega)
  have e2:A*(Dk-(t*C)*e)=0:=by rw[he,ht] at hA; grind
  have e3:=qd3 e2 (by omega)
  have he0:e≠0:=λq=>hD0 (by rw[he,q,Int.mul_zero])
  have e4:Dk.natAbs=(t*C).natAbs*e.natAbs:=by rw[<- Int.natAbs_mul,show Dk=t*C*e by omega]
  have e5:(t*C).natAbs<=Dk.natAbs:=by rw[e4]; exact Nat.le_mul_of_pos_right _ (by omega)
  rw[e1]
  refine⟨by omega,?_⟩
  have e6:C.natAbs<=(t*C).natAbs:=by rw[Int.natAbs_mul]; exact Nat.le_mul_of_pos_left _ (by omega)
  omega
 refine⟨by rw[hred]; exact hdl,λk hk=>(key k hk).1,λk hk c hc=>?_,λk hk=>⟨(hall k hk).1,hT k hk,(hall k hk).2.1⟩,λk hk=>⟨(key k hk).2.1,(key k hk).2.2.1,(hall _ (Nat.le_refl _)).2.2.2 k hk⟩,λk hk=>⟨(key k hk).2.2.2.1,(hmul k hk).2⟩,λk hk=>(hmul k hk).1,λk hk=>by rw[hred]; exact hrs.each k hk,by rw[<- hD]; exact(hall _ (Nat.le_refl _)).2.2.1,z,z1,z2,λk hk=>?_⟩
 ·exact(hs.small _ _ _ (Nat.le_refl _) hst k hk).2 c hc
 ·obtain⟨_,k1,_,k3,_,k5⟩:=key k hk
  rw[k1,k3]; exact k5
end Go.Proofs.YtmijnbjlhnpokaaGreat
