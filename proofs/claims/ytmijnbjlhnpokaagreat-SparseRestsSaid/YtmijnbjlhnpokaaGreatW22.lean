/- Rows of products of columns, eliminated: how great they grow, by determinants. Plain mathematics. No condition. -/
import Derived.Test.YtmijnbjlhnpokaaGreatW14
set_option linter.unusedVariables false
namespace Go.Proofs.YtmijnbjlhnpokaaGreat
def qu0 (A:Nat->Nat->Int) (r:Nat) (u:Nat->Int):Nat->Nat->Int:=λi j=>if j=r then u i else A i j
theorem q5w:∀(n:Nat) (A:Nat->Nat->Int) (r:Nat),r<n->∀(x y:Int) (u v:Nat->Int),det n (qu0 A r (λi=>x*u i+y*v i))=x*det n (qu0 A r u)+y*det n (qu0 A r v)
 | n+1,A,0,_,x,y,u,v=>by
  rw[det,det,det,<- qi5,<- qi5,<- q6q]
  refine qc9 λi hi=>?_
  have e1:∀w,qu0 A 0 w i 0=w i:=λw=>if_pos rfl
  have e2:∀w,(λa b=>qu0 A 0 w (skp i a) (b+1))=λa b=>A (skp i a) (b+1):=λw=>by
   funext a b; unfold qu0; rw[if_neg (by omega)]
  rw[e1,e1,e1,e2,e2,e2]
  grind
 | n+1,A,r+1,hr,x,y,u,v=>by
  rw[det,det,det,<- qi5,<- qi5,<- q6q]
  refine qc9 λi hi=>?_
  have e1:∀w,qu0 A (r+1) w i 0=A i 0:=λw=>if_neg (by omega)
  have e2:∀w:Nat->Int,(λa b=>qu0 A (r+1) w (skp i a) (b+1))=qu0 (λa b=>A (skp i a) (b+1)) r (λa=>w (skp i a)):=λw=>by
   funext a b; unfold qu0
   by_cases q:b=r
   ·rw[if_pos (by omega),if_pos q]
   ·rw[if_neg (by omega),if_neg q]
  rw[e1,e1,e1,e2,e2,e2]
  have ih:=q5w n (λa b=>A (skp i a) (b+1)) r (by omega) x y (λa=>u (skp i a)) (λa=>v (skp i a))
  try dsimp only at ih ⊢
  rw[ih]
  grind
theorem q45 {n:Nat} {A:Nat->Nat->Int} {r:Nat} (hr:r<n):det n (qu0 A r λ_=>0)=0:=by
 have:=q5w n A r hr 0 0 (λ_=>0) (λ_=>0)
 simpa using this
theorem xc6 {n:Nat} {A:Nat->Nat->Int} {r:Nat} (hr:r<n) (h:∀i,i<n->A i r=0):det n A=0:=by
 rw[<- q45 (n:=n) (A:=A) hr]
 refine qf7 n λi j hi hj=>?_
 unfold qu0; split
 ·rename_i e; rw[e]; exact h i hi
 ·rfl
theorem q5x {n:Nat} (A:Nat->Nat->Int) {r:Nat} (hr:r<n) (v:Nat->Int) (U:Nat->Nat->Int):∀m,det n (qu0 A r λi=>sm m λk=>v k*U k i)=sm m λk=>v k*det n (qu0 A r (U k))
 | 0=>q45 hr
 | m+1=>by
  rw[sm,<- q5x A hr v U m]
  have:=q5w n A r hr 1 (v m) (λi=>sm m λk=>v k*U k i) (U m)
  rw[Int.one_mul] at this
  rw[<- this]
  refine congrArg (det n) (congrArg (qu0 A r) ?_)
  funext i
  rw[sm,Int.one_mul]
theorem w0t {n:Nat} (A:Nat->Nat->Int) {r:Nat} (hr:r<n) (v:Nat->Int) (U:Nat->Nat->Int):∀m,det n (upd A r λj=>sm m λk=>v k*U k j)=sm m λk=>v k*det n (upd A r (U k))
 | 0=>qu7 hr
 | m+1=>by
  rw[sm,<- w0t A hr v U m]
  have:=qo8 n A r hr 1 (v m) (λi=>sm m λk=>v k*U k i) (U m)
  rw[Int.one_mul] at this
  rw[<- this]
  refine congrArg (det n) (congrArg (upd A r) ?_)
  funext i
  rw[sm,Int.one_mul]
theorem w7f {n i:Nat} (f:Nat->Int) (hi:i<n):(sm n λx=>f x*(if i=x then 1 else 0))=f i:=by
 rw[qp5 hi λk _ hne=>by rw[if_neg (Ne.symm hne),Int.mul_zero],if_pos rfl,Int.mul_one]
def lfm (R:Nat->Nat->Int) (pv:Nat->Option Nat) (x b:Nat):Int:=match pv b with
 | some p=>R x p
 | none=>if x=b then 1 else 0
theorem El.minor {n W:Nat} {R ρ:Nat->Nat->Int} {pv:Nat->Option Nat} (h:El n W R ρ pv) {a:Nat} (ha:a<n) (hnice:∀d:Nat,(∀c,c<W->d∣(ρ a c).natAbs)->d=1) {c:Nat} (hc:c<W):(ρ a c).natAbs<=(det n (qu0 (lfm R pv) a λx=>R x c)).natAbs:=by
 obtain⟨z,hz⟩:∃z:Nat->Int,∀x,z x=det n (qu0 (lfm R pv) a λi=>if i=x then 1 else 0):=⟨_,λ_=>rfl⟩
 have hs:∀f:Nat->Int,(sm n λx=>f x*z x)=det n (qu0 (lfm R pv) a f):=λf=>by
  rw[qc9 (g:=λx=>f x*det n (qu0 (lfm R pv) a λi=>if i=x then 1 else 0)) λx _=>by rw[hz x],<- q5x (lfm R pv) ha f (λx i=>if i=x then 1 else 0) n]
  refine qf7 n λi j hi hj=>?_
  unfold qu0; split
  ·exact w7f f hi
  ·rfl
 have heq:∀b,b<n->b≠a->sm n (λx=>lfm R pv x b*z x)=0:=λb hb hne=>by
  rw[hs λx=>lfm R pv x b]
  refine ws9 ha hb (Ne.symm hne) λi hi=>?_
  unfold qu0
  rw[if_pos rfl,if_neg hne]
 have hdet:det n (qu0 (lfm R pv) a λx=>lfm R pv x a)≠0:=by
  have e:det n (qu0 (lfm R pv) a λx=>lfm R pv x a)=det n (lfm R pv):=qf7 n λi j hi hj=>by
   unfold qu0; split
   ·rename_i q; rw[q]
   ·rfl
  rw[e]
  refine wt0 λlam hl=>h.ind lam (λb hb hne hpb=>?_) λt p ht htp=>?_
  ·have:=hl b hb
   have e1:(sm n λi=>lam i*lfm R pv i b)=lam b:=by
    rw[qc9 (g:=λx=>lam x*(if b=x then 1 else 0)) λx _=>?_,w7f lam hb]
    unfold lfm; rw[hpb]
    by_cases q:x=b
    ·rw[if_pos q,if_pos q.symm]
    ·rw[if_neg q,if_neg (Ne.symm q)]
   rw[e1] at this
   exact hne this
  ·have:=hl t ht
   rw[<- this]
   refine qc9 λi _=>?_
   unfold lfm; rw[htp]
 obtain⟨a0,ha0,hza⟩:∃a0,a0<n/\z a0≠0:=Classical.byContradiction λq=>hdet (by
  rw[<- hs λx=>lfm R pv x a]
  exact sm_zero λx hx=>by
   have:z x=0:=Classical.byContradiction λk=>q ⟨x,hx,k⟩
   rw[this,Int.mul_zero])
 have hcol:∀t p,t<n->t≠a->pv t=some p->(sm n λb=>z b*R b p)=0:=λt p ht hne htp=>by
  have:=heq t ht hne
  rw[<- this]
  refine qc9 λi _=>?_
  unfold lfm; rw[htp]
  exact Int.mul_comm _ _
 have hnul:∀b,b<n->b≠a->pv b=none->z b=0:=λb hb hne hpb=>by
  have:=heq b hb hne
  rw[qp5 hb λi _ hi=>by unfold lfm; rw[hpb]; simp[hi]] at this
  unfold lfm at this
  rw[hpb] at this
  simpa using this
 obtain⟨c1,la,hc1,hla,hsa,hna⟩:=h.comb a ha
 obtain⟨s,hs'⟩:∃s:Nat->Int,s=λc=>sm n λb=>z b*R b c:=⟨_,rfl⟩
 have hpar:∃α β:Int,α≠0/\∀c,c<W->α*ρ a c=β*s c:=by
  cases hpa:pv a with
  | none=>
   have hz:=h.ind (λb=>z a*la b-la a*z b) (λb hb hne hpb=>by
    by_cases e:b=a
    ·subst e; exact hne (by(try dsimp only); grind)
    ·have q1:la b=0:=Classical.byContradiction λq=>(hsa b hb q).elim (λk=>k hpb) e
     (try dsimp only at hne); rw[q1,hnul b hb e hpb] at hne
     exact hne (by simp)) (λt p ht htp=>by
    have hne:t≠a:=λe=>by rw[e,hpa] at htp; cases htp
    obtain⟨hpW,_,hp0⟩:=h.piv t p ht htp
    rw[ql2 n (z a) (la a) la z (λb=>R b p),<- hla p hpW,hcol t p ht hne htp,hp0 a ha (Ne.symm hne)]
    simp)
   have hza0:z a≠0:=λq=>by
    have:=hz a0 ha0
    try dsimp only at this
    rw[q] at this
    exact hza (qd1 (a:=la a) (by grind) (hna hpa))
   refine⟨z a*c1,la a,qo7 hza0 hc1,λc hc=>?_⟩
   have e1:(sm n λb=>(z a*la b-la a*z b)*R b c)=0:=sm_zero λb hb=>by have:=hz b hb; (try dsimp only at this ⊢); rw[this]; simp
   rw[ql2 n (z a) (la a) la z (λb=>R b c),<- hla c hc] at e1
   rw[hs']
   grind
  | some p=>
   obtain⟨hpW,hpa0,hp0⟩:=h.piv a p ha hpa
   have hz:=h.ind (λb=>(c1*ρ a p)*z b-s p*la b) (λb hb hne hpb=>by
    have hba:b≠a:=λe=>by rw[e,hpa] at hpb; cases hpb
    have q1:la b=0:=Classical.byContradiction λq=>(hsa b hb q).elim (λk=>k hpb) hba
    (try dsimp only at hne); rw[q1,hnul b hb hba hpb] at hne
    exact hne (by simp)) (λt q ht htq=>by
    obtain⟨hqW,_,hq0⟩:=h.piv t q ht htq
    rw[ql2 n (c1*ρ a p) (s p) z la (λb=>R b q),<- hla q hqW]
    by_cases e:t=a
    ·subst e
     rw[hpa] at htq
     obtain rfl:=Option.some.inj htq
     rw[hs']
     grind
    ·rw[hcol t q ht e htq,hq0 a ha (Ne.symm e)]
     simp)
   have he:s p≠0:=λq=>by
    have:=hz a0 ha0
    try dsimp only at this
    rw[q] at this
    exact hza (qd1 (a:=c1*ρ a p) (by grind) (qo7 hc1 hpa0))
   refine⟨s p*c1,c1*ρ a p,qo7 he hc1,λc hc=>?_⟩
   have e1:(sm n λb=>((c1*ρ a p)*z b-s p*la b)*R b c)=0:=sm_zero λb hb=>by have:=hz b hb; (try dsimp only at this ⊢); rw[this]; simp
   rw[ql2 n (c1*ρ a p) (s p) z la (λb=>R b c),<- hla c hc] at e1
   have e2:s c=sm n λb=>z b*R b c:=by rw[hs']
   rw[<- e2] at e1
   grind
 obtain⟨α,β,hα,hab⟩:=hpar
 have h1:=q8r hα hab hnice c hc
 have h2:s c=det n (qu0 (lfm R pv) a λx=>R x c):=by
  rw[<- hs λx=>R x c,hs']
  exact qc9 λi _=>Int.mul_comm _ _
 rw[h2] at h1
 exact h1
def w8i:Nat->Nat
 | 0=>1
 | n+1=>(n+1)*w8i n
theorem xg4 {m K:Nat} (p:Nat->Bool):∀(n:Nat) {f:Nat->Int},(∀i,i<n->(f i).natAbs<=if p i=true then K else 0)->(sm n f).natAbs<=((List.range n).filter p).length*K
 | 0,f,_=>by simp[sm]
 | n+1,f,h=>by
  have h1:=xg4 p (m:=m) n (f:=f) λi hi=>h i (by omega)
  have h2:=h n (Nat.lt_succ_self n)
  rw[sm,List.range_succ,List.filter_append,List.length_append,Nat.add_mul]
  have h3:(List.filter p [n]).length*K=if p n=true then K else 0:=by
   cases e:p n <;> simp[List.filter,e]
  rw[h3]
  omega
structure Mix (n m s:Nat) (a B:Nat->Nat->Int) (un:Nat->Bool) (A:Nat->Nat->Int) (U:List Nat):Prop where
 nd:U.Nodup
 lt:∀i∈U,i<m
 met:∀i∈U,∃x,x<s/\∀j,j<n->A x j=B i j
 row:∀x,x<s->(un x=true/\∀j,j<n->A x j=if x=j then 1 else 0)\/∃i,i<m/\∀j,j<n->A x j=B i j
 rest:∀x,s<=x->x<n->∀j,j<n->A x j=(sm m λi=>a i x*B i j)+if un x=true/\x=j then 1 else 0
theorem w21 (m:Nat) (U:List Nat) (hU:U.Nodup) (hm:∀i∈U,i<m):((List.range m).filter λi=>!U.contains i).length+U.length=m:=by
 have h1:((List.range m).filter λi=>U.contains i).length=U.length:=by
  refine List.Perm.length_eq ((List.perm_ext_iff_of_nodup (List.nodup_range.filter _) hU).2 λx=>?_)
  rw[List.mem_filter,List.mem_range,List.contains_iff_mem]
  exact⟨λh=>h.2,λh=>⟨hm x h,h⟩⟩
 have h2:∀l:List Nat,(l.filter λi=>!U.contains i).length+(l.filter λi=>U.contains i).length=l.length:=λl=>by
  induction l with
  | nil=>rfl
  | cons x l ih=>
   rw[List.filter_cons,List.filter_cons]
   cases e:U.contains x
   ·rw[if_pos (by rfl),if_neg (by decide),List.length_cons,List.length_cons]; omega
   ·rw[if_neg (by decide),if_pos (by rfl),List.length_cons,List.length_cons]; omega
 have h3:=h2 (List.range m)
 rw[List.length_range] at h3
 omega
theorem Mix.bound {n m K:Nat} {a B:Nat->Nat->Int} {un:Nat->Bool} (ha:∀i x,i<m->x<n->(a i x).natAbs<=1) (hB:∀i j,i<m->j<n->un j=true->B i j=0)
  (hK:∀A:Nat->Nat->Int,(∀x,x<n->(un x=true/\∀j,j<n->A x j=if x=j then 1 else 0)\/∃i,i<m/\∀j,j<n->A x j=B i j)->(det n A).natAbs<=K) :
  ∀(d s:Nat),s+d=n->∀(A:Nat->Nat->Int) (U:List Nat),Mix n m s a B un A U->(det n A).natAbs<=w8i (m-U.length)*K
 | 0,s,hs,A,U,h=>by
  have h1:=hK A λx hx=>h.row x (by omega)
  have h2:∀k,0<w8i k:=λk=>by
   induction k with
   | zero=>exact Nat.one_pos
   | succ k ih=>exact Nat.mul_pos (Nat.succ_pos _) ih
  exact Nat.le_trans h1 (Nat.le_mul_of_pos_left _ (h2 _))
 | d+1,s,hs,A,U,h=>by
  have hsn:s<n:=by omega
  have hfl:=w21 m U h.nd h.lt
  -- the row s is a sum
  cases hu:un s with
  | true=>
   have e:det n A=det n (upd A s λj=>if s=j then 1 else 0):=by
    have h1:=qo8 n A s hsn 1 1 (λj=>sm m λi=>a i s*B i j) (λj=>if s=j then 1 else 0)
    have h2:det n A=det n (upd A s λj=>1*(sm m λi=>a i s*B i j)+1*if s=j then 1 else 0):=qf7 n λi j hi hj=>by
     unfold upd; split
     ·rename_i q
      rw[q,h.rest s (Nat.le_refl _) hsn j hj,hu]
      try dsimp only
      rw[Int.one_mul,Int.one_mul]
      simp
     ·rfl
    have h3:det n (upd A s λj=>sm m λi=>a i s*B i j)=0:=xc6 hsn λi hi=>by
     unfold upd; split
     ·exact sm_zero λk hk=>by rw[hB k s hk hsn hu,Int.mul_zero]
     ·rename_i q
      rcases Nat.lt_or_ge i s with q2 | q2
      ·rcases h.row i q2 with⟨_,k⟩ | ⟨k,hk,k2⟩
       ·rw[k s hsn,if_neg (by omega)]
       ·rw[k2 s hsn,hB k s hk hsn hu]
      ·rw[h.rest i q2 hi s hsn,if_neg (by omega),Int.add_zero]
       exact sm_zero λk hk=>by rw[hB k s hk hsn hu,Int.mul_zero]
    rw[h2,h1,h3]
    omega
   rw[e]
   refine Mix.bound ha hB hK d (s+1) (by omega) _ U ⟨h.nd,h.lt,λi hi=>?_,λx hx=>?_,λx h1 h2 j hj=>?_⟩
   ·obtain⟨x,hx,k⟩:=h.met i hi
    exact⟨x,by omega,λj hj=>by unfold upd; rw[if_neg (by omega)]; exact k j hj⟩
   ·by_cases q:x=s
    ·subst q
     exact .inl ⟨hu,λj hj=>by unfold upd; rw[if_pos rfl]⟩
    ·rcases h.row x (by omega) with⟨k1,k2⟩ | ⟨i,hi,k⟩
     ·exact .inl ⟨k1,λj hj=>by unfold upd; rw[if_neg q]; exact k2 j hj⟩
     ·exact .inr ⟨i,hi,λj hj=>by unfold upd; rw[if_neg q]; exact k j hj⟩
   ·unfold upd; rw[if_neg (by omega)]; exact h.rest x (by omega) h2 j hj
  | false=>
   have e:det n A=sm m λi=>a i s*det n (upd A s (B i)):=by
    rw[<- w0t A hsn (λi=>a i s) B m]
    refine qf7 n λi j hi hj=>?_
    unfold upd; split
    ·rename_i q
     rw[q,h.rest s (Nat.le_refl _) hsn j hj,hu]
     simp
    ·rfl
   have hstep:∀i,i<m->(a i s*det n (upd A s (B i))).natAbs<=if(!U.contains i)=true then w8i (m-(U.length+1))*K else 0:=λi hi=>by
    rw[Int.natAbs_mul]
    cases q:U.contains i with
    | true=>
     have hmem:=List.contains_iff_mem.1 q
     obtain⟨x,hx,k⟩:=h.met i hmem
     have h0:det n (upd A s (B i))=0:=q4c (r:=x) (s:=s) (by omega) hsn (by omega) λj hj=>by
      unfold upd; rw[if_neg (by omega),if_pos rfl]; exact k j hj
     rw[h0]; simp
    | false=>
     have hmem:i∉U:=λk=>by rw[List.contains_iff_mem.2 k] at q; cases q
     have h1:=Mix.bound ha hB hK d (s+1) (by omega) (upd A s (B i)) (i :: U) ⟨List.nodup_cons.2 ⟨hmem,h.nd⟩,λk hk=>?_,λk hk=>?_,λx hx=>?_,λx h1 h2 j hj=>?_⟩
     ·have h2:=ha i s hi hsn
      have h3:=Nat.mul_le_mul h2 h1
      rw[List.length_cons,Nat.one_mul] at h3
      simpa using h3
     ·rcases List.mem_cons.1 hk with rfl | hk
      ·exact hi
      ·exact h.lt k hk
     ·rcases List.mem_cons.1 hk with rfl | hk
      ·exact⟨s,Nat.lt_succ_self s,λj hj=>by unfold upd; rw[if_pos rfl]⟩
      ·obtain⟨x,hx,k2⟩:=h.met k hk
       exact⟨x,by omega,λj hj=>by unfold upd; rw[if_neg (by omega)]; exact k2 j hj⟩
     ·by_cases q:x=s
      ·subst q
       exact .inr ⟨i,hi,λj hj=>by unfold upd; rw[if_pos rfl]⟩
      ·rcases h.row x (by omega) with⟨k1,k2⟩ | ⟨k,hk,k2⟩
       ·exact .inl ⟨k1,λj hj=>by unfold upd; rw[if_neg q]; exact k2 j hj⟩
       ·exact .inr ⟨k,hk,λj hj=>by unfold upd; rw[if_neg q]; exact k2 j hj⟩
     ·unfold upd; rw[if_neg (by omega)]; exact h.rest x (by omega) h2 j hj
   have h1:=xg4 (m:=m) (λi=>!U.contains i) m hstep
   rw[<- e] at h1
   refine Nat.le_trans h1 ?_
   rcases Nat.eq_zero_or_pos (m-U.length) with q | q
   ·rw[show((List.range m).filter λi=>!U.contains i).length=0 by omega,Nat.zero_mul]; exact Nat.zero_le _
   ·have h2:w8i (m-U.length)=(m-U.length)*w8i (m-(U.length+1)):=by
     obtain⟨k,hk⟩:∃k,m-U.length=k+1:=⟨m-U.length-1,by omega⟩
     rw[hk,show m-(U.length+1)=k by omega,w8i]
    rw[h2,show((List.range m).filter λi=>!U.contains i).length=m-U.length by omega,Nat.mul_assoc]
    exact Nat.le_refl _
structure Gram (n m W:Nat) (R a b:Nat->Nat->Int) (one:Nat->Prop):Prop where
 n6:n<=6
 m6:m<=6
 prod:∀x c,x<n->c<W->R x c=sm m λi=>a i x*b i c
 ones:∀i x,i<m->x<n->(a i x).natAbs<=1
 oneb:∀i c,i<m->c<W->one c->(b i c).natAbs<=1
theorem xx8 {k:Nat} (h:k<=6):w8i k<=720:=by
 have:∀k:Fin 7,w8i k.val<=720:=by decide
 exact this ⟨k,by omega⟩
theorem Gram.detB {n m W:Nat} {R a b:Nat->Nat->Int} {one:Nat->Prop} {pv:Nat->Option Nat} (hG:Gram n m W R a b one) (hpW:∀t p,t<n->pv t=some p->p<W) (hp:∀t p,t<n->pv t=some p->one p) {t:Nat} (ht:t<n) {c B:Nat} (hc:c<W) (hB1:1<=B) (hB:∀i,i<m->(b i c).natAbs<=B):(det n (qu0 (lfm R pv) t λx=>R x c)).natAbs<=691200*B:=by
 have n6:=hG.n6
 have m6:=hG.m6
 obtain⟨Bm,hBm⟩:∃Bm:Nat->Nat->Int,∀i j,Bm i j=if j=t then b i c else match pv j with
  | some p=>b i p
  | none=>0:=⟨_,λ_ _=>rfl⟩
 obtain⟨un,hun⟩:∃un:Nat->Bool,∀j,un j=true↔(j≠t/\pv j=none):=by
  refine⟨λj=>decide (j≠t/\pv j=none),λj=>by simp⟩
 have hone:∀i j,i<m->j<n->j≠t->(Bm i j).natAbs<=1:=λi j hi hj hne=>by
  rw[hBm,if_neg hne]
  cases hpj:pv j with
  | some p=>exact hG.oneb i p hi (hpW j p hj hpj) (hp j p hj hpj)
  | none=>exact Nat.zero_le 1
 have key:=Mix.bound (n:=n) (m:=m) (K:=960*B) (a:=a) (B:=Bm) (un:=un) hG.ones (λi j hi hj hu=>by
  obtain⟨q1,q2⟩:=(hun j).1 hu
  rw[hBm,if_neg q1,q2]) (λA hA=>by
   -- the column t alone is great
   have e:det n A=det n (qu0 A t λi=>sm n λk=>A k t*(if i=k then 1 else 0)):=qf7 n λi j hi hj=>by
    unfold qu0; split
    ·rename_i q; rw[q]; exact(w7f (λk=>A k t) hi).symm
    ·rfl
   rw[e,q5x A ht (λk=>A k t) (λk i=>if i=k then 1 else 0) n]
   have h1:=wj1 (n:=n) (B:=B*160) (f:=λk=>A k t*det n (qu0 A t λi=>if i=k then 1 else 0)) λk hk=>by
    rw[Int.natAbs_mul]
    refine Nat.mul_le_mul ?_ (wq1 n6 λi j hi hj=>?_)
    ·rcases hA k hk with⟨q1,q2⟩ | ⟨i,hi,q2⟩
     ·rw[q2 t ht]; split <;> simp <;> omega
     ·rw[q2 t ht,hBm,if_pos rfl]; exact hB i hi
    ·unfold qu0
     by_cases hne:j=t
     ·rw[if_pos hne]; dsimp only; by_cases q:i=k
      ·rw[if_pos q]; decide
      ·rw[if_neg q]; decide
     ·rw[if_neg hne]
      rcases hA i hi with⟨q1,q2⟩ | ⟨r,hr,q2⟩
      ·rw[q2 j hj]; split <;> decide
      ·rw[q2 j hj]; exact hone r j hr hj hne
   have h2:n*(B*160)<=6*(B*160):=Nat.mul_le_mul_right _ n6
   omega) n 0 (by omega) (qu0 (lfm R pv) t λx=>R x c) [] ⟨List.nodup_nil,λi hi=>(List.not_mem_nil hi).elim,λi hi=>(List.not_mem_nil hi).elim,λx hx=>absurd hx (Nat.not_lt_zero _),λx _ hx j hj=>by
    unfold qu0
    by_cases q:j=t
    ·rw[if_pos q]
     try dsimp only
     rw[hG.prod x c hx hc]
     have e1:¬(un x=true/\x=j):=λk=>((hun x).1 k.1).1 (k.2.trans q)
     rw[if_neg e1,Int.add_zero]
     refine qc9 λi hi=>?_
     rw[hBm,if_pos q]
    ·rw[if_neg q]
     unfold lfm
     cases hpj:pv j with
     | some p=>
      have e1:¬(un x=true/\x=j):=λk=>by
       have:=((hun x).1 k.1).2
       rw[k.2,hpj] at this; cases this
      try dsimp only
      rw[hG.prod x p hx (hpW j p hj hpj),if_neg e1,Int.add_zero]
      refine qc9 λi hi=>?_
      rw[hBm,if_neg q,hpj]
     | none=>
      try dsimp only
      rw[sm_zero λi hi=>by rw[hBm,if_neg q,hpj]; simp,Int.zero_add]
      by_cases q2:x=j
      ·rw[if_pos q2,if_pos ⟨(hun x).2 ⟨by rw[q2]; exact q,by rw[q2]; exact hpj⟩,q2⟩]
      ·rw[if_neg q2,if_neg λk=>q2 k.2]⟩
 have h1:w8i (m-([]:List Nat).length)<=720:=xx8 (by simp; omega)
 have h2:=Nat.mul_le_mul_right (960*B) h1
 omega
theorem Gram.bound {n m W:Nat} {R a b ρ:Nat->Nat->Int} {one:Nat->Prop} {pv:Nat->Option Nat} (hG:Gram n m W R a b one) (h:El n W R ρ pv) (hp:∀t p,t<n->pv t=some p->one p) {t:Nat} (ht:t<n) (hnice:xp7 W (R t) (ρ t)) {c B:Nat} (hc:c<W) (hB1:1<=B) (hB:∀i,i<m->(b i c).natAbs<=B):(ρ t c).natAbs<=691200*B:=by
 have n6:=hG.n6
 have m6:=hG.m6
 rcases hnice with⟨s,hs,hr⟩ | hr | hr
 ·rw[hr c hc,Int.natAbs_mul,hG.prod t c ht hc]
  have h2:s.natAbs=1:=by rcases hs with rfl | rfl <;> rfl
  have h3:=wj1 (n:=m) (f:=λi=>a i t*b i c) (B:=B) λi hi=>by
   rw[Int.natAbs_mul]
   have:=Nat.mul_le_mul (hG.ones i t hi ht) (hB i hi)
   omega
  have h4:m*B<=6*B:=Nat.mul_le_mul_right _ m6
  rw[h2]
  omega
 ·rw[hr c hc]; simp
 exact Nat.le_trans (h.minor ht hr hc) (hG.detB (λt p h1 h2=>(h.piv t p h1 h2).1) hp ht hc hB1 hB)
end Go.Proofs.YtmijnbjlhnpokaaGreat
