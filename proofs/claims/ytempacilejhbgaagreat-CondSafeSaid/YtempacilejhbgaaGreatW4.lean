/- Both eliminations, and what they need: plain mathematics. No condition. -/
import Derived.Test.YtempacilejhbgaaGreatV23
import Derived.Test.YtempacilejhbgaaGreatW2
set_option linter.unusedVariables false
set_option linter.unusedSimpArgs false
namespace Go.Proofs.YtempacilejhbgaaGreat
open Go Go.RowKit Eng
open Go Go.RowKit Ls Eng
structure Pl (w:World) (B n g c:Nat) (vs:List Value) (rs:List (List Int)):Prop where
 head:w.ownsRow B 24 1 (.slice (some ⟨g,0,none⟩) n c) n vs
 rows:RowsOwn w B 3 vs rs
 apart:∀(i j:Nat) u v b,i≠j->vs[i]? = some u->vs[j]? = some v->u.ownBlock=some b->v.ownBlock=some b->False
theorem Pl.len {w:World} {B n g c:Nat} {vs:List Value} {rs:List (List Int)} (h:Pl w B n g c vs rs):vs.length=n/\rs.length=n:=by
 have h1:=h.head.1
 have h2:=h.rows.1
 omega
theorem qx3 {w:World} {B e size n:Nat} {v:Value} {xs:List Value} (h:w.ownsRow B e size v n xs) {b:Nat} (hb:v.ownBlock=some b):B<=b/\∃cur,w.heap[b]? = some (.cells cur e (0,0)):=by
 rcases h.2 with⟨h0,_⟩ | ⟨g,cap,cur,hv,hB,hg,_⟩
 ·subst h0; simp[Value.ownBlock] at hb
 ·subst hv
  simp only[Value.ownBlock,Option.some.injEq] at hb
  subst hb
  exact⟨hB,cur,hg⟩
theorem w8y {w w':World} {B e size n:Nat} {v:Value} {xs:List Value} (h:w.ownsRow B e size v n xs) (hk:∀b,v.ownBlock=some b->w'.heap[b]? = w.heap[b]?):w'.ownsRow B e size v n xs:=by
 refine⟨h.1,?_⟩
 rcases h.2 with h0 | ⟨g,cap,cur,hv,hB,hg,r⟩
 ·exact .inl h0
 ·exact .inr ⟨g,cap,cur,hv,hB,(hk g (by rw[hv]; rfl)).trans hg,r⟩
theorem Pl.step {w w3:World} {B n g c k:Nat} {vs:List Value} {rs:List (List Int)} {v v':Value} {l:List Int} {A':Option Addr} {c':Nat} (h:Pl w B n g c vs rs) (hk:k<n) (hv:vs[k]? = some v) (hl:nL rs k=l) (x:Int)
  (hv':v'=.slice A' (l.length+1) c') (hown:w3.ownsRow B 3 1 v' (l.length+1) (ints (l++[x]))) (hg:w.grownBy w3 v.ownBlock) (hb:∀b,v'.ownBlock=some b->v.ownBlock=some b\/w.heap.size<=b):Pl (w3.setCell ⟨g,k,none⟩ v') B n g c (vs.set k v') (rs.set k (l++[x]))/\w3.grownBy (w3.setCell ⟨g,k,none⟩ v') (some g):=by
 obtain⟨hvl,hrl⟩:=h.len
 obtain⟨A,cc,hvk,hvo⟩:=h.rows.2 k (by omega)
 rw[hv] at hvk
 obtain rfl:=Option.some.inj hvk
 have hgb:B<=g/\∃cur,w.heap[g]? = some (.cells cur 24 (0,0)):=qx3 h.head rfl
 have hgne:∀b,(Value.slice A (nthL rs k).length cc).ownBlock=some b->b≠g:=λb hb e=>by
  obtain⟨_,cur,h1⟩:=qx3 hvo hb
  obtain⟨_,cur2,h2⟩:=hgb
  subst e
  rw[h2] at h1
  injection h1 with h1
  injection h1 with _ h1
  exact absurd h1 (by decide)
 have hhead3:w3.ownsRow B 24 1 (.slice (some ⟨g,0,none⟩) n c) n vs:=w8y h.head λb hb=>by
  simp only[Value.ownBlock,Option.some.injEq] at hb
  subst hb
  obtain⟨_,cur,h2⟩:=hgb
  exact hg.block _ (Array.getElem?_eq_some_iff.1 h2).1 λe=>hgne _ e.symm rfl
 have hst:=hhead3.stored k v'
 have hkp:KeepsT 3 w3 (w3.setCell ⟨g,k,none⟩ v'):=KeepsT.stored (e:=3) (by decide) hhead3 hst.2
 refine⟨⟨hst.1,⟨by simp[h.rows.1],λr hr=>?_⟩,λi j u u' b hij hi hj hbi hbj=>?_⟩,hst.2⟩
 ·have hr2:r<rs.length:=by simpa using hr
  by_cases e:r=k
  ·subst e
   have e1:nthL (rs.set r (l++[x])) r=l++[x]:=(wf4 rs r (l++[x]) r hr2).trans (if_pos rfl)
   rw[e1]
   refine⟨A',c',by rw[List.getElem?_set_self (by omega),hv']; simp,?_⟩
   have h9:=q58 hown hkp
   rw[show(l++[x]).length=l.length+1 by simp,<- hv']
   exact h9
  ·obtain⟨A1,c1,q1,q2⟩:=h.rows.2 r hr2
   have e1:nthL (rs.set k (l++[x])) r=nthL rs r:=(wf4 rs k (l++[x]) r hr2).trans (if_neg e)
   rw[e1]
   refine⟨A1,c1,by rw[List.getElem?_set_ne (Ne.symm e)]; exact q1,q58 (w8y q2 λb hb=>?_) hkp⟩
   obtain⟨_,cur,h2⟩:=qx3 q2 hb
   exact hg.block _ (Array.getElem?_eq_some_iff.1 h2).1 λe2=>h.apart r k _ _ b e q1 hv hb e2.symm
 ·have old:∀(q:Nat) u,(vs.set k v')[q]? = some u->q≠k->vs[q]? = some u:=λq u hq hne=>by rwa [List.getElem?_set_ne (Ne.symm hne)] at hq
  have new:∀u,(vs.set k v')[k]? = some u->u=v':=λu hq=>by
   rw[List.getElem?_set_self (by omega)] at hq
   exact(Option.some.inj hq).symm
  have lt:∀(q:Nat) u,vs[q]? = some u->u.ownBlock=some b->b<w.heap.size:=λq u hq hb=>by
   have hql:=(List.getElem?_eq_some_iff.1 hq).1
   obtain⟨A1,c1,q1,q2⟩:=h.rows.2 q (by omega)
   rw[hq] at q1
   obtain rfl:=Option.some.inj q1
   obtain⟨_,cur,h2⟩:=qx3 q2 hb
   exact(Array.getElem?_eq_some_iff.1 h2).1
  by_cases ei:i=k
  ·subst ei
   have hj':=old j _ hj (Ne.symm hij)
   rw[new _ hi] at hbi
   rcases hb b hbi with q | q
   ·exact h.apart i j _ _ b hij hv hj' q hbj
   ·have:=lt j _ hj' hbj; omega
  ·have hi':=old i _ hi ei
   by_cases ej:j=k
   ·subst ej
    rw[new _ hj] at hbj
    rcases hb b hbj with q | q
    ·exact h.apart i j _ _ b hij hi' hv hbi q
    ·have:=lt i _ hi' hbi; omega
   ·exact h.apart i j _ _ b hij hi' (old j _ hj ej) hbi hbj
theorem Pl.below {w w':World} {B n g c:Nat} {vs:List Value} {rs:List (List Int)} (h:Pl w B n g c vs rs) (hb:Below w.heap.size w w'):Pl w' B n g c vs rs:=
 ⟨w8y h.head λb hbb=>by
  obtain⟨_,cur,h2⟩:=qx3 h.head hbb
  exact hb.block b (Array.getElem?_eq_some_iff.1 h2).1,h.rows.keep (KeepsT.of_below hb),h.apart⟩
theorem Pl.rd {w:World} {B n g c:Nat} {vs:List Value} {rs:List (List Int)} (h:Pl w B n g c vs rs):Rd (View.from w B) (.list (.list (.int .i64))) rs [.slice (some ⟨g,0,none⟩) n c]:=by
 obtain⟨hvl,hrl⟩:=h.len
 obtain⟨h1,h2,h3,h4⟩:=x0p h.head h.rows
 have hgb:=(qx3 h.head (b:=g) rfl).1
 refine⟨some ⟨g,0,none⟩,c,by rw[h1],by rw[h1]; exact h2,h3,λhl=>⟨_,rfl,λi hi=>?_⟩⟩
 have hi:i<rs.length:=hi
 obtain⟨A,c1,q1,q2⟩:=h.rows.2 i hi
 have hA:∀ad,A=some ad->B<=ad.block:=by
  intro ad e
  rcases q2.2 with⟨h0,_⟩ | ⟨g',cap,cur,hv,hB,_⟩
  ·injection h0 with h0
   rw[h0] at e
   cases e
  ·injection hv with hv
   rw[hv] at e
   obtain rfl:=Option.some.inj e
   exact hB
 refine⟨[.slice A (nthL rs i).length c1],x1g (q57 q2) hA,λj v hj=>?_⟩
 cases j with
 | succ j=>simp at hj
 | zero=>
  simp only[List.getElem?_cons_zero,Option.some.injEq] at hj
  subst hj
  simp only[Ty.size,Nat.mul_one,Nat.add_zero]
  have h6:=xr7 h.head i (by omega) _ q1
  have h7:(View.from w B).cell ((⟨g,0,none⟩:Addr).add i)=View.cell (λb=>w.heap[b]?) ((⟨g,0,none⟩:Addr).add i):=by
   unfold View.cell View.from
   rw[Ls.block_add,if_pos hgb]
  rw[h7]
  exact h6
section
variable {P : Program} {Q : Exit -> Act -> World -> Prop}
end
def dt (W:Nat) (r:List Int) (z:Nat->Int):Int:=sm W λc=>nI r c*z c
theorem w2k {W:Nat} {r' r p:List Int} {z:Nat->Int} {α β γ:Int} (h:∀c,c<W->α*nI r' c=β*nI r c-γ*nI p c):α*dt W r' z=β*dt W r z-γ*dt W p z:=by
 unfold dt
 rw[<- qn7,<- qn7,<- qn7,<- xq4]
 refine qf2 λc hc=>?_
 have:=h c hc
 rw[<- Int.mul_assoc,this,Int.sub_mul,Int.mul_assoc,Int.mul_assoc]
theorem qm8 (P:List Int) (x:Int) {q:Nat} (h:q<P.length):nI (P++[x]) q=nI P q:=by
 rw[qg1 _ q (by rw[List.length_append]; omega),qg1 _ q h,List.getElem_append_left h]
theorem qu3 (P:List Int) (x:Int):nI (P++[x]) P.length=x:=by
 rw[qg1 _ _ (by rw[List.length_append]; exact Nat.lt_succ_self _),List.getElem_append_right (Nat.le_refl _)]
 simp
theorem ws5 {a x:Int} (ha:0<a) (h:0<a*x):0<x:=Int.lt_of_mul_lt_mul_left (a:=a) (by rw[Int.mul_zero]; exact h) (by omega)
structure Elm (W j:Nat) (r' r p:List Int):Prop where
 zero:nI r' j=0
 rel:∃α β γ:Int,0<α/\0<β/\∀c,c<W->α*nI r' c=β*nI r c-γ*nI p c
 nice:∀f,x2q W f (nI r)->x2q W f (nI r')
structure St (n W:Nat) (R:Nat->Nat->Int) (j:Nat) (rows:List (List Int)) (P:List Int):Prop where
 len:rows.length=n
 each:∀i,i<n->(nL rows i).length=W
 tag:∃(ρ:Nat->Nat->Int) (pv:Nat->Option Nat) (τ:Nat->Nat),El n W R ρ pv/\(∀i,i<n->τ i<n)/\(∀i k,i<n->k<n->τ i=τ k->i=k)/\(∀a,a<n->∃i,i<n/\τ i=a)/\(∀i,i<n->∀c,c<W->ρ (τ i) c=nI (nL rows i) c)/\(∀q,q<n->pv (τ q)=if q<P.length then some (nI P q).toNat else none)/\∀i,i<n->x2q W (R (τ i)) (nI (nL rows i))
 sol:∀z:Nat->Int,(∀a,a<n->(sm W λc=>R a c*z c)=0)↔∀i,i<n->dt W (nL rows i) z=0
 pl:P.length<=n
 zero:∀i,P.length<=i->i<n->∀c,c<j->nI (nL rows i) c=0
 pos:∀q,q<P.length->0<=nI P q/\nI P q<j/\0<nI (nL rows q) (nI P q).toNat/\(∀c,c<(nI P q).toNat->nI (nL rows q) c=0)/\∀i,i<n->i≠q->nI (nL rows i) (nI P q).toNat=0
 asc:∀q k,q<k->k<P.length->nI P q<nI P k
theorem St.skip {n W:Nat} {R:Nat->Nat->Int} {j:Nat} {rows:List (List Int)} {P:List Int} (h:St n W R j rows P) (hz:∀i,P.length<=i->i<n->nI (nL rows i) j=0):St n W R (j+1) rows P:=by
 refine⟨h.len,h.each,h.tag,h.sol,h.pl,λi h1 h2 c hc=>?_,λq hq=>?_,h.asc⟩
 ·rcases Nat.lt_succ_iff_lt_or_eq.1 hc with e | e
  ·exact h.zero i h1 h2 c e
  ·rw[e]; exact hz i h1 h2
 ·obtain⟨q1,q2,q3,q4,q5⟩:=h.pos q hq
  exact⟨q1,by omega,q3,q4,q5⟩
theorem St.step {n W:Nat} {R:Nat->Nat->Int} {j:Nat} {rows rows':List (List Int)} {P:List Int} (h:St n W R j rows P) (hj:j<W) (hk:P.length<n) (hlen:rows'.length=n) (heach:∀i,i<n->(nL rows' i).length=W)
  (π:Nat->Nat) (hπ:∀i,i<n->π i<n) (hinj:∀i k,i<n->k<n->π i=π k->i=k) (hsur:∀i,i<n->∃k,k<n/\π k=i) (hfix:∀i,i<P.length->π i=i)
  (hx:∃s:Int,(s=1\/s=-1)/\∀c,c<W->nI (nL rows' P.length) c=s*nI (nL rows (π P.length)) c) (hpos:0<nI (nL rows' P.length) j)
  (ho:∀i,i<n->i≠P.length->Elm W j (nL rows' i) (nL rows (π i)) (nL rows' P.length)):St n W R (j+1) rows' (P++[(j:Int)]):=by
 obtain⟨s,hs,hsx⟩:=hx
 have hs0:s≠0:=by rcases hs with rfl | rfl <;> decide
 have hge:∀i,P.length<=i->i<n->P.length<=π i:=λi h1 h2=>by
  rcases Nat.lt_or_ge (π i) P.length with e | e
  ·have:=hinj (π i) i (hπ i h2) h2 (hfix _ e)
   omega
  ·exact e
 have hnx:nI (nL rows (π P.length)) j≠0:=λe=>by
  have:=hsx j hj
  rw[e,Int.mul_zero] at this
  omega
 have hpk:∀c,c<j->nI (nL rows' P.length) c=0:=λc hc=>by
  rw[hsx c (by omega),h.zero _ (hge _ (Nat.le_refl _) hk) (hπ _ hk) c hc,Int.mul_zero]
 have hpz:∀q,q<P.length->nI (nL rows' P.length) (nI P q).toNat=0:=λq hq=>by
  have:=h.pos q hq
  exact hpk _ (by omega)
 obtain⟨ρ,pv,τ,hE,t1,t2,t3,t4,t5,t6⟩:=h.tag
 have hsur2:∀a,∃i,a<n->i<n/\τ (π i)=a:=λa=>by
  by_cases ha:a<n
  ·obtain⟨i,hi,e⟩:=t3 a ha
   obtain⟨k,hk,e2⟩:=hsur i hi
   exact⟨k,λ_=>⟨hk,by rw[e2,e]⟩⟩
  ·exact⟨0,λq=>absurd q ha⟩
 obtain⟨σ,hσ⟩:=Classical.axiomOfChoice hsur2
 have hστ:∀i,i<n->σ (τ (π i))=i:=λi hi=>by
  obtain⟨q1,q2⟩:=hσ (τ (π i)) (t1 _ (hπ i hi))
  exact hinj _ _ q1 hi (t2 _ _ (hπ _ q1) (hπ _ hi) q2)
 refine⟨hlen,heach,⟨λa c=>nI (nL rows' (σ a)) c,λb=>if b=τ (π P.length) then some j else pv b,λi=>τ (π i),?_,λi hi=>t1 _ (hπ i hi),λi k hi hk e=>hinj _ _ hi hk (t2 _ _ (hπ i hi) (hπ k hk) e),λa ha=>⟨σ a,hσ a ha⟩,λi hi c hc=>by dsimp only; rw[hστ i hi],λq hq=>?_,λi hi=>?_⟩,λz=>?_,by rw[List.length_append]; exact hk,λi h1 h2 c hc=>?_,λq hq=>?_,λq k h1 h2=>?_⟩
 ·refine hE.step (t1 _ (hπ _ hk)) ?_ hj ?_ ⟨s,hs0,λc hc=>?_⟩ λa ha hne=>?_
  ·rw[t5 _ (hπ _ hk),if_neg (Nat.not_lt.2 (hge _ (Nat.le_refl _) hk))]
  ·rw[t4 _ (hπ _ hk) j hj]; exact hnx
  ·try dsimp only
   rw[hστ _ hk,hsx c hc,t4 _ (hπ _ hk) c hc]
  ·obtain⟨q1,q2⟩:=hσ a ha
   have hne2:σ a≠P.length:=λe=>hne (by rw[<- q2,e])
   have hel:=ho _ q1 hne2
   refine⟨hel.zero,?_⟩
   obtain⟨α,β,γ,hα,hβ,hr⟩:=hel.rel
   refine⟨α,β,γ,by omega,by omega,λc hc=>?_⟩
   try dsimp only
   rw[hστ _ hk,hr c hc]
   have:=t4 _ (hπ _ q1) c hc
   rw[q2] at this
   rw[this]
 ·dsimp only
  by_cases e:q=P.length
  ·subst e
   rw[if_pos rfl,if_pos (by rw[List.length_append]; exact Nat.lt_succ_self _),qu3]
   rfl
  ·rw[if_neg λq2=>e (hinj _ _ hq hk (t2 _ _ (hπ _ hq) (hπ _ hk) q2)),t5 _ (hπ _ hq),List.length_append]
   rcases Nat.lt_or_ge q P.length with e2 | e2
   ·rw[hfix _ e2,if_pos e2,if_pos (by omega),qm8 _ _ e2]
   ·rw[if_neg (Nat.not_lt.2 (hge _ e2 hq)),if_neg (by simp; omega)]
 ·dsimp only
  by_cases e:i=P.length
  ·subst e
   rcases t6 _ (hπ _ hi) with⟨u,hu,hr⟩ | hr | hr
   ·refine .inl ⟨s*u,?_,λc hc=>by rw[hsx c hc,hr c hc,Int.mul_assoc]⟩
    rcases hs with rfl | rfl <;> rcases hu with rfl | rfl <;> simp
   ·exact .inr (.inl λc hc=>by rw[hsx c hc,hr c hc,Int.mul_zero])
   ·refine .inr (.inr λd hd=>hr d λc hc=>?_)
    have:=hd c hc
    rw[hsx c hc,Int.natAbs_mul] at this
    have h1:s.natAbs=1:=by rcases hs with rfl | rfl <;> rfl
    rwa [h1,Nat.one_mul] at this
  ·exact(ho i hi e).nice _ (t6 _ (hπ _ hi))
 ·rw[h.sol z]
  have hdk:dt W (nL rows' P.length) z=s*dt W (nL rows (π P.length)) z:=by
   have:=w2k (W:=W) (r':=nL rows' P.length) (r:=nL rows (π P.length)) (p:=[]) (z:=z) (α:=1) (β:=s) (γ:=0) λc hc=>by rw[hsx c hc]; simp
   simpa using this
  constructor
  ·intro hz i hi
   have hzk:dt W (nL rows' P.length) z=0:=by rw[hdk,hz _ (hπ _ hk),Int.mul_zero]
   by_cases e:i=P.length
   ·rw[e]; exact hzk
   ·obtain⟨α,β,γ,hα,hβ,hr⟩:=(ho i hi e).rel
    have:=w2k (z:=z) hr
    rw[hzk,hz _ (hπ _ hi),Int.mul_zero,Int.mul_zero] at this
    exact qd6 (by omega) (show α≠0 by omega)
  ·intro hz i' hi'
   obtain⟨i,hi,rfl⟩:=hsur i' hi'
   by_cases e:i=P.length
   ·have:=hz _ hk
    rw[hdk] at this
    rw[e]
    exact qd6 this hs0
   ·obtain⟨α,β,γ,hα,hβ,hr⟩:=(ho i hi e).rel
    have:=w2k (z:=z) hr
    rw[hz _ hk,hz _ hi,Int.mul_zero,Int.mul_zero] at this
    exact qd6 (a:=β) (by omega) (by omega)
 ·rw[List.length_append] at h1
  have h1:P.length+1<=i:=h1
  have hel:=ho i h2 (by omega)
  rcases Nat.lt_succ_iff_lt_or_eq.1 hc with e | e
  ·obtain⟨α,β,γ,hα,hβ,hr⟩:=hel.rel
   have:=hr c (by omega)
   rw[hpk c e,h.zero _ (hge _ (by omega) h2) (hπ _ h2) c e] at this
   exact qd6 (a:=α) (by simpa using this) (by omega)
  ·rw[e]; exact hel.zero
 ·rw[List.length_append] at hq
  have hq:q<P.length+1:=hq
  rcases Nat.lt_succ_iff_lt_or_eq.1 hq with e | e
  ·rw[qm8 _ _ e]
   obtain⟨q1,q2,q3,q4,q5⟩:=h.pos q e
   have hel:=ho q (by omega) (by omega)
   obtain⟨α,β,γ,hα,hβ,hr⟩:=hel.rel
   refine⟨q1,by omega,ws5 hα ?_,λc hc=>?_,λi hi hne=>?_⟩
   ·rw[hr _ (by omega),hpz q e,hfix _ e,Int.mul_zero,Int.sub_zero]
    exact Int.mul_pos hβ q3
   ·have:=hr c (by omega)
    rw[hpk c (by omega),hfix _ e,q4 c hc] at this
    exact qd6 (a:=α) (by simpa using this) (by omega)
   ·by_cases e3:i=P.length
    ·rw[e3]; exact hpz q e
    ·obtain⟨α,β,γ,hα,hβ,hr⟩:=(ho i hi e3).rel
     have:=hr (nI P q).toNat (by omega)
     rw[hpz q e,q5 (π i) (hπ _ hi) λe4=>hne (hinj _ _ hi (by omega) (by rw[e4,hfix _ e]))] at this
     exact qd6 (a:=α) (by simpa using this) (by omega)
  ·subst e
   rw[qu3]
   refine⟨by omega,by omega,hpos,λc hc=>hpk c hc,λi hi hne=>(ho i hi hne).zero⟩
 ·rw[List.length_append] at h2
  have h2:k<P.length+1:=h2
  rcases Nat.lt_succ_iff_lt_or_eq.1 h2 with e | e
  ·rw[qm8 _ _ e,qm8 _ _ (by omega)]; exact h.asc q k h1 e
  ·subst e
   rw[qu3,qm8 _ _ h1]
   have:=h.pos q h1
   omega
theorem St.bound {n W:Nat} {R:Nat->Nat->Int} {j:Nat} {rows:List (List Int)} {P:List Int} (h:St n W R j rows P) (hone:∀a c,a<n->c<j->(R a c).natAbs<=1) {i c B:Nat} (hi:i<n) (hc:c<W) (hB:∀b,b<n->(R b c).natAbs<=B):(nI (nL rows i) c).natAbs<=n ^ n*B:=by
 obtain⟨ρ,pv,τ,hE,t1,t2,t3,t4,t5,t6⟩:=h.tag
 rw[<- t4 i hi c hc]
 refine hE.bound (λt p ht hp b hb=>?_) (t1 i hi) ?_ hc hB
 ·obtain⟨q,hq,rfl⟩:=t3 t ht
  rw[t5 q hq] at hp
  split at hp
  ·rename_i hqP
   obtain rfl:=Option.some.inj hp
   have:=h.pos q hqP
   exact hone b _ hb (by omega)
  ·cases hp
 ·rcases t6 i hi with⟨s,hs,hr⟩ | hr | hr
  ·exact .inl ⟨s,hs,λc hc=>by rw[t4 i hi c hc]; exact hr c hc⟩
  ·exact .inr (.inl λc hc=>by rw[t4 i hi c hc]; exact hr c hc)
  ·exact .inr (.inr λd hd=>hr d λc hc=>by rw[<- t4 i hi c hc]; exact hd c hc)
theorem q4x (l:List Int) {c:Nat} (h:l.length<=c):nI l c=0:=by
 unfold nI qh4
 simp[List.getElem?_eq_none h]
 rfl
theorem w8z {l:List Int} {f:Int->Int} {c:Nat} (h:c<l.length):nI (l.map f) c=f (nI l c):=by
 rw[qg1 _ _ (by simpa using h),qg1 _ _ h,List.getElem_map]
theorem q90 {l:List Int} {c:Nat} (h:c<l.length):nI l c∈l:=by rw[qg1 _ _ h]; exact List.getElem_mem h
theorem q91 {l:List Int} {x:Int} (h:x∈l):∃c,c<l.length/\x=nI l c:=by
 obtain⟨c,hc,rfl⟩:=List.mem_iff_getElem.1 h
 exact⟨c,hc,(qg1 l c hc).symm⟩
theorem w80 (a b:Int):(gcdI a b).natAbs=Nat.gcd a.natAbs b.natAbs:=rfl
theorem x2u:∀(l:List Int) (a:Int),(l.foldl gcdI a).natAbs∣a.natAbs/\(∀x∈l,(l.foldl gcdI a).natAbs∣x.natAbs)/\∀d:Nat,d∣a.natAbs->(∀x∈l,d∣x.natAbs)->d∣(l.foldl gcdI a).natAbs
 | [],a=>⟨Nat.dvd_refl _,λx hx=>(by cases hx),λd h _=>h⟩
 | y :: l,a=>by
  obtain⟨h1,h2,h3⟩:=x2u l (gcdI a y)
  rw[List.foldl_cons]
  rw[w80] at h1 h3
  refine⟨Nat.dvd_trans h1 (Nat.gcd_dvd_left _ _),λx hx=>?_,λd ha hx=>h3 d (Nat.dvd_gcd ha (hx y (by simp))) λx hx'=>hx x (by simp[hx'])⟩
  rcases List.mem_cons.1 hx with rfl | hx
  ·exact Nat.dvd_trans h1 (Nat.gcd_dvd_right _ _)
  ·exact h2 x hx
theorem q7y:∀(l:List Int) (a:Int),0<=a->0<=l.foldl gcdI a
 | [],a,h=>h
 | y :: l,a,_=>q7y l _ (q62 _ _)
theorem q2v (l:List Int):0<=gcdL l:=q7y l 0 (by decide)
theorem q5e (l:List Int):qe0 l=qj4 l:=by
 have h0:=q2v l
 unfold qe0 qj4
 split
 ·rename_i h
  rw[show max (gcdL l) 1=gcdL l by omega]
 ·rename_i h
  rw[show max (gcdL l) 1=1 by omega]
  simp
theorem qx4 (l:List Int) {c:Nat} (hc:c<l.length):max (gcdL l) 1*nI (qj4 l) c=nI l c:=by
 have h0:=q2v l
 unfold qj4
 rw[w8z hc]
 apply Int.mul_tdiv_cancel'
 rcases Int.lt_or_le 0 (gcdL l) with h | h
 ·rw[show max (gcdL l) 1=gcdL l by omega]
  exact Int.natAbs_dvd_natAbs.1 ((x2u l 0).2.1 _ (q90 hc))
 ·rw[show max (gcdL l) 1=1 by omega]
  exact Int.one_dvd _
def Prim (l:List Int):Prop:=(∀c,c<l.length->nI l c=0)\/∀d:Nat,(∀c,c<l.length->d∣(nI l c).natAbs)->d=1
theorem qn8 (l:List Int):Prim (qj4 l):=by
 have h0:=q2v l
 unfold Prim
 rw[qm7]
 rcases Int.lt_or_le 0 (gcdL l) with h | h
 ·refine .inr λd hd=>?_
  have hm:max (gcdL l) 1=gcdL l:=by omega
  have h1:(gcdL l).natAbs*d∣(gcdL l).natAbs:=(x2u l 0).2.2 _ (Nat.dvd_zero _) λx hx=>by
   obtain⟨c,hc,rfl⟩:=q91 hx
   rw[<- qx4 l hc,hm,Int.natAbs_mul]
   exact Nat.mul_dvd_mul_left _ (hd c hc)
  have h2:(gcdL l).natAbs*d∣(gcdL l).natAbs*1:=by rw[Nat.mul_one]; exact h1
  exact Nat.dvd_one.1 (Nat.dvd_of_mul_dvd_mul_left (by omega) h2)
 ·refine .inl λc hc=>?_
  have h1:nI l c=0:=by
   have:=(x2u l 0).2.1 _ (q90 hc)
   have e:(l.foldl gcdI 0).natAbs=0:=by
    have:gcdL l=0:=by omega
    unfold gcdL at this; rw[this]; rfl
   rw[e] at this
   have:=Nat.eq_zero_of_zero_dvd this
   omega
  have:=qx4 l hc
  rw[h1,show max (gcdL l) 1=1 by omega,Int.one_mul] at this
  exact this
theorem Prim.nice {l:List Int} {W:Nat} (h:Prim l) (hl:l.length=W) (f:Nat->Int):x2q W f (nI l):=by
 subst hl
 exact .inr (h.imp id id)
theorem xl0 (l:List Int) (c:Nat):(nI (qj4 l) c).natAbs<=(nI l c).natAbs:=by
 rcases Nat.lt_or_ge c l.length with h | h
 ·unfold qj4
  rw[w8z h,Int.natAbs_tdiv]; exact Nat.div_le_self _ _
 ·rw[q4x _ (by rw[qm7]; exact h)]; simp
theorem xq9 {W j:Nat} {u r p:List Int} {β γ:Int} (hj:j<W) (hu:u.length=W) (h0:nI u j=0) (hβ:0<β) (h:∀c,c<W->nI u c=β*nI r c-γ*nI p c):Elm W j (qj4 u) r p:=by
 subst hu
 have hG:0<max (gcdL u) 1:=by omega
 refine⟨?_,⟨max (gcdL u) 1,β,γ,hG,hβ,λc hc=>by rw[qx4 u hc]; exact h c hc⟩,λf _=>(qn8 u).nice (qm7 u) f⟩
 have:=qx4 u hj
 rw[h0] at this
 exact qd6 this (by omega)
theorem xl1 {W j:Nat} {r p:List Int} (h0:nI r j=0):Elm W j r r p:=⟨h0,⟨1,1,0,by decide,by decide,λc _=>by simp⟩,λ_ h=>h⟩
theorem ws6 (r b:List Int) (j:Nat) {c:Nat} (hc:c<r.length):nI (q5d r b j) c=xv6 r b j c:=by
 rw[qg1 _ _ (by rw[q1m]; exact hc)]
 simp[q5d]
theorem w81 {W j:Nat} {r p:List Int} (hj:j<W) (hr:r.length=W) (hp:0<nI p j):Elm W j (qx0 r p j) r p:=by
 have hg:0<gcdI (nI r j) (nI p j):=qq6 (.inr (by omega))
 have e1:gcdI (nI r j) (nI p j)*q1 r p j=nI p j:=Int.mul_tdiv_cancel' (Int.natAbs_dvd_natAbs.1 (Nat.gcd_dvd_right _ _))
 have e2:gcdI (nI r j) (nI p j)*q2 r p j=nI r j:=Int.mul_tdiv_cancel' (Int.natAbs_dvd_natAbs.1 (Nat.gcd_dvd_left _ _))
 unfold qx0
 rw[q5e]
 refine xq9 (β:=q1 r p j) (γ:=q2 r p j) hj (by rw[q1m]; exact hr) ?_ (ws5 hg (by omega)) λc hc=>?_
 ·rw[ws6 r p j (by omega)]
  unfold xv6
  have h3:nI r j*q1 r p j=nI p j*q2 r p j:=by
   generalize gcdI (nI r j) (nI p j)=g at e1 e2
   rw[<- e1,<- e2]
   grind
  omega
 ·rw[ws6 r p j (by omega)]
  unfold xv6
  grind
theorem wh7 (r p:List Int) (j:Nat) {c:Nat} (hc:c<r.length):nI (q3u r p j) c=nI r c*nI p j-nI p c*nI r j:=by
 rw[qg1 _ _ (by simp[q3u]; exact hc)]
 simp[q3u]
theorem w82 (r p:List Int) (j:Nat):(q3u r p j).length=r.length:=by simp[q3u]
theorem q7z {W j:Nat} {r p:List Int} (hj:j<W) (hr:r.length=W) (hp:0<nI p j):Elm W j (qe2 r p j) r p:=by
 unfold qe2
 refine xq9 (β:=nI p j) (γ:=nI r j) hj (by rw[w82]; exact hr) ?_ hp λc hc=>?_
 ·rw[wh7 r p j (by omega)]; grind
 ·rw[wh7 r p j (by omega)]; grind
structure Mat (n W:Nat) (M:List (List Int)):Prop where
 len:M.length=n
 each:∀i,i<n->(nL M i).length=W
def rowOf (M:List (List Int)):Nat->Nat->Int:=λa c=>nI (nL M a) c
theorem q92 (r:List Int) (c:Nat):nI (xh5 r) c=- nI r c:=by
 rcases Nat.lt_or_ge c r.length with h | h
 ·rw[qg1 _ _ (by rw[q5s]; exact h)]
  simp[xh5]
 ·rw[q4x _ h,q4x _ (by rw[q5s]; exact h)]; rfl
theorem w83 (r:List (List Int)) (k i:Nat):nL (r.drop k) i=nL r (k+i):=by
 unfold nL qh4
 rw[List.getD_eq_getElem?_getD,List.getD_eq_getElem?_getD,List.getElem?_drop]
theorem w84 {r:List (List Int)} {k j:Nat} (h:qs9 r k j<0):∀i,k<=i->i<r.length->nI (nL r i) j=0:=λi h1 h2=>by
 unfold qs9 ixT at h
 split at h
 ·omega
 ·rename_i hn
  have:=List.any_eq_false.1 (Bool.eq_false_iff.2 hn) (nL r i) (by
   have:=w83 r k (i-k)
   rw[show k+(i-k)=i by omega] at this
   rw[<- this]
   exact qk5 _ _ (by rw[List.length_drop]; omega))
  simpa using this
theorem w2l {r:List (List Int)} {k j:Nat} (h:0<=qs9 r k j):nI (nL r (k+(qs9 r k j).toNat)) j≠0:=by
 unfold qs9 ixT at h ⊢
 split at h
 ·rename_i ha
  rw[if_pos ha]
  have h1:=List.findIdx_getElem (xs:=r.drop k) (p:=λr=>nI r j != 0) (w:=List.findIdx_lt_length.2 (by simpa using ha))
  have h2:(r.drop k).findIdx (λr=>nI r j != 0)<(r.drop k).length:=List.findIdx_lt_length.2 (by simpa using ha)
  rw[<- ql6 _ _ h2,w83] at h1
  simpa using h1
 ·omega
theorem St.zero_ {n W:Nat} {M:List (List Int)} (h:Mat n W M):St n W (rowOf M) 0 M []:=by
 refine⟨h.len,h.each,⟨rowOf M,λ_=>none,id,El.start λa _=>⟨1,by decide,λj _=>Int.one_mul _⟩,λi hi=>hi,λi k _ _ e=>e,λa ha=>⟨a,ha,rfl⟩,λi _ c _=>rfl,λq _=>by simp,λi _=>.inl ⟨1,.inl rfl,λc _=>(Int.one_mul _).symm⟩⟩,λz=>Iff.rfl,Nat.zero_le _,λi _ _ c hc=>absurd hc (Nat.not_lt_zero _),λq hq=>absurd hq (Nat.not_lt_zero _),λq k _ hk=>absurd hk (Nat.not_lt_zero _)⟩
theorem q93 {n W j:Nat} {R:Nat->Nat->Int} {s:List (List Int) × List Int} (hj:j<W) (h:St n W R j s.1 s.2):St n W R (j+1) (qw0 s j).1 (qw0 s j).2:=by
 obtain⟨r,P⟩:=s
 have h:St n W R j r P:=h
 unfold qw0
 split
 ·rename_i hn
  exact h.skip λi h1 h2=>w84 hn i h1 (by rw[h.len]; exact h2)
 ·rename_i hn
  have hn:0<=qs9 r P.length j:=Int.not_lt.1 hn
  have hlen:=h.len
  have hpl:=h.pl
  have hb:=q1q r P.length j (by omega) hn
  have hk:P.length<n:=by omega
  have hne:=w2l hn
  show St n W R (j+1) (xc0 (qi6 r P.length j) P.length j) (P++[(j:Int)])
  obtain⟨b,hbd⟩:∃b,b=P.length+(qs9 r P.length j).toNat:=⟨_,rfl⟩
  rw[<- hbd] at hb hne
  have hsw:∀i,i<n->nL (q1p r P.length j) i=nL r (if i=P.length then b else if i=b then P.length else i):=λi hi=>by
   unfold q1p
   rw[<- hbd,q3r _ _ _ (by omega) hb i (by omega)]
   by_cases e1:i=b
   ·rw[if_pos e1]
    by_cases e2:i=P.length
    ·rw[if_pos e2,<- e1,e2]
    ·rw[if_neg e2,if_pos e1]
   ·rw[if_neg e1]
    by_cases e2:i=P.length
    ·rw[if_pos e2,if_pos e2]
    ·rw[if_neg e2,if_neg e2,if_neg e1]
  have hpr:∀i,i<n->i≠P.length->nL (qi6 r P.length j) i=nL (q1p r P.length j) i:=λi hi hne=>by
   rw[q3s _ _ _ _ (by omega),if_neg λq=>hne q.1]
  have hpk:∃s:Int,(s=1\/s=-1)/\(∀c,nI (nL (qi6 r P.length j) P.length) c=s*nI (nL r b) c)/\0<nI (nL (qi6 r P.length j) P.length) j:=by
   have e:=hsw P.length hk
   rw[if_pos rfl] at e
   rw[q3s _ _ _ _ (by omega),e]
   by_cases q:nI (nL r b) j<0
   ·rw[if_pos ⟨rfl,q⟩]
    refine⟨-1,.inr rfl,λc=>by rw[q92]; omega,by rw[q92]; omega⟩
   ·rw[if_neg λk=>q k.2]
    exact⟨1,.inl rfl,λc=>by omega,by omega⟩
  obtain⟨s,hs,hsx,hpos⟩:=hpk
  have hcl:xc0 (qi6 r P.length j) P.length j=xc0 (qi6 r P.length j) P.length j:=rfl
  have hat:∀i,i<n->nL (xc0 (qi6 r P.length j) P.length j) i=wk0 (qi6 r P.length j) P.length j i:=λi hi=>w70 _ _ _ _ (by rw[qi4]; omega)
  have heach:=q1r (r:=r) (k:=P.length) (j:=j) (W:=W) (by omega) hn λi hi=>h.each i (by omega)
  have hatk:nL (xc0 (qi6 r P.length j) P.length j) P.length=nL (qi6 r P.length j) P.length:=by
   rw[hat _ hk]; unfold wk0; rw[if_neg λq=>q.1 rfl]
  refine h.step hj hk (by rw[wf5,qi4]; exact hlen) (λi hi=>?_) (λi=>if i=P.length then b else if i=b then P.length else i) (λi hi=>?_) (λi k hi hk2 e=>?_) (λi hi=>?_) (λi hi=>?_) ⟨s,hs,λc hc=>?_⟩ ?_ λi hi hne2=>?_
  ·rw[hat i hi]; unfold wk0
   split
   ·rw[q9j]; exact heach i (by omega)
   ·exact heach i (by omega)
  ·(try dsimp only); split
   ·omega
   ·split <;> omega
  ·try dsimp only at e
   split at e <;> split at e <;> (try split at e) <;> (try split at e) <;> omega
  ·refine⟨if i=P.length then b else if i=b then P.length else i,?_,?_⟩
   ·split
    ·omega
    ·split <;> omega
   ·try dsimp only
    by_cases e1:i=P.length
    ·rw[if_pos e1]
     by_cases e3:b=P.length
     ·rw[if_pos e3]; omega
     ·rw[if_neg e3,if_pos rfl]; omega
    ·rw[if_neg e1]
     by_cases e2:i=b
     ·rw[if_pos e2,if_pos rfl]; omega
     ·rw[if_neg e2,if_neg e1,if_neg e2]
  ·try dsimp only
   rw[if_neg (by omega),if_neg (by omega)]
  ·rw[hatk,if_pos rfl]; exact hsx c
  ·rw[hatk]; exact hpos
  ·rw[hatk,hat i hi]
   try dsimp only
   rw[<- hsw i hi,<- hpr i hi hne2]
   unfold wk0
   by_cases q:nI (nL (qi6 r P.length j) i) j=0
   ·rw[if_neg λk=>k.2 q]
    exact xl1 q
   ·rw[if_pos ⟨hne2,q⟩]
    exact w81 hj (heach i (by omega)) hpos
theorem q5y {n W:Nat} {M:List (List Int)} (h:Mat n W M):∀j,j<=W->St n W (rowOf M) j (qd2 M j).1 (qd2 M j).2
 | 0,_=>St.zero_ h
 | j+1,hj=>q93 (by omega) (q5y h j (by omega))
structure Small (n C W:Nat) (M:List (List Int)):Prop extends Mat n W M where
 n6:n<=6
 cw:C<=W
 w:W<=1000
 one:∀a c,a<n->c<C->(nI (nL M a) c).natAbs<=1
 read:∀a c,a<n->c<W->(nI (nL M a) c).natAbs<=1000000
theorem yd2 {n:Nat} (h:n<=6):n ^ n<=46656:=by
 have:∀k:Fin 7,k.val ^ k.val<=46656:=by decide
 exact this ⟨n,by omega⟩
theorem St.small {n C W j:Nat} {M rows:List (List Int)} {P:List Int} (hM:Small n C W M) (h:St n W (rowOf M) j rows P) (hj:j<=C) {i:Nat} (hi:i<n):(∀c,c<C->(nI (nL rows i) c).natAbs<=46656)/\∀c,c<W->(nI (nL rows i) c).natAbs<=46656000000:=by
 have h6:=yd2 hM.n6
 have hcw:=hM.cw
 refine⟨λc hc=>?_,λc hc=>?_⟩
 ·have:=h.bound (λa c ha hc=>hM.one a c ha (by omega)) hi (show c<W by omega) (B:=1) λb hb=>hM.one b c hb hc
  omega
 ·have:=h.bound (λa c ha hc=>hM.one a c ha (by omega)) hi hc (B:=1000000) λb hb=>hM.read b c hb hc
  omega
theorem q07 {a b:Int} {A B:Nat} (ha:a.natAbs<=A) (hb:b.natAbs<=B):(a*b).natAbs<=A*B:=by
 rw[Int.natAbs_mul]; exact Nat.mul_le_mul ha hb
theorem q33 (a b:Int):(a.tdiv b).natAbs<=a.natAbs:=by rw[Int.natAbs_tdiv]; exact Nat.div_le_self _ _
theorem w85 {n C W:Nat} {M:List (List Int)} (hM:Small n C W M):we9 M C W:=by
 have hn:=hM.n6
 have hl:=hM.len
 have hw:=hM.w
 have hcw:=hM.cw
 refine⟨by omega,hw,hM.cw,λi hi=>hM.each i (by omega),λj hj hp=>?_⟩
 have hst:=q5y hM.toMat j (by omega)
 have hsm:=λ{i} (hi:i<n)=>hst.small hM (by omega) hi
 have hlen:=hst.len
 have hpl:=hst.pl
 generalize qd2 M j=s at hp hst hsm hlen hpl ⊢
 obtain⟨r,P⟩:=s
 simp only[] at hp hst hsm hlen hpl ⊢
 have hb:=q1q r P.length j (by omega) hp
 have heachS:=q68 (r:=r) (k:=P.length) (j:=j) (W:=W) (by omega) hp λi hi=>hst.each i (by omega)
 have heach:=q1r (r:=r) (k:=P.length) (j:=j) (W:=W) (by omega) hp λi hi=>hst.each i (by omega)
 have hsw:∀i,i<n->(∀c,c<C->(nI (nL (q1p r P.length j) i) c).natAbs<=46656)/\∀c,c<W->(nI (nL (q1p r P.length j) i) c).natAbs<=46656000000:=λi hi=>by
  unfold q1p
  rw[q3r _ _ _ (by omega) hb i (by omega)]
  split
  ·exact hsm (by omega)
  ·split
   ·exact hsm (by omega)
   ·exact hsm hi
 have hpr:∀i,i<n->(∀c,c<C->(nI (nL (qi6 r P.length j) i) c).natAbs<=46656)/\∀c,c<W->(nI (nL (qi6 r P.length j) i) c).natAbs<=46656000000:=λi hi=>by
  rw[q3s _ _ _ _ (by omega)]
  split
  ·refine⟨λc hc=>?_,λc hc=>?_⟩
   ·rw[q92,Int.natAbs_neg]; exact(hsw _ (by omega)).1 c hc
   ·rw[q92,Int.natAbs_neg]; exact(hsw _ (by omega)).2 c hc
  ·exact hsw i hi
 have hst2:=q93 (j:=j) (by omega) (show St n W (rowOf M) j (r,P).1 (r,P).2 from hst)
 have hpk:nI (nL (qi6 r P.length j) P.length) j≠0:=by
  have e:=w2l hp
  have hs:nL (q1p r P.length j) P.length=nL r (P.length+(qs9 r P.length j).toNat):=by
   unfold q1p
   rw[q3r _ _ _ (by omega) hb _ (by omega)]
   split
   ·rename_i q; rw[<- q]
   ·rw[if_pos rfl]
  rw[q3s _ _ _ _ (by omega)]
  split
  ·rw[q92,hs]; omega
  ·rw[hs]; exact e
 have hB:BIG=4000000000000000000:=rfl
 have hB2:x1o=2000000000000000000:=rfl
 refine⟨λx hx=>?_,λi hi hne hz=>⟨?_,?_,?_,hpk,?_,?_,λc hc=>?_,λc hc=>?_⟩⟩
 ·obtain⟨c,hc,rfl⟩:=q91 hx
  have h1:=heachS P.length (by omega)
  have:=(hsw P.length (by omega)).2 c (by omega)
  constructor <;> omega
 ·rw[heach i (by omega)]; omega
 ·rw[heach i (by omega),heach P.length (by omega)]
 ·rw[heach i (by omega)]; exact hw
 ·have:=(hpr i (by omega)).1 j hj
  constructor <;> omega
 ·have:=(hpr P.length (by omega)).1 j hj
  constructor <;> omega
 ·rw[heach i (by omega)] at hc
  have h1:=(hpr i (by omega)).2 c hc
  have h2:=(hpr P.length (by omega)).1 j hj
  have h3:(q1 (nL (qi6 r P.length j) i) (nL (qi6 r P.length j) P.length) j).natAbs<=46656:=Nat.le_trans (q33 _ _) h2
  have:=q07 h1 h3
  constructor <;> omega
 ·rw[heach i (by omega)] at hc
  have h1:=(hpr P.length (by omega)).2 c hc
  have h2:=(hpr i (by omega)).1 j hj
  have h3:(q2 (nL (qi6 r P.length j) i) (nL (qi6 r P.length j) P.length) j).natAbs<=46656:=Nat.le_trans (q33 _ _) h2
  have:=q07 h1 h3
  constructor <;> omega
end Go.Proofs.YtempacilejhbgaaGreat
