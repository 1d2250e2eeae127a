/- The reference's solutions: contract by hand up to the first loop's end, by the engine from there. No condition. -/
import Derived.Test.YtdibdlelmkcccaaV26
set_option linter.unusedVariables false
set_option linter.unusedSimpArgs false
namespace Go.Proofs.Ytdibdlelmkcccaa
open Go Go.RowKit Eng
end Go.Proofs.Ytdibdlelmkcccaa
set_option linter.unusedVariables false
set_option linter.unusedSimpArgs false
namespace Go.Proofs.Ytdibdlelmkcccaa
open Go Go.RowKit Ls Eng
structure Pl (w:World) (B n g c:Nat) (vs:List Value) (rs:List (List Int)):Prop where
 head:w.ownsRow B 24 1 (.slice (some ⟨g,0,none⟩) n c) n vs
 rows:RowsOwn w B 3 vs rs
 apart:∀(i j:Nat) u v b,i≠j->vs[i]? = some u->vs[j]? = some v->u.ownBlock=some b->v.ownBlock=some b->False
theorem Pl.len {w:World} {B n g c:Nat} {vs:List Value} {rs:List (List Int)} (h:Pl w B n g c vs rs):vs.length=n/\rs.length=n:=by
 have h1:=h.head.1
 have h2:=h.rows.1
 omega
theorem qv8 {w:World} {B e size n:Nat} {v:Value} {xs:List Value} (h:w.ownsRow B e size v n xs) {b:Nat} (hb:v.ownBlock=some b):B<=b/\∃cur,w.heap[b]? = some (.cells cur e (0,0)):=by
 rcases h.2 with⟨h0,_⟩ | ⟨g,cap,cur,hv,hB,hg,_⟩
 ·subst h0; simp[Value.ownBlock] at hb
 ·subst hv
  simp only[Value.ownBlock,Option.some.injEq] at hb
  subst hb
  exact⟨hB,cur,hg⟩
theorem w6p {w w':World} {B e size n:Nat} {v:Value} {xs:List Value} (h:w.ownsRow B e size v n xs) (hk:∀b,v.ownBlock=some b->w'.heap[b]? = w.heap[b]?):w'.ownsRow B e size v n xs:=by
 refine⟨h.1,?_⟩
 rcases h.2 with h0 | ⟨g,cap,cur,hv,hB,hg,r⟩
 ·exact .inl h0
 ·exact .inr ⟨g,cap,cur,hv,hB,(hk g (by rw[hv]; rfl)).trans hg,r⟩
theorem Pl.step {w w3:World} {B n g c k:Nat} {vs:List Value} {rs:List (List Int)} {v v':Value} {l:List Int} {A':Option Addr} {c':Nat} (h:Pl w B n g c vs rs) (hk:k<n) (hv:vs[k]? = some v) (hl:nL rs k=l) (x:Int)
  (hv':v'=.slice A' (l.length+1) c') (hown:w3.ownsRow B 3 1 v' (l.length+1) (ints (l++[x]))) (hg:w.grownBy w3 v.ownBlock) (hb:∀b,v'.ownBlock=some b->v.ownBlock=some b\/w.heap.size<=b):Pl (w3.setCell ⟨g,k,none⟩ v') B n g c (vs.set k v') (rs.set k (l++[x]))/\w3.grownBy (w3.setCell ⟨g,k,none⟩ v') (some g):=by
 obtain⟨hvl,hrl⟩:=h.len
 obtain⟨A,cc,hvk,hvo⟩:=h.rows.2 k (by omega)
 rw[hv] at hvk
 obtain rfl:=Option.some.inj hvk
 have hgb:B<=g/\∃cur,w.heap[g]? = some (.cells cur 24 (0,0)):=qv8 h.head rfl
 have hgne:∀b,(Value.slice A (nthL rs k).length cc).ownBlock=some b->b≠g:=λb hb e=>by
  obtain⟨_,cur,h1⟩:=qv8 hvo hb
  obtain⟨_,cur2,h2⟩:=hgb
  subst e
  rw[h2] at h1
  injection h1 with h1
  injection h1 with _ h1
  exact absurd h1 (by decide)
 have hhead3:w3.ownsRow B 24 1 (.slice (some ⟨g,0,none⟩) n c) n vs:=w6p h.head λb hb=>by
  simp only[Value.ownBlock,Option.some.injEq] at hb
  subst hb
  obtain⟨_,cur,h2⟩:=hgb
  exact hg.block _ (Array.getElem?_eq_some_iff.1 h2).1 λe=>hgne _ e.symm rfl
 have hst:=hhead3.stored k v'
 have hkp:KeepsT 3 w3 (w3.setCell ⟨g,k,none⟩ v'):=KeepsT.stored (e:=3) (by decide) hhead3 hst.2
 refine⟨⟨hst.1,⟨by simp[h.rows.1],λr hr=>?_⟩,λi j u u' b hij hi hj hbi hbj=>?_⟩,hst.2⟩
 ·have hr2:r<rs.length:=by simpa using hr
  by_cases e:r=k
  ·subst e
   have e1:nthL (rs.set r (l++[x])) r=l++[x]:=(q93 rs r (l++[x]) r hr2).trans (if_pos rfl)
   rw[e1]
   refine⟨A',c',by rw[List.getElem?_set_self (by omega),hv']; simp,?_⟩
   have h9:=q44 hown hkp
   rw[show(l++[x]).length=l.length+1 by simp,<- hv']
   exact h9
  ·obtain⟨A1,c1,q1,q2⟩:=h.rows.2 r hr2
   have e1:nthL (rs.set k (l++[x])) r=nthL rs r:=(q93 rs k (l++[x]) r hr2).trans (if_neg e)
   rw[e1]
   refine⟨A1,c1,by rw[List.getElem?_set_ne (Ne.symm e)]; exact q1,q44 (w6p q2 λb hb=>?_) hkp⟩
   obtain⟨_,cur,h2⟩:=qv8 q2 hb
   exact hg.block _ (Array.getElem?_eq_some_iff.1 h2).1 λe2=>h.apart r k _ _ b e q1 hv hb e2.symm
 ·have old:∀(q:Nat) u,(vs.set k v')[q]? = some u->q≠k->vs[q]? = some u:=λq u hq hne=>by rwa [List.getElem?_set_ne (Ne.symm hne)] at hq
  have new:∀u,(vs.set k v')[k]? = some u->u=v':=λu hq=>by
   rw[List.getElem?_set_self (by omega)] at hq
   exact(Option.some.inj hq).symm
  have lt:∀(q:Nat) u,vs[q]? = some u->u.ownBlock=some b->b<w.heap.size:=λq u hq hb=>by
   have hql:=(List.getElem?_eq_some_iff.1 hq).1
   obtain⟨A1,c1,q1,q2⟩:=h.rows.2 q (by omega)
   rw[hq] at q1
   obtain rfl:=Option.some.inj q1
   obtain⟨_,cur,h2⟩:=qv8 q2 hb
   exact(Array.getElem?_eq_some_iff.1 h2).1
  by_cases ei:i=k
  ·subst ei
   have hj':=old j _ hj (Ne.symm hij)
   rw[new _ hi] at hbi
   rcases hb b hbi with q | q
   ·exact h.apart i j _ _ b hij hv hj' q hbj
   ·have:=lt j _ hj' hbj; omega
  ·have hi':=old i _ hi ei
   by_cases ej:j=k
   ·subst ej
    rw[new _ hj] at hbj
    rcases hb b hbj with q | q
    ·exact h.apart i j _ _ b hij hi' hv hbi q
    ·have:=lt i _ hi' hbi; omega
   ·exact h.apart i j _ _ b hij hi' (old j _ hj ej) hbi hbj
theorem Pl.below {w w':World} {B n g c:Nat} {vs:List Value} {rs:List (List Int)} (h:Pl w B n g c vs rs) (hb:Below w.heap.size w w'):Pl w' B n g c vs rs:=
 ⟨w6p h.head λb hbb=>by
  obtain⟨_,cur,h2⟩:=qv8 h.head hbb
  exact hb.block b (Array.getElem?_eq_some_iff.1 h2).1,h.rows.keep (KeepsT.of_below hb),h.apart⟩
theorem Pl.rd {w:World} {B n g c:Nat} {vs:List Value} {rs:List (List Int)} (h:Pl w B n g c vs rs):Rd (View.from w B) (.list (.list (.int .i64))) rs [.slice (some ⟨g,0,none⟩) n c]:=by
 obtain⟨hvl,hrl⟩:=h.len
 obtain⟨h1,h2,h3,h4⟩:=xq7 h.head h.rows
 have hgb:=(qv8 h.head (b:=g) rfl).1
 refine⟨some ⟨g,0,none⟩,c,by rw[h1],by rw[h1]; exact h2,h3,λhl=>⟨_,rfl,λi hi=>?_⟩⟩
 have hi:i<rs.length:=hi
 obtain⟨A,c1,q1,q2⟩:=h.rows.2 i hi
 have hA:∀ad,A=some ad->B<=ad.block:=by
  intro ad e
  rcases q2.2 with⟨h0,_⟩ | ⟨g',cap,cur,hv,hB,_⟩
  ·injection h0 with h0
   rw[h0] at e
   cases e
  ·injection hv with hv
   rw[hv] at e
   obtain rfl:=Option.some.inj e
   exact hB
 refine⟨[.slice A (nthL rs i).length c1],xt3 (w3c q2) hA,λj v hj=>?_⟩
 cases j with
 | succ j=>simp at hj
 | zero=>
  simp only[List.getElem?_cons_zero,Option.some.injEq] at hj
  subst hj
  simp only[Ty.size,Nat.mul_one,Nat.add_zero]
  have h6:=xg6 h.head i (by omega) _ q1
  have h7:(View.from w B).cell ((⟨g,0,none⟩:Addr).add i)=View.cell (λb=>w.heap[b]?) ((⟨g,0,none⟩:Addr).add i):=by
   unfold View.cell View.from
   rw[Ls.block_add,if_pos hgb]
  rw[h7]
  exact h6
section
variable {P : Program} {Q : Exit -> Act -> World -> Prop}
end
end Go.Proofs.Ytdibdlelmkcccaa
