/- Sums, small solutions of few equations: plain mathematics. No condition. -/
import Derived.Test.YtdibdlelmkcccaaGreatV26
import Derived.Test.YtdibdlelmkcccaaGreatV0
set_option linter.unusedVariables false
set_option linter.unusedSimpArgs false
namespace Go.Proofs.YtdibdlelmkcccaaGreat
open Go Go.RowKit Eng
open Go Go.RowKit Ls Eng
structure Pl (w:World) (B n g c:Nat) (vs:List Value) (rs:List (List Int)):Prop where
 head:w.ownsRow B 24 1 (.slice (some ⟨g,0,none⟩) n c) n vs
 rows:RowsOwn w B 3 vs rs
 apart:∀(i j:Nat) u v b,i≠j->vs[i]? = some u->vs[j]? = some v->u.ownBlock=some b->v.ownBlock=some b->False
theorem Pl.len {w:World} {B n g c:Nat} {vs:List Value} {rs:List (List Int)} (h:Pl w B n g c vs rs):vs.length=n/\rs.length=n:=by
 have h1:=h.head.1
 have h2:=h.rows.1
 omega
theorem qw6 {w:World} {B e size n:Nat} {v:Value} {xs:List Value} (h:w.ownsRow B e size v n xs) {b:Nat} (hb:v.ownBlock=some b):B<=b/\∃cur,w.heap[b]? = some (.cells cur e (0,0)):=by
 rcases h.2 with⟨h0,_⟩ | ⟨g,cap,cur,hv,hB,hg,_⟩
 ·subst h0; simp[Value.ownBlock] at hb
 ·subst hv
  simp only[Value.ownBlock,Option.some.injEq] at hb
  subst hb
  exact⟨hB,cur,hg⟩
theorem w71 {w w':World} {B e size n:Nat} {v:Value} {xs:List Value} (h:w.ownsRow B e size v n xs) (hk:∀b,v.ownBlock=some b->w'.heap[b]? = w.heap[b]?):w'.ownsRow B e size v n xs:=by
 refine⟨h.1,?_⟩
 rcases h.2 with h0 | ⟨g,cap,cur,hv,hB,hg,r⟩
 ·exact .inl h0
 ·exact .inr ⟨g,cap,cur,hv,hB,(hk g (by rw[hv]; rfl)).trans hg,r⟩
theorem Pl.step {w w3:World} {B n g c k:Nat} {vs:List Value} {rs:List (List Int)} {v v':Value} {l:List Int} {A':Option Addr} {c':Nat} (h:Pl w B n g c vs rs) (hk:k<n) (hv:vs[k]? = some v) (hl:nL rs k=l) (x:Int)
  (hv':v'=.slice A' (l.length+1) c') (hown:w3.ownsRow B 3 1 v' (l.length+1) (ints (l++[x]))) (hg:w.grownBy w3 v.ownBlock) (hb:∀b,v'.ownBlock=some b->v.ownBlock=some b\/w.heap.size<=b):Pl (w3.setCell ⟨g,k,none⟩ v') B n g c (vs.set k v') (rs.set k (l++[x]))/\w3.grownBy (w3.setCell ⟨g,k,none⟩ v') (some g):=by
 obtain⟨hvl,hrl⟩:=h.len
 obtain⟨A,cc,hvk,hvo⟩:=h.rows.2 k (by omega)
 rw[hv] at hvk
 obtain rfl:=Option.some.inj hvk
 have hgb:B<=g/\∃cur,w.heap[g]? = some (.cells cur 24 (0,0)):=qw6 h.head rfl
 have hgne:∀b,(Value.slice A (nthL rs k).length cc).ownBlock=some b->b≠g:=λb hb e=>by
  obtain⟨_,cur,h1⟩:=qw6 hvo hb
  obtain⟨_,cur2,h2⟩:=hgb
  subst e
  rw[h2] at h1
  injection h1 with h1
  injection h1 with _ h1
  exact absurd h1 (by decide)
 have hhead3:w3.ownsRow B 24 1 (.slice (some ⟨g,0,none⟩) n c) n vs:=w71 h.head λb hb=>by
  simp only[Value.ownBlock,Option.some.injEq] at hb
  subst hb
  obtain⟨_,cur,h2⟩:=hgb
  exact hg.block _ (Array.getElem?_eq_some_iff.1 h2).1 λe=>hgne _ e.symm rfl
 have hst:=hhead3.stored k v'
 have hkp:KeepsT 3 w3 (w3.setCell ⟨g,k,none⟩ v'):=KeepsT.stored (e:=3) (by decide) hhead3 hst.2
 refine⟨⟨hst.1,⟨by simp[h.rows.1],λr hr=>?_⟩,λi j u u' b hij hi hj hbi hbj=>?_⟩,hst.2⟩
 ·have hr2:r<rs.length:=by simpa using hr
  by_cases e:r=k
  ·subst e
   have e1:nthL (rs.set r (l++[x])) r=l++[x]:=(wc5 rs r (l++[x]) r hr2).trans (if_pos rfl)
   rw[e1]
   refine⟨A',c',by rw[List.getElem?_set_self (by omega),hv']; simp,?_⟩
   have h9:=q5r hown hkp
   rw[show(l++[x]).length=l.length+1 by simp,<- hv']
   exact h9
  ·obtain⟨A1,c1,q1,q2⟩:=h.rows.2 r hr2
   have e1:nthL (rs.set k (l++[x])) r=nthL rs r:=(wc5 rs k (l++[x]) r hr2).trans (if_neg e)
   rw[e1]
   refine⟨A1,c1,by rw[List.getElem?_set_ne (Ne.symm e)]; exact q1,q5r (w71 q2 λb hb=>?_) hkp⟩
   obtain⟨_,cur,h2⟩:=qw6 q2 hb
   exact hg.block _ (Array.getElem?_eq_some_iff.1 h2).1 λe2=>h.apart r k _ _ b e q1 hv hb e2.symm
 ·have old:∀(q:Nat) u,(vs.set k v')[q]? = some u->q≠k->vs[q]? = some u:=λq u hq hne=>by rwa [List.getElem?_set_ne (Ne.symm hne)] at hq
  have new:∀u,(vs.set k v')[k]? = some u->u=v':=λu hq=>by
   rw[List.getElem?_set_self (by omega)] at hq
   exact(Option.some.inj hq).symm
  have lt:∀(q:Nat) u,vs[q]? = some u->u.ownBlock=some b->b<w.heap.size:=λq u hq hb=>by
   have hql:=(List.getElem?_eq_some_iff.1 hq).1
   obtain⟨A1,c1,q1,q2⟩:=h.rows.2 q (by omega)
   rw[hq] at q1
   obtain rfl:=Option.some.inj q1
   obtain⟨_,cur,h2⟩:=qw6 q2 hb
   exact(Array.getElem?_eq_some_iff.1 h2).1
  by_cases ei:i=k
  ·subst ei
   have hj':=old j _ hj (Ne.symm hij)
   rw[new _ hi] at hbi
   rcases hb b hbi with q | q
   ·exact h.apart i j _ _ b hij hv hj' q hbj
   ·have:=lt j _ hj' hbj; omega
  ·have hi':=old i _ hi ei
   by_cases ej:j=k
   ·subst ej
    rw[new _ hj] at hbj
    rcases hb b hbj with q | q
    ·exact h.apart i j _ _ b hij hi' hv hbi q
    ·have:=lt i _ hi' hbi; omega
   ·exact h.apart i j _ _ b hij hi' (old j _ hj ej) hbi hbj
theorem Pl.below {w w':World} {B n g c:Nat} {vs:List Value} {rs:List (List Int)} (h:Pl w B n g c vs rs) (hb:Below w.heap.size w w'):Pl w' B n g c vs rs:=
 ⟨w71 h.head λb hbb=>by
  obtain⟨_,cur,h2⟩:=qw6 h.head hbb
  exact hb.block b (Array.getElem?_eq_some_iff.1 h2).1,h.rows.keep (KeepsT.of_below hb),h.apart⟩
theorem Pl.rd {w:World} {B n g c:Nat} {vs:List Value} {rs:List (List Int)} (h:Pl w B n g c vs rs):Rd (View.from w B) (.list (.list (.int .i64))) rs [.slice (some ⟨g,0,none⟩) n c]:=by
 obtain⟨hvl,hrl⟩:=h.len
 obtain⟨h1,h2,h3,h4⟩:=xy4 h.head h.rows
 have hgb:=(qw6 h.head (b:=g) rfl).1
 refine⟨some ⟨g,0,none⟩,c,by rw[h1],by rw[h1]; exact h2,h3,λhl=>⟨_,rfl,λi hi=>?_⟩⟩
 have hi:i<rs.length:=hi
 obtain⟨A,c1,q1,q2⟩:=h.rows.2 i hi
 have hA:∀ad,A=some ad->B<=ad.block:=by
  intro ad e
  rcases q2.2 with⟨h0,_⟩ | ⟨g',cap,cur,hv,hB,_⟩
  ·injection h0 with h0
   rw[h0] at e
   cases e
  ·injection hv with hv
   rw[hv] at e
   obtain rfl:=Option.some.inj e
   exact hB
 refine⟨[.slice A (nthL rs i).length c1],x0l (q5q q2) hA,λj v hj=>?_⟩
 cases j with
 | succ j=>simp at hj
 | zero=>
  simp only[List.getElem?_cons_zero,Option.some.injEq] at hj
  subst hj
  simp only[Ty.size,Nat.mul_one,Nat.add_zero]
  have h6:=xn1 h.head i (by omega) _ q1
  have h7:(View.from w B).cell ((⟨g,0,none⟩:Addr).add i)=View.cell (λb=>w.heap[b]?) ((⟨g,0,none⟩:Addr).add i):=by
   unfold View.cell View.from
   rw[Ls.block_add,if_pos hgb]
  rw[h7]
  exact h6
section
variable {P : Program} {Q : Exit -> Act -> World -> Prop}
end
def qy7 (P:List Int) (n:Nat):Bool:=P.any λj=>j==(n:Int)
def q45 (n:Nat) (d:List (List Int)) (P:List Int):Nat->List (Int × Int)
 | 0=>List.replicate n (0,1)
 | i+1=>(q45 n d P i).set (nI P i).toNat (xs1 (nI (nL d i) n) (nI (nL d i) (nI P i).toNat))
def svD (m:List (List Int)) (pix y:List Int):List (List Int):=(qd6 (qg2 m pix y)).1
def svP (m:List (List Int)) (pix y:List Int):List Int:=(qd6 (qg2 m pix y)).2
def svR (m:List (List Int)) (pix y:List Int):List (Int × Int) × Int × Bool:=if qy7 (svP m pix y) pix.length=true then([],0,false) else(q45 pix.length (svD m pix y) (svP m pix y) (svP m pix y).length,(pix.length:Int)-(svP m pix y).length,true)
theorem q0q (n:Nat) (d:List (List Int)) (P:List Int):∀i,(q45 n d P i).length=n
 | 0=>by simp[q45]
 | i+1=>by rw[q45,List.length_set,q0q n d P i]
structure ya5 (d:List (List Int)) (P:List Int) (n:Nat):Prop where
 cnt:d.length=P.length
 lenP:P.length<=1000
 each:∀k,k<d.length->(nL d k).length=n+1
 pv:∀k,k<P.length->0<=nI P k/\nI P k<=n
 nz:∀k,k<P.length->nI (nL d k) (nI P k).toNat≠0
 bigD:∀k,k<P.length->qg3 BIG (nI (nL d k) (nI P k).toNat)
 bigN:∀k,k<P.length->qg3 BIG (nI (nL d k) n)
structure ya6 (m:List (List Int)) (pix y:List Int):Prop where
 one:0<m.length
 col:w7r m pix
 pl:pix.length<=1000
 yl:y.length=m.length
 rd:xf1 (qg2 m pix y)
 ar:ya5 (svD m pix y) (svP m pix y) pix.length
theorem q68 (m:List (List Int)) (pix y:List Int):(qg2 m pix y).length=m.length:=qn5 _ _ _
theorem w4e (m:List (List Int)) (pix y:List Int) (k:Nat) (hk:k<m.length):nL (qg2 m pix y) k=nL (qj1 m pix) k++[nI y k]:=by
 rw[ql9 _ k (by rw[q68]; exact hk),qs8 m pix k hk]
 simp[qg2,qb3]
open Go Go.RowKit Eng
def svT (m:List (List Int)) (pix y:List Int):List (Int × Int) × Int:=if(svR m pix y).2.2=false then([],8) else if 0<(svR m pix y).2.1 then([],11) else((svR m pix y).1,0)
def x5u (m:List (List Int)) (pix y:List Int):List (Int × Int) × Int:=if q1i m y pix=0 then svT m pix y else([],q1i m y pix)
structure x1m (m:List (List Int)) (pix y:List Int):Prop where
 fit:q77 m
 len:pix.length<=100000
 ok:q1i m y pix=0->ya6 m pix y
def x1n (l:List (Int × Int)):Bool:=l.any λr=>r.1==0
def x7h (s:List (Int × Int) × Int) (pix:List Int):Fit × Bool:=if s.2≠0\/x1n s.1=true then(([],[]),false) else((pix,s.1),true)
def x2z (m:List (List Int)) (y pix:List Int):Fit × Bool:=x7h (x5u m pix y) pix
theorem w1k {m:List (List Int)} {y:List Int} {pix:List Int} (h:wm2 m y=0):q1i m y pix=q42 (nL m 0).length pix/\validB m=true:=by
 have hC:q1i m y pix=if validB m=false then 1 else if ¬y.length=m.length then 9 else if xl6 y then 7 else wh5 m pix:=rfl
 have hN:wh5 m pix=if validB m=false then 1 else q42 (nL m 0).length pix:=rfl
 unfold wm2 at h
 split at h
 ·cases h
 ·rename_i hv
  unfold x4s at h
  split at h
  ·cases h
  ·rename_i hl
   split at h
   ·cases h
   ·rename_i ho
    exact⟨by rw[hC,if_neg hv,if_neg hl,if_neg ho,hN,if_neg hv],by simpa using hv⟩
theorem xs8 {m:List (List Int)} {y:List Int} {pix:List Int} (h:wm2 m y≠0):q1i m y pix=wm2 m y:=by
 have hC:q1i m y pix=if validB m=false then 1 else if ¬y.length=m.length then 9 else if xl6 y then 7 else wh5 m pix:=rfl
 unfold wm2 x4s at *
 split at h
 ·rename_i hv; rw[hC,if_pos hv,if_pos hv]
 ·rename_i hv
  split at h
  ·rename_i hl; rw[hC,if_neg hv,if_pos hl,if_neg hv,if_pos hl]
  ·rename_i hl
   split at h
   ·rename_i ho; rw[hC,if_neg hv,if_neg hl,if_pos ho,if_neg hv,if_neg hl,if_pos ho]
   ·exact absurd rfl h
def q5k (m:List (List Int)) (y:List Int) (s:List (List Int)):List Fit:=s.filterMap λpix=>if(x2z m y pix).2=true then some (x2z m y pix).1 else none
def xs9 (m:List (List Int)) (y:List Int):List Fit:=q5k m y (qd7 (nL m 0).length)
structure w72 (m:List (List Int)) (y:List Int):Prop where
 one:0<m.length
 pix:(nL m 0).length<=7
 each:∀s∈qd7 (nL m 0).length,x1m m s y
theorem wo0 (m:List (List Int)) (y:List Int) (s:List (List Int)):(q5k m y s).length<=s.length:=List.length_filterMap_le _ s
def w73 (k:Int) (L:List Fit):List Fit:=L.filter λf=>decide ((f.1.length:Int)<=k)
theorem xg0 {m:List (List Int)} {y:List Int} (h:w72 m y):(xs9 m y).length<=128:=by
 have h1:=wo0 m y (qd7 (nL m 0).length)
 have h2:=(q3d (n:=(nL m 0).length) (k:=128) h.pix (Nat.le_refl _)).1
 have e:qd7 (nL m 0).length=qb9 (nL m 0).length 128:=rfl
 rw[e] at h1
 unfold xs9
 rw[e]
 omega
def sm:Nat->(Nat->Int)->Int
 | 0,_=>0
 | n+1,f=>sm n f+f n
theorem qf5 {n:Nat} {f g:Nat->Int} (h:∀i,i<n->f i=g i):sm n f=sm n g:=by
 induction n with
 | zero=>rfl
 | succ n ih=>rw[sm,sm,ih λi hi=>h i (by omega),h n (by omega)]
theorem qr9 {n:Nat} {f:Nat->Int} (h:∀i,i<n->f i=0):sm n f=0:=by
 induction n with
 | zero=>rfl
 | succ n ih=>rw[sm,ih λi hi=>h i (by omega),h n (by omega)]; rfl
theorem wo1 (n:Nat) (f g:Nat->Int):sm n (λi=>f i+g i)=sm n f+sm n g:=by
 induction n with
 | zero=>rfl
 | succ n ih=>simp only[sm,ih]; omega
theorem xl9 (n:Nat) (f g:Nat->Int):sm n (λi=>f i-g i)=sm n f-sm n g:=by
 induction n with
 | zero=>rfl
 | succ n ih=>simp only[sm,ih]; omega
theorem qp2 (n:Nat) (c:Int) (f:Nat->Int):sm n (λi=>c*f i)=c*sm n f:=by
 induction n with
 | zero=>simp[sm]
 | succ n ih=>simp only[sm,ih,Int.mul_add]
theorem qs3 {n k:Nat} {f:Nat->Int} (hk:k<n) (h:∀i,i<n->i≠k->f i=0):sm n f=f k:=by
 induction n with
 | zero=>omega
 | succ n ih=>
  rw[sm]
  by_cases e:k=n
  ·subst e
   rw[qr9 λi hi=>h i (by omega) (by omega)]; omega
  ·rw[ih (by omega) λi hi hne=>h i (by omega) hne,h n (by omega) (Ne.symm e)]; omega
theorem q9e {n k l:Nat} {f:Nat->Int} (hk:k<n) (hl:l<n) (hkl:k≠l) (h:∀i,i<n->i≠k->i≠l->f i=0):sm n f=f k+f l:=by
 have e:sm n f=sm n (λi=>if i=k then f k else 0)+sm n (λi=>if i=l then f l else 0):=by
  rw[<- wo1]
  refine qf5 λi hi=>?_
  by_cases e1:i=k
  ·subst e1; rw[if_pos rfl,if_neg hkl]; omega
  ·rw[if_neg e1]
   by_cases e2:i=l
   ·subst e2; rw[if_pos rfl]; omega
   ·rw[if_neg e2,h i hi e1 e2]; rfl
 rw[e,qs3 hk λi _ hne=>if_neg hne,qs3 hl λi _ hne=>if_neg hne,if_pos rfl,if_pos rfl]
theorem x1o {n:Nat} {f:Nat->Int} {B:Nat} (h:∀i,i<n->(f i).natAbs<=B):(sm n f).natAbs<=n*B:=by
 induction n with
 | zero=>simp[sm]
 | succ n ih=>
  have h1:=ih λi hi=>h i (by omega)
  have h2:=h n (by omega)
  rw[sm,Nat.succ_mul]
  omega
theorem wv4 (n k:Nat) (f:Nat->Nat->Int):sm n (λi=>sm k (λj=>f i j))=sm k (λj=>sm n (λi=>f i j)):=by
 induction n with
 | zero=>exact(qr9 λ_ _=>rfl).symm
 | succ n ih=>
  rw[sm,ih,<- wo1]
  rfl
theorem qt2 (n:Nat) (x y:Int) (f g r:Nat->Int):sm n (λb=>(x*f b-y*g b)*r b)=x*sm n (λb=>f b*r b)-y*sm n (λb=>g b*r b):=by
 rw[<- qp2,<- qp2,<- xl9]
 refine qf5 λi _=>?_
 rw[Int.sub_mul,Int.mul_assoc,Int.mul_assoc]
theorem q69:∀(B A:Nat) (f:Nat->Nat),(∀i,i<A->f i<B)->B<A->∃i j,i<j/\j<A/\f i=f j
 | 0,A,f,h,hA=>absurd (h 0 hA) (Nat.not_lt_zero _)
 | B+1,A,f,h,hA=>by
  by_cases hx:∃i,i<A/\f i=B
  ·obtain⟨i0,h0,h1⟩:=hx
   by_cases hy:∃j,j<A/\j≠i0/\f j=B
   ·obtain⟨j,k0,k1,k2⟩:=hy
    rcases Nat.lt_or_gt_of_ne k1 with q | q
    ·exact⟨j,i0,q,h0,by omega⟩
    ·exact⟨i0,j,q,k0,by omega⟩
   ·have hn:∀j,j<A->j≠i0->f j<B:=λj hj hne=>by
     have:=h j hj
     rcases Nat.lt_or_ge (f j) B with q | q
     ·exact q
     ·exact absurd ⟨j,hj,hne,by omega⟩ hy
    obtain⟨i,j,q1,q2,q3⟩:=q69 B (A-1) (λi=>f (if i<i0 then i else i+1)) (λi hi=>hn _ (by split <;> omega) (by split <;> omega)) (by omega)
    refine⟨if i<i0 then i else i+1,if j<i0 then j else j+1,?_,?_,q3⟩
    ·split <;> split <;> omega
    ·split <;> omega
  ·obtain⟨i,j,q1,q2,q3⟩:=q69 B A f (λi hi=>by
    have:=h i hi
    rcases Nat.lt_or_ge (f i) B with q | q
    ·exact q
    ·exact absurd ⟨i,hi,by omega⟩ hx) (by omega)
   exact⟨i,j,q1,q2,q3⟩
def dig (b:Nat):Nat->Nat->Nat
 | 0,N=>N % b
 | a+1,N=>dig b a (N / b)
theorem xm0 {b:Nat} (hb:0<b):∀a N,dig b a N<b
 | 0,N=>Nat.mod_lt _ hb
 | a+1,N=>xm0 hb a (N / b)
theorem w74 {b:Nat} (hb:0<b):∀(n N M:Nat),N<b ^ n->M<b ^ n->(∀a,a<n->dig b a N=dig b a M)->N=M
 | 0,N,M,h1,h2,_=>by simp at h1 h2; omega
 | n+1,N,M,h1,h2,h=>by
  have h0:=h 0 (by omega)
  have e:=w74 hb n (N / b) (M / b) (Nat.div_lt_of_lt_mul (by rw[Nat.pow_succ,Nat.mul_comm] at h1; exact h1)) (Nat.div_lt_of_lt_mul (by rw[Nat.pow_succ,Nat.mul_comm] at h2; exact h2)) λa ha=>h (a+1) (by omega)
  have h0:N % b=M % b:=h0
  rw[<- Nat.div_add_mod N b,<- Nat.div_add_mod M b,e,h0]
def q3f (B:Nat):List Nat->Nat
 | []=>0
 | x :: l=>x+B*q3f B l
theorem w1l {B:Nat}:∀(l:List Nat),(∀x∈l,x<B)->q3f B l<B ^ l.length
 | [],_=>by simp[q3f]
 | x :: l,h=>by
  have h1:=w1l l λy hy=>h y (by simp[hy])
  have h2:=h x (by simp)
  rw[q3f,List.length_cons,Nat.pow_succ,Nat.mul_comm (B ^ l.length)]
  calc x+B*q3f B l<B+B*q3f B l:=by omega
   _=B*(q3f B l+1):=by rw[Nat.mul_add]; omega
   _<=B*B ^ l.length:=Nat.mul_le_mul (Nat.le_refl _) h1
theorem wo2 {B:Nat} (hB:0<B):∀(l k:List Nat),l.length=k.length->(∀x∈l,x<B)->(∀x∈k,x<B)->q3f B l=q3f B k->l=k
 | [],[],_,_,_,_=>rfl
 | [],_ :: _,h,_,_,_=>by simp at h
 | _ :: _,[],h,_,_,_=>by simp at h
 | x :: l,y :: k,h,h1,h2,e=>by
  have hx:=h1 x (by simp)
  have hy:=h2 y (by simp)
  rw[q3f,q3f] at e
  have e1:x=y:=by
   have:=congrArg (· % B) e
   simpa[Nat.add_mul_mod_self_left,Nat.mod_eq_of_lt hx,Nat.mod_eq_of_lt hy] using this
  subst e1
  have e2:q3f B l=q3f B k:=Nat.eq_of_mul_eq_mul_left hB (by omega)
  rw[wo2 hB l k (by simpa using h) (λz hz=>h1 z (by simp[hz])) (λz hz=>h2 z (by simp[hz])) e2]
def smN:Nat->(Nat->Nat)->Nat
 | 0,_=>0
 | n+1,f=>smN n f+f n
theorem x1p {n C:Nat} {f:Nat->Nat} (h:∀i,i<n->f i<=C):smN n f<=n*C:=by
 induction n with
 | zero=>simp[smN]
 | succ n ih=>
  have h1:=ih λi hi=>h i (by omega)
  have h2:=h n (by omega)
  rw[smN,Nat.succ_mul]; omega
def lhsN (n C:Nat) (f:Nat->Int) (z:Nat->Nat):Nat:=smN n λa=>if 0<f a then z a else if f a<0 then C-z a else 0
theorem xt0 {n C:Nat} {f:Nat->Int} (hf:∀a,a<n->(f a).natAbs<=1) {z y:Nat->Nat} (hz:∀a,a<n->z a<=C) (hy:∀a,a<n->y a<=C):(lhsN n C f z:Int)-(lhsN n C f y:Int)=sm n λa=>f a*((z a:Int)-(y a:Int)):=by
 unfold lhsN
 induction n with
 | zero=>rfl
 | succ n ih=>
  have h1:=ih (λa ha=>hf a (by omega)) (λa ha=>hz a (by omega)) (λa ha=>hy a (by omega))
  have h2:=hf n (by omega)
  have h3:=hz n (by omega)
  have h4:=hy n (by omega)
  rw[smN,smN,sm,<- h1]
  rcases Int.lt_trichotomy (f n) 0 with q | q | q
  ·have e:f n=-1:=by omega
   rw[if_neg (by omega),if_pos q,if_neg (by omega),if_pos q,e]
   omega
  ·rw[q]; simp
  ·have e:f n=1:=by omega
   rw[if_pos q,if_pos q,e]
   omega
theorem x1q {n:Nat} (hn:0<n) (fs:List (Nat->Int)) (hlen:fs.length<n) (h1:∀f∈fs,∀a,a<n->(f a).natAbs<=1):∃z:Nat->Int,(∃a,a<n/\z a≠0)/\(∀a,a<n->(z a).natAbs<=n ^ (n-1))/\∀f∈fs,sm n (λa=>f a*z a)=0:=by
 obtain⟨C,hC⟩:∃C,C=n ^ (n-1):=⟨_,rfl⟩
 have hb:0<C+1:=by omega
 let code:Nat->Nat:=λN=>q3f (n*C+1) (fs.map λf=>lhsN n C f λa=>dig (C+1) a N)
 have hdig:∀N a,dig (C+1) a N<=C:=λN a=>by have:=xm0 hb a N; omega
 have hl:∀N,∀x∈fs.map (λf=>lhsN n C f λa=>dig (C+1) a N),x<n*C+1:=λN x hx=>by
  obtain⟨f,hf,rfl⟩:=List.mem_map.1 hx
  have:=x1p (n:=n) (C:=C) (f:=λa=>if 0<f a then dig (C+1) a N else if f a<0 then C-dig (C+1) a N else 0) λi _=>by
   have:=hdig N i
   split
   ·exact this
   ·split <;> omega
  exact Nat.lt_succ_of_le this
 obtain⟨N,M,hNM,hM,he⟩:=q69 ((n*C+1) ^ fs.length) ((C+1) ^ n) code (λN _=>by
  have:=w1l _ (hl N)
  rw[List.length_map] at this
  exact this) (by
  calc(n*C+1) ^ fs.length<=(n*C+1) ^ (n-1):=Nat.pow_le_pow_right (by omega) (by omega)
   _<=(n*(C+1)) ^ (n-1):=Nat.pow_le_pow_left (by rw[Nat.mul_add]; omega) _
   _=n ^ (n-1)*(C+1) ^ (n-1):=Nat.mul_pow _ _ _
   _=C*(C+1) ^ (n-1):=by rw[<- hC]
   _<(C+1)*(C+1) ^ (n-1):=Nat.mul_lt_mul_of_pos_right (by omega) (Nat.pow_pos hb)
   _=(C+1) ^ n:=by rw[Nat.mul_comm,<- Nat.pow_succ,show(n-1).succ=n by omega])
 refine⟨λa=>(dig (C+1) a M:Int)-(dig (C+1) a N:Int),Classical.byContradiction λhno=>?_,λa ha=>?_,λf hf=>?_⟩
 ·have:=w74 hb n N M (by omega) hM λa ha=>by
   rcases Classical.em ((dig (C+1) a M:Int)-(dig (C+1) a N:Int)=0) with q | q
   ·omega
   ·exact absurd ⟨a,ha,q⟩ hno
  omega
 ·have q1:=hdig M a
  have q2:=hdig N a
  rw[<- hC]
  dsimp only
  omega
 ·have hll:=wo2 (B:=n*C+1) (by omega) _ _ (by simp) (hl N) (hl M) he
  have hfe:lhsN n C f (λa=>dig (C+1) a N)=lhsN n C f (λa=>dig (C+1) a M):=List.map_inj_left.1 hll f hf
  rw[<- xt0 (h1 f hf) (λa _=>hdig M a) (λa _=>hdig N a),hfe]
  omega
end Go.Proofs.YtdibdlelmkcccaaGreat
