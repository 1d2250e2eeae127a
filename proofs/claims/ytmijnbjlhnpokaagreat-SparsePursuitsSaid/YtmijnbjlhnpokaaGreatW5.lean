/- The reference's elimination: plain mathematics. No condition. -/
import Derived.Test.YtmijnbjlhnpokaaGreatV25
import Derived.Test.YtmijnbjlhnpokaaGreatW10
set_option linter.unusedVariables false
set_option linter.unusedSimpArgs false
namespace Go.Proofs.YtmijnbjlhnpokaaGreat
open Go Go.RowKit Eng
abbrev x0n:qc9:=xb1 false none [tQ,qf6] (λ_=>True) (λx=>.clo 214 (.cons (.imm (.cons (.lit (.int .i64 x.2.1)) .nil) 0) (.cons (.imm (.cons (.dat (.list (.int .i64)) x.1.1) (.cons (.dat (.int .i64) x.1.2) .nil)) 0) .nil)))
theorem wu4:Meets Tryz.prog 159 x0n:=by
 refine w0g (snd (SpecsOk.nil _)) Tryz.func159 rfl rfl (λ_ _=>none) (λ_=>by kernel_rfl) (by decide) ?_
 rintro⟨q,k,⟨⟩⟩ -
 revert q k
 intro(q:List (List Int) × List Int) (k:Int)
 refine @qd9 _ (((k=k/\True)/\(0:Nat)=(0:Nat))/\((q.1=q.1/\q.2=q.2/\True)/\(0:Nat)=(0:Nat))/\True) (by kernel_rfl) ?_
 try simp only[z0,z1,z2,z3,z4,z5,z6,z7,z8,z9,z10,Int.reduceEq,z11,z12,z13,z14,z15,z16,z17,z18,z19,z20,z21,z22,z23,z24,z25,z26,z27,z28,z29,z30,Int.reduceLE,Int.reduceLT,z31,z32,z33,z34,qa1]
 try simp only[qb4,qb5,qd0,z31,z32,z2,z1]
structure w02 (m:List (List Int)) (y:List Int) (k:Int):Prop where
 pre:wd8 m y k
 len:(ql1 m y k).length<=1000000
def spL (L:List Fit):List Fit:=L.takeWhile λf=>decide (f.1.length<=(nF L 0).1.length)
def q4x (m:List (List Int)) (y:List Int):List Fit × Int:=if qq0 m y []=0 then(if ql1 m y 10=[] then([],10) else(spL (ql1 m y 10),0)) else([],qq0 m y [])
structure q7u (m:List (List Int)) (y:List Int):Prop where
 ok:qq0 m y []=0->w02 m y 10
structure w3m (L:List Fit) (c:Nat):Prop where
 le:c<=L.length
 all:∀i,i<c->(nF L i).1.length<=(nF L 0).1.length
abbrev x4q:qc9:=qg4 false none [qi8,qd4] [x4h,qf6] (λx=>q7u x.1 x.2.1) (λx=>((q4x x.1 x.2.1).1,(q4x x.1 x.2.1).2,()))
def x0o (L:List Fit):Nat->Option Inv
 | 0=>some (Inv.of [] 2 (λ_=>[]) (λc:Nat=>[.box 127 (.cons (.own 1) .nil),.vec 72 wf7 (L.take c)]) (λc=>w3m L c) (λc=>c))
 | _=>none
theorem w7l {α:Type} (p:α->Bool):∀(l:List α) (c:Nat),c<=l.length->(∀(i:Nat) (h:i<l.length),i<c->p l[i]=true)->(∀h:c<l.length,p l[c]=false)->l.takeWhile p=l.take c
 | [],c,h,_,_=>by simp
 | x :: l,0,_,_,h2=>by
  have:=h2 (by simp)
  simp only[List.getElem_cons_zero] at this
  simp[List.takeWhile_cons,this]
 | x :: l,c+1,h,h1,h2=>by
  have hx:=h1 0 (by simp) (by omega)
  simp only[List.getElem_cons_zero] at hx
  rw[List.takeWhile_cons,hx,if_pos rfl,List.take_succ_cons,w7l p l c (by simpa using h) (λi hi hc=>h1 (i+1) (by simpa using hi) (by omega)) (λhc=>h2 (by simpa using hc))]
theorem xf1 (l:List Fit) (i:Nat) (h:i<l.length):nF l i=l[i]:=qk5 (t:=wf7) l i h
theorem w03 {L:List Fit} {c:Nat} (h:w3m L c) (hs:∀h:c<L.length,(nF L 0).1.length<(nF L c).1.length):spL L=L.take c:=by
 refine w7l _ L c h.le (λi hi hc=>?_) λhc=>?_
 ·have:=h.all i hc
  rw[xf1 L i hi] at this
  exact decide_eq_true this
 ·have:=hs hc
  rw[xf1 L c hc] at this
  exact decide_eq_false (by omega)
theorem w3n:Meets Tryz.prog 99 x4q:=by
 refine meets (x6c (SpecsOk.cons q7f (SpecsOk.cons wu4 (SpecsOk.nil _))) (ItsOk.cons w3l ItsOk.nil)) Tryz.func99 rfl rfl (λx=>x0o (ql1 x.1 x.2.1 10)) (λ_=>by kernel_rfl) (by decide) ?_
 rintro⟨m,y,⟨⟩⟩ h
 revert m y
 intro(m:List (List Int)) (y:List Int) (h:q7u m y)
 refine @qd9 _ (let Q0:=q4x m y; Value.slice none (0:Nat) (0:Nat)=Value.slice none (0:Nat) (0:Nat)/\(0:Nat)<=(1000000:Nat)/\((qq0 m y [] != (0:Int))=true->Q0.1=[]/\qq0 m y []=Q0.2/\True)/\((qq0 m y [] != (0:Int))=false->True/\wd8 m y (10:Int)/\∃(v1:Unit),∃(v2:Nat),w3m (ql1 m y (10:Int)) v2/\v2=(0:Nat)/\((True/\True)/\List.take v2 (ql1 m y (10:Int))=[]/\True)/\∀(v3:Nat),w3m (ql1 m y (10:Int)) v3->(∀(v5:(List Int × List (Int × Int)) × qa7._f [] PUnit.unit),(List.map (λ(v7:List Int × List (Int × Int))=>(v7,())) (ql1 m y (10:Int)))[v3]?=some v5->(decide ((0:Int)<(↑(List.take v3 (ql1 m y (10:Int))).length:Int))=true->((0:Int)<=(0:Int)/\(0:Int)<(↑(List.take v3 (ql1 m y (10:Int))).length:Int))/\(0:Nat)<(List.take v3 (ql1 m y (10:Int))).length/\(decide ((↑(qe8 wf7 (List.take v3 (ql1 m y (10:Int))) (0:Nat)).1.length:Int)<(↑v5.1.1.length:Int))=true->(((↑(List.take v3 (ql1 m y (10:Int))).length:Int)==(0:Int))=true->Q0.1=[]/\(10:Int)=Q0.2/\True)/\(((↑(List.take v3 (ql1 m y (10:Int))).length:Int)==(0:Int))=false->List.take v3 (ql1 m y (10:Int))=Q0.1/\(0:Int)=Q0.2/\True))/\(decide ((↑(qe8 wf7 (List.take v3 (ql1 m y (10:Int))) (0:Nat)).1.length:Int)<(↑v5.1.1.length:Int))=false->((0:Nat)<List.length [(v5.1.1,v5.1.2)]/\Nat.le ((List.take v3 (ql1 m y (10:Int))).length+List.length [(v5.1.1,v5.1.2)]) (1000000:Nat))/\∃(v9:Nat),w3m (ql1 m y (10:Int)) v9/\v9=v3+(1:Nat)/\(True/\True)/\List.take v3 (ql1 m y (10:Int))++[(v5.1.1,v5.1.2)]=List.take v9 (ql1 m y (10:Int))/\True))/\(decide ((0:Int)<(↑(List.take v3 (ql1 m y (10:Int))).length:Int))=false->((0:Nat)<List.length [(v5.1.1,v5.1.2)]/\Nat.le ((List.take v3 (ql1 m y (10:Int))).length+List.length [(v5.1.1,v5.1.2)]) (1000000:Nat))/\∃(v8:Nat),w3m (ql1 m y (10:Int)) v8/\v8=v3+(1:Nat)/\(True/\True)/\List.take v3 (ql1 m y (10:Int))++[(v5.1.1,v5.1.2)]=List.take v8 (ql1 m y (10:Int))/\True))/\(v3=(List.map (λ(v6:List Int × List (Int × Int))=>(v6,())) (ql1 m y (10:Int))).length->(((↑(List.take v3 (ql1 m y (10:Int))).length:Int)==(0:Int))=true->Q0.1=[]/\(10:Int)=Q0.2/\True)/\(((↑(List.take v3 (ql1 m y (10:Int))).length:Int)==(0:Int))=false->List.take v3 (ql1 m y (10:Int))=Q0.1/\(0:Int)=Q0.2/\True)))) (by kernel_rfl) ?_
 try simp only[z0,z1,z2,z3,z4,z5,z6,z7,z8,z9,z10,Int.reduceEq,z11,z12,z13,z14,z15,z16,z17,z18,z19,z20,z21,z22,z23,z24,z25,z26,z27,z28,z29,z30,Int.reduceLE,Int.reduceLT,z31,z32,z33,z34,qa1]
 try simp only[qb4,qb5,qd0,z31,z32,z2,z1]
 refine⟨by omega,λhe=>by simp[q4x,he],λhe=>?_⟩
 have hp:=h.ok he
 have hR:q4x m y=if ql1 m y 10=[] then([],10) else(spL (ql1 m y 10),0):=by rw[q4x,if_pos he]
 have hlen:=hp.len
 refine⟨hp.pre,(),0,⟨Nat.zero_le _,λi hi=>absurd hi (by omega)⟩,rfl,rfl,?_⟩
 generalize ql1 m y 10=L at hR hlen ⊢
 rw[hR]
 rintro c hc
 have hcl:=hc.le
 have htl:(L.take c).length=c:=by rw[List.length_take]; omega
 rw[htl]
 refine⟨?_,λhfin=>?_⟩
 ·rintro⟨f,⟨⟩⟩ hf
  rw[List.getElem?_map] at hf
  obtain⟨f',h1,h2⟩:=Option.map_eq_some_iff.1 hf
  obtain rfl:f'=f:=congrArg Prod.fst h2
  have hlt:=(List.getElem?_eq_some_iff.1 h1).1
  have hLne:L≠[]:=λe=>by rw[e] at hlt; exact absurd hlt (by simp)
  have hfe:nF L c=f':=by rw[xf1 L c hlt]; exact(List.getElem?_eq_some_iff.1 h1).2
  have hnx:L.take c++[(f'.1,f'.2)]=L.take (c+1):=by rw[List.take_add_one,h1]; rfl
  refine⟨λh0=>?_,λh0=>?_⟩
  ·have h0:0<c:=by omega
   have hn0:qe8 wf7 (L.take c) 0=nF L 0:=by
    rw[qk5 (t:=wf7) _ 0 (by rw[htl]; exact h0),xf1 L 0 (by omega)]
    simp
   rw[hn0]
   refine⟨by omega,h0,λhbr=>⟨λhz=>by omega,λ_=>?_⟩,λhbr=>⟨by omega,c+1,⟨hlt,λi hi=>?_⟩,rfl,hnx⟩⟩
   ·rw[if_neg hLne,w03 hc λ_=>by rw[hfe]; exact hbr]
    exact⟨rfl,rfl⟩
   ·by_cases e:i=c
    ·have hbr:¬(nF L 0).1.length<f'.1.length:=hbr
     subst e; rw[hfe]; omega
    ·exact hc.all i (by omega)
  ·have h0:c=0:=by omega
   subst h0
   exact⟨by omega,1,⟨hlt,λi hi=>(by have e:i=0:=(by omega); subst e; exact Nat.le_refl _)⟩,rfl,hnx⟩
 ·rw[List.length_map] at hfin
  refine⟨λhz=>?_,λhz=>?_⟩
  ·have e:L=[]:=List.eq_nil_of_length_eq_zero (by omega)
   rw[if_pos e]
   exact⟨rfl,rfl⟩
  ·have e:L≠[]:=λe=>by rw[e] at hfin; simp at hfin; omega
   rw[if_neg e,w03 hc λh=>by omega]
   exact⟨rfl,rfl⟩
def x0p:Fit:=([],[])
def w35 (m:List (List Int)) (y:List Int):Fit × Int:=if(q4x m y).2=0 then(nF (q4x m y).1 0,0) else(x0p,(q4x m y).2)
theorem x0q {L:List Fit} (h:L≠[]):0<(spL L).length:=by
 cases L with
 | nil=>exact absurd rfl h
 | cons f l=>
  unfold spL
  rw[List.takeWhile_cons,if_pos]
  ·simp
  ·exact decide_eq_true (Nat.le_refl _)
theorem xf2 {m:List (List Int)} {y:List Int} (h:(q4x m y).2=0):0<(q4x m y).1.length:=by
 unfold q4x at h ⊢
 split
 ·rename_i he
  rw[if_pos he] at h
  split
  ·rename_i e; rw[if_pos e] at h; cases h
  ·rename_i e; exact x0q e
 ·rename_i he
  rw[if_neg he] at h
  exact absurd h he
abbrev x8q:qc9:=qg4 false none [qi8,qd4] [wf7,qf6] (λx=>q7u x.1 x.2.1) (λx=>((w35 x.1 x.2.1).1,(w35 x.1 x.2.1).2,()))
theorem w7m:Meets Tryz.prog 76 x8q:=by
 refine meets (snd (SpecsOk.cons w3n (SpecsOk.nil _))) Tryz.func76 rfl rfl (λ_ _=>none) (λ_=>by kernel_rfl) (by decide) ?_
 rintro⟨m,y,⟨⟩⟩ h
 revert m y
 intro(m:List (List Int)) (y:List Int) (h:q7u m y)
 refine @qd9 _ (let Q0:=q4x m y; let Q1:=w35 m y; q7u m y/\((Q0.2 != (0:Int))=true->(Q1.1.1=[]/\Q1.1.2=[]/\True)/\Q0.2=Q1.2/\True)/\((Q0.2 != (0:Int))=false->((0:Int)<=(0:Int)/\(0:Int)<(↑Q0.1.length:Int))/\((qe8 (Ty.prod (Ty.list (Ty.int .i64)) (Ty.list (Ty.prod (Ty.int .i64) (Ty.int .i64)))) Q0.1 (0:Nat)).1=Q1.1.1/\(qe8 (Ty.prod (Ty.list (Ty.int .i64)) (Ty.list (Ty.prod (Ty.int .i64) (Ty.int .i64)))) Q0.1 (0:Nat)).2=Q1.1.2/\True)/\(0:Int)=Q1.2/\True)) (by kernel_rfl) ?_
 try simp only[z0,z1,z2,z3,z4,z5,z6,z7,z8,z9,z10,Int.reduceEq,z11,z12,z13,z14,z15,z16,z17,z18,z19,z20,z21,z22,z23,z24,z25,z26,z27,z28,z29,z30,Int.reduceLE,Int.reduceLT,z31,z32,z33,z34,qa1]
 try simp only[qb4,qb5,qd0,z31,z32,z2,z1]
 refine⟨h,λhe=>?_,λhe=>⟨by have:=xf2 he; omega,?_⟩⟩
 ·rw[w35,if_neg (by omega)]; exact⟨⟨rfl,rfl⟩,rfl⟩
 ·rw[w35,if_pos (by omega)]; exact⟨⟨rfl,rfl⟩,rfl⟩
open Go Go.RowKit Ls Eng
structure Pl (w:World) (B n g c:Nat) (vs:List Value) (rs:List (List Int)):Prop where
 head:w.ownsRow B 34 1 (.slice (some ⟨g,0,none⟩) n c) n vs
 rows:RowsOwn w B 3 vs rs
 apart:∀(i j:Nat) u v b,i≠j->vs[i]? = some u->vs[j]? = some v->u.ownBlock=some b->v.ownBlock=some b->False
theorem Pl.len {w:World} {B n g c:Nat} {vs:List Value} {rs:List (List Int)} (h:Pl w B n g c vs rs):vs.length=n/\rs.length=n:=by
 have h1:=h.head.1
 have h2:=h.rows.1
 omega
theorem qn7 {w:World} {B e size n:Nat} {v:Value} {xs:List Value} (h:w.ownsRow B e size v n xs) {b:Nat} (hb:v.ownBlock=some b):B<=b/\∃cur,w.heap[b]? = some (.cells cur e (0,0)):=by
 rcases h.2 with⟨h0,_⟩ | ⟨g,cap,cur,hv,hB,hg,_⟩
 ·subst h0; simp[Value.ownBlock] at hb
 ·subst hv
  simp only[Value.ownBlock,Option.some.injEq] at hb
  subst hb
  exact⟨hB,cur,hg⟩
theorem wm9 {w w':World} {B e size n:Nat} {v:Value} {xs:List Value} (h:w.ownsRow B e size v n xs) (hk:∀b,v.ownBlock=some b->w'.heap[b]? = w.heap[b]?):w'.ownsRow B e size v n xs:=by
 refine⟨h.1,?_⟩
 rcases h.2 with h0 | ⟨g,cap,cur,hv,hB,hg,r⟩
 ·exact .inl h0
 ·exact .inr ⟨g,cap,cur,hv,hB,(hk g (by rw[hv]; rfl)).trans hg,r⟩
theorem Pl.step {w w3:World} {B n g c k:Nat} {vs:List Value} {rs:List (List Int)} {v v':Value} {l:List Int} {A':Option Addr} {c':Nat} (h:Pl w B n g c vs rs) (hk:k<n) (hv:vs[k]? = some v) (hl:nL rs k=l) (x:Int)
  (hv':v'=.slice A' (l.length+1) c') (hown:w3.ownsRow B 3 1 v' (l.length+1) (ints (l++[x]))) (hg:w.grownBy w3 v.ownBlock) (hb:∀b,v'.ownBlock=some b->v.ownBlock=some b\/w.heap.size<=b):Pl (w3.setCell ⟨g,k,none⟩ v') B n g c (vs.set k v') (rs.set k (l++[x]))/\w3.grownBy (w3.setCell ⟨g,k,none⟩ v') (some g):=by
 obtain⟨hvl,hrl⟩:=h.len
 obtain⟨A,cc,hvk,hvo⟩:=h.rows.2 k (by omega)
 rw[hv] at hvk
 obtain rfl:=Option.some.inj hvk
 have hgb:B<=g/\∃cur,w.heap[g]? = some (.cells cur 34 (0,0)):=qn7 h.head rfl
 have hgne:∀b,(Value.slice A (nthL rs k).length cc).ownBlock=some b->b≠g:=λb hb e=>by
  obtain⟨_,cur,h1⟩:=qn7 hvo hb
  obtain⟨_,cur2,h2⟩:=hgb
  subst e
  rw[h2] at h1
  injection h1 with h1
  injection h1 with _ h1
  exact absurd h1 (by decide)
 have hhead3:w3.ownsRow B 34 1 (.slice (some ⟨g,0,none⟩) n c) n vs:=wm9 h.head λb hb=>by
  simp only[Value.ownBlock,Option.some.injEq] at hb
  subst hb
  obtain⟨_,cur,h2⟩:=hgb
  exact hg.block _ (Array.getElem?_eq_some_iff.1 h2).1 λe=>hgne _ e.symm rfl
 have hst:=hhead3.stored k v'
 have hkp:KeepsT 3 w3 (w3.setCell ⟨g,k,none⟩ v'):=KeepsT.stored (e:=3) (by decide) hhead3 hst.2
 refine⟨⟨hst.1,⟨by simp[h.rows.1],λr hr=>?_⟩,λi j u u' b hij hi hj hbi hbj=>?_⟩,hst.2⟩
 ·have hr2:r<rs.length:=by simpa using hr
  by_cases e:r=k
  ·subst e
   have e1:nthL (rs.set r (l++[x])) r=l++[x]:=(wc9 rs r (l++[x]) r hr2).trans (if_pos rfl)
   rw[e1]
   refine⟨A',c',by rw[List.getElem?_set_self (by omega),hv']; simp,?_⟩
   have h9:=q6e hown hkp
   rw[show(l++[x]).length=l.length+1 by simp,<- hv']
   exact h9
  ·obtain⟨A1,c1,q1,q2⟩:=h.rows.2 r hr2
   have e1:nthL (rs.set k (l++[x])) r=nthL rs r:=(wc9 rs k (l++[x]) r hr2).trans (if_neg e)
   rw[e1]
   refine⟨A1,c1,by rw[List.getElem?_set_ne (Ne.symm e)]; exact q1,q6e (wm9 q2 λb hb=>?_) hkp⟩
   obtain⟨_,cur,h2⟩:=qn7 q2 hb
   exact hg.block _ (Array.getElem?_eq_some_iff.1 h2).1 λe2=>h.apart r k _ _ b e q1 hv hb e2.symm
 ·have old:∀(q:Nat) u,(vs.set k v')[q]? = some u->q≠k->vs[q]? = some u:=λq u hq hne=>by rwa [List.getElem?_set_ne (Ne.symm hne)] at hq
  have new:∀u,(vs.set k v')[k]? = some u->u=v':=λu hq=>by
   rw[List.getElem?_set_self (by omega)] at hq
   exact(Option.some.inj hq).symm
  have lt:∀(q:Nat) u,vs[q]? = some u->u.ownBlock=some b->b<w.heap.size:=λq u hq hb=>by
   have hql:=(List.getElem?_eq_some_iff.1 hq).1
   obtain⟨A1,c1,q1,q2⟩:=h.rows.2 q (by omega)
   rw[hq] at q1
   obtain rfl:=Option.some.inj q1
   obtain⟨_,cur,h2⟩:=qn7 q2 hb
   exact(Array.getElem?_eq_some_iff.1 h2).1
  by_cases ei:i=k
  ·subst ei
   have hj':=old j _ hj (Ne.symm hij)
   rw[new _ hi] at hbi
   rcases hb b hbi with q | q
   ·exact h.apart i j _ _ b hij hv hj' q hbj
   ·have:=lt j _ hj' hbj; omega
  ·have hi':=old i _ hi ei
   by_cases ej:j=k
   ·subst ej
    rw[new _ hj] at hbj
    rcases hb b hbj with q | q
    ·exact h.apart i j _ _ b hij hi' hv hbi q
    ·have:=lt i _ hi' hbi; omega
   ·exact h.apart i j _ _ b hij hi' (old j _ hj ej) hbi hbj
theorem Pl.below {w w':World} {B n g c:Nat} {vs:List Value} {rs:List (List Int)} (h:Pl w B n g c vs rs) (hb:Below w.heap.size w w'):Pl w' B n g c vs rs:=
 ⟨wm9 h.head λb hbb=>by
  obtain⟨_,cur,h2⟩:=qn7 h.head hbb
  exact hb.block b (Array.getElem?_eq_some_iff.1 h2).1,h.rows.keep (KeepsT.of_below hb),h.apart⟩
theorem Pl.rd {w:World} {B n g c:Nat} {vs:List Value} {rs:List (List Int)} (h:Pl w B n g c vs rs):Rd (View.from w B) (.list (.list (.int .i64))) rs [.slice (some ⟨g,0,none⟩) n c]:=by
 obtain⟨hvl,hrl⟩:=h.len
 obtain⟨h1,h2,h3,h4⟩:=xu0 h.head h.rows
 have hgb:=(qn7 h.head (b:=g) rfl).1
 refine⟨some ⟨g,0,none⟩,c,by rw[h1],by rw[h1]; exact h2,h3,λhl=>⟨_,rfl,λi hi=>?_⟩⟩
 have hi:i<rs.length:=hi
 obtain⟨A,c1,q1,q2⟩:=h.rows.2 i hi
 have hA:∀ad,A=some ad->B<=ad.block:=by
  intro ad e
  rcases q2.2 with⟨h0,_⟩ | ⟨g',cap,cur,hv,hB,_⟩
  ·injection h0 with h0
   rw[h0] at e
   cases e
  ·injection hv with hv
   rw[hv] at e
   obtain rfl:=Option.some.inj e
   exact hB
 refine⟨[.slice A (nthL rs i).length c1],xx0 (w38 q2) hA,λj v hj=>?_⟩
 cases j with
 | succ j=>simp at hj
 | zero=>
  simp only[List.getElem?_cons_zero,Option.some.injEq] at hj
  subst hj
  simp only[Ty.size,Nat.mul_one,Nat.add_zero]
  have h6:=wq1 h.head i (by omega) _ q1
  have h7:(View.from w B).cell ((⟨g,0,none⟩:Addr).add i)=View.cell (λb=>w.heap[b]?) ((⟨g,0,none⟩:Addr).add i):=by
   unfold View.cell View.from
   rw[Ls.block_add,if_pos hgb]
  rw[h7]
  exact h6
theorem w3o {P:Program} {ops:Array Oper} {o:Oper} {a:Act} {K:Act->World->Prop} {Q:Exit->Act->World->Prop} {D:Prop} {wr:World} {t e:TypeId} {z:Value} {bytes B n:Nat} {v el:Value} {xs:List Value}
  (E:Elt P t e z 1 bytes) (hz:z.cells.size=1) (hgd:o.guard=none) (s x:Operand)
  (ho:o.op=.call { callee:=.builtin .append,args:=#[s,x],argTypes:=#[t,t] })
  (hs:a.eval s=v) (hx:a.eval x=.slice (some ⟨wr.heap.size,0,none⟩) 1 1)
  (hown:wr.ownsRow B e 1 v n xs) (hB:B<=wr.heap.size) (h1:el.oneCell'=true)
  (h63:n<1000000) (hby:bytes<=1000000)
  (h:∀A' c' w',w'.ownsRow B e 1 (.slice A' (n+1) c') (n+1) (xs++[el])->wr.grownBy w' v.ownBlock->(∀b,(Value.slice A' (n+1) c').ownBlock=some b->v.ownBlock=some b\/wr.heap.size<=b)->K (a.put o.dst (.slice A' (n+1) c')) w') :
  if Region.wanted o (yielded ops a.tmps)=true then Oper.wp P o a (wr.alloc (.cells #[el] e)) K Q else D:=by
 have hw:Region.wanted o (yielded ops a.tmps)=true:=by simp[Region.wanted,hgd]
 rw[if_pos hw]
 obtain⟨i,hi,hz0,hz1,hz2⟩:=info_parts E.info
 have hbb:(n+1)*bytes<=1000000*1000000:=Nat.mul_le_mul (by omega) hby
 obtain⟨v',w',hrun,hown',hg',_,hblk⟩:=run_append_own_at (P:=P) (wr.alloc (.cells #[el] e)) B t o.type e i z 1 bytes E.under hi hz0 hz1 hz2 hz (by decide) v n xs (hown.alloc _) ⟨wr.heap.size,0,none⟩ 1 1 [el] rfl
  (cell_one_new _ _ _) (by intro u hu; simp at hu; subst hu; exact h1) (by unfold maxLen; omega) (by omega) (by simp; omega)
 obtain⟨A',c',rfl,hc1,hc2,_⟩:=qz1 hown'
 have hg:wr.grownBy w' v.ownBlock:=⟨hg'.os,hg'.tape,hg'.output,Nat.le_trans (by simp) hg'.size,λk hk hne=>
  (hg'.block k (by simp; omega) hne).trans (Below.heap_alloc wr _ k hk)⟩
 refine Lib.wp_append_run _ s x t t ho v _ hs hx _ w' hrun (h A' c' w' hown' hg λb hb=>?_)
 rcases hblk with q | q
 ·exact .inl (by rw[<- q]; exact hb)
 ·rw[q] at hb
  obtain rfl:=Option.some.inj hb
  exact .inr (by simp)
section
variable {P : Program} {Q : Exit -> Act -> World -> Prop}
def x0r (Q:Exit->Act->World->Prop):Exit->Act->World->Prop
 | .normal,a,w=>Q .normal a w
 | _,_,_=>False
theorem xf3 {e:Exit} {a:Act} {w:World} (h:x0r Q e a w):Q e a w:=by
 cases e <;> first | exact h | exact h.elim
theorem w7n {a:Act} {w:World} (h:Q .normal a w):x0r Q .normal a w:=h
end
theorem wn0 {m:View}:∀{l:List Int} {vs:List Value},RdL m (.int .i64) l vs->vs=ints l
 | [],vs,h=>h
 | x :: l,vs,⟨u,v,h1,h2,h3⟩=>by
  obtain rfl:u=[.int .i64 x]:=h2
  rw[h1,wn0 h3]
  rfl
theorem xq5 {m:View} {w:World} {B:Nat} {rows:List (List Int)} {hs:List Value} {v:Value} (h:PoolOk m w B 34 3 (.int .i64) rows none hs) (hv:hs[0]? = some v) (hn:0<rows.length):∃g c,v=.slice (some ⟨g,0,none⟩) rows.length c/\Pl w B rows.length g c hs.tail rows:=by
 have hlen:hs.length=rows.length+1:=h.len
 obtain⟨cs,hc1,hc2⟩:=h.head
 have e0:hs.getD 0 undef=v:=by rw[List.getD_eq_getElem?_getD,hv]; rfl
 rw[e0] at hc1
 have hc1:w.ownsRow B 34 1 v rows.length cs:=hc1
 obtain⟨A,c,rfl,k1,k2,k3⟩:=qz1 hc1
 obtain⟨g,rfl,_,_⟩:=k3 hn
 have hcl:cs.length=rows.length:=by have:=hc1.1; omega
 have hcs:cs=hs.tail:=by
  apply List.ext_getElem (by simp; omega)
  intro i h1 h2
  have h3:=(hc2 i i (by show(List.range rows.length)[i]? = some i; rw[List.getElem?_range (by omega)])).2
  rw[List.getElem?_eq_getElem h1,List.getElem?_eq_getElem (by omega)] at h3
  rw[Option.some.inj h3]
  simp
 rw[hcs] at hc1
 have htl:∀p,hs.tail[p]? = hs[p+1]?:=λp=>by simp
 refine⟨g,c,rfl,hc1,⟨by simp; omega,λr hr=>?_⟩,λi j u u' b hij hi hj hb1 hb2=>?_⟩
 ·obtain⟨xs,q1,q2⟩:=h.row r hr
  have q2:w.ownsRow B 3 1 (hs.getD (r+1) undef) (nL rows r).length xs:=q2
  rw[wn0 q1] at q2
  obtain⟨A,c1,e,_⟩:=qz1 q2
  refine⟨A,c1,?_,by rw[e] at q2; exact q2⟩
  rw[htl,List.getElem?_eq_getElem (by omega)]
  rw[List.getD_eq_getElem?_getD,List.getElem?_eq_getElem (by omega)] at e
  exact congrArg some e
 ·rw[htl] at hi hj
  exact h.apart (i+1) (j+1) u u' b (by omega) hi hj (qf5 hb1) (qf5 hb2)
theorem xq6 {w:World} {m:View} {M:List (List Int)} {pix:List Int} {u1 u2:Value} (hm:m.on w) (hp:wm3 M pix) (h1:0<M.length) (hu1:Rd m qi8 M [u1]) (hu2:Rd m qd4 pix [u2]) :
  Calls Tryz.prog 193 #[u1,u2] w λe w'=>∃g c vs,e=.returned (.slice (some ⟨g,0,none⟩) M.length c)/\Below w.heap.size w w'/\Pl w' w.heap.size M.length g c vs (qf3 M pix):=by
 have hx:qx3 m [qi8,qd4] (M,pix,()) [u1,u2]:=⟨u1,_,rfl,hu1,u2,[],rfl,hu2,rfl⟩
 have:=w3c.2 w m (qi6 [qi8,qd4] (M,pix,())) [u1,u2] (λr=>r=.dat (.list (.int .i64)) (qf3 M pix)) hm (q0t hx).1 (q66 hx ⟨hp,rfl⟩)
 refine this.mono λe w' ⟨v,m',e1,e2,e3,e4,e5⟩=>?_
 obtain⟨t,l,hs,q1,q2,q3⟩:=e5
 injection q1 with q1 q1'
 injection q1 with q1
 subst q1
 obtain rfl:=eq_of_heq q1'
 obtain⟨g,c,rfl,q5⟩:=xq5 q3 q2 (by rw[qm8]; exact h1)
 rw[qm8] at e1 q5
 exact⟨g,c,_,e1,e2,q5⟩
def qs5 (P:List Int) (n:Nat):Bool:=P.any λj=>j==(n:Int)
def qv5 (n:Nat) (d:List (List Int)) (P:List Int):Nat->List (Int × Int)
 | 0=>List.replicate n (0,1)
 | i+1=>(qv5 n d P i).set (nI P i).toNat (w3a (nI (nL d i) n) (nI (nL d i) (nI P i).toNat))
def svD (m:List (List Int)) (pix y:List Int):List (List Int):=(qa6 (qc8 m pix y)).1
def svP (m:List (List Int)) (pix y:List Int):List Int:=(qa6 (qc8 m pix y)).2
def svR (m:List (List Int)) (pix y:List Int):List (Int × Int) × Int × Bool:=if qs5 (svP m pix y) pix.length=true then([],0,false) else(qv5 pix.length (svD m pix y) (svP m pix y) (svP m pix y).length,(pix.length:Int)-(svP m pix y).length,true)
theorem qy3 (n:Nat) (d:List (List Int)) (P:List Int):∀i,(qv5 n d P i).length=n
 | 0=>by simp[qv5]
 | i+1=>by rw[qv5,List.length_set,qy3 n d P i]
structure x8r (d:List (List Int)) (P:List Int) (n:Nat):Prop where
 cnt:d.length=P.length
 lenP:P.length<=1000
 each:∀k,k<d.length->(nL d k).length=n+1
 pv:∀k,k<P.length->0<=nI P k/\nI P k<=n
 nz:∀k,k<P.length->nI (nL d k) (nI P k).toNat≠0
 bigD:∀k,k<P.length->qd2 BIG (nI (nL d k) (nI P k).toNat)
 bigN:∀k,k<P.length->qd2 BIG (nI (nL d k) n)
structure x0s (m:List (List Int)) (pix y:List Int):Prop where
 one:0<m.length
 col:wm3 m pix
 pl:pix.length<=1000
 yl:y.length=m.length
 rd:w34 (qc8 m pix y)
 ar:x8r (svD m pix y) (svP m pix y) pix.length
abbrev gSv (x:qa7 [qi8,qd4,qd4]):AV:=qq4 (qi6 [xo7,qf6,.bool] ((svR x.1 x.2.1 x.2.2.1).1,(svR x.1 x.2.1 x.2.2.1).2.1,(svR x.1 x.2.1 x.2.2.1).2.2,()))
abbrev sSv:qc9:=q8b (q5l [qi8,qd4,qd4]) true (some 60) none (λx=>x0s x.1 x.2.1 x.2.2.1) gSv
def xf4 (m:List (List Int)) (pix y:List Int) (k:Nat):List (List Int):=ovr (.list (.int .i64)) (nL (qc8 m pix y)) (qf3 m pix) k
theorem w7o (m:List (List Int)) (pix y:List Int):xf4 m pix y 0=qf3 m pix:=qr8 (.list (.int .i64)) _ _
theorem q26 (m:List (List Int)) (pix y:List Int):(qc8 m pix y).length=m.length:=qm7 _ _ _
theorem q2f (m:List (List Int)) (pix y:List Int) (k:Nat) (hk:k<m.length):nL (qc8 m pix y) k=nL (qf3 m pix) k++[nI y k]:=by
 rw[qm2 _ k (by rw[q26]; exact hk),qp9 m pix k hk]
 simp[qc8,qa9]
theorem w7p (m:List (List Int)) (pix y:List Int) (k:Nat) (hk:k<m.length):nL (xf4 m pix y k) k=nL (qf3 m pix) k:=(q2j (.list (.int .i64)) _ _ _ _ (by rw[qm8]; exact hk)).trans (if_neg (Nat.lt_irrefl _))
theorem w7q (m:List (List Int)) (pix y:List Int) (k:Nat) (hk:k<m.length):(xf4 m pix y k).set k (nL (qf3 m pix) k++[nI y k])=xf4 m pix y (k+1):=by
 rw[<- q2f m pix y k hk]
 exact qp3 (.list (.int .i64)) (nL (qc8 m pix y)) (qf3 m pix) k
theorem xf5 (m:List (List Int)) (pix y:List Int):xf4 m pix y m.length=qc8 m pix y:=by
 have h:=qw6 (.list (.int .i64)) (nL (qc8 m pix y)) (qf3 m pix) m.length (by rw[qm8]; exact Nat.le_refl _)
 refine h.trans ?_
 apply List.ext_getElem (by simp[qm8,q26])
 intro i h1 h2
 simp only[List.getElem_map,List.getElem_range]
 exact qm2 _ i h2
def x8s (pix:List Int) (d:List (List Int)) (P:List Int):Nat->Option Inv
 | 0=>some (Inv.of [13,49] 1 (λk:Nat=>[(13,.own 0),(49,.lit (.int .i64 k))]) (λk=>[.vec 60 wp6 (ovr wp6 (λ_=>(0,1)) (List.replicate pix.length (0,0)) k)]) (λk=>k<=pix.length) (λk=>pix.length-k))
 | 1=>some (Inv.of [13,59] 1 (λk:Nat=>[(13,.own 0),(59,.lit (.int .i64 k))]) (λk=>[.vec 60 wp6 (qv5 pix.length d P k)]) (λk=>k<=P.length/\∀i,i<k->nI P i≠pix.length) (λk=>P.length-k))
 | _=>none
set_option maxRecDepth 100000 in
set_option maxHeartbeats 4000000 in
theorem wu5 {w:World} {m:View} {M:List (List Int)} {pix y:List Int} {u1 u2:Value} {Ay:Option Addr} {cy:Nat} {k:AV->Prop} (hm:m.on w) (hp:x0s M pix y) (hu1:Rd m qi8 M [u1]) (hu2:Rd m qd4 pix [u2]) (hu3:Rd m qd4 y [.slice Ay M.length cy]) (hk:k (gSv (M,pix,y,()))) :
  Calls Tryz.prog 158 #[u1,u2,.slice Ay M.length cy] w (Eng.Left Tryz.prog sSv k m w):=by
 have hcol:=xq6 hm hp.col hp.one hu1 hu2
 have hy0:SI w Ay M.length cy y:=by
  obtain⟨A,c,e,h⟩:=xo6 hm hu3
  injection e with e1 e2 e3
  subst e1 e3
  rw[hp.yl] at h
  exact h
 have hn1:=hp.one
 have hn2:=hp.col.rows
 obtain⟨n,hn⟩:∃n,n=M.length:=⟨_,rfl⟩
 rw[<- hn] at hcol hy0 hn1 hn2 hu3 ⊢
 have HN:=hidx hn
 clear hn
 refine callsIn_wide.1 (callsIn_of_wp_marks (F:=Fence.wide) (n:=0) Tryz.func158 rfl trivial ?_)
 refine wpIn_wide.2 ?_
 simp only[Tryz.ntmps158,List.size_toArray,List.length_cons,List.length_nil,Nat.reduceAdd,Nat.reduceSub,Array.replicate_succ,Array.replicate_zero,List.push_toArray,List.append_toArray,List.nil_append,List.cons_append]
 go_wp2_with fail
 refine hcol.mono ?_
 rintro e w2 ⟨g,c,vs,rfl,hb2,hpl⟩
 have hy2:=hy0.below hb2
 go_wp2_with fail
 go_loopw [10,22] (λ_ i wr=>∃(q:Nat) (vs:List Value),q<=n/\i=.int .i64 q/\Pl wr w.heap.size n g c vs (xf4 M pix y q)/\Below w.heap.size w wr) (λ_ i _=>n-(intOf i).toNat)
 case atStart=>exact⟨0,vs,Nat.zero_le _,rfl,by rw[w7o]; exact hpl,hb2⟩
 case round=>
  obtain⟨q,vs,hq,rfl,hP,hb⟩:=hrel
  by_cases hlt:q<n
  ·obtain⟨hvl,hrl⟩:=hP.len
   have hqM:q<M.length:=by have:=HN.out; omega
   obtain⟨A1,c1,hvq,hvo⟩:=hP.rows.2 q (by omega)
   have hrow:nthL (xf4 M pix y q) q=nL (qf3 M pix) q:=w7p M pix y q hqM
   rw[hrow] at hvq hvo
   have hcell:=wq1 hP.head q hlt _ hvq
   rw[add_zero_lit] at hcell
   have hy:=hy0.below hb
   obtain⟨ady,rfl,hyc⟩:=hy.at_ hn1
   have hyq:=hyc q hlt
   obtain⟨len,hlen⟩:∃len,len=(nL (qf3 M pix) q).length:=⟨_,rfl⟩
   rw[<- hlen] at hvq hvo hcell
   obtain⟨l,hl⟩:∃l,l=nL (qf3 M pix) q:=⟨_,rfl⟩
   rw[<- hl] at hvo hlen
   have hlen2:len<=1000:=by rw[hlen,hl,qp9 M pix q hqM,qi3]; exact hp.pl
   obtain⟨yq,hyqe⟩:∃yq,yq=nth y q:=⟨_,rfl⟩
   rw[<- hyqe] at hyq
   have hsz:w.heap.size<=wr.heap.size:=hb.size
   have hcellD:wr.drew.cell? ⟨g,q,none⟩=some (.slice A1 len c1):=hcell
   have hcellA:∀o,(wr.drew.alloc o).cell? ⟨g,q,none⟩=some (.slice A1 len c1):=λo=>Below.cell_of (below_alloc wr.drew o) hcellD
   have hyqD:wr.drew.cell? (ady.add q)=some (.int .i64 yq):=hyq
   have hvoD:wr.drew.ownsRow w.heap.size 3 1 (.slice A1 len c1) len (ints l):=wm9 hvo λ_ _=>rfl
   have hszD:w.heap.size<=wr.drew.heap.size:=hsz
   have hPD:Pl wr.drew w.heap.size n g c vs (xf4 M pix y q):=hP.below ⟨rfl,rfl,rfl,Nat.le_refl _,λ_ _=>rfl⟩
   have Harm:∀w3,wr.drew.grownBy w3 (Value.slice A1 len c1).ownBlock->w3.cell? ⟨g,q,none⟩=some (.slice A1 len c1)/\w3.frozen? ⟨g,q,none⟩=false:=by
    intro w3 hg3
    have hh:w3.ownsRow w.heap.size 34 1 (.slice (some ⟨g,0,none⟩) n c) n vs:=wm9 hPD.head λb hbb=>by
     obtain⟨_,cur,h2⟩:=qn7 hPD.head hbb
     refine hg3.block b (Array.getElem?_eq_some_iff.1 h2).1 λe=>?_
     obtain⟨_,cur2,h3⟩:=qn7 hvoD e.symm
     rw[h2] at h3
     injection h3 with h3
     injection h3 with _ h3
     exact absurd h3 (by decide)
    have hg4:=wq1 hh q hlt _ hvq
    rw[add_zero_lit] at hg4
    exact⟨hg4,hh.frozenAt q⟩
   have hcellB:∀o,(wr.alloc o).cell? ⟨g,q,none⟩=some (.slice A1 len c1):=λo=>Below.cell_of (below_alloc wr o) hcell
   have HL:=hidx hlen
   have HL2:=hidx hl
   have HY:=hidx hyqe
   have HP:=hidx hP
   have HPD:=hidx hPD
   have Harm:=hidx Harm
   have HB:=hidx hb
   have i1:(0:Int)<=q:=by omega
   have i2:(q:Int)<n:=by omega
   clear hlen hl hyqe hqM hP hPD hb hvo hcol hy2 hpl hb2 hyc hy hy0 hvl hrl hrow
   go_wp2
   refine Code.wp_mono (λ_ _ _ h=>xf3 h) ?_
   go_region_law (refine w3o x6f rfl (by rfl) _ _ (by rfl) (by rfl) (by rfl) hvoD hszD (by rfl) (by omega) (by omega) ?_; intro A2 c2 w3 hv3 hg3 hbk3; obtain⟨hg4,hz4⟩:=Harm.out _ hg3)
   all_goals
    refine w7n ?_
    go_wp2
    go_roundw
    case rel=>
     have hnl:nL (xf4 M pix y q) q=l:=by rw[HL2.out]; exact w7p M pix y q (by have:=HN.out; omega)
     have hlen:=HL.out
     obtain⟨s1,s2⟩:=HPD.out.step (l:=l) hlt hvq hnl yq (by rw[hlen]) (by rw[<- w37,<- hlen]; exact hv3) hg3 hbk3
     have hgb:=(qn7 HPD.out.head (b:=g) rfl).1
     have hbD:Below w.heap.size w wr.drew:=⟨HB.out.os,HB.out.tape,HB.out.output,HB.out.size,HB.out.block⟩
     refine⟨q+1,vs.set q (.slice A2 (len+1) c2),hlt,by go_num,?_,(hbD.grown hg3 hszD λk hk=>(qn7 hvoD hk).1).grown s2 (by have:=hg3.size; omega) λk hk=>by obtain rfl:=Option.some.inj hk; exact hgb⟩
     have e:=w7q M pix y q (by have:=HN.out; omega)
     rw[<- e,<- HL2.out]
     have e2:yq=nI y q:=HY.out
     rw[<- e2]
     exact s1
    case measure=>simp[intOf]; omega
  ·have hqn:q=n:=by omega
   subst hqn
   rename_i hK
   have HK:=hidx hK
   clear hK
   go_wp2
   refine HK.out _ _ ?_
   refine(wpIn_wide (n:=0)).1 ?_
   have hmw:m.cells.on wr:=λb o hbb=>View.on_below hm hb b o (View.cells_le m b o hbb)
   have hfr:(View.from wr w.heap.size).on wr:=View.from_on _ _
   refine w51 (C:=ctx [(92,sRd),(213,x6g)]) ((snd (SpecsOk.cons wd5 (SpecsOk.cons w7b (SpecsOk.nil _)))).at _) rfl (iv:=x8s pix (svD M pix y) (svP M pix y)) (i:=0) (A:=q5l [qi8,qd4,qd4]) (fresh:=true) (own:=some 60) (deep:=none) (g:=gSv) (x:=(M,pix,y,())) (m0:=m.cells.or (View.from wr w.heap.size)) (ρ:=[]) (s:=⟨[(1,.dat (.int .i64) pix),(9,.dat (.list (.int .i64)) (qc8 M pix y))],λ_=>.any,[]⟩) hk hm (by kernel_rfl) rfl ?_ ?_
   ·refine⟨λi=>?_,rfl,λv hv=>by simp at hv,trivial,λg=>by cases g <;> trivial,λg g' v v' b _ l1=>?_,View.or_on hmw hfr,View.le_or,λb o hbb=>?_,q98.2 hb,λg v b l1=>?_,λg v hv _=>by simp[base0] at hv⟩
    ·match i with
     | 1=>exact Rd.cle (View.cle_trans (View.cells_cle m) View.le_or.cle) hu2
     | 9=>
      have h1:=hP.rd
      rw[HN.out,xf5] at h1
      rw[HN.out]
      exact Rd.le (View.or_le hmw hfr) h1
     | 0=>exact⟨_,rfl⟩
     | 2=>exact⟨_,rfl⟩
     | 3=>exact⟨_,rfl⟩
     | 4=>exact⟨_,rfl⟩
     | 5=>exact⟨_,rfl⟩
     | 6=>exact⟨_,rfl⟩
     | 7=>exact⟨_,rfl⟩
     | 8=>exact⟨_,rfl⟩
     | i+10=>exact⟨_,rfl⟩
    ·cases g <;> cases l1
    ·unfold View.or at hbb
     cases hmb:m.cells b with
     | some o'=>rw[hmb] at hbb; exact .inl hbb
     | none=>
      rw[hmb] at hbb
      unfold View.from at hbb
      simp only at hbb
      split at hbb
      ·rename_i hge; exact .inr ⟨hge,λh=>by have h:b<w.heap.size:=h; omega⟩
      ·cases hbb
    ·cases g <;> cases l1
   ·refine @qd9 _ (w34 (qc8 M pix y)/\((↑pix.length:Int)=(↑pix.length:Int)/\(0:Int)<=(↑pix.length:Int)/\(↑pix.length:Int)<=(1000000:Int))/\∃(v0:Unit),∃(v1:Nat),Nat.le v1 pix.length/\((True/\(0:Int)=(↑v1:Int)/\True)/\List.replicate (↑pix.length:Int).toNat (Ty.dflt (Ty.prod (Ty.int .i64) (Ty.int .i64)))=ovr wp6 (λ(v2:Nat)=>((0:Ty.den (Ty.int .i64)),(1:Ty.den (Ty.int .i64)))) (List.replicate pix.length ((0:Ty.den (Ty.int .i64)),(0:Ty.den (Ty.int .i64)))) v1/\True)/\∀(v2:Nat),Nat.le v2 pix.length->(decide ((↑v2:Int)<(↑(List.replicate (↑pix.length:Int).toNat (Ty.dflt (Ty.prod (Ty.int .i64) (Ty.int .i64)))).length:Int))=true->((0:Int)<=(↑v2:Int)/\(↑v2:Int)<(↑(ovr wp6 (λ(v5:Nat)=>((0:Ty.den (Ty.int .i64)),(1:Ty.den (Ty.int .i64)))) (List.replicate pix.length ((0:Ty.den (Ty.int .i64)),(0:Ty.den (Ty.int .i64)))) v2).length:Int))/\v2<(ovr wp6 (λ(v5:Nat)=>((0:Ty.den (Ty.int .i64)),(1:Ty.den (Ty.int .i64)))) (List.replicate pix.length ((0:Ty.den (Ty.int .i64)),(0:Ty.den (Ty.int .i64)))) v2).length/\fits .i64 ((↑v2:Int)+(1:Int))/\∃(v5:Nat),Nat.le v5 pix.length/\pix.length-v5<pix.length-v2/\(True/\(↑v2:Int)+(1:Int)=(↑v5:Int)/\True)/\List.set (ovr wp6 (λ(v6:Nat)=>((0:Ty.den (Ty.int .i64)),(1:Ty.den (Ty.int .i64)))) (List.replicate pix.length ((0:Ty.den (Ty.int .i64)),(0:Ty.den (Ty.int .i64)))) v2) v2 ((0:Int),(1:Int))=ovr wp6 (λ(v6:Nat)=>((0:Ty.den (Ty.int .i64)),(1:Ty.den (Ty.int .i64)))) (List.replicate pix.length ((0:Ty.den (Ty.int .i64)),(0:Ty.den (Ty.int .i64)))) v5/\True)/\(decide ((↑v2:Int)<(↑(List.replicate (↑pix.length:Int).toNat (Ty.dflt (Ty.prod (Ty.int .i64) (Ty.int .i64)))).length:Int))=false->∃(v5:Unit),∃(v6:Nat),(v6<=(svP M pix y).length/\∀(v7:Nat),Nat.le (Nat.succ v7) v6->nI (svP M pix y) v7=(↑pix.length:Int)->False)/\((True/\(0:Int)=(↑v6:Int)/\True)/\ovr wp6 (λ(v7:Nat)=>((0:Ty.den (Ty.int .i64)),(1:Ty.den (Ty.int .i64)))) (List.replicate pix.length ((0:Ty.den (Ty.int .i64)),(0:Ty.den (Ty.int .i64)))) v2=qv5 pix.length (svD M pix y) (svP M pix y) v6/\True)/\∀(v7:Nat),(v7<=(svP M pix y).length/\∀(v9:Nat),Nat.le (Nat.succ v9) v7->nI (svP M pix y) v9=(↑pix.length:Int)->False)->(decide ((↑v7:Int)<(↑(qa6 (qc8 M pix y)).2.length:Int))=true->((0:Int)<=(↑v7:Int)/\(↑v7:Int)<(↑(qa6 (qc8 M pix y)).2.length:Int))/\((nI (qa6 (qc8 M pix y)).2 v7==(↑pix.length:Int))=true->(svR M pix y).1=[]/\(0:Int)=(svR M pix y).2.1/\false=(svR M pix y).2.2/\True)/\((nI (qa6 (qc8 M pix y)).2 v7==(↑pix.length:Int))=false->((0:Int)<=(↑v7:Int)/\(↑v7:Int)<(↑(qa6 (qc8 M pix y)).1.length:Int))/\((0:Int)<=(↑pix.length:Int)/\(↑pix.length:Int)<(↑(nL (qa6 (qc8 M pix y)).1 v7).length:Int))/\((0:Int)<=(↑v7:Int)/\(↑v7:Int)<(↑(qa6 (qc8 M pix y)).1.length:Int))/\((0:Int)<=nI (qa6 (qc8 M pix y)).2 v7/\nI (qa6 (qc8 M pix y)).2 v7<(↑(nL (qa6 (qc8 M pix y)).1 v7).length:Int))/\(((-4000000000000000000:Int)<=nI (nL (qa6 (qc8 M pix y)).1 v7) (↑pix.length:Int).toNat/\nI (nL (qa6 (qc8 M pix y)).1 v7) (↑pix.length:Int).toNat<=BIG)/\((-4000000000000000000:Int)<=nI (nL (qa6 (qc8 M pix y)).1 v7) (nI (qa6 (qc8 M pix y)).2 v7).toNat/\nI (nL (qa6 (qc8 M pix y)).1 v7) (nI (qa6 (qc8 M pix y)).2 v7).toNat<=BIG)/\nI (nL (qa6 (qc8 M pix y)).1 v7) (nI (qa6 (qc8 M pix y)).2 v7).toNat≠(0:Ty.den qf6))/\((0:Int)<=nI (qa6 (qc8 M pix y)).2 v7/\nI (qa6 (qc8 M pix y)).2 v7<(↑(qv5 pix.length (svD M pix y) (svP M pix y) v7).length:Int))/\(nI (qa6 (qc8 M pix y)).2 v7).toNat<(qv5 pix.length (svD M pix y) (svP M pix y) v7).length/\fits .i64 ((↑v7:Int)+(1:Int))/\∃(v11:Nat),(v11<=(svP M pix y).length/\∀(v12:Nat),Nat.le (Nat.succ v12) v11->nI (svP M pix y) v12=(↑pix.length:Int)->False)/\(svP M pix y).length-v11<(svP M pix y).length-v7/\(True/\(↑v7:Int)+(1:Int)=(↑v11:Int)/\True)/\List.set (qv5 pix.length (svD M pix y) (svP M pix y) v7) (nI (qa6 (qc8 M pix y)).2 v7).toNat ((w3a (nI (nL (qa6 (qc8 M pix y)).1 v7) (↑pix.length:Int).toNat) (nI (nL (qa6 (qc8 M pix y)).1 v7) (nI (qa6 (qc8 M pix y)).2 v7).toNat)).1,(w3a (nI (nL (qa6 (qc8 M pix y)).1 v7) (↑pix.length:Int).toNat) (nI (nL (qa6 (qc8 M pix y)).1 v7) (nI (qa6 (qc8 M pix y)).2 v7).toNat)).2)=qv5 pix.length (svD M pix y) (svP M pix y) v11/\True))/\(decide ((↑v7:Int)<(↑(qa6 (qc8 M pix y)).2.length:Int))=false->fits .i64 ((↑pix.length:Int)-(↑(qa6 (qc8 M pix y)).2.length:Int))/\qv5 pix.length (svD M pix y) (svP M pix y) v7=(svR M pix y).1/\(↑pix.length:Int)-(↑(qa6 (qc8 M pix y)).2.length:Int)=(svR M pix y).2.1/\true=(svR M pix y).2.2/\True))) (by kernel_rfl) ?_
    try simp only[z0,z1,z2,z3,z4,z5,z6,z7,z8,z9,z10,Int.reduceEq,z11,z12,z13,z14,z15,z16,z17,z18,z19,z20,z21,z22,z23,z24,z25,z26,z27,z28,z29,z30,Int.reduceLE,Int.reduceLT,z31,z32,z33,z34,qa1]
    try simp only[qb4,qb5,qd0,z31,z32,z2,z1]
    have hz:∀k,(ovr wp6 (λ_=>(0,1)) (List.replicate pix.length (0,0)) k).length=pix.length:=λk=>by rw[qp2]; simp
    have hol:∀k,(qv5 pix.length (svD M pix y) (svP M pix y) k).length=pix.length:=qy3 _ _ _
    have har:=hp.ar
    have hpl:=hp.pl
    have hcnt:=har.cnt
    have hPl:=har.lenP
    simp only[show(qa6 (qc8 M pix y)).snd=svP M pix y from rfl,show(qa6 (qc8 M pix y)).fst=svD M pix y from rfl,List.length_replicate,hz,hol]
    have hR:svR M pix y=if qs5 (svP M pix y) pix.length=true then([],0,false) else(qv5 pix.length (svD M pix y) (svP M pix y) (svP M pix y).length,(pix.length:Int)-(svP M pix y).length,true):=rfl
    refine⟨hp.rd,by omega,(),0,Nat.zero_le _,⟨rfl,(qr8 wp6 _ _).symm⟩,λi hi=>⟨λhlt=>⟨hlt,hlt,qa5 (by omega) (by omega),i+1,hlt,by omega,by omega,qp3 wp6 (λ_=>(0,1)) _ _⟩,λhge=>?_⟩⟩
    obtain rfl:i=pix.length:=by omega
    refine⟨(),0,⟨Nat.zero_le _,λj hj=>absurd hj (by omega)⟩,⟨rfl,?_⟩,?_⟩
    ·refine(qw6 wp6 (λ_=>(0,1)) _ _ (by simp)).trans ?_
     rw[List.length_replicate,qv5]
     apply List.ext_getElem (by simp)
     intro j h1 h2
     simp
    rintro i ⟨hi,hno⟩
    refine⟨λhlt=>⟨hlt,λhe=>?_,λhe=>?_⟩,λhge=>?_⟩
    ·have:qs5 (svP M pix y) pix.length=true:=by
      unfold qs5
      rw[List.any_eq_true]
      exact⟨nI (svP M pix y) i,by rw[qg1 _ i hlt]; exact List.getElem_mem _,beq_iff_eq.2 he⟩
     rw[hR,if_pos this]
     exact⟨rfl,rfl,rfl⟩
    ·have h1:=har.pv i hlt
     have h2:=har.each i (by omega)
     have h3:=har.nz i hlt
     have h4:=har.bigD i hlt
     have h5:=har.bigN i hlt
     unfold BIG at h4 h5 ⊢
     have h6:nI (svP M pix y) i<pix.length:=Int.lt_iff_le_and_ne.2 ⟨h1.2,he⟩
     have h7:(nI (svP M pix y) i).toNat<pix.length:=by have:=h1.1; omega
     have h8:nI (svP M pix y) i<((nL (svD M pix y) i).length:Int):=by omega
     refine⟨by omega,by omega,by omega,⟨h1.1,h8⟩,⟨h5,h4,h3⟩,⟨h1.1,h6⟩,h7,qa5 (by omega) (by omega),i+1,⟨hlt,λj hj=>?_⟩,by omega,by omega,rfl⟩
     by_cases e:j=i
     ·subst e; exact he
     ·exact hno j (by omega)
    ·obtain rfl:i=(svP M pix y).length:=by omega
     have:qs5 (svP M pix y) pix.length≠true:=by
      intro h
      unfold qs5 at h
      rw[List.any_eq_true] at h
      obtain⟨x,hx,he⟩:=h
      obtain⟨j,hj,rfl⟩:=List.getElem_of_mem hx
      rw[<- qg1 _ j hj] at he
      exact hno j hj (beq_iff_eq.1 he)
     rw[hR,if_neg this]
     exact⟨qa5 (by omega) (by omega),rfl,rfl,rfl⟩
theorem wn1:Meets Tryz.prog 158 sSv:=by
 refine⟨⟨_,_,Tryz.func158,rfl,rfl⟩,λw m args vs k hm hargs hrun=>?_⟩
 obtain⟨⟨M,pix,y,⟨⟩⟩,⟨hp,hk⟩,hx⟩:=qu9 hrun hargs
 have hp:x0s M pix y:=hp
 obtain⟨u1,us,rfl,h1,u2,us2,rfl,h2,u3,us3,rfl,h3,h4⟩:=hx
 obtain rfl:us3=[]:=h4
 obtain⟨A,c,e,hSI⟩:=xo6 hm (show Rd m (.list (.int .i64)) y [u3] from h3)
 rw[hp.yl] at e
 subst e
 exact wu5 hm hp h1 h2 h3 hk
def svT (m:List (List Int)) (pix y:List Int):List (Int × Int) × Int:=if(svR m pix y).2.2=false then([],8) else if 0<(svR m pix y).2.1 then([],11) else((svR m pix y).1,0)
def w36 (m:List (List Int)) (pix y:List Int):List (Int × Int) × Int:=if qq0 m y pix=0 then svT m pix y else([],qq0 m y pix)
structure w7r (m:List (List Int)) (pix y:List Int):Prop where
 fit:q0l m
 len:pix.length<=100000
 ok:qq0 m y pix=0->x0s m pix y
abbrev x8t:qc9:=qg4 true (some 60) [qi8,qd4,qd4] [xo7,qf6] (λx=>w7r x.1 x.2.1 x.2.2.1) (λx=>((w36 x.1 x.2.1 x.2.2.1).1,(w36 x.1 x.2.1 x.2.2.1).2,()))
theorem w7s:Meets Tryz.prog 96 x8t:=by
 refine meets (snd (SpecsOk.cons q51 (SpecsOk.cons wl2 (SpecsOk.cons w2x (SpecsOk.cons wn1 (SpecsOk.nil _)))))) Tryz.func96 rfl rfl (λ_ _=>none) (λ_=>by kernel_rfl) (by decide) ?_
 rintro⟨m,pix,y,⟨⟩⟩ h
 revert m pix y
 intro(m:List (List Int)) (pix:List Int) (y:List Int) (h:w7r m pix y)
 refine @qd9 _ (let Q0:=w36 m pix y; let Q1:=svR m pix y; q0l m/\((!qe2 m)=true->Q0.1=[]/\(1:Int)=Q0.2/\True)/\((!qe2 m)=false->(((↑y.length:Int) != (↑m.length:Int))=true->Q0.1=[]/\(9:Int)=Q0.2/\True)/\(((↑y.length:Int) != (↑m.length:Int))=false->m.length<=(1000000:Nat)/\((wp7 m y != (0:Int))=true->Q0.1=[]/\wp7 m y=Q0.2/\True)/\((wp7 m y != (0:Int))=false->(((0:Nat)<m.length/\(nL m (0:Nat)).length<=(1000000:Nat))/\pix.length<=(1000000:Nat))/\((q5d (↑(nL m (0:Nat)).length:Int) pix != (0:Int))=true->Q0.1=[]/\q5d (↑(nL m (0:Nat)).length:Int) pix=Q0.2/\True)/\((q5d (↑(nL m (0:Nat)).length:Int) pix != (0:Int))=false->x0s m pix y/\((!Q1.2.2)=true->Q0.1=[]/\(8:Int)=Q0.2/\True)/\((!Q1.2.2)=false->(decide ((0:Int)<Q1.2.1)=true->Q0.1=[]/\(11:Int)=Q0.2/\True)/\(decide ((0:Int)<Q1.2.1)=false->Q1.1=Q0.1/\(0:Int)=Q0.2/\True))))))) (by kernel_rfl) ?_
 try simp only[z0,z1,z2,z3,z4,z5,z6,z7,z8,z9,z10,Int.reduceEq,z11,z12,z13,z14,z15,z16,z17,z18,z19,z20,z21,z22,z23,z24,z25,z26,z27,z28,z29,z30,Int.reduceLE,Int.reduceLT,z31,z32,z33,z34,qa1]
 try simp only[qb4,qb5,qd0,z31,z32,z2,z1]
 have hC:qq0 m y pix=if qe2 m=false then 1 else if ¬y.length=m.length then 9 else if wf9 y then 7 else w0v m pix:=rfl
 have hD:wp7 m y=if ¬y.length=m.length then 9 else if wf9 y then 7 else 0:=rfl
 have hN:w0v m pix=if qe2 m=false then 1 else q5d (nL m 0).length pix:=rfl
 have hS:w36 m pix y=if qq0 m y pix=0 then svT m pix y else([],qq0 m y pix):=rfl
 refine⟨h.fit,λhv=>?_,λhv=>⟨λhl=>?_,λhl=>?_⟩⟩
 ·have e:qq0 m y pix=1:=by rw[hC,if_pos hv]
  rw[hS,e]; exact⟨rfl,rfl⟩
 ·have e:qq0 m y pix=9:=by rw[hC,if_neg (by rw[hv]; decide),if_pos (by omega)]
  rw[hS,e]; exact⟨rfl,rfl⟩
 have hl:y.length=m.length:=by omega
 have hM:=Mk.of hv
 have hm6:=hM.rows6
 have hm1:=hM.rows1
 have hn10:=hM.pix10
 have hlen:=h.len
 refine⟨by omega,λhr=>?_,λhr=>⟨⟨⟨by omega,by omega⟩,by omega⟩,λhn=>?_,λhn=>?_⟩⟩
 ·have ho:wf9 y=true:=by
   cases e:wf9 y with
   | true=>rfl
   | false=>rw[hD,if_neg (λq=>q hl),e] at hr; exact absurd rfl hr
  have e:qq0 m y pix=7:=by rw[hC,if_neg (by rw[hv]; decide),if_neg (λq=>q hl),if_pos ho]
  have e2:wp7 m y=7:=by rw[hD,if_neg (λq=>q hl),if_pos ho]
  rw[hS,e,e2]; exact⟨rfl,rfl⟩
 all_goals
  have ho:wf9 y=false:=by
   cases e:wf9 y with
   | false=>rfl
   | true=>rw[hD,if_neg (λq=>q hl),if_pos e] at hr; cases hr
  have e:qq0 m y pix=q5d (nL m 0).length pix:=by rw[hC,if_neg (by rw[hv]; decide),if_neg (λq=>q hl),if_neg (by rw[ho]; decide),hN,if_neg (by rw[hv]; decide)]
 ·rw[hS,if_neg (by rw[e]; exact hn),e]; exact⟨rfl,rfl⟩
 ·have hz:qq0 m y pix=0:=by rw[e]; exact hn
  rw[hS,if_pos hz]
  have hT:svT m pix y=if(svR m pix y).2.2=false then([],8) else if 0<(svR m pix y).2.1 then([],11) else((svR m pix y).1,0):=rfl
  refine⟨h.ok hz,λh1=>by rw[hT,if_pos h1]; exact⟨rfl,rfl⟩,λh1=>⟨λh2=>by rw[hT,if_neg (by rw[h1]; decide),if_pos h2]; exact⟨rfl,rfl⟩,λh2=>by rw[hT,if_neg (by rw[h1]; decide),if_neg (by omega)]; exact⟨rfl,rfl⟩⟩⟩
def x0t (l:List (Int × Int)):Bool:=l.any λr=>r.1==0
def x6j (s:List (Int × Int) × Int) (pix:List Int):Fit × Bool:=if s.2≠0\/x0t s.1=true then(([],[]),false) else((pix,s.1),true)
def x1o (m:List (List Int)) (y pix:List Int):Fit × Bool:=x6j (w36 m pix y) pix
theorem wd9 {m:List (List Int)} {y:List Int} {pix:List Int} (h:q1d m y=0):qq0 m y pix=q5d (nL m 0).length pix/\qe2 m=true:=by
 have hC:qq0 m y pix=if qe2 m=false then 1 else if ¬y.length=m.length then 9 else if wf9 y then 7 else w0v m pix:=rfl
 have hN:w0v m pix=if qe2 m=false then 1 else q5d (nL m 0).length pix:=rfl
 unfold q1d at h
 split at h
 ·cases h
 ·rename_i hv
  unfold wp7 at h
  split at h
  ·cases h
  ·rename_i hl
   split at h
   ·cases h
   ·rename_i ho
    exact⟨by rw[hC,if_neg hv,if_neg hl,if_neg ho,hN,if_neg hv],by simpa using hv⟩
theorem w7t {m:List (List Int)} {y:List Int} {pix:List Int} (h:q1d m y≠0):qq0 m y pix=q1d m y:=by
 have hC:qq0 m y pix=if qe2 m=false then 1 else if ¬y.length=m.length then 9 else if wf9 y then 7 else w0v m pix:=rfl
 unfold q1d wp7 at *
 split at h
 ·rename_i hv; rw[hC,if_pos hv,if_pos hv]
 ·rename_i hv
  split at h
  ·rename_i hl; rw[hC,if_neg hv,if_pos hl,if_neg hv,if_pos hl]
  ·rename_i hl
   split at h
   ·rename_i ho; rw[hC,if_neg hv,if_neg hl,if_pos ho,if_neg hv,if_neg hl,if_pos ho]
   ·exact absurd rfl h
def q55 (m:List (List Int)) (y:List Int) (s:List (List Int)):List Fit:=s.filterMap λpix=>if(x1o m y pix).2=true then some (x1o m y pix).1 else none
def xq7 (m:List (List Int)) (y:List Int):List Fit:=q55 m y (w3e (nL m 0).length)
structure w7u (m:List (List Int)) (y:List Int):Prop where
 one:0<m.length
 pix:(nL m 0).length<=7
 each:∀s∈w3e (nL m 0).length,w7r m s y
theorem wn3 (m:List (List Int)) (y:List Int) (s:List (List Int)):(q55 m y s).length<=s.length:=List.length_filterMap_le _ s
def w7v (k:Int) (L:List Fit):List Fit:=L.filter λf=>decide ((f.1.length:Int)<=k)
theorem xf6 {m:List (List Int)} {y:List Int} (h:w7u m y):(xq7 m y).length<=128:=by
 have h1:=wn3 m y (w3e (nL m 0).length)
 have h2:=(wm5 (n:=(nL m 0).length) (k:=128) h.pix (Nat.le_refl _)).1
 have e:w3e (nL m 0).length=qt4 (nL m 0).length 128:=rfl
 rw[e] at h1
 unfold xq7
 rw[e]
 omega
def dt (W:Nat) (r:List Int) (z:Nat->Int):Int:=sm W λc=>nI r c*z c
theorem w04 {W:Nat} {r' r p:List Int} {z:Nat->Int} {α β γ:Int} (h:∀c,c<W->α*nI r' c=β*nI r c-γ*nI p c):α*dt W r' z=β*dt W r z-γ*dt W p z:=by
 unfold dt
 rw[<- qi2,<- qi2,<- qi2,<- xj2]
 refine qc7 λc hc=>?_
 have:=h c hc
 rw[<- Int.mul_assoc,this,Int.sub_mul,Int.mul_assoc,Int.mul_assoc]
theorem qk2 (P:List Int) (x:Int) {q:Nat} (h:q<P.length):nI (P++[x]) q=nI P q:=by
 rw[qg1 _ q (by rw[List.length_append]; omega),qg1 _ q h,List.getElem_append_left h]
theorem ql5 (P:List Int) (x:Int):nI (P++[x]) P.length=x:=by
 rw[qg1 _ _ (by rw[List.length_append]; exact Nat.lt_succ_self _),List.getElem_append_right (Nat.le_refl _)]
 simp
theorem q5f {a x:Int} (ha:0<a) (h:0<a*x):0<x:=Int.lt_of_mul_lt_mul_left (a:=a) (by rw[Int.mul_zero]; exact h) (by omega)
structure Elm (W j:Nat) (r' r p:List Int):Prop where
 zero:nI r' j=0
 rel:∃α β γ:Int,0<α/\0<β/\∀c,c<W->α*nI r' c=β*nI r c-γ*nI p c
 nice:∀f,xt7 W f (nI r)->xt7 W f (nI r')
structure St (n W:Nat) (R:Nat->Nat->Int) (j:Nat) (rows:List (List Int)) (P:List Int):Prop where
 len:rows.length=n
 each:∀i,i<n->(nL rows i).length=W
 tag:∃(ρ:Nat->Nat->Int) (pv:Nat->Option Nat) (τ:Nat->Nat),El n W R ρ pv/\(∀i,i<n->τ i<n)/\(∀i k,i<n->k<n->τ i=τ k->i=k)/\(∀a,a<n->∃i,i<n/\τ i=a)/\(∀i,i<n->∀c,c<W->ρ (τ i) c=nI (nL rows i) c)/\(∀q,q<n->pv (τ q)=if q<P.length then some (nI P q).toNat else none)/\∀i,i<n->xt7 W (R (τ i)) (nI (nL rows i))
 sol:∀z:Nat->Int,(∀a,a<n->(sm W λc=>R a c*z c)=0)↔∀i,i<n->dt W (nL rows i) z=0
 pl:P.length<=n
 zero:∀i,P.length<=i->i<n->∀c,c<j->nI (nL rows i) c=0
 pos:∀q,q<P.length->0<=nI P q/\nI P q<j/\0<nI (nL rows q) (nI P q).toNat/\(∀c,c<(nI P q).toNat->nI (nL rows q) c=0)/\∀i,i<n->i≠q->nI (nL rows i) (nI P q).toNat=0
 asc:∀q k,q<k->k<P.length->nI P q<nI P k
theorem St.skip {n W:Nat} {R:Nat->Nat->Int} {j:Nat} {rows:List (List Int)} {P:List Int} (h:St n W R j rows P) (hz:∀i,P.length<=i->i<n->nI (nL rows i) j=0):St n W R (j+1) rows P:=by
 refine⟨h.len,h.each,h.tag,h.sol,h.pl,λi h1 h2 c hc=>?_,λq hq=>?_,h.asc⟩
 ·rcases Nat.lt_succ_iff_lt_or_eq.1 hc with e | e
  ·exact h.zero i h1 h2 c e
  ·rw[e]; exact hz i h1 h2
 ·obtain⟨q1,q2,q3,q4,q5⟩:=h.pos q hq
  exact⟨q1,by omega,q3,q4,q5⟩
theorem St.step {n W:Nat} {R:Nat->Nat->Int} {j:Nat} {rows rows':List (List Int)} {P:List Int} (h:St n W R j rows P) (hj:j<W) (hk:P.length<n) (hlen:rows'.length=n) (heach:∀i,i<n->(nL rows' i).length=W)
  (π:Nat->Nat) (hπ:∀i,i<n->π i<n) (hinj:∀i k,i<n->k<n->π i=π k->i=k) (hsur:∀i,i<n->∃k,k<n/\π k=i) (hfix:∀i,i<P.length->π i=i)
  (hx:∃s:Int,(s=1\/s=-1)/\∀c,c<W->nI (nL rows' P.length) c=s*nI (nL rows (π P.length)) c) (hpos:0<nI (nL rows' P.length) j)
  (ho:∀i,i<n->i≠P.length->Elm W j (nL rows' i) (nL rows (π i)) (nL rows' P.length)):St n W R (j+1) rows' (P++[(j:Int)]):=by
 obtain⟨s,hs,hsx⟩:=hx
 have hs0:s≠0:=by rcases hs with rfl | rfl <;> decide
 have hge:∀i,P.length<=i->i<n->P.length<=π i:=λi h1 h2=>by
  rcases Nat.lt_or_ge (π i) P.length with e | e
  ·have:=hinj (π i) i (hπ i h2) h2 (hfix _ e)
   omega
  ·exact e
 have hnx:nI (nL rows (π P.length)) j≠0:=λe=>by
  have:=hsx j hj
  rw[e,Int.mul_zero] at this
  omega
 have hpk:∀c,c<j->nI (nL rows' P.length) c=0:=λc hc=>by
  rw[hsx c (by omega),h.zero _ (hge _ (Nat.le_refl _) hk) (hπ _ hk) c hc,Int.mul_zero]
 have hpz:∀q,q<P.length->nI (nL rows' P.length) (nI P q).toNat=0:=λq hq=>by
  have:=h.pos q hq
  exact hpk _ (by omega)
 obtain⟨ρ,pv,τ,hE,t1,t2,t3,t4,t5,t6⟩:=h.tag
 have hsur2:∀a,∃i,a<n->i<n/\τ (π i)=a:=λa=>by
  by_cases ha:a<n
  ·obtain⟨i,hi,e⟩:=t3 a ha
   obtain⟨k,hk,e2⟩:=hsur i hi
   exact⟨k,λ_=>⟨hk,by rw[e2,e]⟩⟩
  ·exact⟨0,λq=>absurd q ha⟩
 obtain⟨σ,hσ⟩:=Classical.axiomOfChoice hsur2
 have hστ:∀i,i<n->σ (τ (π i))=i:=λi hi=>by
  obtain⟨q1,q2⟩:=hσ (τ (π i)) (t1 _ (hπ i hi))
  exact hinj _ _ q1 hi (t2 _ _ (hπ _ q1) (hπ _ hi) q2)
 refine⟨hlen,heach,⟨λa c=>nI (nL rows' (σ a)) c,λb=>if b=τ (π P.length) then some j else pv b,λi=>τ (π i),?_,λi hi=>t1 _ (hπ i hi),λi k hi hk e=>hinj _ _ hi hk (t2 _ _ (hπ i hi) (hπ k hk) e),λa ha=>⟨σ a,hσ a ha⟩,λi hi c hc=>by dsimp only; rw[hστ i hi],λq hq=>?_,λi hi=>?_⟩,λz=>?_,by rw[List.length_append]; exact hk,λi h1 h2 c hc=>?_,λq hq=>?_,λq k h1 h2=>?_⟩
 ·refine hE.step (t1 _ (hπ _ hk)) ?_ hj ?_ ⟨s,hs0,λc hc=>?_⟩ λa ha hne=>?_
  ·rw[t5 _ (hπ _ hk),if_neg (Nat.not_lt.2 (hge _ (Nat.le_refl _) hk))]
  ·rw[t4 _ (hπ _ hk) j hj]; exact hnx
  ·try dsimp only
   rw[hστ _ hk,hsx c hc,t4 _ (hπ _ hk) c hc]
  ·obtain⟨q1,q2⟩:=hσ a ha
   have hne2:σ a≠P.length:=λe=>hne (by rw[<- q2,e])
   have hel:=ho _ q1 hne2
   refine⟨hel.zero,?_⟩
   obtain⟨α,β,γ,hα,hβ,hr⟩:=hel.rel
   refine⟨α,β,γ,by omega,by omega,λc hc=>?_⟩
   try dsimp only
   rw[hστ _ hk,hr c hc]
   have:=t4 _ (hπ _ q1) c hc
   rw[q2] at this
   rw[this]
 ·dsimp only
  by_cases e:q=P.length
  ·subst e
   rw[if_pos rfl,if_pos (by rw[List.length_append]; exact Nat.lt_succ_self _),ql5]
   rfl
  ·rw[if_neg λq2=>e (hinj _ _ hq hk (t2 _ _ (hπ _ hq) (hπ _ hk) q2)),t5 _ (hπ _ hq),List.length_append]
   rcases Nat.lt_or_ge q P.length with e2 | e2
   ·rw[hfix _ e2,if_pos e2,if_pos (by omega),qk2 _ _ e2]
   ·rw[if_neg (Nat.not_lt.2 (hge _ e2 hq)),if_neg (by simp; omega)]
 ·dsimp only
  by_cases e:i=P.length
  ·subst e
   rcases t6 _ (hπ _ hi) with⟨u,hu,hr⟩ | hr | hr
   ·refine .inl ⟨s*u,?_,λc hc=>by rw[hsx c hc,hr c hc,Int.mul_assoc]⟩
    rcases hs with rfl | rfl <;> rcases hu with rfl | rfl <;> simp
   ·exact .inr (.inl λc hc=>by rw[hsx c hc,hr c hc,Int.mul_zero])
   ·refine .inr (.inr λd hd=>hr d λc hc=>?_)
    have:=hd c hc
    rw[hsx c hc,Int.natAbs_mul] at this
    have h1:s.natAbs=1:=by rcases hs with rfl | rfl <;> rfl
    rwa [h1,Nat.one_mul] at this
  ·exact(ho i hi e).nice _ (t6 _ (hπ _ hi))
 ·rw[h.sol z]
  have hdk:dt W (nL rows' P.length) z=s*dt W (nL rows (π P.length)) z:=by
   have:=w04 (W:=W) (r':=nL rows' P.length) (r:=nL rows (π P.length)) (p:=[]) (z:=z) (α:=1) (β:=s) (γ:=0) λc hc=>by rw[hsx c hc]; simp
   simpa using this
  constructor
  ·intro hz i hi
   have hzk:dt W (nL rows' P.length) z=0:=by rw[hdk,hz _ (hπ _ hk),Int.mul_zero]
   by_cases e:i=P.length
   ·rw[e]; exact hzk
   ·obtain⟨α,β,γ,hα,hβ,hr⟩:=(ho i hi e).rel
    have:=w04 (z:=z) hr
    rw[hzk,hz _ (hπ _ hi),Int.mul_zero,Int.mul_zero] at this
    exact qd3 (by omega) (show α≠0 by omega)
  ·intro hz i' hi'
   obtain⟨i,hi,rfl⟩:=hsur i' hi'
   by_cases e:i=P.length
   ·have:=hz _ hk
    rw[hdk] at this
    rw[e]
    exact qd3 this hs0
   ·obtain⟨α,β,γ,hα,hβ,hr⟩:=(ho i hi e).rel
    have:=w04 (z:=z) hr
    rw[hz _ hk,hz _ hi,Int.mul_zero,Int.mul_zero] at this
    exact qd3 (a:=β) (by omega) (by omega)
 ·rw[List.length_append] at h1
  have h1:P.length+1<=i:=h1
  have hel:=ho i h2 (by omega)
  rcases Nat.lt_succ_iff_lt_or_eq.1 hc with e | e
  ·obtain⟨α,β,γ,hα,hβ,hr⟩:=hel.rel
   have:=hr c (by omega)
   rw[hpk c e,h.zero _ (hge _ (by omega) h2) (hπ _ h2) c e] at this
   exact qd3 (a:=α) (by simpa using this) (by omega)
  ·rw[e]; exact hel.zero
 ·rw[List.length_append] at hq
  have hq:q<P.length+1:=hq
  rcases Nat.lt_succ_iff_lt_or_eq.1 hq with e | e
  ·rw[qk2 _ _ e]
   obtain⟨q1,q2,q3,q4,q5⟩:=h.pos q e
   have hel:=ho q (by omega) (by omega)
   obtain⟨α,β,γ,hα,hβ,hr⟩:=hel.rel
   refine⟨q1,by omega,q5f hα ?_,λc hc=>?_,λi hi hne=>?_⟩
   ·rw[hr _ (by omega),hpz q e,hfix _ e,Int.mul_zero,Int.sub_zero]
    exact Int.mul_pos hβ q3
   ·have:=hr c (by omega)
    rw[hpk c (by omega),hfix _ e,q4 c hc] at this
    exact qd3 (a:=α) (by simpa using this) (by omega)
   ·by_cases e3:i=P.length
    ·rw[e3]; exact hpz q e
    ·obtain⟨α,β,γ,hα,hβ,hr⟩:=(ho i hi e3).rel
     have:=hr (nI P q).toNat (by omega)
     rw[hpz q e,q5 (π i) (hπ _ hi) λe4=>hne (hinj _ _ hi (by omega) (by rw[e4,hfix _ e]))] at this
     exact qd3 (a:=α) (by simpa using this) (by omega)
  ·subst e
   rw[ql5]
   refine⟨by omega,by omega,hpos,λc hc=>hpk c hc,λi hi hne=>(ho i hi hne).zero⟩
 ·rw[List.length_append] at h2
  have h2:k<P.length+1:=h2
  rcases Nat.lt_succ_iff_lt_or_eq.1 h2 with e | e
  ·rw[qk2 _ _ e,qk2 _ _ (by omega)]; exact h.asc q k h1 e
  ·subst e
   rw[ql5,qk2 _ _ h1]
   have:=h.pos q h1
   omega
theorem St.bound {n W:Nat} {R:Nat->Nat->Int} {j:Nat} {rows:List (List Int)} {P:List Int} (h:St n W R j rows P) (hone:∀a c,a<n->c<j->(R a c).natAbs<=1) {i c B:Nat} (hi:i<n) (hc:c<W) (hB:∀b,b<n->(R b c).natAbs<=B):(nI (nL rows i) c).natAbs<=n ^ n*B:=by
 obtain⟨ρ,pv,τ,hE,t1,t2,t3,t4,t5,t6⟩:=h.tag
 rw[<- t4 i hi c hc]
 refine hE.bound (λt p ht hp b hb=>?_) (t1 i hi) ?_ hc hB
 ·obtain⟨q,hq,rfl⟩:=t3 t ht
  rw[t5 q hq] at hp
  split at hp
  ·rename_i hqP
   obtain rfl:=Option.some.inj hp
   have:=h.pos q hqP
   exact hone b _ hb (by omega)
  ·cases hp
 ·rcases t6 i hi with⟨s,hs,hr⟩ | hr | hr
  ·exact .inl ⟨s,hs,λc hc=>by rw[t4 i hi c hc]; exact hr c hc⟩
  ·exact .inr (.inl λc hc=>by rw[t4 i hi c hc]; exact hr c hc)
  ·exact .inr (.inr λd hd=>hr d λc hc=>by rw[<- t4 i hi c hc]; exact hd c hc)
theorem q4y (l:List Int) {c:Nat} (h:l.length<=c):nI l c=0:=by
 unfold nI qe8
 simp[List.getElem?_eq_none h]
 rfl
theorem q36 {l:List Int} {f:Int->Int} {c:Nat} (h:c<l.length):nI (l.map f) c=f (nI l c):=by
 rw[qg1 _ _ (by simpa using h),qg1 _ _ h,List.getElem_map]
theorem q7v {l:List Int} {c:Nat} (h:c<l.length):nI l c∈l:=by rw[qg1 _ _ h]; exact List.getElem_mem h
theorem q5g {l:List Int} {x:Int} (h:x∈l):∃c,c<l.length/\x=nI l c:=by
 obtain⟨c,hc,rfl⟩:=List.mem_iff_getElem.1 h
 exact⟨c,hc,(qg1 l c hc).symm⟩
theorem wn4 (a b:Int):(qe1 a b).natAbs=Nat.gcd a.natAbs b.natAbs:=rfl
theorem x1p:∀(l:List Int) (a:Int),(l.foldl qe1 a).natAbs∣a.natAbs/\(∀x∈l,(l.foldl qe1 a).natAbs∣x.natAbs)/\∀d:Nat,d∣a.natAbs->(∀x∈l,d∣x.natAbs)->d∣(l.foldl qe1 a).natAbs
 | [],a=>⟨Nat.dvd_refl _,λx hx=>(by cases hx),λd h _=>h⟩
 | y :: l,a=>by
  obtain⟨h1,h2,h3⟩:=x1p l (qe1 a y)
  rw[List.foldl_cons]
  rw[wn4] at h1 h3
  refine⟨Nat.dvd_trans h1 (Nat.gcd_dvd_left _ _),λx hx=>?_,λd ha hx=>h3 d (Nat.dvd_gcd ha (hx y (by simp))) λx hx'=>hx x (by simp[hx'])⟩
  rcases List.mem_cons.1 hx with rfl | hx
  ·exact Nat.dvd_trans h1 (Nat.gcd_dvd_right _ _)
  ·exact h2 x hx
theorem q7w:∀(l:List Int) (a:Int),0<=a->0<=l.foldl qe1 a
 | [],a,h=>h
 | y :: l,a,_=>q7w l _ (q7c _ _)
theorem q27 (l:List Int):0<=gcdL l:=q7w l 0 (by decide)
theorem q5h (l:List Int):qf0 l=qk7 l:=by
 have h0:=q27 l
 unfold qf0 qk7
 split
 ·rename_i h
  rw[show max (gcdL l) 1=gcdL l by omega]
 ·rename_i h
  rw[show max (gcdL l) 1=1 by omega]
  simp
theorem qy4 (l:List Int) {c:Nat} (hc:c<l.length):max (gcdL l) 1*nI (qk7 l) c=nI l c:=by
 have h0:=q27 l
 unfold qk7
 rw[q36 hc]
 apply Int.mul_tdiv_cancel'
 rcases Int.lt_or_le 0 (gcdL l) with h | h
 ·rw[show max (gcdL l) 1=gcdL l by omega]
  exact Int.natAbs_dvd_natAbs.1 ((x1p l 0).2.1 _ (q7v hc))
 ·rw[show max (gcdL l) 1=1 by omega]
  exact Int.one_dvd _
def Prim (l:List Int):Prop:=(∀c,c<l.length->nI l c=0)\/∀d:Nat,(∀c,c<l.length->d∣(nI l c).natAbs)->d=1
theorem qr1 (l:List Int):Prim (qk7 l):=by
 have h0:=q27 l
 unfold Prim
 rw[qs4]
 rcases Int.lt_or_le 0 (gcdL l) with h | h
 ·refine .inr λd hd=>?_
  have hm:max (gcdL l) 1=gcdL l:=by omega
  have h1:(gcdL l).natAbs*d∣(gcdL l).natAbs:=(x1p l 0).2.2 _ (Nat.dvd_zero _) λx hx=>by
   obtain⟨c,hc,rfl⟩:=q5g hx
   rw[<- qy4 l hc,hm,Int.natAbs_mul]
   exact Nat.mul_dvd_mul_left _ (hd c hc)
  have h2:(gcdL l).natAbs*d∣(gcdL l).natAbs*1:=by rw[Nat.mul_one]; exact h1
  exact Nat.dvd_one.1 (Nat.dvd_of_mul_dvd_mul_left (by omega) h2)
 ·refine .inl λc hc=>?_
  have h1:nI l c=0:=by
   have:=(x1p l 0).2.1 _ (q7v hc)
   have e:(l.foldl qe1 0).natAbs=0:=by
    have:gcdL l=0:=by omega
    unfold gcdL at this; rw[this]; rfl
   rw[e] at this
   have:=Nat.eq_zero_of_zero_dvd this
   omega
  have:=qy4 l hc
  rw[h1,show max (gcdL l) 1=1 by omega,Int.one_mul] at this
  exact this
theorem Prim.nice {l:List Int} {W:Nat} (h:Prim l) (hl:l.length=W) (f:Nat->Int):xt7 W f (nI l):=by
 subst hl
 exact .inr (h.imp id id)
theorem xf7 (l:List Int) (c:Nat):(nI (qk7 l) c).natAbs<=(nI l c).natAbs:=by
 rcases Nat.lt_or_ge c l.length with h | h
 ·unfold qk7
  rw[q36 h,Int.natAbs_tdiv]; exact Nat.div_le_self _ _
 ·rw[q4y _ (by rw[qs4]; exact h)]; simp
theorem xk4 {W j:Nat} {u r p:List Int} {β γ:Int} (hj:j<W) (hu:u.length=W) (h0:nI u j=0) (hβ:0<β) (h:∀c,c<W->nI u c=β*nI r c-γ*nI p c):Elm W j (qk7 u) r p:=by
 subst hu
 have hG:0<max (gcdL u) 1:=by omega
 refine⟨?_,⟨max (gcdL u) 1,β,γ,hG,hβ,λc hc=>by rw[qy4 u hc]; exact h c hc⟩,λf _=>(qr1 u).nice (qs4 u) f⟩
 have:=qy4 u hj
 rw[h0] at this
 exact qd3 this (by omega)
theorem xf8 {W j:Nat} {r p:List Int} (h0:nI r j=0):Elm W j r r p:=⟨h0,⟨1,1,0,by decide,by decide,λc _=>by simp⟩,λ_ h=>h⟩
theorem wn5 (r b:List Int) (j:Nat) {c:Nat} (hc:c<r.length):nI (q5c r b j) c=xp3 r b j c:=by
 rw[qg1 _ _ (by rw[q18]; exact hc)]
 simp[q5c]
theorem w7w {W j:Nat} {r p:List Int} (hj:j<W) (hr:r.length=W) (hp:0<nI p j):Elm W j (qx8 r p j) r p:=by
 have hg:0<qe1 (nI r j) (nI p j):=ql9 (.inr (by omega))
 have e1:qe1 (nI r j) (nI p j)*q1 r p j=nI p j:=Int.mul_tdiv_cancel' (Int.natAbs_dvd_natAbs.1 (Nat.gcd_dvd_right _ _))
 have e2:qe1 (nI r j) (nI p j)*q2 r p j=nI r j:=Int.mul_tdiv_cancel' (Int.natAbs_dvd_natAbs.1 (Nat.gcd_dvd_left _ _))
 unfold qx8
 rw[q5h]
 refine xk4 (β:=q1 r p j) (γ:=q2 r p j) hj (by rw[q18]; exact hr) ?_ (q5f hg (by omega)) λc hc=>?_
 ·rw[wn5 r p j (by omega)]
  unfold xp3
  have h3:nI r j*q1 r p j=nI p j*q2 r p j:=by
   generalize qe1 (nI r j) (nI p j)=g at e1 e2
   rw[<- e1,<- e2]
   grind
  omega
 ·rw[wn5 r p j (by omega)]
  unfold xp3
  grind
theorem we0 (r p:List Int) (j:Nat) {c:Nat} (hc:c<r.length):nI (q34 r p j) c=nI r c*nI p j-nI p c*nI r j:=by
 rw[qg1 _ _ (by simp[q34]; exact hc)]
 simp[q34]
theorem w7x (r p:List Int) (j:Nat):(q34 r p j).length=r.length:=by simp[q34]
theorem q7x {W j:Nat} {r p:List Int} (hj:j<W) (hr:r.length=W) (hp:0<nI p j):Elm W j (qe7 r p j) r p:=by
 unfold qe7
 refine xk4 (β:=nI p j) (γ:=nI r j) hj (by rw[w7x]; exact hr) ?_ hp λc hc=>?_
 ·rw[we0 r p j (by omega)]; grind
 ·rw[we0 r p j (by omega)]; grind
structure Mat (n W:Nat) (M:List (List Int)):Prop where
 len:M.length=n
 each:∀i,i<n->(nL M i).length=W
def rowOf (M:List (List Int)):Nat->Nat->Int:=λa c=>nI (nL M a) c
theorem wn6 (r:List Int) (c:Nat):nI (xk1 r) c=- nI r c:=by
 rcases Nat.lt_or_ge c r.length with h | h
 ·rw[qg1 _ _ (by rw[wc8]; exact h)]
  simp[xk1]
 ·rw[q4y _ h,q4y _ (by rw[wc8]; exact h)]; rfl
theorem w7y (r:List (List Int)) (k i:Nat):nL (r.drop k) i=nL r (k+i):=by
 unfold nL qe8
 rw[List.getD_eq_getElem?_getD,List.getD_eq_getElem?_getD,List.getElem?_drop]
theorem wn7 {r:List (List Int)} {k j:Nat} (h:qs8 r k j<0):∀i,k<=i->i<r.length->nI (nL r i) j=0:=λi h1 h2=>by
 unfold qs8 ixT at h
 split at h
 ·omega
 ·rename_i hn
  have:=List.any_eq_false.1 (Bool.eq_false_iff.2 hn) (nL r i) (by
   have:=w7y r k (i-k)
   rw[show k+(i-k)=i by omega] at this
   rw[<- this]
   exact qw4 _ _ (by rw[List.length_drop]; omega))
  simpa using this
theorem w05 {r:List (List Int)} {k j:Nat} (h:0<=qs8 r k j):nI (nL r (k+(qs8 r k j).toNat)) j≠0:=by
 unfold qs8 ixT at h ⊢
 split at h
 ·rename_i ha
  rw[if_pos ha]
  have h1:=List.findIdx_getElem (xs:=r.drop k) (p:=λr=>nI r j != 0) (w:=List.findIdx_lt_length.2 (by simpa using ha))
  have h2:(r.drop k).findIdx (λr=>nI r j != 0)<(r.drop k).length:=List.findIdx_lt_length.2 (by simpa using ha)
  rw[<- qm2 _ _ h2,w7y] at h1
  simpa using h1
 ·omega
theorem St.zero_ {n W:Nat} {M:List (List Int)} (h:Mat n W M):St n W (rowOf M) 0 M []:=by
 refine⟨h.len,h.each,⟨rowOf M,λ_=>none,id,El.start λa _=>⟨1,by decide,λj _=>Int.one_mul _⟩,λi hi=>hi,λi k _ _ e=>e,λa ha=>⟨a,ha,rfl⟩,λi _ c _=>rfl,λq _=>by simp,λi _=>.inl ⟨1,.inl rfl,λc _=>(Int.one_mul _).symm⟩⟩,λz=>Iff.rfl,Nat.zero_le _,λi _ _ c hc=>absurd hc (Nat.not_lt_zero _),λq hq=>absurd hq (Nat.not_lt_zero _),λq k _ hk=>absurd hk (Nat.not_lt_zero _)⟩
theorem q9m {n W j:Nat} {R:Nat->Nat->Int} {s:List (List Int) × List Int} (hj:j<W) (h:St n W R j s.1 s.2):St n W R (j+1) (qv2 s j).1 (qv2 s j).2:=by
 obtain⟨r,P⟩:=s
 have h:St n W R j r P:=h
 unfold qv2
 split
 ·rename_i hn
  exact h.skip λi h1 h2=>wn7 hn i h1 (by rw[h.len]; exact h2)
 ·rename_i hn
  have hn:0<=qs8 r P.length j:=Int.not_lt.1 hn
  have hlen:=h.len
  have hpl:=h.pl
  have hb:=q2b r P.length j (by omega) hn
  have hk:P.length<n:=by omega
  have hne:=w05 hn
  show St n W R (j+1) (w9f (qj6 r P.length j) P.length j) (P++[(j:Int)])
  obtain⟨b,hbd⟩:∃b,b=P.length+(qs8 r P.length j).toNat:=⟨_,rfl⟩
  rw[<- hbd] at hb hne
  have hsw:∀i,i<n->nL (q2a r P.length j) i=nL r (if i=P.length then b else if i=b then P.length else i):=λi hi=>by
   unfold q2a
   rw[<- hbd,q3w _ _ _ (by omega) hb i (by omega)]
   by_cases e1:i=b
   ·rw[if_pos e1]
    by_cases e2:i=P.length
    ·rw[if_pos e2,<- e1,e2]
    ·rw[if_neg e2,if_pos e1]
   ·rw[if_neg e1]
    by_cases e2:i=P.length
    ·rw[if_pos e2,if_pos e2]
    ·rw[if_neg e2,if_neg e2,if_neg e1]
  have hpr:∀i,i<n->i≠P.length->nL (qj6 r P.length j) i=nL (q2a r P.length j) i:=λi hi hne=>by
   rw[q3x _ _ _ _ (by omega),if_neg λq=>hne q.1]
  have hpk:∃s:Int,(s=1\/s=-1)/\(∀c,nI (nL (qj6 r P.length j) P.length) c=s*nI (nL r b) c)/\0<nI (nL (qj6 r P.length j) P.length) j:=by
   have e:=hsw P.length hk
   rw[if_pos rfl] at e
   rw[q3x _ _ _ _ (by omega),e]
   by_cases q:nI (nL r b) j<0
   ·rw[if_pos ⟨rfl,q⟩]
    refine⟨-1,.inr rfl,λc=>by rw[wn6]; omega,by rw[wn6]; omega⟩
   ·rw[if_neg λk=>q k.2]
    exact⟨1,.inl rfl,λc=>by omega,by omega⟩
  obtain⟨s,hs,hsx,hpos⟩:=hpk
  have hcl:w9f (qj6 r P.length j) P.length j=w9f (qj6 r P.length j) P.length j:=rfl
  have hat:∀i,i<n->nL (w9f (qj6 r P.length j) P.length j) i=wg1 (qj6 r P.length j) P.length j i:=λi hi=>w6w _ _ _ _ (by rw[qj4]; omega)
  have heach:=q2c (r:=r) (k:=P.length) (j:=j) (W:=W) (by omega) hn λi hi=>h.each i (by omega)
  have hatk:nL (w9f (qj6 r P.length j) P.length j) P.length=nL (qj6 r P.length j) P.length:=by
   rw[hat _ hk]; unfold wg1; rw[if_neg λq=>q.1 rfl]
  refine h.step hj hk (by rw[wd0,qj4]; exact hlen) (λi hi=>?_) (λi=>if i=P.length then b else if i=b then P.length else i) (λi hi=>?_) (λi k hi hk2 e=>?_) (λi hi=>?_) (λi hi=>?_) ⟨s,hs,λc hc=>?_⟩ ?_ λi hi hne2=>?_
  ·rw[hat i hi]; unfold wg1
   split
   ·rw[q89]; exact heach i (by omega)
   ·exact heach i (by omega)
  ·(try dsimp only); split
   ·omega
   ·split <;> omega
  ·try dsimp only at e
   split at e <;> split at e <;> (try split at e) <;> (try split at e) <;> omega
  ·refine⟨if i=P.length then b else if i=b then P.length else i,?_,?_⟩
   ·split
    ·omega
    ·split <;> omega
   ·try dsimp only
    by_cases e1:i=P.length
    ·rw[if_pos e1]
     by_cases e3:b=P.length
     ·rw[if_pos e3]; omega
     ·rw[if_neg e3,if_pos rfl]; omega
    ·rw[if_neg e1]
     by_cases e2:i=b
     ·rw[if_pos e2,if_pos rfl]; omega
     ·rw[if_neg e2,if_neg e1,if_neg e2]
  ·try dsimp only
   rw[if_neg (by omega),if_neg (by omega)]
  ·rw[hatk,if_pos rfl]; exact hsx c
  ·rw[hatk]; exact hpos
  ·rw[hatk,hat i hi]
   try dsimp only
   rw[<- hsw i hi,<- hpr i hi hne2]
   unfold wg1
   by_cases q:nI (nL (qj6 r P.length j) i) j=0
   ·rw[if_neg λk=>k.2 q]
    exact xf8 q
   ·rw[if_pos ⟨hne2,q⟩]
    exact w7w hj (heach i (by omega)) hpos
theorem qn8 {n W:Nat} {M:List (List Int)} (h:Mat n W M):∀j,j<=W->St n W (rowOf M) j (qa4 M j).1 (qa4 M j).2
 | 0,_=>St.zero_ h
 | j+1,hj=>q9m (by omega) (qn8 h j (by omega))
structure Small (n C W:Nat) (M:List (List Int)):Prop extends Mat n W M where
 n6:n<=6
 cw:C<=W
 w:W<=1000
 one:∀a c,a<n->c<C->(nI (nL M a) c).natAbs<=1
 read:∀a c,a<n->c<W->(nI (nL M a) c).natAbs<=1000000
theorem x8u {n:Nat} (h:n<=6):n ^ n<=46656:=by
 have:∀k:Fin 7,k.val ^ k.val<=46656:=by decide
 exact this ⟨n,by omega⟩
theorem St.small {n C W j:Nat} {M rows:List (List Int)} {P:List Int} (hM:Small n C W M) (h:St n W (rowOf M) j rows P) (hj:j<=C) {i:Nat} (hi:i<n):(∀c,c<C->(nI (nL rows i) c).natAbs<=46656)/\∀c,c<W->(nI (nL rows i) c).natAbs<=46656000000:=by
 have h6:=x8u hM.n6
 have hcw:=hM.cw
 refine⟨λc hc=>?_,λc hc=>?_⟩
 ·have:=h.bound (λa c ha hc=>hM.one a c ha (by omega)) hi (show c<W by omega) (B:=1) λb hb=>hM.one b c hb hc
  omega
 ·have:=h.bound (λa c ha hc=>hM.one a c ha (by omega)) hi hc (B:=1000000) λb hb=>hM.read b c hb hc
  omega
theorem q40 {a b:Int} {A B:Nat} (ha:a.natAbs<=A) (hb:b.natAbs<=B):(a*b).natAbs<=A*B:=by
 rw[Int.natAbs_mul]; exact Nat.mul_le_mul ha hb
theorem q56 (a b:Int):(a.tdiv b).natAbs<=a.natAbs:=by rw[Int.natAbs_tdiv]; exact Nat.div_le_self _ _
structure Sml (n C W K B:Nat) (M:List (List Int)):Prop extends Mat n W M where
 n6:n<=6
 cw:C<=W
 w:W<=1000
 k1:1<=K
 kk:K*K<=B
 kB:K<=691200
 bB:B<=700000000000
 read:∀a c,a<n->c<W->(nI (nL M a) c).natAbs<=B
 small:∀j rows P,j<=C->St n W (rowOf M) j rows P->∀i,i<n->(∀c,c<C->(nI (nL rows i) c).natAbs<=K)/\∀c,c<W->(nI (nL rows i) c).natAbs<=B
theorem Small.sml {n C W:Nat} {M:List (List Int)} (h:Small n C W M):Sml n C W 46656 46656000000 M:=
 ⟨h.toMat,h.n6,h.cw,h.w,by decide,by decide,by decide,by decide,λa c ha hc=>by have:=h.read a c ha hc; omega,λj rows P hj hs i hi=>hs.small h hj hi⟩
theorem w7z {n C W K B:Nat} {M:List (List Int)} (hM:Sml n C W K B M):q0m M C W:=by
 have hkB:=hM.kB
 have hbB:=hM.bB
 have hBK:B*K<=700000000000*691200:=Nat.mul_le_mul hbB hkB
 have hn:=hM.n6
 have hl:=hM.len
 have hw:=hM.w
 have hcw:=hM.cw
 refine⟨by omega,hw,hM.cw,λi hi=>hM.each i (by omega),λj hj hp=>?_⟩
 have hst:=qn8 hM.toMat j (by omega)
 have hsm:=λ{i} (hi:i<n)=>hM.small _ _ _ (by omega) hst i hi
 have hlen:=hst.len
 have hpl:=hst.pl
 generalize qa4 M j=s at hp hst hsm hlen hpl ⊢
 obtain⟨r,P⟩:=s
 simp only[] at hp hst hsm hlen hpl ⊢
 have hb:=q2b r P.length j (by omega) hp
 have heachS:=q7i (r:=r) (k:=P.length) (j:=j) (W:=W) (by omega) hp λi hi=>hst.each i (by omega)
 have heach:=q2c (r:=r) (k:=P.length) (j:=j) (W:=W) (by omega) hp λi hi=>hst.each i (by omega)
 have hsw:∀i,i<n->(∀c,c<C->(nI (nL (q2a r P.length j) i) c).natAbs<=K)/\∀c,c<W->(nI (nL (q2a r P.length j) i) c).natAbs<=B:=λi hi=>by
  unfold q2a
  rw[q3w _ _ _ (by omega) hb i (by omega)]
  split
  ·exact hsm (by omega)
  ·split
   ·exact hsm (by omega)
   ·exact hsm hi
 have hpr:∀i,i<n->(∀c,c<C->(nI (nL (qj6 r P.length j) i) c).natAbs<=K)/\∀c,c<W->(nI (nL (qj6 r P.length j) i) c).natAbs<=B:=λi hi=>by
  rw[q3x _ _ _ _ (by omega)]
  split
  ·refine⟨λc hc=>?_,λc hc=>?_⟩
   ·rw[wn6,Int.natAbs_neg]; exact(hsw _ (by omega)).1 c hc
   ·rw[wn6,Int.natAbs_neg]; exact(hsw _ (by omega)).2 c hc
  ·exact hsw i hi
 have hst2:=q9m (j:=j) (by omega) (show St n W (rowOf M) j (r,P).1 (r,P).2 from hst)
 have hpk:nI (nL (qj6 r P.length j) P.length) j≠0:=by
  have e:=w05 hp
  have hs:nL (q2a r P.length j) P.length=nL r (P.length+(qs8 r P.length j).toNat):=by
   unfold q2a
   rw[q3w _ _ _ (by omega) hb _ (by omega)]
   split
   ·rename_i q; rw[<- q]
   ·rw[if_pos rfl]
  rw[q3x _ _ _ _ (by omega)]
  split
  ·rw[wn6,hs]; omega
  ·rw[hs]; exact e
 have hB:BIG=4000000000000000000:=rfl
 have hB2:xy1=2000000000000000000:=rfl
 refine⟨λx hx=>?_,λi hi hne hz=>⟨?_,?_,?_,hpk,?_,?_,λc hc=>?_,λc hc=>?_⟩⟩
 ·obtain⟨c,hc,rfl⟩:=q5g hx
  have h1:=heachS P.length (by omega)
  have:=(hsw P.length (by omega)).2 c (by omega)
  constructor <;> omega
 ·rw[heach i (by omega)]; omega
 ·rw[heach i (by omega),heach P.length (by omega)]
 ·rw[heach i (by omega)]; exact hw
 ·have:=(hpr i (by omega)).1 j hj
  constructor <;> omega
 ·have:=(hpr P.length (by omega)).1 j hj
  constructor <;> omega
 ·rw[heach i (by omega)] at hc
  have h1:=(hpr i (by omega)).2 c hc
  have h2:=(hpr P.length (by omega)).1 j hj
  have h3:(q1 (nL (qj6 r P.length j) i) (nL (qj6 r P.length j) P.length) j).natAbs<=K:=Nat.le_trans (q56 _ _) h2
  have:=q40 h1 h3
  constructor <;> omega
 ·rw[heach i (by omega)] at hc
  have h1:=(hpr P.length (by omega)).2 c hc
  have h2:=(hpr i (by omega)).1 j hj
  have h3:(q2 (nL (qj6 r P.length j) i) (nL (qj6 r P.length j) P.length) j).natAbs<=K:=Nat.le_trans (q56 _ _) h2
  have:=q40 h1 h3
  constructor <;> omega
theorem q38 {n C W:Nat} {M:List (List Int)} (hM:Small n C W M):q0m M C W:=w7z hM.sml
theorem qm9 (a b:List (List Int)) {i:Nat} (h:i<a.length):nL (a++b) i=nL a i:=by
 rw[qm2 _ i (by rw[List.length_append]; omega),qm2 _ i h,List.getElem_append_left h]
theorem qy5 (a b:List (List Int)) (i:Nat):nL (a++b) (a.length+i)=nL b i:=by
 unfold nL qe8
 rw[List.getD_eq_getElem?_getD,List.getD_eq_getElem?_getD,List.getElem?_append_right (by omega)]
 congr 2; omega
theorem w70 {f:List Int->List Int} {l:List (List Int)} {i:Nat} (h:i<l.length):nL (l.map f) i=f (nL l i):=by
 rw[qm2 _ i (by simpa using h),qm2 _ i h,List.getElem_map]
theorem wn8 (left:List (List Int)) (p:List Int) (j a:Nat):∀K,(qg8 left p j a K).length=(if a<K then K-1 else K)/\∀i,i<(qg8 left p j a K).length->nL (qg8 left p j a K) i=qe7 (nL left (if i<a then i else i+1)) p j
 | 0=>⟨by rw[if_neg (Nat.not_lt_zero _)]; rfl,λi hi=>absurd hi (Nat.not_lt_zero _)⟩
 | K+1=>by
  obtain⟨h1,h2⟩:=wn8 left p j a K
  rw[qg8]
  by_cases e:K=a
  ·subst e
   rw[if_neg (λq=>q rfl)]
   rw[if_neg (Nat.lt_irrefl _)] at h1
   exact⟨by rw[h1,if_pos (Nat.lt_succ_self _)]; rfl,h2⟩
  ·rw[if_pos (by omega)]
   refine⟨?_,λi hi=>?_⟩
   ·rw[List.length_append,h1]
    show _+1=_
    split <;> split <;> omega
   ·rw[List.length_append] at hi
    have hi:i<(qg8 left p j a K).length+1:=hi
    rcases Nat.lt_succ_iff_lt_or_eq.1 hi with q | q
    ·rw[qm9 _ _ q]; exact h2 i q
    ·rw[q]
     have:=qy5 (qg8 left p j a K) [qe7 (nL left K) p j] 0
     rw[Nat.add_zero] at this
     rw[this,qd0,h1]
     congr 2
     split <;> split <;> omega
theorem q9n {left:List (List Int)} {j:Nat}:∀K,lastTo left j K<0->∀i,i<K->nI (nL left i) j=0
 | 0,_,i,hi=>absurd hi (Nat.not_lt_zero _)
 | K+1,h,i,hi=>by
  rw[lastTo] at h
  split at h
  ·omega
  ·rename_i hz
   rcases Nat.lt_succ_iff_lt_or_eq.1 hi with q | q
   ·exact q9n K h i q
   ·rw[q]; exact Classical.not_not.1 hz
theorem q7y {left:List (List Int)} {j:Nat}:∀K,0<=lastTo left j K->nI (nL left (lastTo left j K).toNat) j≠0
 | 0,h=>by have:(0:Int)<=-1:=h; omega
 | K+1,h=>by
  rw[lastTo] at h ⊢
  split at h
  ·rename_i hz
   rw[if_pos hz]
   simpa using hz
  ·rename_i hz
   rw[if_neg hz]
   exact q7y K h
theorem q57 (l:List Int) (n:Int) (c:Nat):nI (qm0 l n) c=nI l c*n:=by
 rcases Nat.lt_or_ge c l.length with h | h
 ·unfold qm0; rw[q36 h]
 ·rw[q4y _ h,q4y _ (by rw[qu3]; exact h),Int.zero_mul]
structure Rst (n W:Nat) (R:Nat->Nat->Int) (j:Nat) (s:RS):Prop where
 st:St n W R j (s.done_++s.left) s.piv
 cnt:s.done_.length=s.piv.length
 prim:∀x∈s.left,Prim x
theorem w06 (left:List (List Int)) (j:Nat) (a:Int) (hne:nI (nL left a.toNat) j≠0):∃s:Int,(s=1\/s=-1)/\(∀c,nI (qu2 left j a) c=s*nI (nL left a.toNat) c)/\0<nI (qu2 left j a) j:=by
 unfold qu2
 by_cases q:nI (nL left a.toNat) j<0
 ·rw[if_pos q]
  exact⟨-1,.inr rfl,λc=>by rw[q57]; omega,by rw[q57]; omega⟩
 ·rw[if_neg q]
  exact⟨1,.inl rfl,λc=>by omega,by omega⟩
theorem xf9 {n W j:Nat} {R:Nat->Nat->Int} {s:RS} (hj:j<W) (h:Rst n W R j s):Rst n W R (j+1) (q5n s j):=by
 obtain⟨left,dn,P⟩:=s
 obtain⟨hst,hcnt,hprim⟩:=h
 have hst:St n W R j (dn++left) P:=hst
 have hcnt:dn.length=P.length:=hcnt
 have hprim:∀x∈left,Prim x:=hprim
 have hlen:=hst.len
 rw[List.length_append] at hlen
 have hL:∀i,i<left.length->nL (dn++left) (P.length+i)=nL left i:=λi hi=>by rw[<- hcnt]; exact qy5 _ _ _
 have hD:∀i,i<P.length->nL (dn++left) i=nL dn i:=λi hi=>qm9 _ _ (by omega)
 unfold q5n
 dsimp only
 split
 ·rename_i hn
  refine⟨hst.skip λi h1 h2=>?_,hcnt,hprim⟩
  have:=hL (i-P.length) (by omega)
  rw[show P.length+(i-P.length)=i by omega] at this
  rw[this]
  exact q9n _ hn _ (by omega)
 ·rename_i hn
  have hn:0<=lastTo left j left.length:=Int.not_lt.1 hn
  have hlt:=(qy2 left j left.length).1
  have hne:=q7y _ hn
  obtain⟨sg,hs,hsx,hpos⟩:=w06 left j (lastTo left j left.length) hne
  have hplen:(qu2 left j (lastTo left j left.length)).length=(nL left (lastTo left j left.length).toNat).length:=by
   unfold qu2; split
   ·exact qu3 _ _
   ·rfl
  generalize hA:qu2 left j (lastTo left j left.length)=p at hsx hpos hplen ⊢
  obtain⟨a,ha⟩:∃a:Nat,lastTo left j left.length=(a:Int):=⟨(lastTo left j left.length).toNat,by omega⟩
  rw[ha] at hlt hne hsx hplen ⊢
  rw[Int.toNat_natCast] at hne hsx hplen
  have halt:a<left.length:=by omega
  obtain⟨r1,r2⟩:=wn8 left p j a left.length
  rw[if_pos halt] at r1
  have hW:∀i,i<left.length->(nL left i).length=W:=λi hi=>by rw[<- hL i hi]; exact hst.each _ (by omega)
  have hWd:∀i,i<P.length->(nL dn i).length=W:=λi hi=>by rw[<- hD i hi]; exact hst.each _ (by omega)
  have hdl:(dn.map λr=>qe7 r p j).length=P.length:=by simp[hcnt]
  have hA1:∀i,i<P.length->nL (((dn.map λr=>qe7 r p j)++[p])++qg8 left p j a left.length) i=qe7 (nL dn i) p j:=λi hi=>by
   rw[qm9 _ _ (by rw[List.length_append]; omega),qm9 _ _ (by omega),w70 (by omega)]
  have hA2:nL (((dn.map λr=>qe7 r p j)++[p])++qg8 left p j a left.length) P.length=p:=by
   rw[qm9 _ _ (by rw[List.length_append,hdl]; exact Nat.lt_succ_self _)]
   have:=qy5 (dn.map λr=>qe7 r p j) [p] 0
   rw[hdl,Nat.add_zero] at this
   rw[this,qd0]
  have hA3:∀i,i<left.length-1->nL (((dn.map λr=>qe7 r p j)++[p])++qg8 left p j a left.length) (P.length+1+i)=qe7 (nL left (if i<a then i else i+1)) p j:=λi hi=>by
   have e:((dn.map λr=>qe7 r p j)++[p]).length=P.length+1:=by rw[List.length_append,hdl]; rfl
   have:=qy5 ((dn.map λr=>qe7 r p j)++[p]) (qg8 left p j a left.length) i
   rw[e] at this
   rw[this,r2 i (by omega)]
  refine⟨?_,by rw[List.length_append,List.length_append,hdl]; rfl,λx hx=>?_⟩
  ·refine hst.step hj (by omega) ?_ (λi hi=>?_) (λi=>if i<P.length then i else if i=P.length then P.length+a else if i-P.length-1<a then i-1 else i) (λi hi=>?_) (λi k hi hk e=>?_) (λi hi=>?_) (λi hi=>?_) ⟨sg,hs,λc hc=>?_⟩ ?_ λi hi hne2=>?_
   ·rw[List.length_append,List.length_append,hdl,r1]
    show P.length+1+_=n
    omega
   ·rcases Nat.lt_trichotomy i P.length with q | q | q
    ·rw[hA1 i q,qw3]; exact hWd i q
    ·rw[q,hA2,hplen]; exact hW a halt
    ·have:=hA3 (i-P.length-1) (by omega)
     rw[show P.length+1+(i-P.length-1)=i by omega] at this
     rw[this,qw3]
     exact hW _ (by split <;> omega)
   ·(try dsimp only); split
    ·omega
    ·split
     ·omega
     ·split <;> omega
   ·try dsimp only at e
    split at e <;> split at e <;> (try split at e) <;> (try split at e) <;> (try split at e) <;> (try split at e) <;> omega
   ·rcases Nat.lt_or_ge i P.length with q | q
    ·exact⟨i,hi,by(try dsimp only); rw[if_pos q]⟩
    ·rcases Nat.lt_trichotomy i (P.length+a) with k | k | k
     ·exact⟨i+1,by omega,by(try dsimp only); rw[if_neg (by omega),if_neg (by omega),if_pos (by omega)]; omega⟩
     ·exact⟨P.length,by omega,by(try dsimp only); rw[if_neg (by omega),if_pos rfl]; omega⟩
     ·exact⟨i,hi,by(try dsimp only); rw[if_neg (by omega),if_neg (by omega),if_neg (by omega)]⟩
   ·(try dsimp only); rw[if_pos hi]
   ·rw[hA2,if_neg (Nat.lt_irrefl _),if_pos rfl,hL a halt]; exact hsx c
   ·rw[hA2]; exact hpos
   ·rw[hA2]
    try dsimp only
    rcases Nat.lt_or_ge i P.length with q | q
    ·rw[hA1 i q,if_pos q,hD i q]
     exact q7x hj (hWd i q) hpos
    ·have:=hA3 (i-P.length-1) (by omega)
     rw[show P.length+1+(i-P.length-1)=i by omega] at this
     have hπi:(if i<P.length then i else if i=P.length then P.length+a else if i-P.length-1<a then i-1 else i)=(if i-P.length-1<a then i-1 else i):=by rw[if_neg (by omega),if_neg hne2]
     rw[this,hπi]
     have e:nL (dn++left) (if i-P.length-1<a then i-1 else i)=nL left (if i-P.length-1<a then i-P.length-1 else i-P.length-1+1):=by
      have:=hL (if i-P.length-1<a then i-P.length-1 else i-P.length-1+1) (by split <;> omega)
      rw[<- this]
      congr 1
      split <;> omega
     rw[e]
     exact q7x hj (hW _ (by split <;> omega)) hpos
  ·obtain⟨i,_,_,rfl⟩:=q2d _ _ _ _ _ x hx
   exact qr1 _
theorem qu1 {n W:Nat} {M:List (List Int)} (h:Mat n W M):∀j,j<=W->Rst n W (rowOf M) j (qh2 M j)
 | 0,_=>by
  have hl:(M.map qk7).length=n:=by rw[List.length_map]; exact h.len
  have ha:∀i,i<n->nL (M.map qk7) i=qk7 (nL M i):=λi hi=>w70 (by rw[h.len]; exact hi)
  have hm:∀i,i<n->∀c,c<W->max (gcdL (nL M i)) 1*nI (qk7 (nL M i)) c=nI (nL M i) c:=λi hi c hc=>qy4 _ (by rw[h.each i hi]; exact hc)
  refine⟨?_,rfl,λx hx=>?_⟩
  ·show St n W (rowOf M) 0 (M.map qk7) []
   refine⟨hl,λi hi=>by rw[ha i hi,qs4]; exact h.each i hi,⟨rowOf (M.map qk7),λ_=>none,id,El.start λa ha'=>⟨max (gcdL (nL M a)) 1,by omega,λj hj=>?_⟩,λi hi=>hi,λi k _ _ e=>e,λa ha=>⟨a,ha,rfl⟩,λi _ c _=>rfl,λq _=>by simp,λi hi=>?_⟩,λz=>?_,Nat.zero_le _,λi _ _ c hc=>absurd hc (Nat.not_lt_zero _),λq hq=>absurd hq (Nat.not_lt_zero _),λq k _ hk=>absurd hk (Nat.not_lt_zero _)⟩
   ·unfold rowOf
    rw[ha a ha']; exact hm a ha' j hj
   ·rw[ha i hi]
    exact(qr1 _).nice (by rw[qs4]; exact h.each i hi) _
   ·have hd:∀i,i<n->max (gcdL (nL M i)) 1*dt W (nL (M.map qk7) i) z=dt W (nL M i) z:=λi hi=>by
     have:=w04 (W:=W) (r':=nL (M.map qk7) i) (r:=nL M i) (p:=[]) (z:=z) (α:=max (gcdL (nL M i)) 1) (β:=1) (γ:=0) λc hc=>by rw[ha i hi,hm i hi c hc]; omega
     omega
    constructor
    ·intro hz i hi
     have h1:=hd i hi
     have h2:dt W (nL M i) z=0:=hz i hi
     rw[h2] at h1
     exact qd3 h1 (by omega)
    ·intro hz i hi
     have h1:=hd i hi
     rw[hz i hi,Int.mul_zero] at h1
     exact h1.symm
  ·obtain⟨u,_,rfl⟩:=List.mem_map.1 hx
   exact qr1 u
 | j+1,hj=>xf9 (by omega) (qu1 h j (by omega))
theorem Prim.last {l:List Int} {N:Nat} (h:Prim l) (hl:l.length=N+1) (hz:∀c,c<N->nI l c=0):(nI l N).natAbs<=1:=by
 rcases h with h | h
 ·rw[h N (by omega)]; decide
 ·have:=h (nI l N).natAbs λc hc=>by
   rcases Nat.lt_or_ge c N with q | q
   ·rw[hz c q]; exact Nat.dvd_zero _
   ·rw[show c=N by omega]; exact Nat.dvd_refl _
  omega
theorem xk5 {n N K B:Nat} {M:List (List Int)} (hM:Sml n N (N+1) K B M) (h0:0<n):w34 M/\∀k,k<(qh2 M (N+1)).done_.length->∀c,c<N+1->(nI (nL (qh2 M (N+1)).done_ k) c).natAbs<=B:=by
 have hB:BIG=4000000000000000000:=rfl
 have hk1:=hM.k1
 have hkk:=hM.kk
 have hkB:=hM.kB
 have hbB:=hM.bB
 have hBK:B*K<=700000000000*691200:=Nat.mul_le_mul hbB hkB
 have hn:=hM.n6
 have hl:=hM.len
 have hw:=hM.w
 have hW:rdW M=N+1:=hM.each 0 h0
 -- the numbers at a step
 have key:∀j,j<N+1->0<=lastTo (qh2 M j).left j (qh2 M j).left.length->xq2 (qh2 M j) j/\((∀c,c<N+1->(nI (qu2 (qh2 M j).left j (lastTo (qh2 M j).left j (qh2 M j).left.length)) c).natAbs<=B)/\∀i,i<(qh2 M j).done_.length->j=N->∀c,c<N+1->(nI (q34 (nL (qh2 M j).done_ i) (qu2 (qh2 M j).left j (lastTo (qh2 M j).left j (qh2 M j).left.length)) j) c).natAbs<=B):=by
  intro j hj hp
  have hst:=qu1 hM.toMat j (by omega)
  generalize qh2 M j=s at hp hst ⊢
  obtain⟨left,dn,P⟩:=s
  obtain⟨hst,hcnt,hprim⟩:=hst
  have hst:St n (N+1) (rowOf M) j (dn++left) P:=hst
  have hcnt:dn.length=P.length:=hcnt
  have hprim:∀x∈left,Prim x:=hprim
  simp only[] at hp ⊢
  have hlen:=hst.len
  rw[List.length_append] at hlen
  have hL:∀i,i<left.length->nL (dn++left) (P.length+i)=nL left i:=λi hi=>by rw[<- hcnt]; exact qy5 _ _ _
  have hD:∀i,i<P.length->nL (dn++left) i=nL dn i:=λi hi=>qm9 _ _ (by omega)
  have hlt:=(qy2 left j left.length).1
  have hne:=q7y _ hp
  obtain⟨sg,hs,hsx,hpos⟩:=w06 left j (lastTo left j left.length) hne
  have hsm:=λ{i} (hi:i<n)=>hM.small _ _ _ (show j<=N by omega) hst i hi
  obtain⟨a,ha⟩:∃a:Nat,lastTo left j left.length=(a:Int):=⟨(lastTo left j left.length).toNat,by omega⟩
  have hplen:(qu2 left j (lastTo left j left.length)).length=(nL left a).length:=by
   unfold qu2; rw[ha]; split
   ·exact qu3 _ _
   ·rfl
  have ea:(lastTo left j left.length).toNat=a:=by omega
  rw[ea] at hne hsx
  have halt:a<left.length:=by omega
  have hWl:∀i,i<left.length->(nL left i).length=N+1:=λi hi=>by rw[<- hL i hi]; exact hst.each _ (by omega)
  have hWd:∀i,i<P.length->(nL dn i).length=N+1:=λi hi=>by rw[<- hD i hi]; exact hst.each _ (by omega)
  have bl:∀i,i<left.length->(∀c,c<N->(nI (nL left i) c).natAbs<=K)/\∀c,c<N+1->(nI (nL left i) c).natAbs<=B:=λi hi=>by rw[<- hL i hi]; exact hsm (by omega)
  have bd:∀i,i<P.length->(∀c,c<N->(nI (nL dn i) c).natAbs<=K)/\∀c,c<N+1->(nI (nL dn i) c).natAbs<=B:=λi hi=>by rw[<- hD i hi]; exact hsm (by omega)
  have hab:∀c,(nI (qu2 left j (lastTo left j left.length)) c).natAbs=(nI (nL left a) c).natAbs:=λc=>by
   rw[hsx c,Int.natAbs_mul]
   rcases hs with rfl | rfl <;> simp
  -- the numbers in the column,and in a row
  have zl:∀i,i<left.length->j=N->∀c,c<N->nI (nL left i) c=0:=λi hi e c hc=>by
   rw[<- hL i hi]
   exact hst.zero _ (by omega) (by omega) c (by omega)
  have cl:∀i,i<left.length->(nI (nL left i) j).natAbs<=K:=λi hi=>by
   rcases Nat.lt_or_ge j N with q | q
   ·exact(bl i hi).1 j q
   ·have e:j=N:=by omega
    have:=(hprim _ (qw4 left i hi)).last (hWl i hi) (zl i hi e)
    rw[e]; omega
  have hpj:(nI (qu2 left j (lastTo left j left.length)) j).natAbs<=K:=by rw[hab]; exact cl a halt
  have hpc:∀c,c<N+1->(nI (qu2 left j (lastTo left j left.length)) c).natAbs<=B:=λc hc=>by rw[hab]; exact(bl a halt).2 c hc
  have rowB:∀r:List Int,r.length=N+1->(∀c,c<N+1->(nI r c).natAbs<=B)->((nI r j).natAbs<=K\/j=N)->xe6 r (qu2 left j (lastTo left j left.length)) j:=λr hr hb hc0=>by
   have b1:∀k,k<N+1->(nI r k*nI (qu2 left j (lastTo left j left.length)) j).natAbs<=B*K:=λk hk=>q40 (hb k hk) hpj
   have b2:∀k,k<N+1->(nI (qu2 left j (lastTo left j left.length)) k*nI r j).natAbs<=B*K:=λk hk=>by
    rcases hc0 with q | q
    ·exact q40 (hpc k hk) q
    ·rcases Nat.lt_or_ge k N with q2 | q2
     ·have e0:nI (qu2 left j (lastTo left j left.length)) k=0:=by
       have:=hab k
       rw[zl a halt q k q2] at this
       omega
      rw[e0,Int.zero_mul]; exact Nat.zero_le _
     ·have e1:k=j:=by omega
      rw[e1,Int.mul_comm]
      exact q40 (hb j (by omega)) hpj
   refine⟨by omega,by rw[hplen,hWl a halt,hr],by omega,λk hk=>?_,λk hk=>?_,λk hk=>?_⟩
   ·have:=b1 k (by omega); constructor <;> omega
   ·have:=b2 k (by omega); constructor <;> omega
   ·have h1:=b1 k (by omega)
    have h2:=b2 k (by omega)
    constructor <;> omega
  refine⟨⟨λ_=>⟨by rw[ha,Int.toNat_natCast,hWl a halt]; exact hw,λc hc=>?_⟩,λi hi _=>rowB _ (hWl i hi) (bl i hi).2 (.inl (cl i hi)),λi hi=>?_⟩,hpc,λi hi e c hc=>?_⟩
  ·rw[ha,Int.toNat_natCast] at hc ⊢
   have hc:c<(nL left a).length:=hc
   rw[hWl a halt] at hc
   have:=(bl a halt).2 c hc
   show qd2 BIG (nI (nL left a) c*(-1))
   constructor <;> omega
  ·have hi:i<dn.length:=hi
   have hi2:i<P.length:=by omega
   refine rowB _ (hWd i hi2) (bd i hi2).2 ?_
   rcases Nat.lt_or_ge j N with q | q
   ·exact .inl ((bd i hi2).1 j q)
   ·exact .inr (by omega)
  ·have hi2:i<P.length:=by omega
   rw[we0 _ _ _ (by rw[hWd i hi2]; exact hc)]
   rcases Nat.lt_or_ge c N with q | q
   ·have e0:nI (qu2 left j (lastTo left j left.length)) c=0:=by
     have:=hab c
     rw[zl a halt e c q] at this
     omega
    have e1:(nI (qu2 left j (lastTo left j left.length)) j).natAbs<=K:=hpj
    have:=q40 ((bd i hi2).1 c q) e1
    rw[e0,Int.zero_mul,Int.sub_zero]
    omega
   ·have e1:c=j:=by omega
    rw[e1,Int.mul_comm,Int.sub_self]; exact Nat.zero_le _
 refine⟨⟨by omega,by omega,λi hi=>by rw[hW]; exact hM.each i (by omega),λi hi=>⟨by rw[hM.each i (by omega)]; exact hw,λx hx=>?_⟩,λj hj hp=>(key j (by omega) hp).1⟩,λk hk c hc=>?_⟩
 ·obtain⟨c,hc,rfl⟩:=q5g hx
  have:=hM.read i c (by omega) (by rw[hM.each i (by omega)] at hc; exact hc)
  constructor <;> omega
 ·have hst:=qu1 hM.toMat N (by omega)
  have hk2:k<(q5n (qh2 M N) N).done_.length:=hk
  show(nI (nL (q5n (qh2 M N) N).done_ k) c).natAbs<=B
  have key:=key N (by omega)
  unfold q5n at hk2 ⊢
  split at hk2
  ·rename_i hn
   rw[if_pos hn]
   have hlen:=hst.st.len
   rw[List.length_append] at hlen
   rw[<- qm9 _ (qh2 M N).left hk2]
   exact(hM.small _ _ _ (Nat.le_refl _) hst.st _ (by omega)).2 c hc
  ·rename_i hn
   rw[if_neg hn]
   obtain⟨_,k1,k2⟩:=key (Int.not_lt.1 hn)
   rw[List.length_append,List.length_map] at hk2
   have hk2:k<(qh2 M N).done_.length+1:=hk2
   try dsimp only
   rcases Nat.lt_succ_iff_lt_or_eq.1 hk2 with q | q
   ·rw[qm9 _ _ (by rw[List.length_map]; exact q),w70 q]
    exact Nat.le_trans (xf7 _ _) (k2 k q rfl c hc)
   ·rw[q]
    have:=qy5 ((qh2 M N).done_.map λr=>qe7 r (qu2 (qh2 M N).left N (lastTo (qh2 M N).left N (qh2 M N).left.length)) N) [qu2 (qh2 M N).left N (lastTo (qh2 M N).left N (qh2 M N).left.length)] 0
    rw[List.length_map,Nat.add_zero] at this
    rw[this,qd0]
    exact k1 c hc
theorem w07 {n N:Nat} {M:List (List Int)} (hM:Small n N (N+1) M) (h0:0<n):w34 M/\∀k,k<(qh2 M (N+1)).done_.length->∀c,c<N+1->(nI (nL (qh2 M (N+1)).done_ k) c).natAbs<=46656000000:=xk5 hM.sml h0
end Go.Proofs.YtmijnbjlhnpokaaGreat
