/- The reference's solutions: contract by hand up to the first loop's end, by the engine from there. No condition. -/
import Derived.Test.YtnchigbbjajiiaaGreatV28
set_option linter.unusedVariables false
set_option linter.unusedSimpArgs false
namespace Go.Proofs.YtnchigbbjajiiaaGreat
open Go Go.RowKit Ls Eng
theorem ww8 {m:View}:∀{l:List Int} {vs:List Value},RdL m (.int .i64) l vs->vs=ints l
 | [],vs,h=>h
 | x :: l,vs,⟨u,v,h1,h2,h3⟩=>by
  obtain rfl:u=[.int .i64 x]:=h2
  rw[h1,ww8 h3]
  rfl
theorem x5d {m:View} {w:World} {B:Nat} {rows:List (List Int)} {hs:List Value} {v:Value} (h:PoolOk m w B 24 3 (.int .i64) rows none hs) (hv:hs[0]? = some v) (hn:0<rows.length):∃g c,v=.slice (some ⟨g,0,none⟩) rows.length c/\Pl w B rows.length g c hs.tail rows:=by
 have hlen:hs.length=rows.length+1:=h.len
 obtain⟨cs,hc1,hc2⟩:=h.head
 have e0:hs.getD 0 undef=v:=by grind
 rw[e0] at hc1
 have hc1:w.ownsRow B 24 1 v rows.length cs:=hc1
 obtain⟨A,c,rfl,k1,k2,k3⟩:=q3r hc1
 obtain⟨g,rfl,_,_⟩:=k3 hn
 have hcl:cs.length=rows.length:=by have:=hc1.1; omega
 have hcs:cs=hs.tail:=by
  apply zbb (by grind)
  intro i h1 h2
  have h3:=(hc2 i i (by show(List.range rows.length)[i]? = some i; grind)).2
  grind
 rw[hcs] at hc1
 have htl:∀p,hs.tail[p]? = hs[p+1]?:=λp=>by simp
 refine⟨g,c,rfl,hc1,⟨by grind,λr hr=>?_⟩,λi j u u' b hij hi hj hb1 hb2=>?_⟩
 ·obtain⟨xs,q1,q2⟩:=h.row r hr
  have q2:w.ownsRow B 3 1 (hs.getD (r+1) undef) (nL rows r).length xs:=q2
  rw[ww8 q1] at q2
  obtain⟨A,c1,e,_⟩:=q3r q2
  refine⟨A,c1,?_,by rw[e] at q2; exact q2⟩
  rw[htl,zam ow]
  rw[zax,zam ow] at e
  exact zbi some e
 ·rw[htl] at hi hj
  exact h.apart (i+1) (j+1) u u' b ow hi hj (qf0 hb1) (qf0 hb2)
theorem x5e {w:World} {m:View} {M:List (List Int)} {pix:List Int} {u1 u2:Value} (hm:m.on w) (hp:wv7 M pix) (h1:0<M.length) (hu1:Rd m tMask M [u1]) (hu2:Rd m tInts pix [u2]) :
  Calls Tryz.prog 200 #[u1,u2] w λe w'=>∃g c vs,e=.returned (.slice (some ⟨g,0,none⟩) M.length c)/\Below w.heap.size w w'/\Pl w' w.heap.size M.length g c vs (qg9 M pix):=by
 have hx:qw6 m [tMask,tInts] (M,pix,()) [u1,u2]:=⟨u1,_,rfl,hu1,u2,[],rfl,hu2,rfl⟩
 have:=w69.2 w m (qh8 [tMask,tInts] (M,pix,())) [u1,u2] (λr=>r=.dat (.list (.int .i64)) (qg9 M pix)) hm (q06 hx).1 (q70 hx ⟨hp,rfl⟩)
 refine this.mono λe w' ⟨v,m',e1,e2,e3,e4,e5⟩=>?_
 rcases e5 with⟨t,l,hs,q1,q2,q3⟩ | ⟨_,_,_,_,_,_,_,q1,_⟩
 case inr=>grind
 injection q1 with q1 q1'
 injection q1 with q1
 subst q1
 obtain rfl:=zdn q1'
 obtain⟨g,c,rfl,q5⟩:=x5d q3 q2 (by grind [qq8])
 grind [qq8]
def qt7 (P:List Int) (n:Nat):Bool:=P.any λj=>j==(n:Int)
def qw4 (n:Nat) (d:List (List Int)) (P:List Int):Nat->List (Int × Int)
 | 0=>List.replicate n (0,1)
 | i+1=>(qw4 n d P i).set (nI P i).toNat (q4n (nI (nL d i) n) (nI (nL d i) (nI P i).toNat))
def svD (m:List (List Int)) (pix y:List Int):List (List Int):=(qb5 (qa8 m pix y)).1
def svP (m:List (List Int)) (pix y:List Int):List Int:=(qb5 (qa8 m pix y)).2
def svR (m:List (List Int)) (pix y:List Int):List (Int × Int) × Int × Bool:=if qt7 (svP m pix y) pix.length=true then([],0,false) else(qw4 pix.length (svD m pix y) (svP m pix y) (svP m pix y).length,(pix.length:Int)-(svP m pix y).length,true)
theorem qz2 (n:Nat) (d:List (List Int)) (P:List Int):∀i,(qw4 n d P i).length=n
 | 0=>by simp[qw4]
 | i+1=>by rw[qw4,za7,qz2 n d P i]
structure yy7 (d:List (List Int)) (P:List Int) (n:Nat):Prop where
 cnt:d.length=P.length
 lenP:P.length<=1000
 each:∀k,k<d.length->(nL d k).length=n+1
 pv:∀k,k<P.length->0<=nI P k/\nI P k<=n
 nz:∀k,k<P.length->nI (nL d k) (nI P k).toNat≠0
 bigD:∀k,k<P.length->qc0 BIG (nI (nL d k) (nI P k).toNat)
 bigN:∀k,k<P.length->qc0 BIG (nI (nL d k) n)
structure x9t (m:List (List Int)) (pix y:List Int):Prop where
 one:0<m.length
 col:wv7 m pix
 pl:pix.length<=1000
 yl:y.length=m.length
 rd:xe5 (qa8 m pix y)
 ar:yy7 (svD m pix y) (svP m pix y) pix.length
abbrev gSv (x:qa5 [tMask,tInts,tInts]):AV:=qn1 (qh8 [q4g,tInt,.bool] ((svR x.1 x.2.1 x.2.2.1).1,(svR x.1 x.2.1 x.2.2.1).2.1,(svR x.1 x.2.1 x.2.2.1).2.2,()))
abbrev sSv:qb3:=q96 (q4c [tMask,tInts,tInts]) true (some 43) none (λx=>x9t x.1 x.2.1 x.2.2.1) gSv
def x0k (m:List (List Int)) (pix y:List Int) (k:Nat):List (List Int):=ovr (.list (.int .i64)) (nL (qa8 m pix y)) (qg9 m pix) k
theorem xh6 (m:List (List Int)) (pix y:List Int):x0k m pix y 0=qg9 m pix:=qt0 (.list (.int .i64)) _ _
theorem q3m (m:List (List Int)) (pix y:List Int):(qa8 m pix y).length=m.length:=q0s _ _ _
theorem qv1 (m:List (List Int)) (pix y:List Int) (k:Nat) (hk:k<m.length):nL (qa8 m pix y) k=nL (qg9 m pix) k++[nI y k]:=by
 grind [qm3,q3m,qk5,qa8,qb9]
theorem xh7 (m:List (List Int)) (pix y:List Int) (k:Nat) (hk:k<m.length):nL (x0k m pix y k) k=nL (qg9 m pix) k:=(q4h (.list (.int .i64)) _ _ _ _ (by grind [qq8])).trans (zak (zbw _))
theorem xh8 (m:List (List Int)) (pix y:List Int) (k:Nat) (hk:k<m.length):(x0k m pix y k).set k (nL (qg9 m pix) k++[nI y k])=x0k m pix y (k+1):=by
 rw[<- qv1 m pix y k hk]
 exact qq5 (.list (.int .i64)) (nL (qa8 m pix y)) (qg9 m pix) k
theorem x0l (m:List (List Int)) (pix y:List Int):x0k m pix y m.length=qa8 m pix y:=by
 have h:=qx6 (.list (.int .i64)) (nL (qa8 m pix y)) (qg9 m pix) m.length (by rw[qq8]; simp)
 refine h.trans ?_
 apply zbb (by simp[qq8,q3m])
 grind [qm3]
def yy8 (pix:List Int) (d:List (List Int)) (P:List Int):Nat->Option Inv
 | 0=>some (Inv.of [13,49] 1 (λk:Nat=>[(13,.own 0),(49,.lit (.int .i64 k))]) (λk=>[.vec 43 qo4 (ovr qo4 (λ_=>(0,1)) (List.replicate pix.length (0,0)) k)]) (λk=>k<=pix.length) (λk=>pix.length-k))
 | 1=>some (Inv.of [13,59] 1 (λk:Nat=>[(13,.own 0),(59,.lit (.int .i64 k))]) (λk=>[.vec 43 qo4 (qw4 pix.length d P k)]) (λk=>k<=P.length/\∀i,i<k->nI P i≠pix.length) (λk=>P.length-k))
 | _=>none
set_option maxRecDepth 100000 in
set_option maxHeartbeats 4000000 in
theorem w1q {w:World} {m:View} {M:List (List Int)} {pix y:List Int} {u1 u2:Value} {Ay:Option Addr} {cy:Nat} {k:AV->Prop} (hm:m.on w) (hp:x9t M pix y) (hu1:Rd m tMask M [u1]) (hu2:Rd m tInts pix [u2]) (hu3:Rd m tInts y [.slice Ay M.length cy]) (hk:k (gSv (M,pix,y,()))) :
  Calls Tryz.prog 291 #[u1,u2,.slice Ay M.length cy] w (Eng.Left Tryz.prog sSv k m w):=by
 have hcol:=x5e hm hp.col hp.one hu1 hu2
 have hy0:SI w Ay M.length cy y:=by
  grind [x73]
 have hn1:=hp.one
 have hn2:=hp.col.rows
 obtain⟨n,hn⟩:∃n,n=M.length:=⟨_,rfl⟩
 rw[<- hn] at hcol hy0 hn1 hn2 hu3 ⊢
 have HN:=hidx hn
 clear hn
 refine callsIn_wide.1 (callsIn_of_wp_marks (F:=Fence.wide) (n:=0) Tryz.func291 rfl trivial ?_)
 refine wpIn_wide.2 ?_
 simp only[Tryz.ntmps291,List.size_toArray,List.length_cons,List.length_nil,Nat.reduceAdd,Nat.reduceSub,Array.replicate_succ,Array.replicate_zero,List.push_toArray,List.append_toArray,List.nil_append,List.cons_append]
 go_wp2_with fail
 refine hcol.mono ?_
 rintro e w2 ⟨g,c,vs,rfl,hb2,hpl⟩
 have hy2:=hy0.below hb2
 go_wp2_with fail
 go_loopw [10,22] (λ_ i wr=>∃(q:Nat) (vs:List Value),q<=n/\i=.int .i64 q/\Pl wr w.heap.size n g c vs (x0k M pix y q)/\Below w.heap.size w wr) (λ_ i _=>n-(intOf i).toNat)
 case atStart=>exact⟨0,vs,zae _,rfl,by grind [xh6],hb2⟩
 case round=>
  obtain⟨q,vs,hq,rfl,hP,hb⟩:=hrel
  by_cases hlt:q<n
  ·obtain⟨hvl,hrl⟩:=hP.len
   have hqM:q<M.length:=by have:=HN.out; omega
   obtain⟨A1,c1,hvq,hvo⟩:=hP.rows.2 q ow
   have hrow:nthL (x0k M pix y q) q=nL (qg9 M pix) q:=xh7 M pix y q hqM
   rw[hrow] at hvq hvo
   have hcell:=w0i hP.head q hlt _ hvq
   rw[add_zero_lit] at hcell
   have hy:=hy0.below hb
   obtain⟨ady,rfl,hyc⟩:=hy.at_ hn1
   have hyq:=hyc q hlt
   obtain⟨len,hlen⟩:∃len,len=(nL (qg9 M pix) q).length:=⟨_,rfl⟩
   rw[<- hlen] at hvq hvo hcell
   obtain⟨l,hl⟩:∃l,l=nL (qg9 M pix) q:=⟨_,rfl⟩
   rw[<- hl] at hvo hlen
   have hlen2:len<=1000:=by rw[hlen,hl,qk5 M pix q hqM,qi0]; exact hp.pl
   obtain⟨yq,hyqe⟩:∃yq,yq=nth y q:=⟨_,rfl⟩
   rw[<- hyqe] at hyq
   have hsz:w.heap.size<=wr.heap.size:=hb.size
   have hcellD:wr.drew.cell? ⟨g,q,none⟩=some (.slice A1 len c1):=hcell
   have hcellA:∀o,(wr.drew.alloc o).cell? ⟨g,q,none⟩=some (.slice A1 len c1):=λo=>Below.cell_of (below_alloc wr.drew o) hcellD
   have hyqD:wr.drew.cell? (ady.add q)=some (.int .i64 yq):=hyq
   have hvoD:wr.drew.ownsRow w.heap.size 3 1 (.slice A1 len c1) len (ints l):=ww7 hvo λ_ _=>rfl
   have hszD:w.heap.size<=wr.drew.heap.size:=hsz
   have hPD:Pl wr.drew w.heap.size n g c vs (x0k M pix y q):=hP.below ⟨rfl,rfl,rfl,zab _,λ_ _=>rfl⟩
   have Harm:∀w3,wr.drew.grownBy w3 (Value.slice A1 len c1).ownBlock->w3.cell? ⟨g,q,none⟩=some (.slice A1 len c1)/\w3.frozen? ⟨g,q,none⟩=false:=by
    intro w3 hg3
    have hh:w3.ownsRow w.heap.size 24 1 (.slice (some ⟨g,0,none⟩) n c) n vs:=ww7 hPD.head λb hbb=>by
     obtain⟨_,cur,h2⟩:=qn8 hPD.head hbb
     refine hg3.block b (zan.1 h2).1 λe=>?_
     grind [qn8,absurd]
    have hg4:=w0i hh q hlt _ hvq
    rw[add_zero_lit] at hg4
    exact⟨hg4,hh.frozenAt q⟩
   have hcellB:∀o,(wr.alloc o).cell? ⟨g,q,none⟩=some (.slice A1 len c1):=λo=>Below.cell_of (below_alloc wr o) hcell
   have HL:=hidx hlen
   have HL2:=hidx hl
   have HY:=hidx hyqe
   have HP:=hidx hP
   have HPD:=hidx hPD
   have Harm:=hidx Harm
   have HB:=hidx hb
   have i1:(0:Int)<=q:=ow
   have i2:(q:Int)<n:=ow
   clear hlen hl hyqe hqM hP hPD hb hvo hcol hy2 hpl hb2 hyc hy hy0 hvl hrl hrow
   go_wp2
   refine Code.wp_mono (λ_ _ _ h=>x0j h) ?_
   go_region_law (refine w7j yx3 rfl (by rfl) _ _ (by rfl) (by rfl) (by rfl) hvoD hszD (by rfl) ow ow ?_; intro A2 c2 w3 hv3 hg3 hbk3; obtain⟨hg4,hz4⟩:=Harm.out _ hg3)
   all_goals
    refine xh5 ?_
    go_wp2
    go_roundw
    case rel=>
     have hnl:nL (x0k M pix y q) q=l:=by rw[HL2.out]; exact xh7 M pix y q (by have:=HN.out; omega)
     have hlen:=HL.out
     obtain⟨s1,s2⟩:=HPD.out.step (l:=l) hlt hvq hnl yq (by rw[hlen]) (by grind [w8n]) hg3 hbk3
     have hgb:=(qn8 HPD.out.head (b:=g) rfl).1
     have hbD:Below w.heap.size w wr.drew:=⟨HB.out.os,HB.out.tape,HB.out.output,HB.out.size,HB.out.block⟩
     refine⟨q+1,vs.set q (.slice A2 (len+1) c2),hlt,by rfl,?_,(hbD.grown hg3 hszD λk hk=>(qn8 hvoD hk).1).grown s2 (by have:=hg3.size; omega) λk hk=>by grind⟩
     have e:=xh8 M pix y q (by have:=HN.out; omega)
     rw[<- e,<- HL2.out]
     have e2:yq=nI y q:=HY.out
     grind
    case measure=>grind [intOf]
  ·have hqn:q=n:=ow
   subst hqn
   rename_i hK
   have HK:=hidx hK
   clear hK
   go_wp2
   refine HK.out _ _ ?_
   refine(wpIn_wide (n:=0)).1 ?_
   have hmw:m.cells.on wr:=λb o hbb=>View.on_below hm hb b o (View.cells_le m b o hbb)
   have hfr:(View.from wr w.heap.size).on wr:=View.from_on _ _
   refine xb3 (C:=ctx [(253,sRd),(295,yt8)]) ((snd (SpecsOk.cons w37 (SpecsOk.cons xe4 (SpecsOk.nil _)))).at _) rfl (iv:=yy8 pix (svD M pix y) (svP M pix y)) (i:=0) (A:=q4c [tMask,tInts,tInts]) (fresh:=true) (own:=some 43) (deep:=none) (g:=gSv) (x:=(M,pix,y,())) (m0:=m.cells.or (View.from wr w.heap.size)) (ρ:=[]) (s:=⟨[(1,.dat (.int .i64) pix),(9,.dat (.list (.int .i64)) (qa8 M pix y))],λ_=>.any,[]⟩) hk hm kq rfl ?_ ?_
   ·refine⟨λi=>?_,rfl,λv hv=>by grind,trivial,λg=>by cases g <;> trivial,λg g' v v' b _ l1=>?_,View.or_on hmw hfr,View.le_or,λb o hbb=>?_,q3u.2 hb,λg v b l1=>?_,λg v hv _=>by grind [base0]⟩
    ·match i with
     | 1=>exact Rd.cle (View.cle_trans (View.cells_cle m) View.le_or.cle) hu2
     | 9=>
      have h1:=hP.rd
      rw[HN.out,x0l] at h1
      rw[HN.out]
      exact Rd.le (View.or_le hmw hfr) h1
     | 0=>exact⟨_,rfl⟩
     | 2=>exact⟨_,rfl⟩
     | 3=>exact⟨_,rfl⟩
     | 4=>exact⟨_,rfl⟩
     | 5=>exact⟨_,rfl⟩
     | 6=>exact⟨_,rfl⟩
     | 7=>exact⟨_,rfl⟩
     | 8=>exact⟨_,rfl⟩
     | i+10=>exact⟨_,rfl⟩
    ·simp
    ·unfold View.or at hbb
     cases hmb:m.cells b with
     | some o'=>grind
     | none=>
      rw[hmb] at hbb
      unfold View.from at hbb
      simp only at hbb
      split at hbb
      ·rename_i hge; exact .inr ⟨hge,λh=>by have h:b<w.heap.size:=h; omega⟩
      grind
    simp
   ·refine vcs (xe5 (qa8 M pix y)/\((↑pix.length:Int)=(↑pix.length:Int)/\(0:Int)<=(↑pix.length:Int)/\(↑pix.length:Int)<=(1000000:Int))/\∃(v0:Unit),∃(v1:Nat),Nat.le v1 pix.length/\((True/\(0:Int)=(↑v1:Int)/\True)/\List.replicate (↑pix.length:Int).toNat (Ty.dflt (Ty.prod (Ty.int .i64) (Ty.int .i64)))=ovr qo4 (λ(v2:Nat)=>((0:Ty.den (Ty.int .i64)),(1:Ty.den (Ty.int .i64)))) (List.replicate pix.length ((0:Ty.den (Ty.int .i64)),(0:Ty.den (Ty.int .i64)))) v1/\True)/\∀(v2:Nat),Nat.le v2 pix.length->(decide ((↑v2:Int)<(↑(List.replicate (↑pix.length:Int).toNat (Ty.dflt (Ty.prod (Ty.int .i64) (Ty.int .i64)))).length:Int))=true->((0:Int)<=(↑v2:Int)/\(↑v2:Int)<(↑(ovr qo4 (λ(v5:Nat)=>((0:Ty.den (Ty.int .i64)),(1:Ty.den (Ty.int .i64)))) (List.replicate pix.length ((0:Ty.den (Ty.int .i64)),(0:Ty.den (Ty.int .i64)))) v2).length:Int))/\v2<(ovr qo4 (λ(v5:Nat)=>((0:Ty.den (Ty.int .i64)),(1:Ty.den (Ty.int .i64)))) (List.replicate pix.length ((0:Ty.den (Ty.int .i64)),(0:Ty.den (Ty.int .i64)))) v2).length/\fits .i64 ((↑v2:Int)+(1:Int))/\∃(v5:Nat),Nat.le v5 pix.length/\pix.length-v5<pix.length-v2/\(True/\(↑v2:Int)+(1:Int)=(↑v5:Int)/\True)/\List.set (ovr qo4 (λ(v6:Nat)=>((0:Ty.den (Ty.int .i64)),(1:Ty.den (Ty.int .i64)))) (List.replicate pix.length ((0:Ty.den (Ty.int .i64)),(0:Ty.den (Ty.int .i64)))) v2) v2 ((0:Int),(1:Int))=ovr qo4 (λ(v6:Nat)=>((0:Ty.den (Ty.int .i64)),(1:Ty.den (Ty.int .i64)))) (List.replicate pix.length ((0:Ty.den (Ty.int .i64)),(0:Ty.den (Ty.int .i64)))) v5/\True)/\(decide ((↑v2:Int)<(↑(List.replicate (↑pix.length:Int).toNat (Ty.dflt (Ty.prod (Ty.int .i64) (Ty.int .i64)))).length:Int))=false->∃(v5:Unit),∃(v6:Nat),(v6<=(svP M pix y).length/\∀(v7:Nat),Nat.le (Nat.succ v7) v6->nI (svP M pix y) v7=(↑pix.length:Int)->False)/\((True/\(0:Int)=(↑v6:Int)/\True)/\ovr qo4 (λ(v7:Nat)=>((0:Ty.den (Ty.int .i64)),(1:Ty.den (Ty.int .i64)))) (List.replicate pix.length ((0:Ty.den (Ty.int .i64)),(0:Ty.den (Ty.int .i64)))) v2=qw4 pix.length (svD M pix y) (svP M pix y) v6/\True)/\∀(v7:Nat),(v7<=(svP M pix y).length/\∀(v9:Nat),Nat.le (Nat.succ v9) v7->nI (svP M pix y) v9=(↑pix.length:Int)->False)->(decide ((↑v7:Int)<(↑(qb5 (qa8 M pix y)).2.length:Int))=true->((0:Int)<=(↑v7:Int)/\(↑v7:Int)<(↑(qb5 (qa8 M pix y)).2.length:Int))/\((nI (qb5 (qa8 M pix y)).2 v7==(↑pix.length:Int))=true->(svR M pix y).1=[]/\(0:Int)=(svR M pix y).2.1/\false=(svR M pix y).2.2/\True)/\((nI (qb5 (qa8 M pix y)).2 v7==(↑pix.length:Int))=false->((0:Int)<=(↑v7:Int)/\(↑v7:Int)<(↑(qb5 (qa8 M pix y)).1.length:Int))/\((0:Int)<=(↑pix.length:Int)/\(↑pix.length:Int)<(↑(nL (qb5 (qa8 M pix y)).1 v7).length:Int))/\((0:Int)<=(↑v7:Int)/\(↑v7:Int)<(↑(qb5 (qa8 M pix y)).1.length:Int))/\((0:Int)<=nI (qb5 (qa8 M pix y)).2 v7/\nI (qb5 (qa8 M pix y)).2 v7<(↑(nL (qb5 (qa8 M pix y)).1 v7).length:Int))/\(((-4000000000000000000:Int)<=nI (nL (qb5 (qa8 M pix y)).1 v7) (↑pix.length:Int).toNat/\nI (nL (qb5 (qa8 M pix y)).1 v7) (↑pix.length:Int).toNat<=BIG)/\((-4000000000000000000:Int)<=nI (nL (qb5 (qa8 M pix y)).1 v7) (nI (qb5 (qa8 M pix y)).2 v7).toNat/\nI (nL (qb5 (qa8 M pix y)).1 v7) (nI (qb5 (qa8 M pix y)).2 v7).toNat<=BIG)/\nI (nL (qb5 (qa8 M pix y)).1 v7) (nI (qb5 (qa8 M pix y)).2 v7).toNat≠(0:Ty.den tInt))/\((0:Int)<=nI (qb5 (qa8 M pix y)).2 v7/\nI (qb5 (qa8 M pix y)).2 v7<(↑(qw4 pix.length (svD M pix y) (svP M pix y) v7).length:Int))/\(nI (qb5 (qa8 M pix y)).2 v7).toNat<(qw4 pix.length (svD M pix y) (svP M pix y) v7).length/\fits .i64 ((↑v7:Int)+(1:Int))/\∃(v11:Nat),(v11<=(svP M pix y).length/\∀(v12:Nat),Nat.le (Nat.succ v12) v11->nI (svP M pix y) v12=(↑pix.length:Int)->False)/\(svP M pix y).length-v11<(svP M pix y).length-v7/\(True/\(↑v7:Int)+(1:Int)=(↑v11:Int)/\True)/\List.set (qw4 pix.length (svD M pix y) (svP M pix y) v7) (nI (qb5 (qa8 M pix y)).2 v7).toNat ((q4n (nI (nL (qb5 (qa8 M pix y)).1 v7) (↑pix.length:Int).toNat) (nI (nL (qb5 (qa8 M pix y)).1 v7) (nI (qb5 (qa8 M pix y)).2 v7).toNat)).1,(q4n (nI (nL (qb5 (qa8 M pix y)).1 v7) (↑pix.length:Int).toNat) (nI (nL (qb5 (qa8 M pix y)).1 v7) (nI (qb5 (qa8 M pix y)).2 v7).toNat)).2)=qw4 pix.length (svD M pix y) (svP M pix y) v11/\True))/\(decide ((↑v7:Int)<(↑(qb5 (qa8 M pix y)).2.length:Int))=false->fits .i64 ((↑pix.length:Int)-(↑(qb5 (qa8 M pix y)).2.length:Int))/\qw4 pix.length (svD M pix y) (svP M pix y) v7=(svR M pix y).1/\(↑pix.length:Int)-(↑(qb5 (qa8 M pix y)).2.length:Int)=(svR M pix y).2.1/\true=(svR M pix y).2.2/\True))) ?_
    have hz:∀k,(ovr qo4 (λ_=>(0,1)) (List.replicate pix.length (0,0)) k).length=pix.length:=λk=>by grind [qs5]
    have hol:∀k,(qw4 pix.length (svD M pix y) (svP M pix y) k).length=pix.length:=qz2 _ _ _
    have har:=hp.ar
    have hpl:=hp.pl
    have hcnt:=har.cnt
    have hPl:=har.lenP
    simp only[show(qb5 (qa8 M pix y)).snd=svP M pix y from rfl,show(qb5 (qa8 M pix y)).fst=svD M pix y from rfl,List.length_replicate,hz,hol]
    have hR:svR M pix y=if qt7 (svP M pix y) pix.length=true then([],0,false) else(qw4 pix.length (svD M pix y) (svP M pix y) (svP M pix y).length,(pix.length:Int)-(svP M pix y).length,true):=rfl
    refine⟨hp.rd,ow,(),0,zae _,⟨rfl,(qt0 qo4 _ _).symm⟩,λi hi=>⟨λhlt=>⟨hlt,hlt,qa3,i+1,hlt,ow,ow,qq5 qo4 (λ_=>(0,1)) _ _⟩,λhge=>?_⟩⟩
    obtain rfl:i=pix.length:=ow
    refine⟨(),0,⟨zae _,λj hj=>absurd hj ow⟩,⟨rfl,?_⟩,?_⟩
    ·refine(qx6 qo4 (λ_=>(0,1)) _ _ (by simp)).trans ?_
     rw[zbh,qw4]
     apply zbb (by simp)
     simp
    rintro i ⟨hi,hno⟩
    refine⟨λhlt=>⟨hlt,λhe=>?_,λhe=>?_⟩,λhge=>?_⟩
    ·have:qt7 (svP M pix y) pix.length=true:=by
      unfold qt7
      rw[zbm]
      exact⟨nI (svP M pix y) i,by grind [qf1,List.getElem_mem],beq_iff_eq.2 he⟩
     grind
    ·have h1:=har.pv i hlt
     have h2:=har.each i ow
     have h3:=har.nz i hlt
     have h4:=har.bigD i hlt
     have h5:=har.bigN i hlt
     unfold BIG at h4 h5 ⊢
     have h6:nI (svP M pix y) i<pix.length:=Int.lt_iff_le_and_ne.2 ⟨h1.2,he⟩
     have h7:(nI (svP M pix y) i).toNat<pix.length:=ow
     have h8:nI (svP M pix y) i<((nL (svD M pix y) i).length:Int):=ow
     refine⟨ow,ow,ow,⟨h1.1,h8⟩,⟨h5,h4,h3⟩,⟨h1.1,h6⟩,h7,qa3,i+1,⟨hlt,λj hj=>?_⟩,ow,ow,rfl⟩
     grind
    ·obtain rfl:i=(svP M pix y).length:=ow
     have:qt7 (svP M pix y) pix.length≠true:=by
      intro h
      unfold qt7 at h
      rw[zbm] at h
      obtain⟨x,hx,he⟩:=h
      obtain⟨j,hj,rfl⟩:=zaz hx
      rw[<- qf1 _ j hj] at he
      grind
     rw[hR,zak this]
     exact⟨qa3,rfl,rfl,rfl⟩
theorem ww9:Meets Tryz.prog 291 sSv:=by
 refine⟨⟨_,_,Tryz.func291,rfl,rfl⟩,λw m args vs k hm hargs hrun=>?_⟩
 obtain⟨⟨M,pix,y,⟨⟩⟩,⟨hp,hk⟩,hx⟩:=qo8 hrun hargs
 have hp:x9t M pix y:=hp
 obtain⟨u1,us,rfl,h1,u2,us2,rfl,h2,u3,us3,rfl,h3,h4⟩:=hx
 obtain rfl:us3=[]:=h4
 obtain⟨A,c,e,hSI⟩:=x73 hm (show Rd m (.list (.int .i64)) y [u3] from h3)
 rw[hp.yl] at e
 subst e
 exact w1q hm hp h1 h2 h3 hk
end Go.Proofs.YtnchigbbjajiiaaGreat
