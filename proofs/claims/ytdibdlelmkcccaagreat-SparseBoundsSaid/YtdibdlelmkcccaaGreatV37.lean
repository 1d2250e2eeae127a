/- Great numbers of the reference: contracts by the engine. No condition. -/
import Derived.Test.YtdibdlelmkcccaaGreatW6
import Derived.Test.YtdibdlelmkcccaaGreatW1
import Derived.Test.YtdibdlelmkcccaaGreatV26
set_option linter.unusedVariables false
namespace Go.Proofs.YtdibdlelmkcccaaGreat
open Go Go.RowKit Eng
theorem q3i {m:List (List Int)} {y pix:List Int} (h:Asked m y pix):Small m.length pix.length (pix.length+1) (qg2 m pix y):=by
 have hM:=h.msk
 have h6:=hM.rows6
 have hp10:=hM.pix10
 have hpl:=h.nam.len
 have hat:∀i,i<m.length->nL (qg2 m pix y) i=qp1 (nL m i) pix++[nI y i]:=λi hi=>by
  rw[w4e m pix y i hi,qs8 m pix i hi]
 have hlo:∀i,i<m.length->∀c,c<pix.length->(nI (nL (qg2 m pix y) i) c).natAbs<=1:=λi hi c hc=>by
  rw[hat i hi,ql1 _ _ (by rw[qk8]; exact hc),qv2 _ _ _ hc]
  have h1:=h.nam.at_ c hc
  have h2:=hM.small i hi (nI pix c).toNat (by omega)
  omega
 refine⟨⟨q68 m pix y,λi hi=>by rw[hat i hi,List.length_append,qk8]; rfl⟩,h6,by omega,by omega,λa c ha hc=>hlo a ha c hc,λa c ha hc=>?_⟩
 rcases Nat.lt_or_ge c pix.length with q | q
 ·have:=hlo a ha c q; omega
 ·have e:nI (nL (qg2 m pix y) a) c=nI y a:=by
   rw[hat a ha,show c=(qp1 (nL m a) pix).length by rw[qk8]; omega,qr4]
  have:=h.at_ a ha
  rw[e]
  omega
theorem xt3 (m:List (List Int)) (pix y:List Int):x5u m pix y=q70 m pix y:=by
 unfold x5u q70
 split
 ·rename_i h
  have hA:=Asked.of h
  have hS:=q3i hA
  have hW:rdW (qg2 m pix y)=pix.length+1:=hS.each 0 (by have:=hA.msk.rows1; omega)
  unfold svT svR svP svD qd6 wq8
  rw[hW]
  exact(x1t hS.toMat).symm
 ·rfl
theorem xt4 (m:List (List Int)) (y pix:List Int):x2z m y pix=q4c m y pix:=by
 unfold x2z q4c x7h x1n
 rw[xt3]
theorem x1u {m:List (List Int)} {pix y:List Int} (hl:pix.length<=100000):q3b m pix y:=by
 refine⟨by omega,λh=>?_⟩
 have hA:=Asked.of h
 have hS:=q3i hA
 refine⟨q3h hS,?_⟩
 have hst:=qy4 hS.toMat pix.length (by omega)
 have hpl:=hst.pl
 have hlen:=hst.len
 have hB:BIG=4000000000000000000:=rfl
 refine⟨λk hk=>?_,λk hk=>?_,λk hk=>?_⟩
 ·have:=(hst.pos k hk).2.2.1
  show nI (nL (qc7 (qg2 m pix y) pix.length).1 k) (nI (qc7 (qg2 m pix y) pix.length).2 k).toNat≠0
  omega
 ·have hk:k<(qc7 (qg2 m pix y) pix.length).2.length:=hk
  have h1:=hst.pos k hk
  have:=(hst.small hS (Nat.le_refl _) (i:=k) (by omega)).2 (nI (qc7 (qg2 m pix y) pix.length).2 k).toNat (by omega)
  show qg3 BIG (nI (nL (qc7 (qg2 m pix y) pix.length).1 k) (nI (qc7 (qg2 m pix y) pix.length).2 k).toNat)
  constructor <;> omega
 ·have hk:k<(qc7 (qg2 m pix y) pix.length).2.length:=hk
  have:=(hst.small hS (Nat.le_refl _) (i:=k) (by omega)).2 pix.length (by omega)
  show qg3 BIG (nI (nL (qc7 (qg2 m pix y) pix.length).1 k) pix.length)
  constructor <;> omega
theorem x5v {m:List (List Int)} {pix y:List Int} (hf:q77 m) (hl:pix.length<=100000):x1m m pix y:=by
 refine⟨hf,hl,λh=>?_⟩
 have hA:=Asked.of h
 have hS:=q3i hA
 have hM:=hA.msk
 have h1:=hM.rows1
 have h6:=hM.rows6
 have hp10:=hM.pix10
 have hpl:=hA.nam.len
 have hW:rdW (qg2 m pix y)=pix.length+1:=hS.each 0 (by omega)
 obtain⟨r1,r2⟩:=w1p hS (by omega)
 have hrst:=qv4 hS.toMat (pix.length+1) (Nat.le_refl _)
 have hB:BIG=4000000000000000000:=rfl
 have e1:svD m pix y=(qg0 (qg2 m pix y) (pix.length+1)).done_:=by unfold svD qd6; rw[hW]
 have e2:svP m pix y=(qg0 (qg2 m pix y) (pix.length+1)).piv:=by unfold svP qd6; rw[hW]
 refine⟨by omega,⟨by omega,by omega,λi hi j hj=>?_⟩,by omega,hA.len,r1,?_⟩
 ·have:=hA.nam.at_ j hj
  rw[hM.each i hi]; exact this
 ·rw[e1,e2]
  obtain⟨hst,hcnt,_⟩:=hrst
  have hlen:=hst.len
  have hpl2:=hst.pl
  rw[List.length_append] at hlen
  have hD:∀i,i<(qg0 (qg2 m pix y) (pix.length+1)).piv.length->nL ((qg0 (qg2 m pix y) (pix.length+1)).done_++(qg0 (qg2 m pix y) (pix.length+1)).left) i=nL (qg0 (qg2 m pix y) (pix.length+1)).done_ i:=λi hi=>ql2 _ _ (by omega)
  refine⟨hcnt,by omega,λk hk=>?_,λk hk=>?_,λk hk=>?_,λk hk=>?_,λk hk=>?_⟩
  ·rw[<- hD k (by omega)]; exact hst.each k (by omega)
  ·have:=hst.pos k hk; omega
  ·have:=(hst.pos k hk).2.2.1
   rw[hD k hk] at this
   omega
  ·have:=hst.pos k hk
   have:=r2 k (by omega) (nI (qg0 (qg2 m pix y) (pix.length+1)).piv k).toNat (by omega)
   constructor <;> omega
  ·have:=r2 k (by omega) pix.length (by omega)
   constructor <;> omega
structure xg4 (m:List (List Int)) (y pix:List Int):Prop where
 chk:q1i m y pix=0
 rows:pix.length<=m.length
 fst:(q4c m y pix).1.1=pix
 len:(q4c m y pix).1.2.length=pix.length
theorem x1v {m:List (List Int)} {y pix:List Int} (h:(q4c m y pix).2=true):xg4 m y pix:=by
 unfold q4c at h
 split at h
 ·cases h
 ·rename_i hno
  have h0:(q70 m pix y).2=0:=Classical.byContradiction λq=>hno (.inl q)
  have ef:q4c m y pix=((pix,(q70 m pix y).1),true):=by unfold q4c; rw[if_neg hno]
  rw[show xg4 m y pix↔xg4 m y pix from Iff.rfl]
  have hc:q1i m y pix=0:=Classical.byContradiction λq=>by
   unfold q70 at h0
   rw[if_neg q] at h0
   exact q h0
  have hA:=Asked.of hc
  have hS:=q3i hA
  have hst:=qy4 hS.toMat pix.length (by omega)
  have hpl:=hst.pl
  have es:q70 m pix y=w7j (qc7 (qg2 m pix y) pix.length).1 (qc7 (qg2 m pix y) pix.length).2 pix.length:=by unfold q70; rw[if_pos hc]; rfl
  have hle:(qc7 (qg2 m pix y) pix.length).2.length<=pix.length:=(⟨λq hq=>⟨(hst.pos q hq).1,(hst.pos q hq).2.1⟩,hst.asc⟩:Asc pix.length _).le
  rw[es] at h0
  unfold w7j at h0
  split at h0
  ·cases h0
  ·rename_i hn
   split at h0
   ·cases h0
   ·rename_i hl
    refine⟨hc,by omega,by rw[ef],?_⟩
    rw[ef]
    show(q70 m pix y).1.length=_
    rw[es]
    unfold w7j
    rw[if_neg hn,if_neg hl]
    show(List.map _ (List.range _)).length=_
    rw[List.length_map,List.length_range]
    omega
theorem xg5:((List.range 8).all λn=>decide (qd7 n=(List.range (n+1)).flatMap λ(k:Nat)=>qe6 (n:Nat) (k:Nat)))=true:=by decide +kernel
theorem wv5 {n:Nat} (h:n<=7):qd7 n=(List.range (n+1)).flatMap λ(k:Nat)=>qe6 (n:Nat) (k:Nat):=by
 have:=List.all_eq_true.1 xg5 n (List.mem_range.2 (by omega))
 exact of_decide_eq_true this
theorem q7g {n k:Nat} {s:List Int} (h:s∈qe6 (n:Nat) (k:Nat)):s.length=k/\k<=n:=by
 unfold qe6 at h
 split at h
 ·have:=wm7 h
  exact⟨by omega,by omega⟩
 ·cases h
theorem wv6 (m:List (List Int)) (y:List Int) (s t:List (List Int)):qg7 m y (s++t)=qg7 m y s++qg7 m y t:=List.filterMap_append
theorem wv7 (m:List (List Int)) (y:List Int) (s:List (List Int)):q5k m y s=qg7 m y s:=by
 unfold q5k qg7
 congr 1
 funext pix
 rw[xt4]
theorem wo6 (m:List (List Int)) (y:List Int):∀K,qj3 m y K=qg7 m y ((List.range K).flatMap λ(k:Nat)=>qe6 (nL m 0).length (k:Nat))
 | 0=>rfl
 | K+1=>by
  rw[qj3,wo6 m y K,List.range_succ,List.flatMap_append,wv6]
  simp
theorem xt5 {m:List (List Int)} (y:List Int) (h:(nL m 0).length<=7):xs9 m y=qj3 m y ((nL m 0).length+1):=by
 unfold xs9
 rw[wv7,wv5 h,wo6]
theorem wv8 {m:List (List Int)} {y:List Int} {s:List (List Int)} {f:Fit} (h:f∈qg7 m y s):∃pix∈s,xg4 m y pix/\f=(q4c m y pix).1:=by
 unfold qg7 at h
 rw[List.mem_filterMap] at h
 obtain⟨pix,h1,h2⟩:=h
 split at h2
 ·rename_i h3
  exact⟨pix,h1,x1v h3,(Option.some.inj h2).symm⟩
 ·cases h2
theorem q7h {m:List (List Int)} {y:List Int} {k:Nat} {f:Fit} (h:f∈qg7 m y (qe6 (nL m 0).length (k:Nat))):f.1.length=k/\k<=m.length/\k<=(nL m 0).length:=by
 obtain⟨pix,h1,h2,rfl⟩:=wv8 h
 have h3:=q7g h1
 have h4:=h2.rows
 rw[h2.fst]
 omega
theorem w8c (m:List (List Int)) (y:List Int) {k:Int} (hk:0<=k):∀K,w73 k (qj3 m y K)=qj3 m y (min K (fitsN m k))
 | 0=>by rw[Nat.zero_min]; rfl
 | K+1=>by
  have hN:fitsN m k=(min (min k (nL m 0).length) m.length+1).toNat:=rfl
  rw[qj3]
  unfold w73
  rw[List.filter_append]
  have ih:=w8c m y hk K
  unfold w73 at ih
  rw[ih]
  by_cases e:K<fitsN m k
  ·rw[show min K (fitsN m k)=K by omega,show min (K+1) (fitsN m k)=K+1 by omega,qj3]
   congr 1
   rw[List.filter_eq_self]
   intro f hf
   have:=q7h hf
   exact decide_eq_true (by omega)
  ·rw[show min K (fitsN m k)=fitsN m k by omega,show min (K+1) (fitsN m k)=fitsN m k by omega]
   rw[List.filter_eq_nil_iff.2 λf hf=>?_,List.append_nil]
   have:=q7h hf
   rw[decide_eq_true_eq]
   omega
theorem xg6 {m:List (List Int)} (y:List Int) {k:Int} (hk:0<=k) (h7:(nL m 0).length<=7):qk2 m y k=w73 k (xs9 m y):=by
 rw[xt5 y h7,w8c m y hk]
 have hN:fitsN m k=(min (min k (nL m 0).length) m.length+1).toNat:=rfl
 unfold qk2
 rw[show min ((nL m 0).length+1) (fitsN m k)=fitsN m k by omega]
theorem xt6 {m:List (List Int)} {y:List Int} (hf:q77 m) (hM:Mk m) (h7:(nL m 0).length<=7):w72 m y:=by
 have h1:=hM.rows1
 refine⟨by omega,h7,λs hs=>x5v hf ?_⟩
 have:=((q3d (n:=(nL m 0).length) (k:=128) h7 (Nat.le_refl _)).2 s hs).1
 omega
theorem xt7 {m:List (List Int)} {y:List Int} (h:wm2 m y=0):Mk m:=Mk.of (w1k (pix:=[]) h).2
theorem xt8 (m:List (List Int)) (y:List Int):q1i m y []=wm2 m y:=by
 by_cases h:wm2 m y=0
 ·rw[(w1k h).1,h]; rfl
 ·exact xs8 h
theorem xg7 {m:List (List Int)} {y:List Int} {k:Int} (hf:q77 m) (hM:Mk m) (h7:(nL m 0).length<=7) (h0:0<=k) (h1:k<=10):w1h m y k:=by
 have r1:=hM.rows1
 have r6:=hM.rows6
 refine⟨⟨h0,by omega,by omega,by omega,by omega,λj hj s hs=>?_⟩,?_⟩
 ·have:=q7g hs
  exact⟨x1u (by omega),by omega⟩
 ·rw[xg6 y h0 h7]
  have e1:=xg0 (xt6 (y:=y) hf hM h7)
  have e2:(w73 k (xs9 m y)).length<=(xs9 m y).length:=List.length_filter_le _ _
  omega
theorem x1w {m:List (List Int)} {y:List Int} (hf:q77 m) (hl:ql0 m=true):q67 m y:=by
 refine⟨λh=>?_⟩
 rw[xt8] at h
 have hM:=xt7 h
 exact xg7 hf hM (q5j hl hM) (by decide) (by decide)
theorem q7i (l:List Int) {p:Nat} (hp:p<l.length) (x:Int) (q:Nat):nI (l.set p x) q=if q=p then x else nI l q:=by
 by_cases e:q=p
 ·subst e
  rw[if_pos rfl,qh7 _ _ (by rw[List.length_set]; exact hp),List.getElem_set_self]
 ·rw[if_neg e]
  unfold nI qa1
  rw[List.getD_eq_getElem?_getD,List.getD_eq_getElem?_getD,List.getElem?_set_ne (Ne.symm e)]
end Go.Proofs.YtdibdlelmkcccaaGreat
set_option linter.unusedSimpArgs false
namespace Go.Proofs.YtdibdlelmkcccaaGreat
open Go Go.RowKit Eng
theorem w8d:Mk q9c:=Mk.of (by decide +kernel)
theorem w8e {n:Nat} {s:List Int} {k:Nat} (h:s∈qe6 (n:Nat) (k:Nat)):Named n s:=by
 unfold qe6 at h
 split at h
 ·have hi:=wc7 h
  refine⟨λj hj=>?_,λi j hij hj=>?_⟩
  ·have hj:j<(k:Int).toNat:=by rw[<- hi.len]; exact hj
   have h1:=hi.lo j hj
   have h2:=hi.hi j hj
   omega
  ·have hk:=hi.len
   induction j with
   | zero=>omega
   | succ j ih=>
    have h1:=hi.asc (j+1) (by omega) (by omega)
    rw[Nat.add_sub_cancel] at h1
    rcases Nat.lt_succ_iff_lt_or_eq.1 hij with q | q
    ·have:=ih q (by omega); omega
    ·rw[q]; exact h1
 ·cases h
theorem q9i {m:List (List Int)} {pix:List Int} (hM:Mk m) (hn:Named (nL m 0).length pix):Small m.length pix.length pix.length (qu1 m pix):=by
 have h6:=hM.rows6
 have hp10:=hM.pix10
 have hpl:=hn.len
 have hat:∀i,i<m.length->nL (qu1 m pix) i=qp1 (nL m i) pix:=λi hi=>by
  unfold qu1
  rw[q8x _ _ _ i hi,List.append_nil]
 have hlo:∀i,i<m.length->∀c,c<pix.length->(nI (nL (qu1 m pix) i) c).natAbs<=1:=λi hi c hc=>by
  rw[hat i hi,qv2 _ _ _ hc]
  have h1:=hn.at_ c hc
  have h2:=hM.small i hi (nI pix c).toNat (by omega)
  omega
 exact⟨⟨qn5 _ _ _,λi hi=>by rw[hat i hi,qk8]⟩,h6,Nat.le_refl _,by omega,λa c ha hc=>hlo a ha c hc,λa c ha hc=>by have:=hlo a ha c hc; omega⟩
theorem x1x {m:List (List Int)} (hM:Mk m):wn0 m:=by
 have:=q3h (q9i hM (Named.idx _))
 rw[qk0] at this
 exact⟨this⟩
def x5w (r:List (List Int)) (piv:List Int) (n:Nat):Bool:=
 ((List.range piv.length).all λk=>decide (nI (nL r k) (nI piv k).toNat≠0) && (List.range n).all λi=>decide (qg3 BIG (nI (nL r k) i)))
 && (List.range n).all λf=>(piv.any λe=>(f:Int)==e) || (((List.range (piv.length+1)).all λk=>decide (qg3 BIG (qf1 r piv f k)/\qf1 r piv f k≠0))
 && (List.range piv.length).all λk=>decide (qg3 BIG ((0-nI (nL r k) f)*qf1 r piv f piv.length)))
theorem xt9 {r:List (List Int)} {piv:List Int} {n:Nat} (h:x5w r piv n=true):w7h r piv n:=by
 unfold x5w at h
 simp only[Bool.and_eq_true,Bool.or_eq_true,List.all_eq_true,List.mem_range,decide_eq_true_eq] at h
 obtain⟨h1,h2⟩:=h
 refine⟨λk hk=>(h1 k hk).1,λk hk=>(h1 k hk).2,λf hf hp k hk=>?_,λf hf hp k hk=>?_⟩
 ·rcases h2 f hf with q | q
  ·rw[hp] at q; cases q
  ·exact q.1 k (by omega)
 ·rcases h2 f hf with q | q
  ·rw[hp] at q; cases q
  ·exact q.2 k hk
theorem xu0:((List.range 3).all λk=>(qe6 (3:Nat) (k+1:Nat)).all λs=>x5w (qi6 q9c s).1 (qi6 q9c s).2 s.length)=true:=by decide +kernel
theorem xu1:wd0 q9c:=by
 refine⟨λ_=>⟨x1x w8d,λk hk s hs=>?_⟩,?_⟩
 ·have hn:(nL q9c 0).length=3:=rfl
  rw[hn] at hk hs
  have h1:=w8e hs
  have h2:=List.all_eq_true.1 (List.all_eq_true.1 xu0 k (List.mem_range.2 hk)) s hs
  exact⟨ChoOk.of w8d h1 λ_ _=>⟨trivial,Nat.zero_le _⟩,q3h (q9i w8d h1),xt9 h2⟩
 ·decide +kernel
theorem xu2:ql0 q9c=true:=by decide +kernel
theorem xu3:q77 q9c:=by
 have h:∀i,i<q9c.length->(nL q9c i).length<=9223372036854775807:=by decide
 exact⟨by decide,h⟩
theorem w1r:w1j q9c [1,1]=(([1],[(1,1)]),0):=by decide +kernel
abbrev xu4:qc0:=qf8 true none [] [.bool] (λ_=>True) (λ_=>(true,()))
theorem wo7:qd3 Tryz.prog 10 xu4:=by
 refine meets (snd (SpecsOk.cons w7y (SpecsOk.cons w70 (SpecsOk.cons q9a (SpecsOk.cons wu4 (SpecsOk.nil _)))))) Tryz.func10 rfl rfl (λ_ _=>none) (λ_=>by kernel_rfl) (by decide) ?_
 rintro⟨⟩ -
 refine @qd8 _ (True/\q67 q9c [(1:Int),(1:Int)]/\True/\wd0 q9c/\(((0:Int)==(0:Int))=true->w7s (Prod.fst (Prod.fst (w1j q9c [(1:Int),(1:Int)])),Prod.snd (Prod.fst (w1j q9c [(1:Int),(1:Int)])))/\(wu3 (Prod.fst (Prod.fst (w1j q9c [(1:Int),(1:Int)])),Prod.snd (Prod.fst (w1j q9c [(1:Int),(1:Int)]))) ([(1:Int)],[((1:Int),(1:Int))])=true->(((0:Int)==(0:Int))=true->((1:Int)==(1:Int))=true)/\(((0:Int)==(0:Int))=false->false=true))/\(wu3 (Prod.fst (Prod.fst (w1j q9c [(1:Int),(1:Int)])),Prod.snd (Prod.fst (w1j q9c [(1:Int),(1:Int)]))) ([(1:Int)],[((1:Int),(1:Int))])=false->false=true))/\(((0:Int)==(0:Int))=false->false=true)) (by kernel_rfl) ?_
 try simp only[z0,z1,z2,z3,z4,z5,z6,z7,z8,z9,z10,Int.reduceEq,z11,z12,z13,z14,z15,z16,z17,z18,z19,z20,z21,z22,z23,z24,z25,z26,z27,z28,z29,z30,Int.reduceLE,Int.reduceLT,z31,z32,z33,z34,qa4]
 try simp only[qb6,qb7,qc8,List.set_cons_zero,List.cons.injEq,and_true,true_and]
 refine⟨x1w xu3 xu2,xu1,⟨?_,λ_ h=>absurd trivial h,λh=>?_⟩,λh=>absurd trivial h⟩
 ·rw[w1r]; exact⟨by decide,by decide⟩
 ·rw[w1r] at h; cases h
def BS:Nat:=1000000000
def xy0 (S:Nat):Nat->List Int
 | 0=>[]
 | k+1=>xy0 S k++[((S / BS ^ k % BS:Nat):Int)]
theorem wd8 (S:Nat):∀k,(xy0 S k).length=k
 | 0=>rfl
 | k+1=>by rw[xy0,List.length_append,wd8 S k]; rfl
theorem w8f (S:Nat):∀k i,i<k->nI (xy0 S k) i=((S / BS ^ i % BS:Nat):Int)
 | k+1,i,h=>by
  have hl:=wd8 S k
  rw[xy0]
  rcases Nat.lt_succ_iff_lt_or_eq.1 h with e | e
  ·rw[qh7 _ i (by rw[List.length_append]; omega),List.getElem_append_left (by omega),<- qh7 _ i (by omega)]
   exact w8f S k i e
  ·rw[qh7 _ i (by rw[List.length_append]; simp; omega),List.getElem_append_right (by omega)]
   simp[e,hl]
def xu5:Nat->Nat->Nat
 | 0,_=>0
 | f+1,N=>if N=0 then 0 else xu5 f (N / BS)+1
def lenD (N:Nat):Nat:=xu5 N N
theorem wv9:∀f N,N<=f->N<BS ^ xu5 f N/\(xu5 f N=0\/BS ^ (xu5 f N-1)<=N)
 | 0,N,h=>by
  rw[show N=0 by omega]
  exact⟨by show 0<BS ^ 0; decide,.inl rfl⟩
 | f+1,N,h=>by
  rw[xu5]
  by_cases q:N=0
  ·rw[if_pos q,q]
   exact⟨by decide,.inl rfl⟩
  ·rw[if_neg q]
   have hd:N / BS<N:=Nat.div_lt_self (by omega) (by decide)
   obtain⟨h1,h2⟩:=wv9 f (N / BS) (by omega)
   generalize xu5 f (N / BS)=k at h1 h2
   refine⟨?_,.inr ?_⟩
   ·rw[Nat.pow_succ]
    exact(Nat.div_lt_iff_lt_mul (by decide)).1 h1
   ·rw[Nat.add_sub_cancel]
    rcases h2 with h2 | h2
    ·rw[h2,Nat.pow_zero]; omega
    ·cases k with
     | zero=>rw[Nat.pow_zero]; omega
     | succ k=>
      rw[Nat.add_sub_cancel] at h2
      rw[Nat.pow_succ]
      exact(Nat.le_div_iff_mul_le (by decide)).1 h2
theorem xu6 (N:Nat):N<BS ^ lenD N:=(wv9 N N (Nat.le_refl _)).1
theorem xu7 (N:Nat):lenD N=0\/BS ^ (lenD N-1)<=N:=(wv9 N N (Nat.le_refl _)).2
theorem w8g {a b:Nat} (h:a<=b):BS ^ a<=BS ^ b:=Nat.pow_le_pow_right (by decide) h
theorem xg8 {N i:Nat}:i<lenD N↔BS ^ i<=N:=by
 constructor
 ·intro h
  rcases xu7 N with e | e
  ·omega
  ·exact Nat.le_trans (w8g (by omega)) e
 ·intro h
  refine Nat.lt_of_not_le λq=>?_
  have:=w8g q
  have:=xu6 N
  omega
def dgs (N:Nat):List Int:=xy0 N (lenD N)
theorem xu8 (N:Nat):(dgs N).length=lenD N:=wd8 _ _
theorem x1y (N i:Nat):(if i<lenD N then nI (dgs N) i else 0)=((N / BS ^ i % BS:Nat):Int):=by
 by_cases h:i<lenD N
 ·rw[if_pos h]; exact w8f _ _ _ h
 ·rw[if_neg h]
  have:N<BS ^ i:=Nat.lt_of_not_le λq=>h (xg8.2 q)
  rw[Nat.div_eq_of_lt this]; rfl
def x1z (l:List Int):Nat->Nat
 | 0=>0
 | k+1=>x1z l k+BS ^ k*(nI l k).toNat
def valL (l:List Int):Nat:=x1z l l.length
end Go.Proofs.YtdibdlelmkcccaaGreat
set_option linter.unusedSimpArgs false
namespace Go.Proofs.YtdibdlelmkcccaaGreat
open Go Go.RowKit Eng
structure DigOk (l:List Int):Prop where
 len:l.length<=1000
 eq:l=dgs (valL l)
theorem DigOk.lenD {l:List Int} (h:DigOk l):l.length=lenD (valL l):=by
 conv=>lhs; rw[h.eq]
 rw[xu8]
theorem DigOk.at_ {l:List Int} (h:DigOk l) {i:Nat} (hi:i<l.length):nI l i=((valL l / BS ^ i % BS:Nat):Int):=by
 have:=x1y (valL l) i
 rw[if_pos (by rw[<- h.lenD]; exact hi),<- h.eq] at this
 exact this
end Go.Proofs.YtdibdlelmkcccaaGreat
