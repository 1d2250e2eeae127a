/- The program's solutions and fits are the reference's: plain mathematics. No condition. -/
import Derived.Test.YtdibdlelmkcccaaW6
set_option linter.unusedVariables false
namespace Go.Proofs.Ytdibdlelmkcccaa
open Go Go.RowKit Eng
theorem qw2 {m:List (List Int)} {y pix:List Int} (h:Asked m y pix):Small m.length pix.length (pix.length+1) (qd3 m pix y):=by
 have hM:=h.msk
 have h6:=hM.rows6
 have hp10:=hM.pix10
 have hpl:=h.nam.len
 have hat:∀i,i<m.length->nL (qd3 m pix y) i=qu8 (nL m i) pix++[nI y i]:=λi hi=>by
  rw[q3o m pix y i hi,q4w m pix i hi]
 have hlo:∀i,i<m.length->∀c,c<pix.length->(nI (nL (qd3 m pix y) i) c).natAbs<=1:=λi hi c hc=>by
  rw[hat i hi,qt3 _ _ (by rw[qn4]; exact hc),q4s _ _ _ hc]
  have h1:=h.nam.at_ c hc
  have h2:=hM.small i hi (nI pix c).toNat (by omega)
  omega
 refine⟨⟨q6m m pix y,λi hi=>by rw[hat i hi,List.length_append,qn4]; rfl⟩,h6,by omega,by omega,λa c ha hc=>hlo a ha c hc,λa c ha hc=>?_⟩
 rcases Nat.lt_or_ge c pix.length with q | q
 ·have:=hlo a ha c q; omega
 ·have e:nI (nL (qd3 m pix y) a) c=nI y a:=by
   rw[hat a ha,show c=(qu8 (nL m a) pix).length by rw[qn4]; omega,q0i]
  have:=h.at_ a ha
  rw[e]
  omega
theorem xm4 (m:List (List Int)) (pix y:List Int):x3a m pix y=qt4 m pix y:=by
 unfold x3a qt4
 split
 ·rename_i h
  have hA:=Asked.of h
  have hS:=qw2 hA
  have hW:rdW (qd3 m pix y)=pix.length+1:=hS.each 0 (by have:=hA.msk.rows1; omega)
  unfold svT svR svP svD qu1 qn8
  rw[hW]
  exact(xx7 hS.toMat).symm
 ·rfl
theorem wq0 (m:List (List Int)) (y pix:List Int):xq4 m y pix=qk0 m y pix:=by
 unfold xq4 qk0 x4s xx3
 rw[xm4]
theorem w0e {m:List (List Int)} {pix y:List Int} (hl:pix.length<=100000):qs7 m pix y:=by
 refine⟨by omega,λh=>?_⟩
 have hA:=Asked.of h
 have hS:=qw2 hA
 refine⟨q6q hS,?_⟩
 have hst:=qr4 hS.toMat pix.length (by omega)
 have hpl:=hst.pl
 have hlen:=hst.len
 have hB:BIG=4000000000000000000:=rfl
 refine⟨λk hk=>?_,λk hk=>?_,λk hk=>?_⟩
 ·have:=(hst.pos k hk).2.2.1
  show nI (nL (qc0 (qd3 m pix y) pix.length).1 k) (nI (qc0 (qd3 m pix y) pix.length).2 k).toNat≠0
  omega
 ·have hk:k<(qc0 (qd3 m pix y) pix.length).2.length:=hk
  have h1:=hst.pos k hk
  have:=(hst.small hS (Nat.le_refl _) (i:=k) (by omega)).2 (nI (qc0 (qd3 m pix y) pix.length).2 k).toNat (by omega)
  show qd2 BIG (nI (nL (qc0 (qd3 m pix y) pix.length).1 k) (nI (qc0 (qd3 m pix y) pix.length).2 k).toNat)
  constructor <;> omega
 ·have hk:k<(qc0 (qd3 m pix y) pix.length).2.length:=hk
  have:=(hst.small hS (Nat.le_refl _) (i:=k) (by omega)).2 pix.length (by omega)
  show qd2 BIG (nI (nL (qc0 (qd3 m pix y) pix.length).1 k) pix.length)
  constructor <;> omega
theorem x3b {m:List (List Int)} {pix y:List Int} (hf:q51 m) (hl:pix.length<=100000):xx2 m pix y:=by
 refine⟨hf,hl,λh=>?_⟩
 have hA:=Asked.of h
 have hS:=qw2 hA
 have hM:=hA.msk
 have h1:=hM.rows1
 have h6:=hM.rows6
 have hp10:=hM.pix10
 have hpl:=hA.nam.len
 have hW:rdW (qd3 m pix y)=pix.length+1:=hS.each 0 (by omega)
 obtain⟨r1,r2⟩:=w96 hS (by omega)
 have hrst:=qy0 hS.toMat (pix.length+1) (Nat.le_refl _)
 have hB:BIG=4000000000000000000:=rfl
 have e1:svD m pix y=(qh9 (qd3 m pix y) (pix.length+1)).done_:=by unfold svD qu1; rw[hW]
 have e2:svP m pix y=(qh9 (qd3 m pix y) (pix.length+1)).piv:=by unfold svP qu1; rw[hW]
 refine⟨by omega,⟨by omega,by omega,λi hi j hj=>?_⟩,by omega,hA.len,r1,?_⟩
 ·have:=hA.nam.at_ j hj
  rw[hM.each i hi]; exact this
 ·rw[e1,e2]
  obtain⟨hst,hcnt,_⟩:=hrst
  have hlen:=hst.len
  have hpl2:=hst.pl
  rw[List.length_append] at hlen
  have hD:∀i,i<(qh9 (qd3 m pix y) (pix.length+1)).piv.length->nL ((qh9 (qd3 m pix y) (pix.length+1)).done_++(qh9 (qd3 m pix y) (pix.length+1)).left) i=nL (qh9 (qd3 m pix y) (pix.length+1)).done_ i:=λi hi=>qk2 _ _ (by omega)
  refine⟨hcnt,by omega,λk hk=>?_,λk hk=>?_,λk hk=>?_,λk hk=>?_,λk hk=>?_⟩
  ·rw[<- hD k (by omega)]; exact hst.each k (by omega)
  ·have:=hst.pos k hk; omega
  ·have:=(hst.pos k hk).2.2.1
   rw[hD k hk] at this
   omega
  ·have:=hst.pos k hk
   have:=r2 k (by omega) (nI (qh9 (qd3 m pix y) (pix.length+1)).piv k).toNat (by omega)
   constructor <;> omega
  ·have:=r2 k (by omega) pix.length (by omega)
   constructor <;> omega
structure w97 (m:List (List Int)) (y pix:List Int):Prop where
 chk:qt6 m y pix=0
 rows:pix.length<=m.length
 fst:(qk0 m y pix).1.1=pix
 len:(qk0 m y pix).1.2.length=pix.length
theorem qy5 {m:List (List Int)} {y pix:List Int} (h:(qk0 m y pix).2=true):w97 m y pix:=by
 unfold qk0 at h
 split at h
 ·cases h
 ·rename_i hno
  have h0:(qt4 m pix y).2=0:=Classical.byContradiction λq=>hno (.inl q)
  have ef:qk0 m y pix=((pix,(qt4 m pix y).1),true):=by unfold qk0; rw[if_neg hno]
  rw[show w97 m y pix↔w97 m y pix from Iff.rfl]
  have hc:qt6 m y pix=0:=Classical.byContradiction λq=>by
   unfold qt4 at h0
   rw[if_neg q] at h0
   exact q h0
  have hA:=Asked.of hc
  have hS:=qw2 hA
  have hst:=qr4 hS.toMat pix.length (by omega)
  have hpl:=hst.pl
  have es:qt4 m pix y=wo8 (qc0 (qd3 m pix y) pix.length).1 (qc0 (qd3 m pix y) pix.length).2 pix.length:=by unfold qt4; rw[if_pos hc]; rfl
  have hle:(qc0 (qd3 m pix y) pix.length).2.length<=pix.length:=(⟨λq hq=>⟨(hst.pos q hq).1,(hst.pos q hq).2.1⟩,hst.asc⟩:Asc pix.length _).le
  rw[es] at h0
  unfold wo8 at h0
  split at h0
  ·cases h0
  ·rename_i hn
   split at h0
   ·cases h0
   ·rename_i hl
    refine⟨hc,by omega,by rw[ef],?_⟩
    rw[ef]
    show(qt4 m pix y).1.length=_
    rw[es]
    unfold wo8
    rw[if_neg hn,if_neg hl]
    show(List.map _ (List.range _)).length=_
    rw[List.length_map,List.length_range]
    omega
theorem w98:((List.range 8).all λn=>decide (w2n n=(List.range (n+1)).flatMap λ(k:Nat)=>qe8 (n:Nat) (k:Nat)))=true:=by decide +kernel
theorem xm5 {n:Nat} (h:n<=7):w2n n=(List.range (n+1)).flatMap λ(k:Nat)=>qe8 (n:Nat) (k:Nat):=by
 have:=List.all_eq_true.1 w98 n (List.mem_range.2 (by omega))
 exact of_decide_eq_true this
theorem wk5 {n k:Nat} {s:List Int} (h:s∈qe8 (n:Nat) (k:Nat)):s.length=k/\k<=n:=by
 unfold qe8 at h
 split at h
 ·have:=wi1 h
  exact⟨by omega,by omega⟩
 ·cases h
theorem wq1 (m:List (List Int)) (y:List Int) (s t:List (List Int)):qg5 m y (s++t)=qg5 m y s++qg5 m y t:=List.filterMap_append
theorem wq3 (m:List (List Int)) (y:List Int) (s:List (List Int)):q4x m y s=qg5 m y s:=by
 unfold q4x qg5
 congr 1
 funext pix
 rw[wq0]
theorem wk6 (m:List (List Int)) (y:List Int):∀K,qh6 m y K=qg5 m y ((List.range K).flatMap λ(k:Nat)=>qe8 (nL m 0).length (k:Nat))
 | 0=>rfl
 | K+1=>by
  rw[qh6,wk6 m y K,List.range_succ,List.flatMap_append,wq1]
  simp
theorem xm6 {m:List (List Int)} (y:List Int) (h:(nL m 0).length<=7):xl9 m y=qh6 m y ((nL m 0).length+1):=by
 unfold xl9
 rw[wq3,xm5 h,wk6]
theorem wq4 {m:List (List Int)} {y:List Int} {s:List (List Int)} {f:Fit} (h:f∈qg5 m y s):∃pix∈s,w97 m y pix/\f=(qk0 m y pix).1:=by
 unfold qg5 at h
 rw[List.mem_filterMap] at h
 obtain⟨pix,h1,h2⟩:=h
 split at h2
 ·rename_i h3
  exact⟨pix,h1,qy5 h3,(Option.some.inj h2).symm⟩
 ·cases h2
theorem qo7 {m:List (List Int)} {y:List Int} {k:Nat} {f:Fit} (h:f∈qg5 m y (qe8 (nL m 0).length (k:Nat))):f.1.length=k/\k<=m.length/\k<=(nL m 0).length:=by
 obtain⟨pix,h1,h2,rfl⟩:=wq4 h
 have h3:=wk5 h1
 have h4:=h2.rows
 rw[h2.fst]
 omega
theorem q6s {m:List (List Int)} {y:List Int}:∀K,∀f∈qh6 m y K,f.1.length<K
 | 0,f,h=>by cases h
 | K+1,f,h=>by
  rcases List.mem_append.1 h with h | h
  ·have:=q6s K f h; omega
  ·have:=qo7 h; omega
theorem w63 (m:List (List Int)) (y:List Int) {k:Int} (hk:0<=k):∀K,w6u k (qh6 m y K)=qh6 m y (min K (fitsN m k))
 | 0=>by rw[Nat.zero_min]; rfl
 | K+1=>by
  have hN:fitsN m k=(min (min k (nL m 0).length) m.length+1).toNat:=rfl
  rw[qh6]
  unfold w6u
  rw[List.filter_append]
  have ih:=w63 m y hk K
  unfold w6u at ih
  rw[ih]
  by_cases e:K<fitsN m k
  ·rw[show min K (fitsN m k)=K by omega,show min (K+1) (fitsN m k)=K+1 by omega,qh6]
   congr 1
   rw[List.filter_eq_self]
   intro f hf
   have:=qo7 hf
   exact decide_eq_true (by omega)
  ·rw[show min K (fitsN m k)=fitsN m k by omega,show min (K+1) (fitsN m k)=fitsN m k by omega]
   rw[List.filter_eq_nil_iff.2 λf hf=>?_,List.append_nil]
   have:=qo7 hf
   rw[decide_eq_true_eq]
   omega
theorem w99 {m:List (List Int)} (y:List Int) {k:Int} (hk:0<=k) (h7:(nL m 0).length<=7):qg1 m y k=w6u k (xl9 m y):=by
 rw[xm6 y h7,w63 m y hk]
 have hN:fitsN m k=(min (min k (nL m 0).length) m.length+1).toNat:=rfl
 unfold qg1
 rw[show min ((nL m 0).length+1) (fitsN m k)=fitsN m k by omega]
theorem xm7 {m:List (List Int)} {y:List Int} (hf:q51 m) (hM:Mk m) (h7:(nL m 0).length<=7):w6t m y:=by
 have h1:=hM.rows1
 refine⟨by omega,h7,λs hs=>x3b hf ?_⟩
 have:=((wj2 (n:=(nL m 0).length) (k:=128) h7 (Nat.le_refl _)).2 s hs).1
 omega
theorem w64 {m:List (List Int)} {y:List Int} (h:qu7 m y=0):Mk m:=Mk.of (wa0 (pix:=[]) h).2
theorem wq5 (m:List (List Int)) (y:List Int):qt6 m y []=qu7 m y:=by
 by_cases h:qu7 m y=0
 ·rw[(wa0 h).1,h]; rfl
 ·exact w6q h
theorem w0f {m:List (List Int)} {y:List Int} {k:Int} (hf:q51 m) (hM:Mk m) (h7:(nL m 0).length<=7) (h0:0<=k) (h1:k<=10):qk9 m y k:=by
 have r1:=hM.rows1
 have r6:=hM.rows6
 refine⟨⟨h0,by omega,by omega,by omega,by omega,λj hj s hs=>?_⟩,?_⟩
 ·have:=wk5 hs
  exact⟨w0e (by omega),by omega⟩
 ·rw[w99 y h0 h7]
  have e1:=w92 (xm7 (y:=y) hf hM h7)
  have e2:(w6u k (xl9 m y)).length<=(xl9 m y).length:=List.length_filter_le _ _
  omega
theorem xf4 {m:List (List Int)} {y:List Int} (hf:q51 m) (hl:qy3 m=true):q36 m y:=by
 refine⟨λh=>?_⟩
 rw[wq5] at h
 have hM:=w64 h
 exact w0f hf hM (wy9 hl hM) (by decide) (by decide)
theorem q8p (m:List (List Int)) (y:List Int):∀K,(qh6 m y K).Pairwise λf g=>f.1.length<=g.1.length
 | 0=>List.Pairwise.nil
 | K+1=>by
  rw[qh6,List.pairwise_append]
  refine⟨q8p m y K,?_,λf hf g hg=>?_⟩
  ·rw[List.pairwise_iff_getElem]
   intro i j hi hj _
   have h1:=qo7 (List.getElem_mem hi)
   have h2:=qo7 (List.getElem_mem hj)
   omega
  ·have h1:=q6s K f hf
   have h2:=qo7 hg
   omega
end Go.Proofs.Ytdibdlelmkcccaa
