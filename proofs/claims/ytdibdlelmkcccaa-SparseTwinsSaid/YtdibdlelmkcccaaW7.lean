/- The program's solutions and fits are the reference's: plain mathematics. No condition. -/
import Derived.Test.YtdibdlelmkcccaaW6
set_option linter.unusedVariables false
namespace Go.Proofs.Ytdibdlelmkcccaa
open Go Go.RowKit Eng
theorem q3s {m:List (List Int)} {y pix:List Int} (h:Asked m y pix):Small m.length pix.length (pix.length+1) (qg9 m pix y):=by
 have hM:=h.msk
 have h6:=hM.rows6
 have hp10:=hM.pix10
 have hpl:=h.nam.len
 have hat:∀i,i<m.length->nL (qg9 m pix y) i=qq1 (nL m i) pix++[nI y i]:=λi hi=>by
  rw[w2n m pix y i hi,qp7 m pix i hi]
 have hlo:∀i,i<m.length->∀c,c<pix.length->(nI (nL (qg9 m pix y) i) c).natAbs<=1:=λi hi c hc=>by
  rw[hat i hi,ql9 _ _ (by rw[ql7]; exact hc),qr5 _ _ _ hc]
  have h1:=h.nam.at_ c hc
  have h2:=hM.small i hi (nI pix c).toNat (by omega)
  omega
 refine⟨⟨q7c m pix y,λi hi=>by rw[hat i hi,List.length_append,ql7]; rfl⟩,h6,by omega,by omega,λa c ha hc=>hlo a ha c hc,λa c ha hc=>?_⟩
 rcases Nat.lt_or_ge c pix.length with q | q
 ·have:=hlo a ha c q; omega
 ·have e:nI (nL (qg9 m pix y) a) c=nI y a:=by
   rw[hat a ha,show c=(qq1 (nL m a) pix).length by rw[ql7]; omega,qs3]
  have:=h.at_ a ha
  rw[e]
  omega
theorem xi5 (m:List (List Int)) (pix y:List Int):x04 m pix y=q0g m pix y:=by
 unfold x04 q0g
 split
 ·rename_i h
  have hA:=Asked.of h
  have hS:=q3s hA
  have hW:rdW (qg9 m pix y)=pix.length+1:=hS.each 0 (by have:=hA.msk.rows1; omega)
  unfold svT svR svP svD qa1 qp9
  rw[hW]
  exact(xt6 hS.toMat).symm
 ·rfl
theorem xi6 (m:List (List Int)) (y pix:List Int):xv3 m y pix=q00 m y pix:=by
 unfold xv3 q00 x2b xt0
 rw[xi5]
theorem xt7 {m:List (List Int)} {pix y:List Int} (hl:pix.length<=100000):q3i m pix y:=by
 refine⟨by omega,λh=>?_⟩
 have hA:=Asked.of h
 have hS:=q3s hA
 refine⟨q3r hS,?_⟩
 have hst:=qz7 hS.toMat pix.length (by omega)
 have hpl:=hst.pl
 have hlen:=hst.len
 have hB:BIG=4000000000000000000:=rfl
 refine⟨λk hk=>?_,λk hk=>?_,λk hk=>?_⟩
 ·have:=(hst.pos k hk).2.2.1
  show nI (nL (qd0 (qg9 m pix y) pix.length).1 k) (nI (qd0 (qg9 m pix y) pix.length).2 k).toNat≠0
  omega
 ·have hk:k<(qd0 (qg9 m pix y) pix.length).2.length:=hk
  have h1:=hst.pos k hk
  have:=(hst.small hS (Nat.le_refl _) (i:=k) (by omega)).2 (nI (qd0 (qg9 m pix y) pix.length).2 k).toNat (by omega)
  show qf3 BIG (nI (nL (qd0 (qg9 m pix y) pix.length).1 k) (nI (qd0 (qg9 m pix y) pix.length).2 k).toNat)
  constructor <;> omega
 ·have hk:k<(qd0 (qg9 m pix y) pix.length).2.length:=hk
  have:=(hst.small hS (Nat.le_refl _) (i:=k) (by omega)).2 pix.length (by omega)
  show qf3 BIG (nI (nL (qd0 (qg9 m pix y) pix.length).1 k) pix.length)
  constructor <;> omega
theorem x05 {m:List (List Int)} {pix y:List Int} (hf:q6o m) (hl:pix.length<=100000):xs9 m pix y:=by
 refine⟨hf,hl,λh=>?_⟩
 have hA:=Asked.of h
 have hS:=q3s hA
 have hM:=hA.msk
 have h1:=hM.rows1
 have h6:=hM.rows6
 have hp10:=hM.pix10
 have hpl:=hA.nam.len
 have hW:rdW (qg9 m pix y)=pix.length+1:=hS.each 0 (by omega)
 obtain⟨r1,r2⟩:=wz7 hS (by omega)
 have hrst:=qv7 hS.toMat (pix.length+1) (Nat.le_refl _)
 have hB:BIG=4000000000000000000:=rfl
 have e1:svD m pix y=(qg6 (qg9 m pix y) (pix.length+1)).done_:=by unfold svD qa1; rw[hW]
 have e2:svP m pix y=(qg6 (qg9 m pix y) (pix.length+1)).piv:=by unfold svP qa1; rw[hW]
 refine⟨by omega,⟨by omega,by omega,λi hi j hj=>?_⟩,by omega,hA.len,r1,?_⟩
 ·have:=hA.nam.at_ j hj
  rw[hM.each i hi]; exact this
 ·rw[e1,e2]
  obtain⟨hst,hcnt,_⟩:=hrst
  have hlen:=hst.len
  have hpl2:=hst.pl
  rw[List.length_append] at hlen
  have hD:∀i,i<(qg6 (qg9 m pix y) (pix.length+1)).piv.length->nL ((qg6 (qg9 m pix y) (pix.length+1)).done_++(qg6 (qg9 m pix y) (pix.length+1)).left) i=nL (qg6 (qg9 m pix y) (pix.length+1)).done_ i:=λi hi=>qm0 _ _ (by omega)
  refine⟨hcnt,by omega,λk hk=>?_,λk hk=>?_,λk hk=>?_,λk hk=>?_,λk hk=>?_⟩
  ·rw[<- hD k (by omega)]; exact hst.each k (by omega)
  ·have:=hst.pos k hk; omega
  ·have:=(hst.pos k hk).2.2.1
   rw[hD k hk] at this
   omega
  ·have:=hst.pos k hk
   have:=r2 k (by omega) (nI (qg6 (qg9 m pix y) (pix.length+1)).piv k).toNat (by omega)
   constructor <;> omega
  ·have:=r2 k (by omega) pix.length (by omega)
   constructor <;> omega
structure w9l (m:List (List Int)) (y pix:List Int):Prop where
 chk:q1v m y pix=0
 rows:pix.length<=m.length
 fst:(q00 m y pix).1.1=pix
 len:(q00 m y pix).1.2.length=pix.length
theorem xt8 {m:List (List Int)} {y pix:List Int} (h:(q00 m y pix).2=true):w9l m y pix:=by
 unfold q00 at h
 split at h
 ·cases h
 ·rename_i hno
  have h0:(q0g m pix y).2=0:=Classical.byContradiction λq=>hno (.inl q)
  have ef:q00 m y pix=((pix,(q0g m pix y).1),true):=by unfold q00; rw[if_neg hno]
  rw[show w9l m y pix↔w9l m y pix from Iff.rfl]
  have hc:q1v m y pix=0:=Classical.byContradiction λq=>by
   unfold q0g at h0
   rw[if_neg q] at h0
   exact q h0
  have hA:=Asked.of hc
  have hS:=q3s hA
  have hst:=qz7 hS.toMat pix.length (by omega)
  have hpl:=hst.pl
  have es:q0g m pix y=w5m (qd0 (qg9 m pix y) pix.length).1 (qd0 (qg9 m pix y) pix.length).2 pix.length:=by unfold q0g; rw[if_pos hc]; rfl
  have hle:(qd0 (qg9 m pix y) pix.length).2.length<=pix.length:=(⟨λq hq=>⟨(hst.pos q hq).1,(hst.pos q hq).2.1⟩,hst.asc⟩:Asc pix.length _).le
  rw[es] at h0
  unfold w5m at h0
  split at h0
  ·cases h0
  ·rename_i hn
   split at h0
   ·cases h0
   ·rename_i hl
    refine⟨hc,by omega,by rw[ef],?_⟩
    rw[ef]
    show(q0g m pix y).1.length=_
    rw[es]
    unfold w5m
    rw[if_neg hn,if_neg hl]
    show(List.map _ (List.range _)).length=_
    rw[List.length_map,List.length_range]
    omega
theorem w9m:((List.range 8).all λn=>decide (qe0 n=(List.range (n+1)).flatMap λ(k:Nat)=>qe3 (n:Nat) (k:Nat)))=true:=by decide +kernel
theorem wq9 {n:Nat} (h:n<=7):qe0 n=(List.range (n+1)).flatMap λ(k:Nat)=>qe3 (n:Nat) (k:Nat):=by
 have:=List.all_eq_true.1 w9m n (List.mem_range.2 (by omega))
 exact of_decide_eq_true this
theorem q7j {n k:Nat} {s:List Int} (h:s∈qe3 (n:Nat) (k:Nat)):s.length=k/\k<=n:=by
 unfold qe3 at h
 split at h
 ·have:=wj6 h
  exact⟨by omega,by omega⟩
 ·cases h
theorem wr0 (m:List (List Int)) (y:List Int) (s t:List (List Int)):qh2 m y (s++t)=qh2 m y s++qh2 m y t:=List.filterMap_append
theorem wr1 (m:List (List Int)) (y:List Int) (s:List (List Int)):q5o m y s=qh2 m y s:=by
 unfold q5o qh2
 congr 1
 funext pix
 rw[xi6]
theorem wl4 (m:List (List Int)) (y:List Int):∀K,qk2 m y K=qh2 m y ((List.range K).flatMap λ(k:Nat)=>qe3 (nL m 0).length (k:Nat))
 | 0=>rfl
 | K+1=>by
  rw[qk2,wl4 m y K,List.range_succ,List.flatMap_append,wr0]
  simp
theorem xi7 {m:List (List Int)} (y:List Int) (h:(nL m 0).length<=7):xi1 m y=qk2 m y ((nL m 0).length+1):=by
 unfold xi1
 rw[wr1,wq9 h,wl4]
theorem wr5 {m:List (List Int)} {y:List Int} {s:List (List Int)} {f:Fit} (h:f∈qh2 m y s):∃pix∈s,w9l m y pix/\f=(q00 m y pix).1:=by
 unfold qh2 at h
 rw[List.mem_filterMap] at h
 obtain⟨pix,h1,h2⟩:=h
 split at h2
 ·rename_i h3
  exact⟨pix,h1,xt8 h3,(Option.some.inj h2).symm⟩
 ·cases h2
theorem q7k {m:List (List Int)} {y:List Int} {k:Nat} {f:Fit} (h:f∈qh2 m y (qe3 (nL m 0).length (k:Nat))):f.1.length=k/\k<=m.length/\k<=(nL m 0).length:=by
 obtain⟨pix,h1,h2,rfl⟩:=wr5 h
 have h3:=q7j h1
 have h4:=h2.rows
 rw[h2.fst]
 omega
theorem w6k (m:List (List Int)) (y:List Int) {k:Int} (hk:0<=k):∀K,w59 k (qk2 m y K)=qk2 m y (min K (fitsN m k))
 | 0=>by rw[Nat.zero_min]; rfl
 | K+1=>by
  have hN:fitsN m k=(min (min k (nL m 0).length) m.length+1).toNat:=rfl
  rw[qk2]
  unfold w59
  rw[List.filter_append]
  have ih:=w6k m y hk K
  unfold w59 at ih
  rw[ih]
  by_cases e:K<fitsN m k
  ·rw[show min K (fitsN m k)=K by omega,show min (K+1) (fitsN m k)=K+1 by omega,qk2]
   congr 1
   rw[List.filter_eq_self]
   intro f hf
   have:=q7k hf
   exact decide_eq_true (by omega)
  ·rw[show min K (fitsN m k)=fitsN m k by omega,show min (K+1) (fitsN m k)=fitsN m k by omega]
   rw[List.filter_eq_nil_iff.2 λf hf=>?_,List.append_nil]
   have:=q7k hf
   rw[decide_eq_true_eq]
   omega
theorem w9n {m:List (List Int)} (y:List Int) {k:Int} (hk:0<=k) (h7:(nL m 0).length<=7):qk8 m y k=w59 k (xi1 m y):=by
 rw[xi7 y h7,w6k m y hk]
 have hN:fitsN m k=(min (min k (nL m 0).length) m.length+1).toNat:=rfl
 unfold qk8
 rw[show min ((nL m 0).length+1) (fitsN m k)=fitsN m k by omega]
theorem xi8 {m:List (List Int)} {y:List Int} (hf:q6o m) (hM:Mk m) (h7:(nL m 0).length<=7):w58 m y:=by
 have h1:=hM.rows1
 refine⟨by omega,h7,λs hs=>x05 hf ?_⟩
 have:=((q3k (n:=(nL m 0).length) (k:=128) h7 (Nat.le_refl _)).2 s hs).1
 omega
theorem xi9 {m:List (List Int)} {y:List Int} (h:wj1 m y=0):Mk m:=Mk.of (wy8 (pix:=[]) h).2
theorem xj0 (m:List (List Int)) (y:List Int):q1v m y []=wj1 m y:=by
 by_cases h:wj1 m y=0
 ·rw[(wy8 h).1,h]; rfl
 ·exact xi0 h
theorem w9o {m:List (List Int)} {y:List Int} {k:Int} (hf:q6o m) (hM:Mk m) (h7:(nL m 0).length<=7) (h0:0<=k) (h1:k<=10):wy6 m y k:=by
 have r1:=hM.rows1
 have r6:=hM.rows6
 refine⟨⟨h0,by omega,by omega,by omega,by omega,λj hj s hs=>?_⟩,?_⟩
 ·have:=q7j hs
  exact⟨xt7 (by omega),by omega⟩
 ·rw[w9n y h0 h7]
  have e1:=w9h (xi8 (y:=y) hf hM h7)
  have e2:(w59 k (xi1 m y)).length<=(xi1 m y).length:=List.length_filter_le _ _
  omega
theorem xt9 {m:List (List Int)} {y:List Int} (hf:q6o m) (hl:qk7 m=true):q7b m y:=by
 refine⟨λh=>?_⟩
 rw[xj0] at h
 have hM:=xi9 h
 exact w9o hf hM (q5n hl hM) (by decide) (by decide)
end Go.Proofs.Ytdibdlelmkcccaa
