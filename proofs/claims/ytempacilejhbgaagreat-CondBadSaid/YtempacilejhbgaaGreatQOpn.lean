/- Lengths of a slice of slices. No condition. -/
import Derived.Test.YtempacilejhbgaaGreatR9
import Derived.Test.YtempacilejhbgaaGreatRows
import Derived.Test.YtempacilejhbgaaGreatCore
import Derived.ProofKit
import Derived.OpenShut
import Derived.ShutString
import Derived.ChangeOld
import Derived.Below
import Derived.Deep.Matrix
import Derived.Test.YtempacilejhbgaaGreatV7
set_option linter.unusedVariables false
set_option linter.unusedSimpArgs false
namespace Go.Proofs.YtempacilejhbgaaGreat
open Go Go.RowKit Eng
theorem xi5 {m:List (List Int)} (hv:validB m=true) (h7:(nL m 0).length<=7) {k j:Nat} (hkj:k<=j) (hj:j<=(nL m 0).length):leQ (qh8 (qa9 m).1 k (qa9 m).1.length) (qh8 (qa9 m).1 j (qa9 m).1.length):=by
 have hK:=(w9f (m:=m) λ_=>h7).shs hv k (by omega)
 have hJ:=(w9f (m:=m) λ_=>h7).shs hv j hj
 have lj:=qm6 hJ _ (Nat.le_refl _)
 rw[Int.toNat_natCast] at lj
 rcases(qx9 hK _ (Nat.le_refl _)).2 with e | ⟨i,hi,e⟩
 ·rw[e]; exact w17 lj
 ·rw[e]
  obtain⟨s,hc⟩:=qv6 hv h7 hi
  have h1:=q5p hv hc (q4c hc k)
  have h2:=q5p hv hc (q4c hc j)
  have:=q2x h1.ok h1.ne
  exact q4d (qv2 h1).pos (qv2 h2).pos lj.pos (x02 h1 h2 (Int.mul_le_mul_of_nonneg_right (xi3 _ hkj) (by omega))) ((qx9 hJ _ (Nat.le_refl _)).1 i hi)
theorem w4e {m:List (List Int)} (hv:validB m=true) (h7:(nL m 0).length<=7) {k:Nat} (hk:ordL m<k) (hn:k<=(nL m 0).length):hlf (qh8 (qa9 m).1 k (qa9 m).1.length)=true:=by
 have h1:hlf (qh8 (qa9 m).1 (ordL m+1) (qa9 m).1.length)=true:=by
  cases q:hlf (qh8 (qa9 m).1 (ordL m+1) (qa9 m).1.length) with
  | true=>rfl
  | false=>
   have:=w9a (l:=(qa9 m).1) (B:=ordL m+1) (nL m 0).length 0 (Nat.zero_le _) (by omega) λi h0 hi=>by
    by_cases e:i=ordL m+1
    ·rw[e]; exact q
    ·exact w19 hv h7 (by omega)
   have e:ordL m=ordF (qa9 m).1 (nL m 0).length 0:=rfl
   omega
 have hJ:=(w9f (m:=m) λ_=>h7).shs hv k hn
 have hK:=(w9f (m:=m) λ_=>h7).shs hv (ordL m+1) (by omega)
 have lj:=qm6 hJ _ (Nat.le_refl _)
 have lk:=qm6 hK _ (Nat.le_refl _)
 rw[Int.toNat_natCast] at lj lk
 cases q:hlf (qh8 (qa9 m).1 k (qa9 m).1.length) with
 | true=>rfl
 | false=>have:=w8m lk.pos lj.pos (xi5 hv h7 hk hn) q; rw[h1] at this; cases this
theorem xt5 {m:List (List Int)} (hF:qw0 m) (k:Int):(badR m k).2=(hasB m k).2/\((hasB m k).1=false->(badR m k).1=[])/\((hasB m k).1=true->∃n:Nat,k=n/\validB m=true/\1<=n/\n<=(nL m 0).length/\qo7 m k 1=0/\∃i,i<(qa9 m).1.length/\hlf (shR (nL (qa9 m).1 i) (qi0 (nL (qa9 m).1 i) n))=true/\(badR m k).1=q5j (nL (qa9 m).1 i) n):=by
 by_cases h1:qo7 m k 1=0
 ·obtain⟨hv,n,rfl,hn⟩:=q07 h1
  have h7:=hF.n7 hv
  have hT:=(w9f (m:=m) λ_=>h7).shs hv n hn
  have hmx:=qx9 hT _ (Nat.le_refl _)
  have lt:=qm6 hT _ (Nat.le_refl _)
  rw[Int.toNat_natCast] at lt
  have hn1:1<=n:=by
   have:=h1
   unfold qo7 at this
   rw[if_neg (by rw[hv]; decide)] at this
   split at this
   ·cases this
   ·rename_i hb
    have:=inB_iff.1 (by cases e:inB (n:Int) 1 (nL m 0).length with | true=>rfl | false=>exact absurd e hb)
    omega
  have eB:badR m n=if w4k m n<0 then([],8) else(q5j (nL (qa9 m).1 (w4k m n).toNat) n,0):=by
   unfold badR; rw[if_pos h1,Int.toNat_natCast]
  have eH:hasB m n=if(n:Int)<=(ordL m:Nat) then(false,8) else(true,0):=if_neg λq=>q h1
  rw[eB,eH]
  have hI:w4k m n=ixT (.list (.int .i64)) (λh=>hlf (shR h (qi0 h n))) (qa9 m).1:=rfl
  by_cases ho:(n:Int)<=(ordL m:Nat)
  ·have hs:=w19 hv h7 (k:=n) (by omega)
   have e:w4k m n=-1:=by
    rw[hI]
    refine q1o _ _ _ λi hi=>?_
    obtain⟨s,hc⟩:=qv6 hv h7 hi
    have hsh:=q5p hv hc (q4c hc n)
    exact w8m (qv2 hsh).pos lt.pos (hmx.1 i hi) hs
   rw[e,if_pos ho,if_pos (show(-1:Int)<0 by decide)]
   exact⟨rfl,λ_=>rfl,λq=>by cases q⟩
  ·have hb:=w4e hv h7 (k:=n) (by omega) hn
   rw[if_neg ho]
   have hex:∃i,i<(qa9 m).1.length/\hlf (shR (nL (qa9 m).1 i) (qi0 (nL (qa9 m).1 i) n))=true:=by
    rcases hmx.2 with e | ⟨i,hi,e⟩
    ·rw[e] at hb; cases hb
    ·rw[e] at hb; exact⟨i,hi,hb⟩
   have hany:((qa9 m).1.any λh=>hlf (shR h (qi0 h n)))=true:=by
    obtain⟨i,hi,h2⟩:=hex
    exact List.any_eq_true.2 ⟨_,qj4 _ i hi,h2⟩
   have hge:=qw8 (.list (.int .i64)) (λh=>hlf (shR h (qi0 h n))) (qa9 m).1
   rw[hany,<- hI] at hge
   have hge:=of_decide_eq_true hge
   have hlt:=(wm6 (.list (.int .i64)) (λh=>hlf (shR h (qi0 h n))) (qa9 m).1).1
   rw[<- hI] at hlt
   rw[if_neg (by omega)]
   refine⟨rfl,λq=>(by cases q),λ_=>⟨n,rfl,hv,hn1,hn,h1,(w4k m n).toNat,by omega,?_,rfl⟩⟩
   have e2:w4k m n=((qa9 m).1.findIdx λh=>hlf (shR h (qi0 h n)):Nat):=by rw[hI]; unfold ixT; rw[if_pos hany]
   rw[e2,Int.toNat_natCast]
   have hfl:((qa9 m).1.findIdx λh=>hlf (shR h (qi0 h n)))<(qa9 m).1.length:=List.findIdx_lt_length.2 (List.any_eq_true.1 hany)
   rw[qk5 _ _ hfl]
   exact List.findIdx_getElem (w:=hfl)
 ·have eB:badR m k=([],qo7 m k 1):=if_neg h1
  have eH:hasB m k=(false,qo7 m k 1):=if_pos h1
  rw[eB,eH]
  exact⟨rfl,λ_=>rfl,λq=>by cases q⟩
theorem w2b {h P:List Int} (hP:Named h.length P):∀j,j<=P.length->∀c,c<h.length->nI (q4e h P j) c=if(c:Int)∈P.take j then nI h c else 0
 | 0,_,c,hc=>by
  rw[q4e,qf6 _ _ (by rw[List.length_replicate]; exact hc),List.getElem_replicate]
  simp
 | j+1,hj,c,hc=>by
  have hp:=hP.at_ j (by omega)
  have ht:P.take (j+1)=P.take j++[nI P j]:=by
   rw[List.take_add_one,List.getElem?_eq_getElem (by omega),qf6 P j (by omega)]; rfl
  rw[q4e,q5i _ (by rw[q4f]; omega),w2b hP j (by omega) c hc,ht]
  by_cases e:c=(nI P j).toNat
  ·rw[if_pos e,if_pos (by rw[List.mem_append]; exact .inr (by simp; omega)),e]
  ·rw[if_neg e]
   have:((c:Int)∈P.take j++[nI P j])↔(c:Int)∈P.take j:=by
    rw[List.mem_append,List.mem_singleton]
    exact⟨λq=>q.resolve_right (by omega),.inl⟩
   by_cases q:(c:Int)∈P.take j
   ·rw[if_pos q,if_pos (this.2 q)]
   ·rw[if_neg q,if_neg λr=>q (this.1 r)]
theorem w2c (h:List Int) (k:Nat):(q5j h k).length=h.length:=q4f _ _ _
theorem wy3 (h:List Int) (k:Nat) {c:Nat} (hc:c<h.length):nI (q5j h k) c=if(c:Int)∈qi0 h k then nI h c else 0:=by
 have:=w2b (h:=h) (P:=qi0 h k) qx8 _ (Nat.le_refl _) c hc
 rw[List.take_length] at this
 exact this
theorem w2d (g:Int->Int):∀n,qx7 g (qn7 n)=sm n λc=>g (c:Int)
 | 0=>rfl
 | n+1=>by rw[wm8,wh3,w2d g n]; simp[qx7,sm]
theorem xl5 (h:List Int) {P:List Int} (hP:Named h.length P):inL h P=sm h.length λc=>if(c:Int)∈P then qp1 (nI h c) else 0:=by
 rw[wx7]
 have hp:((qn7 h.length).filter λx=>decide (x∈P)).Perm P:=by
  rw[List.perm_ext_iff_of_nodup ((q0e (w8j _)).sublist List.filter_sublist) (q0e (q4a hP))]
  intro a
  rw[List.mem_filter,decide_eq_true_eq]
  refine⟨λq=>q.2,λq=>⟨wx9.2 ?_,q⟩⟩
  obtain⟨i,hi,rfl⟩:=List.mem_iff_getElem.1 q
  have:=hP.at_ i hi
  rwa [qf6 P i hi] at this
 have h1:qx7 (λx=>if x∈P then szV h x else 0) (qn7 h.length)=sm h.length λc=>if(c:Int)∈P then qp1 (nI h c) else 0:=by
  rw[w2d]
  refine qg5 λc _=>?_
  unfold szV
  rw[Int.toNat_natCast]
 rw[<- h1,<- w2a (q:=λx=>decide (x∈P)) _ λx _ hx=>if_neg (of_decide_eq_false hx),<- q8c _ hp]
 have:∀l:List Int,qx7 (szV h) (l.filter λx=>decide (x∈P))=qx7 (λx=>if x∈P then szV h x else 0) (l.filter λx=>decide (x∈P)):=λl=>by
  induction l with
  | nil=>rfl
  | cons x l ih=>
   by_cases q:x∈P
   ·rw[List.filter_cons_of_pos (by simpa using q)]
    simp only[qx7]
    rw[if_pos q,ih]
   ·rw[List.filter_cons_of_neg (by simpa using q),ih]
 exact this _
theorem x1g {h:List Int} {k:Nat} (hh:szL h<=2*inL h (qi0 h k)):agB h (q5j h k)=true:=by
 have hP:Named h.length (qi0 h k):=qx8
 have key:∀j,j<=h.length->qu5 h (q5j h k) j=sm j (λc=>if(c:Int)∈qi0 h k then qp1 (nI h c) else 0)/\qu5 h (q5j h k) j+qj7 h (q5j h k) j=q17 h j:=λj=>by
  induction j with
  | zero=>exact λ_=>⟨rfl,rfl⟩
  | succ j ih=>
   intro hj
   obtain⟨h1,h2⟩:=ih (by omega)
   have hx:=wy3 h k (c:=j) (by omega)
   rw[qu5,qj7,sm,q17,<- h1,<- h2]
   by_cases q:(j:Int)∈qi0 h k
   ·rw[if_pos q] at hx ⊢
    rw[hx]
    have e:qp1 (nI h j)=((nI h j).natAbs:Int):=rfl
    by_cases p:0<nI h j
    ·rw[if_pos p,if_pos p]; omega
    ·rw[if_neg p,if_neg p]
     by_cases r:nI h j<0
     ·rw[if_pos r,if_pos r]; omega
     ·rw[if_neg r,if_neg r]; omega
   ·rw[if_neg q] at hx ⊢
    rw[hx,if_neg (by decide),if_neg (by decide),if_neg (by decide),if_neg (by decide)]
    omega
 obtain⟨h1,h2⟩:=key h.length (Nat.le_refl _)
 rw[<- xl5 h hP] at h1
 have e:szL h=q17 h h.length:=rfl
 have hn:0<=inL h (qi0 h k):=by
  rw[xl5 h hP]
  refine wq8 λc _=>?_
  split
  ·exact q8b _
  ·exact Int.le_refl _
 refine decide_eq_true ?_
 unfold qp1
 omega
theorem x1h {h:List Int} {k:Nat} (hk:k<=h.length):nzTo (q5j h k) (q5j h k).length<=k:=by
 have hP:Named h.length (qi0 h k):=qx8
 rw[w1z,<- q6a,w2c]
 obtain⟨s1,s2⟩:=q1y (nI (q5j h k)) h.length
 generalize ws1 h.length (nI (q5j h k))=s at *
 have hsub:∀x∈s,x∈qi0 h k:=λx hx=>by
  obtain⟨j,hj,rfl⟩:=List.mem_iff_getElem.1 hx
  have h1:=s2 j hj
  have h2:=s1.at_ j hj
  rw[wy3 h k (by omega)] at h1
  by_cases q:(((nI s j).toNat:Nat):Int)∈qi0 h k
  ·rw[<- qf6 s j hj]
   rwa [show(((nI s j).toNat:Nat):Int)=nI s j by omega] at q
  ·rw[if_neg q] at h1; exact absurd rfl h1
 have hp:((qi0 h k).filter λx=>decide (x∈s)).Perm s:=by
  rw[List.perm_ext_iff_of_nodup ((q0e (q4a hP)).sublist List.filter_sublist) (q0e (q4a s1))]
  intro a
  rw[List.mem_filter,decide_eq_true_eq]
  exact⟨λq=>q.2,λq=>⟨hsub a q,q⟩⟩
 have h1:=hp.length_eq
 have h2:=List.length_filter_le (λx=>decide (x∈s)) (qi0 h k)
 have h3:=we7 hk
 omega
theorem x1i {m:List (List Int)} (hF:qw0 m) {n i:Nat} (hv:validB m=true) (hn:n<=(nL m 0).length) (hc1:qo7 m n 1=0) (hi:i<(qa9 m).1.length) (hf:hlf (shR (nL (qa9 m).1 i) (qi0 (nL (qa9 m).1 i) n))=true):qr7 m n (q5j (nL (qa9 m).1 i) n)=true/\(q5j (nL (qa9 m).1 i) n).length<=10/\∀c,c<(q5j (nL (qa9 m).1 i) n).length->-160<=nI (q5j (nL (qa9 m).1 i) n) c/\nI (q5j (nL (qa9 m).1 i) n) c<=160:=by
 obtain⟨s,hc⟩:=qv6 hv (hF.n7 hv) hi
 have hM:=Mk.of hv
 have m10:=hM.pix10
 have hlen:(q5j (nL (qa9 m).1 i) n).length=(nL m 0).length:=by rw[w2c,hc.len]
 have hsm:∀c,c<(q5j (nL (qa9 m).1 i) n).length->-160<=nI (q5j (nL (qa9 m).1 i) n) c/\nI (q5j (nL (qa9 m).1 i) n) c<=160:=λc hcc=>by
  rw[wy3 _ _ (by rw[hc.len]; omega)]
  have:=hc.small c
  split <;> omega
 refine⟨?_,by omega,hsm⟩
 have hsh:=q5p hv hc (q4c hc n)
 rw[w88 hsh] at hf
 have hag:=x1g (of_decide_eq_true hf)
 have hnz:=x1h (h:=nL (qa9 m).1 i) (k:=n) (by rw[hc.len]; exact hn)
 have hE:q38 m (q5j (nL (qa9 m).1 i) n)=0:=by
  unfold q38 wx0
  rw[if_neg (by rw[hv]; decide),if_neg (by omega),if_neg]
  have:((q5j (nL (qa9 m).1 i) n).all λe=>inB e (0-1000000) 1000000)=true:=by
   rw[List.all_eq_true]
   intro x hx
   obtain⟨c,hcc,rfl⟩:=List.mem_iff_getElem.1 hx
   have:=hsm c hcc
   rw[qf6 _ c hcc] at this
   exact inB_iff.2 ⟨by omega,by omega⟩
  rw[this]; decide
 generalize q5j (nL (qa9 m).1 i) n=x at *
 have hany:((qa9 m).1.any λh=>agB h x)=true:=List.any_eq_true.2 ⟨_,qj4 _ i hi,hag⟩
 have hge:=qw8 (.list (.int .i64)) (λh=>agB h x) (qa9 m).1
 rw[hany] at hge
 have hge:0<=agI m x:=of_decide_eq_true hge
 have h2:(w18 m x).2=0:=by
  unfold w18
  rw[if_pos hE,if_neg (Int.not_lt.2 hge)]
 unfold qr7
 rw[decide_eq_true h2,decide_eq_true hc1,decide_eq_true (by omega:(nzTo x x.length:Int)<=(n:Int))]
 rfl
structure q4h (a:List Int) (k:Nat):Prop where
 le:k<=a.length
def x1j (a:List Int):Nat->Option Inv
 | 0=>some (Inv.of [83] 0 (λk:Nat=>[(83,.lit (.int .i64 k))]) (λ_=>[]) (λk=>q4h a k) (λk=>a.length-k))
 | _=>none
abbrev x48:qc0:=qf3 true none [tMask,tInt,tInts] [.bool] (λx=>wd6 x.1/\x.2.2.1.length<=9223372036854775807) (λ_=>(true,()))
theorem wh4:qd2 Tryz.prog 8 x48:=by
 refine meets (snd (SpecsOk.cons w3u (SpecsOk.cons w8w (SpecsOk.cons w87 (SpecsOk.cons w4c (SpecsOk.cons w4b (SpecsOk.cons w85 (SpecsOk.cons w86 (SpecsOk.cons w4d (SpecsOk.cons wr9 (SpecsOk.nil _))))))))))) Tryz.func8 rfl rfl (λx=>x1j (badR x.1 x.2.1).1) (λ_=>by kernel_rfl) (by decide) ?_
 rintro⟨m,k,x,⟨⟩⟩ hh
 revert m k x
 intro(m:List (List Int)) (k:Int) (x:List Int) (hh:wd6 m/\x.length<=9223372036854775807)
 refine @qd4 _ (let Q0:=badR m k; let Q1:=wy2 m k; let Q2:=!qr7 m k Q0.1; let Q3:=hasB m k; m.length<=(9223372036854775807:Nat)/\((!w4j m)=true->True/\true=true)/\((!w4j m)=false->(decide ((20:Int)<(↑x.length:Int))=true->True/\true=true)/\(decide ((20:Int)<(↑x.length:Int))=false->qw0 m/\qw0 m/\((Q0.2 != Q3.2)=true->false=true)/\((Q0.2 != Q3.2)=false->(Q3.1=true->AgPre m Q0.1/\(Q2=true->false=true)/\(Q2=false->((!Q3.1)=true->(decide ((0:Int)<(↑Q0.1.length:Int))=true->false=true)/\(decide ((0:Int)<(↑Q0.1.length:Int))=false->(Q3.1=true->AgPre m Q0.1/\(Q2=true->false=true)/\(Q2=false->AgPre m x/\AgPre m x/\((qr7 m k x != qr7 m k x)=true->false=true)/\((qr7 m k x != qr7 m k x)=false->∃(v10:Unit),∃(v11:Nat),q4h Q0.1 v11/\(((0:Int)=(↑v11:Int)/\True)/\True)/\∀(v12:Nat),q4h Q0.1 v12->(decide ((↑v12:Int)<(↑Q0.1.length:Int))=true->((0:Int)<=(↑v12:Int)/\(↑v12:Int)<(↑Q0.1.length:Int))/\(decide (nI Q0.1 v12<(-160:Int))=true->false=true)/\(decide (nI Q0.1 v12<(-160:Int))=false->(decide ((160:Int)<nI Q0.1 v12)=true->false=true)/\(decide ((160:Int)<nI Q0.1 v12)=false->fits .i64 ((↑v12:Int)+(1:Int))/\∃(v17:Nat),q4h Q0.1 v17/\Q0.1.length-v17<Q0.1.length-v12/\((↑v12:Int)+(1:Int)=(↑v17:Int)/\True)/\True)))/\(decide ((↑v12:Int)<(↑Q0.1.length:Int))=false->qw0 m/\qw0 m/\q0j Q1.1/\(decide (Q1.1=Q1.1)=true->((Q1.2==Q1.2)=true->True/\true=true)/\((Q1.2==Q1.2)=false->false=true))/\(decide (Q1.1=Q1.1)=false->false=true)))))/\(Q3.1=false->AgPre m x/\AgPre m x/\((qr7 m k x != qr7 m k x)=true->false=true)/\((qr7 m k x != qr7 m k x)=false->∃(v9:Unit),∃(v10:Nat),q4h Q0.1 v10/\(((0:Int)=(↑v10:Int)/\True)/\True)/\∀(v11:Nat),q4h Q0.1 v11->(decide ((↑v11:Int)<(↑Q0.1.length:Int))=true->((0:Int)<=(↑v11:Int)/\(↑v11:Int)<(↑Q0.1.length:Int))/\(decide (nI Q0.1 v11<(-160:Int))=true->false=true)/\(decide (nI Q0.1 v11<(-160:Int))=false->(decide ((160:Int)<nI Q0.1 v11)=true->false=true)/\(decide ((160:Int)<nI Q0.1 v11)=false->fits .i64 ((↑v11:Int)+(1:Int))/\∃(v16:Nat),q4h Q0.1 v16/\Q0.1.length-v16<Q0.1.length-v11/\((↑v11:Int)+(1:Int)=(↑v16:Int)/\True)/\True)))/\(decide ((↑v11:Int)<(↑Q0.1.length:Int))=false->qw0 m/\qw0 m/\q0j Q1.1/\(decide (Q1.1=Q1.1)=true->((Q1.2==Q1.2)=true->True/\true=true)/\((Q1.2==Q1.2)=false->false=true))/\(decide (Q1.1=Q1.1)=false->false=true))))))/\((!Q3.1)=false->(Q3.1=true->AgPre m Q0.1/\(Q2=true->false=true)/\(Q2=false->AgPre m x/\AgPre m x/\((qr7 m k x != qr7 m k x)=true->false=true)/\((qr7 m k x != qr7 m k x)=false->∃(v9:Unit),∃(v10:Nat),q4h Q0.1 v10/\(((0:Int)=(↑v10:Int)/\True)/\True)/\∀(v11:Nat),q4h Q0.1 v11->(decide ((↑v11:Int)<(↑Q0.1.length:Int))=true->((0:Int)<=(↑v11:Int)/\(↑v11:Int)<(↑Q0.1.length:Int))/\(decide (nI Q0.1 v11<(-160:Int))=true->false=true)/\(decide (nI Q0.1 v11<(-160:Int))=false->(decide ((160:Int)<nI Q0.1 v11)=true->false=true)/\(decide ((160:Int)<nI Q0.1 v11)=false->fits .i64 ((↑v11:Int)+(1:Int))/\∃(v16:Nat),q4h Q0.1 v16/\Q0.1.length-v16<Q0.1.length-v11/\((↑v11:Int)+(1:Int)=(↑v16:Int)/\True)/\True)))/\(decide ((↑v11:Int)<(↑Q0.1.length:Int))=false->qw0 m/\qw0 m/\q0j Q1.1/\(decide (Q1.1=Q1.1)=true->((Q1.2==Q1.2)=true->True/\true=true)/\((Q1.2==Q1.2)=false->false=true))/\(decide (Q1.1=Q1.1)=false->false=true)))))/\(Q3.1=false->AgPre m x/\AgPre m x/\((qr7 m k x != qr7 m k x)=true->false=true)/\((qr7 m k x != qr7 m k x)=false->∃(v8:Unit),∃(v9:Nat),q4h Q0.1 v9/\(((0:Int)=(↑v9:Int)/\True)/\True)/\∀(v10:Nat),q4h Q0.1 v10->(decide ((↑v10:Int)<(↑Q0.1.length:Int))=true->((0:Int)<=(↑v10:Int)/\(↑v10:Int)<(↑Q0.1.length:Int))/\(decide (nI Q0.1 v10<(-160:Int))=true->false=true)/\(decide (nI Q0.1 v10<(-160:Int))=false->(decide ((160:Int)<nI Q0.1 v10)=true->false=true)/\(decide ((160:Int)<nI Q0.1 v10)=false->fits .i64 ((↑v10:Int)+(1:Int))/\∃(v15:Nat),q4h Q0.1 v15/\Q0.1.length-v15<Q0.1.length-v10/\((↑v10:Int)+(1:Int)=(↑v15:Int)/\True)/\True)))/\(decide ((↑v10:Int)<(↑Q0.1.length:Int))=false->qw0 m/\qw0 m/\q0j Q1.1/\(decide (Q1.1=Q1.1)=true->((Q1.2==Q1.2)=true->True/\true=true)/\((Q1.2==Q1.2)=false->false=true))/\(decide (Q1.1=Q1.1)=false->false=true)))))))/\(Q3.1=false->((!Q3.1)=true->(decide ((0:Int)<(↑Q0.1.length:Int))=true->false=true)/\(decide ((0:Int)<(↑Q0.1.length:Int))=false->(Q3.1=true->AgPre m Q0.1/\(Q2=true->false=true)/\(Q2=false->AgPre m x/\AgPre m x/\((qr7 m k x != qr7 m k x)=true->false=true)/\((qr7 m k x != qr7 m k x)=false->∃(v9:Unit),∃(v10:Nat),q4h Q0.1 v10/\(((0:Int)=(↑v10:Int)/\True)/\True)/\∀(v11:Nat),q4h Q0.1 v11->(decide ((↑v11:Int)<(↑Q0.1.length:Int))=true->((0:Int)<=(↑v11:Int)/\(↑v11:Int)<(↑Q0.1.length:Int))/\(decide (nI Q0.1 v11<(-160:Int))=true->false=true)/\(decide (nI Q0.1 v11<(-160:Int))=false->(decide ((160:Int)<nI Q0.1 v11)=true->false=true)/\(decide ((160:Int)<nI Q0.1 v11)=false->fits .i64 ((↑v11:Int)+(1:Int))/\∃(v16:Nat),q4h Q0.1 v16/\Q0.1.length-v16<Q0.1.length-v11/\((↑v11:Int)+(1:Int)=(↑v16:Int)/\True)/\True)))/\(decide ((↑v11:Int)<(↑Q0.1.length:Int))=false->qw0 m/\qw0 m/\q0j Q1.1/\(decide (Q1.1=Q1.1)=true->((Q1.2==Q1.2)=true->True/\true=true)/\((Q1.2==Q1.2)=false->false=true))/\(decide (Q1.1=Q1.1)=false->false=true)))))/\(Q3.1=false->AgPre m x/\AgPre m x/\((qr7 m k x != qr7 m k x)=true->false=true)/\((qr7 m k x != qr7 m k x)=false->∃(v8:Unit),∃(v9:Nat),q4h Q0.1 v9/\(((0:Int)=(↑v9:Int)/\True)/\True)/\∀(v10:Nat),q4h Q0.1 v10->(decide ((↑v10:Int)<(↑Q0.1.length:Int))=true->((0:Int)<=(↑v10:Int)/\(↑v10:Int)<(↑Q0.1.length:Int))/\(decide (nI Q0.1 v10<(-160:Int))=true->false=true)/\(decide (nI Q0.1 v10<(-160:Int))=false->(decide ((160:Int)<nI Q0.1 v10)=true->false=true)/\(decide ((160:Int)<nI Q0.1 v10)=false->fits .i64 ((↑v10:Int)+(1:Int))/\∃(v15:Nat),q4h Q0.1 v15/\Q0.1.length-v15<Q0.1.length-v10/\((↑v10:Int)+(1:Int)=(↑v15:Int)/\True)/\True)))/\(decide ((↑v10:Int)<(↑Q0.1.length:Int))=false->qw0 m/\qw0 m/\q0j Q1.1/\(decide (Q1.1=Q1.1)=true->((Q1.2==Q1.2)=true->True/\true=true)/\((Q1.2==Q1.2)=false->false=true))/\(decide (Q1.1=Q1.1)=false->false=true))))))/\((!Q3.1)=false->(Q3.1=true->AgPre m Q0.1/\(Q2=true->false=true)/\(Q2=false->AgPre m x/\AgPre m x/\((qr7 m k x != qr7 m k x)=true->false=true)/\((qr7 m k x != qr7 m k x)=false->∃(v8:Unit),∃(v9:Nat),q4h Q0.1 v9/\(((0:Int)=(↑v9:Int)/\True)/\True)/\∀(v10:Nat),q4h Q0.1 v10->(decide ((↑v10:Int)<(↑Q0.1.length:Int))=true->((0:Int)<=(↑v10:Int)/\(↑v10:Int)<(↑Q0.1.length:Int))/\(decide (nI Q0.1 v10<(-160:Int))=true->false=true)/\(decide (nI Q0.1 v10<(-160:Int))=false->(decide ((160:Int)<nI Q0.1 v10)=true->false=true)/\(decide ((160:Int)<nI Q0.1 v10)=false->fits .i64 ((↑v10:Int)+(1:Int))/\∃(v15:Nat),q4h Q0.1 v15/\Q0.1.length-v15<Q0.1.length-v10/\((↑v10:Int)+(1:Int)=(↑v15:Int)/\True)/\True)))/\(decide ((↑v10:Int)<(↑Q0.1.length:Int))=false->qw0 m/\qw0 m/\q0j Q1.1/\(decide (Q1.1=Q1.1)=true->((Q1.2==Q1.2)=true->True/\true=true)/\((Q1.2==Q1.2)=false->false=true))/\(decide (Q1.1=Q1.1)=false->false=true)))))/\(Q3.1=false->AgPre m x/\AgPre m x/\((qr7 m k x != qr7 m k x)=true->false=true)/\((qr7 m k x != qr7 m k x)=false->∃(v7:Unit),∃(v8:Nat),q4h Q0.1 v8/\(((0:Int)=(↑v8:Int)/\True)/\True)/\∀(v9:Nat),q4h Q0.1 v9->(decide ((↑v9:Int)<(↑Q0.1.length:Int))=true->((0:Int)<=(↑v9:Int)/\(↑v9:Int)<(↑Q0.1.length:Int))/\(decide (nI Q0.1 v9<(-160:Int))=true->false=true)/\(decide (nI Q0.1 v9<(-160:Int))=false->(decide ((160:Int)<nI Q0.1 v9)=true->false=true)/\(decide ((160:Int)<nI Q0.1 v9)=false->fits .i64 ((↑v9:Int)+(1:Int))/\∃(v14:Nat),q4h Q0.1 v14/\Q0.1.length-v14<Q0.1.length-v9/\((↑v9:Int)+(1:Int)=(↑v14:Int)/\True)/\True)))/\(decide ((↑v9:Int)<(↑Q0.1.length:Int))=false->qw0 m/\qw0 m/\q0j Q1.1/\(decide (Q1.1=Q1.1)=true->((Q1.2==Q1.2)=true->True/\true=true)/\((Q1.2==Q1.2)=false->false=true))/\(decide (Q1.1=Q1.1)=false->false=true)))))))))) (by kernel_rfl) ?_
 try simp only[z0,z1,z2,z3,z4,z5,z6,z7,z8,z9,z10,Int.reduceEq,z11,z12,z13,z14,z15,z16,z17,z18,z19,z20,z21,z22,z23,z24,z25,z26,z27,z28,z29,z30,Int.reduceLE,Int.reduceLT,z31,z32,z33,z34,qa1]
 try simp only[qb3,qb4,qb9,z31,z32,z2,z1]
 refine⟨hh.1.rows,λh6 hx=>?_⟩
 have h7:validB m=true->(nL m 0).length<=7:=λhv=>xt0 h6 hv
 have hF:qw0 m:=⟨hh.1,h7⟩
 obtain⟨b1,b2,b3⟩:=xt5 hF k
 have tr:(¬True->false=true):=λq=>absurd trivial q
 have hA:AgPre m x:=⟨hF,by omega⟩
 have hU:q0j (wy2 m k).1:=by
  by_cases h1:qo7 m k 0=0
  ·obtain⟨hv,n,rfl,hn⟩:=q07 h1
   have m10:=(Mk.of hv).pix10
   have hL:=qt9 (nL m 0).length n m10 (by omega)
   have e:wy2 m n=(xi1 m n,0):=if_pos h1
   rw[e]
   have hfl:(xi1 m n).length<=(qa4 (nL m 0).length (n:Nat)).length:=List.length_filter_le _ _
   refine⟨by show(xi1 m n).length<=1000000; omega,λi hi=>?_⟩
   have hm:nL (xi1 m n) i∈qa4 (nL m 0).length (n:Nat):=(List.mem_filter.1 (qj4 (xi1 m n) i hi)).1
   have:=(qo6 hm).1.len
   show(nL (xi1 m n) i).length<=1000000
   omega
  ·have e:wy2 m k=([],qo7 m k 0):=if_neg h1
   rw[e]
   exact⟨Nat.zero_le _,λi hi=>absurd hi (Nat.not_lt_zero _)⟩
 have main:((hasB m k).1=true->AgPre m (badR m k).1/\qr7 m k (badR m k).1=true)/\((badR m k).1.length<=10)/\(∀c,c<(badR m k).1.length->-160<=nI (badR m k).1 c/\nI (badR m k).1 c<=160):=by
  cases q:(hasB m k).1 with
  | false=>
   rw[b2 q]
   exact⟨λz=>(by cases z),Nat.zero_le _,λc hc=>absurd hc (Nat.not_lt_zero _)⟩
  | true=>
   obtain⟨n,rfl,hv,h1,hn,hc1,i,hi,hf,e⟩:=b3 q
   obtain⟨k1,k2,k3⟩:=x1i hF hv hn hc1 hi hf
   rw[e]
   exact⟨λ_=>⟨⟨hF,by omega⟩,k1⟩,k2,k3⟩
 obtain⟨m1,m2,m3⟩:=main
 have rest:AgPre m x/\AgPre m x/\(¬True->false=true)/\∃(v10:Unit) (v11:Nat),q4h (badR m k).1 v11/\(0:Int)=↑v11/\∀(v12:Nat),q4h (badR m k).1 v12 ->
   (v12<(badR m k).1.length->v12<(badR m k).1.length/\(nI (badR m k).1 v12 < -160->false=true)/\(-160<=nI (badR m k).1 v12->(160<nI (badR m k).1 v12->false=true)/\(nI (badR m k).1 v12<=160->fits IntKind.i64 (↑v12+1)/\∃(v17:Nat),q4h (badR m k).1 v17/\(badR m k).1.length-v17<(badR m k).1.length-v12/\(↑v12+1:Int)=↑v17))) /\
   (¬v12<(badR m k).1.length->qw0 m/\qw0 m/\q0j (wy2 m k).1/\(¬True->false=true)/\(¬True->false=true)):=by
  generalize(badR m k).1=a at *
  refine⟨hA,hA,tr,(),0,⟨Nat.zero_le _⟩,rfl,λj hj=>⟨λhlt=>?_,λ_=>⟨hF,hF,hU,tr,tr⟩⟩⟩
  have:=m3 j hlt
  exact⟨hlt,λq=>absurd q (by omega),λ_=>⟨λq=>absurd q (by omega),λ_=>⟨qa5 (by omega) (by omega),j+1,⟨hlt⟩,by omega,by push_cast; rfl⟩⟩⟩
 refine⟨hF,hF,λq=>absurd b1 q,λ_=>?_⟩
 cases q:(hasB m k).1 with
 | false=>
  have e:=b2 q
  have e0:¬((0:Int)<((badR m k).1.length:Nat)):=by rw[e]; decide
  exact⟨λz=>(by cases z),λ_=>⟨λ_=>⟨λz=>absurd z e0,λ_=>⟨λz=>(by cases z),λ_=>rest⟩⟩,λz=>(by cases z)⟩⟩
 | true=>
  obtain⟨k1,k2⟩:=m1 q
  have nb:qr7 m k (badR m k).1=false->false=true:=λz=>by rw[k2] at z; exact z.symm
  exact⟨λ_=>⟨k1,nb,λ_=>⟨λz=>(by cases z),λ_=>⟨λ_=>⟨k1,nb,λ_=>rest⟩,λz=>(by cases z)⟩⟩⟩,λz=>(by cases z)⟩
open Go.ChangeShapes Go.WideShapes Go.ChangeAt Go.RowKit Go.Deep Ls
theorem own:ownKnob Tryz.prog.godebug=none:=by kernel_rfl
theorem laidOut:laidOutB Tryz.prog=true:=by kernel_rfl
theorem x49 {H:Type} {enc:TypeId × Value->H} {W:World} {t e:TypeId} {v:Value} {d:DataW H} {p:List MemPlace} (ht:Tryz.prog.underlying t=some (.slice e)) (he:Tryz.prog.underlying e=some (.int .i64)) (ce:Tryz.prog.cellsOf e=1)
  (hv:∃a l c,v=.slice a l c) (h:DataW.Trod enc Tryz.prog W 0 (λ_=>true) true t v d p):∃a l c zs,v=.slice a l c/\SI W a l c zs:=by
 obtain⟨a,l,c,rfl⟩:=hv
 obtain⟨fuel,hf⟩:=h
 rcases open_ints ht he ce hf with⟨hcs,_⟩ | ⟨x,l',c',zs,hcs,_,hl,hm,hz,_,hcell,hwz⟩
 ·simp[Value.cells] at hcs
  obtain⟨rfl,rfl,rfl⟩:=hcs
  exact⟨_,_,_,[],rfl,SI.nil W⟩
 ·simp[Value.cells] at hcs
  obtain⟨rfl,rfl,rfl⟩:=hcs
  have hz':zs.length=c:=by simpa using hz
  refine⟨_,_,_,zs.take l,rfl,by simp; omega,hl,hm,λ_=>⟨x,rfl,λk hk=>?_⟩⟩
  rw[hcell k (by omega)]
  simp[nth,hk]
theorem x5b {H:Type} {enc:TypeId × Value->H} {W:World} {t e q:TypeId} {v:Value} {d:DataW H} {p:List MemPlace} (ht:Tryz.prog.underlying t=some (.slice e)) (he:Tryz.prog.underlying e=some (.slice q)) (hq:Tryz.prog.underlying q=some (.int .i64))
  (ce:Tryz.prog.cellsOf e=1) (cq:Tryz.prog.cellsOf q=1)
  (hv:∃a l c,v=.slice a l c) (h:DataW.Trod enc Tryz.prog W 0 (λ_=>true) true t v d p):∃a l c m,v=.slice a l c/\SM W a l c m:=by
 obtain⟨a,l,c,rfl⟩:=hv
 obtain⟨fuel,hf⟩:=h
 rcases open_int_rows ht he hq ce cq hf with⟨hcs,_⟩ | ⟨x,l',c',A,L,C,Z,hcs,_,hl,hm,_,hr⟩
 ·simp[Value.cells] at hcs
  obtain⟨rfl,rfl,rfl⟩:=hcs
  exact⟨_,_,_,[],rfl,SM.nil W⟩
 ·simp[Value.cells] at hcs
  obtain⟨rfl,rfl,rfl⟩:=hcs
  refine⟨_,_,_,(List.range l).map (λr=>(Z r).take (L r)),rfl,by simp,hl,hm,λ_=>⟨x,rfl,λk hk=>?_⟩⟩
  obtain⟨h1,h2,h3,h4,_,h6,h7⟩:=hr k (by omega)
  have e0:nthL ((List.range l).map (λr=>(Z r).take (L r))) k=(Z k).take (L k):=by simp[nthL,hk]
  have e1:((Z k).take (L k)).length=L k:=by simp; omega
  rw[e0,e1]
  refine⟨A k,C k,h1,e1,h2,h3,λhp=>?_⟩
  cases hA:A k with
  | none=>have:=h6 hA; omega
  | some a'=>
   refine⟨a',rfl,λj hj=>?_⟩
   rw[(h7 a' hA).2 j (by omega)]
   simp[nth,hj]
end Go.Proofs.YtempacilejhbgaaGreat
set_option linter.unusedVariables false
namespace Go.Proofs.YtempacilejhbgaaGreat
open Go Go.RowKit Eng Ls
theorem xt6 {w:World} {A:Option Addr} {n c:Nat} {m:List (List Int)} (s:SM w A n c m):wd6 m:=by
 have hl:=s.len
 have hn:=s.nmax
 refine⟨by omega,λi hi=>?_⟩
 obtain⟨ad,_,h⟩:=s.at_ (by omega)
 obtain⟨A',c',_,h2⟩:=h i (by omega)
 have e:nL m i=nthL m i:=by
  rw[qk5 m i hi]
  unfold nthL
  rw[List.getD_eq_getElem?_getD,List.getElem?_eq_getElem hi]
  rfl
 rw[e]
 exact h2.nmax
theorem xt7 {w:World} {A:Option Addr} {n c:Nat} {l:List Int} (s:SI w A n c l):l.length<=9223372036854775807:=by
 have:=s.nmax
 have:=s.len
 omega
end Go.Proofs.YtempacilejhbgaaGreat
