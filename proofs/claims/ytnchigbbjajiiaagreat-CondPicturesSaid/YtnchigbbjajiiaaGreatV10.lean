/- Sets, searches for a number, primitive vectors: contracts by the engine. No condition. -/
import Derived.Test.YtnchigbbjajiiaaGreatV8
set_option linter.unusedVariables false
set_option linter.unusedSimpArgs false
namespace Go.Proofs.YtnchigbbjajiiaaGreat
open Go Go.RowKit Eng
def xd3 (a:Int):Nat->List Int
 | 0=>[]
 | k+1=>a :: xd3 (a+1) k
theorem wk9 (a:Int) (k:Nat):(xd3 a k).length=k:=by
 induction k generalizing a with
 | zero=>rfl
 | succ k ih=>grind [xd3]
def qq7:Nat->Nat->Int->List (List Int)
 | _,0,_=>[[]]
 | 0,_+1,_=>[]
 | m+1,k+1,a=>(qq7 m k (a+1)).map (a :: ·)++qq7 m (k+1) (a+1)
def q5f (n:Int):List Int->Option (List Int)
 | []=>none
 | x :: t=>match q5f n t with
  | some t'=>some (x :: t')
  | none=>if x+t.length+1<n then some (xd3 (x+1) (t.length+1)) else none
theorem wv3 {m k:Nat} {a:Int} {l:List Int} (h:l∈qq7 m k a):l.length=k:=by
 induction m generalizing k a l with
 | zero=>cases k with
  | zero=>grind [qq7]
  | succ k=>cases h
 | succ m ih=>cases k with
  | zero=>grind [qq7]
  | succ k=>
   rcases zal.1 h with h | h
   all_goals grind
structure InC (m k:Nat) (a:Int) (l:List Int):Prop where
 len:l.length=k
 lo:∀i,i<k->a+i<=nI l i
 hi:∀i,i<k->nI l i+(k-i:Nat)<=a+m
 asc:∀i,0<i->i<k->nI l (i-1)<nI l i
theorem q0t (x:Int) (t:List Int):nI (x :: t) 0=x:=rfl
theorem qv8 (x:Int) (t:List Int) (i:Nat):nI (x :: t) (i+1)=nI t i:=rfl
theorem w31 {m k:Nat} {a:Int} {l:List Int} (h:l∈qq7 m k a):InC m k a l:=by
 induction m generalizing k a l with
 | zero=>cases k with
  | zero=>simp[qq7] at h; subst h; exact⟨rfl,λi hi=>by omega,λi hi=>by omega,λi _ hi=>by omega⟩
  | succ k=>cases h
 | succ m ih=>cases k with
  | zero=>simp[qq7] at h; subst h; exact⟨rfl,λi hi=>by omega,λi hi=>by omega,λi _ hi=>by omega⟩
  | succ k=>
   rcases zal.1 h with h | h
   ·obtain⟨t,ht,rfl⟩:=zba.1 h
    have q:=ih ht
    refine⟨by simp[q.len],λi hi=>?_,λi hi=>?_,λi h0 hi=>?_⟩
    ·cases i with
     | zero=>grind [q0t]
     | succ i=>rw[qv8]; have:=q.lo i ow; omega
    ·cases i with
     | zero=>
      rw[q0t]
      cases k with
      | zero=>omega
      | succ k=>have h1:=q.lo 0 ow; have h2:=q.hi 0 ow; omega
     | succ i=>rw[qv8]; have:=q.hi i ow; omega
    ·obtain⟨i,rfl⟩:∃q,i=q+1:=⟨i-1,ow⟩
     rw[qv8,zd5]
     cases i with
     | zero=>rw[q0t]; have:=q.lo 0 ow; omega
     | succ i=>rw[qv8]; have:=q.asc (i+1) ow ow; grind
   ·have q:=ih h
    exact⟨q.len,λi hi=>by have:=q.lo i hi; omega,λi hi=>by have:=q.hi i hi; omega,q.asc⟩
theorem w6z {m k:Nat} {a:Int} (h:m<k):qq7 m k a=[]:=by
 induction m generalizing k a with
 | zero=>cases k with
  | zero=>omega
  | succ k=>rfl
 | succ m ih=>cases k with
  | zero=>omega
  | succ k=>grind [qq7]
theorem w60 (m:Nat) (a:Int):qq7 m 0 a=[[]]:=by cases m <;> rfl
theorem wd6 {m k:Nat} {a:Int} (h:k<=m):(qq7 m k a)[0]? = some (xd3 a k):=by
 induction m generalizing k a with
 | zero=>
  obtain rfl:k=0:=ow
  rfl
 | succ m ih=>cases k with
  | zero=>rfl
  | succ k=>
   have:=ih (k:=k) (a:=a+1) ow
   have hl:0<(qq7 m k (a+1)).length:=(zag.1 this).1
   rw[qq7,zcg (by grind),zcj,this]
   rfl
theorem w61 {m k:Nat} {a n:Int} (hn:n=a+m) {c:Nat} {l:List Int} (h:(qq7 m k a)[c]? = some l):q5f n l=(qq7 m k a)[c+1]?:=by
 induction m generalizing k a c l with
 | zero=>cases k with
  | zero=>
   have hc:=(zag.1 h).1
   simp[qq7] at hc
   subst hc
   simp[qq7] at h
   subst h
   rfl
  | succ k=>grind [qq7]
 | succ m ih=>cases k with
  | zero=>
   have hc:=(zag.1 h).1
   simp[qq7] at hc
   subst hc
   simp[qq7] at h
   subst h
   rfl
  | succ k=>
   rw[qq7] at h ⊢
   rcases zap c ((qq7 m k (a+1)).map (a :: ·)).length with hlt | hge
   ·rw[zcg hlt,zcj] at h
    obtain⟨t,ht,rfl⟩:=zel.1 h
    have hi:=ih ow ht
    have htl:=wv3 (zah ht)
    have hcl:c<(qq7 m k (a+1)).length:=by grind
    simp only[q5f,hi]
    rcases zap (c+1) (qq7 m k (a+1)).length with h2 | h2
    ·grind
    ·rw[zer h2,zcc (by grind)]
     have e:c+1-((qq7 m k (a+1)).map (a :: ·)).length=0:=ow
     rw[e,htl]
     simp only
     by_cases hk:k+1<=m
     ·rw[wd6 hk,zao ow]
     ·rw[w6z ow,zak ow]
      rfl
   grind
def qg4 (n k:Int):List (List Int):=if k<=n then qq7 n.toNat k.toNat 0 else[]
theorem xd4 (a:Int) (k i:Nat) (h:i<k):nI (xd3 a k) i=a+i:=by
 induction k generalizing a i with
 | zero=>omega
 | succ k ih=>cases i with
  | zero=>simp[xd3,q0t]
  | succ i=>grind [xd3,qv8]
theorem q5g {n:Int}:∀{l:List Int},(∀q:Nat,q<l.length->nI l q=n-l.length+q)->q5f n l=none
 | [],_=>rfl
 | x :: t,h=>by
  have h0:=h 0 (by simp)
  rw[q0t] at h0
  have ht:q5f n t=none:=q5g λq hq=>by
   have:=h (q+1) (by grind)
   grind [qv8,List.length_cons]
  simp only[q5f,ht]
  grind
theorem wd7 {n:Int}:∀{l:List Int} {i:Nat},i<l.length->(∀q:Nat,i<q->q<l.length->nI l q=n-l.length+q)->nI l i<n-l.length+i->q5f n l=some (l.take i++xd3 (nI l i+1) (l.length-i))
 | x :: t,0,_,h,h0=>by
  rw[q0t] at h0
  have ht:q5f n t=none:=q5g λq hq=>by
   have:=h (q+1) ow (by grind)
   grind [qv8,List.length_cons]
  simp only[q5f,ht]
  simp only[List.length_cons] at h0
  rw[zao ow]
  rfl
 | x :: t,i+1,hi,h,h0=>by
  have:=wd7 (n:=n) (l:=t) (i:=i) (by grind) (λq h1 h2=>by
   have:=h (q+1) ow (by grind)
   grind [qv8,List.length_cons]) (by
   grind [qv8,List.length_cons])
  grind [q5f,qv8,List.length_cons,Nat.add_sub_add_right]
def xq9 (l:List Int) (i:Nat):List Int:=l.take i++xd3 (nI l i+1) (l.length-i)
theorem w33 (l:List Int) (i:Nat) (hi:i<l.length):(xq9 l i).length=l.length:=by
 grind [xq9,wk9]
theorem wl0 (l:List Int) (i q:Nat) (hi:i<l.length) (hq:q<l.length):nI (xq9 l i) q=if q<i then nI l q else nI l i+1+(q-i:Nat):=by
 rw[qf1 _ _ (by rw[w33 l i hi]; exact hq)]
 unfold xq9
 split
 ·grind [List.getElem_append_left,qf1]
 ·rename_i h
  rw[List.getElem_append_right (by grind)]
  have hl:(l.take i).length=i:=by grind
  have:=xd4 (nI l i+1) (l.length-i) (q-i) ow
  grind [qf1,wk9]
def mkC (l:List Int) (i j:Nat):List Int:=ovr (.int .i64) (nI (xq9 l i)) l j
theorem q8b (l:List Int) (i j:Nat):(mkC l i j).length=l.length:=qs5 (.int .i64) _ _ _
theorem w34 (l:List Int) (i j q:Nat) (hq:q<l.length):nI (mkC l i j) q=if q<j then nI (xq9 l i) q else nI l q:=q4h (.int .i64) _ _ _ _ hq
theorem xd5 {a b:List Int} (h:a.length=b.length) (k:∀i,i<a.length->nI a i=nI b i):a=b:=by
 grind [List.ext_getElem,qf1]
theorem xd6 (l:List Int) (i:Nat) (hi:i<l.length):mkC l i (i+1)=l.set i (nI l i+1):=by
 apply xd5 (by rw[q8b,za7])
 intro q hq
 rw[q8b] at hq
 rw[w34 _ _ _ _ hq,qf1 (l.set i (nI l i+1)) q (by grind),zdf,wl0 _ _ _ hi hq]
 by_cases e:i=q
 ·omega
 ·rw[zak e,<- qf1 l q hq]
  omega
theorem xx7 (l:List Int) (i j:Nat) (hi:i<j) (hj:j<l.length):(mkC l i j).set j (nI (mkC l i j) (j-1)+1)=mkC l i (j+1):=by
 have e:nI (mkC l i j) (j-1)+1=nI (xq9 l i) j:=by
  rw[w34 _ _ _ _ ow,zao ow,wl0 _ _ _ ow ow,wl0 _ _ _ ow hj,zak ow]
  omega
 rw[e]
 exact qq5 (.int .i64) _ _ _
theorem x4o (l:List Int) (i:Nat) (hi:i<l.length):mkC l i l.length=xq9 l i:=by
 apply xd5 (by grind [q8b,w33])
 simp_all [q8b,w34,if_pos]
structure xd7 (n k:Int) (c:Nat) (l:List Int):Prop where
 len:l.length=k.toNat
 at_:k<=n->(qg4 n k)[c]? = some l
 cnt:n<k->c=0
structure xx8 (n k:Int) (l:List Int) (i:Int):Prop where
 lo:-1<=i
 hi:i<k
 last:∀q:Nat,i<q->q<l.length->nI l q=n-k+q
structure x4p (l:List Int) (i j:Nat) (r:List Int):Prop where
 lo:i<j
 hi:j<=l.length
 eq:r=mkC l i j
abbrev x8k:q2y:=xw3 [tInt,tInt] [tInts] (λx=>(0<=x.1/\x.1<=1000)/\0<=x.2.1/\x.2.1<=1000) (λx=>(qg4 x.2.1 x.1).map λl=>(l,())) (some 3)
def x8l (n k:Int):Nat->Option Inv
 | 0=>some (Inv.of [4] 2 (λ_:Nat × List Int=>[(4,.own 1)]) (λs=>[.cnt (some s.1),.vec 3 (.int .i64) s.2]) (λs=>xd7 n k s.1 s.2) (λs=>(qg4 n k).length+1-s.1))
 | 1=>some (Eng.Inv.mk (Nat × List Int) Int [4,5] 2 (λ_ i=>[(4,.own 1),(5,.lit (.int .i64 i))]) (λq i=>[.cnt (some q.1),.vec 3 (.int .i64) q.2]) (λq i=>xx8 n k q.2 i) (λq i=>(i+1).toNat))
 | 2=>some (Eng.Inv.mk (Nat × List Int × Nat) (Nat × List Int) [4,6] 16 (λ_ s=>[(4,.own 1),(6,.lit (.int .i64 s.1))]) (λq s=>[.cnt (some q.1),.vec 3 (.int .i64) s.2,.dead,.dead,.dead,.dead,.dead,.dead,.dead,.dead,.dead,.dead,.dead,.dead,.dead,.dead]) (λq s=>x4p q.2.1 q.2.2 s.1 s.2) (λq s=>q.2.1.length-s.1))
 | _=>none
theorem xx9 (k:Nat):xd3 0 k=qp8 k:=by
 grind [xd5,wk9,qg1,xd4,q5e]
theorem xd8 {n k:Int} (hkn:k<=n) (hk:0<=k) {c:Nat} {l:List Int} (h:(qg4 n k)[c]? = some l):q5f n l=(qg4 n k)[c+1]?:=by
 unfold qg4 at h ⊢
 rw[zao hkn] at h ⊢
 grind [w61]
theorem x4q {n k:Int} {l:List Int} (h:l∈qg4 n k):InC n.toNat k.toNat 0 l:=by
 grind [qg4,w31]
theorem w62:q1i Tryz.prog 203 x8k:=by
 refine says (snd (SpecsOk.cons q77 (SpecsOk.nil _))) Tryz.func203 rfl rfl rfl [12] (λx=>x8l x.2.1 x.1) (λ_=>by kernel_rfl) dc ?_
 rintro⟨k,n,⟨⟩⟩ l h
 revert k n
 intro(k:Int) (n:Int) (h:(0<=k/\k<=1000)/\0<=n/\n<=1000)
 refine vcs (let Q0:=qg4 n k; let Q1:=(k,n,PUnit.unit); k<=(100000:Ty.den tInt)/\∃(v0:Unit),∃(v1:Nat × List Int),xd7 n k v1.1 v1.2/\((True/\True)/\some (0:Nat)=some v1.1/\qp8 k.toNat=v1.2/\True)/\∀(v2:Nat × List Int),xd7 n k v2.1 v2.2->(decide (k<=n)=true->Value.func (Fn.yield l) #[] #[]=Value.func (Fn.yield (qj1.l (w05 [tInt,tInt] [tInts] [(12:Nat)] Q1 (List.map (λ(v5:List Int)=>(v5,())) Q0) l (some (3:Nat))))) #[] #[]/\(qj1.L (w05 [tInt,tInt] [tInts] [(12:Nat)] Q1 (List.map (λ(v5:List Int)=>(v5,())) Q0) l (some (3:Nat))))[v2.1]?=some (v2.2,())/\(fits .i64 (k-(1:Int))/\∃(v5:Nat × List Int),∃(v6:Int),xx8 n k v5.2 v6/\((True/\k-(1:Int)=v6/\True)/\some (v2.1+(1:Nat))=some v5.1/\v2.2=v5.2/\True)/\∀(v7:Int),xx8 n k v5.2 v7->(decide ((0:Int)<=v7)=true->((0:Int)<=v7/\v7<(↑v5.2.length:Int))/\v7.toNat<v5.2.length/\fits .i64 (n-k)/\fits .i64 (n-k+v7)/\((nI v5.2 v7.toNat==n-k+v7)=true->fits .i64 (v7-(1:Int))/\∃(v11:Int),xx8 n k v5.2 v11/\(v11+(1:Int)).toNat<(v7+(1:Int)).toNat/\(True/\v7-(1:Int)=v11/\True)/\some v5.1=some v5.1/\v5.2=v5.2/\True)/\((nI v5.2 v7.toNat==n-k+v7)=false->(decide (v7<(0:Int))=true->v5.1=(qj1.L (w05 [tInt,tInt] [tInts] [(12:Nat)] Q1 (List.map (λ(v12:List Int)=>(v12,())) Q0) l (some (3:Nat)))).length)/\(decide (v7<(0:Int))=false->((0:Int)<=v7/\v7<(↑v5.2.length:Int))/\v7.toNat<v5.2.length/\fits .i64 (nI v5.2 v7.toNat+(1:Int))/\((0:Int)<=v7/\v7<(↑v5.2.length:Int))/\v7.toNat<v5.2.length/\fits .i64 (v7+(1:Int))/\∃(v12:Nat × List Int × Nat),∃(v13:Nat × List Int),x4p v12.2.1 v12.2.2 v13.1 v13.2/\((True/\v7+(1:Int)=(↑v13.1:Int)/\True)/\some v5.1=some v12.1/\List.set v5.2 v7.toNat (nI v5.2 v7.toNat+(1:Int))=v13.2/\True/\True/\True/\True/\True/\True/\True/\True/\True/\True/\True/\True/\True/\True/\True)/\∀(v14:Nat × List Int),x4p v12.2.1 v12.2.2 v14.1 v14.2->(decide ((↑v14.1:Int)<k)=true->fits .i64 ((↑v14.1:Int)-(1:Int))/\((0:Int)<=(↑v14.1:Int)-(1:Int)/\(↑v14.1:Int)-(1:Int)<(↑v14.2.length:Int))/\((↑v14.1:Int)-(1:Int)).toNat<v14.2.length/\fits .i64 (nI v14.2 ((↑v14.1:Int)-(1:Int)).toNat+(1:Int))/\((0:Int)<=(↑v14.1:Int)/\(↑v14.1:Int)<(↑v14.2.length:Int))/\(↑v14.1:Int).toNat<v14.2.length/\fits .i64 ((↑v14.1:Int)+(1:Int))/\∃(v17:Nat × List Int),x4p v12.2.1 v12.2.2 v17.1 v17.2/\v12.2.1.length-v17.1<v12.2.1.length-v14.1/\(True/\(↑v14.1:Int)+(1:Int)=(↑v17.1:Int)/\True)/\some v12.1=some v12.1/\List.set v14.2 (↑v14.1:Int).toNat (nI v14.2 ((↑v14.1:Int)-(1:Int)).toNat+(1:Int))=v17.2/\True/\True/\True/\True/\True/\True/\True/\True/\True/\True/\True/\True/\True/\True/\True)/\(decide ((↑v14.1:Int)<k)=false->∃(v17:Nat × List Int),xd7 n k v17.1 v17.2/\Q0.length+(1:Nat)-v17.1<Q0.length+(1:Nat)-v2.1/\(True/\True)/\some v12.1=some v17.1/\v14.2=v17.2/\True))))/\(decide ((0:Int)<=v7)=false->(decide (v7<(0:Int))=true->v5.1=(qj1.L (w05 [tInt,tInt] [tInts] [(12:Nat)] Q1 (List.map (λ(v11:List Int)=>(v11,())) Q0) l (some (3:Nat)))).length)/\(decide (v7<(0:Int))=false->((0:Int)<=v7/\v7<(↑v5.2.length:Int))/\v7.toNat<v5.2.length/\fits .i64 (nI v5.2 v7.toNat+(1:Int))/\((0:Int)<=v7/\v7<(↑v5.2.length:Int))/\v7.toNat<v5.2.length/\fits .i64 (v7+(1:Int))/\∃(v11:Nat × List Int × Nat),∃(v12:Nat × List Int),x4p v11.2.1 v11.2.2 v12.1 v12.2/\((True/\v7+(1:Int)=(↑v12.1:Int)/\True)/\some v5.1=some v11.1/\List.set v5.2 v7.toNat (nI v5.2 v7.toNat+(1:Int))=v12.2/\True/\True/\True/\True/\True/\True/\True/\True/\True/\True/\True/\True/\True/\True/\True)/\∀(v13:Nat × List Int),x4p v11.2.1 v11.2.2 v13.1 v13.2->(decide ((↑v13.1:Int)<k)=true->fits .i64 ((↑v13.1:Int)-(1:Int))/\((0:Int)<=(↑v13.1:Int)-(1:Int)/\(↑v13.1:Int)-(1:Int)<(↑v13.2.length:Int))/\((↑v13.1:Int)-(1:Int)).toNat<v13.2.length/\fits .i64 (nI v13.2 ((↑v13.1:Int)-(1:Int)).toNat+(1:Int))/\((0:Int)<=(↑v13.1:Int)/\(↑v13.1:Int)<(↑v13.2.length:Int))/\(↑v13.1:Int).toNat<v13.2.length/\fits .i64 ((↑v13.1:Int)+(1:Int))/\∃(v16:Nat × List Int),x4p v11.2.1 v11.2.2 v16.1 v16.2/\v11.2.1.length-v16.1<v11.2.1.length-v13.1/\(True/\(↑v13.1:Int)+(1:Int)=(↑v16.1:Int)/\True)/\some v11.1=some v11.1/\List.set v13.2 (↑v13.1:Int).toNat (nI v13.2 ((↑v13.1:Int)-(1:Int)).toNat+(1:Int))=v16.2/\True/\True/\True/\True/\True/\True/\True/\True/\True/\True/\True/\True/\True/\True/\True)/\(decide ((↑v13.1:Int)<k)=false->∃(v16:Nat × List Int),xd7 n k v16.1 v16.2/\Q0.length+(1:Nat)-v16.1<Q0.length+(1:Nat)-v2.1/\(True/\True)/\some v11.1=some v16.1/\v13.2=v16.2/\True))))/\True)/\(decide (k<=n)=false->v2.1=(qj1.L (w05 [tInt,tInt] [tInts] [(12:Nat)] Q1 (List.map (λ(v5:List Int)=>(v5,())) Q0) l (some (3:Nat)))).length)) ?_
 obtain⟨⟨hk0,hk1⟩,hn0,hn1⟩:=h
 refine⟨ow,(),(0,qp8 k.toNat),⟨qg1 _,λhkn=>?_,λ_=>rfl⟩,⟨rfl,rfl⟩,?_⟩
 ·unfold qg4
  rw[zao hkn,wd6 ow,xx9]
 rintro⟨c,s⟩ ⟨hl,ha,hz⟩
 dsimp only at hl ha hz ⊢
 refine⟨λhkn=>?_,λhkn=>?_⟩
 ·have hat:=ha hkn
  have hc:=(zag.1 hat).1
  have hin:=x4q (zah hat)
  have hnx:=xd8 hkn hk0 hat
  have hmap:((qg4 n k).map λv=>((v,()):qa5 [tInts])).length=(qg4 n k).length:=za8 _
  refine⟨rfl,?_,qa3,(c+1,s),k-1,⟨ow,ow,λq h1 h2=>by grind⟩,⟨rfl,rfl,rfl⟩,?_⟩
  ·show((qg4 n k).map λv=>((v,()):qa5 [tInts]))[c]? = some (s,())
   grind
  rintro i ⟨lo,hi,last⟩
  dsimp only at lo hi last ⊢
  have fin:i<0->c+1=((qg4 n k).map λv=>((v,()):qa5 [tInts])).length:=λhneg=>by
   grind [q5f,q5g,List.getElem?_eq_none_iff]
  refine⟨λhi0=>?_,λhi0=>⟨fin,λh=>by omega⟩⟩
  have hb1:=hin.lo i.toNat ow
  have hb2:=hin.hi i.toNat ow
  refine⟨ow,ow,qa3,qa3,λheq=>⟨qa3,i-1,⟨ow,ow,λq h1 h2=>?_⟩,ow,rfl⟩,λhne=>⟨fin,λ_=>?_⟩⟩
  ·grind
  have hil:i.toNat<s.length:=ow
  refine⟨ow,hil,qa3,ow,hil,qa3,(c+1,s,i.toNat),(i.toNat+1,s.set i.toNat (nI s i.toNat+1)),⟨zeh _,hil,(xd6 s i.toNat hil).symm⟩,⟨ow,rfl,rfl⟩,?_⟩
  rintro⟨j,r⟩ ⟨h1,h2,h3⟩
  dsimp only at h1 h2 h3 ⊢
  have hrl:r.length=s.length:=by rw[h3,q8b]
  refine⟨λhj=>?_,λhj=>?_⟩
  ·have e:((j:Int)-1).toNat=j-1:=ow
   rw[e]
   have hv:nI r (j-1)=nI s i.toNat+1+(j-1-i.toNat:Nat):=by
    rw[h3,w34 _ _ _ _ ow,zao ow,wl0 _ _ _ hil ow,zak ow]
   refine⟨qa3,ow,ow,qa3,ow,ow,qa3,(j+1,r.set j (nI r (j-1)+1)),⟨ow,ow,?_⟩,ow,by rfl,rfl⟩
   grind [xx7]
  ·have hjl:j=s.length:=ow
   have hr:r=xq9 s i.toNat:=by grind [x4o]
   have hlt2:nI s i.toNat<n-s.length+i.toNat:=by
    grind
   have hst:q5f n s=some (xq9 s i.toNat):=wd7 hil (λq h1 h2=>by grind) hlt2
   refine⟨(c+1,r),⟨hrl.trans hl,λ_=>?_,λh=>absurd (Int.lt_of_lt_of_le h hkn) (Int.lt_irrefl _)⟩,Nat.sub_lt_sub_left (Nat.lt_succ_of_lt hc) (zeh c),rfl,rfl⟩
   grind
 ·show c=((qg4 n k).map λv=>((v,()):qa5 [tInts])).length
  simp_all [List.length_map,qg4,if_neg]
abbrev yk5:qb3:=xv8 false none [tInt,tInt] (λ_=>True) (λx=>.clo 203 (.cons (.imm (.cons (.lit (.int .i64 x.2.1)) .nil) 0) (.cons (.imm (.cons (.lit (.int .i64 x.1)) .nil) 0) .nil)))
theorem w63:Meets Tryz.prog 154 yk5:=by
 refine w3w (snd (SpecsOk.nil _)) Tryz.func154 rfl rfl (λ_ _=>none) (λ_=>by kernel_rfl) dc ?_
 rintro⟨n,k,⟨⟩⟩ -
 revert n k
 intro(n:Int) (k:Int)
 refine vcr (((k=k/\True)/\(0:Nat)=(0:Nat))/\((n=n/\True)/\(0:Nat)=(0:Nat))/\True) ?_
 simp
def yk6 (l:List Int) (x:Int):Nat->Option Inv:=yj5 (.int .i64) l λe=>x==e
abbrev yx0:qb3:=qe8 true none [tInts,tInt] [tInt] (λx=>x.1.length<=1000000) (λx=>(ixT (.int .i64) (λe=>x.2.1==e) x.1,()))
theorem xd9:Meets Tryz.prog 104 yx0:=by
 refine mts (SpecsOk.nil _) Tryz.func104 (λx=>yk6 x.1 x.2.1) ?_
 rintro⟨l,x,⟨⟩⟩ h
 revert l x
 intro(l:List Int) (x:Int) (h:l.length<=1000000)
 refine vcs (∃(v0:Unit),∃(v1:Nat),(v1<=l.length/\∀(v2:Nat),Nat.le (Nat.succ v2) v1->(x==nI l v2)=false)/\(((0:Int)=(↑v1:Int)/\True)/\True)/\∀(v2:Nat),(v2<=l.length/\∀(v4:Nat),Nat.le (Nat.succ v4) v2->(x==nI l v4)=false)->(decide ((↑v2:Int)<(↑l.length:Int))=true->((0:Int)<=(↑v2:Int)/\(↑v2:Int)<(↑l.length:Int))/\((x==nI l v2)=true->(↑v2:Int)=ixT (Ty.int .i64) (λ(v6:Int)=>x==v6) l)/\((x==nI l v2)=false->fits .i64 ((↑v2:Int)+(1:Int))/\∃(v6:Nat),(v6<=l.length/\∀(v7:Nat),Nat.le (Nat.succ v7) v6->(x==nI l v7)=false)/\l.length-v6<l.length-v2/\((↑v2:Int)+(1:Int)=(↑v6:Int)/\True)/\True))/\(decide ((↑v2:Int)<(↑l.length:Int))=false->(-1:Int)=ixT (Ty.int .i64) (λ(v5:Int)=>x==v5) l)) ?_
 refine⟨(),0,⟨zae _,λi hi=>absurd hi ow⟩,rfl,λk ⟨hk,hall⟩=>?_⟩
 refine⟨λhlt=>⟨hlt,λhf=>(wt9 (.int .i64) (λe=>x==e) l k hlt (λi hi=>beq_false_of_ne λe=>hall i hi e) (beq_iff_eq.2 hf)).symm,λhf=>⟨qa3,k+1,⟨ow,λi hi=>?_⟩,ow,ow⟩⟩,λhge=>(q6v (.int .i64) (λe=>x==e) l λi hi=>beq_false_of_ne λe=>hall i ow e).symm⟩
 grind
abbrev yx1:qb3:=qe8 true none [tInts,tInt] [.bool] (λx=>x.1.length<=1000000) (λx=>(x.1.any λe=>x.2.1==e,()))
theorem wv4:Meets Tryz.prog 156 yx1:=by
 refine mt0 (SpecsOk.cons xd9 (SpecsOk.nil _)) Tryz.func156 ?_
 rintro⟨l,x,⟨⟩⟩ h
 revert l x
 intro(l:List Int) (x:Int) (h:l.length<=1000000)
 refine vcs (l.length<=(1000000:Nat)/\decide ((0:Int)<=ixT (Ty.int .i64) (λ(v0:Int)=>x==v0) l)=List.any l λ(v0:Int)=>x==v0) ?_
 grind [q2f]
abbrev x8m:qb3:=qe8 true none [tInt] [.bool] (λ_=>True) (λx=>(x.1 != 0,()))
theorem w64:Meets Tryz.prog 205 x8m:=by
 refine mt0 (SpecsOk.nil _) Tryz.func205 ?_
 rintro⟨n,⟨⟩⟩ -
 revert n
 intro(n:Int)
 exact vct ((n != (0:Int))=(n != (0:Ty.den tInt)))
def qx8 (l:List Int):Int:=ixT (.int .i64) (λe=>e != 0) l
def q8c (l:List Int):List Int:=if 0<=qx8 (qe4 l)/\nI (qe4 l) (qx8 (qe4 l)).toNat<0 then xx2 (qe4 l) else qe4 l
abbrev yk7:qr3:=wt1 (q4c []) false true 0 3 (.int .i64) (λrows _=>q5d (nL rows 0)) (λ_ _=>.tup .nil) (λrows _=>[q8c (nL rows 0)])
structure xy0 (l:List Int) (i:Nat) (r:List Int):Prop where
 le:i<=l.length
 eq:r=ovr (.int .i64) (λq=>0-nI l q) l i
def x8o (T:q7a) (l:List Int):Nat->Option Inv
 | 0=>some (Inv.of [0,20] 1 (λs:Nat × List Int=>[(0,.msl 0 (some 0)),(20,.lit (.int .i64 s.1))]) (λs=>[.mat 0 3 (.int .i64) [s.2] (some []) (some T)]) (λs=>xy0 (qe4 l) s.1 s.2) (λs=>(qe4 l).length-s.1))
 | _=>none
theorem wd8 {l:List Int} (h:q5d l):q5d (qe4 l):=by
 unfold qe4
 split
 ·refine⟨by simpa using h.1,λx hx=>?_⟩
  obtain⟨y,hy,rfl⟩:=zba.1 hx
  exact ql7 (h.2 y hy)
 omega
theorem w65:qv5 Tryz.prog 157 yk7:=by
 refine q7z (x79 (SpecsOk.cons (wu1 (fs:=[(205,x8m)]) (SpecsOk.cons w64 (SpecsOk.nil _))) (SpecsOk.nil _)) (MutsOk.cons q3g MutsOk.nil)) Tryz.func157 rfl rfl (qx0 []) (λT rows _=>x8o T (nL rows 0)) (λ_ _ _=>by kernel_rfl) dc ?_ rfl
 rintro T rows ⟨⟩ h hone
 obtain⟨l,rfl⟩:∃l:List Int,rows=[l]:=by
  have h1:=hone rfl
  match rows,h1 with
  | [l],_=>simp
 have h:q5d l:=h
 refine vcs (q5d (nL [nL [l] (0:Nat)] (0:Nat))/\∃(v0:qa5 [Ty.int .i64]->Prop),∃(v1:qa5 [Ty.int .i64]->Bool),(∀(v2:Int × qa5._f [] PUnit.unit),v0 v2->True/\(v2.1 != (0:Ty.den tInt))=v1 v2)/\((nL (List.set [l] (0:Nat) (nL [qe4 (nL [nL [l] (0:Nat)] (0:Nat))] (0:Nat))) (0:Nat)).length<=(1000000:Nat)/\∀(v2:Nat),v2<(nL (List.set [l] (0:Nat) (nL [qe4 (nL [nL [l] (0:Nat)] (0:Nat))] (0:Nat))) (0:Nat)).length->v0 (nI (nL (List.set [l] (0:Nat) (nL [qe4 (nL [nL [l] (0:Nat)] (0:Nat))] (0:Nat))) (0:Nat)) v2,()))/\(decide ((0:Int)<=ixT (Ty.int .i64) (λ(v3:Int)=>v1 (v3,())) (nL (List.set [l] (0:Nat) (nL [qe4 (nL [nL [l] (0:Nat)] (0:Nat))] (0:Nat))) (0:Nat)))=true->((0:Int)<=ixT (Ty.int .i64) (λ(v3:Int)=>v1 (v3,())) (nL (List.set [l] (0:Nat) (nL [qe4 (nL [nL [l] (0:Nat)] (0:Nat))] (0:Nat))) (0:Nat))/\ixT (Ty.int .i64) (λ(v3:Int)=>v1 (v3,())) (nL (List.set [l] (0:Nat) (nL [qe4 (nL [nL [l] (0:Nat)] (0:Nat))] (0:Nat))) (0:Nat))<(↑(nL (List.set [l] (0:Nat) (nL [qe4 (nL [nL [l] (0:Nat)] (0:Nat))] (0:Nat))) (0:Nat)).length:Int))/\(ixT (Ty.int .i64) (λ(v3:Int)=>v1 (v3,())) (nL (List.set [l] (0:Nat) (nL [qe4 (nL [nL [l] (0:Nat)] (0:Nat))] (0:Nat))) (0:Nat))).toNat<(nL (List.set [l] (0:Nat) (nL [qe4 (nL [nL [l] (0:Nat)] (0:Nat))] (0:Nat))) (0:Nat)).length/\(decide (nI (nL (List.set [l] (0:Nat) (nL [qe4 (nL [nL [l] (0:Nat)] (0:Nat))] (0:Nat))) (0:Nat)) (ixT (Ty.int .i64) (λ(v4:Int)=>v1 (v4,())) (nL (List.set [l] (0:Nat) (nL [qe4 (nL [nL [l] (0:Nat)] (0:Nat))] (0:Nat))) (0:Nat))).toNat<(0:Int))=true->∃(v4:Unit),∃(v5:Nat × List Int),xy0 (qe4 (nL [l] (0:Nat))) v5.1 v5.2/\((some (0:Nat)=some (0:Nat)/\(0:Int)=(↑v5.1:Int)/\True)/\(List.set [l] (0:Nat) (nL [qe4 (nL [nL [l] (0:Nat)] (0:Nat))] (0:Nat))=[v5.2]/\True/\T=T)/\True)/\∀(v6:Nat × List Int),xy0 (qe4 (nL [l] (0:Nat))) v6.1 v6.2->(decide ((↑v6.1:Int)<(↑(nL (List.set [l] (0:Nat) (nL [qe4 (nL [nL [l] (0:Nat)] (0:Nat))] (0:Nat))) (0:Nat)).length:Int))=true->((0:Int)<=(↑v6.1:Int)/\(↑v6.1:Int)<(↑(nL [v6.2] (0:Nat)).length:Int))/\(↑v6.1:Int).toNat<(nL [v6.2] (0:Nat)).length/\fits .i64 ((0:Int)-nI (nL [v6.2] (0:Nat)) (↑v6.1:Int).toNat)/\((0:Int)<=(↑v6.1:Int)/\(↑v6.1:Int)<(↑(nL [v6.2] (0:Nat)).length:Int))/\(↑v6.1:Int).toNat<(nL [v6.2] (0:Nat)).length/\fits .i64 ((↑v6.1:Int)+(1:Int))/\∃(v9:Nat × List Int),xy0 (qe4 (nL [l] (0:Nat))) v9.1 v9.2/\(qe4 (nL [l] (0:Nat))).length-v9.1<(qe4 (nL [l] (0:Nat))).length-v6.1/\(some (0:Nat)=some (0:Nat)/\(↑v6.1:Int)+(1:Int)=(↑v9.1:Int)/\True)/\(List.set [v6.2] (0:Nat) (List.set (nL [v6.2] (0:Nat)) (↑v6.1:Int).toNat ((0:Int)-nI (nL [v6.2] (0:Nat)) (↑v6.1:Int).toNat))=[v9.2]/\True/\T=T)/\True)/\(decide ((↑v6.1:Int)<(↑(nL (List.set [l] (0:Nat) (nL [qe4 (nL [nL [l] (0:Nat)] (0:Nat))] (0:Nat))) (0:Nat)).length:Int))=false->[v6.2]=[q8c (nL [l] (0:Nat))]/\T=T/\True/\(0:Nat)=(0:Nat)))/\(decide (nI (nL (List.set [l] (0:Nat) (nL [qe4 (nL [nL [l] (0:Nat)] (0:Nat))] (0:Nat))) (0:Nat)) (ixT (Ty.int .i64) (λ(v4:Int)=>v1 (v4,())) (nL (List.set [l] (0:Nat) (nL [qe4 (nL [nL [l] (0:Nat)] (0:Nat))] (0:Nat))) (0:Nat))).toNat<(0:Int))=false->List.set [l] (0:Nat) (nL [qe4 (nL [nL [l] (0:Nat)] (0:Nat))] (0:Nat))=[q8c (nL [l] (0:Nat))]/\T=T/\True/\(0:Nat)=(0:Nat)))/\(decide ((0:Int)<=ixT (Ty.int .i64) (λ(v3:Int)=>v1 (v3,())) (nL (List.set [l] (0:Nat) (nL [qe4 (nL [nL [l] (0:Nat)] (0:Nat))] (0:Nat))) (0:Nat)))=false->List.set [l] (0:Nat) (nL [qe4 (nL [nL [l] (0:Nat)] (0:Nat))] (0:Nat))=[q8c (nL [l] (0:Nat))]/\T=T/\True/\(0:Nat)=(0:Nat))) ?_
 have hs:=wd8 h
 have hl:=hs.1
 refine⟨h,λ_=>True,λx=>x.1 != 0,λ_ _=>rfl,⟨ow,λ_ _=>trivial⟩,λh1=>?_,λh1=>?_⟩
 ·have h1:0<=qx8 (qe4 l):=by first | exact zbn h1 | exact h1
  have h2:qx8 (qe4 l)<(qe4 l).length:=(wu0 (.int .i64) _ _).1
  refine⟨⟨h1,h2⟩,by grind [qx8,qe4],λh3=>?_,λh3=>?_⟩
  ·have h3:nI (qe4 l) (qx8 (qe4 l)).toNat<0:=by first | exact zbn h3 | exact h3
   have hp:q8c l=xx2 (qe4 l):=by simp_all [q8c,if_pos]
   refine⟨(),(0,qe4 l),⟨zae _,(qt0 (.int .i64) _ _).symm⟩,⟨rfl,rfl⟩,?_⟩
   rintro⟨i,r⟩ ⟨k1,k2⟩
   dsimp only at k1 k2 ⊢
   have hrl:r.length=(qe4 l).length:=by grind [qs5]
   refine⟨λhlt=>?_,λhge=>?_⟩
   ·have hv:nI r i=nI (qe4 l) i:=by
     rw[k2]
     exact(q4h (.int .i64) _ _ _ _ hlt).trans (zak (zbw _))
    have hb:=q1m hs hlt
    unfold qc0 BIG at hb
    rw[hv]
    refine⟨ow,ow,qa3,ow,ow,qa3,(i+1,r.set i (0-nI (qe4 l) i)),⟨ow,?_⟩,ow,by rfl,rfl⟩
    grind [qq5,nI,qe4]
   ·rw[hp,k2]
    exact qx6 (.int .i64) _ _ _ ow
  ·have h3:¬nI (qe4 l) (qx8 (qe4 l)).toNat<0:=by first | exact zd6 h3 | exact h3 | exact zbd.2 h3
   simp_all [q8c,if_neg]
 ·have h1:¬0<=qx8 (qe4 l):=by first | exact zd6 h1 | exact h1 | exact zc8.2 h1
  unfold q8c; grind
end Go.Proofs.YtnchigbbjajiiaaGreat
