/- Sets, searches for a number, primitive vectors: contracts by the engine. No condition. -/
import Derived.Test.YtmijnbjlhnpokaaGreatV8
set_option linter.unusedVariables false
set_option linter.unusedSimpArgs false
namespace Go.Proofs.YtmijnbjlhnpokaaGreat
open Go Go.RowKit Eng
def w8f (a:Int):Nat->List Int
 | 0=>[]
 | k+1=>a :: w8f (a+1) k
theorem q5y (a:Int) (k:Nat):(w8f a k).length=k:=by
 induction k generalizing a with
 | zero=>rfl
 | succ k ih=>simp[w8f,ih]
def qq4:Nat->Nat->Int->List (List Int)
 | _,0,_=>[[]]
 | 0,_+1,_=>[]
 | m+1,k+1,a=>(qq4 m k (a+1)).map (a :: ·)++qq4 m (k+1) (a+1)
def q4j (n:Int):List Int->Option (List Int)
 | []=>none
 | x :: t=>match q4j n t with
  | some t'=>some (x :: t')
  | none=>if x+t.length+1<n then some (w8f (x+1) (t.length+1)) else none
theorem wm7 {m k:Nat} {a:Int} {l:List Int} (h:l∈qq4 m k a):l.length=k:=by
 induction m generalizing k a l with
 | zero=>cases k with
  | zero=>simp[qq4] at h; simp[h]
  | succ k=>cases h
 | succ m ih=>cases k with
  | zero=>simp[qq4] at h; simp[h]
  | succ k=>
   rcases List.mem_append.1 h with h | h
   ·obtain⟨t,ht,rfl⟩:=List.mem_map.1 h
    simp[ih ht]
   ·exact ih h
structure InC (m k:Nat) (a:Int) (l:List Int):Prop where
 len:l.length=k
 lo:∀i,i<k->a+i<=nI l i
 hi:∀i,i<k->nI l i+(k-i:Nat)<=a+m
 asc:∀i,0<i->i<k->nI l (i-1)<nI l i
theorem q2o (x:Int) (t:List Int):nI (x :: t) 0=x:=rfl
theorem qv4 (x:Int) (t:List Int) (i:Nat):nI (x :: t) (i+1)=nI t i:=rfl
theorem w1p {m k:Nat} {a:Int} {l:List Int} (h:l∈qq4 m k a):InC m k a l:=by
 induction m generalizing k a l with
 | zero=>cases k with
  | zero=>simp[qq4] at h; subst h; exact⟨rfl,λi hi=>by omega,λi hi=>by omega,λi _ hi=>by omega⟩
  | succ k=>cases h
 | succ m ih=>cases k with
  | zero=>simp[qq4] at h; subst h; exact⟨rfl,λi hi=>by omega,λi hi=>by omega,λi _ hi=>by omega⟩
  | succ k=>
   rcases List.mem_append.1 h with h | h
   ·obtain⟨t,ht,rfl⟩:=List.mem_map.1 h
    have q:=ih ht
    refine⟨by simp[q.len],λi hi=>?_,λi hi=>?_,λi h0 hi=>?_⟩
    ·cases i with
     | zero=>rw[q2o]; omega
     | succ i=>rw[qv4]; have:=q.lo i (by omega); omega
    ·cases i with
     | zero=>
      rw[q2o]
      cases k with
      | zero=>omega
      | succ k=>have h1:=q.lo 0 (by omega); have h2:=q.hi 0 (by omega); omega
     | succ i=>rw[qv4]; have:=q.hi i (by omega); omega
    ·obtain⟨i,rfl⟩:∃q,i=q+1:=⟨i-1,by omega⟩
     rw[qv4,Nat.add_sub_cancel]
     cases i with
     | zero=>rw[q2o]; have:=q.lo 0 (by omega); omega
     | succ i=>rw[qv4]; have:=q.asc (i+1) (by omega) (by omega); simpa using this
   ·have q:=ih h
    exact⟨q.len,λi hi=>by have:=q.lo i hi; omega,λi hi=>by have:=q.hi i hi; omega,q.asc⟩
theorem w4h {m k:Nat} {a:Int} (h:m<k):qq4 m k a=[]:=by
 induction m generalizing k a with
 | zero=>cases k with
  | zero=>omega
  | succ k=>rfl
 | succ m ih=>cases k with
  | zero=>omega
  | succ k=>simp[qq4,ih (k:=k) (a:=a+1) (by omega),ih (k:=k+1) (a:=a+1) (by omega)]
theorem q9n {m k:Nat} {a:Int} (h:k<=m):(qq4 m k a)[0]? = some (w8f a k):=by
 induction m generalizing k a with
 | zero=>
  obtain rfl:k=0:=by omega
  rfl
 | succ m ih=>cases k with
  | zero=>rfl
  | succ k=>
   have:=ih (k:=k) (a:=a+1) (by omega)
   have hl:0<(qq4 m k (a+1)).length:=(List.getElem?_eq_some_iff.1 this).1
   rw[qq4,List.getElem?_append_left (by simpa using hl),List.getElem?_map,this]
   rfl
theorem w4i {m k:Nat} {a n:Int} (hn:n=a+m) {c:Nat} {l:List Int} (h:(qq4 m k a)[c]? = some l):q4j n l=(qq4 m k a)[c+1]?:=by
 induction m generalizing k a c l with
 | zero=>cases k with
  | zero=>
   have hc:=(List.getElem?_eq_some_iff.1 h).1
   simp[qq4] at hc
   subst hc
   simp[qq4] at h
   subst h
   rfl
  | succ k=>simp[qq4] at h
 | succ m ih=>cases k with
  | zero=>
   have hc:=(List.getElem?_eq_some_iff.1 h).1
   simp[qq4] at hc
   subst hc
   simp[qq4] at h
   subst h
   rfl
  | succ k=>
   rw[qq4] at h ⊢
   rcases Nat.lt_or_ge c ((qq4 m k (a+1)).map (a :: ·)).length with hlt | hge
   ·rw[List.getElem?_append_left hlt,List.getElem?_map] at h
    obtain⟨t,ht,rfl⟩:=Option.map_eq_some_iff.1 h
    have hi:=ih (by omega) ht
    have htl:=wm7 (List.mem_of_getElem? ht)
    have hcl:c<(qq4 m k (a+1)).length:=by simpa using hlt
    simp only[q4j,hi]
    rcases Nat.lt_or_ge (c+1) (qq4 m k (a+1)).length with h2 | h2
    ·rw[List.getElem?_eq_getElem h2,List.getElem?_append_left (by simpa using h2),List.getElem?_map,List.getElem?_eq_getElem h2]
     rfl
    ·rw[List.getElem?_eq_none h2,List.getElem?_append_right (by simpa using h2)]
     have e:c+1-((qq4 m k (a+1)).map (a :: ·)).length=0:=by simp; omega
     rw[e,htl]
     simp only
     by_cases hk:k+1<=m
     ·rw[q9n hk,if_pos (by omega)]
     ·rw[w4h (by omega),if_neg (by omega)]
      rfl
   ·rw[List.getElem?_append_right hge] at h
    rw[List.getElem?_append_right (by omega)]
    have:=ih (by omega) h
    rw[this]
    congr 1
    omega
def qe9 (n k:Int):List (List Int):=if k<=n then qq4 n.toNat k.toNat 0 else[]
theorem w8g (a:Int) (k i:Nat) (h:i<k):nI (w8f a k) i=a+i:=by
 induction k generalizing a i with
 | zero=>omega
 | succ k ih=>cases i with
  | zero=>simp[w8f,q2o]
  | succ i=>rw[w8f,qv4,ih _ _ (by omega)]; omega
theorem q4k {n:Int}:∀{l:List Int},(∀q:Nat,q<l.length->nI l q=n-l.length+q)->q4j n l=none
 | [],_=>rfl
 | x :: t,h=>by
  have h0:=h 0 (by simp)
  rw[q2o] at h0
  have ht:q4j n t=none:=q4k λq hq=>by
   have:=h (q+1) (by simpa using hq)
   rw[qv4] at this
   simp only[List.length_cons] at this
   omega
  simp only[q4j,ht]
  rw[if_neg]
  simp only[List.length_cons] at h0
  omega
theorem q9o {n:Int}:∀{l:List Int} {i:Nat},i<l.length->(∀q:Nat,i<q->q<l.length->nI l q=n-l.length+q)->nI l i<n-l.length+i->q4j n l=some (l.take i++w8f (nI l i+1) (l.length-i))
 | x :: t,0,_,h,h0=>by
  rw[q2o] at h0
  have ht:q4j n t=none:=q4k λq hq=>by
   have:=h (q+1) (by omega) (by simpa using hq)
   rw[qv4] at this
   simp only[List.length_cons] at this
   omega
  simp only[q4j,ht]
  simp only[List.length_cons] at h0
  rw[if_pos (by omega)]
  simp[q2o]
 | x :: t,i+1,hi,h,h0=>by
  have:=q9o (n:=n) (l:=t) (i:=i) (by simpa using hi) (λq h1 h2=>by
   have:=h (q+1) (by omega) (by simpa using h2)
   rw[qv4] at this
   simp only[List.length_cons] at this
   omega) (by
   rw[qv4] at h0
   simp only[List.length_cons] at h0
   omega)
  simp only[q4j,this,qv4,List.take_succ_cons,List.length_cons,Nat.add_sub_add_right,List.cons_append]
def xc4 (l:List Int) (i:Nat):List Int:=l.take i++w8f (nI l i+1) (l.length-i)
theorem w1q (l:List Int) (i:Nat) (hi:i<l.length):(xc4 l i).length=l.length:=by
 simp[xc4,q5y]; omega
theorem wd5 (l:List Int) (i q:Nat) (hi:i<l.length) (hq:q<l.length):nI (xc4 l i) q=if q<i then nI l q else nI l i+1+(q-i:Nat):=by
 rw[qh0 _ _ (by rw[w1q l i hi]; exact hq)]
 unfold xc4
 split
 ·rename_i h
  rw[List.getElem_append_left (by simp; omega),List.getElem_take,qh0 l q hq]
 ·rename_i h
  rw[List.getElem_append_right (by simp; omega)]
  have hl:(l.take i).length=i:=by simp; omega
  have:=w8g (nI l i+1) (l.length-i) (q-i) (by omega)
  rw[qh0 _ _ (by rw[q5y]; omega)] at this
  rw[<- this]
  congr 1
  omega
def mkC (l:List Int) (i j:Nat):List Int:=ovr (.int .i64) (nI (xc4 l i)) l j
theorem q69 (l:List Int) (i j:Nat):(mkC l i j).length=l.length:=qv2 (.int .i64) _ _ _
theorem w1r (l:List Int) (i j q:Nat) (hq:q<l.length):nI (mkC l i j) q=if q<j then nI (xc4 l i) q else nI l q:=q9g (.int .i64) _ _ _ _ hq
theorem w8h {a b:List Int} (h:a.length=b.length) (k:∀i,i<a.length->nI a i=nI b i):a=b:=by
 apply List.ext_getElem h
 intro i h1 h2
 have:=k i h1
 rwa [qh0 _ _ h1,qh0 _ _ h2] at this
theorem w8i (l:List Int) (i:Nat) (hi:i<l.length):mkC l i (i+1)=l.set i (nI l i+1):=by
 apply w8h (by rw[q69,List.length_set])
 intro q hq
 rw[q69] at hq
 rw[w1r _ _ _ _ hq,qh0 (l.set i (nI l i+1)) q (by rw[List.length_set]; exact hq),List.getElem_set,wd5 _ _ _ hi hq]
 by_cases e:i=q
 ·subst e
  rw[if_pos (by omega),if_neg (Nat.lt_irrefl _),if_pos rfl]; simp
 ·rw[if_neg e,<- qh0 l q hq]
  by_cases h:q<i
  ·rw[if_pos (by omega),if_pos h]
  ·rw[if_neg (by omega)]
theorem xj1 (l:List Int) (i j:Nat) (hi:i<j) (hj:j<l.length):(mkC l i j).set j (nI (mkC l i j) (j-1)+1)=mkC l i (j+1):=by
 have e:nI (mkC l i j) (j-1)+1=nI (xc4 l i) j:=by
  rw[w1r _ _ _ _ (by omega),if_pos (by omega),wd5 _ _ _ (by omega) (by omega),wd5 _ _ _ (by omega) hj,if_neg (by omega)]
  split <;> omega
 rw[e]
 exact q1h (.int .i64) _ _ _
theorem xz3 (l:List Int) (i:Nat) (hi:i<l.length):mkC l i l.length=xc4 l i:=by
 apply w8h (by rw[q69,w1q l i hi])
 intro q hq
 rw[q69] at hq
 rw[w1r _ _ _ _ hq,if_pos hq]
structure w8j (n k:Int) (c:Nat) (l:List Int):Prop where
 len:l.length=k.toNat
 at_:k<=n->(qe9 n k)[c]? = some l
 cnt:n<k->c=0
structure xj2 (n k:Int) (l:List Int) (i:Int):Prop where
 lo:-1<=i
 hi:i<k
 last:∀q:Nat,i<q->q<l.length->nI l q=n-k+q
structure xz4 (l:List Int) (i j:Nat) (r:List Int):Prop where
 lo:i<j
 hi:j<=l.length
 eq:r=mkC l i j
abbrev x3t:qw1:=wv9 [qd0,qd0] [qe8] (λx=>(0<=x.1/\x.1<=1000)/\0<=x.2.1/\x.2.1<=1000) (λx=>(qe9 x.2.1 x.1).map λl=>(l,())) (some 3)
def x3u (n k:Int):Nat->Option Inv
 | 0=>some (Inv.of [4] 2 (λ_:Nat × List Int=>[(4,.own 1)]) (λs=>[.cnt (some s.1),.vec 3 (.int .i64) s.2]) (λs=>w8j n k s.1 s.2) (λs=>(qe9 n k).length+1-s.1))
 | 1=>some (Eng.Inv.mk (Nat × List Int) Int [4,5] 2 (λ_ i=>[(4,.own 1),(5,.lit (.int .i64 i))]) (λq i=>[.cnt (some q.1),.vec 3 (.int .i64) q.2]) (λq i=>xj2 n k q.2 i) (λq i=>(i+1).toNat))
 | 2=>some (Eng.Inv.mk (Nat × List Int × Nat) (Nat × List Int) [4,6] 16 (λ_ s=>[(4,.own 1),(6,.lit (.int .i64 s.1))]) (λq s=>[.cnt (some q.1),.vec 3 (.int .i64) s.2,.dead,.dead,.dead,.dead,.dead,.dead,.dead,.dead,.dead,.dead,.dead,.dead,.dead,.dead]) (λq s=>xz4 q.2.1 q.2.2 s.1 s.2) (λq s=>q.2.1.length-s.1))
 | _=>none
theorem xj3 (k:Nat):w8f 0 k=qp1 k:=by
 apply w8h (by rw[q5y,qf1])
 intro i hi
 rw[q5y] at hi
 rw[w8g _ _ _ hi,q0y _ _ hi]; omega
theorem w8k {n k:Int} (hkn:k<=n) (hk:0<=k) {c:Nat} {l:List Int} (h:(qe9 n k)[c]? = some l):q4j n l=(qe9 n k)[c+1]?:=by
 unfold qe9 at h ⊢
 rw[if_pos hkn] at h ⊢
 exact w4i (by omega) h
theorem xz5 {n k:Int} {l:List Int} (h:l∈qe9 n k):InC n.toNat k.toNat 0 l:=by
 unfold qe9 at h
 split at h
 ·exact w1p h
 ·cases h
theorem q9p:qt4 Tryz.prog 176 x3t:=by
 refine says (snd (SpecsOk.cons q63 (SpecsOk.nil _))) Tryz.func176 rfl rfl rfl [12] (λx=>x3u x.2.1 x.1) (λ_=>by kernel_rfl) (by decide) ?_
 rintro⟨k,n,⟨⟩⟩ l h
 revert k n
 intro(k:Int) (n:Int) (h:(0<=k/\k<=1000)/\0<=n/\n<=1000)
 refine @qd1 _ (let Q0:=qe9 n k; let Q1:=(k,n,PUnit.unit); k<=(100000:Ty.den qd0)/\∃(v0:Unit),∃(v1:Nat × List Int),w8j n k v1.1 v1.2/\((True/\True)/\some (0:Nat)=some v1.1/\qp1 k.toNat=v1.2/\True)/\∀(v2:Nat × List Int),w8j n k v2.1 v2.2->(decide (k<=n)=true->Value.func (Fn.yield l) #[] #[]=Value.func (Fn.yield (qh3.l (qz7 [qd0,qd0] [qe8] [(12:Nat)] Q1 (List.map (λ(v5:List Int)=>(v5,())) Q0) l (some (3:Nat))))) #[] #[]/\(qh3.L (qz7 [qd0,qd0] [qe8] [(12:Nat)] Q1 (List.map (λ(v5:List Int)=>(v5,())) Q0) l (some (3:Nat))))[v2.1]?=some (v2.2,())/\(fits .i64 (k-(1:Int))/\∃(v5:Nat × List Int),∃(v6:Int),xj2 n k v5.2 v6/\((True/\k-(1:Int)=v6/\True)/\some (v2.1+(1:Nat))=some v5.1/\v2.2=v5.2/\True)/\∀(v7:Int),xj2 n k v5.2 v7->(decide ((0:Int)<=v7)=true->((0:Int)<=v7/\v7<(↑v5.2.length:Int))/\v7.toNat<v5.2.length/\fits .i64 (n-k)/\fits .i64 (n-k+v7)/\((nI v5.2 v7.toNat==n-k+v7)=true->fits .i64 (v7-(1:Int))/\∃(v11:Int),xj2 n k v5.2 v11/\(v11+(1:Int)).toNat<(v7+(1:Int)).toNat/\(True/\v7-(1:Int)=v11/\True)/\some v5.1=some v5.1/\v5.2=v5.2/\True)/\((nI v5.2 v7.toNat==n-k+v7)=false->(decide (v7<(0:Int))=true->v5.1=(qh3.L (qz7 [qd0,qd0] [qe8] [(12:Nat)] Q1 (List.map (λ(v12:List Int)=>(v12,())) Q0) l (some (3:Nat)))).length)/\(decide (v7<(0:Int))=false->((0:Int)<=v7/\v7<(↑v5.2.length:Int))/\v7.toNat<v5.2.length/\fits .i64 (nI v5.2 v7.toNat+(1:Int))/\((0:Int)<=v7/\v7<(↑v5.2.length:Int))/\v7.toNat<v5.2.length/\fits .i64 (v7+(1:Int))/\∃(v12:Nat × List Int × Nat),∃(v13:Nat × List Int),xz4 v12.2.1 v12.2.2 v13.1 v13.2/\((True/\v7+(1:Int)=(↑v13.1:Int)/\True)/\some v5.1=some v12.1/\List.set v5.2 v7.toNat (nI v5.2 v7.toNat+(1:Int))=v13.2/\True/\True/\True/\True/\True/\True/\True/\True/\True/\True/\True/\True/\True/\True/\True)/\∀(v14:Nat × List Int),xz4 v12.2.1 v12.2.2 v14.1 v14.2->(decide ((↑v14.1:Int)<k)=true->fits .i64 ((↑v14.1:Int)-(1:Int))/\((0:Int)<=(↑v14.1:Int)-(1:Int)/\(↑v14.1:Int)-(1:Int)<(↑v14.2.length:Int))/\((↑v14.1:Int)-(1:Int)).toNat<v14.2.length/\fits .i64 (nI v14.2 ((↑v14.1:Int)-(1:Int)).toNat+(1:Int))/\((0:Int)<=(↑v14.1:Int)/\(↑v14.1:Int)<(↑v14.2.length:Int))/\(↑v14.1:Int).toNat<v14.2.length/\fits .i64 ((↑v14.1:Int)+(1:Int))/\∃(v17:Nat × List Int),xz4 v12.2.1 v12.2.2 v17.1 v17.2/\v12.2.1.length-v17.1<v12.2.1.length-v14.1/\(True/\(↑v14.1:Int)+(1:Int)=(↑v17.1:Int)/\True)/\some v12.1=some v12.1/\List.set v14.2 (↑v14.1:Int).toNat (nI v14.2 ((↑v14.1:Int)-(1:Int)).toNat+(1:Int))=v17.2/\True/\True/\True/\True/\True/\True/\True/\True/\True/\True/\True/\True/\True/\True/\True)/\(decide ((↑v14.1:Int)<k)=false->∃(v17:Nat × List Int),w8j n k v17.1 v17.2/\Q0.length+(1:Nat)-v17.1<Q0.length+(1:Nat)-v2.1/\(True/\True)/\some v12.1=some v17.1/\v14.2=v17.2/\True))))/\(decide ((0:Int)<=v7)=false->(decide (v7<(0:Int))=true->v5.1=(qh3.L (qz7 [qd0,qd0] [qe8] [(12:Nat)] Q1 (List.map (λ(v11:List Int)=>(v11,())) Q0) l (some (3:Nat)))).length)/\(decide (v7<(0:Int))=false->((0:Int)<=v7/\v7<(↑v5.2.length:Int))/\v7.toNat<v5.2.length/\fits .i64 (nI v5.2 v7.toNat+(1:Int))/\((0:Int)<=v7/\v7<(↑v5.2.length:Int))/\v7.toNat<v5.2.length/\fits .i64 (v7+(1:Int))/\∃(v11:Nat × List Int × Nat),∃(v12:Nat × List Int),xz4 v11.2.1 v11.2.2 v12.1 v12.2/\((True/\v7+(1:Int)=(↑v12.1:Int)/\True)/\some v5.1=some v11.1/\List.set v5.2 v7.toNat (nI v5.2 v7.toNat+(1:Int))=v12.2/\True/\True/\True/\True/\True/\True/\True/\True/\True/\True/\True/\True/\True/\True/\True)/\∀(v13:Nat × List Int),xz4 v11.2.1 v11.2.2 v13.1 v13.2->(decide ((↑v13.1:Int)<k)=true->fits .i64 ((↑v13.1:Int)-(1:Int))/\((0:Int)<=(↑v13.1:Int)-(1:Int)/\(↑v13.1:Int)-(1:Int)<(↑v13.2.length:Int))/\((↑v13.1:Int)-(1:Int)).toNat<v13.2.length/\fits .i64 (nI v13.2 ((↑v13.1:Int)-(1:Int)).toNat+(1:Int))/\((0:Int)<=(↑v13.1:Int)/\(↑v13.1:Int)<(↑v13.2.length:Int))/\(↑v13.1:Int).toNat<v13.2.length/\fits .i64 ((↑v13.1:Int)+(1:Int))/\∃(v16:Nat × List Int),xz4 v11.2.1 v11.2.2 v16.1 v16.2/\v11.2.1.length-v16.1<v11.2.1.length-v13.1/\(True/\(↑v13.1:Int)+(1:Int)=(↑v16.1:Int)/\True)/\some v11.1=some v11.1/\List.set v13.2 (↑v13.1:Int).toNat (nI v13.2 ((↑v13.1:Int)-(1:Int)).toNat+(1:Int))=v16.2/\True/\True/\True/\True/\True/\True/\True/\True/\True/\True/\True/\True/\True/\True/\True)/\(decide ((↑v13.1:Int)<k)=false->∃(v16:Nat × List Int),w8j n k v16.1 v16.2/\Q0.length+(1:Nat)-v16.1<Q0.length+(1:Nat)-v2.1/\(True/\True)/\some v11.1=some v16.1/\v13.2=v16.2/\True))))/\True)/\(decide (k<=n)=false->v2.1=(qh3.L (qz7 [qd0,qd0] [qe8] [(12:Nat)] Q1 (List.map (λ(v5:List Int)=>(v5,())) Q0) l (some (3:Nat)))).length)) (by kernel_rfl) ?_
 try simp only[z0,z1,z2,z3,z4,z5,z6,z7,z8,z9,z10,Int.reduceEq,z11,z12,z13,z14,z15,z16,z17,z18,z19,z20,z21,z22,z23,z24,z25,z26,z27,z28,z29,z30,Int.reduceLE,Int.reduceLT,z31,z32,z33,z34,qa1]
 try simp only[qa7,qa8,qb5,z31,z32,z2,z1]
 obtain⟨⟨hk0,hk1⟩,hn0,hn1⟩:=h
 refine⟨by omega,(),(0,qp1 k.toNat),⟨qf1 _,λhkn=>?_,λ_=>rfl⟩,⟨rfl,rfl⟩,?_⟩
 ·unfold qe9
  rw[if_pos hkn,q9n (by omega),xj3]
 rintro⟨c,s⟩ ⟨hl,ha,hz⟩
 dsimp only at hl ha hz ⊢
 refine⟨λhkn=>?_,λhkn=>?_⟩
 ·have hat:=ha hkn
  have hc:=(List.getElem?_eq_some_iff.1 hat).1
  have hin:=xz5 (List.mem_of_getElem? hat)
  have hnx:=w8k hkn hk0 hat
  have hmap:((qe9 n k).map λv=>((v,()):qa4 [qe8])).length=(qe9 n k).length:=List.length_map _
  refine⟨rfl,?_,qb8 (by omega) (by omega),(c+1,s),k-1,⟨by omega,by omega,λq h1 h2=>by dsimp only at h2; omega⟩,⟨rfl,rfl,rfl⟩,?_⟩
  ·show((qe9 n k).map λv=>((v,()):qa4 [qe8]))[c]? = some (s,())
   rw[List.getElem?_map,hat]; rfl
  rintro i ⟨lo,hi,last⟩
  dsimp only at lo hi last ⊢
  have fin:i<0->c+1=((qe9 n k).map λv=>((v,()):qa4 [qe8])).length:=λhneg=>by
   have hn:q4j n s=none:=q4k λq hq=>by rw[last q (by omega) hq]; omega
   rw[hn] at hnx
   have:=List.getElem?_eq_none_iff.1 hnx.symm
   omega
  refine⟨λhi0=>?_,λhi0=>⟨fin,λh=>by omega⟩⟩
  have hb1:=hin.lo i.toNat (by omega)
  have hb2:=hin.hi i.toNat (by omega)
  refine⟨by omega,by omega,qb8 (by omega) (by omega),qb8 (by omega) (by omega),λheq=>⟨qb8 (by omega) (by omega),i-1,⟨by omega,by omega,λq h1 h2=>?_⟩,by omega,rfl⟩,λhne=>⟨fin,λ_=>?_⟩⟩
  ·by_cases e:(q:Int)=i
   ·have:i.toNat=q:=by omega
    rw[this] at heq; rw[heq]; omega
   ·exact last q (by omega) h2
  have hil:i.toNat<s.length:=by omega
  refine⟨by omega,hil,qb8 (by omega) (by omega),by omega,hil,qb8 (by omega) (by omega),(c+1,s,i.toNat),(i.toNat+1,s.set i.toNat (nI s i.toNat+1)),⟨Nat.lt_succ_self _,hil,(w8i s i.toNat hil).symm⟩,⟨by dsimp only; omega,rfl,rfl⟩,?_⟩
  rintro⟨j,r⟩ ⟨h1,h2,h3⟩
  dsimp only at h1 h2 h3 ⊢
  have hrl:r.length=s.length:=by rw[h3,q69]
  refine⟨λhj=>?_,λhj=>?_⟩
  ·have e:((j:Int)-1).toNat=j-1:=by omega
   rw[e]
   have hv:nI r (j-1)=nI s i.toNat+1+(j-1-i.toNat:Nat):=by
    rw[h3,w1r _ _ _ _ (by omega),if_pos (by omega),wd5 _ _ _ hil (by omega),if_neg (by omega)]
   refine⟨qb8 (by omega) (by omega),by omega,by omega,qb8 (by omega) (by omega),by omega,by omega,qb8 (by omega) (by omega),(j+1,r.set j (nI r (j-1)+1)),⟨by dsimp only; omega,by dsimp only; omega,?_⟩,by dsimp only; omega,by dsimp only; omega,rfl⟩
   dsimp only
   rw[h3]
   exact xj1 s i.toNat j h1 (by omega)
  ·have hjl:j=s.length:=by omega
   have hr:r=xc4 s i.toNat:=by rw[h3,hjl,xz3 s i.toNat hil]
   have hlt2:nI s i.toNat<n-s.length+i.toNat:=by
    have h5:nI s i.toNat<n-k+i:=Int.lt_iff_le_and_ne.2 ⟨by omega,hne⟩
    omega
   have hst:q4j n s=some (xc4 s i.toNat):=q9o hil (λq h1 h2=>by rw[last q (by omega) h2]; omega) hlt2
   refine⟨(c+1,r),⟨hrl.trans hl,λ_=>?_,λh=>absurd (Int.lt_of_lt_of_le h hkn) (Int.lt_irrefl _)⟩,Nat.sub_lt_sub_left (Nat.lt_succ_of_lt hc) (Nat.lt_succ_self c),rfl,rfl⟩
   dsimp only
   rw[<- hnx,hst,hr]
 ·show c=((qe9 n k).map λv=>((v,()):qa4 [qe8])).length
  rw[List.length_map,hz hkn]
  unfold qe9
  rw[if_neg (by omega)]
  rfl
abbrev x78:qb4:=wl1 false none [qd0,qd0] (λ_=>True) (λx=>.clo 176 (.cons (.imm (.cons (.lit (.int .i64 x.2.1)) .nil) 0) (.cons (.imm (.cons (.lit (.int .i64 x.1)) .nil) 0) .nil)))
theorem q9q:Meets Tryz.prog 117 x78:=by
 refine q45 (snd (SpecsOk.nil _)) Tryz.func117 rfl rfl (λ_ _=>none) (λ_=>by kernel_rfl) (by decide) ?_
 rintro⟨n,k,⟨⟩⟩ -
 revert n k
 intro(n:Int) (k:Int)
 refine @qd1 _ (((k=k/\True)/\(0:Nat)=(0:Nat))/\((n=n/\True)/\(0:Nat)=(0:Nat))/\True) (by kernel_rfl) ?_
 try simp only[z0,z1,z2,z3,z4,z5,z6,z7,z8,z9,z10,Int.reduceEq,z11,z12,z13,z14,z15,z16,z17,z18,z19,z20,z21,z22,z23,z24,z25,z26,z27,z28,z29,z30,Int.reduceLE,Int.reduceLT,z31,z32,z33,z34,qa1]
 try simp only[qa7,qa8,qb5,z31,z32,z2,z1]
def x79 (l:List Int) (x:Int):Nat->Option Inv:=x3m (.int .i64) l λe=>x==e
abbrev yj9:qb4:=qf2 true none [qe8,qd0] [qd0] (λx=>x.1.length<=1000000) (λx=>(ixT (.int .i64) (λe=>x.2.1==e) x.1,()))
theorem w8l:Meets Tryz.prog 128 yj9:=by
 refine meets (snd (SpecsOk.nil _)) Tryz.func128 rfl rfl (λx=>x79 x.1 x.2.1) (λ_=>by kernel_rfl) (by decide) ?_
 rintro⟨l,x,⟨⟩⟩ h
 revert l x
 intro(l:List Int) (x:Int) (h:l.length<=1000000)
 refine @qd1 _ (∃(v0:Unit),∃(v1:Nat),(v1<=l.length/\∀(v2:Nat),Nat.le (Nat.succ v2) v1->(x==nI l v2)=false)/\(((0:Int)=(↑v1:Int)/\True)/\True)/\∀(v2:Nat),(v2<=l.length/\∀(v4:Nat),Nat.le (Nat.succ v4) v2->(x==nI l v4)=false)->(decide ((↑v2:Int)<(↑l.length:Int))=true->((0:Int)<=(↑v2:Int)/\(↑v2:Int)<(↑l.length:Int))/\((x==nI l v2)=true->(↑v2:Int)=ixT (Ty.int .i64) (λ(v6:Int)=>x==v6) l)/\((x==nI l v2)=false->fits .i64 ((↑v2:Int)+(1:Int))/\∃(v6:Nat),(v6<=l.length/\∀(v7:Nat),Nat.le (Nat.succ v7) v6->(x==nI l v7)=false)/\l.length-v6<l.length-v2/\((↑v2:Int)+(1:Int)=(↑v6:Int)/\True)/\True))/\(decide ((↑v2:Int)<(↑l.length:Int))=false->(-1:Int)=ixT (Ty.int .i64) (λ(v5:Int)=>x==v5) l)) (by kernel_rfl) ?_
 try simp only[z0,z1,z2,z3,z4,z5,z6,z7,z8,z9,z10,Int.reduceEq,z11,z12,z13,z14,z15,z16,z17,z18,z19,z20,z21,z22,z23,z24,z25,z26,z27,z28,z29,z30,Int.reduceLE,Int.reduceLT,z31,z32,z33,z34,qa1]
 try simp only[qa7,qa8,qb5,z31,z32,z2,z1]
 refine⟨(),0,⟨Nat.zero_le _,λi hi=>absurd hi (by omega)⟩,rfl,λk ⟨hk,hall⟩=>?_⟩
 refine⟨λhlt=>⟨hlt,λhf=>(q9h (.int .i64) (λe=>x==e) l k hlt (λi hi=>beq_false_of_ne λe=>hall i hi e) (beq_iff_eq.2 hf)).symm,λhf=>⟨qb8 (by omega) (by omega),k+1,⟨by omega,λi hi=>?_⟩,by omega,by omega⟩⟩,λhge=>(q3k (.int .i64) (λe=>x==e) l λi hi=>beq_false_of_ne λe=>hall i (by omega) e).symm⟩
 by_cases e:i=k
 ·subst e; exact hf
 ·exact hall i (by omega)
abbrev yk0:qb4:=qf2 true none [qe8,qd0] [.bool] (λx=>x.1.length<=1000000) (λx=>(x.1.any λe=>x.2.1==e,()))
theorem wm8:Meets Tryz.prog 119 yk0:=by
 refine meets (snd (SpecsOk.cons w8l (SpecsOk.nil _))) Tryz.func119 rfl rfl (λ_ _=>none) (λ_=>by kernel_rfl) (by decide) ?_
 rintro⟨l,x,⟨⟩⟩ h
 revert l x
 intro(l:List Int) (x:Int) (h:l.length<=1000000)
 refine @qd1 _ (l.length<=(1000000:Nat)/\decide ((0:Int)<=ixT (Ty.int .i64) (λ(v0:Int)=>x==v0) l)=List.any l λ(v0:Int)=>x==v0) (by kernel_rfl) ?_
 try simp only[z0,z1,z2,z3,z4,z5,z6,z7,z8,z9,z10,Int.reduceEq,z11,z12,z13,z14,z15,z16,z17,z18,z19,z20,z21,z22,z23,z24,z25,z26,z27,z28,z29,z30,Int.reduceLE,Int.reduceLT,z31,z32,z33,z34,qa1]
 try simp only[qa7,qa8,qb5,z31,z32,z2,z1]
 exact⟨h,qw7 (.int .i64) _ l⟩
abbrev x3v:qb4:=qf2 true none [qd0] [.bool] (λ_=>True) (λx=>(x.1 != 0,()))
theorem w4j:Meets Tryz.prog 179 x3v:=by
 refine meets (snd (SpecsOk.nil _)) Tryz.func179 rfl rfl (λ_ _=>none) (λ_=>by kernel_rfl) (by decide) ?_
 rintro⟨n,⟨⟩⟩ -
 revert n
 intro(n:Int)
 refine @qd1 _ ((n != (0:Int))=(n != (0:Ty.den qd0))) (by kernel_rfl) ?_
 try simp only[z0,z1,z2,z3,z4,z5,z6,z7,z8,z9,z10,Int.reduceEq,z11,z12,z13,z14,z15,z16,z17,z18,z19,z20,z21,z22,z23,z24,z25,z26,z27,z28,z29,z30,Int.reduceLE,Int.reduceLT,z31,z32,z33,z34,qa1]
 try simp only[qa7,qa8,qb5,z31,z32,z2,z1]
def qv5 (l:List Int):Int:=ixT (.int .i64) (λe=>e != 0) l
def q7a (l:List Int):List Int:=if 0<=qv5 (qe3 l)/\nI (qe3 l) (qv5 (qe3 l)).toNat<0 then xi6 (qe3 l) else qe3 l
abbrev x8a:ql6:=q5h (q0u []) false true 0 3 (.int .i64) (λrows _=>wc6 (nL rows 0)) (λ_ _=>.tup .nil) (λrows _=>[q7a (nL rows 0)])
structure xj4 (l:List Int) (i:Nat) (r:List Int):Prop where
 le:i<=l.length
 eq:r=ovr (.int .i64) (λq=>0-nI l q) l i
def x3w (T:q5b) (l:List Int):Nat->Option Inv
 | 0=>some (Inv.of [0,20] 1 (λs:Nat × List Int=>[(0,.msl 0 (some 0)),(20,.lit (.int .i64 s.1))]) (λs=>[.mat 0 3 (.int .i64) [s.2] (some []) (some T)]) (λs=>xj4 (qe3 l) s.1 s.2) (λs=>(qe3 l).length-s.1))
 | _=>none
theorem q9r {l:List Int} (h:wc6 l):wc6 (qe3 l):=by
 unfold qe3
 split
 ·refine⟨by simpa using h.1,λx hx=>?_⟩
  obtain⟨y,hy,rfl⟩:=List.mem_map.1 hx
  exact qr2 (h.2 y hy)
 ·exact h
theorem w4k:qn4 Tryz.prog 120 x8a:=by
 refine q0w (x3i (SpecsOk.cons (wm0 (fs:=[(179,x3v)]) (SpecsOk.cons w4j (SpecsOk.nil _))) (SpecsOk.nil _)) (MutsOk.cons q2n MutsOk.nil)) Tryz.func120 rfl rfl (qm0 []) (λT rows _=>x3w T (nL rows 0)) (λ_ _ _=>by kernel_rfl) (by decide) ?_ rfl
 rintro T rows ⟨⟩ h hone
 obtain⟨l,rfl⟩:∃l:List Int,rows=[l]:=by
  have h1:=hone rfl
  match rows,h1 with
  | [l],_=>exact⟨l,rfl⟩
 have h:wc6 l:=h
 refine @qd1 _ (wc6 (nL [nL [l] (0:Nat)] (0:Nat))/\∃(v0:qa4 [Ty.int .i64]->Prop),∃(v1:qa4 [Ty.int .i64]->Bool),(∀(v2:Int × qa4._f [] PUnit.unit),v0 v2->True/\(v2.1 != (0:Ty.den qd0))=v1 v2)/\((nL (List.set [l] (0:Nat) (nL [qe3 (nL [nL [l] (0:Nat)] (0:Nat))] (0:Nat))) (0:Nat)).length<=(1000000:Nat)/\∀(v2:Nat),v2<(nL (List.set [l] (0:Nat) (nL [qe3 (nL [nL [l] (0:Nat)] (0:Nat))] (0:Nat))) (0:Nat)).length->v0 (nI (nL (List.set [l] (0:Nat) (nL [qe3 (nL [nL [l] (0:Nat)] (0:Nat))] (0:Nat))) (0:Nat)) v2,()))/\(decide ((0:Int)<=ixT (Ty.int .i64) (λ(v3:Int)=>v1 (v3,())) (nL (List.set [l] (0:Nat) (nL [qe3 (nL [nL [l] (0:Nat)] (0:Nat))] (0:Nat))) (0:Nat)))=true->((0:Int)<=ixT (Ty.int .i64) (λ(v3:Int)=>v1 (v3,())) (nL (List.set [l] (0:Nat) (nL [qe3 (nL [nL [l] (0:Nat)] (0:Nat))] (0:Nat))) (0:Nat))/\ixT (Ty.int .i64) (λ(v3:Int)=>v1 (v3,())) (nL (List.set [l] (0:Nat) (nL [qe3 (nL [nL [l] (0:Nat)] (0:Nat))] (0:Nat))) (0:Nat))<(↑(nL (List.set [l] (0:Nat) (nL [qe3 (nL [nL [l] (0:Nat)] (0:Nat))] (0:Nat))) (0:Nat)).length:Int))/\(ixT (Ty.int .i64) (λ(v3:Int)=>v1 (v3,())) (nL (List.set [l] (0:Nat) (nL [qe3 (nL [nL [l] (0:Nat)] (0:Nat))] (0:Nat))) (0:Nat))).toNat<(nL (List.set [l] (0:Nat) (nL [qe3 (nL [nL [l] (0:Nat)] (0:Nat))] (0:Nat))) (0:Nat)).length/\(decide (nI (nL (List.set [l] (0:Nat) (nL [qe3 (nL [nL [l] (0:Nat)] (0:Nat))] (0:Nat))) (0:Nat)) (ixT (Ty.int .i64) (λ(v4:Int)=>v1 (v4,())) (nL (List.set [l] (0:Nat) (nL [qe3 (nL [nL [l] (0:Nat)] (0:Nat))] (0:Nat))) (0:Nat))).toNat<(0:Int))=true->∃(v4:Unit),∃(v5:Nat × List Int),xj4 (qe3 (nL [l] (0:Nat))) v5.1 v5.2/\((some (0:Nat)=some (0:Nat)/\(0:Int)=(↑v5.1:Int)/\True)/\(List.set [l] (0:Nat) (nL [qe3 (nL [nL [l] (0:Nat)] (0:Nat))] (0:Nat))=[v5.2]/\True/\T=T)/\True)/\∀(v6:Nat × List Int),xj4 (qe3 (nL [l] (0:Nat))) v6.1 v6.2->(decide ((↑v6.1:Int)<(↑(nL (List.set [l] (0:Nat) (nL [qe3 (nL [nL [l] (0:Nat)] (0:Nat))] (0:Nat))) (0:Nat)).length:Int))=true->((0:Int)<=(↑v6.1:Int)/\(↑v6.1:Int)<(↑(nL [v6.2] (0:Nat)).length:Int))/\(↑v6.1:Int).toNat<(nL [v6.2] (0:Nat)).length/\fits .i64 ((0:Int)-nI (nL [v6.2] (0:Nat)) (↑v6.1:Int).toNat)/\((0:Int)<=(↑v6.1:Int)/\(↑v6.1:Int)<(↑(nL [v6.2] (0:Nat)).length:Int))/\(↑v6.1:Int).toNat<(nL [v6.2] (0:Nat)).length/\fits .i64 ((↑v6.1:Int)+(1:Int))/\∃(v9:Nat × List Int),xj4 (qe3 (nL [l] (0:Nat))) v9.1 v9.2/\(qe3 (nL [l] (0:Nat))).length-v9.1<(qe3 (nL [l] (0:Nat))).length-v6.1/\(some (0:Nat)=some (0:Nat)/\(↑v6.1:Int)+(1:Int)=(↑v9.1:Int)/\True)/\(List.set [v6.2] (0:Nat) (List.set (nL [v6.2] (0:Nat)) (↑v6.1:Int).toNat ((0:Int)-nI (nL [v6.2] (0:Nat)) (↑v6.1:Int).toNat))=[v9.2]/\True/\T=T)/\True)/\(decide ((↑v6.1:Int)<(↑(nL (List.set [l] (0:Nat) (nL [qe3 (nL [nL [l] (0:Nat)] (0:Nat))] (0:Nat))) (0:Nat)).length:Int))=false->[v6.2]=[q7a (nL [l] (0:Nat))]/\T=T/\True/\(0:Nat)=(0:Nat)))/\(decide (nI (nL (List.set [l] (0:Nat) (nL [qe3 (nL [nL [l] (0:Nat)] (0:Nat))] (0:Nat))) (0:Nat)) (ixT (Ty.int .i64) (λ(v4:Int)=>v1 (v4,())) (nL (List.set [l] (0:Nat) (nL [qe3 (nL [nL [l] (0:Nat)] (0:Nat))] (0:Nat))) (0:Nat))).toNat<(0:Int))=false->List.set [l] (0:Nat) (nL [qe3 (nL [nL [l] (0:Nat)] (0:Nat))] (0:Nat))=[q7a (nL [l] (0:Nat))]/\T=T/\True/\(0:Nat)=(0:Nat)))/\(decide ((0:Int)<=ixT (Ty.int .i64) (λ(v3:Int)=>v1 (v3,())) (nL (List.set [l] (0:Nat) (nL [qe3 (nL [nL [l] (0:Nat)] (0:Nat))] (0:Nat))) (0:Nat)))=false->List.set [l] (0:Nat) (nL [qe3 (nL [nL [l] (0:Nat)] (0:Nat))] (0:Nat))=[q7a (nL [l] (0:Nat))]/\T=T/\True/\(0:Nat)=(0:Nat))) (by kernel_rfl) ?_
 try simp only[z0,z1,z2,z3,z4,z5,z6,z7,z8,z9,z10,Int.reduceEq,z11,z12,z13,z14,z15,z16,z17,z18,z19,z20,z21,z22,z23,z24,z25,z26,z27,z28,z29,z30,Int.reduceLE,Int.reduceLT,z31,z32,z33,z34,qa1]
 try simp only[qa7,qa8,qb5,z31,z32,z2,z1]
 have hs:=q9r h
 have hl:=hs.1
 refine⟨h,λ_=>True,λx=>x.1 != 0,λ_ _=>rfl,⟨by omega,λ_ _=>trivial⟩,λh1=>?_,λh1=>?_⟩
 ·have h1:0<=qv5 (qe3 l):=by first | exact of_decide_eq_true h1 | exact h1
  have h2:qv5 (qe3 l)<(qe3 l).length:=(xr3 (.int .i64) _ _).1
  refine⟨⟨h1,h2⟩,by show(qv5 (qe3 l)).toNat<_; omega,λh3=>?_,λh3=>?_⟩
  ·have h3:nI (qe3 l) (qv5 (qe3 l)).toNat<0:=by first | exact of_decide_eq_true h3 | exact h3
   have hp:q7a l=xi6 (qe3 l):=by unfold q7a; rw[if_pos ⟨h1,h3⟩]
   refine⟨(),(0,qe3 l),⟨Nat.zero_le _,(q3j (.int .i64) _ _).symm⟩,⟨rfl,rfl⟩,?_⟩
   rintro⟨i,r⟩ ⟨k1,k2⟩
   dsimp only at k1 k2 ⊢
   have hrl:r.length=(qe3 l).length:=by rw[k2]; exact qv2 (.int .i64) _ _ _
   refine⟨λhlt=>?_,λhge=>?_⟩
   ·have hv:nI r i=nI (qe3 l) i:=by
     rw[k2]
     exact(q9g (.int .i64) _ _ _ _ hlt).trans (if_neg (Nat.lt_irrefl _))
    have hb:=q61 hs hlt
    unfold qf0 BIG at hb
    rw[hv]
    refine⟨by omega,by omega,qb8 (by omega) (by omega),by omega,by omega,qb8 (by omega) (by omega),(i+1,r.set i (0-nI (qe3 l) i)),⟨by dsimp only; omega,?_⟩,by dsimp only; omega,by dsimp only; omega,rfl⟩
    dsimp only
    rw[k2]
    exact q1h (.int .i64) (λq=>0-nI (qe3 l) q) (qe3 l) i
   ·rw[hp,k2]
    exact q6y (.int .i64) _ _ _ (by omega)
  ·have h3:¬nI (qe3 l) (qv5 (qe3 l)).toNat<0:=by first | exact of_decide_eq_false h3 | exact h3 | exact Int.not_lt.2 h3
   unfold q7a; rw[if_neg λq=>h3 q.2]
 ·have h1:¬0<=qv5 (qe3 l):=by first | exact of_decide_eq_false h1 | exact h1 | exact Int.not_le.2 h1
  unfold q7a; rw[if_neg λq=>h1 q.1]
end Go.Proofs.YtmijnbjlhnpokaaGreat
