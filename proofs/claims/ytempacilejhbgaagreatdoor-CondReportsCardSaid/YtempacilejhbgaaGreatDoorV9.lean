/- The sets of so many numbers, one after another: what part.Sets hands over. No condition. -/
import Derived.Test.YtempacilejhbgaaGreatDoorV8
set_option linter.unusedVariables false
set_option linter.unusedSimpArgs false
namespace Go.Proofs.YtempacilejhbgaaGreatDoor
open Go Go.RowKit Eng
def w5l (a:Int):Nat->List Int
 | 0=>[]
 | k+1=>a :: w5l (a+1) k
theorem q45 (a:Int) (k:Nat):(w5l a k).length=k:=by
 induction k generalizing a with
 | zero=>rfl
 | succ k ih=>simp[w5l,ih]
def qk0:Nat->Nat->Int->List (List Int)
 | _,0,_=>[[]]
 | 0,_+1,_=>[]
 | m+1,k+1,a=>(qk0 m k (a+1)).map (a :: ·)++qk0 m (k+1) (a+1)
def q3u (n:Int):List Int->Option (List Int)
 | []=>none
 | x :: t=>match q3u n t with
  | some t'=>some (x :: t')
  | none=>if x+t.length+1<n then some (w5l (x+1) (t.length+1)) else none
theorem q6b {m k:Nat} {a:Int} {l:List Int} (h:l∈qk0 m k a):l.length=k:=by
 induction m generalizing k a l with
 | zero=>cases k with
  | zero=>simp[qk0] at h; simp[h]
  | succ k=>cases h
 | succ m ih=>cases k with
  | zero=>simp[qk0] at h; simp[h]
  | succ k=>
   rcases List.mem_append.1 h with h | h
   ·obtain⟨t,ht,rfl⟩:=List.mem_map.1 h
    simp[ih ht]
   ·exact ih h
structure InC (m k:Nat) (a:Int) (l:List Int):Prop where
 len:l.length=k
 lo:∀i,i<k->a+i<=nI l i
 hi:∀i,i<k->nI l i+(k-i:Nat)<=a+m
 asc:∀i,0<i->i<k->nI l (i-1)<nI l i
theorem qs9 (x:Int) (t:List Int):nI (x :: t) 0=x:=rfl
theorem qp1 (x:Int) (t:List Int) (i:Nat):nI (x :: t) (i+1)=nI t i:=rfl
theorem wy2 {m k:Nat} {a:Int} {l:List Int} (h:l∈qk0 m k a):InC m k a l:=by
 induction m generalizing k a l with
 | zero=>cases k with
  | zero=>simp[qk0] at h; subst h; exact⟨rfl,λi hi=>by omega,λi hi=>by omega,λi _ hi=>by omega⟩
  | succ k=>cases h
 | succ m ih=>cases k with
  | zero=>simp[qk0] at h; subst h; exact⟨rfl,λi hi=>by omega,λi hi=>by omega,λi _ hi=>by omega⟩
  | succ k=>
   rcases List.mem_append.1 h with h | h
   ·obtain⟨t,ht,rfl⟩:=List.mem_map.1 h
    have q:=ih ht
    refine⟨by simp[q.len],λi hi=>?_,λi hi=>?_,λi h0 hi=>?_⟩
    ·cases i with
     | zero=>rw[qs9]; omega
     | succ i=>rw[qp1]; have:=q.lo i (by omega); omega
    ·cases i with
     | zero=>
      rw[qs9]
      cases k with
      | zero=>omega
      | succ k=>have h1:=q.lo 0 (by omega); have h2:=q.hi 0 (by omega); omega
     | succ i=>rw[qp1]; have:=q.hi i (by omega); omega
    ·obtain⟨i,rfl⟩:∃q,i=q+1:=⟨i-1,by omega⟩
     rw[qp1,Nat.add_sub_cancel]
     cases i with
     | zero=>rw[qs9]; have:=q.lo 0 (by omega); omega
     | succ i=>rw[qp1]; have:=q.asc (i+1) (by omega) (by omega); simpa using this
   ·have q:=ih h
    exact⟨q.len,λi hi=>by have:=q.lo i hi; omega,λi hi=>by have:=q.hi i hi; omega,q.asc⟩
theorem q8j {m k:Nat} {a:Int} (h:m<k):qk0 m k a=[]:=by
 induction m generalizing k a with
 | zero=>cases k with
  | zero=>omega
  | succ k=>rfl
 | succ m ih=>cases k with
  | zero=>omega
  | succ k=>simp[qk0,ih (k:=k) (a:=a+1) (by omega),ih (k:=k+1) (a:=a+1) (by omega)]
theorem qv8 (m:Nat) (a:Int):qk0 m 0 a=[[]]:=by cases m <;> rfl
theorem q3v {m k:Nat} {a:Int} (h:k<=m):(qk0 m k a)[0]? = some (w5l a k):=by
 induction m generalizing k a with
 | zero=>
  obtain rfl:k=0:=by omega
  rfl
 | succ m ih=>cases k with
  | zero=>rfl
  | succ k=>
   have:=ih (k:=k) (a:=a+1) (by omega)
   have hl:0<(qk0 m k (a+1)).length:=(List.getElem?_eq_some_iff.1 this).1
   rw[qk0,List.getElem?_append_left (by simpa using hl),List.getElem?_map,this]
   rfl
theorem w2b {m k:Nat} {a n:Int} (hn:n=a+m) {c:Nat} {l:List Int} (h:(qk0 m k a)[c]? = some l):q3u n l=(qk0 m k a)[c+1]?:=by
 induction m generalizing k a c l with
 | zero=>cases k with
  | zero=>
   have hc:=(List.getElem?_eq_some_iff.1 h).1
   simp[qk0] at hc
   subst hc
   simp[qk0] at h
   subst h
   rfl
  | succ k=>simp[qk0] at h
 | succ m ih=>cases k with
  | zero=>
   have hc:=(List.getElem?_eq_some_iff.1 h).1
   simp[qk0] at hc
   subst hc
   simp[qk0] at h
   subst h
   rfl
  | succ k=>
   rw[qk0] at h ⊢
   rcases Nat.lt_or_ge c ((qk0 m k (a+1)).map (a :: ·)).length with hlt | hge
   ·rw[List.getElem?_append_left hlt,List.getElem?_map] at h
    obtain⟨t,ht,rfl⟩:=Option.map_eq_some_iff.1 h
    have hi:=ih (by omega) ht
    have htl:=q6b (List.mem_of_getElem? ht)
    have hcl:c<(qk0 m k (a+1)).length:=by simpa using hlt
    simp only[q3u,hi]
    rcases Nat.lt_or_ge (c+1) (qk0 m k (a+1)).length with h2 | h2
    ·rw[List.getElem?_eq_getElem h2,List.getElem?_append_left (by simpa using h2),List.getElem?_map,List.getElem?_eq_getElem h2]
     rfl
    ·rw[List.getElem?_eq_none h2,List.getElem?_append_right (by simpa using h2)]
     have e:c+1-((qk0 m k (a+1)).map (a :: ·)).length=0:=by simp; omega
     rw[e,htl]
     simp only
     by_cases hk:k+1<=m
     ·rw[q3v hk,if_pos (by omega)]
     ·rw[q8j (by omega),if_neg (by omega)]
      rfl
   ·rw[List.getElem?_append_right hge] at h
    rw[List.getElem?_append_right (by omega)]
    have:=ih (by omega) h
    rw[this]
    congr 1
    omega
def qa6 (n k:Int):List (List Int):=if k<=n then qk0 n.toNat k.toNat 0 else[]
theorem w5m (a:Int) (k i:Nat) (h:i<k):nI (w5l a k) i=a+i:=by
 induction k generalizing a i with
 | zero=>omega
 | succ k ih=>cases i with
  | zero=>simp[w5l,qs9]
  | succ i=>rw[w5l,qp1,ih _ _ (by omega)]; omega
theorem q3w {n:Int}:∀{l:List Int},(∀q:Nat,q<l.length->nI l q=n-l.length+q)->q3u n l=none
 | [],_=>rfl
 | x :: t,h=>by
  have h0:=h 0 (by simp)
  rw[qs9] at h0
  have ht:q3u n t=none:=q3w λq hq=>by
   have:=h (q+1) (by simpa using hq)
   rw[qp1] at this
   simp only[List.length_cons] at this
   omega
  simp only[q3u,ht]
  rw[if_neg]
  simp only[List.length_cons] at h0
  omega
theorem q8k {n:Int}:∀{l:List Int} {i:Nat},i<l.length->(∀q:Nat,i<q->q<l.length->nI l q=n-l.length+q)->nI l i<n-l.length+i->q3u n l=some (l.take i++w5l (nI l i+1) (l.length-i))
 | x :: t,0,_,h,h0=>by
  rw[qs9] at h0
  have ht:q3u n t=none:=q3w λq hq=>by
   have:=h (q+1) (by omega) (by simpa using hq)
   rw[qp1] at this
   simp only[List.length_cons] at this
   omega
  simp only[q3u,ht]
  simp only[List.length_cons] at h0
  rw[if_pos (by omega)]
  simp[qs9]
 | x :: t,i+1,hi,h,h0=>by
  have:=q8k (n:=n) (l:=t) (i:=i) (by simpa using hi) (λq h1 h2=>by
   have:=h (q+1) (by omega) (by simpa using h2)
   rw[qp1] at this
   simp only[List.length_cons] at this
   omega) (by
   rw[qp1] at h0
   simp only[List.length_cons] at h0
   omega)
  simp only[q3u,this,qp1,List.take_succ_cons,List.length_cons,Nat.add_sub_add_right,List.cons_append]
def w7n (l:List Int) (i:Nat):List Int:=l.take i++w5l (nI l i+1) (l.length-i)
theorem wy3 (l:List Int) (i:Nat) (hi:i<l.length):(w7n l i).length=l.length:=by
 simp[w7n,q45]; omega
theorem q94 (l:List Int) (i q:Nat) (hi:i<l.length) (hq:q<l.length):nI (w7n l i) q=if q<i then nI l q else nI l i+1+(q-i:Nat):=by
 rw[qg4 _ _ (by rw[wy3 l i hi]; exact hq)]
 unfold w7n
 split
 ·rename_i h
  rw[List.getElem_append_left (by simp; omega),List.getElem_take,qg4 l q hq]
 ·rename_i h
  rw[List.getElem_append_right (by simp; omega)]
  have hl:(l.take i).length=i:=by simp; omega
  have:=w5m (nI l i+1) (l.length-i) (q-i) (by omega)
  rw[qg4 _ _ (by rw[q45]; omega)] at this
  rw[<- this]
  congr 1
  omega
def mkC (l:List Int) (i j:Nat):List Int:=ovr (.int .i64) (nI (w7n l i)) l j
theorem q6c (l:List Int) (i j:Nat):(mkC l i j).length=l.length:=qq4 (.int .i64) _ _ _
theorem wy4 (l:List Int) (i j q:Nat) (hq:q<l.length):nI (mkC l i j) q=if q<j then nI (w7n l i) q else nI l q:=q4h (.int .i64) _ _ _ _ hq
theorem w5n {a b:List Int} (h:a.length=b.length) (k:∀i,i<a.length->nI a i=nI b i):a=b:=by
 apply List.ext_getElem h
 intro i h1 h2
 have:=k i h1
 rwa [qg4 _ _ h1,qg4 _ _ h2] at this
theorem w5o (l:List Int) (i:Nat) (hi:i<l.length):mkC l i (i+1)=l.set i (nI l i+1):=by
 apply w5n (by rw[q6c,List.length_set])
 intro q hq
 rw[q6c] at hq
 rw[wy4 _ _ _ _ hq,qg4 (l.set i (nI l i+1)) q (by rw[List.length_set]; exact hq),List.getElem_set,q94 _ _ _ hi hq]
 by_cases e:i=q
 ·subst e
  rw[if_pos (by omega),if_neg (Nat.lt_irrefl _),if_pos rfl]; simp
 ·rw[if_neg e,<- qg4 l q hq]
  by_cases h:q<i
  ·rw[if_pos (by omega),if_pos h]
  ·rw[if_neg (by omega)]
theorem w9c (l:List Int) (i j:Nat) (hi:i<j) (hj:j<l.length):(mkC l i j).set j (nI (mkC l i j) (j-1)+1)=mkC l i (j+1):=by
 have e:nI (mkC l i j) (j-1)+1=nI (w7n l i) j:=by
  rw[wy4 _ _ _ _ (by omega),if_pos (by omega),q94 _ _ _ (by omega) (by omega),q94 _ _ _ (by omega) hj,if_neg (by omega)]
  split <;> omega
 rw[e]
 exact qu1 (.int .i64) _ _ _
theorem xk1 (l:List Int) (i:Nat) (hi:i<l.length):mkC l i l.length=w7n l i:=by
 apply w5n (by rw[q6c,wy3 l i hi])
 intro q hq
 rw[q6c] at hq
 rw[wy4 _ _ _ _ hq,if_pos hq]
structure w5p (n k:Int) (c:Nat) (l:List Int):Prop where
 len:l.length=k.toNat
 at_:k<=n->(qa6 n k)[c]? = some l
 cnt:n<k->c=0
structure w9d (n k:Int) (l:List Int) (i:Int):Prop where
 lo:-1<=i
 hi:i<k
 last:∀q:Nat,i<q->q<l.length->nI l q=n-k+q
structure xk2 (l:List Int) (i j:Nat) (r:List Int):Prop where
 lo:i<j
 hi:j<=l.length
 eq:r=mkC l i j
abbrev xs8:q1l:=w8x [tInt,tInt] [tInts] (λx=>(0<=x.1/\x.1<=1000)/\0<=x.2.1/\x.2.1<=1000) (λx=>(qa6 x.2.1 x.1).map λl=>(l,())) (some 3)
def xs9 (n k:Int):Nat->Option Inv
 | 0=>some (Inv.of [4] 2 (λ_:Nat × List Int=>[(4,.own 1)]) (λs=>[.cnt (some s.1),.vec 3 (.int .i64) s.2]) (λs=>w5p n k s.1 s.2) (λs=>(qa6 n k).length+1-s.1))
 | 1=>some (Eng.Inv.mk (Nat × List Int) Int [4,5] 2 (λ_ i=>[(4,.own 1),(5,.lit (.int .i64 i))]) (λq i=>[.cnt (some q.1),.vec 3 (.int .i64) q.2]) (λq i=>w9d n k q.2 i) (λq i=>(i+1).toNat))
 | 2=>some (Eng.Inv.mk (Nat × List Int × Nat) (Nat × List Int) [4,6] 16 (λ_ s=>[(4,.own 1),(6,.lit (.int .i64 s.1))]) (λq s=>[.cnt (some q.1),.vec 3 (.int .i64) s.2,.dead,.dead,.dead,.dead,.dead,.dead,.dead,.dead,.dead,.dead,.dead,.dead,.dead,.dead]) (λq s=>xk2 q.2.1 q.2.2 s.1 s.2) (λq s=>q.2.1.length-s.1))
 | _=>none
theorem w9e (k:Nat):w5l 0 k=qo5 k:=by
 apply w5n (by rw[q45,qe8])
 intro i hi
 rw[q45] at hi
 rw[w5m _ _ _ hi,q0j _ _ hi]; omega
theorem w5q {n k:Int} (hkn:k<=n) (hk:0<=k) {c:Nat} {l:List Int} (h:(qa6 n k)[c]? = some l):q3u n l=(qa6 n k)[c+1]?:=by
 unfold qa6 at h ⊢
 rw[if_pos hkn] at h ⊢
 exact w2b (by omega) h
theorem wp5 {n k:Int} {l:List Int} (h:l∈qa6 n k):InC n.toNat k.toNat 0 l:=by
 unfold qa6 at h
 split at h
 ·exact wy2 h
 ·cases h
theorem w2c:qy7 Tryz.prog 67 xs8:=by
 refine says (snd (SpecsOk.cons q58 (SpecsOk.nil _))) Tryz.func67 rfl rfl rfl [12] (λx=>xs9 x.2.1 x.1) (λ_=>by kernel_rfl) (by decide) ?_
 rintro⟨k,n,⟨⟩⟩ l h
 revert k n
 intro(k:Int) (n:Int) (h:(0<=k/\k<=1000)/\0<=n/\n<=1000)
 refine @qe7 _ (let Q0:=qa6 n k; let Q1:=(k,n,PUnit.unit); k<=(100000:Ty.den tInt)/\∃(v0:Unit),∃(v1:Nat × List Int),w5p n k v1.1 v1.2/\((True/\True)/\some (0:Nat)=some v1.1/\qo5 k.toNat=v1.2/\True)/\∀(v2:Nat × List Int),w5p n k v2.1 v2.2->(decide (k<=n)=true->Value.func (Fn.yield l) #[] #[]=Value.func (Fn.yield (qj5.l (wo4 [tInt,tInt] [tInts] [(12:Nat)] Q1 (List.map (λ(v5:List Int)=>(v5,())) Q0) l (some (3:Nat))))) #[] #[]/\(qj5.L (wo4 [tInt,tInt] [tInts] [(12:Nat)] Q1 (List.map (λ(v5:List Int)=>(v5,())) Q0) l (some (3:Nat))))[v2.1]?=some (v2.2,())/\(fits .i64 (k-(1:Int))/\∃(v5:Nat × List Int),∃(v6:Int),w9d n k v5.2 v6/\((True/\k-(1:Int)=v6/\True)/\some (v2.1+(1:Nat))=some v5.1/\v2.2=v5.2/\True)/\∀(v7:Int),w9d n k v5.2 v7->(decide ((0:Int)<=v7)=true->((0:Int)<=v7/\v7<(↑v5.2.length:Int))/\v7.toNat<v5.2.length/\fits .i64 (n-k)/\fits .i64 (n-k+v7)/\((nI v5.2 v7.toNat==n-k+v7)=true->fits .i64 (v7-(1:Int))/\∃(v11:Int),w9d n k v5.2 v11/\(v11+(1:Int)).toNat<(v7+(1:Int)).toNat/\(True/\v7-(1:Int)=v11/\True)/\some v5.1=some v5.1/\v5.2=v5.2/\True)/\((nI v5.2 v7.toNat==n-k+v7)=false->(decide (v7<(0:Int))=true->v5.1=(qj5.L (wo4 [tInt,tInt] [tInts] [(12:Nat)] Q1 (List.map (λ(v12:List Int)=>(v12,())) Q0) l (some (3:Nat)))).length)/\(decide (v7<(0:Int))=false->((0:Int)<=v7/\v7<(↑v5.2.length:Int))/\v7.toNat<v5.2.length/\fits .i64 (nI v5.2 v7.toNat+(1:Int))/\((0:Int)<=v7/\v7<(↑v5.2.length:Int))/\v7.toNat<v5.2.length/\fits .i64 (v7+(1:Int))/\∃(v12:Nat × List Int × Nat),∃(v13:Nat × List Int),xk2 v12.2.1 v12.2.2 v13.1 v13.2/\((True/\v7+(1:Int)=(↑v13.1:Int)/\True)/\some v5.1=some v12.1/\List.set v5.2 v7.toNat (nI v5.2 v7.toNat+(1:Int))=v13.2/\True/\True/\True/\True/\True/\True/\True/\True/\True/\True/\True/\True/\True/\True/\True)/\∀(v14:Nat × List Int),xk2 v12.2.1 v12.2.2 v14.1 v14.2->(decide ((↑v14.1:Int)<k)=true->fits .i64 ((↑v14.1:Int)-(1:Int))/\((0:Int)<=(↑v14.1:Int)-(1:Int)/\(↑v14.1:Int)-(1:Int)<(↑v14.2.length:Int))/\((↑v14.1:Int)-(1:Int)).toNat<v14.2.length/\fits .i64 (nI v14.2 ((↑v14.1:Int)-(1:Int)).toNat+(1:Int))/\((0:Int)<=(↑v14.1:Int)/\(↑v14.1:Int)<(↑v14.2.length:Int))/\(↑v14.1:Int).toNat<v14.2.length/\fits .i64 ((↑v14.1:Int)+(1:Int))/\∃(v17:Nat × List Int),xk2 v12.2.1 v12.2.2 v17.1 v17.2/\v12.2.1.length-v17.1<v12.2.1.length-v14.1/\(True/\(↑v14.1:Int)+(1:Int)=(↑v17.1:Int)/\True)/\some v12.1=some v12.1/\List.set v14.2 (↑v14.1:Int).toNat (nI v14.2 ((↑v14.1:Int)-(1:Int)).toNat+(1:Int))=v17.2/\True/\True/\True/\True/\True/\True/\True/\True/\True/\True/\True/\True/\True/\True/\True)/\(decide ((↑v14.1:Int)<k)=false->∃(v17:Nat × List Int),w5p n k v17.1 v17.2/\Q0.length+(1:Nat)-v17.1<Q0.length+(1:Nat)-v2.1/\(True/\True)/\some v12.1=some v17.1/\v14.2=v17.2/\True))))/\(decide ((0:Int)<=v7)=false->(decide (v7<(0:Int))=true->v5.1=(qj5.L (wo4 [tInt,tInt] [tInts] [(12:Nat)] Q1 (List.map (λ(v11:List Int)=>(v11,())) Q0) l (some (3:Nat)))).length)/\(decide (v7<(0:Int))=false->((0:Int)<=v7/\v7<(↑v5.2.length:Int))/\v7.toNat<v5.2.length/\fits .i64 (nI v5.2 v7.toNat+(1:Int))/\((0:Int)<=v7/\v7<(↑v5.2.length:Int))/\v7.toNat<v5.2.length/\fits .i64 (v7+(1:Int))/\∃(v11:Nat × List Int × Nat),∃(v12:Nat × List Int),xk2 v11.2.1 v11.2.2 v12.1 v12.2/\((True/\v7+(1:Int)=(↑v12.1:Int)/\True)/\some v5.1=some v11.1/\List.set v5.2 v7.toNat (nI v5.2 v7.toNat+(1:Int))=v12.2/\True/\True/\True/\True/\True/\True/\True/\True/\True/\True/\True/\True/\True/\True/\True)/\∀(v13:Nat × List Int),xk2 v11.2.1 v11.2.2 v13.1 v13.2->(decide ((↑v13.1:Int)<k)=true->fits .i64 ((↑v13.1:Int)-(1:Int))/\((0:Int)<=(↑v13.1:Int)-(1:Int)/\(↑v13.1:Int)-(1:Int)<(↑v13.2.length:Int))/\((↑v13.1:Int)-(1:Int)).toNat<v13.2.length/\fits .i64 (nI v13.2 ((↑v13.1:Int)-(1:Int)).toNat+(1:Int))/\((0:Int)<=(↑v13.1:Int)/\(↑v13.1:Int)<(↑v13.2.length:Int))/\(↑v13.1:Int).toNat<v13.2.length/\fits .i64 ((↑v13.1:Int)+(1:Int))/\∃(v16:Nat × List Int),xk2 v11.2.1 v11.2.2 v16.1 v16.2/\v11.2.1.length-v16.1<v11.2.1.length-v13.1/\(True/\(↑v13.1:Int)+(1:Int)=(↑v16.1:Int)/\True)/\some v11.1=some v11.1/\List.set v13.2 (↑v13.1:Int).toNat (nI v13.2 ((↑v13.1:Int)-(1:Int)).toNat+(1:Int))=v16.2/\True/\True/\True/\True/\True/\True/\True/\True/\True/\True/\True/\True/\True/\True/\True)/\(decide ((↑v13.1:Int)<k)=false->∃(v16:Nat × List Int),w5p n k v16.1 v16.2/\Q0.length+(1:Nat)-v16.1<Q0.length+(1:Nat)-v2.1/\(True/\True)/\some v11.1=some v16.1/\v13.2=v16.2/\True))))/\True)/\(decide (k<=n)=false->v2.1=(qj5.L (wo4 [tInt,tInt] [tInts] [(12:Nat)] Q1 (List.map (λ(v5:List Int)=>(v5,())) Q0) l (some (3:Nat)))).length)) (by kernel_rfl) ?_
 try simp only[z0,z1,z2,z3,z4,z5,z6,z7,z8,z9,z10,Int.reduceEq,z11,z12,z13,z14,z15,z16,z17,z18,z19,z20,z21,z22,z23,z24,z25,z26,z27,z28,z29,z30,Int.reduceLE,Int.reduceLT,z31,z32,z33,z34,qa3]
 try simp only[qb6,qb7,qc7,z31,z32,z2,z1]
 obtain⟨⟨hk0,hk1⟩,hn0,hn1⟩:=h
 refine⟨by omega,(),(0,qo5 k.toNat),⟨qe8 _,λhkn=>?_,λ_=>rfl⟩,⟨rfl,rfl⟩,?_⟩
 ·unfold qa6
  rw[if_pos hkn,q3v (by omega),w9e]
 rintro⟨c,s⟩ ⟨hl,ha,hz⟩
 dsimp only at hl ha hz ⊢
 refine⟨λhkn=>?_,λhkn=>?_⟩
 ·have hat:=ha hkn
  have hc:=(List.getElem?_eq_some_iff.1 hat).1
  have hin:=wp5 (List.mem_of_getElem? hat)
  have hnx:=w5q hkn hk0 hat
  have hmap:((qa6 n k).map λv=>((v,()):qa4 [tInts])).length=(qa6 n k).length:=List.length_map _
  refine⟨rfl,?_,qa7 (by omega) (by omega),(c+1,s),k-1,⟨by omega,by omega,λq h1 h2=>by dsimp only at h2; omega⟩,⟨rfl,rfl,rfl⟩,?_⟩
  ·show((qa6 n k).map λv=>((v,()):qa4 [tInts]))[c]? = some (s,())
   rw[List.getElem?_map,hat]; rfl
  rintro i ⟨lo,hi,last⟩
  dsimp only at lo hi last ⊢
  have fin:i<0->c+1=((qa6 n k).map λv=>((v,()):qa4 [tInts])).length:=λhneg=>by
   have hn:q3u n s=none:=q3w λq hq=>by rw[last q (by omega) hq]; omega
   rw[hn] at hnx
   have:=List.getElem?_eq_none_iff.1 hnx.symm
   omega
  refine⟨λhi0=>?_,λhi0=>⟨fin,λh=>by omega⟩⟩
  have hb1:=hin.lo i.toNat (by omega)
  have hb2:=hin.hi i.toNat (by omega)
  refine⟨by omega,by omega,qa7 (by omega) (by omega),qa7 (by omega) (by omega),λheq=>⟨qa7 (by omega) (by omega),i-1,⟨by omega,by omega,λq h1 h2=>?_⟩,by omega,rfl⟩,λhne=>⟨fin,λ_=>?_⟩⟩
  ·by_cases e:(q:Int)=i
   ·have:i.toNat=q:=by omega
    rw[this] at heq; rw[heq]; omega
   ·exact last q (by omega) h2
  have hil:i.toNat<s.length:=by omega
  refine⟨by omega,hil,qa7 (by omega) (by omega),by omega,hil,qa7 (by omega) (by omega),(c+1,s,i.toNat),(i.toNat+1,s.set i.toNat (nI s i.toNat+1)),⟨Nat.lt_succ_self _,hil,(w5o s i.toNat hil).symm⟩,⟨by dsimp only; omega,rfl,rfl⟩,?_⟩
  rintro⟨j,r⟩ ⟨h1,h2,h3⟩
  dsimp only at h1 h2 h3 ⊢
  have hrl:r.length=s.length:=by rw[h3,q6c]
  refine⟨λhj=>?_,λhj=>?_⟩
  ·have e:((j:Int)-1).toNat=j-1:=by omega
   rw[e]
   have hv:nI r (j-1)=nI s i.toNat+1+(j-1-i.toNat:Nat):=by
    rw[h3,wy4 _ _ _ _ (by omega),if_pos (by omega),q94 _ _ _ hil (by omega),if_neg (by omega)]
   refine⟨qa7 (by omega) (by omega),by omega,by omega,qa7 (by omega) (by omega),by omega,by omega,qa7 (by omega) (by omega),(j+1,r.set j (nI r (j-1)+1)),⟨by dsimp only; omega,by dsimp only; omega,?_⟩,by dsimp only; omega,by dsimp only; omega,rfl⟩
   dsimp only
   rw[h3]
   exact w9c s i.toNat j h1 (by omega)
  ·have hjl:j=s.length:=by omega
   have hr:r=w7n s i.toNat:=by rw[h3,hjl,xk1 s i.toNat hil]
   have hlt2:nI s i.toNat<n-s.length+i.toNat:=by
    have h5:nI s i.toNat<n-k+i:=Int.lt_iff_le_and_ne.2 ⟨by omega,hne⟩
    omega
   have hst:q3u n s=some (w7n s i.toNat):=q8k hil (λq h1 h2=>by rw[last q (by omega) h2]; omega) hlt2
   refine⟨(c+1,r),⟨hrl.trans hl,λ_=>?_,λh=>absurd (Int.lt_of_lt_of_le h hkn) (Int.lt_irrefl _)⟩,Nat.sub_lt_sub_left (Nat.lt_succ_of_lt hc) (Nat.lt_succ_self c),rfl,rfl⟩
   dsimp only
   rw[<- hnx,hst,hr]
 ·show c=((qa6 n k).map λv=>((v,()):qa4 [tInts])).length
  rw[List.length_map,hz hkn]
  unfold qa6
  rw[if_neg (by omega)]
  rfl
end Go.Proofs.YtempacilejhbgaaGreatDoor
