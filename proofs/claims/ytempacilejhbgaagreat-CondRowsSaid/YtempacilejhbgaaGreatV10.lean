/- Sets, searches for a number, primitive vectors: contracts by the engine. No condition. -/
import Derived.Test.YtempacilejhbgaaGreatV8
set_option linter.unusedVariables false
set_option linter.unusedSimpArgs false
namespace Go.Proofs.YtempacilejhbgaaGreat
open Go Go.RowKit Eng
def w6t (a:Int):Nat->List Int
 | 0=>[]
 | k+1=>a :: w6t (a+1) k
theorem q5m (a:Int) (k:Nat):(w6t a k).length=k:=by
 induction k generalizing a with
 | zero=>rfl
 | succ k ih=>simp[w6t,ih]
def qk4:Nat->Nat->Int->List (List Int)
 | _,0,_=>[[]]
 | 0,_+1,_=>[]
 | m+1,k+1,a=>(qk4 m k (a+1)).map (a :: ·)++qk4 m (k+1) (a+1)
def q4h (n:Int):List Int->Option (List Int)
 | []=>none
 | x :: t=>match q4h n t with
  | some t'=>some (x :: t')
  | none=>if x+t.length+1<n then some (w6t (x+1) (t.length+1)) else none
theorem q6x {m k:Nat} {a:Int} {l:List Int} (h:l∈qk4 m k a):l.length=k:=by
 induction m generalizing k a l with
 | zero=>cases k with
  | zero=>simp[qk4] at h; simp[h]
  | succ k=>cases h
 | succ m ih=>cases k with
  | zero=>simp[qk4] at h; simp[h]
  | succ k=>
   rcases List.mem_append.1 h with h | h
   ·obtain⟨t,ht,rfl⟩:=List.mem_map.1 h
    simp[ih ht]
   ·exact ih h
structure InC (m k:Nat) (a:Int) (l:List Int):Prop where
 len:l.length=k
 lo:∀i,i<k->a+i<=nI l i
 hi:∀i,i<k->nI l i+(k-i:Nat)<=a+m
 asc:∀i,0<i->i<k->nI l (i-1)<nI l i
theorem qr2 (x:Int) (t:List Int):nI (x :: t) 0=x:=rfl
theorem qp3 (x:Int) (t:List Int) (i:Nat):nI (x :: t) (i+1)=nI t i:=rfl
theorem w04 {m k:Nat} {a:Int} {l:List Int} (h:l∈qk4 m k a):InC m k a l:=by
 induction m generalizing k a l with
 | zero=>cases k with
  | zero=>simp[qk4] at h; subst h; exact⟨rfl,λi hi=>by omega,λi hi=>by omega,λi _ hi=>by omega⟩
  | succ k=>cases h
 | succ m ih=>cases k with
  | zero=>simp[qk4] at h; subst h; exact⟨rfl,λi hi=>by omega,λi hi=>by omega,λi _ hi=>by omega⟩
  | succ k=>
   rcases List.mem_append.1 h with h | h
   ·obtain⟨t,ht,rfl⟩:=List.mem_map.1 h
    have q:=ih ht
    refine⟨by simp[q.len],λi hi=>?_,λi hi=>?_,λi h0 hi=>?_⟩
    ·cases i with
     | zero=>rw[qr2]; omega
     | succ i=>rw[qp3]; have:=q.lo i (by omega); omega
    ·cases i with
     | zero=>
      rw[qr2]
      cases k with
      | zero=>omega
      | succ k=>have h1:=q.lo 0 (by omega); have h2:=q.hi 0 (by omega); omega
     | succ i=>rw[qp3]; have:=q.hi i (by omega); omega
    ·obtain⟨i,rfl⟩:∃q,i=q+1:=⟨i-1,by omega⟩
     rw[qp3,Nat.add_sub_cancel]
     cases i with
     | zero=>rw[qr2]; have:=q.lo 0 (by omega); omega
     | succ i=>rw[qp3]; have:=q.asc (i+1) (by omega) (by omega); simpa using this
   ·have q:=ih h
    exact⟨q.len,λi hi=>by have:=q.lo i hi; omega,λi hi=>by have:=q.hi i hi; omega,q.asc⟩
theorem q9a {m k:Nat} {a:Int} (h:m<k):qk4 m k a=[]:=by
 induction m generalizing k a with
 | zero=>cases k with
  | zero=>omega
  | succ k=>rfl
 | succ m ih=>cases k with
  | zero=>omega
  | succ k=>simp[qk4,ih (k:=k) (a:=a+1) (by omega),ih (k:=k+1) (a:=a+1) (by omega)]
theorem qw3 (m:Nat) (a:Int):qk4 m 0 a=[[]]:=by cases m <;> rfl
theorem q4i {m k:Nat} {a:Int} (h:k<=m):(qk4 m k a)[0]? = some (w6t a k):=by
 induction m generalizing k a with
 | zero=>
  obtain rfl:k=0:=by omega
  rfl
 | succ m ih=>cases k with
  | zero=>rfl
  | succ k=>
   have:=ih (k:=k) (a:=a+1) (by omega)
   have hl:0<(qk4 m k (a+1)).length:=(List.getElem?_eq_some_iff.1 this).1
   rw[qk4,List.getElem?_append_left (by simpa using hl),List.getElem?_map,this]
   rfl
theorem w3g {m k:Nat} {a n:Int} (hn:n=a+m) {c:Nat} {l:List Int} (h:(qk4 m k a)[c]? = some l):q4h n l=(qk4 m k a)[c+1]?:=by
 induction m generalizing k a c l with
 | zero=>cases k with
  | zero=>
   have hc:=(List.getElem?_eq_some_iff.1 h).1
   simp[qk4] at hc
   subst hc
   simp[qk4] at h
   subst h
   rfl
  | succ k=>simp[qk4] at h
 | succ m ih=>cases k with
  | zero=>
   have hc:=(List.getElem?_eq_some_iff.1 h).1
   simp[qk4] at hc
   subst hc
   simp[qk4] at h
   subst h
   rfl
  | succ k=>
   rw[qk4] at h ⊢
   rcases Nat.lt_or_ge c ((qk4 m k (a+1)).map (a :: ·)).length with hlt | hge
   ·rw[List.getElem?_append_left hlt,List.getElem?_map] at h
    obtain⟨t,ht,rfl⟩:=Option.map_eq_some_iff.1 h
    have hi:=ih (by omega) ht
    have htl:=q6x (List.mem_of_getElem? ht)
    have hcl:c<(qk4 m k (a+1)).length:=by simpa using hlt
    simp only[q4h,hi]
    rcases Nat.lt_or_ge (c+1) (qk4 m k (a+1)).length with h2 | h2
    ·rw[List.getElem?_eq_getElem h2,List.getElem?_append_left (by simpa using h2),List.getElem?_map,List.getElem?_eq_getElem h2]
     rfl
    ·rw[List.getElem?_eq_none h2,List.getElem?_append_right (by simpa using h2)]
     have e:c+1-((qk4 m k (a+1)).map (a :: ·)).length=0:=by simp; omega
     rw[e,htl]
     simp only
     by_cases hk:k+1<=m
     ·rw[q4i hk,if_pos (by omega)]
     ·rw[q9a (by omega),if_neg (by omega)]
      rfl
   ·rw[List.getElem?_append_right hge] at h
    rw[List.getElem?_append_right (by omega)]
    have:=ih (by omega) h
    rw[this]
    congr 1
    omega
def qa7 (n k:Int):List (List Int):=if k<=n then qk4 n.toNat k.toNat 0 else[]
theorem w6u (a:Int) (k i:Nat) (h:i<k):nI (w6t a k) i=a+i:=by
 induction k generalizing a i with
 | zero=>omega
 | succ k ih=>cases i with
  | zero=>simp[w6t,qr2]
  | succ i=>rw[w6t,qp3,ih _ _ (by omega)]; omega
theorem q4j {n:Int}:∀{l:List Int},(∀q:Nat,q<l.length->nI l q=n-l.length+q)->q4h n l=none
 | [],_=>rfl
 | x :: t,h=>by
  have h0:=h 0 (by simp)
  rw[qr2] at h0
  have ht:q4h n t=none:=q4j λq hq=>by
   have:=h (q+1) (by simpa using hq)
   rw[qp3] at this
   simp only[List.length_cons] at this
   omega
  simp only[q4h,ht]
  rw[if_neg]
  simp only[List.length_cons] at h0
  omega
theorem q9b {n:Int}:∀{l:List Int} {i:Nat},i<l.length->(∀q:Nat,i<q->q<l.length->nI l q=n-l.length+q)->nI l i<n-l.length+i->q4h n l=some (l.take i++w6t (nI l i+1) (l.length-i))
 | x :: t,0,_,h,h0=>by
  rw[qr2] at h0
  have ht:q4h n t=none:=q4j λq hq=>by
   have:=h (q+1) (by omega) (by simpa using hq)
   rw[qp3] at this
   simp only[List.length_cons] at this
   omega
  simp only[q4h,ht]
  simp only[List.length_cons] at h0
  rw[if_pos (by omega)]
  simp[qr2]
 | x :: t,i+1,hi,h,h0=>by
  have:=q9b (n:=n) (l:=t) (i:=i) (by simpa using hi) (λq h1 h2=>by
   have:=h (q+1) (by omega) (by simpa using h2)
   rw[qp3] at this
   simp only[List.length_cons] at this
   omega) (by
   rw[qp3] at h0
   simp only[List.length_cons] at h0
   omega)
  simp only[q4h,this,qp3,List.take_succ_cons,List.length_cons,Nat.add_sub_add_right,List.cons_append]
def w89 (l:List Int) (i:Nat):List Int:=l.take i++w6t (nI l i+1) (l.length-i)
theorem w05 (l:List Int) (i:Nat) (hi:i<l.length):(w89 l i).length=l.length:=by
 simp[w89,q5m]; omega
theorem wd1 (l:List Int) (i q:Nat) (hi:i<l.length) (hq:q<l.length):nI (w89 l i) q=if q<i then nI l q else nI l i+1+(q-i:Nat):=by
 rw[qg4 _ _ (by rw[w05 l i hi]; exact hq)]
 unfold w89
 split
 ·rename_i h
  rw[List.getElem_append_left (by simp; omega),List.getElem_take,qg4 l q hq]
 ·rename_i h
  rw[List.getElem_append_right (by simp; omega)]
  have hl:(l.take i).length=i:=by simp; omega
  have:=w6u (nI l i+1) (l.length-i) (q-i) (by omega)
  rw[qg4 _ _ (by rw[q5m]; omega)] at this
  rw[<- this]
  congr 1
  omega
def mkC (l:List Int) (i j:Nat):List Int:=ovr (.int .i64) (nI (w89 l i)) l j
theorem q6y (l:List Int) (i j:Nat):(mkC l i j).length=l.length:=qr0 (.int .i64) _ _ _
theorem w06 (l:List Int) (i j q:Nat) (hq:q<l.length):nI (mkC l i j) q=if q<j then nI (w89 l i) q else nI l q:=q42 (.int .i64) _ _ _ _ hq
theorem w6v {a b:List Int} (h:a.length=b.length) (k:∀i,i<a.length->nI a i=nI b i):a=b:=by
 apply List.ext_getElem h
 intro i h1 h2
 have:=k i h1
 rwa [qg4 _ _ h1,qg4 _ _ h2] at this
theorem w6w (l:List Int) (i:Nat) (hi:i<l.length):mkC l i (i+1)=l.set i (nI l i+1):=by
 apply w6v (by rw[q6y,List.length_set])
 intro q hq
 rw[q6y] at hq
 rw[w06 _ _ _ _ hq,qg4 (l.set i (nI l i+1)) q (by rw[List.length_set]; exact hq),List.getElem_set,wd1 _ _ _ hi hq]
 by_cases e:i=q
 ·subst e
  rw[if_pos (by omega),if_neg (Nat.lt_irrefl _),if_pos rfl]; simp
 ·rw[if_neg e,<- qg4 l q hq]
  by_cases h:q<i
  ·rw[if_pos (by omega),if_pos h]
  ·rw[if_neg (by omega)]
theorem xc4 (l:List Int) (i j:Nat) (hi:i<j) (hj:j<l.length):(mkC l i j).set j (nI (mkC l i j) (j-1)+1)=mkC l i (j+1):=by
 have e:nI (mkC l i j) (j-1)+1=nI (w89 l i) j:=by
  rw[w06 _ _ _ _ (by omega),if_pos (by omega),wd1 _ _ _ (by omega) (by omega),wd1 _ _ _ (by omega) hj,if_neg (by omega)]
  split <;> omega
 rw[e]
 exact qu5 (.int .i64) _ _ _
theorem xr5 (l:List Int) (i:Nat) (hi:i<l.length):mkC l i l.length=w89 l i:=by
 apply w6v (by rw[q6y,w05 l i hi])
 intro q hq
 rw[q6y] at hq
 rw[w06 _ _ _ _ hq,if_pos hq]
structure w6x (n k:Int) (c:Nat) (l:List Int):Prop where
 len:l.length=k.toNat
 at_:k<=n->(qa7 n k)[c]? = some l
 cnt:n<k->c=0
structure xc5 (n k:Int) (l:List Int) (i:Int):Prop where
 lo:-1<=i
 hi:i<k
 last:∀q:Nat,i<q->q<l.length->nI l q=n-k+q
structure xr6 (l:List Int) (i j:Nat) (r:List Int):Prop where
 lo:i<j
 hi:j<=l.length
 eq:r=mkC l i j
abbrev x0i:q1x:=xa9 [tInt,tInt] [tInts] (λx=>(0<=x.1/\x.1<=1000)/\0<=x.2.1/\x.2.1<=1000) (λx=>(qa7 x.2.1 x.1).map λl=>(l,())) (some 3)
def x0j (n k:Int):Nat->Option Inv
 | 0=>some (Inv.of [4] 2 (λ_:Nat × List Int=>[(4,.own 1)]) (λs=>[.cnt (some s.1),.vec 3 (.int .i64) s.2]) (λs=>w6x n k s.1 s.2) (λs=>(qa7 n k).length+1-s.1))
 | 1=>some (Eng.Inv.mk (Nat × List Int) Int [4,5] 2 (λ_ i=>[(4,.own 1),(5,.lit (.int .i64 i))]) (λq i=>[.cnt (some q.1),.vec 3 (.int .i64) q.2]) (λq i=>xc5 n k q.2 i) (λq i=>(i+1).toNat))
 | 2=>some (Eng.Inv.mk (Nat × List Int × Nat) (Nat × List Int) [4,6] 16 (λ_ s=>[(4,.own 1),(6,.lit (.int .i64 s.1))]) (λq s=>[.cnt (some q.1),.vec 3 (.int .i64) s.2,.dead,.dead,.dead,.dead,.dead,.dead,.dead,.dead,.dead,.dead,.dead,.dead,.dead,.dead]) (λq s=>xr6 q.2.1 q.2.2 s.1 s.2) (λq s=>q.2.1.length-s.1))
 | _=>none
theorem xc6 (k:Nat):w6t 0 k=qo7 k:=by
 apply w6v (by rw[q5m,qe9])
 intro i hi
 rw[q5m] at hi
 rw[w6u _ _ _ hi,q0t _ _ hi]; omega
theorem w6y {n k:Int} (hkn:k<=n) (hk:0<=k) {c:Nat} {l:List Int} (h:(qa7 n k)[c]? = some l):q4h n l=(qa7 n k)[c+1]?:=by
 unfold qa7 at h ⊢
 rw[if_pos hkn] at h ⊢
 exact w3g (by omega) h
theorem wu5 {n k:Int} {l:List Int} (h:l∈qa7 n k):InC n.toNat k.toNat 0 l:=by
 unfold qa7 at h
 split at h
 ·exact w04 h
 ·cases h
theorem w3h:q1s Tryz.prog 110 x0i:=by
 refine says (snd (SpecsOk.cons q6u (SpecsOk.nil _))) Tryz.func110 rfl rfl rfl [12] (λx=>x0j x.2.1 x.1) (λ_=>by kernel_rfl) (by decide) ?_
 rintro⟨k,n,⟨⟩⟩ l h
 revert k n
 intro(k:Int) (n:Int) (h:(0<=k/\k<=1000)/\0<=n/\n<=1000)
 refine @qd9 _ (let Q0:=qa7 n k; let Q1:=(k,n,PUnit.unit); k<=(100000:Ty.den tInt)/\∃(v0:Unit),∃(v1:Nat × List Int),w6x n k v1.1 v1.2/\((True/\True)/\some (0:Nat)=some v1.1/\qo7 k.toNat=v1.2/\True)/\∀(v2:Nat × List Int),w6x n k v2.1 v2.2->(decide (k<=n)=true->Value.func (Fn.yield l) #[] #[]=Value.func (Fn.yield (qk0.l (wt3 [tInt,tInt] [tInts] [(12:Nat)] Q1 (List.map (λ(v5:List Int)=>(v5,())) Q0) l (some (3:Nat))))) #[] #[]/\(qk0.L (wt3 [tInt,tInt] [tInts] [(12:Nat)] Q1 (List.map (λ(v5:List Int)=>(v5,())) Q0) l (some (3:Nat))))[v2.1]?=some (v2.2,())/\(fits .i64 (k-(1:Int))/\∃(v5:Nat × List Int),∃(v6:Int),xc5 n k v5.2 v6/\((True/\k-(1:Int)=v6/\True)/\some (v2.1+(1:Nat))=some v5.1/\v2.2=v5.2/\True)/\∀(v7:Int),xc5 n k v5.2 v7->(decide ((0:Int)<=v7)=true->((0:Int)<=v7/\v7<(↑v5.2.length:Int))/\v7.toNat<v5.2.length/\fits .i64 (n-k)/\fits .i64 (n-k+v7)/\((nI v5.2 v7.toNat==n-k+v7)=true->fits .i64 (v7-(1:Int))/\∃(v11:Int),xc5 n k v5.2 v11/\(v11+(1:Int)).toNat<(v7+(1:Int)).toNat/\(True/\v7-(1:Int)=v11/\True)/\some v5.1=some v5.1/\v5.2=v5.2/\True)/\((nI v5.2 v7.toNat==n-k+v7)=false->(decide (v7<(0:Int))=true->v5.1=(qk0.L (wt3 [tInt,tInt] [tInts] [(12:Nat)] Q1 (List.map (λ(v12:List Int)=>(v12,())) Q0) l (some (3:Nat)))).length)/\(decide (v7<(0:Int))=false->((0:Int)<=v7/\v7<(↑v5.2.length:Int))/\v7.toNat<v5.2.length/\fits .i64 (nI v5.2 v7.toNat+(1:Int))/\((0:Int)<=v7/\v7<(↑v5.2.length:Int))/\v7.toNat<v5.2.length/\fits .i64 (v7+(1:Int))/\∃(v12:Nat × List Int × Nat),∃(v13:Nat × List Int),xr6 v12.2.1 v12.2.2 v13.1 v13.2/\((True/\v7+(1:Int)=(↑v13.1:Int)/\True)/\some v5.1=some v12.1/\List.set v5.2 v7.toNat (nI v5.2 v7.toNat+(1:Int))=v13.2/\True/\True/\True/\True/\True/\True/\True/\True/\True/\True/\True/\True/\True/\True/\True)/\∀(v14:Nat × List Int),xr6 v12.2.1 v12.2.2 v14.1 v14.2->(decide ((↑v14.1:Int)<k)=true->fits .i64 ((↑v14.1:Int)-(1:Int))/\((0:Int)<=(↑v14.1:Int)-(1:Int)/\(↑v14.1:Int)-(1:Int)<(↑v14.2.length:Int))/\((↑v14.1:Int)-(1:Int)).toNat<v14.2.length/\fits .i64 (nI v14.2 ((↑v14.1:Int)-(1:Int)).toNat+(1:Int))/\((0:Int)<=(↑v14.1:Int)/\(↑v14.1:Int)<(↑v14.2.length:Int))/\(↑v14.1:Int).toNat<v14.2.length/\fits .i64 ((↑v14.1:Int)+(1:Int))/\∃(v17:Nat × List Int),xr6 v12.2.1 v12.2.2 v17.1 v17.2/\v12.2.1.length-v17.1<v12.2.1.length-v14.1/\(True/\(↑v14.1:Int)+(1:Int)=(↑v17.1:Int)/\True)/\some v12.1=some v12.1/\List.set v14.2 (↑v14.1:Int).toNat (nI v14.2 ((↑v14.1:Int)-(1:Int)).toNat+(1:Int))=v17.2/\True/\True/\True/\True/\True/\True/\True/\True/\True/\True/\True/\True/\True/\True/\True)/\(decide ((↑v14.1:Int)<k)=false->∃(v17:Nat × List Int),w6x n k v17.1 v17.2/\Q0.length+(1:Nat)-v17.1<Q0.length+(1:Nat)-v2.1/\(True/\True)/\some v12.1=some v17.1/\v14.2=v17.2/\True))))/\(decide ((0:Int)<=v7)=false->(decide (v7<(0:Int))=true->v5.1=(qk0.L (wt3 [tInt,tInt] [tInts] [(12:Nat)] Q1 (List.map (λ(v11:List Int)=>(v11,())) Q0) l (some (3:Nat)))).length)/\(decide (v7<(0:Int))=false->((0:Int)<=v7/\v7<(↑v5.2.length:Int))/\v7.toNat<v5.2.length/\fits .i64 (nI v5.2 v7.toNat+(1:Int))/\((0:Int)<=v7/\v7<(↑v5.2.length:Int))/\v7.toNat<v5.2.length/\fits .i64 (v7+(1:Int))/\∃(v11:Nat × List Int × Nat),∃(v12:Nat × List Int),xr6 v11.2.1 v11.2.2 v12.1 v12.2/\((True/\v7+(1:Int)=(↑v12.1:Int)/\True)/\some v5.1=some v11.1/\List.set v5.2 v7.toNat (nI v5.2 v7.toNat+(1:Int))=v12.2/\True/\True/\True/\True/\True/\True/\True/\True/\True/\True/\True/\True/\True/\True/\True)/\∀(v13:Nat × List Int),xr6 v11.2.1 v11.2.2 v13.1 v13.2->(decide ((↑v13.1:Int)<k)=true->fits .i64 ((↑v13.1:Int)-(1:Int))/\((0:Int)<=(↑v13.1:Int)-(1:Int)/\(↑v13.1:Int)-(1:Int)<(↑v13.2.length:Int))/\((↑v13.1:Int)-(1:Int)).toNat<v13.2.length/\fits .i64 (nI v13.2 ((↑v13.1:Int)-(1:Int)).toNat+(1:Int))/\((0:Int)<=(↑v13.1:Int)/\(↑v13.1:Int)<(↑v13.2.length:Int))/\(↑v13.1:Int).toNat<v13.2.length/\fits .i64 ((↑v13.1:Int)+(1:Int))/\∃(v16:Nat × List Int),xr6 v11.2.1 v11.2.2 v16.1 v16.2/\v11.2.1.length-v16.1<v11.2.1.length-v13.1/\(True/\(↑v13.1:Int)+(1:Int)=(↑v16.1:Int)/\True)/\some v11.1=some v11.1/\List.set v13.2 (↑v13.1:Int).toNat (nI v13.2 ((↑v13.1:Int)-(1:Int)).toNat+(1:Int))=v16.2/\True/\True/\True/\True/\True/\True/\True/\True/\True/\True/\True/\True/\True/\True/\True)/\(decide ((↑v13.1:Int)<k)=false->∃(v16:Nat × List Int),w6x n k v16.1 v16.2/\Q0.length+(1:Nat)-v16.1<Q0.length+(1:Nat)-v2.1/\(True/\True)/\some v11.1=some v16.1/\v13.2=v16.2/\True))))/\True)/\(decide (k<=n)=false->v2.1=(qk0.L (wt3 [tInt,tInt] [tInts] [(12:Nat)] Q1 (List.map (λ(v5:List Int)=>(v5,())) Q0) l (some (3:Nat)))).length)) (by kernel_rfl) ?_
 try simp only[z0,z1,z2,z3,z4,z5,z6,z7,z8,z9,z10,Int.reduceEq,z11,z12,z13,z14,z15,z16,z17,z18,z19,z20,z21,z22,z23,z24,z25,z26,z27,z28,z29,z30,Int.reduceLE,Int.reduceLT,z31,z32,z33,z34,qa3]
 try simp only[qb4,qb5,qc0,z31,z32,z2,z1]
 obtain⟨⟨hk0,hk1⟩,hn0,hn1⟩:=h
 refine⟨by omega,(),(0,qo7 k.toNat),⟨qe9 _,λhkn=>?_,λ_=>rfl⟩,⟨rfl,rfl⟩,?_⟩
 ·unfold qa7
  rw[if_pos hkn,q4i (by omega),xc6]
 rintro⟨c,s⟩ ⟨hl,ha,hz⟩
 dsimp only at hl ha hz ⊢
 refine⟨λhkn=>?_,λhkn=>?_⟩
 ·have hat:=ha hkn
  have hc:=(List.getElem?_eq_some_iff.1 hat).1
  have hin:=wu5 (List.mem_of_getElem? hat)
  have hnx:=w6y hkn hk0 hat
  have hmap:((qa7 n k).map λv=>((v,()):qa5 [tInts])).length=(qa7 n k).length:=List.length_map _
  refine⟨rfl,?_,qa6 (by omega) (by omega),(c+1,s),k-1,⟨by omega,by omega,λq h1 h2=>by dsimp only at h2; omega⟩,⟨rfl,rfl,rfl⟩,?_⟩
  ·show((qa7 n k).map λv=>((v,()):qa5 [tInts]))[c]? = some (s,())
   rw[List.getElem?_map,hat]; rfl
  rintro i ⟨lo,hi,last⟩
  dsimp only at lo hi last ⊢
  have fin:i<0->c+1=((qa7 n k).map λv=>((v,()):qa5 [tInts])).length:=λhneg=>by
   have hn:q4h n s=none:=q4j λq hq=>by rw[last q (by omega) hq]; omega
   rw[hn] at hnx
   have:=List.getElem?_eq_none_iff.1 hnx.symm
   omega
  refine⟨λhi0=>?_,λhi0=>⟨fin,λh=>by omega⟩⟩
  have hb1:=hin.lo i.toNat (by omega)
  have hb2:=hin.hi i.toNat (by omega)
  refine⟨by omega,by omega,qa6 (by omega) (by omega),qa6 (by omega) (by omega),λheq=>⟨qa6 (by omega) (by omega),i-1,⟨by omega,by omega,λq h1 h2=>?_⟩,by omega,rfl⟩,λhne=>⟨fin,λ_=>?_⟩⟩
  ·by_cases e:(q:Int)=i
   ·have:i.toNat=q:=by omega
    rw[this] at heq; rw[heq]; omega
   ·exact last q (by omega) h2
  have hil:i.toNat<s.length:=by omega
  refine⟨by omega,hil,qa6 (by omega) (by omega),by omega,hil,qa6 (by omega) (by omega),(c+1,s,i.toNat),(i.toNat+1,s.set i.toNat (nI s i.toNat+1)),⟨Nat.lt_succ_self _,hil,(w6w s i.toNat hil).symm⟩,⟨by dsimp only; omega,rfl,rfl⟩,?_⟩
  rintro⟨j,r⟩ ⟨h1,h2,h3⟩
  dsimp only at h1 h2 h3 ⊢
  have hrl:r.length=s.length:=by rw[h3,q6y]
  refine⟨λhj=>?_,λhj=>?_⟩
  ·have e:((j:Int)-1).toNat=j-1:=by omega
   rw[e]
   have hv:nI r (j-1)=nI s i.toNat+1+(j-1-i.toNat:Nat):=by
    rw[h3,w06 _ _ _ _ (by omega),if_pos (by omega),wd1 _ _ _ hil (by omega),if_neg (by omega)]
   refine⟨qa6 (by omega) (by omega),by omega,by omega,qa6 (by omega) (by omega),by omega,by omega,qa6 (by omega) (by omega),(j+1,r.set j (nI r (j-1)+1)),⟨by dsimp only; omega,by dsimp only; omega,?_⟩,by dsimp only; omega,by dsimp only; omega,rfl⟩
   dsimp only
   rw[h3]
   exact xc4 s i.toNat j h1 (by omega)
  ·have hjl:j=s.length:=by omega
   have hr:r=w89 s i.toNat:=by rw[h3,hjl,xr5 s i.toNat hil]
   have hlt2:nI s i.toNat<n-s.length+i.toNat:=by
    have h5:nI s i.toNat<n-k+i:=Int.lt_iff_le_and_ne.2 ⟨by omega,hne⟩
    omega
   have hst:q4h n s=some (w89 s i.toNat):=q9b hil (λq h1 h2=>by rw[last q (by omega) h2]; omega) hlt2
   refine⟨(c+1,r),⟨hrl.trans hl,λ_=>?_,λh=>absurd (Int.lt_of_lt_of_le h hkn) (Int.lt_irrefl _)⟩,Nat.sub_lt_sub_left (Nat.lt_succ_of_lt hc) (Nat.lt_succ_self c),rfl,rfl⟩
   dsimp only
   rw[<- hnx,hst,hr]
 ·show c=((qa7 n k).map λv=>((v,()):qa5 [tInts])).length
  rw[List.length_map,hz hkn]
  unfold qa7
  rw[if_neg (by omega)]
  rfl
abbrev x36:qb9:=w58 false none [tInt,tInt] (λ_=>True) (λx=>.clo 110 (.cons (.imm (.cons (.lit (.int .i64 x.2.1)) .nil) 0) (.cons (.imm (.cons (.lit (.int .i64 x.1)) .nil) 0) .nil)))
theorem w3i:qd6 Tryz.prog 73 x36:=by
 refine w0y (snd (SpecsOk.nil _)) Tryz.func73 rfl rfl (λ_ _=>none) (λ_=>by kernel_rfl) (by decide) ?_
 rintro⟨n,k,⟨⟩⟩ -
 revert n k
 intro(n:Int) (k:Int)
 refine @qd9 _ (((k=k/\True)/\(0:Nat)=(0:Nat))/\((n=n/\True)/\(0:Nat)=(0:Nat))/\True) (by kernel_rfl) ?_
 try simp only[z0,z1,z2,z3,z4,z5,z6,z7,z8,z9,z10,Int.reduceEq,z11,z12,z13,z14,z15,z16,z17,z18,z19,z20,z21,z22,z23,z24,z25,z26,z27,z28,z29,z30,Int.reduceLE,Int.reduceLT,z31,z32,z33,z34,qa3]
 try simp only[qb4,qb5,qc0,z31,z32,z2,z1]
def x37 (l:List Int) (x:Int):Nat->Option Inv:=x3u (.int .i64) l λe=>x==e
abbrev x74:qb9:=qg1 true none [tInts,tInt] [tInt] (λx=>x.1.length<=1000000) (λx=>(ixT (.int .i64) (λe=>x.2.1==e) x.1,()))
theorem w6z:qd6 Tryz.prog 157 x74:=by
 refine meets (snd (SpecsOk.nil _)) Tryz.func157 rfl rfl (λx=>x37 x.1 x.2.1) (λ_=>by kernel_rfl) (by decide) ?_
 rintro⟨l,x,⟨⟩⟩ h
 revert l x
 intro(l:List Int) (x:Int) (h:l.length<=1000000)
 refine @qd9 _ (∃(v0:Unit),∃(v1:Nat),(v1<=l.length/\∀(v2:Nat),Nat.le (Nat.succ v2) v1->(x==nI l v2)=false)/\(((0:Int)=(↑v1:Int)/\True)/\True)/\∀(v2:Nat),(v2<=l.length/\∀(v4:Nat),Nat.le (Nat.succ v4) v2->(x==nI l v4)=false)->(decide ((↑v2:Int)<(↑l.length:Int))=true->((0:Int)<=(↑v2:Int)/\(↑v2:Int)<(↑l.length:Int))/\((x==nI l v2)=true->(↑v2:Int)=ixT (Ty.int .i64) (λ(v6:Int)=>x==v6) l)/\((x==nI l v2)=false->fits .i64 ((↑v2:Int)+(1:Int))/\∃(v6:Nat),(v6<=l.length/\∀(v7:Nat),Nat.le (Nat.succ v7) v6->(x==nI l v7)=false)/\l.length-v6<l.length-v2/\((↑v2:Int)+(1:Int)=(↑v6:Int)/\True)/\True))/\(decide ((↑v2:Int)<(↑l.length:Int))=false->(-1:Int)=ixT (Ty.int .i64) (λ(v5:Int)=>x==v5) l)) (by kernel_rfl) ?_
 try simp only[z0,z1,z2,z3,z4,z5,z6,z7,z8,z9,z10,Int.reduceEq,z11,z12,z13,z14,z15,z16,z17,z18,z19,z20,z21,z22,z23,z24,z25,z26,z27,z28,z29,z30,Int.reduceLE,Int.reduceLT,z31,z32,z33,z34,qa3]
 try simp only[qb4,qb5,qc0,z31,z32,z2,z1]
 refine⟨(),0,⟨Nat.zero_le _,λi hi=>absurd hi (by omega)⟩,rfl,λk ⟨hk,hall⟩=>?_⟩
 refine⟨λhlt=>⟨hlt,λhf=>(w03 (.int .i64) (λe=>x==e) l k hlt (λi hi=>beq_false_of_ne λe=>hall i hi e) (beq_iff_eq.2 hf)).symm,λhf=>⟨qa6 (by omega) (by omega),k+1,⟨by omega,λi hi=>?_⟩,by omega,by omega⟩⟩,λhge=>(wc7 (.int .i64) (λe=>x==e) l λi hi=>beq_false_of_ne λe=>hall i (by omega) e).symm⟩
 by_cases e:i=k
 ·subst e; exact hf
 ·exact hall i (by omega)
abbrev x75:qb9:=qg1 true none [tInts,tInt] [.bool] (λx=>x.1.length<=1000000) (λx=>(x.1.any λe=>x.2.1==e,()))
theorem wn1:qd6 Tryz.prog 135 x75:=by
 refine meets (snd (SpecsOk.cons w6z (SpecsOk.nil _))) Tryz.func135 rfl rfl (λ_ _=>none) (λ_=>by kernel_rfl) (by decide) ?_
 rintro⟨l,x,⟨⟩⟩ h
 revert l x
 intro(l:List Int) (x:Int) (h:l.length<=1000000)
 refine @qd9 _ (l.length<=(1000000:Nat)/\decide ((0:Int)<=ixT (Ty.int .i64) (λ(v0:Int)=>x==v0) l)=List.any l λ(v0:Int)=>x==v0) (by kernel_rfl) ?_
 try simp only[z0,z1,z2,z3,z4,z5,z6,z7,z8,z9,z10,Int.reduceEq,z11,z12,z13,z14,z15,z16,z17,z18,z19,z20,z21,z22,z23,z24,z25,z26,z27,z28,z29,z30,Int.reduceLE,Int.reduceLT,z31,z32,z33,z34,qa3]
 try simp only[qb4,qb5,qc0,z31,z32,z2,z1]
 exact⟨h,q4g (.int .i64) _ l⟩
abbrev x0k:qb9:=qg1 true none [tInt] [.bool] (λ_=>True) (λx=>(x.1 != 0,()))
theorem w3j:qd6 Tryz.prog 158 x0k:=by
 refine meets (snd (SpecsOk.nil _)) Tryz.func158 rfl rfl (λ_ _=>none) (λ_=>by kernel_rfl) (by decide) ?_
 rintro⟨n,⟨⟩⟩ -
 revert n
 intro(n:Int)
 refine @qd9 _ ((n != (0:Int))=(n != (0:Ty.den tInt))) (by kernel_rfl) ?_
 try simp only[z0,z1,z2,z3,z4,z5,z6,z7,z8,z9,z10,Int.reduceEq,z11,z12,z13,z14,z15,z16,z17,z18,z19,z20,z21,z22,z23,z24,z25,z26,z27,z28,z29,z30,Int.reduceLE,Int.reduceLT,z31,z32,z33,z34,qa3]
 try simp only[qb4,qb5,qc0,z31,z32,z2,z1]
def qv4 (l:List Int):Int:=ixT (.int .i64) (λe=>e != 0) l
def q60 (l:List Int):List Int:=if 0<=qv4 (qe0 l)/\nI (qe0 l) (qv4 (qe0 l)).toNat<0 then xb9 (qe0 l) else qe0 l
abbrev x4a:qo8:=wl2 (q6m []) false true 0 3 (.int .i64) (λrows _=>q4f (nL rows 0)) (λ_ _=>.tup .nil) (λrows _=>[q60 (nL rows 0)])
structure xc7 (l:List Int) (i:Nat) (r:List Int):Prop where
 le:i<=l.length
 eq:r=ovr (.int .i64) (λq=>0-nI l q) l i
def x0l (T:q5x) (l:List Int):Nat->Option Inv
 | 0=>some (Inv.of [0,20] 1 (λs:Nat × List Int=>[(0,.msl 0 (some 0)),(20,.lit (.int .i64 s.1))]) (λs=>[.mat 0 3 (.int .i64) [s.2] (some []) (some T)]) (λs=>xc7 (qe0 l) s.1 s.2) (λs=>(qe0 l).length-s.1))
 | _=>none
theorem q9c {l:List Int} (h:q4f l):q4f (qe0 l):=by
 unfold qe0
 split
 ·refine⟨by simpa using h.1,λx hx=>?_⟩
  obtain⟨y,hy,rfl⟩:=List.mem_map.1 hx
  exact qk3 (h.2 y hy)
 ·exact h
theorem w3k:qu3 Tryz.prog 136 x4a:=by
 refine q6p (xz8 (SpecsOk.cons (wm2 (fs:=[(158,x0k)]) (SpecsOk.cons w3j (SpecsOk.nil _))) (SpecsOk.nil _)) (MutsOk.cons q2i MutsOk.nil)) Tryz.func136 rfl rfl (qy5 []) (λT rows _=>x0l T (nL rows 0)) (λ_ _ _=>by kernel_rfl) (by decide) ?_ rfl
 rintro T rows ⟨⟩ h hone
 obtain⟨l,rfl⟩:∃l:List Int,rows=[l]:=by
  have h1:=hone rfl
  match rows,h1 with
  | [l],_=>exact⟨l,rfl⟩
 have h:q4f l:=h
 refine @qd9 _ (q4f (nL [nL [l] (0:Nat)] (0:Nat))/\∃(v0:qa5 [Ty.int .i64]->Prop),∃(v1:qa5 [Ty.int .i64]->Bool),(∀(v2:Int × qa5._f [] PUnit.unit),v0 v2->True/\(v2.1 != (0:Ty.den tInt))=v1 v2)/\((nL (List.set [l] (0:Nat) (nL [qe0 (nL [nL [l] (0:Nat)] (0:Nat))] (0:Nat))) (0:Nat)).length<=(1000000:Nat)/\∀(v2:Nat),v2<(nL (List.set [l] (0:Nat) (nL [qe0 (nL [nL [l] (0:Nat)] (0:Nat))] (0:Nat))) (0:Nat)).length->v0 (nI (nL (List.set [l] (0:Nat) (nL [qe0 (nL [nL [l] (0:Nat)] (0:Nat))] (0:Nat))) (0:Nat)) v2,()))/\(decide ((0:Int)<=ixT (Ty.int .i64) (λ(v3:Int)=>v1 (v3,())) (nL (List.set [l] (0:Nat) (nL [qe0 (nL [nL [l] (0:Nat)] (0:Nat))] (0:Nat))) (0:Nat)))=true->((0:Int)<=ixT (Ty.int .i64) (λ(v3:Int)=>v1 (v3,())) (nL (List.set [l] (0:Nat) (nL [qe0 (nL [nL [l] (0:Nat)] (0:Nat))] (0:Nat))) (0:Nat))/\ixT (Ty.int .i64) (λ(v3:Int)=>v1 (v3,())) (nL (List.set [l] (0:Nat) (nL [qe0 (nL [nL [l] (0:Nat)] (0:Nat))] (0:Nat))) (0:Nat))<(↑(nL (List.set [l] (0:Nat) (nL [qe0 (nL [nL [l] (0:Nat)] (0:Nat))] (0:Nat))) (0:Nat)).length:Int))/\(ixT (Ty.int .i64) (λ(v3:Int)=>v1 (v3,())) (nL (List.set [l] (0:Nat) (nL [qe0 (nL [nL [l] (0:Nat)] (0:Nat))] (0:Nat))) (0:Nat))).toNat<(nL (List.set [l] (0:Nat) (nL [qe0 (nL [nL [l] (0:Nat)] (0:Nat))] (0:Nat))) (0:Nat)).length/\(decide (nI (nL (List.set [l] (0:Nat) (nL [qe0 (nL [nL [l] (0:Nat)] (0:Nat))] (0:Nat))) (0:Nat)) (ixT (Ty.int .i64) (λ(v4:Int)=>v1 (v4,())) (nL (List.set [l] (0:Nat) (nL [qe0 (nL [nL [l] (0:Nat)] (0:Nat))] (0:Nat))) (0:Nat))).toNat<(0:Int))=true->∃(v4:Unit),∃(v5:Nat × List Int),xc7 (qe0 (nL [l] (0:Nat))) v5.1 v5.2/\((some (0:Nat)=some (0:Nat)/\(0:Int)=(↑v5.1:Int)/\True)/\(List.set [l] (0:Nat) (nL [qe0 (nL [nL [l] (0:Nat)] (0:Nat))] (0:Nat))=[v5.2]/\True/\T=T)/\True)/\∀(v6:Nat × List Int),xc7 (qe0 (nL [l] (0:Nat))) v6.1 v6.2->(decide ((↑v6.1:Int)<(↑(nL (List.set [l] (0:Nat) (nL [qe0 (nL [nL [l] (0:Nat)] (0:Nat))] (0:Nat))) (0:Nat)).length:Int))=true->((0:Int)<=(↑v6.1:Int)/\(↑v6.1:Int)<(↑(nL [v6.2] (0:Nat)).length:Int))/\(↑v6.1:Int).toNat<(nL [v6.2] (0:Nat)).length/\fits .i64 ((0:Int)-nI (nL [v6.2] (0:Nat)) (↑v6.1:Int).toNat)/\((0:Int)<=(↑v6.1:Int)/\(↑v6.1:Int)<(↑(nL [v6.2] (0:Nat)).length:Int))/\(↑v6.1:Int).toNat<(nL [v6.2] (0:Nat)).length/\fits .i64 ((↑v6.1:Int)+(1:Int))/\∃(v9:Nat × List Int),xc7 (qe0 (nL [l] (0:Nat))) v9.1 v9.2/\(qe0 (nL [l] (0:Nat))).length-v9.1<(qe0 (nL [l] (0:Nat))).length-v6.1/\(some (0:Nat)=some (0:Nat)/\(↑v6.1:Int)+(1:Int)=(↑v9.1:Int)/\True)/\(List.set [v6.2] (0:Nat) (List.set (nL [v6.2] (0:Nat)) (↑v6.1:Int).toNat ((0:Int)-nI (nL [v6.2] (0:Nat)) (↑v6.1:Int).toNat))=[v9.2]/\True/\T=T)/\True)/\(decide ((↑v6.1:Int)<(↑(nL (List.set [l] (0:Nat) (nL [qe0 (nL [nL [l] (0:Nat)] (0:Nat))] (0:Nat))) (0:Nat)).length:Int))=false->[v6.2]=[q60 (nL [l] (0:Nat))]/\T=T/\True/\(0:Nat)=(0:Nat)))/\(decide (nI (nL (List.set [l] (0:Nat) (nL [qe0 (nL [nL [l] (0:Nat)] (0:Nat))] (0:Nat))) (0:Nat)) (ixT (Ty.int .i64) (λ(v4:Int)=>v1 (v4,())) (nL (List.set [l] (0:Nat) (nL [qe0 (nL [nL [l] (0:Nat)] (0:Nat))] (0:Nat))) (0:Nat))).toNat<(0:Int))=false->List.set [l] (0:Nat) (nL [qe0 (nL [nL [l] (0:Nat)] (0:Nat))] (0:Nat))=[q60 (nL [l] (0:Nat))]/\T=T/\True/\(0:Nat)=(0:Nat)))/\(decide ((0:Int)<=ixT (Ty.int .i64) (λ(v3:Int)=>v1 (v3,())) (nL (List.set [l] (0:Nat) (nL [qe0 (nL [nL [l] (0:Nat)] (0:Nat))] (0:Nat))) (0:Nat)))=false->List.set [l] (0:Nat) (nL [qe0 (nL [nL [l] (0:Nat)] (0:Nat))] (0:Nat))=[q60 (nL [l] (0:Nat))]/\T=T/\True/\(0:Nat)=(0:Nat))) (by kernel_rfl) ?_
 try simp only[z0,z1,z2,z3,z4,z5,z6,z7,z8,z9,z10,Int.reduceEq,z11,z12,z13,z14,z15,z16,z17,z18,z19,z20,z21,z22,z23,z24,z25,z26,z27,z28,z29,z30,Int.reduceLE,Int.reduceLT,z31,z32,z33,z34,qa3]
 try simp only[qb4,qb5,qc0,z31,z32,z2,z1]
 have hs:=q9c h
 have hl:=hs.1
 refine⟨h,λ_=>True,λx=>x.1 != 0,λ_ _=>rfl,⟨by omega,λ_ _=>trivial⟩,λh1=>?_,λh1=>?_⟩
 ·have h1:0<=qv4 (qe0 l):=by first | exact of_decide_eq_true h1 | exact h1
  have h2:qv4 (qe0 l)<(qe0 l).length:=(xk7 (.int .i64) _ _).1
  refine⟨⟨h1,h2⟩,by show(qv4 (qe0 l)).toNat<_; omega,λh3=>?_,λh3=>?_⟩
  ·have h3:nI (qe0 l) (qv4 (qe0 l)).toNat<0:=by first | exact of_decide_eq_true h3 | exact h3
   have hp:q60 l=xb9 (qe0 l):=by unfold q60; rw[if_pos ⟨h1,h3⟩]
   refine⟨(),(0,qe0 l),⟨Nat.zero_le _,(qy7 (.int .i64) _ _).symm⟩,⟨rfl,rfl⟩,?_⟩
   rintro⟨i,r⟩ ⟨k1,k2⟩
   dsimp only at k1 k2 ⊢
   have hrl:r.length=(qe0 l).length:=by rw[k2]; exact qr0 (.int .i64) _ _ _
   refine⟨λhlt=>?_,λhge=>?_⟩
   ·have hv:nI r i=nI (qe0 l) i:=by
     rw[k2]
     exact(q42 (.int .i64) _ _ _ _ hlt).trans (if_neg (Nat.lt_irrefl _))
    have hb:=q0s hs hlt
    unfold qf4 BIG at hb
    rw[hv]
    refine⟨by omega,by omega,qa6 (by omega) (by omega),by omega,by omega,qa6 (by omega) (by omega),(i+1,r.set i (0-nI (qe0 l) i)),⟨by dsimp only; omega,?_⟩,by dsimp only; omega,by dsimp only; omega,rfl⟩
    dsimp only
    rw[k2]
    exact qu5 (.int .i64) (λq=>0-nI (qe0 l) q) (qe0 l) i
   ·rw[hp,k2]
    exact q2h (.int .i64) _ _ _ (by omega)
  ·have h3:¬nI (qe0 l) (qv4 (qe0 l)).toNat<0:=by first | exact of_decide_eq_false h3 | exact h3 | exact Int.not_lt.2 h3
   unfold q60; rw[if_neg λq=>h3 q.2]
 ·have h1:¬0<=qv4 (qe0 l):=by first | exact of_decide_eq_false h1 | exact h1 | exact Int.not_le.2 h1
  unfold q60; rw[if_neg λq=>h1 q.1]
end Go.Proofs.YtempacilejhbgaaGreat
