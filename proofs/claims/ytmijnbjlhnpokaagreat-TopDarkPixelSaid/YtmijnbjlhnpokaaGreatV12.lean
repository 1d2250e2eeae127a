/- Rank and solutions: contracts by the engine. No condition. -/
import Derived.Test.YtmijnbjlhnpokaaGreatV8
set_option linter.unusedVariables false
set_option linter.unusedSimpArgs false
namespace Go.Proofs.YtmijnbjlhnpokaaGreat
open Go Go.RowKit Eng
def w83 (a:Int):Nat->List Int
 | 0=>[]
 | k+1=>a :: w83 (a+1) k
theorem q56 (a:Int) (k:Nat):(w83 a k).length=k:=by
 induction k generalizing a with
 | zero=>rfl
 | succ k ih=>simp[w83,ih]
def qp6:Nat->Nat->Int->List (List Int)
 | _,0,_=>[[]]
 | 0,_+1,_=>[]
 | m+1,k+1,a=>(qp6 m k (a+1)).map (a :: ·)++qp6 m (k+1) (a+1)
def q4q (n:Int):List Int->Option (List Int)
 | []=>none
 | x :: t=>match q4q n t with
  | some t'=>some (x :: t')
  | none=>if x+t.length+1<n then some (w83 (x+1) (t.length+1)) else none
theorem wp1 {m k:Nat} {a:Int} {l:List Int} (h:l∈qp6 m k a):l.length=k:=by
 induction m generalizing k a l with
 | zero=>cases k with
  | zero=>simp[qp6] at h; simp[h]
  | succ k=>cases h
 | succ m ih=>cases k with
  | zero=>simp[qp6] at h; simp[h]
  | succ k=>
   rcases List.mem_append.1 h with h | h
   ·obtain⟨t,ht,rfl⟩:=List.mem_map.1 h
    simp[ih ht]
   ·exact ih h
structure InC (m k:Nat) (a:Int) (l:List Int):Prop where
 len:l.length=k
 lo:∀i,i<k->a+i<=nI l i
 hi:∀i,i<k->nI l i+(k-i:Nat)<=a+m
 asc:∀i,0<i->i<k->nI l (i-1)<nI l i
theorem qs2 (x:Int) (t:List Int):nI (x :: t) 0=x:=rfl
theorem qs3 (x:Int) (t:List Int) (i:Nat):nI (x :: t) (i+1)=nI t i:=rfl
theorem w2a {m k:Nat} {a:Int} {l:List Int} (h:l∈qp6 m k a):InC m k a l:=by
 induction m generalizing k a l with
 | zero=>cases k with
  | zero=>simp[qp6] at h; subst h; exact⟨rfl,λi hi=>by omega,λi hi=>by omega,λi _ hi=>by omega⟩
  | succ k=>cases h
 | succ m ih=>cases k with
  | zero=>simp[qp6] at h; subst h; exact⟨rfl,λi hi=>by omega,λi hi=>by omega,λi _ hi=>by omega⟩
  | succ k=>
   rcases List.mem_append.1 h with h | h
   ·obtain⟨t,ht,rfl⟩:=List.mem_map.1 h
    have q:=ih ht
    refine⟨by simp[q.len],λi hi=>?_,λi hi=>?_,λi h0 hi=>?_⟩
    ·cases i with
     | zero=>rw[qs2]; omega
     | succ i=>rw[qs3]; have:=q.lo i (by omega); omega
    ·cases i with
     | zero=>
      rw[qs2]
      cases k with
      | zero=>omega
      | succ k=>have h1:=q.lo 0 (by omega); have h2:=q.hi 0 (by omega); omega
     | succ i=>rw[qs3]; have:=q.hi i (by omega); omega
    ·obtain⟨i,rfl⟩:∃q,i=q+1:=⟨i-1,by omega⟩
     rw[qs3,Nat.add_sub_cancel]
     cases i with
     | zero=>rw[qs2]; have:=q.lo 0 (by omega); omega
     | succ i=>rw[qs3]; have:=q.asc (i+1) (by omega) (by omega); simpa using this
   ·have q:=ih h
    exact⟨q.len,λi hi=>by have:=q.lo i hi; omega,λi hi=>by have:=q.hi i hi; omega,q.asc⟩
theorem w5b {m k:Nat} {a:Int} (h:m<k):qp6 m k a=[]:=by
 induction m generalizing k a with
 | zero=>cases k with
  | zero=>omega
  | succ k=>rfl
 | succ m ih=>cases k with
  | zero=>omega
  | succ k=>simp[qp6,ih (k:=k) (a:=a+1) (by omega),ih (k:=k+1) (a:=a+1) (by omega)]
theorem w5c (m:Nat) (a:Int):qp6 m 0 a=[[]]:=by cases m <;> rfl
theorem q9w {m k:Nat} {a:Int} (h:k<=m):(qp6 m k a)[0]? = some (w83 a k):=by
 induction m generalizing k a with
 | zero=>
  obtain rfl:k=0:=by omega
  rfl
 | succ m ih=>cases k with
  | zero=>rfl
  | succ k=>
   have:=ih (k:=k) (a:=a+1) (by omega)
   have hl:0<(qp6 m k (a+1)).length:=(List.getElem?_eq_some_iff.1 this).1
   rw[qp6,List.getElem?_append_left (by simpa using hl),List.getElem?_map,this]
   rfl
theorem w5d {m k:Nat} {a n:Int} (hn:n=a+m) {c:Nat} {l:List Int} (h:(qp6 m k a)[c]? = some l):q4q n l=(qp6 m k a)[c+1]?:=by
 induction m generalizing k a c l with
 | zero=>cases k with
  | zero=>
   have hc:=(List.getElem?_eq_some_iff.1 h).1
   simp[qp6] at hc
   subst hc
   simp[qp6] at h
   subst h
   rfl
  | succ k=>simp[qp6] at h
 | succ m ih=>cases k with
  | zero=>
   have hc:=(List.getElem?_eq_some_iff.1 h).1
   simp[qp6] at hc
   subst hc
   simp[qp6] at h
   subst h
   rfl
  | succ k=>
   rw[qp6] at h ⊢
   rcases Nat.lt_or_ge c ((qp6 m k (a+1)).map (a :: ·)).length with hlt | hge
   ·rw[List.getElem?_append_left hlt,List.getElem?_map] at h
    obtain⟨t,ht,rfl⟩:=Option.map_eq_some_iff.1 h
    have hi:=ih (by omega) ht
    have htl:=wp1 (List.mem_of_getElem? ht)
    have hcl:c<(qp6 m k (a+1)).length:=by simpa using hlt
    simp only[q4q,hi]
    rcases Nat.lt_or_ge (c+1) (qp6 m k (a+1)).length with h2 | h2
    ·rw[List.getElem?_eq_getElem h2,List.getElem?_append_left (by simpa using h2),List.getElem?_map,List.getElem?_eq_getElem h2]
     rfl
    ·rw[List.getElem?_eq_none h2,List.getElem?_append_right (by simpa using h2)]
     have e:c+1-((qp6 m k (a+1)).map (a :: ·)).length=0:=by simp; omega
     rw[e,htl]
     simp only
     by_cases hk:k+1<=m
     ·rw[q9w hk,if_pos (by omega)]
     ·rw[w5b (by omega),if_neg (by omega)]
      rfl
   ·rw[List.getElem?_append_right hge] at h
    rw[List.getElem?_append_right (by omega)]
    have:=ih (by omega) h
    rw[this]
    congr 1
    omega
def qf0 (n k:Int):List (List Int):=if k<=n then qp6 n.toNat k.toNat 0 else[]
theorem w84 (a:Int) (k i:Nat) (h:i<k):nI (w83 a k) i=a+i:=by
 induction k generalizing a i with
 | zero=>omega
 | succ k ih=>cases i with
  | zero=>simp[w83,qs2]
  | succ i=>rw[w83,qs3,ih _ _ (by omega)]; omega
theorem q4r {n:Int}:∀{l:List Int},(∀q:Nat,q<l.length->nI l q=n-l.length+q)->q4q n l=none
 | [],_=>rfl
 | x :: t,h=>by
  have h0:=h 0 (by simp)
  rw[qs2] at h0
  have ht:q4q n t=none:=q4r λq hq=>by
   have:=h (q+1) (by simpa using hq)
   rw[qs3] at this
   simp only[List.length_cons] at this
   omega
  simp only[q4q,ht]
  rw[if_neg]
  simp only[List.length_cons] at h0
  omega
theorem q9x {n:Int}:∀{l:List Int} {i:Nat},i<l.length->(∀q:Nat,i<q->q<l.length->nI l q=n-l.length+q)->nI l i<n-l.length+i->q4q n l=some (l.take i++w83 (nI l i+1) (l.length-i))
 | x :: t,0,_,h,h0=>by
  rw[qs2] at h0
  have ht:q4q n t=none:=q4r λq hq=>by
   have:=h (q+1) (by omega) (by simpa using hq)
   rw[qs3] at this
   simp only[List.length_cons] at this
   omega
  simp only[q4q,ht]
  simp only[List.length_cons] at h0
  rw[if_pos (by omega)]
  simp[qs2]
 | x :: t,i+1,hi,h,h0=>by
  have:=q9x (n:=n) (l:=t) (i:=i) (by simpa using hi) (λq h1 h2=>by
   have:=h (q+1) (by omega) (by simpa using h2)
   rw[qs3] at this
   simp only[List.length_cons] at this
   omega) (by
   rw[qs3] at h0
   simp only[List.length_cons] at h0
   omega)
  simp only[q4q,this,qs3,List.take_succ_cons,List.length_cons,Nat.add_sub_add_right,List.cons_append]
def xe9 (l:List Int) (i:Nat):List Int:=l.take i++w83 (nI l i+1) (l.length-i)
theorem w2b (l:List Int) (i:Nat) (hi:i<l.length):(xe9 l i).length=l.length:=by
 simp[xe9,q56]; omega
theorem wf9 (l:List Int) (i q:Nat) (hi:i<l.length) (hq:q<l.length):nI (xe9 l i) q=if q<i then nI l q else nI l i+1+(q-i:Nat):=by
 rw[qg5 _ _ (by rw[w2b l i hi]; exact hq)]
 unfold xe9
 split
 ·rename_i h
  rw[List.getElem_append_left (by simp; omega),List.getElem_take,qg5 l q hq]
 ·rename_i h
  rw[List.getElem_append_right (by simp; omega)]
  have hl:(l.take i).length=i:=by simp; omega
  have:=w84 (nI l i+1) (l.length-i) (q-i) (by omega)
  rw[qg5 _ _ (by rw[q56]; omega)] at this
  rw[<- this]
  congr 1
  omega
def mkC (l:List Int) (i j:Nat):List Int:=ovr (.int .i64) (nI (xe9 l i)) l j
theorem q7g (l:List Int) (i j:Nat):(mkC l i j).length=l.length:=qv4 (.int .i64) _ _ _
theorem w2c (l:List Int) (i j q:Nat) (hq:q<l.length):nI (mkC l i j) q=if q<j then nI (xe9 l i) q else nI l q:=q9p (.int .i64) _ _ _ _ hq
theorem w85 {a b:List Int} (h:a.length=b.length) (k:∀i,i<a.length->nI a i=nI b i):a=b:=by
 apply List.ext_getElem h
 intro i h1 h2
 have:=k i h1
 rwa [qg5 _ _ h1,qg5 _ _ h2] at this
theorem w86 (l:List Int) (i:Nat) (hi:i<l.length):mkC l i (i+1)=l.set i (nI l i+1):=by
 apply w85 (by rw[q7g,List.length_set])
 intro q hq
 rw[q7g] at hq
 rw[w2c _ _ _ _ hq,qg5 (l.set i (nI l i+1)) q (by rw[List.length_set]; exact hq),List.getElem_set,wf9 _ _ _ hi hq]
 by_cases e:i=q
 ·subst e
  rw[if_pos (by omega),if_neg (Nat.lt_irrefl _),if_pos rfl]; simp
 ·rw[if_neg e,<- qg5 l q hq]
  by_cases h:q<i
  ·rw[if_pos (by omega),if_pos h]
  ·rw[if_neg (by omega)]
theorem xl3 (l:List Int) (i j:Nat) (hi:i<j) (hj:j<l.length):(mkC l i j).set j (nI (mkC l i j) (j-1)+1)=mkC l i (j+1):=by
 have e:nI (mkC l i j) (j-1)+1=nI (xe9 l i) j:=by
  rw[w2c _ _ _ _ (by omega),if_pos (by omega),wf9 _ _ _ (by omega) (by omega),wf9 _ _ _ (by omega) hj,if_neg (by omega)]
  split <;> omega
 rw[e]
 exact q1p (.int .i64) _ _ _
theorem x0n (l:List Int) (i:Nat) (hi:i<l.length):mkC l i l.length=xe9 l i:=by
 apply w85 (by rw[q7g,w2b l i hi])
 intro q hq
 rw[q7g] at hq
 rw[w2c _ _ _ _ hq,if_pos hq]
structure w87 (n k:Int) (c:Nat) (l:List Int):Prop where
 len:l.length=k.toNat
 at_:k<=n->(qf0 n k)[c]? = some l
 cnt:n<k->c=0
structure xl4 (n k:Int) (l:List Int) (i:Int):Prop where
 lo:-1<=i
 hi:i<k
 last:∀q:Nat,i<q->q<l.length->nI l q=n-k+q
structure x0o (l:List Int) (i j:Nat) (r:List Int):Prop where
 lo:i<j
 hi:j<=l.length
 eq:r=mkC l i j
abbrev x4c:qw4:=wx7 [qc8,qc8] [qe9] (λx=>(0<=x.1/\x.1<=1000)/\0<=x.2.1/\x.2.1<=1000) (λx=>(qf0 x.2.1 x.1).map λl=>(l,())) (some 3)
def x4d (n k:Int):Nat->Option Inv
 | 0=>some (Inv.of [4] 2 (λ_:Nat × List Int=>[(4,.own 1)]) (λs=>[.cnt (some s.1),.vec 3 (.int .i64) s.2]) (λs=>w87 n k s.1 s.2) (λs=>(qf0 n k).length+1-s.1))
 | 1=>some (Eng.Inv.mk (Nat × List Int) Int [4,5] 2 (λ_ i=>[(4,.own 1),(5,.lit (.int .i64 i))]) (λq i=>[.cnt (some q.1),.vec 3 (.int .i64) q.2]) (λq i=>xl4 n k q.2 i) (λq i=>(i+1).toNat))
 | 2=>some (Eng.Inv.mk (Nat × List Int × Nat) (Nat × List Int) [4,6] 16 (λ_ s=>[(4,.own 1),(6,.lit (.int .i64 s.1))]) (λq s=>[.cnt (some q.1),.vec 3 (.int .i64) s.2,.dead,.dead,.dead,.dead,.dead,.dead,.dead,.dead,.dead,.dead,.dead,.dead,.dead,.dead]) (λq s=>x0o q.2.1 q.2.2 s.1 s.2) (λq s=>q.2.1.length-s.1))
 | _=>none
theorem xl5 (k:Nat):w83 0 k=ql7 k:=by
 apply w85 (by rw[q56,qd8])
 intro i hi
 rw[q56] at hi
 rw[w84 _ _ _ hi,qv5 _ _ hi]; omega
theorem w88 {n k:Int} (hkn:k<=n) (hk:0<=k) {c:Nat} {l:List Int} (h:(qf0 n k)[c]? = some l):q4q n l=(qf0 n k)[c+1]?:=by
 unfold qf0 at h ⊢
 rw[if_pos hkn] at h ⊢
 exact w5d (by omega) h
theorem x0p {n k:Int} {l:List Int} (h:l∈qf0 n k):InC n.toNat k.toNat 0 l:=by
 unfold qf0 at h
 split at h
 ·exact w2a h
 ·cases h
theorem q9y:qu0 Tryz.prog 176 x4c:=by
 refine says (snd (SpecsOk.cons q3p (SpecsOk.nil _))) Tryz.func176 rfl rfl rfl [12] (λx=>x4d x.2.1 x.1) (λ_=>by kernel_rfl) (by decide) ?_
 rintro⟨k,n,⟨⟩⟩ l h
 revert k n
 intro(k:Int) (n:Int) (h:(0<=k/\k<=1000)/\0<=n/\n<=1000)
 refine @qd1 _ (let Q0:=qf0 n k; let Q1:=(k,n,PUnit.unit); k<=(100000:Ty.den qc8)/\∃(v0:Unit),∃(v1:Nat × List Int),w87 n k v1.1 v1.2/\((True/\True)/\some (0:Nat)=some v1.1/\ql7 k.toNat=v1.2/\True)/\∀(v2:Nat × List Int),w87 n k v2.1 v2.2->(decide (k<=n)=true->Value.func (Fn.yield l) #[] #[]=Value.func (Fn.yield (qh2.l (q0d [qc8,qc8] [qe9] [(12:Nat)] Q1 (List.map (λ(v5:List Int)=>(v5,())) Q0) l (some (3:Nat))))) #[] #[]/\(qh2.L (q0d [qc8,qc8] [qe9] [(12:Nat)] Q1 (List.map (λ(v5:List Int)=>(v5,())) Q0) l (some (3:Nat))))[v2.1]?=some (v2.2,())/\(fits .i64 (k-(1:Int))/\∃(v5:Nat × List Int),∃(v6:Int),xl4 n k v5.2 v6/\((True/\k-(1:Int)=v6/\True)/\some (v2.1+(1:Nat))=some v5.1/\v2.2=v5.2/\True)/\∀(v7:Int),xl4 n k v5.2 v7->(decide ((0:Int)<=v7)=true->((0:Int)<=v7/\v7<(↑v5.2.length:Int))/\v7.toNat<v5.2.length/\fits .i64 (n-k)/\fits .i64 (n-k+v7)/\((nI v5.2 v7.toNat==n-k+v7)=true->fits .i64 (v7-(1:Int))/\∃(v11:Int),xl4 n k v5.2 v11/\(v11+(1:Int)).toNat<(v7+(1:Int)).toNat/\(True/\v7-(1:Int)=v11/\True)/\some v5.1=some v5.1/\v5.2=v5.2/\True)/\((nI v5.2 v7.toNat==n-k+v7)=false->(decide (v7<(0:Int))=true->v5.1=(qh2.L (q0d [qc8,qc8] [qe9] [(12:Nat)] Q1 (List.map (λ(v12:List Int)=>(v12,())) Q0) l (some (3:Nat)))).length)/\(decide (v7<(0:Int))=false->((0:Int)<=v7/\v7<(↑v5.2.length:Int))/\v7.toNat<v5.2.length/\fits .i64 (nI v5.2 v7.toNat+(1:Int))/\((0:Int)<=v7/\v7<(↑v5.2.length:Int))/\v7.toNat<v5.2.length/\fits .i64 (v7+(1:Int))/\∃(v12:Nat × List Int × Nat),∃(v13:Nat × List Int),x0o v12.2.1 v12.2.2 v13.1 v13.2/\((True/\v7+(1:Int)=(↑v13.1:Int)/\True)/\some v5.1=some v12.1/\List.set v5.2 v7.toNat (nI v5.2 v7.toNat+(1:Int))=v13.2/\True/\True/\True/\True/\True/\True/\True/\True/\True/\True/\True/\True/\True/\True/\True)/\∀(v14:Nat × List Int),x0o v12.2.1 v12.2.2 v14.1 v14.2->(decide ((↑v14.1:Int)<k)=true->fits .i64 ((↑v14.1:Int)-(1:Int))/\((0:Int)<=(↑v14.1:Int)-(1:Int)/\(↑v14.1:Int)-(1:Int)<(↑v14.2.length:Int))/\((↑v14.1:Int)-(1:Int)).toNat<v14.2.length/\fits .i64 (nI v14.2 ((↑v14.1:Int)-(1:Int)).toNat+(1:Int))/\((0:Int)<=(↑v14.1:Int)/\(↑v14.1:Int)<(↑v14.2.length:Int))/\(↑v14.1:Int).toNat<v14.2.length/\fits .i64 ((↑v14.1:Int)+(1:Int))/\∃(v17:Nat × List Int),x0o v12.2.1 v12.2.2 v17.1 v17.2/\v12.2.1.length-v17.1<v12.2.1.length-v14.1/\(True/\(↑v14.1:Int)+(1:Int)=(↑v17.1:Int)/\True)/\some v12.1=some v12.1/\List.set v14.2 (↑v14.1:Int).toNat (nI v14.2 ((↑v14.1:Int)-(1:Int)).toNat+(1:Int))=v17.2/\True/\True/\True/\True/\True/\True/\True/\True/\True/\True/\True/\True/\True/\True/\True)/\(decide ((↑v14.1:Int)<k)=false->∃(v17:Nat × List Int),w87 n k v17.1 v17.2/\Q0.length+(1:Nat)-v17.1<Q0.length+(1:Nat)-v2.1/\(True/\True)/\some v12.1=some v17.1/\v14.2=v17.2/\True))))/\(decide ((0:Int)<=v7)=false->(decide (v7<(0:Int))=true->v5.1=(qh2.L (q0d [qc8,qc8] [qe9] [(12:Nat)] Q1 (List.map (λ(v11:List Int)=>(v11,())) Q0) l (some (3:Nat)))).length)/\(decide (v7<(0:Int))=false->((0:Int)<=v7/\v7<(↑v5.2.length:Int))/\v7.toNat<v5.2.length/\fits .i64 (nI v5.2 v7.toNat+(1:Int))/\((0:Int)<=v7/\v7<(↑v5.2.length:Int))/\v7.toNat<v5.2.length/\fits .i64 (v7+(1:Int))/\∃(v11:Nat × List Int × Nat),∃(v12:Nat × List Int),x0o v11.2.1 v11.2.2 v12.1 v12.2/\((True/\v7+(1:Int)=(↑v12.1:Int)/\True)/\some v5.1=some v11.1/\List.set v5.2 v7.toNat (nI v5.2 v7.toNat+(1:Int))=v12.2/\True/\True/\True/\True/\True/\True/\True/\True/\True/\True/\True/\True/\True/\True/\True)/\∀(v13:Nat × List Int),x0o v11.2.1 v11.2.2 v13.1 v13.2->(decide ((↑v13.1:Int)<k)=true->fits .i64 ((↑v13.1:Int)-(1:Int))/\((0:Int)<=(↑v13.1:Int)-(1:Int)/\(↑v13.1:Int)-(1:Int)<(↑v13.2.length:Int))/\((↑v13.1:Int)-(1:Int)).toNat<v13.2.length/\fits .i64 (nI v13.2 ((↑v13.1:Int)-(1:Int)).toNat+(1:Int))/\((0:Int)<=(↑v13.1:Int)/\(↑v13.1:Int)<(↑v13.2.length:Int))/\(↑v13.1:Int).toNat<v13.2.length/\fits .i64 ((↑v13.1:Int)+(1:Int))/\∃(v16:Nat × List Int),x0o v11.2.1 v11.2.2 v16.1 v16.2/\v11.2.1.length-v16.1<v11.2.1.length-v13.1/\(True/\(↑v13.1:Int)+(1:Int)=(↑v16.1:Int)/\True)/\some v11.1=some v11.1/\List.set v13.2 (↑v13.1:Int).toNat (nI v13.2 ((↑v13.1:Int)-(1:Int)).toNat+(1:Int))=v16.2/\True/\True/\True/\True/\True/\True/\True/\True/\True/\True/\True/\True/\True/\True/\True)/\(decide ((↑v13.1:Int)<k)=false->∃(v16:Nat × List Int),w87 n k v16.1 v16.2/\Q0.length+(1:Nat)-v16.1<Q0.length+(1:Nat)-v2.1/\(True/\True)/\some v11.1=some v16.1/\v13.2=v16.2/\True))))/\True)/\(decide (k<=n)=false->v2.1=(qh2.L (q0d [qc8,qc8] [qe9] [(12:Nat)] Q1 (List.map (λ(v5:List Int)=>(v5,())) Q0) l (some (3:Nat)))).length)) (by kernel_rfl) ?_
 try simp only[z0,z1,z2,z3,z4,z5,z6,z7,z8,z9,z10,Int.reduceEq,z11,z12,z13,z14,z15,z16,z17,z18,z19,z20,z21,z22,z23,z24,z25,z26,z27,z28,z29,z30,Int.reduceLE,Int.reduceLT,z31,z32,z33,z34,qa1]
 try simp only[qa7,qa8,qb8,z31,z32,z2,z1]
 obtain⟨⟨hk0,hk1⟩,hn0,hn1⟩:=h
 refine⟨by omega,(),(0,ql7 k.toNat),⟨qd8 _,λhkn=>?_,λ_=>rfl⟩,⟨rfl,rfl⟩,?_⟩
 ·unfold qf0
  rw[if_pos hkn,q9w (by omega),xl5]
 rintro⟨c,s⟩ ⟨hl,ha,hz⟩
 dsimp only at hl ha hz ⊢
 refine⟨λhkn=>?_,λhkn=>?_⟩
 ·have hat:=ha hkn
  have hc:=(List.getElem?_eq_some_iff.1 hat).1
  have hin:=x0p (List.mem_of_getElem? hat)
  have hnx:=w88 hkn hk0 hat
  have hmap:((qf0 n k).map λv=>((v,()):qa4 [qe9])).length=(qf0 n k).length:=List.length_map _
  refine⟨rfl,?_,qb5 (by omega) (by omega),(c+1,s),k-1,⟨by omega,by omega,λq h1 h2=>by dsimp only at h2; omega⟩,⟨rfl,rfl,rfl⟩,?_⟩
  ·show((qf0 n k).map λv=>((v,()):qa4 [qe9]))[c]? = some (s,())
   rw[List.getElem?_map,hat]; rfl
  rintro i ⟨lo,hi,last⟩
  dsimp only at lo hi last ⊢
  have fin:i<0->c+1=((qf0 n k).map λv=>((v,()):qa4 [qe9])).length:=λhneg=>by
   have hn:q4q n s=none:=q4r λq hq=>by rw[last q (by omega) hq]; omega
   rw[hn] at hnx
   have:=List.getElem?_eq_none_iff.1 hnx.symm
   omega
  refine⟨λhi0=>?_,λhi0=>⟨fin,λh=>by omega⟩⟩
  have hb1:=hin.lo i.toNat (by omega)
  have hb2:=hin.hi i.toNat (by omega)
  refine⟨by omega,by omega,qb5 (by omega) (by omega),qb5 (by omega) (by omega),λheq=>⟨qb5 (by omega) (by omega),i-1,⟨by omega,by omega,λq h1 h2=>?_⟩,by omega,rfl⟩,λhne=>⟨fin,λ_=>?_⟩⟩
  ·by_cases e:(q:Int)=i
   ·have:i.toNat=q:=by omega
    rw[this] at heq; rw[heq]; omega
   ·exact last q (by omega) h2
  have hil:i.toNat<s.length:=by omega
  refine⟨by omega,hil,qb5 (by omega) (by omega),by omega,hil,qb5 (by omega) (by omega),(c+1,s,i.toNat),(i.toNat+1,s.set i.toNat (nI s i.toNat+1)),⟨Nat.lt_succ_self _,hil,(w86 s i.toNat hil).symm⟩,⟨by dsimp only; omega,rfl,rfl⟩,?_⟩
  rintro⟨j,r⟩ ⟨h1,h2,h3⟩
  dsimp only at h1 h2 h3 ⊢
  have hrl:r.length=s.length:=by rw[h3,q7g]
  refine⟨λhj=>?_,λhj=>?_⟩
  ·have e:((j:Int)-1).toNat=j-1:=by omega
   rw[e]
   have hv:nI r (j-1)=nI s i.toNat+1+(j-1-i.toNat:Nat):=by
    rw[h3,w2c _ _ _ _ (by omega),if_pos (by omega),wf9 _ _ _ hil (by omega),if_neg (by omega)]
   refine⟨qb5 (by omega) (by omega),by omega,by omega,qb5 (by omega) (by omega),by omega,by omega,qb5 (by omega) (by omega),(j+1,r.set j (nI r (j-1)+1)),⟨by dsimp only; omega,by dsimp only; omega,?_⟩,by dsimp only; omega,by dsimp only; omega,rfl⟩
   dsimp only
   rw[h3]
   exact xl3 s i.toNat j h1 (by omega)
  ·have hjl:j=s.length:=by omega
   have hr:r=xe9 s i.toNat:=by rw[h3,hjl,x0n s i.toNat hil]
   have hlt2:nI s i.toNat<n-s.length+i.toNat:=by
    have h5:nI s i.toNat<n-k+i:=Int.lt_iff_le_and_ne.2 ⟨by omega,hne⟩
    omega
   have hst:q4q n s=some (xe9 s i.toNat):=q9x hil (λq h1 h2=>by rw[last q (by omega) h2]; omega) hlt2
   refine⟨(c+1,r),⟨hrl.trans hl,λ_=>?_,λh=>absurd (Int.lt_of_lt_of_le h hkn) (Int.lt_irrefl _)⟩,Nat.sub_lt_sub_left (Nat.lt_succ_of_lt hc) (Nat.lt_succ_self c),rfl,rfl⟩
   dsimp only
   rw[<- hnx,hst,hr]
 ·show c=((qf0 n k).map λv=>((v,()):qa4 [qe9])).length
  rw[List.length_map,hz hkn]
  unfold qf0
  rw[if_neg (by omega)]
  rfl
abbrev x76:qb7:=we6 false none [qc8,qc8] (λ_=>True) (λx=>.clo 176 (.cons (.imm (.cons (.lit (.int .i64 x.2.1)) .nil) 0) (.cons (.imm (.cons (.lit (.int .i64 x.1)) .nil) 0) .nil)))
theorem q9z:Meets Tryz.prog 117 x76:=by
 refine q3k (snd (SpecsOk.nil _)) Tryz.func117 rfl rfl (λ_ _=>none) (λ_=>by kernel_rfl) (by decide) ?_
 rintro⟨n,k,⟨⟩⟩ -
 revert n k
 intro(n:Int) (k:Int)
 refine @qd1 _ (((k=k/\True)/\(0:Nat)=(0:Nat))/\((n=n/\True)/\(0:Nat)=(0:Nat))/\True) (by kernel_rfl) ?_
 try simp only[z0,z1,z2,z3,z4,z5,z6,z7,z8,z9,z10,Int.reduceEq,z11,z12,z13,z14,z15,z16,z17,z18,z19,z20,z21,z22,z23,z24,z25,z26,z27,z28,z29,z30,Int.reduceLE,Int.reduceLT,z31,z32,z33,z34,qa1]
 try simp only[qa7,qa8,qb8,z31,z32,z2,z1]
def x77 (l:List Int) (x:Int):Nat->Option Inv:=x5y (.int .i64) l λe=>x==e
abbrev yj8:qb7:=qf1 true none [qe9,qc8] [qc8] (λx=>x.1.length<=1000000) (λx=>(ixT (.int .i64) (λe=>x.2.1==e) x.1,()))
theorem w89:Meets Tryz.prog 128 yj8:=by
 refine meets (snd (SpecsOk.nil _)) Tryz.func128 rfl rfl (λx=>x77 x.1 x.2.1) (λ_=>by kernel_rfl) (by decide) ?_
 rintro⟨l,x,⟨⟩⟩ h
 revert l x
 intro(l:List Int) (x:Int) (h:l.length<=1000000)
 refine @qd1 _ (∃(v0:Unit),∃(v1:Nat),(v1<=l.length/\∀(v2:Nat),Nat.le (Nat.succ v2) v1->(x==nI l v2)=false)/\(((0:Int)=(↑v1:Int)/\True)/\True)/\∀(v2:Nat),(v2<=l.length/\∀(v4:Nat),Nat.le (Nat.succ v4) v2->(x==nI l v4)=false)->(decide ((↑v2:Int)<(↑l.length:Int))=true->((0:Int)<=(↑v2:Int)/\(↑v2:Int)<(↑l.length:Int))/\((x==nI l v2)=true->(↑v2:Int)=ixT (Ty.int .i64) (λ(v6:Int)=>x==v6) l)/\((x==nI l v2)=false->fits .i64 ((↑v2:Int)+(1:Int))/\∃(v6:Nat),(v6<=l.length/\∀(v7:Nat),Nat.le (Nat.succ v7) v6->(x==nI l v7)=false)/\l.length-v6<l.length-v2/\((↑v2:Int)+(1:Int)=(↑v6:Int)/\True)/\True))/\(decide ((↑v2:Int)<(↑l.length:Int))=false->(-1:Int)=ixT (Ty.int .i64) (λ(v5:Int)=>x==v5) l)) (by kernel_rfl) ?_
 try simp only[z0,z1,z2,z3,z4,z5,z6,z7,z8,z9,z10,Int.reduceEq,z11,z12,z13,z14,z15,z16,z17,z18,z19,z20,z21,z22,z23,z24,z25,z26,z27,z28,z29,z30,Int.reduceLE,Int.reduceLT,z31,z32,z33,z34,qa1]
 try simp only[qa7,qa8,qb8,z31,z32,z2,z1]
 refine⟨(),0,⟨Nat.zero_le _,λi hi=>absurd hi (by omega)⟩,rfl,λk ⟨hk,hall⟩=>?_⟩
 refine⟨λhlt=>⟨hlt,λhf=>(q9q (.int .i64) (λe=>x==e) l k hlt (λi hi=>beq_false_of_ne λe=>hall i hi e) (beq_iff_eq.2 hf)).symm,λhf=>⟨qb5 (by omega) (by omega),k+1,⟨by omega,λi hi=>?_⟩,by omega,by omega⟩⟩,λhge=>(q1r (.int .i64) (λe=>x==e) l λi hi=>beq_false_of_ne λe=>hall i (by omega) e).symm⟩
 by_cases e:i=k
 ·subst e; exact hf
 ·exact hall i (by omega)
abbrev yj9:qb7:=qf1 true none [qe9,qc8] [.bool] (λx=>x.1.length<=1000000) (λx=>(x.1.any λe=>x.2.1==e,()))
theorem wp2:Meets Tryz.prog 119 yj9:=by
 refine meets (snd (SpecsOk.cons w89 (SpecsOk.nil _))) Tryz.func119 rfl rfl (λ_ _=>none) (λ_=>by kernel_rfl) (by decide) ?_
 rintro⟨l,x,⟨⟩⟩ h
 revert l x
 intro(l:List Int) (x:Int) (h:l.length<=1000000)
 refine @qd1 _ (l.length<=(1000000:Nat)/\decide ((0:Int)<=ixT (Ty.int .i64) (λ(v0:Int)=>x==v0) l)=List.any l λ(v0:Int)=>x==v0) (by kernel_rfl) ?_
 try simp only[z0,z1,z2,z3,z4,z5,z6,z7,z8,z9,z10,Int.reduceEq,z11,z12,z13,z14,z15,z16,z17,z18,z19,z20,z21,z22,z23,z24,z25,z26,z27,z28,z29,z30,Int.reduceLE,Int.reduceLT,z31,z32,z33,z34,qa1]
 try simp only[qa7,qa8,qb8,z31,z32,z2,z1]
 exact⟨h,q1s (.int .i64) _ l⟩
abbrev x4e:qb7:=qf1 true none [qc8] [.bool] (λ_=>True) (λx=>(x.1 != 0,()))
theorem w5e:Meets Tryz.prog 179 x4e:=by
 refine meets (snd (SpecsOk.nil _)) Tryz.func179 rfl rfl (λ_ _=>none) (λ_=>by kernel_rfl) (by decide) ?_
 rintro⟨n,⟨⟩⟩ -
 revert n
 intro(n:Int)
 refine @qd1 _ ((n != (0:Int))=(n != (0:Ty.den qc8))) (by kernel_rfl) ?_
 try simp only[z0,z1,z2,z3,z4,z5,z6,z7,z8,z9,z10,Int.reduceEq,z11,z12,z13,z14,z15,z16,z17,z18,z19,z20,z21,z22,z23,z24,z25,z26,z27,z28,z29,z30,Int.reduceLE,Int.reduceLT,z31,z32,z33,z34,qa1]
 try simp only[qa7,qa8,qb8,z31,z32,z2,z1]
def qv7 (l:List Int):Int:=ixT (.int .i64) (λe=>e != 0) l
def q7h (l:List Int):List Int:=if 0<=qv7 (qe4 l)/\nI (qe4 l) (qv7 (qe4 l)).toNat<0 then xk8 (qe4 l) else qe4 l
abbrev x78:qm0:=q5q (q02 []) false true 0 3 (.int .i64) (λrows _=>wj3 (nL rows 0)) (λ_ _=>.tup .nil) (λrows _=>[q7h (nL rows 0)])
structure xl6 (l:List Int) (i:Nat) (r:List Int):Prop where
 le:i<=l.length
 eq:r=ovr (.int .i64) (λq=>0-nI l q) l i
def x4f (T:q5k) (l:List Int):Nat->Option Inv
 | 0=>some (Inv.of [0,20] 1 (λs:Nat × List Int=>[(0,.msl 0 (some 0)),(20,.lit (.int .i64 s.1))]) (λs=>[.mat 0 3 (.int .i64) [s.2] (some []) (some T)]) (λs=>xl6 (qe4 l) s.1 s.2) (λs=>(qe4 l).length-s.1))
 | _=>none
theorem q90 {l:List Int} (h:wj3 l):wj3 (qe4 l):=by
 unfold qe4
 split
 ·refine⟨by simpa using h.1,λx hx=>?_⟩
  obtain⟨y,hy,rfl⟩:=List.mem_map.1 hx
  exact qs1 (h.2 y hy)
 ·exact h
theorem w5f:qo0 Tryz.prog 120 x78:=by
 refine q04 (x3u (SpecsOk.cons (wo4 (fs:=[(179,x4e)]) (SpecsOk.cons w5e (SpecsOk.nil _))) (SpecsOk.nil _)) (MutsOk.cons q2t MutsOk.nil)) Tryz.func120 rfl rfl (qm4 []) (λT rows _=>x4f T (nL rows 0)) (λ_ _ _=>by kernel_rfl) (by decide) ?_ rfl
 rintro T rows ⟨⟩ h hone
 obtain⟨l,rfl⟩:∃l:List Int,rows=[l]:=by
  have h1:=hone rfl
  match rows,h1 with
  | [l],_=>exact⟨l,rfl⟩
 have h:wj3 l:=h
 refine @qd1 _ (wj3 (nL [nL [l] (0:Nat)] (0:Nat))/\∃(v0:qa4 [Ty.int .i64]->Prop),∃(v1:qa4 [Ty.int .i64]->Bool),(∀(v2:Int × qa4._f [] PUnit.unit),v0 v2->True/\(v2.1 != (0:Ty.den qc8))=v1 v2)/\((nL (List.set [l] (0:Nat) (nL [qe4 (nL [nL [l] (0:Nat)] (0:Nat))] (0:Nat))) (0:Nat)).length<=(1000000:Nat)/\∀(v2:Nat),v2<(nL (List.set [l] (0:Nat) (nL [qe4 (nL [nL [l] (0:Nat)] (0:Nat))] (0:Nat))) (0:Nat)).length->v0 (nI (nL (List.set [l] (0:Nat) (nL [qe4 (nL [nL [l] (0:Nat)] (0:Nat))] (0:Nat))) (0:Nat)) v2,()))/\(decide ((0:Int)<=ixT (Ty.int .i64) (λ(v3:Int)=>v1 (v3,())) (nL (List.set [l] (0:Nat) (nL [qe4 (nL [nL [l] (0:Nat)] (0:Nat))] (0:Nat))) (0:Nat)))=true->((0:Int)<=ixT (Ty.int .i64) (λ(v3:Int)=>v1 (v3,())) (nL (List.set [l] (0:Nat) (nL [qe4 (nL [nL [l] (0:Nat)] (0:Nat))] (0:Nat))) (0:Nat))/\ixT (Ty.int .i64) (λ(v3:Int)=>v1 (v3,())) (nL (List.set [l] (0:Nat) (nL [qe4 (nL [nL [l] (0:Nat)] (0:Nat))] (0:Nat))) (0:Nat))<(↑(nL (List.set [l] (0:Nat) (nL [qe4 (nL [nL [l] (0:Nat)] (0:Nat))] (0:Nat))) (0:Nat)).length:Int))/\(ixT (Ty.int .i64) (λ(v3:Int)=>v1 (v3,())) (nL (List.set [l] (0:Nat) (nL [qe4 (nL [nL [l] (0:Nat)] (0:Nat))] (0:Nat))) (0:Nat))).toNat<(nL (List.set [l] (0:Nat) (nL [qe4 (nL [nL [l] (0:Nat)] (0:Nat))] (0:Nat))) (0:Nat)).length/\(decide (nI (nL (List.set [l] (0:Nat) (nL [qe4 (nL [nL [l] (0:Nat)] (0:Nat))] (0:Nat))) (0:Nat)) (ixT (Ty.int .i64) (λ(v4:Int)=>v1 (v4,())) (nL (List.set [l] (0:Nat) (nL [qe4 (nL [nL [l] (0:Nat)] (0:Nat))] (0:Nat))) (0:Nat))).toNat<(0:Int))=true->∃(v4:Unit),∃(v5:Nat × List Int),xl6 (qe4 (nL [l] (0:Nat))) v5.1 v5.2/\((some (0:Nat)=some (0:Nat)/\(0:Int)=(↑v5.1:Int)/\True)/\(List.set [l] (0:Nat) (nL [qe4 (nL [nL [l] (0:Nat)] (0:Nat))] (0:Nat))=[v5.2]/\True/\T=T)/\True)/\∀(v6:Nat × List Int),xl6 (qe4 (nL [l] (0:Nat))) v6.1 v6.2->(decide ((↑v6.1:Int)<(↑(nL (List.set [l] (0:Nat) (nL [qe4 (nL [nL [l] (0:Nat)] (0:Nat))] (0:Nat))) (0:Nat)).length:Int))=true->((0:Int)<=(↑v6.1:Int)/\(↑v6.1:Int)<(↑(nL [v6.2] (0:Nat)).length:Int))/\(↑v6.1:Int).toNat<(nL [v6.2] (0:Nat)).length/\fits .i64 ((0:Int)-nI (nL [v6.2] (0:Nat)) (↑v6.1:Int).toNat)/\((0:Int)<=(↑v6.1:Int)/\(↑v6.1:Int)<(↑(nL [v6.2] (0:Nat)).length:Int))/\(↑v6.1:Int).toNat<(nL [v6.2] (0:Nat)).length/\fits .i64 ((↑v6.1:Int)+(1:Int))/\∃(v9:Nat × List Int),xl6 (qe4 (nL [l] (0:Nat))) v9.1 v9.2/\(qe4 (nL [l] (0:Nat))).length-v9.1<(qe4 (nL [l] (0:Nat))).length-v6.1/\(some (0:Nat)=some (0:Nat)/\(↑v6.1:Int)+(1:Int)=(↑v9.1:Int)/\True)/\(List.set [v6.2] (0:Nat) (List.set (nL [v6.2] (0:Nat)) (↑v6.1:Int).toNat ((0:Int)-nI (nL [v6.2] (0:Nat)) (↑v6.1:Int).toNat))=[v9.2]/\True/\T=T)/\True)/\(decide ((↑v6.1:Int)<(↑(nL (List.set [l] (0:Nat) (nL [qe4 (nL [nL [l] (0:Nat)] (0:Nat))] (0:Nat))) (0:Nat)).length:Int))=false->[v6.2]=[q7h (nL [l] (0:Nat))]/\T=T/\True/\(0:Nat)=(0:Nat)))/\(decide (nI (nL (List.set [l] (0:Nat) (nL [qe4 (nL [nL [l] (0:Nat)] (0:Nat))] (0:Nat))) (0:Nat)) (ixT (Ty.int .i64) (λ(v4:Int)=>v1 (v4,())) (nL (List.set [l] (0:Nat) (nL [qe4 (nL [nL [l] (0:Nat)] (0:Nat))] (0:Nat))) (0:Nat))).toNat<(0:Int))=false->List.set [l] (0:Nat) (nL [qe4 (nL [nL [l] (0:Nat)] (0:Nat))] (0:Nat))=[q7h (nL [l] (0:Nat))]/\T=T/\True/\(0:Nat)=(0:Nat)))/\(decide ((0:Int)<=ixT (Ty.int .i64) (λ(v3:Int)=>v1 (v3,())) (nL (List.set [l] (0:Nat) (nL [qe4 (nL [nL [l] (0:Nat)] (0:Nat))] (0:Nat))) (0:Nat)))=false->List.set [l] (0:Nat) (nL [qe4 (nL [nL [l] (0:Nat)] (0:Nat))] (0:Nat))=[q7h (nL [l] (0:Nat))]/\T=T/\True/\(0:Nat)=(0:Nat))) (by kernel_rfl) ?_
 try simp only[z0,z1,z2,z3,z4,z5,z6,z7,z8,z9,z10,Int.reduceEq,z11,z12,z13,z14,z15,z16,z17,z18,z19,z20,z21,z22,z23,z24,z25,z26,z27,z28,z29,z30,Int.reduceLE,Int.reduceLT,z31,z32,z33,z34,qa1]
 try simp only[qa7,qa8,qb8,z31,z32,z2,z1]
 have hs:=q90 h
 have hl:=hs.1
 refine⟨h,λ_=>True,λx=>x.1 != 0,λ_ _=>rfl,⟨by omega,λ_ _=>trivial⟩,λh1=>?_,λh1=>?_⟩
 ·have h1:0<=qv7 (qe4 l):=by first | exact of_decide_eq_true h1 | exact h1
  have h2:qv7 (qe4 l)<(qe4 l).length:=(w8o (.int .i64) _ _).1
  refine⟨⟨h1,h2⟩,by show(qv7 (qe4 l)).toNat<_; omega,λh3=>?_,λh3=>?_⟩
  ·have h3:nI (qe4 l) (qv7 (qe4 l)).toNat<0:=by first | exact of_decide_eq_true h3 | exact h3
   have hp:q7h l=xk8 (qe4 l):=by unfold q7h; rw[if_pos ⟨h1,h3⟩]
   refine⟨(),(0,qe4 l),⟨Nat.zero_le _,(q3n (.int .i64) _ _).symm⟩,⟨rfl,rfl⟩,?_⟩
   rintro⟨i,r⟩ ⟨k1,k2⟩
   dsimp only at k1 k2 ⊢
   have hrl:r.length=(qe4 l).length:=by rw[k2]; exact qv4 (.int .i64) _ _ _
   refine⟨λhlt=>?_,λhge=>?_⟩
   ·have hv:nI r i=nI (qe4 l) i:=by
     rw[k2]
     exact(q9p (.int .i64) _ _ _ _ hlt).trans (if_neg (Nat.lt_irrefl _))
    have hb:=q7b hs hlt
    unfold qf8 BIG at hb
    rw[hv]
    refine⟨by omega,by omega,qb5 (by omega) (by omega),by omega,by omega,qb5 (by omega) (by omega),(i+1,r.set i (0-nI (qe4 l) i)),⟨by dsimp only; omega,?_⟩,by dsimp only; omega,by dsimp only; omega,rfl⟩
    dsimp only
    rw[k2]
    exact q1p (.int .i64) (λq=>0-nI (qe4 l) q) (qe4 l) i
   ·rw[hp,k2]
    exact q69 (.int .i64) _ _ _ (by omega)
  ·have h3:¬nI (qe4 l) (qv7 (qe4 l)).toNat<0:=by first | exact of_decide_eq_false h3 | exact h3 | exact Int.not_lt.2 h3
   unfold q7h; rw[if_neg λq=>h3 q.2]
 ·have h1:¬0<=qv7 (qe4 l):=by first | exact of_decide_eq_false h1 | exact h1 | exact Int.not_le.2 h1
  unfold q7h; rw[if_neg λq=>h1 q.1]
def q5r (r:List (List Int)) (piv:List Int) (f k:Nat):Int:=(nI (nL r k) (nI piv k).toNat).tdiv (gcdI (nI (nL r k) (nI piv k).toNat) (nI (nL r k) f))
def qf3 (r:List (List Int)) (piv:List Int) (f:Nat):Nat->Int
 | 0=>1
 | k+1=>qf3 r piv f k*(q5r r piv f k).tdiv (gcdI (qf3 r piv f k) (q5r r piv f k))
def hTo (r:List (List Int)) (piv:List Int) (n f:Nat):Nat->List Int
 | 0=>(List.replicate n 0).set f (qf3 r piv f piv.length)
 | k+1=>(hTo r piv n f k).set (nI piv k).toNat (((0-nI (nL r k) f)*qf3 r piv f piv.length).tdiv (nI (nL r k) (nI piv k).toNat))
def qo6 (r:List (List Int)) (piv:List Int) (n:Nat):Nat->List (List Int)
 | 0=>[]
 | f+1=>if piv.any λe=>(f:Int)==e then qo6 r piv n f else qo6 r piv n f++[qe4 (hTo r piv n f piv.length)]
def qk8 (m:List (List Int)) (pix:List Int):List (List Int):=qb4 m pix λ_=>[]
def qi5 (m:List (List Int)) (pix:List Int):List (List Int) × List Int:=qc7 (qk8 m pix) pix.length
def ql3 (m:List (List Int)) (pix:List Int):List (List Int):=qo6 (qi5 m pix).1 (qi5 m pix).2 pix.length pix.length
structure xl7 (r:List (List Int)) (piv:List Int) (n:Nat):Prop where
 nz:∀k,k<piv.length->nI (nL r k) (nI piv k).toNat≠0
 big:∀k,k<piv.length->∀i,i<n->qf8 BIG (nI (nL r k) i)
 tm:∀f,f<n->(piv.any λe=>(f:Int)==e)=false->∀k,k<=piv.length->qf8 BIG (qf3 r piv f k)/\qf3 r piv f k≠0
 pr:∀f,f<n->(piv.any λe=>(f:Int)==e)=false->∀k,k<piv.length->qf8 BIG ((0-nI (nL r k) f)*qf3 r piv f piv.length)
structure w5g (m:List (List Int)) (pix:List Int):Prop where
 cho:ChoOk m pix (λ_=>True) (λ_=>[])
 red:q2u (qk8 m pix) pix.length pix.length
 ar:xl7 (qi5 m pix).1 (qi5 m pix).2 pix.length
theorem q3v (R:List (List Int)):∀j,∀e∈(qc7 R j).2,0<=e/\e<(j:Int)
 | 0=>λe h=>by cases h
 | j+1=>λe h=>by
  rw[qc7,qv6] at h
  split at h
  ·have:=q3v R j e h; omega
  ·rcases List.mem_append.1 h with h | h
   ·have:=q3v R j e h; omega
   ·have:e=(j:Int):=by simpa using h
    omega
theorem q7i (r:List (List Int)) (piv:List Int) (n f:Nat):∀k,(hTo r piv n f k).length=n
 | 0=>by simp[hTo]
 | k+1=>by rw[hTo,List.length_set]; exact q7i r piv n f k
theorem wp3 (r:List (List Int)) (piv:List Int) (n:Nat):∀f,(qo6 r piv n f).length<=f
 | 0=>Nat.le_refl _
 | f+1=>by
  have:=wp3 r piv n f
  rw[qo6]
  split
  ·omega
  ·simp; omega
theorem wy4 {r:List (List Int)} {piv:List Int} {n f:Nat} (h:xl7 r piv n) (hf:f<n) (hfree:(piv.any λe=>(f:Int)==e)=false):∀k,k<=piv.length->∀x∈hTo r piv n f k,qf8 BIG x
 | 0,_,x,hx=>by
  rw[hTo] at hx
  rcases List.mem_or_eq_of_mem_set hx with hx | rfl
  ·obtain rfl:=(List.mem_replicate.1 hx).2
   unfold BIG; omega
  ·exact(h.tm f hf hfree _ (Nat.le_refl _)).1
 | k+1,hk,x,hx=>by
  rw[hTo] at hx
  rcases List.mem_or_eq_of_mem_set hx with hx | rfl
  ·exact wy4 h hf hfree k (by omega) x hx
  ·exact qs1 (h.pr f hf hfree k (by omega))
abbrev yk0:qb7:=qf1 true none [qg0,qe9] [qg0] (λx=>w5g x.1 x.2.1) (λx=>(ql3 x.1 x.2.1,()))
def x79 (m:List (List Int)) (pix:List Int):Nat->Option Inv
 | 0=>some (Inv.of [5,7,25] 2 (λf:Nat=>[(5,.msl 0 .none),(7,.msl 1 .none),(25,.lit (.int .i64 f))]) (λf=>[.mat 34 3 (.int .i64) (qi5 m pix).1 .none .none,.mat 34 3 (.int .i64) (qo6 (qi5 m pix).1 (qi5 m pix).2 pix.length f) .none .none]) (λf=>f<=pix.length) (λf=>pix.length-f))
 | 1=>some (Eng.Inv.mk Nat Nat [5,7,9,33] 2 (λf k=>[(5,.msl 0 .none),(7,.msl 1 .none),(9,.lit (.int .i64 (qf3 (qi5 m pix).1 (qi5 m pix).2 f k))),(33,.lit (.int .i64 k))]) (λf k=>[.mat 34 3 (.int .i64) (qi5 m pix).1 .none .none,.mat 34 3 (.int .i64) (qo6 (qi5 m pix).1 (qi5 m pix).2 pix.length f) .none .none]) (λf k=>k<=(qi5 m pix).2.length) (λf k=>(qi5 m pix).2.length-k))
 | 2=>some (Eng.Inv.mk Nat Nat [5,7,13,78] 3 (λf k=>[(5,.msl 0 .none),(7,.msl 1 .none),(13,.own 2),(78,.lit (.int .i64 k))]) (λf k=>[.mat 34 3 (.int .i64) (qi5 m pix).1 .none .none,.mat 34 3 (.int .i64) (qo6 (qi5 m pix).1 (qi5 m pix).2 pix.length f) .none .none,.vec 3 (.int .i64) (hTo (qi5 m pix).1 (qi5 m pix).2 pix.length f k)]) (λf k=>k<=(qi5 m pix).2.length) (λf k=>(qi5 m pix).2.length-k))
 | _=>none
def x8a (mats em:List Nat) (specs:List (Nat × qb7)) (muts:List (Nat × qm0)):Ctx:={ specs:=specs,tys:=tys,wr:=[],muts:=muts,mats:=mats,em:=em }
theorem xl8 (mats em:List Nat) {specs:List (Nat × qb7)} {muts:List (Nat × qm0)} (h:SpecsOk Tryz.prog specs) (hm:MutsOk muts):Sound Tryz.prog (x8a mats em specs muts):=SpecsOk.sound h q05 (by kernel_rfl) (hmu:=hm)
theorem w9a:Meets Tryz.prog 118 yk0:=by
 refine meets (xl8 [109] [] (SpecsOk.cons (q3q (fs:=[(73,x0l)]) (SpecsOk.cons q9t (SpecsOk.nil _))) (SpecsOk.cons wp2 (SpecsOk.cons qt0 (SpecsOk.nil _)))) (MutsOk.cons q3u (MutsOk.cons q2t MutsOk.nil))) Tryz.func118 rfl rfl (λx=>x79 x.1 x.2.1) (λ_=>by kernel_rfl) (by decide) ?_
 rintro⟨m,pix,⟨⟩⟩ h
 revert m pix
 intro(m:List (List Int)) (pix:List Int) (h:w5g m pix)
 refine @qd1 _ (let Q0:=qi5 m pix; let Q1:=qe3 Q0.1.length none; ∃(v0:qa4 [qc8]->Prop),∃(v1:qa4 [qc8]->List Int),(∀(v2:Int × qa4._f [] PUnit.unit),v0 v2->True/\[]=v1 v2)/\ChoOk m pix v0 v1/\((0:Ty.den qc8)<=(↑pix.length:Int)/\∃(v2:Nat),q2u (qb4 m pix λ(v3:Int)=>v1 (v3,())) (↑pix.length:Int).toNat v2)/\∃(v2:Unit),∃(v3:Nat),Nat.le v3 pix.length/\((True/\True/\(0:Int)=(↑v3:Int)/\True)/\((qc7 (qb4 m pix λ(v4:Int)=>v1 (v4,())) (↑pix.length:Int).toNat).1=Q0.1/\True/\True)/\qo6 Q0.1 Q0.2 pix.length v3=[]/\True)/\∀(v4:Nat),Nat.le v4 pix.length->(decide ((↑v4:Int)<(↑pix.length:Int))=true->(qc7 (qb4 m pix λ(v7:Int)=>v1 (v7,())) (↑pix.length:Int).toNat).2.length<=(1000000:Nat)/\((List.any (qc7 (qb4 m pix λ(v8:Int)=>v1 (v8,())) (↑pix.length:Int).toNat).2 λ(v8:Int)=>(↑v4:Int)==v8)=true->fits .i64 ((↑v4:Int)+(1:Int))/\∃(v8:Nat),Nat.le v8 pix.length/\pix.length-v8<pix.length-v4/\(True/\True/\(↑v4:Int)+(1:Int)=(↑v8:Int)/\True)/\(Q0.1=Q0.1/\True/\True)/\(qo6 Q0.1 Q0.2 pix.length v4=qo6 Q0.1 Q0.2 pix.length v8/\True/\True)/\True)/\((List.any (qc7 (qb4 m pix λ(v8:Int)=>v1 (v8,())) (↑pix.length:Int).toNat).2 λ(v8:Int)=>(↑v4:Int)==v8)=false->∃(v8:Nat),∃(v9:Nat),Nat.le v9 Q0.2.length/\((True/\True/\(1:Int)=qf3 Q0.1 Q0.2 v8 v9/\(0:Int)=(↑v9:Int)/\True)/\(Q0.1=Q0.1/\True/\True)/\(qo6 Q0.1 Q0.2 pix.length v4=qo6 Q0.1 Q0.2 pix.length v8/\True/\True)/\True)/\∀(v10:Nat),Nat.le v10 Q0.2.length->(decide ((↑v10:Int)<(↑(qc7 (qb4 m pix λ(v13:Int)=>v1 (v13,())) (↑pix.length:Int).toNat).2.length:Int))=true->((0:Int)<=(↑v10:Int)/\(↑v10:Int)<(↑(qc7 (qb4 m pix λ(v13:Int)=>v1 (v13,())) (↑pix.length:Int).toNat).2.length:Int))/\((0:Int)<=(↑v10:Int)/\(↑v10:Int)<(↑Q1:Int))/\v10<qe3 Q0.1.length none/\((0:Int)<=nI (qc7 (qb4 m pix λ(v13:Int)=>v1 (v13,())) (↑pix.length:Int).toNat).2 v10/\nI (qc7 (qb4 m pix λ(v13:Int)=>v1 (v13,())) (↑pix.length:Int).toNat).2 v10<(↑(nL Q0.1 (qe7 none v10)).length:Int))/\(nI (qc7 (qb4 m pix λ(v13:Int)=>v1 (v13,())) (↑pix.length:Int).toNat).2 v10).toNat<(nL Q0.1 (qe7 none v10)).length/\((0:Int)<=(↑v10:Int)/\(↑v10:Int)<(↑Q1:Int))/\v10<qe3 Q0.1.length none/\((0:Int)<=nI (qc7 (qb4 m pix λ(v13:Int)=>v1 (v13,())) (↑pix.length:Int).toNat).2 v10/\nI (qc7 (qb4 m pix λ(v13:Int)=>v1 (v13,())) (↑pix.length:Int).toNat).2 v10<(↑(nL Q0.1 (qe7 none v10)).length:Int))/\(nI (qc7 (qb4 m pix λ(v13:Int)=>v1 (v13,())) (↑pix.length:Int).toNat).2 v10).toNat<(nL Q0.1 (qe7 none v10)).length/\((0:Int)<=(↑v10:Int)/\(↑v10:Int)<(↑Q1:Int))/\v10<qe3 Q0.1.length none/\((0:Int)<=(↑v4:Int)/\(↑v4:Int)<(↑(nL Q0.1 (qe7 none v10)).length:Int))/\v4<(nL Q0.1 (qe7 none v10)).length/\(((-4000000000000000000:Int)<=nI (nL Q0.1 (qe7 none v10)) (nI (qc7 (qb4 m pix λ(v13:Int)=>v1 (v13,())) (↑pix.length:Int).toNat).2 v10).toNat/\nI (nL Q0.1 (qe7 none v10)) (nI (qc7 (qb4 m pix λ(v13:Int)=>v1 (v13,())) (↑pix.length:Int).toNat).2 v10).toNat<=BIG)/\(-4000000000000000000:Int)<=nI (nL Q0.1 (qe7 none v10)) v4/\nI (nL Q0.1 (qe7 none v10)) v4<=BIG)/\gcdI (nI (nL Q0.1 (qe7 none v10)) (nI (qc7 (qb4 m pix λ(v13:Int)=>v1 (v13,())) (↑pix.length:Int).toNat).2 v10).toNat) (nI (nL Q0.1 (qe7 none v10)) v4)≠(0:Int)/\fits .i64 (Int.tdiv (nI (nL Q0.1 (qe7 none v10)) (nI (qc7 (qb4 m pix λ(v13:Int)=>v1 (v13,())) (↑pix.length:Int).toNat).2 v10).toNat) (gcdI (nI (nL Q0.1 (qe7 none v10)) (nI (qc7 (qb4 m pix λ(v13:Int)=>v1 (v13,())) (↑pix.length:Int).toNat).2 v10).toNat) (nI (nL Q0.1 (qe7 none v10)) v4)))/\(((-4000000000000000000:Int)<=qf3 Q0.1 Q0.2 v8 v10/\qf3 Q0.1 Q0.2 v8 v10<=BIG)/\(-4000000000000000000:Int)<=Int.tdiv (nI (nL Q0.1 (qe7 none v10)) (nI (qc7 (qb4 m pix λ(v13:Int)=>v1 (v13,())) (↑pix.length:Int).toNat).2 v10).toNat) (gcdI (nI (nL Q0.1 (qe7 none v10)) (nI (qc7 (qb4 m pix λ(v13:Int)=>v1 (v13,())) (↑pix.length:Int).toNat).2 v10).toNat) (nI (nL Q0.1 (qe7 none v10)) v4))/\Int.tdiv (nI (nL Q0.1 (qe7 none v10)) (nI (qc7 (qb4 m pix λ(v13:Int)=>v1 (v13,())) (↑pix.length:Int).toNat).2 v10).toNat) (gcdI (nI (nL Q0.1 (qe7 none v10)) (nI (qc7 (qb4 m pix λ(v13:Int)=>v1 (v13,())) (↑pix.length:Int).toNat).2 v10).toNat) (nI (nL Q0.1 (qe7 none v10)) v4))<=BIG)/\gcdI (qf3 Q0.1 Q0.2 v8 v10) (Int.tdiv (nI (nL Q0.1 (qe7 none v10)) (nI (qc7 (qb4 m pix λ(v13:Int)=>v1 (v13,())) (↑pix.length:Int).toNat).2 v10).toNat) (gcdI (nI (nL Q0.1 (qe7 none v10)) (nI (qc7 (qb4 m pix λ(v13:Int)=>v1 (v13,())) (↑pix.length:Int).toNat).2 v10).toNat) (nI (nL Q0.1 (qe7 none v10)) v4)))≠(0:Int)/\fits .i64 (Int.tdiv (Int.tdiv (nI (nL Q0.1 (qe7 none v10)) (nI (qc7 (qb4 m pix λ(v13:Int)=>v1 (v13,())) (↑pix.length:Int).toNat).2 v10).toNat) (gcdI (nI (nL Q0.1 (qe7 none v10)) (nI (qc7 (qb4 m pix λ(v13:Int)=>v1 (v13,())) (↑pix.length:Int).toNat).2 v10).toNat) (nI (nL Q0.1 (qe7 none v10)) v4))) (gcdI (qf3 Q0.1 Q0.2 v8 v10) (Int.tdiv (nI (nL Q0.1 (qe7 none v10)) (nI (qc7 (qb4 m pix λ(v13:Int)=>v1 (v13,())) (↑pix.length:Int).toNat).2 v10).toNat) (gcdI (nI (nL Q0.1 (qe7 none v10)) (nI (qc7 (qb4 m pix λ(v13:Int)=>v1 (v13,())) (↑pix.length:Int).toNat).2 v10).toNat) (nI (nL Q0.1 (qe7 none v10)) v4)))))/\fits .i64 (qf3 Q0.1 Q0.2 v8 v10*Int.tdiv (Int.tdiv (nI (nL Q0.1 (qe7 none v10)) (nI (qc7 (qb4 m pix λ(v13:Int)=>v1 (v13,())) (↑pix.length:Int).toNat).2 v10).toNat) (gcdI (nI (nL Q0.1 (qe7 none v10)) (nI (qc7 (qb4 m pix λ(v13:Int)=>v1 (v13,())) (↑pix.length:Int).toNat).2 v10).toNat) (nI (nL Q0.1 (qe7 none v10)) v4))) (gcdI (qf3 Q0.1 Q0.2 v8 v10) (Int.tdiv (nI (nL Q0.1 (qe7 none v10)) (nI (qc7 (qb4 m pix λ(v13:Int)=>v1 (v13,())) (↑pix.length:Int).toNat).2 v10).toNat) (gcdI (nI (nL Q0.1 (qe7 none v10)) (nI (qc7 (qb4 m pix λ(v13:Int)=>v1 (v13,())) (↑pix.length:Int).toNat).2 v10).toNat) (nI (nL Q0.1 (qe7 none v10)) v4)))))/\fits .i64 ((↑v10:Int)+(1:Int))/\∃(v13:Nat),Nat.le v13 Q0.2.length/\Q0.2.length-v13<Q0.2.length-v10/\(True/\True/\qf3 Q0.1 Q0.2 v8 v10*Int.tdiv (Int.tdiv (nI (nL Q0.1 (qe7 none v10)) (nI (qc7 (qb4 m pix λ(v14:Int)=>v1 (v14,())) (↑pix.length:Int).toNat).2 v10).toNat) (gcdI (nI (nL Q0.1 (qe7 none v10)) (nI (qc7 (qb4 m pix λ(v14:Int)=>v1 (v14,())) (↑pix.length:Int).toNat).2 v10).toNat) (nI (nL Q0.1 (qe7 none v10)) v4))) (gcdI (qf3 Q0.1 Q0.2 v8 v10) (Int.tdiv (nI (nL Q0.1 (qe7 none v10)) (nI (qc7 (qb4 m pix λ(v14:Int)=>v1 (v14,())) (↑pix.length:Int).toNat).2 v10).toNat) (gcdI (nI (nL Q0.1 (qe7 none v10)) (nI (qc7 (qb4 m pix λ(v14:Int)=>v1 (v14,())) (↑pix.length:Int).toNat).2 v10).toNat) (nI (nL Q0.1 (qe7 none v10)) v4))))=qf3 Q0.1 Q0.2 v8 v13/\(↑v10:Int)+(1:Int)=(↑v13:Int)/\True)/\(Q0.1=Q0.1/\True/\True)/\(qo6 Q0.1 Q0.2 pix.length v8=qo6 Q0.1 Q0.2 pix.length v8/\True/\True)/\True)/\(decide ((↑v10:Int)<(↑(qc7 (qb4 m pix λ(v13:Int)=>v1 (v13,())) (↑pix.length:Int).toNat).2.length:Int))=false->((↑pix.length:Int)=(↑pix.length:Int)/\(0:Int)<=(↑pix.length:Int)/\(↑pix.length:Int)<=(1000000:Int))/\((0:Int)<=(↑v4:Int)/\(↑v4:Int)<(↑(List.replicate (↑pix.length:Int).toNat (Ty.dflt (TI.ty T3))).length:Int))/\v4<(List.replicate (↑pix.length:Int).toNat (Ty.dflt (TI.ty T3))).length/\∃(v13:Nat),∃(v14:Nat),Nat.le v14 Q0.2.length/\((True/\True/\True/\(0:Int)=(↑v14:Int)/\True)/\(Q0.1=Q0.1/\True/\True)/\(qo6 Q0.1 Q0.2 pix.length v8=qo6 Q0.1 Q0.2 pix.length v13/\True/\True)/\List.set (List.replicate (↑pix.length:Int).toNat (Ty.dflt (TI.ty T3))) v4 (qf3 Q0.1 Q0.2 v8 v10)=hTo Q0.1 Q0.2 pix.length v13 v14/\True)/\∀(v15:Nat),Nat.le v15 Q0.2.length->(decide ((↑v15:Int)<(↑(qc7 (qb4 m pix λ(v18:Int)=>v1 (v18,())) (↑pix.length:Int).toNat).2.length:Int))=true->((0:Int)<=(↑v15:Int)/\(↑v15:Int)<(↑(qc7 (qb4 m pix λ(v18:Int)=>v1 (v18,())) (↑pix.length:Int).toNat).2.length:Int))/\((0:Int)<=(↑v15:Int)/\(↑v15:Int)<(↑Q1:Int))/\v15<qe3 Q0.1.length none/\((0:Int)<=(↑v4:Int)/\(↑v4:Int)<(↑(nL Q0.1 (qe7 none v15)).length:Int))/\v4<(nL Q0.1 (qe7 none v15)).length/\fits .i64 ((0:Int)-nI (nL Q0.1 (qe7 none v15)) v4)/\fits .i64 (((0:Int)-nI (nL Q0.1 (qe7 none v15)) v4)*qf3 Q0.1 Q0.2 v8 v10)/\((0:Int)<=(↑v15:Int)/\(↑v15:Int)<(↑Q1:Int))/\v15<qe3 Q0.1.length none/\((0:Int)<=nI (qc7 (qb4 m pix λ(v18:Int)=>v1 (v18,())) (↑pix.length:Int).toNat).2 v15/\nI (qc7 (qb4 m pix λ(v18:Int)=>v1 (v18,())) (↑pix.length:Int).toNat).2 v15<(↑(nL Q0.1 (qe7 none v15)).length:Int))/\(nI (qc7 (qb4 m pix λ(v18:Int)=>v1 (v18,())) (↑pix.length:Int).toNat).2 v15).toNat<(nL Q0.1 (qe7 none v15)).length/\nI (nL Q0.1 (qe7 none v15)) (nI (qc7 (qb4 m pix λ(v18:Int)=>v1 (v18,())) (↑pix.length:Int).toNat).2 v15).toNat≠(0:Int)/\fits .i64 (Int.tdiv (((0:Int)-nI (nL Q0.1 (qe7 none v15)) v4)*qf3 Q0.1 Q0.2 v8 v10) (nI (nL Q0.1 (qe7 none v15)) (nI (qc7 (qb4 m pix λ(v18:Int)=>v1 (v18,())) (↑pix.length:Int).toNat).2 v15).toNat))/\((0:Int)<=nI (qc7 (qb4 m pix λ(v18:Int)=>v1 (v18,())) (↑pix.length:Int).toNat).2 v15/\nI (qc7 (qb4 m pix λ(v18:Int)=>v1 (v18,())) (↑pix.length:Int).toNat).2 v15<(↑(hTo Q0.1 Q0.2 pix.length v13 v15).length:Int))/\(nI (qc7 (qb4 m pix λ(v18:Int)=>v1 (v18,())) (↑pix.length:Int).toNat).2 v15).toNat<(hTo Q0.1 Q0.2 pix.length v13 v15).length/\fits .i64 ((↑v15:Int)+(1:Int))/\∃(v18:Nat),Nat.le v18 Q0.2.length/\Q0.2.length-v18<Q0.2.length-v15/\(True/\True/\True/\(↑v15:Int)+(1:Int)=(↑v18:Int)/\True)/\(Q0.1=Q0.1/\True/\True)/\(qo6 Q0.1 Q0.2 pix.length v13=qo6 Q0.1 Q0.2 pix.length v13/\True/\True)/\List.set (hTo Q0.1 Q0.2 pix.length v13 v15) (nI (qc7 (qb4 m pix λ(v19:Int)=>v1 (v19,())) (↑pix.length:Int).toNat).2 v15).toNat (Int.tdiv (((0:Int)-nI (nL Q0.1 (qe7 none v15)) v4)*qf3 Q0.1 Q0.2 v8 v10) (nI (nL Q0.1 (qe7 none v15)) (nI (qc7 (qb4 m pix λ(v19:Int)=>v1 (v19,())) (↑pix.length:Int).toNat).2 v15).toNat))=hTo Q0.1 Q0.2 pix.length v13 v18/\True)/\(decide ((↑v15:Int)<(↑(qc7 (qb4 m pix λ(v18:Int)=>v1 (v18,())) (↑pix.length:Int).toNat).2.length:Int))=false->wj3 (nL [hTo Q0.1 Q0.2 pix.length v13 v15] (0:Nat))/\((0:Nat)<(0:Nat)+(1:Nat)/\(qo6 Q0.1 Q0.2 pix.length v13).length+((0:Nat)+(1:Nat))<=(1000000:Nat))/\fits .i64 ((↑v4:Int)+(1:Int))/\∃(v18:Nat),Nat.le v18 pix.length/\pix.length-v18<pix.length-v4/\(True/\True/\(↑v4:Int)+(1:Int)=(↑v18:Int)/\True)/\(Q0.1=Q0.1/\True/\True)/\(qo6 Q0.1 Q0.2 pix.length v13++[nL [qe4 (nL [hTo Q0.1 Q0.2 pix.length v13 v15] (0:Nat))] (0:Nat)]=qo6 Q0.1 Q0.2 pix.length v18/\True/\True)/\True))))/\(decide ((↑v4:Int)<(↑pix.length:Int))=false->q15 (Ty.int .i64) (qo6 Q0.1 Q0.2 pix.length v4) none=ql3 m pix)) (by kernel_rfl) ?_
 try simp only[z0,z1,z2,z3,z4,z5,z6,z7,z8,z9,z10,Int.reduceEq,z11,z12,z13,z14,z15,z16,z17,z18,z19,z20,z21,z22,z23,z24,z25,z26,z27,z28,z29,z30,Int.reduceLE,Int.reduceLT,z31,z32,z33,z34,qa1]
 try simp only[qa7,qa8,qb8,z31,z32,z2,z1]
 have hcr:=h.cho.rows
 have hcc:=h.cho.cols
 have hrw:=h.red.w
 refine⟨λ_=>True,λ_=>[],λ_ _=>rfl,h.cho,⟨pix.length,h.red⟩,?_⟩
 have hkr:qc7 (qb4 m pix λ_=>[]) pix.length=qi5 m pix:=rfl
 have hsh:=q1w h.red pix.length
 have hpv:=q3v (qk8 m pix) pix.length
 have har:=h.ar
 have hcl:(qk8 m pix).length=m.length:=ql2 _ _ _
 simp only[Int.toNat_natCast]
 unfold ql3
 rw[hkr]
 change RedSh _ _ (qi5 m pix) _ at hsh
 change ∀e∈(qi5 m pix).2,_ at hpv
 generalize qi5 m pix=K at *
 obtain⟨R,P⟩:=K
 dsimp only at hpv har ⊢
 have hRn:=hsh.cnt
 have hRe:=hsh.each
 have hPn:=hsh.piv
 have hPj:=hsh.pivj
 dsimp only at hRn hRe hPn hPj
 have hPk:∀k,k<P.length->0<=nI P k/\nI P k<pix.length:=λk hk=>hpv _ (by rw[qg5 P k hk]; exact List.getElem_mem hk)
 simp only[q4p,q7e,wo9]
 refine⟨(),0,Nat.zero_le _,⟨by first | rfl | trivial,by first | rfl | trivial,by first | rfl | trivial⟩,λf hf=>⟨λhlt=>⟨by omega,λhin=>?_,λhfree=>?_⟩,λhge=>?_⟩⟩
 ·refine⟨qb5 (by omega) (by omega),f+1,by omega,by omega,by omega,?_⟩
  rw[qo6,if_pos hin]
 ·refine⟨f,0,Nat.zero_le _,⟨⟨rfl,rfl⟩,rfl⟩,λk hk=>⟨λhlk=>?_,λhgk=>?_⟩⟩
  ·have hp:=hPk k hlk
   have hr:=hRe k (by omega)
   have hp':0<=nI P k/\nI P k<((nL R k).length:Int):=⟨hp.1,by omega⟩
   have hb1:=har.big k hlk (nI P k).toNat (by omega)
   have hb2:=har.big k hlk f hlt
   have hz:=har.nz k hlk
   have ht:=har.tm f hlt hfree k hk
   have ht2:=(har.tm f hlt hfree (k+1) hlk).1
   have e2:qf3 R P f (k+1)=qf3 R P f k*(q5r R P f k).tdiv (gcdI (qf3 R P f k) (q5r R P f k)):=rfl
   have hq:qf8 BIG (q5r R P f k):=qs1 hb1
   have e1:(nI (nL R k) (nI P k).toNat).tdiv (gcdI (nI (nL R k) (nI P k).toNat) (nI (nL R k) f))=q5r R P f k:=rfl
   rw[e1,<- e2]
   have hq2:qf8 BIG ((q5r R P f k).tdiv (gcdI (qf3 R P f k) (q5r R P f k))):=qs1 hq
   have g1:=qu9 (a:=nI (nL R k) (nI P k).toNat) (b:=nI (nL R k) f) (Or.inl hz)
   have g2:=qu9 (a:=qf3 R P f k) (b:=q5r R P f k) (Or.inl ht.2)
   have hB:BIG=4000000000000000000:=rfl
   unfold qf8 at *
   refine⟨hlk,by omega,by omega,hp',by omega,by omega,by omega,hp',by omega,by omega,by omega,by omega,by omega,⟨hb1,hb2⟩,by omega,qb5 (by omega) (by omega),⟨ht.1,hq⟩,by omega,qb5 (by omega) (by omega),qb5 (by omega) (by omega),qb5 (by omega) (by omega),k+1,by omega,by omega,rfl,by omega⟩
  ·obtain rfl:k=P.length:=by omega
   have hl0:(List.replicate pix.length T3.ty.dflt).length=pix.length:=List.length_replicate
   refine⟨by omega,by omega,by omega,f,0,Nat.zero_le _,⟨rfl,rfl,rfl⟩,λk hk=>⟨λhlk=>?_,λhgk=>?_⟩⟩
   ·have hp:=hPk k hlk
    have hr:=hRe k (by omega)
    have hp':0<=nI P k/\nI P k<((nL R k).length:Int):=⟨hp.1,by omega⟩
    have hb2:=har.big k hlk f hlt
    have hz:=har.nz k hlk
    have hpr:=har.pr f hlt hfree k hlk
    have hq:qf8 BIG (((0-nI (nL R k) f)*qf3 R P f P.length).tdiv (nI (nL R k) (nI P k).toNat)):=qs1 hpr
    have hl:=q7i R P pix.length f k
    have hp'':0<=nI P k/\nI P k<((hTo R P pix.length f k).length:Int):=⟨hp.1,by omega⟩
    have hB:BIG=4000000000000000000:=rfl
    unfold qf8 at *
    refine⟨hlk,by omega,by omega,by omega,by omega,qb5 (by omega) (by omega),qb5 (by omega) (by omega),by omega,by omega,hp',by omega,hz,qb5 (by omega) (by omega),hp'',by omega,qb5 (by omega) (by omega),k+1,by omega,by omega,by omega,rfl⟩
   ·obtain rfl:k=P.length:=by omega
    have hl:=q7i R P pix.length f P.length
    have hkl:=wp3 R P pix.length f
    refine⟨⟨by omega,wy4 har hlt hfree _ (Nat.le_refl _)⟩,by omega,qb5 (by omega) (by omega),f+1,by omega,by omega,by omega,?_⟩
    rw[qo6,if_neg (by rw[hfree]; decide)]
 ·obtain rfl:f=pix.length:=by omega
  rfl
structure Named (n:Nat) (pix:List Int):Prop where
 at_:∀j,j<pix.length->0<=nI pix j/\nI pix j<n
 asc:∀i j,i<j->j<pix.length->nI pix i<nI pix j
theorem Named.of {n:Nat} {pix:List Int} (h:w8v n pix=0):Named n pix:=by
 unfold w8v at h
 split at h
 ·cases h
 ·rename_i ha
  split at h
  ·cases h
  ·rename_i hb
   have ha:=wf4.1 (by cases e:x0k pix with | true=>rfl | false=>exact absurd e ha)
   refine⟨λj hj=>?_,λi j hij hj=>?_⟩
   ·rw[Bool.not_eq_true,List.any_eq_false] at hb
    have:=hb (nI pix j) (by rw[qg5 pix j hj]; exact List.getElem_mem hj)
    have:=qh5.1 (by simpa using this)
    exact⟨this.1,by have:=this.2; omega⟩
   ·induction j with
    | zero=>omega
    | succ j ih=>
     have h1:=ha (j+1) (by omega) hj
     simp only[Nat.add_sub_cancel] at h1
     rcases Nat.lt_or_ge i j with h | h
     ·exact Int.lt_trans (ih h (by omega)) h1
     ·rw[show i=j by omega]; exact h1
theorem Named.gap {n:Nat} {pix:List Int} (h:Named n pix):∀j,j<pix.length->(j:Int)<=nI pix j
 | 0,hj=>by have:=(h.at_ 0 hj).1; omega
 | j+1,hj=>by have:=h.gap j (by omega); have:=h.asc j (j+1) (by omega) hj; omega
theorem Named.len {n:Nat} {pix:List Int} (h:Named n pix):pix.length<=n:=by
 rcases Nat.eq_zero_or_pos pix.length with e | e
 ·omega
 ·have h1:=h.gap (pix.length-1) (by omega)
  have h2:=(h.at_ (pix.length-1) (by omega)).2
  omega
theorem Named.idx (n:Nat):Named n (ql7 n):=by
 refine⟨λj hj=>?_,λi j hij hj=>?_⟩
 ·rw[qd8] at hj; rw[qv5 _ _ hj]; omega
 ·rw[qd8] at hj; rw[qv5 _ _ hj,qv5 _ _ (by omega)]; omega
structure Asked (m:List (List Int)) (y pix:List Int):Prop where
 msk:Mk m
 val:qa9 m=true
 len:y.length=m.length
 out:x36 y=false
 nam:Named (nL m 0).length pix
theorem Asked.of {m:List (List Int)} {y pix:List Int} (h:q8o m y pix=0):Asked m y pix:=by
 unfold q8o at h
 split at h
 ·cases h
 ·rename_i hv
  have hv:qa9 m=true:=by cases e:qa9 m with | true=>rfl | false=>exact absurd e hv
  split at h
  ·cases h
  ·rename_i hl
   split at h
   ·cases h
   ·rename_i ho
    unfold w19 at h
    rw[if_neg (by rw[hv]; decide)] at h
    exact⟨Mk.of hv,hv,Decidable.not_not.1 hl,by simpa using ho,Named.of h⟩
theorem Asked.at_ {m:List (List Int)} {y pix:List Int} (h:Asked m y pix) (i:Nat) (hi:i<m.length):qf8 1000000 (nI y i):=by
 have h1:=h.out
 unfold x36 at h1
 rw[List.any_eq_false] at h1
 have:=h1 (nI y i) (by rw[qg5 y i (by rw[h.len]; exact hi)]; exact List.getElem_mem _)
 have:=qh5.1 (by simpa using this)
 exact⟨by have:=this.1; omega,this.2⟩
theorem ChoOk.of {m:List (List Int)} {pix:List Int} (hM:Mk m) (hn:Named (nL m 0).length pix) {p:qa4 [.int .i64]->Prop} {f:qa4 [.int .i64]->List Int} (hf:∀i:Nat,i<m.length->p ((i:Int),())/\(f ((i:Int),())).length<=10000):ChoOk m pix p f:=by
 have h1:=hM.rows6
 have h2:=hn.len
 have h3:=hM.pix10
 refine⟨by omega,by omega,λi hi j hj=>?_,hf⟩
 have:=hn.at_ j hj
 rw[hM.each i hi]
 exact this
structure q06 (m:List (List Int)):Prop where
 red:q2u (qk8 m (ql7 (nL m 0).length)) (nL m 0).length (nL m 0).length
def qg9 (m:List (List Int)):Int × Int:=if qa9 m=false then(0,1) else((qi5 m (ql7 (nL m 0).length)).2.length,0)
abbrev x8c:qb7:=qf1 true none [qg0] [qc8,qc8] (λx=>qa9 x.1=true->q06 x.1) (λx=>((qg9 x.1).1,(qg9 x.1).2,()))
theorem q91:Meets Tryz.prog 21 x8c:=by
 refine meets (xl8 [] [] (SpecsOk.cons qp4 (SpecsOk.cons q3p (SpecsOk.cons (q3q (fs:=[(73,x0l)]) (SpecsOk.cons q9t (SpecsOk.nil _))) (SpecsOk.nil _)))) (MutsOk.cons q3u MutsOk.nil)) Tryz.func21 rfl rfl (λ_ _=>none) (λ_=>by kernel_rfl) (by decide) ?_
 rintro⟨m,⟨⟩⟩ h
 revert m
 intro(m:List (List Int)) (h:qa9 m=true->q06 m)
 refine @qd1 _ (True/\((!qa9 m)=true->(0:Int)=(qg9 m).1/\(1:Int)=(qg9 m).2/\True)/\((!qa9 m)=false->((0:Int)<=(0:Int)/\(0:Int)<(↑m.length:Int))/\(↑(nL m (0:Nat)).length:Int)<=(100000:Ty.den qc8)/\∃(v1:qa4 [qc8]->Prop),∃(v2:qa4 [qc8]->List Int),(∀(v3:Int × qa4._f [] PUnit.unit),v1 v3->True/\[]=v2 v3)/\ChoOk m (ql7 (↑(nL m (0:Nat)).length:Int).toNat) v1 v2/\((0:Int)<=(0:Int)/\(0:Int)<(↑m.length:Int))/\((0:Ty.den qc8)<=(↑(nL m (0:Nat)).length:Int)/\∃(v3:Nat),q2u (qb4 m (ql7 (↑(nL m (0:Nat)).length:Int).toNat) λ(v4:Int)=>v2 (v4,())) (↑(nL m (0:Nat)).length:Int).toNat v3)/\(↑(qc7 (qb4 m (ql7 (↑(nL m (0:Nat)).length:Int).toNat) λ(v3:Int)=>v2 (v3,())) (↑(nL m (0:Nat)).length:Int).toNat).2.length:Int)=(qg9 m).1/\(0:Int)=(qg9 m).2/\True)) (by kernel_rfl) ?_
 try simp only[z0,z1,z2,z3,z4,z5,z6,z7,z8,z9,z10,Int.reduceEq,z11,z12,z13,z14,z15,z16,z17,z18,z19,z20,z21,z22,z23,z24,z25,z26,z27,z28,z29,z30,Int.reduceLE,Int.reduceLT,z31,z32,z33,z34,qa1]
 try simp only[qa7,qa8,qb8,z31,z32,z2,z1]
 refine⟨λhv=>by simp[qg9,hv],λhv=>?_⟩
 have hM:=Mk.of hv
 have h1:=hM.rows1
 have h2:=hM.pix10
 have hr:=(h hv).red
 have e:qg9 m=(((qi5 m (ql7 (nL m 0).length)).2.length:Int),0):=by simp[qg9,hv]
 rw[e]
 refine⟨by omega,by omega,λ_=>True,λ_=>[],λ_ _=>rfl,ChoOk.of hM (Named.idx _) λ_ _=>⟨trivial,Nat.zero_le _⟩,by omega,⟨_,hr⟩,?_,rfl⟩
 unfold qi5
 rw[qd8]
 rfl
def qk3 (m:List (List Int)) (pix y:List Int):List (List Int):=qb4 m pix λi=>[nI y i.toNat]
def w2d (m:List (List Int)) (pix y:List Int):List (List Int) × List Int:=qc7 (qk3 m pix y) pix.length
def w9b (R:List (List Int)) (P:List Int) (n:Nat):Bool:=(List.range R.length).any λk=>decide (P.length<=k) && nI (nL R k) n != 0
def x8d (R:List (List Int)) (P:List Int) (n k:Nat):Int × Int:=ofR (nI (nL R k) n) (nI (nL R k) (nI P k).toNat)
def x2f (R:List (List Int)) (P:List Int) (n:Nat):List (Int × Int) × Int:=if w9b R P n then([],8) else if P.length<n then([],11) else((List.range P.length).map (x8d R P n),0)
def w2e (m:List (List Int)) (pix y:List Int):List (Int × Int) × Int:=if q8o m y pix=0 then x2f (w2d m pix y).1 (w2d m pix y).2 pix.length else([],q8o m y pix)
structure x8e (R:List (List Int)) (P:List Int) (n:Nat):Prop where
 nz:∀k,k<P.length->nI (nL R k) (nI P k).toNat≠0
 bigD:∀k,k<P.length->qf8 BIG (nI (nL R k) (nI P k).toNat)
 bigN:∀k,k<P.length->qf8 BIG (nI (nL R k) n)
structure x8g (m:List (List Int)) (pix y:List Int):Prop where
 red:q2u (qk3 m pix y) pix.length (pix.length+1)
 ar:x8e (w2d m pix y).1 (w2d m pix y).2 pix.length
structure q3w (m:List (List Int)) (pix y:List Int):Prop where
 len:pix.length<=1000000
 ok:q8o m y pix=0->x8g m pix y
abbrev yk1:qb7:=qf1 true (some 60) [qg0,qe9,qe9] [x7v,qc8] (λx=>q3w x.1 x.2.1 x.2.2.1) (λx=>((w2e x.1 x.2.1 x.2.2.1).1,(w2e x.1 x.2.1 x.2.2.1).2,()))
structure w9c (R:List (List Int)) (P:List Int) (n k:Nat) (l:List (Int × Int)):Prop where
 le:k<=R.length
 eq:l=(List.range (min k P.length)).map (x8d R P n)
 no:∀i,P.length<=i->i<k->nI (nL R i) n=0
def x8h (m:List (List Int)) (pix y:List Int):Nat->Option Inv
 | 0=>some (Inv.of [10,12,31,33] 3 (λs:Nat × List (Int × Int)=>[(10,.msl 1 .none),(12,.own 2),(31,.msl 1 .none),(33,.lit (.int .i64 s.1))]) (λs=>[.box 34 (.cons (.dat (.int .i64) y) .nil),.mat 34 3 (.int .i64) (w2d m pix y).1 .none .none,.vec 60 (.prod (.int .i64) (.int .i64)) s.2]) (λs=>w9c (w2d m pix y).1 (w2d m pix y).2 pix.length s.1 s.2) (λs=>(w2d m pix y).1.length-s.1))
 | _=>none
theorem w9d:Meets Tryz.prog 238 yk1:=by
 refine meets (xl8 [] [] (SpecsOk.cons wo7 (SpecsOk.cons (q3q (fs:=[(249,x4a)]) (SpecsOk.cons w47 (SpecsOk.nil _))) (SpecsOk.cons w18 (SpecsOk.nil _)))) (MutsOk.cons q3u MutsOk.nil)) Tryz.func238 rfl rfl (λx=>x8h x.1 x.2.1 x.2.2.1) (λ_=>by kernel_rfl) (by decide) ?_
 rintro⟨m,pix,y,⟨⟩⟩ h
 revert m pix y
 intro(m:List (List Int)) (pix:List Int) (y:List Int) (h:q3w m pix y)
 refine @qd1 _ (let Q0:=w2d m pix y; let Q1:=w2e m pix y; let Q2:=Int × Int; pix.length<=(1000000:Nat)/\((q8o m y pix != (0:Int))=true->Q1.1=[]/\q8o m y pix=Q1.2/\True)/\((q8o m y pix != (0:Int))=false->∃(v1:qa4 [qc8]->Prop),∃(v2:qa4 [qc8]->List Int),(∀(v3:Int × qa4._f [] PUnit.unit),v1 v3->((0:PTy.den (PTy.d qc8))<=v3.1/\v3.1<(↑y.length:PTy.den (PTy.d qc8)))/\[nI y v3.1.toNat]=v2 v3)/\ChoOk m pix v1 v2/\((0:Ty.den qc8)<=(↑pix.length:Int)/\∃(v3:Nat),q2u (qb4 m pix λ(v4:Int)=>v2 (v4,())) (↑pix.length:Int).toNat v3)/\∃(v3:Unit),∃(v4:Nat × List Q2),w9c Q0.1 Q0.2 pix.length v4.1 v4.2/\((True/\True/\True/\(0:Int)=(↑v4.1:Int)/\True)/\(y=y/\True)/\((qc7 (qb4 m pix λ(v5:Int)=>v2 (v5,())) (↑pix.length:Int).toNat).1=Q0.1/\True/\True)/\v4.2=[]/\True)/\∀(v5:Nat × List Q2),w9c Q0.1 Q0.2 pix.length v5.1 v5.2->(decide ((↑v5.1:Int)<(↑(qe3 (qc7 (qb4 m pix λ(v8:Int)=>v2 (v8,())) (↑pix.length:Int).toNat).1.length none):Int))=true->((0:Int)<=(↑v5.1:Int)/\(↑v5.1:Int)<(↑(qe3 Q0.1.length none):Int))/\(↑v5.1:Int).toNat<qe3 Q0.1.length none/\(decide ((↑v5.1:Int)<(↑(qc7 (qb4 m pix λ(v9:Int)=>v2 (v9,())) (↑pix.length:Int).toNat).2.length:Int))=true->((0:Int)<=(↑pix.length:Int)/\(↑pix.length:Int)<(↑(nL Q0.1 (qe7 none (↑v5.1:Int).toNat)).length:Int))/\(↑pix.length:Int).toNat<(nL Q0.1 (qe7 none (↑v5.1:Int).toNat)).length/\((0:Int)<=(↑v5.1:Int)/\(↑v5.1:Int)<(↑(qc7 (qb4 m pix λ(v9:Int)=>v2 (v9,())) (↑pix.length:Int).toNat).2.length:Int))/\((0:Int)<=nI (qc7 (qb4 m pix λ(v9:Int)=>v2 (v9,())) (↑pix.length:Int).toNat).2 (↑v5.1:Int).toNat/\nI (qc7 (qb4 m pix λ(v9:Int)=>v2 (v9,())) (↑pix.length:Int).toNat).2 (↑v5.1:Int).toNat<(↑(nL Q0.1 (qe7 none (↑v5.1:Int).toNat)).length:Int))/\(nI (qc7 (qb4 m pix λ(v9:Int)=>v2 (v9,())) (↑pix.length:Int).toNat).2 (↑v5.1:Int).toNat).toNat<(nL Q0.1 (qe7 none (↑v5.1:Int).toNat)).length/\(((-4000000000000000000:Int)<=nI (nL Q0.1 (qe7 none (↑v5.1:Int).toNat)) (↑pix.length:Int).toNat/\nI (nL Q0.1 (qe7 none (↑v5.1:Int).toNat)) (↑pix.length:Int).toNat<=BIG)/\((-4000000000000000000:Int)<=nI (nL Q0.1 (qe7 none (↑v5.1:Int).toNat)) (nI (qc7 (qb4 m pix λ(v9:Int)=>v2 (v9,())) (↑pix.length:Int).toNat).2 (↑v5.1:Int).toNat).toNat/\nI (nL Q0.1 (qe7 none (↑v5.1:Int).toNat)) (nI (qc7 (qb4 m pix λ(v9:Int)=>v2 (v9,())) (↑pix.length:Int).toNat).2 (↑v5.1:Int).toNat).toNat<=BIG)/\nI (nL Q0.1 (qe7 none (↑v5.1:Int).toNat)) (nI (qc7 (qb4 m pix λ(v9:Int)=>v2 (v9,())) (↑pix.length:Int).toNat).2 (↑v5.1:Int).toNat).toNat≠(0:Ty.den qc8))/\((0:Nat)<List.length [((ofR (nI (nL Q0.1 (qe7 none (↑v5.1:Int).toNat)) (↑pix.length:Int).toNat) (nI (nL Q0.1 (qe7 none (↑v5.1:Int).toNat)) (nI (qc7 (qb4 m pix λ(v9:Int)=>v2 (v9,())) (↑pix.length:Int).toNat).2 (↑v5.1:Int).toNat).toNat)).1,(ofR (nI (nL Q0.1 (qe7 none (↑v5.1:Int).toNat)) (↑pix.length:Int).toNat) (nI (nL Q0.1 (qe7 none (↑v5.1:Int).toNat)) (nI (qc7 (qb4 m pix λ(v9:Int)=>v2 (v9,())) (↑pix.length:Int).toNat).2 (↑v5.1:Int).toNat).toNat)).2)]/\Nat.le (v5.2.length+List.length [((ofR (nI (nL Q0.1 (qe7 none (↑v5.1:Int).toNat)) (↑pix.length:Int).toNat) (nI (nL Q0.1 (qe7 none (↑v5.1:Int).toNat)) (nI (qc7 (qb4 m pix λ(v9:Int)=>v2 (v9,())) (↑pix.length:Int).toNat).2 (↑v5.1:Int).toNat).toNat)).1,(ofR (nI (nL Q0.1 (qe7 none (↑v5.1:Int).toNat)) (↑pix.length:Int).toNat) (nI (nL Q0.1 (qe7 none (↑v5.1:Int).toNat)) (nI (qc7 (qb4 m pix λ(v9:Int)=>v2 (v9,())) (↑pix.length:Int).toNat).2 (↑v5.1:Int).toNat).toNat)).2)]) (1000000:Nat))/\fits .i64 ((↑v5.1:Int)+(1:Int))/\∃(v9:Nat × List Q2),w9c Q0.1 Q0.2 pix.length v9.1 v9.2/\Q0.1.length-v9.1<Q0.1.length-v5.1/\(True/\True/\True/\(↑v5.1:Int)+(1:Int)=(↑v9.1:Int)/\True)/\(y=y/\True)/\(Q0.1=Q0.1/\True/\True)/\v5.2++[((ofR (nI (nL Q0.1 (qe7 none (↑v5.1:Int).toNat)) (↑pix.length:Int).toNat) (nI (nL Q0.1 (qe7 none (↑v5.1:Int).toNat)) (nI (qc7 (qb4 m pix λ(v10:Int)=>v2 (v10,())) (↑pix.length:Int).toNat).2 (↑v5.1:Int).toNat).toNat)).1,(ofR (nI (nL Q0.1 (qe7 none (↑v5.1:Int).toNat)) (↑pix.length:Int).toNat) (nI (nL Q0.1 (qe7 none (↑v5.1:Int).toNat)) (nI (qc7 (qb4 m pix λ(v10:Int)=>v2 (v10,())) (↑pix.length:Int).toNat).2 (↑v5.1:Int).toNat).toNat)).2)]=v9.2/\True)/\(decide ((↑v5.1:Int)<(↑(qc7 (qb4 m pix λ(v9:Int)=>v2 (v9,())) (↑pix.length:Int).toNat).2.length:Int))=false->((0:Int)<=(↑pix.length:Int)/\(↑pix.length:Int)<(↑(nL Q0.1 (qe7 none (↑v5.1:Int).toNat)).length:Int))/\(↑pix.length:Int).toNat<(nL Q0.1 (qe7 none (↑v5.1:Int).toNat)).length/\((nI (nL Q0.1 (qe7 none (↑v5.1:Int).toNat)) (↑pix.length:Int).toNat != (0:Int))=true->Q1.1=[]/\(8:Int)=Q1.2/\True)/\((nI (nL Q0.1 (qe7 none (↑v5.1:Int).toNat)) (↑pix.length:Int).toNat != (0:Int))=false->fits .i64 ((↑v5.1:Int)+(1:Int))/\∃(v10:Nat × List Q2),w9c Q0.1 Q0.2 pix.length v10.1 v10.2/\Q0.1.length-v10.1<Q0.1.length-v5.1/\(True/\True/\True/\(↑v5.1:Int)+(1:Int)=(↑v10.1:Int)/\True)/\(y=y/\True)/\(Q0.1=Q0.1/\True/\True)/\v5.2=v10.2/\True)))/\(decide ((↑v5.1:Int)<(↑(qe3 (qc7 (qb4 m pix λ(v8:Int)=>v2 (v8,())) (↑pix.length:Int).toNat).1.length none):Int))=false->(decide ((↑(qc7 (qb4 m pix λ(v9:Int)=>v2 (v9,())) (↑pix.length:Int).toNat).2.length:Int)<(↑pix.length:Int))=true->Q1.1=[]/\(11:Int)=Q1.2/\True)/\(decide ((↑(qc7 (qb4 m pix λ(v9:Int)=>v2 (v9,())) (↑pix.length:Int).toNat).2.length:Int)<(↑pix.length:Int))=false->v5.2=Q1.1/\(0:Int)=Q1.2/\True)))) (by kernel_rfl) ?_
 try simp only[z0,z1,z2,z3,z4,z5,z6,z7,z8,z9,z10,Int.reduceEq,z11,z12,z13,z14,z15,z16,z17,z18,z19,z20,z21,z22,z23,z24,z25,z26,z27,z28,z29,z30,Int.reduceLE,Int.reduceLT,z31,z32,z33,z34,qa1]
 try simp only[qa7,qa8,qb8,z31,z32,z2,z1]
 refine⟨h.len,λhe=>by simp[w2e,he],λhe=>?_⟩
 have hA:=Asked.of he
 have hO:=h.ok he
 have e:w2e m pix y=x2f (w2d m pix y).1 (w2d m pix y).2 pix.length:=by rw[w2e,if_pos he]
 rw[e]
 refine⟨λx=>0<=x.1/\x.1<y.length,λx=>[nI y x.1.toNat],λx hx=>⟨hx,rfl⟩,ChoOk.of hA.msk hA.nam λi hi=>⟨⟨Int.natCast_nonneg _,Int.ofNat_lt.2 (by have:=hA.len; omega)⟩,by simp⟩,?_⟩
 dsimp only
 have hkr:qc7 (qb4 m pix λv4=>[nI y v4.toNat]) pix.length=w2d m pix y:=rfl
 have hred:q2u (qb4 m pix λv4=>[nI y v4.toNat]) pix.length (pix.length+1):=hO.red
 have hsh:=q1w hred pix.length
 have hpv:=q3v (qb4 m pix λv4=>[nI y v4.toNat]) pix.length
 have har:=hO.ar
 have hcl:(qb4 m pix λv4=>[nI y v4.toNat]).length=m.length:=ql2 _ _ _
 have hm6:=hA.msk.rows6
 have hn10:=hA.msk.pix10
 have hpn:=hA.nam.len
 rw[hkr] at hsh hpv ⊢
 rw[hcl] at hsh
 refine⟨⟨_,hred⟩,?_⟩
 clear hkr hred hcl e
 generalize w2d m pix y=K at *
 obtain⟨R,P⟩:=K
 dsimp only at hpv har ⊢
 have hRn:=hsh.cnt
 have hRe:=hsh.each
 have hPn:=hsh.piv
 have hPj:=hsh.pivj
 dsimp only at hRn hRe hPn hPj
 simp only[q4p,q7e]
 have hPk:∀k,k<P.length->0<=nI P k/\nI P k<pix.length:=λk hk=>hpv _ (by rw[qg5 P k hk]; exact List.getElem_mem hk)
 refine⟨(),(0,[]),⟨Nat.zero_le _,by simp,λi h1 h2=>absurd h2 (Nat.not_lt_zero _)⟩,⟨rfl,by first | rfl | trivial,rfl⟩,?_⟩
 rintro⟨k,l⟩ ⟨k1,k2,k3⟩
 dsimp only at k1 k2 k3 ⊢
 refine⟨λhlt=>⟨hlt,hlt,λhp=>?_,λhp=>?_⟩,λhge=>?_⟩
 ·have hr:=hRe k (by omega)
  have hq:=hPk k hp
  have hp':0<=nI P k/\nI P k<((nL R k).length:Int):=⟨hq.1,by omega⟩
  have hll:l.length=k:=by rw[k2]; simp; omega
  refine⟨by omega,by omega,by omega,hp',by omega,⟨har.bigN k hp,har.bigD k hp,har.nz k hp⟩,by omega,qb5 (by omega) (by omega),(k+1,l++[x8d R P pix.length k]),⟨by dsimp only; omega,?_,λi h1 h2=>by dsimp only at h2; omega⟩,by dsimp only; omega,by dsimp only; omega,rfl⟩
  dsimp only
  rw[k2,show min (k+1) P.length=min k P.length+1 by omega,List.range_succ,List.map_append,show min k P.length=k by omega]
  rfl
 ·have hr:=hRe k (by omega)
  refine⟨by omega,by omega,λhz=>?_,λhz=>?_⟩
  ·have:w9b R P pix.length=true:=by
    unfold w9b
    rw[List.any_eq_true]
    refine⟨k,List.mem_range.2 hlt,?_⟩
    rw[Bool.and_eq_true,decide_eq_true_eq]
    exact⟨by omega,bne_iff_ne.2 hz⟩
   simp[x2f,this]
  ·refine⟨qb5 (by omega) (by omega),(k+1,l),⟨by dsimp only; omega,?_,λi h1 h2=>?_⟩,by dsimp only; omega,by dsimp only; omega,rfl⟩
   ·dsimp only
    rw[k2,show min (k+1) P.length=min k P.length by omega]
   ·dsimp only at h2
    by_cases e:i=k
    ·subst e; exact hz
    ·exact k3 i h1 (by omega)
 ·obtain rfl:k=R.length:=by omega
  have hno:w9b R P pix.length=false:=by
   unfold w9b
   rw[List.any_eq_false]
   intro i hi
   have hi:=List.mem_range.1 hi
   rw[Bool.and_eq_true,decide_eq_true_eq]
   rintro⟨h1,h2⟩
   exact(bne_iff_ne.1 h2) (k3 i h1 hi)
  refine⟨λh1=>by simp[x2f,hno,h1],λh1=>?_⟩
  rw[x2f,hno,if_neg (by decide),if_neg h1]
  refine⟨?_,rfl⟩
  rw[k2,show min R.length P.length=P.length by omega]
end Go.Proofs.YtmijnbjlhnpokaaGreat
