/- The sets of so many numbers, one after another: what part.Sets hands over. No condition. -/
import Derived.Test.YtempacilejhbgaaGreatV8
set_option linter.unusedVariables false
set_option linter.unusedSimpArgs false
namespace Go.Proofs.YtempacilejhbgaaGreat
open Go Go.RowKit Eng
def w47 (a:Int):Nat->List Int
 | 0=>[]
 | k+1=>a :: w47 (a+1) k
theorem q4w (a:Int) (k:Nat):(w47 a k).length=k:=by
 induction k generalizing a with
 | zero=>rfl
 | succ k ih=>simp[w47,ih]
def qo4:Nat->Nat->Int->List (List Int)
 | _,0,_=>[[]]
 | 0,_+1,_=>[]
 | m+1,k+1,a=>(qo4 m k (a+1)).map (a :: ·)++qo4 m (k+1) (a+1)
def q3n (n:Int):List Int->Option (List Int)
 | []=>none
 | x :: t=>match q3n n t with
  | some t'=>some (x :: t')
  | none=>if x+t.length+1<n then some (w47 (x+1) (t.length+1)) else none
theorem wi1 {m k:Nat} {a:Int} {l:List Int} (h:l∈qo4 m k a):l.length=k:=by
 induction m generalizing k a l with
 | zero=>cases k with
  | zero=>simp[qo4] at h; simp[h]
  | succ k=>cases h
 | succ m ih=>cases k with
  | zero=>simp[qo4] at h; simp[h]
  | succ k=>
   rcases List.mem_append.1 h with h | h
   ·obtain⟨t,ht,rfl⟩:=List.mem_map.1 h
    simp[ih ht]
   ·exact ih h
structure InC (m k:Nat) (a:Int) (l:List Int):Prop where
 len:l.length=k
 lo:∀i,i<k->a+i<=nI l i
 hi:∀i,i<k->nI l i+(k-i:Nat)<=a+m
 asc:∀i,0<i->i<k->nI l (i-1)<nI l i
theorem qt2 (x:Int) (t:List Int):nI (x :: t) 0=x:=rfl
theorem qq9 (x:Int) (t:List Int) (i:Nat):nI (x :: t) (i+1)=nI t i:=rfl
theorem wx2 {m k:Nat} {a:Int} {l:List Int} (h:l∈qo4 m k a):InC m k a l:=by
 induction m generalizing k a l with
 | zero=>cases k with
  | zero=>simp[qo4] at h; subst h; exact⟨rfl,λi hi=>by omega,λi hi=>by omega,λi _ hi=>by omega⟩
  | succ k=>cases h
 | succ m ih=>cases k with
  | zero=>simp[qo4] at h; subst h; exact⟨rfl,λi hi=>by omega,λi hi=>by omega,λi _ hi=>by omega⟩
  | succ k=>
   rcases List.mem_append.1 h with h | h
   ·obtain⟨t,ht,rfl⟩:=List.mem_map.1 h
    have q:=ih ht
    refine⟨by simp[q.len],λi hi=>?_,λi hi=>?_,λi h0 hi=>?_⟩
    ·cases i with
     | zero=>rw[qt2]; omega
     | succ i=>rw[qq9]; have:=q.lo i (by omega); omega
    ·cases i with
     | zero=>
      rw[qt2]
      cases k with
      | zero=>omega
      | succ k=>have h1:=q.lo 0 (by omega); have h2:=q.hi 0 (by omega); omega
     | succ i=>rw[qq9]; have:=q.hi i (by omega); omega
    ·obtain⟨i,rfl⟩:∃q,i=q+1:=⟨i-1,by omega⟩
     rw[qq9,Nat.add_sub_cancel]
     cases i with
     | zero=>rw[qt2]; have:=q.lo 0 (by omega); omega
     | succ i=>rw[qq9]; have:=q.asc (i+1) (by omega) (by omega); simpa using this
   ·have q:=ih h
    exact⟨q.len,λi hi=>by have:=q.lo i hi; omega,λi hi=>by have:=q.hi i hi; omega,q.asc⟩
theorem w1s {m k:Nat} {a:Int} (h:m<k):qo4 m k a=[]:=by
 induction m generalizing k a with
 | zero=>cases k with
  | zero=>omega
  | succ k=>rfl
 | succ m ih=>cases k with
  | zero=>omega
  | succ k=>simp[qo4,ih (k:=k) (a:=a+1) (by omega),ih (k:=k+1) (a:=a+1) (by omega)]
theorem w1t (m:Nat) (a:Int):qo4 m 0 a=[[]]:=by cases m <;> rfl
theorem q77 {m k:Nat} {a:Int} (h:k<=m):(qo4 m k a)[0]? = some (w47 a k):=by
 induction m generalizing k a with
 | zero=>
  obtain rfl:k=0:=by omega
  rfl
 | succ m ih=>cases k with
  | zero=>rfl
  | succ k=>
   have:=ih (k:=k) (a:=a+1) (by omega)
   have hl:0<(qo4 m k (a+1)).length:=(List.getElem?_eq_some_iff.1 this).1
   rw[qo4,List.getElem?_append_left (by simpa using hl),List.getElem?_map,this]
   rfl
theorem w1u {m k:Nat} {a n:Int} (hn:n=a+m) {c:Nat} {l:List Int} (h:(qo4 m k a)[c]? = some l):q3n n l=(qo4 m k a)[c+1]?:=by
 induction m generalizing k a c l with
 | zero=>cases k with
  | zero=>
   have hc:=(List.getElem?_eq_some_iff.1 h).1
   simp[qo4] at hc
   subst hc
   simp[qo4] at h
   subst h
   rfl
  | succ k=>simp[qo4] at h
 | succ m ih=>cases k with
  | zero=>
   have hc:=(List.getElem?_eq_some_iff.1 h).1
   simp[qo4] at hc
   subst hc
   simp[qo4] at h
   subst h
   rfl
  | succ k=>
   rw[qo4] at h ⊢
   rcases Nat.lt_or_ge c ((qo4 m k (a+1)).map (a :: ·)).length with hlt | hge
   ·rw[List.getElem?_append_left hlt,List.getElem?_map] at h
    obtain⟨t,ht,rfl⟩:=Option.map_eq_some_iff.1 h
    have hi:=ih (by omega) ht
    have htl:=wi1 (List.mem_of_getElem? ht)
    have hcl:c<(qo4 m k (a+1)).length:=by simpa using hlt
    simp only[q3n,hi]
    rcases Nat.lt_or_ge (c+1) (qo4 m k (a+1)).length with h2 | h2
    ·rw[List.getElem?_eq_getElem h2,List.getElem?_append_left (by simpa using h2),List.getElem?_map,List.getElem?_eq_getElem h2]
     rfl
    ·rw[List.getElem?_eq_none h2,List.getElem?_append_right (by simpa using h2)]
     have e:c+1-((qo4 m k (a+1)).map (a :: ·)).length=0:=by simp; omega
     rw[e,htl]
     simp only
     by_cases hk:k+1<=m
     ·rw[q77 hk,if_pos (by omega)]
     ·rw[w1s (by omega),if_neg (by omega)]
      rfl
   ·rw[List.getElem?_append_right hge] at h
    rw[List.getElem?_append_right (by omega)]
    have:=ih (by omega) h
    rw[this]
    congr 1
    omega
def qh0 (n k:Int):List (List Int):=if k<=n then qo4 n.toNat k.toNat 0 else[]
theorem w48 (a:Int) (k i:Nat) (h:i<k):nI (w47 a k) i=a+i:=by
 induction k generalizing a i with
 | zero=>omega
 | succ k ih=>cases i with
  | zero=>simp[w47,qt2]
  | succ i=>rw[w47,qq9,ih _ _ (by omega)]; omega
theorem q3o {n:Int}:∀{l:List Int},(∀q:Nat,q<l.length->nI l q=n-l.length+q)->q3n n l=none
 | [],_=>rfl
 | x :: t,h=>by
  have h0:=h 0 (by simp)
  rw[qt2] at h0
  have ht:q3n n t=none:=q3o λq hq=>by
   have:=h (q+1) (by simpa using hq)
   rw[qq9] at this
   simp only[List.length_cons] at this
   omega
  simp only[q3n,ht]
  rw[if_neg]
  simp only[List.length_cons] at h0
  omega
theorem q78 {n:Int}:∀{l:List Int} {i:Nat},i<l.length->(∀q:Nat,i<q->q<l.length->nI l q=n-l.length+q)->nI l i<n-l.length+i->q3n n l=some (l.take i++w47 (nI l i+1) (l.length-i))
 | x :: t,0,_,h,h0=>by
  rw[qt2] at h0
  have ht:q3n n t=none:=q3o λq hq=>by
   have:=h (q+1) (by omega) (by simpa using hq)
   rw[qq9] at this
   simp only[List.length_cons] at this
   omega
  simp only[q3n,ht]
  simp only[List.length_cons] at h0
  rw[if_pos (by omega)]
  simp[qt2]
 | x :: t,i+1,hi,h,h0=>by
  have:=q78 (n:=n) (l:=t) (i:=i) (by simpa using hi) (λq h1 h2=>by
   have:=h (q+1) (by omega) (by simpa using h2)
   rw[qq9] at this
   simp only[List.length_cons] at this
   omega) (by
   rw[qq9] at h0
   simp only[List.length_cons] at h0
   omega)
  simp only[q3n,this,qq9,List.take_succ_cons,List.length_cons,Nat.add_sub_add_right,List.cons_append]
def w7d (l:List Int) (i:Nat):List Int:=l.take i++w47 (nI l i+1) (l.length-i)
theorem wx3 (l:List Int) (i:Nat) (hi:i<l.length):(w7d l i).length=l.length:=by
 simp[w7d,q4w]; omega
theorem q9w (l:List Int) (i q:Nat) (hi:i<l.length) (hq:q<l.length):nI (w7d l i) q=if q<i then nI l q else nI l i+1+(q-i:Nat):=by
 rw[qg5 _ _ (by rw[wx3 l i hi]; exact hq)]
 unfold w7d
 split
 ·rename_i h
  rw[List.getElem_append_left (by simp; omega),List.getElem_take,qg5 l q hq]
 ·rename_i h
  rw[List.getElem_append_right (by simp; omega)]
  have hl:(l.take i).length=i:=by simp; omega
  have:=w48 (nI l i+1) (l.length-i) (q-i) (by omega)
  rw[qg5 _ _ (by rw[q4w]; omega)] at this
  rw[<- this]
  congr 1
  omega
def mkC (l:List Int) (i j:Nat):List Int:=ovr (.int .i64) (nI (w7d l i)) l j
theorem q57 (l:List Int) (i j:Nat):(mkC l i j).length=l.length:=qq7 (.int .i64) _ _ _
theorem wx4 (l:List Int) (i j q:Nat) (hq:q<l.length):nI (mkC l i j) q=if q<j then nI (w7d l i) q else nI l q:=q4b (.int .i64) _ _ _ _ hq
theorem w49 {a b:List Int} (h:a.length=b.length) (k:∀i,i<a.length->nI a i=nI b i):a=b:=by
 apply List.ext_getElem h
 intro i h1 h2
 have:=k i h1
 rwa [qg5 _ _ h1,qg5 _ _ h2] at this
theorem w5a (l:List Int) (i:Nat) (hi:i<l.length):mkC l i (i+1)=l.set i (nI l i+1):=by
 apply w49 (by rw[q57,List.length_set])
 intro q hq
 rw[q57] at hq
 rw[wx4 _ _ _ _ hq,qg5 (l.set i (nI l i+1)) q (by rw[List.length_set]; exact hq),List.getElem_set,q9w _ _ _ hi hq]
 by_cases e:i=q
 ·subst e
  rw[if_pos (by omega),if_neg (Nat.lt_irrefl _),if_pos rfl]; simp
 ·rw[if_neg e,<- qg5 l q hq]
  by_cases h:q<i
  ·rw[if_pos (by omega),if_pos h]
  ·rw[if_neg (by omega)]
theorem w8z (l:List Int) (i j:Nat) (hi:i<j) (hj:j<l.length):(mkC l i j).set j (nI (mkC l i j) (j-1)+1)=mkC l i (j+1):=by
 have e:nI (mkC l i j) (j-1)+1=nI (w7d l i) j:=by
  rw[wx4 _ _ _ _ (by omega),if_pos (by omega),q9w _ _ _ (by omega) (by omega),q9w _ _ _ (by omega) hj,if_neg (by omega)]
  split <;> omega
 rw[e]
 exact qu1 (.int .i64) _ _ _
theorem xi4 (l:List Int) (i:Nat) (hi:i<l.length):mkC l i l.length=w7d l i:=by
 apply w49 (by rw[q57,wx3 l i hi])
 intro q hq
 rw[q57] at hq
 rw[wx4 _ _ _ _ hq,if_pos hq]
structure w5b (n k:Int) (c:Nat) (l:List Int):Prop where
 len:l.length=k.toNat
 at_:k<=n->(qh0 n k)[c]? = some l
 cnt:n<k->c=0
structure w80 (n k:Int) (l:List Int) (i:Int):Prop where
 lo:-1<=i
 hi:i<k
 last:∀q:Nat,i<q->q<l.length->nI l q=n-k+q
structure xi5 (l:List Int) (i j:Nat) (r:List Int):Prop where
 lo:i<j
 hi:j<=l.length
 eq:r=mkC l i j
abbrev xr7:q1i:=w8n [qd6,qd6] [qf2] (λx=>(0<=x.1/\x.1<=1000)/\0<=x.2.1/\x.2.1<=1000) (λx=>(qh0 x.2.1 x.1).map λl=>(l,())) (some 3)
def xr8 (n k:Int):Nat->Option Inv
 | 0=>some (Inv.of [4] 2 (λ_:Nat × List Int=>[(4,.own 1)]) (λs=>[.cnt (some s.1),.vec 3 (.int .i64) s.2]) (λs=>w5b n k s.1 s.2) (λs=>(qh0 n k).length+1-s.1))
 | 1=>some (Eng.Inv.mk (Nat × List Int) Int [4,5] 2 (λ_ i=>[(4,.own 1),(5,.lit (.int .i64 i))]) (λq i=>[.cnt (some q.1),.vec 3 (.int .i64) q.2]) (λq i=>w80 n k q.2 i) (λq i=>(i+1).toNat))
 | 2=>some (Eng.Inv.mk (Nat × List Int × Nat) (Nat × List Int) [4,6] 16 (λ_ s=>[(4,.own 1),(6,.lit (.int .i64 s.1))]) (λq s=>[.cnt (some q.1),.vec 3 (.int .i64) s.2,.dead,.dead,.dead,.dead,.dead,.dead,.dead,.dead,.dead,.dead,.dead,.dead,.dead,.dead]) (λq s=>xi5 q.2.1 q.2.2 s.1 s.2) (λq s=>q.2.1.length-s.1))
 | _=>none
theorem w81 (k:Nat):w47 0 k=qo9 k:=by
 apply w49 (by rw[q4w,qf5])
 intro i hi
 rw[q4w] at hi
 rw[w48 _ _ _ hi,q0j _ _ hi]; omega
theorem w5c {n k:Int} (hkn:k<=n) (hk:0<=k) {c:Nat} {l:List Int} (h:(qh0 n k)[c]? = some l):q3n n l=(qh0 n k)[c+1]?:=by
 unfold qh0 at h ⊢
 rw[if_pos hkn] at h ⊢
 exact w1u (by omega) h
theorem xi6 {n k:Int} {l:List Int} (h:l∈qh0 n k):InC n.toNat k.toNat 0 l:=by
 unfold qh0 at h
 split at h
 ·exact wx2 h
 ·cases h
theorem w1w:q1f Tryz.prog 110 xr7:=by
 refine says (snd (SpecsOk.cons q54 (SpecsOk.nil _))) Tryz.func110 rfl rfl rfl [12] (λx=>xr8 x.2.1 x.1) (λ_=>by kernel_rfl) (by decide) ?_
 rintro⟨k,n,⟨⟩⟩ l h
 revert k n
 intro(k:Int) (n:Int) (h:(0<=k/\k<=1000)/\0<=n/\n<=1000)
 refine @qe1 _ (let Q0:=qh0 n k; let Q1:=(k,n,PUnit.unit); k<=(100000:Ty.den qd6)/\∃(v0:Unit),∃(v1:Nat × List Int),w5b n k (Prod.fst v1) (Prod.snd v1)/\((True/\True)/\some (0:Nat)=some (Prod.fst v1)/\qo9 (Int.toNat k)=Prod.snd v1/\True)/\∀(v2:Nat × List Int),w5b n k (Prod.fst v2) (Prod.snd v2)->(decide (k<=n)=true->Value.func (Fn.yield l) #[] #[]=Value.func (Fn.yield (qk2.l (wo0 [qd6,qd6] [qf2] [(12:Nat)] Q1 (List.map (λ(v5:List Int)=>(v5,())) Q0) l (some (3:Nat))))) #[] #[]/\(qk2.L (wo0 [qd6,qd6] [qf2] [(12:Nat)] Q1 (List.map (λ(v5:List Int)=>(v5,())) Q0) l (some (3:Nat))))[Prod.fst v2]?=some (Prod.snd v2,())/\(fits .i64 (k-(1:Int))/\∃(v5:Nat × List Int),∃(v6:Int),w80 n k (Prod.snd v5) v6/\((True/\k-(1:Int)=v6/\True)/\some (Prod.fst v2+(1:Nat))=some (Prod.fst v5)/\Prod.snd v2=Prod.snd v5/\True)/\∀(v7:Int),w80 n k (Prod.snd v5) v7->(decide ((0:Int)<=v7)=true->((0:Int)<=v7/\v7<(↑(List.length (Prod.snd v5)):Int))/\Int.toNat v7<List.length (Prod.snd v5)/\fits .i64 (n-k)/\fits .i64 (n-k+v7)/\((qa1 (Ty.int .i64) (Prod.snd v5) (Int.toNat v7)==n-k+v7)=true->fits .i64 (v7-(1:Int))/\∃(v11:Int),w80 n k (Prod.snd v5) v11/\Int.toNat (v11+(1:Int))<Int.toNat (v7+(1:Int))/\(True/\v7-(1:Int)=v11/\True)/\some (Prod.fst v5)=some (Prod.fst v5)/\Prod.snd v5=Prod.snd v5/\True)/\((qa1 (Ty.int .i64) (Prod.snd v5) (Int.toNat v7)==n-k+v7)=false->(decide (v7<(0:Int))=true->Prod.fst v5=List.length (qk2.L (wo0 [qd6,qd6] [qf2] [(12:Nat)] Q1 (List.map (λ(v12:List Int)=>(v12,())) Q0) l (some (3:Nat)))))/\(decide (v7<(0:Int))=false->((0:Int)<=v7/\v7<(↑(List.length (Prod.snd v5)):Int))/\Int.toNat v7<List.length (Prod.snd v5)/\fits .i64 (qa1 (Ty.int .i64) (Prod.snd v5) (Int.toNat v7)+(1:Int))/\((0:Int)<=v7/\v7<(↑(List.length (Prod.snd v5)):Int))/\Int.toNat v7<List.length (Prod.snd v5)/\fits .i64 (v7+(1:Int))/\∃(v12:Nat × List Int × Nat),∃(v13:Nat × List Int),xi5 (Prod.fst (Prod.snd v12)) (Prod.snd (Prod.snd v12)) (Prod.fst v13) (Prod.snd v13)/\((True/\v7+(1:Int)=(↑(Prod.fst v13):Int)/\True)/\some (Prod.fst v5)=some (Prod.fst v12)/\List.set (Prod.snd v5) (Int.toNat v7) (qa1 (Ty.int .i64) (Prod.snd v5) (Int.toNat v7)+(1:Int))=Prod.snd v13/\True/\True/\True/\True/\True/\True/\True/\True/\True/\True/\True/\True/\True/\True/\True)/\∀(v14:Nat × List Int),xi5 (Prod.fst (Prod.snd v12)) (Prod.snd (Prod.snd v12)) (Prod.fst v14) (Prod.snd v14)->(decide ((↑(Prod.fst v14):Int)<k)=true->fits .i64 ((↑(Prod.fst v14):Int)-(1:Int))/\((0:Int)<=(↑(Prod.fst v14):Int)-(1:Int)/\(↑(Prod.fst v14):Int)-(1:Int)<(↑(List.length (Prod.snd v14)):Int))/\Int.toNat ((↑(Prod.fst v14):Int)-(1:Int))<List.length (Prod.snd v14)/\fits .i64 (qa1 (Ty.int .i64) (Prod.snd v14) (Int.toNat ((↑(Prod.fst v14):Int)-(1:Int)))+(1:Int))/\((0:Int)<=(↑(Prod.fst v14):Int)/\(↑(Prod.fst v14):Int)<(↑(List.length (Prod.snd v14)):Int))/\Int.toNat (↑(Prod.fst v14):Int)<List.length (Prod.snd v14)/\fits .i64 ((↑(Prod.fst v14):Int)+(1:Int))/\∃(v17:Nat × List Int),xi5 (Prod.fst (Prod.snd v12)) (Prod.snd (Prod.snd v12)) (Prod.fst v17) (Prod.snd v17)/\List.length (Prod.fst (Prod.snd v12))-Prod.fst v17<List.length (Prod.fst (Prod.snd v12))-Prod.fst v14/\(True/\(↑(Prod.fst v14):Int)+(1:Int)=(↑(Prod.fst v17):Int)/\True)/\some (Prod.fst v12)=some (Prod.fst v12)/\List.set (Prod.snd v14) (Int.toNat (↑(Prod.fst v14):Int)) (qa1 (Ty.int .i64) (Prod.snd v14) (Int.toNat ((↑(Prod.fst v14):Int)-(1:Int)))+(1:Int))=Prod.snd v17/\True/\True/\True/\True/\True/\True/\True/\True/\True/\True/\True/\True/\True/\True/\True)/\(decide ((↑(Prod.fst v14):Int)<k)=false->∃(v17:Nat × List Int),w5b n k (Prod.fst v17) (Prod.snd v17)/\List.length Q0+(1:Nat)-Prod.fst v17<List.length Q0+(1:Nat)-Prod.fst v2/\(True/\True)/\some (Prod.fst v12)=some (Prod.fst v17)/\Prod.snd v14=Prod.snd v17/\True))))/\(decide ((0:Int)<=v7)=false->(decide (v7<(0:Int))=true->Prod.fst v5=List.length (qk2.L (wo0 [qd6,qd6] [qf2] [(12:Nat)] Q1 (List.map (λ(v11:List Int)=>(v11,())) Q0) l (some (3:Nat)))))/\(decide (v7<(0:Int))=false->((0:Int)<=v7/\v7<(↑(List.length (Prod.snd v5)):Int))/\Int.toNat v7<List.length (Prod.snd v5)/\fits .i64 (qa1 (Ty.int .i64) (Prod.snd v5) (Int.toNat v7)+(1:Int))/\((0:Int)<=v7/\v7<(↑(List.length (Prod.snd v5)):Int))/\Int.toNat v7<List.length (Prod.snd v5)/\fits .i64 (v7+(1:Int))/\∃(v11:Nat × List Int × Nat),∃(v12:Nat × List Int),xi5 (Prod.fst (Prod.snd v11)) (Prod.snd (Prod.snd v11)) (Prod.fst v12) (Prod.snd v12)/\((True/\v7+(1:Int)=(↑(Prod.fst v12):Int)/\True)/\some (Prod.fst v5)=some (Prod.fst v11)/\List.set (Prod.snd v5) (Int.toNat v7) (qa1 (Ty.int .i64) (Prod.snd v5) (Int.toNat v7)+(1:Int))=Prod.snd v12/\True/\True/\True/\True/\True/\True/\True/\True/\True/\True/\True/\True/\True/\True/\True)/\∀(v13:Nat × List Int),xi5 (Prod.fst (Prod.snd v11)) (Prod.snd (Prod.snd v11)) (Prod.fst v13) (Prod.snd v13)->(decide ((↑(Prod.fst v13):Int)<k)=true->fits .i64 ((↑(Prod.fst v13):Int)-(1:Int))/\((0:Int)<=(↑(Prod.fst v13):Int)-(1:Int)/\(↑(Prod.fst v13):Int)-(1:Int)<(↑(List.length (Prod.snd v13)):Int))/\Int.toNat ((↑(Prod.fst v13):Int)-(1:Int))<List.length (Prod.snd v13)/\fits .i64 (qa1 (Ty.int .i64) (Prod.snd v13) (Int.toNat ((↑(Prod.fst v13):Int)-(1:Int)))+(1:Int))/\((0:Int)<=(↑(Prod.fst v13):Int)/\(↑(Prod.fst v13):Int)<(↑(List.length (Prod.snd v13)):Int))/\Int.toNat (↑(Prod.fst v13):Int)<List.length (Prod.snd v13)/\fits .i64 ((↑(Prod.fst v13):Int)+(1:Int))/\∃(v16:Nat × List Int),xi5 (Prod.fst (Prod.snd v11)) (Prod.snd (Prod.snd v11)) (Prod.fst v16) (Prod.snd v16)/\List.length (Prod.fst (Prod.snd v11))-Prod.fst v16<List.length (Prod.fst (Prod.snd v11))-Prod.fst v13/\(True/\(↑(Prod.fst v13):Int)+(1:Int)=(↑(Prod.fst v16):Int)/\True)/\some (Prod.fst v11)=some (Prod.fst v11)/\List.set (Prod.snd v13) (Int.toNat (↑(Prod.fst v13):Int)) (qa1 (Ty.int .i64) (Prod.snd v13) (Int.toNat ((↑(Prod.fst v13):Int)-(1:Int)))+(1:Int))=Prod.snd v16/\True/\True/\True/\True/\True/\True/\True/\True/\True/\True/\True/\True/\True/\True/\True)/\(decide ((↑(Prod.fst v13):Int)<k)=false->∃(v16:Nat × List Int),w5b n k (Prod.fst v16) (Prod.snd v16)/\List.length Q0+(1:Nat)-Prod.fst v16<List.length Q0+(1:Nat)-Prod.fst v2/\(True/\True)/\some (Prod.fst v11)=some (Prod.fst v16)/\Prod.snd v13=Prod.snd v16/\True))))/\True)/\(decide (k<=n)=false->Prod.fst v2=List.length (qk2.L (wo0 [qd6,qd6] [qf2] [(12:Nat)] Q1 (List.map (λ(v5:List Int)=>(v5,())) Q0) l (some (3:Nat)))))) (by kernel_rfl) ?_
 try simp only[z0,z1,z2,z3,z4,z5,z6,z7,z8,z9,z10,Int.reduceEq,z11,z12,z13,z14,z15,z16,z17,z18,z19,z20,z21,z22,z23,z24,z25,z26,z27,z28,z29,z30,Int.reduceLE,Int.reduceLT,z31,z32,z33,z34,qa4]
 try simp only[qb3,qb4,qb9,List.set_cons_zero,List.cons.injEq,and_true,true_and]
 obtain⟨⟨hk0,hk1⟩,hn0,hn1⟩:=h
 refine⟨by omega,(),(0,qo9 k.toNat),⟨qf5 _,λhkn=>?_,λ_=>rfl⟩,⟨rfl,rfl⟩,?_⟩
 ·unfold qh0
  rw[if_pos hkn,q77 (by omega),w81]
 rintro⟨c,s⟩ ⟨hl,ha,hz⟩
 dsimp only at hl ha hz ⊢
 refine⟨λhkn=>?_,λhkn=>?_⟩
 ·have hat:=ha hkn
  have hc:=(List.getElem?_eq_some_iff.1 hat).1
  have hin:=xi6 (List.mem_of_getElem? hat)
  have hnx:=w5c hkn hk0 hat
  have hmap:((qh0 n k).map λv=>((v,()):qa6 [qf2])).length=(qh0 n k).length:=List.length_map _
  refine⟨rfl,?_,qa7 (by omega) (by omega),(c+1,s),k-1,⟨by omega,by omega,λq h1 h2=>by dsimp only at h2; omega⟩,⟨rfl,rfl,rfl⟩,?_⟩
  ·show((qh0 n k).map λv=>((v,()):qa6 [qf2]))[c]? = some (s,())
   rw[List.getElem?_map,hat]; rfl
  rintro i ⟨lo,hi,last⟩
  dsimp only at lo hi last ⊢
  have fin:i<0->c+1=((qh0 n k).map λv=>((v,()):qa6 [qf2])).length:=λhneg=>by
   have hn:q3n n s=none:=q3o λq hq=>by rw[last q (by omega) hq]; omega
   rw[hn] at hnx
   have:=List.getElem?_eq_none_iff.1 hnx.symm
   omega
  refine⟨λhi0=>?_,λhi0=>⟨fin,λh=>by omega⟩⟩
  have hb1:=hin.lo i.toNat (by omega)
  have hb2:=hin.hi i.toNat (by omega)
  refine⟨by omega,by omega,qa7 (by omega) (by omega),qa7 (by omega) (by omega),λheq=>⟨qa7 (by omega) (by omega),i-1,⟨by omega,by omega,λq h1 h2=>?_⟩,by omega,rfl⟩,λhne=>⟨fin,λ_=>?_⟩⟩
  ·by_cases e:(q:Int)=i
   ·have:i.toNat=q:=by omega
    rw[this] at heq; rw[heq]; omega
   ·exact last q (by omega) h2
  have hil:i.toNat<s.length:=by omega
  refine⟨by omega,hil,qa7 (by omega) (by omega),by omega,hil,qa7 (by omega) (by omega),(c+1,s,i.toNat),(i.toNat+1,s.set i.toNat (nI s i.toNat+1)),⟨Nat.lt_succ_self _,hil,(w5a s i.toNat hil).symm⟩,⟨by dsimp only; omega,rfl,rfl⟩,?_⟩
  rintro⟨j,r⟩ ⟨h1,h2,h3⟩
  dsimp only at h1 h2 h3 ⊢
  have hrl:r.length=s.length:=by rw[h3,q57]
  refine⟨λhj=>?_,λhj=>?_⟩
  ·have e:((j:Int)-1).toNat=j-1:=by omega
   rw[e]
   have hv:nI r (j-1)=nI s i.toNat+1+(j-1-i.toNat:Nat):=by
    rw[h3,wx4 _ _ _ _ (by omega),if_pos (by omega),q9w _ _ _ hil (by omega),if_neg (by omega)]
   refine⟨qa7 (by omega) (by omega),by omega,by omega,qa7 (by omega) (by omega),by omega,by omega,qa7 (by omega) (by omega),(j+1,r.set j (nI r (j-1)+1)),⟨by dsimp only; omega,by dsimp only; omega,?_⟩,by dsimp only; omega,by dsimp only; omega,rfl⟩
   dsimp only
   rw[h3]
   exact w8z s i.toNat j h1 (by omega)
  ·have hjl:j=s.length:=by omega
   have hr:r=w7d s i.toNat:=by rw[h3,hjl,xi4 s i.toNat hil]
   have hlt2:nI s i.toNat<n-s.length+i.toNat:=by
    have h5:nI s i.toNat<n-k+i:=Int.lt_iff_le_and_ne.2 ⟨by omega,hne⟩
    omega
   have hst:q3n n s=some (w7d s i.toNat):=q78 hil (λq h1 h2=>by rw[last q (by omega) h2]; omega) hlt2
   refine⟨(c+1,r),⟨hrl.trans hl,λ_=>?_,λh=>absurd (Int.lt_of_lt_of_le h hkn) (Int.lt_irrefl _)⟩,Nat.sub_lt_sub_left (Nat.lt_succ_of_lt hc) (Nat.lt_succ_self c),rfl,rfl⟩
   dsimp only
   rw[<- hnx,hst,hr]
 ·show c=((qh0 n k).map λv=>((v,()):qa6 [qf2])).length
  rw[List.length_map,hz hkn]
  unfold qh0
  rw[if_neg (by omega)]
  rfl
end Go.Proofs.YtempacilejhbgaaGreat
