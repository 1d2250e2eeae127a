/- The sets of so many numbers, one after another: what part.Sets hands over. No condition. -/
import Derived.Test.YtempacilejhbgaaV8
set_option linter.unusedVariables false
set_option linter.unusedSimpArgs false
namespace Go.Proofs.Ytempacilejhbgaa
open Go Go.RowKit Eng
def w31 (a:Int):Nat->List Int
 | 0=>[]
 | k+1=>a :: w31 (a+1) k
theorem q39 (a:Int) (k:Nat):(w31 a k).length=k:=by
 induction k generalizing a with
 | zero=>rfl
 | succ k ih=>simp[w31,ih]
def qm4:Nat->Nat->Int->List (List Int)
 | _,0,_=>[[]]
 | 0,_+1,_=>[]
 | m+1,k+1,a=>(qm4 m k (a+1)).map (a :: ·)++qm4 m (k+1) (a+1)
def q25 (n:Int):List Int->Option (List Int)
 | []=>none
 | x :: t=>match q25 n t with
  | some t'=>some (x :: t')
  | none=>if x+t.length+1<n then some (w31 (x+1) (t.length+1)) else none
theorem we3 {m k:Nat} {a:Int} {l:List Int} (h:l∈qm4 m k a):l.length=k:=by
 induction m generalizing k a l with
 | zero=>cases k with
  | zero=>simp[qm4] at h; simp[h]
  | succ k=>cases h
 | succ m ih=>cases k with
  | zero=>simp[qm4] at h; simp[h]
  | succ k=>
   rcases List.mem_append.1 h with h | h
   ·obtain⟨t,ht,rfl⟩:=List.mem_map.1 h
    simp[ih ht]
   ·exact ih h
structure InC (m k:Nat) (a:Int) (l:List Int):Prop where
 len:l.length=k
 lo:∀i,i<k->a+i<=nI l i
 hi:∀i,i<k->nI l i+(k-i:Nat)<=a+m
 asc:∀i,0<i->i<k->nI l (i-1)<nI l i
theorem qr4 (x:Int) (t:List Int):nI (x :: t) 0=x:=rfl
theorem qp0 (x:Int) (t:List Int) (i:Nat):nI (x :: t) (i+1)=nI t i:=rfl
theorem ws6 {m k:Nat} {a:Int} {l:List Int} (h:l∈qm4 m k a):InC m k a l:=by
 induction m generalizing k a l with
 | zero=>cases k with
  | zero=>simp[qm4] at h; subst h; exact⟨rfl,λi hi=>by omega,λi hi=>by omega,λi _ hi=>by omega⟩
  | succ k=>cases h
 | succ m ih=>cases k with
  | zero=>simp[qm4] at h; subst h; exact⟨rfl,λi hi=>by omega,λi hi=>by omega,λi _ hi=>by omega⟩
  | succ k=>
   rcases List.mem_append.1 h with h | h
   ·obtain⟨t,ht,rfl⟩:=List.mem_map.1 h
    have q:=ih ht
    refine⟨by simp[q.len],λi hi=>?_,λi hi=>?_,λi h0 hi=>?_⟩
    ·cases i with
     | zero=>rw[qr4]; omega
     | succ i=>rw[qp0]; have:=q.lo i (by omega); omega
    ·cases i with
     | zero=>
      rw[qr4]
      cases k with
      | zero=>omega
      | succ k=>have h1:=q.lo 0 (by omega); have h2:=q.hi 0 (by omega); omega
     | succ i=>rw[qp0]; have:=q.hi i (by omega); omega
    ·obtain⟨i,rfl⟩:∃q,i=q+1:=⟨i-1,by omega⟩
     rw[qp0,Nat.add_sub_cancel]
     cases i with
     | zero=>rw[qr4]; have:=q.lo 0 (by omega); omega
     | succ i=>rw[qp0]; have:=q.asc (i+1) (by omega) (by omega); simpa using this
   ·have q:=ih h
    exact⟨q.len,λi hi=>by have:=q.lo i hi; omega,λi hi=>by have:=q.hi i hi; omega,q.asc⟩
theorem w0n {m k:Nat} {a:Int} (h:m<k):qm4 m k a=[]:=by
 induction m generalizing k a with
 | zero=>cases k with
  | zero=>omega
  | succ k=>rfl
 | succ m ih=>cases k with
  | zero=>omega
  | succ k=>simp[qm4,ih (k:=k) (a:=a+1) (by omega),ih (k:=k+1) (a:=a+1) (by omega)]
theorem w0o (m:Nat) (a:Int):qm4 m 0 a=[[]]:=by cases m <;> rfl
theorem q7n {m k:Nat} {a:Int} (h:k<=m):(qm4 m k a)[0]? = some (w31 a k):=by
 induction m generalizing k a with
 | zero=>
  obtain rfl:k=0:=by omega
  rfl
 | succ m ih=>cases k with
  | zero=>rfl
  | succ k=>
   have:=ih (k:=k) (a:=a+1) (by omega)
   have hl:0<(qm4 m k (a+1)).length:=(List.getElem?_eq_some_iff.1 this).1
   rw[qm4,List.getElem?_append_left (by simpa using hl),List.getElem?_map,this]
   rfl
theorem w0p {m k:Nat} {a n:Int} (hn:n=a+m) {c:Nat} {l:List Int} (h:(qm4 m k a)[c]? = some l):q25 n l=(qm4 m k a)[c+1]?:=by
 induction m generalizing k a c l with
 | zero=>cases k with
  | zero=>
   have hc:=(List.getElem?_eq_some_iff.1 h).1
   simp[qm4] at hc
   subst hc
   simp[qm4] at h
   subst h
   rfl
  | succ k=>simp[qm4] at h
 | succ m ih=>cases k with
  | zero=>
   have hc:=(List.getElem?_eq_some_iff.1 h).1
   simp[qm4] at hc
   subst hc
   simp[qm4] at h
   subst h
   rfl
  | succ k=>
   rw[qm4] at h ⊢
   rcases Nat.lt_or_ge c ((qm4 m k (a+1)).map (a :: ·)).length with hlt | hge
   ·rw[List.getElem?_append_left hlt,List.getElem?_map] at h
    obtain⟨t,ht,rfl⟩:=Option.map_eq_some_iff.1 h
    have hi:=ih (by omega) ht
    have htl:=we3 (List.mem_of_getElem? ht)
    have hcl:c<(qm4 m k (a+1)).length:=by simpa using hlt
    simp only[q25,hi]
    rcases Nat.lt_or_ge (c+1) (qm4 m k (a+1)).length with h2 | h2
    ·rw[List.getElem?_eq_getElem h2,List.getElem?_append_left (by simpa using h2),List.getElem?_map,List.getElem?_eq_getElem h2]
     rfl
    ·rw[List.getElem?_eq_none h2,List.getElem?_append_right (by simpa using h2)]
     have e:c+1-((qm4 m k (a+1)).map (a :: ·)).length=0:=by simp; omega
     rw[e,htl]
     simp only
     by_cases hk:k+1<=m
     ·rw[q7n hk,if_pos (by omega)]
     ·rw[w0n (by omega),if_neg (by omega)]
      rfl
   ·rw[List.getElem?_append_right hge] at h
    rw[List.getElem?_append_right (by omega)]
    have:=ih (by omega) h
    rw[this]
    congr 1
    omega
def qg1 (n k:Int):List (List Int):=if k<=n then qm4 n.toNat k.toNat 0 else[]
theorem w33 (a:Int) (k i:Nat) (h:i<k):nI (w31 a k) i=a+i:=by
 induction k generalizing a i with
 | zero=>omega
 | succ k ih=>cases i with
  | zero=>simp[w31,qr4]
  | succ i=>rw[w31,qp0,ih _ _ (by omega)]; omega
theorem q26 {n:Int}:∀{l:List Int},(∀q:Nat,q<l.length->nI l q=n-l.length+q)->q25 n l=none
 | [],_=>rfl
 | x :: t,h=>by
  have h0:=h 0 (by simp)
  rw[qr4] at h0
  have ht:q25 n t=none:=q26 λq hq=>by
   have:=h (q+1) (by simpa using hq)
   rw[qp0] at this
   simp only[List.length_cons] at this
   omega
  simp only[q25,ht]
  rw[if_neg]
  simp only[List.length_cons] at h0
  omega
theorem q7o {n:Int}:∀{l:List Int} {i:Nat},i<l.length->(∀q:Nat,i<q->q<l.length->nI l q=n-l.length+q)->nI l i<n-l.length+i->q25 n l=some (l.take i++w31 (nI l i+1) (l.length-i))
 | x :: t,0,_,h,h0=>by
  rw[qr4] at h0
  have ht:q25 n t=none:=q26 λq hq=>by
   have:=h (q+1) (by omega) (by simpa using hq)
   rw[qp0] at this
   simp only[List.length_cons] at this
   omega
  simp only[q25,ht]
  simp only[List.length_cons] at h0
  rw[if_pos (by omega)]
  simp[qr4]
 | x :: t,i+1,hi,h,h0=>by
  have:=q7o (n:=n) (l:=t) (i:=i) (by simpa using hi) (λq h1 h2=>by
   have:=h (q+1) (by omega) (by simpa using h2)
   rw[qp0] at this
   simp only[List.length_cons] at this
   omega) (by
   rw[qp0] at h0
   simp only[List.length_cons] at h0
   omega)
  simp only[q25,this,qp0,List.take_succ_cons,List.length_cons,Nat.add_sub_add_right,List.cons_append]
def w59 (l:List Int) (i:Nat):List Int:=l.take i++w31 (nI l i+1) (l.length-i)
theorem ws7 (l:List Int) (i:Nat) (hi:i<l.length):(w59 l i).length=l.length:=by
 simp[w59,q39]; omega
theorem q89 (l:List Int) (i q:Nat) (hi:i<l.length) (hq:q<l.length):nI (w59 l i) q=if q<i then nI l q else nI l i+1+(q-i:Nat):=by
 rw[qf9 _ _ (by rw[ws7 l i hi]; exact hq)]
 unfold w59
 split
 ·rename_i h
  rw[List.getElem_append_left (by simp; omega),List.getElem_take,qf9 l q hq]
 ·rename_i h
  rw[List.getElem_append_right (by simp; omega)]
  have hl:(l.take i).length=i:=by simp; omega
  have:=w33 (nI l i+1) (l.length-i) (q-i) (by omega)
  rw[qf9 _ _ (by rw[q39]; omega)] at this
  rw[<- this]
  congr 1
  omega
def mkC (l:List Int) (i j:Nat):List Int:=ovr (.int .i64) (nI (w59 l i)) l j
theorem q5m (l:List Int) (i j:Nat):(mkC l i j).length=l.length:=qr3 (.int .i64) _ _ _
theorem ws8 (l:List Int) (i j q:Nat) (hq:q<l.length):nI (mkC l i j) q=if q<j then nI (w59 l i) q else nI l q:=q5e (.int .i64) _ _ _ _ hq
theorem w34 {a b:List Int} (h:a.length=b.length) (k:∀i,i<a.length->nI a i=nI b i):a=b:=by
 apply List.ext_getElem h
 intro i h1 h2
 have:=k i h1
 rwa [qf9 _ _ h1,qf9 _ _ h2] at this
theorem w35 (l:List Int) (i:Nat) (hi:i<l.length):mkC l i (i+1)=l.set i (nI l i+1):=by
 apply w34 (by rw[q5m,List.length_set])
 intro q hq
 rw[q5m] at hq
 rw[ws8 _ _ _ _ hq,qf9 (l.set i (nI l i+1)) q (by rw[List.length_set]; exact hq),List.getElem_set,q89 _ _ _ hi hq]
 by_cases e:i=q
 ·subst e
  rw[if_pos (by omega),if_neg (Nat.lt_irrefl _),if_pos rfl]; simp
 ·rw[if_neg e,<- qf9 l q hq]
  by_cases h:q<i
  ·rw[if_pos (by omega),if_pos h]
  ·rw[if_neg (by omega)]
theorem w7w (l:List Int) (i j:Nat) (hi:i<j) (hj:j<l.length):(mkC l i j).set j (nI (mkC l i j) (j-1)+1)=mkC l i (j+1):=by
 have e:nI (mkC l i j) (j-1)+1=nI (w59 l i) j:=by
  rw[ws8 _ _ _ _ (by omega),if_pos (by omega),q89 _ _ _ (by omega) (by omega),q89 _ _ _ (by omega) hj,if_neg (by omega)]
  split <;> omega
 rw[e]
 exact qw7 (.int .i64) _ _ _
theorem xe2 (l:List Int) (i:Nat) (hi:i<l.length):mkC l i l.length=w59 l i:=by
 apply w34 (by rw[q5m,ws7 l i hi])
 intro q hq
 rw[q5m] at hq
 rw[ws8 _ _ _ _ hq,if_pos hq]
structure w36 (n k:Int) (c:Nat) (l:List Int):Prop where
 len:l.length=k.toNat
 at_:k<=n->(qg1 n k)[c]? = some l
 cnt:n<k->c=0
structure w7x (n k:Int) (l:List Int) (i:Int):Prop where
 lo:-1<=i
 hi:i<k
 last:∀q:Nat,i<q->q<l.length->nI l q=n-k+q
structure xe3 (l:List Int) (i j:Nat) (r:List Int):Prop where
 lo:i<j
 hi:j<=l.length
 eq:r=mkC l i j
abbrev xl4:q0x:=w7j [qe4,qe4] [qf7] (λx=>(0<=x.1/\x.1<=1000)/\0<=x.2.1/\x.2.1<=1000) (λx=>(qg1 x.2.1 x.1).map λl=>(l,())) (some 3)
def xl5 (n k:Int):Nat->Option Inv
 | 0=>some (Inv.of [4] 2 (λ_:Nat × List Int=>[(4,.own 1)]) (λs=>[.cnt (some s.1),.vec 3 (.int .i64) s.2]) (λs=>w36 n k s.1 s.2) (λs=>(qg1 n k).length+1-s.1))
 | 1=>some (Eng.Inv.mk (Nat × List Int) Int [4,5] 2 (λ_ i=>[(4,.own 1),(5,.lit (.int .i64 i))]) (λq i=>[.cnt (some q.1),.vec 3 (.int .i64) q.2]) (λq i=>w7x n k q.2 i) (λq i=>(i+1).toNat))
 | 2=>some (Eng.Inv.mk (Nat × List Int × Nat) (Nat × List Int) [4,6] 16 (λ_ s=>[(4,.own 1),(6,.lit (.int .i64 s.1))]) (λq s=>[.cnt (some q.1),.vec 3 (.int .i64) s.2,.dead,.dead,.dead,.dead,.dead,.dead,.dead,.dead,.dead,.dead,.dead,.dead,.dead,.dead]) (λq s=>xe3 q.2.1 q.2.2 s.1 s.2) (λq s=>q.2.1.length-s.1))
 | _=>none
theorem w7y (k:Nat):w31 0 k=qm5 k:=by
 apply w34 (by rw[q39,qe5])
 intro i hi
 rw[q39] at hi
 rw[w33 _ _ _ hi,qz3 _ _ hi]; omega
theorem w37 {n k:Int} (hkn:k<=n) (hk:0<=k) {c:Nat} {l:List Int} (h:(qg1 n k)[c]? = some l):q25 n l=(qg1 n k)[c+1]?:=by
 unfold qg1 at h ⊢
 rw[if_pos hkn] at h ⊢
 exact w0p (by omega) h
theorem xe4 {n k:Int} {l:List Int} (h:l∈qg1 n k):InC n.toNat k.toNat 0 l:=by
 unfold qg1 at h
 split at h
 ·exact ws6 h
 ·cases h
theorem w0q:q0s Try.prog 69 xl4:=by
 refine says (snd (SpecsOk.cons q5i (SpecsOk.nil _))) Try.func69 rfl rfl rfl [12] (λx=>xl5 x.2.1 x.1) (λ_=>by kernel_rfl) (by decide) ?_
 rintro⟨k,n,⟨⟩⟩ l h
 revert k n
 intro(k:Int) (n:Int) (h:(0<=k/\k<=1000)/\0<=n/\n<=1000)
 refine @qf1 _ (let Q0:=qg1 n k; let Q1:=(k,n,PUnit.unit); k<=(100000:Ty.den qe4)/\∃(v0:Unit),∃(v1:Nat × List Int),w36 n k (Prod.fst v1) (Prod.snd v1)/\((True/\True)/\some (0:Nat)=some (Prod.fst v1)/\qm5 (Int.toNat k)=Prod.snd v1/\True)/\∀(v2:Nat × List Int),w36 n k (Prod.fst v2) (Prod.snd v2)->(decide (k<=n)=true->Value.func (Fn.yield l) #[] #[]=Value.func (Fn.yield (qi7.l (wk5 [qe4,qe4] [qf7] [(12:Nat)] Q1 (List.map (λ(v5:List Int)=>(v5,())) Q0) l (some (3:Nat))))) #[] #[]/\(qi7.L (wk5 [qe4,qe4] [qf7] [(12:Nat)] Q1 (List.map (λ(v5:List Int)=>(v5,())) Q0) l (some (3:Nat))))[Prod.fst v2]?=some (Prod.snd v2,())/\(fits .i64 (k-(1:Int))/\∃(v5:Nat × List Int),∃(v6:Int),w7x n k (Prod.snd v5) v6/\((True/\k-(1:Int)=v6/\True)/\some (Prod.fst v2+(1:Nat))=some (Prod.fst v5)/\Prod.snd v2=Prod.snd v5/\True)/\∀(v7:Int),w7x n k (Prod.snd v5) v7->(decide ((0:Int)<=v7)=true->((0:Int)<=v7/\v7<(↑(List.length (Prod.snd v5)):Int))/\Int.toNat v7<List.length (Prod.snd v5)/\fits .i64 (n-k)/\fits .i64 (n-k+v7)/\((qa3 (Ty.int .i64) (Prod.snd v5) (Int.toNat v7)==n-k+v7)=true->fits .i64 (v7-(1:Int))/\∃(v11:Int),w7x n k (Prod.snd v5) v11/\Int.toNat (v11+(1:Int))<Int.toNat (v7+(1:Int))/\(True/\v7-(1:Int)=v11/\True)/\some (Prod.fst v5)=some (Prod.fst v5)/\Prod.snd v5=Prod.snd v5/\True)/\((qa3 (Ty.int .i64) (Prod.snd v5) (Int.toNat v7)==n-k+v7)=false->(decide (v7<(0:Int))=true->Prod.fst v5=List.length (qi7.L (wk5 [qe4,qe4] [qf7] [(12:Nat)] Q1 (List.map (λ(v12:List Int)=>(v12,())) Q0) l (some (3:Nat)))))/\(decide (v7<(0:Int))=false->((0:Int)<=v7/\v7<(↑(List.length (Prod.snd v5)):Int))/\Int.toNat v7<List.length (Prod.snd v5)/\fits .i64 (qa3 (Ty.int .i64) (Prod.snd v5) (Int.toNat v7)+(1:Int))/\((0:Int)<=v7/\v7<(↑(List.length (Prod.snd v5)):Int))/\Int.toNat v7<List.length (Prod.snd v5)/\fits .i64 (v7+(1:Int))/\∃(v12:Nat × List Int × Nat),∃(v13:Nat × List Int),xe3 (Prod.fst (Prod.snd v12)) (Prod.snd (Prod.snd v12)) (Prod.fst v13) (Prod.snd v13)/\((True/\v7+(1:Int)=(↑(Prod.fst v13):Int)/\True)/\some (Prod.fst v5)=some (Prod.fst v12)/\List.set (Prod.snd v5) (Int.toNat v7) (qa3 (Ty.int .i64) (Prod.snd v5) (Int.toNat v7)+(1:Int))=Prod.snd v13/\True/\True/\True/\True/\True/\True/\True/\True/\True/\True/\True/\True/\True/\True/\True)/\∀(v14:Nat × List Int),xe3 (Prod.fst (Prod.snd v12)) (Prod.snd (Prod.snd v12)) (Prod.fst v14) (Prod.snd v14)->(decide ((↑(Prod.fst v14):Int)<k)=true->fits .i64 ((↑(Prod.fst v14):Int)-(1:Int))/\((0:Int)<=(↑(Prod.fst v14):Int)-(1:Int)/\(↑(Prod.fst v14):Int)-(1:Int)<(↑(List.length (Prod.snd v14)):Int))/\Int.toNat ((↑(Prod.fst v14):Int)-(1:Int))<List.length (Prod.snd v14)/\fits .i64 (qa3 (Ty.int .i64) (Prod.snd v14) (Int.toNat ((↑(Prod.fst v14):Int)-(1:Int)))+(1:Int))/\((0:Int)<=(↑(Prod.fst v14):Int)/\(↑(Prod.fst v14):Int)<(↑(List.length (Prod.snd v14)):Int))/\Int.toNat (↑(Prod.fst v14):Int)<List.length (Prod.snd v14)/\fits .i64 ((↑(Prod.fst v14):Int)+(1:Int))/\∃(v17:Nat × List Int),xe3 (Prod.fst (Prod.snd v12)) (Prod.snd (Prod.snd v12)) (Prod.fst v17) (Prod.snd v17)/\List.length (Prod.fst (Prod.snd v12))-Prod.fst v17<List.length (Prod.fst (Prod.snd v12))-Prod.fst v14/\(True/\(↑(Prod.fst v14):Int)+(1:Int)=(↑(Prod.fst v17):Int)/\True)/\some (Prod.fst v12)=some (Prod.fst v12)/\List.set (Prod.snd v14) (Int.toNat (↑(Prod.fst v14):Int)) (qa3 (Ty.int .i64) (Prod.snd v14) (Int.toNat ((↑(Prod.fst v14):Int)-(1:Int)))+(1:Int))=Prod.snd v17/\True/\True/\True/\True/\True/\True/\True/\True/\True/\True/\True/\True/\True/\True/\True)/\(decide ((↑(Prod.fst v14):Int)<k)=false->∃(v17:Nat × List Int),w36 n k (Prod.fst v17) (Prod.snd v17)/\List.length Q0+(1:Nat)-Prod.fst v17<List.length Q0+(1:Nat)-Prod.fst v2/\(True/\True)/\some (Prod.fst v12)=some (Prod.fst v17)/\Prod.snd v14=Prod.snd v17/\True))))/\(decide ((0:Int)<=v7)=false->(decide (v7<(0:Int))=true->Prod.fst v5=List.length (qi7.L (wk5 [qe4,qe4] [qf7] [(12:Nat)] Q1 (List.map (λ(v11:List Int)=>(v11,())) Q0) l (some (3:Nat)))))/\(decide (v7<(0:Int))=false->((0:Int)<=v7/\v7<(↑(List.length (Prod.snd v5)):Int))/\Int.toNat v7<List.length (Prod.snd v5)/\fits .i64 (qa3 (Ty.int .i64) (Prod.snd v5) (Int.toNat v7)+(1:Int))/\((0:Int)<=v7/\v7<(↑(List.length (Prod.snd v5)):Int))/\Int.toNat v7<List.length (Prod.snd v5)/\fits .i64 (v7+(1:Int))/\∃(v11:Nat × List Int × Nat),∃(v12:Nat × List Int),xe3 (Prod.fst (Prod.snd v11)) (Prod.snd (Prod.snd v11)) (Prod.fst v12) (Prod.snd v12)/\((True/\v7+(1:Int)=(↑(Prod.fst v12):Int)/\True)/\some (Prod.fst v5)=some (Prod.fst v11)/\List.set (Prod.snd v5) (Int.toNat v7) (qa3 (Ty.int .i64) (Prod.snd v5) (Int.toNat v7)+(1:Int))=Prod.snd v12/\True/\True/\True/\True/\True/\True/\True/\True/\True/\True/\True/\True/\True/\True/\True)/\∀(v13:Nat × List Int),xe3 (Prod.fst (Prod.snd v11)) (Prod.snd (Prod.snd v11)) (Prod.fst v13) (Prod.snd v13)->(decide ((↑(Prod.fst v13):Int)<k)=true->fits .i64 ((↑(Prod.fst v13):Int)-(1:Int))/\((0:Int)<=(↑(Prod.fst v13):Int)-(1:Int)/\(↑(Prod.fst v13):Int)-(1:Int)<(↑(List.length (Prod.snd v13)):Int))/\Int.toNat ((↑(Prod.fst v13):Int)-(1:Int))<List.length (Prod.snd v13)/\fits .i64 (qa3 (Ty.int .i64) (Prod.snd v13) (Int.toNat ((↑(Prod.fst v13):Int)-(1:Int)))+(1:Int))/\((0:Int)<=(↑(Prod.fst v13):Int)/\(↑(Prod.fst v13):Int)<(↑(List.length (Prod.snd v13)):Int))/\Int.toNat (↑(Prod.fst v13):Int)<List.length (Prod.snd v13)/\fits .i64 ((↑(Prod.fst v13):Int)+(1:Int))/\∃(v16:Nat × List Int),xe3 (Prod.fst (Prod.snd v11)) (Prod.snd (Prod.snd v11)) (Prod.fst v16) (Prod.snd v16)/\List.length (Prod.fst (Prod.snd v11))-Prod.fst v16<List.length (Prod.fst (Prod.snd v11))-Prod.fst v13/\(True/\(↑(Prod.fst v13):Int)+(1:Int)=(↑(Prod.fst v16):Int)/\True)/\some (Prod.fst v11)=some (Prod.fst v11)/\List.set (Prod.snd v13) (Int.toNat (↑(Prod.fst v13):Int)) (qa3 (Ty.int .i64) (Prod.snd v13) (Int.toNat ((↑(Prod.fst v13):Int)-(1:Int)))+(1:Int))=Prod.snd v16/\True/\True/\True/\True/\True/\True/\True/\True/\True/\True/\True/\True/\True/\True/\True)/\(decide ((↑(Prod.fst v13):Int)<k)=false->∃(v16:Nat × List Int),w36 n k (Prod.fst v16) (Prod.snd v16)/\List.length Q0+(1:Nat)-Prod.fst v16<List.length Q0+(1:Nat)-Prod.fst v2/\(True/\True)/\some (Prod.fst v11)=some (Prod.fst v16)/\Prod.snd v13=Prod.snd v16/\True))))/\True)/\(decide (k<=n)=false->Prod.fst v2=List.length (qi7.L (wk5 [qe4,qe4] [qf7] [(12:Nat)] Q1 (List.map (λ(v5:List Int)=>(v5,())) Q0) l (some (3:Nat)))))) (by kernel_rfl) ?_
 try simp only[z0,z1,z2,z3,z4,z5,z6,z7,z8,z9,z10,Int.reduceEq,z11,z12,z13,z14,z15,z16,z17,z18,z19,z20,z21,z22,z23,z24,z25,z26,z27,z28,z29,z30,Int.reduceLE,Int.reduceLT,z31,z32,z33,z34,qa6]
 try simp only[qb6,qb7,qd0,List.set_cons_zero,List.cons.injEq,and_true,true_and]
 obtain⟨⟨hk0,hk1⟩,hn0,hn1⟩:=h
 refine⟨by omega,(),(0,qm5 k.toNat),⟨qe5 _,λhkn=>?_,λ_=>rfl⟩,⟨rfl,rfl⟩,?_⟩
 ·unfold qg1
  rw[if_pos hkn,q7n (by omega),w7y]
 rintro⟨c,s⟩ ⟨hl,ha,hz⟩
 dsimp only at hl ha hz ⊢
 refine⟨λhkn=>?_,λhkn=>?_⟩
 ·have hat:=ha hkn
  have hc:=(List.getElem?_eq_some_iff.1 hat).1
  have hin:=xe4 (List.mem_of_getElem? hat)
  have hnx:=w37 hkn hk0 hat
  have hmap:((qg1 n k).map λv=>((v,()):qa5 [qf7])).length=(qg1 n k).length:=List.length_map _
  refine⟨rfl,?_,qb8 (by omega) (by omega),(c+1,s),k-1,⟨by omega,by omega,λq h1 h2=>by dsimp only at h2; omega⟩,⟨rfl,rfl,rfl⟩,?_⟩
  ·show((qg1 n k).map λv=>((v,()):qa5 [qf7]))[c]? = some (s,())
   rw[List.getElem?_map,hat]; rfl
  rintro i ⟨lo,hi,last⟩
  dsimp only at lo hi last ⊢
  have fin:i<0->c+1=((qg1 n k).map λv=>((v,()):qa5 [qf7])).length:=λhneg=>by
   have hn:q25 n s=none:=q26 λq hq=>by rw[last q (by omega) hq]; omega
   rw[hn] at hnx
   have:=List.getElem?_eq_none_iff.1 hnx.symm
   omega
  refine⟨λhi0=>?_,λhi0=>⟨fin,λh=>by omega⟩⟩
  have hb1:=hin.lo i.toNat (by omega)
  have hb2:=hin.hi i.toNat (by omega)
  refine⟨by omega,by omega,qb8 (by omega) (by omega),qb8 (by omega) (by omega),λheq=>⟨qb8 (by omega) (by omega),i-1,⟨by omega,by omega,λq h1 h2=>?_⟩,by omega,rfl⟩,λhne=>⟨fin,λ_=>?_⟩⟩
  ·by_cases e:(q:Int)=i
   ·have:i.toNat=q:=by omega
    rw[this] at heq; rw[heq]; omega
   ·exact last q (by omega) h2
  have hil:i.toNat<s.length:=by omega
  refine⟨by omega,hil,qb8 (by omega) (by omega),by omega,hil,qb8 (by omega) (by omega),(c+1,s,i.toNat),(i.toNat+1,s.set i.toNat (nI s i.toNat+1)),⟨Nat.lt_succ_self _,hil,(w35 s i.toNat hil).symm⟩,⟨by dsimp only; omega,rfl,rfl⟩,?_⟩
  rintro⟨j,r⟩ ⟨h1,h2,h3⟩
  dsimp only at h1 h2 h3 ⊢
  have hrl:r.length=s.length:=by rw[h3,q5m]
  refine⟨λhj=>?_,λhj=>?_⟩
  ·have e:((j:Int)-1).toNat=j-1:=by omega
   rw[e]
   have hv:nI r (j-1)=nI s i.toNat+1+(j-1-i.toNat:Nat):=by
    rw[h3,ws8 _ _ _ _ (by omega),if_pos (by omega),q89 _ _ _ hil (by omega),if_neg (by omega)]
   refine⟨qb8 (by omega) (by omega),by omega,by omega,qb8 (by omega) (by omega),by omega,by omega,qb8 (by omega) (by omega),(j+1,r.set j (nI r (j-1)+1)),⟨by dsimp only; omega,by dsimp only; omega,?_⟩,by dsimp only; omega,by dsimp only; omega,rfl⟩
   dsimp only
   rw[h3]
   exact w7w s i.toNat j h1 (by omega)
  ·have hjl:j=s.length:=by omega
   have hr:r=w59 s i.toNat:=by rw[h3,hjl,xe2 s i.toNat hil]
   have hlt2:nI s i.toNat<n-s.length+i.toNat:=by
    have h5:nI s i.toNat<n-k+i:=Int.lt_iff_le_and_ne.2 ⟨by omega,hne⟩
    omega
   have hst:q25 n s=some (w59 s i.toNat):=q7o hil (λq h1 h2=>by rw[last q (by omega) h2]; omega) hlt2
   refine⟨(c+1,r),⟨hrl.trans hl,λ_=>?_,λh=>absurd (Int.lt_of_lt_of_le h hkn) (Int.lt_irrefl _)⟩,Nat.sub_lt_sub_left (Nat.lt_succ_of_lt hc) (Nat.lt_succ_self c),rfl,rfl⟩
   dsimp only
   rw[<- hnx,hst,hr]
 ·show c=((qg1 n k).map λv=>((v,()):qa5 [qf7])).length
  rw[List.length_map,hz hkn]
  unfold qg1
  rw[if_neg (by omega)]
  rfl
end Go.Proofs.Ytempacilejhbgaa
