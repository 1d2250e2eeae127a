/- Circuits: contract by the engine. No condition. -/
import Derived.Test.YtmijnbjlhnpokaaGreatV16
set_option linter.unusedVariables false
set_option linter.unusedSimpArgs false
namespace Go.Proofs.YtmijnbjlhnpokaaGreat
open Go Go.RowKit Eng
def x0u (a b:List (Ty.den (.int .i64))):Nat->Option Inv
 | 0=>some (Inv.of [13] 0 (λk:Nat=>[(13,.lit (.int .i64 k))]) (λ_=>[]) (λk=>k<=a.length/\∀i,i<k->qd1 (.int .i64) a i=qd1 (.int .i64) b i) (λk=>a.length-k))
 | _=>none
abbrev x5f:qc9:=qg4 true none [.list (.int .i64),.list (.int .i64)] [.bool] (λx=>x.1.length<=1000000) (λx=>(decide (x.1=x.2.1),()))
theorem w3t:Meets Tryz.prog 41 x5f:=by
 refine meets (snd (SpecsOk.nil _)) Tryz.func41 rfl rfl (λx=>x0u x.1 x.2.1) (λ_=>by kernel_rfl) (by decide) ?_
 rintro⟨a,b,⟨⟩⟩ h
 revert a b
 intro(a:List (Ty.den (.int .i64))) (b:List (Ty.den (.int .i64))) (h:a.length<=1000000)
 refine @qe1 _ ((((↑a.length:Int) != (↑b.length:Int))=true->false=decide (a=b))/\(((↑a.length:Int) != (↑b.length:Int))=false->∃(v1:Unit),∃(v2:Nat),(v2<=a.length/\∀(v3:Nat),Nat.le (Nat.succ v3) v2->nI a v3=nI b v3)/\(((0:Int)=(↑v2:Int)/\True)/\True)/\∀(v3:Nat),(v3<=a.length/\∀(v5:Nat),Nat.le (Nat.succ v5) v3->nI a v5=nI b v5)->(decide ((↑v3:Int)<(↑a.length:Int))=true->((0:Int)<=(↑v3:Int)/\(↑v3:Int)<(↑a.length:Int))/\((0:Int)<=(↑v3:Int)/\(↑v3:Int)<(↑b.length:Int))/\((nI a v3 != nI b v3)=true->false=decide (a=b))/\((nI a v3 != nI b v3)=false->fits .i64 ((↑v3:Int)+(1:Int))/\∃(v7:Nat),(v7<=a.length/\∀(v8:Nat),Nat.le (Nat.succ v8) v7->nI a v8=nI b v8)/\a.length-v7<a.length-v3/\((↑v3:Int)+(1:Int)=(↑v7:Int)/\True)/\True))/\(decide ((↑v3:Int)<(↑a.length:Int))=false->true=decide (a=b)))) (by kernel_rfl) ?_
 try simp only[z0,z1,z2,z3,z4,z5,z6,z7,z8,z9,z10,Int.reduceEq,z11,z12,z13,z14,z15,z16,z17,z18,z19,z20,z21,z22,z23,z24,z25,z26,z27,z28,z29,z30,Int.reduceLE,Int.reduceLT,z31,z32,z33,z34,qa1]
 try simp only[qb5,qb6,qd2,z31,z32,z2,z1]
 refine⟨λhl=>?_,λhl=>?_⟩
 ·rw[decide_eq_false]; intro e; subst e; exact hl rfl
 ·refine⟨(),0,⟨Nat.zero_le _,λi hi=>absurd hi (by omega)⟩,rfl,λk ⟨hk,hall⟩=>⟨λhlt=>⟨hlt,by omega,λhne=>?_,λhe=>⟨qa7 (by omega) (by omega),k+1,⟨by omega,λi hi=>?_⟩,by omega,by omega⟩⟩,λhge=>?_⟩⟩
  ·rw[decide_eq_false]; intro e; subst e; first | exact hne rfl | (revert hne; simp)
  ·by_cases e:i=k
   ·subst e; first | exact he | (refine Prod.ext ?_ ?_ <;> simp_all)
   ·exact hall i (by omega)
  ·exact(decide_eq_true (w08 _ a b (by omega) λi hi=>hall i (by omega))).symm
def x0v (a b:List (Ty.den (.prod (.int .i64) (.int .i64)))):Nat->Option Inv
 | 0=>some (Inv.of [13] 0 (λk:Nat=>[(13,.lit (.int .i64 k))]) (λ_=>[]) (λk=>k<=a.length/\∀i,i<k->qd1 (.prod (.int .i64) (.int .i64)) a i=qd1 (.prod (.int .i64) (.int .i64)) b i) (λk=>a.length-k))
 | _=>none
abbrev x5g:qc9:=qg4 true none [.list (.prod (.int .i64) (.int .i64)),.list (.prod (.int .i64) (.int .i64))] [.bool] (λx=>x.1.length<=1000000) (λx=>(decide (x.1=x.2.1),()))
theorem w3u:Meets Tryz.prog 30 x5g:=by
 refine meets (snd (SpecsOk.nil _)) Tryz.func30 rfl rfl (λx=>x0v x.1 x.2.1) (λ_=>by kernel_rfl) (by decide) ?_
 rintro⟨a,b,⟨⟩⟩ h
 revert a b
 intro(a:List (Ty.den (.prod (.int .i64) (.int .i64)))) (b:List (Ty.den (.prod (.int .i64) (.int .i64)))) (h:a.length<=1000000)
 refine @qe1 _ ((((↑a.length:Int) != (↑b.length:Int))=true->false=decide (a=b))/\(((↑a.length:Int) != (↑b.length:Int))=false->∃(v1:Unit),∃(v2:Nat),(v2<=a.length/\∀(v3:Nat),Nat.le (Nat.succ v3) v2->qd1 (Ty.prod (Ty.int .i64) (Ty.int .i64)) a v3=qd1 (Ty.prod (Ty.int .i64) (Ty.int .i64)) b v3)/\(((0:Int)=(↑v2:Int)/\True)/\True)/\∀(v3:Nat),(v3<=a.length/\∀(v5:Nat),Nat.le (Nat.succ v5) v3->qd1 (Ty.prod (Ty.int .i64) (Ty.int .i64)) a v5=qd1 (Ty.prod (Ty.int .i64) (Ty.int .i64)) b v5)->(decide ((↑v3:Int)<(↑a.length:Int))=true->((0:Int)<=(↑v3:Int)/\(↑v3:Int)<(↑a.length:Int))/\((0:Int)<=(↑v3:Int)/\(↑v3:Int)<(↑b.length:Int))/\((!((qd1 (Ty.prod (Ty.int .i64) (Ty.int .i64)) a v3).1==(qd1 (Ty.prod (Ty.int .i64) (Ty.int .i64)) b v3).1 && (qd1 (Ty.prod (Ty.int .i64) (Ty.int .i64)) a v3).2==(qd1 (Ty.prod (Ty.int .i64) (Ty.int .i64)) b v3).2))=true->false=decide (a=b))/\((!((qd1 (Ty.prod (Ty.int .i64) (Ty.int .i64)) a v3).1==(qd1 (Ty.prod (Ty.int .i64) (Ty.int .i64)) b v3).1 && (qd1 (Ty.prod (Ty.int .i64) (Ty.int .i64)) a v3).2==(qd1 (Ty.prod (Ty.int .i64) (Ty.int .i64)) b v3).2))=false->fits .i64 ((↑v3:Int)+(1:Int))/\∃(v7:Nat),(v7<=a.length/\∀(v8:Nat),Nat.le (Nat.succ v8) v7->qd1 (Ty.prod (Ty.int .i64) (Ty.int .i64)) a v8=qd1 (Ty.prod (Ty.int .i64) (Ty.int .i64)) b v8)/\a.length-v7<a.length-v3/\((↑v3:Int)+(1:Int)=(↑v7:Int)/\True)/\True))/\(decide ((↑v3:Int)<(↑a.length:Int))=false->true=decide (a=b)))) (by kernel_rfl) ?_
 try simp only[z0,z1,z2,z3,z4,z5,z6,z7,z8,z9,z10,Int.reduceEq,z11,z12,z13,z14,z15,z16,z17,z18,z19,z20,z21,z22,z23,z24,z25,z26,z27,z28,z29,z30,Int.reduceLE,Int.reduceLT,z31,z32,z33,z34,qa1]
 try simp only[qb5,qb6,qd2,z31,z32,z2,z1]
 refine⟨λhl=>?_,λhl=>?_⟩
 ·rw[decide_eq_false]; intro e; subst e; exact hl rfl
 ·refine⟨(),0,⟨Nat.zero_le _,λi hi=>absurd hi (by omega)⟩,rfl,λk ⟨hk,hall⟩=>⟨λhlt=>⟨hlt,by omega,λhne=>?_,λhe=>⟨qa7 (by omega) (by omega),k+1,⟨by omega,λi hi=>?_⟩,by omega,by omega⟩⟩,λhge=>?_⟩⟩
  ·rw[decide_eq_false]; intro e; subst e; first | exact hne rfl | (revert hne; simp)
  ·by_cases e:i=k
   ·subst e; first | exact he | (refine Prod.ext ?_ ?_ <;> simp_all)
   ·exact hall i (by omega)
  ·exact(decide_eq_true (w08 _ a b (by omega) λi hi=>hall i (by omega))).symm
structure w7u (f:List Int × List (Int × Int)):Prop where
 pix:f.1.length<=1000000
 val:f.2.length<=1000000
def wt8 (f g:List Int × List (Int × Int)):Bool:=decide (f.1=g.1) && decide (f.2=g.2)
abbrev x0w:qc9:=qg4 true none [wp9,wp9] [.bool] (λx=>w7u x.1) (λx=>(wt8 x.1 x.2.1,()))
theorem wt9:Meets Tryz.prog 42 x0w:=by
 refine meets (snd (SpecsOk.cons w3t (SpecsOk.cons w3u (SpecsOk.nil _)))) Tryz.func42 rfl rfl (λ_ _=>none) (λ_=>by kernel_rfl) (by decide) ?_
 rintro⟨f,g,⟨⟩⟩ h
 revert f g
 intro(f:List Int × List (Int × Int)) (g:List Int × List (Int × Int)) (h:w7u f)
 refine @qe1 _ (f.1.length<=(1000000:Nat)/\(decide (f.1=g.1)=true->f.2.length<=(1000000:Nat)/\decide (f.2=g.2)=wt8 f g)/\(decide (f.1=g.1)=false->false=wt8 f g)) (by kernel_rfl) ?_
 try simp only[z0,z1,z2,z3,z4,z5,z6,z7,z8,z9,z10,Int.reduceEq,z11,z12,z13,z14,z15,z16,z17,z18,z19,z20,z21,z22,z23,z24,z25,z26,z27,z28,z29,z30,Int.reduceLE,Int.reduceLT,z31,z32,z33,z34,qa1]
 try simp only[qb5,qb6,qd2,z31,z32,z2,z1]
 exact⟨h.pix,λe=>⟨h.val,by simp[wt8,e]⟩,λe=>by simp[wt8,e]⟩
abbrev x5h:Ty:=.list (.prod (.list (.int .i64)) (.list (.prod (.int .i64) (.int .i64))))
def nF (l:List (List Int × List (Int × Int))) (i:Nat):List Int × List (Int × Int):=qd1 (.prod (.list (.int .i64)) (.list (.prod (.int .i64) (.int .i64)))) l i
def x0x (s:List Int):Int:=if 0<s.length then nI s (s.length-1)+1 else 0
def x0y (n:Nat) (s:List Int):List (List Int):=(List.range ((n:Int)-x0x s).toNat).map λt:Nat=>s++[x0x s+t]
def qt1 (n:Nat):Nat->List (List Int)
 | 0=>[[]]
 | k+1=>if k<(qt1 n k).length then qt1 n k++x0y n (nL (qt1 n k) k) else qt1 n k
def w3v (n:Nat):List (List Int):=qt1 n 128
theorem q9l (n k:Nat):∀j,∃t,qt1 n (k+j)=qt1 n k++t
 | 0=>⟨[],by simp⟩
 | j+1=>by
  obtain⟨t,ht⟩:=q9l n k j
  rw[<- Nat.add_assoc,qt1]
  split
  ·exact⟨t++x0y n (nL (qt1 n (k+j)) (k+j)),by rw[<- List.append_assoc,<- ht]⟩
  ·exact⟨t,ht⟩
def w7v (n:Nat):Bool:=decide ((qt1 n 128).length<=128) && (qt1 n 128).all λs=>decide (s.length<=7) && s.all λx=>decide (0<=x) && decide (x<n)
theorem wu0:((List.range 8).all λn=>w7v n)=true:=by decide +kernel
theorem w3w {n:Nat} (h:n<=7):(qt1 n 128).length<=128/\∀s∈qt1 n 128,s.length<=7/\∀x∈s,0<=x/\x<n:=by
 have:=List.all_eq_true.1 wu0 n (List.mem_range.2 (by omega))
 unfold w7v at this
 rw[Bool.and_eq_true,decide_eq_true_eq,List.all_eq_true] at this
 refine⟨this.1,λs hs=>?_⟩
 have h2:=this.2 s hs
 rw[Bool.and_eq_true,decide_eq_true_eq,List.all_eq_true] at h2
 refine⟨h2.1,λx hx=>?_⟩
 have:=h2.2 x hx
 simpa using this
theorem wn0 {n k:Nat} (h:n<=7) (hk:k<=128):(qt1 n k).length<=128/\∀s∈qt1 n k,s.length<=7/\∀x∈s,0<=x/\x<n:=by
 obtain⟨t,ht⟩:=q9l n k (128-k)
 rw[show k+(128-k)=128 by omega] at ht
 have:=w3w h
 rw[ht] at this
 refine⟨by have:=this.1; simp at this; omega,λs hs=>this.2 s (by simp[hs])⟩
def wn1 (piv:List Int) (f:Nat):Nat->Bool
 | 0=>true
 | k+1=>wn1 piv f k && (nI piv k != (f:Int))
def w3x (d:List (List Int)) (piv:List Int) (k:Nat):Int:=nI (nL d k) (nI piv k).toNat
def q44 (d:List (List Int)) (piv:List Int):Nat->Int
 | 0=>1
 | k+1=>(q44 d piv k).tdiv (qe2 (q44 d piv k) (w3x d piv k))*w3x d piv k
def x0z (d:List (List Int)) (piv:List Int) (n f:Nat):Nat->List Int
 | 0=>(List.replicate n 0).set f (q44 d piv piv.length)
 | k+1=>(x0z d piv n f k).set (nI piv k).toNat ((0-nI (nL d k) f)*(q44 d piv piv.length).tdiv (w3x d piv k))
def wn3 (d:List (List Int)) (piv:List Int) (n:Nat):Nat->List (List Int)
 | 0=>[]
 | f+1=>if wn1 piv f piv.length then wn3 d piv n f++[ql1 (x0z d piv n f piv.length)] else wn3 d piv n f
def w7w (rows:List (List Int)):List (List Int):=wn3 (qd8 rows).1 (qd8 rows).2 (rdW rows) (rdW rows)
def qk5 (n:Nat) (set v:List Int):Nat->List Int
 | 0=>List.replicate n 0
 | j+1=>(qk5 n set v j).set (nI set j).toNat (nI v j)
def w7x (l:List (List Int)):Bool:=decide (l.length=1) && !((nL l 0).any λe=>(0:Int)==e)
def ya0 (m:List (List Int)) (n:Nat) (set:List Int):List Int:=q8k (qk5 n set (nL (qp7 m set) 0) set.length)
def qt7 (m:List (List Int)) (n:Nat) (L:List (List Int)):Nat->List (List Int)
 | 0=>[]
 | c+1=>if w7x (qp7 m (nL L c)) then qt7 m n L c++[ya0 m n (nL L c)] else qt7 m n L c
def q5r (m:List (List Int)) (n:Nat):Nat->List (List Int)
 | 0=>[]
 | k+1=>q5r m n k++qt7 m n (qg1 n (k+1:Nat)) (qg1 n (k+1:Nat)).length
def w7y (m:List (List Int)):Nat:=min ((qi8 m (q28 (nL m 0).length)).2.length+1) (nL m 0).length
def q7n (m:List (List Int)):List (List Int) × Int:=if qe9 m=false then([],1) else(q5r m (nL m 0).length (w7y m),0)
structure wu1 (m:List (List Int)):Prop where
 rank:wm8 m
 ker:∀k,k<(nL m 0).length->∀set∈qg1 (nL m 0).length (k+1:Nat),w3p m set
abbrev ya1:qc9:=qg4 true none [qo2] [qo2,qg0] (λx=>qe9 x.1=true->wu1 x.1) (λx=>((q7n x.1).1,(q7n x.1).2,()))
def x5i (m:List (List Int)) (n:Nat):Nat->Option Inv
 | 0=>some (Inv.of [30] 4 (λk:Nat=>[(30,.lit (.int .i64 k))]) (λk=>[.box 23 (.cons (.dat (.list (.int .i64)) m) .nil),.box 3 (.cons (.lit (.int .i64 n)) .nil),.box 22 (.cons (.msl 3 .none) .nil),.mat 34 3 (.int .i64) (q5r m n k) .none .none]) (λk=>k<=w7y m) (λk=>w7y m-k))
 | 1=>some (Eng.Inv.mk Nat Nat [] 4 (λ_ _=>[]) (λk c=>[.box 23 (.cons (.dat (.list (.int .i64)) m) .nil),.box 3 (.cons (.lit (.int .i64 n)) .nil),.box 22 (.cons (.msl 3 .none) .nil),.mat 34 3 (.int .i64) (q5r m n k++qt7 m n (qg1 n (k+1:Nat)) c) .none .none]) (λk c=>c<=(qg1 n (k+1:Nat)).length) (λk c=>c))
 | 2=>some (Eng.Inv.mk (q8a × Nat × Nat × List Int) Nat [9,11,52,54] 6 (λq j=>[(9,.msl 4 (some 0)),(11,.own 5),(52,.msl 4 (some 0)),(54,.lit (.int .i64 j))]) (λq j=>[.box 23 (.cons (.dat (.list (.int .i64)) m) .nil),.box 3 (.cons (.lit (.int .i64 n)) .nil),.box 22 (.cons (.msl 3 .none) .nil),.mat 34 3 (.int .i64) (q5r m n q.2.1++qt7 m n (qg1 n (q.2.1+1:Nat)) q.2.2.1) .none .none,.mat 3 3 (.int .i64) [q.2.2.2] (some []) (some q.1),.vec 3 (.int .i64) (qk5 n q.2.2.2 (nL (qp7 m q.2.2.2) 0) j)]) (λq j=>j<=q.2.2.2.length) (λq j=>q.2.2.2.length-j))
 | _=>none
def x5j (mats em:List Nat) (specs:List (Nat × qc9)) (muts:List (Nat × qs6)) (its:List (Nat × q2h)):Ctx:={ specs:=specs,tys:=tys,wr:=[],muts:=muts,mats:=mats,em:=em,its:=its }
theorem x5k (mats em:List Nat) {specs:List (Nat × qc9)} {muts:List (Nat × qs6)} {its:List (Nat × q2h)} (h:SpecsOk Tryz.prog specs) (hm:MutsOk muts) (hi:ItsOk its):Sound Tryz.prog (x5j mats em specs muts its):=SpecsOk.sound h q3s (by kernel_rfl) hi (hmu:=hm)
theorem q7o (m:List (List Int)) (n:Nat) (L:List (List Int)):∀c,(qt7 m n L c).length<=c
 | 0=>Nat.le_refl _
 | c+1=>by
  have:=q7o m n L c
  rw[qt7]
  split
  ·simp; omega
  ·omega
theorem wu3:((List.range 11).all λn=>(List.range 12).all λk=>decide ((qg1 (n:Nat) (k:Nat)).length<=1000))=true:=by decide +kernel
theorem wn4 (n k:Nat) (hn:n<=10) (hk:k<=11):(qg1 (n:Nat) (k:Nat)).length<=1000:=
 of_decide_eq_true (List.all_eq_true.1 (List.all_eq_true.1 wu3 n (List.mem_range.2 (by omega))) k (List.mem_range.2 (by omega)))
theorem w1a (m:List (List Int)) (n:Nat) (hn:n<=10):∀k,k<=11->(q5r m n k).length<=1000*k
 | 0,_=>Nat.le_refl _
 | k+1,hk=>by
  have h1:=w1a m n hn k (by omega)
  have h2:=wn4 n (k+1) hn hk
  have h3:=q7o m n (qg1 (n:Nat) (k+1:Nat)) (qg1 (n:Nat) (k+1:Nat)).length
  rw[q5r,List.length_append]
  omega
theorem q7p {R:List (List Int)} {P:List Int} {n:Nat} (h:xf2 R P n) (hn:n<=1000):∀f,f<=n->∀x∈qp1 R P n f,x.length=n/\q7e x
 | 0,_,x,hx=>by cases hx
 | f+1,hf,x,hx=>by
  rw[qp1] at hx
  split at hx
  ·exact q7p h hn f (by omega) x hx
  ·rename_i hfree
   rcases List.mem_append.1 hx with hx | hx
   ·exact q7p h hn f (by omega) x hx
   ·obtain rfl:=List.mem_singleton.1 hx
    have hb:q7e (hTo R P n f P.length):=⟨by rw[q7k]; exact hn,wt5 h (by omega) (Bool.eq_false_iff.2 hfree) _ (Nat.le_refl _)⟩
    exact⟨by rw[q9c,q7k],q9i hb⟩
theorem q7q {m:List (List Int)} {set:List Int} (h:w3p m set) (x:List Int) (hx:x∈qp7 m set):x.length=set.length/\set.length<=1000/\q7e x:=by
 have hw:=h.red.w
 have:=q7p h.ar hw _ (Nat.le_refl _) x hx
 exact⟨this.1,hw,this.2⟩
theorem q1c (n:Nat) (set v:List Int):∀j,(qk5 n set v j).length=n
 | 0=>by simp[qk5]
 | j+1=>by rw[qk5,List.length_set]; exact q1c n set v j
theorem q5j {n:Nat} {set v:List Int} (hv:q7e v) (hn:n<=1000) (hl:v.length=set.length):∀j,j<=set.length->q7e (qk5 n set v j)
 | 0,_=>⟨by simp[qk5]; omega,λx hx=>by
  obtain rfl:=(List.mem_replicate.1 hx).2
  unfold BIG; omega⟩
 | j+1,hj=>by
  have h1:=q5j hv hn hl j (by omega)
  refine⟨by rw[q1c]; exact hn,λx hx=>?_⟩
  rw[qk5] at hx
  rcases List.mem_or_eq_of_mem_set hx with hx | rfl
  ·exact h1.2 x hx
  ·exact q2u hv (by omega)
theorem w7z:Meets Tryz.prog 64 ya1:=by
 refine meets (x5k [72] [] (SpecsOk.cons w3q (SpecsOk.cons q9h (SpecsOk.cons w7l (SpecsOk.cons wm6 (SpecsOk.nil _))))) (MutsOk.cons w3o MutsOk.nil) (ItsOk.cons q9g ItsOk.nil)) Tryz.func64 rfl rfl (λx=>x5i x.1 (nL x.1 0).length) (λ_=>by kernel_rfl) (by decide) ?_
 rintro⟨m,⟨⟩⟩ h
 revert m
 intro(m:List (List Int)) (h:qe9 m=true->wu1 m)
 refine @qe1 _ ((qe9 m=true->wm8 m)/\(((qx6 m).2 != (0:Int))=true->(q7n m).1=[]/\(qx6 m).2=(q7n m).2/\True)/\(((qx6 m).2 != (0:Int))=false->((0:Int)<=(0:Int)/\(0:Int)<(↑m.length:Int))/\fits .i64 ((qx6 m).1+(1:Int))/\∃(v1:Unit),∃(v2:Nat),Nat.le v2 (w7y m)/\(((0:Int)=(↑v2:Int)/\True)/\(m=m/\True)/\((↑(nL m (0:Nat)).length:Int)=(↑(nL m (0:Nat)).length:Int)/\True)/\(True/\True)/\q5r m (nL m (0:Nat)).length v2=[]/\True)/\∀(v3:Nat),Nat.le v3 (w7y m)->(decide ((↑v3:Int)<max2 false ((qx6 m).1+(1:Int)) (↑(nL m (0:Nat)).length:Int))=true->fits .i64 ((↑v3:Int)+(1:Int))/\True/\(((0:Ty.den qg0)<=(↑v3:Int)+(1:Int)/\(↑v3:Int)+(1:Int)<=(1000:Ty.den qg0))/\(0:Ty.den qg0)<=(↑(nL m (0:Nat)).length:Int)/\(↑(nL m (0:Nat)).length:Int)<=(1000:Ty.den qg0))/\∃(v6:Nat),∃(v7:Nat),Nat.le v7 (qg1 (↑(nL m (0:Nat)).length:Int) (↑(v6+(1:Nat)):Int)).length/\v7=(0:Nat)/\((m=m/\True)/\((↑(nL m (0:Nat)).length:Int)=(↑(nL m (0:Nat)).length:Int)/\True)/\(True/\True)/\(q5r m (nL m (0:Nat)).length v3=q5r m (nL m (0:Nat)).length v6++qt7 m (nL m (0:Nat)).length (qg1 (↑(nL m (0:Nat)).length:Int) (↑(v6+(1:Nat)):Int)) v7/\True/\True)/\True)/\∀(v8:Nat),Nat.le v8 (qg1 (↑(nL m (0:Nat)).length:Int) (↑(v6+(1:Nat)):Int)).length->(∀(v10:List Int × qa5._f [] PUnit.unit),(List.map (λ(v12:List Int)=>(v12,())) (qg1 (↑(nL m (0:Nat)).length:Int) ((↑v3:Int)+(1:Int))))[v8]?=some v10->∀(v12:q8a),w3p m (nL [v10.1] (0:Nat))/\(((↑(qp7 m (nL [v10.1] (0:Nat))).length:Int) != (1:Int))=true->[v10.1]=[v10.1]/\v12=v12/\True/\∃(v14:Nat),Nat.le v14 (qg1 (↑(nL m (0:Nat)).length:Int) (↑(v6+(1:Nat)):Int)).length/\v14=v8+(1:Nat)/\(m=m/\True)/\((↑(nL m (0:Nat)).length:Int)=(↑(nL m (0:Nat)).length:Int)/\True)/\(True/\True)/\(q5r m (nL m (0:Nat)).length v6++qt7 m (nL m (0:Nat)).length (qg1 (↑(nL m (0:Nat)).length:Int) (↑(v6+(1:Nat)):Int)) v8=q5r m (nL m (0:Nat)).length v6++qt7 m (nL m (0:Nat)).length (qg1 (↑(nL m (0:Nat)).length:Int) (↑(v6+(1:Nat)):Int)) v14/\True/\True)/\True)/\(((↑(qp7 m (nL [v10.1] (0:Nat))).length:Int) != (1:Int))=false->((0:Int)<=(0:Int)/\(0:Int)<(↑(qp7 m (nL [v10.1] (0:Nat))).length:Int))/\(nL (qp7 m (nL [v10.1] (0:Nat))) (0:Nat)).length<=(1000000:Nat)/\((List.any (nL (qp7 m (nL [v10.1] (0:Nat))) (0:Nat)) λ(v15:Int)=>(0:Int)==v15)=true->[v10.1]=[v10.1]/\v12=v12/\True/\∃(v15:Nat),Nat.le v15 (qg1 (↑(nL m (0:Nat)).length:Int) (↑(v6+(1:Nat)):Int)).length/\v15=v8+(1:Nat)/\(m=m/\True)/\((↑(nL m (0:Nat)).length:Int)=(↑(nL m (0:Nat)).length:Int)/\True)/\(True/\True)/\(q5r m (nL m (0:Nat)).length v6++qt7 m (nL m (0:Nat)).length (qg1 (↑(nL m (0:Nat)).length:Int) (↑(v6+(1:Nat)):Int)) v8=q5r m (nL m (0:Nat)).length v6++qt7 m (nL m (0:Nat)).length (qg1 (↑(nL m (0:Nat)).length:Int) (↑(v6+(1:Nat)):Int)) v15/\True/\True)/\True)/\((List.any (nL (qp7 m (nL [v10.1] (0:Nat))) (0:Nat)) λ(v15:Int)=>(0:Int)==v15)=false->((↑(nL m (0:Nat)).length:Int)=(↑(nL m (0:Nat)).length:Int)/\(0:Int)<=(↑(nL m (0:Nat)).length:Int)/\(↑(nL m (0:Nat)).length:Int)<=(1000000:Int))/\∃(v15:q8a × Nat × Nat × List Int),∃(v16:Nat),Nat.le v16 v15.2.2.2.length/\((some (0:Nat)=some (0:Nat)/\True/\some (0:Nat)=some (0:Nat)/\(0:Int)=(↑v16:Int)/\True)/\(m=m/\True)/\((↑(nL m (0:Nat)).length:Int)=(↑(nL m (0:Nat)).length:Int)/\True)/\(True/\True)/\(q5r m (nL m (0:Nat)).length v6++qt7 m (nL m (0:Nat)).length (qg1 (↑(nL m (0:Nat)).length:Int) (↑(v6+(1:Nat)):Int)) v8=q5r m (nL m (0:Nat)).length v15.2.1++qt7 m (nL m (0:Nat)).length (qg1 (↑(nL m (0:Nat)).length:Int) (↑(v15.2.1+(1:Nat)):Int)) v15.2.2.1/\True/\True)/\([v10.1]=[v15.2.2.2]/\True/\v12=v15.1)/\List.replicate (↑(nL m (0:Nat)).length:Int).toNat (Ty.dflt (TI.ty T3))=qk5 (nL m (0:Nat)).length v15.2.2.2 (nL (qp7 m v15.2.2.2) (0:Nat)) v16/\True)/\∀(v17:Nat),Nat.le v17 v15.2.2.2.length->(decide ((↑v17:Int)<(↑(nL [v10.1] (0:Nat)).length:Int))=true->((0:Int)<=(↑v17:Int)/\(↑v17:Int)<(↑(nL [v15.2.2.2] (0:Nat)).length:Int))/\v17<(nL [v15.2.2.2] (0:Nat)).length/\((0:Int)<=(0:Int)/\(0:Int)<(↑(qp7 m (nL [v10.1] (0:Nat))).length:Int))/\((0:Int)<=(↑v17:Int)/\(↑v17:Int)<(↑(nL (qp7 m (nL [v10.1] (0:Nat))) (0:Nat)).length:Int))/\((0:Int)<=nI (nL [v15.2.2.2] (0:Nat)) v17/\nI (nL [v15.2.2.2] (0:Nat)) v17<(↑(qk5 (nL m (0:Nat)).length v15.2.2.2 (nL (qp7 m v15.2.2.2) (0:Nat)) v17).length:Int))/\(nI (nL [v15.2.2.2] (0:Nat)) v17).toNat<(qk5 (nL m (0:Nat)).length v15.2.2.2 (nL (qp7 m v15.2.2.2) (0:Nat)) v17).length/\fits .i64 ((↑v17:Int)+(1:Int))/\∃(v20:Nat),Nat.le v20 v15.2.2.2.length/\v15.2.2.2.length-v20<v15.2.2.2.length-v17/\(some (0:Nat)=some (0:Nat)/\True/\some (0:Nat)=some (0:Nat)/\(↑v17:Int)+(1:Int)=(↑v20:Int)/\True)/\(m=m/\True)/\((↑(nL m (0:Nat)).length:Int)=(↑(nL m (0:Nat)).length:Int)/\True)/\(True/\True)/\(q5r m (nL m (0:Nat)).length v15.2.1++qt7 m (nL m (0:Nat)).length (qg1 (↑(nL m (0:Nat)).length:Int) (↑(v15.2.1+(1:Nat)):Int)) v15.2.2.1=q5r m (nL m (0:Nat)).length v15.2.1++qt7 m (nL m (0:Nat)).length (qg1 (↑(nL m (0:Nat)).length:Int) (↑(v15.2.1+(1:Nat)):Int)) v15.2.2.1/\True/\True)/\([v15.2.2.2]=[v15.2.2.2]/\True/\v15.1=v15.1)/\List.set (qk5 (nL m (0:Nat)).length v15.2.2.2 (nL (qp7 m v15.2.2.2) (0:Nat)) v17) (nI (nL [v15.2.2.2] (0:Nat)) v17).toNat (nI (nL (qp7 m (nL [v10.1] (0:Nat))) (0:Nat)) v17)=qk5 (nL m (0:Nat)).length v15.2.2.2 (nL (qp7 m v15.2.2.2) (0:Nat)) v20/\True)/\(decide ((↑v17:Int)<(↑(nL [v10.1] (0:Nat)).length:Int))=false->q7e (nL [qk5 (nL m (0:Nat)).length v15.2.2.2 (nL (qp7 m v15.2.2.2) (0:Nat)) v17] (0:Nat))/\((0:Nat)<(0:Nat)+(1:Nat)/\(q5r m (nL m (0:Nat)).length v15.2.1++qt7 m (nL m (0:Nat)).length (qg1 (↑(nL m (0:Nat)).length:Int) (↑(v15.2.1+(1:Nat)):Int)) v15.2.2.1).length+((0:Nat)+(1:Nat))<=(1000000:Nat))/\[v15.2.2.2]=[v10.1]/\v15.1=v12/\True/\∃(v20:Nat),Nat.le v20 (qg1 (↑(nL m (0:Nat)).length:Int) (↑(v6+(1:Nat)):Int)).length/\v20=v8+(1:Nat)/\(m=m/\True)/\((↑(nL m (0:Nat)).length:Int)=(↑(nL m (0:Nat)).length:Int)/\True)/\(True/\True)/\(q5r m (nL m (0:Nat)).length v15.2.1++qt7 m (nL m (0:Nat)).length (qg1 (↑(nL m (0:Nat)).length:Int) (↑(v15.2.1+(1:Nat)):Int)) v15.2.2.1++[nL [q8k (nL [qk5 (nL m (0:Nat)).length v15.2.2.2 (nL (qp7 m v15.2.2.2) (0:Nat)) v17] (0:Nat))] (0:Nat)]=q5r m (nL m (0:Nat)).length v6++qt7 m (nL m (0:Nat)).length (qg1 (↑(nL m (0:Nat)).length:Int) (↑(v6+(1:Nat)):Int)) v20/\True/\True)/\True))))/\(v8=(List.map (λ(v11:List Int)=>(v11,())) (qg1 (↑(nL m (0:Nat)).length:Int) ((↑v3:Int)+(1:Int)))).length->fits .i64 ((↑v3:Int)+(1:Int))/\∃(v11:Nat),Nat.le v11 (w7y m)/\w7y m-v11<w7y m-v3/\((↑v3:Int)+(1:Int)=(↑v11:Int)/\True)/\(m=m/\True)/\((↑(nL m (0:Nat)).length:Int)=(↑(nL m (0:Nat)).length:Int)/\True)/\(True/\True)/\(q5r m (nL m (0:Nat)).length v6++qt7 m (nL m (0:Nat)).length (qg1 (↑(nL m (0:Nat)).length:Int) (↑(v6+(1:Nat)):Int)) v8=q5r m (nL m (0:Nat)).length v11/\True/\True)/\True))/\(decide ((↑v3:Int)<max2 false ((qx6 m).1+(1:Int)) (↑(nL m (0:Nat)).length:Int))=false->q4l (Ty.int .i64) (q5r m (nL m (0:Nat)).length v3) none=(q7n m).1/\(0:Int)=(q7n m).2/\True))) (by kernel_rfl) ?_
 try simp only[z0,z1,z2,z3,z4,z5,z6,z7,z8,z9,z10,Int.reduceEq,z11,z12,z13,z14,z15,z16,z17,z18,z19,z20,z21,z22,z23,z24,z25,z26,z27,z28,z29,z30,Int.reduceLE,Int.reduceLT,z31,z32,z33,z34,qa1]
 try simp only[qb5,qb6,qd2,z31,z32,z2,z1]
 refine⟨λhv=>(h hv).rank,λhe=>?_,λhe=>?_⟩
 ·have hv:qe9 m=false:=by
   cases e:qe9 m with
   | false=>rfl
   | true=>exact absurd (by simp[qx6,e]) he
  simp[qx6,q7n,hv]
 have hv:qe9 m=true:=by
  cases e:qe9 m with
  | true=>rfl
  | false=>simp[qx6,e] at he
 have hO:=h hv
 have hM:=Mk.of hv
 have hm1:=hM.rows1
 have hn1:=hM.pix1
 have hn10:=hM.pix10
 have hrank:(qi8 m (q28 (nL m 0).length)).2.length<=10:=by
  have:=(qv8 hO.rank.red (nL m 0).length).pivj
  unfold qi8
  rw[qt5]
  exact Nat.le_trans this hn10
 have hr:qx6 m=(((qi8 m (q28 (nL m 0).length)).2.length:Int),0):=by simp[qx6,hv]
 have hcN:w7y m=min ((qi8 m (q28 (nL m 0).length)).2.length+1) (nL m 0).length:=rfl
 have hcR:q7n m=(q5r m (nL m 0).length (w7y m),0):=by simp[q7n,hv]
 rw[hr,hcR]
 generalize(qi8 m (q28 (nL m 0).length)).2.length=r at *
 have hker:=hO.ker
 generalize hnn:(nL m 0).length=n at *
 dsimp only
 refine⟨by omega,qa7 (by omega) (by omega),(),0,Nat.zero_le _,⟨rfl,rfl⟩,λk hk=>⟨λhlt=>?_,λhge=>?_⟩⟩
 ·have hlt:(k:Int)<min ((r:Int)+1) n:=hlt
  have hkn:k<n:=by omega
  have hca:((k:Int)+1)=((k+1:Nat):Int):=by omega
  have hkl:=w1a m n hn10 k (by omega)
  have hsl:=wn4 n (k+1) hn10 (by omega)
  rw[hca]
  have hb1:(0:Int)<=((k+1:Nat):Int)/\((k+1:Nat):Int)<=1000:=by omega
  refine⟨qa7 (by omega) (by omega),⟨hb1,by omega⟩,k,0,Nat.zero_le _,rfl,by simp[qt7],λc hc=>⟨?_,λhce=>?_⟩⟩
  ·rintro⟨set,⟨⟩⟩ hset T
   dsimp only
   have hs:(qg1 n (k+1:Nat))[c]? = some set:=by
    rw[List.getElem?_map] at hset
    obtain⟨x,hx,hx2⟩:=Option.map_eq_some_iff.1 hset
    injection hx2 with hx2
    rw[<- hx2]; exact hx
   have hcl:c<(qg1 n (k+1:Nat)).length:=(List.getElem?_eq_some_iff.1 hs).1
   have hnl:nL (qg1 n (k+1:Nat)) c=set:=by rw[qn4 _ c hcl]; exact(List.getElem?_eq_some_iff.1 hs).2
   have hK:w3p m set:=hker k hkn set (List.mem_of_getElem? hs)
   have hctl:=q7o m n (qg1 n (k+1:Nat)) c
   refine⟨hK,λh1=>⟨c+1,hcl,rfl,?_⟩,λh1=>⟨by omega,?_,λh2=>⟨c+1,hcl,rfl,?_⟩,λh2=>⟨by omega,(T,k,c,set),0,Nat.zero_le _,⟨rfl,rfl,⟨rfl,rfl⟩,rfl⟩,λj hj=>⟨λhjl=>?_,λhjl=>?_⟩⟩⟩⟩
   ·rw[qt7,hnl,if_neg]
    intro q
    unfold w7x at q
    rw[Bool.and_eq_true,decide_eq_true_eq] at q
    exact h1 (by omega)
   ·have h0:=q7q hK (nL (qp7 m set) 0) (qx8 _ 0 (by omega))
    omega
   ·rw[qt7,hnl,if_neg]
    intro q
    unfold w7x at q
    rw[Bool.and_eq_true,h2] at q
    cases q.2
   ·dsimp only at hj ⊢
    have hat:=hK.cho.at_ 0 (by omega) j hjl
    rw[hnn] at hat
    have hkm:=q7q hK (nL (qp7 m set) 0) (qx8 _ 0 (by omega))
    have hsp:=q1c n set (nL (qp7 m set) 0) j
    have hat':0<=nI set j/\nI set j<((qk5 n set (nL (qp7 m set) 0) j).length:Int):=⟨hat.1,by omega⟩
    exact⟨hjl,hjl,by omega,by omega,hat',by omega,qa7 (by omega) (by omega),j+1,hjl,by omega,by omega,rfl⟩
   ·dsimp only at hj ⊢
    obtain rfl:j=set.length:=by omega
    have hkm:=q7q hK (nL (qp7 m set) 0) (qx8 _ 0 (by omega))
    refine⟨q5j hkm.2.2 (by omega) hkm.1 _ (Nat.le_refl _),by rw[List.length_append]; omega,rfl,rfl,c+1,hcl,rfl,?_⟩
    have hg:w7x (qp7 m set)=true:=by
     unfold w7x
     rw[h2,Bool.and_eq_true,decide_eq_true_eq]
     exact⟨by omega,rfl⟩
    rw[qt7,hnl,if_pos hg,List.append_assoc]
    rfl
  ·rw[List.length_map] at hce
   subst hce
   exact⟨qa7 (by omega) (by omega),k+1,by omega,by omega,rfl,rfl⟩
 ·have hge:min ((r:Int)+1) n<=k:=hge
  obtain rfl:k=w7y m:=by omega
  exact⟨rfl,rfl⟩
end Go.Proofs.YtmijnbjlhnpokaaGreat
