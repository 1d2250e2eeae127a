/- Circuits: contract by the engine. No condition. -/
import Derived.Test.YtmijnbjlhnpokaaGreatV16
set_option linter.unusedVariables false
set_option linter.unusedSimpArgs false
namespace Go.Proofs.YtmijnbjlhnpokaaGreat
open Go Go.RowKit Eng
def xv6 (a b:List (Ty.den (.int .i64))):Nat->Option Inv
 | 0=>some (Inv.of [13] 0 (λk:Nat=>[(13,.lit (.int .i64 k))]) (λ_=>[]) (λk=>k<=a.length/\∀i,i<k->qf2 (.int .i64) a i=qf2 (.int .i64) b i) (λk=>a.length-k))
 | _=>none
abbrev x2v:qc7:=qg0 true none [.list (.int .i64),.list (.int .i64)] [.bool] (λx=>x.1.length<=1000000) (λx=>(decide (x.1=x.2.1),()))
theorem w2p:Meets Tryz.prog 41 x2v:=by
 refine meets (snd (SpecsOk.nil _)) Tryz.func41 rfl rfl (λx=>xv6 x.1 x.2.1) (λ_=>by kernel_rfl) (by decide) ?_
 rintro⟨a,b,⟨⟩⟩ h
 revert a b
 intro(a:List (Ty.den (.int .i64))) (b:List (Ty.den (.int .i64))) (h:a.length<=1000000)
 refine @qe0 _ ((((↑a.length:Int) != (↑b.length:Int))=true->false=decide (a=b))/\(((↑a.length:Int) != (↑b.length:Int))=false->∃(v1:Unit),∃(v2:Nat),(v2<=a.length/\∀(v3:Nat),Nat.le (Nat.succ v3) v2->nI a v3=nI b v3)/\(((0:Int)=(↑v2:Int)/\True)/\True)/\∀(v3:Nat),(v3<=a.length/\∀(v5:Nat),Nat.le (Nat.succ v5) v3->nI a v5=nI b v5)->(decide ((↑v3:Int)<(↑a.length:Int))=true->((0:Int)<=(↑v3:Int)/\(↑v3:Int)<(↑a.length:Int))/\((0:Int)<=(↑v3:Int)/\(↑v3:Int)<(↑b.length:Int))/\((nI a v3 != nI b v3)=true->false=decide (a=b))/\((nI a v3 != nI b v3)=false->fits .i64 ((↑v3:Int)+(1:Int))/\∃(v7:Nat),(v7<=a.length/\∀(v8:Nat),Nat.le (Nat.succ v8) v7->nI a v8=nI b v8)/\a.length-v7<a.length-v3/\((↑v3:Int)+(1:Int)=(↑v7:Int)/\True)/\True))/\(decide ((↑v3:Int)<(↑a.length:Int))=false->true=decide (a=b)))) (by kernel_rfl) ?_
 try simp only[z0,z1,z2,z3,z4,z5,z6,z7,z8,z9,z10,Int.reduceEq,z11,z12,z13,z14,z15,z16,z17,z18,z19,z20,z21,z22,z23,z24,z25,z26,z27,z28,z29,z30,Int.reduceLE,Int.reduceLT,z31,z32,z33,z34,qa1]
 try simp only[qb4,qb5,qc8,z31,z32,z2,z1]
 refine⟨λhl=>?_,λhl=>?_⟩
 ·rw[decide_eq_false]; intro e; subst e; exact hl rfl
 ·refine⟨(),0,⟨Nat.zero_le _,λi hi=>absurd hi (by omega)⟩,rfl,λk ⟨hk,hall⟩=>⟨λhlt=>⟨hlt,by omega,λhne=>?_,λhe=>⟨qa7 (by omega) (by omega),k+1,⟨by omega,λi hi=>?_⟩,by omega,by omega⟩⟩,λhge=>?_⟩⟩
  ·rw[decide_eq_false]; intro e; subst e; first | exact hne rfl | (revert hne; simp)
  ·by_cases e:i=k
   ·subst e; first | exact he | (refine Prod.ext ?_ ?_ <;> simp_all)
   ·exact hall i (by omega)
  ·exact(decide_eq_true (w0i _ a b (by omega) λi hi=>hall i (by omega))).symm
def xv7 (a b:List (Ty.den (.prod (.int .i64) (.int .i64)))):Nat->Option Inv
 | 0=>some (Inv.of [13] 0 (λk:Nat=>[(13,.lit (.int .i64 k))]) (λ_=>[]) (λk=>k<=a.length/\∀i,i<k->qf2 (.prod (.int .i64) (.int .i64)) a i=qf2 (.prod (.int .i64) (.int .i64)) b i) (λk=>a.length-k))
 | _=>none
abbrev x2w:qc7:=qg0 true none [.list (.prod (.int .i64) (.int .i64)),.list (.prod (.int .i64) (.int .i64))] [.bool] (λx=>x.1.length<=1000000) (λx=>(decide (x.1=x.2.1),()))
theorem q84:Meets Tryz.prog 30 x2w:=by
 refine meets (snd (SpecsOk.nil _)) Tryz.func30 rfl rfl (λx=>xv7 x.1 x.2.1) (λ_=>by kernel_rfl) (by decide) ?_
 rintro⟨a,b,⟨⟩⟩ h
 revert a b
 intro(a:List (Ty.den (.prod (.int .i64) (.int .i64)))) (b:List (Ty.den (.prod (.int .i64) (.int .i64)))) (h:a.length<=1000000)
 refine @qe0 _ ((((↑a.length:Int) != (↑b.length:Int))=true->false=decide (a=b))/\(((↑a.length:Int) != (↑b.length:Int))=false->∃(v1:Unit),∃(v2:Nat),(v2<=a.length/\∀(v3:Nat),Nat.le (Nat.succ v3) v2->qf2 (Ty.prod (Ty.int .i64) (Ty.int .i64)) a v3=qf2 (Ty.prod (Ty.int .i64) (Ty.int .i64)) b v3)/\(((0:Int)=(↑v2:Int)/\True)/\True)/\∀(v3:Nat),(v3<=a.length/\∀(v5:Nat),Nat.le (Nat.succ v5) v3->qf2 (Ty.prod (Ty.int .i64) (Ty.int .i64)) a v5=qf2 (Ty.prod (Ty.int .i64) (Ty.int .i64)) b v5)->(decide ((↑v3:Int)<(↑a.length:Int))=true->((0:Int)<=(↑v3:Int)/\(↑v3:Int)<(↑a.length:Int))/\((0:Int)<=(↑v3:Int)/\(↑v3:Int)<(↑b.length:Int))/\((!((qf2 (Ty.prod (Ty.int .i64) (Ty.int .i64)) a v3).1==(qf2 (Ty.prod (Ty.int .i64) (Ty.int .i64)) b v3).1 && (qf2 (Ty.prod (Ty.int .i64) (Ty.int .i64)) a v3).2==(qf2 (Ty.prod (Ty.int .i64) (Ty.int .i64)) b v3).2))=true->false=decide (a=b))/\((!((qf2 (Ty.prod (Ty.int .i64) (Ty.int .i64)) a v3).1==(qf2 (Ty.prod (Ty.int .i64) (Ty.int .i64)) b v3).1 && (qf2 (Ty.prod (Ty.int .i64) (Ty.int .i64)) a v3).2==(qf2 (Ty.prod (Ty.int .i64) (Ty.int .i64)) b v3).2))=false->fits .i64 ((↑v3:Int)+(1:Int))/\∃(v7:Nat),(v7<=a.length/\∀(v8:Nat),Nat.le (Nat.succ v8) v7->qf2 (Ty.prod (Ty.int .i64) (Ty.int .i64)) a v8=qf2 (Ty.prod (Ty.int .i64) (Ty.int .i64)) b v8)/\a.length-v7<a.length-v3/\((↑v3:Int)+(1:Int)=(↑v7:Int)/\True)/\True))/\(decide ((↑v3:Int)<(↑a.length:Int))=false->true=decide (a=b)))) (by kernel_rfl) ?_
 try simp only[z0,z1,z2,z3,z4,z5,z6,z7,z8,z9,z10,Int.reduceEq,z11,z12,z13,z14,z15,z16,z17,z18,z19,z20,z21,z22,z23,z24,z25,z26,z27,z28,z29,z30,Int.reduceLE,Int.reduceLT,z31,z32,z33,z34,qa1]
 try simp only[qb4,qb5,qc8,z31,z32,z2,z1]
 refine⟨λhl=>?_,λhl=>?_⟩
 ·rw[decide_eq_false]; intro e; subst e; exact hl rfl
 ·refine⟨(),0,⟨Nat.zero_le _,λi hi=>absurd hi (by omega)⟩,rfl,λk ⟨hk,hall⟩=>⟨λhlt=>⟨hlt,by omega,λhne=>?_,λhe=>⟨qa7 (by omega) (by omega),k+1,⟨by omega,λi hi=>?_⟩,by omega,by omega⟩⟩,λhge=>?_⟩⟩
  ·rw[decide_eq_false]; intro e; subst e; first | exact hne rfl | (revert hne; simp)
  ·by_cases e:i=k
   ·subst e; first | exact he | (refine Prod.ext ?_ ?_ <;> simp_all)
   ·exact hall i (by omega)
  ·exact(decide_eq_true (w0i _ a b (by omega) λi hi=>hall i (by omega))).symm
structure w6r (f:List Int × List (Int × Int)):Prop where
 pix:f.1.length<=1000000
 val:f.2.length<=1000000
def wr1 (f g:List Int × List (Int × Int)):Bool:=decide (f.1=g.1) && decide (f.2=g.2)
abbrev xv8:qc7:=qg0 true none [wn8,wn8] [.bool] (λx=>w6r x.1) (λx=>(wr1 x.1 x.2.1,()))
theorem wr5:Meets Tryz.prog 42 xv8:=by
 refine meets (snd (SpecsOk.cons w2p (SpecsOk.cons q84 (SpecsOk.nil _)))) Tryz.func42 rfl rfl (λ_ _=>none) (λ_=>by kernel_rfl) (by decide) ?_
 rintro⟨f,g,⟨⟩⟩ h
 revert f g
 intro(f:List Int × List (Int × Int)) (g:List Int × List (Int × Int)) (h:w6r f)
 refine @qe0 _ (f.1.length<=(1000000:Nat)/\(decide (f.1=g.1)=true->f.2.length<=(1000000:Nat)/\decide (f.2=g.2)=wr1 f g)/\(decide (f.1=g.1)=false->false=wr1 f g)) (by kernel_rfl) ?_
 try simp only[z0,z1,z2,z3,z4,z5,z6,z7,z8,z9,z10,Int.reduceEq,z11,z12,z13,z14,z15,z16,z17,z18,z19,z20,z21,z22,z23,z24,z25,z26,z27,z28,z29,z30,Int.reduceLE,Int.reduceLT,z31,z32,z33,z34,qa1]
 try simp only[qb4,qb5,qc8,z31,z32,z2,z1]
 exact⟨h.pix,λe=>⟨h.val,by simp[wr1,e]⟩,λe=>by simp[wr1,e]⟩
abbrev x2x:Ty:=.list (.prod (.list (.int .i64)) (.list (.prod (.int .i64) (.int .i64))))
def nF (l:List (List Int × List (Int × Int))) (i:Nat):List Int × List (Int × Int):=qf2 (.prod (.list (.int .i64)) (.list (.prod (.int .i64) (.int .i64)))) l i
def xv9 (s:List Int):Int:=if 0<s.length then nI s (s.length-1)+1 else 0
def xw0 (n:Nat) (s:List Int):List (List Int):=(List.range ((n:Int)-xv9 s).toNat).map λt:Nat=>s++[xv9 s+t]
def qs3 (n:Nat):Nat->List (List Int)
 | 0=>[[]]
 | k+1=>if k<(qs3 n k).length then qs3 n k++xw0 n (nL (qs3 n k) k) else qs3 n k
def w2q (n:Nat):List (List Int):=qs3 n 128
theorem q85 (n k:Nat):∀j,∃t,qs3 n (k+j)=qs3 n k++t
 | 0=>⟨[],by simp⟩
 | j+1=>by
  obtain⟨t,ht⟩:=q85 n k j
  rw[<- Nat.add_assoc,qs3]
  split
  ·exact⟨t++xw0 n (nL (qs3 n (k+j)) (k+j)),by rw[<- List.append_assoc,<- ht]⟩
  ·exact⟨t,ht⟩
def w6s (n:Nat):Bool:=decide ((qs3 n 128).length<=128) && (qs3 n 128).all λs=>decide (s.length<=7) && s.all λx=>decide (0<=x) && decide (x<n)
theorem wr6:((List.range 8).all λn=>w6s n)=true:=by decide +kernel
theorem w2r {n:Nat} (h:n<=7):(qs3 n 128).length<=128/\∀s∈qs3 n 128,s.length<=7/\∀x∈s,0<=x/\x<n:=by
 have:=List.all_eq_true.1 wr6 n (List.mem_range.2 (by omega))
 unfold w6s at this
 rw[Bool.and_eq_true,decide_eq_true_eq,List.all_eq_true] at this
 refine⟨this.1,λs hs=>?_⟩
 have h2:=this.2 s hs
 rw[Bool.and_eq_true,decide_eq_true_eq,List.all_eq_true] at h2
 refine⟨h2.1,λx hx=>?_⟩
 have:=h2.2 x hx
 simpa using this
theorem wl0 {n k:Nat} (h:n<=7) (hk:k<=128):(qs3 n k).length<=128/\∀s∈qs3 n k,s.length<=7/\∀x∈s,0<=x/\x<n:=by
 obtain⟨t,ht⟩:=q85 n k (128-k)
 rw[show k+(128-k)=128 by omega] at ht
 have:=w2r h
 rw[ht] at this
 refine⟨by have:=this.1; simp at this; omega,λs hs=>this.2 s (by simp[hs])⟩
def wl1 (piv:List Int) (f:Nat):Nat->Bool
 | 0=>true
 | k+1=>wl1 piv f k && (nI piv k != (f:Int))
def w2s (d:List (List Int)) (piv:List Int) (k:Nat):Int:=nI (nL d k) (nI piv k).toNat
def q4j (d:List (List Int)) (piv:List Int):Nat->Int
 | 0=>1
 | k+1=>(q4j d piv k).tdiv (qd7 (q4j d piv k) (w2s d piv k))*w2s d piv k
def xw1 (d:List (List Int)) (piv:List Int) (n f:Nat):Nat->List Int
 | 0=>(List.replicate n 0).set f (q4j d piv piv.length)
 | k+1=>(xw1 d piv n f k).set (nI piv k).toNat ((0-nI (nL d k) f)*(q4j d piv piv.length).tdiv (w2s d piv k))
def wl2 (d:List (List Int)) (piv:List Int) (n:Nat):Nat->List (List Int)
 | 0=>[]
 | f+1=>if wl1 piv f piv.length then wl2 d piv n f++[qk3 (xw1 d piv n f piv.length)] else wl2 d piv n f
def w6t (rows:List (List Int)):List (List Int):=wl2 (qb7 rows).1 (qb7 rows).2 (rdW rows) (rdW rows)
def qj8 (n:Nat) (set v:List Int):Nat->List Int
 | 0=>List.replicate n 0
 | j+1=>(qj8 n set v j).set (nI set j).toNat (nI v j)
def w6u (l:List (List Int)):Bool:=decide (l.length=1) && !((nL l 0).any λe=>(0:Int)==e)
def x63 (m:List (List Int)) (n:Nat) (set:List Int):List Int:=q70 (qj8 n set (nL (qp0 m set) 0) set.length)
def qs9 (m:List (List Int)) (n:Nat) (L:List (List Int)):Nat->List (List Int)
 | 0=>[]
 | c+1=>if w6u (qp0 m (nL L c)) then qs9 m n L c++[x63 m n (nL L c)] else qs9 m n L c
def q49 (m:List (List Int)) (n:Nat):Nat->List (List Int)
 | 0=>[]
 | k+1=>q49 m n k++qs9 m n (qf4 n (k+1:Nat)) (qf4 n (k+1:Nat)).length
def w6v (m:List (List Int)):Nat:=min ((qi1 m (q2k (nL m 0).length)).2.length+1) (nL m 0).length
def q67 (m:List (List Int)):List (List Int) × Int:=if qe6 m=false then([],1) else(q49 m (nL m 0).length (w6v m),0)
structure wr7 (m:List (List Int)):Prop where
 rank:wk7 m
 ker:∀k,k<(nL m 0).length->∀set∈qf4 (nL m 0).length (k+1:Nat),w2k m set
abbrev x64:qc7:=qg0 true none [qk2] [qk2,qf8] (λx=>qe6 x.1=true->wr7 x.1) (λx=>((q67 x.1).1,(q67 x.1).2,()))
def x2y (m:List (List Int)) (n:Nat):Nat->Option Inv
 | 0=>some (Inv.of [30] 4 (λk:Nat=>[(30,.lit (.int .i64 k))]) (λk=>[.box 23 (.cons (.dat (.list (.int .i64)) m) .nil),.box 3 (.cons (.lit (.int .i64 n)) .nil),.box 22 (.cons (.msl 3 .none) .nil),.mat 34 3 (.int .i64) (q49 m n k) .none .none]) (λk=>k<=w6v m) (λk=>w6v m-k))
 | 1=>some (Eng.Inv.mk Nat Nat [] 4 (λ_ _=>[]) (λk c=>[.box 23 (.cons (.dat (.list (.int .i64)) m) .nil),.box 3 (.cons (.lit (.int .i64 n)) .nil),.box 22 (.cons (.msl 3 .none) .nil),.mat 34 3 (.int .i64) (q49 m n k++qs9 m n (qf4 n (k+1:Nat)) c) .none .none]) (λk c=>c<=(qf4 n (k+1:Nat)).length) (λk c=>c))
 | 2=>some (Eng.Inv.mk (q7s × Nat × Nat × List Int) Nat [9,11,52,54] 6 (λq j=>[(9,.msl 4 (some 0)),(11,.own 5),(52,.msl 4 (some 0)),(54,.lit (.int .i64 j))]) (λq j=>[.box 23 (.cons (.dat (.list (.int .i64)) m) .nil),.box 3 (.cons (.lit (.int .i64 n)) .nil),.box 22 (.cons (.msl 3 .none) .nil),.mat 34 3 (.int .i64) (q49 m n q.2.1++qs9 m n (qf4 n (q.2.1+1:Nat)) q.2.2.1) .none .none,.mat 3 3 (.int .i64) [q.2.2.2] (some []) (some q.1),.vec 3 (.int .i64) (qj8 n q.2.2.2 (nL (qp0 m q.2.2.2) 0) j)]) (λq j=>j<=q.2.2.2.length) (λq j=>q.2.2.2.length-j))
 | _=>none
def x2z (mats em:List Nat) (specs:List (Nat × qc7)) (muts:List (Nat × qr8)) (its:List (Nat × q1w)):Ctx:={ specs:=specs,tys:=tys,wr:=[],muts:=muts,mats:=mats,em:=em,its:=its }
theorem x21 (mats em:List Nat) {specs:List (Nat × qc7)} {muts:List (Nat × qr8)} {its:List (Nat × q1w)} (h:SpecsOk Tryz.prog specs) (hm:MutsOk muts) (hi:ItsOk its):Sound Tryz.prog (x2z mats em specs muts its):=SpecsOk.sound h q28 (by kernel_rfl) hi (hmu:=hm)
theorem q68 (m:List (List Int)) (n:Nat) (L:List (List Int)):∀c,(qs9 m n L c).length<=c
 | 0=>Nat.le_refl _
 | c+1=>by
  have:=q68 m n L c
  rw[qs9]
  split
  ·simp; omega
  ·omega
theorem wr9:((List.range 11).all λn=>(List.range 12).all λk=>decide ((qf4 (n:Nat) (k:Nat)).length<=1000))=true:=by decide +kernel
theorem wl3 (n k:Nat) (hn:n<=10) (hk:k<=11):(qf4 (n:Nat) (k:Nat)).length<=1000:=
 of_decide_eq_true (List.all_eq_true.1 (List.all_eq_true.1 wr9 n (List.mem_range.2 (by omega))) k (List.mem_range.2 (by omega)))
theorem w0l (m:List (List Int)) (n:Nat) (hn:n<=10):∀k,k<=11->(q49 m n k).length<=1000*k
 | 0,_=>Nat.le_refl _
 | k+1,hk=>by
  have h1:=w0l m n hn k (by omega)
  have h2:=wl3 n (k+1) hn hk
  have h3:=q68 m n (qf4 (n:Nat) (k+1:Nat)) (qf4 (n:Nat) (k+1:Nat)).length
  rw[q49,List.length_append]
  omega
theorem q69 {R:List (List Int)} {P:List Int} {n:Nat} (h:xa6 R P n) (hn:n<=1000):∀f,f<=n->∀x∈qo3 R P n f,x.length=n/\q6w x
 | 0,_,x,hx=>by cases hx
 | f+1,hf,x,hx=>by
  rw[qo3] at hx
  split at hx
  ·exact q69 h hn f (by omega) x hx
  ·rename_i hfree
   rcases List.mem_append.1 hx with hx | hx
   ·exact q69 h hn f (by omega) x hx
   ·obtain rfl:=List.mem_singleton.1 hx
    have hb:q6w (hTo R P n f P.length):=⟨by rw[q64]; exact hn,wq8 h (by omega) (Bool.eq_false_iff.2 hfree) _ (Nat.le_refl _)⟩
    exact⟨by rw[q8v,q64],q81 hb⟩
theorem q7a {m:List (List Int)} {set:List Int} (h:w2k m set) (x:List Int) (hx:x∈qp0 m set):x.length=set.length/\set.length<=1000/\q6w x:=by
 have hw:=h.red.w
 have:=q69 h.ar hw _ (Nat.le_refl _) x hx
 exact⟨this.1,hw,this.2⟩
theorem q02 (n:Nat) (set v:List Int):∀j,(qj8 n set v j).length=n
 | 0=>by simp[qj8]
 | j+1=>by rw[qj8,List.length_set]; exact q02 n set v j
theorem q40 {n:Nat} {set v:List Int} (hv:q6w v) (hn:n<=1000) (hl:v.length=set.length):∀j,j<=set.length->q6w (qj8 n set v j)
 | 0,_=>⟨by simp[qj8]; omega,λx hx=>by
  obtain rfl:=(List.mem_replicate.1 hx).2
  unfold BIG; omega⟩
 | j+1,hj=>by
  have h1:=q40 hv hn hl j (by omega)
  refine⟨by rw[q02]; exact hn,λx hx=>?_⟩
  rw[qj8] at hx
  rcases List.mem_or_eq_of_mem_set hx with hx | rfl
  ·exact h1.2 x hx
  ·exact q2f hv (by omega)
theorem w6w:Meets Tryz.prog 64 x64:=by
 refine meets (x21 [72] [] (SpecsOk.cons w2l (SpecsOk.cons q80 (SpecsOk.cons w6h (SpecsOk.cons wk5 (SpecsOk.nil _))))) (MutsOk.cons w2j MutsOk.nil) (ItsOk.cons q8z ItsOk.nil)) Tryz.func64 rfl rfl (λx=>x2y x.1 (nL x.1 0).length) (λ_=>by kernel_rfl) (by decide) ?_
 rintro⟨m,⟨⟩⟩ h
 revert m
 intro(m:List (List Int)) (h:qe6 m=true->wr7 m)
 refine @qe0 _ ((qe6 m=true->wk7 m)/\(((qw6 m).2 != (0:Int))=true->(q67 m).1=[]/\(qw6 m).2=(q67 m).2/\True)/\(((qw6 m).2 != (0:Int))=false->((0:Int)<=(0:Int)/\(0:Int)<(↑m.length:Int))/\fits .i64 ((qw6 m).1+(1:Int))/\∃(v1:Unit),∃(v2:Nat),Nat.le v2 (w6v m)/\(((0:Int)=(↑v2:Int)/\True)/\(m=m/\True)/\((↑(nL m (0:Nat)).length:Int)=(↑(nL m (0:Nat)).length:Int)/\True)/\(True/\True)/\q49 m (nL m (0:Nat)).length v2=[]/\True)/\∀(v3:Nat),Nat.le v3 (w6v m)->(decide ((↑v3:Int)<max2 false ((qw6 m).1+(1:Int)) (↑(nL m (0:Nat)).length:Int))=true->fits .i64 ((↑v3:Int)+(1:Int))/\True/\(((0:Ty.den qf8)<=(↑v3:Int)+(1:Int)/\(↑v3:Int)+(1:Int)<=(1000:Ty.den qf8))/\(0:Ty.den qf8)<=(↑(nL m (0:Nat)).length:Int)/\(↑(nL m (0:Nat)).length:Int)<=(1000:Ty.den qf8))/\∃(v6:Nat),∃(v7:Nat),Nat.le v7 (qf4 (↑(nL m (0:Nat)).length:Int) (↑(v6+(1:Nat)):Int)).length/\v7=(0:Nat)/\((m=m/\True)/\((↑(nL m (0:Nat)).length:Int)=(↑(nL m (0:Nat)).length:Int)/\True)/\(True/\True)/\(q49 m (nL m (0:Nat)).length v3=q49 m (nL m (0:Nat)).length v6++qs9 m (nL m (0:Nat)).length (qf4 (↑(nL m (0:Nat)).length:Int) (↑(v6+(1:Nat)):Int)) v7/\True/\True)/\True)/\∀(v8:Nat),Nat.le v8 (qf4 (↑(nL m (0:Nat)).length:Int) (↑(v6+(1:Nat)):Int)).length->(∀(v10:List Int × qa5._f [] PUnit.unit),(List.map (λ(v12:List Int)=>(v12,())) (qf4 (↑(nL m (0:Nat)).length:Int) ((↑v3:Int)+(1:Int))))[v8]?=some v10->∀(v12:q7s),w2k m (nL [v10.1] (0:Nat))/\(((↑(qp0 m (nL [v10.1] (0:Nat))).length:Int) != (1:Int))=true->[v10.1]=[v10.1]/\v12=v12/\True/\∃(v14:Nat),Nat.le v14 (qf4 (↑(nL m (0:Nat)).length:Int) (↑(v6+(1:Nat)):Int)).length/\v14=v8+(1:Nat)/\(m=m/\True)/\((↑(nL m (0:Nat)).length:Int)=(↑(nL m (0:Nat)).length:Int)/\True)/\(True/\True)/\(q49 m (nL m (0:Nat)).length v6++qs9 m (nL m (0:Nat)).length (qf4 (↑(nL m (0:Nat)).length:Int) (↑(v6+(1:Nat)):Int)) v8=q49 m (nL m (0:Nat)).length v6++qs9 m (nL m (0:Nat)).length (qf4 (↑(nL m (0:Nat)).length:Int) (↑(v6+(1:Nat)):Int)) v14/\True/\True)/\True)/\(((↑(qp0 m (nL [v10.1] (0:Nat))).length:Int) != (1:Int))=false->((0:Int)<=(0:Int)/\(0:Int)<(↑(qp0 m (nL [v10.1] (0:Nat))).length:Int))/\(nL (qp0 m (nL [v10.1] (0:Nat))) (0:Nat)).length<=(1000000:Nat)/\((List.any (nL (qp0 m (nL [v10.1] (0:Nat))) (0:Nat)) λ(v15:Int)=>(0:Int)==v15)=true->[v10.1]=[v10.1]/\v12=v12/\True/\∃(v15:Nat),Nat.le v15 (qf4 (↑(nL m (0:Nat)).length:Int) (↑(v6+(1:Nat)):Int)).length/\v15=v8+(1:Nat)/\(m=m/\True)/\((↑(nL m (0:Nat)).length:Int)=(↑(nL m (0:Nat)).length:Int)/\True)/\(True/\True)/\(q49 m (nL m (0:Nat)).length v6++qs9 m (nL m (0:Nat)).length (qf4 (↑(nL m (0:Nat)).length:Int) (↑(v6+(1:Nat)):Int)) v8=q49 m (nL m (0:Nat)).length v6++qs9 m (nL m (0:Nat)).length (qf4 (↑(nL m (0:Nat)).length:Int) (↑(v6+(1:Nat)):Int)) v15/\True/\True)/\True)/\((List.any (nL (qp0 m (nL [v10.1] (0:Nat))) (0:Nat)) λ(v15:Int)=>(0:Int)==v15)=false->((↑(nL m (0:Nat)).length:Int)=(↑(nL m (0:Nat)).length:Int)/\(0:Int)<=(↑(nL m (0:Nat)).length:Int)/\(↑(nL m (0:Nat)).length:Int)<=(1000000:Int))/\∃(v15:q7s × Nat × Nat × List Int),∃(v16:Nat),Nat.le v16 v15.2.2.2.length/\((some (0:Nat)=some (0:Nat)/\True/\some (0:Nat)=some (0:Nat)/\(0:Int)=(↑v16:Int)/\True)/\(m=m/\True)/\((↑(nL m (0:Nat)).length:Int)=(↑(nL m (0:Nat)).length:Int)/\True)/\(True/\True)/\(q49 m (nL m (0:Nat)).length v6++qs9 m (nL m (0:Nat)).length (qf4 (↑(nL m (0:Nat)).length:Int) (↑(v6+(1:Nat)):Int)) v8=q49 m (nL m (0:Nat)).length v15.2.1++qs9 m (nL m (0:Nat)).length (qf4 (↑(nL m (0:Nat)).length:Int) (↑(v15.2.1+(1:Nat)):Int)) v15.2.2.1/\True/\True)/\([v10.1]=[v15.2.2.2]/\True/\v12=v15.1)/\List.replicate (↑(nL m (0:Nat)).length:Int).toNat (Ty.dflt (TI.ty T3))=qj8 (nL m (0:Nat)).length v15.2.2.2 (nL (qp0 m v15.2.2.2) (0:Nat)) v16/\True)/\∀(v17:Nat),Nat.le v17 v15.2.2.2.length->(decide ((↑v17:Int)<(↑(nL [v10.1] (0:Nat)).length:Int))=true->((0:Int)<=(↑v17:Int)/\(↑v17:Int)<(↑(nL [v15.2.2.2] (0:Nat)).length:Int))/\v17<(nL [v15.2.2.2] (0:Nat)).length/\((0:Int)<=(0:Int)/\(0:Int)<(↑(qp0 m (nL [v10.1] (0:Nat))).length:Int))/\((0:Int)<=(↑v17:Int)/\(↑v17:Int)<(↑(nL (qp0 m (nL [v10.1] (0:Nat))) (0:Nat)).length:Int))/\((0:Int)<=nI (nL [v15.2.2.2] (0:Nat)) v17/\nI (nL [v15.2.2.2] (0:Nat)) v17<(↑(qj8 (nL m (0:Nat)).length v15.2.2.2 (nL (qp0 m v15.2.2.2) (0:Nat)) v17).length:Int))/\(nI (nL [v15.2.2.2] (0:Nat)) v17).toNat<(qj8 (nL m (0:Nat)).length v15.2.2.2 (nL (qp0 m v15.2.2.2) (0:Nat)) v17).length/\fits .i64 ((↑v17:Int)+(1:Int))/\∃(v20:Nat),Nat.le v20 v15.2.2.2.length/\v15.2.2.2.length-v20<v15.2.2.2.length-v17/\(some (0:Nat)=some (0:Nat)/\True/\some (0:Nat)=some (0:Nat)/\(↑v17:Int)+(1:Int)=(↑v20:Int)/\True)/\(m=m/\True)/\((↑(nL m (0:Nat)).length:Int)=(↑(nL m (0:Nat)).length:Int)/\True)/\(True/\True)/\(q49 m (nL m (0:Nat)).length v15.2.1++qs9 m (nL m (0:Nat)).length (qf4 (↑(nL m (0:Nat)).length:Int) (↑(v15.2.1+(1:Nat)):Int)) v15.2.2.1=q49 m (nL m (0:Nat)).length v15.2.1++qs9 m (nL m (0:Nat)).length (qf4 (↑(nL m (0:Nat)).length:Int) (↑(v15.2.1+(1:Nat)):Int)) v15.2.2.1/\True/\True)/\([v15.2.2.2]=[v15.2.2.2]/\True/\v15.1=v15.1)/\List.set (qj8 (nL m (0:Nat)).length v15.2.2.2 (nL (qp0 m v15.2.2.2) (0:Nat)) v17) (nI (nL [v15.2.2.2] (0:Nat)) v17).toNat (nI (nL (qp0 m (nL [v10.1] (0:Nat))) (0:Nat)) v17)=qj8 (nL m (0:Nat)).length v15.2.2.2 (nL (qp0 m v15.2.2.2) (0:Nat)) v20/\True)/\(decide ((↑v17:Int)<(↑(nL [v10.1] (0:Nat)).length:Int))=false->q6w (nL [qj8 (nL m (0:Nat)).length v15.2.2.2 (nL (qp0 m v15.2.2.2) (0:Nat)) v17] (0:Nat))/\((0:Nat)<(0:Nat)+(1:Nat)/\(q49 m (nL m (0:Nat)).length v15.2.1++qs9 m (nL m (0:Nat)).length (qf4 (↑(nL m (0:Nat)).length:Int) (↑(v15.2.1+(1:Nat)):Int)) v15.2.2.1).length+((0:Nat)+(1:Nat))<=(1000000:Nat))/\[v15.2.2.2]=[v10.1]/\v15.1=v12/\True/\∃(v20:Nat),Nat.le v20 (qf4 (↑(nL m (0:Nat)).length:Int) (↑(v6+(1:Nat)):Int)).length/\v20=v8+(1:Nat)/\(m=m/\True)/\((↑(nL m (0:Nat)).length:Int)=(↑(nL m (0:Nat)).length:Int)/\True)/\(True/\True)/\(q49 m (nL m (0:Nat)).length v15.2.1++qs9 m (nL m (0:Nat)).length (qf4 (↑(nL m (0:Nat)).length:Int) (↑(v15.2.1+(1:Nat)):Int)) v15.2.2.1++[nL [q70 (nL [qj8 (nL m (0:Nat)).length v15.2.2.2 (nL (qp0 m v15.2.2.2) (0:Nat)) v17] (0:Nat))] (0:Nat)]=q49 m (nL m (0:Nat)).length v6++qs9 m (nL m (0:Nat)).length (qf4 (↑(nL m (0:Nat)).length:Int) (↑(v6+(1:Nat)):Int)) v20/\True/\True)/\True))))/\(v8=(List.map (λ(v11:List Int)=>(v11,())) (qf4 (↑(nL m (0:Nat)).length:Int) ((↑v3:Int)+(1:Int)))).length->fits .i64 ((↑v3:Int)+(1:Int))/\∃(v11:Nat),Nat.le v11 (w6v m)/\w6v m-v11<w6v m-v3/\((↑v3:Int)+(1:Int)=(↑v11:Int)/\True)/\(m=m/\True)/\((↑(nL m (0:Nat)).length:Int)=(↑(nL m (0:Nat)).length:Int)/\True)/\(True/\True)/\(q49 m (nL m (0:Nat)).length v6++qs9 m (nL m (0:Nat)).length (qf4 (↑(nL m (0:Nat)).length:Int) (↑(v6+(1:Nat)):Int)) v8=q49 m (nL m (0:Nat)).length v11/\True/\True)/\True))/\(decide ((↑v3:Int)<max2 false ((qw6 m).1+(1:Int)) (↑(nL m (0:Nat)).length:Int))=false->q3v (Ty.int .i64) (q49 m (nL m (0:Nat)).length v3) none=(q67 m).1/\(0:Int)=(q67 m).2/\True))) (by kernel_rfl) ?_
 try simp only[z0,z1,z2,z3,z4,z5,z6,z7,z8,z9,z10,Int.reduceEq,z11,z12,z13,z14,z15,z16,z17,z18,z19,z20,z21,z22,z23,z24,z25,z26,z27,z28,z29,z30,Int.reduceLE,Int.reduceLT,z31,z32,z33,z34,qa1]
 try simp only[qb4,qb5,qc8,z31,z32,z2,z1]
 refine⟨λhv=>(h hv).rank,λhe=>?_,λhe=>?_⟩
 ·have hv:qe6 m=false:=by
   cases e:qe6 m with
   | false=>rfl
   | true=>exact absurd (by simp[qw6,e]) he
  simp[qw6,q67,hv]
 have hv:qe6 m=true:=by
  cases e:qe6 m with
  | true=>rfl
  | false=>simp[qw6,e] at he
 have hO:=h hv
 have hM:=Mk.of hv
 have hm1:=hM.rows1
 have hn1:=hM.pix1
 have hn10:=hM.pix10
 have hrank:(qi1 m (q2k (nL m 0).length)).2.length<=10:=by
  have:=(qu8 hO.rank.red (nL m 0).length).pivj
  unfold qi1
  rw[qs8]
  exact Nat.le_trans this hn10
 have hr:qw6 m=(((qi1 m (q2k (nL m 0).length)).2.length:Int),0):=by simp[qw6,hv]
 have hcN:w6v m=min ((qi1 m (q2k (nL m 0).length)).2.length+1) (nL m 0).length:=rfl
 have hcR:q67 m=(q49 m (nL m 0).length (w6v m),0):=by simp[q67,hv]
 rw[hr,hcR]
 generalize(qi1 m (q2k (nL m 0).length)).2.length=r at *
 have hker:=hO.ker
 generalize hnn:(nL m 0).length=n at *
 dsimp only
 refine⟨by omega,qa7 (by omega) (by omega),(),0,Nat.zero_le _,⟨rfl,rfl⟩,λk hk=>⟨λhlt=>?_,λhge=>?_⟩⟩
 ·have hlt:(k:Int)<min ((r:Int)+1) n:=hlt
  have hkn:k<n:=by omega
  have hca:((k:Int)+1)=((k+1:Nat):Int):=by omega
  have hkl:=w0l m n hn10 k (by omega)
  have hsl:=wl3 n (k+1) hn10 (by omega)
  rw[hca]
  have hb1:(0:Int)<=((k+1:Nat):Int)/\((k+1:Nat):Int)<=1000:=by omega
  refine⟨qa7 (by omega) (by omega),⟨hb1,by omega⟩,k,0,Nat.zero_le _,rfl,by simp[qs9],λc hc=>⟨?_,λhce=>?_⟩⟩
  ·rintro⟨set,⟨⟩⟩ hset T
   dsimp only
   have hs:(qf4 n (k+1:Nat))[c]? = some set:=by
    rw[List.getElem?_map] at hset
    obtain⟨x,hx,hx2⟩:=Option.map_eq_some_iff.1 hset
    injection hx2 with hx2
    rw[<- hx2]; exact hx
   have hcl:c<(qf4 n (k+1:Nat)).length:=(List.getElem?_eq_some_iff.1 hs).1
   have hnl:nL (qf4 n (k+1:Nat)) c=set:=by rw[ql7 _ c hcl]; exact(List.getElem?_eq_some_iff.1 hs).2
   have hK:w2k m set:=hker k hkn set (List.mem_of_getElem? hs)
   have hctl:=q68 m n (qf4 n (k+1:Nat)) c
   refine⟨hK,λh1=>⟨c+1,hcl,rfl,?_⟩,λh1=>⟨by omega,?_,λh2=>⟨c+1,hcl,rfl,?_⟩,λh2=>⟨by omega,(T,k,c,set),0,Nat.zero_le _,⟨rfl,rfl,⟨rfl,rfl⟩,rfl⟩,λj hj=>⟨λhjl=>?_,λhjl=>?_⟩⟩⟩⟩
   ·rw[qs9,hnl,if_neg]
    intro q
    unfold w6u at q
    rw[Bool.and_eq_true,decide_eq_true_eq] at q
    exact h1 (by omega)
   ·have h0:=q7a hK (nL (qp0 m set) 0) (qv0 _ 0 (by omega))
    omega
   ·rw[qs9,hnl,if_neg]
    intro q
    unfold w6u at q
    rw[Bool.and_eq_true,h2] at q
    cases q.2
   ·dsimp only at hj ⊢
    have hat:=hK.cho.at_ 0 (by omega) j hjl
    rw[hnn] at hat
    have hkm:=q7a hK (nL (qp0 m set) 0) (qv0 _ 0 (by omega))
    have hsp:=q02 n set (nL (qp0 m set) 0) j
    have hat':0<=nI set j/\nI set j<((qj8 n set (nL (qp0 m set) 0) j).length:Int):=⟨hat.1,by omega⟩
    exact⟨hjl,hjl,by omega,by omega,hat',by omega,qa7 (by omega) (by omega),j+1,hjl,by omega,by omega,rfl⟩
   ·dsimp only at hj ⊢
    obtain rfl:j=set.length:=by omega
    have hkm:=q7a hK (nL (qp0 m set) 0) (qv0 _ 0 (by omega))
    refine⟨q40 hkm.2.2 (by omega) hkm.1 _ (Nat.le_refl _),by rw[List.length_append]; omega,rfl,rfl,c+1,hcl,rfl,?_⟩
    have hg:w6u (qp0 m set)=true:=by
     unfold w6u
     rw[h2,Bool.and_eq_true,decide_eq_true_eq]
     exact⟨by omega,rfl⟩
    rw[qs9,hnl,if_pos hg,List.append_assoc]
    rfl
  ·rw[List.length_map] at hce
   subst hce
   exact⟨qa7 (by omega) (by omega),k+1,by omega,by omega,rfl,rfl⟩
 ·have hge:min ((r:Int)+1) n<=k:=hge
  obtain rfl:k=w6v m:=by omega
  exact⟨rfl,rfl⟩
end Go.Proofs.YtmijnbjlhnpokaaGreat
