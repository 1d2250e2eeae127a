/- The iterator over fits, and what is over it: contracts by the engine. No condition. -/
import Derived.Test.YtmijnbjlhnpokaaGreatV16
set_option linter.unusedVariables false
set_option linter.unusedSimpArgs false
namespace Go.Proofs.YtmijnbjlhnpokaaGreat
open Go Go.RowKit Eng
def x0c (a b:List (Ty.den (.int .i64))):Nat->Option Inv
 | 0=>some (Inv.of [13] 0 (λk:Nat=>[(13,.lit (.int .i64 k))]) (λ_=>[]) (λk=>k<=a.length/\∀i,i<k->qe8 (.int .i64) a i=qe8 (.int .i64) b i) (λk=>a.length-k))
 | _=>none
abbrev x4f:qc9:=qg4 true none [.list (.int .i64),.list (.int .i64)] [.bool] (λx=>x.1.length<=1000000) (λx=>(decide (x.1=x.2.1),()))
theorem q9i:Meets Tryz.prog 41 x4f:=by
 refine meets (snd (SpecsOk.nil _)) Tryz.func41 rfl rfl (λx=>x0c x.1 x.2.1) (λ_=>by kernel_rfl) (by decide) ?_
 rintro⟨a,b,⟨⟩⟩ h
 revert a b
 intro(a:List (Ty.den (.int .i64))) (b:List (Ty.den (.int .i64))) (h:a.length<=1000000)
 refine @qd9 _ ((((↑a.length:Int) != (↑b.length:Int))=true->false=decide (a=b))/\(((↑a.length:Int) != (↑b.length:Int))=false->∃(v1:Unit),∃(v2:Nat),(v2<=a.length/\∀(v3:Nat),Nat.le (Nat.succ v3) v2->nI a v3=nI b v3)/\(((0:Int)=(↑v2:Int)/\True)/\True)/\∀(v3:Nat),(v3<=a.length/\∀(v5:Nat),Nat.le (Nat.succ v5) v3->nI a v5=nI b v5)->(decide ((↑v3:Int)<(↑a.length:Int))=true->((0:Int)<=(↑v3:Int)/\(↑v3:Int)<(↑a.length:Int))/\((0:Int)<=(↑v3:Int)/\(↑v3:Int)<(↑b.length:Int))/\((nI a v3 != nI b v3)=true->false=decide (a=b))/\((nI a v3 != nI b v3)=false->fits .i64 ((↑v3:Int)+(1:Int))/\∃(v7:Nat),(v7<=a.length/\∀(v8:Nat),Nat.le (Nat.succ v8) v7->nI a v8=nI b v8)/\a.length-v7<a.length-v3/\((↑v3:Int)+(1:Int)=(↑v7:Int)/\True)/\True))/\(decide ((↑v3:Int)<(↑a.length:Int))=false->true=decide (a=b)))) (by kernel_rfl) ?_
 try simp only[z0,z1,z2,z3,z4,z5,z6,z7,z8,z9,z10,Int.reduceEq,z11,z12,z13,z14,z15,z16,z17,z18,z19,z20,z21,z22,z23,z24,z25,z26,z27,z28,z29,z30,Int.reduceLE,Int.reduceLT,z31,z32,z33,z34,qa1]
 try simp only[qb4,qb5,qd0,z31,z32,z2,z1]
 refine⟨λhl=>?_,λhl=>?_⟩
 ·rw[decide_eq_false]; intro e; subst e; exact hl rfl
 ·refine⟨(),0,⟨Nat.zero_le _,λi hi=>absurd hi (by omega)⟩,rfl,λk ⟨hk,hall⟩=>⟨λhlt=>⟨hlt,by omega,λhne=>?_,λhe=>⟨qa5 (by omega) (by omega),k+1,⟨by omega,λi hi=>?_⟩,by omega,by omega⟩⟩,λhge=>?_⟩⟩
  ·rw[decide_eq_false]; intro e; subst e; first | exact hne rfl | (revert hne; simp)
  ·by_cases e:i=k
   ·subst e; first | exact he | (refine Prod.ext ?_ ?_ <;> simp_all)
   ·exact hall i (by omega)
  ·exact(decide_eq_true (w0z _ a b (by omega) λi hi=>hall i (by omega))).symm
def x0d (a b:List (Ty.den (.prod (.int .i64) (.int .i64)))):Nat->Option Inv
 | 0=>some (Inv.of [13] 0 (λk:Nat=>[(13,.lit (.int .i64 k))]) (λ_=>[]) (λk=>k<=a.length/\∀i,i<k->qe8 (.prod (.int .i64) (.int .i64)) a i=qe8 (.prod (.int .i64) (.int .i64)) b i) (λk=>a.length-k))
 | _=>none
abbrev x4g:qc9:=qg4 true none [.list (.prod (.int .i64) (.int .i64)),.list (.prod (.int .i64) (.int .i64))] [.bool] (λx=>x.1.length<=1000000) (λx=>(decide (x.1=x.2.1),()))
theorem w3d:Meets Tryz.prog 30 x4g:=by
 refine meets (snd (SpecsOk.nil _)) Tryz.func30 rfl rfl (λx=>x0d x.1 x.2.1) (λ_=>by kernel_rfl) (by decide) ?_
 rintro⟨a,b,⟨⟩⟩ h
 revert a b
 intro(a:List (Ty.den (.prod (.int .i64) (.int .i64)))) (b:List (Ty.den (.prod (.int .i64) (.int .i64)))) (h:a.length<=1000000)
 refine @qd9 _ ((((↑a.length:Int) != (↑b.length:Int))=true->false=decide (a=b))/\(((↑a.length:Int) != (↑b.length:Int))=false->∃(v1:Unit),∃(v2:Nat),(v2<=a.length/\∀(v3:Nat),Nat.le (Nat.succ v3) v2->qe8 (Ty.prod (Ty.int .i64) (Ty.int .i64)) a v3=qe8 (Ty.prod (Ty.int .i64) (Ty.int .i64)) b v3)/\(((0:Int)=(↑v2:Int)/\True)/\True)/\∀(v3:Nat),(v3<=a.length/\∀(v5:Nat),Nat.le (Nat.succ v5) v3->qe8 (Ty.prod (Ty.int .i64) (Ty.int .i64)) a v5=qe8 (Ty.prod (Ty.int .i64) (Ty.int .i64)) b v5)->(decide ((↑v3:Int)<(↑a.length:Int))=true->((0:Int)<=(↑v3:Int)/\(↑v3:Int)<(↑a.length:Int))/\((0:Int)<=(↑v3:Int)/\(↑v3:Int)<(↑b.length:Int))/\((!((qe8 (Ty.prod (Ty.int .i64) (Ty.int .i64)) a v3).1==(qe8 (Ty.prod (Ty.int .i64) (Ty.int .i64)) b v3).1 && (qe8 (Ty.prod (Ty.int .i64) (Ty.int .i64)) a v3).2==(qe8 (Ty.prod (Ty.int .i64) (Ty.int .i64)) b v3).2))=true->false=decide (a=b))/\((!((qe8 (Ty.prod (Ty.int .i64) (Ty.int .i64)) a v3).1==(qe8 (Ty.prod (Ty.int .i64) (Ty.int .i64)) b v3).1 && (qe8 (Ty.prod (Ty.int .i64) (Ty.int .i64)) a v3).2==(qe8 (Ty.prod (Ty.int .i64) (Ty.int .i64)) b v3).2))=false->fits .i64 ((↑v3:Int)+(1:Int))/\∃(v7:Nat),(v7<=a.length/\∀(v8:Nat),Nat.le (Nat.succ v8) v7->qe8 (Ty.prod (Ty.int .i64) (Ty.int .i64)) a v8=qe8 (Ty.prod (Ty.int .i64) (Ty.int .i64)) b v8)/\a.length-v7<a.length-v3/\((↑v3:Int)+(1:Int)=(↑v7:Int)/\True)/\True))/\(decide ((↑v3:Int)<(↑a.length:Int))=false->true=decide (a=b)))) (by kernel_rfl) ?_
 try simp only[z0,z1,z2,z3,z4,z5,z6,z7,z8,z9,z10,Int.reduceEq,z11,z12,z13,z14,z15,z16,z17,z18,z19,z20,z21,z22,z23,z24,z25,z26,z27,z28,z29,z30,Int.reduceLE,Int.reduceLT,z31,z32,z33,z34,qa1]
 try simp only[qb4,qb5,qd0,z31,z32,z2,z1]
 refine⟨λhl=>?_,λhl=>?_⟩
 ·rw[decide_eq_false]; intro e; subst e; exact hl rfl
 ·refine⟨(),0,⟨Nat.zero_le _,λi hi=>absurd hi (by omega)⟩,rfl,λk ⟨hk,hall⟩=>⟨λhlt=>⟨hlt,by omega,λhne=>?_,λhe=>⟨qa5 (by omega) (by omega),k+1,⟨by omega,λi hi=>?_⟩,by omega,by omega⟩⟩,λhge=>?_⟩⟩
  ·rw[decide_eq_false]; intro e; subst e; first | exact hne rfl | (revert hne; simp)
  ·by_cases e:i=k
   ·subst e; first | exact he | (refine Prod.ext ?_ ?_ <;> simp_all)
   ·exact hall i (by omega)
  ·exact(decide_eq_true (w0z _ a b (by omega) λi hi=>hall i (by omega))).symm
structure wm4 (f:List Int × List (Int × Int)):Prop where
 pix:f.1.length<=1000000
 val:f.2.length<=1000000
def q5o (f g:List Int × List (Int × Int)):Bool:=decide (f.1=g.1) && decide (f.2=g.2)
abbrev x0e:qc9:=qg4 true none [wf7,wf7] [.bool] (λx=>wm4 x.1) (λx=>(q5o x.1 x.2.1,()))
theorem q7n:Meets Tryz.prog 42 x0e:=by
 refine meets (snd (SpecsOk.cons q9i (SpecsOk.cons w3d (SpecsOk.nil _)))) Tryz.func42 rfl rfl (λ_ _=>none) (λ_=>by kernel_rfl) (by decide) ?_
 rintro⟨f,g,⟨⟩⟩ h
 revert f g
 intro(f:List Int × List (Int × Int)) (g:List Int × List (Int × Int)) (h:wm4 f)
 refine @qd9 _ (f.1.length<=(1000000:Nat)/\(decide (f.1=g.1)=true->f.2.length<=(1000000:Nat)/\decide (f.2=g.2)=q5o f g)/\(decide (f.1=g.1)=false->false=q5o f g)) (by kernel_rfl) ?_
 try simp only[z0,z1,z2,z3,z4,z5,z6,z7,z8,z9,z10,Int.reduceEq,z11,z12,z13,z14,z15,z16,z17,z18,z19,z20,z21,z22,z23,z24,z25,z26,z27,z28,z29,z30,Int.reduceLE,Int.reduceLT,z31,z32,z33,z34,qa1]
 try simp only[qb4,qb5,qd0,z31,z32,z2,z1]
 exact⟨h.pix,λe=>⟨h.val,by simp[q5o,e]⟩,λe=>by simp[q5o,e]⟩
abbrev x4h:Ty:=.list (.prod (.list (.int .i64)) (.list (.prod (.int .i64) (.int .i64))))
def nF (l:List (List Int × List (Int × Int))) (i:Nat):List Int × List (Int × Int):=qe8 (.prod (.list (.int .i64)) (.list (.prod (.int .i64) (.int .i64)))) l i
def x0f (s:List Int):Int:=if 0<s.length then nI s (s.length-1)+1 else 0
def x0g (n:Nat) (s:List Int):List (List Int):=(List.range ((n:Int)-x0f s).toNat).map λt:Nat=>s++[x0f s+t]
def qt4 (n:Nat):Nat->List (List Int)
 | 0=>[[]]
 | k+1=>if k<(qt4 n k).length then qt4 n k++x0g n (nL (qt4 n k) k) else qt4 n k
def w3e (n:Nat):List (List Int):=qt4 n 128
theorem q9j (n k:Nat):∀j,∃t,qt4 n (k+j)=qt4 n k++t
 | 0=>⟨[],by simp⟩
 | j+1=>by
  obtain⟨t,ht⟩:=q9j n k j
  rw[<- Nat.add_assoc,qt4]
  split
  ·exact⟨t++x0g n (nL (qt4 n (k+j)) (k+j)),by rw[<- List.append_assoc,<- ht]⟩
  ·exact⟨t,ht⟩
def w7d (n:Nat):Bool:=decide ((qt4 n 128).length<=128) && (qt4 n 128).all λs=>decide (s.length<=7) && s.all λx=>decide (0<=x) && decide (x<n)
theorem wt7:((List.range 8).all λn=>w7d n)=true:=by decide +kernel
theorem w3f {n:Nat} (h:n<=7):(qt4 n 128).length<=128/\∀s∈qt4 n 128,s.length<=7/\∀x∈s,0<=x/\x<n:=by
 have:=List.all_eq_true.1 wt7 n (List.mem_range.2 (by omega))
 unfold w7d at this
 rw[Bool.and_eq_true,decide_eq_true_eq,List.all_eq_true] at this
 refine⟨this.1,λs hs=>?_⟩
 have h2:=this.2 s hs
 rw[Bool.and_eq_true,decide_eq_true_eq,List.all_eq_true] at h2
 refine⟨h2.1,λx hx=>?_⟩
 have:=h2.2 x hx
 simpa using this
theorem wm5 {n k:Nat} (h:n<=7) (hk:k<=128):(qt4 n k).length<=128/\∀s∈qt4 n k,s.length<=7/\∀x∈s,0<=x/\x<n:=by
 obtain⟨t,ht⟩:=q9j n k (128-k)
 rw[show k+(128-k)=128 by omega] at ht
 have:=w3f h
 rw[ht] at this
 refine⟨by have:=this.1; simp at this; omega,λs hs=>this.2 s (by simp[hs])⟩
def wm6 (piv:List Int) (f:Nat):Nat->Bool
 | 0=>true
 | k+1=>wm6 piv f k && (nI piv k != (f:Int))
def w3g (d:List (List Int)) (piv:List Int) (k:Nat):Int:=nI (nL d k) (nI piv k).toNat
def q4w (d:List (List Int)) (piv:List Int):Nat->Int
 | 0=>1
 | k+1=>(q4w d piv k).tdiv (qe1 (q4w d piv k) (w3g d piv k))*w3g d piv k
def x0h (d:List (List Int)) (piv:List Int) (n f:Nat):Nat->List Int
 | 0=>(List.replicate n 0).set f (q4w d piv piv.length)
 | k+1=>(x0h d piv n f k).set (nI piv k).toNat ((0-nI (nL d k) f)*(q4w d piv piv.length).tdiv (w3g d piv k))
def wm7 (d:List (List Int)) (piv:List Int) (n:Nat):Nat->List (List Int)
 | 0=>[]
 | f+1=>if wm6 piv f piv.length then wm7 d piv n f++[qk7 (x0h d piv n f piv.length)] else wm7 d piv n f
def w7e (rows:List (List Int)):List (List Int):=wm7 (qa6 rows).1 (qa6 rows).2 (rdW rows) (rdW rows)
def qj9 (n:Nat) (set v:List Int):Nat->List Int
 | 0=>List.replicate n 0
 | j+1=>(qj9 n set v j).set (nI set j).toNat (nI v j)
def w7f (l:List (List Int)):Bool:=decide (l.length=1) && !((nL l 0).any λe=>(0:Int)==e)
def x8k (m:List (List Int)) (n:Nat) (set:List Int):List Int:=q8e (qj9 n set (nL (qp8 m set) 0) set.length)
def qu0 (m:List (List Int)) (n:Nat) (L:List (List Int)):Nat->List (List Int)
 | 0=>[]
 | c+1=>if w7f (qp8 m (nL L c)) then qu0 m n L c++[x8k m n (nL L c)] else qu0 m n L c
def q5p (m:List (List Int)) (n:Nat):Nat->List (List Int)
 | 0=>[]
 | k+1=>q5p m n k++qu0 m n (qf7 n (k+1:Nat)) (qf7 n (k+1:Nat)).length
def w7g (m:List (List Int)):Nat:=min ((qi0 m (q29 (nL m 0).length)).2.length+1) (nL m 0).length
def q7o (m:List (List Int)):List (List Int) × Int:=if qe2 m=false then([],1) else(q5p m (nL m 0).length (w7g m),0)
structure wt8 (m:List (List Int)):Prop where
 rank:wm0 m
 ker:∀k,k<(nL m 0).length->∀set∈qf7 (nL m 0).length (k+1:Nat),w26 m set
abbrev x8l:qc9:=qg4 true none [qi8] [qi8,qf6] (λx=>qe2 x.1=true->wt8 x.1) (λx=>((q7o x.1).1,(q7o x.1).2,()))
def x4i (m:List (List Int)) (n:Nat):Nat->Option Inv
 | 0=>some (Inv.of [30] 4 (λk:Nat=>[(30,.lit (.int .i64 k))]) (λk=>[.box 23 (.cons (.dat (.list (.int .i64)) m) .nil),.box 3 (.cons (.lit (.int .i64 n)) .nil),.box 22 (.cons (.msl 3 .none) .nil),.mat 34 3 (.int .i64) (q5p m n k) .none .none]) (λk=>k<=w7g m) (λk=>w7g m-k))
 | 1=>some (Eng.Inv.mk Nat Nat [] 4 (λ_ _=>[]) (λk c=>[.box 23 (.cons (.dat (.list (.int .i64)) m) .nil),.box 3 (.cons (.lit (.int .i64 n)) .nil),.box 22 (.cons (.msl 3 .none) .nil),.mat 34 3 (.int .i64) (q5p m n k++qu0 m n (qf7 n (k+1:Nat)) c) .none .none]) (λk c=>c<=(qf7 n (k+1:Nat)).length) (λk c=>c))
 | 2=>some (Eng.Inv.mk (q77 × Nat × Nat × List Int) Nat [9,11,52,54] 6 (λq j=>[(9,.msl 4 (some 0)),(11,.own 5),(52,.msl 4 (some 0)),(54,.lit (.int .i64 j))]) (λq j=>[.box 23 (.cons (.dat (.list (.int .i64)) m) .nil),.box 3 (.cons (.lit (.int .i64 n)) .nil),.box 22 (.cons (.msl 3 .none) .nil),.mat 34 3 (.int .i64) (q5p m n q.2.1++qu0 m n (qf7 n (q.2.1+1:Nat)) q.2.2.1) .none .none,.mat 3 3 (.int .i64) [q.2.2.2] (some []) (some q.1),.vec 3 (.int .i64) (qj9 n q.2.2.2 (nL (qp8 m q.2.2.2) 0) j)]) (λq j=>j<=q.2.2.2.length) (λq j=>q.2.2.2.length-j))
 | _=>none
def x4j (mats em:List Nat) (specs:List (Nat × qc9)) (muts:List (Nat × qq5)) (its:List (Nat × q2l)):Ctx:={ specs:=specs,tys:=tys,wr:=[],muts:=muts,mats:=mats,em:=em,its:=its }
theorem x4k (mats em:List Nat) {specs:List (Nat × qc9)} {muts:List (Nat × qq5)} {its:List (Nat × q2l)} (h:SpecsOk Tryz.prog specs) (hm:MutsOk muts) (hi:ItsOk its):Sound Tryz.prog (x4j mats em specs muts its):=SpecsOk.sound h q3r (by kernel_rfl) hi (hmu:=hm)
theorem q7p (m:List (List Int)) (n:Nat) (L:List (List Int)):∀c,(qu0 m n L c).length<=c
 | 0=>Nat.le_refl _
 | c+1=>by
  have:=q7p m n L c
  rw[qu0]
  split
  ·simp; omega
  ·omega
theorem wt9:((List.range 11).all λn=>(List.range 12).all λk=>decide ((qf7 (n:Nat) (k:Nat)).length<=1000))=true:=by decide +kernel
theorem wm8 (n k:Nat) (hn:n<=10) (hk:k<=11):(qf7 (n:Nat) (k:Nat)).length<=1000:=
 of_decide_eq_true (List.all_eq_true.1 (List.all_eq_true.1 wt9 n (List.mem_range.2 (by omega))) k (List.mem_range.2 (by omega)))
theorem w01 (m:List (List Int)) (n:Nat) (hn:n<=10):∀k,k<=11->(q5p m n k).length<=1000*k
 | 0,_=>Nat.le_refl _
 | k+1,hk=>by
  have h1:=w01 m n hn k (by omega)
  have h2:=wm8 n (k+1) hn hk
  have h3:=q7p m n (qf7 (n:Nat) (k+1:Nat)) (qf7 (n:Nat) (k+1:Nat)).length
  rw[q5p,List.length_append]
  omega
theorem q7q {R:List (List Int)} {P:List Int} {n:Nat} (h:xe1 R P n) (hn:n<=1000):∀f,f<=n->∀x∈qo8 R P n f,x.length=n/\q7d x
 | 0,_,x,hx=>by cases hx
 | f+1,hf,x,hx=>by
  rw[qo8] at hx
  split at hx
  ·exact q7q h hn f (by omega) x hx
  ·rename_i hfree
   rcases List.mem_append.1 hx with hx | hx
   ·exact q7q h hn f (by omega) x hx
   ·obtain rfl:=List.mem_singleton.1 hx
    have hb:q7d (hTo R P n f P.length):=⟨by rw[q7k]; exact hn,wt5 h (by omega) (Bool.eq_false_iff.2 hfree) _ (Nat.le_refl _)⟩
    exact⟨by rw[q88,q7k],q9e hb⟩
theorem q7r {m:List (List Int)} {set:List Int} (h:w26 m set) (x:List Int) (hx:x∈qp8 m set):x.length=set.length/\set.length<=1000/\q7d x:=by
 have hw:=h.red.w
 have:=q7q h.ar hw _ (Nat.le_refl _) x hx
 exact⟨this.1,hw,this.2⟩
theorem q1i (n:Nat) (set v:List Int):∀j,(qj9 n set v j).length=n
 | 0=>by simp[qj9]
 | j+1=>by rw[qj9,List.length_set]; exact q1i n set v j
theorem q5e {n:Nat} {set v:List Int} (hv:q7d v) (hn:n<=1000) (hl:v.length=set.length):∀j,j<=set.length->q7d (qj9 n set v j)
 | 0,_=>⟨by simp[qj9]; omega,λx hx=>by
  obtain rfl:=(List.mem_replicate.1 hx).2
  unfold BIG; omega⟩
 | j+1,hj=>by
  have h1:=q5e hv hn hl j (by omega)
  refine⟨by rw[q1i]; exact hn,λx hx=>?_⟩
  rw[qj9] at hx
  rcases List.mem_or_eq_of_mem_set hx with hx | rfl
  ·exact h1.2 x hx
  ·exact q20 hv (by omega)
theorem w7h:Meets Tryz.prog 64 x8l:=by
 refine meets (x4k [72] [] (SpecsOk.cons w28 (SpecsOk.cons q9d (SpecsOk.cons w64 (SpecsOk.cons wl8 (SpecsOk.nil _))))) (MutsOk.cons w25 MutsOk.nil) (ItsOk.cons q9c ItsOk.nil)) Tryz.func64 rfl rfl (λx=>x4i x.1 (nL x.1 0).length) (λ_=>by kernel_rfl) (by decide) ?_
 rintro⟨m,⟨⟩⟩ h
 revert m
 intro(m:List (List Int)) (h:qe2 m=true->wt8 m)
 refine @qd9 _ ((qe2 m=true->wm0 m)/\(((qy1 m).2 != (0:Int))=true->(q7o m).1=[]/\(qy1 m).2=(q7o m).2/\True)/\(((qy1 m).2 != (0:Int))=false->((0:Int)<=(0:Int)/\(0:Int)<(↑m.length:Int))/\fits .i64 ((qy1 m).1+(1:Int))/\∃(v1:Unit),∃(v2:Nat),Nat.le v2 (w7g m)/\(((0:Int)=(↑v2:Int)/\True)/\(m=m/\True)/\((↑(nL m (0:Nat)).length:Int)=(↑(nL m (0:Nat)).length:Int)/\True)/\(True/\True)/\q5p m (nL m (0:Nat)).length v2=[]/\True)/\∀(v3:Nat),Nat.le v3 (w7g m)->(decide ((↑v3:Int)<max2 false ((qy1 m).1+(1:Int)) (↑(nL m (0:Nat)).length:Int))=true->fits .i64 ((↑v3:Int)+(1:Int))/\True/\(((0:Ty.den qf6)<=(↑v3:Int)+(1:Int)/\(↑v3:Int)+(1:Int)<=(1000:Ty.den qf6))/\(0:Ty.den qf6)<=(↑(nL m (0:Nat)).length:Int)/\(↑(nL m (0:Nat)).length:Int)<=(1000:Ty.den qf6))/\∃(v6:Nat),∃(v7:Nat),Nat.le v7 (qf7 (↑(nL m (0:Nat)).length:Int) (↑(v6+(1:Nat)):Int)).length/\v7=(0:Nat)/\((m=m/\True)/\((↑(nL m (0:Nat)).length:Int)=(↑(nL m (0:Nat)).length:Int)/\True)/\(True/\True)/\(q5p m (nL m (0:Nat)).length v3=q5p m (nL m (0:Nat)).length v6++qu0 m (nL m (0:Nat)).length (qf7 (↑(nL m (0:Nat)).length:Int) (↑(v6+(1:Nat)):Int)) v7/\True/\True)/\True)/\∀(v8:Nat),Nat.le v8 (qf7 (↑(nL m (0:Nat)).length:Int) (↑(v6+(1:Nat)):Int)).length->(∀(v10:List Int × qa7._f [] PUnit.unit),(List.map (λ(v12:List Int)=>(v12,())) (qf7 (↑(nL m (0:Nat)).length:Int) ((↑v3:Int)+(1:Int))))[v8]?=some v10->∀(v12:q77),w26 m (nL [v10.1] (0:Nat))/\(((↑(qp8 m (nL [v10.1] (0:Nat))).length:Int) != (1:Int))=true->[v10.1]=[v10.1]/\v12=v12/\True/\∃(v14:Nat),Nat.le v14 (qf7 (↑(nL m (0:Nat)).length:Int) (↑(v6+(1:Nat)):Int)).length/\v14=v8+(1:Nat)/\(m=m/\True)/\((↑(nL m (0:Nat)).length:Int)=(↑(nL m (0:Nat)).length:Int)/\True)/\(True/\True)/\(q5p m (nL m (0:Nat)).length v6++qu0 m (nL m (0:Nat)).length (qf7 (↑(nL m (0:Nat)).length:Int) (↑(v6+(1:Nat)):Int)) v8=q5p m (nL m (0:Nat)).length v6++qu0 m (nL m (0:Nat)).length (qf7 (↑(nL m (0:Nat)).length:Int) (↑(v6+(1:Nat)):Int)) v14/\True/\True)/\True)/\(((↑(qp8 m (nL [v10.1] (0:Nat))).length:Int) != (1:Int))=false->((0:Int)<=(0:Int)/\(0:Int)<(↑(qp8 m (nL [v10.1] (0:Nat))).length:Int))/\(nL (qp8 m (nL [v10.1] (0:Nat))) (0:Nat)).length<=(1000000:Nat)/\((List.any (nL (qp8 m (nL [v10.1] (0:Nat))) (0:Nat)) λ(v15:Int)=>(0:Int)==v15)=true->[v10.1]=[v10.1]/\v12=v12/\True/\∃(v15:Nat),Nat.le v15 (qf7 (↑(nL m (0:Nat)).length:Int) (↑(v6+(1:Nat)):Int)).length/\v15=v8+(1:Nat)/\(m=m/\True)/\((↑(nL m (0:Nat)).length:Int)=(↑(nL m (0:Nat)).length:Int)/\True)/\(True/\True)/\(q5p m (nL m (0:Nat)).length v6++qu0 m (nL m (0:Nat)).length (qf7 (↑(nL m (0:Nat)).length:Int) (↑(v6+(1:Nat)):Int)) v8=q5p m (nL m (0:Nat)).length v6++qu0 m (nL m (0:Nat)).length (qf7 (↑(nL m (0:Nat)).length:Int) (↑(v6+(1:Nat)):Int)) v15/\True/\True)/\True)/\((List.any (nL (qp8 m (nL [v10.1] (0:Nat))) (0:Nat)) λ(v15:Int)=>(0:Int)==v15)=false->((↑(nL m (0:Nat)).length:Int)=(↑(nL m (0:Nat)).length:Int)/\(0:Int)<=(↑(nL m (0:Nat)).length:Int)/\(↑(nL m (0:Nat)).length:Int)<=(1000000:Int))/\∃(v15:q77 × Nat × Nat × List Int),∃(v16:Nat),Nat.le v16 v15.2.2.2.length/\((some (0:Nat)=some (0:Nat)/\True/\some (0:Nat)=some (0:Nat)/\(0:Int)=(↑v16:Int)/\True)/\(m=m/\True)/\((↑(nL m (0:Nat)).length:Int)=(↑(nL m (0:Nat)).length:Int)/\True)/\(True/\True)/\(q5p m (nL m (0:Nat)).length v6++qu0 m (nL m (0:Nat)).length (qf7 (↑(nL m (0:Nat)).length:Int) (↑(v6+(1:Nat)):Int)) v8=q5p m (nL m (0:Nat)).length v15.2.1++qu0 m (nL m (0:Nat)).length (qf7 (↑(nL m (0:Nat)).length:Int) (↑(v15.2.1+(1:Nat)):Int)) v15.2.2.1/\True/\True)/\([v10.1]=[v15.2.2.2]/\True/\v12=v15.1)/\List.replicate (↑(nL m (0:Nat)).length:Int).toNat (Ty.dflt (TI.ty T3))=qj9 (nL m (0:Nat)).length v15.2.2.2 (nL (qp8 m v15.2.2.2) (0:Nat)) v16/\True)/\∀(v17:Nat),Nat.le v17 v15.2.2.2.length->(decide ((↑v17:Int)<(↑(nL [v10.1] (0:Nat)).length:Int))=true->((0:Int)<=(↑v17:Int)/\(↑v17:Int)<(↑(nL [v15.2.2.2] (0:Nat)).length:Int))/\v17<(nL [v15.2.2.2] (0:Nat)).length/\((0:Int)<=(0:Int)/\(0:Int)<(↑(qp8 m (nL [v10.1] (0:Nat))).length:Int))/\((0:Int)<=(↑v17:Int)/\(↑v17:Int)<(↑(nL (qp8 m (nL [v10.1] (0:Nat))) (0:Nat)).length:Int))/\((0:Int)<=nI (nL [v15.2.2.2] (0:Nat)) v17/\nI (nL [v15.2.2.2] (0:Nat)) v17<(↑(qj9 (nL m (0:Nat)).length v15.2.2.2 (nL (qp8 m v15.2.2.2) (0:Nat)) v17).length:Int))/\(nI (nL [v15.2.2.2] (0:Nat)) v17).toNat<(qj9 (nL m (0:Nat)).length v15.2.2.2 (nL (qp8 m v15.2.2.2) (0:Nat)) v17).length/\fits .i64 ((↑v17:Int)+(1:Int))/\∃(v20:Nat),Nat.le v20 v15.2.2.2.length/\v15.2.2.2.length-v20<v15.2.2.2.length-v17/\(some (0:Nat)=some (0:Nat)/\True/\some (0:Nat)=some (0:Nat)/\(↑v17:Int)+(1:Int)=(↑v20:Int)/\True)/\(m=m/\True)/\((↑(nL m (0:Nat)).length:Int)=(↑(nL m (0:Nat)).length:Int)/\True)/\(True/\True)/\(q5p m (nL m (0:Nat)).length v15.2.1++qu0 m (nL m (0:Nat)).length (qf7 (↑(nL m (0:Nat)).length:Int) (↑(v15.2.1+(1:Nat)):Int)) v15.2.2.1=q5p m (nL m (0:Nat)).length v15.2.1++qu0 m (nL m (0:Nat)).length (qf7 (↑(nL m (0:Nat)).length:Int) (↑(v15.2.1+(1:Nat)):Int)) v15.2.2.1/\True/\True)/\([v15.2.2.2]=[v15.2.2.2]/\True/\v15.1=v15.1)/\List.set (qj9 (nL m (0:Nat)).length v15.2.2.2 (nL (qp8 m v15.2.2.2) (0:Nat)) v17) (nI (nL [v15.2.2.2] (0:Nat)) v17).toNat (nI (nL (qp8 m (nL [v10.1] (0:Nat))) (0:Nat)) v17)=qj9 (nL m (0:Nat)).length v15.2.2.2 (nL (qp8 m v15.2.2.2) (0:Nat)) v20/\True)/\(decide ((↑v17:Int)<(↑(nL [v10.1] (0:Nat)).length:Int))=false->q7d (nL [qj9 (nL m (0:Nat)).length v15.2.2.2 (nL (qp8 m v15.2.2.2) (0:Nat)) v17] (0:Nat))/\((0:Nat)<(0:Nat)+(1:Nat)/\(q5p m (nL m (0:Nat)).length v15.2.1++qu0 m (nL m (0:Nat)).length (qf7 (↑(nL m (0:Nat)).length:Int) (↑(v15.2.1+(1:Nat)):Int)) v15.2.2.1).length+((0:Nat)+(1:Nat))<=(1000000:Nat))/\[v15.2.2.2]=[v10.1]/\v15.1=v12/\True/\∃(v20:Nat),Nat.le v20 (qf7 (↑(nL m (0:Nat)).length:Int) (↑(v6+(1:Nat)):Int)).length/\v20=v8+(1:Nat)/\(m=m/\True)/\((↑(nL m (0:Nat)).length:Int)=(↑(nL m (0:Nat)).length:Int)/\True)/\(True/\True)/\(q5p m (nL m (0:Nat)).length v15.2.1++qu0 m (nL m (0:Nat)).length (qf7 (↑(nL m (0:Nat)).length:Int) (↑(v15.2.1+(1:Nat)):Int)) v15.2.2.1++[nL [q8e (nL [qj9 (nL m (0:Nat)).length v15.2.2.2 (nL (qp8 m v15.2.2.2) (0:Nat)) v17] (0:Nat))] (0:Nat)]=q5p m (nL m (0:Nat)).length v6++qu0 m (nL m (0:Nat)).length (qf7 (↑(nL m (0:Nat)).length:Int) (↑(v6+(1:Nat)):Int)) v20/\True/\True)/\True))))/\(v8=(List.map (λ(v11:List Int)=>(v11,())) (qf7 (↑(nL m (0:Nat)).length:Int) ((↑v3:Int)+(1:Int)))).length->fits .i64 ((↑v3:Int)+(1:Int))/\∃(v11:Nat),Nat.le v11 (w7g m)/\w7g m-v11<w7g m-v3/\((↑v3:Int)+(1:Int)=(↑v11:Int)/\True)/\(m=m/\True)/\((↑(nL m (0:Nat)).length:Int)=(↑(nL m (0:Nat)).length:Int)/\True)/\(True/\True)/\(q5p m (nL m (0:Nat)).length v6++qu0 m (nL m (0:Nat)).length (qf7 (↑(nL m (0:Nat)).length:Int) (↑(v6+(1:Nat)):Int)) v8=q5p m (nL m (0:Nat)).length v11/\True/\True)/\True))/\(decide ((↑v3:Int)<max2 false ((qy1 m).1+(1:Int)) (↑(nL m (0:Nat)).length:Int))=false->q4d (Ty.int .i64) (q5p m (nL m (0:Nat)).length v3) none=(q7o m).1/\(0:Int)=(q7o m).2/\True))) (by kernel_rfl) ?_
 try simp only[z0,z1,z2,z3,z4,z5,z6,z7,z8,z9,z10,Int.reduceEq,z11,z12,z13,z14,z15,z16,z17,z18,z19,z20,z21,z22,z23,z24,z25,z26,z27,z28,z29,z30,Int.reduceLE,Int.reduceLT,z31,z32,z33,z34,qa1]
 try simp only[qb4,qb5,qd0,z31,z32,z2,z1]
 refine⟨λhv=>(h hv).rank,λhe=>?_,λhe=>?_⟩
 ·have hv:qe2 m=false:=by
   cases e:qe2 m with
   | false=>rfl
   | true=>exact absurd (by simp[qy1,e]) he
  simp[qy1,q7o,hv]
 have hv:qe2 m=true:=by
  cases e:qe2 m with
  | true=>rfl
  | false=>simp[qy1,e] at he
 have hO:=h hv
 have hM:=Mk.of hv
 have hm1:=hM.rows1
 have hn1:=hM.pix1
 have hn10:=hM.pix10
 have hrank:(qi0 m (q29 (nL m 0).length)).2.length<=10:=by
  have:=(qt9 hO.rank.red (nL m 0).length).pivj
  unfold qi0
  rw[qt8]
  exact Nat.le_trans this hn10
 have hr:qy1 m=(((qi0 m (q29 (nL m 0).length)).2.length:Int),0):=by simp[qy1,hv]
 have hcN:w7g m=min ((qi0 m (q29 (nL m 0).length)).2.length+1) (nL m 0).length:=rfl
 have hcR:q7o m=(q5p m (nL m 0).length (w7g m),0):=by simp[q7o,hv]
 rw[hr,hcR]
 generalize(qi0 m (q29 (nL m 0).length)).2.length=r at *
 have hker:=hO.ker
 generalize hnn:(nL m 0).length=n at *
 dsimp only
 refine⟨by omega,qa5 (by omega) (by omega),(),0,Nat.zero_le _,⟨rfl,rfl⟩,λk hk=>⟨λhlt=>?_,λhge=>?_⟩⟩
 ·have hlt:(k:Int)<min ((r:Int)+1) n:=hlt
  have hkn:k<n:=by omega
  have hca:((k:Int)+1)=((k+1:Nat):Int):=by omega
  have hkl:=w01 m n hn10 k (by omega)
  have hsl:=wm8 n (k+1) hn10 (by omega)
  rw[hca]
  have hb1:(0:Int)<=((k+1:Nat):Int)/\((k+1:Nat):Int)<=1000:=by omega
  refine⟨qa5 (by omega) (by omega),⟨hb1,by omega⟩,k,0,Nat.zero_le _,rfl,by simp[qu0],λc hc=>⟨?_,λhce=>?_⟩⟩
  ·rintro⟨set,⟨⟩⟩ hset T
   dsimp only
   have hs:(qf7 n (k+1:Nat))[c]? = some set:=by
    rw[List.getElem?_map] at hset
    obtain⟨x,hx,hx2⟩:=Option.map_eq_some_iff.1 hset
    injection hx2 with hx2
    rw[<- hx2]; exact hx
   have hcl:c<(qf7 n (k+1:Nat)).length:=(List.getElem?_eq_some_iff.1 hs).1
   have hnl:nL (qf7 n (k+1:Nat)) c=set:=by rw[qm2 _ c hcl]; exact(List.getElem?_eq_some_iff.1 hs).2
   have hK:w26 m set:=hker k hkn set (List.mem_of_getElem? hs)
   have hctl:=q7p m n (qf7 n (k+1:Nat)) c
   refine⟨hK,λh1=>⟨c+1,hcl,rfl,?_⟩,λh1=>⟨by omega,?_,λh2=>⟨c+1,hcl,rfl,?_⟩,λh2=>⟨by omega,(T,k,c,set),0,Nat.zero_le _,⟨rfl,rfl,⟨rfl,rfl⟩,rfl⟩,λj hj=>⟨λhjl=>?_,λhjl=>?_⟩⟩⟩⟩
   ·rw[qu0,hnl,if_neg]
    intro q
    unfold w7f at q
    rw[Bool.and_eq_true,decide_eq_true_eq] at q
    exact h1 (by omega)
   ·have h0:=q7r hK (nL (qp8 m set) 0) (qw4 _ 0 (by omega))
    omega
   ·rw[qu0,hnl,if_neg]
    intro q
    unfold w7f at q
    rw[Bool.and_eq_true,h2] at q
    cases q.2
   ·dsimp only at hj ⊢
    have hat:=hK.cho.at_ 0 (by omega) j hjl
    rw[hnn] at hat
    have hkm:=q7r hK (nL (qp8 m set) 0) (qw4 _ 0 (by omega))
    have hsp:=q1i n set (nL (qp8 m set) 0) j
    have hat':0<=nI set j/\nI set j<((qj9 n set (nL (qp8 m set) 0) j).length:Int):=⟨hat.1,by omega⟩
    exact⟨hjl,hjl,by omega,by omega,hat',by omega,qa5 (by omega) (by omega),j+1,hjl,by omega,by omega,rfl⟩
   ·dsimp only at hj ⊢
    obtain rfl:j=set.length:=by omega
    have hkm:=q7r hK (nL (qp8 m set) 0) (qw4 _ 0 (by omega))
    refine⟨q5e hkm.2.2 (by omega) hkm.1 _ (Nat.le_refl _),by rw[List.length_append]; omega,rfl,rfl,c+1,hcl,rfl,?_⟩
    have hg:w7f (qp8 m set)=true:=by
     unfold w7f
     rw[h2,Bool.and_eq_true,decide_eq_true_eq]
     exact⟨by omega,rfl⟩
    rw[qu0,hnl,if_pos hg,List.append_assoc]
    rfl
  ·rw[List.length_map] at hce
   subst hce
   exact⟨qa5 (by omega) (by omega),k+1,by omega,by omega,rfl,rfl⟩
 ·have hge:min ((r:Int)+1) n<=k:=hge
  obtain rfl:k=w7g m:=by omega
  exact⟨rfl,rfl⟩
def qk0 (m:List (List Int)):List Int × Int:=if(q7o m).2≠0 then([],(q7o m).2) else if(q7o m).1=[] then([],8) else(nL (q7o m).1 0,0)
abbrev x4l:qc9:=qg4 false none [qi8] [qd4,qf6] (λx=>qe2 x.1=true->wt8 x.1) (λx=>((qk0 x.1).1,(qk0 x.1).2,()))
theorem w3h:Meets Tryz.prog 16 x4l:=by
 refine meets (snd (SpecsOk.cons w7h (SpecsOk.nil _))) Tryz.func16 rfl rfl (λ_ _=>none) (λ_=>by kernel_rfl) (by decide) ?_
 rintro⟨m,⟨⟩⟩ h
 revert m
 intro(m:List (List Int)) (h:qe2 m=true->wt8 m)
 refine @qd9 _ ((qe2 m=true->wt8 m)/\(((q7o m).2 != (0:Int))=true->(qk0 m).1=[]/\(q7o m).2=(qk0 m).2/\True)/\(((q7o m).2 != (0:Int))=false->(((↑(q7o m).1.length:Int)==(0:Int))=true->(qk0 m).1=[]/\(8:Int)=(qk0 m).2/\True)/\(((↑(q7o m).1.length:Int)==(0:Int))=false->((0:Int)<=(0:Int)/\(0:Int)<(↑(q7o m).1.length:Int))/\nL (q7o m).1 (0:Nat)=(qk0 m).1/\(0:Int)=(qk0 m).2/\True))) (by kernel_rfl) ?_
 try simp only[z0,z1,z2,z3,z4,z5,z6,z7,z8,z9,z10,Int.reduceEq,z11,z12,z13,z14,z15,z16,z17,z18,z19,z20,z21,z22,z23,z24,z25,z26,z27,z28,z29,z30,Int.reduceLE,Int.reduceLT,z31,z32,z33,z34,qa1]
 try simp only[qb4,qb5,qd0,z31,z32,z2,z1]
 refine⟨h,λhe=>by simp[qk0,he],λhe=>⟨λh0=>?_,λh0=>?_⟩⟩
 ·have e:(q7o m).1=[]:=List.eq_nil_of_length_eq_zero (by omega)
  simp[qk0,he,e]
 ·have e:¬(q7o m).1=[]:=λe=>by rw[e] at h0; exact h0 rfl
  unfold qk0
  rw[if_neg (λq=>q he),if_neg e]
  exact⟨by omega,rfl,rfl⟩
def wp8 (l:List Int):Nat->Nat
 | 0=>0
 | k+1=>if nI l k≠0 then wp8 l k+1 else wp8 l k
theorem wu0 (l:List Int):∀k,wp8 l k<=k
 | 0=>Nat.le_refl _
 | k+1=>by have:=wu0 l k; rw[wp8]; split <;> omega
def qw5 (m:List (List Int)):Int × Int:=((wp8 (qk0 m).1 (qk0 m).1.length:Int),(qk0 m).2)
structure wu1 (m:List (List Int)):Prop where
 cir:qe2 m=true->wt8 m
 len:(qk0 m).1.length<=1000
abbrev x0i:qc9:=qg4 true none [qi8] [qf6,qf6] (λx=>wu1 x.1) (λx=>((qw5 x.1).1,(qw5 x.1).2,()))
def xq4 (l:List Int):Nat->Option Inv
 | 0=>some (Inv.of [6,16] 0 (λk:Nat=>[(6,.lit (.int .i64 (wp8 l k))),(16,.lit (.int .i64 k))]) (λ_=>[]) (λk=>k<=l.length) (λk=>l.length-k))
 | _=>none
theorem wu3:Meets Tryz.prog 17 x0i:=by
 refine meets (snd (SpecsOk.cons w3h (SpecsOk.nil _))) Tryz.func17 rfl rfl (λx=>xq4 (qk0 x.1).1) (λ_=>by kernel_rfl) (by decide) ?_
 rintro⟨m,⟨⟩⟩ h
 revert m
 intro(m:List (List Int)) (h:wu1 m)
 refine @qd9 _ ((qe2 m=true->wt8 m)/\∃(v0:Unit),∃(v1:Nat),Nat.le v1 (qk0 m).1.length/\(((0:Int)=(↑(wp8 (qk0 m).1 v1):Int)/\(0:Int)=(↑v1:Int)/\True)/\True)/\∀(v2:Nat),Nat.le v2 (qk0 m).1.length->(decide ((↑v2:Int)<(↑(qk0 m).1.length:Int))=true->((0:Int)<=(↑v2:Int)/\(↑v2:Int)<(↑(qk0 m).1.length:Int))/\((nI (qk0 m).1 v2 != (0:Int))=true->fits .i64 ((↑(wp8 (qk0 m).1 v2):Int)+(1:Int))/\fits .i64 ((↑v2:Int)+(1:Int))/\∃(v6:Nat),Nat.le v6 (qk0 m).1.length/\(qk0 m).1.length-v6<(qk0 m).1.length-v2/\((↑(wp8 (qk0 m).1 v2):Int)+(1:Int)=(↑(wp8 (qk0 m).1 v6):Int)/\(↑v2:Int)+(1:Int)=(↑v6:Int)/\True)/\True)/\((nI (qk0 m).1 v2 != (0:Int))=false->fits .i64 ((↑v2:Int)+(1:Int))/\∃(v6:Nat),Nat.le v6 (qk0 m).1.length/\(qk0 m).1.length-v6<(qk0 m).1.length-v2/\((↑(wp8 (qk0 m).1 v2):Int)=(↑(wp8 (qk0 m).1 v6):Int)/\(↑v2:Int)+(1:Int)=(↑v6:Int)/\True)/\True))/\(decide ((↑v2:Int)<(↑(qk0 m).1.length:Int))=false->(↑(wp8 (qk0 m).1 v2):Int)=(qw5 m).1/\(qk0 m).2=(qw5 m).2/\True)) (by kernel_rfl) ?_
 try simp only[z0,z1,z2,z3,z4,z5,z6,z7,z8,z9,z10,Int.reduceEq,z11,z12,z13,z14,z15,z16,z17,z18,z19,z20,z21,z22,z23,z24,z25,z26,z27,z28,z29,z30,Int.reduceLE,Int.reduceLT,z31,z32,z33,z34,qa1]
 try simp only[qb4,qb5,qd0,z31,z32,z2,z1]
 have hl:=h.len
 refine⟨h.cir,(),0,Nat.zero_le _,⟨rfl,rfl⟩,λi hi=>⟨λhlt=>?_,λhge=>?_⟩⟩
 ·have:=wu0 (qk0 m).1 i
  exact⟨hlt,λhz=>⟨qa5 (by omega) (by omega),qa5 (by omega) (by omega),i+1,hlt,by omega,by rw[wp8,if_pos hz]; omega,by omega⟩,λhz=>⟨qa5 (by omega) (by omega),i+1,hlt,by omega,by rw[wp8,if_neg (λq=>q hz)],by omega⟩⟩
 ·obtain rfl:i=(qk0 m).1.length:=by omega
  exact⟨rfl,rfl⟩
def q7s (m:List (List Int)):Int × Int:=if(qw5 m).2=0 then(((qw5 m).1-1).tdiv 2,0) else if(qw5 m).2=8 then((nL m 0).length,0) else(0,(qw5 m).2)
abbrev x4m:qc9:=qg4 true none [qi8] [qf6,qf6] (λx=>wu1 x.1) (λx=>((q7s x.1).1,(q7s x.1).2,()))
theorem w3i:Meets Tryz.prog 46 x4m:=by
 refine meets (snd (SpecsOk.cons wu3 (SpecsOk.nil _))) Tryz.func46 rfl rfl (λ_ _=>none) (λ_=>by kernel_rfl) (by decide) ?_
 rintro⟨m,⟨⟩⟩ h
 revert m
 intro(m:List (List Int)) (h:wu1 m)
 refine @qd9 _ (let Q0:=qw5 m; wu1 m/\((Q0.2==(0:Int))=true->fits .i64 (Q0.1-(1:Int))/\(2:Int)≠(0:Int)/\fits .i64 (Int.tdiv (Q0.1-(1:Int)) (2:Int))/\Int.tdiv (Q0.1-(1:Int)) (2:Int)=(q7s m).1/\(0:Int)=(q7s m).2/\True)/\((Q0.2==(0:Int))=false->((Q0.2==(8:Int))=true->((0:Int)<=(0:Int)/\(0:Int)<(↑m.length:Int))/\(↑(nL m (0:Nat)).length:Int)=(q7s m).1/\(0:Int)=(q7s m).2/\True)/\((Q0.2==(8:Int))=false->(0:Int)=(q7s m).1/\Q0.2=(q7s m).2/\True))) (by kernel_rfl) ?_
 try simp only[z0,z1,z2,z3,z4,z5,z6,z7,z8,z9,z10,Int.reduceEq,z11,z12,z13,z14,z15,z16,z17,z18,z19,z20,z21,z22,z23,z24,z25,z26,z27,z28,z29,z30,Int.reduceLE,Int.reduceLT,z31,z32,z33,z34,qa1]
 try simp only[qb4,qb5,qd0,z31,z32,z2,z1]
 have hl:=h.len
 have hn:=wu0 (qk0 m).1 (qk0 m).1.length
 have e1:(qw5 m).1=(wp8 (qk0 m).1 (qk0 m).1.length:Int):=rfl
 have hb:qd2 1000 ((qw5 m).1-1):=by unfold qd2; rw[e1]; omega
 have hb2:qd2 1000 (((qw5 m).1-1).tdiv 2):=qj3 hb
 unfold qd2 at hb hb2
 refine⟨h,λhe=>⟨qa5 (by omega) (by omega),qa5 (by omega) (by omega),by simp[q7s,he]⟩,λhe=>⟨λh8=>⟨?_,by simp[q7s,h8]⟩,λh8=>by simp[q7s,he,h8]⟩⟩
 have hv:qe2 m=true:=by
  cases e:qe2 m with
  | true=>rfl
  | false=>
   have e2:(qw5 m).2=1:=by simp[qw5,qk0,q7o,e]
   rw[e2] at h8; cases h8
 have:=(Mk.of hv).rows1
 omega
def qg9 (a b:List Int):Nat->Int
 | 0=>0
 | k+1=>qg9 a b k+nI a k*nI b k
structure DotOk (a b:List Int):Prop where
 len:a.length<=10
 le:a.length<=b.length
 sa:∀i,i<a.length->-1<=nI a i/\nI a i<=1
 sb:∀i,i<a.length->qd2 1000000 (nI b i)
theorem q7t {x y K:Int} (hx:-1<=x/\x<=1) (hy:qd2 K y):qd2 K (x*y):=by
 unfold qd2 at *
 rcases(show x=-1\/x=0\/x=1 by omega) with rfl | rfl | rfl
 ·rw[show(-1:Int)*y=-y by omega]; omega
 ·rw[Int.zero_mul]; omega
 ·rw[Int.one_mul]; exact hy
def x6h (m:List (List Int)) (l:List Int) (n k:Int):Int:=if qe2 m=false then 1 else if(l.length:Int)≠n then 9 else if(l.all λe=>inB e (0-k) k)=false then 7 else 0
def x6i (m:List (List Int)) (x:List Int):Int:=x6h m x (nL m 0).length 1000000
structure Shw (m:List (List Int)) (x:List Int):Prop where
 msk:Mk m
 val:qe2 m=true
 len:x.length=(nL m 0).length
 bd:∀i,i<x.length->qd2 1000000 (nI x i)
theorem Shw.of {m:List (List Int)} {x:List Int} (h:x6i m x=0):Shw m x:=by
 unfold x6i x6h at h
 split at h
 ·cases h
 ·rename_i hv
  have hv:qe2 m=true:=by cases e:qe2 m with | true=>rfl | false=>exact absurd e hv
  split at h
  ·cases h
  ·rename_i hl
   split at h
   ·cases h
   ·rename_i ha
    have ha:(x.all λe=>inB e (0-1000000) 1000000)=true:=by simpa using ha
    refine⟨Mk.of hv,hv,by omega,λi hi=>?_⟩
    have:=qv1.1 (List.all_eq_true.1 ha (nI x i) (by rw[qg1 x i hi]; exact List.getElem_mem hi))
    unfold qd2; omega
theorem Shw.dot {m:List (List Int)} {x:List Int} (h:Shw m x) (k:Nat) (hk:k<m.length):DotOk (nL m k) x:=by
 have h1:=h.msk.each k hk
 have h2:=h.msk.pix10
 have h3:=h.len
 exact⟨by omega,by omega,λi hi=>h.msk.small k hk i (by omega),λi hi=>h.bd i (by omega)⟩
def x8m (wr:List Nat) (specs:List (Nat × qc9)):Ctx:={ specs:=specs,tys:=tys,wr:=wr }
theorem x4n (wr:List Nat) {specs:List (Nat × qc9)} (h:SpecsOk Tryz.prog specs):Sound Tryz.prog (x8m wr specs):=SpecsOk.sound h q3r (by kernel_rfl)
def wd6 (m:List (List Int)):Nat->Int
 | 0=>0
 | k+1=>IntKind.i64.wrap (wd6 m k+IntKind.i64.wrap ((nL m k).length+1))
def wd7 (l:List Int):Bool:=decide (7<l.length) && decide (l.length<=10)
def q0j (m:List (List Int)):Bool:=!(m.any wd7) && decide (wd6 m m.length<=200)
theorem xe8 {m:List (List Int)} (hl:q0j m=true) (hM:Mk m):(nL m 0).length<=7:=by
 unfold q0j at hl
 rw[Bool.and_eq_true,Bool.not_eq_true',List.any_eq_false] at hl
 have h1:=hl.1 (nL m 0) (qw4 m 0 (by have:=hM.rows1; omega))
 have h2:=hM.pix10
 unfold wd7 at h1
 rw[Bool.and_eq_true,decide_eq_true_eq,decide_eq_true_eq] at h1
 omega
structure w7i (m:List (List Int)) (k:Nat):Prop where
 le:k<=m.length
 ok:∀i,i<k->wd7 (nL m i)=false
abbrev x8o:qc9:=qg4 true none [qi8] [.bool] (λx=>q0l x.1) (λx=>(q0j x.1,()))
def x4o (m:List (List Int)):Nat->Option Inv
 | 0=>some (Inv.of [3,8] 0 (λk:Nat=>[(3,.lit (.int .i64 (wd6 m k))),(8,.lit (.int .i64 k))]) (λ_=>[]) (λk=>w7i m k) (λk=>m.length-k))
 | _=>none
theorem w7j:Meets Tryz.prog 22 x8o:=by
 refine meets (x4n [15,16] (SpecsOk.nil _)) Tryz.func22 rfl rfl (λx=>x4o x.1) (λ_=>by kernel_rfl) (by decide) ?_
 rintro⟨m,⟨⟩⟩ h
 revert m
 intro(m:List (List Int)) (h:q0l m)
 refine @qd9 _ (∃(v0:Unit),∃(v1:Nat),w7i m v1/\(((0:Int)=wd6 m v1/\(0:Int)=(↑v1:Int)/\True)/\True)/\∀(v2:Nat),w7i m v2->(decide ((↑v2:Int)<(↑m.length:Int))=true->((0:Int)<=(↑v2:Int)/\(↑v2:Int)<(↑m.length:Int))/\(decide ((7:Int)<(↑(nL m v2).length:Int))=true->(decide ((↑(nL m v2).length:Int)<=(10:Int))=true->false=q0j m)/\(decide ((↑(nL m v2).length:Int)<=(10:Int))=false->fits .i64 ((↑v2:Int)+(1:Int))/\∃(v7:Nat),w7i m v7/\m.length-v7<m.length-v2/\(IntKind.wrap IntKind.i64 (wd6 m v2+IntKind.wrap IntKind.i64 ((↑(nL m v2).length:Int)+(1:Int)))=wd6 m v7/\(↑v2:Int)+(1:Int)=(↑v7:Int)/\True)/\True))/\(decide ((7:Int)<(↑(nL m v2).length:Int))=false->fits .i64 ((↑v2:Int)+(1:Int))/\∃(v6:Nat),w7i m v6/\m.length-v6<m.length-v2/\(IntKind.wrap IntKind.i64 (wd6 m v2+IntKind.wrap IntKind.i64 ((↑(nL m v2).length:Int)+(1:Int)))=wd6 m v6/\(↑v2:Int)+(1:Int)=(↑v6:Int)/\True)/\True))/\(decide ((↑v2:Int)<(↑m.length:Int))=false->decide (wd6 m v2<=(200:Int))=q0j m)) (by kernel_rfl) ?_
 try simp only[z0,z1,z2,z3,z4,z5,z6,z7,z8,z9,z10,Int.reduceEq,z11,z12,z13,z14,z15,z16,z17,z18,z19,z20,z21,z22,z23,z24,z25,z26,z27,z28,z29,z30,Int.reduceLE,Int.reduceLT,z31,z32,z33,z34,qa1]
 try simp only[qb4,qb5,qd0,z31,z32,z2,z1]
 have hr:=h.rows
 have dk:∀k,k<m.length->wd7 (nL m k)=true->q0j m=false:=λk hk hd=>by
  have:m.any wd7=true:=List.any_eq_true.2 ⟨_,qw4 m k hk,hd⟩
  simp[q0j,this]
 refine⟨(),0,⟨Nat.zero_le _,λi hi=>absurd hi (Nat.not_lt_zero _)⟩,⟨rfl,rfl⟩,λk hk=>⟨λhlt=>⟨hlt,λh7=>⟨λh10=>?_,λh10=>⟨qa5 (by omega) (by omega),k+1,⟨hlt,λi hi=>?_⟩,by omega,rfl,by omega⟩⟩,λh7=>⟨qa5 (by omega) (by omega),k+1,⟨hlt,λi hi=>?_⟩,by omega,rfl,by omega⟩⟩,λhge=>?_⟩⟩
 ·refine(dk k hlt ?_).symm
  unfold wd7
  rw[Bool.and_eq_true,decide_eq_true_eq,decide_eq_true_eq]
  omega
 ·by_cases e:i=k
  ·subst e
   have:¬(nL m i).length<=10:=by omega
   simp[wd7,this]
  ·exact hk.ok i (by omega)
 ·by_cases e:i=k
  ·subst e
   have:¬7<(nL m i).length:=by omega
   simp[wd7,this]
  ·exact hk.ok i (by omega)
 ·obtain rfl:k=m.length:=by have:=hk.le; omega
  have:m.any wd7=false:=by
   rw[List.any_eq_false]
   intro x hx
   obtain⟨i,hi,rfl⟩:=List.getElem_of_mem hx
   rw[<- qm2 m i hi,hk.ok i hi]; decide
  simp[q0j,this]
def q8f (l:List (List Int)):Bool:=l.any λx=>decide (100<x.length)
abbrev x4p:qc9:=qg4 true none [qi8] [.bool] (λx=>x.1.length<=1000) (λx=>(q8f x.1,()))
structure xe9 (l:List (List Int)) (k:Nat):Prop where
 le:k<=l.length
 ok:∀i,i<k->(nL l i).length<=100
def x0j (l:List (List Int)):Nat->Option Inv
 | 0=>some (Inv.of [7] 0 (λk:Nat=>[(7,.lit (.int .i64 k))]) (λ_=>[]) (λk=>xe9 l k) (λk=>l.length-k))
 | _=>none
theorem w3j:Meets Tryz.prog 24 x4p:=by
 refine meets (snd (SpecsOk.nil _)) Tryz.func24 rfl rfl (λx=>x0j x.1) (λ_=>by kernel_rfl) (by decide) ?_
 rintro⟨l,⟨⟩⟩ h
 revert l
 intro(l:List (List Int)) (h:l.length<=1000)
 refine @qd9 _ (∃(v0:Unit),∃(v1:Nat),xe9 l v1/\(((0:Int)=(↑v1:Int)/\True)/\True)/\∀(v2:Nat),xe9 l v2->(decide ((↑v2:Int)<(↑l.length:Int))=true->((0:Int)<=(↑v2:Int)/\(↑v2:Int)<(↑l.length:Int))/\(decide ((100:Int)<(↑(nL l v2).length:Int))=true->true=q8f l)/\(decide ((100:Int)<(↑(nL l v2).length:Int))=false->fits .i64 ((↑v2:Int)+(1:Int))/\∃(v6:Nat),xe9 l v6/\l.length-v6<l.length-v2/\((↑v2:Int)+(1:Int)=(↑v6:Int)/\True)/\True))/\(decide ((↑v2:Int)<(↑l.length:Int))=false->false=q8f l)) (by kernel_rfl) ?_
 try simp only[z0,z1,z2,z3,z4,z5,z6,z7,z8,z9,z10,Int.reduceEq,z11,z12,z13,z14,z15,z16,z17,z18,z19,z20,z21,z22,z23,z24,z25,z26,z27,z28,z29,z30,Int.reduceLE,Int.reduceLT,z31,z32,z33,z34,qa1]
 try simp only[qb4,qb5,qd0,z31,z32,z2,z1]
 refine⟨(),0,⟨Nat.zero_le _,λi hi=>absurd hi (Nat.not_lt_zero _)⟩,rfl,λk hk=>⟨λhlt=>⟨hlt,λh1=>?_,λh1=>⟨qa5 (by omega) (by omega),k+1,⟨hlt,λi hi=>?_⟩,by omega,by omega⟩⟩,λhge=>?_⟩⟩
 ·have:q8f l=true:=List.any_eq_true.2 ⟨_,qw4 l k hlt,decide_eq_true (by omega)⟩
  exact this.symm
 ·by_cases e:i=k
  ·subst e; omega
  ·exact hk.ok i (by omega)
 ·obtain rfl:k=l.length:=by have:=hk.le; omega
  have:q8f l=false:=by
   unfold q8f
   rw[List.any_eq_false]
   intro x hx
   obtain⟨i,hi,rfl⟩:=List.getElem_of_mem hx
   have:=hk.ok i hi
   rw[qm2 l i hi] at this
   simp; omega
  exact this.symm
def q9k:List (List Int):=[[1,1,0],[0,1,1]]
abbrev x8p:qc9:=qg4 false none [] [qi8] (λ_=>True) (λ_=>(q9k,()))
theorem w7k:Meets Tryz.prog 77 x8p:=by
 refine meets (snd (SpecsOk.nil _)) Tryz.func77 rfl rfl (λ_ _=>none) (λ_=>by kernel_rfl) (by decide) ?_
 rintro⟨⟩ -
 refine @qd9 _ ([[(1:Int),(1:Int),(0:Int)],[(0:Int),(1:Int),(1:Int)]]=q9k) (by kernel_rfl) ?_
 try simp only[z0,z1,z2,z3,z4,z5,z6,z7,z8,z9,z10,Int.reduceEq,z11,z12,z13,z14,z15,z16,z17,z18,z19,z20,z21,z22,z23,z24,z25,z26,z27,z28,z29,z30,Int.reduceLE,Int.reduceLT,z31,z32,z33,z34,qa1]
 try simp only[qb4,qb5,qd0,z31,z32,z2,z1]
 rfl
abbrev Fit:=List Int × List (Int × Int)
def qh3 (m:List (List Int)) (y:List Int) (s:List (List Int)):List Fit:=s.filterMap λpix=>if(q4v m y pix).2=true then some (q4v m y pix).1 else none
def qk1 (m:List (List Int)) (y:List Int):Nat->List Fit
 | 0=>[]
 | k+1=>qk1 m y k++qh3 m y (qf7 (nL m 0).length k)
def fitsN (m:List (List Int)) (k:Int):Nat:=(min (min k (nL m 0).length) m.length+1).toNat
def ql1 (m:List (List Int)) (y:List Int) (k:Int):List Fit:=qk1 m y (fitsN m k)
structure wd8 (m:List (List Int)) (y:List Int) (k:Int):Prop where
 k0:0<=k
 k1:k<=1000
 one:0<m.length
 rows:m.length<=1000
 pix:(nL m 0).length<=1000
 sets:∀j:Nat,j<fitsN m k->∀s∈qf7 (nL m 0).length j,q33 m s y/\s.length<=100000
abbrev x0k:q2l:=xo4 [qf6,tQ] [wf7] (λx=>wd8 x.2.1.1 x.2.1.2 x.1) (λx=>(ql1 x.2.1.1 x.2.1.2 x.1).map λf=>(f,()))
def x0l:List AObj:=[.dead,.dead,.dead,.dead,.dead,.dead,.dead,.dead,.dead]
def x0m (m:List (List Int)) (y:List Int) (k:Int):Nat->Option Inv
 | 0=>some (Eng.Inv.mk Nat Nat [16] 11 (λ_ s=>[(16,.lit (.int .i64 s))]) (λl s=>.cnt (some (qk1 m y s).length) :: .box 226 (.cons (.lit (.func (.yield l) #[] #[])) .nil) :: x0l) (λ_ s=>s<=fitsN m k) (λ_ s=>fitsN m k-s))
 | 1=>some (Eng.Inv.mk (Nat × Nat) Nat [] 11 (λ_ _=>[]) (λq c=>.cnt (some ((qk1 m y q.2).length+(qh3 m y ((qf7 (nL m 0).length q.2).take c)).length)) :: .box 226 (.cons (.lit (.func (.yield q.1) #[] #[])) .nil) :: x0l) (λq c=>c<=(qf7 (nL m 0).length q.2).length) (λ_ c=>c))
 | _=>none
theorem q9l (m:List (List Int)) (y:List Int) (a:Nat):∀j,∃t,qk1 m y (a+j)=qk1 m y a++t
 | 0=>⟨[],by simp⟩
 | j+1=>by
  obtain⟨t,ht⟩:=q9l m y a j
  exact⟨t++qh3 m y (qf7 (nL m 0).length (a+j:Nat)),by rw[<- Nat.add_assoc,qk1,ht,List.append_assoc]⟩
theorem q1j (m:List (List Int)) (y:List Int) {s:List (List Int)} {c:Nat} {p:List Int} (h:s[c]? = some p):qh3 m y (s.take (c+1))=qh3 m y (s.take c)++if(q4v m y p).2=true then[(q4v m y p).1] else[]:=by
 rw[List.take_add_one,h]
 unfold qh3
 rw[List.filterMap_append]
 congr 1
 simp only[Option.toList_some,List.filterMap_cons,List.filterMap_nil]
 by_cases hf:(q4v m y p).2=true
 ·rw[if_pos hf,if_pos hf]
 ·rw[if_neg hf,if_neg hf]
theorem w3k (m:List (List Int)) (y:List Int) {s:List (List Int)} {c:Nat} {p:List Int} (h:s[c]? = some p) (hf:(q4v m y p).2=true):∃t,qh3 m y s=qh3 m y (s.take c)++(q4v m y p).1 :: t:=by
 have e:s=s.take (c+1)++s.drop (c+1):=(List.take_append_drop _ _).symm
 have h1:qh3 m y s=qh3 m y (s.take (c+1))++qh3 m y (s.drop (c+1)):=by
  unfold qh3
  rw[<- List.filterMap_append,List.take_append_drop]
 rw[h1,q1j m y h,if_pos hf]
 exact⟨qh3 m y (s.drop (c+1)),by simp⟩
theorem w3l:q07 Tryz.prog 214 x0k:=by
 refine says (x6c (SpecsOk.cons q9g (SpecsOk.cons w69 (SpecsOk.cons q9d (SpecsOk.nil _)))) (ItsOk.cons q9c ItsOk.nil)) Tryz.func214 rfl rfl rfl [32] (λx=>x0m x.2.1.1 x.2.1.2 x.1) (λ_=>by kernel_rfl) (by decide) ?_
 rintro⟨k,q,⟨⟩⟩ l h
 revert k q
 intro(k:Int) (q:List (List Int) × List Int) (h:wd8 q.1 q.2 k)
 refine @qd9 _ (let Q0:=ql1 q.1 q.2 k; let Q1:=(k,q,PUnit.unit); let Q2:=fitsN q.1 k; let Q3:=Int × Int; (0:Nat)<q.1.length/\fits .i64 (max2 false (max2 false k (↑(nL q.1 (0:Nat)).length:Int)) (↑q.1.length:Int)+(1:Int))/\∃(v0:Nat),∃(v1:Nat),Nat.le v1 Q2/\(((0:Int)=(↑v1:Int)/\True)/\some (0:Nat)=some (qk1 q.1 q.2 v1).length/\(Value.func (Fn.yield l) #[] #[]=Value.func (Fn.yield v0) #[] #[]/\True)/\True/\True/\True/\True/\True/\True/\True/\True/\True/\True)/\∀(v2:Nat),Nat.le v2 Q2->(decide ((↑v2:Int)<max2 false (max2 false k (↑(nL q.1 (0:Nat)).length:Int)) (↑q.1.length:Int)+(1:Int))=true->(0:Nat)<q.1.length/\True/\(((0:Ty.den qf6)<=(↑v2:Int)/\(↑v2:Int)<=(1000:Ty.den qf6))/\(0:Ty.den qf6)<=(↑(nL q.1 (0:Nat)).length:Int)/\(↑(nL q.1 (0:Nat)).length:Int)<=(1000:Ty.den qf6))/\∃(v5:Nat × Nat),∃(v6:Nat),Nat.le v6 (qf7 (↑(nL q.1 (0:Nat)).length:Int) (↑v5.2:Int)).length/\v6=(0:Nat)/\(some (qk1 q.1 q.2 v2).length=some ((qk1 q.1 q.2 v5.2).length+(qh3 q.1 q.2 (List.take v6 (qf7 (↑(nL q.1 (0:Nat)).length:Int) (↑v5.2:Int)))).length)/\(Value.func (Fn.yield v0) #[] #[]=Value.func (Fn.yield v5.1) #[] #[]/\True)/\True/\True/\True/\True/\True/\True/\True/\True/\True/\True)/\∀(v7:Nat),Nat.le v7 (qf7 (↑(nL q.1 (0:Nat)).length:Int) (↑v5.2:Int)).length->(∀(v9:List Int × qa7._f [] PUnit.unit),(List.map (λ(v11:List Int)=>(v11,())) (qf7 (↑(nL q.1 (0:Nat)).length:Int) (↑v2:Int)))[v7]?=some v9->∀(v11:q77),(q33 q.1 (nL [v9.1] (0:Nat)) q.2/\(nL [v9.1] (0:Nat)).length<=(100000:Nat))/\[v9.1]=[v9.1]/\v11=v11/\True/\((q4v q.1 q.2 (nL [v9.1] (0:Nat))).2=true->Value.func (Fn.yield v5.1) #[] #[]=Value.func (Fn.yield (ql3.l (q8c [qf6,tQ] [wf7] [(32:Nat)] Q1 (List.map (λ(v13:List Int × List Q3)=>(v13,())) Q0) l))) #[] #[]/\(ql3.L (q8c [qf6,tQ] [wf7] [(32:Nat)] Q1 (List.map (λ(v13:List Int × List Q3)=>(v13,())) Q0) l))[(qk1 q.1 q.2 v5.2).length+(qh3 q.1 q.2 (List.take v7 (qf7 (↑(nL q.1 (0:Nat)).length:Int) (↑v5.2:Int)))).length]?=some (((q4v q.1 q.2 (nL [v9.1] (0:Nat))).1.1,(q4v q.1 q.2 (nL [v9.1] (0:Nat))).1.2),())/\(∃(v13:Nat),Nat.le v13 (qf7 (↑(nL q.1 (0:Nat)).length:Int) (↑v5.2:Int)).length/\v13=v7+(1:Nat)/\some ((qk1 q.1 q.2 v5.2).length+(qh3 q.1 q.2 (List.take v7 (qf7 (↑(nL q.1 (0:Nat)).length:Int) (↑v5.2:Int)))).length+(1:Nat))=some ((qk1 q.1 q.2 v5.2).length+(qh3 q.1 q.2 (List.take v13 (qf7 (↑(nL q.1 (0:Nat)).length:Int) (↑v5.2:Int)))).length)/\(Value.func (Fn.yield v5.1) #[] #[]=Value.func (Fn.yield v5.1) #[] #[]/\True)/\True/\True/\True/\True/\True/\True/\True/\True/\True/\True)/\True)/\((q4v q.1 q.2 (nL [v9.1] (0:Nat))).2=false->∃(v13:Nat),Nat.le v13 (qf7 (↑(nL q.1 (0:Nat)).length:Int) (↑v5.2:Int)).length/\v13=v7+(1:Nat)/\some ((qk1 q.1 q.2 v5.2).length+(qh3 q.1 q.2 (List.take v7 (qf7 (↑(nL q.1 (0:Nat)).length:Int) (↑v5.2:Int)))).length)=some ((qk1 q.1 q.2 v5.2).length+(qh3 q.1 q.2 (List.take v13 (qf7 (↑(nL q.1 (0:Nat)).length:Int) (↑v5.2:Int)))).length)/\(Value.func (Fn.yield v5.1) #[] #[]=Value.func (Fn.yield v5.1) #[] #[]/\True)/\True/\True/\True/\True/\True/\True/\True/\True/\True/\True))/\(v7=(List.map (λ(v10:List Int)=>(v10,())) (qf7 (↑(nL q.1 (0:Nat)).length:Int) (↑v2:Int))).length->fits .i64 ((↑v2:Int)+(1:Int))/\∃(v10:Nat),Nat.le v10 Q2/\fitsN q.1 k-v10<fitsN q.1 k-v2/\((↑v2:Int)+(1:Int)=(↑v10:Int)/\True)/\some ((qk1 q.1 q.2 v5.2).length+(qh3 q.1 q.2 (List.take v7 (qf7 (↑(nL q.1 (0:Nat)).length:Int) (↑v5.2:Int)))).length)=some (qk1 q.1 q.2 v10).length/\(Value.func (Fn.yield v5.1) #[] #[]=Value.func (Fn.yield v0) #[] #[]/\True)/\True/\True/\True/\True/\True/\True/\True/\True/\True/\True))/\(decide ((↑v2:Int)<max2 false (max2 false k (↑(nL q.1 (0:Nat)).length:Int)) (↑q.1.length:Int)+(1:Int))=false->(qk1 q.1 q.2 v2).length=(ql3.L (q8c [qf6,tQ] [wf7] [(32:Nat)] Q1 (List.map (λ(v5:List Int × List Q3)=>(v5,())) Q0) l)).length)) (by kernel_rfl) ?_
 try simp only[z0,z1,z2,z3,z4,z5,z6,z7,z8,z9,z10,Int.reduceEq,z11,z12,z13,z14,z15,z16,z17,z18,z19,z20,z21,z22,z23,z24,z25,z26,z27,z28,z29,z30,Int.reduceLE,Int.reduceLT,z31,z32,z33,z34,qa1]
 try simp only[qb4,qb5,qd0,z31,z32,z2,z1]
 have hk0:=h.k0
 have hk1:=h.k1
 have hone:=h.one
 have hrows:=h.rows
 have hpix:=h.pix
 have hN:(fitsN q.1 k:Int)=min (min k (nL q.1 0).length) q.1.length+1:=by unfold fitsN; omega
 have hM:max2 false (max2 false k ((nL q.1 0).length:Int)) (q.1.length:Int)=min (min k (nL q.1 0).length) q.1.length:=rfl
 rw[hM]
 refine⟨hone,qa5 (by omega) (by omega),l,0,Nat.zero_le _,⟨rfl,rfl,rfl⟩,λs hs=>⟨λhlt=>?_,λhge=>?_⟩⟩
 ·have hsN:s<fitsN q.1 k:=by omega
  refine⟨hone,by omega,(l,s),0,Nat.zero_le _,rfl,⟨by simp[qh3],rfl⟩,λc hc=>⟨?_,λhfin=>?_⟩⟩
  ·rintro⟨p,⟨⟩⟩ hp -
   have hp2:(qf7 (nL q.1 0).length s)[c]? = some p:=by
    rw[List.getElem?_map] at hp
    obtain⟨p',h1,h2⟩:=Option.map_eq_some_iff.1 hp
    rw[h1]
    exact congrArg some (congrArg Prod.fst h2)
   have hcl:=(List.getElem?_eq_some_iff.1 hp2).1
   dsimp only
   refine⟨h.sets s hsN p (List.mem_of_getElem? hp2),λhf=>⟨rfl,?_,c+1,hcl,rfl,?_⟩,λhf=>⟨c+1,hcl,rfl,?_⟩⟩
   ·show((ql1 q.1 q.2 k).map λf=>((f,()):qa7 [wf7]))[(qk1 q.1 q.2 s).length+(qh3 q.1 q.2 ((qf7 (nL q.1 0).length s).take c)).length]? = some ((q4v q.1 q.2 p).1,())
    obtain⟨t,ht⟩:=q9l q.1 q.2 (s+1) (fitsN q.1 k-(s+1))
    rw[show s+1+(fitsN q.1 k-(s+1))=fitsN q.1 k by omega,qk1] at ht
    obtain⟨t2,ht2⟩:=w3k q.1 q.2 hp2 hf
    rw[List.getElem?_map]
    unfold ql1
    rw[ht,ht2,List.append_assoc,List.append_assoc,List.getElem?_append_right (by omega),Nat.add_sub_cancel_left,List.getElem?_append_right (Nat.le_refl _),Nat.sub_self]
    rfl
   ·rw[q1j q.1 q.2 hp2,if_pos hf,List.length_append]
    rfl
   ·rw[q1j q.1 q.2 hp2,if_neg (by rw[hf]; decide),List.append_nil]
  ·rw[List.length_map] at hfin
   refine⟨qa5 (by omega) (by omega),s+1,hsN,by omega,by omega,?_,rfl⟩
   dsimp only
   rw[hfin,List.take_length,qk1,List.length_append]
 ·have e:s=fitsN q.1 k:=by omega
  show(qk1 q.1 q.2 s).length=((ql1 q.1 q.2 k).map λf=>((f,()):qa7 [wf7])).length
  rw[List.length_map,e]
  rfl
end Go.Proofs.YtmijnbjlhnpokaaGreat
