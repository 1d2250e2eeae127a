/- The reference's reduced rows: contracts by the engine. No condition. -/
import Derived.Test.YtmijnbjlhnpokaaGreatProg
import Derived.Test.YtmijnbjlhnpokaaGreatApp
import Derived.Test.YtmijnbjlhnpokaaGreatEng3
import Derived.Test.YtmijnbjlhnpokaaGreatV12
set_option linter.unusedVariables false
namespace Go.Proofs.YtmijnbjlhnpokaaGreat
open Go Go.RowKit Ls Eng
theorem x6f:Elt Tryz.prog 34 3 (.int .i64 0) 1 8:=⟨Tryz.underlying34,by kernel_rfl⟩
theorem w68 (w:World) (t:TypeId):(w.alloc (.cells #[] t)).ownsRow w.heap.size t 1 (.slice (some ⟨w.heap.size,0,none⟩) 0 0) 0 []:=
 ⟨rfl,.inr ⟨w.heap.size,0,#[],rfl,Nat.le_refl _,heap_alloc_new w _,Nat.le_refl _,by unfold maxLen; omega,rfl,rfl⟩⟩
set_option maxRecDepth 100000 in
set_option maxHeartbeats 400000 in
theorem clone_any (X:Option Addr) (k d:Nat) (l:List Int) (w:World) (hl:SI w X k d l) (hk:k<=100000) :
  Calls Tryz.prog 105 #[.slice X k d] w λe w'=>∃A' c',e=.returned (.slice A' k c')/\w'.ownsRow w.heap.size 3 1 (.slice A' k c') k (ints l)/\Below w.heap.size w w':=by
 have hll:=hidx hl.len
 cases X with
 | none=>
  have h0:k=0:=by
   rcases Nat.eq_zero_or_pos k with h | h
   ·exact h
   ·obtain⟨ad,e,_⟩:=hl.at_ h; cases e
  subst h0
  have hl0:l=[]:=List.eq_nil_of_length_eq_zero hll.out
  subst hl0
  have hq:=λw=>Lib.run_eql_slice_nil (P:=Tryz.prog) w 34 3 none 0 d 0 0 Tryz.underlying34
  go_enter Tryz.func105,Tryz.ntmps105
  go_wp2
  go_ret
  exact⟨none,0,rfl,World.ownsRow_nil _ _ _ _,Below.refl _ _⟩
 | some ad=>
  have sv:=hl.values
  have o1:=xe3 l
  have hq:=λw=>Lib.run_eql_slice_nil (P:=Tryz.prog) w 34 3 (some ad) k d 0 0 Tryz.underlying34
  go_enter Tryz.func105,Tryz.ntmps105
  go_wp2_with (at_builtin; refine x8g _ x6f rfl rfl _ _ rfl rfl rfl (w68 _ _) (below_alloc _ _) (Nat.le_refl _) (sv.below (below_alloc _ _)) o1 (by omega) (by omega) ?_; intro A2 c2 w2 hown2 hb2 _; rw[Nat.zero_add] at hown2)
  go_ret
  exact⟨A2,c2,rfl,by simpa using hown2,hb2⟩
abbrev xz6:qc9:=qg4 true (some 3) [.list (.int .i64)] [.list (.int .i64)] (λx=>x.1.length<=100000) (λx=>(x.1,()))
theorem rdL_ints (m:View):∀l:List Int,RdL m (.int .i64) l (ints l)
 | []=>rfl
 | x :: l=>⟨[.int .i64 x],ints l,rfl,rfl,rdL_ints m l⟩
theorem wt6:Meets Tryz.prog 105 xz6:=by
 refine⟨⟨_,_,Tryz.func105,rfl,rfl⟩,λw m args vs k hm hargs hrun=>?_⟩
 obtain⟨⟨l,⟨⟩⟩,⟨hp,hk⟩,hx⟩:=qu9 hrun hargs
 have hp:l.length<=100000:=hp
 obtain⟨u,us,rfl,h1,h2⟩:=hx
 obtain rfl:us=[]:=h2
 obtain⟨A,c,rfl,hSI⟩:=xo6 hm (show Rd m (.list (.int .i64)) l [u] from h1)
 refine(clone_any A l.length c l w hSI hp).mono λe w' ⟨A',c',e1,e2,e3⟩=>?_
 exact⟨_,λ_=>none,e1,e3,(λb o h=>by cases h),(λb o h=>by cases h),.inl ⟨.int .i64,l,ints l,hk,e2,rdL_ints _ l,λ_ _=>rfl⟩⟩
end Go.Proofs.YtmijnbjlhnpokaaGreat
set_option linter.unusedSimpArgs false
namespace Go.Proofs.YtmijnbjlhnpokaaGreat
open Go Go.RowKit Eng
theorem w0z (t:Ty) (a b:List t.den) (hl:a.length=b.length) (h:∀i,i<a.length->qe8 t a i=qe8 t b i):a=b:=by
 apply List.ext_getElem hl
 intro i h1 h2
 have:=h i h1
 rwa [qk5 a i h1,qk5 b i h2] at this
abbrev tQ:Ty:=.prod (.list (.list (.int .i64))) (.list (.int .i64))
abbrev xz7:qc9:=qg4 true none [wp6] [.bool] (λ_=>True) (λx=>(x.1.1==0,()))
theorem w29:Meets Tryz.prog 240 xz7:=by
 refine meets (snd (SpecsOk.nil _)) Tryz.func240 rfl rfl (λ_ _=>none) (λ_=>by kernel_rfl) (by decide) ?_
 rintro⟨r,⟨⟩⟩ -
 revert r
 intro(r:Int × Int)
 refine @qd9 _ ((r.1==(0:Int))=(r.1==(0:Ty.den (Ty.int .i64)))) (by kernel_rfl) ?_
 try simp only[z0,z1,z2,z3,z4,z5,z6,z7,z8,z9,z10,Int.reduceEq,z11,z12,z13,z14,z15,z16,z17,z18,z19,z20,z21,z22,z23,z24,z25,z26,z27,z28,z29,z30,Int.reduceLE,Int.reduceLT,z31,z32,z33,z34,qa1]
 try simp only[qb4,qb5,qd0,z31,z32,z2,z1]
 done
abbrev x4a:qc9:=qg4 true none [tQ] [qf6] (λx=>0<x.1.1.length) (λx=>((nL x.1.1 0).length,()))
theorem q9g:Meets Tryz.prog 144 x4a:=by
 refine meets (snd (SpecsOk.nil _)) Tryz.func144 rfl rfl (λ_ _=>none) (λ_=>by kernel_rfl) (by decide) ?_
 rintro⟨q,⟨⟩⟩ h
 revert q
 intro(q:List (List Int) × List Int) (h:0<q.1.length)
 refine @qd9 _ (((0:Int)<=(0:Int)/\(0:Int)<(↑q.1.length:Int))/\(↑(nL q.1 (0:Nat)).length:Int)=(↑(nL q.1 (0:Nat)).length:Int)) (by kernel_rfl) ?_
 try simp only[z0,z1,z2,z3,z4,z5,z6,z7,z8,z9,z10,Int.reduceEq,z11,z12,z13,z14,z15,z16,z17,z18,z19,z20,z21,z22,z23,z24,z25,z26,z27,z28,z29,z30,Int.reduceLE,Int.reduceLT,z31,z32,z33,z34,qa1]
 try simp only[qb4,qb5,qd0,z31,z32,z2,z1]
 omega
def q4v (m:List (List Int)) (y pix:List Int):(List Int × List (Int × Int)) × Bool:=if(q4t m pix y).2≠0\/((q4t m pix y).1.any λr=>r.1==0)=true then(([],[]),false) else((pix,(q4t m pix y).1),true)
abbrev x4b:qc9:=qg4 true none [tQ,qd4] [wf7,.bool] (λx=>q33 x.1.1 x.2.1 x.1.2/\x.2.1.length<=100000) (λx=>((q4v x.1.1 x.1.2 x.2.1).1,(q4v x.1.1 x.1.2 x.2.1).2,()))
theorem xe4 {m:List (List Int)} {pix y:List Int} (h:q33 m pix y):(q4t m pix y).1.length<=1000000:=by
 unfold q4t
 split
 ·rename_i he
  have hA:=Asked.of he
  have hO:=h.ok he
  unfold w33
  split
  ·simp
  ·split
   ·simp
   ·have hsh:=(qt9 hO.red pix.length).piv
    rw[show(qc8 m pix y).length=m.length from qm7 _ _ _] at hsh
    have:=hA.msk.rows6
    have e:(qz0 m pix y).2.length=(qa4 (qc8 m pix y) pix.length).2.length:=rfl
    simp
    omega
 ·simp
theorem w69:Meets Tryz.prog 215 x4b:=by
 refine meets (snd (SpecsOk.cons w67 (SpecsOk.cons wt6 (SpecsOk.cons (w6k (fs:=[(240,xz7)]) (SpecsOk.cons w29 (SpecsOk.nil _))) (SpecsOk.nil _))))) Tryz.func215 rfl rfl (λ_ _=>none) (λ_=>by kernel_rfl) (by decide) ?_
 rintro⟨q,pix,⟨⟩⟩ h
 revert q pix
 intro(q:List (List Int) × List Int) (pix:List Int) (h:q33 q.1 pix q.2/\pix.length<=100000)
 refine @qd9 _ (let Q0:=q4v q.1 q.2 pix; let Q1:=q4t q.1 pix q.2; q33 q.1 pix q.2/\((Q1.2 != (0:Int))=true->(Q0.1.1=[]/\Q0.1.2=[]/\True)/\false=Q0.2/\True)/\((Q1.2 != (0:Int))=false->∃(v1:qa7 [Ty.prod (Ty.int .i64) (Ty.int .i64)]->Prop),∃(v2:qa7 [Ty.prod (Ty.int .i64) (Ty.int .i64)]->Bool),(∀(v3:(Int × Int) × qa7._f [] PUnit.unit),v1 v3->True/\(v3.1.1==(0:Ty.den (Ty.int .i64)))=v2 v3)/\(Q1.1.length<=(1000000:Nat)/\∀(v3:Nat),v3<Q1.1.length->v1 (qe8 (Ty.prod (Ty.int .i64) (Ty.int .i64)) Q1.1 v3,()))/\((List.any Q1.1 λ(v4:Int × Int)=>v2 (v4,()))=true->(Q0.1.1=[]/\Q0.1.2=[]/\True)/\false=Q0.2/\True)/\((List.any Q1.1 λ(v4:Int × Int)=>v2 (v4,()))=false->pix.length<=(100000:Nat)/\(pix=Q0.1.1/\Q1.1=Q0.1.2/\True)/\true=Q0.2/\True))) (by kernel_rfl) ?_
 try simp only[z0,z1,z2,z3,z4,z5,z6,z7,z8,z9,z10,Int.reduceEq,z11,z12,z13,z14,z15,z16,z17,z18,z19,z20,z21,z22,z23,z24,z25,z26,z27,z28,z29,z30,Int.reduceLE,Int.reduceLT,z31,z32,z33,z34,qa1]
 try simp only[qb4,qb5,qd0,z31,z32,z2,z1]
 obtain⟨hp,hl⟩:=h
 refine⟨hp,λh1=>by simp[q4v,h1],λh1=>⟨λ_=>True,λx=>x.1.1==0,λ_ _=>rfl,⟨?_,λ_ _=>trivial⟩,λh2=>?_,λh2=>⟨hl,?_⟩⟩⟩
 ·exact xe4 hp
 ·have h2:((q4t q.1 pix q.2).1.any λr=>r.1==0)=true:=h2
  unfold q4v; rw[if_pos (.inr h2)]; exact⟨⟨rfl,rfl⟩,rfl⟩
 ·have h2:((q4t q.1 pix q.2).1.any λr=>r.1==0)=false:=h2
  unfold q4v; rw[if_neg (by rw[h1,h2]; simp)]; exact⟨⟨rfl,rfl⟩,rfl⟩
theorem wm2 (a b:Int):qe1 b (a.tmod b)=qe1 a b:=by
 unfold qe1
 show((Nat.gcd b.natAbs (a.tmod b).natAbs:Nat):Int)=(Nat.gcd a.natAbs b.natAbs:Nat)
 rw[Int.natAbs_tmod,Nat.gcd_comm b.natAbs,<- Nat.gcd_rec,Nat.gcd_comm]
def xz8 (a b:Int):Nat->Option Inv
 | 0=>some (Inv.of [0,1] 0 (λs:Int × Int=>[(0,.lit (.int .i64 s.1)),(1,.lit (.int .i64 s.2))]) (λ_=>[]) (λs=>qd2 BIG s.1/\qd2 BIG s.2/\qe1 s.1 s.2=qe1 a b) (λs=>s.2.natAbs))
 | _=>none
theorem q9h:Meets Tryz.prog 201 wc4:=by
 refine meets (snd (SpecsOk.nil _)) Tryz.func201 rfl rfl (λx=>xz8 x.1 x.2.1) (λ_=>by kernel_rfl) (by decide) ?_
 rintro⟨a,b,⟨⟩⟩ h
 revert a b
 intro(a:Int) (b:Int) (h:(-BIG<=a/\a<=BIG)/\-BIG<=b/\b<=BIG)
 refine @qd9 _ (∃(v0:Unit),∃(v1:Int × Int),(qd2 BIG v1.1/\qd2 BIG v1.2/\qe1 v1.1 v1.2=qe1 a b)/\((a=v1.1/\b=v1.2/\True)/\True)/\∀(v2:Int × Int),qd2 BIG v2.1/\qd2 BIG v2.2/\qe1 v2.1 v2.2=qe1 a b->((v2.2 != (0:Int))=true->v2.2≠(0:Int)/\∃(v5:Int × Int),(qd2 BIG v5.1/\qd2 BIG v5.2/\qe1 v5.1 v5.2=qe1 a b)/\Int.natAbs v5.2<Int.natAbs v2.2/\(v2.2=v5.1/\Int.tmod v2.1 v2.2=v5.2/\True)/\True)/\((v2.2 != (0:Int))=false->fits .i64 ((0:Int)-v2.1)/\max2 true v2.1 ((0:Int)-v2.1)=qe1 a b)) (by kernel_rfl) ?_
 try simp only[z0,z1,z2,z3,z4,z5,z6,z7,z8,z9,z10,Int.reduceEq,z11,z12,z13,z14,z15,z16,z17,z18,z19,z20,z21,z22,z23,z24,z25,z26,z27,z28,z29,z30,Int.reduceLE,Int.reduceLT,z31,z32,z33,z34,qa1]
 try simp only[qb4,qb5,qd0,z31,z32,z2,z1]
 refine⟨(),(a,b),⟨h.1,h.2,rfl⟩,⟨rfl,rfl⟩,?_⟩
 rintro⟨x,y⟩ ⟨h1,h2,h3⟩
 dsimp only at h1 h2 h3 ⊢
 have hB:BIG=4000000000000000000:=rfl
 refine⟨λhy=>⟨hy,(y,x.tmod y),⟨h2,?_,(wm2 x y).trans h3⟩,?_,rfl,rfl⟩,λhy=>?_⟩
 ·have:(x.tmod y).natAbs<=x.natAbs:=by rw[Int.natAbs_tmod]; exact Nat.mod_le _ _
  unfold qd2 at h1 ⊢
  dsimp only
  omega
 ·dsimp only
  rw[Int.natAbs_tmod]
  exact Nat.mod_lt _ (by omega)
 ·subst hy
  unfold qd2 at h1
  refine⟨qa5 (by omega) (by omega),?_⟩
  rw[<- h3]
  show max x (0-x)=((Int.gcd x 0:Nat):Int)
  rw[Int.gcd_zero_right]
  omega
def qk7 (l:List Int):List Int:=l.map λn=>n.tdiv (max (gcdL l) 1)
abbrev xz9:qc9:=qg4 true (some 3) [qd4] [qd4] (λx=>q7d x.1) (λx=>(qk7 x.1,()))
def xq1 (l:List Int):Nat->Option Inv
 | 0=>some (Inv.of [3,11] 0 (λk:Nat=>[(3,.lit (.int .i64 (gcdL (l.take k)))),(11,.lit (.int .i64 k))]) (λ_=>[]) (λk=>k<=l.length) (λk=>l.length-k))
 | 1=>some (Inv.of [6,21] 1 (λk:Nat=>[(6,.own 0),(21,.lit (.int .i64 k))]) (λk=>[.vec 3 (.int .i64) ((qk7 l).take k)]) (λk=>k<=l.length) (λk=>l.length-k))
 | _=>none
theorem q7l:Meets Tryz.prog 153 xz9:=by
 refine meets (snd (SpecsOk.cons q9h (SpecsOk.nil _))) Tryz.func153 rfl rfl (λx=>xq1 x.1) (λ_=>by kernel_rfl) (by decide) ?_
 rintro⟨l,⟨⟩⟩ h
 revert l
 intro(l:List Int) (h:q7d l)
 refine @qd9 _ (∃(v0:Unit),∃(v1:Nat),Nat.le v1 l.length/\(((0:Int)=gcdL (List.take v1 l)/\(0:Int)=(↑v1:Int)/\True)/\True)/\∀(v2:Nat),Nat.le v2 l.length->(decide ((↑v2:Int)<(↑l.length:Int))=true->((0:Int)<=(↑v2:Int)/\(↑v2:Int)<(↑l.length:Int))/\(((-4000000000000000000:Int)<=gcdL (List.take v2 l)/\gcdL (List.take v2 l)<=BIG)/\(-4000000000000000000:Int)<=nI l v2/\nI l v2<=BIG)/\fits .i64 ((↑v2:Int)+(1:Int))/\∃(v5:Nat),Nat.le v5 l.length/\l.length-v5<l.length-v2/\(qe1 (gcdL (List.take v2 l)) (nI l v2)=gcdL (List.take v5 l)/\(↑v2:Int)+(1:Int)=(↑v5:Int)/\True)/\True)/\(decide ((↑v2:Int)<(↑l.length:Int))=false->∃(v5:Unit),∃(v6:Nat),Nat.le v6 l.length/\((True/\(0:Int)=(↑v6:Int)/\True)/\List.take v6 (qk7 l)=[]/\True)/\∀(v7:Nat),Nat.le v7 l.length->(decide ((↑v7:Int)<(↑l.length:Int))=true->((0:Int)<=(↑v7:Int)/\(↑v7:Int)<(↑l.length:Int))/\max2 true (gcdL (List.take v2 l)) (1:Int)≠(0:Int)/\fits .i64 (Int.tdiv (nI l v7) (max2 true (gcdL (List.take v2 l)) (1:Int)))/\((0:Nat)<List.length [Int.tdiv (nI l v7) (max2 true (gcdL (List.take v2 l)) (1:Int))]/\Nat.le ((List.take v7 (qk7 l)).length+List.length [Int.tdiv (nI l v7) (max2 true (gcdL (List.take v2 l)) (1:Int))]) (1000000:Nat))/\fits .i64 ((↑v7:Int)+(1:Int))/\∃(v10:Nat),Nat.le v10 l.length/\l.length-v10<l.length-v7/\(True/\(↑v7:Int)+(1:Int)=(↑v10:Int)/\True)/\List.take v7 (qk7 l)++[Int.tdiv (nI l v7) (max2 true (gcdL (List.take v2 l)) (1:Int))]=List.take v10 (qk7 l)/\True)/\(decide ((↑v7:Int)<(↑l.length:Int))=false->List.take v7 (qk7 l)=qk7 l))) (by kernel_rfl) ?_
 try simp only[z0,z1,z2,z3,z4,z5,z6,z7,z8,z9,z10,Int.reduceEq,z11,z12,z13,z14,z15,z16,z17,z18,z19,z20,z21,z22,z23,z24,z25,z26,z27,z28,z29,z30,Int.reduceLE,Int.reduceLT,z31,z32,z33,z34,qa1]
 try simp only[qb4,qb5,qd0,z31,z32,z2,z1]
 have hlen:=h.1
 have hpl:(qk7 l).length=l.length:=by simp[qk7]
 refine⟨(),0,Nat.zero_le _,⟨rfl,rfl⟩,λk hk=>⟨λhlt=>?_,λhge=>?_⟩⟩
 ·have h1:=ws9 h k hk
  have h2:=q20 h hlt
  unfold BIG at h1
  exact⟨hlt,⟨⟨by omega,by unfold BIG; omega⟩,h2⟩,qa5 (by omega) (by omega),k+1,by omega,by omega,(q7e l k hlt).symm,by omega⟩
 ·obtain rfl:k=l.length:=by omega
  rw[List.take_length]
  refine⟨(),0,Nat.zero_le _,⟨rfl,rfl⟩,λi hi=>⟨λhlt=>?_,λhge=>?_⟩⟩
  ·have h2:=q20 h hlt
   have h3:=qj3 (g:=max (gcdL l) 1) h2
   unfold BIG at h3
   refine⟨hlt,by show ¬max (gcdL l) 1=0; omega,qa5 (by show -9223372036854775808<=(nI l i).tdiv (max (gcdL l) 1); omega) (by show(nI l i).tdiv (max (gcdL l) 1)<=9223372036854775807; omega),by rw[List.length_take]; omega,qa5 (by omega) (by omega),i+1,by omega,by omega,by omega,?_⟩
   rw[qp7 _ i (by omega),qg1 (qk7 l) i (by omega),qg1 l i hlt]
   simp[qk7]
   rfl
  ·rw[List.take_of_length_le (by omega)]
def qm0 (l:List Int) (n:Int):List Int:=l.map λk=>k*n
structure xe5 (l:List Int) (n:Int):Prop where
 len:l.length<=1000
 big:∀i,i<l.length->qd2 BIG (nI l i*n)
abbrev x8h:qc9:=qg4 true none [qd4,qf6] [qd4] (λx=>xe5 x.1 x.2.1) (λx=>(qm0 x.1 x.2.1,()))
def x4c (l:List Int) (n:Int):Nat->Option Inv
 | 0=>some (Inv.of [5,10] 1 (λk:Nat=>[(5,.own 0),(10,.lit (.int .i64 k))]) (λk=>[.vec 3 (.int .i64) ((qm0 l n).take k)]) (λk=>k<=l.length) (λk=>l.length-k))
 | _=>none
theorem w7a:Meets Tryz.prog 154 x8h:=by
 refine meets (snd (SpecsOk.nil _)) Tryz.func154 rfl rfl (λx=>x4c x.1 x.2.1) (λ_=>by kernel_rfl) (by decide) ?_
 rintro⟨l,n,⟨⟩⟩ h
 revert l n
 intro(l:List Int) (n:Int) (h:xe5 l n)
 refine @qd9 _ (let Q0:=qm0 l n; ∃(v0:Unit),∃(v1:Nat),Nat.le v1 l.length/\((True/\(0:Int)=(↑v1:Int)/\True)/\List.take v1 Q0=[]/\True)/\∀(v2:Nat),Nat.le v2 l.length->(decide ((↑v2:Int)<(↑l.length:Int))=true->((0:Int)<=(↑v2:Int)/\(↑v2:Int)<(↑l.length:Int))/\fits .i64 (nI l v2*n)/\((0:Nat)<List.length [nI l v2*n]/\Nat.le ((List.take v2 Q0).length+List.length [nI l v2*n]) (1000000:Nat))/\fits .i64 ((↑v2:Int)+(1:Int))/\∃(v5:Nat),Nat.le v5 l.length/\l.length-v5<l.length-v2/\(True/\(↑v2:Int)+(1:Int)=(↑v5:Int)/\True)/\List.take v2 Q0++[nI l v2*n]=List.take v5 Q0/\True)/\(decide ((↑v2:Int)<(↑l.length:Int))=false->List.take v2 Q0=qm0 l n)) (by kernel_rfl) ?_
 try simp only[z0,z1,z2,z3,z4,z5,z6,z7,z8,z9,z10,Int.reduceEq,z11,z12,z13,z14,z15,z16,z17,z18,z19,z20,z21,z22,z23,z24,z25,z26,z27,z28,z29,z30,Int.reduceLE,Int.reduceLT,z31,z32,z33,z34,qa1]
 try simp only[qb4,qb5,qd0,z31,z32,z2,z1]
 have hlen:=h.len
 have hpl:(qm0 l n).length=l.length:=by simp[qm0]
 refine⟨(),0,Nat.zero_le _,⟨rfl,rfl⟩,λi hi=>⟨λhlt=>?_,λhge=>?_⟩⟩
 ·have h3:=h.big i hlt
  unfold qd2 BIG at h3
  refine⟨hlt,qa5 (by omega) (by omega),by rw[List.length_take]; omega,qa5 (by omega) (by omega),i+1,by omega,by omega,by omega,?_⟩
  rw[qp7 _ i (by omega),qg1 (qm0 l n) i (by omega),qg1 l i hlt]
  simp[qm0]
 ·rw[List.take_of_length_le (by omega)]
def q34 (r p:List Int) (j:Nat):List Int:=(List.range r.length).map λk=>nI r k*nI p j-nI p k*nI r j
def qe7 (r p:List Int) (j:Nat):List Int:=qk7 (q34 r p j)
structure xe6 (r p:List Int) (j:Nat):Prop where
 len:r.length<=1000
 eq:p.length=r.length
 lt:j<r.length
 b1:∀k,k<r.length->qd2 BIG (nI r k*nI p j)
 b2:∀k,k<r.length->qd2 BIG (nI p k*nI r j)
 b3:∀k,k<r.length->qd2 BIG (nI r k*nI p j-nI p k*nI r j)
abbrev sWo:qc9:=qg4 true none [qd4,qd4,qf6] [qd4] (λx=>0<=x.2.2.1/\xe6 x.1 x.2.1 x.2.2.1.toNat) (λx=>(qe7 x.1 x.2.1 x.2.2.1.toNat,()))
def x8i (r p:List Int) (j:Nat):Nat->Option Inv
 | 0=>some (Inv.of [7,11] 1 (λk:Nat=>[(7,.own 0),(11,.lit (.int .i64 k))]) (λk=>[.vec 3 (.int .i64) ((q34 r p j).take k)]) (λk=>k<=r.length) (λk=>r.length-k))
 | _=>none
theorem xe7:Meets Tryz.prog 155 sWo:=by
 refine meets (snd (SpecsOk.cons q7l (SpecsOk.nil _))) Tryz.func155 rfl rfl (λx=>x8i x.1 x.2.1 x.2.2.1.toNat) (λ_=>by kernel_rfl) (by decide) ?_
 rintro⟨r,p,j,⟨⟩⟩ h
 revert r p j
 intro(r:List Int) (p:List Int) (j:Int) (h:0<=j/\xe6 r p j.toNat)
 refine @qd9 _ (let Q0:=q34 r p j.toNat; ∃(v0:Unit),∃(v1:Nat),Nat.le v1 r.length/\((True/\(0:Int)=(↑v1:Int)/\True)/\List.take v1 Q0=[]/\True)/\∀(v2:Nat),Nat.le v2 r.length->(decide ((↑v2:Int)<(↑r.length:Int))=true->((0:Int)<=(↑v2:Int)/\(↑v2:Int)<(↑r.length:Int))/\((0:Int)<=j/\j<(↑p.length:Int))/\fits .i64 (nI r v2*nI p j.toNat)/\((0:Int)<=(↑v2:Int)/\(↑v2:Int)<(↑p.length:Int))/\((0:Int)<=j/\j<(↑r.length:Int))/\fits .i64 (nI p v2*nI r j.toNat)/\fits .i64 (nI r v2*nI p j.toNat-nI p v2*nI r j.toNat)/\((0:Nat)<List.length [nI r v2*nI p j.toNat-nI p v2*nI r j.toNat]/\Nat.le ((List.take v2 Q0).length+List.length [nI r v2*nI p j.toNat-nI p v2*nI r j.toNat]) (1000000:Nat))/\fits .i64 ((↑v2:Int)+(1:Int))/\∃(v5:Nat),Nat.le v5 r.length/\r.length-v5<r.length-v2/\(True/\(↑v2:Int)+(1:Int)=(↑v5:Int)/\True)/\List.take v2 Q0++[nI r v2*nI p j.toNat-nI p v2*nI r j.toNat]=List.take v5 Q0/\True)/\(decide ((↑v2:Int)<(↑r.length:Int))=false->q7d (List.take v2 Q0)/\qk7 (List.take v2 Q0)=qe7 r p j.toNat)) (by kernel_rfl) ?_
 try simp only[z0,z1,z2,z3,z4,z5,z6,z7,z8,z9,z10,Int.reduceEq,z11,z12,z13,z14,z15,z16,z17,z18,z19,z20,z21,z22,z23,z24,z25,z26,z27,z28,z29,z30,Int.reduceLE,Int.reduceLT,z31,z32,z33,z34,qa1]
 try simp only[qb4,qb5,qd0,z31,z32,z2,z1]
 obtain⟨hj,h⟩:=h
 have hlen:=h.len
 have heq:=h.eq
 have hlt':=h.lt
 have hpl:(q34 r p j.toNat).length=r.length:=by simp[q34]
 have hpk:0<=j/\j<(p.length:Int):=⟨hj,by omega⟩
 have hrk:0<=j/\j<(r.length:Int):=⟨hj,by omega⟩
 have hat:∀k,k<r.length->nI (q34 r p j.toNat) k=nI r k*nI p j.toNat-nI p k*nI r j.toNat:=λk hk=>by
  rw[qg1 _ k (by omega)]; simp[q34]
 refine⟨(),0,Nat.zero_le _,⟨rfl,rfl⟩,λi hi=>⟨λhlt=>?_,λhge=>?_⟩⟩
 ·have h1:=h.b1 i hlt
  have h2:=h.b2 i hlt
  have h3:=h.b3 i hlt
  unfold qd2 BIG at h1 h2 h3
  refine⟨hlt,hpk,qa5 (by omega) (by omega),by omega,hrk,qa5 (by omega) (by omega),qa5 (by omega) (by omega),by rw[List.length_take]; omega,qa5 (by omega) (by omega),i+1,by omega,by omega,by omega,?_⟩
  rw[qp7 _ i (by omega),hat i hlt]
 ·rw[List.take_of_length_le (by omega)]
  refine⟨⟨by omega,λx hx=>?_⟩,rfl⟩
  obtain⟨k,hk,rfl⟩:=List.getElem_of_mem hx
  rw[<- qg1 _ k hk,hat k (by omega)]
  exact h.b3 k (by omega)
def w3a (n d:Int):Int × Int:=(n.tdiv (qe1 n d),d.tdiv (qe1 n d))
abbrev x6g:qc9:=qg4 true none [qf6,qf6] [wp6] (λx=>(-BIG<=x.1/\x.1<=BIG)/\(-BIG<=x.2.1/\x.2.1<=BIG)/\x.2.1≠0) (λx=>(w3a x.1 x.2.1,()))
theorem w7b:Meets Tryz.prog 213 x6g:=by
 refine meets (snd (SpecsOk.cons q9h (SpecsOk.nil _))) Tryz.func213 rfl rfl (λ_ _=>none) (λ_=>by kernel_rfl) (by decide) ?_
 rintro⟨n,d,⟨⟩⟩ h
 revert n d
 intro(n:Int) (d:Int) (h:(-BIG<=n/\n<=BIG)/\(-BIG<=d/\d<=BIG)/\d≠0)
 refine @qd9 _ (let Q0:=qe1 n d; (((-4000000000000000000:Int)<=n/\n<=BIG)/\(-4000000000000000000:Int)<=d/\d<=BIG)/\qe1 n d≠(0:Int)/\fits .i64 (Int.tdiv n Q0)/\qe1 n d≠(0:Int)/\fits .i64 (Int.tdiv d Q0)/\Int.tdiv n Q0=(w3a n d).1/\Int.tdiv d Q0=(w3a n d).2/\True) (by kernel_rfl) ?_
 try simp only[z0,z1,z2,z3,z4,z5,z6,z7,z8,z9,z10,Int.reduceEq,z11,z12,z13,z14,z15,z16,z17,z18,z19,z20,z21,z22,z23,z24,z25,z26,z27,z28,z29,z30,Int.reduceLE,Int.reduceLT,z31,z32,z33,z34,qa1]
 try simp only[qb4,qb5,qd0,z31,z32,z2,z1]
 obtain⟨h1,h2,h3⟩:=h
 have hg:=ql9 (a:=n) (b:=d) (.inr h3)
 have k1:=qj3 (g:=qe1 n d) h1
 have k2:=qj3 (g:=qe1 n d) h2
 have hB:BIG=4000000000000000000:=rfl
 exact⟨⟨h1,h2⟩,by omega,qa5 (by omega) (by omega),by omega,qa5 (by omega) (by omega),rfl,rfl⟩
def qf3 (m:List (List Int)) (pix:List Int):List (List Int):=(List.range m.length).map λi=>qm3 (nL m i) pix
theorem qm8 (m:List (List Int)) (pix:List Int):(qf3 m pix).length=m.length:=by simp[qf3]
theorem qp9 (m:List (List Int)) (pix:List Int) (i:Nat) (hi:i<m.length):nL (qf3 m pix) i=qm3 (nL m i) pix:=by
 rw[qm2 _ _ (by rw[qm8]; exact hi)]; simp[qf3]
structure wm3 (m:List (List Int)) (pix:List Int):Prop where
 rows:m.length<=10000
 cols:pix.length<=10000
 at_:∀i,i<m.length->∀j,j<pix.length->0<=nI pix j/\nI pix j<(nL m i).length
def x0b (m:List (List Int)) (pix:List Int):Nat->Option Inv
 | 0=>some (Inv.of [5,13] 1 (λk:Nat=>[(5,.msl 0 .none),(13,.lit (.int .i64 k))]) (λk=>[.mat 34 3 (.int .i64) ((qf3 m pix).take k) .none .none]) (λk=>k<=m.length) (λk=>m.length-k))
 | 1=>some (Eng.Inv.mk Nat Nat [5,8,20] 2 (λ_ j=>[(5,.msl 0 .none),(8,.own 1),(20,.lit (.int .i64 j))]) (λk j=>[.mat 34 3 (.int .i64) ((qf3 m pix).take k) .none .none,.vec 3 (.int .i64) ((qm3 (nL m k) pix).take j)]) (λ_ j=>j<=pix.length) (λ_ j=>pix.length-j))
 | _=>none
abbrev x4d:qc9:=qg4 true none [qi8,qd4] [qi8] (λx=>wm3 x.1 x.2.1) (λx=>(qf3 x.1 x.2.1,()))
theorem w3b:Meets Tryz.prog 193 x4d:=by
 refine meets (x1k [34] (SpecsOk.nil _)) Tryz.func193 rfl rfl (λx=>x0b x.1 x.2.1) (λ_=>by kernel_rfl) (by decide) ?_
 rintro⟨m,pix,⟨⟩⟩ h
 revert m pix
 intro(m:List (List Int)) (pix:List Int) (h:wm3 m pix)
 refine @qd9 _ (let Q0:=qf3 m pix; ∃(v0:Unit),∃(v1:Nat),Nat.le v1 m.length/\((True/\(0:Int)=(↑v1:Int)/\True)/\List.take v1 Q0=[]/\True)/\∀(v2:Nat),Nat.le v2 m.length->(decide ((↑v2:Int)<(↑m.length:Int))=true->((0:Int)<=(↑v2:Int)/\(↑v2:Int)<(↑m.length:Int))/\∃(v5:Nat),∃(v6:Nat),Nat.le v6 pix.length/\((True/\True/\(0:Int)=(↑v6:Int)/\True)/\(List.take v2 Q0=List.take v5 Q0/\True/\True)/\[]=List.take v6 (qm3 (nL m v5) pix)/\True)/\∀(v7:Nat),Nat.le v7 pix.length->(decide ((↑v7:Int)<(↑pix.length:Int))=true->((0:Int)<=(↑v7:Int)/\(↑v7:Int)<(↑pix.length:Int))/\((0:Int)<=nI pix v7/\nI pix v7<(↑(nL m v2).length:Int))/\((0:Nat)<List.length [nI (nL m v2) (nI pix v7).toNat]/\Nat.le ((List.take v7 (qm3 (nL m v5) pix)).length+List.length [nI (nL m v2) (nI pix v7).toNat]) (1000000:Nat))/\fits .i64 ((↑v7:Int)+(1:Int))/\∃(v10:Nat),Nat.le v10 pix.length/\pix.length-v10<pix.length-v7/\(True/\True/\(↑v7:Int)+(1:Int)=(↑v10:Int)/\True)/\(List.take v5 Q0=List.take v5 Q0/\True/\True)/\List.take v7 (qm3 (nL m v5) pix)++[nI (nL m v2) (nI pix v7).toNat]=List.take v10 (qm3 (nL m v5) pix)/\True)/\(decide ((↑v7:Int)<(↑pix.length:Int))=false->((0:Nat)<(0:Nat)+(1:Nat)/\(List.take v5 Q0).length+((0:Nat)+(1:Nat))<=(1000000:Nat))/\fits .i64 ((↑v2:Int)+(1:Int))/\∃(v10:Nat),Nat.le v10 m.length/\m.length-v10<m.length-v2/\(True/\(↑v2:Int)+(1:Int)=(↑v10:Int)/\True)/\(List.take v5 Q0++[List.take v7 (qm3 (nL m v5) pix)]=List.take v10 Q0/\True/\True)/\True))/\(decide ((↑v2:Int)<(↑m.length:Int))=false->q4d (Ty.int .i64) (List.take v2 Q0) none=qf3 m pix)) (by kernel_rfl) ?_
 try simp only[z0,z1,z2,z3,z4,z5,z6,z7,z8,z9,z10,Int.reduceEq,z11,z12,z13,z14,z15,z16,z17,z18,z19,z20,z21,z22,z23,z24,z25,z26,z27,z28,z29,z30,Int.reduceLE,Int.reduceLT,z31,z32,z33,z34,qa1]
 try simp only[qb4,qb5,qd0,z31,z32,z2,z1]
 have hr:=h.rows
 have hc:=h.cols
 have hl:=qm8 m pix
 refine⟨(),0,Nat.zero_le _,⟨rfl,rfl⟩,λk hk=>⟨λhlt=>⟨hlt,k,0,Nat.zero_le _,⟨rfl,rfl,rfl⟩,λj hj=>⟨λhj2=>?_,λhj2=>?_⟩⟩,λhge=>?_⟩⟩
 ·have h1:=qi3 (nL m k) pix
  refine⟨hj2,h.at_ k hlt j hj2,by rw[List.length_take]; omega,qa5 (by omega) (by omega),j+1,by omega,by omega,by omega,?_⟩
  rw[qp7 _ j (by omega),q0h _ _ _ hj2]
 ·obtain rfl:j=pix.length:=by omega
  have h1:=qi3 (nL m k) pix
  have h3:(qm3 (nL m k) pix).take pix.length=qm3 (nL m k) pix:=List.take_of_length_le (by omega)
  rw[h3]
  refine⟨by rw[List.length_take]; omega,qa5 (by omega) (by omega),k+1,by omega,by omega,by omega,?_⟩
  rw[takeL_snoc _ k (by omega),qp9 _ _ _ hlt]
 ·first | (rw[List.take_of_length_le (by omega)]; rfl) | rw[List.take_of_length_le (by omega)]
abbrev x4e:qc9:=q8b (q5l [qi8,qd4]) true (some 34) (some 3) (λx=>wm3 x.1 x.2.1) (λx=>.dat (.list (.int .i64)) (qf3 x.1 x.2.1))
theorem w3c:Meets Tryz.prog 193 x4e:=by
 refine wj9 (x1k [34] (SpecsOk.nil _)) Tryz.func193 rfl rfl (q0e [qi8,qd4]) (λx=>x0b x.1 x.2.1) (λ_=>by kernel_rfl) (by decide) ?_
 rintro⟨m,pix,⟨⟩⟩ h
 revert m pix
 intro(m:List (List Int)) (pix:List Int) (h:wm3 m pix)
 refine @qd9 _ (let Q0:=qf3 m pix; ∃(v0:Unit),∃(v1:Nat),Nat.le v1 m.length/\((True/\(0:Int)=(↑v1:Int)/\True)/\List.take v1 Q0=[]/\True)/\∀(v2:Nat),Nat.le v2 m.length->(decide ((↑v2:Int)<(↑m.length:Int))=true->((0:Int)<=(↑v2:Int)/\(↑v2:Int)<(↑m.length:Int))/\∃(v5:Nat),∃(v6:Nat),Nat.le v6 pix.length/\((True/\True/\(0:Int)=(↑v6:Int)/\True)/\(List.take v2 Q0=List.take v5 Q0/\True/\True)/\[]=List.take v6 (qm3 (nL m v5) pix)/\True)/\∀(v7:Nat),Nat.le v7 pix.length->(decide ((↑v7:Int)<(↑pix.length:Int))=true->((0:Int)<=(↑v7:Int)/\(↑v7:Int)<(↑pix.length:Int))/\((0:Int)<=nI pix v7/\nI pix v7<(↑(nL m v2).length:Int))/\((0:Nat)<List.length [nI (nL m v2) (nI pix v7).toNat]/\Nat.le ((List.take v7 (qm3 (nL m v5) pix)).length+List.length [nI (nL m v2) (nI pix v7).toNat]) (1000000:Nat))/\fits .i64 ((↑v7:Int)+(1:Int))/\∃(v10:Nat),Nat.le v10 pix.length/\pix.length-v10<pix.length-v7/\(True/\True/\(↑v7:Int)+(1:Int)=(↑v10:Int)/\True)/\(List.take v5 Q0=List.take v5 Q0/\True/\True)/\List.take v7 (qm3 (nL m v5) pix)++[nI (nL m v2) (nI pix v7).toNat]=List.take v10 (qm3 (nL m v5) pix)/\True)/\(decide ((↑v7:Int)<(↑pix.length:Int))=false->((0:Nat)<(0:Nat)+(1:Nat)/\(List.take v5 Q0).length+((0:Nat)+(1:Nat))<=(1000000:Nat))/\fits .i64 ((↑v2:Int)+(1:Int))/\∃(v10:Nat),Nat.le v10 m.length/\m.length-v10<m.length-v2/\(True/\(↑v2:Int)+(1:Int)=(↑v10:Int)/\True)/\(List.take v5 Q0++[List.take v7 (qm3 (nL m v5) pix)]=List.take v10 Q0/\True/\True)/\True))/\(decide ((↑v2:Int)<(↑m.length:Int))=false->List.take v2 Q0=qf3 m pix)) (by kernel_rfl) ?_
 try simp only[z0,z1,z2,z3,z4,z5,z6,z7,z8,z9,z10,Int.reduceEq,z11,z12,z13,z14,z15,z16,z17,z18,z19,z20,z21,z22,z23,z24,z25,z26,z27,z28,z29,z30,Int.reduceLE,Int.reduceLT,z31,z32,z33,z34,qa1]
 try simp only[qb4,qb5,qd0,z31,z32,z2,z1]
 have hr:=h.rows
 have hc:=h.cols
 have hl:=qm8 m pix
 refine⟨(),0,Nat.zero_le _,⟨rfl,rfl⟩,λk hk=>⟨λhlt=>⟨hlt,k,0,Nat.zero_le _,⟨rfl,rfl,rfl⟩,λj hj=>⟨λhj2=>?_,λhj2=>?_⟩⟩,λhge=>?_⟩⟩
 ·have h1:=qi3 (nL m k) pix
  refine⟨hj2,h.at_ k hlt j hj2,by rw[List.length_take]; omega,qa5 (by omega) (by omega),j+1,by omega,by omega,by omega,?_⟩
  rw[qp7 _ j (by omega),q0h _ _ _ hj2]
 ·obtain rfl:j=pix.length:=by omega
  have h1:=qi3 (nL m k) pix
  have h3:(qm3 (nL m k) pix).take pix.length=qm3 (nL m k) pix:=List.take_of_length_le (by omega)
  rw[h3]
  refine⟨by rw[List.length_take]; omega,qa5 (by omega) (by omega),k+1,by omega,by omega,by omega,?_⟩
  rw[takeL_snoc _ k (by omega),qp9 _ _ _ hlt]
 ·first | (rw[List.take_of_length_le (by omega)]; rfl) | rw[List.take_of_length_le (by omega)]
def lastTo (left:List (List Int)) (j:Nat):Nat->Int
 | 0=>-1
 | i+1=>if nI (nL left i) j≠0 then(i:Int) else lastTo left j i
def qu2 (left:List (List Int)) (j:Nat) (at_:Int):List Int:=if nI (nL left at_.toNat) j<0 then qm0 (nL left at_.toNat) (-1) else nL left at_.toNat
def qg8 (left:List (List Int)) (p:List Int) (j:Nat) (at_:Int):Nat->List (List Int)
 | 0=>[]
 | i+1=>if(i:Int)≠at_ then qg8 left p j at_ i++[qe7 (nL left i) p j] else qg8 left p j at_ i
structure RS where
 left:List (List Int)
 done_:List (List Int)
 piv:List Int
def q5n (s:RS) (j:Nat):RS:=
 if lastTo s.left j s.left.length<0 then s
 else⟨qg8 s.left (qu2 s.left j (lastTo s.left j s.left.length)) j (lastTo s.left j s.left.length) s.left.length,(s.done_.map λr=>qe7 r (qu2 s.left j (lastTo s.left j s.left.length)) j)++[qu2 s.left j (lastTo s.left j s.left.length)],s.piv++[(j:Int)]⟩
def qh2 (rows:List (List Int)):Nat->RS
 | 0=>⟨rows.map qk7,[],[]⟩
 | j+1=>q5n (qh2 rows j) j
def rdW (rows:List (List Int)):Nat:=(nL rows 0).length
def qa6 (rows:List (List Int)):List (List Int) × List Int:=((qh2 rows (rdW rows)).done_,(qh2 rows (rdW rows)).piv)
structure xq2 (s:RS) (j:Nat):Prop where
 sca:nI (nL s.left (lastTo s.left j s.left.length).toNat) j<0->xe5 (nL s.left (lastTo s.left j s.left.length).toNat) (-1)
 wo:∀i,i<s.left.length->(i:Int)≠lastTo s.left j s.left.length->xe6 (nL s.left i) (qu2 s.left j (lastTo s.left j s.left.length)) j
 woD:∀i,i<s.done_.length->xe6 (nL s.done_ i) (qu2 s.left j (lastTo s.left j s.left.length)) j
structure w34 (rows:List (List Int)):Prop where
 n:rows.length<=1000
 w:rdW rows<=1000
 each:∀i,i<rows.length->(nL rows i).length=rdW rows
 big:∀i,i<rows.length->q7d (nL rows i)
 step:∀j,j<rdW rows->0<=lastTo (qh2 rows j).left j (qh2 rows j).left.length->xq2 (qh2 rows j) j
theorem qs4 (l:List Int):(qk7 l).length=l.length:=by simp[qk7]
theorem qw3 (r p:List Int) (j:Nat):(qe7 r p j).length=r.length:=by unfold qe7; rw[qs4]; simp[q34]
theorem qu3 (l:List Int) (n:Int):(qm0 l n).length=l.length:=by simp[qm0]
theorem qy2 (left:List (List Int)) (j:Nat):∀k:Nat,lastTo left j k<k/\-1<=lastTo left j k
 | 0=>⟨by show(-1:Int)<0; omega,by show(-1:Int)<=-1; omega⟩
 | k+1=>by
  have:=qy2 left j k
  rw[lastTo]
  split <;> omega
theorem q2d (left:List (List Int)) (p:List Int) (j:Nat) (a:Int):∀k,∀x∈qg8 left p j a k,∃i,i<k/\(i:Int)≠a/\x=qe7 (nL left i) p j
 | 0,x,hx=>by cases hx
 | k+1,x,hx=>by
  rw[qg8] at hx
  split at hx
  ·rename_i hne
   rcases List.mem_append.1 hx with hx | hx
   ·obtain⟨i,h1,h2,h3⟩:=q2d left p j a k x hx
    exact⟨i,by omega,h2,h3⟩
   ·exact⟨k,by omega,hne,by simpa using hx⟩
  ·obtain⟨i,h1,h2,h3⟩:=q2d left p j a k x hx
   exact⟨i,by omega,h2,h3⟩
theorem q2e (left:List (List Int)) (p:List Int) (j:Nat) (a:Int):∀k,(qg8 left p j a k).length<=k
 | 0=>Nat.le_refl _
 | k+1=>by
  have:=q2e left p j a k
  rw[qg8]
  split
  ·simp; omega
  ·omega
structure RdSh (n W j:Nat) (s:RS):Prop where
 ln:s.left.length<=n
 le:∀x∈s.left,x.length=W
 dn:s.done_.length<=j
 de:∀x∈s.done_,x.length=W
 pn:s.piv.length<=j
theorem qw4 (m:List (List Int)) (i:Nat) (h:i<m.length):nL m i∈m:=by rw[qm2 m i h]; exact List.getElem_mem h
theorem w00 {n W j:Nat} {s:RS} (h:RdSh n W j s) (a:Int) (ha:0<=a) (hb:a<s.left.length):(qu2 s.left j a).length=W:=by
 unfold qu2
 have:=h.le _ (qw4 s.left a.toNat (by omega))
 split
 ·rw[qu3]; exact this
 ·exact this
theorem RdSh.step {n W j:Nat} {s:RS} (h:RdSh n W j s):RdSh n W (j+1) (q5n s j):=by
 unfold q5n
 have hl:=qy2 s.left j s.left.length
 generalize lastTo s.left j s.left.length=a at *
 split
 ·exact⟨h.ln,h.le,by have:=h.dn; omega,h.de,by have:=h.pn; omega⟩
 ·have hp:=w00 h a (by omega) hl.1
  refine⟨Nat.le_trans (q2e _ _ _ _ _) h.ln,λx hx=>?_,by have:=h.dn; simp; omega,λx hx=>?_,by have:=h.pn; simp; omega⟩
  ·obtain⟨i,h1,_,rfl⟩:=q2d _ _ _ _ _ x hx
   rw[qw3]; exact h.le _ (qw4 _ _ h1)
  ·rcases List.mem_append.1 hx with hx | hx
   ·obtain⟨y,hy,rfl⟩:=List.mem_map.1 hx
    rw[qw3]; exact h.de y hy
   ·rw[List.mem_singleton.1 hx]; exact hp
theorem w7c {rows:List (List Int)} (h:w34 rows):∀j,RdSh rows.length (rdW rows) j (qh2 rows j)
 | 0=>by
  refine⟨by simp[qh2],λx hx=>?_,Nat.le_refl _,(λx hx=>by cases hx),Nat.le_refl _⟩
  obtain⟨y,hy,rfl⟩:=List.mem_map.1 hx
  obtain⟨i,hi,rfl⟩:=List.getElem_of_mem hy
  rw[qs4,<- qm2 rows i hi]; exact h.each i hi
 | j+1=>(w7c h j).step
theorem q7m {rows:List (List Int)} {j:Nat} {s:RS} (h:qh2 rows j=s) (h0:s.left=[]):∀k,qh2 rows (j+k)=s
 | 0=>h
 | k+1=>by
  rw[<- Nat.add_assoc,qh2,q7m h h0 k,q5n,if_pos]
  rw[h0]; exact(by decide:(-1:Int)<0)
abbrev sRd:qc9:=qg4 false none [qi8] [qi8,qd4] (λx=>w34 x.1) (λx=>((qa6 x.1).1,(qa6 x.1).2,()))
structure xt8 (rows:List (List Int)) (j:Nat) (s:RS):Prop where
 le:j<=rdW rows
 eq:qh2 rows j=s
structure xq3 (d:List (List Int)) (p:List Int) (j i:Nat) (r:List (List Int)):Prop where
 le:i<=d.length
 eq:r=ovr (.list (.int .i64)) (λq=>qe7 (nL d q) p j) d i
def x8j (rows:List (List Int)):Nat->Option Inv
 | 0=>some (Inv.of [4,21] 1 (λk:Nat=>[(4,.own 0),(21,.lit (.int .i64 k))]) (λk=>[.vec 34 (.list (.int .i64)) ((rows.map qk7).take k)]) (λk=>k<=rows.length) (λk=>rows.length-k))
 | 1=>some (Inv.of [4,5,8,9] 3 (λs:Nat × RS=>[(4,.dat (.list (.int .i64)) s.2.left),(5,.own 1),(8,.own 2),(9,.lit (.int .i64 s.1))]) (λs=>[.dead,.vec 34 (.list (.int .i64)) s.2.done_,.vec 3 (.int .i64) s.2.piv]) (λs=>xt8 rows s.1 s.2) (λs=>rdW rows-s.1))
 | 2=>some (Eng.Inv.mk (Nat × RS) Nat [5,8,10,46] 3 (λq k=>[(5,.own 1),(8,.own 2),(10,.lit (.int .i64 (lastTo q.2.left q.1 k))),(46,.lit (.int .i64 k))]) (λq k=>[.dead,.vec 34 (.list (.int .i64)) q.2.done_,.vec 3 (.int .i64) q.2.piv]) (λq k=>k<=q.2.left.length) (λq k=>q.2.left.length-k))
 | 3=>some (Eng.Inv.mk (Nat × RS × List Int × Int) Nat [5,8,14,73] 4 (λq k=>[(5,.own 1),(8,.own 2),(14,.own 3),(73,.lit (.int .i64 k))]) (λq k=>[.dead,.vec 34 (.list (.int .i64)) q.2.1.done_,.vec 3 (.int .i64) q.2.1.piv,.vec 34 (.list (.int .i64)) (qg8 q.2.1.left q.2.2.1 q.1 q.2.2.2 k)]) (λq k=>k<=q.2.1.left.length) (λq k=>q.2.1.left.length-k))
 | 4=>some (Eng.Inv.mk (Nat × RS × List Int × Int) (Nat × List (List Int)) [5,8,14,89,91] 4 (λq s=>[(5,.own 1),(8,.own 2),(14,.own 3),(89,.own 1),(91,.lit (.int .i64 s.1))]) (λq s=>[.dead,.vec 34 (.list (.int .i64)) s.2,.vec 3 (.int .i64) q.2.1.piv,.vec 34 (.list (.int .i64)) (qg8 q.2.1.left q.2.2.1 q.1 q.2.2.2 q.2.1.left.length)]) (λq s=>xq3 q.2.1.done_ q.2.2.1 q.1 s.1 s.2) (λq s=>q.2.1.done_.length-s.1))
 | _=>none
theorem wd5:Meets Tryz.prog 92 sRd:=by
 refine meets (snd (SpecsOk.cons q7l (SpecsOk.cons w7a (SpecsOk.cons xe7 (SpecsOk.nil _))))) Tryz.func92 rfl rfl (λx=>x8j x.1) (λ_=>by kernel_rfl) (by decide) ?_
 rintro⟨rows,⟨⟩⟩ h
 revert rows
 intro(rows:List (List Int)) (h:w34 rows)
 refine @qd9 _ (let Q0:=List.map qk7 rows; let Q1:=qa6 rows; let Q2:=List Int; ∃(v0:Unit),∃(v1:Nat),Nat.le v1 rows.length/\((True/\(0:Int)=(↑v1:Int)/\True)/\List.take v1 Q0=[]/\True)/\∀(v2:Nat),Nat.le v2 rows.length->(decide ((↑v2:Int)<(↑rows.length:Int))=true->((0:Int)<=(↑v2:Int)/\(↑v2:Int)<(↑rows.length:Int))/\q7d (nL rows v2)/\((0:Nat)<(0:Nat)+(1:Nat)/\Nat.le ((List.take v2 Q0).length+((0:Nat)+(1:Nat))) (1000000:Nat))/\fits .i64 ((↑v2:Int)+(1:Int))/\∃(v5:Nat),Nat.le v5 rows.length/\rows.length-v5<rows.length-v2/\(True/\(↑v2:Int)+(1:Int)=(↑v5:Int)/\True)/\List.take v2 Q0++[qk7 (nL rows v2)]=List.take v5 Q0/\True)/\(decide ((↑v2:Int)<(↑rows.length:Int))=false->∃(v5:Unit),∃(v6:Nat × RS),xt8 rows v6.1 v6.2/\((List.take v2 Q0=RS.left v6.2/\True/\True/\(0:Int)=(↑v6.1:Int)/\True)/\True/\RS.done_ v6.2=[]/\RS.piv v6.2=[]/\True)/\∀(v7:Nat × RS),xt8 rows v7.1 v7.2->(decide ((0:Int)<(↑(RS.left v7.2).length:Int))=true->((0:Int)<=(0:Int)/\(0:Int)<(↑(RS.left v7.2).length:Int))/\(decide ((↑v7.1:Int)<(↑(nL (RS.left v7.2) (0:Nat)).length:Int))=true->∃(v11:Nat × RS),∃(v12:Nat),Nat.le v12 (RS.left v11.2).length/\((True/\True/\(-1:Int)=lastTo (RS.left v11.2) v11.1 v12/\(0:Int)=(↑v12:Int)/\True)/\True/\RS.done_ v7.2=RS.done_ v11.2/\RS.piv v7.2=RS.piv v11.2/\True)/\∀(v13:Nat),Nat.le v13 (RS.left v11.2).length->(decide ((↑v13:Int)<(↑(RS.left v7.2).length:Int))=true->((0:Int)<=(↑v13:Int)/\(↑v13:Int)<(↑(RS.left v7.2).length:Int))/\((0:Int)<=(↑v7.1:Int)/\(↑v7.1:Int)<(↑(nL (RS.left v7.2) v13).length:Int))/\((nI (nL (RS.left v7.2) v13) (↑v7.1:Int).toNat != (0:Int))=true->fits .i64 ((↑v13:Int)+(1:Int))/\∃(v17:Nat),Nat.le v17 (RS.left v11.2).length/\(RS.left v11.2).length-v17<(RS.left v11.2).length-v13/\(True/\True/\(↑v13:Int)=lastTo (RS.left v11.2) v11.1 v17/\(↑v13:Int)+(1:Int)=(↑v17:Int)/\True)/\True/\RS.done_ v11.2=RS.done_ v11.2/\RS.piv v11.2=RS.piv v11.2/\True)/\((nI (nL (RS.left v7.2) v13) (↑v7.1:Int).toNat != (0:Int))=false->fits .i64 ((↑v13:Int)+(1:Int))/\∃(v17:Nat),Nat.le v17 (RS.left v11.2).length/\(RS.left v11.2).length-v17<(RS.left v11.2).length-v13/\(True/\True/\lastTo (RS.left v11.2) v11.1 v13=lastTo (RS.left v11.2) v11.1 v17/\(↑v13:Int)+(1:Int)=(↑v17:Int)/\True)/\True/\RS.done_ v11.2=RS.done_ v11.2/\RS.piv v11.2=RS.piv v11.2/\True))/\(decide ((↑v13:Int)<(↑(RS.left v7.2).length:Int))=false->(decide (lastTo (RS.left v11.2) v11.1 v13<(0:Int))=true->fits .i64 ((↑v7.1:Int)+(1:Int))/\∃(v17:Nat × RS),xt8 rows v17.1 v17.2/\rdW rows-v17.1<rdW rows-v7.1/\(RS.left v7.2=RS.left v17.2/\True/\True/\(↑v7.1:Int)+(1:Int)=(↑v17.1:Int)/\True)/\True/\RS.done_ v11.2=RS.done_ v17.2/\RS.piv v11.2=RS.piv v17.2/\True)/\(decide (lastTo (RS.left v11.2) v11.1 v13<(0:Int))=false->((0:Int)<=lastTo (RS.left v11.2) v11.1 v13/\lastTo (RS.left v11.2) v11.1 v13<(↑(RS.left v7.2).length:Int))/\((0:Int)<=(↑v7.1:Int)/\(↑v7.1:Int)<(↑(nL (RS.left v7.2) (lastTo (RS.left v11.2) v11.1 v13).toNat).length:Int))/\(decide (nI (nL (RS.left v7.2) (lastTo (RS.left v11.2) v11.1 v13).toNat) (↑v7.1:Int).toNat<(0:Int))=true->xe5 (nL (RS.left v7.2) (lastTo (RS.left v11.2) v11.1 v13).toNat) (-1:Int)/\∃(v18:Nat × RS × List Int × Int),∃(v19:Nat),Nat.le v19 (RS.left v18.2.1).length/\((True/\True/\True/\(0:Int)=(↑v19:Int)/\True)/\True/\RS.done_ v11.2=RS.done_ v18.2.1/\RS.piv v11.2=RS.piv v18.2.1/\qg8 (RS.left v18.2.1) v18.2.2.1 v18.1 v18.2.2.2 v19=[]/\True)/\∀(v20:Nat),Nat.le v20 (RS.left v18.2.1).length->(decide ((↑v20:Int)<(↑(RS.left v7.2).length:Int))=true->((0:Int)<=(↑v20:Int)/\(↑v20:Int)<(↑(RS.left v7.2).length:Int))/\(((↑v20:Int) != lastTo (RS.left v11.2) v11.1 v13)=true->((0:Ty.den qf6)<=(↑v7.1:Int)/\xe6 (nL (RS.left v7.2) v20) (qm0 (nL (RS.left v7.2) (lastTo (RS.left v11.2) v11.1 v13).toNat) (-1:Int)) (↑v7.1:Int).toNat)/\((0:Nat)<List.length [qe7 (nL (RS.left v7.2) v20) (qm0 (nL (RS.left v7.2) (lastTo (RS.left v11.2) v11.1 v13).toNat) (-1:Int)) (↑v7.1:Int).toNat]/\Nat.le ((qg8 (RS.left v18.2.1) v18.2.2.1 v18.1 v18.2.2.2 v20).length+List.length [qe7 (nL (RS.left v7.2) v20) (qm0 (nL (RS.left v7.2) (lastTo (RS.left v11.2) v11.1 v13).toNat) (-1:Int)) (↑v7.1:Int).toNat]) (1000000:Nat))/\fits .i64 ((↑v20:Int)+(1:Int))/\∃(v24:Nat),Nat.le v24 (RS.left v18.2.1).length/\(RS.left v18.2.1).length-v24<(RS.left v18.2.1).length-v20/\(True/\True/\True/\(↑v20:Int)+(1:Int)=(↑v24:Int)/\True)/\True/\RS.done_ v18.2.1=RS.done_ v18.2.1/\RS.piv v18.2.1=RS.piv v18.2.1/\qg8 (RS.left v18.2.1) v18.2.2.1 v18.1 v18.2.2.2 v20++[qe7 (nL (RS.left v7.2) v20) (qm0 (nL (RS.left v7.2) (lastTo (RS.left v11.2) v11.1 v13).toNat) (-1:Int)) (↑v7.1:Int).toNat]=qg8 (RS.left v18.2.1) v18.2.2.1 v18.1 v18.2.2.2 v24/\True)/\(((↑v20:Int) != lastTo (RS.left v11.2) v11.1 v13)=false->fits .i64 ((↑v20:Int)+(1:Int))/\∃(v24:Nat),Nat.le v24 (RS.left v18.2.1).length/\(RS.left v18.2.1).length-v24<(RS.left v18.2.1).length-v20/\(True/\True/\True/\(↑v20:Int)+(1:Int)=(↑v24:Int)/\True)/\True/\RS.done_ v18.2.1=RS.done_ v18.2.1/\RS.piv v18.2.1=RS.piv v18.2.1/\qg8 (RS.left v18.2.1) v18.2.2.1 v18.1 v18.2.2.2 v20=qg8 (RS.left v18.2.1) v18.2.2.1 v18.1 v18.2.2.2 v24/\True))/\(decide ((↑v20:Int)<(↑(RS.left v7.2).length:Int))=false->∃(v23:Nat × RS × List Int × Int),∃(v24:Nat × List Q2),xq3 (RS.done_ v23.2.1) v23.2.2.1 v23.1 v24.1 v24.2/\((True/\True/\True/\True/\(0:Int)=(↑v24.1:Int)/\True)/\True/\RS.done_ v18.2.1=v24.2/\RS.piv v18.2.1=RS.piv v23.2.1/\qg8 (RS.left v18.2.1) v18.2.2.1 v18.1 v18.2.2.2 v20=qg8 (RS.left v23.2.1) v23.2.2.1 v23.1 v23.2.2.2 (RS.left v23.2.1).length/\True)/\∀(v25:Nat × List Q2),xq3 (RS.done_ v23.2.1) v23.2.2.1 v23.1 v25.1 v25.2->(decide ((↑v25.1:Int)<(↑(RS.done_ v18.2.1).length:Int))=true->((0:Int)<=(↑v25.1:Int)/\(↑v25.1:Int)<(↑v25.2.length:Int))/\(↑v25.1:Int).toNat<v25.2.length/\((0:Ty.den qf6)<=(↑v7.1:Int)/\xe6 (nL v25.2 (↑v25.1:Int).toNat) (qm0 (nL (RS.left v7.2) (lastTo (RS.left v11.2) v11.1 v13).toNat) (-1:Int)) (↑v7.1:Int).toNat)/\((0:Int)<=(↑v25.1:Int)/\(↑v25.1:Int)<(↑v25.2.length:Int))/\(↑v25.1:Int).toNat<v25.2.length/\fits .i64 ((↑v25.1:Int)+(1:Int))/\∃(v28:Nat × List Q2),xq3 (RS.done_ v23.2.1) v23.2.2.1 v23.1 v28.1 v28.2/\(RS.done_ v23.2.1).length-v28.1<(RS.done_ v23.2.1).length-v25.1/\(True/\True/\True/\True/\(↑v25.1:Int)+(1:Int)=(↑v28.1:Int)/\True)/\True/\List.set v25.2 (↑v25.1:Int).toNat (qe7 (nL v25.2 (↑v25.1:Int).toNat) (qm0 (nL (RS.left v7.2) (lastTo (RS.left v11.2) v11.1 v13).toNat) (-1:Int)) (↑v7.1:Int).toNat)=v28.2/\RS.piv v23.2.1=RS.piv v23.2.1/\qg8 (RS.left v23.2.1) v23.2.2.1 v23.1 v23.2.2.2 (RS.left v23.2.1).length=qg8 (RS.left v23.2.1) v23.2.2.1 v23.1 v23.2.2.2 (RS.left v23.2.1).length/\True)/\(decide ((↑v25.1:Int)<(↑(RS.done_ v18.2.1).length:Int))=false->((0:Nat)<List.length [qm0 (nL (RS.left v7.2) (lastTo (RS.left v11.2) v11.1 v13).toNat) (-1:Int)]/\Nat.le (v25.2.length+List.length [qm0 (nL (RS.left v7.2) (lastTo (RS.left v11.2) v11.1 v13).toNat) (-1:Int)]) (1000000:Nat))/\((0:Nat)<List.length [(↑v7.1:Int)]/\Nat.le ((RS.piv v23.2.1).length+List.length [(↑v7.1:Int)]) (1000000:Nat))/\fits .i64 ((↑v7.1:Int)+(1:Int))/\∃(v28:Nat × RS),xt8 rows v28.1 v28.2/\rdW rows-v28.1<rdW rows-v7.1/\(qg8 (RS.left v23.2.1) v23.2.2.1 v23.1 v23.2.2.2 (RS.left v23.2.1).length=RS.left v28.2/\True/\True/\(↑v7.1:Int)+(1:Int)=(↑v28.1:Int)/\True)/\True/\v25.2++[qm0 (nL (RS.left v7.2) (lastTo (RS.left v11.2) v11.1 v13).toNat) (-1:Int)]=RS.done_ v28.2/\RS.piv v23.2.1++[(↑v7.1:Int)]=RS.piv v28.2/\True)))/\(decide (nI (nL (RS.left v7.2) (lastTo (RS.left v11.2) v11.1 v13).toNat) (↑v7.1:Int).toNat<(0:Int))=false->∃(v18:Nat × RS × List Int × Int),∃(v19:Nat),Nat.le v19 (RS.left v18.2.1).length/\((True/\True/\True/\(0:Int)=(↑v19:Int)/\True)/\True/\RS.done_ v11.2=RS.done_ v18.2.1/\RS.piv v11.2=RS.piv v18.2.1/\qg8 (RS.left v18.2.1) v18.2.2.1 v18.1 v18.2.2.2 v19=[]/\True)/\∀(v20:Nat),Nat.le v20 (RS.left v18.2.1).length->(decide ((↑v20:Int)<(↑(RS.left v7.2).length:Int))=true->((0:Int)<=(↑v20:Int)/\(↑v20:Int)<(↑(RS.left v7.2).length:Int))/\(((↑v20:Int) != lastTo (RS.left v11.2) v11.1 v13)=true->((0:Ty.den qf6)<=(↑v7.1:Int)/\xe6 (nL (RS.left v7.2) v20) (nL (RS.left v7.2) (lastTo (RS.left v11.2) v11.1 v13).toNat) (↑v7.1:Int).toNat)/\((0:Nat)<List.length [qe7 (nL (RS.left v7.2) v20) (nL (RS.left v7.2) (lastTo (RS.left v11.2) v11.1 v13).toNat) (↑v7.1:Int).toNat]/\Nat.le ((qg8 (RS.left v18.2.1) v18.2.2.1 v18.1 v18.2.2.2 v20).length+List.length [qe7 (nL (RS.left v7.2) v20) (nL (RS.left v7.2) (lastTo (RS.left v11.2) v11.1 v13).toNat) (↑v7.1:Int).toNat]) (1000000:Nat))/\fits .i64 ((↑v20:Int)+(1:Int))/\∃(v24:Nat),Nat.le v24 (RS.left v18.2.1).length/\(RS.left v18.2.1).length-v24<(RS.left v18.2.1).length-v20/\(True/\True/\True/\(↑v20:Int)+(1:Int)=(↑v24:Int)/\True)/\True/\RS.done_ v18.2.1=RS.done_ v18.2.1/\RS.piv v18.2.1=RS.piv v18.2.1/\qg8 (RS.left v18.2.1) v18.2.2.1 v18.1 v18.2.2.2 v20++[qe7 (nL (RS.left v7.2) v20) (nL (RS.left v7.2) (lastTo (RS.left v11.2) v11.1 v13).toNat) (↑v7.1:Int).toNat]=qg8 (RS.left v18.2.1) v18.2.2.1 v18.1 v18.2.2.2 v24/\True)/\(((↑v20:Int) != lastTo (RS.left v11.2) v11.1 v13)=false->fits .i64 ((↑v20:Int)+(1:Int))/\∃(v24:Nat),Nat.le v24 (RS.left v18.2.1).length/\(RS.left v18.2.1).length-v24<(RS.left v18.2.1).length-v20/\(True/\True/\True/\(↑v20:Int)+(1:Int)=(↑v24:Int)/\True)/\True/\RS.done_ v18.2.1=RS.done_ v18.2.1/\RS.piv v18.2.1=RS.piv v18.2.1/\qg8 (RS.left v18.2.1) v18.2.2.1 v18.1 v18.2.2.2 v20=qg8 (RS.left v18.2.1) v18.2.2.1 v18.1 v18.2.2.2 v24/\True))/\(decide ((↑v20:Int)<(↑(RS.left v7.2).length:Int))=false->∃(v23:Nat × RS × List Int × Int),∃(v24:Nat × List Q2),xq3 (RS.done_ v23.2.1) v23.2.2.1 v23.1 v24.1 v24.2/\((True/\True/\True/\True/\(0:Int)=(↑v24.1:Int)/\True)/\True/\RS.done_ v18.2.1=v24.2/\RS.piv v18.2.1=RS.piv v23.2.1/\qg8 (RS.left v18.2.1) v18.2.2.1 v18.1 v18.2.2.2 v20=qg8 (RS.left v23.2.1) v23.2.2.1 v23.1 v23.2.2.2 (RS.left v23.2.1).length/\True)/\∀(v25:Nat × List Q2),xq3 (RS.done_ v23.2.1) v23.2.2.1 v23.1 v25.1 v25.2->(decide ((↑v25.1:Int)<(↑(RS.done_ v18.2.1).length:Int))=true->((0:Int)<=(↑v25.1:Int)/\(↑v25.1:Int)<(↑v25.2.length:Int))/\(↑v25.1:Int).toNat<v25.2.length/\((0:Ty.den qf6)<=(↑v7.1:Int)/\xe6 (nL v25.2 (↑v25.1:Int).toNat) (nL (RS.left v7.2) (lastTo (RS.left v11.2) v11.1 v13).toNat) (↑v7.1:Int).toNat)/\((0:Int)<=(↑v25.1:Int)/\(↑v25.1:Int)<(↑v25.2.length:Int))/\(↑v25.1:Int).toNat<v25.2.length/\fits .i64 ((↑v25.1:Int)+(1:Int))/\∃(v28:Nat × List Q2),xq3 (RS.done_ v23.2.1) v23.2.2.1 v23.1 v28.1 v28.2/\(RS.done_ v23.2.1).length-v28.1<(RS.done_ v23.2.1).length-v25.1/\(True/\True/\True/\True/\(↑v25.1:Int)+(1:Int)=(↑v28.1:Int)/\True)/\True/\List.set v25.2 (↑v25.1:Int).toNat (qe7 (nL v25.2 (↑v25.1:Int).toNat) (nL (RS.left v7.2) (lastTo (RS.left v11.2) v11.1 v13).toNat) (↑v7.1:Int).toNat)=v28.2/\RS.piv v23.2.1=RS.piv v23.2.1/\qg8 (RS.left v23.2.1) v23.2.2.1 v23.1 v23.2.2.2 (RS.left v23.2.1).length=qg8 (RS.left v23.2.1) v23.2.2.1 v23.1 v23.2.2.2 (RS.left v23.2.1).length/\True)/\(decide ((↑v25.1:Int)<(↑(RS.done_ v18.2.1).length:Int))=false->((0:Nat)<List.length [nL (RS.left v7.2) (lastTo (RS.left v11.2) v11.1 v13).toNat]/\Nat.le (v25.2.length+List.length [nL (RS.left v7.2) (lastTo (RS.left v11.2) v11.1 v13).toNat]) (1000000:Nat))/\((0:Nat)<List.length [(↑v7.1:Int)]/\Nat.le ((RS.piv v23.2.1).length+List.length [(↑v7.1:Int)]) (1000000:Nat))/\fits .i64 ((↑v7.1:Int)+(1:Int))/\∃(v28:Nat × RS),xt8 rows v28.1 v28.2/\rdW rows-v28.1<rdW rows-v7.1/\(qg8 (RS.left v23.2.1) v23.2.2.1 v23.1 v23.2.2.2 (RS.left v23.2.1).length=RS.left v28.2/\True/\True/\(↑v7.1:Int)+(1:Int)=(↑v28.1:Int)/\True)/\True/\v25.2++[nL (RS.left v7.2) (lastTo (RS.left v11.2) v11.1 v13).toNat]=RS.done_ v28.2/\RS.piv v23.2.1++[(↑v7.1:Int)]=RS.piv v28.2/\True))))))/\(decide ((↑v7.1:Int)<(↑(nL (RS.left v7.2) (0:Nat)).length:Int))=false->RS.done_ v7.2=Q1.1/\RS.piv v7.2=Q1.2/\True))/\(decide ((0:Int)<(↑(RS.left v7.2).length:Int))=false->RS.done_ v7.2=Q1.1/\RS.piv v7.2=Q1.2/\True))) (by kernel_rfl) ?_
 try simp only[z0,z1,z2,z3,z4,z5,z6,z7,z8,z9,z10,Int.reduceEq,z11,z12,z13,z14,z15,z16,z17,z18,z19,z20,z21,z22,z23,z24,z25,z26,z27,z28,z29,z30,Int.reduceLE,Int.reduceLT,z31,z32,z33,z34,qa1]
 try simp only[qb4,qb5,qd0,z31,z32,z2,z1]
 have hn:=h.n
 have hw:=h.w
 refine⟨(),0,Nat.zero_le _,⟨rfl,rfl⟩,λk hk=>⟨λhlt=>⟨hlt,h.big k hlt,by rw[List.length_take,List.length_map]; omega,qa5 (by omega) (by omega),k+1,by omega,by omega,by omega,?_⟩,λhge=>?_⟩⟩
 ·rw[takeL_snoc _ k (by simpa using hlt),qm2 (rows.map qk7) k (by simpa using hlt),qm2 rows k hlt]
  simp
 refine⟨(),(0,qh2 rows 0),⟨Nat.zero_le _,rfl⟩,⟨⟨by rw[List.take_of_length_le (by rw[List.length_map]; omega)]; rfl,rfl⟩,rfl,rfl⟩,?_⟩
 rintro⟨j,s⟩ ⟨hj,hs⟩
 dsimp only at hj hs ⊢
 have hsh:=w7c h j
 rw[hs] at hsh
 have hln:=hsh.ln
 have hdn:=hsh.dn
 have hpn:=hsh.pn
 have hle:∀i,i<s.left.length->(nL s.left i).length=rdW rows:=λi hi=>hsh.le _ (qw4 _ _ hi)
 have hde:∀i,i<s.done_.length->(nL s.done_ i).length=rdW rows:=λi hi=>hsh.de _ (qw4 _ _ hi)
 refine⟨λhl0=>⟨hl0,λhjl=>?_,λhjl=>?_⟩,λhl0=>?_⟩
 ·have hjW:j<rdW rows:=by rw[hle 0 (by omega)] at hjl; exact hjl
  refine⟨(j,s),0,Nat.zero_le _,⟨⟨rfl,rfl⟩,rfl,rfl⟩,λk hk=>⟨λhlt=>⟨hlt,by rw[hle k hlt]; exact hjW,λhz=>⟨qa5 (by omega) (by omega),k+1,hlt,by dsimp only; omega,by rw[lastTo,if_pos hz],by omega⟩,λhz=>⟨qa5 (by omega) (by omega),k+1,hlt,by dsimp only; omega,by rw[lastTo,if_neg (λq=>q hz)],by omega⟩⟩,λhge=>?_⟩⟩
  dsimp only at hk hge ⊢
  obtain rfl:k=s.left.length:=by omega
  have hlast:=qy2 s.left j s.left.length
  refine⟨λhneg=>⟨qa5 (by omega) (by omega),(j+1,s),⟨by dsimp only; omega,by dsimp only; rw[qh2,hs,q5n,if_pos hneg]⟩,by dsimp only; omega,⟨rfl,by dsimp only; omega⟩,rfl,rfl⟩,λhpos=>?_⟩
  have hst:xq2 s j:=by have:=h.step j hjW; rw[hs] at this; exact this hpos
  have h1:=hst.sca
  have h2:=hst.wo
  have h3:=hst.woD
  clear hst
  have hnx:qh2 rows (j+1)=⟨qg8 s.left (qu2 s.left j (lastTo s.left j s.left.length)) j (lastTo s.left j s.left.length) s.left.length,(s.done_.map λr=>qe7 r (qu2 s.left j (lastTo s.left j s.left.length)) j)++[qu2 s.left j (lastTo s.left j s.left.length)],s.piv++[(j:Int)]⟩:=by rw[qh2,hs,q5n,if_neg (by omega)]
  have hpl:=w00 hsh (lastTo s.left j s.left.length) hpos hlast.1
  have hpe:qu2 s.left j (lastTo s.left j s.left.length)=if nI (nL s.left (lastTo s.left j s.left.length).toNat) j<0 then qm0 (nL s.left (lastTo s.left j s.left.length).toNat) (-1) else nL s.left (lastTo s.left j s.left.length).toNat:=rfl
  generalize lastTo s.left j s.left.length=a at *
  refine⟨⟨hpos,hlast.1⟩,by rw[hle _ (by omega)]; exact hjW,λhng=>⟨h1 hng,?_⟩,λhng=>?_⟩
  ·have hp:qm0 (nL s.left a.toNat) (-1)=qu2 s.left j a:=by rw[hpe,if_pos hng]
   rw[hp]
   refine⟨(j,s,qu2 s.left j a,a),0,Nat.zero_le _,⟨rfl,rfl,rfl,rfl⟩,λk hk=>⟨λhlt=>⟨hlt,λhne=>⟨h2 k hlt hne,by have:=q2e s.left (qu2 s.left j a) j a k; dsimp only; omega,qa5 (by omega) (by omega),k+1,hlt,by dsimp only; omega,by omega,by rw[qg8,if_pos hne]⟩,λhe=>⟨qa5 (by omega) (by omega),k+1,hlt,by dsimp only; omega,by omega,by rw[qg8,if_neg (λq=>q he)]⟩⟩,λhge=>?_⟩⟩
   dsimp only at hk hge ⊢
   obtain rfl:k=s.left.length:=by omega
   refine⟨(j,s,qu2 s.left j a,a),(0,s.done_),⟨Nat.zero_le _,(qr8 (.list (.int .i64)) _ _).symm⟩,⟨rfl,rfl,rfl,rfl⟩,?_⟩
   rintro⟨i,r⟩ ⟨hi1,hi2⟩
   dsimp only at hi1 hi2 ⊢
   have hrl:r.length=s.done_.length:=by rw[hi2]; exact qp2 (.list (.int .i64)) _ _ _
   refine⟨λhlt=>?_,λhge=>?_⟩
   ·have hri:nL r i=nL s.done_ i:=by rw[hi2]; exact(q2j (.list (.int .i64)) _ _ _ _ hlt).trans (if_neg (Nat.lt_irrefl _))
    rw[hri]
    exact⟨by omega,by omega,h3 i hlt,by omega,by omega,qa5 (by omega) (by omega),(i+1,r.set i (qe7 (nL s.done_ i) (qu2 s.left j a) j)),⟨by dsimp only; omega,by dsimp only; rw[hi2]; exact qp3 (.list (.int .i64)) (λq=>qe7 (nL s.done_ q) (qu2 s.left j a) j) _ _⟩,by dsimp only; omega,by dsimp only; omega,rfl⟩
   ·obtain rfl:i=s.done_.length:=by omega
    have hr:r=s.done_.map λr=>qe7 r (qu2 s.left j a) j:=by
     rw[hi2]
     refine(qw6 (.list (.int .i64)) _ _ _ (Nat.le_refl _)).trans ?_
     apply List.ext_getElem (by simp)
     intro q k1 k2
     simp only[List.getElem_map,List.getElem_range]
     rw[qm2 _ q (by simpa using k1)]
    refine⟨by omega,by omega,qa5 (by omega) (by omega),(j+1,qh2 rows (j+1)),⟨by dsimp only; omega,rfl⟩,by dsimp only; omega,⟨by rw[hnx],by dsimp only; omega⟩,by rw[hnx,hr],by rw[hnx]⟩
  ·have hp:nL s.left a.toNat=qu2 s.left j a:=by rw[hpe,if_neg (by omega)]
   rw[hp]
   refine⟨(j,s,qu2 s.left j a,a),0,Nat.zero_le _,⟨rfl,rfl,rfl,rfl⟩,λk hk=>⟨λhlt=>⟨hlt,λhne=>⟨h2 k hlt hne,by have:=q2e s.left (qu2 s.left j a) j a k; dsimp only; omega,qa5 (by omega) (by omega),k+1,hlt,by dsimp only; omega,by omega,by rw[qg8,if_pos hne]⟩,λhe=>⟨qa5 (by omega) (by omega),k+1,hlt,by dsimp only; omega,by omega,by rw[qg8,if_neg (λq=>q he)]⟩⟩,λhge=>?_⟩⟩
   dsimp only at hk hge ⊢
   obtain rfl:k=s.left.length:=by omega
   refine⟨(j,s,qu2 s.left j a,a),(0,s.done_),⟨Nat.zero_le _,(qr8 (.list (.int .i64)) _ _).symm⟩,⟨rfl,rfl,rfl,rfl⟩,?_⟩
   rintro⟨i,r⟩ ⟨hi1,hi2⟩
   dsimp only at hi1 hi2 ⊢
   have hrl:r.length=s.done_.length:=by rw[hi2]; exact qp2 (.list (.int .i64)) _ _ _
   refine⟨λhlt=>?_,λhge=>?_⟩
   ·have hri:nL r i=nL s.done_ i:=by rw[hi2]; exact(q2j (.list (.int .i64)) _ _ _ _ hlt).trans (if_neg (Nat.lt_irrefl _))
    rw[hri]
    exact⟨by omega,by omega,h3 i hlt,by omega,by omega,qa5 (by omega) (by omega),(i+1,r.set i (qe7 (nL s.done_ i) (qu2 s.left j a) j)),⟨by dsimp only; omega,by dsimp only; rw[hi2]; exact qp3 (.list (.int .i64)) (λq=>qe7 (nL s.done_ q) (qu2 s.left j a) j) _ _⟩,by dsimp only; omega,by dsimp only; omega,rfl⟩
   ·obtain rfl:i=s.done_.length:=by omega
    have hr:r=s.done_.map λr=>qe7 r (qu2 s.left j a) j:=by
     rw[hi2]
     refine(qw6 (.list (.int .i64)) _ _ _ (Nat.le_refl _)).trans ?_
     apply List.ext_getElem (by simp)
     intro q k1 k2
     simp only[List.getElem_map,List.getElem_range]
     rw[qm2 _ q (by simpa using k1)]
    refine⟨by omega,by omega,qa5 (by omega) (by omega),(j+1,qh2 rows (j+1)),⟨by dsimp only; omega,rfl⟩,by dsimp only; omega,⟨by rw[hnx],by dsimp only; omega⟩,by rw[hnx,hr],by rw[hnx]⟩
 ·have e:j=rdW rows:=by rw[hle 0 (by omega)] at hjl; omega
  subst e
  unfold qa6
  rw[hs]
  exact⟨rfl,rfl⟩
 ·have e:s.left=[]:=List.eq_nil_of_length_eq_zero (by omega)
  have:=q7m hs e (rdW rows-j)
  rw[show j+(rdW rows-j)=rdW rows by omega] at this
  unfold qa6
  rw[this]
  exact⟨rfl,rfl⟩
end Go.Proofs.YtmijnbjlhnpokaaGreat
