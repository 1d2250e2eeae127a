/- The reference's arithmetic of rows: contracts by the engine. No condition. -/
import Derived.Test.YtmijnbjlhnpokaaGreatProg
import Derived.Test.YtmijnbjlhnpokaaGreatApp
import Derived.Test.YtmijnbjlhnpokaaGreatEng3
import Derived.Test.YtmijnbjlhnpokaaGreatV12
set_option linter.unusedVariables false
namespace Go.Proofs.YtmijnbjlhnpokaaGreat
open Go Go.RowKit Ls Eng
theorem x9z:Elt Tryz.prog 34 3 (.int .i64 0) 1 8:=⟨Tryz.underlying34,by kernel_rfl⟩
theorem w7p (w:World) (t:TypeId):(w.alloc (.cells #[] t)).ownsRow w.heap.size t 1 (.slice (some ⟨w.heap.size,0,none⟩) 0 0) 0 []:=
 ⟨rfl,.inr ⟨w.heap.size,0,#[],rfl,Nat.le_refl _,heap_alloc_new w _,Nat.le_refl _,by unfold maxLen; omega,rfl,rfl⟩⟩
set_option maxRecDepth 100000 in
set_option maxHeartbeats 400000 in
theorem clone_any (X:Option Addr) (k d:Nat) (l:List Int) (w:World) (hl:SI w X k d l) (hk:k<=100000) :
  Calls Tryz.prog 105 #[.slice X k d] w λe w'=>∃A' c',e=.returned (.slice A' k c')/\w'.ownsRow w.heap.size 3 1 (.slice A' k c') k (ints l)/\Below w.heap.size w w':=by
 have hll:=hidx hl.len
 cases X with
 | none=>
  have h0:k=0:=by
   rcases Nat.eq_zero_or_pos k with h | h
   ·exact h
   ·obtain⟨ad,e,_⟩:=hl.at_ h; cases e
  subst h0
  have hl0:l=[]:=List.eq_nil_of_length_eq_zero hll.out
  subst hl0
  have hq:=λw=>Lib.run_eql_slice_nil (P:=Tryz.prog) w 34 3 none 0 d 0 0 Tryz.underlying34
  go_enter Tryz.func105,Tryz.ntmps105
  go_wp2
  go_ret
  exact⟨none,0,rfl,World.ownsRow_nil _ _ _ _,Below.refl _ _⟩
 | some ad=>
  have sv:=hl.values
  have o1:=xf4 l
  have hq:=λw=>Lib.run_eql_slice_nil (P:=Tryz.prog) w 34 3 (some ad) k d 0 0 Tryz.underlying34
  go_enter Tryz.func105,Tryz.ntmps105
  go_wp2_with (at_builtin; refine x9y _ x9z rfl rfl _ _ rfl rfl rfl (w7p _ _) (below_alloc _ _) (Nat.le_refl _) (sv.below (below_alloc _ _)) o1 (by omega) (by omega) ?_; intro A2 c2 w2 hown2 hb2 _; rw[Nat.zero_add] at hown2)
  go_ret
  exact⟨A2,c2,rfl,by simpa using hown2,hb2⟩
abbrev x0r:qc9:=qg4 true (some 3) [.list (.int .i64)] [.list (.int .i64)] (λx=>x.1.length<=100000) (λx=>(x.1,()))
theorem rdL_ints (m:View):∀l:List Int,RdL m (.int .i64) l (ints l)
 | []=>rfl
 | x :: l=>⟨[.int .i64 x],ints l,rfl,rfl,rdL_ints m l⟩
theorem wt7:Meets Tryz.prog 105 x0r:=by
 refine⟨⟨_,_,Tryz.func105,rfl,rfl⟩,λw m args vs k hm hargs hrun=>?_⟩
 obtain⟨⟨l,⟨⟩⟩,⟨hp,hk⟩,hx⟩:=qz5 hrun hargs
 have hp:l.length<=100000:=hp
 obtain⟨u,us,rfl,h1,h2⟩:=hx
 obtain rfl:us=[]:=h2
 obtain⟨A,c,rfl,hSI⟩:=x3j hm (show Rd m (.list (.int .i64)) l [u] from h1)
 refine(clone_any A l.length c l w hSI hp).mono λe w' ⟨A',c',e1,e2,e3⟩=>?_
 exact⟨_,λ_=>none,e1,e3,(λb o h=>by cases h),(λb o h=>by cases h),.inl ⟨.int .i64,l,ints l,hk,e2,rdL_ints _ l,λ_ _=>rfl⟩⟩
end Go.Proofs.YtmijnbjlhnpokaaGreat
set_option linter.unusedSimpArgs false
namespace Go.Proofs.YtmijnbjlhnpokaaGreat
open Go Go.RowKit Eng
theorem w08 (t:Ty) (a b:List t.den) (hl:a.length=b.length) (h:∀i,i<a.length->qd1 t a i=qd1 t b i):a=b:=by
 apply List.ext_getElem hl
 intro i h1 h2
 have:=h i h1
 rwa [ql9 a i h1,ql9 b i h2] at this
abbrev tQ:Ty:=.prod (.list (.list (.int .i64))) (.list (.int .i64))
abbrev x0s:qc9:=qg4 true none [x4j] [.bool] (λ_=>True) (λx=>(x.1.1==0,()))
theorem w3r:Meets Tryz.prog 240 x0s:=by
 refine meets (snd (SpecsOk.nil _)) Tryz.func240 rfl rfl (λ_ _=>none) (λ_=>by kernel_rfl) (by decide) ?_
 rintro⟨r,⟨⟩⟩ -
 revert r
 intro(r:Int × Int)
 refine @qe1 _ ((r.1==(0:Int))=(r.1==(0:Ty.den (Ty.int .i64)))) (by kernel_rfl) ?_
 try simp only[z0,z1,z2,z3,z4,z5,z6,z7,z8,z9,z10,Int.reduceEq,z11,z12,z13,z14,z15,z16,z17,z18,z19,z20,z21,z22,z23,z24,z25,z26,z27,z28,z29,z30,Int.reduceLE,Int.reduceLT,z31,z32,z33,z34,qa1]
 try simp only[qb5,qb6,qd2,z31,z32,z2,z1]
 done
abbrev x49:qc9:=qg4 true none [tQ] [qg0] (λx=>0<x.1.1.length) (λx=>((nL x.1.1 0).length,()))
theorem q9k:Meets Tryz.prog 144 x49:=by
 refine meets (snd (SpecsOk.nil _)) Tryz.func144 rfl rfl (λ_ _=>none) (λ_=>by kernel_rfl) (by decide) ?_
 rintro⟨q,⟨⟩⟩ h
 revert q
 intro(q:List (List Int) × List Int) (h:0<q.1.length)
 refine @qe1 _ (((0:Int)<=(0:Int)/\(0:Int)<(↑q.1.length:Int))/\(↑(nL q.1 (0:Nat)).length:Int)=(↑(nL q.1 (0:Nat)).length:Int)) (by kernel_rfl) ?_
 try simp only[z0,z1,z2,z3,z4,z5,z6,z7,z8,z9,z10,Int.reduceEq,z11,z12,z13,z14,z15,z16,z17,z18,z19,z20,z21,z22,z23,z24,z25,z26,z27,z28,z29,z30,Int.reduceLE,Int.reduceLT,z31,z32,z33,z34,qa1]
 try simp only[qb5,qb6,qd2,z31,z32,z2,z1]
 omega
def q43 (m:List (List Int)) (y pix:List Int):(List Int × List (Int × Int)) × Bool:=if(q8b m pix y).2≠0\/((q8b m pix y).1.any λr=>r.1==0)=true then(([],[]),false) else((pix,(q8b m pix y).1),true)
abbrev x5b:qc9:=qg4 true none [tQ,qf1] [wp9,.bool] (λx=>q38 x.1.1 x.2.1 x.1.2/\x.2.1.length<=100000) (λx=>((q43 x.1.1 x.1.2 x.2.1).1,(q43 x.1.1 x.1.2 x.2.1).2,()))
theorem xf5 {m:List (List Int)} {pix y:List Int} (h:q38 m pix y):(q8b m pix y).1.length<=1000000:=by
 unfold q8b
 split
 ·rename_i he
  have hA:=Asked.of he
  have hO:=h.ok he
  unfold w7m
  split
  ·simp
  ·split
   ·simp
   ·have hsh:=(qv8 hO.red pix.length).piv
    rw[show(qh3 m pix y).length=m.length from qo3 _ _ _] at hsh
    have:=hA.msk.rows6
    have e:(wt6 m pix y).2.length=(qa6 (qh3 m pix y) pix.length).2.length:=rfl
    simp
    omega
 ·simp
theorem w7q:Meets Tryz.prog 215 x5b:=by
 refine meets (snd (SpecsOk.cons w7o (SpecsOk.cons wt7 (SpecsOk.cons (w60 (fs:=[(240,x0s)]) (SpecsOk.cons w3r (SpecsOk.nil _))) (SpecsOk.nil _))))) Tryz.func215 rfl rfl (λ_ _=>none) (λ_=>by kernel_rfl) (by decide) ?_
 rintro⟨q,pix,⟨⟩⟩ h
 revert q pix
 intro(q:List (List Int) × List Int) (pix:List Int) (h:q38 q.1 pix q.2/\pix.length<=100000)
 refine @qe1 _ (let Q0:=q43 q.1 q.2 pix; let Q1:=q8b q.1 pix q.2; q38 q.1 pix q.2/\((Q1.2 != (0:Int))=true->(Q0.1.1=[]/\Q0.1.2=[]/\True)/\false=Q0.2/\True)/\((Q1.2 != (0:Int))=false->∃(v1:qa5 [Ty.prod (Ty.int .i64) (Ty.int .i64)]->Prop),∃(v2:qa5 [Ty.prod (Ty.int .i64) (Ty.int .i64)]->Bool),(∀(v3:(Int × Int) × qa5._f [] PUnit.unit),v1 v3->True/\(v3.1.1==(0:Ty.den (Ty.int .i64)))=v2 v3)/\(Q1.1.length<=(1000000:Nat)/\∀(v3:Nat),v3<Q1.1.length->v1 (qd1 (Ty.prod (Ty.int .i64) (Ty.int .i64)) Q1.1 v3,()))/\((List.any Q1.1 λ(v4:Int × Int)=>v2 (v4,()))=true->(Q0.1.1=[]/\Q0.1.2=[]/\True)/\false=Q0.2/\True)/\((List.any Q1.1 λ(v4:Int × Int)=>v2 (v4,()))=false->pix.length<=(100000:Nat)/\(pix=Q0.1.1/\Q1.1=Q0.1.2/\True)/\true=Q0.2/\True))) (by kernel_rfl) ?_
 try simp only[z0,z1,z2,z3,z4,z5,z6,z7,z8,z9,z10,Int.reduceEq,z11,z12,z13,z14,z15,z16,z17,z18,z19,z20,z21,z22,z23,z24,z25,z26,z27,z28,z29,z30,Int.reduceLE,Int.reduceLT,z31,z32,z33,z34,qa1]
 try simp only[qb5,qb6,qd2,z31,z32,z2,z1]
 obtain⟨hp,hl⟩:=h
 refine⟨hp,λh1=>by simp[q43,h1],λh1=>⟨λ_=>True,λx=>x.1.1==0,λ_ _=>rfl,⟨?_,λ_ _=>trivial⟩,λh2=>?_,λh2=>⟨hl,?_⟩⟩⟩
 ·exact xf5 hp
 ·have h2:((q8b q.1 pix q.2).1.any λr=>r.1==0)=true:=h2
  unfold q43; rw[if_pos (.inr h2)]; exact⟨⟨rfl,rfl⟩,rfl⟩
 ·have h2:((q8b q.1 pix q.2).1.any λr=>r.1==0)=false:=h2
  unfold q43; rw[if_neg (by rw[h1,h2]; simp)]; exact⟨⟨rfl,rfl⟩,rfl⟩
theorem w7r (a b:Int):qe2 b (a.tmod b)=qe2 a b:=by
 unfold qe2
 show((Nat.gcd b.natAbs (a.tmod b).natAbs:Nat):Int)=(Nat.gcd a.natAbs b.natAbs:Nat)
 rw[Int.natAbs_tmod,Nat.gcd_comm b.natAbs,<- Nat.gcd_rec,Nat.gcd_comm]
def x5c (a b:Int):Nat->Option Inv
 | 0=>some (Inv.of [0,1] 0 (λs:Int × Int=>[(0,.lit (.int .i64 s.1)),(1,.lit (.int .i64 s.2))]) (λ_=>[]) (λs=>qc8 BIG s.1/\qc8 BIG s.2/\qe2 s.1 s.2=qe2 a b) (λs=>s.2.natAbs))
 | _=>none
theorem w3s:Meets Tryz.prog 201 w01:=by
 refine meets (snd (SpecsOk.nil _)) Tryz.func201 rfl rfl (λx=>x5c x.1 x.2.1) (λ_=>by kernel_rfl) (by decide) ?_
 rintro⟨a,b,⟨⟩⟩ h
 revert a b
 intro(a:Int) (b:Int) (h:(-BIG<=a/\a<=BIG)/\-BIG<=b/\b<=BIG)
 refine @qe1 _ (∃(v0:Unit),∃(v1:Int × Int),(qc8 BIG v1.1/\qc8 BIG v1.2/\qe2 v1.1 v1.2=qe2 a b)/\((a=v1.1/\b=v1.2/\True)/\True)/\∀(v2:Int × Int),qc8 BIG v2.1/\qc8 BIG v2.2/\qe2 v2.1 v2.2=qe2 a b->((v2.2 != (0:Int))=true->v2.2≠(0:Int)/\∃(v5:Int × Int),(qc8 BIG v5.1/\qc8 BIG v5.2/\qe2 v5.1 v5.2=qe2 a b)/\Int.natAbs v5.2<Int.natAbs v2.2/\(v2.2=v5.1/\Int.tmod v2.1 v2.2=v5.2/\True)/\True)/\((v2.2 != (0:Int))=false->fits .i64 ((0:Int)-v2.1)/\max2 true v2.1 ((0:Int)-v2.1)=qe2 a b)) (by kernel_rfl) ?_
 try simp only[z0,z1,z2,z3,z4,z5,z6,z7,z8,z9,z10,Int.reduceEq,z11,z12,z13,z14,z15,z16,z17,z18,z19,z20,z21,z22,z23,z24,z25,z26,z27,z28,z29,z30,Int.reduceLE,Int.reduceLT,z31,z32,z33,z34,qa1]
 try simp only[qb5,qb6,qd2,z31,z32,z2,z1]
 refine⟨(),(a,b),⟨h.1,h.2,rfl⟩,⟨rfl,rfl⟩,?_⟩
 rintro⟨x,y⟩ ⟨h1,h2,h3⟩
 dsimp only at h1 h2 h3 ⊢
 have hB:BIG=4000000000000000000:=rfl
 refine⟨λhy=>⟨hy,(y,x.tmod y),⟨h2,?_,(w7r x y).trans h3⟩,?_,rfl,rfl⟩,λhy=>?_⟩
 ·have:(x.tmod y).natAbs<=x.natAbs:=by rw[Int.natAbs_tmod]; exact Nat.mod_le _ _
  unfold qc8 at h1 ⊢
  dsimp only
  omega
 ·dsimp only
  rw[Int.natAbs_tmod]
  exact Nat.mod_lt _ (by omega)
 ·subst hy
  unfold qc8 at h1
  refine⟨qa7 (by omega) (by omega),?_⟩
  rw[<- h3]
  show max x (0-x)=((Int.gcd x 0:Nat):Int)
  rw[Int.gcd_zero_right]
  omega
def ql1 (l:List Int):List Int:=l.map λn=>n.tdiv (max (gcdL l) 1)
abbrev x0t:qc9:=qg4 true (some 3) [qf1] [qf1] (λx=>q7e x.1) (λx=>(ql1 x.1,()))
def xr9 (l:List Int):Nat->Option Inv
 | 0=>some (Inv.of [3,11] 0 (λk:Nat=>[(3,.lit (.int .i64 (gcdL (l.take k)))),(11,.lit (.int .i64 k))]) (λ_=>[]) (λk=>k<=l.length) (λk=>l.length-k))
 | 1=>some (Inv.of [6,21] 1 (λk:Nat=>[(6,.own 0),(21,.lit (.int .i64 k))]) (λk=>[.vec 3 (.int .i64) ((ql1 l).take k)]) (λk=>k<=l.length) (λk=>l.length-k))
 | _=>none
theorem q7l:Meets Tryz.prog 153 x0t:=by
 refine meets (snd (SpecsOk.cons w3s (SpecsOk.nil _))) Tryz.func153 rfl rfl (λx=>xr9 x.1) (λ_=>by kernel_rfl) (by decide) ?_
 rintro⟨l,⟨⟩⟩ h
 revert l
 intro(l:List Int) (h:q7e l)
 refine @qe1 _ (∃(v0:Unit),∃(v1:Nat),Nat.le v1 l.length/\(((0:Int)=gcdL (List.take v1 l)/\(0:Int)=(↑v1:Int)/\True)/\True)/\∀(v2:Nat),Nat.le v2 l.length->(decide ((↑v2:Int)<(↑l.length:Int))=true->((0:Int)<=(↑v2:Int)/\(↑v2:Int)<(↑l.length:Int))/\(((-4000000000000000000:Int)<=gcdL (List.take v2 l)/\gcdL (List.take v2 l)<=BIG)/\(-4000000000000000000:Int)<=nI l v2/\nI l v2<=BIG)/\fits .i64 ((↑v2:Int)+(1:Int))/\∃(v5:Nat),Nat.le v5 l.length/\l.length-v5<l.length-v2/\(qe2 (gcdL (List.take v2 l)) (nI l v2)=gcdL (List.take v5 l)/\(↑v2:Int)+(1:Int)=(↑v5:Int)/\True)/\True)/\(decide ((↑v2:Int)<(↑l.length:Int))=false->∃(v5:Unit),∃(v6:Nat),Nat.le v6 l.length/\((True/\(0:Int)=(↑v6:Int)/\True)/\List.take v6 (ql1 l)=[]/\True)/\∀(v7:Nat),Nat.le v7 l.length->(decide ((↑v7:Int)<(↑l.length:Int))=true->((0:Int)<=(↑v7:Int)/\(↑v7:Int)<(↑l.length:Int))/\max2 true (gcdL (List.take v2 l)) (1:Int)≠(0:Int)/\fits .i64 (Int.tdiv (nI l v7) (max2 true (gcdL (List.take v2 l)) (1:Int)))/\((0:Nat)<List.length [Int.tdiv (nI l v7) (max2 true (gcdL (List.take v2 l)) (1:Int))]/\Nat.le ((List.take v7 (ql1 l)).length+List.length [Int.tdiv (nI l v7) (max2 true (gcdL (List.take v2 l)) (1:Int))]) (1000000:Nat))/\fits .i64 ((↑v7:Int)+(1:Int))/\∃(v10:Nat),Nat.le v10 l.length/\l.length-v10<l.length-v7/\(True/\(↑v7:Int)+(1:Int)=(↑v10:Int)/\True)/\List.take v7 (ql1 l)++[Int.tdiv (nI l v7) (max2 true (gcdL (List.take v2 l)) (1:Int))]=List.take v10 (ql1 l)/\True)/\(decide ((↑v7:Int)<(↑l.length:Int))=false->List.take v7 (ql1 l)=ql1 l))) (by kernel_rfl) ?_
 try simp only[z0,z1,z2,z3,z4,z5,z6,z7,z8,z9,z10,Int.reduceEq,z11,z12,z13,z14,z15,z16,z17,z18,z19,z20,z21,z22,z23,z24,z25,z26,z27,z28,z29,z30,Int.reduceLE,Int.reduceLT,z31,z32,z33,z34,qa1]
 try simp only[qb5,qb6,qd2,z31,z32,z2,z1]
 have hlen:=h.1
 have hpl:(ql1 l).length=l.length:=by simp[ql1]
 refine⟨(),0,Nat.zero_le _,⟨rfl,rfl⟩,λk hk=>⟨λhlt=>?_,λhge=>?_⟩⟩
 ·have h1:=ws9 h k hk
  have h2:=q2u h hlt
  unfold BIG at h1
  exact⟨hlt,⟨⟨by omega,by unfold BIG; omega⟩,h2⟩,qa7 (by omega) (by omega),k+1,by omega,by omega,(q7f l k hlt).symm,by omega⟩
 ·obtain rfl:k=l.length:=by omega
  rw[List.take_length]
  refine⟨(),0,Nat.zero_le _,⟨rfl,rfl⟩,λi hi=>⟨λhlt=>?_,λhge=>?_⟩⟩
  ·have h2:=q2u h hlt
   have h3:=ql3 (g:=max (gcdL l) 1) h2
   unfold BIG at h3
   refine⟨hlt,by show ¬max (gcdL l) 1=0; omega,qa7 (by show -9223372036854775808<=(nI l i).tdiv (max (gcdL l) 1); omega) (by show(nI l i).tdiv (max (gcdL l) 1)<=9223372036854775807; omega),by rw[List.length_take]; omega,qa7 (by omega) (by omega),i+1,by omega,by omega,by omega,?_⟩
   rw[q0c _ i (by omega),qh7 (ql1 l) i (by omega),qh7 l i hlt]
   simp[ql1]
   rfl
  ·rw[List.take_of_length_le (by omega)]
def ql8 (l:List Int) (n:Int):List Int:=l.map λk=>k*n
structure xf6 (l:List Int) (n:Int):Prop where
 len:l.length<=1000
 big:∀i,i<l.length->qc8 BIG (nI l i*n)
abbrev x92:qc9:=qg4 true none [qf1,qg0] [qf1] (λx=>xf6 x.1 x.2.1) (λx=>(ql8 x.1 x.2.1,()))
def x5d (l:List Int) (n:Int):Nat->Option Inv
 | 0=>some (Inv.of [5,10] 1 (λk:Nat=>[(5,.own 0),(10,.lit (.int .i64 k))]) (λk=>[.vec 3 (.int .i64) ((ql8 l n).take k)]) (λk=>k<=l.length) (λk=>l.length-k))
 | _=>none
theorem w7s:Meets Tryz.prog 154 x92:=by
 refine meets (snd (SpecsOk.nil _)) Tryz.func154 rfl rfl (λx=>x5d x.1 x.2.1) (λ_=>by kernel_rfl) (by decide) ?_
 rintro⟨l,n,⟨⟩⟩ h
 revert l n
 intro(l:List Int) (n:Int) (h:xf6 l n)
 refine @qe1 _ (let Q0:=ql8 l n; ∃(v0:Unit),∃(v1:Nat),Nat.le v1 l.length/\((True/\(0:Int)=(↑v1:Int)/\True)/\List.take v1 Q0=[]/\True)/\∀(v2:Nat),Nat.le v2 l.length->(decide ((↑v2:Int)<(↑l.length:Int))=true->((0:Int)<=(↑v2:Int)/\(↑v2:Int)<(↑l.length:Int))/\fits .i64 (nI l v2*n)/\((0:Nat)<List.length [nI l v2*n]/\Nat.le ((List.take v2 Q0).length+List.length [nI l v2*n]) (1000000:Nat))/\fits .i64 ((↑v2:Int)+(1:Int))/\∃(v5:Nat),Nat.le v5 l.length/\l.length-v5<l.length-v2/\(True/\(↑v2:Int)+(1:Int)=(↑v5:Int)/\True)/\List.take v2 Q0++[nI l v2*n]=List.take v5 Q0/\True)/\(decide ((↑v2:Int)<(↑l.length:Int))=false->List.take v2 Q0=ql8 l n)) (by kernel_rfl) ?_
 try simp only[z0,z1,z2,z3,z4,z5,z6,z7,z8,z9,z10,Int.reduceEq,z11,z12,z13,z14,z15,z16,z17,z18,z19,z20,z21,z22,z23,z24,z25,z26,z27,z28,z29,z30,Int.reduceLE,Int.reduceLT,z31,z32,z33,z34,qa1]
 try simp only[qb5,qb6,qd2,z31,z32,z2,z1]
 have hlen:=h.len
 have hpl:(ql8 l n).length=l.length:=by simp[ql8]
 refine⟨(),0,Nat.zero_le _,⟨rfl,rfl⟩,λi hi=>⟨λhlt=>?_,λhge=>?_⟩⟩
 ·have h3:=h.big i hlt
  unfold qc8 BIG at h3
  refine⟨hlt,qa7 (by omega) (by omega),by rw[List.length_take]; omega,qa7 (by omega) (by omega),i+1,by omega,by omega,by omega,?_⟩
  rw[q0c _ i (by omega),qh7 (ql8 l n) i (by omega),qh7 l i hlt]
  simp[ql8]
 ·rw[List.take_of_length_le (by omega)]
def q39 (r p:List Int) (j:Nat):List Int:=(List.range r.length).map λk=>nI r k*nI p j-nI p k*nI r j
def qe5 (r p:List Int) (j:Nat):List Int:=ql1 (q39 r p j)
structure xf7 (r p:List Int) (j:Nat):Prop where
 len:r.length<=1000
 eq:p.length=r.length
 lt:j<r.length
 b1:∀k,k<r.length->qc8 BIG (nI r k*nI p j)
 b2:∀k,k<r.length->qc8 BIG (nI p k*nI r j)
 b3:∀k,k<r.length->qc8 BIG (nI r k*nI p j-nI p k*nI r j)
abbrev sWo:qc9:=qg4 true none [qf1,qf1,qg0] [qf1] (λx=>0<=x.2.2.1/\xf7 x.1 x.2.1 x.2.2.1.toNat) (λx=>(qe5 x.1 x.2.1 x.2.2.1.toNat,()))
def x94 (r p:List Int) (j:Nat):Nat->Option Inv
 | 0=>some (Inv.of [7,11] 1 (λk:Nat=>[(7,.own 0),(11,.lit (.int .i64 k))]) (λk=>[.vec 3 (.int .i64) ((q39 r p j).take k)]) (λk=>k<=r.length) (λk=>r.length-k))
 | _=>none
theorem xf8:Meets Tryz.prog 155 sWo:=by
 refine meets (snd (SpecsOk.cons q7l (SpecsOk.nil _))) Tryz.func155 rfl rfl (λx=>x94 x.1 x.2.1 x.2.2.1.toNat) (λ_=>by kernel_rfl) (by decide) ?_
 rintro⟨r,p,j,⟨⟩⟩ h
 revert r p j
 intro(r:List Int) (p:List Int) (j:Int) (h:0<=j/\xf7 r p j.toNat)
 refine @qe1 _ (let Q0:=q39 r p j.toNat; ∃(v0:Unit),∃(v1:Nat),Nat.le v1 r.length/\((True/\(0:Int)=(↑v1:Int)/\True)/\List.take v1 Q0=[]/\True)/\∀(v2:Nat),Nat.le v2 r.length->(decide ((↑v2:Int)<(↑r.length:Int))=true->((0:Int)<=(↑v2:Int)/\(↑v2:Int)<(↑r.length:Int))/\((0:Int)<=j/\j<(↑p.length:Int))/\fits .i64 (nI r v2*nI p j.toNat)/\((0:Int)<=(↑v2:Int)/\(↑v2:Int)<(↑p.length:Int))/\((0:Int)<=j/\j<(↑r.length:Int))/\fits .i64 (nI p v2*nI r j.toNat)/\fits .i64 (nI r v2*nI p j.toNat-nI p v2*nI r j.toNat)/\((0:Nat)<List.length [nI r v2*nI p j.toNat-nI p v2*nI r j.toNat]/\Nat.le ((List.take v2 Q0).length+List.length [nI r v2*nI p j.toNat-nI p v2*nI r j.toNat]) (1000000:Nat))/\fits .i64 ((↑v2:Int)+(1:Int))/\∃(v5:Nat),Nat.le v5 r.length/\r.length-v5<r.length-v2/\(True/\(↑v2:Int)+(1:Int)=(↑v5:Int)/\True)/\List.take v2 Q0++[nI r v2*nI p j.toNat-nI p v2*nI r j.toNat]=List.take v5 Q0/\True)/\(decide ((↑v2:Int)<(↑r.length:Int))=false->q7e (List.take v2 Q0)/\ql1 (List.take v2 Q0)=qe5 r p j.toNat)) (by kernel_rfl) ?_
 try simp only[z0,z1,z2,z3,z4,z5,z6,z7,z8,z9,z10,Int.reduceEq,z11,z12,z13,z14,z15,z16,z17,z18,z19,z20,z21,z22,z23,z24,z25,z26,z27,z28,z29,z30,Int.reduceLE,Int.reduceLT,z31,z32,z33,z34,qa1]
 try simp only[qb5,qb6,qd2,z31,z32,z2,z1]
 obtain⟨hj,h⟩:=h
 have hlen:=h.len
 have heq:=h.eq
 have hlt':=h.lt
 have hpl:(q39 r p j.toNat).length=r.length:=by simp[q39]
 have hpk:0<=j/\j<(p.length:Int):=⟨hj,by omega⟩
 have hrk:0<=j/\j<(r.length:Int):=⟨hj,by omega⟩
 have hat:∀k,k<r.length->nI (q39 r p j.toNat) k=nI r k*nI p j.toNat-nI p k*nI r j.toNat:=λk hk=>by
  rw[qh7 _ k (by omega)]; simp[q39]
 refine⟨(),0,Nat.zero_le _,⟨rfl,rfl⟩,λi hi=>⟨λhlt=>?_,λhge=>?_⟩⟩
 ·have h1:=h.b1 i hlt
  have h2:=h.b2 i hlt
  have h3:=h.b3 i hlt
  unfold qc8 BIG at h1 h2 h3
  refine⟨hlt,hpk,qa7 (by omega) (by omega),by omega,hrk,qa7 (by omega) (by omega),qa7 (by omega) (by omega),by rw[List.length_take]; omega,qa7 (by omega) (by omega),i+1,by omega,by omega,by omega,?_⟩
  rw[q0c _ i (by omega),hat i hlt]
 ·rw[List.take_of_length_le (by omega)]
  refine⟨⟨by omega,λx hx=>?_⟩,rfl⟩
  obtain⟨k,hk,rfl⟩:=List.getElem_of_mem hx
  rw[<- qh7 _ k hk,hat k (by omega)]
  exact h.b3 k (by omega)
def q8c (n d:Int):Int × Int:=(n.tdiv (qe2 n d),d.tdiv (qe2 n d))
end Go.Proofs.YtmijnbjlhnpokaaGreat
