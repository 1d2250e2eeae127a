/- Rows reduced: contract by the engine. No condition. -/
import Derived.Test.YtmijnbjlhnpokaaGreatProg
import Derived.Test.YtmijnbjlhnpokaaGreatApp
import Derived.Test.YtmijnbjlhnpokaaGreatEng3
import Derived.Test.YtmijnbjlhnpokaaGreatV4
set_option linter.unusedVariables false
namespace Go.Proofs.YtmijnbjlhnpokaaGreat
open Go Go.RowKit Ls Eng
theorem yj0:Elt Tryz.prog 34 3 (.int .i64 0) 1 8:=⟨Tryz.underlying34,by kernel_rfl⟩
theorem w8t (w:World) (t:TypeId):(w.alloc (.cells #[] t)).ownsRow w.heap.size t 1 (.slice (some ⟨w.heap.size,0,none⟩) 0 0) 0 []:=
 ⟨rfl,.inr ⟨w.heap.size,0,#[],rfl,Nat.le_refl _,heap_alloc_new w _,Nat.le_refl _,by unfold maxLen; omega,rfl,rfl⟩⟩
set_option maxRecDepth 100000 in
set_option maxHeartbeats 400000 in
theorem clone_any (X:Option Addr) (k d:Nat) (l:List Int) (w:World) (hl:SI w X k d l) (hk:k<=100000) :
  Calls Tryz.prog 105 #[.slice X k d] w λe w'=>∃A' c',e=.returned (.slice A' k c')/\w'.ownsRow w.heap.size 3 1 (.slice A' k c') k (ints l)/\Below w.heap.size w w':=by
 have hll:=hidx hl.len
 cases X with
 | none=>
  have h0:k=0:=by
   rcases Nat.eq_zero_or_pos k with h | h
   ·exact h
   ·obtain⟨ad,e,_⟩:=hl.at_ h; cases e
  subst h0
  have hl0:l=[]:=List.eq_nil_of_length_eq_zero hll.out
  subst hl0
  have hq:=λw=>Lib.run_eql_slice_nil (P:=Tryz.prog) w 34 3 none 0 d 0 0 Tryz.underlying34
  go_enter Tryz.func105,Tryz.ntmps105
  go_wp2
  go_ret
  exact⟨none,0,rfl,World.ownsRow_nil _ _ _ _,Below.refl _ _⟩
 | some ad=>
  have sv:=hl.values
  have o1:=xk6 l
  have hq:=λw=>Lib.run_eql_slice_nil (P:=Tryz.prog) w 34 3 (some ad) k d 0 0 Tryz.underlying34
  go_enter Tryz.func105,Tryz.ntmps105
  go_wp2_with (at_builtin; refine yi9 _ yj0 rfl rfl _ _ rfl rfl rfl (w8t _ _) (below_alloc _ _) (Nat.le_refl _) (sv.below (below_alloc _ _)) o1 (by omega) (by omega) ?_; intro A2 c2 w2 hown2 hb2 _; rw[Nat.zero_add] at hown2)
  go_ret
  exact⟨A2,c2,rfl,by simpa using hown2,hb2⟩
abbrev x3z:qb7:=qf1 true (some 3) [.list (.int .i64)] [.list (.int .i64)] (λx=>x.1.length<=100000) (λx=>(x.1,()))
theorem rdL_ints (m:View):∀l:List Int,RdL m (.int .i64) l (ints l)
 | []=>rfl
 | x :: l=>⟨[.int .i64 x],ints l,rfl,rfl,rdL_ints m l⟩
theorem q7c:Meets Tryz.prog 105 x3z:=by
 refine⟨⟨_,_,Tryz.func105,rfl,rfl⟩,λw m args vs k hm hargs hrun=>?_⟩
 obtain⟨⟨l,⟨⟩⟩,⟨hp,hk⟩,hx⟩:=qk0 hrun hargs
 have hp:l.length<=100000:=hp
 obtain⟨u,us,rfl,h1,h2⟩:=hx
 obtain rfl:us=[]:=h2
 obtain⟨A,c,rfl,hSI⟩:=xk0 hm (show Rd m (.list (.int .i64)) l [u] from h1)
 refine(clone_any A l.length c l w hSI hp).mono λe w' ⟨A',c',e1,e2,e3⟩=>?_
 exact⟨_,λ_=>none,e1,e3,(λb o h=>by cases h),(λb o h=>by cases h),.inl ⟨.int .i64,l,ints l,hk,e2,rdL_ints _ l,λ_ _=>rfl⟩⟩
end Go.Proofs.YtmijnbjlhnpokaaGreat
set_option linter.unusedSimpArgs false
namespace Go.Proofs.YtmijnbjlhnpokaaGreat
open Go Go.RowKit Eng
abbrev x33:qb7:=hspec [] true none [.d qc8,.cap qc8] [.bool] (λx=>0<=x.2.1/\x.2.1<=BIG) (λx=>(!(inB x.1 (0-x.2.1) x.2.1),()))
theorem w45:Meets Tryz.prog 190 x33:=by
 refine qm7 (SpecsOk.nil _) (snd (SpecsOk.cons qt2 (SpecsOk.nil _))) Tryz.func190 rfl rfl (λ_ _=>none) (λ_=>by kernel_rfl) (by decide) ?_
 rintro⟨n,k,⟨⟩⟩ h
 revert n k
 intro(n:Int) (k:Int) (h:0<=k/\k<=BIG)
 refine @qd1 _ (fits .i64 ((0:Int)-k)/\True/\(!inB n ((0:Int)-k) k)=!inB n ((0:Int)-k) k) (by kernel_rfl) ?_
 try simp only[z0,z1,z2,z3,z4,z5,z6,z7,z8,z9,z10,Int.reduceEq,z11,z12,z13,z14,z15,z16,z17,z18,z19,z20,z21,z22,z23,z24,z25,z26,z27,z28,z29,z30,Int.reduceLE,Int.reduceLT,z31,z32,z33,z34,qa1]
 try simp only[qa7,qa8,qb8,z31,z32,z2,z1]
 unfold BIG at h
 exact qb5 (by omega) (by omega)
abbrev yj1:qb7:=we6 false none [qc8] (λ_=>True) (λx=>.clo 190 (.cons (.imm (.cons (.lit (.int .i64 x.1)) .nil) 0) .nil))
theorem w8u:Meets Tryz.prog 133 yj1:=by
 refine q3k (snd (SpecsOk.nil _)) Tryz.func133 rfl rfl (λ_ _=>none) (λ_=>by kernel_rfl) (by decide) ?_
 rintro⟨m,⟨⟩⟩ -
 revert m
 intro(m:Int)
 refine @qd1 _ (((m=m/\True)/\(0:Nat)=(0:Nat))/\True) (by kernel_rfl) ?_
 try simp only[z0,z1,z2,z3,z4,z5,z6,z7,z8,z9,z10,Int.reduceEq,z11,z12,z13,z14,z15,z16,z17,z18,z19,z20,z21,z22,z23,z24,z25,z26,z27,z28,z29,z30,Int.reduceLE,Int.reduceLT,z31,z32,z33,z34,qa1]
 try simp only[qa7,qa8,qb8,z31,z32,z2,z1]
abbrev x35:qb7:=hspec [] true none [.d qc8,.cap qc8] [.bool] (λx=>0<=x.2.1/\x.2.1<=BIG) (λx=>(!(inB x.1 0 (x.2.1-1)),()))
theorem w46:Meets Tryz.prog 229 x35:=by
 refine qm7 (SpecsOk.nil _) (snd (SpecsOk.cons qt2 (SpecsOk.nil _))) Tryz.func229 rfl rfl (λ_ _=>none) (λ_=>by kernel_rfl) (by decide) ?_
 rintro⟨n,k,⟨⟩⟩ h
 revert n k
 intro(n:Int) (k:Int) (h:0<=k/\k<=BIG)
 refine @qd1 _ (fits .i64 (k-(1:Int))/\True/\(!inB n (0:Int) (k-(1:Int)))=!inB n (0:Int) (k-(1:Int))) (by kernel_rfl) ?_
 try simp only[z0,z1,z2,z3,z4,z5,z6,z7,z8,z9,z10,Int.reduceEq,z11,z12,z13,z14,z15,z16,z17,z18,z19,z20,z21,z22,z23,z24,z25,z26,z27,z28,z29,z30,Int.reduceLE,Int.reduceLT,z31,z32,z33,z34,qa1]
 try simp only[qa7,qa8,qb8,z31,z32,z2,z1]
 unfold BIG at h
 exact qb5 (by omega) (by omega)
def x0k (l:List Int):Bool:=(List.range l.length).all λi=>decide (i=0) || decide (nI l (i-1)<nI l i)
def w8v (n:Int) (l:List Int):Int:=if x0k l=false then 7 else if l.any (λp=>!(inB p 0 (n-1))) then 5 else 0
theorem wf4 {l:List Int}:x0k l=true↔∀i,0<i->i<l.length->nI l (i-1)<nI l i:=by
 unfold x0k
 rw[List.all_eq_true]
 constructor
 ·intro h i h0 hi
  have:=h i (List.mem_range.2 hi)
  simp only[Bool.or_eq_true,decide_eq_true_eq] at this
  exact this.resolve_left (by omega)
 ·intro h i hi
  simp only[Bool.or_eq_true,decide_eq_true_eq]
  by_cases e:i=0
  ·exact .inl e
  ·exact .inr (h i (by omega) (List.mem_range.1 hi))
structure AscTo (l:List Int) (k:Nat):Prop where
 le:k<=l.length
 lt:∀i,0<i->i<k->nI l (i-1)<nI l i
theorem AscTo.step {l:List Int} {k:Nat} (h:AscTo l k) (hk:k<l.length) (h1:k=0\/nI l (k-1)<nI l k):AscTo l (k+1):=
 ⟨hk,λi h0 hi=>by
  by_cases e:i=k
  ·subst e; exact h1.resolve_left (by omega)
  ·exact h.lt i h0 (by omega)⟩
theorem AscTo.all {l:List Int} (h:AscTo l l.length):x0k l=true:=wf4.2 h.lt
theorem xk7 {l:List Int} {k:Nat} (h0:0<k) (hk:k<l.length) (h:nI l k<=nI l (k-1)):x0k l=false:=by
 cases e:x0k l with
 | false=>rfl
 | true=>have:=wf4.1 e k h0 hk; omega
def x72 (n:Int) (l:List Int):Nat->Option Inv
 | 0=>some (Inv.of [9] 1 (λk:Nat=>[(9,.lit (.int .i64 k))]) (λ_=>[.box 3 (.cons (.lit (.int .i64 n)) .nil)]) (λk=>AscTo l k) (λk=>l.length-k))
 | _=>none
abbrev yj2:qb7:=qf1 true none [qc8,qe9] [qc8] (λx=>(0<=x.1/\x.1<=BIG)/\x.2.1.length<=1000000) (λx=>(w8v x.1 x.2.1,()))
theorem w8w:Meets Tryz.prog 192 yj2:=by
 refine meets (snd (SpecsOk.cons (q3o (fs:=[(229,x35)]) (SpecsOk.cons w46 (SpecsOk.nil _))) (SpecsOk.nil _))) Tryz.func192 rfl rfl (λx=>x72 x.1 x.2.1) (λ_=>by kernel_rfl) (by decide) ?_
 rintro⟨n,l,⟨⟩⟩ h
 revert n l
 intro(n:Int) (l:List Int) (h:(0<=n/\n<=BIG)/\l.length<=1000000)
 refine @qd1 _ (∃(v0:Unit),∃(v1:Nat),AscTo l v1/\(((0:Int)=(↑v1:Int)/\True)/\(n=n/\True)/\True)/\∀(v2:Nat),AscTo l v2->(decide ((↑v2:Int)<(↑l.length:Int))=true->((0:Int)<=(↑v2:Int)/\(↑v2:Int)<(↑l.length:Int))/\(decide ((0:Int)<(↑v2:Int))=true->fits .i64 ((↑v2:Int)-(1:Int))/\((0:Int)<=(↑v2:Int)-(1:Int)/\(↑v2:Int)-(1:Int)<(↑l.length:Int))/\(decide (nI l v2<=nI l ((↑v2:Int)-(1:Int)).toNat)=true->(7:Int)=w8v n l)/\(decide (nI l v2<=nI l ((↑v2:Int)-(1:Int)).toNat)=false->fits .i64 ((↑v2:Int)+(1:Int))/\∃(v7:Nat),AscTo l v7/\l.length-v7<l.length-v2/\((↑v2:Int)+(1:Int)=(↑v7:Int)/\True)/\(n=n/\True)/\True))/\(decide ((0:Int)<(↑v2:Int))=false->fits .i64 ((↑v2:Int)+(1:Int))/\∃(v6:Nat),AscTo l v6/\l.length-v6<l.length-v2/\((↑v2:Int)+(1:Int)=(↑v6:Int)/\True)/\(n=n/\True)/\True))/\(decide ((↑v2:Int)<(↑l.length:Int))=false->∃(v5:qa4 [Ty.int .i64]->Prop),∃(v6:qa4 [Ty.int .i64]->Bool),(∀(v7:Int × qa4._f [] PUnit.unit),v5 v7->((0:PTy.den (PTy.cap qc8))<=n/\n<=BIG)/\(!inB v7.1 (0:Int) (n-(1:Int)))=v6 v7)/\(l.length<=(1000000:Nat)/\∀(v7:Nat),v7<l.length->v5 (nI l v7,()))/\((List.any l λ(v8:Int)=>v6 (v8,()))=true->(5:Int)=w8v n l)/\((List.any l λ(v8:Int)=>v6 (v8,()))=false->(0:Int)=w8v n l))) (by kernel_rfl) ?_
 try simp only[z0,z1,z2,z3,z4,z5,z6,z7,z8,z9,z10,Int.reduceEq,z11,z12,z13,z14,z15,z16,z17,z18,z19,z20,z21,z22,z23,z24,z25,z26,z27,z28,z29,z30,Int.reduceLE,Int.reduceLT,z31,z32,z33,z34,qa1]
 try simp only[qa7,qa8,qb8,z31,z32,z2,z1]
 obtain⟨hn,hl⟩:=h
 refine⟨(),0,⟨Nat.zero_le _,λi h0 hi=>by omega⟩,rfl,λk hk=>⟨λhlt=>⟨hlt,λh0=>?_,λh0=>⟨qb5 (by omega) (by omega),k+1,hk.step hlt (.inl (by omega)),by omega,by omega⟩⟩,λhge=>?_⟩⟩
 ·have e:((k:Int)-1).toNat=k-1:=by omega
  rw[e]
  refine⟨qb5 (by omega) (by omega),by omega,λh1=>?_,λh1=>⟨qb5 (by omega) (by omega),k+1,hk.step hlt (.inr h1),by omega,by omega⟩⟩
  unfold w8v
  rw[if_pos (xk7 (by omega) hlt h1)]
 ·obtain rfl:k=l.length:=by have:=hk.le; omega
  refine⟨λ_=>True,λx=>!(inB x.1 0 (n-1)),λx _=>⟨hn,by simp⟩,⟨hl,λ_ _=>trivial⟩,λh1=>?_,λh1=>?_⟩
  ·unfold w8v
   rw[if_neg (by simp[hk.all]),if_pos h1]
  ·unfold w8v
   rw[if_neg (by simp[hk.all]),if_neg (by rw[h1]; decide)]
structure Mk (m:List (List Int)):Prop where
 rows1:1<=m.length
 rows6:m.length<=6
 each:∀i,i<m.length->(nL m i).length=(nL m 0).length
 pix1:1<=(nL m 0).length
 pix10:(nL m 0).length<=10
 small:∀i,i<m.length->∀j,j<(nL m 0).length->-1<=nI (nL m i) j/\nI (nL m i) j<=1
theorem Mk.of {m:List (List Int)} (h:qa9 m=true):Mk m:=by
 unfold qa9 at h
 rw[Bool.and_eq_true,qh5,List.all_eq_true] at h
 obtain⟨h1,h2⟩:=h
 have each:∀i,i<m.length->(nL m i).length=(nL m 0).length/\rowB (nL m i)=true:=λi hi=>by
  have:=h2 (nL m i) (by unfold nL; rw[qq4 (t:=qe9) m i hi]; exact List.getElem_mem hi)
  rw[Bool.and_eq_true,decide_eq_true_eq] at this
  exact this
 have hr:∀i,i<m.length->(1<=(nL m i).length/\(nL m i).length<=10)/\∀j,j<(nL m i).length->-1<=nI (nL m i) j/\nI (nL m i) j<=1:=λi hi=>by
  have:=(each i hi).2
  unfold rowB at this
  rw[Bool.and_eq_true,qh5,List.all_eq_true] at this
  refine⟨by omega,λj hj=>qh5.1 (this.2 _ ?_)⟩
  unfold nI; rw[qq4 (t:=qc8) _ j hj]; exact List.getElem_mem hj
 have h0:=hr 0 (by omega)
 exact⟨by omega,by omega,λi hi=>(each i hi).1,h0.1.1,h0.1.2,λi hi j hj=>(hr i hi).2 j (by rw[(each i hi).1]; exact hj)⟩
def w19 (m:List (List Int)) (l:List Int):Int:=if qa9 m=false then 1 else w8v (nL m 0).length l
abbrev yj3:qb7:=qf1 true none [qg0,qe9] [qc8] (λx=>x.2.1.length<=1000000) (λx=>(w19 x.1 x.2.1,()))
theorem w8x:Meets Tryz.prog 134 yj3:=by
 refine meets (snd (SpecsOk.cons qp4 (SpecsOk.cons w8w (SpecsOk.nil _)))) Tryz.func134 rfl rfl (λ_ _=>none) (λ_=>by kernel_rfl) (by decide) ?_
 rintro⟨m,l,⟨⟩⟩ h
 revert m l
 intro(m:List (List Int)) (l:List Int) (h:l.length<=1000000)
 refine @qd1 _ (True/\((!qa9 m)=true->(1:Int)=w19 m l)/\((!qa9 m)=false->((0:Int)<=(0:Int)/\(0:Int)<(↑m.length:Int))/\(((0:Ty.den qc8)<=(↑(nL m (0:Nat)).length:Int)/\(↑(nL m (0:Nat)).length:Int)<=BIG)/\l.length<=(1000000:Nat))/\w8v (↑(nL m (0:Nat)).length:Int) l=w19 m l)) (by kernel_rfl) ?_
 try simp only[z0,z1,z2,z3,z4,z5,z6,z7,z8,z9,z10,Int.reduceEq,z11,z12,z13,z14,z15,z16,z17,z18,z19,z20,z21,z22,z23,z24,z25,z26,z27,z28,z29,z30,Int.reduceLE,Int.reduceLT,z31,z32,z33,z34,qa1]
 try simp only[qa7,qa8,qb8,z31,z32,z2,z1]
 refine⟨λhv=>by simp[w19,hv],λhv=>?_⟩
 have hM:=Mk.of hv
 have h1:=hM.rows1
 have h2:=hM.pix10
 unfold BIG
 exact⟨by omega,⟨by omega,h⟩,by simp[w19,hv]⟩
def x36 (y:List Int):Bool:=y.any λn=>!(inB n (0-1000000) 1000000)
def q8o (m:List (List Int)) (y l:List Int):Int:=if qa9 m=false then 1 else if ¬y.length=m.length then 9 else if x36 y then 7 else w19 m l
abbrev yj4:qb7:=qf1 true none [qg0,qe9,qe9] [qc8] (λx=>x.2.2.1.length<=1000000) (λx=>(q8o x.1 x.2.1 x.2.2.1,()))
theorem wo7:Meets Tryz.prog 78 yj4:=by
 refine meets (snd (SpecsOk.cons qp4 (SpecsOk.cons w8x (SpecsOk.cons w8u (SpecsOk.cons (q3o (fs:=[(190,x33)]) (SpecsOk.cons w45 (SpecsOk.nil _))) (SpecsOk.nil _)))))) Tryz.func78 rfl rfl (λ_ _=>none) (λ_=>by kernel_rfl) (by decide) ?_
 rintro⟨m,y,l,⟨⟩⟩ h
 revert m y l
 intro(m:List (List Int)) (y:List Int) (l:List Int) (h:l.length<=1000000)
 refine @qd1 _ (True/\((!qa9 m)=true->(1:Int)=q8o m y l)/\((!qa9 m)=false->(((↑y.length:Int) != (↑m.length:Int))=true->(9:Int)=q8o m y l)/\(((↑y.length:Int) != (↑m.length:Int))=false->True/\∃(v2:qa4 [Ty.int .i64]->Prop),∃(v3:qa4 [Ty.int .i64]->Bool),(∀(v4:Int × qa4._f [] PUnit.unit),v2 v4->((0:PTy.den (PTy.cap qc8))<=(1000000:Int)/\(1000000:Int)<=BIG)/\(!inB v4.1 ((0:Int)-(1000000:Int)) (1000000:Int))=v3 v4)/\(y.length<=(1000000:Nat)/\∀(v4:Nat),v4<y.length->v2 (nI y v4,()))/\((List.any y λ(v5:Int)=>v3 (v5,()))=true->(7:Int)=q8o m y l)/\((List.any y λ(v5:Int)=>v3 (v5,()))=false->l.length<=(1000000:Nat)/\w19 m l=q8o m y l)))) (by kernel_rfl) ?_
 try simp only[z0,z1,z2,z3,z4,z5,z6,z7,z8,z9,z10,Int.reduceEq,z11,z12,z13,z14,z15,z16,z17,z18,z19,z20,z21,z22,z23,z24,z25,z26,z27,z28,z29,z30,Int.reduceLE,Int.reduceLT,z31,z32,z33,z34,qa1]
 try simp only[qa7,qa8,qb8,z31,z32,z2,z1]
 refine⟨λhv=>by simp[q8o,hv],λhv=>⟨λhl=>?_,λhl=>?_⟩⟩
 ·have hl:¬y.length=m.length:=by omega
  simp[q8o,hv,hl]
 have hl:y.length=m.length:=by omega
 have hM:=Mk.of hv
 have h1:=hM.rows6
 refine⟨λ_=>True,λx=>!(inB x.1 (0-1000000) 1000000),λx _=>⟨by decide,by simp⟩,⟨by omega,λ_ _=>trivial⟩,λho=>?_,λho=>⟨h,?_⟩⟩
 ·have ho:x36 y=true:=ho
  simp[q8o,hv,hl,ho]
 ·have ho:x36 y=false:=ho
  simp[q8o,hv,hl,ho]
structure x37 (m:List (List Int)):Prop where
 rows:m.length<=9223372036854775807
 each:∀i,i<m.length->(nL m i).length<=9223372036854775807
structure RowTo (l:List Int) (k:Nat):Prop where
 le:k<=l.length
 ok:∀i,i<k->inB (nI l i) (-1) 1=true
theorem RowTo.all {l:List Int} (h:RowTo l l.length):(l.all λn=>inB n (-1) 1)=true:=by
 rw[List.all_eq_true]
 intro x hx
 obtain⟨i,hi,rfl⟩:=List.getElem_of_mem hx
 rw[<- qg5 l i hi]; exact h.ok i hi
theorem wf5 (l:List Int) (k:Nat) (hk:k<l.length):l.take (k+1)=l.take k++[nI l k]:=by
 rw[List.take_add_one,List.getElem?_eq_getElem hk,qg5 l k hk]; rfl
def ql7 (n:Nat):List Int:=(List.range n).map λi:Nat=>(i:Int)
theorem w8y (n:Nat):ql7 (n+1)=ql7 n++[(n:Int)]:=by simp[ql7,List.range_succ]
theorem qd8 (n:Nat):(ql7 n).length=n:=by simp[ql7]
theorem qv5 (n i:Nat) (h:i<n):nI (ql7 n) i=i:=by rw[qg5 _ _ (by rw[qd8]; exact h)]; simp[ql7]
abbrev yj5:qb7:=q8r (q02 [qc8]) true (some 3) .none (λx=>x.1<=100000) (λx=>.dat (.int .i64) (ql7 x.1.toNat))
def x73 (n:Nat):Nat->Option Inv
 | 0=>some (Inv.of [3,6] 1 (λk:Nat=>[(3,.own 0),(6,.lit (.int .i64 k))]) (λk=>[.vec 3 (.int .i64) (ql7 k)]) (λk=>k<=n) (λk=>n-k))
 | _=>none
theorem q3p:Meets Tryz.prog 72 yj5:=by
 refine q9k (snd (SpecsOk.nil _)) Tryz.func72 rfl rfl (qm4 [qc8]) (λx=>x73 x.1.toNat) (λ_=>by kernel_rfl) (by decide) ?_
 rintro⟨n,⟨⟩⟩ h
 revert n
 intro(n:Int) (h:n<=100000)
 refine @qd1 _ (∃(v0:Unit),∃(v1:Nat),Nat.le v1 n.toNat/\((True/\(0:Int)=(↑v1:Int)/\True)/\ql7 v1=[]/\True)/\∀(v2:Nat),Nat.le v2 n.toNat->(decide ((↑v2:Int)<n)=true->((0:Nat)<List.length [(↑v2:Int)]/\Nat.le ((ql7 v2).length+List.length [(↑v2:Int)]) (1000000:Nat))/\fits .i64 ((↑v2:Int)+(1:Int))/\∃(v5:Nat),Nat.le v5 n.toNat/\n.toNat-v5<n.toNat-v2/\(True/\(↑v2:Int)+(1:Int)=(↑v5:Int)/\True)/\ql7 v2++[(↑v2:Int)]=ql7 v5/\True)/\(decide ((↑v2:Int)<n)=false->ql7 v2=ql7 n.toNat)) (by kernel_rfl) ?_
 try simp only[z0,z1,z2,z3,z4,z5,z6,z7,z8,z9,z10,Int.reduceEq,z11,z12,z13,z14,z15,z16,z17,z18,z19,z20,z21,z22,z23,z24,z25,z26,z27,z28,z29,z30,Int.reduceLE,Int.reduceLT,z31,z32,z33,z34,qa1]
 try simp only[qa7,qa8,qb8,z31,z32,z2,z1]
 refine⟨(),0,Nat.zero_le _,⟨rfl,rfl⟩,λk hk=>⟨λhlt=>⟨by rw[qd8]; omega,qb5 (by omega) (by omega),k+1,by omega,by omega,by omega,(w8y k).symm⟩,λhge=>?_⟩⟩
 rw[show n.toNat=k by omega]
abbrev x0l:qb7:=qf1 true none [qc8] [qe9] (λ_=>True) (λ_=>([],()))
theorem q9t:Meets Tryz.prog 73 x0l:=by
 refine meets (snd (SpecsOk.nil _)) Tryz.func73 rfl rfl (λ_ _=>none) (λ_=>by kernel_rfl) (by decide) ?_
 rintro⟨n,⟨⟩⟩ -
 revert n
 intro(n:Int)
 refine @qd1 _ (x2o Int) (by kernel_rfl) ?_
 try simp only[z0,z1,z2,z3,z4,z5,z6,z7,z8,z9,z10,Int.reduceEq,z11,z12,z13,z14,z15,z16,z17,z18,z19,z20,z21,z22,z23,z24,z25,z26,z27,z28,z29,z30,Int.reduceLE,Int.reduceLT,z31,z32,z33,z34,qa1]
 try simp only[qa7,qa8,qb8,z31,z32,z2,z1]
abbrev x4a:qb7:=hspec [] true none [.d qc8,.cap qe9] [qe9] (λx=>0<=x.1/\x.1<x.2.1.length) (λx=>([nI x.2.1 x.1.toNat],()))
theorem w47:Meets Tryz.prog 249 x4a:=by
 refine qm7 (SpecsOk.nil _) (yh9 [8] (SpecsOk.nil _)) Tryz.func249 rfl rfl (λ_ _=>none) (λ_=>by kernel_rfl) (by decide) ?_
 rintro⟨n,y,⟨⟩⟩ h
 revert n y
 intro(n:Int) (y:List Int) (h:0<=n/\n<y.length)
 refine @qd1 _ (((0:Int)<=n/\n<(↑y.length:Int))/\[nI y n.toNat]=[nI y n.toNat]) (by kernel_rfl) ?_
 try simp only[z0,z1,z2,z3,z4,z5,z6,z7,z8,z9,z10,Int.reduceEq,z11,z12,z13,z14,z15,z16,z17,z18,z19,z20,z21,z22,z23,z24,z25,z26,z27,z28,z29,z30,Int.reduceLE,Int.reduceLT,z31,z32,z33,z34,qa1]
 try simp only[qa7,qa8,qb8,z31,z32,z2,z1]
 exact h
def qx0 (r pix:List Int):List Int:=pix.map λp=>nI r p.toNat
def qb4 (m:List (List Int)) (pix:List Int) (f:Int->List Int):List (List Int):=(List.range m.length).map λi=>qx0 (nL m i) pix++f i
structure ChoOk (m:List (List Int)) (pix:List Int) (p:qa4 [.int .i64]->Prop) (f:qa4 [.int .i64]->List Int):Prop where
 rows:m.length<=10000
 cols:pix.length<=10000
 at_:∀i,i<m.length->∀j,j<pix.length->0<=nI pix j/\nI pix j<(nL m i).length
 fn:∀i:Nat,i<m.length->p ((i:Int),())/\(f ((i:Int),())).length<=10000
theorem qj2 (r pix:List Int):(qx0 r pix).length=pix.length:=by simp[qx0]
theorem qp5 (r pix:List Int) (j:Nat) (hj:j<pix.length):nI (qx0 r pix) j=nI r (nI pix j).toNat:=by
 rw[qg5 _ _ (by rw[qj2]; exact hj),qg5 pix j hj]; simp[qx0]
theorem ql2 (m:List (List Int)) (pix:List Int) (f:Int->List Int):(qb4 m pix f).length=m.length:=by simp[qb4]
theorem qx1 (m:List (List Int)) (pix:List Int) (f:Int->List Int) (i:Nat) (hi:i<m.length):nL (qb4 m pix f) i=qx0 (nL m i) pix++f i:=by
 rw[qj8 _ _ (by rw[ql2]; exact hi)]; simp[qb4]
theorem takeL_snoc (m:List (List Int)) (k:Nat) (hk:k<m.length):m.take (k+1)=m.take k++[nL m k]:=by
 rw[List.take_add_one,List.getElem?_eq_getElem hk,qj8 m k hk]; rfl
abbrev yj6 (fs:List (Nat × qb7)):qb7:=q8r (wn7 fs [.d qg0,.d qe9,.fn [qc8] qe9]) true (some 34) (some 3) (λx=>ChoOk x.1 x.2.1 x.2.2.1.1 x.2.2.1.2) (λx=>.dat (.list (.int .i64)) (qb4 x.1 x.2.1 λi=>x.2.2.1.2 (i,())))
def x74 (m:List (List Int)) (pix:List Int) (f:Int->List Int):Nat->Option Inv
 | 0=>some (Inv.of [7,15] 1 (λk:Nat=>[(7,.msl 0 .none),(15,.lit (.int .i64 k))]) (λk=>[.mat 34 3 (.int .i64) ((qb4 m pix f).take k) .none .none]) (λk=>k<=m.length) (λk=>m.length-k))
 | 1=>some (Eng.Inv.mk Nat Nat [7,10,22] 2 (λ_ j=>[(7,.msl 0 .none),(10,.own 1),(22,.lit (.int .i64 j))]) (λk j=>[.mat 34 3 (.int .i64) ((qb4 m pix f).take k) .none .none,.vec 3 (.int .i64) ((qx0 (nL m k) pix).take j)]) (λ_ j=>j<=pix.length) (λ_ j=>pix.length-j))
 | _=>none
theorem q3q {fs:List (Nat × qb7)} (hfs:SpecsOk Tryz.prog fs):Meets Tryz.prog 71 (yj6 fs):=by
 refine q9k (x7w [40] [39] (SpecsOk.nil _)) Tryz.func71 rfl rfl (q3m hfs [.d qg0,.d qe9,.fn [qc8] qe9]) (λx=>x74 x.1 x.2.1 λi=>x.2.2.1.2 (i,())) (λ_=>by kernel_rfl) (show 3<=_ by decide) ?_
 rintro⟨m,pix,⟨p,f⟩,⟨⟩⟩ h
 revert m pix p f
 intro(m:List (List Int)) (pix:List Int) (p:qa4 [.int .i64]->Prop) (f:qa4 [.int .i64]->List Int) (h:ChoOk m pix p f)
 refine @qd1 _ (∃(v0:Unit),∃(v1:Nat),Nat.le v1 m.length/\((True/\(0:Int)=(↑v1:Int)/\True)/\List.take v1 (qb4 m pix λ(v2:Int)=>f (v2,()))=[]/\True)/\∀(v2:Nat),Nat.le v2 m.length->(decide ((↑v2:Int)<(↑m.length:Int))=true->((0:Int)<=(↑v2:Int)/\(↑v2:Int)<(↑m.length:Int))/\∃(v5:Nat),∃(v6:Nat),Nat.le v6 pix.length/\((True/\True/\(0:Int)=(↑v6:Int)/\True)/\(List.take v2 (qb4 m pix λ(v7:Int)=>f (v7,()))=List.take v5 (qb4 m pix λ(v7:Int)=>f (v7,()))/\True/\True)/\List.take v6 (qx0 (nL m v5) pix)=[]/\True)/\∀(v7:Nat),Nat.le v7 pix.length->(decide ((↑v7:Int)<(↑pix.length:Int))=true->((0:Int)<=(↑v7:Int)/\(↑v7:Int)<(↑pix.length:Int))/\((0:Int)<=nI pix v7/\nI pix v7<(↑(nL m v2).length:Int))/\((0:Nat)<List.length [nI (nL m v2) (nI pix v7).toNat]/\Nat.le ((List.take v7 (qx0 (nL m v5) pix)).length+List.length [nI (nL m v2) (nI pix v7).toNat]) (1000000:Nat))/\fits .i64 ((↑v7:Int)+(1:Int))/\∃(v10:Nat),Nat.le v10 pix.length/\pix.length-v10<pix.length-v7/\(True/\True/\(↑v7:Int)+(1:Int)=(↑v10:Int)/\True)/\(List.take v5 (qb4 m pix λ(v11:Int)=>f (v11,()))=List.take v5 (qb4 m pix λ(v11:Int)=>f (v11,()))/\True/\True)/\List.take v7 (qx0 (nL m v5) pix)++[nI (nL m v2) (nI pix v7).toNat]=List.take v10 (qx0 (nL m v5) pix)/\True)/\(decide ((↑v7:Int)<(↑pix.length:Int))=false->p ((↑v2:Int),())/\Nat.le ((List.take v7 (qx0 (nL m v5) pix)).length+(f ((↑v2:Int),())).length) (1000000:Nat)/\((0:Nat)<(0:Nat)+(1:Nat)/\(List.take v5 (qb4 m pix λ(v10:Int)=>f (v10,()))).length+((0:Nat)+(1:Nat))<=(1000000:Nat))/\fits .i64 ((↑v2:Int)+(1:Int))/\∃(v10:Nat),Nat.le v10 m.length/\m.length-v10<m.length-v2/\(True/\(↑v2:Int)+(1:Int)=(↑v10:Int)/\True)/\(List.take v5 (qb4 m pix λ(v11:Int)=>f (v11,()))++[List.take v7 (qx0 (nL m v5) pix)++f ((↑v2:Int),())]=List.take v10 (qb4 m pix λ(v11:Int)=>f (v11,()))/\True/\True)/\True))/\(decide ((↑v2:Int)<(↑m.length:Int))=false->List.take v2 (qb4 m pix λ(v5:Int)=>f (v5,()))=qb4 m pix λ(v5:Int)=>f (v5,()))) (by kernel_rfl) ?_
 try simp only[z0,z1,z2,z3,z4,z5,z6,z7,z8,z9,z10,Int.reduceEq,z11,z12,z13,z14,z15,z16,z17,z18,z19,z20,z21,z22,z23,z24,z25,z26,z27,z28,z29,z30,Int.reduceLE,Int.reduceLT,z31,z32,z33,z34,qa1]
 try simp only[qa7,qa8,qb8,z31,z32,z2,z1]
 have hr:=h.rows
 have hc:=h.cols
 have hl:=ql2 m pix λi=>f (i,())
 refine⟨(),0,Nat.zero_le _,⟨rfl,rfl⟩,λk hk=>⟨λhlt=>⟨hlt,k,0,Nat.zero_le _,⟨rfl,rfl,rfl⟩,λj hj=>⟨λhj2=>?_,λhj2=>?_⟩⟩,λhge=>?_⟩⟩
 ·have h1:=qj2 (nL m k) pix
  refine⟨hj2,h.at_ k hlt j hj2,by rw[List.length_take]; omega,qb5 (by omega) (by omega),j+1,by omega,by omega,by omega,?_⟩
  rw[wf5 _ j (by omega),qp5 _ _ _ hj2]
 ·obtain rfl:j=pix.length:=by omega
  have h1:=qj2 (nL m k) pix
  have h2:=h.fn k hlt
  have h3:(qx0 (nL m k) pix).take pix.length=qx0 (nL m k) pix:=List.take_of_length_le (by omega)
  rw[h3]
  refine⟨h2.1,by omega,by rw[List.length_take]; omega,qb5 (by omega) (by omega),k+1,by omega,by omega,by omega,?_⟩
  rw[takeL_snoc _ k (by omega),qx1 _ _ _ _ hlt]
 ·rw[List.take_of_length_le (by omega)]
abbrev x4b:qb7:=hspec [] true none [.d qe9,.cap qc8] [.bool] (λx=>0<=x.2.1/\x.2.1<x.1.length) (λx=>(nI x.1 x.2.1.toNat != 0,()))
theorem w48:Meets Tryz.prog 130 x4b:=by
 refine qm7 (SpecsOk.nil _) (snd (SpecsOk.nil _)) Tryz.func130 rfl rfl (λ_ _=>none) (λ_=>by kernel_rfl) (by decide) ?_
 rintro⟨l,j,⟨⟩⟩ h
 revert l j
 intro(l:List Int) (j:Int) (h:0<=j/\j<l.length)
 refine @qd1 _ (((0:Int)<=j/\j<(↑l.length:Int))/\(nI l j.toNat != (0:Int))=(nI l j.toNat != (0:Int))) (by kernel_rfl) ?_
 try simp only[z0,z1,z2,z3,z4,z5,z6,z7,z8,z9,z10,Int.reduceEq,z11,z12,z13,z14,z15,z16,z17,z18,z19,z20,z21,z22,z23,z24,z25,z26,z27,z28,z29,z30,Int.reduceLE,Int.reduceLT,z31,z32,z33,z34,qa1]
 try simp only[qa7,qa8,qb8,z31,z32,z2,z1]
 exact h
def qt3 (rows:List (List Int)) (k j:Nat):Int:=ixT (.list (.int .i64)) (λr=>nI r j != 0) (rows.drop k)
def wo8 (rows:List (List Int)) (a b:Nat):List (List Int):=(rows.set a (nL rows b)).set b (nL rows a)
def xk8 (r:List Int):List Int:=(List.range r.length).map λi=>0-nI r i
def q1t (rows:List (List Int)) (k j:Nat):List (List Int):=wo8 rows k (k+(qt3 rows k j).toNat)
def qi7 (rows:List (List Int)) (k j:Nat):List (List Int):=if nI (nL (q1t rows k j) k) j<0 then(q1t rows k j).set k (xk8 (nL (q1t rows k j) k)) else q1t rows k j
def wj4 (rows:List (List Int)) (k j i:Nat):List Int:=if i≠k/\nI (nL rows i) j≠0 then qw9 (nL rows i) (nL rows k) j else nL rows i
def xe8 (rows:List (List Int)) (k j:Nat):List (List Int):=(List.range rows.length).map (wj4 rows k j)
def qv6 (s:List (List Int) × List Int) (j:Nat):List (List Int) × List Int:=if qt3 s.1 s.2.length j<0 then s else(xe8 (qi7 s.1 s.2.length j) s.2.length j,s.2++[(j:Int)])
def qc7 (rows:List (List Int)):Nat->List (List Int) × List Int
 | 0=>(rows,[])
 | j+1=>qv6 (qc7 rows j) j
structure xt5 (rows:List (List Int)) (k j:Nat):Prop where
 neg:∀x∈nL (q1t rows k j) k,qf8 BIG x
 clr:∀i,i<rows.length->i≠k->nI (nL (qi7 rows k j) i) j≠0->wo2 (nL (qi7 rows k j) i) (nL (qi7 rows k j) k) j
structure q2u (rows:List (List Int)) (cols W:Nat):Prop where
 n:rows.length<=1000
 w:W<=1000
 cw:cols<=W
 each:∀i,i<rows.length->(nL rows i).length=W
 step:∀j,j<cols->0<=qt3 (qc7 rows j).1 (qc7 rows j).2.length j->xt5 (qc7 rows j).1 (qc7 rows j).2.length j
abbrev yj7:qm0:=q5q (q02 [qc8]) true false 34 3 (.int .i64) (λrows x=>0<=x.1/\∃W,q2u rows x.1.toNat W) (λrows x=>.dat (.int .i64) (qc7 rows x.1.toNat).2) (λrows x=>(qc7 rows x.1.toNat).1)
def xt6:List AObj:=[.dead,.dead,.dead,.dead,.dead,.dead,.dead,.dead,.dead,.dead,.dead,.dead,.dead,.dead,.dead,.dead,.dead,.dead,.dead,.dead,.dead,.dead,.dead,.dead,.dead,.dead,.dead,.dead]
structure xk9 (rows:List (List Int)) (k i:Nat) (r:List (List Int)):Prop where
 le:i<=(nL rows k).length
 eq:r=rows.set k (ovr (.int .i64) (λq=>0-nI (nL rows k) q) (nL rows k) i)
structure q7d (rows:List (List Int)) (k j i:Nat) (r:List (List Int)):Prop where
 le:i<=rows.length
 eq:r=ovr (.list (.int .i64)) (wj4 rows k j) rows i
structure w49 (R:List (List Int)) (c j:Nat) (r:List (List Int)) (p:List Int):Prop where
 le:j<=c
 eq:qc7 R j=(r,p)
def x75 (T:q5k) (R:List (List Int)) (c:Nat):Nat->Option Inv
 | 0=>some (Inv.of [0,5,13] 2 (λs:Nat × List (List Int) × List Int=>[(0,.msl 0 .none),(5,.own 1),(13,.lit (.int .i64 s.1))]) (λs=>[.mat 34 3 (.int .i64) s.2.1 .none (some T),.vec 3 (.int .i64) s.2.2]) (λs=>w49 R c s.1 s.2.1 s.2.2) (λs=>c-s.1))
 | 1=>some (Eng.Inv.mk (Nat × Nat × List (List Int) × List Int) (Nat × List (List Int)) [0,5,56] 31 (λ_ s=>[(0,.msl 0 .none),(5,.own 1),(56,.lit (.int .i64 s.1))]) (λq s=>.mat 34 3 (.int .i64) s.2 .none (some T) :: .vec 3 (.int .i64) q.2.2.2 :: .box 3 (.cons (.lit (.int .i64 q.1)) .nil) :: xt6) (λq s=>xk9 q.2.2.1 q.2.1 s.1 s.2) (λq s=>(nL q.2.2.1 q.2.1).length-s.1))
 | 2=>some (Eng.Inv.mk (Nat × Nat × List (List Int) × List Int) (Nat × List (List Int)) [0,5,74,76] 31 (λ_ s=>[(0,.msl 0 .none),(5,.own 1),(74,.msl 0 .none),(76,.lit (.int .i64 s.1))]) (λq s=>.mat 34 3 (.int .i64) s.2 .none (some T) :: .vec 3 (.int .i64) q.2.2.2 :: .box 3 (.cons (.lit (.int .i64 q.1)) .nil) :: xt6) (λq s=>q7d q.2.2.1 q.2.1 q.1 s.1 s.2) (λq s=>q.2.2.1.length-s.1))
 | _=>none
theorem q4p (n:Nat):qe3 n none=n:=rfl
theorem w5a (n:Nat) (l:List Nat):qe3 n (some l)=l.length:=rfl
theorem xl0 (n:Nat):ixL n none=List.range n:=rfl
theorem xl1 (n:Nat) (l:List Nat):ixL n (some l)=l:=rfl
theorem q7e (i:Nat):qe7 none i=i:=rfl
theorem w8z (l:List Nat) (i:Nat):qe7 (some l) i=l.getD i 0:=rfl
theorem wo9 (r:List (List Int)):q15 (.int .i64) r none=r:=rfl
theorem w80 (r:List (List Int)) (l:List Nat):q15 (.int .i64) r (some l)=l.map λp=>nL r p:=rfl
theorem xl2 (n k b:Nat) (hk:k<n) (hb:b<n):(((List.range n).set k b).set b k).getD k 0=b:=by
 rw[List.getD_eq_getElem?_getD]
 by_cases e:b=k
 ·subst e
  rw[List.getElem?_set_self (by simpa using hb)]; rfl
 ·rw[List.getElem?_set_ne e,List.getElem?_set_self (by simpa using hk)]; rfl
theorem w81 (n k b:Nat) (hk:k<n) (hb:b<n):(((List.range n).set k b).set b k).Nodup:=by
 rw[List.nodup_iff_pairwise_ne,List.pairwise_iff_getElem]
 intro i j hi hj hij
 simp only[List.length_set,List.length_range] at hi hj
 simp only[List.getElem_set,List.getElem_range]
 split <;> split <;> (try split) <;> (try split) <;> omega
theorem x0m (r:List (List Int)) (k b:Nat) (hk:k<r.length) (hb:b<r.length):((((List.range r.length).set k b).set b k).map λp=>nL r p)=wo8 r k b:=by
 apply List.ext_getElem (by simp[wo8])
 intro i h1 h2
 have hi:i<r.length:=by simpa using h1
 simp only[List.getElem_map,List.getElem_set,List.getElem_range,wo8]
 split
 ·rfl
 ·split
  ·rfl
  ·exact qj8 r i hi
theorem wp0 (r:List (List Int)) (k b:Nat):(wo8 r k b).length=r.length:=by simp[wo8]
theorem q3r (r:List (List Int)) (k b:Nat) (hk:k<r.length) (hb:b<r.length) (i:Nat) (hi:i<r.length):nL (wo8 r k b) i=if i=b then nL r k else if i=k then nL r b else nL r i:=by
 rw[qj8 _ i (by rw[wp0]; exact hi)]
 simp only[wo8,List.getElem_set]
 by_cases e:b=i
 ·rw[if_pos e,if_pos e.symm]
 ·rw[if_neg e,if_neg (Ne.symm e)]
  by_cases e2:k=i
  ·rw[if_pos e2,if_pos e2.symm]
  ·rw[if_neg e2,if_neg (Ne.symm e2),qj8 r i hi]
theorem q9u (l:List Int):(qe4 l).length=l.length:=by unfold qe4; split <;> simp
theorem q9v (r b:List Int) (c:Nat):(qw9 r b c).length=r.length:=by unfold qw9; rw[q9u,q1q]
theorem q53 (r:List Int):(xk8 r).length=r.length:=by simp[xk8]
theorem q54 (r:List (List Int)) (k j:Nat):(q1t r k j).length=r.length:=wp0 _ _ _
theorem qi4 (r:List (List Int)) (k j:Nat):(qi7 r k j).length=r.length:=by
 unfold qi7; split
 ·rw[List.length_set,q54]
 ·rw[q54]
theorem wf6 (r:List (List Int)) (k:Nat) (x:List Int) (i:Nat) (hi:i<r.length):nL (r.set k x) i=if i=k then x else nL r i:=by
 rw[qj8 _ i (by rw[List.length_set]; exact hi),List.getElem_set]
 by_cases e:k=i
 ·rw[if_pos e,if_pos e.symm]
 ·rw[if_neg e,if_neg (Ne.symm e),qj8 r i hi]
theorem q1u (r:List (List Int)) (k j:Nat) (hk:k<=r.length) (h:0<=qt3 r k j):k+(qt3 r k j).toNat<r.length:=by
 have:=(w8o (.list (.int .i64)) (λr=>nI r j != 0) (r.drop k)).1
 unfold qt3 at h ⊢
 rw[List.length_drop] at this
 omega
theorem q3s (r:List (List Int)) (k j i:Nat) (hi:i<r.length):nL (qi7 r k j) i=if i=k/\nI (nL (q1t r k j) k) j<0 then xk8 (nL (q1t r k j) k) else nL (q1t r k j) i:=by
 unfold qi7
 split
 ·rename_i h
  rw[wf6 _ _ _ _ (by rw[q54]; exact hi)]
  by_cases e:i=k
  ·rw[if_pos e,if_pos ⟨e,h⟩]
  ·rw[if_neg e,if_neg λq=>e q.1]
 ·rename_i h
  rw[if_neg λq=>h q.2]
theorem wf7 (r:List (List Int)) (k j:Nat):(xe8 r k j).length=r.length:=by simp[xe8]
theorem w82 (r:List (List Int)) (k j i:Nat) (hi:i<r.length):nL (xe8 r k j) i=wj4 r k j i:=by
 rw[qj8 _ i (by rw[wf7]; exact hi)]; simp[xe8]
structure RedSh (n W:Nat) (s:List (List Int) × List Int) (j:Nat):Prop where
 cnt:s.1.length=n
 each:∀i,i<n->(nL s.1 i).length=W
 piv:s.2.length<=n
 pivj:s.2.length<=j
theorem q7f {r:List (List Int)} {k j W:Nat} (hk:k<=r.length) (h:0<=qt3 r k j) (he:∀i,i<r.length->(nL r i).length=W):∀i,i<r.length->(nL (q1t r k j) i).length=W:=λi hi=>by
 have hb:=q1u r k j hk h
 unfold q1t
 rw[q3r _ _ _ (by omega) hb i hi]
 split
 ·exact he _ (by omega)
 ·split
  ·exact he _ hb
  ·exact he _ hi
theorem q1v {r:List (List Int)} {k j W:Nat} (hk:k<=r.length) (h:0<=qt3 r k j) (he:∀i,i<r.length->(nL r i).length=W):∀i,i<r.length->(nL (qi7 r k j) i).length=W:=λi hi=>by
 have hb:=q1u r k j hk h
 have h1:=q7f hk h he
 rw[q3s _ _ _ _ hi]
 split
 ·rw[q53]; exact h1 _ (by omega)
 ·exact h1 _ hi
theorem RedSh.step {n W j:Nat} {s:List (List Int) × List Int} (h:RedSh n W s j):RedSh n W (qv6 s j) (j+1):=by
 unfold qv6
 split
 ·exact⟨h.cnt,h.each,h.piv,by have:=h.pivj; omega⟩
 ·rename_i hp
  have hp:0<=qt3 s.1 s.2.length j:=by omega
  have hn:=h.cnt
  have hb:=q1u s.1 s.2.length j (by rw[hn]; exact h.piv) hp
  have he:=q1v (W:=W) (by rw[hn]; exact h.piv) hp (λi hi=>h.each i (by omega))
  refine⟨by rw[wf7,qi4]; exact hn,λi hi=>?_,?_,?_⟩
  ·rw[w82 _ _ _ _ (by rw[qi4]; omega)]
   unfold wj4
   split
   ·rw[q9v]; exact he i (by omega)
   ·exact he i (by omega)
  ·rw[List.length_append]; simp; omega
  ·rw[List.length_append]; have:=h.pivj; simp; omega
theorem q1w {R:List (List Int)} {c W:Nat} (h:q2u R c W):∀j,RedSh R.length W (qc7 R j) j
 | 0=>⟨rfl,h.each,Nat.zero_le _,Nat.le_refl _⟩
 | j+1=>(q1w h j).step
theorem q3t (r:List (List Int)) (k j:Nat):wj4 r k j k=nL r k:=by unfold wj4; rw[if_neg]; exact λh=>h.1 rfl
theorem q55 (t:Ty) (g:Nat->t.den) (l:List t.den) (k:Nat) (h:k<l.length->g k=qf2 t l k):ovr t g l k=ovr t g l (k+1):=by
 unfold ovr
 apply List.map_congr_left
 intro i hi
 have hi:=List.mem_range.1 hi
 by_cases e:i=k
 ·subst e; rw[if_neg (Nat.lt_irrefl _),if_pos (by omega),h hi]
 ·by_cases h2:i<k
  ·rw[if_pos h2,if_pos (by omega)]
  ·rw[if_neg h2,if_neg (by omega)]
theorem q3u:qo0 Tryz.prog 70 yj7:=by
 refine q04 (x7y [17,22] (SpecsOk.cons (wo3 (fs:=[(130,x4b)]) (SpecsOk.cons w48 (SpecsOk.nil _))) (SpecsOk.nil _)) (MutsOk.cons wy1 MutsOk.nil)) Tryz.func70 rfl rfl (qm4 [qc8]) (λT rows x=>x75 T rows x.1.toNat) (λ_ _ _=>by kernel_rfl) (by decide) ?_ rfl
 rintro T rows ⟨c,⟨⟩⟩ h -
 revert rows c
 intro(rows:List (List Int)) (c:Int) (h:0<=c/\∃W,q2u rows c.toNat W)
 refine @qd1 _ (let Q0:=List Int; let Q1:=qm0.t xt2; ∃(v0:Unit),∃(v1:Nat × List Q0 × List Int),w49 rows c.toNat v1.1 v1.2.1 v1.2.2/\((True/\True/\(0:Int)=(↑v1.1:Int)/\True)/\(rows=v1.2.1/\True/\T=T)/\v1.2.2=[]/\True)/\∀(v2:Nat × List Q0 × List Int),w49 rows c.toNat v2.1 v2.2.1 v2.2.2->(decide ((↑v2.1:Int)<c)=true->∀(v5:Int),v5=(↑v2.2.2.length:Int)->((0:Int)<=v5/\v5<=(↑(qe3 v2.2.1.length none):Int)/\(↑(qe3 v2.2.1.length none):Int)<=(↑(qe3 v2.2.1.length none):Int))/\∃(v7:qa4 [Ty.list (Ty.int .i64)]->Prop),∃(v8:qa4 [Ty.list (Ty.int .i64)]->Bool),(∀(v9:List Int × qa4._f [] PUnit.unit),v7 v9->((0:PTy.den (PTy.cap qc8))<=(↑v2.1:Int)/\(↑v2.1:Int)<(↑v9.1.length:PTy.den (PTy.cap qc8)))/\(nI v9.1 (↑v2.1:Int).toNat != (0:Int))=v8 v9)/\((List.drop v5.toNat (List.take (↑(qe3 v2.2.1.length none):Int).toNat (q15 (Ty.int .i64) v2.2.1 none))).length<=(1000000:Nat)/\∀(v9:Nat),v9<(List.drop v5.toNat (List.take (↑(qe3 v2.2.1.length none):Int).toNat (q15 (Ty.int .i64) v2.2.1 none))).length->v7 (nL (List.drop v5.toNat (List.take (↑(qe3 v2.2.1.length none):Int).toNat (q15 (Ty.int .i64) v2.2.1 none))) v9,()))/\∀(v9:Int),v9=ixT (Ty.list (Ty.int .i64)) (λ(v11:List Int)=>v8 (v11,())) (List.drop v5.toNat (List.take (↑(qe3 v2.2.1.length none):Int).toNat (q15 (Ty.int .i64) v2.2.1 none)))->(decide (v9<(0:Int))=true->fits .i64 ((↑v2.1:Int)+(1:Int))/\∃(v12:Nat × List Q0 × List Int),w49 rows c.toNat v12.1 v12.2.1 v12.2.2/\c.toNat-v12.1<c.toNat-v2.1/\(True/\True/\(↑v2.1:Int)+(1:Int)=(↑v12.1:Int)/\True)/\(v2.2.1=v12.2.1/\True/\T=T)/\v2.2.2=v12.2.2/\True)/\(decide (v9<(0:Int))=false->fits .i64 (v5+v9)/\fits .i64 (v5+v9)/\((0:Int)<=v5+v9/\v5+v9<(↑(qe3 v2.2.1.length none):Int))/\(v5+v9).toNat<qe3 v2.2.1.length none/\((0:Int)<=v5/\v5<(↑(qe3 v2.2.1.length none):Int))/\v5.toNat<qe3 v2.2.1.length none/\((0:Int)<=v5/\v5<(↑(qe3 v2.2.1.length none):Int))/\v5.toNat<qe3 v2.2.1.length none/\((0:Int)<=v5+v9/\v5+v9<(↑(qe3 v2.2.1.length (some (List.set (ixL v2.2.1.length none) v5.toNat (qe7 none (v5+v9).toNat)))):Int))/\(v5+v9).toNat<qe3 v2.2.1.length (some (List.set (ixL v2.2.1.length none) v5.toNat (qe7 none (v5+v9).toNat)))/\((0:Int)<=v5/\v5<(↑(qe3 v2.2.1.length (some (List.set (ixL v2.2.1.length (some (List.set (ixL v2.2.1.length none) v5.toNat (qe7 none (v5+v9).toNat)))) (v5+v9).toNat (qe7 none v5.toNat)))):Int))/\v5.toNat<qe3 v2.2.1.length (some (List.set (ixL v2.2.1.length (some (List.set (ixL v2.2.1.length none) v5.toNat (qe7 none (v5+v9).toNat)))) (v5+v9).toNat (qe7 none v5.toNat)))/\((0:Int)<=(↑v2.1:Int)/\(↑v2.1:Int)<(↑(nL v2.2.1 (qe7 (some (List.set (ixL v2.2.1.length (some (List.set (ixL v2.2.1.length none) v5.toNat (qe7 none (v5+v9).toNat)))) (v5+v9).toNat (qe7 none v5.toNat))) v5.toNat)).length:Int))/\(↑v2.1:Int).toNat<(nL v2.2.1 (qe7 (some (List.set (ixL v2.2.1.length (some (List.set (ixL v2.2.1.length none) v5.toNat (qe7 none (v5+v9).toNat)))) (v5+v9).toNat (qe7 none v5.toNat))) v5.toNat)).length/\(decide (nI (nL v2.2.1 (qe7 (some (List.set (ixL v2.2.1.length (some (List.set (ixL v2.2.1.length none) v5.toNat (qe7 none (v5+v9).toNat)))) (v5+v9).toNat (qe7 none v5.toNat))) v5.toNat)) (↑v2.1:Int).toNat<(0:Int))=true->((0:Int)<=v5/\v5<(↑(qe3 v2.2.1.length (some (List.set (ixL v2.2.1.length (some (List.set (ixL v2.2.1.length none) v5.toNat (qe7 none (v5+v9).toNat)))) (v5+v9).toNat (qe7 none v5.toNat)))):Int))/\v5.toNat<qe3 v2.2.1.length (some (List.set (ixL v2.2.1.length (some (List.set (ixL v2.2.1.length none) v5.toNat (qe7 none (v5+v9).toNat)))) (v5+v9).toNat (qe7 none v5.toNat)))/\∃(v13:Nat × Nat × List Q0 × List Int),∃(v14:Nat × List Q0),xk9 v13.2.2.1 v13.2.1 v14.1 v14.2/\(List.Nodup (List.set (ixL v2.2.1.length (some (List.set (ixL v2.2.1.length none) v5.toNat (qe7 none (v5+v9).toNat)))) (v5+v9).toNat (qe7 none v5.toNat))/\(List.set (ixL v2.2.1.length (some (List.set (ixL v2.2.1.length none) v5.toNat (qe7 none (v5+v9).toNat)))) (v5+v9).toNat (qe7 none v5.toNat)).length=v2.2.1.length)/\((True/\True/\(0:Int)=(↑v14.1:Int)/\True)/\(q15 (Ty.int .i64) v2.2.1 (some (List.set (ixL v2.2.1.length (some (List.set (ixL v2.2.1.length none) v5.toNat (qe7 none (v5+v9).toNat)))) (v5+v9).toNat (qe7 none v5.toNat)))=v14.2/\True/\T=T)/\v2.2.2=v13.2.2.2/\((↑v2.1:Int)=(↑v13.1:Int)/\True)/\True/\True/\True/\True/\True/\True/\True/\True/\True/\True/\True/\True/\True/\True/\True/\True/\True/\True/\True/\True/\True/\True/\True/\True/\True/\True/\True/\True/\True)/\∀(v15:Nat × List Q0),xk9 v13.2.2.1 v13.2.1 v15.1 v15.2->(decide ((↑v15.1:Int)<(↑(nL v2.2.1 (qe7 (some (List.set (ixL v2.2.1.length (some (List.set (ixL v2.2.1.length none) v5.toNat (qe7 none (v5+v9).toNat)))) (v5+v9).toNat (qe7 none v5.toNat))) v5.toNat)).length:Int))=true->((0:Int)<=v5/\v5<(↑(qe3 v15.2.length none):Int))/\v5.toNat<qe3 v15.2.length none/\((0:Int)<=v5/\v5<(↑(qe3 v15.2.length none):Int))/\v5.toNat<qe3 v15.2.length none/\((0:Int)<=(↑v15.1:Int)/\(↑v15.1:Int)<(↑(nL v15.2 (qe7 none v5.toNat)).length:Int))/\(↑v15.1:Int).toNat<(nL v15.2 (qe7 none v5.toNat)).length/\fits .i64 ((0:Int)-nI (nL v15.2 (qe7 none v5.toNat)) (↑v15.1:Int).toNat)/\((0:Int)<=(↑v15.1:Int)/\(↑v15.1:Int)<(↑(nL v15.2 (qe7 none v5.toNat)).length:Int))/\(↑v15.1:Int).toNat<(nL v15.2 (qe7 none v5.toNat)).length/\fits .i64 ((↑v15.1:Int)+(1:Int))/\∃(v18:Nat × List Q0),xk9 v13.2.2.1 v13.2.1 v18.1 v18.2/\(nL v13.2.2.1 v13.2.1).length-v18.1<(nL v13.2.2.1 v13.2.1).length-v15.1/\(True/\True/\(↑v15.1:Int)+(1:Int)=(↑v18.1:Int)/\True)/\(List.set v15.2 (qe7 none v5.toNat) (List.set (nL v15.2 (qe7 none v5.toNat)) (↑v15.1:Int).toNat ((0:Int)-nI (nL v15.2 (qe7 none v5.toNat)) (↑v15.1:Int).toNat))=v18.2/\True/\T=T)/\v13.2.2.2=v13.2.2.2/\((↑v13.1:Int)=(↑v13.1:Int)/\True)/\True/\True/\True/\True/\True/\True/\True/\True/\True/\True/\True/\True/\True/\True/\True/\True/\True/\True/\True/\True/\True/\True/\True/\True/\True/\True/\True/\True/\True)/\(decide ((↑v15.1:Int)<(↑(nL v2.2.1 (qe7 (some (List.set (ixL v2.2.1.length (some (List.set (ixL v2.2.1.length none) v5.toNat (qe7 none (v5+v9).toNat)))) (v5+v9).toNat (qe7 none v5.toNat))) v5.toNat)).length:Int))=false->∃(v18:Nat × Nat × List Q0 × List Int),∃(v19:Nat × List Q0),q7d v18.2.2.1 v18.2.1 v18.1 v19.1 v19.2/\((True/\True/\True/\(0:Int)=(↑v19.1:Int)/\True)/\(v15.2=v19.2/\True/\T=T)/\v13.2.2.2=v18.2.2.2/\((↑v13.1:Int)=(↑v18.1:Int)/\True)/\True/\True/\True/\True/\True/\True/\True/\True/\True/\True/\True/\True/\True/\True/\True/\True/\True/\True/\True/\True/\True/\True/\True/\True/\True/\True/\True/\True/\True)/\∀(v20:Nat × List Q0),q7d v18.2.2.1 v18.2.1 v18.1 v20.1 v20.2->(decide ((↑v20.1:Int)<(↑(qe3 v15.2.length none):Int))=true->((0:Int)<=(↑v20.1:Int)/\(↑v20.1:Int)<(↑(qe3 v20.2.length none):Int))/\(↑v20.1:Int).toNat<qe3 v20.2.length none/\(((↑v20.1:Int) != v5)=true->((0:Int)<=(↑v18.1:Int)/\(↑v18.1:Int)<(↑(nL v20.2 (qe7 none (↑v20.1:Int).toNat)).length:Int))/\(↑v18.1:Int).toNat<(nL v20.2 (qe7 none (↑v20.1:Int).toNat)).length/\((nI (nL v20.2 (qe7 none (↑v20.1:Int).toNat)) (↑v18.1:Int).toNat != (0:Int))=true->((0:Int)<=v5/\v5<(↑(qe3 v20.2.length none):Int))/\v5.toNat<qe3 v20.2.length none/\qe7 none v5.toNat≠qe7 none (↑v20.1:Int).toNat/\((0:Ty.den qc8)<=(↑v18.1:Int)/\wo2 (nL [qf2 (Ty.list Q1) v20.2 (qe7 none (↑v20.1:Int).toNat)] (0:Nat)) (nL v20.2 (qe7 none v5.toNat)) (↑v18.1:Int).toNat)/\fits .i64 ((↑v20.1:Int)+(1:Int))/\∃(v25:Nat × List Q0),q7d v18.2.2.1 v18.2.1 v18.1 v25.1 v25.2/\v18.2.2.1.length-v25.1<v18.2.2.1.length-v20.1/\(True/\True/\True/\(↑v20.1:Int)+(1:Int)=(↑v25.1:Int)/\True)/\(List.set v20.2 (qe7 none (↑v20.1:Int).toNat) (qf2 (Ty.list Q1) [qw9 (nL [qf2 (Ty.list Q1) v20.2 (qe7 none (↑v20.1:Int).toNat)] (0:Nat)) (nL v20.2 (qe7 none v5.toNat)) (↑v18.1:Int).toNat] (0:Nat))=v25.2/\True/\T=T)/\v18.2.2.2=v18.2.2.2/\((↑v18.1:Int)=(↑v18.1:Int)/\True)/\True/\True/\True/\True/\True/\True/\True/\True/\True/\True/\True/\True/\True/\True/\True/\True/\True/\True/\True/\True/\True/\True/\True/\True/\True/\True/\True/\True/\True)/\((nI (nL v20.2 (qe7 none (↑v20.1:Int).toNat)) (↑v18.1:Int).toNat != (0:Int))=false->fits .i64 ((↑v20.1:Int)+(1:Int))/\∃(v25:Nat × List Q0),q7d v18.2.2.1 v18.2.1 v18.1 v25.1 v25.2/\v18.2.2.1.length-v25.1<v18.2.2.1.length-v20.1/\(True/\True/\True/\(↑v20.1:Int)+(1:Int)=(↑v25.1:Int)/\True)/\(v20.2=v25.2/\True/\T=T)/\v18.2.2.2=v18.2.2.2/\((↑v18.1:Int)=(↑v18.1:Int)/\True)/\True/\True/\True/\True/\True/\True/\True/\True/\True/\True/\True/\True/\True/\True/\True/\True/\True/\True/\True/\True/\True/\True/\True/\True/\True/\True/\True/\True/\True))/\(((↑v20.1:Int) != v5)=false->fits .i64 ((↑v20.1:Int)+(1:Int))/\∃(v24:Nat × List Q0),q7d v18.2.2.1 v18.2.1 v18.1 v24.1 v24.2/\v18.2.2.1.length-v24.1<v18.2.2.1.length-v20.1/\(True/\True/\True/\(↑v20.1:Int)+(1:Int)=(↑v24.1:Int)/\True)/\(v20.2=v24.2/\True/\T=T)/\v18.2.2.2=v18.2.2.2/\((↑v18.1:Int)=(↑v18.1:Int)/\True)/\True/\True/\True/\True/\True/\True/\True/\True/\True/\True/\True/\True/\True/\True/\True/\True/\True/\True/\True/\True/\True/\True/\True/\True/\True/\True/\True/\True/\True))/\(decide ((↑v20.1:Int)<(↑(qe3 v15.2.length none):Int))=false->((0:Nat)<List.length [(↑v18.1:Int)]/\Nat.le (v18.2.2.2.length+List.length [(↑v18.1:Int)]) (1000000:Nat))/\fits .i64 ((↑v2.1:Int)+(1:Int))/\∃(v23:Nat × List Q0 × List Int),w49 rows c.toNat v23.1 v23.2.1 v23.2.2/\c.toNat-v23.1<c.toNat-v2.1/\(True/\True/\(↑v2.1:Int)+(1:Int)=(↑v23.1:Int)/\True)/\(v20.2=v23.2.1/\True/\T=T)/\v18.2.2.2++[(↑v18.1:Int)]=v23.2.2/\True)))/\(decide (nI (nL v2.2.1 (qe7 (some (List.set (ixL v2.2.1.length (some (List.set (ixL v2.2.1.length none) v5.toNat (qe7 none (v5+v9).toNat)))) (v5+v9).toNat (qe7 none v5.toNat))) v5.toNat)) (↑v2.1:Int).toNat<(0:Int))=false->∃(v13:Nat × Nat × List Q0 × List Int),∃(v14:Nat × List Q0),q7d v13.2.2.1 v13.2.1 v13.1 v14.1 v14.2/\(List.Nodup (List.set (ixL v2.2.1.length (some (List.set (ixL v2.2.1.length none) v5.toNat (qe7 none (v5+v9).toNat)))) (v5+v9).toNat (qe7 none v5.toNat))/\(List.set (ixL v2.2.1.length (some (List.set (ixL v2.2.1.length none) v5.toNat (qe7 none (v5+v9).toNat)))) (v5+v9).toNat (qe7 none v5.toNat)).length=v2.2.1.length)/\((True/\True/\True/\(0:Int)=(↑v14.1:Int)/\True)/\(q15 (Ty.int .i64) v2.2.1 (some (List.set (ixL v2.2.1.length (some (List.set (ixL v2.2.1.length none) v5.toNat (qe7 none (v5+v9).toNat)))) (v5+v9).toNat (qe7 none v5.toNat)))=v14.2/\True/\T=T)/\v2.2.2=v13.2.2.2/\((↑v2.1:Int)=(↑v13.1:Int)/\True)/\True/\True/\True/\True/\True/\True/\True/\True/\True/\True/\True/\True/\True/\True/\True/\True/\True/\True/\True/\True/\True/\True/\True/\True/\True/\True/\True/\True/\True)/\∀(v15:Nat × List Q0),q7d v13.2.2.1 v13.2.1 v13.1 v15.1 v15.2->(decide ((↑v15.1:Int)<(↑(qe3 v2.2.1.length (some (List.set (ixL v2.2.1.length (some (List.set (ixL v2.2.1.length none) v5.toNat (qe7 none (v5+v9).toNat)))) (v5+v9).toNat (qe7 none v5.toNat)))):Int))=true->((0:Int)<=(↑v15.1:Int)/\(↑v15.1:Int)<(↑(qe3 v15.2.length none):Int))/\(↑v15.1:Int).toNat<qe3 v15.2.length none/\(((↑v15.1:Int) != v5)=true->((0:Int)<=(↑v13.1:Int)/\(↑v13.1:Int)<(↑(nL v15.2 (qe7 none (↑v15.1:Int).toNat)).length:Int))/\(↑v13.1:Int).toNat<(nL v15.2 (qe7 none (↑v15.1:Int).toNat)).length/\((nI (nL v15.2 (qe7 none (↑v15.1:Int).toNat)) (↑v13.1:Int).toNat != (0:Int))=true->((0:Int)<=v5/\v5<(↑(qe3 v15.2.length none):Int))/\v5.toNat<qe3 v15.2.length none/\qe7 none v5.toNat≠qe7 none (↑v15.1:Int).toNat/\((0:Ty.den qc8)<=(↑v13.1:Int)/\wo2 (nL [qf2 (Ty.list Q1) v15.2 (qe7 none (↑v15.1:Int).toNat)] (0:Nat)) (nL v15.2 (qe7 none v5.toNat)) (↑v13.1:Int).toNat)/\fits .i64 ((↑v15.1:Int)+(1:Int))/\∃(v20:Nat × List Q0),q7d v13.2.2.1 v13.2.1 v13.1 v20.1 v20.2/\v13.2.2.1.length-v20.1<v13.2.2.1.length-v15.1/\(True/\True/\True/\(↑v15.1:Int)+(1:Int)=(↑v20.1:Int)/\True)/\(List.set v15.2 (qe7 none (↑v15.1:Int).toNat) (qf2 (Ty.list Q1) [qw9 (nL [qf2 (Ty.list Q1) v15.2 (qe7 none (↑v15.1:Int).toNat)] (0:Nat)) (nL v15.2 (qe7 none v5.toNat)) (↑v13.1:Int).toNat] (0:Nat))=v20.2/\True/\T=T)/\v13.2.2.2=v13.2.2.2/\((↑v13.1:Int)=(↑v13.1:Int)/\True)/\True/\True/\True/\True/\True/\True/\True/\True/\True/\True/\True/\True/\True/\True/\True/\True/\True/\True/\True/\True/\True/\True/\True/\True/\True/\True/\True/\True/\True)/\((nI (nL v15.2 (qe7 none (↑v15.1:Int).toNat)) (↑v13.1:Int).toNat != (0:Int))=false->fits .i64 ((↑v15.1:Int)+(1:Int))/\∃(v20:Nat × List Q0),q7d v13.2.2.1 v13.2.1 v13.1 v20.1 v20.2/\v13.2.2.1.length-v20.1<v13.2.2.1.length-v15.1/\(True/\True/\True/\(↑v15.1:Int)+(1:Int)=(↑v20.1:Int)/\True)/\(v15.2=v20.2/\True/\T=T)/\v13.2.2.2=v13.2.2.2/\((↑v13.1:Int)=(↑v13.1:Int)/\True)/\True/\True/\True/\True/\True/\True/\True/\True/\True/\True/\True/\True/\True/\True/\True/\True/\True/\True/\True/\True/\True/\True/\True/\True/\True/\True/\True/\True/\True))/\(((↑v15.1:Int) != v5)=false->fits .i64 ((↑v15.1:Int)+(1:Int))/\∃(v19:Nat × List Q0),q7d v13.2.2.1 v13.2.1 v13.1 v19.1 v19.2/\v13.2.2.1.length-v19.1<v13.2.2.1.length-v15.1/\(True/\True/\True/\(↑v15.1:Int)+(1:Int)=(↑v19.1:Int)/\True)/\(v15.2=v19.2/\True/\T=T)/\v13.2.2.2=v13.2.2.2/\((↑v13.1:Int)=(↑v13.1:Int)/\True)/\True/\True/\True/\True/\True/\True/\True/\True/\True/\True/\True/\True/\True/\True/\True/\True/\True/\True/\True/\True/\True/\True/\True/\True/\True/\True/\True/\True/\True))/\(decide ((↑v15.1:Int)<(↑(qe3 v2.2.1.length (some (List.set (ixL v2.2.1.length (some (List.set (ixL v2.2.1.length none) v5.toNat (qe7 none (v5+v9).toNat)))) (v5+v9).toNat (qe7 none v5.toNat)))):Int))=false->((0:Nat)<List.length [(↑v13.1:Int)]/\Nat.le (v13.2.2.2.length+List.length [(↑v13.1:Int)]) (1000000:Nat))/\fits .i64 ((↑v2.1:Int)+(1:Int))/\∃(v18:Nat × List Q0 × List Int),w49 rows c.toNat v18.1 v18.2.1 v18.2.2/\c.toNat-v18.1<c.toNat-v2.1/\(True/\True/\(↑v2.1:Int)+(1:Int)=(↑v18.1:Int)/\True)/\(v15.2=v18.2.1/\True/\T=T)/\v13.2.2.2++[(↑v13.1:Int)]=v18.2.2/\True))))/\(decide ((↑v2.1:Int)<c)=false->v2.2.1=(qc7 rows c.toNat).1/\T=T/\True/\v2.2.2=(qc7 rows c.toNat).2)) (by kernel_rfl) ?_
 try simp only[z0,z1,z2,z3,z4,z5,z6,z7,z8,z9,z10,Int.reduceEq,z11,z12,z13,z14,z15,z16,z17,z18,z19,z20,z21,z22,z23,z24,z25,z26,z27,z28,z29,z30,Int.reduceLE,Int.reduceLT,z31,z32,z33,z34,qa1]
 try simp only[qa7,qa8,qb8,z31,z32,z2,z1]
 simp only[q4p,w5a,xl0,xl1,q7e,w8z,wo9,w80,List.length_set,List.length_range,List.take_length]
 obtain⟨hc0,W,hR⟩:=h
 have hRn:=hR.n
 have hRw:=hR.w
 refine⟨(),(0,rows,[]),⟨Nat.zero_le _,rfl⟩,⟨rfl,rfl,rfl⟩,?_⟩
 rintro⟨j,r0,piv⟩ ⟨hjc,hj⟩
 dsimp only at hjc hj ⊢
 have hsh:=q1w hR j
 rw[hj] at hsh
 have hn:=hsh.cnt
 have hpn:=hsh.piv
 have hpj:=hsh.pivj
 dsimp only at hn hpn hpj
 refine⟨λhlt=>?_,λhge=>?_⟩
 ·have hjl:j<c.toNat:=by omega
  have hjW:j<W:=by have:=hR.cw; omega
  rintro k rfl
  have he:=hsh.each
  dsimp only at he
  have hdrop:∀q,q<(r0.drop piv.length).length->j<(nL (r0.drop piv.length) q).length:=λq hq=>by
   rw[List.length_drop] at hq
   have e:nL (r0.drop piv.length) q=nL r0 (piv.length+q):=by
    rw[qj8 _ _ (by rw[List.length_drop]; exact hq),qj8 _ _ (by omega)]; simp
   rw[e,he _ (by omega)]; exact hjW
  simp only[Int.toNat_natCast]
  refine⟨⟨by omega,by omega,Nat.le_refl _⟩,λx=>j<x.1.length,λx=>nI x.1 j != 0,λx hx=>⟨hx,rfl⟩,⟨by rw[List.length_drop]; omega,hdrop⟩,?_⟩
  rintro a ha
  have ha:a=qt3 r0 piv.length j:=ha
  subst ha
  refine⟨λhneg=>?_,λhpos=>?_⟩
  ·refine⟨qb5 (by omega) (by omega),(j+1,r0,piv),⟨by dsimp only; omega,?_⟩,by dsimp only; omega,by dsimp only; omega,rfl,rfl⟩
   rw[qc7,hj,qv6,if_pos hneg]
  have hb:=q1u r0 piv.length j (by omega) hpos
  have hso:xt5 r0 piv.length j:=by have:=hR.step j hjl; rw[hj] at this; exact this hpos
  have hse:=q7f (W:=W) (by omega) hpos (λi hi=>he i (by omega))
  have hpe:=q1v (W:=W) (by omega) hpos (λi hi=>he i (by omega))
  have hab:((piv.length:Int)+qt3 r0 piv.length j).toNat=piv.length+(qt3 r0 piv.length j).toNat:=by omega
  simp only[hab]
  have hgd:=xl2 r0.length piv.length (piv.length+(qt3 r0 piv.length j).toNat) (by omega) hb
  have hmap:=x0m r0 piv.length (piv.length+(qt3 r0 piv.length j).toNat) (by omega) hb
  have hnd:=w81 r0.length piv.length (piv.length+(qt3 r0 piv.length j).toNat) (by omega) hb
  have hk1:nL (q1t r0 piv.length j) piv.length=nL r0 (piv.length+(qt3 r0 piv.length j).toNat):=by
   unfold q1t
   rw[q3r _ _ _ (by omega) hb _ (by omega)]
   split
   ·rename_i e; rw[<- e]
   ·rw[if_pos rfl]
  simp only[hgd,hmap]
  rw[<- hk1]
  have hsl:=q54 r0 piv.length j
  have hkW:=hse piv.length (by omega)
  refine⟨qb5 (by omega) (by omega),qb5 (by omega) (by omega),by omega,by omega,by omega,by omega,by omega,by omega,by omega,by omega,by omega,by omega,by omega,by omega,λhng=>?_,λhng=>?_⟩
  ·refine⟨by omega,by omega,(j,piv.length,q1t r0 piv.length j,piv),(0,q1t r0 piv.length j),⟨Nat.zero_le _,?_⟩,⟨hnd,trivial⟩,⟨rfl,rfl,rfl,rfl⟩,?_⟩
   ·dsimp only
    have e:ovr (.int .i64) (λq=>0-nI (nL (q1t r0 piv.length j) piv.length) q) (nL (q1t r0 piv.length j) piv.length) 0=nL (q1t r0 piv.length j) piv.length:=q3n (.int .i64) _ _
    rw[e,qj8 _ _ (by omega),List.set_getElem_self]
   rintro⟨i,r⟩ ⟨hi1,hi2⟩
   dsimp only at hi1 hi2 ⊢
   have hrl:r.length=r0.length:=by rw[hi2,List.length_set,hsl]
   have hrk:nL r piv.length=ovr (.int .i64) (λq=>0-nI (nL (q1t r0 piv.length j) piv.length) q) (nL (q1t r0 piv.length j) piv.length) i:=by
    rw[hi2,wf6 _ _ _ _ (by omega),if_pos rfl]
   have hrkl:(nL r piv.length).length=W:=by rw[hrk,qv4]; exact hkW
   refine⟨λhlt=>?_,λhge=>?_⟩
   ·have hv:nI (nL r piv.length) i=nI (nL (q1t r0 piv.length j) piv.length) i:=by
     rw[hrk]
     exact(q9p (.int .i64) _ _ _ _ hlt).trans (if_neg (Nat.lt_irrefl _))
    have hbd:qf8 BIG (nI (nL (q1t r0 piv.length j) piv.length) i):=hso.neg _ (by rw[qg5 _ i hlt]; exact List.getElem_mem hlt)
    unfold qf8 BIG at hbd
    rw[hv]
    refine⟨by omega,by omega,by omega,by omega,by omega,by omega,qb5 (by omega) (by omega),by omega,by omega,qb5 (by omega) (by omega),(i+1,r.set piv.length ((nL r piv.length).set i (0-nI (nL (q1t r0 piv.length j) piv.length) i))),⟨by dsimp only; omega,?_⟩,by dsimp only; omega,by dsimp only; omega,rfl⟩
    dsimp only
    have e:=q1p (.int .i64) (λq=>0-nI (nL (q1t r0 piv.length j) piv.length) q) (nL (q1t r0 piv.length j) piv.length) i
    rw[hrk]
    refine(congrArg (r.set piv.length) e).trans ?_
    rw[hi2,List.set_set]
   ·have hprep:r=qi7 r0 piv.length j:=by
     unfold qi7
     rw[if_pos hng,hi2]
     refine congrArg _ ?_
     exact q69 (.int .i64) _ _ _ (by omega)
    refine⟨(j,piv.length,qi7 r0 piv.length j,piv),(0,qi7 r0 piv.length j),⟨Nat.zero_le _,(q3n (.list (.int .i64)) _ _).symm⟩,⟨rfl,hprep,rfl,rfl⟩,?_⟩
    rw[hprep,qi4]
    rintro⟨i,r⟩ ⟨hi1,hi2⟩
    dsimp only at hi1 hi2 ⊢
    have hpl:=qi4 r0 piv.length j
    have hrl:r.length=r0.length:=by rw[hi2,qv4,qi4]
    have hi1:i<=r0.length:=by rw[qi4] at hi1; exact hi1
    have hat:∀q,q<r0.length->nL r q=if q<i then wj4 (qi7 r0 piv.length j) piv.length j q else nL (qi7 r0 piv.length j) q:=λq hq=>by
     rw[hi2]; exact q9p (.list (.int .i64)) _ _ _ _ (by rw[qi4]; exact hq)
    have hk2:nL r piv.length=nL (qi7 r0 piv.length j) piv.length:=by
     rw[hat _ (by omega)]
     split
     ·exact q3t _ _ _
     ·rfl
    refine⟨λhlt=>?_,λhge=>?_⟩
    ·have hlt:i<r0.length:=by omega
     have hri:nL r i=nL (qi7 r0 piv.length j) i:=by rw[hat i hlt,if_neg (Nat.lt_irrefl _)]
     have hw:=hpe i hlt
     refine⟨by omega,by omega,λhne=>⟨by rw[hri]; omega,by rw[hri]; omega,λhnz=>?_,λhz=>?_⟩,λheq=>?_⟩
     ·rw[hri] at hnz
      have hne:i≠piv.length:=by omega
      have hcl:=hso.clr i hlt hne hnz
      have hcr:wj4 (qi7 r0 piv.length j) piv.length j i=qw9 (nL r i) (nL r piv.length) j:=by
       unfold wj4; rw[if_pos ⟨hne,hnz⟩,hri,hk2]
      refine⟨by omega,by omega,by omega,?_,qb5 (by omega) (by omega),(i+1,r.set i (qw9 (nL r i) (nL r piv.length) j)),⟨by dsimp only; omega,?_⟩,by dsimp only; omega,by dsimp only; omega,rfl⟩
      ·show wo2 (nL r i) (nL r piv.length) j
       rw[hri,hk2]; exact hcl
      ·dsimp only
       rw[<- hcr,hi2]
       exact q1p (.list (.int .i64)) _ _ _
     ·refine⟨qb5 (by omega) (by omega),(i+1,r),⟨by dsimp only; omega,?_⟩,by dsimp only; omega,by dsimp only; omega,rfl⟩
      dsimp only
      rw[hi2]
      refine q55 (.list (.int .i64)) _ _ _ λ_=>?_
      unfold wj4
      rw[if_neg]
      ·rfl
      ·intro h2
       rw[hri] at hz
       exact h2.2 hz
     ·refine⟨qb5 (by omega) (by omega),(i+1,r),⟨by dsimp only; omega,?_⟩,by dsimp only; omega,by dsimp only; omega,rfl⟩
      dsimp only
      rw[hi2]
      refine q55 (.list (.int .i64)) _ _ _ λ_=>?_
      have e:i=piv.length:=by omega
      rw[e]
      exact q3t _ _ _
    ·obtain rfl:i=r0.length:=by omega
     refine⟨by omega,qb5 (by omega) (by omega),(j+1,r,piv++[(j:Int)]),⟨by omega,?_⟩,by dsimp only; omega,by dsimp only; omega,rfl,rfl⟩
     rw[qc7,hj,qv6,if_neg (by dsimp only; omega),hi2]
     refine congrArg (·,_) ?_
     rw[<- qi4 r0 piv.length j]
     exact(q69 (.list (.int .i64)) _ _ _ (Nat.le_refl _)).symm
  ·have hprep:q1t r0 piv.length j=qi7 r0 piv.length j:=by unfold qi7; rw[if_neg (by omega)]
   refine⟨(j,piv.length,qi7 r0 piv.length j,piv),(0,qi7 r0 piv.length j),⟨Nat.zero_le _,(q3n (.list (.int .i64)) _ _).symm⟩,⟨hnd,trivial⟩,⟨rfl,hprep,rfl,rfl⟩,?_⟩
   rintro⟨i,r⟩ ⟨hi1,hi2⟩
   dsimp only at hi1 hi2 ⊢
   have hpl:=qi4 r0 piv.length j
   have hrl:r.length=r0.length:=by rw[hi2,qv4,qi4]
   have hi1:i<=r0.length:=by rw[qi4] at hi1; exact hi1
   have hat:∀q,q<r0.length->nL r q=if q<i then wj4 (qi7 r0 piv.length j) piv.length j q else nL (qi7 r0 piv.length j) q:=λq hq=>by
    rw[hi2]; exact q9p (.list (.int .i64)) _ _ _ _ (by rw[qi4]; exact hq)
   have hk2:nL r piv.length=nL (qi7 r0 piv.length j) piv.length:=by
    rw[hat _ (by omega)]
    split
    ·exact q3t _ _ _
    ·rfl
   refine⟨λhlt=>?_,λhge=>?_⟩
   ·have hlt:i<r0.length:=by omega
    have hri:nL r i=nL (qi7 r0 piv.length j) i:=by rw[hat i hlt,if_neg (Nat.lt_irrefl _)]
    have hw:=hpe i hlt
    refine⟨by omega,by omega,λhne=>⟨by rw[hri]; omega,by rw[hri]; omega,λhnz=>?_,λhz=>?_⟩,λheq=>?_⟩
    ·rw[hri] at hnz
     have hne:i≠piv.length:=by omega
     have hcl:=hso.clr i hlt hne hnz
     have hcr:wj4 (qi7 r0 piv.length j) piv.length j i=qw9 (nL r i) (nL r piv.length) j:=by
      unfold wj4; rw[if_pos ⟨hne,hnz⟩,hri,hk2]
     refine⟨by omega,by omega,by omega,?_,qb5 (by omega) (by omega),(i+1,r.set i (qw9 (nL r i) (nL r piv.length) j)),⟨by dsimp only; omega,?_⟩,by dsimp only; omega,by dsimp only; omega,rfl⟩
     ·show wo2 (nL r i) (nL r piv.length) j
      rw[hri,hk2]; exact hcl
     ·dsimp only
      rw[<- hcr,hi2]
      exact q1p (.list (.int .i64)) _ _ _
    ·refine⟨qb5 (by omega) (by omega),(i+1,r),⟨by dsimp only; omega,?_⟩,by dsimp only; omega,by dsimp only; omega,rfl⟩
     dsimp only
     rw[hi2]
     refine q55 (.list (.int .i64)) _ _ _ λ_=>?_
     unfold wj4
     rw[if_neg]
     ·rfl
     ·intro h2
      rw[hri] at hz
      exact h2.2 hz
    ·refine⟨qb5 (by omega) (by omega),(i+1,r),⟨by dsimp only; omega,?_⟩,by dsimp only; omega,by dsimp only; omega,rfl⟩
     dsimp only
     rw[hi2]
     refine q55 (.list (.int .i64)) _ _ _ λ_=>?_
     have e:i=piv.length:=by omega
     rw[e]
     exact q3t _ _ _
   ·obtain rfl:i=r0.length:=by omega
    refine⟨by omega,qb5 (by omega) (by omega),(j+1,r,piv++[(j:Int)]),⟨by omega,?_⟩,by dsimp only; omega,by dsimp only; omega,rfl,rfl⟩
    rw[qc7,hj,qv6,if_neg (by dsimp only; omega),hi2]
    refine congrArg (·,_) ?_
    rw[<- qi4 r0 piv.length j]
    exact(q69 (.list (.int .i64)) _ _ _ (Nat.le_refl _)).symm
 ·obtain rfl:j=c.toNat:=by omega
  rw[hj]
  exact⟨rfl,rfl⟩
end Go.Proofs.YtmijnbjlhnpokaaGreat
