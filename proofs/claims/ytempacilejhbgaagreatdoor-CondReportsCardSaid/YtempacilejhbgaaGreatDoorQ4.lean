/- Shares of a mask for some pixels: contracts by the engine. No condition. -/
import Derived.Test.YtempacilejhbgaaGreatDoorQ1
import Derived.Test.YtempacilejhbgaaGreatDoorV19
import Derived.Test.YtempacilejhbgaaGreatDoorEngU
set_option linter.unusedVariables false
set_option linter.unusedSimpArgs false
namespace Go.Proofs.YtempacilejhbgaaGreatDoor
open Go Go.RowKit Eng
def BxsOk (bxs:List (Nat × q3i)):Prop:=∀f B,find bxs f=some B->q2u Tryz.prog f B
theorem BxsOk.nil:BxsOk []:=λf M h=>by cases h
theorem BxsOk.cons {f:Nat} {B:q3i} {l:List (Nat × q3i)} (h:q2u Tryz.prog f B) (k:BxsOk l):BxsOk ((f,B) :: l):=by
 intro g S hg
 simp only[find] at hg
 split at hg
 ·rename_i e; obtain rfl:=Nat.eq_of_beq_eq_true e; injection hg with hg; rw[<- hg]; exact h
 ·exact k g S hg
def x48 (specs:List (Nat × qb9)) (its:List (Nat × q1l)) (bxs:List (Nat × q3i)):Ctx:={ specs:=specs,tys:=tys,wr:=[],its:=its,bxs:=bxs }
theorem x49 {specs:List (Nat × qb9)} {its:List (Nat × q1l)} {bxs:List (Nat × q3i)} (h:SpecsOk Tryz.prog specs) (hi:ItsOk its) (hb:BxsOk bxs):Sound Tryz.prog (x48 specs its bxs):=SpecsOk.sound h q0h (by kernel_rfl) hi (hbx:=hb)
def qz2 (x:Int):Int:=(x.natAbs:Int)
theorem w9o (x:Int):max x (0-x)=qz2 x:=by unfold qz2; omega
def q2f (h:List Int):Nat->Int
 | 0=>0
 | k+1=>q2f h k+qz2 (nI h k)
def szL (h:List Int):Int:=q2f h h.length
def qm4 (h pix:List Int):Nat->Int
 | 0=>0
 | k+1=>qm4 h pix k+qz2 (nI h (nI pix k).toNat)
def inL (h pix:List Int):Int:=qm4 h pix pix.length
structure HOk (h:List Int):Prop where
 len:h.length<=100
 sm:∀i,qf3 1000000 (nI h i)
theorem qy1 {h:List Int} (hh:HOk h):∀k,0<=q2f h k/\q2f h k<=1000000*k
 | 0=>⟨Int.le_refl _,by simp[q2f]⟩
 | k+1=>by
  have h1:=qy1 hh k
  have h2:=hh.sm k
  unfold qf3 at h2
  rw[q2f]; unfold qz2; omega
theorem qy2 {h pix:List Int} (hh:HOk h):∀k,0<=qm4 h pix k/\qm4 h pix k<=1000000*k
 | 0=>⟨Int.le_refl _,by simp[qm4]⟩
 | k+1=>by
  have h1:=qy2 (pix:=pix) hh k
  have h2:=hh.sm (nI pix k).toNat
  unfold qf3 at h2
  rw[qm4]; unfold qz2; omega
abbrev x1c:qb9:=qg6 true none [tInt] [tInt] (λx=>qf3 1000000000 x.1) (λx=>(qz2 x.1,()))
theorem q2b:Meets Tryz.prog 74 x1c:=by
 refine meets (snd (SpecsOk.nil _)) Tryz.func74 rfl rfl (λ_ _=>none) (λ_=>by kernel_rfl) (by decide) ?_
 rintro⟨x,⟨⟩⟩ h
 revert x
 intro(x:Int) (h:qf3 1000000000 x)
 refine @qe7 _ (fits .i64 ((0:Int)-x)/\max2 true x ((0:Int)-x)=qz2 x) (by kernel_rfl) ?_
 try simp only[z0,z1,z2,z3,z4,z5,z6,z7,z8,z9,z10,Int.reduceEq,z11,z12,z13,z14,z15,z16,z17,z18,z19,z20,z21,z22,z23,z24,z25,z26,z27,z28,z29,z30,Int.reduceLE,Int.reduceLT,z31,z32,z33,z34,qa3]
 try simp only[qb6,qb7,qc7,z31,z32,z2,z1]
 unfold qf3 at h
 exact⟨qa7 (by omega) (by omega),w9o x⟩
def x5b (h:List Int):Nat->Option Inv
 | 0=>some (Inv.of [3,8] 0 (λk:Nat=>[(3,.lit (.int .i64 (q2f h k))),(8,.lit (.int .i64 k))]) (λ_=>[]) (λk=>k<=h.length) (λk=>h.length-k))
 | _=>none
abbrev xt7:qb9:=qg6 true none [tInts] [tInt] (λx=>HOk x.1) (λx=>(szL x.1,()))
theorem wj4:Meets Tryz.prog 76 xt7:=by
 refine meets (snd (SpecsOk.cons q2b (SpecsOk.nil _))) Tryz.func76 rfl rfl (λx=>x5b x.1) (λ_=>by kernel_rfl) (by decide) ?_
 rintro⟨h,⟨⟩⟩ hh
 revert h
 intro(h:List Int) (hh:HOk h)
 refine @qe7 _ (∃(v0:Unit),∃(v1:Nat),Nat.le v1 h.length/\(((0:Int)=q2f h v1/\(0:Int)=(↑v1:Int)/\True)/\True)/\∀(v2:Nat),Nat.le v2 h.length->(decide ((↑v2:Int)<(↑h.length:Int))=true->((0:Int)<=(↑v2:Int)/\(↑v2:Int)<(↑h.length:Int))/\qf3 (1000000000:Int) (nI h v2)/\fits .i64 (q2f h v2+qz2 (nI h v2))/\fits .i64 ((↑v2:Int)+(1:Int))/\∃(v5:Nat),Nat.le v5 h.length/\h.length-v5<h.length-v2/\(q2f h v2+qz2 (nI h v2)=q2f h v5/\(↑v2:Int)+(1:Int)=(↑v5:Int)/\True)/\True)/\(decide ((↑v2:Int)<(↑h.length:Int))=false->q2f h v2=szL h)) (by kernel_rfl) ?_
 try simp only[z0,z1,z2,z3,z4,z5,z6,z7,z8,z9,z10,Int.reduceEq,z11,z12,z13,z14,z15,z16,z17,z18,z19,z20,z21,z22,z23,z24,z25,z26,z27,z28,z29,z30,Int.reduceLE,Int.reduceLT,z31,z32,z33,z34,qa3]
 try simp only[qb6,qb7,qc7,z31,z32,z2,z1]
 have hl:=hh.len
 refine⟨(),0,Nat.zero_le _,⟨rfl,rfl⟩,λk hk=>⟨λhlt=>?_,λhge=>?_⟩⟩
 ·have h1:=qy1 hh k
  have h2:=qy1 hh (k+1)
  have h3:=hh.sm k
  unfold qf3 at h3
  have e:q2f h k+qz2 (nI h k)=q2f h (k+1):=rfl
  exact⟨hlt,by unfold qf3; omega,qa7 (by omega) (by omega),qa7 (by omega) (by omega),k+1,hlt,by omega,e,by push_cast; rfl⟩
 ·obtain rfl:k=h.length:=by omega
  rfl
def shR (h pix:List Int):Int × Int:=ofR (inL h pix) (szL h)
structure wq1 (h pix:List Int):Prop where
 ok:HOk h
 len:pix.length<=100
 at_:∀j,j<pix.length->0<=nI pix j/\nI pix j<h.length
 ne:szL h≠0
def x1d (h pix:List Int):Nat->Option Inv
 | 0=>some (Inv.of [5,10] 1 (λk:Nat=>[(5,.lit (.int .i64 (qm4 h pix k))),(10,.lit (.int .i64 k))]) (λ_=>[.box 29 (.cons (.lit (.int .i64 0)) (.cons (.lit (.int .i64 0)) .nil))]) (λk=>k<=pix.length) (λk=>pix.length-k))
 | _=>none
abbrev x5c:qb9:=qg6 true none [tInts,tInts] [q05] (λx=>wq1 x.1 x.2.1) (λx=>(shR x.1 x.2.1,()))
theorem w2k:Meets Tryz.prog 51 x5c:=by
 refine meets (snd (SpecsOk.cons q2b (SpecsOk.cons wj4 (SpecsOk.cons w84 (SpecsOk.nil _))))) Tryz.func51 rfl rfl (λx=>x1d x.1 x.2.1) (λ_=>by kernel_rfl) (by decide) ?_
 rintro⟨h,p,⟨⟩⟩ hh
 revert h p
 intro(h:List Int) (p:List Int) (hh:wq1 h p)
 refine @qe7 _ (∃(v0:Unit),∃(v1:Nat),Nat.le v1 p.length/\(((0:Int)=qm4 h p v1/\(0:Int)=(↑v1:Int)/\True)/\((0:Int)=(0:Int)/\(0:Int)=(0:Int)/\True)/\True)/\∀(v2:Nat),Nat.le v2 p.length->(decide ((↑v2:Int)<(↑p.length:Int))=true->((0:Int)<=(↑v2:Int)/\(↑v2:Int)<(↑p.length:Int))/\((0:Int)<=nI p v2/\nI p v2<(↑h.length:Int))/\qf3 (1000000000:Int) (nI h (nI p v2).toNat)/\fits .i64 (qm4 h p v2+qz2 (nI h (nI p v2).toNat))/\fits .i64 ((↑v2:Int)+(1:Int))/\∃(v5:Nat),Nat.le v5 p.length/\p.length-v5<p.length-v2/\(qm4 h p v2+qz2 (nI h (nI p v2).toNat)=qm4 h p v5/\(↑v2:Int)+(1:Int)=(↑v5:Int)/\True)/\((0:Int)=(0:Int)/\(0:Int)=(0:Int)/\True)/\True)/\(decide ((↑v2:Int)<(↑p.length:Int))=false->HOk h/\(((-4000000000000000000:Int)<=qm4 h p v2/\qm4 h p v2<=BIG)/\((-4000000000000000000:Int)<=szL h/\szL h<=BIG)/\szL h≠(0:Ty.den tInt))/\(ofR (qm4 h p v2) (szL h)).1=(shR h p).1/\(ofR (qm4 h p v2) (szL h)).2=(shR h p).2/\True)) (by kernel_rfl) ?_
 try simp only[z0,z1,z2,z3,z4,z5,z6,z7,z8,z9,z10,Int.reduceEq,z11,z12,z13,z14,z15,z16,z17,z18,z19,z20,z21,z22,z23,z24,z25,z26,z27,z28,z29,z30,Int.reduceLE,Int.reduceLT,z31,z32,z33,z34,qa3]
 try simp only[qb6,qb7,qc7,z31,z32,z2,z1]
 have hl:=hh.len
 have hb:=hh.ok.len
 refine⟨(),0,Nat.zero_le _,⟨rfl,rfl⟩,λk hk=>⟨λhlt=>?_,λhge=>?_⟩⟩
 ·have h1:=qy2 (pix:=p) hh.ok k
  have h2:=qy2 (pix:=p) hh.ok (k+1)
  have h3:=hh.ok.sm (nI p k).toNat
  have h4:=hh.at_ k hlt
  unfold qf3 at h3
  have e:qm4 h p k+qz2 (nI h (nI p k).toNat)=qm4 h p (k+1):=rfl
  exact⟨hlt,h4,by unfold qf3; omega,qa7 (by omega) (by omega),qa7 (by omega) (by omega),k+1,hlt,by omega,e,by push_cast; rfl⟩
 ·obtain rfl:k=p.length:=by omega
  have h1:=qy2 (pix:=p) hh.ok p.length
  have h2:=qy1 hh.ok h.length
  have h3:=hh.ne
  have e:szL h=q2f h h.length:=rfl
  unfold BIG
  exact⟨hh.ok,⟨⟨by omega,by omega⟩,⟨by omega,by omega⟩,h3⟩,rfl,rfl⟩
open Go Go.RowKit Eng Ls
abbrev x1e:qb9:=qg6 true none [] [q05] (λ_=>True) (λ_=>((0,1),()))
theorem wq3:Meets Tryz.prog 46 x1e:=by
 refine meets (snd (SpecsOk.nil _)) Tryz.func46 rfl rfl (λ_ _=>none) (λ_=>by kernel_rfl) (by decide) ?_
 rintro⟨⟩ -
 refine @qe7 _ ((0:Int)=(0:Int)/\(1:Int)=(1:Int)/\True) (by kernel_rfl) ?_
 try simp only[z0,z1,z2,z3,z4,z5,z6,z7,z8,z9,z10,Int.reduceEq,z11,z12,z13,z14,z15,z16,z17,z18,z19,z20,z21,z22,z23,z24,z25,z26,z27,z28,z29,z30,Int.reduceLE,Int.reduceLT,z31,z32,z33,z34,qa3]
 try simp only[qb6,qb7,qc7,z31,z32,z2,z1]
abbrev xt8:qb9:=qg6 true none [q05,q05] [.bool] (λx=>qt4 x.1/\qt4 x.2.1) (λx=>(decide (0<wb7 x.2.1 x.1),()))
theorem wj5:Meets Tryz.prog 48 xt8:=by
 refine meets (snd (SpecsOk.cons w1y (SpecsOk.nil _))) Tryz.func48 rfl rfl (λ_ _=>none) (λ_=>by kernel_rfl) (by decide) ?_
 rintro⟨⟨a,b⟩,⟨c,d⟩,⟨⟩⟩ h
 revert a b c d
 intro(a:Int) (b:Int) (c:Int) (d:Int) (h:qt4 (a,b)/\qt4 (c,d))
 refine @qe7 _ ((qt4 (c,d)/\qt4 (a,b))/\decide ((0:Int)<wb7 (c,d) (a,b))=decide ((0:Int)<wb7 (c,d) (a,b))) (by kernel_rfl) ?_
 try simp only[z0,z1,z2,z3,z4,z5,z6,z7,z8,z9,z10,Int.reduceEq,z11,z12,z13,z14,z15,z16,z17,z18,z19,z20,z21,z22,z23,z24,z25,z26,z27,z28,z29,z30,Int.reduceLE,Int.reduceLT,z31,z32,z33,z34,qa3]
 try simp only[qb6,qb7,qc7,z31,z32,z2,z1]
 exact⟨h.2,h.1⟩
def wm2 (best x:Int × Int):Int × Int:=if 0<wb7 x best then x else best
abbrev x5d:q3i:=xt5 (q4l [q05]) 29 1 q05 (λb x=>qt4 b/\qt4 x.1) (λb x=>q7r .bool (decide (0<wb7 x.1 b))) (λb x=>wm2 b x.1)
theorem wq4 (w:World) (o:Obj) {b:Nat} (h:b<w.heap.size):(w.alloc o).heap[b]? = w.heap[b]?:=by
 show(w.heap.push o)[b]? = _
 rw[Array.getElem?_push_lt h]
 exact(Array.getElem?_eq_getElem h).symm
theorem x5e {w:World} {b t:Nat} {p q:Int} (h:w.heap[b]? = some (.cells #[.int .i64 p,.int .i64 q] t (0,0))):w.cell? ⟨b,0,none⟩=some (.int .i64 p)/\w.cell? ⟨b,1,none⟩=some (.int .i64 q)/\w.frozen? ⟨b,0,none⟩=false/\w.frozen? ⟨b,1,none⟩=false:=by
 simp[World.cell?,World.frozen?,h]
theorem x2v (x y:Int):∀v∈[Value.int .i64 x,.int .i64 y],Value.oneCell' v=true:=λv hv=>by
 rcases List.mem_cons.1 hv with rfl | hv
 ·rfl
 ·rcases List.mem_cons.1 hv with rfl | hv
  ·rfl
  ·cases hv
theorem wq5 {a b c d:Int} (h1:qt4 (a,b)) (h2:qt4 (c,d)) (w:World):Calls Tryz.prog 48 #[.agg #[.int .i64 a,.int .i64 b],.agg #[.int .i64 c,.int .i64 d]] w λe w'=>e=.returned (.bool (decide (0<wb7 (c,d) (a,b))))/\Below w.heap.size w w':=by
 have hx:qs1 (λb=>w.heap[b]?) [q05,q05] ((a,b),(c,d),()) [.agg #[.int .i64 a,.int .i64 b],.agg #[.int .i64 c,.int .i64 d]]:=⟨_,_,rfl,⟨[.int .i64 a,.int .i64 b],rfl,[_],[_],rfl,rfl,rfl⟩,_,_,rfl,⟨[.int .i64 c,.int .i64 d],rfl,[_],[_],rfl,rfl,rfl⟩,rfl⟩
 refine(w8z (x:=(((a,b),(c,d),()):qa4 [q05,q05])) wj5 (View.full_on w) ⟨h1,h2⟩ hx).mono λe w' ⟨v,m',e1,e2,_,_,e5⟩=>⟨?_,e2⟩
 have e5:[v]=[.bool (decide (0<wb7 (c,d) (a,b)))]:=e5
 rw[e1,(List.cons.inj e5).1]
theorem w2l:q2u Tryz.prog 47 x5d:=by
 refine⟨⟨_,_,Tryz.func47,rfl,rfl⟩,λw m b cs us args vs k hm hbm hcell hone hcs hargs hrun=>?_⟩
 obtain⟨(pq:Int × Int),hrun,hx⟩:=wj2 hrun hcs
 obtain⟨⟨(xy:Int × Int),⟨⟩⟩,⟨hp,hk⟩,hy⟩:=qo7 hrun hargs
 obtain⟨p,q⟩:=pq
 obtain⟨x,y⟩:=xy
 obtain⟨u1,u2,rfl,x1,x2⟩:=hx
 obtain rfl:u1=[.int .i64 p]:=x1
 obtain rfl:u2=[.int .i64 q]:=x2
 obtain⟨v,vs2,rfl,⟨cc,rfl,u3,u4,rfl,y1,y2⟩,y3⟩:=hy
 obtain rfl:vs2=[]:=y3
 obtain rfl:u3=[.int .i64 x]:=y1
 obtain rfl:u4=[.int .i64 y]:=y2
 have hp:qt4 (p,q)/\qt4 (x,y):=hp
 show Calls Tryz.prog 47 #[.agg #[.int .i64 x,.int .i64 y],.pointer (some ⟨b,0,none⟩)] w _
 have c0:w.cell? ⟨b,0,none⟩=some (.int .i64 p):=by simp[World.cell?,hcell]
 have c1:w.cell? ⟨b,1,none⟩=some (.int .i64 q):=by simp[World.cell?,hcell]
 have hlt:b<w.heap.size:=(Array.getElem?_eq_some_iff.1 hcell).1
 have hcl:w.heap[b]? = some (.cells #[.int .i64 p,.int .i64 q] 29 (0,0)):=hcell
 have sz1:(w.alloc (.cells #[.int .i64 x,.int .i64 y] 29 (0,0))).heap.size=w.heap.size+1:=Array.size_push ..
 have n0:(w.alloc (.cells #[.int .i64 x,.int .i64 y] 29 (0,0))).cell? ⟨w.heap.size,0,none⟩=some (.int .i64 x):=by simp
 have n1:(w.alloc (.cells #[.int .i64 x,.int .i64 y] 29 (0,0))).cell? ⟨w.heap.size,1,none⟩=some (.int .i64 y):=by simp
 go_enter Tryz.func47,Tryz.ntmps47
 go_wp2_with (go_at_call 48; refine(wq5 hp.1 hp.2 _).mono ?_; rintro e w1 ⟨rfl,hb1⟩; have hn0:=Below.cell_of hb1 n0; have hn1:=Below.cell_of hb1 n1; have hw1:w1.heap[b]? = some (.cells #[.int .i64 p,.int .i64 q] 29 (0,0)):=(hb1.block b (by rw[sz1]; omega)).trans ((wq4 w _ hlt).trans hcl); obtain⟨q0,q1,f0,f1⟩:=x5e hw1)
 all_goals
  have hB:Below w.heap.size w w1:=Ls.step_trans (Ls.below_alloc w _) hb1
  have hmw:∀W:World,Kept (λx=>x=b) w W->m.on W:=λW hK x o hx=>(hK.block x ⟨View.lt hm hx,λe=>by rw[e,hbm] at hx; cases hx⟩).trans (hm x o hx)
  have hK1:Kept (λx=>x=b) w w1:=⟨hB.os,hB.tape,hB.output,hB.size,λx hx=>hB.block x hx.1⟩
  rename_i hc
  go_ret
 ·have hK2:Kept (λx=>x=b) w ((w1.setCell ⟨b,0,none⟩ (.int .i64 x)).setCell ⟨b,1,none⟩ (.int .i64 y)):=⟨hB.os,hB.tape,hB.output,by simpa[World.setCell] using hB.size,λk hk=>(Below.heap_setCell _ _ _ _ (λe=>hk.2 e)).trans ((Below.heap_setCell _ _ _ _ (λe=>hk.2 e)).trans (hB.block k hk.1))⟩
  have ht:wm2 (p,q) (x,y)=(x,y):=if_pos hc
  have hfin:((w1.setCell ⟨b,0,none⟩ (.int .i64 x)).setCell ⟨b,1,none⟩ (.int .i64 y)).heap[b]? = some (.cells #[.int .i64 x,.int .i64 y] 29 (0,0)):=by simp[World.setCell,Array.getElem?_modify,hw1]
  rw[ht,decide_eq_true hc] at hk
  exact⟨.bool true,m,q7r .bool true,qj3 q05 (x,y) .nil,[.int .i64 x,.int .i64 y],rfl,hK2,View.le_refl m,hmw _ hK2,λz o hz=>.inl hz,hfin,x2v _ _,rfl,⟨_,_,rfl,rfl,_,_,rfl,rfl,rfl⟩,hk⟩
 ·have hc:¬0<wb7 (x,y) (p,q):=by omega
  have ht:wm2 (p,q) (x,y)=(p,q):=if_neg hc
  rw[ht,decide_eq_false hc] at hk
  exact⟨.bool false,m,q7r .bool false,qj3 q05 (p,q) .nil,[.int .i64 p,.int .i64 q],rfl,hK1,View.le_refl m,hmw _ hK1,λz o hz=>.inl hz,hw1,x2v _ _,rfl,⟨_,_,rfl,rfl,_,_,rfl,rfl,rfl⟩,hk⟩
abbrev x5f:qb9:=hspec [] true none [.cap q05] [q05] (λ_=>True) (λx=>(x.1,()))
theorem w2m:Meets Tryz.prog 49 x5f:=by
 refine qy9 (SpecsOk.nil _) (snd (SpecsOk.nil _)) Tryz.func49 rfl rfl (λ_ _=>none) (λ_=>by kernel_rfl) (by decide) ?_
 rintro⟨⟨a,b⟩,⟨⟩⟩ -
 revert a b
 intro(a:Int) (b:Int)
 refine @qe7 _ (a=a/\b=b/\True) (by kernel_rfl) ?_
 try simp only[z0,z1,z2,z3,z4,z5,z6,z7,z8,z9,z10,Int.reduceEq,z11,z12,z13,z14,z15,z16,z17,z18,z19,z20,z21,z22,z23,z24,z25,z26,z27,z28,z29,z30,Int.reduceLE,Int.reduceLT,z31,z32,z33,z34,qa3]
 try simp only[qb6,qb7,qc7,z31,z32,z2,z1]
abbrev x5g (g:Nat):AV:=.tup (.cons (.clo 47 (.cons (.box g 0) .nil)) (.cons (.clo 49 (.cons (.box g 0) .nil)) .nil))
abbrev sGr:qb9:=w5x (q4l []) 29 (λ_=>True) (λ_=>x5g 0) (λ_=>.cons (.lit (.int .i64 0)) (.cons (.lit (.int .i64 1)) .nil))
theorem w5y:Meets Tryz.prog 25 sGr:=by
 refine xt6 (snd (SpecsOk.cons wq3 (SpecsOk.nil _))) Tryz.func25 rfl rfl (qu0 _) (λ_ _=>none) (λ_=>by kernel_rfl) (by decide) ?_
 rintro⟨⟩ -
 refine @qe7 _ (True/\((True/\True)/\(True/\True)/\True)/\(0:Int)=(0:Int)/\(1:Int)=(1:Int)/\True) (by kernel_rfl) ?_
 try simp only[z0,z1,z2,z3,z4,z5,z6,z7,z8,z9,z10,Int.reduceEq,z11,z12,z13,z14,z15,z16,z17,z18,z19,z20,z21,z22,z23,z24,z25,z26,z27,z28,z29,z30,Int.reduceLE,Int.reduceLT,z31,z32,z33,z34,qa3]
 try simp only[qb6,qb7,qc7,z31,z32,z2,z1]
open Go Go.RowKit Eng
structure LowIs (n d:Int) (r:Int × Int):Prop where
 pos:1<=r.2
 eq:r.1*d=n*r.2
 n0:0<=r.1
 nle:r.1<=n
 dle:r.2<=d
 one:gcdI r.1 r.2=1
theorem xt9 {n d:Int} (hn:0<=n) (hd:0<d):LowIs n d (ofR n d):=by
 have e:ofR n d=(n.tdiv (gcdI n d),d.tdiv (gcdI n d)):=by unfold ofR; rw[if_neg (by omega)]
 have hg:0<gcdI n d:=qp6 (.inr (by omega))
 have h1:gcdI n d∣n:=Int.gcd_dvd_left ..
 have h2:gcdI n d∣d:=Int.gcd_dvd_right ..
 have hgd:(gcdI n d:Int)=(Int.gcd n d:Int):=rfl
 rw[e]
 have e1:n.tdiv (gcdI n d)=n / gcdI n d:=Int.tdiv_eq_ediv_of_nonneg hn
 have e2:d.tdiv (gcdI n d)=d / gcdI n d:=Int.tdiv_eq_ediv_of_nonneg (by omega)
 rw[e1,e2]
 obtain⟨a,ha⟩:=h1
 obtain⟨b,hb⟩:=h2
 have q1:n / gcdI n d=a:=by
  conv=>lhs; lhs; rw[ha]
  exact Int.mul_ediv_cancel_left _ (by omega)
 have q2:d / gcdI n d=b:=by
  conv=>lhs; lhs; rw[hb]
  exact Int.mul_ediv_cancel_left _ (by omega)
 have hgcd:Int.gcd a b=1:=by
  have:=Int.gcd_ediv_gcd_ediv_gcd (i:=n) (j:=d) (by have:=hg; rw[hgd] at this; omega)
  rw[<- hgd,q1,q2] at this
  exact this
 generalize gcdI n d=g at *
 rw[q1,q2]
 have hb1:1<=b:=by
  rcases Int.lt_or_le b 1 with q | q
  ·have:g*b<=0:=Int.mul_nonpos_of_nonneg_of_nonpos (by omega) (by omega)
   omega
  ·exact q
 have ha0:0<=a:=by
  rcases Int.lt_or_le a 0 with q | q
  ·have:g*a<0:=Int.mul_neg_of_pos_of_neg hg q
   omega
  ·exact q
 refine⟨hb1,?_,ha0,?_,?_,?_⟩
 ·show a*d=n*b
  rw[ha,hb,Int.mul_comm g b,<- Int.mul_assoc,Int.mul_comm (a*b) g,Int.mul_assoc]
 ·show a<=n
  rw[ha]; have:=Int.mul_le_mul_of_nonneg_right (a:=1) (b:=g) (c:=a) (by omega) ha0; omega
 ·show b<=d
  rw[hb]; have:=Int.mul_le_mul_of_nonneg_right (a:=1) (b:=g) (c:=b) (by omega) (by omega); omega
 ·show((Int.gcd a b:Nat):Int)=1
  rw[hgcd]; rfl
theorem q6o {h:List Int} (hh:HOk h) (h0:szL h≠0):0<szL h:=by
 have:=qy1 hh h.length
 have e:szL h=q2f h h.length:=rfl
 omega
theorem q1k {h p:List Int} (hh:wq1 h p):LowIs (inL h p) (szL h) (shR h p):=xt9 (qy2 hh.ok _).1 (q6o hh.ok hh.ne)
theorem q6p {h p:List Int} (hh:wq1 h p):qt4 (shR h p):=by
 have k:=q1k hh
 have h1:=(qy2 (pix:=p) hh.ok p.length).2
 have h2:=(qy1 hh.ok h.length).2
 have h3:=hh.len
 have h4:=hh.ok.len
 have e1:inL h p=qm4 h p p.length:=rfl
 have e2:szL h=q2f h h.length:=rfl
 have k1:=k.pos
 have k2:=k.nle
 have k3:=k.dle
 have k4:=k.n0
 exact⟨⟨k4,by omega⟩,⟨by omega,by omega⟩,k1⟩
theorem w5z:qt4 (0,1):=⟨⟨by decide,by decide⟩,⟨by decide,by decide⟩,by decide⟩
theorem w50 {a b:Int × Int} (ha:qt4 a) (hb:qt4 b):qt4 (wm2 a b):=by unfold wm2; split <;> assumption
def xx2 (l:List (List Int)) (pix:List Int):Nat->Int × Int
 | 0=>(0,1)
 | k+1=>wm2 (xx2 l pix k) (shR (nL l k) pix)
structure x5h (l:List (List Int)) (pix:List Int):Prop where
 len:l.length<=1000000
 ok:∀k,k<l.length->wq1 (nL l k) pix
theorem wy7 {l:List (List Int)} {pix:List Int} (h:x5h l pix):∀k,k<=l.length->qt4 (xx2 l pix k)
 | 0,_=>w5z
 | k+1,hk=>w50 (wy7 h k (by omega)) (q6p (h.ok k (by omega)))
abbrev x5i:qb9:=qg6 false none [tMask] [tMask] (λx=>validB x.1=true->q7o x.1) (λx=>((qc9 x.1).1,()))
theorem q3x:Meets Tryz.prog 11 x5i:=by
 refine meets (snd (SpecsOk.cons w5w (SpecsOk.nil _))) Tryz.func11 rfl rfl (λ_ _=>none) (λ_=>by kernel_rfl) (by decide) ?_
 rintro⟨m,⟨⟩⟩ h
 revert m
 intro(m:List (List Int)) (h:validB m=true->q7o m)
 refine @qe7 _ ((validB m=true->q7o m)/\(qc9 m).1=(qc9 m).1) (by kernel_rfl) ?_
 try simp only[z0,z1,z2,z3,z4,z5,z6,z7,z8,z9,z10,Int.reduceEq,z11,z12,z13,z14,z15,z16,z17,z18,z19,z20,z21,z22,z23,z24,z25,z26,z27,z28,z29,z30,Int.reduceLE,Int.reduceLT,z31,z32,z33,z34,qa3]
 try simp only[qb6,qb7,qc7,z31,z32,z2,z1]
 exact h
def ofE (m:List (List Int)) (p:List Int):Int:=xd5 m p
def ofQ (m:List (List Int)) (p:List Int):Int × Int:=if xd5 m p=0 then xx2 (qc9 m).1 p (qc9 m).1.length else(0,0)
end Go.Proofs.YtempacilejhbgaaGreatDoor
