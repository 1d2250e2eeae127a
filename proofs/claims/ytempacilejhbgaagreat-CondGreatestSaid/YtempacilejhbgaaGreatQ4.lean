/- Shares of a mask for some pixels: contracts by the engine. No condition. -/
import Derived.Test.YtempacilejhbgaaGreatQ1
import Derived.Test.YtempacilejhbgaaGreatV19
import Derived.Test.YtempacilejhbgaaGreatEngU
set_option linter.unusedVariables false
set_option linter.unusedSimpArgs false
namespace Go.Proofs.YtempacilejhbgaaGreat
open Go Go.RowKit Eng
def BxsOk (bxs:List (Nat × q3n)):Prop:=∀f B,find bxs f=some B->q2w Tryz.prog f B
theorem BxsOk.nil:BxsOk []:=λf M h=>by cases h
theorem BxsOk.cons {f:Nat} {B:q3n} {l:List (Nat × q3n)} (h:q2w Tryz.prog f B) (k:BxsOk l):BxsOk ((f,B) :: l):=by
 intro g S hg
 simp only[find] at hg
 split at hg
 ·rename_i e; obtain rfl:=Nat.eq_of_beq_eq_true e; injection hg with hg; rw[<- hg]; exact h
 ·exact k g S hg
def x6j (specs:List (Nat × qb9)) (its:List (Nat × q1k)) (bxs:List (Nat × q3n)):Ctx:={ specs:=specs,tys:=tys,wr:=[],its:=its,bxs:=bxs }
theorem x6k {specs:List (Nat × qb9)} {its:List (Nat × q1k)} {bxs:List (Nat × q3n)} (h:SpecsOk Tryz.prog specs) (hi:ItsOk its) (hb:BxsOk bxs):Sound Tryz.prog (x6j specs its bxs):=SpecsOk.sound h q27 (by kernel_rfl) hi (hbx:=hb)
def qy3 (x:Int):Int:=(x.natAbs:Int)
theorem xa7 (x:Int):max x (0-x)=qy3 x:=by unfold qy3; omega
def q0p (h:List Int):Nat->Int
 | 0=>0
 | k+1=>q0p h k+qy3 (nI h k)
def szL (h:List Int):Int:=q0p h h.length
def qm2 (h pix:List Int):Nat->Int
 | 0=>0
 | k+1=>qm2 h pix k+qy3 (nI h (nI pix k).toNat)
def inL (h pix:List Int):Int:=qm2 h pix pix.length
structure HOk (h:List Int):Prop where
 len:h.length<=100
 sm:∀i,qe8 1000000 (nI h i)
theorem qy4 {h:List Int} (hh:HOk h):∀k,0<=q0p h k/\q0p h k<=1000000*k
 | 0=>⟨Int.le_refl _,by simp[q0p]⟩
 | k+1=>by
  have h1:=qy4 hh k
  have h2:=hh.sm k
  unfold qe8 at h2
  rw[q0p]; unfold qy3; omega
theorem qy5 {h pix:List Int} (hh:HOk h):∀k,0<=qm2 h pix k/\qm2 h pix k<=1000000*k
 | 0=>⟨Int.le_refl _,by simp[qm2]⟩
 | k+1=>by
  have h1:=qy5 (pix:=pix) hh k
  have h2:=hh.sm (nI pix k).toNat
  unfold qe8 at h2
  rw[qm2]; unfold qy3; omega
abbrev x2m:qb9:=qg2 true none [tInt] [tInt] (λx=>qe8 1000000000 x.1) (λx=>(qy3 x.1,()))
theorem q2a:Meets Tryz.prog 100 x2m:=by
 refine meets (snd (SpecsOk.nil _)) Tryz.func100 rfl rfl (λ_ _=>none) (λ_=>by kernel_rfl) (by decide) ?_
 rintro⟨x,⟨⟩⟩ h
 revert x
 intro(x:Int) (h:qe8 1000000000 x)
 refine @qd8 _ (fits .i64 ((0:Int)-x)/\max2 true x ((0:Int)-x)=qy3 x) (by kernel_rfl) ?_
 try simp only[z0,z1,z2,z3,z4,z5,z6,z7,z8,z9,z10,Int.reduceEq,z11,z12,z13,z14,z15,z16,z17,z18,z19,z20,z21,z22,z23,z24,z25,z26,z27,z28,z29,z30,Int.reduceLE,Int.reduceLT,z31,z32,z33,z34,qa3]
 try simp only[qb3,qb4,qc7,z31,z32,z2,z1]
 unfold qe8 at h
 exact⟨qa7 (by omega) (by omega),xa7 x⟩
def x6l (h:List Int):Nat->Option Inv
 | 0=>some (Inv.of [3,8] 0 (λk:Nat=>[(3,.lit (.int .i64 (q0p h k))),(8,.lit (.int .i64 k))]) (λ_=>[]) (λk=>k<=h.length) (λk=>h.length-k))
 | _=>none
abbrev xx2:qb9:=qg2 true none [tInts] [tInt] (λx=>HOk x.1) (λx=>(szL x.1,()))
theorem q4u:Meets Tryz.prog 57 xx2:=by
 refine meets (snd (SpecsOk.cons q2a (SpecsOk.nil _))) Tryz.func57 rfl rfl (λx=>x6l x.1) (λ_=>by kernel_rfl) (by decide) ?_
 rintro⟨h,⟨⟩⟩ hh
 revert h
 intro(h:List Int) (hh:HOk h)
 refine @qd8 _ (∃(v0:Unit),∃(v1:Nat),Nat.le v1 h.length/\(((0:Int)=q0p h v1/\(0:Int)=(↑v1:Int)/\True)/\True)/\∀(v2:Nat),Nat.le v2 h.length->(decide ((↑v2:Int)<(↑h.length:Int))=true->((0:Int)<=(↑v2:Int)/\(↑v2:Int)<(↑h.length:Int))/\qe8 (1000000000:Int) (nI h v2)/\fits .i64 (q0p h v2+qy3 (nI h v2))/\fits .i64 ((↑v2:Int)+(1:Int))/\∃(v5:Nat),Nat.le v5 h.length/\h.length-v5<h.length-v2/\(q0p h v2+qy3 (nI h v2)=q0p h v5/\(↑v2:Int)+(1:Int)=(↑v5:Int)/\True)/\True)/\(decide ((↑v2:Int)<(↑h.length:Int))=false->q0p h v2=szL h)) (by kernel_rfl) ?_
 try simp only[z0,z1,z2,z3,z4,z5,z6,z7,z8,z9,z10,Int.reduceEq,z11,z12,z13,z14,z15,z16,z17,z18,z19,z20,z21,z22,z23,z24,z25,z26,z27,z28,z29,z30,Int.reduceLE,Int.reduceLT,z31,z32,z33,z34,qa3]
 try simp only[qb3,qb4,qc7,z31,z32,z2,z1]
 have hl:=hh.len
 refine⟨(),0,Nat.zero_le _,⟨rfl,rfl⟩,λk hk=>⟨λhlt=>?_,λhge=>?_⟩⟩
 ·have h1:=qy4 hh k
  have h2:=qy4 hh (k+1)
  have h3:=hh.sm k
  unfold qe8 at h3
  have e:q0p h k+qy3 (nI h k)=q0p h (k+1):=rfl
  exact⟨hlt,by unfold qe8; omega,qa7 (by omega) (by omega),qa7 (by omega) (by omega),k+1,hlt,by omega,e,by push_cast; rfl⟩
 ·obtain rfl:k=h.length:=by omega
  rfl
def shR (h pix:List Int):Int × Int:=ofR (inL h pix) (szL h)
structure wb4 (h pix:List Int):Prop where
 ok:HOk h
 len:pix.length<=100
 at_:∀j,j<pix.length->0<=nI pix j/\nI pix j<h.length
 ne:szL h≠0
def x2n (h pix:List Int):Nat->Option Inv
 | 0=>some (Inv.of [5,10] 1 (λk:Nat=>[(5,.lit (.int .i64 (qm2 h pix k))),(10,.lit (.int .i64 k))]) (λ_=>[.box 34 (.cons (.lit (.int .i64 0)) (.cons (.lit (.int .i64 0)) .nil))]) (λk=>k<=pix.length) (λk=>pix.length-k))
 | _=>none
abbrev x6m:qb9:=qg2 true none [tInts,tInts] [qz1] (λx=>wb4 x.1 x.2.1) (λx=>(shR x.1 x.2.1,()))
theorem q39:Meets Tryz.prog 59 x6m:=by
 refine meets (snd (SpecsOk.cons q2a (SpecsOk.cons q4u (SpecsOk.cons w9s (SpecsOk.nil _))))) Tryz.func59 rfl rfl (λx=>x2n x.1 x.2.1) (λ_=>by kernel_rfl) (by decide) ?_
 rintro⟨h,p,⟨⟩⟩ hh
 revert h p
 intro(h:List Int) (p:List Int) (hh:wb4 h p)
 refine @qd8 _ (∃(v0:Unit),∃(v1:Nat),Nat.le v1 p.length/\(((0:Int)=qm2 h p v1/\(0:Int)=(↑v1:Int)/\True)/\((0:Int)=(0:Int)/\(0:Int)=(0:Int)/\True)/\True)/\∀(v2:Nat),Nat.le v2 p.length->(decide ((↑v2:Int)<(↑p.length:Int))=true->((0:Int)<=(↑v2:Int)/\(↑v2:Int)<(↑p.length:Int))/\((0:Int)<=nI p v2/\nI p v2<(↑h.length:Int))/\qe8 (1000000000:Int) (nI h (nI p v2).toNat)/\fits .i64 (qm2 h p v2+qy3 (nI h (nI p v2).toNat))/\fits .i64 ((↑v2:Int)+(1:Int))/\∃(v5:Nat),Nat.le v5 p.length/\p.length-v5<p.length-v2/\(qm2 h p v2+qy3 (nI h (nI p v2).toNat)=qm2 h p v5/\(↑v2:Int)+(1:Int)=(↑v5:Int)/\True)/\((0:Int)=(0:Int)/\(0:Int)=(0:Int)/\True)/\True)/\(decide ((↑v2:Int)<(↑p.length:Int))=false->HOk h/\(((-4000000000000000000:Int)<=qm2 h p v2/\qm2 h p v2<=BIG)/\((-4000000000000000000:Int)<=szL h/\szL h<=BIG)/\szL h≠(0:Ty.den tInt))/\(ofR (qm2 h p v2) (szL h)).1=(shR h p).1/\(ofR (qm2 h p v2) (szL h)).2=(shR h p).2/\True)) (by kernel_rfl) ?_
 try simp only[z0,z1,z2,z3,z4,z5,z6,z7,z8,z9,z10,Int.reduceEq,z11,z12,z13,z14,z15,z16,z17,z18,z19,z20,z21,z22,z23,z24,z25,z26,z27,z28,z29,z30,Int.reduceLE,Int.reduceLT,z31,z32,z33,z34,qa3]
 try simp only[qb3,qb4,qc7,z31,z32,z2,z1]
 have hl:=hh.len
 have hb:=hh.ok.len
 refine⟨(),0,Nat.zero_le _,⟨rfl,rfl⟩,λk hk=>⟨λhlt=>?_,λhge=>?_⟩⟩
 ·have h1:=qy5 (pix:=p) hh.ok k
  have h2:=qy5 (pix:=p) hh.ok (k+1)
  have h3:=hh.ok.sm (nI p k).toNat
  have h4:=hh.at_ k hlt
  unfold qe8 at h3
  have e:qm2 h p k+qy3 (nI h (nI p k).toNat)=qm2 h p (k+1):=rfl
  exact⟨hlt,h4,by unfold qe8; omega,qa7 (by omega) (by omega),qa7 (by omega) (by omega),k+1,hlt,by omega,e,by push_cast; rfl⟩
 ·obtain rfl:k=p.length:=by omega
  have h1:=qy5 (pix:=p) hh.ok p.length
  have h2:=qy4 hh.ok h.length
  have h3:=hh.ne
  have e:szL h=q0p h h.length:=rfl
  unfold BIG
  exact⟨hh.ok,⟨⟨by omega,by omega⟩,⟨by omega,by omega⟩,h3⟩,rfl,rfl⟩
open Go Go.RowKit Eng Ls
abbrev x2o:qb9:=qg2 true none [] [qz1] (λ_=>True) (λ_=>((0,1),()))
theorem wt0:Meets Tryz.prog 129 x2o:=by
 refine meets (snd (SpecsOk.nil _)) Tryz.func129 rfl rfl (λ_ _=>none) (λ_=>by kernel_rfl) (by decide) ?_
 rintro⟨⟩ -
 refine @qd8 _ ((0:Int)=(0:Int)/\(1:Int)=(1:Int)/\True) (by kernel_rfl) ?_
 try simp only[z0,z1,z2,z3,z4,z5,z6,z7,z8,z9,z10,Int.reduceEq,z11,z12,z13,z14,z15,z16,z17,z18,z19,z20,z21,z22,z23,z24,z25,z26,z27,z28,z29,z30,Int.reduceLE,Int.reduceLT,z31,z32,z33,z34,qa3]
 try simp only[qb3,qb4,qc7,z31,z32,z2,z1]
abbrev xx3:qb9:=qg2 true none [qz1,qz1] [.bool] (λx=>qs7 x.1/\qs7 x.2.1) (λx=>(decide (0<wd7 x.2.1 x.1),()))
theorem wl6:Meets Tryz.prog 131 xx3:=by
 refine meets (snd (SpecsOk.cons w2m (SpecsOk.nil _))) Tryz.func131 rfl rfl (λ_ _=>none) (λ_=>by kernel_rfl) (by decide) ?_
 rintro⟨⟨a,b⟩,⟨c,d⟩,⟨⟩⟩ h
 revert a b c d
 intro(a:Int) (b:Int) (c:Int) (d:Int) (h:qs7 (a,b)/\qs7 (c,d))
 refine @qd8 _ ((qs7 (c,d)/\qs7 (a,b))/\decide ((0:Int)<wd7 (c,d) (a,b))=decide ((0:Int)<wd7 (c,d) (a,b))) (by kernel_rfl) ?_
 try simp only[z0,z1,z2,z3,z4,z5,z6,z7,z8,z9,z10,Int.reduceEq,z11,z12,z13,z14,z15,z16,z17,z18,z19,z20,z21,z22,z23,z24,z25,z26,z27,z28,z29,z30,Int.reduceLE,Int.reduceLT,z31,z32,z33,z34,qa3]
 try simp only[qb3,qb4,qc7,z31,z32,z2,z1]
 exact⟨h.2,h.1⟩
def wo7 (best x:Int × Int):Int × Int:=if 0<wd7 x best then x else best
abbrev x6n:q3n:=xx0 (q6b [qz1]) 34 1 qz1 (λb x=>qs7 b/\qs7 x.1) (λb x=>q7z .bool (decide (0<wd7 x.1 b))) (λb x=>wo7 b x.1)
theorem wt1 (w:World) (o:Obj) {b:Nat} (h:b<w.heap.size):(w.alloc o).heap[b]? = w.heap[b]?:=by
 show(w.heap.push o)[b]? = _
 rw[Array.getElem?_push_lt h]
 exact(Array.getElem?_eq_getElem h).symm
theorem x6o {w:World} {b t:Nat} {p q:Int} (h:w.heap[b]? = some (.cells #[.int .i64 p,.int .i64 q] t (0,0))):w.cell? ⟨b,0,none⟩=some (.int .i64 p)/\w.cell? ⟨b,1,none⟩=some (.int .i64 q)/\w.frozen? ⟨b,0,none⟩=false/\w.frozen? ⟨b,1,none⟩=false:=by
 simp[World.cell?,World.frozen?,h]
theorem x4k (x y:Int):∀v∈[Value.int .i64 x,.int .i64 y],Value.oneCell' v=true:=λv hv=>by
 rcases List.mem_cons.1 hv with rfl | hv
 ·rfl
 ·rcases List.mem_cons.1 hv with rfl | hv
  ·rfl
  ·cases hv
theorem wt2 {a b c d:Int} (h1:qs7 (a,b)) (h2:qs7 (c,d)) (w:World):Calls Tryz.prog 131 #[.agg #[.int .i64 a,.int .i64 b],.agg #[.int .i64 c,.int .i64 d]] w λe w'=>e=.returned (.bool (decide (0<wd7 (c,d) (a,b))))/\Below w.heap.size w w':=by
 have hx:qu9 (λb=>w.heap[b]?) [qz1,qz1] ((a,b),(c,d),()) [.agg #[.int .i64 a,.int .i64 b],.agg #[.int .i64 c,.int .i64 d]]:=⟨_,_,rfl,⟨[.int .i64 a,.int .i64 b],rfl,[_],[_],rfl,rfl,rfl⟩,_,_,rfl,⟨[.int .i64 c,.int .i64 d],rfl,[_],[_],rfl,rfl,rfl⟩,rfl⟩
 refine(w0d (x:=(((a,b),(c,d),()):qa6 [qz1,qz1])) wl6 (View.full_on w) ⟨h1,h2⟩ hx).mono λe w' ⟨v,m',e1,e2,_,_,e5⟩=>⟨?_,e2⟩
 have e5:[v]=[.bool (decide (0<wd7 (c,d) (a,b)))]:=e5
 rw[e1,(List.cons.inj e5).1]
theorem w25:q2w Tryz.prog 130 x6n:=by
 refine⟨⟨_,_,Tryz.func130,rfl,rfl⟩,λw m b cs us args vs k hm hbm hcell hone hcs hargs hrun=>?_⟩
 obtain⟨(pq:Int × Int),hrun,hx⟩:=wl4 hrun hcs
 obtain⟨⟨(xy:Int × Int),⟨⟩⟩,⟨hp,hk⟩,hy⟩:=qo7 hrun hargs
 obtain⟨p,q⟩:=pq
 obtain⟨x,y⟩:=xy
 obtain⟨u1,u2,rfl,x1,x2⟩:=hx
 obtain rfl:u1=[.int .i64 p]:=x1
 obtain rfl:u2=[.int .i64 q]:=x2
 obtain⟨v,vs2,rfl,⟨cc,rfl,u3,u4,rfl,y1,y2⟩,y3⟩:=hy
 obtain rfl:vs2=[]:=y3
 obtain rfl:u3=[.int .i64 x]:=y1
 obtain rfl:u4=[.int .i64 y]:=y2
 have hp:qs7 (p,q)/\qs7 (x,y):=hp
 show Calls Tryz.prog 130 #[.agg #[.int .i64 x,.int .i64 y],.pointer (some ⟨b,0,none⟩)] w _
 have c0:w.cell? ⟨b,0,none⟩=some (.int .i64 p):=by simp[World.cell?,hcell]
 have c1:w.cell? ⟨b,1,none⟩=some (.int .i64 q):=by simp[World.cell?,hcell]
 have hlt:b<w.heap.size:=(Array.getElem?_eq_some_iff.1 hcell).1
 have hcl:w.heap[b]? = some (.cells #[.int .i64 p,.int .i64 q] 34 (0,0)):=hcell
 have sz1:(w.alloc (.cells #[.int .i64 x,.int .i64 y] 34 (0,0))).heap.size=w.heap.size+1:=Array.size_push ..
 have n0:(w.alloc (.cells #[.int .i64 x,.int .i64 y] 34 (0,0))).cell? ⟨w.heap.size,0,none⟩=some (.int .i64 x):=by simp
 have n1:(w.alloc (.cells #[.int .i64 x,.int .i64 y] 34 (0,0))).cell? ⟨w.heap.size,1,none⟩=some (.int .i64 y):=by simp
 go_enter Tryz.func130,Tryz.ntmps130
 go_wp2_with (go_at_call 131; refine(wt2 hp.1 hp.2 _).mono ?_; rintro e w1 ⟨rfl,hb1⟩; have hn0:=Below.cell_of hb1 n0; have hn1:=Below.cell_of hb1 n1; have hw1:w1.heap[b]? = some (.cells #[.int .i64 p,.int .i64 q] 34 (0,0)):=(hb1.block b (by rw[sz1]; omega)).trans ((wt1 w _ hlt).trans hcl); obtain⟨q0,q1,f0,f1⟩:=x6o hw1)
 all_goals
  have hB:Below w.heap.size w w1:=Ls.step_trans (Ls.below_alloc w _) hb1
  have hmw:∀W:World,Kept (λx=>x=b) w W->m.on W:=λW hK x o hx=>(hK.block x ⟨View.lt hm hx,λe=>by rw[e,hbm] at hx; cases hx⟩).trans (hm x o hx)
  have hK1:Kept (λx=>x=b) w w1:=⟨hB.os,hB.tape,hB.output,hB.size,λx hx=>hB.block x hx.1⟩
  rename_i hc
  go_ret
 ·have hK2:Kept (λx=>x=b) w ((w1.setCell ⟨b,0,none⟩ (.int .i64 x)).setCell ⟨b,1,none⟩ (.int .i64 y)):=⟨hB.os,hB.tape,hB.output,by simpa[World.setCell] using hB.size,λk hk=>(Below.heap_setCell _ _ _ _ (λe=>hk.2 e)).trans ((Below.heap_setCell _ _ _ _ (λe=>hk.2 e)).trans (hB.block k hk.1))⟩
  have ht:wo7 (p,q) (x,y)=(x,y):=if_pos hc
  have hfin:((w1.setCell ⟨b,0,none⟩ (.int .i64 x)).setCell ⟨b,1,none⟩ (.int .i64 y)).heap[b]? = some (.cells #[.int .i64 x,.int .i64 y] 34 (0,0)):=by simp[World.setCell,Array.getElem?_modify,hw1]
  rw[ht,decide_eq_true hc] at hk
  exact⟨.bool true,m,q7z .bool true,qj3 qz1 (x,y) .nil,[.int .i64 x,.int .i64 y],rfl,hK2,View.le_refl m,hmw _ hK2,λz o hz=>.inl hz,hfin,x4k _ _,rfl,⟨_,_,rfl,rfl,_,_,rfl,rfl,rfl⟩,hk⟩
 ·have hc:¬0<wd7 (x,y) (p,q):=by omega
  have ht:wo7 (p,q) (x,y)=(p,q):=if_neg hc
  rw[ht,decide_eq_false hc] at hk
  exact⟨.bool false,m,q7z .bool false,qj3 qz1 (p,q) .nil,[.int .i64 p,.int .i64 q],rfl,hK1,View.le_refl m,hmw _ hK1,λz o hz=>.inl hz,hw1,x4k _ _,rfl,⟨_,_,rfl,rfl,_,_,rfl,rfl,rfl⟩,hk⟩
abbrev x6p:qb9:=hspec [] true none [.cap qz1] [qz1] (λ_=>True) (λx=>(x.1,()))
theorem w26:Meets Tryz.prog 132 x6p:=by
 refine qt8 (SpecsOk.nil _) (snd (SpecsOk.nil _)) Tryz.func132 rfl rfl (λ_ _=>none) (λ_=>by kernel_rfl) (by decide) ?_
 rintro⟨⟨a,b⟩,⟨⟩⟩ -
 revert a b
 intro(a:Int) (b:Int)
 refine @qd8 _ (a=a/\b=b/\True) (by kernel_rfl) ?_
 try simp only[z0,z1,z2,z3,z4,z5,z6,z7,z8,z9,z10,Int.reduceEq,z11,z12,z13,z14,z15,z16,z17,z18,z19,z20,z21,z22,z23,z24,z25,z26,z27,z28,z29,z30,Int.reduceLE,Int.reduceLT,z31,z32,z33,z34,qa3]
 try simp only[qb3,qb4,qc7,z31,z32,z2,z1]
abbrev x6q (g:Nat):AV:=.tup (.cons (.clo 130 (.cons (.box g 0) .nil)) (.cons (.clo 132 (.cons (.box g 0) .nil)) .nil))
abbrev sGr:qb9:=w6k (q6b []) 34 (λ_=>True) (λ_=>x6q 0) (λ_=>.cons (.lit (.int .i64 0)) (.cons (.lit (.int .i64 1)) .nil))
theorem w6l:Meets Tryz.prog 105 sGr:=by
 refine xx1 (snd (SpecsOk.cons wt0 (SpecsOk.nil _))) Tryz.func105 rfl rfl (qx6 _) (λ_ _=>none) (λ_=>by kernel_rfl) (by decide) ?_
 rintro⟨⟩ -
 refine @qd8 _ (True/\((True/\True)/\(True/\True)/\True)/\(0:Int)=(0:Int)/\(1:Int)=(1:Int)/\True) (by kernel_rfl) ?_
 try simp only[z0,z1,z2,z3,z4,z5,z6,z7,z8,z9,z10,Int.reduceEq,z11,z12,z13,z14,z15,z16,z17,z18,z19,z20,z21,z22,z23,z24,z25,z26,z27,z28,z29,z30,Int.reduceLE,Int.reduceLT,z31,z32,z33,z34,qa3]
 try simp only[qb3,qb4,qc7,z31,z32,z2,z1]
open Go Go.RowKit Eng
structure LowIs (n d:Int) (r:Int × Int):Prop where
 pos:1<=r.2
 eq:r.1*d=n*r.2
 n0:0<=r.1
 nle:r.1<=n
 dle:r.2<=d
 one:gcdI r.1 r.2=1
theorem xx4 {n d:Int} (hn:0<=n) (hd:0<d):LowIs n d (ofR n d):=by
 have e:ofR n d=(n.tdiv (gcdI n d),d.tdiv (gcdI n d)):=by unfold ofR; rw[if_neg (by omega)]
 have hg:0<gcdI n d:=qp7 (.inr (by omega))
 have h1:gcdI n d∣n:=Int.gcd_dvd_left ..
 have h2:gcdI n d∣d:=Int.gcd_dvd_right ..
 have hgd:(gcdI n d:Int)=(Int.gcd n d:Int):=rfl
 rw[e]
 have e1:n.tdiv (gcdI n d)=n / gcdI n d:=Int.tdiv_eq_ediv_of_nonneg hn
 have e2:d.tdiv (gcdI n d)=d / gcdI n d:=Int.tdiv_eq_ediv_of_nonneg (by omega)
 rw[e1,e2]
 obtain⟨a,ha⟩:=h1
 obtain⟨b,hb⟩:=h2
 have q1:n / gcdI n d=a:=by
  conv=>lhs; lhs; rw[ha]
  exact Int.mul_ediv_cancel_left _ (by omega)
 have q2:d / gcdI n d=b:=by
  conv=>lhs; lhs; rw[hb]
  exact Int.mul_ediv_cancel_left _ (by omega)
 have hgcd:Int.gcd a b=1:=by
  have:=Int.gcd_ediv_gcd_ediv_gcd (i:=n) (j:=d) (by have:=hg; rw[hgd] at this; omega)
  rw[<- hgd,q1,q2] at this
  exact this
 generalize gcdI n d=g at *
 rw[q1,q2]
 have hb1:1<=b:=by
  rcases Int.lt_or_le b 1 with q | q
  ·have:g*b<=0:=Int.mul_nonpos_of_nonneg_of_nonpos (by omega) (by omega)
   omega
  ·exact q
 have ha0:0<=a:=by
  rcases Int.lt_or_le a 0 with q | q
  ·have:g*a<0:=Int.mul_neg_of_pos_of_neg hg q
   omega
  ·exact q
 refine⟨hb1,?_,ha0,?_,?_,?_⟩
 ·show a*d=n*b
  rw[ha,hb,Int.mul_comm g b,<- Int.mul_assoc,Int.mul_comm (a*b) g,Int.mul_assoc]
 ·show a<=n
  rw[ha]; have:=Int.mul_le_mul_of_nonneg_right (a:=1) (b:=g) (c:=a) (by omega) ha0; omega
 ·show b<=d
  rw[hb]; have:=Int.mul_le_mul_of_nonneg_right (a:=1) (b:=g) (c:=b) (by omega) (by omega); omega
 ·show((Int.gcd a b:Nat):Int)=1
  rw[hgcd]; rfl
theorem q2b {h:List Int} (hh:HOk h) (h0:szL h≠0):0<szL h:=by
 have:=qy4 hh h.length
 have e:szL h=q0p h h.length:=rfl
 omega
theorem qu1 {h p:List Int} (hh:wb4 h p):LowIs (inL h p) (szL h) (shR h p):=xx4 (qy5 hh.ok _).1 (q2b hh.ok hh.ne)
theorem q61 {h p:List Int} (hh:wb4 h p):qs7 (shR h p):=by
 have k:=qu1 hh
 have h1:=(qy5 (pix:=p) hh.ok p.length).2
 have h2:=(qy4 hh.ok h.length).2
 have h3:=hh.len
 have h4:=hh.ok.len
 have e1:inL h p=qm2 h p p.length:=rfl
 have e2:szL h=q0p h h.length:=rfl
 have k1:=k.pos
 have k2:=k.nle
 have k3:=k.dle
 have k4:=k.n0
 exact⟨⟨k4,by omega⟩,⟨by omega,by omega⟩,k1⟩
theorem w6m:qs7 (0,1):=⟨⟨by decide,by decide⟩,⟨by decide,by decide⟩,by decide⟩
theorem w6n {a b:Int × Int} (ha:qs7 a) (hb:qs7 b):qs7 (wo7 a b):=by unfold wo7; split <;> assumption
def x0g (l:List (List Int)) (pix:List Int):Nat->Int × Int
 | 0=>(0,1)
 | k+1=>wo7 (x0g l pix k) (shR (nL l k) pix)
structure x6r (l:List (List Int)) (pix:List Int):Prop where
 len:l.length<=1000000
 ok:∀k,k<l.length->wb4 (nL l k) pix
theorem w0l {l:List (List Int)} {pix:List Int} (h:x6r l pix):∀k,k<=l.length->qs7 (x0g l pix k)
 | 0,_=>w6m
 | k+1,hk=>w6n (w0l h k (by omega)) (q61 (h.ok k (by omega)))
abbrev x6s:qb9:=qg2 false none [tMask] [tMask] (λx=>validB x.1=true->q7y x.1) (λx=>((qc0 x.1).1,()))
theorem q4a:Meets Tryz.prog 64 x6s:=by
 refine meets (snd (SpecsOk.cons w6j (SpecsOk.nil _))) Tryz.func64 rfl rfl (λ_ _=>none) (λ_=>by kernel_rfl) (by decide) ?_
 rintro⟨m,⟨⟩⟩ h
 revert m
 intro(m:List (List Int)) (h:validB m=true->q7y m)
 refine @qd8 _ ((validB m=true->q7y m)/\(qc0 m).1=(qc0 m).1) (by kernel_rfl) ?_
 try simp only[z0,z1,z2,z3,z4,z5,z6,z7,z8,z9,z10,Int.reduceEq,z11,z12,z13,z14,z15,z16,z17,z18,z19,z20,z21,z22,z23,z24,z25,z26,z27,z28,z29,z30,Int.reduceLE,Int.reduceLT,z31,z32,z33,z34,qa3]
 try simp only[qb3,qb4,qc7,z31,z32,z2,z1]
 exact h
def ofE (m:List (List Int)) (p:List Int):Int:=xg6 m p
def ofQ (m:List (List Int)) (p:List Int):Int × Int:=if xg6 m p=0 then x0g (qc0 m).1 p (qc0 m).1.length else(0,0)
end Go.Proofs.YtempacilejhbgaaGreat
