/- Shares of a mask for some pixels: contracts by the engine. No condition. -/
import Derived.Test.YtempacilejhbgaaGreatQ1
import Derived.Test.YtempacilejhbgaaGreatV19
import Derived.Test.YtempacilejhbgaaGreatEngU
set_option linter.unusedVariables false
set_option linter.unusedSimpArgs false
namespace Go.Proofs.YtempacilejhbgaaGreat
open Go Go.RowKit Eng
def BxsOk (bxs:List (Nat × q4d)):Prop:=∀f B,find bxs f=some B->q6m Tryz.prog f B
theorem BxsOk.nil:BxsOk []:=λf M h=>by cases h
theorem BxsOk.cons {f:Nat} {B:q4d} {l:List (Nat × q4d)} (h:q6m Tryz.prog f B) (k:BxsOk l):BxsOk ((f,B) :: l):=by
 intro g S hg
 simp only[find] at hg
 split at hg
 ·rename_i e; obtain rfl:=Nat.eq_of_beq_eq_true e; injection hg with hg; rw[<- hg]; exact h
 ·exact k g S hg
def yb2 (specs:List (Nat × qb9)) (its:List (Nat × q18)) (bxs:List (Nat × q4d)):Ctx:={ specs:=specs,tys:=tys,wr:=[],its:=its,bxs:=bxs }
theorem x72 {specs:List (Nat × qb9)} {its:List (Nat × q18)} {bxs:List (Nat × q4d)} (h:SpecsOk Tryz.prog specs) (hi:ItsOk its) (hb:BxsOk bxs):Sound Tryz.prog (yb2 specs its bxs):=SpecsOk.sound h q3o (by kernel_rfl) hi (hbx:=hb)
def qj2 (x:Int):Int:=(x.natAbs:Int)
theorem xj1 (x:Int):max x (0-x)=qj2 x:=by unfold qj2; omega
def q20 (h:List Int):Nat->Int
 | 0=>0
 | k+1=>q20 h k+qj2 (nI h k)
def szL (h:List Int):Int:=q20 h h.length
def ql8 (h pix:List Int):Nat->Int
 | 0=>0
 | k+1=>ql8 h pix k+qj2 (nI h (nI pix k).toNat)
def inL (h pix:List Int):Int:=ql8 h pix pix.length
structure HOk (h:List Int):Prop where
 len:h.length<=100
 sm:∀i,qf0 1000000 (nI h i)
theorem qz8 {h:List Int} (hh:HOk h):∀k,0<=q20 h k/\q20 h k<=1000000*k
 | 0=>⟨Int.le_refl _,by simp[q20]⟩
 | k+1=>by
  have h1:=qz8 hh k
  have h2:=hh.sm k
  unfold qf0 at h2
  rw[q20]; unfold qj2; omega
theorem qz9 {h pix:List Int} (hh:HOk h):∀k,0<=ql8 h pix k/\ql8 h pix k<=1000000*k
 | 0=>⟨Int.le_refl _,by simp[ql8]⟩
 | k+1=>by
  have h1:=qz9 (pix:=pix) hh k
  have h2:=hh.sm (nI pix k).toNat
  unfold qf0 at h2
  rw[ql8]; unfold qj2; omega
abbrev x58:qb9:=qf6 true none [tInt] [tInt] (λx=>qf0 1000000000 x.1) (λx=>(qj2 x.1,()))
theorem q2r:qd4 Tryz.prog 100 x58:=by
 refine meets (snd (SpecsOk.nil _)) Tryz.func100 rfl rfl (λ_ _=>none) (λ_=>by kernel_rfl) (by decide) ?_
 rintro⟨x,⟨⟩⟩ h
 revert x
 intro(x:Int) (h:qf0 1000000000 x)
 refine @qd7 _ (fits .i64 ((0:Int)-x)/\max2 true x ((0:Int)-x)=qj2 x) (by kernel_rfl) ?_
 try simp only[z0,z1,z2,z3,z4,z5,z6,z7,z8,z9,z10,Int.reduceEq,z11,z12,z13,z14,z15,z16,z17,z18,z19,z20,z21,z22,z23,z24,z25,z26,z27,z28,z29,z30,Int.reduceLE,Int.reduceLT,z31,z32,z33,z34,qa1]
 try simp only[qb3,qb4,qc0,z31,z32,z2,z1]
 unfold qf0 at h
 exact⟨qa4 (by omega) (by omega),xj1 x⟩
def yb3 (h:List Int):Nat->Option Inv
 | 0=>some (Inv.of [3,8] 0 (λk:Nat=>[(3,.lit (.int .i64 (q20 h k))),(8,.lit (.int .i64 k))]) (λ_=>[]) (λk=>k<=h.length) (λk=>h.length-k))
 | _=>none
abbrev x2c:qb9:=qf6 true none [tInts] [tInt] (λx=>HOk x.1) (λx=>(szL x.1,()))
theorem wq6:qd4 Tryz.prog 57 x2c:=by
 refine meets (snd (SpecsOk.cons q2r (SpecsOk.nil _))) Tryz.func57 rfl rfl (λx=>yb3 x.1) (λ_=>by kernel_rfl) (by decide) ?_
 rintro⟨h,⟨⟩⟩ hh
 revert h
 intro(h:List Int) (hh:HOk h)
 refine @qd7 _ (∃(v0:Unit),∃(v1:Nat),Nat.le v1 h.length/\(((0:Int)=q20 h v1/\(0:Int)=(↑v1:Int)/\True)/\True)/\∀(v2:Nat),Nat.le v2 h.length->(decide ((↑v2:Int)<(↑h.length:Int))=true->((0:Int)<=(↑v2:Int)/\(↑v2:Int)<(↑h.length:Int))/\qf0 (1000000000:Int) (nI h v2)/\fits .i64 (q20 h v2+qj2 (nI h v2))/\fits .i64 ((↑v2:Int)+(1:Int))/\∃(v5:Nat),Nat.le v5 h.length/\h.length-v5<h.length-v2/\(q20 h v2+qj2 (nI h v2)=q20 h v5/\(↑v2:Int)+(1:Int)=(↑v5:Int)/\True)/\True)/\(decide ((↑v2:Int)<(↑h.length:Int))=false->q20 h v2=szL h)) (by kernel_rfl) ?_
 try simp only[z0,z1,z2,z3,z4,z5,z6,z7,z8,z9,z10,Int.reduceEq,z11,z12,z13,z14,z15,z16,z17,z18,z19,z20,z21,z22,z23,z24,z25,z26,z27,z28,z29,z30,Int.reduceLE,Int.reduceLT,z31,z32,z33,z34,qa1]
 try simp only[qb3,qb4,qc0,z31,z32,z2,z1]
 have hl:=hh.len
 refine⟨(),0,Nat.zero_le _,⟨rfl,rfl⟩,λk hk=>⟨λhlt=>?_,λhge=>?_⟩⟩
 ·have h1:=qz8 hh k
  have h2:=qz8 hh (k+1)
  have h3:=hh.sm k
  unfold qf0 at h3
  have e:q20 h k+qj2 (nI h k)=q20 h (k+1):=rfl
  exact⟨hlt,by unfold qf0; omega,qa4 (by omega) (by omega),qa4 (by omega) (by omega),k+1,hlt,by omega,e,by push_cast; rfl⟩
 ·obtain rfl:k=h.length:=by omega
  rfl
def shR (h pix:List Int):Int × Int:=ofR (inL h pix) (szL h)
structure wk1 (h pix:List Int):Prop where
 ok:HOk h
 len:pix.length<=100
 at_:∀j,j<pix.length->0<=nI pix j/\nI pix j<h.length
 ne:szL h≠0
def x59 (h pix:List Int):Nat->Option Inv
 | 0=>some (Inv.of [5,10] 1 (λk:Nat=>[(5,.lit (.int .i64 (ql8 h pix k))),(10,.lit (.int .i64 k))]) (λ_=>[.box 34 (.cons (.lit (.int .i64 0)) (.cons (.lit (.int .i64 0)) .nil))]) (λk=>k<=pix.length) (λk=>pix.length-k))
 | _=>none
abbrev yb4:qb9:=qf6 true none [tInts,tInts] [q0k] (λx=>wk1 x.1 x.2.1) (λx=>(shR x.1 x.2.1,()))
theorem q9r:qd4 Tryz.prog 59 yb4:=by
 refine meets (snd (SpecsOk.cons q2r (SpecsOk.cons wq6 (SpecsOk.cons xh2 (SpecsOk.nil _))))) Tryz.func59 rfl rfl (λx=>x59 x.1 x.2.1) (λ_=>by kernel_rfl) (by decide) ?_
 rintro⟨h,p,⟨⟩⟩ hh
 revert h p
 intro(h:List Int) (p:List Int) (hh:wk1 h p)
 refine @qd7 _ (∃(v0:Unit),∃(v1:Nat),Nat.le v1 p.length/\(((0:Int)=ql8 h p v1/\(0:Int)=(↑v1:Int)/\True)/\((0:Int)=(0:Int)/\(0:Int)=(0:Int)/\True)/\True)/\∀(v2:Nat),Nat.le v2 p.length->(decide ((↑v2:Int)<(↑p.length:Int))=true->((0:Int)<=(↑v2:Int)/\(↑v2:Int)<(↑p.length:Int))/\((0:Int)<=nI p v2/\nI p v2<(↑h.length:Int))/\qf0 (1000000000:Int) (nI h (nI p v2).toNat)/\fits .i64 (ql8 h p v2+qj2 (nI h (nI p v2).toNat))/\fits .i64 ((↑v2:Int)+(1:Int))/\∃(v5:Nat),Nat.le v5 p.length/\p.length-v5<p.length-v2/\(ql8 h p v2+qj2 (nI h (nI p v2).toNat)=ql8 h p v5/\(↑v2:Int)+(1:Int)=(↑v5:Int)/\True)/\((0:Int)=(0:Int)/\(0:Int)=(0:Int)/\True)/\True)/\(decide ((↑v2:Int)<(↑p.length:Int))=false->HOk h/\(((-4000000000000000000:Int)<=ql8 h p v2/\ql8 h p v2<=BIG)/\((-4000000000000000000:Int)<=szL h/\szL h<=BIG)/\szL h≠(0:Ty.den tInt))/\(ofR (ql8 h p v2) (szL h)).1=(shR h p).1/\(ofR (ql8 h p v2) (szL h)).2=(shR h p).2/\True)) (by kernel_rfl) ?_
 try simp only[z0,z1,z2,z3,z4,z5,z6,z7,z8,z9,z10,Int.reduceEq,z11,z12,z13,z14,z15,z16,z17,z18,z19,z20,z21,z22,z23,z24,z25,z26,z27,z28,z29,z30,Int.reduceLE,Int.reduceLT,z31,z32,z33,z34,qa1]
 try simp only[qb3,qb4,qc0,z31,z32,z2,z1]
 have hl:=hh.len
 have hb:=hh.ok.len
 refine⟨(),0,Nat.zero_le _,⟨rfl,rfl⟩,λk hk=>⟨λhlt=>?_,λhge=>?_⟩⟩
 ·have h1:=qz9 (pix:=p) hh.ok k
  have h2:=qz9 (pix:=p) hh.ok (k+1)
  have h3:=hh.ok.sm (nI p k).toNat
  have h4:=hh.at_ k hlt
  unfold qf0 at h3
  have e:ql8 h p k+qj2 (nI h (nI p k).toNat)=ql8 h p (k+1):=rfl
  exact⟨hlt,h4,by unfold qf0; omega,qa4 (by omega) (by omega),qa4 (by omega) (by omega),k+1,hlt,by omega,e,by push_cast; rfl⟩
 ·obtain rfl:k=p.length:=by omega
  have h1:=qz9 (pix:=p) hh.ok p.length
  have h2:=qz8 hh.ok h.length
  have h3:=hh.ne
  have e:szL h=q20 h h.length:=rfl
  unfold BIG
  exact⟨hh.ok,⟨⟨by omega,by omega⟩,⟨by omega,by omega⟩,h3⟩,rfl,rfl⟩
open Go Go.RowKit Eng Ls
abbrev x6a:qb9:=qf6 true none [] [q0k] (λ_=>True) (λ_=>((0,1),()))
theorem wy0:qd4 Tryz.prog 129 x6a:=by
 refine meets (snd (SpecsOk.nil _)) Tryz.func129 rfl rfl (λ_ _=>none) (λ_=>by kernel_rfl) (by decide) ?_
 rintro⟨⟩ -
 refine @qd7 _ ((0:Int)=(0:Int)/\(1:Int)=(1:Int)/\True) (by kernel_rfl) ?_
 try simp only[z0,z1,z2,z3,z4,z5,z6,z7,z8,z9,z10,Int.reduceEq,z11,z12,z13,z14,z15,z16,z17,z18,z19,z20,z21,z22,z23,z24,z25,z26,z27,z28,z29,z30,Int.reduceLE,Int.reduceLT,z31,z32,z33,z34,qa1]
 try simp only[qb3,qb4,qc0,z31,z32,z2,z1]
abbrev x2d:qb9:=qf6 true none [q0k,q0k] [.bool] (λx=>qr5 x.1/\qr5 x.2.1) (λx=>(decide (0<wj9 x.2.1 x.1),()))
theorem wq7:qd4 Tryz.prog 131 x2d:=by
 refine meets (snd (SpecsOk.cons w4a (SpecsOk.nil _))) Tryz.func131 rfl rfl (λ_ _=>none) (λ_=>by kernel_rfl) (by decide) ?_
 rintro⟨⟨a,b⟩,⟨c,d⟩,⟨⟩⟩ h
 revert a b c d
 intro(a:Int) (b:Int) (c:Int) (d:Int) (h:qr5 (a,b)/\qr5 (c,d))
 refine @qd7 _ ((qr5 (c,d)/\qr5 (a,b))/\decide ((0:Int)<wj9 (c,d) (a,b))=decide ((0:Int)<wj9 (c,d) (a,b))) (by kernel_rfl) ?_
 try simp only[z0,z1,z2,z3,z4,z5,z6,z7,z8,z9,z10,Int.reduceEq,z11,z12,z13,z14,z15,z16,z17,z18,z19,z20,z21,z22,z23,z24,z25,z26,z27,z28,z29,z30,Int.reduceLE,Int.reduceLT,z31,z32,z33,z34,qa1]
 try simp only[qb3,qb4,qc0,z31,z32,z2,z1]
 exact⟨h.2,h.1⟩
def q5x (best x:Int × Int):Int × Int:=if 0<wj9 x best then x else best
abbrev yb5:q4d:=x2a (q6x [q0k]) 34 1 q0k (λb x=>qr5 b/\qr5 x.1) (λb x=>q8s .bool (decide (0<wj9 x.1 b))) (λb x=>q5x b x.1)
theorem wy1 (w:World) (o:Obj) {b:Nat} (h:b<w.heap.size):(w.alloc o).heap[b]? = w.heap[b]?:=by
 show(w.heap.push o)[b]? = _
 rw[Array.getElem?_push_lt h]
 exact(Array.getElem?_eq_getElem h).symm
theorem yb6 {w:World} {b t:Nat} {p q:Int} (h:w.heap[b]? = some (.cells #[.int .i64 p,.int .i64 q] t (0,0))):w.cell? ⟨b,0,none⟩=some (.int .i64 p)/\w.cell? ⟨b,1,none⟩=some (.int .i64 q)/\w.frozen? ⟨b,0,none⟩=false/\w.frozen? ⟨b,1,none⟩=false:=by
 simp[World.cell?,World.frozen?,h]
theorem x73 (x y:Int):∀v∈[Value.int .i64 x,.int .i64 y],Value.oneCell' v=true:=λv hv=>by
 rcases List.mem_cons.1 hv with rfl | hv
 ·rfl
 ·rcases List.mem_cons.1 hv with rfl | hv
  ·rfl
  ·cases hv
theorem wy2 {a b c d:Int} (h1:qr5 (a,b)) (h2:qr5 (c,d)) (w:World):Calls Tryz.prog 131 #[.agg #[.int .i64 a,.int .i64 b],.agg #[.int .i64 c,.int .i64 d]] w λe w'=>e=.returned (.bool (decide (0<wj9 (c,d) (a,b))))/\Below w.heap.size w w':=by
 have hx:qt4 (λb=>w.heap[b]?) [q0k,q0k] ((a,b),(c,d),()) [.agg #[.int .i64 a,.int .i64 b],.agg #[.int .i64 c,.int .i64 d]]:=⟨_,_,rfl,⟨[.int .i64 a,.int .i64 b],rfl,[_],[_],rfl,rfl,rfl⟩,_,_,rfl,⟨[.int .i64 c,.int .i64 d],rfl,[_],[_],rfl,rfl,rfl⟩,rfl⟩
 refine(w11 (x:=(((a,b),(c,d),()):qa6 [q0k,q0k])) wq7 (View.full_on w) ⟨h1,h2⟩ hx).mono λe w' ⟨v,m',e1,e2,_,_,e5⟩=>⟨?_,e2⟩
 have e5:[v]=[.bool (decide (0<wj9 (c,d) (a,b)))]:=e5
 rw[e1,(List.cons.inj e5).1]
theorem q9s:q6m Tryz.prog 130 yb5:=by
 refine⟨⟨_,_,Tryz.func130,rfl,rfl⟩,λw m b cs us args vs k hm hbm hcell hone hcs hargs hrun=>?_⟩
 obtain⟨(pq:Int × Int),hrun,hx⟩:=wq4 hrun hcs
 obtain⟨⟨(xy:Int × Int),⟨⟩⟩,⟨hp,hk⟩,hy⟩:=qp4 hrun hargs
 obtain⟨p,q⟩:=pq
 obtain⟨x,y⟩:=xy
 obtain⟨u1,u2,rfl,x1,x2⟩:=hx
 obtain rfl:u1=[.int .i64 p]:=x1
 obtain rfl:u2=[.int .i64 q]:=x2
 obtain⟨v,vs2,rfl,⟨cc,rfl,u3,u4,rfl,y1,y2⟩,y3⟩:=hy
 obtain rfl:vs2=[]:=y3
 obtain rfl:u3=[.int .i64 x]:=y1
 obtain rfl:u4=[.int .i64 y]:=y2
 have hp:qr5 (p,q)/\qr5 (x,y):=hp
 show Calls Tryz.prog 130 #[.agg #[.int .i64 x,.int .i64 y],.pointer (some ⟨b,0,none⟩)] w _
 have c0:w.cell? ⟨b,0,none⟩=some (.int .i64 p):=by simp[World.cell?,hcell]
 have c1:w.cell? ⟨b,1,none⟩=some (.int .i64 q):=by simp[World.cell?,hcell]
 have hlt:b<w.heap.size:=(Array.getElem?_eq_some_iff.1 hcell).1
 have hcl:w.heap[b]? = some (.cells #[.int .i64 p,.int .i64 q] 34 (0,0)):=hcell
 have sz1:(w.alloc (.cells #[.int .i64 x,.int .i64 y] 34 (0,0))).heap.size=w.heap.size+1:=Array.size_push ..
 have n0:(w.alloc (.cells #[.int .i64 x,.int .i64 y] 34 (0,0))).cell? ⟨w.heap.size,0,none⟩=some (.int .i64 x):=by simp
 have n1:(w.alloc (.cells #[.int .i64 x,.int .i64 y] 34 (0,0))).cell? ⟨w.heap.size,1,none⟩=some (.int .i64 y):=by simp
 go_enter Tryz.func130,Tryz.ntmps130
 go_wp2_with (go_at_call 131; refine(wy2 hp.1 hp.2 _).mono ?_; rintro e w1 ⟨rfl,hb1⟩; have hn0:=Below.cell_of hb1 n0; have hn1:=Below.cell_of hb1 n1; have hw1:w1.heap[b]? = some (.cells #[.int .i64 p,.int .i64 q] 34 (0,0)):=(hb1.block b (by rw[sz1]; omega)).trans ((wy1 w _ hlt).trans hcl); obtain⟨q0,q1,f0,f1⟩:=yb6 hw1)
 all_goals
  have hB:Below w.heap.size w w1:=Ls.step_trans (Ls.below_alloc w _) hb1
  have hmw:∀W:World,Kept (λx=>x=b) w W->m.on W:=λW hK x o hx=>(hK.block x ⟨View.lt hm hx,λe=>by rw[e,hbm] at hx; cases hx⟩).trans (hm x o hx)
  have hK1:Kept (λx=>x=b) w w1:=⟨hB.os,hB.tape,hB.output,hB.size,λx hx=>hB.block x hx.1⟩
  rename_i hc
  go_ret
 ·have hK2:Kept (λx=>x=b) w ((w1.setCell ⟨b,0,none⟩ (.int .i64 x)).setCell ⟨b,1,none⟩ (.int .i64 y)):=⟨hB.os,hB.tape,hB.output,by simpa[World.setCell] using hB.size,λk hk=>(Below.heap_setCell _ _ _ _ (λe=>hk.2 e)).trans ((Below.heap_setCell _ _ _ _ (λe=>hk.2 e)).trans (hB.block k hk.1))⟩
  have ht:q5x (p,q) (x,y)=(x,y):=if_pos hc
  have hfin:((w1.setCell ⟨b,0,none⟩ (.int .i64 x)).setCell ⟨b,1,none⟩ (.int .i64 y)).heap[b]? = some (.cells #[.int .i64 x,.int .i64 y] 34 (0,0)):=by simp[World.setCell,Array.getElem?_modify,hw1]
  rw[ht,decide_eq_true hc] at hk
  exact⟨.bool true,m,q8s .bool true,qj7 q0k (x,y) .nil,[.int .i64 x,.int .i64 y],rfl,hK2,View.le_refl m,hmw _ hK2,λz o hz=>.inl hz,hfin,x73 _ _,rfl,⟨_,_,rfl,rfl,_,_,rfl,rfl,rfl⟩,hk⟩
 ·have hc:¬0<wj9 (x,y) (p,q):=by omega
  have ht:q5x (p,q) (x,y)=(p,q):=if_neg hc
  rw[ht,decide_eq_false hc] at hk
  exact⟨.bool false,m,q8s .bool false,qj7 q0k (p,q) .nil,[.int .i64 p,.int .i64 q],rfl,hK1,View.le_refl m,hmw _ hK1,λz o hz=>.inl hz,hw1,x73 _ _,rfl,⟨_,_,rfl,rfl,_,_,rfl,rfl,rfl⟩,hk⟩
abbrev yb7:qb9:=hspec [] true none [.cap q0k] [q0k] (λ_=>True) (λx=>(x.1,()))
theorem q9t:qd4 Tryz.prog 132 yb7:=by
 refine qw8 (SpecsOk.nil _) (snd (SpecsOk.nil _)) Tryz.func132 rfl rfl (λ_ _=>none) (λ_=>by kernel_rfl) (by decide) ?_
 rintro⟨⟨a,b⟩,⟨⟩⟩ -
 revert a b
 intro(a:Int) (b:Int)
 refine @qd7 _ (a=a/\b=b/\True) (by kernel_rfl) ?_
 try simp only[z0,z1,z2,z3,z4,z5,z6,z7,z8,z9,z10,Int.reduceEq,z11,z12,z13,z14,z15,z16,z17,z18,z19,z20,z21,z22,z23,z24,z25,z26,z27,z28,z29,z30,Int.reduceLE,Int.reduceLT,z31,z32,z33,z34,qa1]
 try simp only[qb3,qb4,qc0,z31,z32,z2,z1]
abbrev yb8 (g:Nat):AV:=.tup (.cons (.clo 130 (.cons (.box g 0) .nil)) (.cons (.clo 132 (.cons (.box g 0) .nil)) .nil))
abbrev sGr:qb9:=w8d (q6x []) 34 (λ_=>True) (λ_=>yb8 0) (λ_=>.cons (.lit (.int .i64 0)) (.cons (.lit (.int .i64 1)) .nil))
theorem wq8:qd4 Tryz.prog 105 sGr:=by
 refine x2b (snd (SpecsOk.cons wy0 (SpecsOk.nil _))) Tryz.func105 rfl rfl (qz2 _) (λ_ _=>none) (λ_=>by kernel_rfl) (by decide) ?_
 rintro⟨⟩ -
 refine @qd7 _ (True/\((True/\True)/\(True/\True)/\True)/\(0:Int)=(0:Int)/\(1:Int)=(1:Int)/\True) (by kernel_rfl) ?_
 try simp only[z0,z1,z2,z3,z4,z5,z6,z7,z8,z9,z10,Int.reduceEq,z11,z12,z13,z14,z15,z16,z17,z18,z19,z20,z21,z22,z23,z24,z25,z26,z27,z28,z29,z30,Int.reduceLE,Int.reduceLT,z31,z32,z33,z34,qa1]
 try simp only[qb3,qb4,qc0,z31,z32,z2,z1]
structure LowIs (n d:Int) (r:Int × Int):Prop where
 pos:1<=r.2
 eq:r.1*d=n*r.2
 n0:0<=r.1
 nle:r.1<=n
 dle:r.2<=d
 one:gcdI r.1 r.2=1
theorem x2e {n d:Int} (hn:0<=n) (hd:0<d):LowIs n d (ofR n d):=by
 have e:ofR n d=(n.tdiv (gcdI n d),d.tdiv (gcdI n d)):=by unfold ofR; rw[if_neg (by omega)]
 have hg:0<gcdI n d:=qq6 (.inr (by omega))
 have h1:gcdI n d∣n:=Int.gcd_dvd_left ..
 have h2:gcdI n d∣d:=Int.gcd_dvd_right ..
 have hgd:(gcdI n d:Int)=(Int.gcd n d:Int):=rfl
 rw[e]
 have e1:n.tdiv (gcdI n d)=n / gcdI n d:=Int.tdiv_eq_ediv_of_nonneg hn
 have e2:d.tdiv (gcdI n d)=d / gcdI n d:=Int.tdiv_eq_ediv_of_nonneg (by omega)
 rw[e1,e2]
 obtain⟨a,ha⟩:=h1
 obtain⟨b,hb⟩:=h2
 have q1:n / gcdI n d=a:=by
  conv=>lhs; lhs; rw[ha]
  exact Int.mul_ediv_cancel_left _ (by omega)
 have q2:d / gcdI n d=b:=by
  conv=>lhs; lhs; rw[hb]
  exact Int.mul_ediv_cancel_left _ (by omega)
 have hgcd:Int.gcd a b=1:=by
  have:=Int.gcd_ediv_gcd_ediv_gcd (i:=n) (j:=d) (by have:=hg; rw[hgd] at this; omega)
  rw[<- hgd,q1,q2] at this
  exact this
 generalize gcdI n d=g at *
 rw[q1,q2]
 have hb1:1<=b:=by
  rcases Int.lt_or_le b 1 with q | q
  ·have:g*b<=0:=Int.mul_nonpos_of_nonneg_of_nonpos (by omega) (by omega)
   omega
  ·exact q
 have ha0:0<=a:=by
  rcases Int.lt_or_le a 0 with q | q
  ·have:g*a<0:=Int.mul_neg_of_pos_of_neg hg q
   omega
  ·exact q
 refine⟨hb1,?_,ha0,?_,?_,?_⟩
 ·show a*d=n*b
  rw[ha,hb,Int.mul_comm g b,<- Int.mul_assoc,Int.mul_comm (a*b) g,Int.mul_assoc]
 ·show a<=n
  rw[ha]; have:=Int.mul_le_mul_of_nonneg_right (a:=1) (b:=g) (c:=a) (by omega) ha0; omega
 ·show b<=d
  rw[hb]; have:=Int.mul_le_mul_of_nonneg_right (a:=1) (b:=g) (c:=b) (by omega) (by omega); omega
 ·show((Int.gcd a b:Nat):Int)=1
  rw[hgcd]; rfl
theorem q2s {h:List Int} (hh:HOk h) (h0:szL h≠0):0<szL h:=by
 have:=qz8 hh h.length
 have e:szL h=q20 h h.length:=rfl
 omega
theorem qv4 {h p:List Int} (hh:wk1 h p):LowIs (inL h p) (szL h) (shR h p):=x2e (qz9 hh.ok _).1 (q2s hh.ok hh.ne)
theorem q17 {h p:List Int} (hh:wk1 h p):qr5 (shR h p):=by
 have k:=qv4 hh
 have h1:=(qz9 (pix:=p) hh.ok p.length).2
 have h2:=(qz8 hh.ok h.length).2
 have h3:=hh.len
 have h4:=hh.ok.len
 have e1:inL h p=ql8 h p p.length:=rfl
 have e2:szL h=q20 h h.length:=rfl
 have k1:=k.pos
 have k2:=k.nle
 have k3:=k.dle
 have k4:=k.n0
 exact⟨⟨k4,by omega⟩,⟨by omega,by omega⟩,k1⟩
theorem w8e:qr5 (0,1):=⟨⟨by decide,by decide⟩,⟨by decide,by decide⟩,by decide⟩
theorem w8f {a b:Int × Int} (ha:qr5 a) (hb:qr5 b):qr5 (q5x a b):=by unfold q5x; split <;> assumption
def qq7 (l:List (List Int)) (pix:List Int):Nat->Int × Int
 | 0=>(0,1)
 | k+1=>q5x (qq7 l pix k) (shR (nL l k) pix)
structure xq2 (l:List (List Int)) (pix:List Int):Prop where
 len:l.length<=1000000
 ok:∀k,k<l.length->wk1 (nL l k) pix
theorem q0a {l:List (List Int)} {pix:List Int} (h:xq2 l pix):∀k,k<=l.length->qr5 (qq7 l pix k)
 | 0,_=>w8e
 | k+1,hk=>w8f (q0a h k (by omega)) (q17 (h.ok k (by omega)))
def yb9 (l:List (List Int)) (pix:List Int):Nat->Option Inv
 | 0=>some (Inv.of [15] 2 (λk:Nat=>[(15,.lit (.int .i64 k))]) (λk=>[.box 34 (.cons (.lit (.int .i64 0)) (.cons (.lit (.int .i64 0)) .nil)),.box 34 (.cons (.lit (.int .i64 (qq7 l pix k).1)) (.cons (.lit (.int .i64 (qq7 l pix k).2)) .nil))]) (λk=>k<=l.length) (λk=>l.length-k))
 | _=>none
abbrev yc0:qb9:=qf6 true none [tMask,tInts] [q0k] (λx=>xq2 x.1 x.2.1) (λx=>(qq7 x.1 x.2.1 x.1.length,()))
theorem w8g:qd4 Tryz.prog 63 yc0:=by
 refine meets (x72 (SpecsOk.cons wq8 (SpecsOk.cons q9r (SpecsOk.cons q9t (SpecsOk.nil _)))) ItsOk.nil (BxsOk.cons q9s BxsOk.nil)) Tryz.func63 rfl rfl (λx=>yb9 x.1 x.2.1) (λ_=>by kernel_rfl) (by decide) ?_
 rintro⟨l,p,⟨⟩⟩ h
 revert l p
 intro(l:List (List Int)) (p:List Int) (h:xq2 l p)
 refine @qd7 _ (True/\∃(v0:Unit),∃(v1:Nat),Nat.le v1 l.length/\(((0:Int)=(↑v1:Int)/\True)/\((0:Int)=(0:Int)/\(0:Int)=(0:Int)/\True)/\((0:Int)=(qq7 l p v1).1/\(1:Int)=(qq7 l p v1).2/\True)/\True)/\∀(v2:Nat),Nat.le v2 l.length->(decide ((↑v2:Int)<(↑l.length:Int))=true->((0:Int)<=(↑v2:Int)/\(↑v2:Int)<(↑l.length:Int))/\wk1 (nL l v2) p/\(qr5 ((qq7 l p v2).1,(qq7 l p v2).2)/\qr5 ((shR (nL l v2) p).1,(shR (nL l v2) p).2))/\fits .i64 ((↑v2:Int)+(1:Int))/\∃(v5:Nat),Nat.le v5 l.length/\l.length-v5<l.length-v2/\((↑v2:Int)+(1:Int)=(↑v5:Int)/\True)/\((0:Int)=(0:Int)/\(0:Int)=(0:Int)/\True)/\((q5x ((qq7 l p v2).1,(qq7 l p v2).2) ((shR (nL l v2) p).1,(shR (nL l v2) p).2)).1=(qq7 l p v5).1/\(q5x ((qq7 l p v2).1,(qq7 l p v2).2) ((shR (nL l v2) p).1,(shR (nL l v2) p).2)).2=(qq7 l p v5).2/\True)/\True)/\(decide ((↑v2:Int)<(↑l.length:Int))=false->True/\(qq7 l p v2).1=(qq7 l p l.length).1/\(qq7 l p v2).2=(qq7 l p l.length).2/\True)) (by kernel_rfl) ?_
 try simp only[z0,z1,z2,z3,z4,z5,z6,z7,z8,z9,z10,Int.reduceEq,z11,z12,z13,z14,z15,z16,z17,z18,z19,z20,z21,z22,z23,z24,z25,z26,z27,z28,z29,z30,Int.reduceLE,Int.reduceLT,z31,z32,z33,z34,qa1]
 try simp only[qb3,qb4,qc0,z31,z32,z2,z1]
 have hl:=h.len
 refine⟨(),0,Nat.zero_le _,⟨rfl,rfl,rfl⟩,λk hk=>⟨λhlt=>⟨hlt,h.ok k hlt,⟨q0a h k hk,q17 (h.ok k hlt)⟩,qa4 (by omega) (by omega),k+1,hlt,by omega,by push_cast; rfl,rfl,rfl⟩,λhge=>?_⟩⟩
 obtain rfl:k=l.length:=by omega
 exact⟨rfl,rfl⟩
abbrev yc1:qb9:=qf6 false none [tMask] [tMask] (λx=>validB x.1=true->q7i x.1) (λx=>((qc8 x.1).1,()))
theorem q4t:qd4 Tryz.prog 64 yc1:=by
 refine meets (snd (SpecsOk.cons w8c (SpecsOk.nil _))) Tryz.func64 rfl rfl (λ_ _=>none) (λ_=>by kernel_rfl) (by decide) ?_
 rintro⟨m,⟨⟩⟩ h
 revert m
 intro(m:List (List Int)) (h:validB m=true->q7i m)
 refine @qd7 _ ((validB m=true->q7i m)/\(qc8 m).1=(qc8 m).1) (by kernel_rfl) ?_
 try simp only[z0,z1,z2,z3,z4,z5,z6,z7,z8,z9,z10,Int.reduceEq,z11,z12,z13,z14,z15,z16,z17,z18,z19,z20,z21,z22,z23,z24,z25,z26,z27,z28,z29,z30,Int.reduceLE,Int.reduceLT,z31,z32,z33,z34,qa1]
 try simp only[qb3,qb4,qc0,z31,z32,z2,z1]
 exact h
def ofE (m:List (List Int)) (p:List Int):Int:=q9f m p
def ofQ (m:List (List Int)) (p:List Int):Int × Int:=if q9f m p=0 then qq7 (qc8 m).1 p (qc8 m).1.length else(0,0)
structure w8h (m:List (List Int)) (p:List Int):Prop where
 len:p.length<=1000000
 cir:validB m=true->q7i m
 ok:q9f m p=0->xq2 (qc8 m).1 p
abbrev yc2:qb9:=qf6 true none [tMask,tInts] [q0k,tInt] (λx=>w8h x.1 x.2.1) (λx=>(ofQ x.1 x.2.1,ofE x.1 x.2.1,()))
theorem w4u:qd4 Tryz.prog 20 yc2:=by
 refine meets (snd (SpecsOk.cons w7t (SpecsOk.cons q4t (SpecsOk.cons w8g (SpecsOk.nil _))))) Tryz.func20 rfl rfl (λ_ _=>none) (λ_=>by kernel_rfl) (by decide) ?_
 rintro⟨m,p,⟨⟩⟩ h
 revert m p
 intro(m:List (List Int)) (p:List Int) (h:w8h m p)
 refine @qd7 _ (let Q0:=qq7 (qc8 m).1 p (qc8 m).1.length; p.length<=(1000000:Nat)/\((q9f m p != (0:Int))=true->((0:Int)=(ofQ m p).1/\(0:Int)=(ofQ m p).2/\True)/\q9f m p=ofE m p/\True)/\((q9f m p != (0:Int))=false->(validB m=true->q7i m)/\xq2 (qc8 m).1 p/\(Q0.1=(ofQ m p).1/\Q0.2=(ofQ m p).2/\True)/\(0:Int)=ofE m p/\True)) (by kernel_rfl) ?_
 try simp only[z0,z1,z2,z3,z4,z5,z6,z7,z8,z9,z10,Int.reduceEq,z11,z12,z13,z14,z15,z16,z17,z18,z19,z20,z21,z22,z23,z24,z25,z26,z27,z28,z29,z30,Int.reduceLE,Int.reduceLT,z31,z32,z33,z34,qa1]
 try simp only[qb3,qb4,qc0,z31,z32,z2,z1]
 refine⟨h.len,λhe=>?_,λhe=>⟨h.cir,h.ok he,?_,he.symm⟩⟩
 ·unfold ofQ; rw[if_neg he]; exact⟨⟨rfl,rfl⟩,rfl⟩
 ·unfold ofQ; rw[if_pos he]; exact⟨rfl,rfl⟩
end Go.Proofs.YtempacilejhbgaaGreat
