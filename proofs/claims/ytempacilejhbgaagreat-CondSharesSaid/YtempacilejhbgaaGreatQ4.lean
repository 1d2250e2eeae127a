/- Shares of a mask for some pixels: contracts by the engine. No condition. -/
import Derived.Test.YtempacilejhbgaaGreatQ1
import Derived.Test.YtempacilejhbgaaGreatV19
import Derived.Test.YtempacilejhbgaaGreatEngU
set_option linter.unusedVariables false
set_option linter.unusedSimpArgs false
namespace Go.Proofs.YtempacilejhbgaaGreat
open Go Go.RowKit Eng
def BxsOk (bxs:List (Nat × q29)):Prop:=∀f B,find bxs f=some B->q5j Tryz.prog f B
theorem BxsOk.nil:BxsOk []:=λf M h=>by cases h
theorem BxsOk.cons {f:Nat} {B:q29} {l:List (Nat × q29)} (h:q5j Tryz.prog f B) (k:BxsOk l):BxsOk ((f,B) :: l):=by
 intro g S hg
 simp only[find] at hg
 split at hg
 ·rename_i e; obtain rfl:=Nat.eq_of_beq_eq_true e; injection hg with hg; rw[<- hg]; exact h
 ·exact k g S hg
def x4v (specs:List (Nat × qc0)) (its:List (Nat × q1i)) (bxs:List (Nat × q29)):Ctx:={ specs:=specs,tys:=tys,wr:=[],its:=its,bxs:=bxs }
theorem x2p {specs:List (Nat × qc0)} {its:List (Nat × q1i)} {bxs:List (Nat × q29)} (h:SpecsOk Tryz.prog specs) (hi:ItsOk its) (hb:BxsOk bxs):Sound Tryz.prog (x4v specs its bxs):=SpecsOk.sound h q4a (by kernel_rfl) hi (hbx:=hb)
def qg3 (x:Int):Int:=(x.natAbs:Int)
theorem w9a (x:Int):max x (0-x)=qg3 x:=by unfold qg3; omega
def qz4 (h:List Int):Nat->Int
 | 0=>0
 | k+1=>qz4 h k+qg3 (nI h k)
def szL (h:List Int):Int:=qz4 h h.length
def ql6 (h pix:List Int):Nat->Int
 | 0=>0
 | k+1=>ql6 h pix k+qg3 (nI h (nI pix k).toNat)
def inL (h pix:List Int):Int:=ql6 h pix pix.length
structure HOk (h:List Int):Prop where
 len:h.length<=100
 sm:∀i,qe8 1000000 (nI h i)
theorem qy4 {h:List Int} (hh:HOk h):∀k,0<=qz4 h k/\qz4 h k<=1000000*k
 | 0=>⟨Int.le_refl _,by simp[qz4]⟩
 | k+1=>by
  have h1:=qy4 hh k
  have h2:=hh.sm k
  unfold qe8 at h2
  rw[qz4]; unfold qg3; omega
theorem qy5 {h pix:List Int} (hh:HOk h):∀k,0<=ql6 h pix k/\ql6 h pix k<=1000000*k
 | 0=>⟨Int.le_refl _,by simp[ql6]⟩
 | k+1=>by
  have h1:=qy5 (pix:=pix) hh k
  have h2:=hh.sm (nI pix k).toNat
  unfold qe8 at h2
  rw[ql6]; unfold qg3; omega
abbrev x00:qc0:=qg7 true none [qd6] [qd6] (λx=>qe8 1000000000 x.1) (λx=>(qg3 x.1,()))
theorem q17:qd7 Tryz.prog 100 x00:=by
 refine meets (snd (SpecsOk.nil _)) Tryz.func100 rfl rfl (λ_ _=>none) (λ_=>by kernel_rfl) (by decide) ?_
 rintro⟨x,⟨⟩⟩ h
 revert x
 intro(x:Int) (h:qe8 1000000000 x)
 refine @qe1 _ (fits .i64 ((0:Int)-x)/\max2 true x ((0:Int)-x)=qg3 x) (by kernel_rfl) ?_
 try simp only[z0,z1,z2,z3,z4,z5,z6,z7,z8,z9,z10,Int.reduceEq,z11,z12,z13,z14,z15,z16,z17,z18,z19,z20,z21,z22,z23,z24,z25,z26,z27,z28,z29,z30,Int.reduceLE,Int.reduceLT,z31,z32,z33,z34,qa4]
 try simp only[qb3,qb4,qb9,List.set_cons_zero,List.cons.injEq,and_true,true_and]
 unfold qe8 at h
 exact⟨qa7 (by omega) (by omega),w9a x⟩
def x4w (h:List Int):Nat->Option Inv
 | 0=>some (Inv.of [3,8] 0 (λk:Nat=>[(3,.lit (.int .i64 (qz4 h k))),(8,.lit (.int .i64 k))]) (λ_=>[]) (λk=>k<=h.length) (λk=>h.length-k))
 | _=>none
abbrev xs6:qc0:=qg7 true none [qf2] [qd6] (λx=>HOk x.1) (λx=>(szL x.1,()))
theorem q4d:qd7 Tryz.prog 57 xs6:=by
 refine meets (snd (SpecsOk.cons q17 (SpecsOk.nil _))) Tryz.func57 rfl rfl (λx=>x4w x.1) (λ_=>by kernel_rfl) (by decide) ?_
 rintro⟨h,⟨⟩⟩ hh
 revert h
 intro(h:List Int) (hh:HOk h)
 refine @qe1 _ (let Q0:=List.length h; ∃(v0:Unit),∃(v1:Nat),Nat.le v1 Q0/\(((0:Int)=qz4 h v1/\(0:Int)=(↑v1:Int)/\True)/\True)/\∀(v2:Nat),Nat.le v2 Q0->(decide ((↑v2:Int)<(↑Q0:Int))=true->((0:Int)<=(↑v2:Int)/\(↑v2:Int)<(↑Q0:Int))/\qe8 (1000000000:Int) (qa1 (Ty.int .i64) h (Int.toNat (↑v2:Int)))/\fits .i64 (qz4 h v2+qg3 (qa1 (Ty.int .i64) h (Int.toNat (↑v2:Int))))/\fits .i64 ((↑v2:Int)+(1:Int))/\∃(v5:Nat),Nat.le v5 Q0/\List.length h-v5<List.length h-v2/\(qz4 h v2+qg3 (qa1 (Ty.int .i64) h (Int.toNat (↑v2:Int)))=qz4 h v5/\(↑v2:Int)+(1:Int)=(↑v5:Int)/\True)/\True)/\(decide ((↑v2:Int)<(↑Q0:Int))=false->qz4 h v2=szL h)) (by kernel_rfl) ?_
 try simp only[z0,z1,z2,z3,z4,z5,z6,z7,z8,z9,z10,Int.reduceEq,z11,z12,z13,z14,z15,z16,z17,z18,z19,z20,z21,z22,z23,z24,z25,z26,z27,z28,z29,z30,Int.reduceLE,Int.reduceLT,z31,z32,z33,z34,qa4]
 try simp only[qb3,qb4,qb9,List.set_cons_zero,List.cons.injEq,and_true,true_and]
 have hl:=hh.len
 refine⟨(),0,Nat.zero_le _,⟨rfl,rfl⟩,λk hk=>⟨λhlt=>?_,λhge=>?_⟩⟩
 ·have h1:=qy4 hh k
  have h2:=qy4 hh (k+1)
  have h3:=hh.sm k
  unfold qe8 at h3
  have e:qz4 h k+qg3 (nI h k)=qz4 h (k+1):=rfl
  exact⟨hlt,by unfold qe8; omega,qa7 (by omega) (by omega),qa7 (by omega) (by omega),k+1,hlt,by omega,e,by push_cast; rfl⟩
 ·obtain rfl:k=h.length:=by omega
  rfl
def shR (h pix:List Int):Int × Int:=ofR (inL h pix) (szL h)
structure wj2 (h pix:List Int):Prop where
 ok:HOk h
 len:pix.length<=100
 at_:∀j,j<pix.length->0<=nI pix j/\nI pix j<h.length
 ne:szL h≠0
def x01 (h pix:List Int):Nat->Option Inv
 | 0=>some (Inv.of [5,10] 1 (λk:Nat=>[(5,.lit (.int .i64 (ql6 h pix k))),(10,.lit (.int .i64 k))]) (λ_=>[.box 34 (.cons (.lit (.int .i64 0)) (.cons (.lit (.int .i64 0)) .nil))]) (λk=>k<=pix.length) (λk=>pix.length-k))
 | _=>none
abbrev x4x:qc0:=qg7 true none [qf2,qf2] [qy9] (λx=>wj2 x.1 x.2.1) (λx=>(shR x.1 x.2.1,()))
theorem q3p:qd7 Tryz.prog 59 x4x:=by
 refine meets (snd (SpecsOk.cons q17 (SpecsOk.cons q4d (SpecsOk.cons w8q (SpecsOk.nil _))))) Tryz.func59 rfl rfl (λx=>x01 x.1 x.2.1) (λ_=>by kernel_rfl) (by decide) ?_
 rintro⟨h,p,⟨⟩⟩ hh
 revert h p
 intro(h:List Int) (p:List Int) (hh:wj2 h p)
 refine @qe1 _ (let Q0:=List.length p; ∃(v0:Unit),∃(v1:Nat),Nat.le v1 Q0/\(((0:Int)=ql6 h p v1/\(0:Int)=(↑v1:Int)/\True)/\((0:Int)=(0:Int)/\(0:Int)=(0:Int)/\True)/\True)/\∀(v2:Nat),Nat.le v2 Q0->(decide ((↑v2:Int)<(↑Q0:Int))=true->((0:Int)<=(↑v2:Int)/\(↑v2:Int)<(↑Q0:Int))/\((0:Int)<=qa1 (Ty.int .i64) p (Int.toNat (↑v2:Int))/\qa1 (Ty.int .i64) p (Int.toNat (↑v2:Int))<(↑(List.length h):Int))/\qe8 (1000000000:Int) (qa1 (Ty.int .i64) h (Int.toNat (qa1 (Ty.int .i64) p (Int.toNat (↑v2:Int)))))/\fits .i64 (ql6 h p v2+qg3 (qa1 (Ty.int .i64) h (Int.toNat (qa1 (Ty.int .i64) p (Int.toNat (↑v2:Int))))))/\fits .i64 ((↑v2:Int)+(1:Int))/\∃(v5:Nat),Nat.le v5 Q0/\List.length p-v5<List.length p-v2/\(ql6 h p v2+qg3 (qa1 (Ty.int .i64) h (Int.toNat (qa1 (Ty.int .i64) p (Int.toNat (↑v2:Int)))))=ql6 h p v5/\(↑v2:Int)+(1:Int)=(↑v5:Int)/\True)/\((0:Int)=(0:Int)/\(0:Int)=(0:Int)/\True)/\True)/\(decide ((↑v2:Int)<(↑Q0:Int))=false->HOk h/\(((-4000000000000000000:Int)<=ql6 h p v2/\ql6 h p v2<=BIG)/\((-4000000000000000000:Int)<=szL h/\szL h<=BIG)/\szL h≠(0:Ty.den qd6))/\Prod.fst (ofR (ql6 h p v2) (szL h))=Prod.fst (shR h p)/\Prod.snd (ofR (ql6 h p v2) (szL h))=Prod.snd (shR h p)/\True)) (by kernel_rfl) ?_
 try simp only[z0,z1,z2,z3,z4,z5,z6,z7,z8,z9,z10,Int.reduceEq,z11,z12,z13,z14,z15,z16,z17,z18,z19,z20,z21,z22,z23,z24,z25,z26,z27,z28,z29,z30,Int.reduceLE,Int.reduceLT,z31,z32,z33,z34,qa4]
 try simp only[qb3,qb4,qb9,List.set_cons_zero,List.cons.injEq,and_true,true_and]
 have hl:=hh.len
 have hb:=hh.ok.len
 refine⟨(),0,Nat.zero_le _,⟨rfl,rfl⟩,λk hk=>⟨λhlt=>?_,λhge=>?_⟩⟩
 ·have h1:=qy5 (pix:=p) hh.ok k
  have h2:=qy5 (pix:=p) hh.ok (k+1)
  have h3:=hh.ok.sm (nI p k).toNat
  have h4:=hh.at_ k hlt
  unfold qe8 at h3
  have e:ql6 h p k+qg3 (nI h (nI p k).toNat)=ql6 h p (k+1):=rfl
  exact⟨hlt,h4,by unfold qe8; omega,qa7 (by omega) (by omega),qa7 (by omega) (by omega),k+1,hlt,by omega,e,by push_cast; rfl⟩
 ·obtain rfl:k=p.length:=by omega
  have h1:=qy5 (pix:=p) hh.ok p.length
  have h2:=qy4 hh.ok h.length
  have h3:=hh.ne
  have e:szL h=qz4 h h.length:=rfl
  unfold BIG
  exact⟨hh.ok,⟨⟨by omega,by omega⟩,⟨by omega,by omega⟩,h3⟩,rfl,rfl⟩
open Go Go.RowKit Eng Ls
abbrev x02:qc0:=qg7 true none [] [qy9] (λ_=>True) (λ_=>((0,1),()))
theorem wp5:qd7 Tryz.prog 129 x02:=by
 refine meets (snd (SpecsOk.nil _)) Tryz.func129 rfl rfl (λ_ _=>none) (λ_=>by kernel_rfl) (by decide) ?_
 rintro⟨⟩ -
 refine @qe1 _ ((0:Int)=(0:Int)/\(1:Int)=(1:Int)/\True) (by kernel_rfl) ?_
 try simp only[z0,z1,z2,z3,z4,z5,z6,z7,z8,z9,z10,Int.reduceEq,z11,z12,z13,z14,z15,z16,z17,z18,z19,z20,z21,z22,z23,z24,z25,z26,z27,z28,z29,z30,Int.reduceLE,Int.reduceLT,z31,z32,z33,z34,qa4]
 try simp only[qb3,qb4,qb9,List.set_cons_zero,List.cons.injEq,and_true,true_and]
abbrev xs7:qc0:=qg7 true none [qy9,qy9] [.bool] (λx=>qu2 x.1/\qu2 x.2.1) (λx=>(decide (0<wb0 x.2.1 x.1),()))
theorem wj3:qd7 Tryz.prog 131 xs7:=by
 refine meets (snd (SpecsOk.cons w1g (SpecsOk.nil _))) Tryz.func131 rfl rfl (λ_ _=>none) (λ_=>by kernel_rfl) (by decide) ?_
 rintro⟨⟨a,b⟩,⟨c,d⟩,⟨⟩⟩ h
 revert a b c d
 intro(a:Int) (b:Int) (c:Int) (d:Int) (h:qu2 (a,b)/\qu2 (c,d))
 refine @qe1 _ ((qu2 (c,d)/\qu2 (a,b))/\decide ((0:Int)<wb0 (c,d) (a,b))=decide ((0:Int)<wb0 (c,d) (a,b))) (by kernel_rfl) ?_
 try simp only[z0,z1,z2,z3,z4,z5,z6,z7,z8,z9,z10,Int.reduceEq,z11,z12,z13,z14,z15,z16,z17,z18,z19,z20,z21,z22,z23,z24,z25,z26,z27,z28,z29,z30,Int.reduceLE,Int.reduceLT,z31,z32,z33,z34,qa4]
 try simp only[qb3,qb4,qb9,List.set_cons_zero,List.cons.injEq,and_true,true_and]
 exact⟨h.2,h.1⟩
def q7f (best x:Int × Int):Int × Int:=if 0<wb0 x best then x else best
abbrev x4y:q29:=xs4 (q5u [qy9]) 34 1 qy9 (λb x=>qu2 b/\qu2 x.1) (λb x=>q7h .bool (decide (0<wb0 x.1 b))) (λb x=>q7f b x.1)
theorem wp6 (w:World) (o:Obj) {b:Nat} (h:b<w.heap.size):(w.alloc o).heap[b]? = w.heap[b]?:=by
 show(w.heap.push o)[b]? = _
 rw[Array.getElem?_push_lt h]
 exact(Array.getElem?_eq_getElem h).symm
theorem x4z {w:World} {b t:Nat} {p q:Int} (h:w.heap[b]? = some (.cells #[.int .i64 p,.int .i64 q] t (0,0))):w.cell? ⟨b,0,none⟩=some (.int .i64 p)/\w.cell? ⟨b,1,none⟩=some (.int .i64 q)/\w.frozen? ⟨b,0,none⟩=false/\w.frozen? ⟨b,1,none⟩=false:=by
 simp[World.cell?,World.frozen?,h]
theorem x2q (x y:Int):∀v∈[Value.int .i64 x,.int .i64 y],Value.oneCell' v=true:=λv hv=>by
 rcases List.mem_cons.1 hv with rfl | hv
 ·rfl
 ·rcases List.mem_cons.1 hv with rfl | hv
  ·rfl
  ·cases hv
theorem wp7 {a b c d:Int} (h1:qu2 (a,b)) (h2:qu2 (c,d)) (w:World):Calls Tryz.prog 131 #[.agg #[.int .i64 a,.int .i64 b],.agg #[.int .i64 c,.int .i64 d]] w λe w'=>e=.returned (.bool (decide (0<wb0 (c,d) (a,b))))/\Below w.heap.size w w':=by
 have hx:qv1 (λb=>w.heap[b]?) [qy9,qy9] ((a,b),(c,d),()) [.agg #[.int .i64 a,.int .i64 b],.agg #[.int .i64 c,.int .i64 d]]:=⟨_,_,rfl,⟨[.int .i64 a,.int .i64 b],rfl,[_],[_],rfl,rfl,rfl⟩,_,_,rfl,⟨[.int .i64 c,.int .i64 d],rfl,[_],[_],rfl,rfl,rfl⟩,rfl⟩
 refine(ww7 (x:=(((a,b),(c,d),()):qa6 [qy9,qy9])) wj3 (View.full_on w) ⟨h1,h2⟩ hx).mono λe w' ⟨v,m',e1,e2,_,_,e5⟩=>⟨?_,e2⟩
 have e5:[v]=[.bool (decide (0<wb0 (c,d) (a,b)))]:=e5
 rw[e1,(List.cons.inj e5).1]
theorem q8e:q5j Tryz.prog 130 x4y:=by
 refine⟨⟨_,_,Tryz.func130,rfl,rfl⟩,λw m b cs us args vs k hm hbm hcell hone hcs hargs hrun=>?_⟩
 obtain⟨(pq:Int × Int),hrun,hx⟩:=wj0 hrun hcs
 obtain⟨⟨(xy:Int × Int),⟨⟩⟩,⟨hp,hk⟩,hy⟩:=qs8 hrun hargs
 obtain⟨p,q⟩:=pq
 obtain⟨x,y⟩:=xy
 obtain⟨u1,u2,rfl,x1,x2⟩:=hx
 obtain rfl:u1=[.int .i64 p]:=x1
 obtain rfl:u2=[.int .i64 q]:=x2
 obtain⟨v,vs2,rfl,⟨cc,rfl,u3,u4,rfl,y1,y2⟩,y3⟩:=hy
 obtain rfl:vs2=[]:=y3
 obtain rfl:u3=[.int .i64 x]:=y1
 obtain rfl:u4=[.int .i64 y]:=y2
 have hp:qu2 (p,q)/\qu2 (x,y):=hp
 show Calls Tryz.prog 130 #[.agg #[.int .i64 x,.int .i64 y],.pointer (some ⟨b,0,none⟩)] w _
 have c0:w.cell? ⟨b,0,none⟩=some (.int .i64 p):=by simp[World.cell?,hcell]
 have c1:w.cell? ⟨b,1,none⟩=some (.int .i64 q):=by simp[World.cell?,hcell]
 have hlt:b<w.heap.size:=(Array.getElem?_eq_some_iff.1 hcell).1
 have hcl:w.heap[b]? = some (.cells #[.int .i64 p,.int .i64 q] 34 (0,0)):=hcell
 have sz1:(w.alloc (.cells #[.int .i64 x,.int .i64 y] 34 (0,0))).heap.size=w.heap.size+1:=Array.size_push ..
 have n0:(w.alloc (.cells #[.int .i64 x,.int .i64 y] 34 (0,0))).cell? ⟨w.heap.size,0,none⟩=some (.int .i64 x):=by simp
 have n1:(w.alloc (.cells #[.int .i64 x,.int .i64 y] 34 (0,0))).cell? ⟨w.heap.size,1,none⟩=some (.int .i64 y):=by simp
 go_enter Tryz.func130,Tryz.ntmps130
 go_wp2_with (go_at_call 131; refine(wp7 hp.1 hp.2 _).mono ?_; rintro e w1 ⟨rfl,hb1⟩; have hn0:=Below.cell_of hb1 n0; have hn1:=Below.cell_of hb1 n1; have hw1:w1.heap[b]? = some (.cells #[.int .i64 p,.int .i64 q] 34 (0,0)):=(hb1.block b (by rw[sz1]; omega)).trans ((wp6 w _ hlt).trans hcl); obtain⟨q0,q1,f0,f1⟩:=x4z hw1)
 all_goals
  have hB:Below w.heap.size w w1:=Ls.step_trans (Ls.below_alloc w _) hb1
  have hmw:∀W:World,Kept (λx=>x=b) w W->m.on W:=λW hK x o hx=>(hK.block x ⟨View.lt hm hx,λe=>by rw[e,hbm] at hx; cases hx⟩).trans (hm x o hx)
  have hK1:Kept (λx=>x=b) w w1:=⟨hB.os,hB.tape,hB.output,hB.size,λx hx=>hB.block x hx.1⟩
  rename_i hc
  go_ret
 ·have hK2:Kept (λx=>x=b) w ((w1.setCell ⟨b,0,none⟩ (.int .i64 x)).setCell ⟨b,1,none⟩ (.int .i64 y)):=⟨hB.os,hB.tape,hB.output,by simpa[World.setCell] using hB.size,λk hk=>(Below.heap_setCell _ _ _ _ (λe=>hk.2 e)).trans ((Below.heap_setCell _ _ _ _ (λe=>hk.2 e)).trans (hB.block k hk.1))⟩
  have ht:q7f (p,q) (x,y)=(x,y):=if_pos hc
  have hfin:((w1.setCell ⟨b,0,none⟩ (.int .i64 x)).setCell ⟨b,1,none⟩ (.int .i64 y)).heap[b]? = some (.cells #[.int .i64 x,.int .i64 y] 34 (0,0)):=by simp[World.setCell,Array.getElem?_modify,hw1]
  rw[ht,decide_eq_true hc] at hk
  exact⟨.bool true,m,q7h .bool true,qj7 qy9 (x,y) .nil,[.int .i64 x,.int .i64 y],rfl,hK2,View.le_refl m,hmw _ hK2,λz o hz=>.inl hz,hfin,x2q _ _,rfl,⟨_,_,rfl,rfl,_,_,rfl,rfl,rfl⟩,hk⟩
 ·have hc:¬0<wb0 (x,y) (p,q):=by omega
  have ht:q7f (p,q) (x,y)=(p,q):=if_neg hc
  rw[ht,decide_eq_false hc] at hk
  exact⟨.bool false,m,q7h .bool false,qj7 qy9 (p,q) .nil,[.int .i64 p,.int .i64 q],rfl,hK1,View.le_refl m,hmw _ hK1,λz o hz=>.inl hz,hw1,x2q _ _,rfl,⟨_,_,rfl,rfl,_,_,rfl,rfl,rfl⟩,hk⟩
abbrev x42:qc0:=hspec [] true none [.cap qy9] [qy9] (λ_=>True) (λx=>(x.1,()))
theorem q8f:qd7 Tryz.prog 132 x42:=by
 refine qu0 (SpecsOk.nil _) (snd (SpecsOk.nil _)) Tryz.func132 rfl rfl (λ_ _=>none) (λ_=>by kernel_rfl) (by decide) ?_
 rintro⟨⟨a,b⟩,⟨⟩⟩ -
 revert a b
 intro(a:Int) (b:Int)
 refine @qe1 _ (a=a/\b=b/\True) (by kernel_rfl) ?_
 try simp only[z0,z1,z2,z3,z4,z5,z6,z7,z8,z9,z10,Int.reduceEq,z11,z12,z13,z14,z15,z16,z17,z18,z19,z20,z21,z22,z23,z24,z25,z26,z27,z28,z29,z30,Int.reduceLE,Int.reduceLT,z31,z32,z33,z34,qa4]
 try simp only[qb3,qb4,qb9,List.set_cons_zero,List.cons.injEq,and_true,true_and]
abbrev x44 (g:Nat):AV:=.tup (.cons (.clo 130 (.cons (.box g 0) .nil)) (.cons (.clo 132 (.cons (.box g 0) .nil)) .nil))
abbrev sGr:qc0:=w5j (q5u []) 34 (λ_=>True) (λ_=>x44 0) (λ_=>.cons (.lit (.int .i64 0)) (.cons (.lit (.int .i64 1)) .nil))
theorem wj4:qd7 Tryz.prog 105 sGr:=by
 refine xs5 (snd (SpecsOk.cons wp5 (SpecsOk.nil _))) Tryz.func105 rfl rfl (qx8 _) (λ_ _=>none) (λ_=>by kernel_rfl) (by decide) ?_
 rintro⟨⟩ -
 refine @qe1 _ (True/\((True/\True)/\(True/\True)/\True)/\(0:Int)=(0:Int)/\(1:Int)=(1:Int)/\True) (by kernel_rfl) ?_
 try simp only[z0,z1,z2,z3,z4,z5,z6,z7,z8,z9,z10,Int.reduceEq,z11,z12,z13,z14,z15,z16,z17,z18,z19,z20,z21,z22,z23,z24,z25,z26,z27,z28,z29,z30,Int.reduceLE,Int.reduceLT,z31,z32,z33,z34,qa4]
 try simp only[qb3,qb4,qb9,List.set_cons_zero,List.cons.injEq,and_true,true_and]
structure xs8 (n d:Int) (r:Int × Int):Prop where
 pos:1<=r.2
 eq:r.1*d=n*r.2
 n0:0<=r.1
 nle:r.1<=n
 dle:r.2<=d
 one:gcdI r.1 r.2=1
theorem xs9 {n d:Int} (hn:0<=n) (hd:0<d):xs8 n d (ofR n d):=by
 have e:ofR n d=(n.tdiv (gcdI n d),d.tdiv (gcdI n d)):=by unfold ofR; rw[if_neg (by omega)]
 have hg:0<gcdI n d:=qp9 (.inr (by omega))
 have h1:gcdI n d∣n:=Int.gcd_dvd_left ..
 have h2:gcdI n d∣d:=Int.gcd_dvd_right ..
 have hgd:(gcdI n d:Int)=(Int.gcd n d:Int):=rfl
 rw[e]
 have e1:n.tdiv (gcdI n d)=n / gcdI n d:=Int.tdiv_eq_ediv_of_nonneg hn
 have e2:d.tdiv (gcdI n d)=d / gcdI n d:=Int.tdiv_eq_ediv_of_nonneg (by omega)
 rw[e1,e2]
 obtain⟨a,ha⟩:=h1
 obtain⟨b,hb⟩:=h2
 have q1:n / gcdI n d=a:=by
  conv=>lhs; lhs; rw[ha]
  exact Int.mul_ediv_cancel_left _ (by omega)
 have q2:d / gcdI n d=b:=by
  conv=>lhs; lhs; rw[hb]
  exact Int.mul_ediv_cancel_left _ (by omega)
 have hgcd:Int.gcd a b=1:=by
  have:=Int.gcd_ediv_gcd_ediv_gcd (i:=n) (j:=d) (by have:=hg; rw[hgd] at this; omega)
  rw[<- hgd,q1,q2] at this
  exact this
 generalize gcdI n d=g at *
 rw[q1,q2]
 have hb1:1<=b:=by
  rcases Int.lt_or_le b 1 with q | q
  ·have:g*b<=0:=Int.mul_nonpos_of_nonneg_of_nonpos (by omega) (by omega)
   omega
  ·exact q
 have ha0:0<=a:=by
  rcases Int.lt_or_le a 0 with q | q
  ·have:g*a<0:=Int.mul_neg_of_pos_of_neg hg q
   omega
  ·exact q
 refine⟨hb1,?_,ha0,?_,?_,?_⟩
 ·show a*d=n*b
  rw[ha,hb,Int.mul_comm g b,<- Int.mul_assoc,Int.mul_comm (a*b) g,Int.mul_assoc]
 ·show a<=n
  rw[ha]; have:=Int.mul_le_mul_of_nonneg_right (a:=1) (b:=g) (c:=a) (by omega) ha0; omega
 ·show b<=d
  rw[hb]; have:=Int.mul_le_mul_of_nonneg_right (a:=1) (b:=g) (c:=b) (by omega) (by omega); omega
 ·show((Int.gcd a b:Nat):Int)=1
  rw[hgcd]; rfl
theorem q90 {h:List Int} (hh:HOk h) (h0:szL h≠0):0<szL h:=by
 have:=qy4 hh h.length
 have e:szL h=qz4 h h.length:=rfl
 omega
theorem w5k {h p:List Int} (hh:wj2 h p):xs8 (inL h p) (szL h) (shR h p):=xs9 (qy5 hh.ok _).1 (q90 hh.ok hh.ne)
theorem q4e {h p:List Int} (hh:wj2 h p):qu2 (shR h p):=by
 have k:=w5k hh
 have h1:=(qy5 (pix:=p) hh.ok p.length).2
 have h2:=(qy4 hh.ok h.length).2
 have h3:=hh.len
 have h4:=hh.ok.len
 have e1:inL h p=ql6 h p p.length:=rfl
 have e2:szL h=qz4 h h.length:=rfl
 have k1:=k.pos
 have k2:=k.nle
 have k3:=k.dle
 have k4:=k.n0
 exact⟨⟨k4,by omega⟩,⟨by omega,by omega⟩,k1⟩
theorem xc4:qu2 (0,1):=⟨⟨by decide,by decide⟩,⟨by decide,by decide⟩,by decide⟩
theorem w5l {a b:Int × Int} (ha:qu2 a) (hb:qu2 b):qu2 (q7f a b):=by unfold q7f; split <;> assumption
def qr2 (l:List (List Int)) (pix:List Int):Nat->Int × Int
 | 0=>(0,1)
 | k+1=>q7f (qr2 l pix k) (shR (nL l k) pix)
structure xj2 (l:List (List Int)) (pix:List Int):Prop where
 len:l.length<=1000000
 ok:∀k,k<l.length->wj2 (nL l k) pix
theorem q08 {l:List (List Int)} {pix:List Int} (h:xj2 l pix):∀k,k<=l.length->qu2 (qr2 l pix k)
 | 0,_=>xc4
 | k+1,hk=>w5l (q08 h k (by omega)) (q4e (h.ok k (by omega)))
def x45 (l:List (List Int)) (pix:List Int):Nat->Option Inv
 | 0=>some (Inv.of [15] 2 (λk:Nat=>[(15,.lit (.int .i64 k))]) (λk=>[.box 34 (.cons (.lit (.int .i64 0)) (.cons (.lit (.int .i64 0)) .nil)),.box 34 (.cons (.lit (.int .i64 (qr2 l pix k).1)) (.cons (.lit (.int .i64 (qr2 l pix k).2)) .nil))]) (λk=>k<=l.length) (λk=>l.length-k))
 | _=>none
abbrev x46:qc0:=qg7 true none [qk0,qf2] [qy9] (λx=>xj2 x.1 x.2.1) (λx=>(qr2 x.1 x.2.1 x.1.length,()))
theorem w5m:qd7 Tryz.prog 63 x46:=by
 refine meets (x2p (SpecsOk.cons wj4 (SpecsOk.cons q3p (SpecsOk.cons q8f (SpecsOk.nil _)))) ItsOk.nil (BxsOk.cons q8e BxsOk.nil)) Tryz.func63 rfl rfl (λx=>x45 x.1 x.2.1) (λ_=>by kernel_rfl) (by decide) ?_
 rintro⟨l,p,⟨⟩⟩ h
 revert l p
 intro(l:List (List Int)) (p:List Int) (h:xj2 l p)
 refine @qe1 _ (let Q0:=List.length l; True/\∃(v0:Unit),∃(v1:Nat),Nat.le v1 Q0/\(((0:Int)=(↑v1:Int)/\True)/\((0:Int)=(0:Int)/\(0:Int)=(0:Int)/\True)/\((0:Int)=Prod.fst (qr2 l p v1)/\(1:Int)=Prod.snd (qr2 l p v1)/\True)/\True)/\∀(v2:Nat),Nat.le v2 Q0->(decide ((↑v2:Int)<(↑Q0:Int))=true->((0:Int)<=(↑v2:Int)/\(↑v2:Int)<(↑Q0:Int))/\wj2 (qa1 (Ty.list (Ty.int .i64)) l (Int.toNat (↑v2:Int))) p/\(qu2 (Prod.fst (qr2 l p v2),Prod.snd (qr2 l p v2))/\qu2 (Prod.fst (shR (qa1 (Ty.list (Ty.int .i64)) l (Int.toNat (↑v2:Int))) p),Prod.snd (shR (qa1 (Ty.list (Ty.int .i64)) l (Int.toNat (↑v2:Int))) p)))/\fits .i64 ((↑v2:Int)+(1:Int))/\∃(v5:Nat),Nat.le v5 Q0/\List.length l-v5<List.length l-v2/\((↑v2:Int)+(1:Int)=(↑v5:Int)/\True)/\((0:Int)=(0:Int)/\(0:Int)=(0:Int)/\True)/\(Prod.fst (q7f (Prod.fst (qr2 l p v2),Prod.snd (qr2 l p v2)) (Prod.fst (shR (qa1 (Ty.list (Ty.int .i64)) l (Int.toNat (↑v2:Int))) p),Prod.snd (shR (qa1 (Ty.list (Ty.int .i64)) l (Int.toNat (↑v2:Int))) p)))=Prod.fst (qr2 l p v5)/\Prod.snd (q7f (Prod.fst (qr2 l p v2),Prod.snd (qr2 l p v2)) (Prod.fst (shR (qa1 (Ty.list (Ty.int .i64)) l (Int.toNat (↑v2:Int))) p),Prod.snd (shR (qa1 (Ty.list (Ty.int .i64)) l (Int.toNat (↑v2:Int))) p)))=Prod.snd (qr2 l p v5)/\True)/\True)/\(decide ((↑v2:Int)<(↑Q0:Int))=false->True/\Prod.fst (qr2 l p v2)=Prod.fst (qr2 l p Q0)/\Prod.snd (qr2 l p v2)=Prod.snd (qr2 l p Q0)/\True)) (by kernel_rfl) ?_
 try simp only[z0,z1,z2,z3,z4,z5,z6,z7,z8,z9,z10,Int.reduceEq,z11,z12,z13,z14,z15,z16,z17,z18,z19,z20,z21,z22,z23,z24,z25,z26,z27,z28,z29,z30,Int.reduceLE,Int.reduceLT,z31,z32,z33,z34,qa4]
 try simp only[qb3,qb4,qb9,List.set_cons_zero,List.cons.injEq,and_true,true_and]
 have hl:=h.len
 refine⟨(),0,Nat.zero_le _,⟨rfl,rfl,rfl⟩,λk hk=>⟨λhlt=>⟨hlt,h.ok k hlt,⟨q08 h k hk,q4e (h.ok k hlt)⟩,qa7 (by omega) (by omega),k+1,hlt,by omega,by push_cast; rfl,rfl,rfl⟩,λhge=>?_⟩⟩
 obtain rfl:k=l.length:=by omega
 exact⟨rfl,rfl⟩
abbrev x47:qc0:=qg7 false none [qk0] [qk0] (λx=>qc8 x.1=true->q6f x.1) (λx=>((qo1 x.1).1,()))
theorem q3q:qd7 Tryz.prog 64 x47:=by
 refine meets (snd (SpecsOk.cons w5i (SpecsOk.nil _))) Tryz.func64 rfl rfl (λ_ _=>none) (λ_=>by kernel_rfl) (by decide) ?_
 rintro⟨m,⟨⟩⟩ h
 revert m
 intro(m:List (List Int)) (h:qc8 m=true->q6f m)
 refine @qe1 _ ((qc8 m=true->q6f m)/\Prod.fst (qo1 m)=Prod.fst (qo1 m)) (by kernel_rfl) ?_
 try simp only[z0,z1,z2,z3,z4,z5,z6,z7,z8,z9,z10,Int.reduceEq,z11,z12,z13,z14,z15,z16,z17,z18,z19,z20,z21,z22,z23,z24,z25,z26,z27,z28,z29,z30,Int.reduceLE,Int.reduceLT,z31,z32,z33,z34,qa4]
 try simp only[qb3,qb4,qb9,List.set_cons_zero,List.cons.injEq,and_true,true_and]
 exact h
def ofE (m:List (List Int)) (p:List Int):Int:=q72 m p
def ofQ (m:List (List Int)) (p:List Int):Int × Int:=if q72 m p=0 then qr2 (qo1 m).1 p (qo1 m).1.length else(0,0)
structure w5n (m:List (List Int)) (p:List Int):Prop where
 len:p.length<=1000000
 cir:qc8 m=true->q6f m
 ok:q72 m p=0->xj2 (qo1 m).1 p
abbrev x48:qc0:=qg7 true none [qk0,qf2] [qy9,qd6] (λx=>w5n x.1 x.2.1) (λx=>(ofQ x.1 x.2.1,ofE x.1 x.2.1,()))
theorem w17:qd7 Tryz.prog 20 x48:=by
 refine meets (snd (SpecsOk.cons w40 (SpecsOk.cons q3q (SpecsOk.cons w5m (SpecsOk.nil _))))) Tryz.func20 rfl rfl (λ_ _=>none) (λ_=>by kernel_rfl) (by decide) ?_
 rintro⟨m,p,⟨⟩⟩ h
 revert m p
 intro(m:List (List Int)) (p:List Int) (h:w5n m p)
 refine @qe1 _ (let Q0:=qr2 (Prod.fst (qo1 m)) p (List.length (Prod.fst (qo1 m))); List.length p<=(1000000:Nat)/\((q72 m p != (0:Int))=true->((0:Int)=Prod.fst (ofQ m p)/\(0:Int)=Prod.snd (ofQ m p)/\True)/\q72 m p=ofE m p/\True)/\((q72 m p != (0:Int))=false->(qc8 m=true->q6f m)/\xj2 (Prod.fst (qo1 m)) p/\(Prod.fst Q0=Prod.fst (ofQ m p)/\Prod.snd Q0=Prod.snd (ofQ m p)/\True)/\(0:Int)=ofE m p/\True)) (by kernel_rfl) ?_
 try simp only[z0,z1,z2,z3,z4,z5,z6,z7,z8,z9,z10,Int.reduceEq,z11,z12,z13,z14,z15,z16,z17,z18,z19,z20,z21,z22,z23,z24,z25,z26,z27,z28,z29,z30,Int.reduceLE,Int.reduceLT,z31,z32,z33,z34,qa4]
 try simp only[qb3,qb4,qb9,List.set_cons_zero,List.cons.injEq,and_true,true_and]
 refine⟨h.len,λhe=>?_,λhe=>⟨h.cir,h.ok he,?_,he.symm⟩⟩
 ·unfold ofQ; rw[if_neg he]; exact⟨⟨rfl,rfl⟩,rfl⟩
 ·unfold ofQ; rw[if_pos he]; exact⟨rfl,rfl⟩
end Go.Proofs.YtempacilejhbgaaGreat
