/- Shares of a mask for some pixels: contracts by the engine. No condition. -/
import Derived.Test.YtempacilejhbgaaQ1
import Derived.Test.YtempacilejhbgaaV19
import Derived.Test.YtempacilejhbgaaEngU
set_option linter.unusedVariables false
set_option linter.unusedSimpArgs false
namespace Go.Proofs.Ytempacilejhbgaa
open Go Go.RowKit Eng
def BxsOk (bxs:List (Nat × q2n)):Prop:=∀f B,find bxs f=some B->q40 Try.prog f B
theorem BxsOk.nil:BxsOk []:=λf M h=>by cases h
theorem BxsOk.cons {f:Nat} {B:q2n} {l:List (Nat × q2n)} (h:q40 Try.prog f B) (k:BxsOk l):BxsOk ((f,B) :: l):=by
 intro g S hg
 simp only[find] at hg
 split at hg
 ·rename_i e; obtain rfl:=Nat.eq_of_beq_eq_true e; injection hg with hg; rw[<- hg]; exact h
 ·exact k g S hg
def x1g (specs:List (Nat × qc7)) (its:List (Nat × q0x)) (bxs:List (Nat × q2n)):Ctx:={ specs:=specs,tys:=tys,wr:=[],its:=its,bxs:=bxs }
theorem x1h {specs:List (Nat × qc7)} {its:List (Nat × q0x)} {bxs:List (Nat × q2n)} (h:SpecsOk Try.prog specs) (hi:ItsOk its) (hb:BxsOk bxs):Sound Try.prog (x1g specs its bxs):=SpecsOk.sound h q3l (by kernel_rfl) hi (hbx:=hb)
def qf8 (x:Int):Int:=(x.natAbs:Int)
theorem w72 (x:Int):max x (0-x)=qf8 x:=by unfold qf8; omega
def q9d (h:List Int):Nat->Int
 | 0=>0
 | k+1=>q9d h k+qf8 (nI h k)
def szL (h:List Int):Int:=q9d h h.length
def qr6 (h pix:List Int):Nat->Int
 | 0=>0
 | k+1=>qr6 h pix k+qf8 (nI h (nI pix k).toNat)
def inL (h pix:List Int):Int:=qr6 h pix pix.length
structure HOk (h:List Int):Prop where
 len:h.length<=100
 sm:∀i,qj0 1000000 (nI h i)
theorem q28 {h:List Int} (hh:HOk h):∀k,0<=q9d h k/\q9d h k<=1000000*k
 | 0=>⟨Int.le_refl _,by simp[q9d]⟩
 | k+1=>by
  have h1:=q28 hh k
  have h2:=hh.sm k
  unfold qj0 at h2
  rw[q9d]; unfold qf8; omega
theorem q29 {h pix:List Int} (hh:HOk h):∀k,0<=qr6 h pix k/\qr6 h pix k<=1000000*k
 | 0=>⟨Int.le_refl _,by simp[qr6]⟩
 | k+1=>by
  have h1:=q29 (pix:=pix) hh k
  have h2:=hh.sm (nI pix k).toNat
  unfold qj0 at h2
  rw[qr6]; unfold qf8; omega
abbrev xu0:qc7:=qi1 true none [qe4] [qe4] (λx=>qj0 1000000000 x.1) (λx=>(qf8 x.1,()))
theorem q1g:qe7 Try.prog 56 xu0:=by
 refine meets (snd (SpecsOk.nil _)) Try.func56 rfl rfl (λ_ _=>none) (λ_=>by kernel_rfl) (by decide) ?_
 rintro⟨x,⟨⟩⟩ h
 revert x
 intro(x:Int) (h:qj0 1000000000 x)
 refine @qf1 _ (fits .i64 ((0:Int)-x)/\max2 true x ((0:Int)-x)=qf8 x) (by kernel_rfl) ?_
 try simp only[z0,z1,z2,z3,z4,z5,z6,z7,z8,z9,z10,Int.reduceEq,z11,z12,z13,z14,z15,z16,z17,z18,z19,z20,z21,z22,z23,z24,z25,z26,z27,z28,z29,z30,Int.reduceLE,Int.reduceLT,z31,z32,z33,z34,qa6]
 try simp only[qb6,qb7,qd0,List.set_cons_zero,List.cons.injEq,and_true,true_and]
 unfold qj0 at h
 exact⟨qb8 (by omega) (by omega),w72 x⟩
def x1i (h:List Int):Nat->Option Inv
 | 0=>some (Inv.of [3,8] 0 (λk:Nat=>[(3,.lit (.int .i64 (q9d h k))),(8,.lit (.int .i64 k))]) (λ_=>[]) (λk=>k<=h.length) (λk=>h.length-k))
 | _=>none
abbrev xm1:qc7:=qi1 true none [qf7] [qe4] (λx=>HOk x.1) (λx=>(szL x.1,()))
theorem wf5:qe7 Try.prog 58 xm1:=by
 refine meets (snd (SpecsOk.cons q1g (SpecsOk.nil _))) Try.func58 rfl rfl (λx=>x1i x.1) (λ_=>by kernel_rfl) (by decide) ?_
 rintro⟨h,⟨⟩⟩ hh
 revert h
 intro(h:List Int) (hh:HOk h)
 refine @qf1 _ (let Q0:=List.length h; ∃(v0:Unit),∃(v1:Nat),Nat.le v1 Q0/\(((0:Int)=q9d h v1/\(0:Int)=(↑v1:Int)/\True)/\True)/\∀(v2:Nat),Nat.le v2 Q0->(decide ((↑v2:Int)<(↑Q0:Int))=true->((0:Int)<=(↑v2:Int)/\(↑v2:Int)<(↑Q0:Int))/\qj0 (1000000000:Int) (qa3 (Ty.int .i64) h (Int.toNat (↑v2:Int)))/\fits .i64 (q9d h v2+qf8 (qa3 (Ty.int .i64) h (Int.toNat (↑v2:Int))))/\fits .i64 ((↑v2:Int)+(1:Int))/\∃(v5:Nat),Nat.le v5 Q0/\List.length h-v5<List.length h-v2/\(q9d h v2+qf8 (qa3 (Ty.int .i64) h (Int.toNat (↑v2:Int)))=q9d h v5/\(↑v2:Int)+(1:Int)=(↑v5:Int)/\True)/\True)/\(decide ((↑v2:Int)<(↑Q0:Int))=false->q9d h v2=szL h)) (by kernel_rfl) ?_
 try simp only[z0,z1,z2,z3,z4,z5,z6,z7,z8,z9,z10,Int.reduceEq,z11,z12,z13,z14,z15,z16,z17,z18,z19,z20,z21,z22,z23,z24,z25,z26,z27,z28,z29,z30,Int.reduceLE,Int.reduceLT,z31,z32,z33,z34,qa6]
 try simp only[qb6,qb7,qd0,List.set_cons_zero,List.cons.injEq,and_true,true_and]
 have hl:=hh.len
 refine⟨(),0,Nat.zero_le _,⟨rfl,rfl⟩,λk hk=>⟨λhlt=>?_,λhge=>?_⟩⟩
 ·have h1:=q28 hh k
  have h2:=q28 hh (k+1)
  have h3:=hh.sm k
  unfold qj0 at h3
  have e:q9d h k+qf8 (nI h k)=q9d h (k+1):=rfl
  exact⟨hlt,by unfold qj0; omega,qb8 (by omega) (by omega),qb8 (by omega) (by omega),k+1,hlt,by omega,e,by push_cast; rfl⟩
 ·obtain rfl:k=h.length:=by omega
  rfl
def shR (h pix:List Int):Int × Int:=ofR (inL h pix) (szL h)
structure w6a (h pix:List Int):Prop where
 ok:HOk h
 len:pix.length<=100
 at_:∀j,j<pix.length->0<=nI pix j/\nI pix j<h.length
 ne:szL h≠0
def xu1 (h pix:List Int):Nat->Option Inv
 | 0=>some (Inv.of [5,10] 1 (λk:Nat=>[(5,.lit (.int .i64 (qr6 h pix k))),(10,.lit (.int .i64 k))]) (λ_=>[.box 31 (.cons (.lit (.int .i64 0)) (.cons (.lit (.int .i64 0)) .nil))]) (λk=>k<=pix.length) (λk=>pix.length-k))
 | _=>none
abbrev x1j:qc7:=qi1 true none [qf7,qf7] [q2d] (λx=>w6a x.1 x.2.1) (λx=>(shR x.1 x.2.1,()))
theorem w0x:qe7 Try.prog 38 x1j:=by
 refine meets (snd (SpecsOk.cons q1g (SpecsOk.cons wf5 (SpecsOk.cons w7n (SpecsOk.nil _))))) Try.func38 rfl rfl (λx=>xu1 x.1 x.2.1) (λ_=>by kernel_rfl) (by decide) ?_
 rintro⟨h,p,⟨⟩⟩ hh
 revert h p
 intro(h:List Int) (p:List Int) (hh:w6a h p)
 refine @qf1 _ (let Q0:=List.length p; ∃(v0:Unit),∃(v1:Nat),Nat.le v1 Q0/\(((0:Int)=qr6 h p v1/\(0:Int)=(↑v1:Int)/\True)/\((0:Int)=(0:Int)/\(0:Int)=(0:Int)/\True)/\True)/\∀(v2:Nat),Nat.le v2 Q0->(decide ((↑v2:Int)<(↑Q0:Int))=true->((0:Int)<=(↑v2:Int)/\(↑v2:Int)<(↑Q0:Int))/\((0:Int)<=qa3 (Ty.int .i64) p (Int.toNat (↑v2:Int))/\qa3 (Ty.int .i64) p (Int.toNat (↑v2:Int))<(↑(List.length h):Int))/\qj0 (1000000000:Int) (qa3 (Ty.int .i64) h (Int.toNat (qa3 (Ty.int .i64) p (Int.toNat (↑v2:Int)))))/\fits .i64 (qr6 h p v2+qf8 (qa3 (Ty.int .i64) h (Int.toNat (qa3 (Ty.int .i64) p (Int.toNat (↑v2:Int))))))/\fits .i64 ((↑v2:Int)+(1:Int))/\∃(v5:Nat),Nat.le v5 Q0/\List.length p-v5<List.length p-v2/\(qr6 h p v2+qf8 (qa3 (Ty.int .i64) h (Int.toNat (qa3 (Ty.int .i64) p (Int.toNat (↑v2:Int)))))=qr6 h p v5/\(↑v2:Int)+(1:Int)=(↑v5:Int)/\True)/\((0:Int)=(0:Int)/\(0:Int)=(0:Int)/\True)/\True)/\(decide ((↑v2:Int)<(↑Q0:Int))=false->HOk h/\(((-4000000000000000000:Int)<=qr6 h p v2/\qr6 h p v2<=BIG)/\((-4000000000000000000:Int)<=szL h/\szL h<=BIG)/\szL h≠(0:Ty.den qe4))/\Prod.fst (ofR (qr6 h p v2) (szL h))=Prod.fst (shR h p)/\Prod.snd (ofR (qr6 h p v2) (szL h))=Prod.snd (shR h p)/\True)) (by kernel_rfl) ?_
 try simp only[z0,z1,z2,z3,z4,z5,z6,z7,z8,z9,z10,Int.reduceEq,z11,z12,z13,z14,z15,z16,z17,z18,z19,z20,z21,z22,z23,z24,z25,z26,z27,z28,z29,z30,Int.reduceLE,Int.reduceLT,z31,z32,z33,z34,qa6]
 try simp only[qb6,qb7,qd0,List.set_cons_zero,List.cons.injEq,and_true,true_and]
 have hl:=hh.len
 have hb:=hh.ok.len
 refine⟨(),0,Nat.zero_le _,⟨rfl,rfl⟩,λk hk=>⟨λhlt=>?_,λhge=>?_⟩⟩
 ·have h1:=q29 (pix:=p) hh.ok k
  have h2:=q29 (pix:=p) hh.ok (k+1)
  have h3:=hh.ok.sm (nI p k).toNat
  have h4:=hh.at_ k hlt
  unfold qj0 at h3
  have e:qr6 h p k+qf8 (nI h (nI p k).toNat)=qr6 h p (k+1):=rfl
  exact⟨hlt,h4,by unfold qj0; omega,qb8 (by omega) (by omega),qb8 (by omega) (by omega),k+1,hlt,by omega,e,by push_cast; rfl⟩
 ·obtain rfl:k=p.length:=by omega
  have h1:=q29 (pix:=p) hh.ok p.length
  have h2:=q28 hh.ok h.length
  have h3:=hh.ne
  have e:szL h=q9d h h.length:=rfl
  unfold BIG
  exact⟨hh.ok,⟨⟨by omega,by omega⟩,⟨by omega,by omega⟩,h3⟩,rfl,rfl⟩
open Go Go.RowKit Eng Ls
abbrev xu2:qc7:=qi1 true none [] [q2d] (λ_=>True) (λ_=>((0,1),()))
theorem wl7:qe7 Try.prog 43 xu2:=by
 refine meets (snd (SpecsOk.nil _)) Try.func43 rfl rfl (λ_ _=>none) (λ_=>by kernel_rfl) (by decide) ?_
 rintro⟨⟩ -
 refine @qf1 _ ((0:Int)=(0:Int)/\(1:Int)=(1:Int)/\True) (by kernel_rfl) ?_
 try simp only[z0,z1,z2,z3,z4,z5,z6,z7,z8,z9,z10,Int.reduceEq,z11,z12,z13,z14,z15,z16,z17,z18,z19,z20,z21,z22,z23,z24,z25,z26,z27,z28,z29,z30,Int.reduceLE,Int.reduceLT,z31,z32,z33,z34,qa6]
 try simp only[qb6,qb7,qd0,List.set_cons_zero,List.cons.injEq,and_true,true_and]
abbrev xm2:qc7:=qi1 true none [q2d,q2d] [.bool] (λx=>q0t x.1/\q0t x.2.1) (λx=>(decide (0<q9w x.2.1 x.1),()))
theorem wf6:qe7 Try.prog 45 xm2:=by
 refine meets (snd (SpecsOk.cons w0d (SpecsOk.nil _))) Try.func45 rfl rfl (λ_ _=>none) (λ_=>by kernel_rfl) (by decide) ?_
 rintro⟨⟨a,b⟩,⟨c,d⟩,⟨⟩⟩ h
 revert a b c d
 intro(a:Int) (b:Int) (c:Int) (d:Int) (h:q0t (a,b)/\q0t (c,d))
 refine @qf1 _ ((q0t (c,d)/\q0t (a,b))/\decide ((0:Int)<q9w (c,d) (a,b))=decide ((0:Int)<q9w (c,d) (a,b))) (by kernel_rfl) ?_
 try simp only[z0,z1,z2,z3,z4,z5,z6,z7,z8,z9,z10,Int.reduceEq,z11,z12,z13,z14,z15,z16,z17,z18,z19,z20,z21,z22,z23,z24,z25,z26,z27,z28,z29,z30,Int.reduceLE,Int.reduceLT,z31,z32,z33,z34,qa6]
 try simp only[qb6,qb7,qd0,List.set_cons_zero,List.cons.injEq,and_true,true_and]
 exact⟨h.2,h.1⟩
def wl8 (best x:Int × Int):Int × Int:=if 0<q9w x best then x else best
abbrev x1k:q2n:=xl9 (q2y [q2d]) 31 1 q2d (λb x=>q0t b/\q0t x.1) (λb x=>q6x .bool (decide (0<q9w x.1 b))) (λb x=>wl8 b x.1)
theorem wl9 (w:World) (o:Obj) {b:Nat} (h:b<w.heap.size):(w.alloc o).heap[b]? = w.heap[b]?:=by
 show(w.heap.push o)[b]? = _
 rw[Array.getElem?_push_lt h]
 exact(Array.getElem?_eq_getElem h).symm
theorem x1l {w:World} {b t:Nat} {p q:Int} (h:w.heap[b]? = some (.cells #[.int .i64 p,.int .i64 q] t (0,0))):w.cell? ⟨b,0,none⟩=some (.int .i64 p)/\w.cell? ⟨b,1,none⟩=some (.int .i64 q)/\w.frozen? ⟨b,0,none⟩=false/\w.frozen? ⟨b,1,none⟩=false:=by
 simp[World.cell?,World.frozen?,h]
theorem xx8 (x y:Int):∀v∈[Value.int .i64 x,.int .i64 y],Value.oneCell' v=true:=λv hv=>by
 rcases List.mem_cons.1 hv with rfl | hv
 ·rfl
 ·rcases List.mem_cons.1 hv with rfl | hv
  ·rfl
  ·cases hv
theorem wm0 {a b c d:Int} (h1:q0t (a,b)) (h2:q0t (c,d)) (w:World):Calls Try.prog 45 #[.agg #[.int .i64 a,.int .i64 b],.agg #[.int .i64 c,.int .i64 d]] w λe w'=>e=.returned (.bool (decide (0<q9w (c,d) (a,b))))/\Below w.heap.size w w':=by
 have hx:qt6 (λb=>w.heap[b]?) [q2d,q2d] ((a,b),(c,d),()) [.agg #[.int .i64 a,.int .i64 b],.agg #[.int .i64 c,.int .i64 d]]:=⟨_,_,rfl,⟨[.int .i64 a,.int .i64 b],rfl,[_],[_],rfl,rfl,rfl⟩,_,_,rfl,⟨[.int .i64 c,.int .i64 d],rfl,[_],[_],rfl,rfl,rfl⟩,rfl⟩
 refine(ws3 (x:=(((a,b),(c,d),()):qa5 [q2d,q2d])) wf6 (View.full_on w) ⟨h1,h2⟩ hx).mono λe w' ⟨v,m',e1,e2,_,_,e5⟩=>⟨?_,e2⟩
 have e5:[v]=[.bool (decide (0<q9w (c,d) (a,b)))]:=e5
 rw[e1,(List.cons.inj e5).1]
theorem w0y:q40 Try.prog 44 x1k:=by
 refine⟨⟨_,_,Try.func44,rfl,rfl⟩,λw m b cs us args vs k hm hbm hcell hone hcs hargs hrun=>?_⟩
 obtain⟨(pq:Int × Int),hrun,hx⟩:=we9 hrun hcs
 obtain⟨⟨(xy:Int × Int),⟨⟩⟩,⟨hp,hk⟩,hy⟩:=qr0 hrun hargs
 obtain⟨p,q⟩:=pq
 obtain⟨x,y⟩:=xy
 obtain⟨u1,u2,rfl,x1,x2⟩:=hx
 obtain rfl:u1=[.int .i64 p]:=x1
 obtain rfl:u2=[.int .i64 q]:=x2
 obtain⟨v,vs2,rfl,⟨cc,rfl,u3,u4,rfl,y1,y2⟩,y3⟩:=hy
 obtain rfl:vs2=[]:=y3
 obtain rfl:u3=[.int .i64 x]:=y1
 obtain rfl:u4=[.int .i64 y]:=y2
 have hp:q0t (p,q)/\q0t (x,y):=hp
 show Calls Try.prog 44 #[.agg #[.int .i64 x,.int .i64 y],.pointer (some ⟨b,0,none⟩)] w _
 have c0:w.cell? ⟨b,0,none⟩=some (.int .i64 p):=by simp[World.cell?,hcell]
 have c1:w.cell? ⟨b,1,none⟩=some (.int .i64 q):=by simp[World.cell?,hcell]
 have hlt:b<w.heap.size:=(Array.getElem?_eq_some_iff.1 hcell).1
 have hcl:w.heap[b]? = some (.cells #[.int .i64 p,.int .i64 q] 31 (0,0)):=hcell
 have sz1:(w.alloc (.cells #[.int .i64 x,.int .i64 y] 31 (0,0))).heap.size=w.heap.size+1:=Array.size_push ..
 have n0:(w.alloc (.cells #[.int .i64 x,.int .i64 y] 31 (0,0))).cell? ⟨w.heap.size,0,none⟩=some (.int .i64 x):=by simp
 have n1:(w.alloc (.cells #[.int .i64 x,.int .i64 y] 31 (0,0))).cell? ⟨w.heap.size,1,none⟩=some (.int .i64 y):=by simp
 go_enter Try.func44,Try.ntmps44
 go_wp2_with (go_at_call 45; refine(wm0 hp.1 hp.2 _).mono ?_; rintro e w1 ⟨rfl,hb1⟩; have hn0:=Below.cell_of hb1 n0; have hn1:=Below.cell_of hb1 n1; have hw1:w1.heap[b]? = some (.cells #[.int .i64 p,.int .i64 q] 31 (0,0)):=(hb1.block b (by rw[sz1]; omega)).trans ((wl9 w _ hlt).trans hcl); obtain⟨q0,q1,f0,f1⟩:=x1l hw1)
 all_goals
  have hB:Below w.heap.size w w1:=Ls.step_trans (Ls.below_alloc w _) hb1
  have hmw:∀W:World,Kept (λx=>x=b) w W->m.on W:=λW hK x o hx=>(hK.block x ⟨View.lt hm hx,λe=>by rw[e,hbm] at hx; cases hx⟩).trans (hm x o hx)
  have hK1:Kept (λx=>x=b) w w1:=⟨hB.os,hB.tape,hB.output,hB.size,λx hx=>hB.block x hx.1⟩
  rename_i hc
  go_ret
 ·have hK2:Kept (λx=>x=b) w ((w1.setCell ⟨b,0,none⟩ (.int .i64 x)).setCell ⟨b,1,none⟩ (.int .i64 y)):=⟨hB.os,hB.tape,hB.output,by simpa[World.setCell] using hB.size,λk hk=>(Below.heap_setCell _ _ _ _ (λe=>hk.2 e)).trans ((Below.heap_setCell _ _ _ _ (λe=>hk.2 e)).trans (hB.block k hk.1))⟩
  have ht:wl8 (p,q) (x,y)=(x,y):=if_pos hc
  have hfin:((w1.setCell ⟨b,0,none⟩ (.int .i64 x)).setCell ⟨b,1,none⟩ (.int .i64 y)).heap[b]? = some (.cells #[.int .i64 x,.int .i64 y] 31 (0,0)):=by simp[World.setCell,Array.getElem?_modify,hw1]
  rw[ht,decide_eq_true hc] at hk
  exact⟨.bool true,m,q6x .bool true,qi4 q2d (x,y) .nil,[.int .i64 x,.int .i64 y],rfl,hK2,View.le_refl m,hmw _ hK2,λz o hz=>.inl hz,hfin,xx8 _ _,rfl,⟨_,_,rfl,rfl,_,_,rfl,rfl,rfl⟩,hk⟩
 ·have hc:¬0<q9w (x,y) (p,q):=by omega
  have ht:wl8 (p,q) (x,y)=(p,q):=if_neg hc
  rw[ht,decide_eq_false hc] at hk
  exact⟨.bool false,m,q6x .bool false,qi4 q2d (p,q) .nil,[.int .i64 p,.int .i64 q],rfl,hK1,View.le_refl m,hmw _ hK1,λz o hz=>.inl hz,hw1,xx8 _ _,rfl,⟨_,_,rfl,rfl,_,_,rfl,rfl,rfl⟩,hk⟩
abbrev x1m:qc7:=hspec [] true none [.cap q2d] [q2d] (λ_=>True) (λx=>(x.1,()))
theorem w0z:qe7 Try.prog 46 x1m:=by
 refine qx6 (SpecsOk.nil _) (snd (SpecsOk.nil _)) Try.func46 rfl rfl (λ_ _=>none) (λ_=>by kernel_rfl) (by decide) ?_
 rintro⟨⟨a,b⟩,⟨⟩⟩ -
 revert a b
 intro(a:Int) (b:Int)
 refine @qf1 _ (a=a/\b=b/\True) (by kernel_rfl) ?_
 try simp only[z0,z1,z2,z3,z4,z5,z6,z7,z8,z9,z10,Int.reduceEq,z11,z12,z13,z14,z15,z16,z17,z18,z19,z20,z21,z22,z23,z24,z25,z26,z27,z28,z29,z30,Int.reduceLE,Int.reduceLT,z31,z32,z33,z34,qa6]
 try simp only[qb6,qb7,qd0,List.set_cons_zero,List.cons.injEq,and_true,true_and]
abbrev x1n (g:Nat):AV:=.tup (.cons (.clo 44 (.cons (.box g 0) .nil)) (.cons (.clo 46 (.cons (.box g 0) .nil)) .nil))
abbrev sGr:qc7:=w4d (q2y []) 31 (λ_=>True) (λ_=>x1n 0) (λ_=>.cons (.lit (.int .i64 0)) (.cons (.lit (.int .i64 1)) .nil))
theorem w4e:qe7 Try.prog 32 sGr:=by
 refine xm0 (snd (SpecsOk.cons wl7 (SpecsOk.nil _))) Try.func32 rfl rfl (qp8 _) (λ_ _=>none) (λ_=>by kernel_rfl) (by decide) ?_
 rintro⟨⟩ -
 refine @qf1 _ (True/\((True/\True)/\(True/\True)/\True)/\(0:Int)=(0:Int)/\(1:Int)=(1:Int)/\True) (by kernel_rfl) ?_
 try simp only[z0,z1,z2,z3,z4,z5,z6,z7,z8,z9,z10,Int.reduceEq,z11,z12,z13,z14,z15,z16,z17,z18,z19,z20,z21,z22,z23,z24,z25,z26,z27,z28,z29,z30,Int.reduceLE,Int.reduceLT,z31,z32,z33,z34,qa6]
 try simp only[qb6,qb7,qd0,List.set_cons_zero,List.cons.injEq,and_true,true_and]
open Go Go.RowKit Eng
structure xm3 (n d:Int) (r:Int × Int):Prop where
 pos:1<=r.2
 eq:r.1*d=n*r.2
 n0:0<=r.1
 nle:r.1<=n
 dle:r.2<=d
 one:gcdI r.1 r.2=1
theorem xm4 {n d:Int} (hn:0<=n) (hd:0<d):xm3 n d (ofR n d):=by
 have e:ofR n d=(n.tdiv (gcdI n d),d.tdiv (gcdI n d)):=by unfold ofR; rw[if_neg (by omega)]
 have hg:0<gcdI n d:=qs5 (.inr (by omega))
 have h1:gcdI n d∣n:=Int.gcd_dvd_left ..
 have h2:gcdI n d∣d:=Int.gcd_dvd_right ..
 have hgd:(gcdI n d:Int)=(Int.gcd n d:Int):=rfl
 rw[e]
 have e1:n.tdiv (gcdI n d)=n / gcdI n d:=Int.tdiv_eq_ediv_of_nonneg hn
 have e2:d.tdiv (gcdI n d)=d / gcdI n d:=Int.tdiv_eq_ediv_of_nonneg (by omega)
 rw[e1,e2]
 obtain⟨a,ha⟩:=h1
 obtain⟨b,hb⟩:=h2
 have q1:n / gcdI n d=a:=by
  conv=>lhs; lhs; rw[ha]
  exact Int.mul_ediv_cancel_left _ (by omega)
 have q2:d / gcdI n d=b:=by
  conv=>lhs; lhs; rw[hb]
  exact Int.mul_ediv_cancel_left _ (by omega)
 have hgcd:Int.gcd a b=1:=by
  have:=Int.gcd_ediv_gcd_ediv_gcd (i:=n) (j:=d) (by have:=hg; rw[hgd] at this; omega)
  rw[<- hgd,q1,q2] at this
  exact this
 generalize gcdI n d=g at *
 rw[q1,q2]
 have hb1:1<=b:=by
  rcases Int.lt_or_le b 1 with q | q
  ·have:g*b<=0:=Int.mul_nonpos_of_nonneg_of_nonpos (by omega) (by omega)
   omega
  ·exact q
 have ha0:0<=a:=by
  rcases Int.lt_or_le a 0 with q | q
  ·have:g*a<0:=Int.mul_neg_of_pos_of_neg hg q
   omega
  ·exact q
 refine⟨hb1,?_,ha0,?_,?_,?_⟩
 ·show a*d=n*b
  rw[ha,hb,Int.mul_comm g b,<- Int.mul_assoc,Int.mul_comm (a*b) g,Int.mul_assoc]
 ·show a<=n
  rw[ha]; have:=Int.mul_le_mul_of_nonneg_right (a:=1) (b:=g) (c:=a) (by omega) ha0; omega
 ·show b<=d
  rw[hb]; have:=Int.mul_le_mul_of_nonneg_right (a:=1) (b:=g) (c:=b) (by omega) (by omega); omega
 ·show((Int.gcd a b:Nat):Int)=1
  rw[hgcd]; rfl
theorem q9e {h:List Int} (hh:HOk h) (h0:szL h≠0):0<szL h:=by
 have:=q28 hh h.length
 have e:szL h=q9d h h.length:=rfl
 omega
theorem wt0 {h p:List Int} (hh:w6a h p):xm3 (inL h p) (szL h) (shR h p):=xm4 (q29 hh.ok _).1 (q9e hh.ok hh.ne)
theorem wf7 {h p:List Int} (hh:w6a h p):q0t (shR h p):=by
 have k:=wt0 hh
 have h1:=(q29 (pix:=p) hh.ok p.length).2
 have h2:=(q28 hh.ok h.length).2
 have h3:=hh.len
 have h4:=hh.ok.len
 have e1:inL h p=qr6 h p p.length:=rfl
 have e2:szL h=q9d h h.length:=rfl
 have k1:=k.pos
 have k2:=k.nle
 have k3:=k.dle
 have k4:=k.n0
 exact⟨⟨k4,by omega⟩,⟨by omega,by omega⟩,k1⟩
theorem xm5:q0t (0,1):=⟨⟨by decide,by decide⟩,⟨by decide,by decide⟩,by decide⟩
theorem xe7 {a b:Int × Int} (ha:q0t a) (hb:q0t b):q0t (wl8 a b):=by unfold wl8; split <;> assumption
abbrev x1o:qc7:=qi1 false none [ql9] [ql9] (λx=>qb9 x.1=true->q9a x.1) (λx=>((qp1 x.1).1,()))
theorem q7s:qe7 Try.prog 18 x1o:=by
 refine meets (snd (SpecsOk.cons w4c (SpecsOk.nil _))) Try.func18 rfl rfl (λ_ _=>none) (λ_=>by kernel_rfl) (by decide) ?_
 rintro⟨m,⟨⟩⟩ h
 revert m
 intro(m:List (List Int)) (h:qb9 m=true->q9a m)
 refine @qf1 _ ((qb9 m=true->q9a m)/\Prod.fst (qp1 m)=Prod.fst (qp1 m)) (by kernel_rfl) ?_
 try simp only[z0,z1,z2,z3,z4,z5,z6,z7,z8,z9,z10,Int.reduceEq,z11,z12,z13,z14,z15,z16,z17,z18,z19,z20,z21,z22,z23,z24,z25,z26,z27,z28,z29,z30,Int.reduceLE,Int.reduceLT,z31,z32,z33,z34,qa6]
 try simp only[qb6,qb7,qd0,List.set_cons_zero,List.cons.injEq,and_true,true_and]
 exact h
end Go.Proofs.Ytempacilejhbgaa
