/- The greatest of some shares: contracts by the engine. No condition. -/
import Derived.Test.YtempacilejhbgaaQ1
import Derived.Test.YtempacilejhbgaaV19
import Derived.Test.YtempacilejhbgaaEngU
set_option linter.unusedVariables false
set_option linter.unusedSimpArgs false
namespace Go.Proofs.Ytempacilejhbgaa
open Go Go.RowKit Eng
def BxsOk (bxs:List (Nat × q2g)):Prop:=∀f B,find bxs f=some B->q4s Try.prog f B
theorem BxsOk.nil:BxsOk []:=λf M h=>by cases h
theorem BxsOk.cons {f:Nat} {B:q2g} {l:List (Nat × q2g)} (h:q4s Try.prog f B) (k:BxsOk l):BxsOk ((f,B) :: l):=by
 intro g S hg
 simp only[find] at hg
 split at hg
 ·rename_i e; obtain rfl:=Nat.eq_of_beq_eq_true e; injection hg with hg; rw[<- hg]; exact h
 ·exact k g S hg
def x0h (specs:List (Nat × qc7)) (its:List (Nat × q0o)) (bxs:List (Nat × q2g)):Ctx:={ specs:=specs,tys:=tys,wr:=[],its:=its,bxs:=bxs }
theorem xu3 {specs:List (Nat × qc7)} {its:List (Nat × q0o)} {bxs:List (Nat × q2g)} (h:SpecsOk Try.prog specs) (hi:ItsOk its) (hb:BxsOk bxs):Sound Try.prog (x0h specs its bxs):=SpecsOk.sound h q3e (by kernel_rfl) hi (hbx:=hb)
def qf9 (x:Int):Int:=(x.natAbs:Int)
theorem w7l (x:Int):max x (0-x)=qf9 x:=by unfold qf9; omega
def q8z (h:List Int):Nat->Int
 | 0=>0
 | k+1=>q8z h k+qf9 (nI h k)
def szL (h:List Int):Int:=q8z h h.length
def qq8 (h pix:List Int):Nat->Int
 | 0=>0
 | k+1=>qq8 h pix k+qf9 (nI h (nI pix k).toNat)
def inL (h pix:List Int):Int:=qq8 h pix pix.length
structure HOk (h:List Int):Prop where
 len:h.length<=100
 sm:∀i,qj0 1000000 (nI h i)
theorem q2v {h:List Int} (hh:HOk h):∀k,0<=q8z h k/\q8z h k<=1000000*k
 | 0=>⟨Int.le_refl _,by simp[q8z]⟩
 | k+1=>by
  have h1:=q2v hh k
  have h2:=hh.sm k
  unfold qj0 at h2
  rw[q8z]; unfold qf9; omega
theorem q2w {h pix:List Int} (hh:HOk h):∀k,0<=qq8 h pix k/\qq8 h pix k<=1000000*k
 | 0=>⟨Int.le_refl _,by simp[qq8]⟩
 | k+1=>by
  have h1:=q2w (pix:=pix) hh k
  have h2:=hh.sm (nI pix k).toNat
  unfold qj0 at h2
  rw[qq8]; unfold qf9; omega
abbrev xr3:qc7:=qh6 true none [qe3] [qe3] (λx=>qj0 1000000000 x.1) (λx=>(qf9 x.1,()))
theorem q07:qe6 Try.prog 56 xr3:=by
 refine meets (snd (SpecsOk.nil _)) Try.func56 rfl rfl (λ_ _=>none) (λ_=>by kernel_rfl) (by decide) ?_
 rintro⟨x,⟨⟩⟩ h
 revert x
 intro(x:Int) (h:qj0 1000000000 x)
 refine @qe9 _ (fits .i64 ((0:Int)-x)/\max2 true x ((0:Int)-x)=qf9 x) (by kernel_rfl) ?_
 try simp only[z0,z1,z2,z3,z4,z5,z6,z7,z8,z9,z10,Int.reduceEq,z11,z12,z13,z14,z15,z16,z17,z18,z19,z20,z21,z22,z23,z24,z25,z26,z27,z28,z29,z30,Int.reduceLE,Int.reduceLT,z31,z32,z33,z34,qa6]
 try simp only[qb5,qb6,qd0,List.set_cons_zero,List.cons.injEq,and_true,true_and]
 unfold qj0 at h
 exact⟨qb9 (by omega) (by omega),w7l x⟩
def x0i (h:List Int):Nat->Option Inv
 | 0=>some (Inv.of [3,8] 0 (λk:Nat=>[(3,.lit (.int .i64 (q8z h k))),(8,.lit (.int .i64 k))]) (λ_=>[]) (λk=>k<=h.length) (λk=>h.length-k))
 | _=>none
abbrev xj9:qc7:=qh6 true none [qf8] [qe3] (λx=>HOk x.1) (λx=>(szL x.1,()))
theorem wd9:qe6 Try.prog 58 xj9:=by
 refine meets (snd (SpecsOk.cons q07 (SpecsOk.nil _))) Try.func58 rfl rfl (λx=>x0i x.1) (λ_=>by kernel_rfl) (by decide) ?_
 rintro⟨h,⟨⟩⟩ hh
 revert h
 intro(h:List Int) (hh:HOk h)
 refine @qe9 _ (let Q0:=List.length h; ∃(v0:Unit),∃(v1:Nat),Nat.le v1 Q0/\(((0:Int)=q8z h v1/\(0:Int)=(↑v1:Int)/\True)/\True)/\∀(v2:Nat),Nat.le v2 Q0->(decide ((↑v2:Int)<(↑Q0:Int))=true->((0:Int)<=(↑v2:Int)/\(↑v2:Int)<(↑Q0:Int))/\qj0 (1000000000:Int) (qa3 (Ty.int .i64) h (Int.toNat (↑v2:Int)))/\fits .i64 (q8z h v2+qf9 (qa3 (Ty.int .i64) h (Int.toNat (↑v2:Int))))/\fits .i64 ((↑v2:Int)+(1:Int))/\∃(v5:Nat),Nat.le v5 Q0/\List.length h-v5<List.length h-v2/\(q8z h v2+qf9 (qa3 (Ty.int .i64) h (Int.toNat (↑v2:Int)))=q8z h v5/\(↑v2:Int)+(1:Int)=(↑v5:Int)/\True)/\True)/\(decide ((↑v2:Int)<(↑Q0:Int))=false->q8z h v2=szL h)) (by kernel_rfl) ?_
 try simp only[z0,z1,z2,z3,z4,z5,z6,z7,z8,z9,z10,Int.reduceEq,z11,z12,z13,z14,z15,z16,z17,z18,z19,z20,z21,z22,z23,z24,z25,z26,z27,z28,z29,z30,Int.reduceLE,Int.reduceLT,z31,z32,z33,z34,qa6]
 try simp only[qb5,qb6,qd0,List.set_cons_zero,List.cons.injEq,and_true,true_and]
 have hl:=hh.len
 refine⟨(),0,Nat.zero_le _,⟨rfl,rfl⟩,λk hk=>⟨λhlt=>?_,λhge=>?_⟩⟩
 ·have h1:=q2v hh k
  have h2:=q2v hh (k+1)
  have h3:=hh.sm k
  unfold qj0 at h3
  have e:q8z h k+qf9 (nI h k)=q8z h (k+1):=rfl
  exact⟨hlt,by unfold qj0; omega,qb9 (by omega) (by omega),qb9 (by omega) (by omega),k+1,hlt,by omega,e,by push_cast; rfl⟩
 ·obtain rfl:k=h.length:=by omega
  rfl
def shR (h pix:List Int):Int × Int:=ofR (inL h pix) (szL h)
structure w33 (h pix:List Int):Prop where
 ok:HOk h
 len:pix.length<=100
 at_:∀j,j<pix.length->0<=nI pix j/\nI pix j<h.length
 ne:szL h≠0
def xr4 (h pix:List Int):Nat->Option Inv
 | 0=>some (Inv.of [5,10] 1 (λk:Nat=>[(5,.lit (.int .i64 (qq8 h pix k))),(10,.lit (.int .i64 k))]) (λ_=>[.box 31 (.cons (.lit (.int .i64 0)) (.cons (.lit (.int .i64 0)) .nil))]) (λk=>k<=pix.length) (λk=>pix.length-k))
 | _=>none
abbrev x0j:qc7:=qh6 true none [qf8,qf8] [q0h] (λx=>w33 x.1 x.2.1) (λx=>(shR x.1 x.2.1,()))
theorem q7k:qe6 Try.prog 38 x0j:=by
 refine meets (snd (SpecsOk.cons q07 (SpecsOk.cons wd9 (SpecsOk.cons w65 (SpecsOk.nil _))))) Try.func38 rfl rfl (λx=>xr4 x.1 x.2.1) (λ_=>by kernel_rfl) (by decide) ?_
 rintro⟨h,p,⟨⟩⟩ hh
 revert h p
 intro(h:List Int) (p:List Int) (hh:w33 h p)
 refine @qe9 _ (let Q0:=List.length p; ∃(v0:Unit),∃(v1:Nat),Nat.le v1 Q0/\(((0:Int)=qq8 h p v1/\(0:Int)=(↑v1:Int)/\True)/\((0:Int)=(0:Int)/\(0:Int)=(0:Int)/\True)/\True)/\∀(v2:Nat),Nat.le v2 Q0->(decide ((↑v2:Int)<(↑Q0:Int))=true->((0:Int)<=(↑v2:Int)/\(↑v2:Int)<(↑Q0:Int))/\((0:Int)<=qa3 (Ty.int .i64) p (Int.toNat (↑v2:Int))/\qa3 (Ty.int .i64) p (Int.toNat (↑v2:Int))<(↑(List.length h):Int))/\qj0 (1000000000:Int) (qa3 (Ty.int .i64) h (Int.toNat (qa3 (Ty.int .i64) p (Int.toNat (↑v2:Int)))))/\fits .i64 (qq8 h p v2+qf9 (qa3 (Ty.int .i64) h (Int.toNat (qa3 (Ty.int .i64) p (Int.toNat (↑v2:Int))))))/\fits .i64 ((↑v2:Int)+(1:Int))/\∃(v5:Nat),Nat.le v5 Q0/\List.length p-v5<List.length p-v2/\(qq8 h p v2+qf9 (qa3 (Ty.int .i64) h (Int.toNat (qa3 (Ty.int .i64) p (Int.toNat (↑v2:Int)))))=qq8 h p v5/\(↑v2:Int)+(1:Int)=(↑v5:Int)/\True)/\((0:Int)=(0:Int)/\(0:Int)=(0:Int)/\True)/\True)/\(decide ((↑v2:Int)<(↑Q0:Int))=false->HOk h/\(((-4000000000000000000:Int)<=qq8 h p v2/\qq8 h p v2<=BIG)/\((-4000000000000000000:Int)<=szL h/\szL h<=BIG)/\szL h≠(0:Ty.den qe3))/\Prod.fst (ofR (qq8 h p v2) (szL h))=Prod.fst (shR h p)/\Prod.snd (ofR (qq8 h p v2) (szL h))=Prod.snd (shR h p)/\True)) (by kernel_rfl) ?_
 try simp only[z0,z1,z2,z3,z4,z5,z6,z7,z8,z9,z10,Int.reduceEq,z11,z12,z13,z14,z15,z16,z17,z18,z19,z20,z21,z22,z23,z24,z25,z26,z27,z28,z29,z30,Int.reduceLE,Int.reduceLT,z31,z32,z33,z34,qa6]
 try simp only[qb5,qb6,qd0,List.set_cons_zero,List.cons.injEq,and_true,true_and]
 have hl:=hh.len
 have hb:=hh.ok.len
 refine⟨(),0,Nat.zero_le _,⟨rfl,rfl⟩,λk hk=>⟨λhlt=>?_,λhge=>?_⟩⟩
 ·have h1:=q2w (pix:=p) hh.ok k
  have h2:=q2w (pix:=p) hh.ok (k+1)
  have h3:=hh.ok.sm (nI p k).toNat
  have h4:=hh.at_ k hlt
  unfold qj0 at h3
  have e:qq8 h p k+qf9 (nI h (nI p k).toNat)=qq8 h p (k+1):=rfl
  exact⟨hlt,h4,by unfold qj0; omega,qb9 (by omega) (by omega),qb9 (by omega) (by omega),k+1,hlt,by omega,e,by push_cast; rfl⟩
 ·obtain rfl:k=p.length:=by omega
  have h1:=q2w (pix:=p) hh.ok p.length
  have h2:=q2v hh.ok h.length
  have h3:=hh.ne
  have e:szL h=q8z h h.length:=rfl
  unfold BIG
  exact⟨hh.ok,⟨⟨by omega,by omega⟩,⟨by omega,by omega⟩,h3⟩,rfl,rfl⟩
open Go Go.RowKit Eng Ls
abbrev xr5:qc7:=qh6 true none [] [q0h] (λ_=>True) (λ_=>((0,1),()))
theorem wl0:qe6 Try.prog 43 xr5:=by
 refine meets (snd (SpecsOk.nil _)) Try.func43 rfl rfl (λ_ _=>none) (λ_=>by kernel_rfl) (by decide) ?_
 rintro⟨⟩ -
 refine @qe9 _ ((0:Int)=(0:Int)/\(1:Int)=(1:Int)/\True) (by kernel_rfl) ?_
 try simp only[z0,z1,z2,z3,z4,z5,z6,z7,z8,z9,z10,Int.reduceEq,z11,z12,z13,z14,z15,z16,z17,z18,z19,z20,z21,z22,z23,z24,z25,z26,z27,z28,z29,z30,Int.reduceLE,Int.reduceLT,z31,z32,z33,z34,qa6]
 try simp only[qb5,qb6,qd0,List.set_cons_zero,List.cons.injEq,and_true,true_and]
abbrev xk0:qc7:=qh6 true none [q0h,q0h] [.bool] (λx=>qt7 x.1/\qt7 x.2.1) (λx=>(decide (0<q9k x.2.1 x.1),()))
theorem we0:qe6 Try.prog 45 xk0:=by
 refine meets (snd (SpecsOk.cons wy7 (SpecsOk.nil _))) Try.func45 rfl rfl (λ_ _=>none) (λ_=>by kernel_rfl) (by decide) ?_
 rintro⟨⟨a,b⟩,⟨c,d⟩,⟨⟩⟩ h
 revert a b c d
 intro(a:Int) (b:Int) (c:Int) (d:Int) (h:qt7 (a,b)/\qt7 (c,d))
 refine @qe9 _ ((qt7 (c,d)/\qt7 (a,b))/\decide ((0:Int)<q9k (c,d) (a,b))=decide ((0:Int)<q9k (c,d) (a,b))) (by kernel_rfl) ?_
 try simp only[z0,z1,z2,z3,z4,z5,z6,z7,z8,z9,z10,Int.reduceEq,z11,z12,z13,z14,z15,z16,z17,z18,z19,z20,z21,z22,z23,z24,z25,z26,z27,z28,z29,z30,Int.reduceLE,Int.reduceLT,z31,z32,z33,z34,qa6]
 try simp only[qb5,qb6,qd0,List.set_cons_zero,List.cons.injEq,and_true,true_and]
 exact⟨h.2,h.1⟩
def q6l (best x:Int × Int):Int × Int:=if 0<q9k x best then x else best
abbrev x0k:q2g:=xj7 (q3j [q0h]) 31 1 q0h (λb x=>qt7 b/\qt7 x.1) (λb x=>q6p .bool (decide (0<q9k x.1 b))) (λb x=>q6l b x.1)
theorem wl1 (w:World) (o:Obj) {b:Nat} (h:b<w.heap.size):(w.alloc o).heap[b]? = w.heap[b]?:=by
 show(w.heap.push o)[b]? = _
 rw[Array.getElem?_push_lt h]
 exact(Array.getElem?_eq_getElem h).symm
theorem x0l {w:World} {b t:Nat} {p q:Int} (h:w.heap[b]? = some (.cells #[.int .i64 p,.int .i64 q] t (0,0))):w.cell? ⟨b,0,none⟩=some (.int .i64 p)/\w.cell? ⟨b,1,none⟩=some (.int .i64 q)/\w.frozen? ⟨b,0,none⟩=false/\w.frozen? ⟨b,1,none⟩=false:=by
 simp[World.cell?,World.frozen?,h]
theorem xu4 (x y:Int):∀v∈[Value.int .i64 x,.int .i64 y],Value.oneCell' v=true:=λv hv=>by
 rcases List.mem_cons.1 hv with rfl | hv
 ·rfl
 ·rcases List.mem_cons.1 hv with rfl | hv
  ·rfl
  ·cases hv
theorem wl2 {a b c d:Int} (h1:qt7 (a,b)) (h2:qt7 (c,d)) (w:World):Calls Try.prog 45 #[.agg #[.int .i64 a,.int .i64 b],.agg #[.int .i64 c,.int .i64 d]] w λe w'=>e=.returned (.bool (decide (0<q9k (c,d) (a,b))))/\Below w.heap.size w w':=by
 have hx:qt0 (λb=>w.heap[b]?) [q0h,q0h] ((a,b),(c,d),()) [.agg #[.int .i64 a,.int .i64 b],.agg #[.int .i64 c,.int .i64 d]]:=⟨_,_,rfl,⟨[.int .i64 a,.int .i64 b],rfl,[_],[_],rfl,rfl,rfl⟩,_,_,rfl,⟨[.int .i64 c,.int .i64 d],rfl,[_],[_],rfl,rfl,rfl⟩,rfl⟩
 refine(wq9 (x:=(((a,b),(c,d),()):qa5 [q0h,q0h])) we0 (View.full_on w) ⟨h1,h2⟩ hx).mono λe w' ⟨v,m',e1,e2,_,_,e5⟩=>⟨?_,e2⟩
 have e5:[v]=[.bool (decide (0<q9k (c,d) (a,b)))]:=e5
 rw[e1,(List.cons.inj e5).1]
theorem q7l:q4s Try.prog 44 x0k:=by
 refine⟨⟨_,_,Try.func44,rfl,rfl⟩,λw m b cs us args vs k hm hbm hcell hone hcs hargs hrun=>?_⟩
 obtain⟨(pq:Int × Int),hrun,hx⟩:=wd7 hrun hcs
 obtain⟨⟨(xy:Int × Int),⟨⟩⟩,⟨hp,hk⟩,hy⟩:=qq3 hrun hargs
 obtain⟨p,q⟩:=pq
 obtain⟨x,y⟩:=xy
 obtain⟨u1,u2,rfl,x1,x2⟩:=hx
 obtain rfl:u1=[.int .i64 p]:=x1
 obtain rfl:u2=[.int .i64 q]:=x2
 obtain⟨v,vs2,rfl,⟨cc,rfl,u3,u4,rfl,y1,y2⟩,y3⟩:=hy
 obtain rfl:vs2=[]:=y3
 obtain rfl:u3=[.int .i64 x]:=y1
 obtain rfl:u4=[.int .i64 y]:=y2
 have hp:qt7 (p,q)/\qt7 (x,y):=hp
 show Calls Try.prog 44 #[.agg #[.int .i64 x,.int .i64 y],.pointer (some ⟨b,0,none⟩)] w _
 have c0:w.cell? ⟨b,0,none⟩=some (.int .i64 p):=by simp[World.cell?,hcell]
 have c1:w.cell? ⟨b,1,none⟩=some (.int .i64 q):=by simp[World.cell?,hcell]
 have hlt:b<w.heap.size:=(Array.getElem?_eq_some_iff.1 hcell).1
 have hcl:w.heap[b]? = some (.cells #[.int .i64 p,.int .i64 q] 31 (0,0)):=hcell
 have sz1:(w.alloc (.cells #[.int .i64 x,.int .i64 y] 31 (0,0))).heap.size=w.heap.size+1:=Array.size_push ..
 have n0:(w.alloc (.cells #[.int .i64 x,.int .i64 y] 31 (0,0))).cell? ⟨w.heap.size,0,none⟩=some (.int .i64 x):=by simp
 have n1:(w.alloc (.cells #[.int .i64 x,.int .i64 y] 31 (0,0))).cell? ⟨w.heap.size,1,none⟩=some (.int .i64 y):=by simp
 go_enter Try.func44,Try.ntmps44
 go_wp2_with (go_at_call 45; refine(wl2 hp.1 hp.2 _).mono ?_; rintro e w1 ⟨rfl,hb1⟩; have hn0:=Below.cell_of hb1 n0; have hn1:=Below.cell_of hb1 n1; have hw1:w1.heap[b]? = some (.cells #[.int .i64 p,.int .i64 q] 31 (0,0)):=(hb1.block b (by rw[sz1]; omega)).trans ((wl1 w _ hlt).trans hcl); obtain⟨q0,q1,f0,f1⟩:=x0l hw1)
 all_goals
  have hB:Below w.heap.size w w1:=Ls.step_trans (Ls.below_alloc w _) hb1
  have hmw:∀W:World,Kept (λx=>x=b) w W->m.on W:=λW hK x o hx=>(hK.block x ⟨View.lt hm hx,λe=>by rw[e,hbm] at hx; cases hx⟩).trans (hm x o hx)
  have hK1:Kept (λx=>x=b) w w1:=⟨hB.os,hB.tape,hB.output,hB.size,λx hx=>hB.block x hx.1⟩
  rename_i hc
  go_ret
 ·have hK2:Kept (λx=>x=b) w ((w1.setCell ⟨b,0,none⟩ (.int .i64 x)).setCell ⟨b,1,none⟩ (.int .i64 y)):=⟨hB.os,hB.tape,hB.output,by simpa[World.setCell] using hB.size,λk hk=>(Below.heap_setCell _ _ _ _ (λe=>hk.2 e)).trans ((Below.heap_setCell _ _ _ _ (λe=>hk.2 e)).trans (hB.block k hk.1))⟩
  have ht:q6l (p,q) (x,y)=(x,y):=if_pos hc
  have hfin:((w1.setCell ⟨b,0,none⟩ (.int .i64 x)).setCell ⟨b,1,none⟩ (.int .i64 y)).heap[b]? = some (.cells #[.int .i64 x,.int .i64 y] 31 (0,0)):=by simp[World.setCell,Array.getElem?_modify,hw1]
  rw[ht,decide_eq_true hc] at hk
  exact⟨.bool true,m,q6p .bool true,qi4 q0h (x,y) .nil,[.int .i64 x,.int .i64 y],rfl,hK2,View.le_refl m,hmw _ hK2,λz o hz=>.inl hz,hfin,xu4 _ _,rfl,⟨_,_,rfl,rfl,_,_,rfl,rfl,rfl⟩,hk⟩
 ·have hc:¬0<q9k (x,y) (p,q):=by omega
  have ht:q6l (p,q) (x,y)=(p,q):=if_neg hc
  rw[ht,decide_eq_false hc] at hk
  exact⟨.bool false,m,q6p .bool false,qi4 q0h (p,q) .nil,[.int .i64 p,.int .i64 q],rfl,hK1,View.le_refl m,hmw _ hK1,λz o hz=>.inl hz,hw1,xu4 _ _,rfl,⟨_,_,rfl,rfl,_,_,rfl,rfl,rfl⟩,hk⟩
abbrev x0m:qc7:=hspec [] true none [.cap q0h] [q0h] (λ_=>True) (λx=>(x.1,()))
theorem q7m:qe6 Try.prog 46 x0m:=by
 refine qt6 (SpecsOk.nil _) (snd (SpecsOk.nil _)) Try.func46 rfl rfl (λ_ _=>none) (λ_=>by kernel_rfl) (by decide) ?_
 rintro⟨⟨a,b⟩,⟨⟩⟩ -
 revert a b
 intro(a:Int) (b:Int)
 refine @qe9 _ (a=a/\b=b/\True) (by kernel_rfl) ?_
 try simp only[z0,z1,z2,z3,z4,z5,z6,z7,z8,z9,z10,Int.reduceEq,z11,z12,z13,z14,z15,z16,z17,z18,z19,z20,z21,z22,z23,z24,z25,z26,z27,z28,z29,z30,Int.reduceLE,Int.reduceLT,z31,z32,z33,z34,qa6]
 try simp only[qb5,qb6,qd0,List.set_cons_zero,List.cons.injEq,and_true,true_and]
abbrev x0n (g:Nat):AV:=.tup (.cons (.clo 44 (.cons (.box g 0) .nil)) (.cons (.clo 46 (.cons (.box g 0) .nil)) .nil))
abbrev sGr:qc7:=w31 (q3j []) 31 (λ_=>True) (λ_=>x0n 0) (λ_=>.cons (.lit (.int .i64 0)) (.cons (.lit (.int .i64 1)) .nil))
theorem we3:qe6 Try.prog 32 sGr:=by
 refine xj8 (snd (SpecsOk.cons wl0 (SpecsOk.nil _))) Try.func32 rfl rfl (qr6 _) (λ_ _=>none) (λ_=>by kernel_rfl) (by decide) ?_
 rintro⟨⟩ -
 refine @qe9 _ (True/\((True/\True)/\(True/\True)/\True)/\(0:Int)=(0:Int)/\(1:Int)=(1:Int)/\True) (by kernel_rfl) ?_
 try simp only[z0,z1,z2,z3,z4,z5,z6,z7,z8,z9,z10,Int.reduceEq,z11,z12,z13,z14,z15,z16,z17,z18,z19,z20,z21,z22,z23,z24,z25,z26,z27,z28,z29,z30,Int.reduceLE,Int.reduceLT,z31,z32,z33,z34,qa6]
 try simp only[qb5,qb6,qd0,List.set_cons_zero,List.cons.injEq,and_true,true_and]
end Go.Proofs.Ytempacilejhbgaa
