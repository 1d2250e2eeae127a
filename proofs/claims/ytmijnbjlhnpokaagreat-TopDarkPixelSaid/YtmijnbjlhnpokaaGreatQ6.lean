/- The places of the greatest sizes: contracts by the engine. No condition. -/
import Derived.Test.YtmijnbjlhnpokaaGreatQ1
import Derived.Test.YtmijnbjlhnpokaaGreatH1
import Derived.Test.YtmijnbjlhnpokaaGreatEngU
set_option linter.unusedVariables false
set_option linter.unusedSimpArgs false
namespace Go.Proofs.YtmijnbjlhnpokaaGreat
open Go Go.RowKit Eng
def BxsOk (bxs:List (Nat × q4e)):Prop:=∀f B,find bxs f=some B->q3g Tryz.prog f B
theorem BxsOk.nil:BxsOk []:=λf M h=>by cases h
theorem BxsOk.cons {f:Nat} {B:q4e} {l:List (Nat × q4e)} (h:q3g Tryz.prog f B) (k:BxsOk l):BxsOk ((f,B) :: l):=by
 intro g S hg
 simp only[find] at hg
 split at hg
 ·rename_i e; obtain rfl:=Nat.eq_of_beq_eq_true e; injection hg with hg; rw[<- hg]; exact h
 ·exact k g S hg
def ym6 (specs:List (Nat × qb7)) (its:List (Nat × qw4)) (bxs:List (Nat × q4e)):Ctx:={ specs:=specs,tys:=tys,wr:=[],its:=its,bxs:=bxs }
theorem yg2 {specs:List (Nat × qb7)} {its:List (Nat × qw4)} {bxs:List (Nat × q4e)} (h:SpecsOk Tryz.prog specs) (hi:ItsOk its) (hb:BxsOk bxs):Sound Tryz.prog (ym6 specs its bxs):=SpecsOk.sound h q05 (by kernel_rfl) hi (hbx:=hb)
def q1y (x:Int):Int:=(x.natAbs:Int)
theorem xo2 (x:Int):max x (0-x)=q1y x:=by unfold q1y; omega
def q8v (h:List Int):Nat->Int
 | 0=>0
 | k+1=>q8v h k+q1y (nI h k)
def szL (h:List Int):Int:=q8v h h.length
def qv9 (h pix:List Int):Nat->Int
 | 0=>0
 | k+1=>qv9 h pix k+q1y (nI h (nI pix k).toNat)
def inL (h pix:List Int):Int:=qv9 h pix pix.length
structure HOk (h:List Int):Prop where
 len:h.length<=100
 sm:∀i,qf8 1000000 (nI h i)
theorem q4w {h:List Int} (hh:HOk h):∀k,0<=q8v h k/\q8v h k<=1000000*k
 | 0=>⟨Int.le_refl _,by simp[q8v]⟩
 | k+1=>by
  have h1:=q4w hh k
  have h2:=hh.sm k
  unfold qf8 at h2
  rw[q8v]; unfold q1y; omega
theorem q4x {h pix:List Int} (hh:HOk h):∀k,0<=qv9 h pix k/\qv9 h pix k<=1000000*k
 | 0=>⟨Int.le_refl _,by simp[qv9]⟩
 | k+1=>by
  have h1:=q4x (pix:=pix) hh k
  have h2:=hh.sm (nI pix k).toNat
  unfold qf8 at h2
  rw[qv9]; unfold q1y; omega
abbrev x9s:qb7:=qf1 true none [qc8] [qc8] (λx=>qf8 1000000000 x.1) (λx=>(q1y x.1,()))
theorem q2w:Meets Tryz.prog 187 x9s:=by
 refine meets (snd (SpecsOk.nil _)) Tryz.func187 rfl rfl (λ_ _=>none) (λ_=>by kernel_rfl) (by decide) ?_
 rintro⟨x,⟨⟩⟩ h
 revert x
 intro(x:Int) (h:qf8 1000000000 x)
 refine @qd1 _ (fits .i64 ((0:Int)-x)/\max2 true x ((0:Int)-x)=q1y x) (by kernel_rfl) ?_
 try simp only[z0,z1,z2,z3,z4,z5,z6,z7,z8,z9,z10,Int.reduceEq,z11,z12,z13,z14,z15,z16,z17,z18,z19,z20,z21,z22,z23,z24,z25,z26,z27,z28,z29,z30,Int.reduceLE,Int.reduceLT,z31,z32,z33,z34,qa1]
 try simp only[qa7,qa8,qb8,z31,z32,z2,z1]
 unfold qf8 at h
 exact⟨qb5 (by omega) (by omega),xo2 x⟩
def ym7 (h:List Int):Nat->Option Inv
 | 0=>some (Inv.of [3,8] 0 (λk:Nat=>[(3,.lit (.int .i64 (q8v h k))),(8,.lit (.int .i64 k))]) (λ_=>[]) (λk=>k<=h.length) (λk=>h.length-k))
 | _=>none
abbrev x47:qb7:=qf1 true none [qe9] [qc8] (λx=>HOk x.1) (λx=>(szL x.1,()))
theorem wr9:Meets Tryz.prog 188 x47:=by
 refine meets (snd (SpecsOk.cons q2w (SpecsOk.nil _))) Tryz.func188 rfl rfl (λx=>ym7 x.1) (λ_=>by kernel_rfl) (by decide) ?_
 rintro⟨h,⟨⟩⟩ hh
 revert h
 intro(h:List Int) (hh:HOk h)
 refine @qd1 _ (∃(v0:Unit),∃(v1:Nat),Nat.le v1 h.length/\(((0:Int)=q8v h v1/\(0:Int)=(↑v1:Int)/\True)/\True)/\∀(v2:Nat),Nat.le v2 h.length->(decide ((↑v2:Int)<(↑h.length:Int))=true->((0:Int)<=(↑v2:Int)/\(↑v2:Int)<(↑h.length:Int))/\qf8 (1000000000:Int) (nI h v2)/\fits .i64 (q8v h v2+q1y (nI h v2))/\fits .i64 ((↑v2:Int)+(1:Int))/\∃(v5:Nat),Nat.le v5 h.length/\h.length-v5<h.length-v2/\(q8v h v2+q1y (nI h v2)=q8v h v5/\(↑v2:Int)+(1:Int)=(↑v5:Int)/\True)/\True)/\(decide ((↑v2:Int)<(↑h.length:Int))=false->q8v h v2=szL h)) (by kernel_rfl) ?_
 try simp only[z0,z1,z2,z3,z4,z5,z6,z7,z8,z9,z10,Int.reduceEq,z11,z12,z13,z14,z15,z16,z17,z18,z19,z20,z21,z22,z23,z24,z25,z26,z27,z28,z29,z30,Int.reduceLE,Int.reduceLT,z31,z32,z33,z34,qa1]
 try simp only[qa7,qa8,qb8,z31,z32,z2,z1]
 have hl:=hh.len
 refine⟨(),0,Nat.zero_le _,⟨rfl,rfl⟩,λk hk=>⟨λhlt=>?_,λhge=>?_⟩⟩
 ·have h1:=q4w hh k
  have h2:=q4w hh (k+1)
  have h3:=hh.sm k
  unfold qf8 at h3
  have e:q8v h k+q1y (nI h k)=q8v h (k+1):=rfl
  exact⟨hlt,by unfold qf8; omega,qb5 (by omega) (by omega),qb5 (by omega) (by omega),k+1,hlt,by omega,e,by push_cast; rfl⟩
 ·obtain rfl:k=h.length:=by omega
  rfl
def shR (h pix:List Int):Int × Int:=ofR (inL h pix) (szL h)
structure xf3 (h pix:List Int):Prop where
 ok:HOk h
 len:pix.length<=100
 at_:∀j,j<pix.length->0<=nI pix j/\nI pix j<h.length
 ne:szL h≠0
def x9t (h pix:List Int):Nat->Option Inv
 | 0=>some (Inv.of [5,10] 1 (λk:Nat=>[(5,.lit (.int .i64 (qv9 h pix k))),(10,.lit (.int .i64 k))]) (λ_=>[.box 60 (.cons (.lit (.int .i64 0)) (.cons (.lit (.int .i64 0)) .nil))]) (λk=>k<=pix.length) (λk=>pix.length-k))
 | _=>none
abbrev ym8:qb7:=qf1 true none [qe9,qe9] [q0e] (λx=>xf3 x.1 x.2.1) (λx=>(shR x.1 x.2.1,()))
theorem q95:Meets Tryz.prog 126 ym8:=by
 refine meets (snd (SpecsOk.cons q2w (SpecsOk.cons wr9 (SpecsOk.cons w18 (SpecsOk.nil _))))) Tryz.func126 rfl rfl (λx=>x9t x.1 x.2.1) (λ_=>by kernel_rfl) (by decide) ?_
 rintro⟨h,p,⟨⟩⟩ hh
 revert h p
 intro(h:List Int) (p:List Int) (hh:xf3 h p)
 refine @qd1 _ (∃(v0:Unit),∃(v1:Nat),Nat.le v1 p.length/\(((0:Int)=qv9 h p v1/\(0:Int)=(↑v1:Int)/\True)/\((0:Int)=(0:Int)/\(0:Int)=(0:Int)/\True)/\True)/\∀(v2:Nat),Nat.le v2 p.length->(decide ((↑v2:Int)<(↑p.length:Int))=true->((0:Int)<=(↑v2:Int)/\(↑v2:Int)<(↑p.length:Int))/\((0:Int)<=nI p v2/\nI p v2<(↑h.length:Int))/\qf8 (1000000000:Int) (nI h (nI p v2).toNat)/\fits .i64 (qv9 h p v2+q1y (nI h (nI p v2).toNat))/\fits .i64 ((↑v2:Int)+(1:Int))/\∃(v5:Nat),Nat.le v5 p.length/\p.length-v5<p.length-v2/\(qv9 h p v2+q1y (nI h (nI p v2).toNat)=qv9 h p v5/\(↑v2:Int)+(1:Int)=(↑v5:Int)/\True)/\((0:Int)=(0:Int)/\(0:Int)=(0:Int)/\True)/\True)/\(decide ((↑v2:Int)<(↑p.length:Int))=false->HOk h/\(((-4000000000000000000:Int)<=qv9 h p v2/\qv9 h p v2<=BIG)/\((-4000000000000000000:Int)<=szL h/\szL h<=BIG)/\szL h≠(0:Ty.den qc8))/\(ofR (qv9 h p v2) (szL h)).1=(shR h p).1/\(ofR (qv9 h p v2) (szL h)).2=(shR h p).2/\True)) (by kernel_rfl) ?_
 try simp only[z0,z1,z2,z3,z4,z5,z6,z7,z8,z9,z10,Int.reduceEq,z11,z12,z13,z14,z15,z16,z17,z18,z19,z20,z21,z22,z23,z24,z25,z26,z27,z28,z29,z30,Int.reduceLE,Int.reduceLT,z31,z32,z33,z34,qa1]
 try simp only[qa7,qa8,qb8,z31,z32,z2,z1]
 have hl:=hh.len
 have hb:=hh.ok.len
 refine⟨(),0,Nat.zero_le _,⟨rfl,rfl⟩,λk hk=>⟨λhlt=>?_,λhge=>?_⟩⟩
 ·have h1:=q4x (pix:=p) hh.ok k
  have h2:=q4x (pix:=p) hh.ok (k+1)
  have h3:=hh.ok.sm (nI p k).toNat
  have h4:=hh.at_ k hlt
  unfold qf8 at h3
  have e:qv9 h p k+q1y (nI h (nI p k).toNat)=qv9 h p (k+1):=rfl
  exact⟨hlt,h4,by unfold qf8; omega,qb5 (by omega) (by omega),qb5 (by omega) (by omega),k+1,hlt,by omega,e,by push_cast; rfl⟩
 ·obtain rfl:k=p.length:=by omega
  have h1:=q4x (pix:=p) hh.ok p.length
  have h2:=q4w hh.ok h.length
  have h3:=hh.ne
  have e:szL h=q8v h h.length:=rfl
  unfold BIG
  exact⟨hh.ok,⟨⟨by omega,by omega⟩,⟨by omega,by omega⟩,h3⟩,rfl,rfl⟩
open Go Go.RowKit Eng Ls
abbrev x9u:qb7:=qf1 true none [] [q0e] (λ_=>True) (λ_=>((0,1),()))
theorem w0e:Meets Tryz.prog 183 x9u:=by
 refine meets (snd (SpecsOk.nil _)) Tryz.func183 rfl rfl (λ_ _=>none) (λ_=>by kernel_rfl) (by decide) ?_
 rintro⟨⟩ -
 refine @qd1 _ ((0:Int)=(0:Int)/\(1:Int)=(1:Int)/\True) (by kernel_rfl) ?_
 try simp only[z0,z1,z2,z3,z4,z5,z6,z7,z8,z9,z10,Int.reduceEq,z11,z12,z13,z14,z15,z16,z17,z18,z19,z20,z21,z22,z23,z24,z25,z26,z27,z28,z29,z30,Int.reduceLE,Int.reduceLT,z31,z32,z33,z34,qa1]
 try simp only[qa7,qa8,qb8,z31,z32,z2,z1]
abbrev x48:qb7:=qf1 true none [q0e,q0e] [.bool] (λx=>q0f x.1/\q0f x.2.1) (λx=>(decide (0<wj7 x.2.1 x.1),()))
theorem ws0:Meets Tryz.prog 185 x48:=by
 refine meets (snd (SpecsOk.cons w50 (SpecsOk.nil _))) Tryz.func185 rfl rfl (λ_ _=>none) (λ_=>by kernel_rfl) (by decide) ?_
 rintro⟨⟨a,b⟩,⟨c,d⟩,⟨⟩⟩ h
 revert a b c d
 intro(a:Int) (b:Int) (c:Int) (d:Int) (h:q0f (a,b)/\q0f (c,d))
 refine @qd1 _ ((q0f (c,d)/\q0f (a,b))/\decide ((0:Int)<wj7 (c,d) (a,b))=decide ((0:Int)<wj7 (c,d) (a,b))) (by kernel_rfl) ?_
 try simp only[z0,z1,z2,z3,z4,z5,z6,z7,z8,z9,z10,Int.reduceEq,z11,z12,z13,z14,z15,z16,z17,z18,z19,z20,z21,z22,z23,z24,z25,z26,z27,z28,z29,z30,Int.reduceLE,Int.reduceLT,z31,z32,z33,z34,qa1]
 try simp only[qa7,qa8,qb8,z31,z32,z2,z1]
 exact⟨h.2,h.1⟩
def wj8 (best x:Int × Int):Int × Int:=if 0<wj7 x best then x else best
abbrev ym9:q4e:=x45 (q02 [q0e]) 60 1 q0e (λb x=>q0f b/\q0f x.1) (λb x=>q8q .bool (decide (0<wj7 x.1 b))) (λb x=>wj8 b x.1)
theorem w0f (w:World) (o:Obj) {b:Nat} (h:b<w.heap.size):(w.alloc o).heap[b]? = w.heap[b]?:=by
 show(w.heap.push o)[b]? = _
 rw[Array.getElem?_push_lt h]
 exact(Array.getElem?_eq_getElem h).symm
theorem yn0 {w:World} {b t:Nat} {p q:Int} (h:w.heap[b]? = some (.cells #[.int .i64 p,.int .i64 q] t (0,0))):w.cell? ⟨b,0,none⟩=some (.int .i64 p)/\w.cell? ⟨b,1,none⟩=some (.int .i64 q)/\w.frozen? ⟨b,0,none⟩=false/\w.frozen? ⟨b,1,none⟩=false:=by
 simp[World.cell?,World.frozen?,h]
theorem yg3 (x y:Int):∀v∈[Value.int .i64 x,.int .i64 y],Value.oneCell' v=true:=λv hv=>by
 rcases List.mem_cons.1 hv with rfl | hv
 ·rfl
 ·rcases List.mem_cons.1 hv with rfl | hv
  ·rfl
  ·cases hv
theorem w0g {a b c d:Int} (h1:q0f (a,b)) (h2:q0f (c,d)) (w:World):Calls Tryz.prog 185 #[.agg #[.int .i64 a,.int .i64 b],.agg #[.int .i64 c,.int .i64 d]] w λe w'=>e=.returned (.bool (decide (0<wj7 (c,d) (a,b))))/\Below w.heap.size w w':=by
 have hx:qt7 (λb=>w.heap[b]?) [q0e,q0e] ((a,b),(c,d),()) [.agg #[.int .i64 a,.int .i64 b],.agg #[.int .i64 c,.int .i64 d]]:=⟨_,_,rfl,⟨[.int .i64 a,.int .i64 b],rfl,[_],[_],rfl,rfl,rfl⟩,_,_,rfl,⟨[.int .i64 c,.int .i64 d],rfl,[_],[_],rfl,rfl,rfl⟩,rfl⟩
 refine(w17 (x:=(((a,b),(c,d),()):qa4 [q0e,q0e])) ws0 (View.full_on w) ⟨h1,h2⟩ hx).mono λe w' ⟨v,m',e1,e2,_,_,e5⟩=>⟨?_,e2⟩
 have e5:[v]=[.bool (decide (0<wj7 (c,d) (a,b)))]:=e5
 rw[e1,(List.cons.inj e5).1]
theorem q96:q3g Tryz.prog 184 ym9:=by
 refine⟨⟨_,_,Tryz.func184,rfl,rfl⟩,λw m b cs us args vs k hm hbm hcell hone hcs hargs hrun=>?_⟩
 obtain⟨(pq:Int × Int),hrun,hx⟩:=wr6 hrun hcs
 obtain⟨⟨(xy:Int × Int),⟨⟩⟩,⟨hp,hk⟩,hy⟩:=qk0 hrun hargs
 obtain⟨p,q⟩:=pq
 obtain⟨x,y⟩:=xy
 obtain⟨u1,u2,rfl,x1,x2⟩:=hx
 obtain rfl:u1=[.int .i64 p]:=x1
 obtain rfl:u2=[.int .i64 q]:=x2
 obtain⟨v,vs2,rfl,⟨cc,rfl,u3,u4,rfl,y1,y2⟩,y3⟩:=hy
 obtain rfl:vs2=[]:=y3
 obtain rfl:u3=[.int .i64 x]:=y1
 obtain rfl:u4=[.int .i64 y]:=y2
 have hp:q0f (p,q)/\q0f (x,y):=hp
 show Calls Tryz.prog 184 #[.agg #[.int .i64 x,.int .i64 y],.pointer (some ⟨b,0,none⟩)] w _
 have c0:w.cell? ⟨b,0,none⟩=some (.int .i64 p):=by simp[World.cell?,hcell]
 have c1:w.cell? ⟨b,1,none⟩=some (.int .i64 q):=by simp[World.cell?,hcell]
 have hlt:b<w.heap.size:=(Array.getElem?_eq_some_iff.1 hcell).1
 have hcl:w.heap[b]? = some (.cells #[.int .i64 p,.int .i64 q] 60 (0,0)):=hcell
 have sz1:(w.alloc (.cells #[.int .i64 x,.int .i64 y] 60 (0,0))).heap.size=w.heap.size+1:=Array.size_push ..
 have n0:(w.alloc (.cells #[.int .i64 x,.int .i64 y] 60 (0,0))).cell? ⟨w.heap.size,0,none⟩=some (.int .i64 x):=by simp
 have n1:(w.alloc (.cells #[.int .i64 x,.int .i64 y] 60 (0,0))).cell? ⟨w.heap.size,1,none⟩=some (.int .i64 y):=by simp
 go_enter Tryz.func184,Tryz.ntmps184
 go_wp2_with (go_at_call 185; refine(w0g hp.1 hp.2 _).mono ?_; rintro e w1 ⟨rfl,hb1⟩; have hn0:=Below.cell_of hb1 n0; have hn1:=Below.cell_of hb1 n1; have hw1:w1.heap[b]? = some (.cells #[.int .i64 p,.int .i64 q] 60 (0,0)):=(hb1.block b (by rw[sz1]; omega)).trans ((w0f w _ hlt).trans hcl); obtain⟨q0,q1,f0,f1⟩:=yn0 hw1)
 all_goals
  have hB:Below w.heap.size w w1:=Ls.step_trans (Ls.below_alloc w _) hb1
  have hmw:∀W:World,Kept (λx=>x=b) w W->m.on W:=λW hK x o hx=>(hK.block x ⟨View.lt hm hx,λe=>by rw[e,hbm] at hx; cases hx⟩).trans (hm x o hx)
  have hK1:Kept (λx=>x=b) w w1:=⟨hB.os,hB.tape,hB.output,hB.size,λx hx=>hB.block x hx.1⟩
  rename_i hc
  go_ret
 ·have hK2:Kept (λx=>x=b) w ((w1.setCell ⟨b,0,none⟩ (.int .i64 x)).setCell ⟨b,1,none⟩ (.int .i64 y)):=⟨hB.os,hB.tape,hB.output,by simpa[World.setCell] using hB.size,λk hk=>(Below.heap_setCell _ _ _ _ (λe=>hk.2 e)).trans ((Below.heap_setCell _ _ _ _ (λe=>hk.2 e)).trans (hB.block k hk.1))⟩
  have ht:wj8 (p,q) (x,y)=(x,y):=if_pos hc
  have hfin:((w1.setCell ⟨b,0,none⟩ (.int .i64 x)).setCell ⟨b,1,none⟩ (.int .i64 y)).heap[b]? = some (.cells #[.int .i64 x,.int .i64 y] 60 (0,0)):=by simp[World.setCell,Array.getElem?_modify,hw1]
  rw[ht,decide_eq_true hc] at hk
  exact⟨.bool true,m,q8q .bool true,qj5 q0e (x,y) .nil,[.int .i64 x,.int .i64 y],rfl,hK2,View.le_refl m,hmw _ hK2,λz o hz=>.inl hz,hfin,yg3 _ _,rfl,⟨_,_,rfl,rfl,_,_,rfl,rfl,rfl⟩,hk⟩
 ·have hc:¬0<wj7 (x,y) (p,q):=by omega
  have ht:wj8 (p,q) (x,y)=(p,q):=if_neg hc
  rw[ht,decide_eq_false hc] at hk
  exact⟨.bool false,m,q8q .bool false,qj5 q0e (p,q) .nil,[.int .i64 p,.int .i64 q],rfl,hK1,View.le_refl m,hmw _ hK1,λz o hz=>.inl hz,hw1,yg3 _ _,rfl,⟨_,_,rfl,rfl,_,_,rfl,rfl,rfl⟩,hk⟩
abbrev yn1:qb7:=hspec [] true none [.cap q0e] [q0e] (λ_=>True) (λx=>(x.1,()))
theorem q97:Meets Tryz.prog 186 yn1:=by
 refine qm7 (SpecsOk.nil _) (snd (SpecsOk.nil _)) Tryz.func186 rfl rfl (λ_ _=>none) (λ_=>by kernel_rfl) (by decide) ?_
 rintro⟨⟨a,b⟩,⟨⟩⟩ -
 revert a b
 intro(a:Int) (b:Int)
 refine @qd1 _ (a=a/\b=b/\True) (by kernel_rfl) ?_
 try simp only[z0,z1,z2,z3,z4,z5,z6,z7,z8,z9,z10,Int.reduceEq,z11,z12,z13,z14,z15,z16,z17,z18,z19,z20,z21,z22,z23,z24,z25,z26,z27,z28,z29,z30,Int.reduceLE,Int.reduceLT,z31,z32,z33,z34,qa1]
 try simp only[qa7,qa8,qb8,z31,z32,z2,z1]
abbrev yn2 (g:Nat):AV:=.tup (.cons (.clo 184 (.cons (.box g 0) .nil)) (.cons (.clo 186 (.cons (.box g 0) .nil)) .nil))
abbrev sGr:qb7:=w93 (q02 []) 60 (λ_=>True) (λ_=>yn2 0) (λ_=>.cons (.lit (.int .i64 0)) (.cons (.lit (.int .i64 1)) .nil))
theorem ws1:Meets Tryz.prog 125 sGr:=by
 refine x46 (snd (SpecsOk.cons w0e (SpecsOk.nil _))) Tryz.func125 rfl rfl (qm4 _) (λ_ _=>none) (λ_=>by kernel_rfl) (by decide) ?_
 rintro⟨⟩ -
 refine @qd1 _ (True/\((True/\True)/\(True/\True)/\True)/\(0:Int)=(0:Int)/\(1:Int)=(1:Int)/\True) (by kernel_rfl) ?_
 try simp only[z0,z1,z2,z3,z4,z5,z6,z7,z8,z9,z10,Int.reduceEq,z11,z12,z13,z14,z15,z16,z17,z18,z19,z20,z21,z22,z23,z24,z25,z26,z27,z28,z29,z30,Int.reduceLE,Int.reduceLT,z31,z32,z33,z34,qa1]
 try simp only[qa7,qa8,qb8,z31,z32,z2,z1]
open Go Go.RowKit Eng
structure LowIs (n d:Int) (r:Int × Int):Prop where
 pos:1<=r.2
 eq:r.1*d=n*r.2
 n0:0<=r.1
 nle:r.1<=n
 dle:r.2<=d
 one:gcdI r.1 r.2=1
theorem x49 {n d:Int} (hn:0<=n) (hd:0<d):LowIs n d (ofR n d):=by
 have e:ofR n d=(n.tdiv (gcdI n d),d.tdiv (gcdI n d)):=by unfold ofR; rw[if_neg (by omega)]
 have hg:0<gcdI n d:=qu9 (.inr (by omega))
 have h1:gcdI n d∣n:=Int.gcd_dvd_left ..
 have h2:gcdI n d∣d:=Int.gcd_dvd_right ..
 have hgd:(gcdI n d:Int)=(Int.gcd n d:Int):=rfl
 rw[e]
 have e1:n.tdiv (gcdI n d)=n / gcdI n d:=Int.tdiv_eq_ediv_of_nonneg hn
 have e2:d.tdiv (gcdI n d)=d / gcdI n d:=Int.tdiv_eq_ediv_of_nonneg (by omega)
 rw[e1,e2]
 obtain⟨a,ha⟩:=h1
 obtain⟨b,hb⟩:=h2
 have q1:n / gcdI n d=a:=by
  conv=>lhs; lhs; rw[ha]
  exact Int.mul_ediv_cancel_left _ (by omega)
 have q2:d / gcdI n d=b:=by
  conv=>lhs; lhs; rw[hb]
  exact Int.mul_ediv_cancel_left _ (by omega)
 have hgcd:Int.gcd a b=1:=by
  have:=Int.gcd_ediv_gcd_ediv_gcd (i:=n) (j:=d) (by have:=hg; rw[hgd] at this; omega)
  rw[<- hgd,q1,q2] at this
  exact this
 generalize gcdI n d=g at *
 rw[q1,q2]
 have hb1:1<=b:=by
  rcases Int.lt_or_le b 1 with q | q
  ·have:g*b<=0:=Int.mul_nonpos_of_nonneg_of_nonpos (by omega) (by omega)
   omega
  ·exact q
 have ha0:0<=a:=by
  rcases Int.lt_or_le a 0 with q | q
  ·have:g*a<0:=Int.mul_neg_of_pos_of_neg hg q
   omega
  ·exact q
 refine⟨hb1,?_,ha0,?_,?_,?_⟩
 ·show a*d=n*b
  rw[ha,hb,Int.mul_comm g b,<- Int.mul_assoc,Int.mul_comm (a*b) g,Int.mul_assoc]
 ·show a<=n
  rw[ha]; have:=Int.mul_le_mul_of_nonneg_right (a:=1) (b:=g) (c:=a) (by omega) ha0; omega
 ·show b<=d
  rw[hb]; have:=Int.mul_le_mul_of_nonneg_right (a:=1) (b:=g) (c:=b) (by omega) (by omega); omega
 ·show((Int.gcd a b:Nat):Int)=1
  rw[hgcd]; rfl
theorem x07 {h:List Int} (hh:HOk h) (h0:szL h≠0):0<szL h:=by
 have:=q4w hh h.length
 have e:szL h=q8v h h.length:=rfl
 omega
theorem w2u {h p:List Int} (hh:xf3 h p):LowIs (inL h p) (szL h) (shR h p):=x49 (q4x hh.ok _).1 (x07 hh.ok hh.ne)
theorem q7y {h p:List Int} (hh:xf3 h p):q0f (shR h p):=by
 have k:=w2u hh
 have h1:=(q4x (pix:=p) hh.ok p.length).2
 have h2:=(q4w hh.ok h.length).2
 have h3:=hh.len
 have h4:=hh.ok.len
 have e1:inL h p=qv9 h p p.length:=rfl
 have e2:szL h=q8v h h.length:=rfl
 have k1:=k.pos
 have k2:=k.nle
 have k3:=k.dle
 have k4:=k.n0
 exact⟨⟨k4,by omega⟩,⟨by omega,by omega⟩,k1⟩
theorem w94:q0f (0,1):=⟨⟨by decide,by decide⟩,⟨by decide,by decide⟩,by decide⟩
theorem w95 {a b:Int × Int} (ha:q0f a) (hb:q0f b):q0f (wj8 a b):=by unfold wj8; split <;> assumption
def qz8 (l:List (List Int)) (pix:List Int):Nat->Int × Int
 | 0=>(0,1)
 | k+1=>wj8 (qz8 l pix k) (shR (nL l k) pix)
structure x2h (l:List (List Int)) (pix:List Int):Prop where
 len:l.length<=1000000
 ok:∀k,k<l.length->xf3 (nL l k) pix
theorem qz9 {l:List (List Int)} {pix:List Int} (h:x2h l pix):∀k,k<=l.length->q0f (qz8 l pix k)
 | 0,_=>w94
 | k+1,hk=>w95 (qz9 h k (by omega)) (q7y (h.ok k (by omega)))
def yn3 (l:List (List Int)) (pix:List Int):Nat->Option Inv
 | 0=>some (Inv.of [15] 2 (λk:Nat=>[(15,.lit (.int .i64 k))]) (λk=>[.box 60 (.cons (.lit (.int .i64 0)) (.cons (.lit (.int .i64 0)) .nil)),.box 60 (.cons (.lit (.int .i64 (qz8 l pix k).1)) (.cons (.lit (.int .i64 (qz8 l pix k).2)) .nil))]) (λk=>k<=l.length) (λk=>l.length-k))
 | _=>none
abbrev yn4:qb7:=qf1 true none [qg0,qe9] [q0e] (λx=>x2h x.1 x.2.1) (λx=>(qz8 x.1 x.2.1 x.1.length,()))
theorem w96:Meets Tryz.prog 68 yn4:=by
 refine meets (yg2 (SpecsOk.cons ws1 (SpecsOk.cons q95 (SpecsOk.cons q97 (SpecsOk.nil _)))) ItsOk.nil (BxsOk.cons q96 BxsOk.nil)) Tryz.func68 rfl rfl (λx=>yn3 x.1 x.2.1) (λ_=>by kernel_rfl) (by decide) ?_
 rintro⟨l,p,⟨⟩⟩ h
 revert l p
 intro(l:List (List Int)) (p:List Int) (h:x2h l p)
 refine @qd1 _ (True/\∃(v0:Unit),∃(v1:Nat),Nat.le v1 l.length/\(((0:Int)=(↑v1:Int)/\True)/\((0:Int)=(0:Int)/\(0:Int)=(0:Int)/\True)/\((0:Int)=(qz8 l p v1).1/\(1:Int)=(qz8 l p v1).2/\True)/\True)/\∀(v2:Nat),Nat.le v2 l.length->(decide ((↑v2:Int)<(↑l.length:Int))=true->((0:Int)<=(↑v2:Int)/\(↑v2:Int)<(↑l.length:Int))/\xf3 (nL l v2) p/\(q0f ((qz8 l p v2).1,(qz8 l p v2).2)/\q0f ((shR (nL l v2) p).1,(shR (nL l v2) p).2))/\fits .i64 ((↑v2:Int)+(1:Int))/\∃(v5:Nat),Nat.le v5 l.length/\l.length-v5<l.length-v2/\((↑v2:Int)+(1:Int)=(↑v5:Int)/\True)/\((0:Int)=(0:Int)/\(0:Int)=(0:Int)/\True)/\((wj8 ((qz8 l p v2).1,(qz8 l p v2).2) ((shR (nL l v2) p).1,(shR (nL l v2) p).2)).1=(qz8 l p v5).1/\(wj8 ((qz8 l p v2).1,(qz8 l p v2).2) ((shR (nL l v2) p).1,(shR (nL l v2) p).2)).2=(qz8 l p v5).2/\True)/\True)/\(decide ((↑v2:Int)<(↑l.length:Int))=false->True/\(qz8 l p v2).1=(qz8 l p l.length).1/\(qz8 l p v2).2=(qz8 l p l.length).2/\True)) (by kernel_rfl) ?_
 try simp only[z0,z1,z2,z3,z4,z5,z6,z7,z8,z9,z10,Int.reduceEq,z11,z12,z13,z14,z15,z16,z17,z18,z19,z20,z21,z22,z23,z24,z25,z26,z27,z28,z29,z30,Int.reduceLE,Int.reduceLT,z31,z32,z33,z34,qa1]
 try simp only[qa7,qa8,qb8,z31,z32,z2,z1]
 have hl:=h.len
 refine⟨(),0,Nat.zero_le _,⟨rfl,rfl,rfl⟩,λk hk=>⟨λhlt=>⟨hlt,h.ok k hlt,⟨qz9 h k hk,q7y (h.ok k hlt)⟩,qb5 (by omega) (by omega),k+1,hlt,by omega,by push_cast; rfl,rfl,rfl⟩,λhge=>?_⟩⟩
 obtain rfl:k=l.length:=by omega
 exact⟨rfl,rfl⟩
abbrev yn5:qb7:=qf1 false none [qg0] [qg0] (λx=>qa9 x.1=true->q2v x.1) (λx=>((qi1 x.1).1,()))
theorem q98:Meets Tryz.prog 66 yn5:=by
 refine meets (snd (SpecsOk.cons wp6 (SpecsOk.nil _))) Tryz.func66 rfl rfl (λ_ _=>none) (λ_=>by kernel_rfl) (by decide) ?_
 rintro⟨m,⟨⟩⟩ h
 revert m
 intro(m:List (List Int)) (h:qa9 m=true->q2v m)
 refine @qd1 _ ((qa9 m=true->q2v m)/\(qi1 m).1=(qi1 m).1) (by kernel_rfl) ?_
 try simp only[z0,z1,z2,z3,z4,z5,z6,z7,z8,z9,z10,Int.reduceEq,z11,z12,z13,z14,z15,z16,z17,z18,z19,z20,z21,z22,z23,z24,z25,z26,z27,z28,z29,z30,Int.reduceLE,Int.reduceLT,z31,z32,z33,z34,qa1]
 try simp only[qa7,qa8,qb8,z31,z32,z2,z1]
 exact h
def ofE (m:List (List Int)) (p:List Int):Int:=w19 m p
def ofQ (m:List (List Int)) (p:List Int):Int × Int:=if w19 m p=0 then qz8 (qi1 m).1 p (qi1 m).1.length else(0,0)
def swp (l:List Int) (j:Nat):List Int:=(l.set (j+1) (nI l j)).set j (nI l (j+1))
def q1a (f:Int->Int->Int):Nat->List Int->List Int
 | 0,l=>l
 | j+1,l=>if f (nI l (j+1)) (nI l j)<0 then q1a f j (swp l j) else l
def q0a (f:Int->Int->Int) (l:List Int):Nat->List Int
 | 0=>l
 | k+1=>q1a f (k+1) (q0a f l k)
def insL (f:Int->Int->Int) (l:List Int):List Int:=q0a f l (l.length-1)
theorem wh3 (l:List Int) (j:Nat):(swp l j).length=l.length:=by simp[swp]
theorem q4y {l:List Int} {i:Nat} (h:i<l.length):nI l i∈l:=by rw[qg5 l i h]; exact List.getElem_mem h
theorem w97 {l:List Int} {j:Nat} (h:j+1<l.length):∀x∈swp l j,x∈l:=λx hx=>by
 unfold swp at hx
 rcases List.mem_or_eq_of_mem_set hx with hx | rfl
 ·rcases List.mem_or_eq_of_mem_set hx with hx | rfl
  ·exact hx
  ·exact q4y (by omega)
 ·exact q4y h
theorem ws3 (f:Int->Int->Int):∀(j:Nat) (l:List Int),j<l.length->(q1a f j l).length=l.length/\∀x∈q1a f j l,x∈l
 | 0,l,_=>⟨rfl,λx hx=>hx⟩
 | j+1,l,h=>by
  rw[q1a]
  split
  ·have:=ws3 f j (swp l j) (by rw[wh3]; omega)
   exact⟨this.1.trans (wh3 l j),λx hx=>w97 h x (this.2 x hx)⟩
  ·exact⟨rfl,λx hx=>hx⟩
theorem q14 (f:Int->Int->Int) (l:List Int):∀k,k<l.length\/k=0->(q0a f l k).length=l.length/\∀x∈q0a f l k,x∈l
 | 0,_=>⟨rfl,λx hx=>hx⟩
 | k+1,h=>by
  have h1:=q14 f l k (by omega)
  have h2:=ws3 f (k+1) (q0a f l k) (by omega)
  exact⟨h2.1.trans h1.1,λx hx=>h1.2 x (h2.2 x hx)⟩
theorem xo3 (f:Int->Int->Int) (l:List Int) {i:Nat} (h:1<=i):q1a f i (q0a f l (i-1))=q0a f l i:=by
 cases i with
 | zero=>omega
 | succ i=>rfl
abbrev x9v:PTy:=.fn [qc8,qc8] qc8
abbrev fn2 (g:qa4 [qc8,qc8]->Int) (x y:Int):Int:=g (x,y,())
structure wh4 (l:List Int) (p:qa4 [qc8,qc8]->Prop):Prop where
 len:l.length<=19
 ok:∀x∈l,∀y∈l,p (x,y,())
structure xo4 (f:Int->Int->Int) (l:List Int) (i j:Nat) (r:List Int):Prop where
 le:j<=i
 len:r.length=l.length
 sub:∀x∈r,x∈l
 eq:q1a f j r=q0a f l i
def x9w (T:q5k) (l:List Int) (f:Int->Int->Int):Nat->Option Inv
 | 0=>some (Inv.of [0,8] 1 (λi:Nat=>[(0,.msl 0 (some 0)),(8,.lit (.int .i64 i))]) (λi=>[.mat 0 3 (.int .i64) [q0a f l (i-1)] (some []) (some T)]) (λi=>1<=i/\(i<=l.length\/i=1)) (λi=>l.length-i))
 | 1=>some (Eng.Inv.mk Nat (Nat × List Int) [0,9] 1 (λ_ s=>[(0,.msl 0 (some 0)),(9,.lit (.int .i64 s.1))]) (λ_ s=>[.mat 0 3 (.int .i64) [s.2] (some []) (some T)]) (λi s=>xo4 f l i s.1 s.2) (λ_ s=>s.1))
 | _=>none
abbrev yn6:qm0:=q5q (wn7 [] [.d qc8,.d qc8,x9v]) false false 0 3 (.int .i64) (λrows x=>x.1=0/\x.2.1=(nL rows 0).length/\wh4 (nL rows 0) x.2.2.1.1) (λ_ _=>.tup .nil) (λrows x=>[insL (fn2 x.2.2.1.2) (nL rows 0)])
theorem w98:qo0 Tryz.prog 257 yn6:=by
 refine q04 (x3u (SpecsOk.nil _) MutsOk.nil) Tryz.func257 rfl rfl (q3m (SpecsOk.nil _) _) (λT rows x=>x9w T (nL rows 0) (fn2 x.2.2.1.2)) (λ_ _ _=>by kernel_rfl) (by decide) ?_ rfl
 rintro T rows ⟨a,b,⟨p,g⟩,⟨⟩⟩ h hone
 obtain⟨l,rfl⟩:∃l:List Int,rows=[l]:=by
  have h1:=hone rfl
  match rows,h1 with
  | [l],_=>exact⟨l,rfl⟩
 have h:a=0/\b=l.length/\wh4 l p:=h
 obtain⟨rfl,rfl,hs⟩:=h
 refine @qd1 _ (fits .i64 ((0:PTy.den (PTy.d qc8))+(1:Int))/\∃(v0:Unit),∃(v1:Nat),((1:Nat)<=v1/\(v1<=(nL [l] (0:Nat)).length\/v1=(1:Nat)))/\((some (0:Nat)=some (0:Nat)/\(0:PTy.den (PTy.d qc8))+(1:Int)=(↑v1:Int)/\True)/\([l]=[q0a (fn2 g) (nL [l] (0:Nat)) (v1-(1:Nat))]/\True/\T=T)/\True)/\∀(v2:Nat),(1:Nat)<=v2/\(v2<=(nL [l] (0:Nat)).length\/v2=(1:Nat))->(decide ((↑v2:Int)<(↑l.length:PTy.den (PTy.d qc8)))=true->∃(v5:Nat),∃(v6:Nat × List Int),xo4 (fn2 g) (nL [l] (0:Nat)) v5 v6.1 v6.2/\((some (0:Nat)=some (0:Nat)/\(↑v2:Int)=(↑v6.1:Int)/\True)/\([q0a (fn2 g) (nL [l] (0:Nat)) (v2-(1:Nat))]=[v6.2]/\True/\T=T)/\True)/\∀(v7:Nat × List Int),xo4 (fn2 g) (nL [l] (0:Nat)) v5 v7.1 v7.2->(decide ((0:PTy.den (PTy.d qc8))<(↑v7.1:Int))=true->((0:Int)<=(↑v7.1:Int)/\(↑v7.1:Int)<(↑(nL [v7.2] (0:Nat)).length:Int))/\(↑v7.1:Int).toNat<(nL [v7.2] (0:Nat)).length/\fits .i64 ((↑v7.1:Int)-(1:Int))/\((0:Int)<=(↑v7.1:Int)-(1:Int)/\(↑v7.1:Int)-(1:Int)<(↑(nL [v7.2] (0:Nat)).length:Int))/\((↑v7.1:Int)-(1:Int)).toNat<(nL [v7.2] (0:Nat)).length/\p (nI (nL [v7.2] (0:Nat)) (↑v7.1:Int).toNat,nI (nL [v7.2] (0:Nat)) ((↑v7.1:Int)-(1:Int)).toNat,())/\(decide (g (nI (nL [v7.2] (0:Nat)) (↑v7.1:Int).toNat,nI (nL [v7.2] (0:Nat)) ((↑v7.1:Int)-(1:Int)).toNat,())<(0:Int))=true->fits .i64 ((↑v7.1:Int)-(1:Int))/\fits .i64 ((↑v7.1:Int)-(1:Int))/\((0:Int)<=(↑v7.1:Int)-(1:Int)/\(↑v7.1:Int)-(1:Int)<(↑(nL [v7.2] (0:Nat)).length:Int))/\((↑v7.1:Int)-(1:Int)).toNat<(nL [v7.2] (0:Nat)).length/\((0:Int)<=(↑v7.1:Int)/\(↑v7.1:Int)<(↑(nL [v7.2] (0:Nat)).length:Int))/\(↑v7.1:Int).toNat<(nL [v7.2] (0:Nat)).length/\((0:Int)<=(↑v7.1:Int)/\(↑v7.1:Int)<(↑(nL [v7.2] (0:Nat)).length:Int))/\(↑v7.1:Int).toNat<(nL [v7.2] (0:Nat)).length/\((0:Int)<=(↑v7.1:Int)-(1:Int)/\(↑v7.1:Int)-(1:Int)<(↑(nL (List.set [v7.2] (0:Nat) (List.set (nL [v7.2] (0:Nat)) (↑v7.1:Int).toNat (nI (nL [v7.2] (0:Nat)) ((↑v7.1:Int)-(1:Int)).toNat))) (0:Nat)).length:Int))/\((↑v7.1:Int)-(1:Int)).toNat<(nL (List.set [v7.2] (0:Nat) (List.set (nL [v7.2] (0:Nat)) (↑v7.1:Int).toNat (nI (nL [v7.2] (0:Nat)) ((↑v7.1:Int)-(1:Int)).toNat))) (0:Nat)).length/\fits .i64 ((↑v7.1:Int)-(1:Int))/\∃(v11:Nat × List Int),xo4 (fn2 g) (nL [l] (0:Nat)) v5 v11.1 v11.2/\v11.1<v7.1/\(some (0:Nat)=some (0:Nat)/\(↑v7.1:Int)-(1:Int)=(↑v11.1:Int)/\True)/\(List.set (List.set [v7.2] (0:Nat) (List.set (nL [v7.2] (0:Nat)) (↑v7.1:Int).toNat (nI (nL [v7.2] (0:Nat)) ((↑v7.1:Int)-(1:Int)).toNat))) (0:Nat) (List.set (nL (List.set [v7.2] (0:Nat) (List.set (nL [v7.2] (0:Nat)) (↑v7.1:Int).toNat (nI (nL [v7.2] (0:Nat)) ((↑v7.1:Int)-(1:Int)).toNat))) (0:Nat)) ((↑v7.1:Int)-(1:Int)).toNat (nI (nL [v7.2] (0:Nat)) (↑v7.1:Int).toNat))=[v11.2]/\True/\T=T)/\True)/\(decide (g (nI (nL [v7.2] (0:Nat)) (↑v7.1:Int).toNat,nI (nL [v7.2] (0:Nat)) ((↑v7.1:Int)-(1:Int)).toNat,())<(0:Int))=false->fits .i64 ((↑v2:Int)+(1:Int))/\∃(v11:Nat),((1:Nat)<=v11/\(v11<=(nL [l] (0:Nat)).length\/v11=(1:Nat)))/\(nL [l] (0:Nat)).length-v11<(nL [l] (0:Nat)).length-v2/\(some (0:Nat)=some (0:Nat)/\(↑v2:Int)+(1:Int)=(↑v11:Int)/\True)/\([v7.2]=[q0a (fn2 g) (nL [l] (0:Nat)) (v11-(1:Nat))]/\True/\T=T)/\True))/\(decide ((0:PTy.den (PTy.d qc8))<(↑v7.1:Int))=false->fits .i64 ((↑v2:Int)+(1:Int))/\∃(v10:Nat),((1:Nat)<=v10/\(v10<=(nL [l] (0:Nat)).length\/v10=(1:Nat)))/\(nL [l] (0:Nat)).length-v10<(nL [l] (0:Nat)).length-v2/\(some (0:Nat)=some (0:Nat)/\(↑v2:Int)+(1:Int)=(↑v10:Int)/\True)/\([v7.2]=[q0a (fn2 g) (nL [l] (0:Nat)) (v10-(1:Nat))]/\True/\T=T)/\True))/\(decide ((↑v2:Int)<(↑l.length:PTy.den (PTy.d qc8)))=false->[q0a (fn2 g) (nL [l] (0:Nat)) (v2-(1:Nat))]=[insL (fn2 g) (nL [l] (0:Nat))]/\T=T/\True/\True)) (by kernel_rfl) ?_
 try simp only[z0,z1,z2,z3,z4,z5,z6,z7,z8,z9,z10,Int.reduceEq,z11,z12,z13,z14,z15,z16,z17,z18,z19,z20,z21,z22,z23,z24,z25,z26,z27,z28,z29,z30,Int.reduceLE,Int.reduceLT,z31,z32,z33,z34,qa1]
 try simp only[qa7,qa8,qb8,z31,z32,z2,z1]
 have hl:=hs.len
 refine⟨qb5 (by decide) (by decide),(),1,⟨Nat.le_refl _,.inr rfl⟩,⟨rfl,rfl⟩,λi hi=>⟨λhlt=>?_,λhge=>?_⟩⟩
 ·have k1:=q14 (fn2 g) l (i-1) (by omega)
  refine⟨i,(i,q0a (fn2 g) l (i-1)),⟨Nat.le_refl _,k1.1,k1.2,?_⟩,⟨rfl,rfl⟩,?_⟩
  ·exact xo3 _ _ hi.1
  rintro⟨j,r⟩ ⟨h1,h2,h3,h4⟩
  dsimp only at h1 h2 h3 h4 ⊢
  have fin:j=0\/r=q0a (fn2 g) l i->fits IntKind.i64 (↑i+1)/\∃v11,(1<=v11/\(v11<=l.length\/v11=1))/\l.length-v11<l.length-i/\(↑i+1:Int)=↑v11/\r=q0a (fn2 g) l (v11-1):=λq=>by
   refine⟨qb5 (by omega) (by omega),i+1,⟨by omega,.inl (by omega)⟩,by omega,by omega,?_⟩
   rcases q with rfl | q
   ·exact h4
   ·exact q
  refine⟨λh0=>?_,λh0=>fin (.inl (by have h0:(j:Int)<=0:=h0; omega))⟩
  have h0:0<(j:Int):=h0
  obtain⟨q,rfl⟩:∃q,j=q+1:=⟨j-1,by omega⟩
  have e:(((q+1:Nat):Int)-1).toNat=q:=by omega
  have m1:=h3 _ (q4y (l:=r) (i:=q+1) (by omega))
  have m2:=h3 _ (q4y (l:=r) (i:=q) (by omega))
  rw[e]
  refine⟨by omega,by omega,qb5 (by omega) (by omega),⟨by omega,by omega⟩,by omega,hs.ok _ m1 _ m2,λhc=>?_,λhc=>fin (.inr ?_)⟩
  ·refine⟨qb5 (by omega) (by omega),qb5 (by omega) (by omega),⟨by omega,by omega⟩,by omega,by omega,by omega,by omega,by omega,⟨by omega,by rw[List.length_set]; omega⟩,by rw[List.length_set]; omega,qb5 (by omega) (by omega),(q,swp r q),⟨by dsimp only; omega,(wh3 r q).trans h2,λx hx=>h3 x (w97 (by omega) x hx),?_⟩,by dsimp only; omega,by push_cast; omega,rfl⟩
   rw[q1a,if_pos hc] at h4
   exact h4
  ·rw[q1a,if_neg (Int.not_lt.2 hc)] at h4
   exact h4
 ·unfold insL
  congr 1
  omega
abbrev yn7:qm0:=q5q (wn7 [] [.d qc8,x9v]) false false 0 3 (.int .i64) (λrows x=>x.1=(nL rows 0).length/\wh4 (nL rows 0) x.2.1.1) (λ_ _=>.tup .nil) (λrows x=>[insL (fn2 x.2.1.2) (nL rows 0)])
def x9y (T:q5k) (l r:List Int):Nat->Option Inv
 | 0=>some (Inv.of [0,7,8] 1 (λ_:Unit=>[(0,.msl 0 (some 0)),(7,.lit (.int .i64 0)),(8,.lit (.int .i64 20))]) (λ_=>[.mat 0 3 (.int .i64) [l] (some []) (some T)]) (λ_=>True) (λ_=>0))
 | 1=>some (Inv.of [0,6] 1 (λ_:Unit=>[(0,.msl 0 (some 0)),(6,.lit (.int .i64 20))]) (λ_=>[.mat 0 3 (.int .i64) [r] (some []) (some T)]) (λ_=>True) (λ_=>0))
 | 2=>some (Inv.of [] 0 (λ_:Unit=>[]) (λ_=>[]) (λ_=>True) (λ_=>0))
 | _=>none
theorem w99:qo0 Tryz.prog 256 yn7:=by
 refine q04 (x3u (SpecsOk.nil _) (MutsOk.cons w98 MutsOk.nil)) Tryz.func256 rfl rfl (q3m (SpecsOk.nil _) _) (λT rows x=>x9y T (nL rows 0) (insL (fn2 x.2.1.2) (nL rows 0))) (λ_ _ _=>by kernel_rfl) (by decide) ?_ rfl
 rintro T rows ⟨a,⟨p,g⟩,⟨⟩⟩ h hone
 obtain⟨l,rfl⟩:∃l:List Int,rows=[l]:=by
  have h1:=hone rfl
  match rows,h1 with
  | [l],_=>exact⟨l,rfl⟩
 have h:a=l.length/\wh4 l p:=h
 obtain⟨rfl,hs⟩:=h
 refine @qd1 _ (∃(v0:Unit),∃(v1:Unit),True/\((some (0:Nat)=some (0:Nat)/\(0:Int)=(0:Int)/\(20:Int)=(20:Int)/\True)/\([l]=[nL [l] (0:Nat)]/\True/\T=T)/\True)/\∀(x:Unit),True->(decide ((20:Int)<=(↑l.length:PTy.den (PTy.d qc8)))=true->∃(v5:qa4 [qc8,qc8]->Prop),∃(v6:qa4 [qc8,qc8]->Int),([qc8,qc8]=[qc8,qc8]/\qc8=qc8/\p ≍ v5/\g ≍ v6)/\((0:Int)=(0:PTy.den (PTy.d qc8))/\(20:Int)=(↑(nL [nL [nL [l] (0:Nat)] (0:Nat)] (0:Nat)).length:PTy.den (PTy.d qc8))/\wh4 (nL [nL [nL [l] (0:Nat)] (0:Nat)] (0:Nat)) v5)/\fits .i64 (40:Int)/\∃(v7:Unit),True/\(0:Nat)<(0:Nat)/\(some (0:Nat)=some (0:Nat)/\(20:Int)=(0:Int)/\(40:Int)=(20:Int)/\True)/\(List.set [nL [l] (0:Nat)] (0:Nat) (nL [insL (fn2 v6) (nL [nL [nL [l] (0:Nat)] (0:Nat)] (0:Nat))] (0:Nat))=[nL [l] (0:Nat)]/\True/\T=T)/\True)/\(decide ((20:Int)<=(↑l.length:PTy.den (PTy.d qc8)))=false->∃(v5:qa4 [qc8,qc8]->Prop),∃(v6:qa4 [qc8,qc8]->Int),([qc8,qc8]=[qc8,qc8]/\qc8=qc8/\p ≍ v5/\g ≍ v6)/\((0:Int)=(0:PTy.den (PTy.d qc8))/\(↑l.length:PTy.den (PTy.d qc8))=(↑(nL [nL [nL [l] (0:Nat)] (0:Nat)] (0:Nat)).length:PTy.den (PTy.d qc8))/\wh4 (nL [nL [nL [l] (0:Nat)] (0:Nat)] (0:Nat)) v5)/\∃(v7:Unit),∃(v8:Unit),True/\((some (0:Nat)=some (0:Nat)/\(20:Int)=(20:Int)/\True)/\(List.set [nL [l] (0:Nat)] (0:Nat) (nL [insL (fn2 v6) (nL [nL [nL [l] (0:Nat)] (0:Nat)] (0:Nat))] (0:Nat))=[insL (fn2 g) (nL [l] (0:Nat))]/\True/\T=T)/\True)/\∀(x:Unit),True->(decide ((20:Int)<(↑l.length:PTy.den (PTy.d qc8)))=true->fits .i64 (40:Int)/\∃(v12:Unit),∃(v13:Unit),True/\(True/\True)/\∀(x:Unit),True->False)/\(decide ((20:Int)<(↑l.length:PTy.den (PTy.d qc8)))=false->[insL (fn2 g) (nL [l] (0:Nat))]=[insL (fn2 g) (nL [l] (0:Nat))]/\T=T/\True/\True))) (by kernel_rfl) ?_
 try simp only[z0,z1,z2,z3,z4,z5,z6,z7,z8,z9,z10,Int.reduceEq,z11,z12,z13,z14,z15,z16,z17,z18,z19,z20,z21,z22,z23,z24,z25,z26,z27,z28,z29,z30,Int.reduceLE,Int.reduceLT,z31,z32,z33,z34,qa1]
 try simp only[qa7,qa8,qb8,z31,z32,z2,z1]
 have hl:=hs.len
 refine⟨(),(),λ_=>⟨λh20=>absurd h20 (by omega),λ_=>⟨p,g,⟨HEq.rfl,HEq.rfl⟩,hs,(),(),rfl,λ_ h20=>absurd h20 (by omega)⟩⟩⟩
abbrev yn8:qm0:=q5q (wn7 [] [x9v]) false false 0 3 (.int .i64) (λrows x=>wh4 (nL rows 0) x.1.1) (λ_ _=>.tup .nil) (λrows x=>[insL (fn2 x.1.2) (nL rows 0)])
theorem w51:qo0 Tryz.prog 251 yn8:=by
 refine q04 (x3u (SpecsOk.nil _) (MutsOk.cons w99 MutsOk.nil)) Tryz.func251 rfl rfl (q3m (SpecsOk.nil _) _) (λ_ _ _ _=>none) (λ_ _ _=>by kernel_rfl) (by decide) ?_ rfl
 rintro T rows ⟨⟨p,g⟩,⟨⟩⟩ h hone
 obtain⟨l,rfl⟩:∃l:List Int,rows=[l]:=by
  have h1:=hone rfl
  match rows,h1 with
  | [l],_=>exact⟨l,rfl⟩
 have hs:wh4 l p:=h
 refine @qd1 _ (∃(v0:qa4 [qc8,qc8]->Prop),∃(v1:qa4 [qc8,qc8]->Int),([qc8,qc8]=[qc8,qc8]/\qc8=qc8/\p ≍ v0/\g ≍ v1)/\((↑(nL [l] (0:Nat)).length:Int)=(↑(nL [nL [l] (0:Nat)] (0:Nat)).length:PTy.den (PTy.d qc8))/\wh4 (nL [nL [l] (0:Nat)] (0:Nat)) v0)/\List.set [l] (0:Nat) (nL [insL (fn2 v1) (nL [nL [l] (0:Nat)] (0:Nat))] (0:Nat))=[insL (fn2 g) (nL [l] (0:Nat))]/\T=T/\True/\True) (by kernel_rfl) ?_
 try simp only[z0,z1,z2,z3,z4,z5,z6,z7,z8,z9,z10,Int.reduceEq,z11,z12,z13,z14,z15,z16,z17,z18,z19,z20,z21,z22,z23,z24,z25,z26,z27,z28,z29,z30,Int.reduceLE,Int.reduceLT,z31,z32,z33,z34,qa1]
 try simp only[qa7,qa8,qb8,z31,z32,z2,z1]
 exact⟨p,g,⟨HEq.rfl,HEq.rfl⟩,hs,rfl⟩
def q5s (h:List Int) (x y:Int):Int:=q1y (nI h y.toNat)-q1y (nI h x.toNat)
abbrev x5b:qb7:=hspec [] true none [.d qc8,.d qc8,.cap qe9] [qc8] (λx=>HOk x.2.2.1/\(0<=x.1/\x.1<x.2.2.1.length)/\0<=x.2.1/\x.2.1<x.2.2.1.length) (λx=>(q5s x.2.2.1 x.1 x.2.1,()))
theorem w52:Meets Tryz.prog 252 x5b:=by
 refine qm7 (SpecsOk.nil _) (snd (SpecsOk.cons q2w (SpecsOk.nil _))) Tryz.func252 rfl rfl (λ_ _=>none) (λ_=>by kernel_rfl) (by decide) ?_
 rintro⟨a,b,h,⟨⟩⟩ hh
 revert a b h
 intro(a:Int) (b:Int) (h:List Int) (hh:HOk h/\(0<=a/\a<h.length)/\0<=b/\b<h.length)
 refine @qd1 _ (((0:Int)<=b/\b<(↑h.length:Int))/\qf8 (1000000000:Int) (nI h b.toNat)/\((0:Int)<=a/\a<(↑h.length:Int))/\qf8 (1000000000:Int) (nI h a.toNat)/\fits .i64 (q1y (nI h b.toNat)-q1y (nI h a.toNat))/\q1y (nI h b.toNat)-q1y (nI h a.toNat)=q5s h a b) (by kernel_rfl) ?_
 try simp only[z0,z1,z2,z3,z4,z5,z6,z7,z8,z9,z10,Int.reduceEq,z11,z12,z13,z14,z15,z16,z17,z18,z19,z20,z21,z22,z23,z24,z25,z26,z27,z28,z29,z30,Int.reduceLE,Int.reduceLT,z31,z32,z33,z34,qa1]
 try simp only[qa7,qa8,qb8,z31,z32,z2,z1]
 have h1:=hh.1.sm a.toNat
 have h2:=hh.1.sm b.toNat
 have h3:q1y (nI h a.toNat)=(nI h a.toNat).natAbs:=rfl
 have h4:q1y (nI h b.toNat)=(nI h b.toNat).natAbs:=rfl
 unfold qf8 at *
 exact⟨hh.2.2,⟨by omega,by omega⟩,hh.2.1,⟨by omega,by omega⟩,qb5 (by omega) (by omega),rfl⟩
def q7z (h:List Int) (k:Nat):List Int:=((insL (q5s h) (ql7 h.length)).take k).mergeSort λx y=>decide (x<=y)
structure xo5 (h:List Int) (k:Int):Prop where
 ok:HOk h
 len:h.length<=19
 pos:1<=h.length
 k0:0<=k
 k1:k<=h.length
abbrev yn9:qb7:=qf1 true none [qe9,qc8] [qe9] (λx=>xo5 x.1 x.2.1) (λx=>(q7z x.1 x.2.1.toNat,()))
end Go.Proofs.YtmijnbjlhnpokaaGreat
