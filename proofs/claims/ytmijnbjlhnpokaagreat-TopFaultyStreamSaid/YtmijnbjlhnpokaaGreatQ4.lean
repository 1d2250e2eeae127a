/- Shares of a mask for some pixels: contracts by the engine. No condition. -/
import Derived.Test.YtmijnbjlhnpokaaGreatQ1
import Derived.Test.YtmijnbjlhnpokaaGreatV22
import Derived.Test.YtmijnbjlhnpokaaGreatEngU
set_option linter.unusedVariables false
set_option linter.unusedSimpArgs false
namespace Go.Proofs.YtmijnbjlhnpokaaGreat
open Go Go.RowKit Eng
def BxsOk (bxs:List (Nat × q34)):Prop:=∀f B,find bxs f=some B->q3d Tryz.prog f B
theorem BxsOk.nil:BxsOk []:=λf M h=>by cases h
theorem BxsOk.cons {f:Nat} {B:q34} {l:List (Nat × q34)} (h:q3d Tryz.prog f B) (k:BxsOk l):BxsOk ((f,B) :: l):=by
 intro g S hg
 simp only[find] at hg
 split at hg
 ·rename_i e; obtain rfl:=Nat.eq_of_beq_eq_true e; injection hg with hg; rw[<- hg]; exact h
 ·exact k g S hg
def yn5 (specs:List (Nat × qb4)) (its:List (Nat × qw1)) (bxs:List (Nat × q34)):Ctx:={ specs:=specs,tys:=tys,wr:=[],its:=its,bxs:=bxs }
theorem yn6 {specs:List (Nat × qb4)} {its:List (Nat × qw1)} {bxs:List (Nat × q34)} (h:SpecsOk Tryz.prog specs) (hi:ItsOk its) (hb:BxsOk bxs):Sound Tryz.prog (yn5 specs its bxs):=SpecsOk.sound h q0x (by kernel_rfl) hi (hbx:=hb)
def q4n (x:Int):Int:=(x.natAbs:Int)
theorem xl5 (x:Int):max x (0-x)=q4n x:=by unfold q4n; omega
def we7 (h:List Int):Nat->Int
 | 0=>0
 | k+1=>we7 h k+q4n (nI h k)
def szL (h:List Int):Int:=we7 h h.length
def qv6 (h pix:List Int):Nat->Int
 | 0=>0
 | k+1=>qv6 h pix k+q4n (nI h (nI pix k).toNat)
def inL (h pix:List Int):Int:=qv6 h pix pix.length
structure HOk (h:List Int):Prop where
 len:h.length<=100
 sm:∀i,qf0 1000000 (nI h i)
theorem q4o {h:List Int} (hh:HOk h):∀k,0<=we7 h k/\we7 h k<=1000000*k
 | 0=>⟨Int.le_refl _,by simp[we7]⟩
 | k+1=>by
  have h1:=q4o hh k
  have h2:=hh.sm k
  unfold qf0 at h2
  rw[we7]; unfold q4n; omega
theorem q4p {h pix:List Int} (hh:HOk h):∀k,0<=qv6 h pix k/\qv6 h pix k<=1000000*k
 | 0=>⟨Int.le_refl _,by simp[qv6]⟩
 | k+1=>by
  have h1:=q4p (pix:=pix) hh k
  have h2:=hh.sm (nI pix k).toNat
  unfold qf0 at h2
  rw[qv6]; unfold q4n; omega
abbrev x9w:qb4:=qf2 true none [qd0] [qd0] (λx=>qf0 1000000000 x.1) (λx=>(q4n x.1,()))
theorem q2t:Meets Tryz.prog 187 x9w:=by
 refine meets (snd (SpecsOk.nil _)) Tryz.func187 rfl rfl (λ_ _=>none) (λ_=>by kernel_rfl) (by decide) ?_
 rintro⟨x,⟨⟩⟩ h
 revert x
 intro(x:Int) (h:qf0 1000000000 x)
 refine @qd1 _ (fits .i64 ((0:Int)-x)/\max2 true x ((0:Int)-x)=q4n x) (by kernel_rfl) ?_
 try simp only[z0,z1,z2,z3,z4,z5,z6,z7,z8,z9,z10,Int.reduceEq,z11,z12,z13,z14,z15,z16,z17,z18,z19,z20,z21,z22,z23,z24,z25,z26,z27,z28,z29,z30,Int.reduceLE,Int.reduceLT,z31,z32,z33,z34,qa1]
 try simp only[qa7,qa8,qb5,z31,z32,z2,z1]
 unfold qf0 at h
 exact⟨qb8 (by omega) (by omega),xl5 x⟩
def yn7 (h:List Int):Nat->Option Inv
 | 0=>some (Inv.of [3,8] 0 (λk:Nat=>[(3,.lit (.int .i64 (we7 h k))),(8,.lit (.int .i64 k))]) (λ_=>[]) (λk=>k<=h.length) (λk=>h.length-k))
 | _=>none
abbrev x4v:qb4:=qf2 true none [qe8] [qd0] (λx=>HOk x.1) (λx=>(szL x.1,()))
theorem wq6:Meets Tryz.prog 188 x4v:=by
 refine meets (snd (SpecsOk.cons q2t (SpecsOk.nil _))) Tryz.func188 rfl rfl (λx=>yn7 x.1) (λ_=>by kernel_rfl) (by decide) ?_
 rintro⟨h,⟨⟩⟩ hh
 revert h
 intro(h:List Int) (hh:HOk h)
 refine @qd1 _ (∃(v0:Unit),∃(v1:Nat),Nat.le v1 h.length/\(((0:Int)=we7 h v1/\(0:Int)=(↑v1:Int)/\True)/\True)/\∀(v2:Nat),Nat.le v2 h.length->(decide ((↑v2:Int)<(↑h.length:Int))=true->((0:Int)<=(↑v2:Int)/\(↑v2:Int)<(↑h.length:Int))/\qf0 (1000000000:Int) (nI h v2)/\fits .i64 (we7 h v2+q4n (nI h v2))/\fits .i64 ((↑v2:Int)+(1:Int))/\∃(v5:Nat),Nat.le v5 h.length/\h.length-v5<h.length-v2/\(we7 h v2+q4n (nI h v2)=we7 h v5/\(↑v2:Int)+(1:Int)=(↑v5:Int)/\True)/\True)/\(decide ((↑v2:Int)<(↑h.length:Int))=false->we7 h v2=szL h)) (by kernel_rfl) ?_
 try simp only[z0,z1,z2,z3,z4,z5,z6,z7,z8,z9,z10,Int.reduceEq,z11,z12,z13,z14,z15,z16,z17,z18,z19,z20,z21,z22,z23,z24,z25,z26,z27,z28,z29,z30,Int.reduceLE,Int.reduceLT,z31,z32,z33,z34,qa1]
 try simp only[qa7,qa8,qb5,z31,z32,z2,z1]
 have hl:=hh.len
 refine⟨(),0,Nat.zero_le _,⟨rfl,rfl⟩,λk hk=>⟨λhlt=>?_,λhge=>?_⟩⟩
 ·have h1:=q4o hh k
  have h2:=q4o hh (k+1)
  have h3:=hh.sm k
  unfold qf0 at h3
  have e:we7 h k+q4n (nI h k)=we7 h (k+1):=rfl
  exact⟨hlt,by unfold qf0; omega,qb8 (by omega) (by omega),qb8 (by omega) (by omega),k+1,hlt,by omega,e,by push_cast; rfl⟩
 ·obtain rfl:k=h.length:=by omega
  rfl
def shR (h pix:List Int):Int × Int:=ofR (inL h pix) (szL h)
structure x0q (h pix:List Int):Prop where
 ok:HOk h
 len:pix.length<=100
 at_:∀j,j<pix.length->0<=nI pix j/\nI pix j<h.length
 ne:szL h≠0
def x9y (h pix:List Int):Nat->Option Inv
 | 0=>some (Inv.of [5,10] 1 (λk:Nat=>[(5,.lit (.int .i64 (qv6 h pix k))),(10,.lit (.int .i64 k))]) (λ_=>[.box 60 (.cons (.lit (.int .i64 0)) (.cons (.lit (.int .i64 0)) .nil))]) (λk=>k<=pix.length) (λk=>pix.length-k))
 | _=>none
abbrev yn8:qb4:=qf2 true none [qe8,qe8] [q0a] (λx=>x0q x.1 x.2.1) (λx=>(shR x.1 x.2.1,()))
theorem w5b:Meets Tryz.prog 126 yn8:=by
 refine meets (snd (SpecsOk.cons q2t (SpecsOk.cons wq6 (SpecsOk.cons w1o (SpecsOk.nil _))))) Tryz.func126 rfl rfl (λx=>x9y x.1 x.2.1) (λ_=>by kernel_rfl) (by decide) ?_
 rintro⟨h,p,⟨⟩⟩ hh
 revert h p
 intro(h:List Int) (p:List Int) (hh:x0q h p)
 refine @qd1 _ (∃(v0:Unit),∃(v1:Nat),Nat.le v1 p.length/\(((0:Int)=qv6 h p v1/\(0:Int)=(↑v1:Int)/\True)/\((0:Int)=(0:Int)/\(0:Int)=(0:Int)/\True)/\True)/\∀(v2:Nat),Nat.le v2 p.length->(decide ((↑v2:Int)<(↑p.length:Int))=true->((0:Int)<=(↑v2:Int)/\(↑v2:Int)<(↑p.length:Int))/\((0:Int)<=nI p v2/\nI p v2<(↑h.length:Int))/\qf0 (1000000000:Int) (nI h (nI p v2).toNat)/\fits .i64 (qv6 h p v2+q4n (nI h (nI p v2).toNat))/\fits .i64 ((↑v2:Int)+(1:Int))/\∃(v5:Nat),Nat.le v5 p.length/\p.length-v5<p.length-v2/\(qv6 h p v2+q4n (nI h (nI p v2).toNat)=qv6 h p v5/\(↑v2:Int)+(1:Int)=(↑v5:Int)/\True)/\((0:Int)=(0:Int)/\(0:Int)=(0:Int)/\True)/\True)/\(decide ((↑v2:Int)<(↑p.length:Int))=false->HOk h/\(((-4000000000000000000:Int)<=qv6 h p v2/\qv6 h p v2<=BIG)/\((-4000000000000000000:Int)<=szL h/\szL h<=BIG)/\szL h≠(0:Ty.den qd0))/\(ofR (qv6 h p v2) (szL h)).1=(shR h p).1/\(ofR (qv6 h p v2) (szL h)).2=(shR h p).2/\True)) (by kernel_rfl) ?_
 try simp only[z0,z1,z2,z3,z4,z5,z6,z7,z8,z9,z10,Int.reduceEq,z11,z12,z13,z14,z15,z16,z17,z18,z19,z20,z21,z22,z23,z24,z25,z26,z27,z28,z29,z30,Int.reduceLE,Int.reduceLT,z31,z32,z33,z34,qa1]
 try simp only[qa7,qa8,qb5,z31,z32,z2,z1]
 have hl:=hh.len
 have hb:=hh.ok.len
 refine⟨(),0,Nat.zero_le _,⟨rfl,rfl⟩,λk hk=>⟨λhlt=>?_,λhge=>?_⟩⟩
 ·have h1:=q4p (pix:=p) hh.ok k
  have h2:=q4p (pix:=p) hh.ok (k+1)
  have h3:=hh.ok.sm (nI p k).toNat
  have h4:=hh.at_ k hlt
  unfold qf0 at h3
  have e:qv6 h p k+q4n (nI h (nI p k).toNat)=qv6 h p (k+1):=rfl
  exact⟨hlt,h4,by unfold qf0; omega,qb8 (by omega) (by omega),qb8 (by omega) (by omega),k+1,hlt,by omega,e,by push_cast; rfl⟩
 ·obtain rfl:k=p.length:=by omega
  have h1:=q4p (pix:=p) hh.ok p.length
  have h2:=q4o hh.ok h.length
  have h3:=hh.ne
  have e:szL h=we7 h h.length:=rfl
  unfold BIG
  exact⟨hh.ok,⟨⟨by omega,by omega⟩,⟨by omega,by omega⟩,h3⟩,rfl,rfl⟩
open Go Go.RowKit Eng Ls
abbrev x9z:qb4:=qf2 true none [] [q0a] (λ_=>True) (λ_=>((0,1),()))
theorem wy3:Meets Tryz.prog 183 x9z:=by
 refine meets (snd (SpecsOk.nil _)) Tryz.func183 rfl rfl (λ_ _=>none) (λ_=>by kernel_rfl) (by decide) ?_
 rintro⟨⟩ -
 refine @qd1 _ ((0:Int)=(0:Int)/\(1:Int)=(1:Int)/\True) (by kernel_rfl) ?_
 try simp only[z0,z1,z2,z3,z4,z5,z6,z7,z8,z9,z10,Int.reduceEq,z11,z12,z13,z14,z15,z16,z17,z18,z19,z20,z21,z22,z23,z24,z25,z26,z27,z28,z29,z30,Int.reduceLE,Int.reduceLT,z31,z32,z33,z34,qa1]
 try simp only[qa7,qa8,qb5,z31,z32,z2,z1]
abbrev x4w:qb4:=qf2 true none [q0a,q0a] [.bool] (λx=>q2s x.1/\q2s x.2.1) (λx=>(decide (0<wt2 x.2.1 x.1),()))
theorem wq7:Meets Tryz.prog 185 x4w:=by
 refine meets (snd (SpecsOk.cons w5a (SpecsOk.nil _))) Tryz.func185 rfl rfl (λ_ _=>none) (λ_=>by kernel_rfl) (by decide) ?_
 rintro⟨⟨a,b⟩,⟨c,d⟩,⟨⟩⟩ h
 revert a b c d
 intro(a:Int) (b:Int) (c:Int) (d:Int) (h:q2s (a,b)/\q2s (c,d))
 refine @qd1 _ ((q2s (c,d)/\q2s (a,b))/\decide ((0:Int)<wt2 (c,d) (a,b))=decide ((0:Int)<wt2 (c,d) (a,b))) (by kernel_rfl) ?_
 try simp only[z0,z1,z2,z3,z4,z5,z6,z7,z8,z9,z10,Int.reduceEq,z11,z12,z13,z14,z15,z16,z17,z18,z19,z20,z21,z22,z23,z24,z25,z26,z27,z28,z29,z30,Int.reduceLE,Int.reduceLT,z31,z32,z33,z34,qa1]
 try simp only[qa7,qa8,qb5,z31,z32,z2,z1]
 exact⟨h.2,h.1⟩
def xl6 (best x:Int × Int):Int × Int:=if 0<wt2 x best then x else best
abbrev yn9:q34:=x4t (q0u [q0a]) 60 1 q0a (λb x=>q2s b/\q2s x.1) (λb x=>q8h .bool (decide (0<wt2 x.1 b))) (λb x=>xl6 b x.1)
theorem wy4 (w:World) (o:Obj) {b:Nat} (h:b<w.heap.size):(w.alloc o).heap[b]? = w.heap[b]?:=by
 show(w.heap.push o)[b]? = _
 rw[Array.getElem?_push_lt h]
 exact(Array.getElem?_eq_getElem h).symm
theorem yo0 {w:World} {b t:Nat} {p q:Int} (h:w.heap[b]? = some (.cells #[.int .i64 p,.int .i64 q] t (0,0))):w.cell? ⟨b,0,none⟩=some (.int .i64 p)/\w.cell? ⟨b,1,none⟩=some (.int .i64 q)/\w.frozen? ⟨b,0,none⟩=false/\w.frozen? ⟨b,1,none⟩=false:=by
 simp[World.cell?,World.frozen?,h]
theorem yg3 (x y:Int):∀v∈[Value.int .i64 x,.int .i64 y],Value.oneCell' v=true:=λv hv=>by
 rcases List.mem_cons.1 hv with rfl | hv
 ·rfl
 ·rcases List.mem_cons.1 hv with rfl | hv
  ·rfl
  ·cases hv
theorem wy5 {a b c d:Int} (h1:q2s (a,b)) (h2:q2s (c,d)) (w:World):Calls Tryz.prog 185 #[.agg #[.int .i64 a,.int .i64 b],.agg #[.int .i64 c,.int .i64 d]] w λe w'=>e=.returned (.bool (decide (0<wt2 (c,d) (a,b))))/\Below w.heap.size w w':=by
 have hx:qt1 (λb=>w.heap[b]?) [q0a,q0a] ((a,b),(c,d),()) [.agg #[.int .i64 a,.int .i64 b],.agg #[.int .i64 c,.int .i64 d]]:=⟨_,_,rfl,⟨[.int .i64 a,.int .i64 b],rfl,[_],[_],rfl,rfl,rfl⟩,_,_,rfl,⟨[.int .i64 c,.int .i64 d],rfl,[_],[_],rfl,rfl,rfl⟩,rfl⟩
 refine(w1n (x:=(((a,b),(c,d),()):qa4 [q0a,q0a])) wq7 (View.full_on w) ⟨h1,h2⟩ hx).mono λe w' ⟨v,m',e1,e2,_,_,e5⟩=>⟨?_,e2⟩
 have e5:[v]=[.bool (decide (0<wt2 (c,d) (a,b)))]:=e5
 rw[e1,(List.cons.inj e5).1]
theorem w5c:q3d Tryz.prog 184 yn9:=by
 refine⟨⟨_,_,Tryz.func184,rfl,rfl⟩,λw m b cs us args vs k hm hbm hcell hone hcs hargs hrun=>?_⟩
 obtain⟨(pq:Int × Int),hrun,hx⟩:=wq4 hrun hcs
 obtain⟨⟨(xy:Int × Int),⟨⟩⟩,⟨hp,hk⟩,hy⟩:=qj6 hrun hargs
 obtain⟨p,q⟩:=pq
 obtain⟨x,y⟩:=xy
 obtain⟨u1,u2,rfl,x1,x2⟩:=hx
 obtain rfl:u1=[.int .i64 p]:=x1
 obtain rfl:u2=[.int .i64 q]:=x2
 obtain⟨v,vs2,rfl,⟨cc,rfl,u3,u4,rfl,y1,y2⟩,y3⟩:=hy
 obtain rfl:vs2=[]:=y3
 obtain rfl:u3=[.int .i64 x]:=y1
 obtain rfl:u4=[.int .i64 y]:=y2
 have hp:q2s (p,q)/\q2s (x,y):=hp
 show Calls Tryz.prog 184 #[.agg #[.int .i64 x,.int .i64 y],.pointer (some ⟨b,0,none⟩)] w _
 have c0:w.cell? ⟨b,0,none⟩=some (.int .i64 p):=by simp[World.cell?,hcell]
 have c1:w.cell? ⟨b,1,none⟩=some (.int .i64 q):=by simp[World.cell?,hcell]
 have hlt:b<w.heap.size:=(Array.getElem?_eq_some_iff.1 hcell).1
 have hcl:w.heap[b]? = some (.cells #[.int .i64 p,.int .i64 q] 60 (0,0)):=hcell
 have sz1:(w.alloc (.cells #[.int .i64 x,.int .i64 y] 60 (0,0))).heap.size=w.heap.size+1:=Array.size_push ..
 have n0:(w.alloc (.cells #[.int .i64 x,.int .i64 y] 60 (0,0))).cell? ⟨w.heap.size,0,none⟩=some (.int .i64 x):=by simp
 have n1:(w.alloc (.cells #[.int .i64 x,.int .i64 y] 60 (0,0))).cell? ⟨w.heap.size,1,none⟩=some (.int .i64 y):=by simp
 go_enter Tryz.func184,Tryz.ntmps184
 go_wp2_with (go_at_call 185; refine(wy5 hp.1 hp.2 _).mono ?_; rintro e w1 ⟨rfl,hb1⟩; have hn0:=Below.cell_of hb1 n0; have hn1:=Below.cell_of hb1 n1; have hw1:w1.heap[b]? = some (.cells #[.int .i64 p,.int .i64 q] 60 (0,0)):=(hb1.block b (by rw[sz1]; omega)).trans ((wy4 w _ hlt).trans hcl); obtain⟨q0,q1,f0,f1⟩:=yo0 hw1)
 all_goals
  have hB:Below w.heap.size w w1:=Ls.step_trans (Ls.below_alloc w _) hb1
  have hmw:∀W:World,Kept (λx=>x=b) w W->m.on W:=λW hK x o hx=>(hK.block x ⟨View.lt hm hx,λe=>by rw[e,hbm] at hx; cases hx⟩).trans (hm x o hx)
  have hK1:Kept (λx=>x=b) w w1:=⟨hB.os,hB.tape,hB.output,hB.size,λx hx=>hB.block x hx.1⟩
  rename_i hc
  go_ret
 ·have hK2:Kept (λx=>x=b) w ((w1.setCell ⟨b,0,none⟩ (.int .i64 x)).setCell ⟨b,1,none⟩ (.int .i64 y)):=⟨hB.os,hB.tape,hB.output,by simpa[World.setCell] using hB.size,λk hk=>(Below.heap_setCell _ _ _ _ (λe=>hk.2 e)).trans ((Below.heap_setCell _ _ _ _ (λe=>hk.2 e)).trans (hB.block k hk.1))⟩
  have ht:xl6 (p,q) (x,y)=(x,y):=if_pos hc
  have hfin:((w1.setCell ⟨b,0,none⟩ (.int .i64 x)).setCell ⟨b,1,none⟩ (.int .i64 y)).heap[b]? = some (.cells #[.int .i64 x,.int .i64 y] 60 (0,0)):=by simp[World.setCell,Array.getElem?_modify,hw1]
  rw[ht,decide_eq_true hc] at hk
  exact⟨.bool true,m,q8h .bool true,qj1 q0a (x,y) .nil,[.int .i64 x,.int .i64 y],rfl,hK2,View.le_refl m,hmw _ hK2,λz o hz=>.inl hz,hfin,yg3 _ _,rfl,⟨_,_,rfl,rfl,_,_,rfl,rfl,rfl⟩,hk⟩
 ·have hc:¬0<wt2 (x,y) (p,q):=by omega
  have ht:xl6 (p,q) (x,y)=(p,q):=if_neg hc
  rw[ht,decide_eq_false hc] at hk
  exact⟨.bool false,m,q8h .bool false,qj1 q0a (p,q) .nil,[.int .i64 p,.int .i64 q],rfl,hK1,View.le_refl m,hmw _ hK1,λz o hz=>.inl hz,hw1,yg3 _ _,rfl,⟨_,_,rfl,rfl,_,_,rfl,rfl,rfl⟩,hk⟩
abbrev yo1:qb4:=hspec [] true none [.cap q0a] [q0a] (λ_=>True) (λx=>(x.1,()))
theorem w5d:Meets Tryz.prog 186 yo1:=by
 refine qk0 (SpecsOk.nil _) (snd (SpecsOk.nil _)) Tryz.func186 rfl rfl (λ_ _=>none) (λ_=>by kernel_rfl) (by decide) ?_
 rintro⟨⟨a,b⟩,⟨⟩⟩ -
 revert a b
 intro(a:Int) (b:Int)
 refine @qd1 _ (a=a/\b=b/\True) (by kernel_rfl) ?_
 try simp only[z0,z1,z2,z3,z4,z5,z6,z7,z8,z9,z10,Int.reduceEq,z11,z12,z13,z14,z15,z16,z17,z18,z19,z20,z21,z22,z23,z24,z25,z26,z27,z28,z29,z30,Int.reduceLE,Int.reduceLT,z31,z32,z33,z34,qa1]
 try simp only[qa7,qa8,qb5,z31,z32,z2,z1]
abbrev yo2 (g:Nat):AV:=.tup (.cons (.clo 184 (.cons (.box g 0) .nil)) (.cons (.clo 186 (.cons (.box g 0) .nil)) .nil))
abbrev sGr:qb4:=w9l (q0u []) 60 (λ_=>True) (λ_=>yo2 0) (λ_=>.cons (.lit (.int .i64 0)) (.cons (.lit (.int .i64 1)) .nil))
theorem w9m:Meets Tryz.prog 125 sGr:=by
 refine x4u (snd (SpecsOk.cons wy3 (SpecsOk.nil _))) Tryz.func125 rfl rfl (qm0 _) (λ_ _=>none) (λ_=>by kernel_rfl) (by decide) ?_
 rintro⟨⟩ -
 refine @qd1 _ (True/\((True/\True)/\(True/\True)/\True)/\(0:Int)=(0:Int)/\(1:Int)=(1:Int)/\True) (by kernel_rfl) ?_
 try simp only[z0,z1,z2,z3,z4,z5,z6,z7,z8,z9,z10,Int.reduceEq,z11,z12,z13,z14,z15,z16,z17,z18,z19,z20,z21,z22,z23,z24,z25,z26,z27,z28,z29,z30,Int.reduceLE,Int.reduceLT,z31,z32,z33,z34,qa1]
 try simp only[qa7,qa8,qb5,z31,z32,z2,z1]
open Go Go.RowKit Eng
structure x4x (n d:Int) (r:Int × Int):Prop where
 pos:1<=r.2
 eq:r.1*d=n*r.2
 n0:0<=r.1
 nle:r.1<=n
 dle:r.2<=d
 one:gcdI r.1 r.2=1
theorem x4y {n d:Int} (hn:0<=n) (hd:0<d):x4x n d (ofR n d):=by
 have e:ofR n d=(n.tdiv (gcdI n d),d.tdiv (gcdI n d)):=by unfold ofR; rw[if_neg (by omega)]
 have hg:0<gcdI n d:=qq0 (.inr (by omega))
 have h1:gcdI n d∣n:=Int.gcd_dvd_left ..
 have h2:gcdI n d∣d:=Int.gcd_dvd_right ..
 have hgd:(gcdI n d:Int)=(Int.gcd n d:Int):=rfl
 rw[e]
 have e1:n.tdiv (gcdI n d)=n / gcdI n d:=Int.tdiv_eq_ediv_of_nonneg hn
 have e2:d.tdiv (gcdI n d)=d / gcdI n d:=Int.tdiv_eq_ediv_of_nonneg (by omega)
 rw[e1,e2]
 obtain⟨a,ha⟩:=h1
 obtain⟨b,hb⟩:=h2
 have q1:n / gcdI n d=a:=by
  conv=>lhs; lhs; rw[ha]
  exact Int.mul_ediv_cancel_left _ (by omega)
 have q2:d / gcdI n d=b:=by
  conv=>lhs; lhs; rw[hb]
  exact Int.mul_ediv_cancel_left _ (by omega)
 have hgcd:Int.gcd a b=1:=by
  have:=Int.gcd_ediv_gcd_ediv_gcd (i:=n) (j:=d) (by have:=hg; rw[hgd] at this; omega)
  rw[<- hgd,q1,q2] at this
  exact this
 generalize gcdI n d=g at *
 rw[q1,q2]
 have hb1:1<=b:=by
  rcases Int.lt_or_le b 1 with q | q
  ·have:g*b<=0:=Int.mul_nonpos_of_nonneg_of_nonpos (by omega) (by omega)
   omega
  ·exact q
 have ha0:0<=a:=by
  rcases Int.lt_or_le a 0 with q | q
  ·have:g*a<0:=Int.mul_neg_of_pos_of_neg hg q
   omega
  ·exact q
 refine⟨hb1,?_,ha0,?_,?_,?_⟩
 ·show a*d=n*b
  rw[ha,hb,Int.mul_comm g b,<- Int.mul_assoc,Int.mul_comm (a*b) g,Int.mul_assoc]
 ·show a<=n
  rw[ha]; have:=Int.mul_le_mul_of_nonneg_right (a:=1) (b:=g) (c:=a) (by omega) ha0; omega
 ·show b<=d
  rw[hb]; have:=Int.mul_le_mul_of_nonneg_right (a:=1) (b:=g) (c:=b) (by omega) (by omega); omega
 ·show((Int.gcd a b:Nat):Int)=1
  rw[hgcd]; rfl
theorem x0r {h:List Int} (hh:HOk h) (h0:szL h≠0):0<szL h:=by
 have:=q4o hh h.length
 have e:szL h=we7 h h.length:=rfl
 omega
theorem x4z {h p:List Int} (hh:x0q h p):x4x (inL h p) (szL h) (shR h p):=x4y (q4p hh.ok _).1 (x0r hh.ok hh.ne)
theorem xs2 {h p:List Int} (hh:x0q h p):q2s (shR h p):=by
 have k:=x4z hh
 have h1:=(q4p (pix:=p) hh.ok p.length).2
 have h2:=(q4o hh.ok h.length).2
 have h3:=hh.len
 have h4:=hh.ok.len
 have e1:inL h p=qv6 h p p.length:=rfl
 have e2:szL h=we7 h h.length:=rfl
 have k1:=k.pos
 have k2:=k.nle
 have k3:=k.dle
 have k4:=k.n0
 exact⟨⟨k4,by omega⟩,⟨by omega,by omega⟩,k1⟩
theorem x42:q2s (0,1):=⟨⟨by decide,by decide⟩,⟨by decide,by decide⟩,by decide⟩
theorem x0s {a b:Int × Int} (ha:q2s a) (hb:q2s b):q2s (xl6 a b):=by unfold xl6; split <;> assumption
abbrev yo3:qb4:=qf2 false none [qf3] [qf3] (λx=>qb9 x.1=true->wn6 x.1) (λx=>((qv0 x.1).1,()))
theorem w5e:Meets Tryz.prog 66 yo3:=by
 refine meets (snd (SpecsOk.cons w8t (SpecsOk.nil _))) Tryz.func66 rfl rfl (λ_ _=>none) (λ_=>by kernel_rfl) (by decide) ?_
 rintro⟨m,⟨⟩⟩ h
 revert m
 intro(m:List (List Int)) (h:qb9 m=true->wn6 m)
 refine @qd1 _ ((qb9 m=true->wn6 m)/\(qv0 m).1=(qv0 m).1) (by kernel_rfl) ?_
 try simp only[z0,z1,z2,z3,z4,z5,z6,z7,z8,z9,z10,Int.reduceEq,z11,z12,z13,z14,z15,z16,z17,z18,z19,z20,z21,z22,z23,z24,z25,z26,z27,z28,z29,z30,Int.reduceLE,Int.reduceLT,z31,z32,z33,z34,qa1]
 try simp only[qa7,qa8,qb5,z31,z32,z2,z1]
 exact h
end Go.Proofs.YtmijnbjlhnpokaaGreat
