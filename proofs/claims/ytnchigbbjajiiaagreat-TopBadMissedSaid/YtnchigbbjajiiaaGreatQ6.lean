/- The places of the greatest sizes: contracts by the engine. No condition. -/
import Derived.Test.YtnchigbbjajiiaaGreatN1
import Derived.Test.YtnchigbbjajiiaaGreatEngU
set_option linter.unusedVariables false
set_option linter.unusedSimpArgs false
namespace Go.Proofs.YtnchigbbjajiiaaGreat
open Go Go.RowKit Eng
def BxsOk (bxs:List (Nat × q46)):Prop:=∀f B,find bxs f=some B->q6f Tryz.prog f B
theorem BxsOk.nil:BxsOk []:=λf M h=>by cases h
theorem BxsOk.cons {f:Nat} {B:q46} {l:List (Nat × q46)} (h:q6f Tryz.prog f B) (k:BxsOk l):BxsOk ((f,B) :: l):=by
 intro g S hg
 simp only[find] at hg
 split at hg
 ·simp_all
 ·exact k g S hg
def y4q (specs:List (Nat × qa8)) (its:List (Nat × q1b)) (bxs:List (Nat × q46)):Ctx:={ specs:=specs,tys:=tys,wr:=[],its:=its,bxs:=bxs }
theorem y4r {specs:List (Nat × qa8)} {its:List (Nat × q1b)} {bxs:List (Nat × q46)} (h:SpecsOk Tryz.prog specs) (hi:ItsOk its) (hb:BxsOk bxs):Sound Tryz.prog (y4q specs its bxs):=SpecsOk.sound h q03 kr hi (hbx:=hb)
def qd6 (x:Int):Int:=(x.natAbs:Int)
theorem x1k (x:Int):max x (0-x)=qd6 x:=by grind [qd6]
def wb1 (h:List Int):Nat->Int
 | 0=>0
 | k+1=>wb1 h k+qd6 (nI h k)
def szL (h:List Int):Int:=wb1 h h.length
def qx8 (h pix:List Int):Nat->Int
 | 0=>0
 | k+1=>qx8 h pix k+qd6 (nI h (nI pix k).toNat)
def inL (h pix:List Int):Int:=qx8 h pix pix.length
structure HOk (h:List Int):Prop where
 len:h.length<=100
 sm:∀i,qd8 1000000 (nI h i)
theorem q5v {h:List Int} (hh:HOk h):∀k,0<=wb1 h k/\wb1 h k<=1000000*k
 | 0=>⟨zbr _,by simp[wb1]⟩
 | k+1=>by
  have h1:=q5v hh k
  have h2:=hh.sm k
  unfold qd8 at h2
  grind [wb1,qd6]
theorem q5w {h pix:List Int} (hh:HOk h):∀k,0<=qx8 h pix k/\qx8 h pix k<=1000000*k
 | 0=>⟨zbr _,by simp[qx8]⟩
 | k+1=>by
  have h1:=q5w (pix:=pix) hh k
  have h2:=hh.sm (nI pix k).toNat
  unfold qd8 at h2
  grind [qx8,qd6]
abbrev yx7:qa8:=qd9 true none [qc0] [qc0] (λx=>qd8 1000000000 x.1) (λx=>(qd6 x.1,()))
theorem q0x:Meets Tryz.prog 112 yx7:=by
 refine mt0 (SpecsOk.nil _) Tryz.func112 ?_
 rintro⟨x,⟨⟩⟩ h
 revert x
 intro(x:Int) (h:qd8 1000000000 x)
 refine vcs (fits .i64 ((0:Int)-x)/\max2 true x ((0:Int)-x)=qd6 x) ?_
 unfold qd8 at h
 exact⟨qa6,x1k x⟩
def y4s (h:List Int):Nat->Option Inv
 | 0=>some (Inv.of [3,8] 0 (λk:Nat=>[(3,.lit (.int .i64 (wb1 h k))),(8,.lit (.int .i64 k))]) (λ_=>[]) (λk=>k<=h.length) (λk=>h.length-k))
 | _=>none
abbrev yg8:qa8:=qd9 true none [qe8] [qc0] (λx=>HOk x.1) (λx=>(szL x.1,()))
theorem wy5:Meets Tryz.prog 180 yg8:=by
 refine mts (SpecsOk.cons q0x (SpecsOk.nil _)) Tryz.func180 (λx=>y4s x.1) ?_
 rintro⟨h,⟨⟩⟩ hh
 revert h
 intro(h:List Int) (hh:HOk h)
 refine vcs (∃(v0:Unit),∃(v1:Nat),Nat.le v1 h.length/\(((0:Int)=wb1 h v1/\(0:Int)=(↑v1:Int)/\True)/\True)/\∀(v2:Nat),Nat.le v2 h.length->(decide ((↑v2:Int)<(↑h.length:Int))=true->((0:Int)<=(↑v2:Int)/\(↑v2:Int)<(↑h.length:Int))/\qd8 (1000000000:Int) (nI h v2)/\fits .i64 (wb1 h v2+qd6 (nI h v2))/\fits .i64 ((↑v2:Int)+(1:Int))/\∃(v5:Nat),Nat.le v5 h.length/\h.length-v5<h.length-v2/\(wb1 h v2+qd6 (nI h v2)=wb1 h v5/\(↑v2:Int)+(1:Int)=(↑v5:Int)/\True)/\True)/\(decide ((↑v2:Int)<(↑h.length:Int))=false->wb1 h v2=szL h)) ?_
 have hl:=hh.len
 refine⟨(),0,zae _,⟨rfl,rfl⟩,λk hk=>⟨λhlt=>?_,λhge=>?_⟩⟩
 ·have h1:=q5v hh k
  have h2:=q5v hh (k+1)
  have h3:=hh.sm k
  unfold qd8 at h3
  have e:wb1 h k+qd6 (nI h k)=wb1 h (k+1):=rfl
  exact⟨hlt,ow,qa6,qa6,k+1,hlt,ow,e,by rfl⟩
 ·obtain rfl:k=h.length:=ow
  rfl
def shR (h pix:List Int):Int × Int:=ofR (inL h pix) (szL h)
structure xv4 (h pix:List Int):Prop where
 ok:HOk h
 len:pix.length<=100
 at_:∀j,j<pix.length->0<=nI pix j/\nI pix j<h.length
 ne:szL h≠0
def yx8 (h pix:List Int):Nat->Option Inv
 | 0=>some (Inv.of [5,10] 1 (λk:Nat=>[(5,.lit (.int .i64 (qx8 h pix k))),(10,.lit (.int .i64 k))]) (λ_=>[.box 43 (.cons (.lit (.int .i64 0)) (.cons (.lit (.int .i64 0)) .nil))]) (λk=>k<=pix.length) (λk=>pix.length-k))
 | _=>none
abbrev y4t:qa8:=qd9 true none [qe8,qe8] [qv9] (λx=>xv4 x.1 x.2.1) (λx=>(shR x.1 x.2.1,()))
theorem w79:Meets Tryz.prog 132 y4t:=by
 refine mts (SpecsOk.cons q0x (SpecsOk.cons wy5 (SpecsOk.cons wm2 (SpecsOk.nil _)))) Tryz.func132 (λx=>yx8 x.1 x.2.1) ?_
 rintro⟨h,p,⟨⟩⟩ hh
 revert h p
 intro(h:List Int) (p:List Int) (hh:xv4 h p)
 refine vcs (∃(v0:Unit),∃(v1:Nat),Nat.le v1 p.length/\(((0:Int)=qx8 h p v1/\(0:Int)=(↑v1:Int)/\True)/\((0:Int)=(0:Int)/\(0:Int)=(0:Int)/\True)/\True)/\∀(v2:Nat),Nat.le v2 p.length->(decide ((↑v2:Int)<(↑p.length:Int))=true->((0:Int)<=(↑v2:Int)/\(↑v2:Int)<(↑p.length:Int))/\((0:Int)<=nI p v2/\nI p v2<(↑h.length:Int))/\qd8 (1000000000:Int) (nI h (nI p v2).toNat)/\fits .i64 (qx8 h p v2+qd6 (nI h (nI p v2).toNat))/\fits .i64 ((↑v2:Int)+(1:Int))/\∃(v5:Nat),Nat.le v5 p.length/\p.length-v5<p.length-v2/\(qx8 h p v2+qd6 (nI h (nI p v2).toNat)=qx8 h p v5/\(↑v2:Int)+(1:Int)=(↑v5:Int)/\True)/\((0:Int)=(0:Int)/\(0:Int)=(0:Int)/\True)/\True)/\(decide ((↑v2:Int)<(↑p.length:Int))=false->HOk h/\(((-4000000000000000000:Int)<=qx8 h p v2/\qx8 h p v2<=BIG)/\((-4000000000000000000:Int)<=szL h/\szL h<=BIG)/\szL h≠(0:Ty.den qc0))/\(ofR (qx8 h p v2) (szL h)).1=(shR h p).1/\(ofR (qx8 h p v2) (szL h)).2=(shR h p).2/\True)) ?_
 have hl:=hh.len
 have hb:=hh.ok.len
 refine⟨(),0,zae _,⟨rfl,rfl⟩,λk hk=>⟨λhlt=>?_,λhge=>?_⟩⟩
 ·have h1:=q5w (pix:=p) hh.ok k
  have h2:=q5w (pix:=p) hh.ok (k+1)
  have h3:=hh.ok.sm (nI p k).toNat
  have h4:=hh.at_ k hlt
  unfold qd8 at h3
  have e:qx8 h p k+qd6 (nI h (nI p k).toNat)=qx8 h p (k+1):=rfl
  exact⟨hlt,h4,ow,qa6,qa6,k+1,hlt,ow,e,by rfl⟩
 ·obtain rfl:k=p.length:=ow
  have h1:=q5w (pix:=p) hh.ok p.length
  have h2:=q5v hh.ok h.length
  have h3:=hh.ne
  have e:szL h=wb1 h h.length:=rfl
  unfold BIG
  exact⟨hh.ok,⟨⟨ow,ow⟩,⟨ow,ow⟩,h3⟩,rfl,rfl⟩
open Go Go.RowKit Eng Ls
abbrev yx9:qa8:=qd9 true none [] [qv9] (λ_=>True) (λ_=>((0,1),()))
theorem w2d:Meets Tryz.prog 192 yx9:=by
 refine mt0 (SpecsOk.nil _) Tryz.func192 ?_
 rintro⟨⟩ -
 refine vcr ((0:Int)=(0:Int)/\(1:Int)=(1:Int)/\True) ?_
 simp
abbrev yg9:qa8:=qd9 true none [qv9,qv9] [.bool] (λx=>q4v x.1/\q4v x.2.1) (λx=>(decide (0<w4y x.2.1 x.1),()))
theorem wy6:Meets Tryz.prog 194 yg9:=by
 refine mt0 (SpecsOk.cons w78 (SpecsOk.nil _)) Tryz.func194 ?_
 rintro⟨⟨a,b⟩,⟨c,d⟩,⟨⟩⟩ h
 revert a b c d
 intro(a:Int) (b:Int) (c:Int) (d:Int) (h:q4v (a,b)/\q4v (c,d))
 refine vcr ((q4v (c,d)/\q4v (a,b))/\decide ((0:Int)<w4y (c,d) (a,b))=decide ((0:Int)<w4y (c,d) (a,b))) ?_
 grind
def w2e (best x:Int × Int):Int × Int:=if 0<w4y x best then x else best
abbrev y4u:q46:=yg6 (q1r [qv9]) 43 1 qv9 (λb x=>q4v b/\q4v x.1) (λb x=>wb3 .bool (decide (0<w4y x.1 b))) (λb x=>w2e b x.1)
theorem w2f (w:World) (o:Obj) {b:Nat} (h:b<w.heap.size):(w.alloc o).heap[b]? = w.heap[b]?:=by
 show(w.heap.push o)[b]? = _
 grind
theorem y4v {w:World} {b t:Nat} {p q:Int} (h:w.heap[b]? = some (.cells #[.int .i64 p,.int .i64 q] t (0,0))):w.cell? ⟨b,0,none⟩=some (.int .i64 p)/\w.cell? ⟨b,1,none⟩=some (.int .i64 q)/\w.frozen? ⟨b,0,none⟩=false/\w.frozen? ⟨b,1,none⟩=false:=by
 simp[World.cell?,World.frozen?,h]
theorem y2j (x y:Int):∀v∈[Value.int .i64 x,.int .i64 y],Value.oneCell' v=true:=λv hv=>by
 rcases zat.1 hv with rfl | hv
 ·rfl
 ·rcases zat.1 hv with rfl | hv
  ·rfl
  grind
theorem w2g {a b c d:Int} (h1:q4v (a,b)) (h2:q4v (c,d)) (w:World):Calls Tryz.prog 194 #[.agg #[.int .i64 a,.int .i64 b],.agg #[.int .i64 c,.int .i64 d]] w λe w'=>e=.returned (.bool (decide (0<w4y (c,d) (a,b))))/\Below w.heap.size w w':=by
 have hx:qu1 (λb=>w.heap[b]?) [qv9,qv9] ((a,b),(c,d),()) [.agg #[.int .i64 a,.int .i64 b],.agg #[.int .i64 c,.int .i64 d]]:=⟨_,_,rfl,⟨[.int .i64 a,.int .i64 b],rfl,[_],[_],rfl,rfl,rfl⟩,_,_,rfl,⟨[.int .i64 c,.int .i64 d],rfl,[_],[_],rfl,rfl,rfl⟩,rfl⟩
 refine(wm0 (x:=(((a,b),(c,d),()):qa3 [qv9,qv9])) wy6 (View.full_on w) ⟨h1,h2⟩ hx).mono λe w' ⟨v,m',e1,e2,_,_,e5⟩=>⟨?_,e2⟩
 have e5:[v]=[.bool (decide (0<w4y (c,d) (a,b)))]:=e5
 grind
theorem w8a:q6f Tryz.prog 193 y4u:=by
 refine⟨⟨_,_,Tryz.func193,rfl,rfl⟩,λw m b cs us args vs k hm hbm hcell hone hcs hargs hrun=>?_⟩
 obtain⟨(pq:Int × Int),hrun,hx⟩:=wy3 hrun hcs
 obtain⟨⟨(xy:Int × Int),⟨⟩⟩,⟨hp,hk⟩,hy⟩:=qj6 hrun hargs
 obtain⟨p,q⟩:=pq
 obtain⟨x,y⟩:=xy
 obtain⟨u1,u2,rfl,x1,x2⟩:=hx
 obtain rfl:u1=[.int .i64 p]:=x1
 obtain rfl:u2=[.int .i64 q]:=x2
 obtain⟨v,vs2,rfl,⟨cc,rfl,u3,u4,rfl,y1,y2⟩,y3⟩:=hy
 obtain rfl:vs2=[]:=y3
 obtain rfl:u3=[.int .i64 x]:=y1
 obtain rfl:u4=[.int .i64 y]:=y2
 have hp:q4v (p,q)/\q4v (x,y):=hp
 show Calls Tryz.prog 193 #[.agg #[.int .i64 x,.int .i64 y],.pointer (some ⟨b,0,none⟩)] w _
 have c0:w.cell? ⟨b,0,none⟩=some (.int .i64 p):=by grind [World.cell?]
 have c1:w.cell? ⟨b,1,none⟩=some (.int .i64 q):=by grind [World.cell?]
 have hlt:b<w.heap.size:=(zal.1 hcell).1
 have hcl:w.heap[b]? = some (.cells #[.int .i64 p,.int .i64 q] 43 (0,0)):=hcell
 have sz1:(w.alloc (.cells #[.int .i64 x,.int .i64 y] 43 (0,0))).heap.size=w.heap.size+1:=Array.size_push ..
 have n0:(w.alloc (.cells #[.int .i64 x,.int .i64 y] 43 (0,0))).cell? ⟨w.heap.size,0,none⟩=some (.int .i64 x):=by simp
 have n1:(w.alloc (.cells #[.int .i64 x,.int .i64 y] 43 (0,0))).cell? ⟨w.heap.size,1,none⟩=some (.int .i64 y):=by simp
 go_enter Tryz.func193,Tryz.ntmps193
 go_wp2_with (go_at_call 194; refine(w2g hp.1 hp.2 _).mono ?_; rintro e w1 ⟨rfl,hb1⟩; have hn0:=Below.cell_of hb1 n0; have hn1:=Below.cell_of hb1 n1; have hw1:w1.heap[b]? = some (.cells #[.int .i64 p,.int .i64 q] 43 (0,0)):=(hb1.block b ow).trans ((w2f w _ hlt).trans hcl); obtain⟨q0,q1,f0,f1⟩:=y4v hw1)
 all_goals
  have hB:Below w.heap.size w w1:=Ls.step_trans (Ls.below_alloc w _) hb1
  have hmw:∀W:World,Kept (λx=>x=b) w W->m.on W:=λW hK x o hx=>(hK.block x ⟨View.lt hm hx,λe=>by grind⟩).trans (hm x o hx)
  have hK1:Kept (λx=>x=b) w w1:=⟨hB.os,hB.tape,hB.output,hB.size,λx hx=>hB.block x hx.1⟩
  rename_i hc
  go_ret
 ·have hK2:Kept (λx=>x=b) w ((w1.setCell ⟨b,0,none⟩ (.int .i64 x)).setCell ⟨b,1,none⟩ (.int .i64 y)):=⟨hB.os,hB.tape,hB.output,by simpa[World.setCell] using hB.size,λk hk=>(zdc _ _ _ _ (λe=>hk.2 e)).trans ((zdc _ _ _ _ (λe=>hk.2 e)).trans (hB.block k hk.1))⟩
  have ht:w2e (p,q) (x,y)=(x,y):=zap hc
  have hfin:((w1.setCell ⟨b,0,none⟩ (.int .i64 x)).setCell ⟨b,1,none⟩ (.int .i64 y)).heap[b]? = some (.cells #[.int .i64 x,.int .i64 y] 43 (0,0)):=by grind [World.setCell]
  rw[ht,zb8 hc] at hk
  exact⟨.bool true,m,wb3 .bool true,qj1 qv9 (x,y) .nil,[.int .i64 x,.int .i64 y],rfl,hK2,View.le_refl m,hmw _ hK2,λz o hz=>.inl hz,hfin,y2j _ _,rfl,⟨_,_,rfl,rfl,_,_,rfl,rfl,rfl⟩,hk⟩
 ·have hc:¬0<w4y (x,y) (p,q):=ow
  have ht:w2e (p,q) (x,y)=(p,q):=zaj hc
  rw[ht,zc7 hc] at hk
  exact⟨.bool false,m,wb3 .bool false,qj1 qv9 (p,q) .nil,[.int .i64 p,.int .i64 q],rfl,hK1,View.le_refl m,hmw _ hK1,λz o hz=>.inl hz,hw1,y2j _ _,rfl,⟨_,_,rfl,rfl,_,_,rfl,rfl,rfl⟩,hk⟩
abbrev y4w:qa8:=hspec [] true none [.cap qv9] [qv9] (λ_=>True) (λx=>(x.1,()))
theorem w8b:Meets Tryz.prog 195 y4w:=by
 refine qk7 (SpecsOk.nil _) (snd (SpecsOk.nil _)) Tryz.func195 rfl rfl (λ_ _=>none) (λ_=>by kernel_rfl) dc ?_
 rintro⟨⟨a,b⟩,⟨⟩⟩ -
 revert a b
 intro(a:Int) (b:Int)
 refine vcr (a=a/\b=b/\True) ?_
 simp
abbrev y4x (g:Nat):AV:=.tup (.cons (.clo 193 (.cons (.box g 0) .nil)) (.cons (.clo 195 (.cons (.box g 0) .nil)) .nil))
abbrev sGr:qa8:=xk5 (q1r []) 43 (λ_=>True) (λ_=>y4x 0) (λ_=>.cons (.lit (.int .i64 0)) (.cons (.lit (.int .i64 1)) .nil))
theorem xk6:Meets Tryz.prog 148 sGr:=by
 refine yg7 (snd (SpecsOk.cons w2d (SpecsOk.nil _))) Tryz.func148 rfl rfl (qm4 _) (λ_ _=>none) (λ_=>by kernel_rfl) dc ?_
 rintro⟨⟩ -
 refine vcr (True/\((True/\True)/\(True/\True)/\True)/\(0:Int)=(0:Int)/\(1:Int)=(1:Int)/\True) ?_
 simp
open Go Go.RowKit Eng
structure yh0 (n d:Int) (r:Int × Int):Prop where
 pos:1<=r.2
 eq:r.1*d=n*r.2
 n0:0<=r.1
 nle:r.1<=n
 dle:r.2<=d
 one:gcdI r.1 r.2=1
theorem yh1 {n d:Int} (hn:0<=n) (hd:0<d):yh0 n d (ofR n d):=by
 have e:ofR n d=(n.tdiv (gcdI n d),d.tdiv (gcdI n d)):=by unfold ofR; grind
 have hg:0<gcdI n d:=qn9 (.inr ow)
 have h1:gcdI n d∣n:=Int.gcd_dvd_left ..
 have h2:gcdI n d∣d:=Int.gcd_dvd_right ..
 have hgd:(gcdI n d:Int)=(Int.gcd n d:Int):=rfl
 rw[e]
 have e1:n.tdiv (gcdI n d)=n / gcdI n d:=zdt hn
 have e2:d.tdiv (gcdI n d)=d / gcdI n d:=zdt ow
 rw[e1,e2]
 obtain⟨a,ha⟩:=h1
 obtain⟨b,hb⟩:=h2
 have q1:n / gcdI n d=a:=by
  grind [Int.mul_ediv_cancel_left]
 have q2:d / gcdI n d=b:=by
  grind [Int.mul_ediv_cancel_left]
 have hgcd:Int.gcd a b=1:=by
  grind [Int.gcd_ediv_gcd_ediv_gcd,q1,q2]
 generalize gcdI n d=g at *
 rw[q1,q2]
 have hb1:1<=b:=by
  rcases zc3 b 1 with q | q
  ·have:g*b<=0:=za8 ow ow
   omega
  omega
 have ha0:0<=a:=by
  rcases zc3 a 0 with q | q
  ·have:g*a<0:=zbi hg q
   omega
  omega
 refine⟨hb1,?_,ha0,?_,?_,?_⟩
 ·grind
 ·show a<=n
  rw[ha]; have:=zai (a:=1) (b:=g) (c:=a) ow ha0; omega
 ·show b<=d
  rw[hb]; have:=zai (a:=1) (b:=g) (c:=b) ow ow; omega
 ·show((Int.gcd a b:Nat):Int)=1
  omega
theorem q9t {h:List Int} (hh:HOk h) (h0:szL h≠0):0<szL h:=by
 have:=q5v hh h.length
 have e:szL h=wb1 h h.length:=rfl
 omega
theorem q9u {h p:List Int} (hh:xv4 h p):yh0 (inL h p) (szL h) (shR h p):=yh1 (q5w hh.ok _).1 (q9t hh.ok hh.ne)
theorem w4z {h p:List Int} (hh:xv4 h p):q4v (shR h p):=by
 have k:=q9u hh
 have h1:=(q5w (pix:=p) hh.ok p.length).2
 have h2:=(q5v hh.ok h.length).2
 have h3:=hh.len
 have h4:=hh.ok.len
 have e1:inL h p=qx8 h p p.length:=rfl
 have e2:szL h=wb1 h h.length:=rfl
 have k1:=k.pos
 have k2:=k.nle
 have k3:=k.dle
 have k4:=k.n0
 exact⟨⟨k4,ow⟩,⟨ow,ow⟩,k1⟩
theorem yh2:q4v (0,1):=⟨⟨dc,dc⟩,⟨dc,dc⟩,dc⟩
theorem x7e {a b:Int × Int} (ha:q4v a) (hb:q4v b):q4v (w2e a b):=by grind [w2e]
abbrev y4y:qa8:=qd9 false none [qf9] [qf9] (λx=>qb7 x.1=true->wb6 x.1) (λx=>((qf1 x.1).1,()))
theorem q5x:Meets Tryz.prog 67 y4y:=by
 refine mt0 (SpecsOk.cons xh9 (SpecsOk.nil _)) Tryz.func67 ?_
 rintro⟨m,⟨⟩⟩ h
 revert m
 intro(m:List (List Int)) (h:qb7 m=true->wb6 m)
 refine vcr ((qb7 m=true->wb6 m)/\(qf1 m).1=(qf1 m).1) ?_
 grind
def swp (l:List Int) (j:Nat):List Int:=(l.set (j+1) (nI l j)).set j (nI l (j+1))
def q1w (f:Int->Int->Int):Nat->List Int->List Int
 | 0,l=>l
 | j+1,l=>if f (nI l (j+1)) (nI l j)<0 then q1w f j (swp l j) else l
def q0y (f:Int->Int->Int) (l:List Int):Nat->List Int
 | 0=>l
 | k+1=>q1w f (k+1) (q0y f l k)
def insL (f:Int->Int->Int) (l:List Int):List Int:=q0y f l (l.length-1)
theorem wn6 (l:List Int) (j:Nat):(swp l j).length=l.length:=by simp[swp]
theorem q5y {l:List Int} {i:Nat} (h:i<l.length):nI l i∈l:=by grind [qg5,List.getElem_mem]
theorem xk7 {l:List Int} {j:Nat} (h:j+1<l.length):∀x∈swp l j,x∈l:=λx hx=>by
 unfold swp at hx
 rcases za0 hx with hx | rfl
 ·rcases za0 hx with hx | rfl
  all_goals grind [q5y]
 grind [q5y]
theorem wy7 (f:Int->Int->Int):∀(j:Nat) (l:List Int),j<l.length->(q1w f j l).length=l.length/\∀x∈q1w f j l,x∈l
 | 0,l,_=>⟨rfl,λx hx=>hx⟩
 | j+1,l,h=>by
  rw[q1w]
  split
  ·have:=wy7 f j (swp l j) (by grind [wn6])
   grind [trans,wn6,xk7]
  simp
theorem q2u (f:Int->Int->Int) (l:List Int):∀k,k<l.length\/k=0->(q0y f l k).length=l.length/\∀x∈q0y f l k,x∈l
 | 0,_=>⟨rfl,λx hx=>hx⟩
 | k+1,h=>by
  have h1:=q2u f l k ow
  grind [wy7,q0y,trans]
theorem x1l (f:Int->Int->Int) (l:List Int) {i:Nat} (h:1<=i):q1w f i (q0y f l (i-1))=q0y f l i:=by
 cases i with
 | zero=>omega
 | succ i=>rfl
abbrev yy0:PTy:=.fn [qc0,qc0] qc0
abbrev fn2 (g:qa3 [qc0,qc0]->Int) (x y:Int):Int:=g (x,y,())
structure wn7 (l:List Int) (p:qa3 [qc0,qc0]->Prop):Prop where
 len:l.length<=19
 ok:∀x∈l,∀y∈l,p (x,y,())
structure x1m (f:Int->Int->Int) (l:List Int) (i j:Nat) (r:List Int):Prop where
 le:j<=i
 len:r.length=l.length
 sub:∀x∈r,x∈l
 eq:q1w f j r=q0y f l i
def yy1 (T:q6v) (l:List Int) (f:Int->Int->Int):Nat->Option Inv
 | 0=>some (Inv.of [0,8] 1 (λi:Nat=>[(0,.msl 0 (some 0)),(8,.lit (.int .i64 i))]) (λi=>[.mat 0 3 (.int .i64) [q0y f l (i-1)] (some []) (some T)]) (λi=>1<=i/\(i<=l.length\/i=1)) (λi=>l.length-i))
 | 1=>some (Eng.Inv.mk Nat (Nat × List Int) [0,9] 1 (λ_ s=>[(0,.msl 0 (some 0)),(9,.lit (.int .i64 s.1))]) (λ_ s=>[.mat 0 3 (.int .i64) [s.2] (some []) (some T)]) (λi s=>x1m f l i s.1 s.2) (λ_ s=>s.1))
 | _=>none
abbrev y4z:MSpec:=q5h (wu5 [] [.d qc0,.d qc0,yy0]) false false 0 3 (.int .i64) (λrows x=>x.1=0/\x.2.1=(nL rows 0).length/\wn7 (nL rows 0) x.2.2.1.1) (λ_ _=>.tup .nil) (λrows x=>[insL (fn2 x.2.2.1.2) (nL rows 0)])
theorem xk8:qo7 Tryz.prog 236 y4z:=by
 refine q1t (yc9 (SpecsOk.nil _) MutsOk.nil) Tryz.func236 rfl rfl (q4i (SpecsOk.nil _) _) (λT rows x=>yy1 T (nL rows 0) (fn2 x.2.2.1.2)) (λ_ _ _=>by kernel_rfl) dc ?_ rfl
 rintro T rows ⟨a,b,⟨p,g⟩,⟨⟩⟩ h hone
 obtain⟨l,rfl⟩:∃l:List Int,rows=[l]:=by
  have h1:=hone rfl
  match rows,h1 with
  | [l],_=>simp
 have h:a=0/\b=l.length/\wn7 l p:=h
 obtain⟨rfl,rfl,hs⟩:=h
 refine vcs (fits .i64 ((0:PTy.den (PTy.d qc0))+(1:Int))/\∃(v0:Unit),∃(v1:Nat),((1:Nat)<=v1/\(v1<=(nL [l] (0:Nat)).length\/v1=(1:Nat)))/\((some (0:Nat)=some (0:Nat)/\(0:PTy.den (PTy.d qc0))+(1:Int)=(↑v1:Int)/\True)/\([l]=[q0y (fn2 g) (nL [l] (0:Nat)) (v1-(1:Nat))]/\True/\T=T)/\True)/\∀(v2:Nat),(1:Nat)<=v2/\(v2<=(nL [l] (0:Nat)).length\/v2=(1:Nat))->(decide ((↑v2:Int)<(↑l.length:PTy.den (PTy.d qc0)))=true->∃(v5:Nat),∃(v6:Nat × List Int),x1m (fn2 g) (nL [l] (0:Nat)) v5 v6.1 v6.2/\((some (0:Nat)=some (0:Nat)/\(↑v2:Int)=(↑v6.1:Int)/\True)/\([q0y (fn2 g) (nL [l] (0:Nat)) (v2-(1:Nat))]=[v6.2]/\True/\T=T)/\True)/\∀(v7:Nat × List Int),x1m (fn2 g) (nL [l] (0:Nat)) v5 v7.1 v7.2->(decide ((0:PTy.den (PTy.d qc0))<(↑v7.1:Int))=true->((0:Int)<=(↑v7.1:Int)/\(↑v7.1:Int)<(↑(nL [v7.2] (0:Nat)).length:Int))/\(↑v7.1:Int).toNat<(nL [v7.2] (0:Nat)).length/\fits .i64 ((↑v7.1:Int)-(1:Int))/\((0:Int)<=(↑v7.1:Int)-(1:Int)/\(↑v7.1:Int)-(1:Int)<(↑(nL [v7.2] (0:Nat)).length:Int))/\((↑v7.1:Int)-(1:Int)).toNat<(nL [v7.2] (0:Nat)).length/\p (nI (nL [v7.2] (0:Nat)) (↑v7.1:Int).toNat,nI (nL [v7.2] (0:Nat)) ((↑v7.1:Int)-(1:Int)).toNat,())/\(decide (g (nI (nL [v7.2] (0:Nat)) (↑v7.1:Int).toNat,nI (nL [v7.2] (0:Nat)) ((↑v7.1:Int)-(1:Int)).toNat,())<(0:Int))=true->fits .i64 ((↑v7.1:Int)-(1:Int))/\fits .i64 ((↑v7.1:Int)-(1:Int))/\((0:Int)<=(↑v7.1:Int)-(1:Int)/\(↑v7.1:Int)-(1:Int)<(↑(nL [v7.2] (0:Nat)).length:Int))/\((↑v7.1:Int)-(1:Int)).toNat<(nL [v7.2] (0:Nat)).length/\((0:Int)<=(↑v7.1:Int)/\(↑v7.1:Int)<(↑(nL [v7.2] (0:Nat)).length:Int))/\(↑v7.1:Int).toNat<(nL [v7.2] (0:Nat)).length/\((0:Int)<=(↑v7.1:Int)/\(↑v7.1:Int)<(↑(nL [v7.2] (0:Nat)).length:Int))/\(↑v7.1:Int).toNat<(nL [v7.2] (0:Nat)).length/\((0:Int)<=(↑v7.1:Int)-(1:Int)/\(↑v7.1:Int)-(1:Int)<(↑(nL (List.set [v7.2] (0:Nat) (List.set (nL [v7.2] (0:Nat)) (↑v7.1:Int).toNat (nI (nL [v7.2] (0:Nat)) ((↑v7.1:Int)-(1:Int)).toNat))) (0:Nat)).length:Int))/\((↑v7.1:Int)-(1:Int)).toNat<(nL (List.set [v7.2] (0:Nat) (List.set (nL [v7.2] (0:Nat)) (↑v7.1:Int).toNat (nI (nL [v7.2] (0:Nat)) ((↑v7.1:Int)-(1:Int)).toNat))) (0:Nat)).length/\fits .i64 ((↑v7.1:Int)-(1:Int))/\∃(v11:Nat × List Int),x1m (fn2 g) (nL [l] (0:Nat)) v5 v11.1 v11.2/\v11.1<v7.1/\(some (0:Nat)=some (0:Nat)/\(↑v7.1:Int)-(1:Int)=(↑v11.1:Int)/\True)/\(List.set (List.set [v7.2] (0:Nat) (List.set (nL [v7.2] (0:Nat)) (↑v7.1:Int).toNat (nI (nL [v7.2] (0:Nat)) ((↑v7.1:Int)-(1:Int)).toNat))) (0:Nat) (List.set (nL (List.set [v7.2] (0:Nat) (List.set (nL [v7.2] (0:Nat)) (↑v7.1:Int).toNat (nI (nL [v7.2] (0:Nat)) ((↑v7.1:Int)-(1:Int)).toNat))) (0:Nat)) ((↑v7.1:Int)-(1:Int)).toNat (nI (nL [v7.2] (0:Nat)) (↑v7.1:Int).toNat))=[v11.2]/\True/\T=T)/\True)/\(decide (g (nI (nL [v7.2] (0:Nat)) (↑v7.1:Int).toNat,nI (nL [v7.2] (0:Nat)) ((↑v7.1:Int)-(1:Int)).toNat,())<(0:Int))=false->fits .i64 ((↑v2:Int)+(1:Int))/\∃(v11:Nat),((1:Nat)<=v11/\(v11<=(nL [l] (0:Nat)).length\/v11=(1:Nat)))/\(nL [l] (0:Nat)).length-v11<(nL [l] (0:Nat)).length-v2/\(some (0:Nat)=some (0:Nat)/\(↑v2:Int)+(1:Int)=(↑v11:Int)/\True)/\([v7.2]=[q0y (fn2 g) (nL [l] (0:Nat)) (v11-(1:Nat))]/\True/\T=T)/\True))/\(decide ((0:PTy.den (PTy.d qc0))<(↑v7.1:Int))=false->fits .i64 ((↑v2:Int)+(1:Int))/\∃(v10:Nat),((1:Nat)<=v10/\(v10<=(nL [l] (0:Nat)).length\/v10=(1:Nat)))/\(nL [l] (0:Nat)).length-v10<(nL [l] (0:Nat)).length-v2/\(some (0:Nat)=some (0:Nat)/\(↑v2:Int)+(1:Int)=(↑v10:Int)/\True)/\([v7.2]=[q0y (fn2 g) (nL [l] (0:Nat)) (v10-(1:Nat))]/\True/\T=T)/\True))/\(decide ((↑v2:Int)<(↑l.length:PTy.den (PTy.d qc0)))=false->[q0y (fn2 g) (nL [l] (0:Nat)) (v2-(1:Nat))]=[insL (fn2 g) (nL [l] (0:Nat))]/\T=T/\True/\True)) ?_
 have hl:=hs.len
 refine⟨qa6 dc dc,(),1,⟨zac _,.inr rfl⟩,⟨rfl,rfl⟩,λi hi=>⟨λhlt=>?_,λhge=>?_⟩⟩
 ·have k1:=q2u (fn2 g) l (i-1) ow
  refine⟨i,(i,q0y (fn2 g) l (i-1)),⟨zac _,k1.1,k1.2,?_⟩,⟨rfl,rfl⟩,?_⟩
  ·grind [x1l]
  rintro⟨j,r⟩ ⟨h1,h2,h3,h4⟩
  dsimp only at h1 h2 h3 h4 ⊢
  have fin:j=0\/r=q0y (fn2 g) l i->fits IntKind.i64 (↑i+1)/\∃v11,(1<=v11/\(v11<=l.length\/v11=1))/\l.length-v11<l.length-i/\(↑i+1:Int)=↑v11/\r=q0y (fn2 g) l (v11-1):=λq=>by
   refine⟨qa6,i+1,⟨ow,.inl ow⟩,ow,ow,?_⟩
   rcases q with rfl | q
   ·exact h4
   grind
  refine⟨λh0=>?_,λh0=>fin (.inl ow)⟩
  have h0:0<(j:Int):=h0
  obtain⟨q,rfl⟩:∃q,j=q+1:=⟨j-1,ow⟩
  have e:(((q+1:Nat):Int)-1).toNat=q:=ow
  have m1:=h3 _ (q5y (l:=r) (i:=q+1) ow)
  have m2:=h3 _ (q5y (l:=r) (i:=q) ow)
  rw[e]
  refine⟨ow,ow,qa6,⟨ow,ow⟩,ow,hs.ok _ m1 _ m2,λhc=>?_,λhc=>fin (.inr ?_)⟩
  ·refine⟨qa6,qa6,⟨ow,ow⟩,ow,ow,ow,ow,ow,⟨ow,by grind⟩,by grind,qa6,(q,swp r q),⟨ow,(wn6 r q).trans h2,λx hx=>h3 x (xk7 ow x hx),?_⟩,by simp,by simp,rfl⟩
   simp_all [q1w,if_pos]
  simp_all [q1w,if_neg,Int.not_lt]
 grind [insL]
abbrev y40:MSpec:=q5h (wu5 [] [.d qc0,yy0]) false false 0 3 (.int .i64) (λrows x=>x.1=(nL rows 0).length/\wn7 (nL rows 0) x.2.1.1) (λ_ _=>.tup .nil) (λrows x=>[insL (fn2 x.2.1.2) (nL rows 0)])
def yy2 (T:q6v) (l r:List Int):Nat->Option Inv
 | 0=>some (Inv.of [0,7,8] 1 (λ_:Unit=>[(0,.msl 0 (some 0)),(7,.lit (.int .i64 0)),(8,.lit (.int .i64 20))]) (λ_=>[.mat 0 3 (.int .i64) [l] (some []) (some T)]) (λ_=>True) (λ_=>0))
 | 1=>some (Inv.of [0,6] 1 (λ_:Unit=>[(0,.msl 0 (some 0)),(6,.lit (.int .i64 20))]) (λ_=>[.mat 0 3 (.int .i64) [r] (some []) (some T)]) (λ_=>True) (λ_=>0))
 | 2=>some (Inv.of [] 0 (λ_:Unit=>[]) (λ_=>[]) (λ_=>True) (λ_=>0))
 | _=>none
theorem xk9:qo7 Tryz.prog 181 y40:=by
 refine q1t (yc9 (SpecsOk.nil _) (MutsOk.cons xk8 MutsOk.nil)) Tryz.func181 rfl rfl (q4i (SpecsOk.nil _) _) (λT rows x=>yy2 T (nL rows 0) (insL (fn2 x.2.1.2) (nL rows 0))) (λ_ _ _=>by kernel_rfl) dc ?_ rfl
 rintro T rows ⟨a,⟨p,g⟩,⟨⟩⟩ h hone
 obtain⟨l,rfl⟩:∃l:List Int,rows=[l]:=by
  have h1:=hone rfl
  match rows,h1 with
  | [l],_=>simp
 have h:a=l.length/\wn7 l p:=h
 obtain⟨rfl,hs⟩:=h
 refine vcs (∃(v0:Unit),∃(v1:Unit),True/\((some (0:Nat)=some (0:Nat)/\(0:Int)=(0:Int)/\(20:Int)=(20:Int)/\True)/\([l]=[nL [l] (0:Nat)]/\True/\T=T)/\True)/\∀(x:Unit),True->(decide ((20:Int)<=(↑l.length:PTy.den (PTy.d qc0)))=true->∃(v5:qa3 [qc0,qc0]->Prop),∃(v6:qa3 [qc0,qc0]->Int),([qc0,qc0]=[qc0,qc0]/\qc0=qc0/\p ≍ v5/\g ≍ v6)/\((0:Int)=(0:PTy.den (PTy.d qc0))/\(20:Int)=(↑(nL [nL [nL [l] (0:Nat)] (0:Nat)] (0:Nat)).length:PTy.den (PTy.d qc0))/\wn7 (nL [nL [nL [l] (0:Nat)] (0:Nat)] (0:Nat)) v5)/\fits .i64 (40:Int)/\∃(v7:Unit),True/\(0:Nat)<(0:Nat)/\(some (0:Nat)=some (0:Nat)/\(20:Int)=(0:Int)/\(40:Int)=(20:Int)/\True)/\(List.set [nL [l] (0:Nat)] (0:Nat) (nL [insL (fn2 v6) (nL [nL [nL [l] (0:Nat)] (0:Nat)] (0:Nat))] (0:Nat))=[nL [l] (0:Nat)]/\True/\T=T)/\True)/\(decide ((20:Int)<=(↑l.length:PTy.den (PTy.d qc0)))=false->∃(v5:qa3 [qc0,qc0]->Prop),∃(v6:qa3 [qc0,qc0]->Int),([qc0,qc0]=[qc0,qc0]/\qc0=qc0/\p ≍ v5/\g ≍ v6)/\((0:Int)=(0:PTy.den (PTy.d qc0))/\(↑l.length:PTy.den (PTy.d qc0))=(↑(nL [nL [nL [l] (0:Nat)] (0:Nat)] (0:Nat)).length:PTy.den (PTy.d qc0))/\wn7 (nL [nL [nL [l] (0:Nat)] (0:Nat)] (0:Nat)) v5)/\∃(v7:Unit),∃(v8:Unit),True/\((some (0:Nat)=some (0:Nat)/\(20:Int)=(20:Int)/\True)/\(List.set [nL [l] (0:Nat)] (0:Nat) (nL [insL (fn2 v6) (nL [nL [nL [l] (0:Nat)] (0:Nat)] (0:Nat))] (0:Nat))=[insL (fn2 g) (nL [l] (0:Nat))]/\True/\T=T)/\True)/\∀(x:Unit),True->(decide ((20:Int)<(↑l.length:PTy.den (PTy.d qc0)))=true->fits .i64 (40:Int)/\∃(v12:Unit),∃(v13:Unit),True/\(True/\True)/\∀(x:Unit),True->False)/\(decide ((20:Int)<(↑l.length:PTy.den (PTy.d qc0)))=false->[insL (fn2 g) (nL [l] (0:Nat))]=[insL (fn2 g) (nL [l] (0:Nat))]/\T=T/\True/\True))) ?_
 have hl:=hs.len
 refine⟨(),(),λ_=>⟨λh20=>absurd h20 ow,λ_=>⟨p,g,⟨HEq.rfl,HEq.rfl⟩,hs,(),(),rfl,λ_ h20=>absurd h20 ow⟩⟩⟩
abbrev y41:MSpec:=q5h (wu5 [] [yy0]) false false 0 3 (.int .i64) (λrows x=>wn7 (nL rows 0) x.1.1) (λ_ _=>.tup .nil) (λrows x=>[insL (fn2 x.1.2) (nL rows 0)])
theorem w8c:qo7 Tryz.prog 134 y41:=by
 refine q1t (yc9 (SpecsOk.nil _) (MutsOk.cons xk9 MutsOk.nil)) Tryz.func134 rfl rfl (q4i (SpecsOk.nil _) _) (λ_ _ _ _=>none) (λ_ _ _=>by kernel_rfl) dc ?_ rfl
 rintro T rows ⟨⟨p,g⟩,⟨⟩⟩ h hone
 obtain⟨l,rfl⟩:∃l:List Int,rows=[l]:=by
  have h1:=hone rfl
  match rows,h1 with
  | [l],_=>simp
 have hs:wn7 l p:=h
 refine vcs (∃(v0:qa3 [qc0,qc0]->Prop),∃(v1:qa3 [qc0,qc0]->Int),([qc0,qc0]=[qc0,qc0]/\qc0=qc0/\p ≍ v0/\g ≍ v1)/\((↑(nL [l] (0:Nat)).length:Int)=(↑(nL [nL [l] (0:Nat)] (0:Nat)).length:PTy.den (PTy.d qc0))/\wn7 (nL [nL [l] (0:Nat)] (0:Nat)) v0)/\List.set [l] (0:Nat) (nL [insL (fn2 v1) (nL [nL [l] (0:Nat)] (0:Nat))] (0:Nat))=[insL (fn2 g) (nL [l] (0:Nat))]/\T=T/\True/\True) ?_
 grind
def q65 (h:List Int) (x y:Int):Int:=qd6 (nI h y.toNat)-qd6 (nI h x.toNat)
abbrev yh3:qa8:=hspec [] true none [.d qc0,.d qc0,.cap qe8] [qc0] (λx=>HOk x.2.2.1/\(0<=x.1/\x.1<x.2.2.1.length)/\0<=x.2.1/\x.2.1<x.2.2.1.length) (λx=>(q65 x.2.2.1 x.1 x.2.1,()))
theorem w8d:Meets Tryz.prog 135 yh3:=by
 refine qk7 (SpecsOk.nil _) (snd (SpecsOk.cons q0x (SpecsOk.nil _))) Tryz.func135 rfl rfl (λ_ _=>none) (λ_=>by kernel_rfl) dc ?_
 rintro⟨a,b,h,⟨⟩⟩ hh
 revert a b h
 intro(a:Int) (b:Int) (h:List Int) (hh:HOk h/\(0<=a/\a<h.length)/\0<=b/\b<h.length)
 refine vcs (((0:Int)<=b/\b<(↑h.length:Int))/\qd8 (1000000000:Int) (nI h b.toNat)/\((0:Int)<=a/\a<(↑h.length:Int))/\qd8 (1000000000:Int) (nI h a.toNat)/\fits .i64 (qd6 (nI h b.toNat)-qd6 (nI h a.toNat))/\qd6 (nI h b.toNat)-qd6 (nI h a.toNat)=q65 h a b) ?_
 have h1:=hh.1.sm a.toNat
 have h2:=hh.1.sm b.toNat
 have h3:qd6 (nI h a.toNat)=(nI h a.toNat).natAbs:=rfl
 have h4:qd6 (nI h b.toNat)=(nI h b.toNat).natAbs:=rfl
 unfold qd8 at *
 exact⟨hh.2.2,⟨ow,ow⟩,hh.2.1,⟨ow,ow⟩,qa6,rfl⟩
def qi7 (h:List Int) (k:Nat):List Int:=((insL (q65 h) (qq8 h.length)).take k).mergeSort λx y=>decide (x<=y)
structure xl0 (h:List Int) (k:Int):Prop where
 ok:HOk h
 len:h.length<=19
 pos:1<=h.length
 k0:0<=k
 k1:k<=h.length
abbrev y42:qa8:=qd9 true none [qe8,qc0] [qe8] (λx=>xl0 x.1 x.2.1) (λx=>(qi7 x.1 x.2.1.toNat,()))
end Go.Proofs.YtnchigbbjajiiaaGreat
