/- The places of the greatest sizes: contracts by the engine. No condition. -/
import Derived.Test.YtnchigbbjajiiaaGreatQ1
import Derived.Test.YtnchigbbjajiiaaGreatN20
import Derived.Test.YtnchigbbjajiiaaGreatEngU
set_option linter.unusedVariables false
set_option linter.unusedSimpArgs false
namespace Go.Proofs.YtnchigbbjajiiaaGreat
open Go Go.RowKit Eng
def BxsOk (bxs:List (Nat × q3y)):Prop:=∀f B,find bxs f=some B->q5c Tryz.prog f B
theorem BxsOk.nil:BxsOk []:=λf M h=>by cases h
theorem BxsOk.cons {f:Nat} {B:q3y} {l:List (Nat × q3y)} (h:q5c Tryz.prog f B) (k:BxsOk l):BxsOk ((f,B) :: l):=by
 intro g S hg
 simp only[find] at hg
 split at hg
 ·simp_all
 ·exact k g S hg
def ys5 (specs:List (Nat × qa8)) (its:List (Nat × qz6)) (bxs:List (Nat × q3y)):Ctx:={ specs:=specs,tys:=tys,wr:=[],its:=its,bxs:=bxs }
theorem ys6 {specs:List (Nat × qa8)} {its:List (Nat × qz6)} {bxs:List (Nat × q3y)} (h:SpecsOk Tryz.prog specs) (hi:ItsOk its) (hb:BxsOk bxs):Sound Tryz.prog (ys5 specs its bxs):=SpecsOk.sound h qz5 kr hi (hbx:=hb)
def q5m (x:Int):Int:=(x.natAbs:Int)
theorem xs5 (x:Int):max x (0-x)=q5m x:=by grind [q5m]
def wh1 (h:List Int):Nat->Int
 | 0=>0
 | k+1=>wh1 h k+q5m (nI h k)
def szL (h:List Int):Int:=wh1 h h.length
def qv2 (h pix:List Int):Nat->Int
 | 0=>0
 | k+1=>qv2 h pix k+q5m (nI h (nI pix k).toNat)
def inL (h pix:List Int):Int:=qv2 h pix pix.length
structure HOk (h:List Int):Prop where
 len:h.length<=100
 sm:∀i,qd8 1000000 (nI h i)
theorem q40 {h:List Int} (hh:HOk h):∀k,0<=wh1 h k/\wh1 h k<=1000000*k
 | 0=>⟨zd7 _,by simp[wh1]⟩
 | k+1=>by
  have h1:=q40 hh k
  have h2:=hh.sm k
  unfold qd8 at h2
  grind [wh1,q5m]
theorem q41 {h pix:List Int} (hh:HOk h):∀k,0<=qv2 h pix k/\qv2 h pix k<=1000000*k
 | 0=>⟨zd7 _,by simp[qv2]⟩
 | k+1=>by
  have h1:=q41 (pix:=pix) hh k
  have h2:=hh.sm (nI pix k).toNat
  unfold qd8 at h2
  grind [qv2,q5m]
abbrev yd3:qa8:=qe4 true none [qb9] [qb9] (λx=>qd8 1000000000 x.1) (λx=>(q5m x.1,()))
theorem q2t:Meets Tryz.prog 112 yd3:=by
 refine mt0 (SpecsOk.nil _) Tryz.func112 ?_
 rintro⟨x,⟨⟩⟩ h
 revert x
 intro(x:Int) (h:qd8 1000000000 x)
 refine vcs (fits .i64 ((0:Int)-x)/\max2 true x ((0:Int)-x)=q5m x) ?_
 unfold qd8 at h
 exact⟨qa7,xs5 x⟩
def ys7 (h:List Int):Nat->Option Inv
 | 0=>some (Inv.of [3,8] 0 (λk:Nat=>[(3,.lit (.int .i64 (wh1 h k))),(8,.lit (.int .i64 k))]) (λ_=>[]) (λk=>k<=h.length) (λk=>h.length-k))
 | _=>none
abbrev x6h:qa8:=qe4 true none [qd4] [qb9] (λx=>HOk x.1) (λx=>(szL x.1,()))
theorem ws7:Meets Tryz.prog 180 x6h:=by
 refine mts (SpecsOk.cons q2t (SpecsOk.nil _)) Tryz.func180 (λx=>ys7 x.1) ?_
 rintro⟨h,⟨⟩⟩ hh
 revert h
 intro(h:List Int) (hh:HOk h)
 refine vcs (∃(v0:Unit),∃(v1:Nat),Nat.le v1 h.length/\(((0:Int)=wh1 h v1/\(0:Int)=(↑v1:Int)/\True)/\True)/\∀(v2:Nat),Nat.le v2 h.length->(decide ((↑v2:Int)<(↑h.length:Int))=true->((0:Int)<=(↑v2:Int)/\(↑v2:Int)<(↑h.length:Int))/\qd8 (1000000000:Int) (nI h v2)/\fits .i64 (wh1 h v2+q5m (nI h v2))/\fits .i64 ((↑v2:Int)+(1:Int))/\∃(v5:Nat),Nat.le v5 h.length/\h.length-v5<h.length-v2/\(wh1 h v2+q5m (nI h v2)=wh1 h v5/\(↑v2:Int)+(1:Int)=(↑v5:Int)/\True)/\True)/\(decide ((↑v2:Int)<(↑h.length:Int))=false->wh1 h v2=szL h)) ?_
 have hl:=hh.len
 refine⟨(),0,zae _,⟨rfl,rfl⟩,λk hk=>⟨λhlt=>?_,λhge=>?_⟩⟩
 ·have h1:=q40 hh k
  have h2:=q40 hh (k+1)
  have h3:=hh.sm k
  unfold qd8 at h3
  have e:wh1 h k+q5m (nI h k)=wh1 h (k+1):=rfl
  exact⟨hlt,ow,qa7,qa7,k+1,hlt,ow,e,by rfl⟩
 ·obtain rfl:k=h.length:=ow
  rfl
def shR (h pix:List Int):Int × Int:=ofR (inL h pix) (szL h)
structure x2w (h pix:List Int):Prop where
 ok:HOk h
 len:pix.length<=100
 at_:∀j,j<pix.length->0<=nI pix j/\nI pix j<h.length
 ne:szL h≠0
def yd4 (h pix:List Int):Nat->Option Inv
 | 0=>some (Inv.of [5,10] 1 (λk:Nat=>[(5,.lit (.int .i64 (qv2 h pix k))),(10,.lit (.int .i64 k))]) (λ_=>[.box 43 (.cons (.lit (.int .i64 0)) (.cons (.lit (.int .i64 0)) .nil))]) (λk=>k<=pix.length) (λk=>pix.length-k))
 | _=>none
abbrev ys8:qa8:=qe4 true none [qd4,qd4] [qy8] (λx=>x2w x.1 x.2.1) (λx=>(shR x.1 x.2.1,()))
theorem w5o:Meets Tryz.prog 132 ys8:=by
 refine mts (SpecsOk.cons q2t (SpecsOk.cons ws7 (SpecsOk.cons wc5 (SpecsOk.nil _)))) Tryz.func132 (λx=>yd4 x.1 x.2.1) ?_
 rintro⟨h,p,⟨⟩⟩ hh
 revert h p
 intro(h:List Int) (p:List Int) (hh:x2w h p)
 refine vcs (∃(v0:Unit),∃(v1:Nat),Nat.le v1 p.length/\(((0:Int)=qv2 h p v1/\(0:Int)=(↑v1:Int)/\True)/\((0:Int)=(0:Int)/\(0:Int)=(0:Int)/\True)/\True)/\∀(v2:Nat),Nat.le v2 p.length->(decide ((↑v2:Int)<(↑p.length:Int))=true->((0:Int)<=(↑v2:Int)/\(↑v2:Int)<(↑p.length:Int))/\((0:Int)<=nI p v2/\nI p v2<(↑h.length:Int))/\qd8 (1000000000:Int) (nI h (nI p v2).toNat)/\fits .i64 (qv2 h p v2+q5m (nI h (nI p v2).toNat))/\fits .i64 ((↑v2:Int)+(1:Int))/\∃(v5:Nat),Nat.le v5 p.length/\p.length-v5<p.length-v2/\(qv2 h p v2+q5m (nI h (nI p v2).toNat)=qv2 h p v5/\(↑v2:Int)+(1:Int)=(↑v5:Int)/\True)/\((0:Int)=(0:Int)/\(0:Int)=(0:Int)/\True)/\True)/\(decide ((↑v2:Int)<(↑p.length:Int))=false->HOk h/\(((-4000000000000000000:Int)<=qv2 h p v2/\qv2 h p v2<=BIG)/\((-4000000000000000000:Int)<=szL h/\szL h<=BIG)/\szL h≠(0:Ty.den qb9))/\(ofR (qv2 h p v2) (szL h)).1=(shR h p).1/\(ofR (qv2 h p v2) (szL h)).2=(shR h p).2/\True)) ?_
 have hl:=hh.len
 have hb:=hh.ok.len
 refine⟨(),0,zae _,⟨rfl,rfl⟩,λk hk=>⟨λhlt=>?_,λhge=>?_⟩⟩
 ·have h1:=q41 (pix:=p) hh.ok k
  have h2:=q41 (pix:=p) hh.ok (k+1)
  have h3:=hh.ok.sm (nI p k).toNat
  have h4:=hh.at_ k hlt
  unfold qd8 at h3
  have e:qv2 h p k+q5m (nI h (nI p k).toNat)=qv2 h p (k+1):=rfl
  exact⟨hlt,h4,ow,qa7,qa7,k+1,hlt,ow,e,by rfl⟩
 ·obtain rfl:k=p.length:=ow
  have h1:=q41 (pix:=p) hh.ok p.length
  have h2:=q40 hh.ok h.length
  have h3:=hh.ne
  have e:szL h=wh1 h h.length:=rfl
  unfold BIG
  exact⟨hh.ok,⟨⟨ow,ow⟩,⟨ow,ow⟩,h3⟩,rfl,rfl⟩
open Go Go.RowKit Eng Ls
abbrev yd5:qa8:=qe4 true none [] [qy8] (λ_=>True) (λ_=>((0,1),()))
theorem wy8:Meets Tryz.prog 192 yd5:=by
 refine mt0 (SpecsOk.nil _) Tryz.func192 ?_
 rintro⟨⟩ -
 refine vcr ((0:Int)=(0:Int)/\(1:Int)=(1:Int)/\True) ?_
 simp
abbrev x6i:qa8:=qe4 true none [qy8,qy8] [.bool] (λx=>q4y x.1/\q4y x.2.1) (λx=>(decide (0<xc8 x.2.1 x.1),()))
theorem ws8:Meets Tryz.prog 194 x6i:=by
 refine mt0 (SpecsOk.cons w5n (SpecsOk.nil _)) Tryz.func194 ?_
 rintro⟨⟨a,b⟩,⟨c,d⟩,⟨⟩⟩ h
 revert a b c d
 intro(a:Int) (b:Int) (c:Int) (d:Int) (h:q4y (a,b)/\q4y (c,d))
 refine vcr ((q4y (c,d)/\q4y (a,b))/\decide ((0:Int)<xc8 (c,d) (a,b))=decide ((0:Int)<xc8 (c,d) (a,b))) ?_
 grind
def xs6 (best x:Int × Int):Int × Int:=if 0<xc8 x best then x else best
abbrev ys9:q3y:=x6f (q0m [qy8]) 43 1 qy8 (λb x=>q4y b/\q4y x.1) (λb x=>q8k .bool (decide (0<xc8 x.1 b))) (λb x=>xs6 b x.1)
theorem wy9 (w:World) (o:Obj) {b:Nat} (h:b<w.heap.size):(w.alloc o).heap[b]? = w.heap[b]?:=by
 show(w.heap.push o)[b]? = _
 grind
theorem yt0 {w:World} {b t:Nat} {p q:Int} (h:w.heap[b]? = some (.cells #[.int .i64 p,.int .i64 q] t (0,0))):w.cell? ⟨b,0,none⟩=some (.int .i64 p)/\w.cell? ⟨b,1,none⟩=some (.int .i64 q)/\w.frozen? ⟨b,0,none⟩=false/\w.frozen? ⟨b,1,none⟩=false:=by
 simp[World.cell?,World.frozen?,h]
theorem yj8 (x y:Int):∀v∈[Value.int .i64 x,.int .i64 y],Value.oneCell' v=true:=λv hv=>by
 rcases zao.1 hv with rfl | hv
 ·rfl
 ·rcases zao.1 hv with rfl | hv
  ·rfl
  grind
theorem wz3 {a b c d:Int} (h1:q4y (a,b)) (h2:q4y (c,d)) (w:World):Calls Tryz.prog 194 #[.agg #[.int .i64 a,.int .i64 b],.agg #[.int .i64 c,.int .i64 d]] w λe w'=>e=.returned (.bool (decide (0<xc8 (c,d) (a,b))))/\Below w.heap.size w w':=by
 have hx:qs9 (λb=>w.heap[b]?) [qy8,qy8] ((a,b),(c,d),()) [.agg #[.int .i64 a,.int .i64 b],.agg #[.int .i64 c,.int .i64 d]]:=⟨_,_,rfl,⟨[.int .i64 a,.int .i64 b],rfl,[_],[_],rfl,rfl,rfl⟩,_,_,rfl,⟨[.int .i64 c,.int .i64 d],rfl,[_],[_],rfl,rfl,rfl⟩,rfl⟩
 refine(w1o (x:=(((a,b),(c,d),()):qa3 [qy8,qy8])) ws8 (View.full_on w) ⟨h1,h2⟩ hx).mono λe w' ⟨v,m',e1,e2,_,_,e5⟩=>⟨?_,e2⟩
 have e5:[v]=[.bool (decide (0<xc8 (c,d) (a,b)))]:=e5
 grind
theorem w5p:q5c Tryz.prog 193 ys9:=by
 refine⟨⟨_,_,Tryz.func193,rfl,rfl⟩,λw m b cs us args vs k hm hbm hcell hone hcs hargs hrun=>?_⟩
 obtain⟨(pq:Int × Int),hrun,hx⟩:=ws5 hrun hcs
 obtain⟨⟨(xy:Int × Int),⟨⟩⟩,⟨hp,hk⟩,hy⟩:=qj3 hrun hargs
 obtain⟨p,q⟩:=pq
 obtain⟨x,y⟩:=xy
 obtain⟨u1,u2,rfl,x1,x2⟩:=hx
 obtain rfl:u1=[.int .i64 p]:=x1
 obtain rfl:u2=[.int .i64 q]:=x2
 obtain⟨v,vs2,rfl,⟨cc,rfl,u3,u4,rfl,y1,y2⟩,y3⟩:=hy
 obtain rfl:vs2=[]:=y3
 obtain rfl:u3=[.int .i64 x]:=y1
 obtain rfl:u4=[.int .i64 y]:=y2
 have hp:q4y (p,q)/\q4y (x,y):=hp
 show Calls Tryz.prog 193 #[.agg #[.int .i64 x,.int .i64 y],.pointer (some ⟨b,0,none⟩)] w _
 have c0:w.cell? ⟨b,0,none⟩=some (.int .i64 p):=by grind [World.cell?]
 have c1:w.cell? ⟨b,1,none⟩=some (.int .i64 q):=by grind [World.cell?]
 have hlt:b<w.heap.size:=(zal.1 hcell).1
 have hcl:w.heap[b]? = some (.cells #[.int .i64 p,.int .i64 q] 43 (0,0)):=hcell
 have sz1:(w.alloc (.cells #[.int .i64 x,.int .i64 y] 43 (0,0))).heap.size=w.heap.size+1:=Array.size_push ..
 have n0:(w.alloc (.cells #[.int .i64 x,.int .i64 y] 43 (0,0))).cell? ⟨w.heap.size,0,none⟩=some (.int .i64 x):=by simp
 have n1:(w.alloc (.cells #[.int .i64 x,.int .i64 y] 43 (0,0))).cell? ⟨w.heap.size,1,none⟩=some (.int .i64 y):=by simp
 go_enter Tryz.func193,Tryz.ntmps193
 go_wp2_with (go_at_call 194; refine(wz3 hp.1 hp.2 _).mono ?_; rintro e w1 ⟨rfl,hb1⟩; have hn0:=Below.cell_of hb1 n0; have hn1:=Below.cell_of hb1 n1; have hw1:w1.heap[b]? = some (.cells #[.int .i64 p,.int .i64 q] 43 (0,0)):=(hb1.block b ow).trans ((wy9 w _ hlt).trans hcl); obtain⟨q0,q1,f0,f1⟩:=yt0 hw1)
 all_goals
  have hB:Below w.heap.size w w1:=Ls.step_trans (Ls.below_alloc w _) hb1
  have hmw:∀W:World,Kept (λx=>x=b) w W->m.on W:=λW hK x o hx=>(hK.block x ⟨View.lt hm hx,λe=>by grind⟩).trans (hm x o hx)
  have hK1:Kept (λx=>x=b) w w1:=⟨hB.os,hB.tape,hB.output,hB.size,λx hx=>hB.block x hx.1⟩
  rename_i hc
  go_ret
 ·have hK2:Kept (λx=>x=b) w ((w1.setCell ⟨b,0,none⟩ (.int .i64 x)).setCell ⟨b,1,none⟩ (.int .i64 y)):=⟨hB.os,hB.tape,hB.output,by simpa[World.setCell] using hB.size,λk hk=>(zcy _ _ _ _ (λe=>hk.2 e)).trans ((zcy _ _ _ _ (λe=>hk.2 e)).trans (hB.block k hk.1))⟩
  have ht:xs6 (p,q) (x,y)=(x,y):=zap hc
  have hfin:((w1.setCell ⟨b,0,none⟩ (.int .i64 x)).setCell ⟨b,1,none⟩ (.int .i64 y)).heap[b]? = some (.cells #[.int .i64 x,.int .i64 y] 43 (0,0)):=by grind [World.setCell]
  rw[ht,zbk hc] at hk
  exact⟨.bool true,m,q8k .bool true,qi3 qy8 (x,y) .nil,[.int .i64 x,.int .i64 y],rfl,hK2,View.le_refl m,hmw _ hK2,λz o hz=>.inl hz,hfin,yj8 _ _,rfl,⟨_,_,rfl,rfl,_,_,rfl,rfl,rfl⟩,hk⟩
 ·have hc:¬0<xc8 (x,y) (p,q):=ow
  have ht:xs6 (p,q) (x,y)=(p,q):=zai hc
  rw[ht,zbr hc] at hk
  exact⟨.bool false,m,q8k .bool false,qi3 qy8 (p,q) .nil,[.int .i64 p,.int .i64 q],rfl,hK1,View.le_refl m,hmw _ hK1,λz o hz=>.inl hz,hw1,yj8 _ _,rfl,⟨_,_,rfl,rfl,_,_,rfl,rfl,rfl⟩,hk⟩
abbrev yt1:qa8:=hspec [] true none [.cap qy8] [qy8] (λ_=>True) (λx=>(x.1,()))
theorem w5q:Meets Tryz.prog 195 yt1:=by
 refine qi4 (SpecsOk.nil _) (snd (SpecsOk.nil _)) Tryz.func195 rfl rfl (λ_ _=>none) (λ_=>by kernel_rfl) dc ?_
 rintro⟨⟨a,b⟩,⟨⟩⟩ -
 revert a b
 intro(a:Int) (b:Int)
 refine vcr (a=a/\b=b/\True) ?_
 simp
abbrev yt2 (g:Nat):AV:=.tup (.cons (.clo 193 (.cons (.box g 0) .nil)) (.cons (.clo 195 (.cons (.box g 0) .nil)) .nil))
abbrev sGr:qa8:=xc9 (q0m []) 43 (λ_=>True) (λ_=>yt2 0) (λ_=>.cons (.lit (.int .i64 0)) (.cons (.lit (.int .i64 1)) .nil))
theorem xd0:Meets Tryz.prog 148 sGr:=by
 refine x6g (snd (SpecsOk.cons wy8 (SpecsOk.nil _))) Tryz.func148 rfl rfl (ql4 _) (λ_ _=>none) (λ_=>by kernel_rfl) dc ?_
 rintro⟨⟩ -
 refine vcr (True/\((True/\True)/\(True/\True)/\True)/\(0:Int)=(0:Int)/\(1:Int)=(1:Int)/\True) ?_
 simp
open Go Go.RowKit Eng
structure x6j (n d:Int) (r:Int × Int):Prop where
 pos:1<=r.2
 eq:r.1*d=n*r.2
 n0:0<=r.1
 nle:r.1<=n
 dle:r.2<=d
 one:gcdI r.1 r.2=1
theorem x6k {n d:Int} (hn:0<=n) (hd:0<d):x6j n d (ofR n d):=by
 have e:ofR n d=(n.tdiv (gcdI n d),d.tdiv (gcdI n d)):=by unfold ofR; grind
 have hg:0<gcdI n d:=qu6 (.inr ow)
 have h1:gcdI n d∣n:=Int.gcd_dvd_left ..
 have h2:gcdI n d∣d:=Int.gcd_dvd_right ..
 have hgd:(gcdI n d:Int)=(Int.gcd n d:Int):=rfl
 rw[e]
 have e1:n.tdiv (gcdI n d)=n / gcdI n d:=zda hn
 have e2:d.tdiv (gcdI n d)=d / gcdI n d:=zda ow
 rw[e1,e2]
 obtain⟨a,ha⟩:=h1
 obtain⟨b,hb⟩:=h2
 have q1:n / gcdI n d=a:=by
  grind [Int.mul_ediv_cancel_left]
 have q2:d / gcdI n d=b:=by
  grind [Int.mul_ediv_cancel_left]
 have hgcd:Int.gcd a b=1:=by
  grind [Int.gcd_ediv_gcd_ediv_gcd,q1,q2]
 generalize gcdI n d=g at *
 rw[q1,q2]
 have hb1:1<=b:=by
  rcases zdi b 1 with q | q
  ·have:g*b<=0:=Int.mul_nonpos_of_nonneg_of_nonpos ow ow
   omega
  omega
 have ha0:0<=a:=by
  rcases zdi a 0 with q | q
  ·have:g*a<0:=Int.mul_neg_of_pos_of_neg hg q
   omega
  omega
 refine⟨hb1,?_,ha0,?_,?_,?_⟩
 ·grind
 ·show a<=n
  rw[ha]; have:=zc4 (a:=1) (b:=g) (c:=a) ow ha0; omega
 ·show b<=d
  rw[hb]; have:=zc4 (a:=1) (b:=g) (c:=b) ow ow; omega
 ·show((Int.gcd a b:Nat):Int)=1
  omega
theorem x2x {h:List Int} (hh:HOk h) (h0:szL h≠0):0<szL h:=by
 have:=q40 hh h.length
 have e:szL h=wh1 h h.length:=rfl
 omega
theorem x6l {h p:List Int} (hh:x2w h p):x6j (inL h p) (szL h) (shR h p):=x6k (q41 hh.ok _).1 (x2x hh.ok hh.ne)
theorem xy4 {h p:List Int} (hh:x2w h p):q4y (shR h p):=by
 have k:=x6l hh
 have h1:=(q41 (pix:=p) hh.ok p.length).2
 have h2:=(q40 hh.ok h.length).2
 have h3:=hh.len
 have h4:=hh.ok.len
 have e1:inL h p=qv2 h p p.length:=rfl
 have e2:szL h=wh1 h h.length:=rfl
 have k1:=k.pos
 have k2:=k.nle
 have k3:=k.dle
 have k4:=k.n0
 exact⟨⟨k4,ow⟩,⟨ow,ow⟩,k1⟩
theorem x6m:q4y (0,1):=⟨⟨dc,dc⟩,⟨dc,dc⟩,dc⟩
theorem x2y {a b:Int × Int} (ha:q4y a) (hb:q4y b):q4y (xs6 a b):=by grind [xs6]
abbrev yt3:qa8:=qe4 false none [qf8] [qf8] (λx=>qb6 x.1=true->wo1 x.1) (λx=>((qw9 x.1).1,()))
theorem w5r:Meets Tryz.prog 67 yt3:=by
 refine mt0 (SpecsOk.cons w85 (SpecsOk.nil _)) Tryz.func67 ?_
 rintro⟨m,⟨⟩⟩ h
 revert m
 intro(m:List (List Int)) (h:qb6 m=true->wo1 m)
 refine vcr ((qb6 m=true->wo1 m)/\(qw9 m).1=(qw9 m).1) ?_
 grind
def swp (l:List Int) (j:Nat):List Int:=(l.set (j+1) (nI l j)).set j (nI l (j+1))
def q0w (f:Int->Int->Int):Nat->List Int->List Int
 | 0,l=>l
 | j+1,l=>if f (nI l (j+1)) (nI l j)<0 then q0w f j (swp l j) else l
def qz4 (f:Int->Int->Int) (l:List Int):Nat->List Int
 | 0=>l
 | k+1=>q0w f (k+1) (qz4 f l k)
def insL (f:Int->Int->Int) (l:List Int):List Int:=qz4 f l (l.length-1)
theorem wh2 (l:List Int) (j:Nat):(swp l j).length=l.length:=by simp[swp]
theorem q42 {l:List Int} {i:Nat} (h:i<l.length):nI l i∈l:=by grind [qf2,List.getElem_mem]
theorem xd1 {l:List Int} {j:Nat} (h:j+1<l.length):∀x∈swp l j,x∈l:=λx hx=>by
 unfold swp at hx
 rcases zaw hx with hx | rfl
 ·rcases zaw hx with hx | rfl
  all_goals grind [q42]
 grind [q42]
theorem ws9 (f:Int->Int->Int):∀(j:Nat) (l:List Int),j<l.length->(q0w f j l).length=l.length/\∀x∈q0w f j l,x∈l
 | 0,l,_=>⟨rfl,λx hx=>hx⟩
 | j+1,l,h=>by
  rw[q0w]
  split
  ·have:=ws9 f j (swp l j) (by grind [wh2])
   grind [trans,wh2,xd1]
  simp
theorem q1s (f:Int->Int->Int) (l:List Int):∀k,k<l.length\/k=0->(qz4 f l k).length=l.length/\∀x∈qz4 f l k,x∈l
 | 0,_=>⟨rfl,λx hx=>hx⟩
 | k+1,h=>by
  have h1:=q1s f l k ow
  grind [ws9,qz4,trans]
theorem xs7 (f:Int->Int->Int) (l:List Int) {i:Nat} (h:1<=i):q0w f i (qz4 f l (i-1))=qz4 f l i:=by
 cases i with
 | zero=>omega
 | succ i=>rfl
abbrev yd6:PTy:=.fn [qb9,qb9] qb9
abbrev fn2 (g:qa3 [qb9,qb9]->Int) (x y:Int):Int:=g (x,y,())
structure wh3 (l:List Int) (p:qa3 [qb9,qb9]->Prop):Prop where
 len:l.length<=19
 ok:∀x∈l,∀y∈l,p (x,y,())
structure xs8 (f:Int->Int->Int) (l:List Int) (i j:Nat) (r:List Int):Prop where
 le:j<=i
 len:r.length=l.length
 sub:∀x∈r,x∈l
 eq:q0w f j r=qz4 f l i
def yd7 (T:q2v) (l:List Int) (f:Int->Int->Int):Nat->Option Inv
 | 0=>some (Inv.of [0,8] 1 (λi:Nat=>[(0,.msl 0 (some 0)),(8,.lit (.int .i64 i))]) (λi=>[.mat 0 3 (.int .i64) [qz4 f l (i-1)] (some []) (some T)]) (λi=>1<=i/\(i<=l.length\/i=1)) (λi=>l.length-i))
 | 1=>some (Eng.Inv.mk Nat (Nat × List Int) [0,9] 1 (λ_ s=>[(0,.msl 0 (some 0)),(9,.lit (.int .i64 s.1))]) (λ_ s=>[.mat 0 3 (.int .i64) [s.2] (some []) (some T)]) (λi s=>xs8 f l i s.1 s.2) (λ_ s=>s.1))
 | _=>none
abbrev yt4:MSpec:=q4e (wl9 [] [.d qb9,.d qb9,yd6]) false false 0 3 (.int .i64) (λrows x=>x.1=0/\x.2.1=(nL rows 0).length/\wh3 (nL rows 0) x.2.2.1.1) (λ_ _=>.tup .nil) (λrows x=>[insL (fn2 x.2.2.1.2) (nL rows 0)])
theorem xd2:qo6 Tryz.prog 236 yt4:=by
 refine q0q (x42 (SpecsOk.nil _) MutsOk.nil) Tryz.func236 rfl rfl (q3i (SpecsOk.nil _) _) (λT rows x=>yd7 T (nL rows 0) (fn2 x.2.2.1.2)) (λ_ _ _=>by kernel_rfl) dc ?_ rfl
 rintro T rows ⟨a,b,⟨p,g⟩,⟨⟩⟩ h hone
 obtain⟨l,rfl⟩:∃l:List Int,rows=[l]:=by
  have h1:=hone rfl
  match rows,h1 with
  | [l],_=>simp
 have h:a=0/\b=l.length/\wh3 l p:=h
 obtain⟨rfl,rfl,hs⟩:=h
 refine vcs (fits .i64 ((0:PTy.den (PTy.d qb9))+(1:Int))/\∃(v0:Unit),∃(v1:Nat),((1:Nat)<=v1/\(v1<=(nL [l] (0:Nat)).length\/v1=(1:Nat)))/\((some (0:Nat)=some (0:Nat)/\(0:PTy.den (PTy.d qb9))+(1:Int)=(↑v1:Int)/\True)/\([l]=[qz4 (fn2 g) (nL [l] (0:Nat)) (v1-(1:Nat))]/\True/\T=T)/\True)/\∀(v2:Nat),(1:Nat)<=v2/\(v2<=(nL [l] (0:Nat)).length\/v2=(1:Nat))->(decide ((↑v2:Int)<(↑l.length:PTy.den (PTy.d qb9)))=true->∃(v5:Nat),∃(v6:Nat × List Int),xs8 (fn2 g) (nL [l] (0:Nat)) v5 v6.1 v6.2/\((some (0:Nat)=some (0:Nat)/\(↑v2:Int)=(↑v6.1:Int)/\True)/\([qz4 (fn2 g) (nL [l] (0:Nat)) (v2-(1:Nat))]=[v6.2]/\True/\T=T)/\True)/\∀(v7:Nat × List Int),xs8 (fn2 g) (nL [l] (0:Nat)) v5 v7.1 v7.2->(decide ((0:PTy.den (PTy.d qb9))<(↑v7.1:Int))=true->((0:Int)<=(↑v7.1:Int)/\(↑v7.1:Int)<(↑(nL [v7.2] (0:Nat)).length:Int))/\(↑v7.1:Int).toNat<(nL [v7.2] (0:Nat)).length/\fits .i64 ((↑v7.1:Int)-(1:Int))/\((0:Int)<=(↑v7.1:Int)-(1:Int)/\(↑v7.1:Int)-(1:Int)<(↑(nL [v7.2] (0:Nat)).length:Int))/\((↑v7.1:Int)-(1:Int)).toNat<(nL [v7.2] (0:Nat)).length/\p (nI (nL [v7.2] (0:Nat)) (↑v7.1:Int).toNat,nI (nL [v7.2] (0:Nat)) ((↑v7.1:Int)-(1:Int)).toNat,())/\(decide (g (nI (nL [v7.2] (0:Nat)) (↑v7.1:Int).toNat,nI (nL [v7.2] (0:Nat)) ((↑v7.1:Int)-(1:Int)).toNat,())<(0:Int))=true->fits .i64 ((↑v7.1:Int)-(1:Int))/\fits .i64 ((↑v7.1:Int)-(1:Int))/\((0:Int)<=(↑v7.1:Int)-(1:Int)/\(↑v7.1:Int)-(1:Int)<(↑(nL [v7.2] (0:Nat)).length:Int))/\((↑v7.1:Int)-(1:Int)).toNat<(nL [v7.2] (0:Nat)).length/\((0:Int)<=(↑v7.1:Int)/\(↑v7.1:Int)<(↑(nL [v7.2] (0:Nat)).length:Int))/\(↑v7.1:Int).toNat<(nL [v7.2] (0:Nat)).length/\((0:Int)<=(↑v7.1:Int)/\(↑v7.1:Int)<(↑(nL [v7.2] (0:Nat)).length:Int))/\(↑v7.1:Int).toNat<(nL [v7.2] (0:Nat)).length/\((0:Int)<=(↑v7.1:Int)-(1:Int)/\(↑v7.1:Int)-(1:Int)<(↑(nL (List.set [v7.2] (0:Nat) (List.set (nL [v7.2] (0:Nat)) (↑v7.1:Int).toNat (nI (nL [v7.2] (0:Nat)) ((↑v7.1:Int)-(1:Int)).toNat))) (0:Nat)).length:Int))/\((↑v7.1:Int)-(1:Int)).toNat<(nL (List.set [v7.2] (0:Nat) (List.set (nL [v7.2] (0:Nat)) (↑v7.1:Int).toNat (nI (nL [v7.2] (0:Nat)) ((↑v7.1:Int)-(1:Int)).toNat))) (0:Nat)).length/\fits .i64 ((↑v7.1:Int)-(1:Int))/\∃(v11:Nat × List Int),xs8 (fn2 g) (nL [l] (0:Nat)) v5 v11.1 v11.2/\v11.1<v7.1/\(some (0:Nat)=some (0:Nat)/\(↑v7.1:Int)-(1:Int)=(↑v11.1:Int)/\True)/\(List.set (List.set [v7.2] (0:Nat) (List.set (nL [v7.2] (0:Nat)) (↑v7.1:Int).toNat (nI (nL [v7.2] (0:Nat)) ((↑v7.1:Int)-(1:Int)).toNat))) (0:Nat) (List.set (nL (List.set [v7.2] (0:Nat) (List.set (nL [v7.2] (0:Nat)) (↑v7.1:Int).toNat (nI (nL [v7.2] (0:Nat)) ((↑v7.1:Int)-(1:Int)).toNat))) (0:Nat)) ((↑v7.1:Int)-(1:Int)).toNat (nI (nL [v7.2] (0:Nat)) (↑v7.1:Int).toNat))=[v11.2]/\True/\T=T)/\True)/\(decide (g (nI (nL [v7.2] (0:Nat)) (↑v7.1:Int).toNat,nI (nL [v7.2] (0:Nat)) ((↑v7.1:Int)-(1:Int)).toNat,())<(0:Int))=false->fits .i64 ((↑v2:Int)+(1:Int))/\∃(v11:Nat),((1:Nat)<=v11/\(v11<=(nL [l] (0:Nat)).length\/v11=(1:Nat)))/\(nL [l] (0:Nat)).length-v11<(nL [l] (0:Nat)).length-v2/\(some (0:Nat)=some (0:Nat)/\(↑v2:Int)+(1:Int)=(↑v11:Int)/\True)/\([v7.2]=[qz4 (fn2 g) (nL [l] (0:Nat)) (v11-(1:Nat))]/\True/\T=T)/\True))/\(decide ((0:PTy.den (PTy.d qb9))<(↑v7.1:Int))=false->fits .i64 ((↑v2:Int)+(1:Int))/\∃(v10:Nat),((1:Nat)<=v10/\(v10<=(nL [l] (0:Nat)).length\/v10=(1:Nat)))/\(nL [l] (0:Nat)).length-v10<(nL [l] (0:Nat)).length-v2/\(some (0:Nat)=some (0:Nat)/\(↑v2:Int)+(1:Int)=(↑v10:Int)/\True)/\([v7.2]=[qz4 (fn2 g) (nL [l] (0:Nat)) (v10-(1:Nat))]/\True/\T=T)/\True))/\(decide ((↑v2:Int)<(↑l.length:PTy.den (PTy.d qb9)))=false->[qz4 (fn2 g) (nL [l] (0:Nat)) (v2-(1:Nat))]=[insL (fn2 g) (nL [l] (0:Nat))]/\T=T/\True/\True)) ?_
 have hl:=hs.len
 refine⟨qa7 dc dc,(),1,⟨zad _,.inr rfl⟩,⟨rfl,rfl⟩,λi hi=>⟨λhlt=>?_,λhge=>?_⟩⟩
 ·have k1:=q1s (fn2 g) l (i-1) ow
  refine⟨i,(i,qz4 (fn2 g) l (i-1)),⟨zad _,k1.1,k1.2,?_⟩,⟨rfl,rfl⟩,?_⟩
  ·grind [xs7]
  rintro⟨j,r⟩ ⟨h1,h2,h3,h4⟩
  dsimp only at h1 h2 h3 h4 ⊢
  have fin:j=0\/r=qz4 (fn2 g) l i->fits IntKind.i64 (↑i+1)/\∃v11,(1<=v11/\(v11<=l.length\/v11=1))/\l.length-v11<l.length-i/\(↑i+1:Int)=↑v11/\r=qz4 (fn2 g) l (v11-1):=λq=>by
   refine⟨qa7,i+1,⟨ow,.inl ow⟩,ow,ow,?_⟩
   rcases q with rfl | q
   ·exact h4
   grind
  refine⟨λh0=>?_,λh0=>fin (.inl ow)⟩
  have h0:0<(j:Int):=h0
  obtain⟨q,rfl⟩:∃q,j=q+1:=⟨j-1,ow⟩
  have e:(((q+1:Nat):Int)-1).toNat=q:=ow
  have m1:=h3 _ (q42 (l:=r) (i:=q+1) ow)
  have m2:=h3 _ (q42 (l:=r) (i:=q) ow)
  rw[e]
  refine⟨ow,ow,qa7,⟨ow,ow⟩,ow,hs.ok _ m1 _ m2,λhc=>?_,λhc=>fin (.inr ?_)⟩
  ·refine⟨qa7,qa7,⟨ow,ow⟩,ow,ow,ow,ow,ow,⟨ow,by grind⟩,by grind,qa7,(q,swp r q),⟨ow,(wh2 r q).trans h2,λx hx=>h3 x (xd1 ow x hx),?_⟩,by simp,by simp,rfl⟩
   simp_all [q0w,if_pos]
  simp_all [q0w,if_neg,Int.not_lt]
 grind [insL]
abbrev yt5:MSpec:=q4e (wl9 [] [.d qb9,yd6]) false false 0 3 (.int .i64) (λrows x=>x.1=(nL rows 0).length/\wh3 (nL rows 0) x.2.1.1) (λ_ _=>.tup .nil) (λrows x=>[insL (fn2 x.2.1.2) (nL rows 0)])
def yd8 (T:q2v) (l r:List Int):Nat->Option Inv
 | 0=>some (Inv.of [0,7,8] 1 (λ_:Unit=>[(0,.msl 0 (some 0)),(7,.lit (.int .i64 0)),(8,.lit (.int .i64 20))]) (λ_=>[.mat 0 3 (.int .i64) [l] (some []) (some T)]) (λ_=>True) (λ_=>0))
 | 1=>some (Inv.of [0,6] 1 (λ_:Unit=>[(0,.msl 0 (some 0)),(6,.lit (.int .i64 20))]) (λ_=>[.mat 0 3 (.int .i64) [r] (some []) (some T)]) (λ_=>True) (λ_=>0))
 | 2=>some (Inv.of [] 0 (λ_:Unit=>[]) (λ_=>[]) (λ_=>True) (λ_=>0))
 | _=>none
theorem xd3:qo6 Tryz.prog 181 yt5:=by
 refine q0q (x42 (SpecsOk.nil _) (MutsOk.cons xd2 MutsOk.nil)) Tryz.func181 rfl rfl (q3i (SpecsOk.nil _) _) (λT rows x=>yd8 T (nL rows 0) (insL (fn2 x.2.1.2) (nL rows 0))) (λ_ _ _=>by kernel_rfl) dc ?_ rfl
 rintro T rows ⟨a,⟨p,g⟩,⟨⟩⟩ h hone
 obtain⟨l,rfl⟩:∃l:List Int,rows=[l]:=by
  have h1:=hone rfl
  match rows,h1 with
  | [l],_=>simp
 have h:a=l.length/\wh3 l p:=h
 obtain⟨rfl,hs⟩:=h
 refine vcs (∃(v0:Unit),∃(v1:Unit),True/\((some (0:Nat)=some (0:Nat)/\(0:Int)=(0:Int)/\(20:Int)=(20:Int)/\True)/\([l]=[nL [l] (0:Nat)]/\True/\T=T)/\True)/\∀(x:Unit),True->(decide ((20:Int)<=(↑l.length:PTy.den (PTy.d qb9)))=true->∃(v5:qa3 [qb9,qb9]->Prop),∃(v6:qa3 [qb9,qb9]->Int),([qb9,qb9]=[qb9,qb9]/\qb9=qb9/\p ≍ v5/\g ≍ v6)/\((0:Int)=(0:PTy.den (PTy.d qb9))/\(20:Int)=(↑(nL [nL [nL [l] (0:Nat)] (0:Nat)] (0:Nat)).length:PTy.den (PTy.d qb9))/\wh3 (nL [nL [nL [l] (0:Nat)] (0:Nat)] (0:Nat)) v5)/\fits .i64 (40:Int)/\∃(v7:Unit),True/\(0:Nat)<(0:Nat)/\(some (0:Nat)=some (0:Nat)/\(20:Int)=(0:Int)/\(40:Int)=(20:Int)/\True)/\(List.set [nL [l] (0:Nat)] (0:Nat) (nL [insL (fn2 v6) (nL [nL [nL [l] (0:Nat)] (0:Nat)] (0:Nat))] (0:Nat))=[nL [l] (0:Nat)]/\True/\T=T)/\True)/\(decide ((20:Int)<=(↑l.length:PTy.den (PTy.d qb9)))=false->∃(v5:qa3 [qb9,qb9]->Prop),∃(v6:qa3 [qb9,qb9]->Int),([qb9,qb9]=[qb9,qb9]/\qb9=qb9/\p ≍ v5/\g ≍ v6)/\((0:Int)=(0:PTy.den (PTy.d qb9))/\(↑l.length:PTy.den (PTy.d qb9))=(↑(nL [nL [nL [l] (0:Nat)] (0:Nat)] (0:Nat)).length:PTy.den (PTy.d qb9))/\wh3 (nL [nL [nL [l] (0:Nat)] (0:Nat)] (0:Nat)) v5)/\∃(v7:Unit),∃(v8:Unit),True/\((some (0:Nat)=some (0:Nat)/\(20:Int)=(20:Int)/\True)/\(List.set [nL [l] (0:Nat)] (0:Nat) (nL [insL (fn2 v6) (nL [nL [nL [l] (0:Nat)] (0:Nat)] (0:Nat))] (0:Nat))=[insL (fn2 g) (nL [l] (0:Nat))]/\True/\T=T)/\True)/\∀(x:Unit),True->(decide ((20:Int)<(↑l.length:PTy.den (PTy.d qb9)))=true->fits .i64 (40:Int)/\∃(v12:Unit),∃(v13:Unit),True/\(True/\True)/\∀(x:Unit),True->False)/\(decide ((20:Int)<(↑l.length:PTy.den (PTy.d qb9)))=false->[insL (fn2 g) (nL [l] (0:Nat))]=[insL (fn2 g) (nL [l] (0:Nat))]/\T=T/\True/\True))) ?_
 have hl:=hs.len
 refine⟨(),(),λ_=>⟨λh20=>absurd h20 ow,λ_=>⟨p,g,⟨HEq.rfl,HEq.rfl⟩,hs,(),(),rfl,λ_ h20=>absurd h20 ow⟩⟩⟩
abbrev yt6:MSpec:=q4e (wl9 [] [yd6]) false false 0 3 (.int .i64) (λrows x=>wh3 (nL rows 0) x.1.1) (λ_ _=>.tup .nil) (λrows x=>[insL (fn2 x.1.2) (nL rows 0)])
theorem w5s:qo6 Tryz.prog 134 yt6:=by
 refine q0q (x42 (SpecsOk.nil _) (MutsOk.cons xd3 MutsOk.nil)) Tryz.func134 rfl rfl (q3i (SpecsOk.nil _) _) (λ_ _ _ _=>none) (λ_ _ _=>by kernel_rfl) dc ?_ rfl
 rintro T rows ⟨⟨p,g⟩,⟨⟩⟩ h hone
 obtain⟨l,rfl⟩:∃l:List Int,rows=[l]:=by
  have h1:=hone rfl
  match rows,h1 with
  | [l],_=>simp
 have hs:wh3 l p:=h
 refine vcs (∃(v0:qa3 [qb9,qb9]->Prop),∃(v1:qa3 [qb9,qb9]->Int),([qb9,qb9]=[qb9,qb9]/\qb9=qb9/\p ≍ v0/\g ≍ v1)/\((↑(nL [l] (0:Nat)).length:Int)=(↑(nL [nL [l] (0:Nat)] (0:Nat)).length:PTy.den (PTy.d qb9))/\wh3 (nL [nL [l] (0:Nat)] (0:Nat)) v0)/\List.set [l] (0:Nat) (nL [insL (fn2 v1) (nL [nL [l] (0:Nat)] (0:Nat))] (0:Nat))=[insL (fn2 g) (nL [l] (0:Nat))]/\T=T/\True/\True) ?_
 grind
def q5v (h:List Int) (x y:Int):Int:=q5m (nI h y.toNat)-q5m (nI h x.toNat)
abbrev x6n:qa8:=hspec [] true none [.d qb9,.d qb9,.cap qd4] [qb9] (λx=>HOk x.2.2.1/\(0<=x.1/\x.1<x.2.2.1.length)/\0<=x.2.1/\x.2.1<x.2.2.1.length) (λx=>(q5v x.2.2.1 x.1 x.2.1,()))
theorem w5t:Meets Tryz.prog 135 x6n:=by
 refine qi4 (SpecsOk.nil _) (snd (SpecsOk.cons q2t (SpecsOk.nil _))) Tryz.func135 rfl rfl (λ_ _=>none) (λ_=>by kernel_rfl) dc ?_
 rintro⟨a,b,h,⟨⟩⟩ hh
 revert a b h
 intro(a:Int) (b:Int) (h:List Int) (hh:HOk h/\(0<=a/\a<h.length)/\0<=b/\b<h.length)
 refine vcs (((0:Int)<=b/\b<(↑h.length:Int))/\qd8 (1000000000:Int) (nI h b.toNat)/\((0:Int)<=a/\a<(↑h.length:Int))/\qd8 (1000000000:Int) (nI h a.toNat)/\fits .i64 (q5m (nI h b.toNat)-q5m (nI h a.toNat))/\q5m (nI h b.toNat)-q5m (nI h a.toNat)=q5v h a b) ?_
 have h1:=hh.1.sm a.toNat
 have h2:=hh.1.sm b.toNat
 have h3:q5m (nI h a.toNat)=(nI h a.toNat).natAbs:=rfl
 have h4:q5m (nI h b.toNat)=(nI h b.toNat).natAbs:=rfl
 unfold qd8 at *
 exact⟨hh.2.2,⟨ow,ow⟩,hh.2.1,⟨ow,ow⟩,qa7,rfl⟩
def q8g (h:List Int) (k:Nat):List Int:=((insL (q5v h) (qo0 h.length)).take k).mergeSort λx y=>decide (x<=y)
structure xs9 (h:List Int) (k:Int):Prop where
 ok:HOk h
 len:h.length<=19
 pos:1<=h.length
 k0:0<=k
 k1:k<=h.length
abbrev yt7:qa8:=qe4 true none [qd4,qb9] [qd4] (λx=>xs9 x.1 x.2.1) (λx=>(q8g x.1 x.2.1.toNat,()))
end Go.Proofs.YtnchigbbjajiiaaGreat
