/- The reference's coherence and alike columns: contracts by the engine. No condition. -/
import Derived.Test.YtempacilejhbgaaGreatKR3
namespace Go.Proofs.YtempacilejhbgaaGreat.K
open Go.RowKit Ls
set_option maxHeartbeats 400000 in
theorem w0f (n d:Nat) (w:World) (hn:n<=1000000) (hd:d<=1000000) :
  Calls Tryz.prog 127 #[.int .i64 n,.int .i64 d] w λe w'=>e=.returned (.int .i64 (Nat.gcd n d))/\Below w.heap.size w w':=by
 go_enter Tryz.func127,Tryz.ntmps127
 go_wp2
 go_loopw [0,1] (λa b wr=>∃x y:Nat,x<=1000000/\y<=1000000/\a=.int .i64 x/\b=.int .i64 y/\Hid (Nat.gcd x y=Nat.gcd n d)/\Below w.heap.size w wr) (λ_ b _=>(intOf b).toNat)
 case atStart=>exact⟨n,d,hn,hd,rfl,rfl,rfl,Below.refl _ _⟩
 case round=>
  obtain⟨x,y,hx,hy,rfl,rfl,hg,hb⟩:=hrel
  by_cases h0:y=0
  ·subst h0
   go_wp2
   go_ret
   exact⟨q56 (by rw[<- hg.out]; simp),hb⟩
  ·have hy0:(0:Int)<y:=by omega
   go_wp2
   go_quiet (fail)
   go_wp2
   go_roundw
   case rel=>
    have hm:=Nat.mod_lt x (show 0<y by omega)
    exact⟨y,x % y,hy,by omega,rfl,by go_num,by unfold Hid; rw[<- hg.out,Nat.gcd_comm y,<- Nat.gcd_rec,Nat.gcd_comm],below_drewN hb _⟩
   case measure=>
    have hm:=Nat.mod_lt x (show 0<y by omega)
    simp[intOf]; omega
theorem dot_sm (A B:Option Addr) (n m c d:Nat) (xs ys:List Int) (w:World) (hx:Sm xs) (hy:Sm ys)
  (ha:SI w A n c xs) (hb:SI w B m d ys) (hnm:n<=m) :
  Calls Tryz.prog 68 #[.slice A n c,.slice B m d] w λe w'=>e=.returned (.int .i64 (dotI xs ys))/\Below w.heap.size w w':=by
 rw[<- (wi8 hx hy).1]; exact x62 A B n m c d xs ys w ha hb hnm
set_option maxRecDepth 100000 in
set_option maxHeartbeats 4000000 in
theorem wj1 (A:Option Addr) (n c:Nat) (m:List (List Int)) (i j:Int) (w:World) (hm:SM w A n c m) :
  Calls Tryz.prog 97 #[.slice A n c,.int .i64 i,.int .i64 j] w λe w'=>e=.returned (.tuple #[.agg #[.int .i64 (w25 m i j),.int .i64 (q4a m i j)],.int .i64 (qh8 m i j)])/\Below w.heap.size w w':=by
 have hb00:=λo o'=>step_trans (below_alloc w o) (below_alloc (w.alloc o) o')
 have hs:∀o t,SI ((w.alloc o).alloc (.cells #[.int .i64 i,.int .i64 j] t)) (some ⟨w.heap.size+1,0,none⟩) 2 2 [i,j]:=λo t=>by
  have:=SI.new2 (w.alloc o) t i j
  rwa [World.size_alloc] at this
 by_cases hE:qs3 m [i,j]=0
 ·obtain⟨hM,⟨h0,h1⟩,h2,h3⟩:=x3h hE
  have sm1:=q8e hM (j:=i.toNat) (by omega)
  have sm2:=q8e hM (j:=j.toNat) (by omega)
  by_cases hD:likeD (qo2 m i.toNat) (qo2 m j.toNat)=0
  ·have e1:qh8 m i j=8:=by unfold qh8; rw[if_pos hE,if_pos hD]
   have e2:w25 m i j=0:=by unfold w25; rw[e1]; rfl
   have e3:q4a m i j=0:=by unfold q4a; rw[e1]; rfl
   rw[e1,e2,e3]
   clear e1 e2 e3
   have hd:=q8f (qo2 m i.toNat) (qo2 m j.toNat)
   rw[hD] at hd
   have hn:=q8g (qo2 m i.toNat) (qo2 m j.toNat)
   have hnl:=wi9 sm1 sm2
   have d1:=λX Y c d W h h'=>dot_sm X Y n n c d _ _ W sm1 sm2 h h' (Nat.le_refl _)
   have d2:=λX c d W h h'=>dot_sm X X n n c d _ _ W sm1 sm1 h h' (Nat.le_refl _)
   have d3:=λX c d W h h'=>dot_sm X X n n c d _ _ W sm2 sm2 h h' (Nat.le_refl _)
   generalize dotI (qo2 m i.toNat) (qo2 m i.toNat)=p at hd d2
   generalize dotI (qo2 m j.toNat) (qo2 m j.toNat)=q at hd d3
   generalize dotI (qo2 m i.toNat) (qo2 m j.toNat)=r at hn d1
   have hpq:p*q=0:=hd.symm
   have hr1:0<=r*r:=by omega
   have hr2:r*r<=100:=by omega
   clear hd hn hnl hD
   go_enter Tryz.func97,Tryz.ntmps97
   go_wp2_with (go_at_call 125; refine(q45 A _ n c 2 2 m [i,j] _ (hm.below (hb00 _ _)) (hs _ _)).mono ?_; rintro e w1 ⟨rfl,rfl⟩)
   refine(q0e A n c m i _ (hm.below (hb00 _ _)) hM h0 h1).mono ?_
   rintro e w2 ⟨A2,c2,rfl,hown2,hb2⟩
   have hbw2:=step_trans (hb00 _ _) hb2
   go_wp2_with fail
   refine(q0e A n c m j _ (hm.below hbw2) hM h2 h3).mono ?_
   rintro e w3 ⟨A3,c3,rfl,hown3,hb3⟩
   have s2:=(q57 hown2).below hb3
   have s3:=q57 hown3
   go_wp2_with fail
   refine(d1 _ _ _ _ _ s2 s3).mono ?_
   rintro e w4 ⟨rfl,hb4⟩
   go_wp2_with fail
   refine(d1 _ _ _ _ _ (s2.below hb4) (s3.below hb4)).mono ?_
   rintro e w5 ⟨rfl,hb5⟩
   have hb45:=step_trans hb4 hb5
   go_wp2_with fail
   refine(d2 _ _ _ _ (s2.below hb45) (s2.below hb45)).mono ?_
   rintro e w6 ⟨rfl,hb6⟩
   have hb456:=step_trans hb45 hb6
   go_wp2_with fail
   refine(d3 _ _ _ _ (s3.below hb456) (s3.below hb456)).mono ?_
   rintro e w7 ⟨rfl,hb7⟩
   have hbw4:=step_trans hb2 (step_trans hb3 (step_trans hb456 hb7))
   have hx0:w7.cell? ⟨w.heap.size,0,none⟩=some (.int .i64 0):=Below.cell_of hbw4 (by simp)
   have hx1:w7.cell? ⟨w.heap.size,1,none⟩=some (.int .i64 0):=Below.cell_of hbw4 (by simp)
   have hx2:w7.frozen? ⟨w.heap.size,0,none⟩=false:=(hbw4.frozen (p:=⟨w.heap.size,0,none⟩) (by simp; omega)).trans (by simp)
   have hx3:w7.frozen? ⟨w.heap.size,1,none⟩=false:=(hbw4.frozen (p:=⟨w.heap.size,1,none⟩) (by simp; omega)).trans (by simp)
   have hbB:=step_trans (hb00 _ _) hbw4
   clear d1 d2 d3 hb2 hb3 hb4 hb5 hb6 hb7 hb45 hb456 hbw2 s2 s3 hown2 hown3
   go_wp2
   refine bodyPost_ret (v:=.tuple #[.agg #[.int .i64 0,.int .i64 0],.int .i64 8]) (by simp[results,Tryz.results97,go_sem,hx0,hx1]) rfl ⟨rfl,?_⟩
   exact((hbB.setCell (Nat.le_refl _) _).setCell (Nat.le_refl _) _)
  ·have e1:qh8 m i j=0:=by unfold qh8; rw[if_pos hE,if_neg hD]
   have e2:w25 m i j=ratN (likeN (qo2 m i.toNat) (qo2 m j.toNat)) (likeD (qo2 m i.toNat) (qo2 m j.toNat)):=by unfold w25; rw[if_pos e1]
   have e3:q4a m i j=ratD (likeN (qo2 m i.toNat) (qo2 m j.toNat)) (likeD (qo2 m i.toNat) (qo2 m j.toNat)):=by unfold q4a; rw[if_pos e1]
   rw[e1,e2,e3]
   clear e1 e2 e3
   have hd:=q8f (qo2 m i.toNat) (qo2 m j.toNat)
   have hn:=q8g (qo2 m i.toNat) (qo2 m j.toNat)
   have hdl:=w24 sm1 sm2
   have hnl:=wi9 sm1 sm2
   have d1:=λX Y c d W h h'=>dot_sm X Y n n c d _ _ W sm1 sm2 h h' (Nat.le_refl _)
   have d2:=λX c d W h h'=>dot_sm X X n n c d _ _ W sm1 sm1 h h' (Nat.le_refl _)
   have d3:=λX c d W h h'=>dot_sm X X n n c d _ _ W sm2 sm2 h h' (Nat.le_refl _)
   have d4:=λW=>w0f (likeN (qo2 m i.toNat) (qo2 m j.toNat)) (likeD (qo2 m i.toNat) (qo2 m j.toNat)) W (by omega) (by omega)
   rw[hd,hn] at d4
   generalize likeD (qo2 m i.toNat) (qo2 m j.toNat)=D at hd d4 hD hdl ⊢
   generalize likeN (qo2 m i.toNat) (qo2 m j.toNat)=N at hn d4 hnl ⊢
   generalize dotI (qo2 m i.toNat) (qo2 m i.toNat)=p at hd d2 d4
   generalize dotI (qo2 m j.toNat) (qo2 m j.toNat)=q at hd d3 d4
   generalize dotI (qo2 m i.toNat) (qo2 m j.toNat)=r at hn d1 d4
   have hpq1:1<=p*q:=by omega
   have hpq2:p*q<=100:=by omega
   have hr1:0<=r*r:=by omega
   have hr2:r*r<=100:=by omega
   have hp0:(p==0)=false:=by
    cases h:p==0
    ·rfl
    ·simp at h; subst h; simp at hpq1
   have hq0:(q==0)=false:=by
    cases h:q==0
    ·rfl
    ·simp at h; subst h; simp at hpq1
   have hg:0<Nat.gcd N D:=Nat.gcd_pos_of_pos_right _ (by omega)
   have fN:ratN N D=(r*r) / (Nat.gcd N D:Int):=by unfold ratN; rw[<- hn]; simp
   have fD:ratD N D=(p*q) / (Nat.gcd N D:Int):=by unfold ratD; rw[<- hd]; simp
   rw[fN,fD]
   generalize hG:Nat.gcd N D=G at *
   have hG1:(0:Int)<G:=by omega
   have hG2:((G:Int)==0)=false:=by simp; omega
   have b1:(0:Int)<=(r*r) / (G:Int):=Int.ediv_nonneg (by omega) (by omega)
   have b2:(r*r) / (G:Int)<=r*r:=Int.ediv_le_self _ (by omega)
   have b3:(0:Int)<=(p*q) / (G:Int):=Int.ediv_nonneg (by omega) (by omega)
   have b4:(p*q) / (G:Int)<=p*q:=Int.ediv_le_self _ (by omega)
   clear hd hn hD hdl hnl fN fD hG hg
   go_enter Tryz.func97,Tryz.ntmps97
   go_wp2_with (go_at_call 125; refine(q45 A _ n c 2 2 m [i,j] _ (hm.below (hb00 _ _)) (hs _ _)).mono ?_; rintro e w1 ⟨rfl,rfl⟩)
   refine(q0e A n c m i _ (hm.below (hb00 _ _)) hM h0 h1).mono ?_
   rintro e w2 ⟨A2,c2,rfl,hown2,hb2⟩
   have hbw2:=step_trans (hb00 _ _) hb2
   go_wp2_with fail
   refine(q0e A n c m j _ (hm.below hbw2) hM h2 h3).mono ?_
   rintro e w3 ⟨A3,c3,rfl,hown3,hb3⟩
   have s2:=(q57 hown2).below hb3
   have s3:=q57 hown3
   go_wp2_with fail
   refine(d1 _ _ _ _ _ s2 s3).mono ?_
   rintro e w4 ⟨rfl,hb4⟩
   go_wp2_with fail
   refine(d1 _ _ _ _ _ (s2.below hb4) (s3.below hb4)).mono ?_
   rintro e w5 ⟨rfl,hb5⟩
   have hb45:=step_trans hb4 hb5
   go_wp2_with fail
   refine(d2 _ _ _ _ (s2.below hb45) (s2.below hb45)).mono ?_
   rintro e w6 ⟨rfl,hb6⟩
   have hb456:=step_trans hb45 hb6
   go_wp2_with fail
   refine(d3 _ _ _ _ (s3.below hb456) (s3.below hb456)).mono ?_
   rintro e w7 ⟨rfl,hb7⟩
   go_wp2_with fail
   refine(d4 _).mono ?_
   rintro e w8 ⟨rfl,hb8⟩
   have hbw4:=step_trans hb2 (step_trans hb3 (step_trans hb456 (step_trans hb7 hb8)))
   have hx0:w8.cell? ⟨w.heap.size,0,none⟩=some (.int .i64 0):=Below.cell_of hbw4 (by simp)
   have hx1:w8.cell? ⟨w.heap.size,1,none⟩=some (.int .i64 0):=Below.cell_of hbw4 (by simp)
   have hx2:w8.frozen? ⟨w.heap.size,0,none⟩=false:=(hbw4.frozen (p:=⟨w.heap.size,0,none⟩) (by simp; omega)).trans (by simp)
   have hx3:w8.frozen? ⟨w.heap.size,1,none⟩=false:=(hbw4.frozen (p:=⟨w.heap.size,1,none⟩) (by simp; omega)).trans (by simp)
   have hbB:=step_trans (hb00 _ _) hbw4
   clear d1 d2 d3 d4 hb2 hb3 hb4 hb5 hb6 hb7 hb8 hb45 hb456 hbw2 s2 s3 hown2 hown3
   go_wp2
   go_region
   go_wp2
   refine bodyPost_ret (v:=.tuple #[.agg #[.int .i64 ((r*r) / (G:Int)),.int .i64 ((p*q) / (G:Int))],.int .i64 0]) (by simp[results,Tryz.results97,go_sem,hx0,hx1]) rfl ⟨rfl,?_⟩
   exact((hbB.drew.setCell (Nat.le_refl _) _).setCell (Nat.le_refl _) _)
 ·have e1:qh8 m i j=qs3 m [i,j]:=by unfold qh8; rw[if_neg hE]
  have e2:w25 m i j=0:=by unfold w25; rw[if_neg (by rw[e1]; exact hE)]
  have e3:q4a m i j=0:=by unfold q4a; rw[if_neg (by rw[e1]; exact hE)]
  rw[e1,e2,e3]
  have he:(qs3 m [i,j] != 0)=true:=by simp[hE]
  have he2:(qs3 m [i,j]==0)=false:=by simp[hE]
  clear e1 e2 e3
  go_enter Tryz.func97,Tryz.ntmps97
  go_wp2_with (go_at_call 125; refine(q45 A _ n c 2 2 m [i,j] _ (hm.below (hb00 _ _)) (hs _ _)).mono ?_; rintro e w1 ⟨rfl,rfl⟩)
  refine bodyPost_ret (v:=.tuple #[.agg #[.int .i64 0,.int .i64 0],.int .i64 (qs3 m [i,j])]) (by simp[results,Tryz.results97,go_sem]) rfl ⟨rfl,?_⟩
  exact hb00 _ _
end Go.Proofs.YtempacilejhbgaaGreat.K
set_option linter.unusedVariables false
set_option linter.unusedSimpArgs false
namespace Go.Proofs.YtempacilejhbgaaGreat.K
open Go Go.RowKit Eng Ls
theorem wj2:qd4 Tryz.prog 51 (sMB validB):=w1z ⟨_,_,Tryz.func51,rfl,rfl⟩ λw m x vs hm _ hx=>by
 obtain⟨u,us,rfl,h1,h2⟩:=hx
 obtain rfl:us=[]:=h2
 obtain⟨A,c,rfl,hs⟩:=w95 hm h1
 exact(q44 A _ c _ w hs).mono λe w' ⟨h1,h2⟩=>⟨_,h1,by subst h2; exact Below.refl _ _,[_],rfl,_,_,rfl,rfl,rfl⟩
def x63:qb9:=qf6 true none [tMask,tInt,tInt] [.prod tInt tInt,tInt] (λ_=>True) (λx=>((w25 x.1 x.2.1 x.2.2.1,q4a x.1 x.2.1 x.2.2.1),qh8 x.1 x.2.1 x.2.2.1,()))
theorem q8h:qd4 Tryz.prog 97 x63:=w1z ⟨_,_,Tryz.func97,rfl,rfl⟩ λw m x vs hm _ hx=>by
 obtain⟨u,us,rfl,h1,u',us',rfl,h2,u'',us'',rfl,h3,h4⟩:=hx
 obtain rfl:us''=[]:=h4
 obtain⟨A,c,rfl,hs⟩:=w95 hm h1
 obtain rfl:u'=.int .i64 x.2.1:=h2
 obtain rfl:u''=.int .i64 x.2.2.1:=h3
 exact(wj1 A _ c _ _ _ w hs).mono λe w' ⟨h1,h2⟩=>⟨_,h1,h2,[_,_],rfl,_,_,rfl,⟨_,rfl,[_],[_],rfl,rfl,rfl⟩,_,_,rfl,rfl,rfl⟩
def w5c (j n:Nat):List (Nat × Nat):=(List.range n).map λi=>(i,j)
def w0g:Nat->List (Nat × Nat)
 | 0=>[]
 | j+1=>w0g j++w5c j j
def wa3 (m:List (List Int)) (l:List (Nat × Nat)):Option (Int × Int):=l.foldl (qn3 m) (some (0,1))
def rcK (m:List (List Int)) (j i:Nat):Option (Int × Int):=wa3 m (w0g j++w5c j i)
def rcL (m:List (List Int)):Option (Int × Int):=wa3 m (w0g (nthL m 0).length)
def rcE (m:List (List Int)):Int:=if validB m=false then 1 else if(nthL m 0).length<2 then 8 else if(rcL m).isNone then 8 else 0
def rcR (m:List (List Int)):Int × Int:=if rcE m=0 then(rcL m).getD (0,0) else(0,0)
def sRCoh:qb9:=qf6 true none [tMask] [.prod tInt tInt,tInt] (λ_=>True) (λx=>(rcR x.1,rcE x.1,()))
def x3i (m:List (List Int)):Nat->Option Inv
 | 0=>some (Inv.of [24] 2 (λs:Nat × (Int × Int)=>[(24,.lit (.int .i64 s.1))]) (λs=>[.box 34 (.cons (.lit (.int .i64 0)) (.cons (.lit (.int .i64 0)) .nil)),.box 34 (.cons (.lit (.int .i64 s.2.1)) (.cons (.lit (.int .i64 s.2.2)) .nil))]) (λs=>s.1<=(nthL m 0).length/\rcK m s.1 0=some s.2) (λs=>(nthL m 0).length-s.1))
 | 1=>some ⟨Nat,Nat × (Int × Int),[28],2,λ_ s=>[(28,.lit (.int .i64 s.1))],λ_ s=>[.box 34 (.cons (.lit (.int .i64 0)) (.cons (.lit (.int .i64 0)) .nil)),.box 34 (.cons (.lit (.int .i64 s.2.1)) (.cons (.lit (.int .i64 s.2.2)) .nil))],λj s=>s.1<=j/\rcK m j s.1=some s.2,λj s=>j-s.1⟩
 | _=>none
theorem w98 (m:List (List Int)) (l:List (Nat × Nat)) (q:Nat × Nat):wa3 m (l++[q])=qn3 m (wa3 m l) q:=by simp[wa3]
theorem w99 {m:List (List Int)} {l:List (Nat × Nat)} (h:wa3 m l=none) (r:List (Nat × Nat)):wa3 m (l++r)=none:=by
 unfold wa3 at h ⊢
 rw[List.foldl_append,h]
 induction r with
 | nil=>rfl
 | cons q r ih=>exact ih
theorem wt9 (j i:Nat):w5c j (i+1)=w5c j i++[(i,j)]:=by simp[w5c,List.range_succ]
theorem xm7 {j p:Nat} (h:j<=p):∃r,w0g p=w0g j++r:=by
 induction p with
 | zero=>
  obtain rfl:j=0:=by omega
  exact⟨[],rfl⟩
 | succ p ih=>
  by_cases e:j=p+1
  ·subst e; exact⟨[],by simp⟩
  ·obtain⟨r,hr⟩:=ih (by omega)
   exact⟨r++w5c p p,by rw[w0g,hr,List.append_assoc]⟩
theorem xm8 {j i n:Nat} (h:i<=n):∃r,w5c j n=w5c j i++r:=by
 induction n with
 | zero=>
  obtain rfl:i=0:=by omega
  exact⟨[],rfl⟩
 | succ n ih=>
  by_cases e:i=n+1
  ·subst e; exact⟨[],by simp⟩
  ·obtain⟨r,hr⟩:=ih (by omega)
   exact⟨r++[(n,j)],by rw[wt9,hr,List.append_assoc]⟩
theorem xm9 {m:List (List Int)} {j i:Nat} (hi:i<=j) (hj:j<(nthL m 0).length) (h:rcK m j i=none):rcL m=none:=by
 obtain⟨r,hr⟩:=xm7 (j:=j+1) (p:=(nthL m 0).length) hj
 obtain⟨r2,hr2⟩:=xm8 (j:=j) hi
 unfold rcL
 have e:w0g j++(w5c j i++r2)++r=(w0g j++w5c j i)++(r2++r):=by simp
 rw[hr,w0g,hr2,e]
 exact w99 h _
theorem w26 (m:List (List Int)) (j i:Nat):rcK m j (i+1)=qn3 m (rcK m j i) (i,j):=by
 unfold rcK
 rw[wt9,<- List.append_assoc,w98]
theorem w27 (m:List (List Int)) (j:Nat):rcK m j j=rcK m (j+1) 0:=by
 unfold rcK
 simp[w0g,w5c]
theorem xn0 {m:List (List Int)} (h:IsMask m) {j:Nat} (hj:j<(nthL m 0).length):Sm (colA m j):=q8e h (j:=j) hj
theorem w5d {m:List (List Int)} (h:IsMask m) {i j:Nat} (hi:i<(nthL m 0).length) (hj:j<(nthL m 0).length) {o:Option (Int × Int)} (ho:∀b,o=some b->(0<=b.1/\b.1<=100)/\0<=b.2/\b.2<=100):∀b,qn3 m o (i,j)=some b->(0<=b.1/\b.1<=100)/\0<=b.2/\b.2<=100:=by
 intro b hb
 cases o with
 | none=>cases hb
 | some b0=>
  simp only[qn3,Option.bind_some] at hb
  split at hb
  ·cases hb
  ·injection hb with hb
   subst hb
   split
   ·exact w0d (xn0 h hi) (xn0 h hj)
   ·exact ho b0 rfl
theorem w0h {m:List (List Int)} (h:IsMask m) {j:Nat} (hj:j<(nthL m 0).length) (h0:∀b,rcK m j 0=some b->(0<=b.1/\b.1<=100)/\0<=b.2/\b.2<=100):∀i,i<=j->∀b,rcK m j i=some b->(0<=b.1/\b.1<=100)/\0<=b.2/\b.2<=100
 | 0,_=>h0
 | i+1,hi=>by
  rw[w26]
  exact w5d h (by omega) hj (w0h h hj h0 i (by omega))
theorem xa1 {m:List (List Int)} (h:IsMask m):∀j,j<=(nthL m 0).length->∀b,rcK m j 0=some b->(0<=b.1/\b.1<=100)/\0<=b.2/\b.2<=100
 | 0,_,b,hb=>by
  have hb:some (0,1)=some b:=hb
  injection hb with hb
  subst hb
  simp
 | j+1,hj,b,hb=>by
  rw[<- w27] at hb
  exact w0h h (by omega) (xa1 h j (by omega)) j (Nat.le_refl _) b hb
theorem x3j {m:List (List Int)} (h:IsMask m) {i j:Nat} (hv:validB m=true) (hi:i<(nthL m 0).length) (hj:j<(nthL m 0).length) :
  qh8 m i j=(if(likP (colA m i) (colA m j)).2=true then 0 else 8)/\((likP (colA m i) (colA m j)).2=true->w25 m i j=(likP (colA m i) (colA m j)).1.1/\q4a m i j=(likP (colA m i) (colA m j)).1.2):=by
 have hn:qs3 m [(i:Int),(j:Int)]=0:=by
  unfold qs3
  rw[if_pos hv,if_pos]
  simp only[List.all_cons,List.all_nil,Bool.and_true,Bool.and_eq_true,inB_iff]
  omega
 have hc:∀k:Nat,qo2 m (k:Int).toNat=colA m k:=λk=>rfl
 have e1:qh8 m i j=if likeD (colA m i) (colA m j)=0 then 8 else 0:=by unfold qh8; rw[if_pos hn,hc,hc]
 unfold likP
 by_cases h0:likeD (colA m i) (colA m j)=0
 ·rw[if_pos h0,e1,if_pos h0]
  exact⟨rfl,λhh=>by cases hh⟩
 ·rw[if_neg h0]
  have e2:qh8 m i j=0:=by rw[e1,if_neg h0]
  refine⟨by rw[e2]; rfl,λ_=>?_⟩
  unfold w25 q4a
  rw[if_pos e2,if_pos e2,hc,hc]
  exact⟨rfl,rfl⟩
theorem rCoherence_meets:qd4 Tryz.prog 54 sRCoh:=by
 refine meets (snd (SpecsOk.cons wj2 (SpecsOk.cons q8h (SpecsOk.nil _))) []) Tryz.func54 rfl rfl (λx=>x3i x.1) (λ_=>by kernel_rfl) (by decide) ?_
 rintro⟨m,⟨⟩⟩ -
 revert m
 intro(m:List (List Int))
 refine @qd7 _ (True/\((!validB m)=true->((0:Int)=(rcR m).1/\(0:Int)=(rcR m).2/\True)/\(1:Int)=rcE m/\True)/\((!validB m)=false->((0:Int)<=(0:Int)/\(0:Int)<(↑m.length:Int))/\(decide ((↑(qh4 (Ty.list (Ty.int .i64)) m (0:Nat)).length:Int)<(2:Int))=true->((0:Int)=(rcR m).1/\(0:Int)=(rcR m).2/\True)/\(8:Int)=rcE m/\True)/\(decide ((↑(qh4 (Ty.list (Ty.int .i64)) m (0:Nat)).length:Int)<(2:Int))=false->((0:Int)<=(0:Int)/\(0:Int)<(↑m.length:Int))/\∃(v2:Unit),∃(v3:Nat × Int × Int),(v3.1<=(Ls.nthL m (0:Nat)).length/\rcK m v3.1 (0:Nat)=some v3.2)/\(((0:Int)=(↑v3.1:Int)/\True)/\((0:Int)=(0:Int)/\(0:Int)=(0:Int)/\True)/\((0:Int)=v3.2.1/\(1:Int)=v3.2.2/\True)/\True)/\∀(v4:Nat × Int × Int),v4.1<=(Ls.nthL m (0:Nat)).length/\rcK m v4.1 (0:Nat)=some v4.2->(decide ((↑v4.1:Int)<(↑(qh4 (Ty.list (Ty.int .i64)) m (0:Nat)).length:Int))=true->∃(v7:Nat),∃(v8:Nat × Int × Int),(v8.1<=v7/\rcK m v7 v8.1=some v8.2)/\(((0:Int)=(↑v8.1:Int)/\True)/\((0:Int)=(0:Int)/\(0:Int)=(0:Int)/\True)/\(v4.2.1=v8.2.1/\v4.2.2=v8.2.2/\True)/\True)/\∀(v9:Nat × Int × Int),v9.1<=v7/\rcK m v7 v9.1=some v9.2->(decide ((↑v9.1:Int)<(↑v4.1:Int))=true->True/\((qh8 m (↑v9.1:Int) (↑v4.1:Int) != (0:Int))=true->((0:Int)=(rcR m).1/\(0:Int)=(rcR m).2/\True)/\qh8 m (↑v9.1:Int) (↑v4.1:Int)=rcE m/\True)/\((qh8 m (↑v9.1:Int) (↑v4.1:Int) != (0:Int))=false->fits .i64 (w25 m (↑v9.1:Int) (↑v4.1:Int)*v9.2.2)/\fits .i64 (v9.2.1*q4a m (↑v9.1:Int) (↑v4.1:Int))/\(decide (v9.2.1*q4a m (↑v9.1:Int) (↑v4.1:Int)<w25 m (↑v9.1:Int) (↑v4.1:Int)*v9.2.2)=true->fits .i64 ((↑v9.1:Int)+(1:Int))/\∃(v14:Nat × Int × Int),(v14.1<=v7/\rcK m v7 v14.1=some v14.2)/\v7-v14.1<v7-v9.1/\((↑v9.1:Int)+(1:Int)=(↑v14.1:Int)/\True)/\((0:Int)=(0:Int)/\(0:Int)=(0:Int)/\True)/\(w25 m (↑v9.1:Int) (↑v4.1:Int)=v14.2.1/\q4a m (↑v9.1:Int) (↑v4.1:Int)=v14.2.2/\True)/\True)/\(decide (v9.2.1*q4a m (↑v9.1:Int) (↑v4.1:Int)<w25 m (↑v9.1:Int) (↑v4.1:Int)*v9.2.2)=false->fits .i64 ((↑v9.1:Int)+(1:Int))/\∃(v14:Nat × Int × Int),(v14.1<=v7/\rcK m v7 v14.1=some v14.2)/\v7-v14.1<v7-v9.1/\((↑v9.1:Int)+(1:Int)=(↑v14.1:Int)/\True)/\((0:Int)=(0:Int)/\(0:Int)=(0:Int)/\True)/\(v9.2.1=v14.2.1/\v9.2.2=v14.2.2/\True)/\True)))/\(decide ((↑v9.1:Int)<(↑v4.1:Int))=false->fits .i64 ((↑v4.1:Int)+(1:Int))/\∃(v12:Nat × Int × Int),(v12.1<=(Ls.nthL m (0:Nat)).length/\rcK m v12.1 (0:Nat)=some v12.2)/\(Ls.nthL m (0:Nat)).length-v12.1<(Ls.nthL m (0:Nat)).length-v4.1/\((↑v4.1:Int)+(1:Int)=(↑v12.1:Int)/\True)/\((0:Int)=(0:Int)/\(0:Int)=(0:Int)/\True)/\(v9.2.1=v12.2.1/\v9.2.2=v12.2.2/\True)/\True))/\(decide ((↑v4.1:Int)<(↑(qh4 (Ty.list (Ty.int .i64)) m (0:Nat)).length:Int))=false->(v4.2.1=(rcR m).1/\v4.2.2=(rcR m).2/\True)/\(0:Int)=rcE m/\True)))) (by kernel_rfl) ?_
 refine⟨trivial,λhv=>?_,λhv=>?_⟩
 ·have hv:validB m=false:=by simpa using hv
  have e:rcE m=1:=by simp[rcE,hv]
  have e2:rcR m=(0,0):=by simp[rcR,e]
  rw[e,e2]
  exact⟨⟨rfl,rfl,trivial⟩,rfl,trivial⟩
 have hv:validB m=true:=by simpa using hv
 have hm:=IsMask.of hv
 have hr1:=hm.rows1
 have hp10:=hm.pix10
 have hnn:qh4 (.list (.int .i64)) m 0=nthL m 0:=rfl
 rw[hnn]
 refine⟨⟨by omega,by omega⟩,λh2=>?_,λh2=>?_⟩
 ·have h2:(nthL m 0).length<2:=by have:=of_decide_eq_true h2; omega
  have e:rcE m=8:=by unfold rcE; rw[if_neg (by simp[hv]),if_pos h2]
  have e2:rcR m=(0,0):=by simp[rcR,e]
  rw[e,e2]
  exact⟨⟨rfl,rfl,trivial⟩,rfl,trivial⟩
 have h2:¬(nthL m 0).length<2:=by have:=of_decide_eq_false h2; omega
 have hE:rcE m=if(rcL m).isNone then 8 else 0:=by unfold rcE; rw[if_neg (by simp[hv]),if_neg h2]
 refine⟨⟨by omega,by omega⟩,(),(0,(0,1)),⟨Nat.zero_le _,rfl⟩,⟨⟨rfl,trivial⟩,⟨rfl,rfl,trivial⟩,⟨rfl,rfl,trivial⟩,trivial⟩,?_⟩
 rintro⟨j,b⟩ ⟨hj,hb⟩
 have hj:j<=(nthL m 0).length:=hj
 have hb:rcK m j 0=some b:=hb
 refine⟨λhlt=>?_,λhge=>?_⟩
 ·have hlt:j<(nthL m 0).length:=by have:=of_decide_eq_true hlt; dsimp only at this; omega
  refine⟨j,(0,b),⟨Nat.zero_le _,hb⟩,⟨⟨rfl,trivial⟩,⟨rfl,rfl,trivial⟩,⟨rfl,rfl,trivial⟩,trivial⟩,?_⟩
  rintro⟨i,c⟩ ⟨hi,hc⟩
  have hi:i<=j:=hi
  have hc:rcK m j i=some c:=hc
  refine⟨λhil=>?_,λhil=>?_⟩
  ·have hil:i<j:=by have:=of_decide_eq_true hil; dsimp only at this; omega
   obtain⟨l1,l2⟩:=x3j hm hv (i:=i) (j:=j) (by omega) hlt
   have hst:=w26 m j i
   have h6:=w0h hm hlt (xa1 hm j hj) i hi c hc
   have h5:=w0d (xn0 hm (j:=i) (by omega)) (xn0 hm hlt)
   rw[hc] at hst
   simp only[qn3,Option.bind_some] at hst
   dsimp only
   refine⟨trivial,λhl=>?_,λhl=>?_⟩
   ·have hl0:(likP (colA m i) (colA m j)).2=false:=by
     cases hz:(likP (colA m i) (colA m j)).2 with
     | false=>rfl
     | true=>rw[hz] at l1; rw[l1] at hl; simp at hl
    rw[hl0] at hst l1
    have e:rcE m=8:=by rw[hE,xm9 (i:=i+1) (by omega) hlt hst]; rfl
    have e2:rcR m=(0,0):=by simp[rcR,e]
    rw[e,e2,l1]
    exact⟨⟨rfl,rfl,trivial⟩,rfl,trivial⟩
   ·have hl0:(likP (colA m i) (colA m j)).2=true:=by
     cases hz:(likP (colA m i) (colA m j)).2 with
     | true=>rfl
     | false=>rw[hz] at l1; rw[l1] at hl; simp at hl
    obtain⟨n1,n2⟩:=l2 hl0
    rw[n1,n2]
    rw[hl0] at hst
    simp only at hst
    generalize likP (colA m i) (colA m j)=z at *
    have b1:=wa2 (x:=z.1.1) (y:=c.2) (K:=100) (L:=100) (by omega) (by omega) (by omega) (by omega)
    have b2:=wa2 (x:=c.1) (y:=z.1.2) (K:=100) (L:=100) (by omega) (by omega) (by omega) (by omega)
    refine⟨qa4 (by omega) (by omega),qa4 (by omega) (by omega),λhg=>?_,λhg=>?_⟩
    ·rw[if_pos (by simpa using hg)] at hst
     exact⟨qa4 (by omega) (by omega),(i+1,z.1),⟨hil,hst⟩,by dsimp only; omega,⟨by simp,trivial⟩,⟨rfl,rfl,trivial⟩,⟨rfl,rfl,trivial⟩,trivial⟩
    ·rw[if_neg (by simpa using hg)] at hst
     exact⟨qa4 (by omega) (by omega),(i+1,c),⟨hil,hst⟩,by dsimp only; omega,⟨by simp,trivial⟩,⟨rfl,rfl,trivial⟩,⟨rfl,rfl,trivial⟩,trivial⟩
  ·have hil:i=j:=by have:=of_decide_eq_false hil; dsimp only at this; omega
   subst hil
   rw[w27] at hc
   exact⟨qa4 (by dsimp only; omega) (by dsimp only; omega),(i+1,c),⟨hlt,hc⟩,by dsimp only; omega,⟨by simp,trivial⟩,⟨rfl,rfl,trivial⟩,⟨rfl,rfl,trivial⟩,trivial⟩
 ·have hge:j=(nthL m 0).length:=by have:=of_decide_eq_false hge; dsimp only at this; omega
  subst hge
  have hL:rcL m=some b:=by rw[<- hb]; unfold rcL rcK; simp[w5c]
  have e:rcE m=0:=by rw[hE,hL]; rfl
  have e2:rcR m=b:=by simp[rcR,e,hL]
  rw[e,e2]
  exact⟨⟨rfl,rfl,trivial⟩,rfl,trivial⟩
end Go.Proofs.YtempacilejhbgaaGreat.K
