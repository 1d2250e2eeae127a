/- Contracts of lightsieveref02's divisor and Likeness. No condition. -/
import Derived.Test.YtdibdlelmkcccaaGreatProg
import Derived.Test.YtdibdlelmkcccaaGreatKT2
import Derived.Test.YtdibdlelmkcccaaGreatApp
namespace Go.Proofs.YtdibdlelmkcccaaGreat.K
open Go.RowKit Ls
end Go.Proofs.YtdibdlelmkcccaaGreat.K
set_option linter.unusedVariables false
set_option linter.unusedSimpArgs false
namespace Go.Proofs.YtdibdlelmkcccaaGreat.K
open Go Go.RowKit Eng Ls
theorem rdL_ints {m:View}:∀l:List Int,RdL m tInt l (ints l)
 | []=>rfl
 | x :: r=>⟨[.int .i64 x],ints r,rfl,rfl,rdL_ints r⟩
open Go.RowKit Ls
set_option maxHeartbeats 400000 in
theorem qq0 (n lo hi:Int) (w:World) :
  Calls Tryz.prog 57 #[.int .i64 n,.int .i64 lo,.int .i64 hi] w λe w'=>e=.returned (.bool (inB n lo hi))/\w=w':=by
 by_cases h1:lo<=n
 ·by_cases h2:n<=hi
  ·go_enter Tryz.func57,Tryz.ntmps57
   go_wp2
   go_ret
   exact⟨qu6 (by simp[inB,h1,h2]),rfl⟩
  ·go_enter Tryz.func57,Tryz.ntmps57
   go_wp2
   go_ret
   exact⟨qu6 (by simp[inB,h1,h2]),rfl⟩
 ·go_enter Tryz.func57,Tryz.ntmps57
  go_wp2
  go_ret
  exact⟨qu6 (by simp[inB]; omega),rfl⟩
theorem x58 (A B:Option Addr) (n m c d:Nat) (xs ys:List Int) (w:World)
  (ha:SI w A n c xs) (hb:SI w B m d ys) (hnm:n<=m) :
  Calls Tryz.prog 79 #[.slice A n c,.slice B m d] w λe w'=>e=.returned (.int .i64 (q72 0 xs ys))/\Below w.heap.size w w':=
 (xw5 A B n m c d xs ys w ha hb hnm).mono λ_ _ ⟨h1,q,h2⟩=>⟨h1,h2 ▸ below_drewN (Below.refl _ w) q⟩
set_option maxHeartbeats 400000 in
theorem wg7 (A:Option Addr) (n c:Nat) (zs:List Int) (w:World) (h:SI w A n c zs) :
  Calls Tryz.prog 56 #[.slice A n c] w λe w'=>e=.returned (.bool (rowB zs))/\w=w':=by
 obtain rfl:=h.len
 have hmx:=h.nmax
 go_enter Tryz.func56,Tryz.ntmps56
 go_wp2
 go_loop [4,7] (λ_ i=>∃k:Nat,k<=zs.length/\i=.int .i64 k/\Hid (∀j,j<k->inB (nth zs j) (-1) 1=true)) (λ_ i=>zs.length-(intOf i).toNat)
 case atStart=>exact⟨0,Nat.zero_le _,rfl,λj hj=>absurd hj (Nat.not_lt_zero _)⟩
 case round=>
  obtain⟨k,hk,rfl,hall⟩:=hrel
  by_cases hlt:k<zs.length
  ·obtain⟨ad,rfl,hca⟩:=h.at_ (by omega)
   have h1:=hca k hlt
   clear hca h
   cases hq:inB (nth zs k) (-1) 1 with
   | true=>
    have Hq:=hidx hq
    go_wp2_with (go_at_call 57; refine(qq0 _ _ _ _).mono ?_; rintro e w1 ⟨rfl,rfl⟩)
    go_round
    case rel=>
     refine⟨k+1,by omega,by go_num,?_⟩
     intro j hj
     by_cases e:j=k
     ·subst e; exact Hq.out
     ·exact hall.out j (by omega)
    case measure=>simp[intOf]; omega
   | false=>
    have Hq:=hidx hq
    go_wp2_with (go_at_call 57; refine(qq0 _ _ _ _).mono ?_; rintro e w1 ⟨rfl,rfl⟩)
    go_ret
    exact⟨qu6 (by unfold rowB; rw[q9o (p:=λn=>inB n (-1) 1) k hlt Hq.out]; simp),rfl⟩
  ·have hkk:k=zs.length:=by omega
   subst hkk
   go_wp2_with (go_at_call 57; refine(qq0 _ _ _ _).mono ?_; rintro e w1 ⟨rfl,rfl⟩)
   go_ret
   exact⟨qu6 (by unfold rowB; rw[q9n (p:=λn=>inB n (-1) 1) hall.out]; simp),rfl⟩
set_option maxHeartbeats 400000 in
theorem q4k (A:Option Addr) (n c:Nat) (m:List (List Int)) (w:World) (h:SM w A n c m) :
  Calls Tryz.prog 19 #[.slice A n c] w λe w'=>e=.returned (.bool (validB m))/\w=w':=by
 obtain rfl:=h.len
 have hmx:=h.nmax
 go_enter Tryz.func19,Tryz.ntmps19
 go_wp2
 go_loop [4,7] (λ_ i=>∃k:Nat,k<=m.length/\i=.int .i64 k/\Hid (∀j,j<k->xi5 m (nthL m j)=true)) (λ_ i=>m.length-(intOf i).toNat)
 case atStart=>exact⟨0,Nat.zero_le _,rfl,λj hj=>absurd hj (Nat.not_lt_zero _)⟩
 case round=>
  obtain⟨k,hk,rfl,hall⟩:=hrel
  by_cases hlt:k<m.length
  ·obtain⟨ad,rfl,hca⟩:=h.at_ (by omega)
   obtain⟨A1,c1,h1,h2⟩:=hca k hlt
   obtain⟨A2,c2,h3,h4⟩:=hca 0 (by omega)
   rw[add_zero] at h3
   have hm1:=h2.nmax
   have hm2:=h4.nmax
   clear hca h h4
   cases hq:rowB (nthL m k) with
   | true=>
    have Hq:=hidx hq
    by_cases hl:((nthL m k).length:Int)=((nthL m 0).length:Int)
    ·have hfit:xi5 m (nthL m k)=true:=by
      unfold xi5; rw[hq]; simp; omega
     have Hf:=hidx hfit
     clear hfit
     have hl1:(((nthL m k).length:Int) != ((nthL m 0).length:Int))=false:=by simp; omega
     have Hl:=hidx hl
     clear hl
     go_wp2_with (go_at_call 56; refine(wg7 _ _ _ _ _ h2).mono ?_; rintro e w1 ⟨rfl,rfl⟩)
     go_round
     case rel=>
      refine⟨k+1,by omega,by go_num,?_⟩
      intro j hj
      by_cases e:j=k
      ·subst e; exact Hf.out
      ·exact hall.out j (by omega)
     case measure=>simp[intOf]; omega
    ·have hfit:xi5 m (nthL m k)=false:=by
      unfold xi5; rw[hq]; simp; omega
     have Hf:=hidx hfit
     clear hfit
     have hl1:(((nthL m k).length:Int) != ((nthL m 0).length:Int))=true:=by simp; omega
     go_wp2_with (go_at_call 56; refine(wg7 _ _ _ _ _ h2).mono ?_; rintro e w1 ⟨rfl,rfl⟩)
     go_ret
     exact⟨qu6 (by unfold validB; rw[q7u k hlt Hf.out]; simp),rfl⟩
   | false=>
    have hfit:xi5 m (nthL m k)=false:=by
     unfold xi5; rw[hq]; simp
    have Hf:=hidx hfit
    clear hfit
    go_wp2_with (go_at_call 56; refine(wg7 _ _ _ _ _ h2).mono ?_; rintro e w1 ⟨rfl,rfl⟩)
    go_ret
    exact⟨qu6 (by unfold validB; rw[q7u k hlt Hf.out]; simp),rfl⟩
  ·have hkk:k=m.length:=by omega
   subst hkk
   go_wp2_with (go_at_call 57; refine(qq0 _ _ _ _).mono ?_; rintro e w1 ⟨rfl,rfl⟩)
   go_ret
   exact⟨qu6 (by unfold validB; rw[wx1 hall.out]; simp),rfl⟩
set_option maxHeartbeats 400000 in
theorem wx4 (A:Option Addr) (n c:Nat) (m:List (List Int)) (j:Nat) (w:World)
  (hm:SM w A n c m) (hj:∀k,k<n->j<(nthL m k).length) (hsm:n<1000000) :
  Calls Tryz.prog 67 #[.slice A n c,.int .i64 j] w λe w'=>∃A' c',e=.returned (.slice A' n c')/\w'.ownsRow w.heap.size 3 1 (.slice A' n c') n (ints (qo4 m j))/\Below w.heap.size w w':=by
 obtain rfl:=hm.len
 have hnm:=hm.nmax
 go_enter Tryz.func67,Tryz.ntmps67
 go_wp2
 go_loopw [5,7,10] (λs _ i wr=>∃(k:Nat) (A':Option Addr) (c':Nat),k<=m.length/\i=.int .i64 k/\s=.slice A' k c'/\wr.ownsRow w.heap.size 3 1 (.slice A' k c') k (ints (qo4 (m.take k) j))/\Below w.heap.size w wr) (λ_ _ i _=>m.length-(intOf i).toNat)
 case atStart=>exact⟨0,none,0,Nat.zero_le _,rfl,rfl,World.ownsRow_nil _ _ _ _,Below.refl _ _⟩
 case round=>
  obtain⟨k,A',c',hk,rfl,rfl,hown,hb⟩:=hrel
  by_cases hlt:k<m.length
  ·obtain⟨ad,rfl,hca⟩:=(hm.below hb).at_ (by omega)
   obtain⟨A1,c1,h1,h2⟩:=hca k hlt
   have hjk:=hj k hlt
   obtain⟨a1,rfl,hc1⟩:=h2.at_ (by omega)
   have h3:=hc1 j hjk
   have h4:=h2.nmax
   clear hca hc1 h2 hm hj
   have HS:=hidx (w89 m j k hlt)
   go_wp2_with (at_builtin; refine app1 x56 rfl rfl _ _ rfl rfl rfl hown hb (Nat.le_refl _) rfl (by omega) (by omega) ?_; intro A2 c2 w2 hown2 hb2 _ hc2 hc2'; clear hown hb h1 h3)
   go_roundw
   case rel=>exact⟨k+1,_,_,by omega,by go_num,rfl,by rw[HS.out,<- w4u]; exact hown2,hb2⟩
   case measure=>simp[intOf]; omega
  ·have hkk:k=m.length:=by omega
   subst hkk
   go_wp2
   go_ret
   exact⟨_,_,rfl,by simpa using hown,hb⟩
set_option maxHeartbeats 400000 in
theorem q4l (A X:Option Addr) (n c k d:Nat) (m:List (List Int)) (x:List Int) (w:World) (hm:SM w A n c m) (hx:SI w X k d x) :
  Calls Tryz.prog 66 #[.slice A n c,.slice X k d] w λe w'=>e=.returned (.int .i64 (qs4 m x))/\w=w':=by
 have hkm:=hx.nmax
 obtain rfl:=hx.len
 cases hv:validB m with
 | true=>
  have hM:=IsMask.of hv
  have hn:=hM.rows1
  have hp:=hM.pix1
  have hp2:=hM.pix10
  have hl:=hm.len
  obtain⟨ad,rfl,hca⟩:=hm.at_ (by omega)
  obtain⟨A2,c2,h3,h4⟩:=hca 0 (by omega)
  rw[add_zero] at h3
  have hn':0<n:=by omega
  clear hca h4 hM hl hn
  go_enter Tryz.func66,Tryz.ntmps66
  go_wp2_with (go_at_call 19; refine(q4k _ _ _ _ _ hm).mono ?_; rintro e w1 ⟨rfl,rfl⟩)
  go_loop [6,12] (λ_ i=>∃k:Nat,k<=x.length/\i=.int .i64 k/\Hid (∀j,j<k->inB (nth x j) 0 ((nthL m 0).length-1)=true)) (λ_ i=>x.length-(intOf i).toNat)
  case atStart=>exact⟨0,Nat.zero_le _,rfl,λj hj=>absurd hj (Nat.not_lt_zero _)⟩
  case round=>
   obtain⟨k,hk,rfl,hall⟩:=hrel
   by_cases hlt:k<x.length
   ·obtain⟨ad,rfl,hca⟩:=hx.at_ (by omega)
    have h1:=hca k hlt
    clear hca hx
    cases hq:inB (nth x k) 0 ((nthL m 0).length-1) with
    | true=>
     have Hq:=hidx hq
     go_wp2_with (go_at_call 57; refine(qq0 _ _ _ _).mono ?_; rintro e w1 ⟨rfl,rfl⟩)
     go_round
     case rel=>
      refine⟨k+1,by omega,by go_num,?_⟩
      intro j hj
      by_cases e:j=k
      ·subst e; exact Hq.out
      ·exact hall.out j (by omega)
     case measure=>simp[intOf]; omega
    | false=>
     have Hf:=hidx hq
     go_wp2_with (go_at_call 57; refine(qq0 _ _ _ _).mono ?_; rintro e w1 ⟨rfl,rfl⟩)
     go_ret
     exact⟨q3q (by unfold qs4; rw[hv,q9o (p:=λn=>inB n 0 ((nthL m 0).length-1)) k hlt Hf.out]; simp),rfl⟩
   ·have hkk:k=x.length:=by omega
    subst hkk
    go_wp2
    go_ret
    exact⟨q3q (by unfold qs4; rw[hv,q9n (p:=λn=>inB n 0 ((nthL m 0).length-1)) hall.out]; simp),rfl⟩
 | false=>
  go_enter Tryz.func66,Tryz.ntmps66
  go_wp2_with (go_at_call 19; refine(q4k _ _ _ _ _ hm).mono ?_; rintro e w1 ⟨rfl,rfl⟩)
  go_ret
  exact⟨q3q (by unfold qs4; rw[hv]; simp),rfl⟩
def qh6 (m:List (List Int)) (i j:Int):Int:=if qs4 m [i,j]=0 then(if likeD (qo4 m i.toNat) (qo4 m j.toNat)=0 then 8 else 0) else qs4 m [i,j]
def w2i (m:List (List Int)) (i j:Int):Int:=if qh6 m i j=0 then ratN (likeN (qo4 m i.toNat) (qo4 m j.toNat)) (likeD (qo4 m i.toNat) (qo4 m j.toNat)) else 0
def q3l (m:List (List Int)) (i j:Int):Int:=if qh6 m i j=0 then ratD (likeN (qo4 m i.toNat) (qo4 m j.toNat)) (likeD (qo4 m i.toNat) (qo4 m j.toNat)) else 0
theorem qy5 (A:Option Addr) (n c:Nat) (m:List (List Int)) (j:Int) (w:World) (hm:SM w A n c m) (hM:IsMask m) (h0:0<=j) (h1:j<(nthL m 0).length) :
  Calls Tryz.prog 67 #[.slice A n c,.int .i64 j] w λe w'=>∃A' c',e=.returned (.slice A' n c')/\w'.ownsRow w.heap.size 3 1 (.slice A' n c') n (ints (qo4 m j.toNat))/\Below w.heap.size w w':=by
 obtain⟨k,rfl⟩:=Int.eq_ofNat_of_zero_le h0
 rw[Int.toNat_natCast]
 exact wx4 A n c m k w hm (λi hi=>by rw[hM.each i (by rw[hm.len]; exact hi)]; omega) (by have:=hM.rows6; have:=hm.len; omega)
def longB (l:List (List Int)):Bool:=l.any λx=>decide ((200:Int)<x.length)
set_option maxHeartbeats 400000 in
theorem wx5 (n d:Nat) (w:World) (hn:n<=1000000) (hd:d<=1000000) :
  Calls Tryz.prog 130 #[.int .i64 n,.int .i64 d] w λe w'=>e=.returned (.int .i64 (Nat.gcd n d))/\Below w.heap.size w w':=by
 go_enter Tryz.func130,Tryz.ntmps130
 go_wp2
 go_loopw [0,1] (λa b wr=>∃x y:Nat,x<=1000000/\y<=1000000/\a=.int .i64 x/\b=.int .i64 y/\Hid (Nat.gcd x y=Nat.gcd n d)/\Below w.heap.size w wr) (λ_ b _=>(intOf b).toNat)
 case atStart=>exact⟨n,d,hn,hd,rfl,rfl,rfl,Below.refl _ _⟩
 case round=>
  obtain⟨x,y,hx,hy,rfl,rfl,hg,hb⟩:=hrel
  by_cases h0:y=0
  ·subst h0
   go_wp2
   go_ret
   exact⟨q3q (by rw[<- hg.out]; simp),hb⟩
  ·have hy0:(0:Int)<y:=by omega
   go_wp2
   go_quiet (fail)
   go_wp2
   go_roundw
   case rel=>
    have hm:=Nat.mod_lt x (show 0<y by omega)
    exact⟨y,x % y,hy,by omega,rfl,by go_num,by unfold Hid; rw[<- hg.out,Nat.gcd_comm y,<- Nat.gcd_rec,Nat.gcd_comm],below_drewN hb _⟩
   case measure=>
    have hm:=Nat.mod_lt x (show 0<y by omega)
    simp[intOf]; omega
theorem dot_sm (A B:Option Addr) (n m c d:Nat) (xs ys:List Int) (w:World) (hx:Sm xs) (hy:Sm ys)
  (ha:SI w A n c xs) (hb:SI w B m d ys) (hnm:n<=m) :
  Calls Tryz.prog 79 #[.slice A n c,.slice B m d] w λe w'=>e=.returned (.int .i64 (dotI xs ys))/\Below w.heap.size w w':=by
 rw[<- (q7v hx hy).1]; exact x58 A B n m c d xs ys w ha hb hnm
set_option maxRecDepth 100000 in
set_option maxHeartbeats 4000000 in
theorem wg8 (A:Option Addr) (n c:Nat) (m:List (List Int)) (i j:Int) (w:World) (hm:SM w A n c m) :
  Calls Tryz.prog 84 #[.slice A n c,.int .i64 i,.int .i64 j] w λe w'=>e=.returned (.tuple #[.agg #[.int .i64 (w2i m i j),.int .i64 (q3l m i j)],.int .i64 (qh6 m i j)])/\Below w.heap.size w w':=by
 have hb00:=λo o'=>step_trans (below_alloc w o) (below_alloc (w.alloc o) o')
 have hs:∀o t,SI ((w.alloc o).alloc (.cells #[.int .i64 i,.int .i64 j] t)) (some ⟨w.heap.size+1,0,none⟩) 2 2 [i,j]:=λo t=>by
  have:=SI.new2 (w.alloc o) t i j
  rwa [World.size_alloc] at this
 by_cases hE:qs4 m [i,j]=0
 ·obtain⟨hM,⟨h0,h1⟩,h2,h3⟩:=x2i hE
  have sm1:=q7w hM (j:=i.toNat) (by omega)
  have sm2:=q7w hM (j:=j.toNat) (by omega)
  by_cases hD:likeD (qo4 m i.toNat) (qo4 m j.toNat)=0
  ·have e1:qh6 m i j=8:=by unfold qh6; rw[if_pos hE,if_pos hD]
   have e2:w2i m i j=0:=by unfold w2i; rw[e1]; rfl
   have e3:q3l m i j=0:=by unfold q3l; rw[e1]; rfl
   rw[e1,e2,e3]
   clear e1 e2 e3
   have hd:=q0u (qo4 m i.toNat) (qo4 m j.toNat)
   rw[hD] at hd
   have hn:=q3j (qo4 m i.toNat) (qo4 m j.toNat)
   have hnl:=q5o sm1 sm2
   have d1:=λX Y c d W h h'=>dot_sm X Y n n c d _ _ W sm1 sm2 h h' (Nat.le_refl _)
   have d2:=λX c d W h h'=>dot_sm X X n n c d _ _ W sm1 sm1 h h' (Nat.le_refl _)
   have d3:=λX c d W h h'=>dot_sm X X n n c d _ _ W sm2 sm2 h h' (Nat.le_refl _)
   generalize dotI (qo4 m i.toNat) (qo4 m i.toNat)=p at hd d2
   generalize dotI (qo4 m j.toNat) (qo4 m j.toNat)=q at hd d3
   generalize dotI (qo4 m i.toNat) (qo4 m j.toNat)=r at hn d1
   have hpq:p*q=0:=hd.symm
   have hr1:0<=r*r:=by omega
   have hr2:r*r<=100:=by omega
   clear hd hn hnl hD
   go_enter Tryz.func84,Tryz.ntmps84
   go_wp2_with (go_at_call 66; refine(q4l A _ n c 2 2 m [i,j] _ (hm.below (hb00 _ _)) (hs _ _)).mono ?_; rintro e w1 ⟨rfl,rfl⟩)
   refine(qy5 A n c m i _ (hm.below (hb00 _ _)) hM h0 h1).mono ?_
   rintro e w2 ⟨A2,c2,rfl,hown2,hb2⟩
   have hbw2:=step_trans (hb00 _ _) hb2
   go_wp2_with fail
   refine(qy5 A n c m j _ (hm.below hbw2) hM h2 h3).mono ?_
   rintro e w3 ⟨A3,c3,rfl,hown3,hb3⟩
   have s2:=(q5q hown2).below hb3
   have s3:=q5q hown3
   go_wp2_with fail
   refine(d1 _ _ _ _ _ s2 s3).mono ?_
   rintro e w4 ⟨rfl,hb4⟩
   go_wp2_with fail
   refine(d1 _ _ _ _ _ (s2.below hb4) (s3.below hb4)).mono ?_
   rintro e w5 ⟨rfl,hb5⟩
   have hb45:=step_trans hb4 hb5
   go_wp2_with fail
   refine(d2 _ _ _ _ (s2.below hb45) (s2.below hb45)).mono ?_
   rintro e w6 ⟨rfl,hb6⟩
   have hb456:=step_trans hb45 hb6
   go_wp2_with fail
   refine(d3 _ _ _ _ (s3.below hb456) (s3.below hb456)).mono ?_
   rintro e w7 ⟨rfl,hb7⟩
   have hbw4:=step_trans hb2 (step_trans hb3 (step_trans hb456 hb7))
   have hx0:w7.cell? ⟨w.heap.size,0,none⟩=some (.int .i64 0):=Below.cell_of hbw4 (by simp)
   have hx1:w7.cell? ⟨w.heap.size,1,none⟩=some (.int .i64 0):=Below.cell_of hbw4 (by simp)
   have hx2:w7.frozen? ⟨w.heap.size,0,none⟩=false:=(hbw4.frozen (p:=⟨w.heap.size,0,none⟩) (by simp; omega)).trans (by simp)
   have hx3:w7.frozen? ⟨w.heap.size,1,none⟩=false:=(hbw4.frozen (p:=⟨w.heap.size,1,none⟩) (by simp; omega)).trans (by simp)
   have hbB:=step_trans (hb00 _ _) hbw4
   clear d1 d2 d3 hb2 hb3 hb4 hb5 hb6 hb7 hb45 hb456 hbw2 s2 s3 hown2 hown3
   go_wp2
   refine bodyPost_ret (v:=.tuple #[.agg #[.int .i64 0,.int .i64 0],.int .i64 8]) (by simp[results,Tryz.results84,go_sem,hx0,hx1]) rfl ⟨rfl,?_⟩
   exact((hbB.setCell (Nat.le_refl _) _).setCell (Nat.le_refl _) _)
  ·have e1:qh6 m i j=0:=by unfold qh6; rw[if_pos hE,if_neg hD]
   have e2:w2i m i j=ratN (likeN (qo4 m i.toNat) (qo4 m j.toNat)) (likeD (qo4 m i.toNat) (qo4 m j.toNat)):=by unfold w2i; rw[if_pos e1]
   have e3:q3l m i j=ratD (likeN (qo4 m i.toNat) (qo4 m j.toNat)) (likeD (qo4 m i.toNat) (qo4 m j.toNat)):=by unfold q3l; rw[if_pos e1]
   rw[e1,e2,e3]
   clear e1 e2 e3
   have hd:=q0u (qo4 m i.toNat) (qo4 m j.toNat)
   have hn:=q3j (qo4 m i.toNat) (qo4 m j.toNat)
   have hdl:=wg1 sm1 sm2
   have hnl:=q5o sm1 sm2
   have d1:=λX Y c d W h h'=>dot_sm X Y n n c d _ _ W sm1 sm2 h h' (Nat.le_refl _)
   have d2:=λX c d W h h'=>dot_sm X X n n c d _ _ W sm1 sm1 h h' (Nat.le_refl _)
   have d3:=λX c d W h h'=>dot_sm X X n n c d _ _ W sm2 sm2 h h' (Nat.le_refl _)
   have d4:=λW=>wx5 (likeN (qo4 m i.toNat) (qo4 m j.toNat)) (likeD (qo4 m i.toNat) (qo4 m j.toNat)) W (by omega) (by omega)
   rw[hd,hn] at d4
   generalize likeD (qo4 m i.toNat) (qo4 m j.toNat)=D at hd d4 hD hdl ⊢
   generalize likeN (qo4 m i.toNat) (qo4 m j.toNat)=N at hn d4 hnl ⊢
   generalize dotI (qo4 m i.toNat) (qo4 m i.toNat)=p at hd d2 d4
   generalize dotI (qo4 m j.toNat) (qo4 m j.toNat)=q at hd d3 d4
   generalize dotI (qo4 m i.toNat) (qo4 m j.toNat)=r at hn d1 d4
   have hpq1:1<=p*q:=by omega
   have hpq2:p*q<=100:=by omega
   have hr1:0<=r*r:=by omega
   have hr2:r*r<=100:=by omega
   have hp0:(p==0)=false:=by
    cases h:p==0
    ·rfl
    ·simp at h; subst h; simp at hpq1
   have hq0:(q==0)=false:=by
    cases h:q==0
    ·rfl
    ·simp at h; subst h; simp at hpq1
   have hg:0<Nat.gcd N D:=Nat.gcd_pos_of_pos_right _ (by omega)
   have fN:ratN N D=(r*r) / (Nat.gcd N D:Int):=by unfold ratN; rw[<- hn]; simp
   have fD:ratD N D=(p*q) / (Nat.gcd N D:Int):=by unfold ratD; rw[<- hd]; simp
   rw[fN,fD]
   generalize hG:Nat.gcd N D=G at *
   have hG1:(0:Int)<G:=by omega
   have hG2:((G:Int)==0)=false:=by simp; omega
   have b1:(0:Int)<=(r*r) / (G:Int):=Int.ediv_nonneg (by omega) (by omega)
   have b2:(r*r) / (G:Int)<=r*r:=Int.ediv_le_self _ (by omega)
   have b3:(0:Int)<=(p*q) / (G:Int):=Int.ediv_nonneg (by omega) (by omega)
   have b4:(p*q) / (G:Int)<=p*q:=Int.ediv_le_self _ (by omega)
   clear hd hn hD hdl hnl fN fD hG hg
   go_enter Tryz.func84,Tryz.ntmps84
   go_wp2_with (go_at_call 66; refine(q4l A _ n c 2 2 m [i,j] _ (hm.below (hb00 _ _)) (hs _ _)).mono ?_; rintro e w1 ⟨rfl,rfl⟩)
   refine(qy5 A n c m i _ (hm.below (hb00 _ _)) hM h0 h1).mono ?_
   rintro e w2 ⟨A2,c2,rfl,hown2,hb2⟩
   have hbw2:=step_trans (hb00 _ _) hb2
   go_wp2_with fail
   refine(qy5 A n c m j _ (hm.below hbw2) hM h2 h3).mono ?_
   rintro e w3 ⟨A3,c3,rfl,hown3,hb3⟩
   have s2:=(q5q hown2).below hb3
   have s3:=q5q hown3
   go_wp2_with fail
   refine(d1 _ _ _ _ _ s2 s3).mono ?_
   rintro e w4 ⟨rfl,hb4⟩
   go_wp2_with fail
   refine(d1 _ _ _ _ _ (s2.below hb4) (s3.below hb4)).mono ?_
   rintro e w5 ⟨rfl,hb5⟩
   have hb45:=step_trans hb4 hb5
   go_wp2_with fail
   refine(d2 _ _ _ _ (s2.below hb45) (s2.below hb45)).mono ?_
   rintro e w6 ⟨rfl,hb6⟩
   have hb456:=step_trans hb45 hb6
   go_wp2_with fail
   refine(d3 _ _ _ _ (s3.below hb456) (s3.below hb456)).mono ?_
   rintro e w7 ⟨rfl,hb7⟩
   go_wp2_with fail
   refine(d4 _).mono ?_
   rintro e w8 ⟨rfl,hb8⟩
   have hbw4:=step_trans hb2 (step_trans hb3 (step_trans hb456 (step_trans hb7 hb8)))
   have hx0:w8.cell? ⟨w.heap.size,0,none⟩=some (.int .i64 0):=Below.cell_of hbw4 (by simp)
   have hx1:w8.cell? ⟨w.heap.size,1,none⟩=some (.int .i64 0):=Below.cell_of hbw4 (by simp)
   have hx2:w8.frozen? ⟨w.heap.size,0,none⟩=false:=(hbw4.frozen (p:=⟨w.heap.size,0,none⟩) (by simp; omega)).trans (by simp)
   have hx3:w8.frozen? ⟨w.heap.size,1,none⟩=false:=(hbw4.frozen (p:=⟨w.heap.size,1,none⟩) (by simp; omega)).trans (by simp)
   have hbB:=step_trans (hb00 _ _) hbw4
   clear d1 d2 d3 d4 hb2 hb3 hb4 hb5 hb6 hb7 hb8 hb45 hb456 hbw2 s2 s3 hown2 hown3
   go_wp2
   go_region
   go_wp2
   refine bodyPost_ret (v:=.tuple #[.agg #[.int .i64 ((r*r) / (G:Int)),.int .i64 ((p*q) / (G:Int))],.int .i64 0]) (by simp[results,Tryz.results84,go_sem,hx0,hx1]) rfl ⟨rfl,?_⟩
   exact((hbB.drew.setCell (Nat.le_refl _) _).setCell (Nat.le_refl _) _)
 ·have e1:qh6 m i j=qs4 m [i,j]:=by unfold qh6; rw[if_neg hE]
  have e2:w2i m i j=0:=by unfold w2i; rw[if_neg (by rw[e1]; exact hE)]
  have e3:q3l m i j=0:=by unfold q3l; rw[if_neg (by rw[e1]; exact hE)]
  rw[e1,e2,e3]
  have he:(qs4 m [i,j] != 0)=true:=by simp[hE]
  have he2:(qs4 m [i,j]==0)=false:=by simp[hE]
  clear e1 e2 e3
  go_enter Tryz.func84,Tryz.ntmps84
  go_wp2_with (go_at_call 66; refine(q4l A _ n c 2 2 m [i,j] _ (hm.below (hb00 _ _)) (hs _ _)).mono ?_; rintro e w1 ⟨rfl,rfl⟩)
  refine bodyPost_ret (v:=.tuple #[.agg #[.int .i64 0,.int .i64 0],.int .i64 (qs4 m [i,j])]) (by simp[results,Tryz.results84,go_sem]) rfl ⟨rfl,?_⟩
  exact hb00 _ _
end Go.Proofs.YtdibdlelmkcccaaGreat.K
