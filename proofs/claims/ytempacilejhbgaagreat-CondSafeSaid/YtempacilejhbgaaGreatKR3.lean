/- Contracts of lightsieveref02's Back, Column, Product, Rows, Pixels, divisor, Likeness and of the law's long and Small. No condition. -/
import Derived.Test.YtempacilejhbgaaGreatKMNum
import Derived.Test.YtempacilejhbgaaGreatV4
import Derived.Test.YtempacilejhbgaaGreatProg
import Derived.Test.YtempacilejhbgaaGreatApp
namespace Go.Proofs.YtempacilejhbgaaGreat.K
open Go.RowKit Ls
end Go.Proofs.YtempacilejhbgaaGreat.K
set_option linter.unusedVariables false
set_option linter.unusedSimpArgs false
namespace Go.Proofs.YtempacilejhbgaaGreat.K
open Go Go.RowKit Eng Ls
theorem w95 {m:View} {w:World} (hm:m.on w) {l:List (List Int)} {v:Value} (h:RdV m tMask l v):∃A c,v=.slice A l.length c/\SM w A l.length c l:=by
 obtain⟨A,c,e,h2,h3,h4⟩:=h
 refine⟨A,c,(List.cons.inj e).1,rfl,h2,h3,λhn=>?_⟩
 obtain⟨ad,e2,h5⟩:=h4 hn
 refine⟨ad,e2,λk hk=>?_⟩
 obtain⟨cs,k1,k2⟩:=h5 k hk
 have hk1:=Rd.length k1
 obtain⟨z,rfl⟩:=List.length_eq_one_iff.1 hk1
 obtain⟨A',c',e3,hs⟩:=x4o hm k1
 have:=View.cell_on hm (k2 0 z rfl)
 simp only[Ty.size,Nat.mul_one,Nat.add_zero] at this
 subst e3
 exact⟨A',c',this,hs⟩
def sMB (f:List (List Int)->Bool):qb9:=qf6 true none [tMask] [.bool] (λ_=>True) (λx=>(f x.1,()))
def likP (a b:List Int):(Int × Int) × Bool:=if likeD a b=0 then((0,0),false) else((ratN (likeN a b) (likeD a b),ratD (likeN a b) (likeD a b)),true)
def qn3 (m:List (List Int)) (o:Option (Int × Int)) (q:Nat × Nat):Option (Int × Int):=o.bind λb=>match(likP (colA m q.1) (colA m q.2)).2 with
 | false=>none
 | true=>some (if(likP (colA m q.1) (colA m q.2)).1.1*b.2 > b.1*(likP (colA m q.1) (colA m q.2)).1.2 then(likP (colA m q.1) (colA m q.2)).1 else b)
def xc3 (m:List (List Int)) (k:Nat):Option (Int × Int):=((prsL m).take k).foldl (qn3 m) (some (0,1))
def cohE (m:List (List Int)):Int:=if validB m=false then 1 else if(qh4 (.list (.int .i64)) m 0:List Int).length<2 then 8 else if(xc3 m (prsL m).length).isNone then 8 else 0
def cohR (m:List (List Int)):Int × Int:=if cohE m=0 then(xc3 m (prsL m).length).getD (0,0) else(0,0)
def sCoh:qb9:=qf6 true none [tMask] [.prod tInt tInt,tInt] (λ_=>True) (λx=>(cohR x.1,cohE x.1,()))
theorem w96 {p:Nat}:∀{i:Nat} {q:Nat × Nat},i<=p->q∈prs p i->q.1<i/\q.1<q.2/\q.2<p
 | 0,q,_,h=>by cases h
 | i+1,q,hi,h=>by
  rcases List.mem_append.1 h with h | h
  ·obtain⟨h1,h2,h3⟩:=w96 (by omega) h
   exact⟨by omega,h2,h3⟩
  ·obtain⟨d,hd,rfl⟩:=List.mem_map.1 h
   have:=List.mem_range.1 hd
   exact⟨by simp,by simp; omega,by simp; omega⟩
theorem xz6 {m:List (List Int)} (h:IsMask m) {k:Nat} {q:Nat × Nat} (hq:(prsL m)[k]? = some q):Sm (colA m q.1)/\Sm (colA m q.2)/\(colA m q.1).length=(colA m q.2).length:=by
 obtain⟨h1,h2,h3⟩:=w96 (Nat.le_refl _) (List.mem_of_getElem? hq)
 have h3:q.2<(nthL m 0).length:=h3
 exact⟨q8e h (j:=q.1) (by omega),q8e h h3,by simp[colA]⟩
theorem w0d {a b:List Int} (ha:Sm a) (hb:Sm b):(0<=(likP a b).1.1/\(likP a b).1.1<=100)/\0<=(likP a b).1.2/\(likP a b).1.2<=100:=by
 have h1:=w24 ha hb
 have h2:=wi9 ha hb
 unfold likP
 split
 ·simp
 ·have h3:=Nat.div_le_self (likeN a b) (Nat.gcd (likeN a b) (likeD a b))
  have h4:=Nat.div_le_self (likeD a b) (Nat.gcd (likeN a b) (likeD a b))
  exact⟨⟨Int.natCast_nonneg _,Int.ofNat_le.2 (Nat.le_trans h3 h2)⟩,Int.natCast_nonneg _,Int.ofNat_le.2 (Nat.le_trans h4 h1)⟩
theorem w97 {m:List (List Int)} {k:Nat} {q:Nat × Nat} (hq:(prsL m)[k]? = some q):xc3 m (k+1)=qn3 m (xc3 m k) q:=by
 unfold xc3
 rw[List.take_add_one,hq]
 simp
theorem cohK_bd {m:List (List Int)} (h:IsMask m):∀{k:Nat} {b:Int × Int},k<=(prsL m).length->xc3 m k=some b->(0<=b.1/\b.1<=100)/\0<=b.2/\b.2<=100
 | 0,b,_,hb=>by
  have hb:some (0,1)=some b:=hb
  injection hb with hb
  subst hb
  simp
 | k+1,b,hk,hb=>by
  have hq:(prsL m)[k]? = some ((prsL m)[k]):=List.getElem?_eq_getElem (by omega)
  rw[w97 hq] at hb
  obtain⟨p1,p2,-⟩:=xz6 h hq
  have h5:=w0d p1 p2
  cases hc:xc3 m k with
  | none=>rw[hc] at hb; cases hb
  | some b0=>
   have h6:=cohK_bd h (by omega) hc
   rw[hc] at hb
   simp only[qn3,Option.bind_some] at hb
   split at hb
   ·cases hb
   ·injection hb with hb
    subst hb
    split
    ·exact h5
    ·exact h6
open Go.RowKit Ls
end Go.Proofs.YtempacilejhbgaaGreat.K
set_option linter.unusedVariables false
set_option linter.unusedSimpArgs false
namespace Go.Proofs.YtempacilejhbgaaGreat.K
open Go Go.RowKit Eng Ls
theorem rdL_ints {m:View}:∀l:List Int,RdL m tInt l (ints l)
 | []=>rfl
 | x :: r=>⟨[.int .i64 x],ints r,rfl,rfl,rdL_ints r⟩
def yd6 (l:List Int):List Int:=l.map λx=>-x
def alk (m:List (List Int)) (q:Nat × Nat):Bool:=decide (colA m q.1=colA m q.2) || decide (colA m q.1=yd6 (colA m q.2))
def yd7 (m:List (List Int)) (k:Nat):List (Int × Int):=(((prsL m).take k).filter (alk m)).map λq=>((q.1:Int),(q.2:Int))
def ivAlk (m:List (List Int)):Nat->Option Inv
 | 0=>some (Inv.of [] 2 (λ_:Nat=>[]) (λk=>[.box 52 (.cons (.own 1) .nil),.vec 55 (.prod tInt tInt) (yd7 m k)]) (λk=>k<=(prsL m).length) (λk=>k))
 | _=>none
open Go.RowKit Ls
set_option maxHeartbeats 400000 in
theorem qq0 (n lo hi:Int) (w:World) :
  Calls Tryz.prog 95 #[.int .i64 n,.int .i64 lo,.int .i64 hi] w λe w'=>e=.returned (.bool (inB n lo hi))/\w=w':=by
 by_cases h1:lo<=n
 ·by_cases h2:n<=hi
  ·go_enter Tryz.func95,Tryz.ntmps95
   go_wp2
   go_ret
   exact⟨qu7 (by simp[inB,h1,h2]),rfl⟩
  ·go_enter Tryz.func95,Tryz.ntmps95
   go_wp2
   go_ret
   exact⟨qu7 (by simp[inB,h1,h2]),rfl⟩
 ·go_enter Tryz.func95,Tryz.ntmps95
  go_wp2
  go_ret
  exact⟨qu7 (by simp[inB]; omega),rfl⟩
theorem x62 (A B:Option Addr) (n m c d:Nat) (xs ys:List Int) (w:World)
  (ha:SI w A n c xs) (hb:SI w B m d ys) (hnm:n<=m) :
  Calls Tryz.prog 68 #[.slice A n c,.slice B m d] w λe w'=>e=.returned (.int .i64 (wi6 0 xs ys))/\Below w.heap.size w w':=
 (xz3 A B n m c d xs ys w ha hb hnm).mono λ_ _ ⟨h1,q,h2⟩=>⟨h1,h2 ▸ below_drewN (Below.refl _ w) q⟩
set_option maxHeartbeats 400000 in
theorem wj0 (A:Option Addr) (n c:Nat) (zs:List Int) (w:World) (h:SI w A n c zs) :
  Calls Tryz.prog 94 #[.slice A n c] w λe w'=>e=.returned (.bool (rowB zs))/\w=w':=by
 obtain rfl:=h.len
 have hmx:=h.nmax
 go_enter Tryz.func94,Tryz.ntmps94
 go_wp2
 go_loop [4,7] (λ_ i=>∃k:Nat,k<=zs.length/\i=.int .i64 k/\Hid (∀j,j<k->inB (nth zs j) (-1) 1=true)) (λ_ i=>zs.length-(intOf i).toNat)
 case atStart=>exact⟨0,Nat.zero_le _,rfl,λj hj=>absurd hj (Nat.not_lt_zero _)⟩
 case round=>
  obtain⟨k,hk,rfl,hall⟩:=hrel
  by_cases hlt:k<zs.length
  ·obtain⟨ad,rfl,hca⟩:=h.at_ (by omega)
   have h1:=hca k hlt
   clear hca h
   cases hq:inB (nth zs k) (-1) 1 with
   | true=>
    have Hq:=hidx hq
    go_wp2_with (go_at_call 95; refine(qq0 _ _ _ _).mono ?_; rintro e w1 ⟨rfl,rfl⟩)
    go_round
    case rel=>
     refine⟨k+1,by omega,by go_num,?_⟩
     intro j hj
     by_cases e:j=k
     ·subst e; exact Hq.out
     ·exact hall.out j (by omega)
    case measure=>simp[intOf]; omega
   | false=>
    have Hq:=hidx hq
    go_wp2_with (go_at_call 95; refine(qq0 _ _ _ _).mono ?_; rintro e w1 ⟨rfl,rfl⟩)
    go_ret
    exact⟨qu7 (by unfold rowB; rw[wa1 (p:=λn=>inB n (-1) 1) k hlt Hq.out]; simp),rfl⟩
  ·have hkk:k=zs.length:=by omega
   subst hkk
   go_wp2_with (go_at_call 95; refine(qq0 _ _ _ _).mono ?_; rintro e w1 ⟨rfl,rfl⟩)
   go_ret
   exact⟨qu7 (by unfold rowB; rw[wa0 (p:=λn=>inB n (-1) 1) hall.out]; simp),rfl⟩
set_option maxHeartbeats 400000 in
theorem q44 (A:Option Addr) (n c:Nat) (m:List (List Int)) (w:World) (h:SM w A n c m) :
  Calls Tryz.prog 51 #[.slice A n c] w λe w'=>e=.returned (.bool (validB m))/\w=w':=by
 obtain rfl:=h.len
 have hmx:=h.nmax
 go_enter Tryz.func51,Tryz.ntmps51
 go_wp2
 go_loop [4,7] (λ_ i=>∃k:Nat,k<=m.length/\i=.int .i64 k/\Hid (∀j,j<k->xm6 m (nthL m j)=true)) (λ_ i=>m.length-(intOf i).toNat)
 case atStart=>exact⟨0,Nat.zero_le _,rfl,λj hj=>absurd hj (Nat.not_lt_zero _)⟩
 case round=>
  obtain⟨k,hk,rfl,hall⟩:=hrel
  by_cases hlt:k<m.length
  ·obtain⟨ad,rfl,hca⟩:=h.at_ (by omega)
   obtain⟨A1,c1,h1,h2⟩:=hca k hlt
   obtain⟨A2,c2,h3,h4⟩:=hca 0 (by omega)
   rw[add_zero] at h3
   have hm1:=h2.nmax
   have hm2:=h4.nmax
   clear hca h h4
   cases hq:rowB (nthL m k) with
   | true=>
    have Hq:=hidx hq
    by_cases hl:((nthL m k).length:Int)=((nthL m 0).length:Int)
    ·have hfit:xm6 m (nthL m k)=true:=by
      unfold xm6; rw[hq]; simp; omega
     have Hf:=hidx hfit
     clear hfit
     have hl1:(((nthL m k).length:Int) != ((nthL m 0).length:Int))=false:=by simp; omega
     have Hl:=hidx hl
     clear hl
     go_wp2_with (go_at_call 94; refine(wj0 _ _ _ _ _ h2).mono ?_; rintro e w1 ⟨rfl,rfl⟩)
     go_round
     case rel=>
      refine⟨k+1,by omega,by go_num,?_⟩
      intro j hj
      by_cases e:j=k
      ·subst e; exact Hf.out
      ·exact hall.out j (by omega)
     case measure=>simp[intOf]; omega
    ·have hfit:xm6 m (nthL m k)=false:=by
      unfold xm6; rw[hq]; simp; omega
     have Hf:=hidx hfit
     clear hfit
     have hl1:(((nthL m k).length:Int) != ((nthL m 0).length:Int))=true:=by simp; omega
     go_wp2_with (go_at_call 94; refine(wj0 _ _ _ _ _ h2).mono ?_; rintro e w1 ⟨rfl,rfl⟩)
     go_ret
     exact⟨qu7 (by unfold validB; rw[q8d k hlt Hf.out]; simp),rfl⟩
   | false=>
    have hfit:xm6 m (nthL m k)=false:=by
     unfold xm6; rw[hq]; simp
    have Hf:=hidx hfit
    clear hfit
    go_wp2_with (go_at_call 94; refine(wj0 _ _ _ _ _ h2).mono ?_; rintro e w1 ⟨rfl,rfl⟩)
    go_ret
    exact⟨qu7 (by unfold validB; rw[q8d k hlt Hf.out]; simp),rfl⟩
  ·have hkk:k=m.length:=by omega
   subst hkk
   go_wp2_with (go_at_call 95; refine(qq0 _ _ _ _).mono ?_; rintro e w1 ⟨rfl,rfl⟩)
   go_ret
   exact⟨qu7 (by unfold validB; rw[w0c hall.out]; simp),rfl⟩
set_option maxHeartbeats 400000 in
theorem w0e (A:Option Addr) (n c:Nat) (m:List (List Int)) (j:Nat) (w:World)
  (hm:SM w A n c m) (hj:∀k,k<n->j<(nthL m k).length) (hsm:n<1000000) :
  Calls Tryz.prog 126 #[.slice A n c,.int .i64 j] w λe w'=>∃A' c',e=.returned (.slice A' n c')/\w'.ownsRow w.heap.size 3 1 (.slice A' n c') n (ints (qo2 m j))/\Below w.heap.size w w':=by
 obtain rfl:=hm.len
 have hnm:=hm.nmax
 go_enter Tryz.func126,Tryz.ntmps126
 go_wp2
 go_loopw [5,7,10] (λs _ i wr=>∃(k:Nat) (A':Option Addr) (c':Nat),k<=m.length/\i=.int .i64 k/\s=.slice A' k c'/\wr.ownsRow w.heap.size 3 1 (.slice A' k c') k (ints (qo2 (m.take k) j))/\Below w.heap.size w wr) (λ_ _ i _=>m.length-(intOf i).toNat)
 case atStart=>exact⟨0,none,0,Nat.zero_le _,rfl,rfl,World.ownsRow_nil _ _ _ _,Below.refl _ _⟩
 case round=>
  obtain⟨k,A',c',hk,rfl,rfl,hown,hb⟩:=hrel
  by_cases hlt:k<m.length
  ·obtain⟨ad,rfl,hca⟩:=(hm.below hb).at_ (by omega)
   obtain⟨A1,c1,h1,h2⟩:=hca k hlt
   have hjk:=hj k hlt
   obtain⟨a1,rfl,hc1⟩:=h2.at_ (by omega)
   have h3:=hc1 j hjk
   have h4:=h2.nmax
   clear hca hc1 h2 hm hj
   have HS:=hidx (w93 m j k hlt)
   go_wp2_with (at_builtin; refine app1 x61 rfl rfl _ _ rfl rfl rfl hown hb (Nat.le_refl _) rfl (by omega) (by omega) ?_; intro A2 c2 w2 hown2 hb2 _ hc2 hc2'; clear hown hb h1 h3)
   go_roundw
   case rel=>exact⟨k+1,_,_,by omega,by go_num,rfl,by rw[HS.out,<- w5q]; exact hown2,hb2⟩
   case measure=>simp[intOf]; omega
  ·have hkk:k=m.length:=by omega
   subst hkk
   go_wp2
   go_ret
   exact⟨_,_,rfl,by simpa using hown,hb⟩
set_option maxHeartbeats 400000 in
theorem q45 (A X:Option Addr) (n c k d:Nat) (m:List (List Int)) (x:List Int) (w:World) (hm:SM w A n c m) (hx:SI w X k d x) :
  Calls Tryz.prog 125 #[.slice A n c,.slice X k d] w λe w'=>e=.returned (.int .i64 (qs3 m x))/\w=w':=by
 have hkm:=hx.nmax
 obtain rfl:=hx.len
 cases hv:validB m with
 | true=>
  have hM:=IsMask.of hv
  have hn:=hM.rows1
  have hp:=hM.pix1
  have hp2:=hM.pix10
  have hl:=hm.len
  obtain⟨ad,rfl,hca⟩:=hm.at_ (by omega)
  obtain⟨A2,c2,h3,h4⟩:=hca 0 (by omega)
  rw[add_zero] at h3
  have hn':0<n:=by omega
  clear hca h4 hM hl hn
  go_enter Tryz.func125,Tryz.ntmps125
  go_wp2_with (go_at_call 51; refine(q44 _ _ _ _ _ hm).mono ?_; rintro e w1 ⟨rfl,rfl⟩)
  go_loop [6,12] (λ_ i=>∃k:Nat,k<=x.length/\i=.int .i64 k/\Hid (∀j,j<k->inB (nth x j) 0 ((nthL m 0).length-1)=true)) (λ_ i=>x.length-(intOf i).toNat)
  case atStart=>exact⟨0,Nat.zero_le _,rfl,λj hj=>absurd hj (Nat.not_lt_zero _)⟩
  case round=>
   obtain⟨k,hk,rfl,hall⟩:=hrel
   by_cases hlt:k<x.length
   ·obtain⟨ad,rfl,hca⟩:=hx.at_ (by omega)
    have h1:=hca k hlt
    clear hca hx
    cases hq:inB (nth x k) 0 ((nthL m 0).length-1) with
    | true=>
     have Hq:=hidx hq
     go_wp2_with (go_at_call 95; refine(qq0 _ _ _ _).mono ?_; rintro e w1 ⟨rfl,rfl⟩)
     go_round
     case rel=>
      refine⟨k+1,by omega,by go_num,?_⟩
      intro j hj
      by_cases e:j=k
      ·subst e; exact Hq.out
      ·exact hall.out j (by omega)
     case measure=>simp[intOf]; omega
    | false=>
     have Hf:=hidx hq
     go_wp2_with (go_at_call 95; refine(qq0 _ _ _ _).mono ?_; rintro e w1 ⟨rfl,rfl⟩)
     go_ret
     exact⟨q56 (by unfold qs3; rw[hv,wa1 (p:=λn=>inB n 0 ((nthL m 0).length-1)) k hlt Hf.out]; simp),rfl⟩
   ·have hkk:k=x.length:=by omega
    subst hkk
    go_wp2
    go_ret
    exact⟨q56 (by unfold qs3; rw[hv,wa0 (p:=λn=>inB n 0 ((nthL m 0).length-1)) hall.out]; simp),rfl⟩
 | false=>
  go_enter Tryz.func125,Tryz.ntmps125
  go_wp2_with (go_at_call 51; refine(q44 _ _ _ _ _ hm).mono ?_; rintro e w1 ⟨rfl,rfl⟩)
  go_ret
  exact⟨q56 (by unfold qs3; rw[hv]; simp),rfl⟩
def qh8 (m:List (List Int)) (i j:Int):Int:=if qs3 m [i,j]=0 then(if likeD (qo2 m i.toNat) (qo2 m j.toNat)=0 then 8 else 0) else qs3 m [i,j]
def w25 (m:List (List Int)) (i j:Int):Int:=if qh8 m i j=0 then ratN (likeN (qo2 m i.toNat) (qo2 m j.toNat)) (likeD (qo2 m i.toNat) (qo2 m j.toNat)) else 0
def q4a (m:List (List Int)) (i j:Int):Int:=if qh8 m i j=0 then ratD (likeN (qo2 m i.toNat) (qo2 m j.toNat)) (likeD (qo2 m i.toNat) (qo2 m j.toNat)) else 0
theorem q0e (A:Option Addr) (n c:Nat) (m:List (List Int)) (j:Int) (w:World) (hm:SM w A n c m) (hM:IsMask m) (h0:0<=j) (h1:j<(nthL m 0).length) :
  Calls Tryz.prog 126 #[.slice A n c,.int .i64 j] w λe w'=>∃A' c',e=.returned (.slice A' n c')/\w'.ownsRow w.heap.size 3 1 (.slice A' n c') n (ints (qo2 m j.toNat))/\Below w.heap.size w w':=by
 obtain⟨k,rfl⟩:=Int.eq_ofNat_of_zero_le h0
 rw[Int.toNat_natCast]
 exact w0e A n c m k w hm (λi hi=>by rw[hM.each i (by rw[hm.len]; exact hi)]; omega) (by have:=hM.rows6; have:=hm.len; omega)
end Go.Proofs.YtempacilejhbgaaGreat.K
