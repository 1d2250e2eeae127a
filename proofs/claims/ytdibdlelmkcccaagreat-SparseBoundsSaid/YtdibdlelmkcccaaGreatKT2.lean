/- The mask's coherence: contracts by the engine. No condition. -/
import Derived.Test.YtdibdlelmkcccaaGreatV0
import Derived.Test.YtdibdlelmkcccaaGreatCore
import Derived.Test.YtdibdlelmkcccaaGreatProg
import Derived.Test.YtdibdlelmkcccaaGreatV5
import Derived.Test.YtdibdlelmkcccaaGreatKT1
namespace Go.Proofs.YtdibdlelmkcccaaGreat.K
open Go.RowKit Ls
def inB (n lo hi:Int):Bool:=decide (lo<=n) && decide (n<=hi)
theorem inB_iff {n lo hi:Int}:inB n lo hi=true↔lo<=n/\n<=hi:=by simp[inB]
def q72 (s:Int):List Int->List Int->Int
 | a :: l,b :: r=>q72 (wrap64 (s+wrap64 (a*b))) l r
 | _,_=>s
theorem wp8 (A B:List Int) (k:Nat) (h:k<A.length) (h2:k<B.length) (s:Int) :
  q72 s (A.take (k+1)) (B.take (k+1))=wrap64 (q72 s (A.take k) (B.take k)+wrap64 (nth A k*nth B k)):=by
 induction A generalizing B k s with
 | nil=>simp at h
 | cons a l ih=>
  cases B with
  | nil=>simp at h2
  | cons b r=>
   cases k with
   | zero=>simp[q72,nth]
   | succ k=>
    simp only[List.take_succ_cons,q72]
    have:=ih r k (by simpa using h) (by simpa using h2) (wrap64 (s+wrap64 (a*b)))
    rw[this]; simp[nth]
theorem wp9 (A B:List Int) (h:A.length<=B.length) (s:Int):q72 s A (B.take A.length)=q72 s A B:=by
 induction A generalizing B s with
 | nil=>cases B <;> simp[q72]
 | cons a l ih=>
  cases B with
  | nil=>simp[q72]
  | cons b r=>simp only[List.length_cons,List.take_succ_cons,q72]; exact ih r (by simpa using h) _
def qo4 (m:List (List Int)) (j:Nat):List Int:=m.map λl=>nth l j
theorem w89 (m:List (List Int)) (j k:Nat) (h:k<m.length):qo4 (m.take (k+1)) j=qo4 (m.take k) j++[nth (nthL m k) j]:=by
 rw[takeL_snoc m k h]; (first | (simp[qo4]; done) | (simp[qo4]; rfl))
theorem wf9 (m:List (List Int)) (j:Nat):(qo4 m j).length=m.length:=by simp[qo4]
def rowB (l:List Int):Bool:=inB l.length 1 10 && l.all λn=>inB n (-1) 1
def xi5 (m:List (List Int)) (l:List Int):Bool:=decide (l.length=(nthL m 0).length) && rowB l
def validB (m:List (List Int)):Bool:=inB m.length 1 6 && m.all (xi5 m)
structure IsMask (m:List (List Int)):Prop where
 rows1:1<=m.length
 rows6:m.length<=6
 pix1:1<=(nthL m 0).length
 pix10:(nthL m 0).length<=10
 each:∀k,k<m.length->(nthL m k).length=(nthL m 0).length
 small:∀k,k<m.length->∀j,j<(nthL m 0).length->-1<=nth (nthL m k) j/\nth (nthL m k) j<=1
theorem w2h {p:List Int->Bool} {m:List (List Int)} (h:m.all p=true) (k:Nat) (hk:k<m.length):p (nthL m k)=true:=by
 rw[q9u m k hk]; exact List.all_eq_true.1 h _ (List.getElem_mem _)
theorem wx0 {p:Int->Bool} {l:List Int} (h:l.all p=true) (k:Nat) (hk:k<l.length):p (nth l k)=true:=by
 rw[w4t l k hk]; exact List.all_eq_true.1 h _ (List.getElem_mem _)
theorem q9n {p:Int->Bool} {l:List Int} (h:∀k,k<l.length->p (nth l k)=true):l.all p=true:=by
 rw[List.all_eq_true]; intro x hx
 obtain⟨k,hk,rfl⟩:=List.getElem_of_mem hx
 have:=h k hk; rwa [w4t l k hk] at this
theorem wx1 {p:List Int->Bool} {l:List (List Int)} (h:∀k,k<l.length->p (nthL l k)=true):l.all p=true:=by
 rw[List.all_eq_true]; intro x hx
 obtain⟨k,hk,rfl⟩:=List.getElem_of_mem hx
 have:=h k hk; rwa [q9u l k hk] at this
theorem q9o {p:Int->Bool} {l:List Int} (k:Nat) (hk:k<l.length) (h:p (nth l k)=false):l.all p=false:=by
 cases hq:l.all p with
 | false=>rfl
 | true=>rw[wx0 hq k hk] at h; cases h
theorem q7u {p:List Int->Bool} {l:List (List Int)} (k:Nat) (hk:k<l.length) (h:p (nthL l k)=false):l.all p=false:=by
 cases hq:l.all p with
 | false=>rfl
 | true=>rw[w2h hq k hk] at h; cases h
theorem IsMask.of {m:List (List Int)} (h:validB m=true):IsMask m:=by
 unfold validB at h
 rw[Bool.and_eq_true,inB_iff] at h
 have hf:=λk hk=>w2h h.2 k hk
 have h0:=hf 0 (by omega)
 simp only[xi5,rowB,Bool.and_eq_true,decide_eq_true_eq,inB_iff] at hf h0
 exact⟨by omega,by omega,by omega,by omega,λk hk=>(hf k hk).1,λk hk j hj=>by
  have:=wx0 (hf k hk).2.2 j (by rw[(hf k hk).1]; exact hj)
  rwa [inB_iff] at this⟩
def qs4 (m:List (List Int)) (l:List Int):Int:=if validB m then(if l.all (λj=>inB j 0 ((nthL m 0).length-1)) then 0 else 5) else 1
theorem w4j {m:List (List Int)} {l:List Int} (h:qs4 m l=0):IsMask m/\∀k,k<l.length->0<=nth l k/\nth l k<(nthL m 0).length:=by
 unfold qs4 at h
 split at h
 ·rename_i hv
  refine⟨IsMask.of hv,?_⟩
  split at h
  ·rename_i h2
   exact λk hk=>by
    have:=wx0 h2 k hk
    rw[inB_iff] at this
    omega
  ·omega
 ·omega
theorem x2i {m:List (List Int)} {i j:Int} (h:qs4 m [i,j]=0):IsMask m/\(0<=i/\i<(nthL m 0).length)/\0<=j/\j<(nthL m 0).length:=by
 obtain⟨h1,h2⟩:=w4j h
 exact⟨h1,h2 0 (by simp),h2 1 (by simp)⟩
theorem x56:Elt Tryz.prog 24 3 (.int .i64 0) 1 8:=⟨Tryz.underlying24,by kernel_rfl⟩
set_option maxHeartbeats 400000 in
theorem times_any (A B:Option Addr) (n m c d:Nat) (xs ys:List Int) (w:World)
  (ha:SI w A n c xs) (hb:SI w B m d ys) (hnm:n<=m) :
  Calls Tryz.prog 128 #[.slice A n c,.slice B m d] w λe w'=>e=.returned (.int .i64 (q72 0 xs ys))/\w=w':=by
 have hn:=ha.nmax; have hm:=hb.nmax
 obtain rfl:=ha.len; obtain rfl:=hb.len
 go_enter Tryz.func128,Tryz.ntmps128
 go_wp2
 go_loop [5,6,7,10] (λs _ _ i=>∃k:Nat,k<=xs.length/\i=.int .i64 k/\s=.int .i64 (q72 0 (xs.take k) (ys.take k))) (λ_ _ _ i=>xs.length-(intOf i).toNat)
 case atStart=>exact⟨0,Nat.zero_le _,rfl,q9t (by simp[q72])⟩
 case round=>
  obtain⟨k,hk,rfl,rfl⟩:=hrel
  by_cases hlt:k<xs.length
  ·obtain⟨ad,rfl,hca⟩:=ha.at_ (by omega)
   obtain⟨bd,rfl,hcb⟩:=hb.at_ (by omega)
   have h1:=hca k hlt
   have h2:=hcb k (by omega)
   clear hca hcb ha hb
   have HS:=hidx (wp8 xs ys k hlt (by omega) 0)
   go_wp2
   go_round
   case rel=>exact⟨k+1,by omega,by go_num,q9t (by rw[HS.out])⟩
   case measure=>simp[intOf]; omega
  ·go_wp2
   go_ret
   exact⟨q3q (by rw[List.take_of_length_le (by omega),<- wp9 xs ys hnm,show k=xs.length by omega]),rfl⟩
set_option maxHeartbeats 400000 in
theorem xw5 (A B:Option Addr) (n m c d:Nat) (xs ys:List Int) (w:World)
  (ha:SI w A n c xs) (hb:SI w B m d ys) (hnm:n<=m) :
  Calls Tryz.prog 79 #[.slice A n c,.slice B m d] w λe w'=>e=.returned (.int .i64 (q72 0 xs ys))/\∃n,w'=w.drewN n:=by
 have hn:=ha.nmax; have hm:=hb.nmax
 obtain rfl:=ha.len; obtain rfl:=hb.len
 go_enter Tryz.func79,Tryz.ntmps79
 go_wp2
 go_loopw [5,6,9] (λs _ i wr=>∃k:Nat,k<=xs.length/\i=.int .i64 k/\s=.int .i64 (q72 0 (xs.take k) (ys.take k))/\∃n,wr=w.drewN n) (λ_ _ i _=>xs.length-(intOf i).toNat)
 case atStart=>exact⟨0,Nat.zero_le _,rfl,q9t (by simp[q72]),0,rfl⟩
 case round=>
  obtain⟨k,hk,rfl,rfl,q,rfl⟩:=hrel
  by_cases hlt:k<xs.length
  ·obtain⟨ad,rfl,hca⟩:=ha.at_ (by omega)
   obtain⟨bd,rfl,hcb⟩:=hb.at_ (by omega)
   have h1:=hca k hlt
   have h2:=hcb k (by omega)
   clear hca hcb ha hb
   have HS:=hidx (wp8 xs ys k hlt (by omega) 0)
   have h3:(0:Int)<=k:=by omega
   have h4:(k:Int)<xs.length:=by omega
   have h5:(k:Int)<ys.length:=by omega
   go_wp2
   go_quiet (fail)
   go_wp2
   go_roundw
   case rel=>exact⟨k+1,by omega,by go_num,q9t (by rw[HS.out]),_,rfl⟩
   case measure=>simp[intOf]; omega
  ·go_wp2
   go_ret
   exact⟨q3q (by rw[List.take_of_length_le (by omega),<- wp9 xs ys hnm,show k=xs.length by omega]),q,rfl⟩
def dotI:List Int->List Int->Int
 | a :: l,b :: r=>a*b+dotI l r
 | _,_=>0
theorem q40 {x y K L:Int} (hx1:-K<=x) (hx2:x<=K) (hy1:-L<=y) (hy2:y<=L):-(K*L)<=x*y/\x*y<=K*L:=by
 have hK:0<=K:=by omega
 have hL:0<=L:=by omega
 obtain⟨k,rfl⟩:=Int.eq_ofNat_of_zero_le hK
 obtain⟨l,rfl⟩:=Int.eq_ofNat_of_zero_le hL
 have h1:x.natAbs<=k:=by omega
 have h2:y.natAbs<=l:=by omega
 have h3:(x*y).natAbs<=k*l:=by rw[Int.natAbs_mul]; exact Nat.mul_le_mul h1 h2
 have h4:((k*l:Nat):Int)=(k:Int)*(l:Int):=by simp
 omega
def Bd (K:Int) (l:List Int):Prop:=∀k,k<l.length->-K<=nth l k/\nth l k<=K
theorem Bd.cons {K a:Int} {l:List Int} (h:Bd K (a :: l)):(-K<=a/\a<=K)/\Bd K l:=
 ⟨by simpa[nth] using h 0 (by simp),λk hk=>by simpa[nth] using h (k+1) (by simpa using hk)⟩
theorem xw6 {K L:Int} (a b:List Int) (hKL:0<=K*L) (ha:Bd K a) (hb:Bd L b):-(a.length*(K*L))<=dotI a b/\dotI a b<=a.length*(K*L):=by
 induction a generalizing b with
 | nil=>simp[dotI]
 | cons x l ih=>
  cases b with
  | nil=>
   have:0<=((x :: l).length:Int)*(K*L):=Int.mul_nonneg (by omega) hKL
   simp only[dotI]; omega
  | cons y r=>
   obtain⟨h1,h2⟩:=ha.cons
   obtain⟨h3,h4⟩:=hb.cons
   have h5:=q40 h1.1 h1.2 h3.1 h3.2
   have h6:=ih r h2 h4
   have h7:((x :: l).length:Int)*(K*L)=(l.length:Int)*(K*L)+K*L:=by
    simp only[List.length_cons]; rw[Int.natCast_add,Int.add_mul]; simp
   simp only[dotI]; rw[h7]; omega
theorem xw7 {K L:Int} (a b:List Int) (s:Int) (hKL:0<=K*L) (ha:Bd K a) (hb:Bd L b)
  (h1:-9223372036854775807+a.length*(K*L)<=s) (h2:s+a.length*(K*L)<=9223372036854775807):q72 s a b=s+dotI a b:=by
 induction a generalizing b s with
 | nil=>cases b <;> simp[q72,dotI]
 | cons x l ih=>
  cases b with
  | nil=>simp[q72,dotI]
  | cons y r=>
   obtain⟨hx,hl⟩:=ha.cons
   obtain⟨hy,hr⟩:=hb.cons
   have h5:=q40 hx.1 hx.2 hy.1 hy.2
   have h7:((x :: l).length:Int)*(K*L)=(l.length:Int)*(K*L)+K*L:=by
    simp only[List.length_cons]; rw[Int.natCast_add,Int.add_mul]; simp
   have h8:0<=(l.length:Int)*(K*L):=Int.mul_nonneg (by omega) hKL
   rw[h7] at h1 h2
   have e1:wrap64 (x*y)=x*y:=IntWalk.wrap64_in _ ⟨by omega,by omega⟩
   have e2:wrap64 (s+x*y)=s+x*y:=IntWalk.wrap64_in _ ⟨by omega,by omega⟩
   simp only[q72,dotI]
   rw[e1,e2,ih r _ hl hr (by omega) (by omega)]
   omega
theorem wq0 (a:List Int):0<=dotI a a:=by
 induction a with
 | nil=>simp[dotI]
 | cons x l ih=>
  simp only[dotI]
  have:0<=x*x:=by
   rcases Int.le_total 0 x with h | h
   ·exact Int.mul_nonneg h h
   ·exact Int.mul_nonneg_of_nonpos_of_nonpos h h
  omega
structure Sm (l:List Int):Prop where
 len:l.length<=10
 bd:Bd 1 l
theorem q7v {a b:List Int} (ha:Sm a) (hb:Sm b):q72 0 a b=dotI a b/\-10<=dotI a b/\dotI a b<=10:=by
 have h1:=xw6 a b (K:=1) (L:=1) (by omega) ha.bd hb.bd
 have h2:=xw7 a b 0 (K:=1) (L:=1) (by omega) ha.bd hb.bd (by have:=ha.len; omega) (by have:=ha.len; omega)
 have:=ha.len
 omega
theorem q7w {m:List (List Int)} (h:IsMask m) {j:Nat} (hj:j<(nthL m 0).length):Sm (qo4 m j):=by
 refine⟨by rw[wf9]; have:=h.rows6; omega,λk hk=>?_⟩
 rw[wf9] at hk
 have:nth (qo4 m j) k=nth (nthL m k) j:=by
  rw[w4t _ _ (by rw[wf9]; exact hk),q9u _ _ hk]; simp[qo4]
 rw[this]
 exact h.small k hk j hj
def ratN (n d:Nat):Int:=((n / Nat.gcd n d:Nat):Int)
def ratD (n d:Nat):Int:=((d / Nat.gcd n d:Nat):Int)
def likeD (a b:List Int):Nat:=(dotI a a*dotI b b).toNat
def likeN (a b:List Int):Nat:=(dotI a b*dotI a b).toNat
theorem w9a (x:Int):0<=x*x:=by
 rcases Int.le_total 0 x with h | h
 ·exact Int.mul_nonneg h h
 ·exact Int.mul_nonneg_of_nonpos_of_nonpos h h
theorem q0u (a b:List Int):((likeD a b:Nat):Int)=dotI a a*dotI b b:=by
 unfold likeD; exact Int.toNat_of_nonneg (Int.mul_nonneg (wq0 a) (wq0 b))
theorem q3j (a b:List Int):((likeN a b:Nat):Int)=dotI a b*dotI a b:=by
 unfold likeN; exact Int.toNat_of_nonneg (w9a _)
theorem wg1 {a b:List Int} (ha:Sm a) (hb:Sm b):likeD a b<=100:=by
 have h1:=(q7v ha ha).2
 have h2:=(q7v hb hb).2
 have h3:=q40 h1.1 h1.2 h2.1 h2.2
 have:=q0u a b
 omega
theorem q5o {a b:List Int} (ha:Sm a) (hb:Sm b):likeN a b<=100:=by
 have h1:=(q7v ha hb).2
 have h3:=q40 h1.1 h1.2 h1.1 h1.2
 have:=q3j a b
 omega
set_option maxHeartbeats 400000 in
theorem w4k (n d:Nat) (w:World) (hn:n<=1000000) (hd:d<=1000000) (hd0:0<d) :
  Calls Tryz.prog 129 #[.int .i64 n,.int .i64 d] w λe w'=>e=.returned (.agg #[.int .i64 (ratN n d),.int .i64 (ratD n d)])/\Below w.heap.size w w':=by
 go_enter Tryz.func129,Tryz.ntmps129
 go_wp2
 go_loopw [5,6] (λa b wr=>∃x y:Nat,x<=1000000/\y<=1000000/\0<x+y/\a=.int .i64 x/\b=.int .i64 y/\Hid (Nat.gcd x y=Nat.gcd n d)/\∃q,wr=(w.alloc (.cells #[.int .i64 0,.int .i64 0] 42)).drewN q) (λ_ b _=>(intOf b).toNat)
 case atStart=>exact⟨n,d,hn,hd,by omega,rfl,rfl,rfl,0,rfl⟩
 case round=>
  obtain⟨x,y,hx,hy,hxy,rfl,rfl,hg,q,rfl⟩:=hrel
  by_cases h0:y=0
  ·subst h0
   have hx0:0<x:=by omega
   go_wp2
   have hx1:(0:Int)<x:=by omega
   have hx2:((x:Int)==0)=false:=by simp; omega
   have hd1:(0:Int)<=(n:Int) / (x:Int):=Int.ediv_nonneg (by omega) (by omega)
   have hd2:(n:Int) / (x:Int)<=(n:Int):=Int.ediv_le_self _ (by omega)
   have hd3:(0:Int)<=(d:Int) / (x:Int):=Int.ediv_nonneg (by omega) (by omega)
   have hd4:(d:Int) / (x:Int)<=(d:Int):=Int.ediv_le_self _ (by omega)
   have hxg:x=Nat.gcd n d:=by rw[<- hg.out]; simp
   have Hx:=hidx hxg
   clear hxg
   go_region
   go_wp2
   refine bodyPost_ret (v:=.agg #[.int .i64 ((n:Int) / (x:Int)),.int .i64 ((d:Int) / (x:Int))]) (by simp[results,Tryz.results129,go_sem]) rfl ⟨?_,?_⟩
   ·rw[ratN,ratD,<- Hx.out]; simp
   ·exact(((below_drewN (below_alloc w _) _).setCell (by simp) _).setCell (by simp) _)
  ·have hy0:(0:Int)<y:=by omega
   go_wp2
   go_quiet (fail)
   go_wp2
   go_roundw
   case rel=>
    have hm:=Nat.mod_lt x (show 0<y by omega)
    exact⟨y,x % y,hy,by omega,by omega,rfl,by go_num,by unfold Hid; rw[<- hg.out,Nat.gcd_comm y,<- Nat.gcd_rec,Nat.gcd_comm],q+nq,by rw[World.drewN_drewN]⟩
   case measure=>
    have hm:=Nat.mod_lt x (show 0<y by omega)
    simp[intOf]; omega
theorem q3k (A B:Option Addr) (n m c d:Nat) (xs ys:List Int) (w:World) (hx:Sm xs) (hy:Sm ys)
  (ha:SI w A n c xs) (hb:SI w B m d ys) (hnm:n<=m) :
  Calls Tryz.prog 128 #[.slice A n c,.slice B m d] w λe w'=>e=.returned (.int .i64 (dotI xs ys))/\w=w':=by
 rw[<- (q7v hx hy).1]; exact times_any A B n m c d xs ys w ha hb hnm
set_option maxHeartbeats 400000 in
theorem wx2 (A B:Option Addr) (n c d:Nat) (xs ys:List Int) (w:World) (hx:Sm xs) (hy:Sm ys)
  (ha:SI w A n c xs) (hb:SI w B n d ys) (h0:likeD xs ys=0) :
  Calls Tryz.prog 83 #[.slice A n c,.slice B n d] w λe w'=>e=.returned (.tuple #[.agg #[.int .i64 0,.int .i64 0],.bool false])/\Below w.heap.size w w':=by
 have hd:=q0u xs ys
 rw[h0] at hd
 have c1:=λW h=>q3k A A n n c c xs xs W hx hx h h (Nat.le_refl _)
 have c2:=λW h=>q3k B B n n d d ys ys W hy hy h h (Nat.le_refl _)
 generalize dotI xs xs=p at hd c1
 generalize dotI ys ys=q at hd c2
 have hpq:p*q=0:=hd.symm
 have hb0:=below_alloc w
 clear hd h0
 have ha1:=λo=>ha.below (hb0 o)
 have hb1:=λo=>hb.below (hb0 o)
 go_enter Tryz.func83,Tryz.ntmps83
 go_wp2_with fail
 refine(c1 _ (ha1 _)).mono ?_
 rintro e w1 ⟨rfl,rfl⟩
 go_wp2_with fail
 refine(c2 _ (hb1 _)).mono ?_
 rintro e w1 ⟨rfl,rfl⟩
 go_wp2
 refine bodyPost_ret (v:=.tuple #[.agg #[.int .i64 0,.int .i64 0],.bool false]) (by simp[results,Tryz.results83,go_sem]) rfl ⟨rfl,hb0 _⟩
set_option maxHeartbeats 400000 in
theorem wq1 (A B:Option Addr) (n c d:Nat) (xs ys:List Int) (w:World) (hx:Sm xs) (hy:Sm ys)
  (ha:SI w A n c xs) (hb:SI w B n d ys) (h0:0<likeD xs ys) :
  Calls Tryz.prog 83 #[.slice A n c,.slice B n d] w λe w'=>e=.returned (.tuple #[.agg #[.int .i64 (ratN (likeN xs ys) (likeD xs ys)),.int .i64 (ratD (likeN xs ys) (likeD xs ys))],.bool true])/\Below w.heap.size w w':=by
 have hd:=q0u xs ys
 have hn:=q3j xs ys
 have hdl:=wg1 hx hy
 have hnl:=q5o hx hy
 have c1:=λW h=>q3k A A n n c c xs xs W hx hx h h (Nat.le_refl _)
 have c2:=λW h=>q3k B B n n d d ys ys W hy hy h h (Nat.le_refl _)
 have c3:=λW h h'=>q3k A B n n c d xs ys W hx hy h h' (Nat.le_refl _)
 have c4:=λW=>w4k (likeN xs ys) (likeD xs ys) W (by omega) (by omega) h0
 rw[hd,hn] at c4
 generalize likeD xs ys=D at hd c4 h0 hdl ⊢
 generalize likeN xs ys=N at hn c4 hnl ⊢
 generalize dotI xs xs=p at hd c1 c4
 generalize dotI ys ys=q at hd c2 c4
 generalize dotI xs ys=r at hn c3 c4
 have hpq1:1<=p*q:=by omega
 have hpq2:p*q<=100:=by omega
 have hr1:0<=r*r:=by omega
 have hr2:r*r<=100:=by omega
 have hp0:(p==0)=false:=by
  cases h:p==0
  ·rfl
  ·simp at h; subst h; simp at hpq1
 have hq0:(q==0)=false:=by
  cases h:q==0
  ·rfl
  ·simp at h; subst h; simp at hpq1
 have hb0:=below_alloc w
 clear hd hn h0 hdl hnl
 have ha1:=λo=>ha.below (hb0 o)
 have hb1:=λo=>hb.below (hb0 o)
 go_enter Tryz.func83,Tryz.ntmps83
 go_wp2_with fail
 refine(c1 _ (ha1 _)).mono ?_
 rintro e w1 ⟨rfl,rfl⟩
 go_wp2_with fail
 refine(c2 _ (hb1 _)).mono ?_
 rintro e w1 ⟨rfl,rfl⟩
 go_wp2_with fail
 refine(c3 _ (ha1 _) (hb1 _)).mono ?_
 rintro e w1 ⟨rfl,rfl⟩
 go_wp2_with fail
 refine(c4 _).mono ?_
 rintro e w1 ⟨rfl,hbw⟩
 have hx0:w1.cell? ⟨w.heap.size,0,none⟩=some (.int .i64 0):=Below.cell_of hbw (by simp)
 have hx1:w1.cell? ⟨w.heap.size,1,none⟩=some (.int .i64 0):=Below.cell_of hbw (by simp)
 have hx2:w1.frozen? ⟨w.heap.size,0,none⟩=false:=(hbw.frozen (p:=⟨w.heap.size,0,none⟩) (by simp)).trans (by simp)
 have hx3:w1.frozen? ⟨w.heap.size,1,none⟩=false:=(hbw.frozen (p:=⟨w.heap.size,1,none⟩) (by simp)).trans (by simp)
 have hbB:=step_trans (hb0 _) hbw
 go_wp2
 refine bodyPost_ret (v:=.tuple #[.agg #[.int .i64 (ratN N D),.int .i64 (ratD N D)],.bool true]) (by simp[results,Tryz.results83,go_sem,hx0,hx1]) rfl ⟨rfl,?_⟩
 exact(hbB.setCell (Nat.le_refl _) _).setCell (Nat.le_refl _) _
end Go.Proofs.YtdibdlelmkcccaaGreat.K
set_option linter.unusedVariables false
set_option linter.unusedSimpArgs false
namespace Go.Proofs.YtdibdlelmkcccaaGreat.K
open Go Go.RowKit Eng Ls
def x2j:qc0:=w6l false none [tMask] (λ_=>True) (λx=>.clo 126 (.cons (.imm (.cons (.dat (.list (.int .i64)) x.1) .nil) 0) .nil))
theorem wx3:qd3 Tryz.prog 82 x2j:=by
 refine wk9 (snd (SpecsOk.nil _) []) Tryz.func82 rfl rfl (λx _=>none) (λ_=>by kernel_rfl) (by decide) ?_
 rintro⟨m,⟨⟩⟩ -
 revert m
 intro(m:List (List Int))
 refine @qd8 _ (((m=m/\True)/\(0:Nat)=(0:Nat))/\True) (by kernel_rfl) ?_
 exact⟨⟨⟨rfl,trivial⟩,rfl⟩,trivial⟩
theorem w9b {m:View} {w:World} (hm:m.on w) {l:List (List Int)} {v:Value} (h:RdV m tMask l v):∃A c,v=.slice A l.length c/\SM w A l.length c l:=by
 obtain⟨A,c,e,h2,h3,h4⟩:=h
 refine⟨A,c,(List.cons.inj e).1,rfl,h2,h3,λhn=>?_⟩
 obtain⟨ad,e2,h5⟩:=h4 hn
 refine⟨ad,e2,λk hk=>?_⟩
 obtain⟨cs,k1,k2⟩:=h5 k hk
 have hk1:=Rd.length k1
 obtain⟨z,rfl⟩:=List.length_eq_one_iff.1 hk1
 obtain⟨A',c',e3,hs⟩:=xd0 hm k1
 have:=View.cell_on hm (k2 0 z rfl)
 simp only[Ty.size,Nat.mul_one,Nat.add_zero] at this
 subst e3
 exact⟨A',c',this,hs⟩
def sMB (f:List (List Int)->Bool):qc0:=qf8 true none [tMask] [.bool] (λ_=>True) (λx=>(f x.1,()))
theorem wq3:qd3 Tryz.prog 47 (sMB validB):=q26
def likP (a b:List Int):(Int × Int) × Bool:=if likeD a b=0 then((0,0),false) else((ratN (likeN a b) (likeD a b),ratD (likeN a b) (likeD a b)),true)
def yb2:qc0:=qf8 true none [tInts,tInts] [.prod tInt tInt,.bool] (λx=>Sm x.1/\Sm x.2.1/\x.1.length=x.2.1.length) (λx=>((likP x.1 x.2.1).1,(likP x.1 x.2.1).2,()))
theorem q8b:qd3 Tryz.prog 83 yb2:=wc0 ⟨_,_,Tryz.func83,rfl,rfl⟩ λw m x vs hm hp hx=>by
 obtain⟨x,y,⟨⟩⟩:=x
 obtain⟨u,us,rfl,h1,u',us',rfl,h2,h3⟩:=hx
 obtain rfl:us'=[]:=h3
 obtain⟨p1,p2,p3⟩:=hp
 obtain⟨A,c,rfl,hs⟩:=xd0 hm h1
 obtain⟨B,d,rfl,hs'⟩:=xd0 hm h2
 have p3:(x:List Int).length=(y:List Int).length:=p3
 simp only at hs hs' p1 p2 ⊢
 rw[<- p3] at hs' ⊢
 by_cases h0:likeD x y=0
 ·refine(wx2 A B _ c d _ _ w p1 p2 hs hs' h0).mono λe w' ⟨h1,h2⟩=>⟨_,h1,h2,[_,_],rfl,?_⟩
  have e:likP x y=((0,0),false):=by unfold likP; rw[if_pos h0]
  rw[e]
  exact⟨_,_,rfl,⟨_,rfl,[_],[_],rfl,rfl,rfl⟩,_,_,rfl,rfl,rfl⟩
 ·refine(wq1 A B _ c d _ _ w p1 p2 hs hs' (by omega)).mono λe w' ⟨h1,h2⟩=>⟨_,h1,h2,[_,_],rfl,?_⟩
  have e:likP x y=((ratN (likeN x y) (likeD x y),ratD (likeN x y) (likeD x y)),true):=by unfold likP; rw[if_neg h0]
  rw[e]
  exact⟨_,_,rfl,⟨_,rfl,[_],[_],rfl,rfl,rfl⟩,_,_,rfl,rfl,rfl⟩
def ctxI (specs:List (Nat × qc0)) (its:List (Nat × qz3)):Ctx:={ specs:=specs,tys:=tys,wr:=[],its:=its }
def qm6 (m:List (List Int)) (o:Option (Int × Int)) (q:Nat × Nat):Option (Int × Int):=o.bind λb=>match(likP (colA m q.1) (colA m q.2)).2 with
 | false=>none
 | true=>some (if(likP (colA m q.1) (colA m q.2)).1.1*b.2 > b.1*(likP (colA m q.1) (colA m q.2)).1.2 then(likP (colA m q.1) (colA m q.2)).1 else b)
def q9p (m:List (List Int)) (k:Nat):Option (Int × Int):=((prsL m).take k).foldl (qm6 m) (some (0,1))
def cohE (m:List (List Int)):Int:=if validB m=false then 1 else if(qa1 (.list (.int .i64)) m 0:List Int).length<2 then 8 else if(q9p m (prsL m).length).isNone then 8 else 0
def cohR (m:List (List Int)):Int × Int:=if cohE m=0 then(q9p m (prsL m).length).getD (0,0) else(0,0)
def sCoh:qc0:=qf8 true none [tMask] [.prod tInt tInt,tInt] (λ_=>True) (λx=>(cohR x.1,cohE x.1,()))
def x57 (m:List (List Int)):Nat->Option Inv
 | 0=>some (Inv.of [] 3 (λ_:Nat × (Int × Int)=>[]) (λs=>[.box 42 (.cons (.lit (.int .i64 0)) (.cons (.lit (.int .i64 0)) .nil)),.box 31 (.cons (.lit (.int .i64 0)) .nil),.box 42 (.cons (.lit (.int .i64 s.2.1)) (.cons (.lit (.int .i64 s.2.2)) .nil))]) (λs=>q9p m s.1=some s.2) (λs=>s.1))
 | _=>none
theorem w9c {p:Nat}:∀{i:Nat} {q:Nat × Nat},i<=p->q∈prs p i->q.1<i/\q.1<q.2/\q.2<p
 | 0,q,_,h=>by cases h
 | i+1,q,hi,h=>by
  rcases List.mem_append.1 h with h | h
  ·obtain⟨h1,h2,h3⟩:=w9c (by omega) h
   exact⟨by omega,h2,h3⟩
  ·obtain⟨d,hd,rfl⟩:=List.mem_map.1 h
   have:=List.mem_range.1 hd
   exact⟨by simp,by simp; omega,by simp; omega⟩
theorem w9d {m:List (List Int)} (h:IsMask m):square m:=⟨by have:=h.rows1; omega,by have:=h.rows6; omega,by have:=h.pix10; exact Nat.le_trans this (by omega),h.each⟩
theorem w9e {m:List (List Int)} (h:IsMask m) {k:Nat} {q:Nat × Nat} (hq:(prsL m)[k]? = some q):Sm (colA m q.1)/\Sm (colA m q.2)/\(colA m q.1).length=(colA m q.2).length:=by
 obtain⟨h1,h2,h3⟩:=w9c (Nat.le_refl _) (List.mem_of_getElem? hq)
 have h3:q.2<(nthL m 0).length:=h3
 exact⟨q7w h (j:=q.1) (by omega),q7w h h3,by simp[colA]⟩
theorem wg6 {a b:List Int} (ha:Sm a) (hb:Sm b):(0<=(likP a b).1.1/\(likP a b).1.1<=100)/\0<=(likP a b).1.2/\(likP a b).1.2<=100:=by
 have h1:=wg1 ha hb
 have h2:=q5o ha hb
 unfold likP
 split
 ·simp
 ·have h3:=Nat.div_le_self (likeN a b) (Nat.gcd (likeN a b) (likeD a b))
  have h4:=Nat.div_le_self (likeD a b) (Nat.gcd (likeN a b) (likeD a b))
  exact⟨⟨Int.natCast_nonneg _,Int.ofNat_le.2 (Nat.le_trans h3 h2)⟩,Int.natCast_nonneg _,Int.ofNat_le.2 (Nat.le_trans h4 h1)⟩
theorem wq4 {m:List (List Int)} {k:Nat} {q:Nat × Nat} (hq:(prsL m)[k]? = some q):q9p m (k+1)=qm6 m (q9p m k) q:=by
 unfold q9p
 rw[List.take_add_one,hq]
 simp
theorem w9f {m:List (List Int)} {k:Nat} (h:q9p m k=none):q9p m (prsL m).length=none:=by
 unfold q9p at h ⊢
 rw[List.take_length]
 conv=>lhs; rw[<- List.take_append_drop k (prsL m),List.foldl_append,h]
 generalize(prsL m).drop k=r
 induction r with
 | nil=>rfl
 | cons q r ih=>exact ih
theorem cohK_bd {m:List (List Int)} (h:IsMask m):∀{k:Nat} {b:Int × Int},k<=(prsL m).length->q9p m k=some b->(0<=b.1/\b.1<=100)/\0<=b.2/\b.2<=100
 | 0,b,_,hb=>by
  have hb:some (0,1)=some b:=hb
  injection hb with hb
  subst hb
  simp
 | k+1,b,hk,hb=>by
  have hq:(prsL m)[k]? = some ((prsL m)[k]):=List.getElem?_eq_getElem (by omega)
  rw[wq4 hq] at hb
  obtain⟨p1,p2,-⟩:=w9e h hq
  have h5:=wg6 p1 p2
  cases hc:q9p m k with
  | none=>rw[hc] at hb; cases hb
  | some b0=>
   have h6:=cohK_bd h (by omega) hc
   rw[hc] at hb
   simp only[qm6,Option.bind_some] at hb
   split at hb
   ·cases hb
   ·injection hb with hb
    subst hb
    split
    ·exact h5
    ·exact h6
theorem Coherence_meets:qd3 Tryz.prog 45 sCoh:=by
 refine meets (x4m (SpecsOk.cons wq3 (SpecsOk.cons wx3 (SpecsOk.cons q8b (SpecsOk.nil _)))) (ItsOk.cons ww9 ItsOk.nil)) Tryz.func45 rfl rfl (λx=>x57 x.1) (λ_=>by kernel_rfl) (by decide) ?_
 rintro⟨m,⟨⟩⟩ -
 revert m
 intro(m:List (List Int))
 refine @qd8 _ (True/\((!validB m)=true->((0:Int)=Prod.fst (cohR m)/\(0:Int)=Prod.snd (cohR m)/\True)/\(1:Int)=cohE m/\True)/\((!validB m)=false->((0:Int)<=(0:Int)/\(0:Int)<(↑(List.length m):Int))/\(decide ((↑(List.length (qa1 (Ty.list (Ty.int .i64)) m (0:Nat))):Int)<(2:Int))=true->((0:Int)=Prod.fst (cohR m)/\(0:Int)=Prod.snd (cohR m)/\True)/\(8:Int)=cohE m/\True)/\(decide ((↑(List.length (qa1 (Ty.list (Ty.int .i64)) m (0:Nat))):Int)<(2:Int))=false->True/\square m/\∃(v2:Unit),∃(v3:Nat × Int × Int),q9p m (Prod.fst v3)=some (Prod.snd v3)/\Prod.fst v3=(0:Nat)/\(((0:Int)=(0:Int)/\(0:Int)=(0:Int)/\True)/\((0:Int)=(0:Int)/\True)/\((0:Int)=Prod.fst (Prod.snd v3)/\(1:Int)=Prod.snd (Prod.snd v3)/\True)/\True)/\∀(v4:Nat × Int × Int),q9p m (Prod.fst v4)=some (Prod.snd v4)->(∀(v6:(Int × Int) × qa5._f [Ty.prod tInts tInts] ⟨qa5._f [] PUnit.unit,PUnit.unit⟩),(w9w m)[Prod.fst v4]?=some v6->(Sm (Prod.fst (Prod.fst (Prod.snd v6)))/\Sm (Prod.snd (Prod.fst (Prod.snd v6)))/\List.length (Prod.fst (Prod.fst (Prod.snd v6)))=List.length (Prod.snd (Prod.fst (Prod.snd v6))))/\((!Prod.snd (likP (Prod.fst (Prod.fst (Prod.snd v6))) (Prod.snd (Prod.fst (Prod.snd v6)))))=true->((0:Int)=Prod.fst (cohR m)/\(0:Int)=Prod.snd (cohR m)/\True)/\(8:Int)=cohE m/\True)/\((!Prod.snd (likP (Prod.fst (Prod.fst (Prod.snd v6))) (Prod.snd (Prod.fst (Prod.snd v6)))))=false->fits .i64 (Prod.fst (Prod.fst (likP (Prod.fst (Prod.fst (Prod.snd v6))) (Prod.snd (Prod.fst (Prod.snd v6)))))*Prod.snd (Prod.snd v4))/\fits .i64 (Prod.fst (Prod.snd v4)*Prod.snd (Prod.fst (likP (Prod.fst (Prod.fst (Prod.snd v6))) (Prod.snd (Prod.fst (Prod.snd v6))))))/\(decide (Prod.fst (Prod.snd v4)*Prod.snd (Prod.fst (likP (Prod.fst (Prod.fst (Prod.snd v6))) (Prod.snd (Prod.fst (Prod.snd v6)))))<Prod.fst (Prod.fst (likP (Prod.fst (Prod.fst (Prod.snd v6))) (Prod.snd (Prod.fst (Prod.snd v6)))))*Prod.snd (Prod.snd v4))=true->∃(v10:Nat × Int × Int),q9p m (Prod.fst v10)=some (Prod.snd v10)/\Prod.fst v10=Prod.fst v4+(1:Nat)/\((0:Int)=(0:Int)/\(0:Int)=(0:Int)/\True)/\((0:Int)=(0:Int)/\True)/\(Prod.fst (Prod.fst (likP (Prod.fst (Prod.fst (Prod.snd v6))) (Prod.snd (Prod.fst (Prod.snd v6)))))=Prod.fst (Prod.snd v10)/\Prod.snd (Prod.fst (likP (Prod.fst (Prod.fst (Prod.snd v6))) (Prod.snd (Prod.fst (Prod.snd v6)))))=Prod.snd (Prod.snd v10)/\True)/\True)/\(decide (Prod.fst (Prod.snd v4)*Prod.snd (Prod.fst (likP (Prod.fst (Prod.fst (Prod.snd v6))) (Prod.snd (Prod.fst (Prod.snd v6)))))<Prod.fst (Prod.fst (likP (Prod.fst (Prod.fst (Prod.snd v6))) (Prod.snd (Prod.fst (Prod.snd v6)))))*Prod.snd (Prod.snd v4))=false->∃(v10:Nat × Int × Int),q9p m (Prod.fst v10)=some (Prod.snd v10)/\Prod.fst v10=Prod.fst v4+(1:Nat)/\((0:Int)=(0:Int)/\(0:Int)=(0:Int)/\True)/\((0:Int)=(0:Int)/\True)/\(Prod.fst (Prod.snd v4)=Prod.fst (Prod.snd v10)/\Prod.snd (Prod.snd v4)=Prod.snd (Prod.snd v10)/\True)/\True)))/\(Prod.fst v4=List.length (w9w m)->(Prod.fst (Prod.snd v4)=Prod.fst (cohR m)/\Prod.snd (Prod.snd v4)=Prod.snd (cohR m)/\True)/\(0:Int)=cohE m/\True)))) (by kernel_rfl) ?_
 refine⟨trivial,λhv=>?_,λhv=>?_⟩
 ·have hv:validB m=false:=by simpa using hv
  have e:cohE m=1:=by simp[cohE,hv]
  have e2:cohR m=(0,0):=by simp[cohR,e]
  rw[e,e2]
  exact⟨⟨rfl,rfl,trivial⟩,rfl,trivial⟩
 have hv:validB m=true:=by simpa using hv
 have hm:=IsMask.of hv
 have hr1:=hm.rows1
 have hq1:=w9d hm
 refine⟨⟨by omega,by omega⟩,λh2=>?_,λh2=>?_⟩
 ·have h2:(qa1 (.list (.int .i64)) m 0:List Int).length<2:=by have:=of_decide_eq_true h2; omega
  have e:cohE m=8:=by unfold cohE; rw[if_neg (by simp[hv]),if_pos h2]
  have e2:cohR m=(0,0):=by simp[cohR,e]
  rw[e,e2]
  exact⟨⟨rfl,rfl,trivial⟩,rfl,trivial⟩
 have h2:¬(qa1 (.list (.int .i64)) m 0:List Int).length<2:=by have:=of_decide_eq_false h2; omega
 have hE:cohE m=if(q9p m (prsL m).length).isNone then 8 else 0:=by unfold cohE; rw[if_neg (by simp[hv]),if_neg h2]
 refine⟨trivial,hq1,(),(0,(0,1)),rfl,rfl,⟨⟨rfl,rfl,trivial⟩,⟨rfl,trivial⟩,⟨rfl,rfl,trivial⟩,trivial⟩,?_⟩
 rintro⟨k,b⟩ hk
 have hk:q9p m k=some b:=hk
 refine⟨λd hd=>?_,λhe=>?_⟩
 ·have hd':((prsL m).map (prA m))[k]? = some d:=hd
  rw[List.getElem?_map] at hd'
  obtain⟨q,hq,e⟩:=Option.map_eq_some_iff.1 hd'
  have hd1:d.2.1.1=colA m q.1:=by rw[<- e]; rfl
  have hd2:d.2.1.2=colA m q.2:=by rw[<- e]; rfl
  have hkl:k<(prsL m).length:=(List.getElem?_eq_some_iff.1 hq).1
  obtain⟨p1,p2,p3⟩:=w9e hm hq
  have h5:=wg6 p1 p2
  have h6:=cohK_bd hm (by omega) hk
  have hst:=wq4 hq
  rw[hk] at hst
  simp only[qm6,Option.bind_some] at hst
  rw[hd1,hd2]
  refine⟨⟨p1,p2,p3⟩,λhl=>?_,λhl=>?_⟩
  ·have hl:(likP (colA m q.1) (colA m q.2)).2=false:=by simpa using hl
   rw[hl] at hst
   have e:cohE m=8:=by rw[hE,w9f hst]; rfl
   have e2:cohR m=(0,0):=by simp[cohR,e]
   rw[e,e2]
   exact⟨⟨rfl,rfl,trivial⟩,rfl,trivial⟩
  ·have hl:(likP (colA m q.1) (colA m q.2)).2=true:=by simpa using hl
   rw[hl] at hst
   simp only at hst
   generalize likP (colA m q.1) (colA m q.2)=z at *
   have b1:=q40 (x:=z.1.1) (y:=b.2) (K:=100) (L:=100) (by omega) (by omega) (by omega) (by omega)
   have b2:=q40 (x:=b.1) (y:=z.1.2) (K:=100) (L:=100) (by omega) (by omega) (by omega) (by omega)
   refine⟨qa7 (by dsimp only; omega) (by dsimp only; omega),qa7 (by dsimp only; omega) (by dsimp only; omega),λhg=>?_,λhg=>?_⟩
   ·rw[if_pos (by simpa using hg)] at hst
    exact⟨(k+1,z.1),hst,rfl,⟨rfl,rfl,trivial⟩,⟨rfl,trivial⟩,⟨rfl,rfl,trivial⟩,trivial⟩
   ·rw[if_neg (by simpa using hg)] at hst
    exact⟨(k+1,b),hst,rfl,⟨rfl,rfl,trivial⟩,⟨rfl,trivial⟩,⟨rfl,rfl,trivial⟩,trivial⟩
 ·have he:k=((prsL m).map (prA m)).length:=he
  rw[List.length_map] at he
  subst he
  have e:cohE m=0:=by rw[hE,hk]; rfl
  have e2:cohR m=b:=by simp[cohR,e,hk]
  rw[e,e2]
  exact⟨⟨rfl,rfl,trivial⟩,rfl,trivial⟩
end Go.Proofs.YtdibdlelmkcccaaGreat.K
