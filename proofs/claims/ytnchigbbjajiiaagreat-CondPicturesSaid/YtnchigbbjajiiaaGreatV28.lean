/- The reference's solutions: contract by hand up to the first loop's end, by the engine from there. No condition. -/
import Derived.Test.YtnchigbbjajiiaaGreatW10
import Derived.Test.YtnchigbbjajiiaaGreatW18
set_option linter.unusedSimpArgs false
set_option linter.unusedVariables false
namespace Go.Proofs.YtnchigbbjajiiaaGreat
def prF:Nat->(Nat->Int)->Int
 | 0,_=>1
 | n+1,d=>d 0*prF n λj=>d (j+1)
def prL:Nat->(Nat->Int)->Int
 | 0,_=>1
 | n+1,d=>prL n d*d n
theorem xh2:∀(n:Nat) (d:Nat->Int) (c:Nat),(∀j,j<n->(d j).natAbs=c)->(prF n d).natAbs=c ^ n
 | 0,_,c,_=>by rfl
 | n+1,d,c,h=>by
  rw[prF,zbp,h 0 ow,xh2 n _ c λj hj=>h (j+1) ow,zb1,zda]
theorem xh3:∀(n:Nat) (d:Nat->Int),(∀j,j<n->(d j).natAbs=1)->(prL n d).natAbs=1
 | 0,_,_=>rfl
 | n+1,d,h=>by
  rw[prL,zbp,h n ow,xh3 n d λj hj=>h j ow]
theorem w4i:∀(n:Nat) (d:Nat->Int) (A:Nat->Nat->Int),det n (λi j=>d j*A i j)=prF n d*det n A
 | 0,_,_=>rfl
 | n+1,d,A=>by
  rw[det,det,prF,<- qk8]
  refine qe1 λi hi=>?_
  try dsimp only
  rw[w4i n (λj=>d (j+1)) (λa b=>A (skp i a) (b+1))]
  grind
theorem w4j {n:Nat} (e:Nat->Int) (A:Nat->Nat->Int):∀k,k<=n->det n (λi j=>(if i<k then e i else 1)*A i j)=prL k e*det n A
 | 0,_=>by
  simp_all [prL,Int.one_mul,qj6,if_neg,Nat.not_lt_zero]
 | k+1,hk=>by
  obtain⟨F,hF⟩:∃F:Nat->Nat->Int,F=λi j=>(if i<k then e i else 1)*A i j:=⟨_,rfl⟩
  have ih:=w4j (n:=n) e A k ow
  rw[<- hF] at ih
  have h1:=qs6 n F k ow (e k) 0 (F k) (λ_=>0)
  have h2:(0:Int)*det n (upd F k λ_=>0)=0:=zb6 _
  rw[q2n,ih] at h1
  have h1:=h1.trans (show e k*(prL k e*det n A)+0*det n (upd F k λ_=>0)=e k*(prL k e*det n A) by omega)
  rw[prL,show prL k e*e k*det n A=e k*(prL k e*det n A) by grind,<- h1]
  refine qj6 n λi j hi hj=>?_
  unfold upd
  grind
theorem x0f {n:Nat} {A:Nat->Nat->Int} (h:∀i j,i<n+1->j<n+1->One (A i j)):∃B:Nat->Nat->Int,(∀i j,i<n->j<n->Bit (B i j))/\(det (n+1) A).natAbs=2 ^ n*(det n B).natAbs:=by
 obtain⟨B,hB⟩:∃B:Nat->Nat->Int,∀i j,B i j=if A (i+1) 0*A (i+1) (j+1)=A 0 0*A 0 (j+1) then 0 else 1:=⟨_,λ_ _=>rfl⟩
 have hbit:∀i j,i<n->j<n->Bit (B i j):=λi j _ _=>by
  rw[hB]; unfold Bit; omega
 refine⟨B,hbit,?_⟩
 rw[<- wm2 A (λi=>A i 0*A 0 0) ow (n+1) (zab _),det,qr0 (k:=0) ow λi hi hne=>?_]
 ·try dsimp only
  have e:det n (λa b=>if 0<skp 0 a/\skp 0 a<n+1 then A (skp 0 a) (b+1)-A (skp 0 a) 0*A 0 0*A 0 (b+1) else A (skp 0 a) (b+1))=det n (λi j=>(if i<n then(λi=>A (i+1) 0) i else 1)*(λi j=>(λj=>-2*(A 0 0*A 0 (j+1))) j*B i j) i j):=qj6 n λa b ha hb=>by
   have es:skp 0 a=a+1:=by rfl
   rw[es,zao ow,zao ha]
   grind [One]
  rw[e,w4j _ _ n (zab _),w4i,zak ow]
  have p1:=xh3 n (λi=>A (i+1) 0) λj hj=>wm3 (h (j+1) 0 ow ow)
  have p2:=xh2 n (λj=>-2*(A 0 0*A 0 (j+1))) 2 λj hj=>by
   grind [wm3,Int.natAbs_mul]
  simp_all [wm3,Int.natAbs_mul,wm1,Nat.one_mul]
 ·try dsimp only
  rw[zao ow,ze4 (A i 0),x2n (h 0 0 ow ow)]
  simp
def d4 (p q r s:Nat):Int:=((p % 2:Nat):Int)*d3 (q / 2) (r / 2) (s / 2)-((q % 2:Nat):Int)*d3 (p / 2) (r / 2) (s / 2)+((r % 2:Nat):Int)*d3 (p / 2) (q / 2) (s / 2)-((s % 2:Nat):Int)*d3 (p / 2) (q / 2) (r / 2)
def ym7 (p q r s t:Nat):Bool:=
 decide (q8v (d4 q r s t)+q8v (- d4 p r s t)+q8v (d4 p q s t)+q8v (- d4 p q r t)+q8v (d4 p q r s)<=5) && decide (q8v (- d4 q r s t)+q8v (d4 p r s t)+q8v (- d4 p q s t)+q8v (d4 p q r t)+q8v (- d4 p q r s)<=5)
theorem x0g:((List.range 16).all λp=>(List.range 16).all λq=>Nat.blt q p || (List.range 16).all λr=>Nat.blt r q || (List.range 16).all λs=>Nat.blt s r || (List.range 16).all λt=>Nat.blt t s || ym7 p q r s t)=true:=by decide +kernel
theorem x5b {p q r s t:Nat} (h1:p<=q) (h2:q<=r) (h3:r<=s) (h4:s<=t) (h5:t<16):ym7 p q r s t=true:=by
 have no:∀{a b:Nat},a<=b->Nat.blt b a=false:=λ{a b} h=>by
  cases e:Nat.blt b a with
  | false=>rfl
  | true=>have:=zbu e; omega
 have a1:=zar.1 (zar.1 x0g p (za2.2 ow)) q (za2.2 ow)
 grind
def code4 (x y z w:Int):Nat:=(x+2*y+4*z+8*w).toNat
theorem w4k {x y z w:Int} (hx:Bit x) (hy:Bit y) (hz:Bit z) (hw:Bit w):code4 x y z w<16/\code4 x y z w / 2=qp6 y z w/\((code4 x y z w % 2:Nat):Int)=x:=by
 grind [code4,qp6,Bit]
theorem x5c {A:Nat->Nat->Int} (h:∀i j,i<4->j<4->Bit (A i j)):d4 (code4 (A 0 0) (A 0 1) (A 0 2) (A 0 3)) (code4 (A 1 0) (A 1 1) (A 1 2) (A 1 3)) (code4 (A 2 0) (A 2 1) (A 2 2) (A 2 3)) (code4 (A 3 0) (A 3 1) (A 3 2) (A 3 3))=det 4 A:=by
 have hc:=λi (hi:i<4)=>w4k (h i 0 hi ow) (h i 1 hi ow) (h i 2 hi ow) (h i 3 hi ow)
 obtain⟨_,a1,a2⟩:=hc 0 ow
 obtain⟨_,b1,b2⟩:=hc 1 ow
 obtain⟨_,c1,c2⟩:=hc 2 ow
 obtain⟨_,e1,e2⟩:=hc 3 ow
 unfold d4
 rw[a1,a2,b1,b2,c1,c2,e1,e2,ye6]
 have m:∀i,i<4->det 3 (λa b=>A (skp i a) (b+1))=d3 (qp6 (A (skp i 0) 1) (A (skp i 0) 2) (A (skp i 0) 3)) (qp6 (A (skp i 1) 1) (A (skp i 1) 2) (A (skp i 1) 3)) (qp6 (A (skp i 2) 1) (A (skp i 2) 2) (A (skp i 2) 3)):=λi hi=>
  (xh0 (A:=λa b=>A (skp i a) (b+1)) λa b ha hb=>h _ _ (q59 ha) ow).symm
 rw[m 0 ow,m 1 ow,m 2 ow,m 3 ow]
 rfl
theorem yy6 (A:Nat->Nat->Int):det 5 A=A 0 0*det 4 (λa b=>A (skp 0 a) (b+1))-A 1 0*det 4 (λa b=>A (skp 1 a) (b+1))+A 2 0*det 4 (λa b=>A (skp 2 a) (b+1))-A 3 0*det 4 (λa b=>A (skp 3 a) (b+1))+A 4 0*det 4 (λa b=>A (skp 4 a) (b+1)):=by
 rw[det]
 simp only[sm,show sgn 0=1 from rfl,show sgn 1=-1 from rfl,show sgn 2=1 from rfl,show sgn 3=-1 from rfl,show sgn 4=1 from rfl]
 grind
def cdR (A:Nat->Nat->Int) (i:Nat):Nat:=code4 (A i 1) (A i 2) (A i 3) (A i 4)
theorem q8x {x m:Int} (h:Bit x):x*m<=q8v m/\- (x*m)<=q8v (- m):=by
 have h1:=qy0 (x:=m)
 have h2:=qy0 (x:=-m)
 rcases h with rfl | rfl
 all_goals omega
theorem w1p {A:Nat->Nat->Int} (h:∀i j,i<5->j<5->Bit (A i j)) (hs:∀i,i<4->cdR A i<=cdR A (i+1)):(det 5 A).natAbs<=5:=by
 have hk:=x5b (hs 0 ow) (hs 1 ow) (hs 2 ow) (hs 3 ow) (w4k (h 4 1 ow ow) (h 4 2 ow ow) (h 4 3 ow ow) (h 4 4 ow ow)).1
 unfold ym7 at hk
 rw[za3,zbf,zbf] at hk
 have m:∀i,i<5->det 4 (λa b=>A (skp i a) (b+1))=d4 (cdR A (skp i 0)) (cdR A (skp i 1)) (cdR A (skp i 2)) (cdR A (skp i 3)):=λi hi=>
  (x5c (A:=λa b=>A (skp i a) (b+1)) λa b ha hb=>h _ _ (q59 ha) ow).symm
 rw[yy6,m 0 ow,m 1 ow,m 2 ow,m 3 ow,m 4 ow]
 change _/\_ at hk
 have e0:d4 (cdR A (skp 0 0)) (cdR A (skp 0 1)) (cdR A (skp 0 2)) (cdR A (skp 0 3))=d4 (cdR A 1) (cdR A 2) (cdR A 3) (cdR A 4):=rfl
 have e1:d4 (cdR A (skp 1 0)) (cdR A (skp 1 1)) (cdR A (skp 1 2)) (cdR A (skp 1 3))=d4 (cdR A 0) (cdR A 2) (cdR A 3) (cdR A 4):=rfl
 have e2:d4 (cdR A (skp 2 0)) (cdR A (skp 2 1)) (cdR A (skp 2 2)) (cdR A (skp 2 3))=d4 (cdR A 0) (cdR A 1) (cdR A 3) (cdR A 4):=rfl
 have e3:d4 (cdR A (skp 3 0)) (cdR A (skp 3 1)) (cdR A (skp 3 2)) (cdR A (skp 3 3))=d4 (cdR A 0) (cdR A 1) (cdR A 2) (cdR A 4):=rfl
 have e4:d4 (cdR A (skp 4 0)) (cdR A (skp 4 1)) (cdR A (skp 4 2)) (cdR A (skp 4 3))=d4 (cdR A 0) (cdR A 1) (cdR A 2) (cdR A 3):=rfl
 rw[e0,e1,e2,e3,e4]
 generalize d4 (cdR A 1) (cdR A 2) (cdR A 3) (cdR A 4)=m0 at hk ⊢
 generalize d4 (cdR A 0) (cdR A 2) (cdR A 3) (cdR A 4)=m1 at hk ⊢
 generalize d4 (cdR A 0) (cdR A 1) (cdR A 3) (cdR A 4)=m2 at hk ⊢
 generalize d4 (cdR A 0) (cdR A 1) (cdR A 2) (cdR A 4)=m3 at hk ⊢
 generalize d4 (cdR A 0) (cdR A 1) (cdR A 2) (cdR A 3)=m4 at hk ⊢
 have b0:=q8x (m:=m0) (h 0 0 ow ow)
 have b1:=q8x (m:=m1) (h 1 0 ow ow)
 have b2:=q8x (m:=m2) (h 2 0 ow ow)
 have b3:=q8x (m:=m3) (h 3 0 ow ow)
 have b4:=q8x (m:=m4) (h 4 0 ow ow)
 omega
theorem x2o (g:Nat->Nat) (n:Nat):∀d s,s+d+1=n->∃t,s<=t/\t<n/\∀j,s<=j->j<n->g t<=g j
 | 0,s,h=>⟨s,zab _,ow,λj h1 h2=>by grind⟩
 | d+1,s,h=>by
  obtain⟨t,t1,t2,t3⟩:=x2o g n d (s+1) ow
  by_cases q:g s<=g t
  ·refine⟨s,zab _,ow,λj h1 h2=>?_⟩
   grind
  ·refine⟨t,ow,t2,λj h1 h2=>?_⟩
   grind
theorem x0h {n:Nat} (A:Nat->Nat->Int) {s t:Nat} (hs:s<n) (ht:t<n) (hne:s≠t):(det n (upd (upd A s (A t)) t (A s))).natAbs=(det n A).natAbs:=by
 have h:=wl9 (n:=n) (A:=A) (r:=s) (s:=t) hs ht hne (λw=>q8u (r:=s) (s:=t) hs ht hne λj hj=>by
  unfold upd
  simp) (A s) (A t)
 simp_all [upd,q2n,Int.natAbs_neg]
theorem q5m {n:Nat} (Q:(Nat->Int)->Prop) (cd:(Nat->Int)->Nat) {B:Nat} (hB:∀A:Nat->Nat->Int,(∀i,i<n->Q (A i))->(∀i j,i<j->j<n->cd (A i)<=cd (A j))->(det n A).natAbs<=B) :
  ∀d s,s+d=n->∀A:Nat->Nat->Int,(∀i,i<n->Q (A i))->(∀i j,i<s->i<j->j<n->cd (A i)<=cd (A j))->(det n A).natAbs<=B
 | 0,s,hs,A,h1,h2=>hB A h1 λi j hi hj=>h2 i j ow hi hj
 | d+1,s,hs,A,h1,h2=>by
  obtain⟨t,t1,t2,t3⟩:=x2o (λi=>cd (A i)) n d s ow
  try dsimp only at t3
  by_cases e:s=t
  ·exact q5m Q cd hB d (s+1) ow A h1 λi j hi hij hj=>by
    grind
  ·rw[<- x0h A (show s<n by omega) t2 e]
   have at_:∀i,upd (upd A s (A t)) t (A s) i=A (if i=t then s else if i=s then t else i):=λi=>by
    funext j
    unfold upd
    grind
   refine q5m Q cd hB d (s+1) ow _ (λi hi=>?_) λi j hi hij hj=>?_
   all_goals grind
theorem x0i {A:Nat->Nat->Int} (h:∀i j,i<5->j<5->Bit (A i j)):(det 5 A).natAbs<=5:=
 q5m (n:=5) (λr=>∀j,j<5->Bit (r j)) (λr=>code4 (r 1) (r 2) (r 3) (r 4)) (B:=5) (λA h1 h2=>w1p (λi j hi hj=>h1 i hi j hj) λi hi=>h2 i (i+1) ow ow) 5 0 rfl A (λi hi j hj=>h i j hi hj) λi j hi=>absurd hi (zav _)
theorem ww6 {n B:Nat} (hB:∀A:Nat->Nat->Int,(∀i j,i<n->j<n->One (A i j))->(det n A).natAbs<=B):∀k,k<=n->∀A:Nat->Nat->Int,(∀i j,i<n->j<n->(A i j).natAbs<=1)->(∀i j,i<n->k<=i->j<n->A i j≠0)->(det n A).natAbs<=B
 | 0,_,A,h1,h2=>hB A λi j hi hj=>by
  have:=h1 i j hi hj
  have:=h2 i j hi (zae _) hj
  grind [One]
 | k+1,hk,A,h1,h2=>by
  have key:∀t,t<=n->∀v:Nat->Int,(∀j,j<n->(v j).natAbs<=1)->(∀j,j<n->t<=j->v j≠0)->(det n (upd A k v)).natAbs<=B:=λt=>by
   induction t with
   | zero=>
    intro _ v hv1 hv2
    refine ww6 hB k ow _ (λi j hi hj=>?_) λi j hi hki hj=>?_
    ·grind [upd]
    ·unfold upd; grind
   | succ t ih=>
    intro ht v hv1 hv2
    by_cases e:v t=0
    ·have a1:=ih ow (λj=>if j=t then 1 else v j) (λj hj=>by
      grind) (λj hj htj=>by
      grind)
     have a2:=ih ow (λj=>if j=t then -1 else v j) (λj hj=>by
      grind) (λj hj htj=>by
      grind)
     have e1:=qs6 n A k ow 1 1 (λj=>if j=t then 1 else v j) (λj=>if j=t then -1 else v j)
     have e2:=qs6 n A k ow 2 0 v v
     have e3:(λj=>(1:Int)*(if j=t then 1 else v j)+1*(if j=t then -1 else v j))=λj=>2*v j+0*v j:=by
      funext j
      grind
     rw[e3,e2] at e1
     omega
    grind
  have:=key n (zab _) (A k) (λj hj=>h1 k j ow hj) λj hj h5=>by omega
  grind [q2n]
theorem xh4 {n:Nat} (hn:n<=6) {A:Nat->Nat->Int} (h:∀i j,i<n->j<n->(A i j).natAbs<=1):(det n A).natAbs<=160:=by
 rcases zap n 5 with q | q
 ·have:=w1o n h
  have hf:∀k:Fin 5,ye5 k.val<=160:=dc
  exact zaj this (hf ⟨n,q⟩)
 ·rcases zap n 6 with q2 | q2
  ·obtain rfl:n=5:=ow
   exact zaj (q8w 5 (zab _) A h λi j hi h5=>by omega) dc
  ·obtain rfl:n=6:=ow
   refine ww6 (n:=6) (B:=160) (λA hA=>?_) 6 (zab _) A h λi j hi h5=>by omega
   obtain⟨B,hB,e⟩:=x0f (n:=5) hA
   grind [x0i]
open Go Go.RowKit Eng
abbrev Fit:=List Int × List (Int × Int)
def qr2 (m:List (List Int)) (y:List Int) (s:List (List Int)):List Fit:=s.filterMap λpix=>if(qj4 m y pix).2=true then some (qj4 m y pix).1 else none
def qz1 (m:List (List Int)) (y:List Int):Nat->List Fit
 | 0=>[]
 | k+1=>qz1 m y k++qr2 m y (qg4 (nL m 0).length k)
def q1v (m:List (List Int)) (k:Int):Nat:=(min (min k (nL m 0).length) m.length+1).toNat
def q1w (m:List (List Int)) (y:List Int) (k:Int):List Fit:=qz1 m y (q1v m k)
theorem w7i (l:List Fit) (i:Nat) (h:i<l.length):nF l i=l[i]:=qo5 (t:=tFit) l i h
def nQ (l:List (Int × Int)) (i:Nat):Int × Int:=qe0 qo4 l i
open Go Go.RowKit Ls Eng
structure Pl (w:World) (B n g c:Nat) (vs:List Value) (rs:List (List Int)):Prop where
 head:w.ownsRow B 24 1 (.slice (some ⟨g,0,none⟩) n c) n vs
 rows:RowsOwn w B 3 vs rs
 apart:∀(i j:Nat) u v b,i≠j->vs[i]? = some u->vs[j]? = some v->u.ownBlock=some b->v.ownBlock=some b->False
theorem Pl.len {w:World} {B n g c:Nat} {vs:List Value} {rs:List (List Int)} (h:Pl w B n g c vs rs):vs.length=n/\rs.length=n:=by
 have h1:=h.head.1
 have h2:=h.rows.1
 omega
theorem qn8 {w:World} {B e size n:Nat} {v:Value} {xs:List Value} (h:w.ownsRow B e size v n xs) {b:Nat} (hb:v.ownBlock=some b):B<=b/\∃cur,w.heap[b]? = some (.cells cur e (0,0)):=by
 rcases h.2 with⟨h0,_⟩ | ⟨g,cap,cur,hv,hB,hg,_⟩
 all_goals grind [Value.ownBlock,Option.some.injEq]
theorem ww7 {w w':World} {B e size n:Nat} {v:Value} {xs:List Value} (h:w.ownsRow B e size v n xs) (hk:∀b,v.ownBlock=some b->w'.heap[b]? = w.heap[b]?):w'.ownsRow B e size v n xs:=by
 refine⟨h.1,?_⟩
 rcases h.2 with h0 | ⟨g,cap,cur,hv,hB,hg,r⟩
 ·grind
 ·exact .inr ⟨g,cap,cur,hv,hB,(hk g (by rw[hv]; rfl)).trans hg,r⟩
theorem Pl.step {w w3:World} {B n g c k:Nat} {vs:List Value} {rs:List (List Int)} {v v':Value} {l:List Int} {A':Option Addr} {c':Nat} (h:Pl w B n g c vs rs) (hk:k<n) (hv:vs[k]? = some v) (hl:nL rs k=l) (x:Int)
  (hv':v'=.slice A' (l.length+1) c') (hown:w3.ownsRow B 3 1 v' (l.length+1) (ints (l++[x]))) (hg:w.grownBy w3 v.ownBlock) (hb:∀b,v'.ownBlock=some b->v.ownBlock=some b\/w.heap.size<=b):Pl (w3.setCell ⟨g,k,none⟩ v') B n g c (vs.set k v') (rs.set k (l++[x]))/\w3.grownBy (w3.setCell ⟨g,k,none⟩ v') (some g):=by
 obtain⟨hvl,hrl⟩:=h.len
 obtain⟨A,cc,hvk,hvo⟩:=h.rows.2 k ow
 rw[hv] at hvk
 obtain rfl:=zaa hvk
 have hgb:B<=g/\∃cur,w.heap[g]? = some (.cells cur 24 (0,0)):=qn8 h.head rfl
 have hgne:∀b,(Value.slice A (nthL rs k).length cc).ownBlock=some b->b≠g:=λb hb e=>by
  grind [qn8,absurd]
 have hhead3:w3.ownsRow B 24 1 (.slice (some ⟨g,0,none⟩) n c) n vs:=ww7 h.head λb hb=>by
  simp only[Value.ownBlock,Option.some.injEq] at hb
  subst hb
  obtain⟨_,cur,h2⟩:=hgb
  exact hg.block _ (zan.1 h2).1 λe=>hgne _ e.symm rfl
 have hst:=hhead3.stored k v'
 have hkp:KeepsT 3 w3 (w3.setCell ⟨g,k,none⟩ v'):=KeepsT.stored (e:=3) dc hhead3 hst.2
 refine⟨⟨hst.1,⟨by grind,λr hr=>?_⟩,λi j u u' b hij hi hj hbi hbj=>?_⟩,hst.2⟩
 ·have hr2:r<rs.length:=by grind
  by_cases e:r=k
  ·subst e
   have e1:nthL (rs.set r (l++[x])) r=l++[x]:=(wk7 rs r (l++[x]) r hr2).trans (zao rfl)
   rw[e1]
   refine⟨A',c',by grind,?_⟩
   grind [q69]
  ·obtain⟨A1,c1,q1,q2⟩:=h.rows.2 r hr2
   have e1:nthL (rs.set k (l++[x])) r=nthL rs r:=(wk7 rs k (l++[x]) r hr2).trans (zak e)
   rw[e1]
   refine⟨A1,c1,by grind,q69 (ww7 q2 λb hb=>?_) hkp⟩
   obtain⟨_,cur,h2⟩:=qn8 q2 hb
   exact hg.block _ (zan.1 h2).1 λe2=>h.apart r k _ _ b e q1 hv hb e2.symm
 ·have old:∀(q:Nat) u,(vs.set k v')[q]? = some u->q≠k->vs[q]? = some u:=λq u hq hne=>by grind
  have new:∀u,(vs.set k v')[k]? = some u->u=v':=λu hq=>by
   grind
  have lt:∀(q:Nat) u,vs[q]? = some u->u.ownBlock=some b->b<w.heap.size:=λq u hq hb=>by
   have hql:=(zag.1 hq).1
   obtain⟨A1,c1,q1,q2⟩:=h.rows.2 q ow
   rw[hq] at q1
   obtain rfl:=zaa q1
   obtain⟨_,cur,h2⟩:=qn8 q2 hb
   grind
  by_cases ei:i=k
  ·subst ei
   have hj':=old j _ hj (zdd hij)
   rw[new _ hi] at hbi
   rcases hb b hbi with q | q
   ·exact h.apart i j _ _ b hij hv hj' q hbj
   grind
  ·have hi':=old i _ hi ei
   by_cases ej:j=k
   ·subst ej
    rw[new _ hj] at hbj
    rcases hb b hbj with q | q
    ·exact h.apart i j _ _ b hij hi' hv hbi q
    grind
   ·exact h.apart i j _ _ b hij hi' (old j _ hj ej) hbi hbj
theorem Pl.below {w w':World} {B n g c:Nat} {vs:List Value} {rs:List (List Int)} (h:Pl w B n g c vs rs) (hb:Below w.heap.size w w'):Pl w' B n g c vs rs:=
 ⟨ww7 h.head λb hbb=>by
  obtain⟨_,cur,h2⟩:=qn8 h.head hbb
  exact hb.block b (zan.1 h2).1,h.rows.keep (KeepsT.of_below hb),h.apart⟩
theorem Pl.rd {w:World} {B n g c:Nat} {vs:List Value} {rs:List (List Int)} (h:Pl w B n g c vs rs):Rd (View.from w B) (.list (.list (.int .i64))) rs [.slice (some ⟨g,0,none⟩) n c]:=by
 obtain⟨hvl,hrl⟩:=h.len
 obtain⟨h1,h2,h3,h4⟩:=x63 h.head h.rows
 have hgb:=(qn8 h.head (b:=g) rfl).1
 refine⟨some ⟨g,0,none⟩,c,by rw[h1],ow,h3,λhl=>⟨_,rfl,λi hi=>?_⟩⟩
 have hi:i<rs.length:=hi
 obtain⟨A,c1,q1,q2⟩:=h.rows.2 i hi
 have hA:∀ad,A=some ad->B<=ad.block:=by
  intro ad e
  rcases q2.2 with⟨h0,_⟩ | ⟨g',cap,cur,hv,hB,_⟩
  all_goals grind
 refine⟨[.slice A (nthL rs i).length c1],x74 (x1r q2) hA,λj v hj=>?_⟩
 cases j with
 | succ j=>grind
 | zero=>
  simp only[List.getElem?_cons_zero,Option.some.injEq] at hj
  subst hj
  simp only[Ty.size,Nat.mul_one,Nat.add_zero]
  have h6:=w0i h.head i ow _ q1
  have h7:(View.from w B).cell ((⟨g,0,none⟩:Addr).add i)=View.cell (λb=>w.heap[b]?) ((⟨g,0,none⟩:Addr).add i):=by
   simp_all [View.cell,View.from,Ls.block_add,if_pos]
  rw[h7]
  exact h6
theorem w7j {P:Program} {ops:Array Oper} {o:Oper} {a:Act} {K:Act->World->Prop} {Q:Exit->Act->World->Prop} {D:Prop} {wr:World} {t e:TypeId} {z:Value} {bytes B n:Nat} {v el:Value} {xs:List Value}
  (E:Elt P t e z 1 bytes) (hz:z.cells.size=1) (hgd:o.guard=none) (s x:Operand)
  (ho:o.op=.call { callee:=.builtin .append,args:=#[s,x],argTypes:=#[t,t] })
  (hs:a.eval s=v) (hx:a.eval x=.slice (some ⟨wr.heap.size,0,none⟩) 1 1)
  (hown:wr.ownsRow B e 1 v n xs) (hB:B<=wr.heap.size) (h1:el.oneCell'=true)
  (h63:n<1000000) (hby:bytes<=1000000)
  (h:∀A' c' w',w'.ownsRow B e 1 (.slice A' (n+1) c') (n+1) (xs++[el])->wr.grownBy w' v.ownBlock->(∀b,(Value.slice A' (n+1) c').ownBlock=some b->v.ownBlock=some b\/wr.heap.size<=b)->K (a.put o.dst (.slice A' (n+1) c')) w') :
  if Region.wanted o (yielded ops a.tmps)=true then Oper.wp P o a (wr.alloc (.cells #[el] e)) K Q else D:=by
 have hw:Region.wanted o (yielded ops a.tmps)=true:=by grind [Region.wanted]
 rw[zao hw]
 obtain⟨i,hi,hz0,hz1,hz2⟩:=info_parts E.info
 have hbb:(n+1)*bytes<=1000000*1000000:=zbj ow hby
 obtain⟨v',w',hrun,hown',hg',_,hblk⟩:=run_append_own_at (P:=P) (wr.alloc (.cells #[el] e)) B t o.type e i z 1 bytes E.under hi hz0 hz1 hz2 hz dc v n xs (hown.alloc _) ⟨wr.heap.size,0,none⟩ 1 1 [el] rfl
  (cell_one_new _ _ _) (by grind) (by grind [maxLen]) ow (by simp; omega)
 obtain⟨A',c',rfl,hc1,hc2,_⟩:=q3r hown'
 have hg:wr.grownBy w' v.ownBlock:=⟨hg'.os,hg'.tape,hg'.output,zaj (by simp) hg'.size,λk hk hne=>
  (hg'.block k (by simp; omega) hne).trans (Below.heap_alloc wr _ k hk)⟩
 refine Lib.wp_append_run _ s x t t ho v _ hs hx _ w' hrun (h A' c' w' hown' hg λb hb=>?_)
 rcases hblk with q | q
 ·grind
 ·rw[q] at hb
  obtain rfl:=zaa hb
  simp
section
variable {P : Program} {Q : Exit -> Act -> World -> Prop}
def x9s (Q:Exit->Act->World->Prop):Exit->Act->World->Prop
 | .normal,a,w=>Q .normal a w
 | _,_,_=>False
theorem x0j {e:Exit} {a:Act} {w:World} (h:x9s Q e a w):Q e a w:=by
 cases e <;> first | exact h | exact h.elim
theorem xh5 {a:Act} {w:World} (h:Q .normal a w):x9s Q .normal a w:=h
end
end Go.Proofs.YtnchigbbjajiiaaGreat
