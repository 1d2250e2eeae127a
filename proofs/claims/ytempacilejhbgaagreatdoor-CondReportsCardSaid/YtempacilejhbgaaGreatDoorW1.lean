/- Sums, small solutions of few equations: plain mathematics. No condition. -/
import Derived.Test.YtempacilejhbgaaGreatDoorQ9
import Derived.Test.YtempacilejhbgaaGreatDoorV0
set_option linter.unusedVariables false
set_option linter.unusedSimpArgs false
namespace Go.Proofs.YtempacilejhbgaaGreatDoor
open Go Go.RowKit Eng
def wj9 (a b:Int × Int):Bool:=decide (a.1*b.2<b.1*a.2)
abbrev x1q:qb9:=qg6 true none [q05,q05] [.bool] (λx=>qt4 x.1/\qt4 x.2.1) (λx=>(wj9 x.1 x.2.1,()))
theorem w2u:Meets Tryz.prog 35 x1q:=by
 refine meets (snd (SpecsOk.nil _)) Tryz.func35 rfl rfl (λ_ _=>none) (λ_=>by kernel_rfl) (by decide) ?_
 rintro⟨⟨a,b⟩,⟨c,d⟩,⟨⟩⟩ h
 revert a b c d
 intro(a:Int) (b:Int) (c:Int) (d:Int) (h:qt4 (a,b)/\qt4 (c,d))
 refine @qe7 _ (fits .i64 (a*d)/\fits .i64 (c*b)/\decide (a*d<c*b)=wj9 (a,b) (c,d)) (by kernel_rfl) ?_
 try simp only[z0,z1,z2,z3,z4,z5,z6,z7,z8,z9,z10,Int.reduceEq,z11,z12,z13,z14,z15,z16,z17,z18,z19,z20,z21,z22,z23,z24,z25,z26,z27,z28,z29,z30,Int.reduceLE,Int.reduceLT,z31,z32,z33,z34,qa3]
 try simp only[qb6,qb7,qc7,z31,z32,z2,z1]
 have h1:0<=a*d/\a*d<=4000000000000000000:=wo9 h.1.n h.2.d
 have h2:0<=c*b/\c*b<=4000000000000000000:=wo9 h.2.n h.1.d
 exact⟨qa7 (by omega) (by omega),qa7 (by omega) (by omega),rfl⟩
abbrev x1r:qb9:=qg6 true none [tInt] [tInt] (λx=>qf3 1000000000 x.1) (λx=>(qz2 x.1,()))
theorem w2v:Meets Tryz.prog 58 x1r:=by
 refine meets (snd (SpecsOk.nil _)) Tryz.func58 rfl rfl (λ_ _=>none) (λ_=>by kernel_rfl) (by decide) ?_
 rintro⟨x,⟨⟩⟩ h
 revert x
 intro(x:Int) (h:qf3 1000000000 x)
 refine @qe7 _ ((decide (x<(0:Int))=true->fits .i64 ((0:Int)-x)/\(0:Int)-x=qz2 x)/\(decide (x<(0:Int))=false->x=qz2 x)) (by kernel_rfl) ?_
 try simp only[z0,z1,z2,z3,z4,z5,z6,z7,z8,z9,z10,Int.reduceEq,z11,z12,z13,z14,z15,z16,z17,z18,z19,z20,z21,z22,z23,z24,z25,z26,z27,z28,z29,z30,Int.reduceLE,Int.reduceLT,z31,z32,z33,z34,qa3]
 try simp only[qb6,qb7,qc7,z31,z32,z2,z1]
 unfold qf3 at h
 unfold qz2
 exact⟨λq=>⟨qa7 (by omega) (by omega),by omega⟩,λq=>by omega⟩
def xu4 (n d:Int):Nat->Option Inv
 | 0=>some (Inv.of [5,6] 1 (λs:Int × Int=>[(5,.lit (.int .i64 s.1)),(6,.lit (.int .i64 s.2))]) (λ_=>[.box 29 xx3]) (λs=>((0<=s.1/\s.1<=BIG)/\0<=s.2/\s.2<=BIG)/\gcdI s.1 s.2=gcdI n d) (λs=>s.2.toNat))
 | _=>none
abbrev x1s:qb9:=qg6 true none [tInt,tInt] [q05] (λx=>(0<=x.1/\x.1<=BIG)/\0<x.2.1/\x.2.1<=BIG) (λx=>(ofR x.1 x.2.1,()))
theorem w2w:Meets Tryz.prog 59 x1s:=by
 refine meets (snd (SpecsOk.nil _)) Tryz.func59 rfl rfl (λx=>xu4 x.1 x.2.1) (λ_=>by kernel_rfl) (by decide) ?_
 rintro⟨n,d,⟨⟩⟩ h
 revert n d
 intro(n:Int) (d:Int) (h:(0<=n/\n<=BIG)/\0<d/\d<=BIG)
 refine @qe7 _ (∃(v0:Unit),∃(v1:Int × Int),((((0:Int)<=v1.1/\v1.1<=BIG)/\(0:Int)<=v1.2/\v1.2<=BIG)/\gcdI v1.1 v1.2=gcdI n d)/\((n=v1.1/\d=v1.2/\True)/\((0:Int)=(0:Int)/\(0:Int)=(0:Int)/\True)/\True)/\∀(v2:Int × Int),(((0:Int)<=v2.1/\v2.1<=BIG)/\(0:Int)<=v2.2/\v2.2<=BIG)/\gcdI v2.1 v2.2=gcdI n d->(decide ((0:Int)<v2.2)=true->v2.2≠(0:Int)/\∃(v5:Int × Int),((((0:Int)<=v5.1/\v5.1<=BIG)/\(0:Int)<=v5.2/\v5.2<=BIG)/\gcdI v5.1 v5.2=gcdI n d)/\v5.2.toNat<v2.2.toNat/\(v2.2=v5.1/\Int.tmod v2.1 v2.2=v5.2/\True)/\((0:Int)=(0:Int)/\(0:Int)=(0:Int)/\True)/\True)/\(decide ((0:Int)<v2.2)=false->v2.1≠(0:Int)/\fits .i64 (Int.tdiv n v2.1)/\v2.1≠(0:Int)/\fits .i64 (Int.tdiv d v2.1)/\Int.tdiv n v2.1=(ofR n d).1/\Int.tdiv d v2.1=(ofR n d).2/\True)) (by kernel_rfl) ?_
 try simp only[z0,z1,z2,z3,z4,z5,z6,z7,z8,z9,z10,Int.reduceEq,z11,z12,z13,z14,z15,z16,z17,z18,z19,z20,z21,z22,z23,z24,z25,z26,z27,z28,z29,z30,Int.reduceLE,Int.reduceLT,z31,z32,z33,z34,qa3]
 try simp only[qb6,qb7,qc7,z31,z32,z2,z1]
 have hB:BIG=4000000000000000000:=rfl
 refine⟨(),(n,d),⟨⟨⟨by dsimp only; omega,by dsimp only; omega⟩,by dsimp only; omega,by dsimp only; omega⟩,rfl⟩,⟨rfl,rfl⟩,?_⟩
 rintro⟨x,y⟩ ⟨⟨⟨h1,h2⟩,h3,h4⟩,h5⟩
 dsimp only at h1 h2 h3 h4 h5 ⊢
 refine⟨λhy=>⟨by omega,(y,x.tmod y),⟨⟨⟨h3,h4⟩,?_,?_⟩,?_⟩,?_,rfl,rfl⟩,λhy=>?_⟩
 ·rw[Int.tmod_eq_emod_of_nonneg h1]
  exact Int.emod_nonneg x (by omega)
 ·rw[Int.tmod_eq_emod_of_nonneg h1]
  have k2:=Int.emod_lt_of_pos x hy
  dsimp only; omega
 ·exact(wh3 h1 h3).trans h5
 ·rw[Int.tmod_eq_emod_of_nonneg h1]
  have k1:=Int.emod_nonneg x (b:=y) (by omega)
  have k2:=Int.emod_lt_of_pos x hy
  dsimp only; omega
 ·obtain rfl:y=0:=by omega
  rw[wh4 x h1] at h5
  have hp:=qp6 (a:=n) (b:=d) (.inr (by omega))
  have q1:=qj9 (g:=x) (a:=n) (K:=BIG) (by omega)
  have q2:=qj9 (g:=x) (a:=d) (K:=BIG) (by omega)
  have e:ofR n d=(n.tdiv x,d.tdiv x):=by unfold ofR; rw[if_neg (by omega),h5]
  rw[e]
  exact⟨by omega,qa7 (by omega) (by omega),by omega,qa7 (by omega) (by omega),rfl,rfl⟩
def xu5 (h pix:List Int):Nat->Option Inv
 | 0=>some (Inv.of [6,13] 1 (λk:Nat=>[(6,.lit (.int .i64 (q2f h k))),(13,.lit (.int .i64 k))]) (λ_=>[.box 29 xx3]) (λk=>k<=h.length) (λk=>h.length-k))
 | 1=>some (Inv.of [5,24] 1 (λk:Nat=>[(5,.lit (.int .i64 (qm4 h pix k))),(24,.lit (.int .i64 k))]) (λ_=>[.box 29 xx3]) (λk=>k<=pix.length) (λk=>pix.length-k))
 | _=>none
abbrev x1t:qb9:=qg6 true none [tInts,tInts] [q05] (λx=>wq1 x.1 x.2.1) (λx=>(shR x.1 x.2.1,()))
theorem w2x:Meets Tryz.prog 34 x1t:=by
 refine meets (snd (SpecsOk.cons w2v (SpecsOk.cons w2w (SpecsOk.nil _)))) Tryz.func34 rfl rfl (λx=>xu5 x.1 x.2.1) (λ_=>by kernel_rfl) (by decide) ?_
 rintro⟨h,p,⟨⟩⟩ hh
 revert h p
 intro(h:List Int) (p:List Int) (hh:wq1 h p)
 refine @qe7 _ (∃(v0:Unit),∃(v1:Nat),Nat.le v1 h.length/\(((0:Int)=q2f h v1/\(0:Int)=(↑v1:Int)/\True)/\((0:Int)=(0:Int)/\(0:Int)=(0:Int)/\True)/\True)/\∀(v2:Nat),Nat.le v2 h.length->(decide ((↑v2:Int)<(↑h.length:Int))=true->((0:Int)<=(↑v2:Int)/\(↑v2:Int)<(↑h.length:Int))/\qf3 (1000000000:Int) (nI h v2)/\fits .i64 (q2f h v2+qz2 (nI h v2))/\fits .i64 ((↑v2:Int)+(1:Int))/\∃(v5:Nat),Nat.le v5 h.length/\h.length-v5<h.length-v2/\(q2f h v2+qz2 (nI h v2)=q2f h v5/\(↑v2:Int)+(1:Int)=(↑v5:Int)/\True)/\((0:Int)=(0:Int)/\(0:Int)=(0:Int)/\True)/\True)/\(decide ((↑v2:Int)<(↑h.length:Int))=false->∃(v5:Unit),∃(v6:Nat),Nat.le v6 p.length/\(((0:Int)=qm4 h p v6/\(0:Int)=(↑v6:Int)/\True)/\((0:Int)=(0:Int)/\(0:Int)=(0:Int)/\True)/\True)/\∀(v7:Nat),Nat.le v7 p.length->(decide ((↑v7:Int)<(↑p.length:Int))=true->((0:Int)<=(↑v7:Int)/\(↑v7:Int)<(↑p.length:Int))/\((0:Int)<=nI p v7/\nI p v7<(↑h.length:Int))/\qf3 (1000000000:Int) (nI h (nI p v7).toNat)/\fits .i64 (qm4 h p v7+qz2 (nI h (nI p v7).toNat))/\fits .i64 ((↑v7:Int)+(1:Int))/\∃(v10:Nat),Nat.le v10 p.length/\p.length-v10<p.length-v7/\(qm4 h p v7+qz2 (nI h (nI p v7).toNat)=qm4 h p v10/\(↑v7:Int)+(1:Int)=(↑v10:Int)/\True)/\((0:Int)=(0:Int)/\(0:Int)=(0:Int)/\True)/\True)/\(decide ((↑v7:Int)<(↑p.length:Int))=false->(((0:Ty.den tInt)<=qm4 h p v7/\qm4 h p v7<=BIG)/\(0:Ty.den tInt)<q2f h v2/\q2f h v2<=BIG)/\(ofR (qm4 h p v7) (q2f h v2)).1=(shR h p).1/\(ofR (qm4 h p v7) (q2f h v2)).2=(shR h p).2/\True))) (by kernel_rfl) ?_
 try simp only[z0,z1,z2,z3,z4,z5,z6,z7,z8,z9,z10,Int.reduceEq,z11,z12,z13,z14,z15,z16,z17,z18,z19,z20,z21,z22,z23,z24,z25,z26,z27,z28,z29,z30,Int.reduceLE,Int.reduceLT,z31,z32,z33,z34,qa3]
 try simp only[qb6,qb7,qc7,z31,z32,z2,z1]
 have hl:=hh.len
 have hb:=hh.ok.len
 refine⟨(),0,Nat.zero_le _,⟨rfl,rfl⟩,λk hk=>⟨λhlt=>?_,λhge=>?_⟩⟩
 ·have h1:=qy1 hh.ok k
  have h2:=qy1 hh.ok (k+1)
  have h3:=hh.ok.sm k
  unfold qf3 at h3
  have e:q2f h k+qz2 (nI h k)=q2f h (k+1):=rfl
  exact⟨hlt,by unfold qf3; omega,qa7 (by omega) (by omega),qa7 (by omega) (by omega),k+1,hlt,by omega,e,by push_cast; rfl⟩
 obtain rfl:k=h.length:=by omega
 refine⟨(),0,Nat.zero_le _,⟨rfl,rfl⟩,λk hk=>⟨λhlt=>?_,λhge=>?_⟩⟩
 ·have h1:=qy2 (pix:=p) hh.ok k
  have h2:=qy2 (pix:=p) hh.ok (k+1)
  have h3:=hh.ok.sm (nI p k).toNat
  have h4:=hh.at_ k hlt
  unfold qf3 at h3
  have e:qm4 h p k+qz2 (nI h (nI p k).toNat)=qm4 h p (k+1):=rfl
  exact⟨hlt,h4,by unfold qf3; omega,qa7 (by omega) (by omega),qa7 (by omega) (by omega),k+1,hlt,by omega,e,by push_cast; rfl⟩
 ·obtain rfl:k=p.length:=by omega
  have h1:=qy2 (pix:=p) hh.ok p.length
  have h2:=qy1 hh.ok h.length
  have h3:=q6o hh.ok hh.ne
  unfold szL at h3
  have hB:BIG=4000000000000000000:=rfl
  exact⟨⟨⟨h1.1,by omega⟩,h3,by omega⟩,rfl,rfl⟩
def sm:Nat->(Nat->Int)->Int
 | 0,_=>0
 | n+1,f=>sm n f+f n
theorem qg3 {n:Nat} {f g:Nat->Int} (h:∀i,i<n->f i=g i):sm n f=sm n g:=by
 induction n with
 | zero=>rfl
 | succ n ih=>rw[sm,sm,ih λi hi=>h i (by omega),h n (by omega)]
theorem qt1 {n:Nat} {f:Nat->Int} (h:∀i,i<n->f i=0):sm n f=0:=by
 induction n with
 | zero=>rfl
 | succ n ih=>rw[sm,ih λi hi=>h i (by omega),h n (by omega)]; rfl
theorem wz3 (n:Nat) (f g:Nat->Int):sm n (λi=>f i+g i)=sm n f+sm n g:=by
 induction n with
 | zero=>rfl
 | succ n ih=>simp only[sm,ih]; omega
theorem xd9 (n:Nat) (f g:Nat->Int):sm n (λi=>f i-g i)=sm n f-sm n g:=by
 induction n with
 | zero=>rfl
 | succ n ih=>simp only[sm,ih]; omega
theorem qt2 (n:Nat) (c:Int) (f:Nat->Int):sm n (λi=>c*f i)=c*sm n f:=by
 induction n with
 | zero=>simp[sm]
 | succ n ih=>simp only[sm,ih,Int.mul_add]
theorem qw0 {n k:Nat} {f:Nat->Int} (hk:k<n) (h:∀i,i<n->i≠k->f i=0):sm n f=f k:=by
 induction n with
 | zero=>omega
 | succ n ih=>
  rw[sm]
  by_cases e:k=n
  ·subst e
   rw[qt1 λi hi=>h i (by omega) (by omega)]; omega
  ·rw[ih (by omega) λi hi hne=>h i (by omega) hne,h n (by omega) (Ne.symm e)]; omega
theorem q8q {n k l:Nat} {f:Nat->Int} (hk:k<n) (hl:l<n) (hkl:k≠l) (h:∀i,i<n->i≠k->i≠l->f i=0):sm n f=f k+f l:=by
 have e:sm n f=sm n (λi=>if i=k then f k else 0)+sm n (λi=>if i=l then f l else 0):=by
  rw[<- wz3]
  refine qg3 λi hi=>?_
  by_cases e1:i=k
  ·subst e1; rw[if_pos rfl,if_neg hkl]; omega
  ·rw[if_neg e1]
   by_cases e2:i=l
   ·subst e2; rw[if_pos rfl]; omega
   ·rw[if_neg e2,h i hi e1 e2]; rfl
 rw[e,qw0 hk λi _ hne=>if_neg hne,qw0 hl λi _ hne=>if_neg hne,if_pos rfl,if_pos rfl]
theorem xu6 {n:Nat} {f:Nat->Int} {B:Nat} (h:∀i,i<n->(f i).natAbs<=B):(sm n f).natAbs<=n*B:=by
 induction n with
 | zero=>simp[sm]
 | succ n ih=>
  have h1:=ih λi hi=>h i (by omega)
  have h2:=h n (by omega)
  rw[sm,Nat.succ_mul]
  omega
theorem w58 (n k:Nat) (f:Nat->Nat->Int):sm n (λi=>sm k (λj=>f i j))=sm k (λj=>sm n (λi=>f i j)):=by
 induction n with
 | zero=>exact(qt1 λ_ _=>rfl).symm
 | succ n ih=>
  rw[sm,ih,<- wz3]
  rfl
theorem qr9 (n:Nat) (x y:Int) (f g r:Nat->Int):sm n (λb=>(x*f b-y*g b)*r b)=x*sm n (λb=>f b*r b)-y*sm n (λb=>g b*r b):=by
 rw[<- qt2,<- qt2,<- xd9]
 refine qg3 λi _=>?_
 rw[Int.sub_mul,Int.mul_assoc,Int.mul_assoc]
theorem q6v:∀(B A:Nat) (f:Nat->Nat),(∀i,i<A->f i<B)->B<A->∃i j,i<j/\j<A/\f i=f j
 | 0,A,f,h,hA=>absurd (h 0 hA) (Nat.not_lt_zero _)
 | B+1,A,f,h,hA=>by
  by_cases hx:∃i,i<A/\f i=B
  ·obtain⟨i0,h0,h1⟩:=hx
   by_cases hy:∃j,j<A/\j≠i0/\f j=B
   ·obtain⟨j,k0,k1,k2⟩:=hy
    rcases Nat.lt_or_gt_of_ne k1 with q | q
    ·exact⟨j,i0,q,h0,by omega⟩
    ·exact⟨i0,j,q,k0,by omega⟩
   ·have hn:∀j,j<A->j≠i0->f j<B:=λj hj hne=>by
     have:=h j hj
     rcases Nat.lt_or_ge (f j) B with q | q
     ·exact q
     ·exact absurd ⟨j,hj,hne,by omega⟩ hy
    obtain⟨i,j,q1,q2,q3⟩:=q6v B (A-1) (λi=>f (if i<i0 then i else i+1)) (λi hi=>hn _ (by split <;> omega) (by split <;> omega)) (by omega)
    refine⟨if i<i0 then i else i+1,if j<i0 then j else j+1,?_,?_,q3⟩
    ·split <;> split <;> omega
    ·split <;> omega
  ·obtain⟨i,j,q1,q2,q3⟩:=q6v B A f (λi hi=>by
    have:=h i hi
    rcases Nat.lt_or_ge (f i) B with q | q
    ·exact q
    ·exact absurd ⟨i,hi,by omega⟩ hx) (by omega)
   exact⟨i,j,q1,q2,q3⟩
def dig (b:Nat):Nat->Nat->Nat
 | 0,N=>N % b
 | a+1,N=>dig b a (N / b)
theorem xe0 {b:Nat} (hb:0<b):∀a N,dig b a N<b
 | 0,N=>Nat.mod_lt _ hb
 | a+1,N=>xe0 hb a (N / b)
theorem w59 {b:Nat} (hb:0<b):∀(n N M:Nat),N<b ^ n->M<b ^ n->(∀a,a<n->dig b a N=dig b a M)->N=M
 | 0,N,M,h1,h2,_=>by simp at h1 h2; omega
 | n+1,N,M,h1,h2,h=>by
  have h0:=h 0 (by omega)
  have e:=w59 hb n (N / b) (M / b) (Nat.div_lt_of_lt_mul (by rw[Nat.pow_succ,Nat.mul_comm] at h1; exact h1)) (Nat.div_lt_of_lt_mul (by rw[Nat.pow_succ,Nat.mul_comm] at h2; exact h2)) λa ha=>h (a+1) (by omega)
  have h0:N % b=M % b:=h0
  rw[<- Nat.div_add_mod N b,<- Nat.div_add_mod M b,e,h0]
def q3e (B:Nat):List Nat->Nat
 | []=>0
 | x :: l=>x+B*q3e B l
theorem wz4 {B:Nat}:∀(l:List Nat),(∀x∈l,x<B)->q3e B l<B ^ l.length
 | [],_=>by simp[q3e]
 | x :: l,h=>by
  have h1:=wz4 l λy hy=>h y (by simp[hy])
  have h2:=h x (by simp)
  rw[q3e,List.length_cons,Nat.pow_succ,Nat.mul_comm (B ^ l.length)]
  calc x+B*q3e B l<B+B*q3e B l:=by omega
   _=B*(q3e B l+1):=by rw[Nat.mul_add]; omega
   _<=B*B ^ l.length:=Nat.mul_le_mul (Nat.le_refl _) h1
theorem wk0 {B:Nat} (hB:0<B):∀(l k:List Nat),l.length=k.length->(∀x∈l,x<B)->(∀x∈k,x<B)->q3e B l=q3e B k->l=k
 | [],[],_,_,_,_=>rfl
 | [],_ :: _,h,_,_,_=>by simp at h
 | _ :: _,[],h,_,_,_=>by simp at h
 | x :: l,y :: k,h,h1,h2,e=>by
  have hx:=h1 x (by simp)
  have hy:=h2 y (by simp)
  rw[q3e,q3e] at e
  have e1:x=y:=by
   have:=congrArg (· % B) e
   simpa[Nat.add_mul_mod_self_left,Nat.mod_eq_of_lt hx,Nat.mod_eq_of_lt hy] using this
  subst e1
  have e2:q3e B l=q3e B k:=Nat.eq_of_mul_eq_mul_left hB (by omega)
  rw[wk0 hB l k (by simpa using h) (λz hz=>h1 z (by simp[hz])) (λz hz=>h2 z (by simp[hz])) e2]
def smN:Nat->(Nat->Nat)->Nat
 | 0,_=>0
 | n+1,f=>smN n f+f n
theorem xu7 {n C:Nat} {f:Nat->Nat} (h:∀i,i<n->f i<=C):smN n f<=n*C:=by
 induction n with
 | zero=>simp[smN]
 | succ n ih=>
  have h1:=ih λi hi=>h i (by omega)
  have h2:=h n (by omega)
  rw[smN,Nat.succ_mul]; omega
def lhsN (n C:Nat) (f:Nat->Int) (z:Nat->Nat):Nat:=smN n λa=>if 0<f a then z a else if f a<0 then C-z a else 0
theorem xl2 {n C:Nat} {f:Nat->Int} (hf:∀a,a<n->(f a).natAbs<=1) {z y:Nat->Nat} (hz:∀a,a<n->z a<=C) (hy:∀a,a<n->y a<=C):(lhsN n C f z:Int)-(lhsN n C f y:Int)=sm n λa=>f a*((z a:Int)-(y a:Int)):=by
 unfold lhsN
 induction n with
 | zero=>rfl
 | succ n ih=>
  have h1:=ih (λa ha=>hf a (by omega)) (λa ha=>hz a (by omega)) (λa ha=>hy a (by omega))
  have h2:=hf n (by omega)
  have h3:=hz n (by omega)
  have h4:=hy n (by omega)
  rw[smN,smN,sm,<- h1]
  rcases Int.lt_trichotomy (f n) 0 with q | q | q
  ·have e:f n=-1:=by omega
   rw[if_neg (by omega),if_pos q,if_neg (by omega),if_pos q,e]
   omega
  ·rw[q]; simp
  ·have e:f n=1:=by omega
   rw[if_pos q,if_pos q,e]
   omega
theorem xu8 {n:Nat} (hn:0<n) (fs:List (Nat->Int)) (hlen:fs.length<n) (h1:∀f∈fs,∀a,a<n->(f a).natAbs<=1):∃z:Nat->Int,(∃a,a<n/\z a≠0)/\(∀a,a<n->(z a).natAbs<=n ^ (n-1))/\∀f∈fs,sm n (λa=>f a*z a)=0:=by
 obtain⟨C,hC⟩:∃C,C=n ^ (n-1):=⟨_,rfl⟩
 have hb:0<C+1:=by omega
 let code:Nat->Nat:=λN=>q3e (n*C+1) (fs.map λf=>lhsN n C f λa=>dig (C+1) a N)
 have hdig:∀N a,dig (C+1) a N<=C:=λN a=>by have:=xe0 hb a N; omega
 have hl:∀N,∀x∈fs.map (λf=>lhsN n C f λa=>dig (C+1) a N),x<n*C+1:=λN x hx=>by
  obtain⟨f,hf,rfl⟩:=List.mem_map.1 hx
  have:=xu7 (n:=n) (C:=C) (f:=λa=>if 0<f a then dig (C+1) a N else if f a<0 then C-dig (C+1) a N else 0) λi _=>by
   have:=hdig N i
   split
   ·exact this
   ·split <;> omega
  exact Nat.lt_succ_of_le this
 obtain⟨N,M,hNM,hM,he⟩:=q6v ((n*C+1) ^ fs.length) ((C+1) ^ n) code (λN _=>by
  have:=wz4 _ (hl N)
  rw[List.length_map] at this
  exact this) (by
  calc(n*C+1) ^ fs.length<=(n*C+1) ^ (n-1):=Nat.pow_le_pow_right (by omega) (by omega)
   _<=(n*(C+1)) ^ (n-1):=Nat.pow_le_pow_left (by rw[Nat.mul_add]; omega) _
   _=n ^ (n-1)*(C+1) ^ (n-1):=Nat.mul_pow _ _ _
   _=C*(C+1) ^ (n-1):=by rw[<- hC]
   _<(C+1)*(C+1) ^ (n-1):=Nat.mul_lt_mul_of_pos_right (by omega) (Nat.pow_pos hb)
   _=(C+1) ^ n:=by rw[Nat.mul_comm,<- Nat.pow_succ,show(n-1).succ=n by omega])
 refine⟨λa=>(dig (C+1) a M:Int)-(dig (C+1) a N:Int),Classical.byContradiction λhno=>?_,λa ha=>?_,λf hf=>?_⟩
 ·have:=w59 hb n N M (by omega) hM λa ha=>by
   rcases Classical.em ((dig (C+1) a M:Int)-(dig (C+1) a N:Int)=0) with q | q
   ·omega
   ·exact absurd ⟨a,ha,q⟩ hno
  omega
 ·have q1:=hdig M a
  have q2:=hdig N a
  rw[<- hC]
  dsimp only
  omega
 ·have hll:=wk0 (B:=n*C+1) (by omega) _ _ (by simp) (hl N) (hl M) he
  have hfe:lhsN n C f (λa=>dig (C+1) a N)=lhsN n C f (λa=>dig (C+1) a M):=List.map_inj_left.1 hll f hf
  rw[<- xl2 (h1 f hf) (λa _=>hdig M a) (λa _=>hdig N a),hfe]
  omega
end Go.Proofs.YtempacilejhbgaaGreatDoor
