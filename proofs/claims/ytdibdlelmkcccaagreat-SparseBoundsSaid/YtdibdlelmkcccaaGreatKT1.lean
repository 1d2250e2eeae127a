/- The mask's pairs of columns: contracts by the engine. No condition. -/
import Derived.Test.YtdibdlelmkcccaaGreatVRep
import Derived.Test.YtdibdlelmkcccaaGreatV39
import Derived.Test.YtdibdlelmkcccaaGreatTys
import Derived.Test.YtdibdlelmkcccaaGreatEng3
set_option linter.unusedVariables false
set_option linter.unusedSimpArgs false
namespace Go.Proofs.YtdibdlelmkcccaaGreat
open Go Go.RowKit Eng
structure xw1 (n:Int) (pix:List Int) (v:List (Int × Int)):Prop where
 n1:1<=n
 n2:n<=1000
 len:pix.length<=v.length
 big:pix.length<=1000000
 at_:∀k,k<pix.length->0<=nI pix k/\nI pix k<n
abbrev yb1:qc0:=qf8 true (some 42) [tInt,tInts,wt3] [wt3] (λx=>xw1 x.1 x.2.1 x.2.2.1) (λx=>(q4y x.1.toNat x.2.1 x.2.2.1 x.2.1.length,()))
def x52 (n:Int) (pix:List Int) (v:List (Int × Int)):Nat->Option Inv
 | 0=>some (Inv.of [7,16] 1 (λk:Nat=>[(7,.own 0),(16,.lit (.int .i64 k))]) (λk=>[.vec 42 q7z (q4y n.toNat pix v k)]) (λk=>k<=pix.length) (λk=>pix.length-k))
 | _=>none
def wf7 (m:List (List Int)) (p:List Int) (v:List (Int × Int)):Int:=if validB m=false\/w1e (p,v)=false then 1 else wh5 m p
def wq9 (m:List (List Int)) (p:List Int) (v:List (Int × Int)):List (Int × Int):=if wf7 m p v=0 then q4y (nL m 0).length p v p.length else[]
theorem w84:qd3 Tryz.prog 50 yb1:=by
 refine meets (snd (SpecsOk.cons wp5 (SpecsOk.nil _))) Tryz.func50 rfl rfl (λx=>x52 x.1 x.2.1 x.2.2.1) (λ_=>by kernel_rfl) (by decide) ?_
 rintro⟨n,pix,v,⟨⟩⟩ h
 revert n pix v
 intro(n:Int) (pix:List Int) (v:List (Int × Int)) (h:xw1 n pix v)
 refine @qd8 _ (let Q0:=List.length pix; let Q1:=Int.toNat n; (List.length [((0:Int),(1:Int))]=(1:Nat)/\(1:Ty.den (Ty.int .i64))<=n/\n<=(1000:Ty.den (Ty.int .i64)))/\∃(v0:Unit),∃(v1:Nat),Nat.le v1 Q0/\((True/\(0:Int)=(↑v1:Int)/\True)/\List.replicate Q1 (qa1 (Ty.prod (Ty.int .i64) (Ty.int .i64)) [((0:Int),(1:Int))] (0:Nat))=q4y Q1 pix v v1/\True)/\∀(v2:Nat),Nat.le v2 Q0->(decide ((↑v2:Int)<(↑Q0:Int))=true->((0:Int)<=(↑v2:Int)/\(↑v2:Int)<(↑Q0:Int))/\((0:Int)<=(↑v2:Int)/\(↑v2:Int)<(↑(List.length v):Int))/\((0:Int)<=qa1 (Ty.int .i64) pix (Int.toNat (↑v2:Int))/\qa1 (Ty.int .i64) pix (Int.toNat (↑v2:Int))<(↑(List.length (q4y Q1 pix v v2)):Int))/\Int.toNat (qa1 (Ty.int .i64) pix (Int.toNat (↑v2:Int)))<List.length (q4y Q1 pix v v2)/\fits .i64 ((↑v2:Int)+(1:Int))/\∃(v5:Nat),Nat.le v5 Q0/\List.length pix-v5<List.length pix-v2/\(True/\(↑v2:Int)+(1:Int)=(↑v5:Int)/\True)/\List.set (q4y Q1 pix v v2) (Int.toNat (qa1 (Ty.int .i64) pix (Int.toNat (↑v2:Int)))) (Prod.fst (qa1 (Ty.prod (Ty.int .i64) (Ty.int .i64)) v (Int.toNat (↑v2:Int))),Prod.snd (qa1 (Ty.prod (Ty.int .i64) (Ty.int .i64)) v (Int.toNat (↑v2:Int))))=q4y Q1 pix v v5/\True)/\(decide ((↑v2:Int)<(↑Q0:Int))=false->q4y Q1 pix v v2=q4y Q1 pix v Q0)) (by kernel_rfl) ?_
 try simp only[z0,z1,z2,z3,z4,z5,z6,z7,z8,z9,z10,Int.reduceEq,z11,z12,z13,z14,z15,z16,z17,z18,z19,z20,z21,z22,z23,z24,z25,z26,z27,z28,z29,z30,Int.reduceLE,Int.reduceLT,z31,z32,z33,z34,qa4]
 try simp only[qb6,qb7,qc8,List.set_cons_zero,List.cons.injEq,and_true,true_and]
 obtain⟨h1,h2,h3,h4,h5⟩:=h
 have e1:(n.toNat:Int)=n:=by omega
 refine⟨⟨h1,h2⟩,(),0,Nat.zero_le _,⟨rfl,rfl⟩,λk hk=>⟨λhlt=>?_,λhge=>?_⟩⟩
 ·have ha:=h5 k hlt
  rw[q5n,e1]
  exact⟨hlt,by omega,ha,by omega,qa7 (by omega) (by omega),k+1,hlt,by omega,by push_cast; rfl,rfl⟩
 ·obtain rfl:k=pix.length:=by omega
  rfl
abbrev x53:qc0:=qf8 true (some 42) [tMask,q5c] [wt3,tInt] (λx=>x.2.1.1.length<=100000/\x.2.1.2.length<=100000) (λx=>(wq9 x.1 x.2.1.1 x.2.1.2,wf7 x.1 x.2.1.1 x.2.1.2,()))
theorem w4i:qd3 Tryz.prog 15 x53:=by
 refine meets (snd (SpecsOk.cons q26 (SpecsOk.cons w7n (SpecsOk.cons wl9 (SpecsOk.cons w84 (SpecsOk.nil _)))))) Tryz.func15 rfl rfl (λ_ _=>none) (λ_=>by kernel_rfl) (by decide) ?_
 rintro⟨m,⟨p,v⟩,⟨⟩⟩ h
 revert m p v
 intro(m:List (List Int)) (p:List Int) (v:List (Int × Int)) (h:p.length<=100000/\v.length<=100000)
 refine @qd8 _ (True/\((!validB m)=true->wq9 m p v=[]/\(1:Int)=wf7 m p v/\True)/\((!validB m)=false->(List.length p<=(1000000:Nat)/\List.length v<=(1000000:Nat))/\((!w1e (p,v))=true->wq9 m p v=[]/\(1:Int)=wf7 m p v/\True)/\((!w1e (p,v))=false->List.length p<=(1000000:Nat)/\((wh5 m p != (0:Int))=true->wq9 m p v=[]/\wh5 m p=wf7 m p v/\True)/\((wh5 m p != (0:Int))=false->((0:Int)<=(0:Int)/\(0:Int)<(↑(List.length m):Int))/\xw1 (↑(List.length (qa1 (Ty.list (Ty.int .i64)) m (0:Nat))):Int) p v/\q4y (Int.toNat (↑(List.length (qa1 (Ty.list (Ty.int .i64)) m (0:Nat))):Int)) p v (List.length p)=wq9 m p v/\(0:Int)=wf7 m p v/\True)))) (by kernel_rfl) ?_
 try simp only[z0,z1,z2,z3,z4,z5,z6,z7,z8,z9,z10,Int.reduceEq,z11,z12,z13,z14,z15,z16,z17,z18,z19,z20,z21,z22,z23,z24,z25,z26,z27,z28,z29,z30,Int.reduceLE,Int.reduceLT,z31,z32,z33,z34,qa4]
 try simp only[qb6,qb7,qc8,List.set_cons_zero,List.cons.injEq,and_true,true_and]
 obtain⟨hp,hv⟩:=h
 refine⟨λh1=>?_,λh1=>⟨⟨by omega,by omega⟩,λh2=>?_,λh2=>⟨by omega,λh3=>?_,λh3=>?_⟩⟩⟩
 ·have e:wf7 m p v=1:=by simp[wf7,h1]
  simp[wq9,e]
 ·have e:wf7 m p v=1:=by simp[wf7,h2]
  simp[wq9,e]
 ·have e:wf7 m p v=wh5 m p:=by simp[wf7,h1,h2]
  simp[wq9,e,h3]
 ·have e:wf7 m p v=0:=by simp[wf7,h1,h2,h3]
  have hM:=Mk.of h1
  have hN:Named (nL m 0).length p:=Named.of (by unfold wh5 at h3; rwa [if_neg (by rw[h1]; decide)] at h3)
  have hl:p.length=v.length:=by
   unfold w1e at h2
   simp only[Bool.and_eq_true,decide_eq_true_eq] at h2
   exact h2.1.1
  have m1:=hM.rows1
  have m2:=hM.pix1
  have m3:=hM.pix10
  exact⟨by omega,⟨by omega,by omega,by omega,by omega,hN.at_⟩,by simp[wq9,e],e.symm⟩
theorem w85 (f:Nat->Int):∀n,0<n->∃j,j<n/\∀i,i<n->f i<=f j
 | 0,h=>absurd h (Nat.lt_irrefl 0)
 | 1,_=>⟨0,by omega,λi hi=>by rw[show i=0 by omega]; exact Int.le_refl _⟩
 | n+2,_=>by
  obtain⟨j,hj,h⟩:=w85 f (n+1) (by omega)
  rcases Int.le_total (f j) (f (n+1)) with q | q
  ·refine⟨n+1,by omega,λi hi=>?_⟩
   rcases Nat.lt_or_ge i (n+1) with e | e
   ·exact Int.le_trans (h i e) q
   ·rw[show i=n+1 by omega]; exact Int.le_refl _
  ·refine⟨j,by omega,λi hi=>?_⟩
   rcases Nat.lt_or_ge i (n+1) with e | e
   ·exact h i e
   ·rw[show i=n+1 by omega]; exact q
theorem isq (x:Int):0<=x*x:=by
 rcases Int.le_total 0 x with h | h
 ·exact Int.mul_nonneg h h
 ·exact Int.mul_nonneg_of_nonpos_of_nonpos h h
theorem x2g {e x:Nat->Int}:∀k,(∀c,c<k->e c=0->x c=0)->sm k x*sm k x<=(cntN k e:Int)*sm k (λc=>x c*x c)/\0<=sm k (λc=>x c*x c)/\(cntN k e=0->sm k x=0)
 | 0,_=>⟨by simp[sm],by simp[sm],λ_=>rfl⟩
 | k+1,h=>by
  obtain⟨h1,h2,h3⟩:=x2g k λc hc=>h c (by omega)
  have hx:=isq (x k)
  rw[sm,sm,cntN]
  by_cases q:e k=0
  ·rw[if_neg (λp=>p q),h k (by omega) q]
   simp only[Int.add_zero,Int.mul_zero]
   exact⟨h1,h2,h3⟩
  ·rw[if_pos q]
   refine⟨?_,by omega,λp=>by omega⟩
   generalize sm k x=S at *
   generalize sm k (λc=>x c*x c)=Q at *
   generalize cntN k e=m at *
   generalize x k=z at *
   rw[Int.natCast_add]
   show(S+z)*(S+z)<=((m:Int)+1)*(Q+z*z)
   have key:2*(S*z)<=Q+m*(z*z):=by
    rcases Nat.eq_zero_or_pos m with hm | hm
    ·rw[h3 hm,hm]; simp; omega
    ·have hs:=isq (S-m*z)
     have e1:(S-m*z)*(S-m*z)=S*S-2*(m*(S*z))+m*(m*(z*z)):=by grind
     have e2:(m:Int)*(2*(S*z))<=m*(Q+m*(z*z)):=by
      have e3:(m:Int)*(Q+m*(z*z))=m*Q+m*(m*(z*z)):=Int.mul_add _ _ _
      have e4:(m:Int)*(2*(S*z))=2*(m*(S*z)):=by grind
      omega
     exact Int.le_of_mul_le_mul_left e2 (by omega)
   have e5:(S+z)*(S+z)=S*S+2*(S*z)+z*z:=by grind
   have e6:((m:Int)+1)*(Q+z*z)=m*Q+m*(z*z)+Q+z*z:=by grind
   omega
theorem xn0 {e g:Nat->Int} {B:Int}:∀k,(∀c,c<k->e c=0->g c=0)->(∀c,c<k->g c<=B)->sm k g<=(cntN k e:Int)*B
 | 0,_,_=>by simp[sm,cntN]
 | k+1,h,hb=>by
  have h1:=xn0 k (λc hc=>h c (by omega)) λc hc=>hb c (by omega)
  rw[sm,cntN]
  by_cases q:e k=0
  ·rw[if_neg (λp=>p q),h k (by omega) q,Int.add_zero]; exact h1
  ·rw[if_pos q,Int.natCast_add]
   have h2:=hb k (by omega)
   have e1:((cntN k e:Int)+1)*B=(cntN k e:Int)*B+B:=by grind
   show sm k g+g k<=((cntN k e:Int)+1)*B
   omega
theorem xi2 {n:Nat} {q:Nat->Nat->Int} {d:Nat->Int} {N D:Int} (hN:0<=N) (hD:0<D) (hp:∀c,c<n->0<q c c)
  (hq:∀i j,i<n->j<n->i≠j->q i j*q i j*D<=N*(q i i*q j j)) (hs:∀j,j<n->(sm n λc=>d c*q c j)=0) {c0:Nat} (hc:c0<n) (h0:d c0≠0) :
  ∃M:Nat,M+1<=cntN n d/\D<=(M:Int)*M*N:=by
 obtain⟨j,hj,hmax⟩:=w85 (λc=>d c*d c*q c c) n (by omega)
 have hdj:d j≠0:=λe=>by
  have h1:=hmax c0 hc
  simp only[e,Int.zero_mul] at h1
  have h2:0<d c0*d c0:=by
   rcases Int.lt_or_gt_of_ne h0 with p | p
   ·exact Int.mul_pos_of_neg_of_neg p p
   ·exact Int.mul_pos p p
  have:=Int.mul_pos h2 (hp c0 hc)
  omega
 let e:Nat->Int:=λc=>if c=j then 0 else d c
 let x:Nat->Int:=λc=>if c=j then 0 else d c*q c j
 have he:cntN n e<cntN n d:=cnt_lt (c0:=j) (show e j=0 from if_pos rfl) hdj n hj λc _ p=>by
  show d c≠0
  intro z
  apply p
  show(if c=j then 0 else d c)=0
  split
  ·rfl
  ·exact z
 have hz:∀c,c<n->e c=0->x c=0:=λc _ p=>by
  show(if c=j then 0 else d c*q c j)=0
  split
  ·rfl
  ·rename_i w
   have p:(if c=j then 0 else d c)=0:=p
   rw[if_neg w] at p
   rw[p,Int.zero_mul]
 have hS:sm n x=- (d j*q j j):=by
  have e1:=hs j hj
  have e2:(sm n λc=>d c*q c j)=sm n (λc=>x c+if c=j then d j*q j j else 0):=qf5 λc hc=>by
   show d c*q c j=(if c=j then 0 else d c*q c j)+if c=j then d j*q j j else 0
   split
   ·rename_i w; rw[w]; omega
   ·omega
  rw[e2,wo1,qs3 (k:=j) hj λi _ w=>if_neg w,if_pos rfl] at e1
  omega
 obtain⟨h1,h2,_⟩:=x2g n hz
 rw[hS] at h1
 refine⟨cntN n e,he,?_⟩
 generalize hM:cntN n e=M at *
 have hT:0<d j*q j j*(d j*q j j):=by
  have hw:d j*q j j≠0:=Int.mul_ne_zero hdj (Int.ne_of_gt (hp j hj))
  rcases Int.lt_or_gt_of_ne hw with p | p
  ·exact Int.mul_pos_of_neg_of_neg p p
  ·exact Int.mul_pos p p
 have hg:sm n (λc=>x c*x c)*D<=(M:Int)*(N*(d j*q j j*(d j*q j j))):=by
  have e1:sm n (λc=>x c*x c)*D=sm n (λc=>D*(x c*x c)):=by rw[qp2,Int.mul_comm]
  rw[e1,<- hM]
  refine xn0 n (λc hc p=>by rw[hz c hc p]; simp) λc hc=>?_
  by_cases w:c=j
  ·have:x c=0:=if_pos w
   rw[this]
   have:=Int.mul_nonneg hN (Int.le_of_lt hT)
   omega
  ·have ex:x c=d c*q c j:=if_neg w
   rw[ex]
   have a1:=hq c j hc hj w
   have a2:=Int.mul_le_mul_of_nonneg_left a1 (isq (d c))
   have a3:=Int.mul_le_mul_of_nonneg_right (hmax c hc) (Int.mul_nonneg hN (Int.le_of_lt (hp j hj)))
   have b1:D*(d c*q c j*(d c*q c j))=d c*d c*(q c j*q c j*D):=by grind
   have b2:d c*d c*(N*(q c c*q j j))=d c*d c*q c c*(N*q j j):=by grind
   have b3:d j*d j*q j j*(N*q j j)=N*(d j*q j j*(d j*q j j)):=by grind
   rw[b1,<- b3]
   rw[b2] at a2
   exact Int.le_trans a2 a3
 generalize hTd:d j*q j j*(d j*q j j)=T at *
 have hneg:-(d j*q j j) * -(d j*q j j)=T:=by rw[Int.neg_mul_neg,hTd]
 rw[hneg] at h1
 have c1:T*D<=(M:Int)*sm n (λc=>x c*x c)*D:=Int.mul_le_mul_of_nonneg_right h1 (Int.le_of_lt hD)
 have c2:(M:Int)*sm n (λc=>x c*x c)*D=M*(sm n (λc=>x c*x c)*D):=Int.mul_assoc _ _ _
 have c3:=Int.mul_le_mul_of_nonneg_left hg (Int.natCast_nonneg M)
 have c4:(M:Int)*(M*(N*T))=T*(M*M*N):=by grind
 have c5:T*D<=T*(M*M*N):=by omega
 exact Int.le_of_mul_le_mul_left c5 hT
def bndTo (N D:Int):Nat->Nat->Nat
 | 0,k=>k
 | f+1,k=>if(2*(k:Int)+1)*(2*(k:Int)+1)*N<D then bndTo N D f (k+1) else k
theorem w2f (N D:Int):∀f k:Nat,(k=0\/(2*((k:Int)-1)+1)*(2*((k:Int)-1)+1)*N<D)->bndTo N D f k<=k+f/\(bndTo N D f k=0\/(2*((bndTo N D f k:Int)-1)+1)*(2*((bndTo N D f k:Int)-1)+1)*N<D)
 | 0,k,h=>⟨Nat.le_refl _,h⟩
 | f+1,k,h=>by
  rw[bndTo]
  split
  ·rename_i h1
   have e:(((k+1:Nat):Int)-1)=k:=by omega
   obtain⟨h2,h3⟩:=w2f N D f (k+1) (.inr (by rw[e]; exact h1))
   exact⟨by omega,h3⟩
  ·exact⟨by omega,h⟩
theorem xi3 {N D:Int} {n s M:Nat} (hN:0<=N) (hM:M+1<=s) (h:D<=(M:Int)*M*N) (hD:0<D):2*bndTo N D n 0+1<=s:=by
 obtain⟨_,h1⟩:=w2f N D n 0 (.inl rfl)
 rcases h1 with h1 | h1
 ·omega
 ·generalize bndTo N D n 0=k at *
  rcases Nat.eq_zero_or_pos k with hk | hk
  ·omega
  ·refine Classical.byContradiction λhc=>?_
   have h2:(M:Int)<=2*((k:Int)-1)+1:=by omega
   have h0:(0:Int)<=M:=Int.natCast_nonneg M
   have h3:(M:Int)*M<=(2*((k:Int)-1)+1)*(2*((k:Int)-1)+1):=Int.mul_le_mul h2 h2 h0 (by omega)
   have h4:=Int.mul_le_mul_of_nonneg_right h3 hN
   omega
end Go.Proofs.YtdibdlelmkcccaaGreat
namespace Go.Proofs.YtdibdlelmkcccaaGreat.K
open Go Go.RowKit Eng Ls
abbrev tInt:Ty:=.int .i64
abbrev tInts:Ty:=.list (.int .i64)
abbrev tMask:Ty:=.list (.list (.int .i64))
def ctx (specs:List (Nat × qc0)) (wr:List Nat):Ctx:={ specs:=specs,tys:=tys,wr:=wr }
theorem snd {specs:List (Nat × qc0)} (h:SpecsOk Tryz.prog specs) (wr:List Nat):Sound Tryz.prog (ctx specs wr):=SpecsOk.sound h q1o (by kernel_rfl)
theorem w2g (l:List Int) (i:Nat):qa1 tInt l i=nth l i:=rfl
def w4s (m:List (List Int)) (j k:Nat):List Int:=(m.take k).map λr=>qa1 tInt r j
def colA (m:List (List Int)) (j:Nat):List Int:=m.map λr=>qa1 tInt r j
def wp6 (m:List (List Int)) (j:Int):Prop:=0<=j/\m.length<=1000/\∀k,k<m.length->j<(qa1 (.list (.int .i64)) m k:List Int).length
def xw2:qc0:=qf8 false none [tMask,tInt] [tInts] (λx=>wp6 x.1 x.2.1) (λx=>(colA x.1 x.2.1.toNat,()))
theorem w86 {m:List (List Int)} {j k:Nat} (hk:k<m.length):w4s m j (k+1)=w4s m j k++[qa1 tInt (qa1 (.list (.int .i64)) m k) j]:=by
 unfold w4s
 rw[List.take_add_one,List.getElem?_eq_getElem hk]
 simp only[Option.toList_some,List.map_append,List.map_cons,List.map_nil]
 congr 3
 simp[qa1,hk]
def xi4 (m:List (List Int)) (j:Int):Nat->Option Inv
 | 0=>some (Inv.of [5,10] 1 (λk:Nat=>[(5,.own 0),(10,.lit (.int .i64 k))]) (λk=>[.vec 3 tInt (w4s m j.toNat k)]) (λk=>k<=m.length) (λk=>m.length-k))
 | _=>none
theorem wp7:qd3 Tryz.prog 127 xw2:=by
 refine meets (snd (SpecsOk.nil _) []) Tryz.func127 rfl rfl (λx=>xi4 x.1 x.2.1) (λ_=>by kernel_rfl) (by decide) ?_
 rintro⟨m,j,⟨⟩⟩ h
 revert m j
 intro(m:List (List Int)) (j:Int) (h:wp6 m j)
 refine @qd8 _ (∃(v0:Unit),∃(v1:Nat),Nat.le v1 (List.length m)/\((True/\(0:Int)=(↑v1:Int)/\True)/\w4s m (Int.toNat j) v1=[]/\True)/\∀(v2:Nat),Nat.le v2 (List.length m)->(decide ((↑v2:Int)<(↑(List.length m):Int))=true->((0:Int)<=(↑v2:Int)/\(↑v2:Int)<(↑(List.length m):Int))/\((0:Int)<=j/\j<(↑(List.length (qa1 (Ty.list (Ty.int .i64)) m (Int.toNat (↑v2:Int)))):Int))/\((0:Nat)<List.length [qa1 (Ty.int .i64) (qa1 (Ty.list (Ty.int .i64)) m (Int.toNat (↑v2:Int))) (Int.toNat j)]/\List.length (w4s m (Int.toNat j) v2)+List.length [qa1 (Ty.int .i64) (qa1 (Ty.list (Ty.int .i64)) m (Int.toNat (↑v2:Int))) (Int.toNat j)]<=(1000000:Nat))/\fits .i64 ((↑v2:Int)+(1:Int))/\∃(v5:Nat),Nat.le v5 (List.length m)/\List.length m-v5<List.length m-v2/\(True/\(↑v2:Int)+(1:Int)=(↑v5:Int)/\True)/\w4s m (Int.toNat j) v2++[qa1 (Ty.int .i64) (qa1 (Ty.list (Ty.int .i64)) m (Int.toNat (↑v2:Int))) (Int.toNat j)]=w4s m (Int.toNat j) v5/\True)/\(decide ((↑v2:Int)<(↑(List.length m):Int))=false->w4s m (Int.toNat j) v2=colA m (Int.toNat j))) (by kernel_rfl) ?_
 simp only[ne_eq,true_and,and_true,eq_self,Bool.not_eq_true',Bool.not_eq_false',decide_eq_true_eq,decide_eq_false_iff_not,Nat.le_eq,Int.not_lt,Int.not_le,Int.reduceEq,not_false_eq_true,Bool.not_eq_eq_eq_not,Bool.not_true,Bool.not_false,Int.ofNat_lt,Int.ofNat_le,Int.toNat_natCast,Int.natCast_nonneg,w2g,beq_iff_eq,bne_iff_ne,beq_eq_false_iff_ne,bne_eq_false_iff_eq,Classical.not_not,List.length_cons,List.length_nil,Nat.zero_add,List.nil_append,true_implies,Nat.lt_add_one,Nat.zero_lt_succ,Int.reduceLE,Int.reduceLT]
 obtain⟨h0,h1,h2⟩:=h
 refine⟨(),0,Nat.zero_le _,⟨rfl,rfl⟩,λk hk=>⟨λhlt=>?_,λhge=>?_⟩⟩
 ·have h3:=h2 k (by omega)
  have hl:(w4s m j.toNat k).length<=k:=by unfold w4s; simp; omega
  refine⟨by omega,⟨h0,h3⟩,by omega,qa7 (by omega) (by omega),k+1,by omega,by omega,by simp,?_⟩
  exact(w86 (by omega)).symm
 ·obtain rfl:k=m.length:=by omega
  unfold w4s colA
  rw[List.take_length]
def rowP (i n:Nat):List (Nat × Nat):=(List.range n).map λd=>(i,i+1+d)
def prs (p:Nat):Nat->List (Nat × Nat)
 | 0=>[]
 | i+1=>prs p i++rowP i (p-(i+1))
def prsL (m:List (List Int)):List (Nat × Nat):=prs (qa1 (.list (.int .i64)) m 0:List Int).length (qa1 (.list (.int .i64)) m 0:List Int).length
abbrev q9m:List Ty:=[.prod tInt tInt,.prod tInts tInts]
def prA (m:List (List Int)) (q:Nat × Nat):qa5 q9m:=(((q.1:Int),(q.2:Int)),(colA m q.1,colA m q.2),())
def w9w (m:List (List Int)):List (qa5 q9m):=(prsL m).map (prA m)
def square (m:List (List Int)):Prop:=0<m.length/\m.length<=1000/\(qa1 (.list (.int .i64)) m 0:List Int).length<=1000/\∀k,k<m.length->(qa1 (.list (.int .i64)) m k:List Int).length=(qa1 (.list (.int .i64)) m 0:List Int).length
def xw3:qz3:=xc8 [tMask] q9m (λx=>square x.1) (λx=>w9w x.1)
def xw4 (m:List (List Int)):Nat->Option Inv
 | 0=>some (Inv.of [9] 1 (λi:Nat=>[(9,.lit (.int .i64 i))]) (λi=>[.cnt (some (prs (qa1 (.list (.int .i64)) m 0:List Int).length i).length)]) (λi=>i<=(qa1 (.list (.int .i64)) m 0:List Int).length) (λi=>(qa1 (.list (.int .i64)) m 0:List Int).length-i))
 | 1=>some ⟨Nat,Nat,[4],1,λi d=>[(4,.lit (.int .i64 (i+1+d)))],λi d=>[.cnt (some ((prs (qa1 (.list (.int .i64)) m 0:List Int).length i).length+d))],λi d=>d<=(qa1 (.list (.int .i64)) m 0:List Int).length-(i+1),λi d=>(qa1 (.list (.int .i64)) m 0:List Int).length-d⟩
 | _=>none
theorem w87 (p:Nat):∀{i j:Nat},i<=j->(prs p i).length<=(prs p j).length
 | i,0,h=>by rw[show i=0 by omega]; exact Nat.le_refl _
 | i,j+1,h=>by
  by_cases e:i=j+1
  ·subst e; exact Nat.le_refl _
  ·have:=w87 p (i:=i) (j:=j) (by omega)
   simp only[prs,List.length_append]; omega
theorem w88 (p:Nat):∀{i j:Nat} (k:Nat),i<=j->k<(prs p i).length->(prs p j)[k]? = (prs p i)[k]?
 | i,0,k,h,_=>by rw[show i=0 by omega]
 | i,j+1,k,h,hk=>by
  by_cases e:i=j+1
  ·subst e; rfl
  ·have h1:=w87 p (i:=i) (j:=j) (by omega)
   rw[prs,List.getElem?_append_left (by omega)]
   exact w88 p k (by omega) hk
theorem x2h {p i d:Nat} (hi:i<p) (hd:d<p-(i+1)):(prs p p)[(prs p i).length+d]? = some (i,i+1+d):=by
 rw[w88 p (i:=i+1) (j:=p) _ (by omega) (by simp[prs,rowP]; omega),prs,List.getElem?_append_right (by omega)]
 simp[rowP,hd]
theorem ww9:q1m Tryz.prog 126 xw3:=by
 refine says (snd (SpecsOk.cons wp7 (SpecsOk.nil _)) []) Tryz.func126 rfl rfl rfl [22] (λx=>xw4 x.1) (λ_=>by kernel_rfl) (by decide) ?_
 rintro⟨m,⟨⟩⟩ l h
 revert m
 intro(m:List (List Int)) (h:square m)
 refine @qd8 _ (((0:Int)<=(0:Int)/\(0:Int)<(↑(List.length m):Int))/\∃(v0:Unit),∃(v1:Nat),Nat.le v1 (List.length (qa1 (Ty.list (Ty.int .i64)) m (0:Nat)))/\(((0:Int)=(↑v1:Int)/\True)/\some (0:Nat)=some (List.length (prs (List.length (qa1 (Ty.list (Ty.int .i64)) m (0:Nat))) v1))/\True)/\∀(v2:Nat),Nat.le v2 (List.length (qa1 (Ty.list (Ty.int .i64)) m (0:Nat)))->(decide ((↑v2:Int)<(↑(List.length (qa1 (Ty.list (Ty.int .i64)) m (0:Nat))):Int))=true->fits .i64 ((↑v2:Int)+(1:Int))/\∃(v5:Nat),∃(v6:Nat),Nat.le v6 (List.length (qa1 (Ty.list (Ty.int .i64)) m (0:Nat))-(v5+(1:Nat)))/\(((↑v2:Int)+(1:Int)=(↑v5:Int)+(1:Int)+(↑v6:Int)/\True)/\some (List.length (prs (List.length (qa1 (Ty.list (Ty.int .i64)) m (0:Nat))) v2))=some (List.length (prs (List.length (qa1 (Ty.list (Ty.int .i64)) m (0:Nat))) v5)+v6)/\True)/\∀(v7:Nat),Nat.le v7 (List.length (qa1 (Ty.list (Ty.int .i64)) m (0:Nat))-(v5+(1:Nat)))->((0:Int)<=(0:Int)/\(0:Int)<(↑(List.length m):Int))/\(decide ((↑v5:Int)+(1:Int)+(↑v7:Int)<(↑(List.length (qa1 (Ty.list (Ty.int .i64)) m (0:Nat))):Int))=true->wp6 m (↑v2:Int)/\wp6 m ((↑v5:Int)+(1:Int)+(↑v7:Int))/\Value.func (Fn.yield l) #[] #[]=Value.func (Fn.yield (qj8.l (q34 [tMask] q9m [(22:Nat)] (m,PUnit.unit) (w9w m) l))) #[] #[]/\(qj8.L (q34 [tMask] q9m [(22:Nat)] (m,PUnit.unit) (w9w m) l))[List.length (prs (List.length (qa1 (Ty.list (Ty.int .i64)) m (0:Nat))) v5)+v7]?=some (((↑v2:Int),(↑v5:Int)+(1:Int)+(↑v7:Int)),(colA m (Int.toNat (↑v2:Int)),colA m (Int.toNat ((↑v5:Int)+(1:Int)+(↑v7:Int)))),())/\(fits .i64 ((↑v5:Int)+(1:Int)+(↑v7:Int)+(1:Int))/\∃(v10:Nat),Nat.le v10 (List.length (qa1 (Ty.list (Ty.int .i64)) m (0:Nat))-(v5+(1:Nat)))/\List.length (qa1 (Ty.list (Ty.int .i64)) m (0:Nat))-v10<List.length (qa1 (Ty.list (Ty.int .i64)) m (0:Nat))-v7/\((↑v5:Int)+(1:Int)+(↑v7:Int)+(1:Int)=(↑v5:Int)+(1:Int)+(↑v10:Int)/\True)/\some (List.length (prs (List.length (qa1 (Ty.list (Ty.int .i64)) m (0:Nat))) v5)+v7+(1:Nat))=some (List.length (prs (List.length (qa1 (Ty.list (Ty.int .i64)) m (0:Nat))) v5)+v10)/\True)/\True)/\(decide ((↑v5:Int)+(1:Int)+(↑v7:Int)<(↑(List.length (qa1 (Ty.list (Ty.int .i64)) m (0:Nat))):Int))=false->fits .i64 ((↑v2:Int)+(1:Int))/\∃(v10:Nat),Nat.le v10 (List.length (qa1 (Ty.list (Ty.int .i64)) m (0:Nat)))/\List.length (qa1 (Ty.list (Ty.int .i64)) m (0:Nat))-v10<List.length (qa1 (Ty.list (Ty.int .i64)) m (0:Nat))-v2/\((↑v2:Int)+(1:Int)=(↑v10:Int)/\True)/\some (List.length (prs (List.length (qa1 (Ty.list (Ty.int .i64)) m (0:Nat))) v5)+v7)=some (List.length (prs (List.length (qa1 (Ty.list (Ty.int .i64)) m (0:Nat))) v10))/\True))/\(decide ((↑v2:Int)<(↑(List.length (qa1 (Ty.list (Ty.int .i64)) m (0:Nat))):Int))=false->List.length (prs (List.length (qa1 (Ty.list (Ty.int .i64)) m (0:Nat))) v2)=List.length (qj8.L (q34 [tMask] q9m [(22:Nat)] (m,PUnit.unit) (w9w m) l)))) (by kernel_rfl) ?_
 obtain⟨h1,h2,h3,h4⟩:=h
 have hrows:∀j:Nat,j<(qa1 (.list (.int .i64)) m 0:List Int).length->wp6 m j:=λj hj=>⟨by omega,h2,λk hk=>by rw[h4 k hk]; omega⟩
 show(0<=(0:Int)/\_)/\_
 simp only[ne_eq,true_and,and_true,eq_self,Bool.not_eq_true',Bool.not_eq_false',decide_eq_true_eq,decide_eq_false_iff_not,Nat.le_eq,Int.not_lt,Int.not_le,Int.reduceEq,not_false_eq_true,Bool.not_eq_eq_eq_not,Bool.not_true,Bool.not_false,Int.ofNat_lt,Int.ofNat_le,Int.toNat_natCast,Int.natCast_nonneg,w2g,beq_iff_eq,bne_iff_ne,beq_eq_false_iff_ne,bne_eq_false_iff_eq,Classical.not_not,List.length_cons,List.length_nil,Nat.zero_add,List.nil_append,true_implies,Nat.lt_add_one,Nat.zero_lt_succ,Int.reduceLE,Int.reduceLT]
 refine⟨by omega,(),0,Nat.zero_le _,⟨rfl,rfl⟩,λi hi=>⟨λhlt=>⟨qa7 (by omega) (by omega),i,0,Nat.zero_le _,⟨by omega,rfl⟩,λd hd=>⟨by omega,λhj=>?_,λhj=>?_⟩⟩,λhge=>?_⟩⟩
 ·have hj2:i+1+d<(qa1 (.list (.int .i64)) m 0:List Int).length:=by omega
  refine⟨hrows i (by omega),by have:=hrows (i+1+d) hj2; rw[show((i+1+d:Nat):Int)=(i:Int)+1+d by omega] at this; exact this,rfl,?_,qa7 (by omega) (by omega),d+1,by omega,by omega,by omega,by rw[Nat.add_assoc]⟩
  have e:((i:Int)+1+(d:Int)).toNat=i+1+d:=by omega
  have e2:((i+1+d:Nat):Int)=(i:Int)+1+d:=by omega
  have e3:(w9w m)[(prs (qa1 (.list (.int .i64)) m 0:List Int).length i).length+d]? = some (prA m (i,i+1+d)):=by
   unfold w9w prsL
   rw[List.getElem?_map,x2h (by omega) (by omega)]
   rfl
  rw[e,<- e2]
  exact e3
 ·refine⟨qa7 (by omega) (by omega),i+1,by omega,by omega,by omega,?_⟩
  have:d=(qa1 (.list (.int .i64)) m 0:List Int).length-(i+1):=by omega
  subst this
  simp[prs,rowP]
 ·obtain rfl:i=(qa1 (.list (.int .i64)) m 0:List Int).length:=by omega
  show _=(w9w m).length
  unfold w9w prsL
  rw[List.length_map]
end Go.Proofs.YtdibdlelmkcccaaGreat.K
