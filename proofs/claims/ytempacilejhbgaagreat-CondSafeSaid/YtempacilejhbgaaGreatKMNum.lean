/- Sums of products of bounded integers: the sum that wraps is the sum. No program in sight. No condition. -/
import Derived.Test.YtempacilejhbgaaGreatQ15
import Derived.Test.YtempacilejhbgaaGreatQ18
import Derived.Test.YtempacilejhbgaaGreatTys
import Derived.Test.YtempacilejhbgaaGreatEng3
import Derived.Test.YtempacilejhbgaaGreatV0
import Derived.Test.YtempacilejhbgaaGreatCore
import Derived.Test.YtempacilejhbgaaGreatProg
set_option linter.unusedVariables false
set_option linter.unusedSimpArgs false
namespace Go.Proofs.YtempacilejhbgaaGreat
open Go Go.RowKit Eng
def x0n:List (List Int):=[[1,1,0],[0,1,1]]
def x6y (l:List (List Int)) (k:Nat):Nat->Int × Int
 | 0=>(0,1)
 | i+1=>q5x (x6y l k i) (ofR (q08 (szV (nL l i)) ((w9m (nL l i)).take k)) (szL (nL l i)))
theorem w0a (l:List (List Int)) (k:Nat):∀n,qi2 l k n=x6y l k n
 | 0=>rfl
 | n+1=>by
  rw[qi2,x6y,w0a l k n]
  unfold shR
  rw[q38]
theorem w9y:grQ x0n 1=(1,3)/\wr1 x0n 1 0=0/\qs0 x0n=(1,0):=by
 have hc:(qc8 x0n).1=[[1,-1,1]]:=by decide +kernel
 have hv:validB x0n=true:=by decide
 have hk:wr1 x0n 1 0=0:=by decide
 refine⟨?_,hk,?_⟩
 ·unfold grQ
  rw[if_pos hk,hc,w0a]
  decide +kernel
 ·unfold qs0 ordL
  rw[if_pos hv,hc]
  show(((ordF [[1,-1,1]] 3 0:Nat):Int),(0:Int))=(1,0)
  simp only[ordF,w0a]
  decide +kernel
theorem xr4:w5m [[1,1,0],[0,1,1]]:=xm2 λ_=>by show 3<=7; decide
abbrev yd5:qb9:=qf6 true none [] [.bool] (λ_=>True) (λ_=>(true,()))
theorem w9z:qd4 Tryz.prog 10 yd5:=by
 refine meets (snd (SpecsOk.cons wy4 (SpecsOk.cons q7q (SpecsOk.nil _)))) Tryz.func10 rfl rfl (λ_ _=>none) (λ_=>by kernel_rfl) (by decide) ?_
 rintro⟨⟩ -
 refine @qd7 _ (w5m [[(1:Int),(1:Int),(0:Int)],[(0:Int),(1:Int),(1:Int)]]/\w5m [[(1:Int),(1:Int),(0:Int)],[(0:Int),(1:Int),(1:Int)]]/\(((0:Int)==(0:Int))=true->(((1:Int)==(1:Int) && (3:Int)==(3:Int))=true->(((0:Int)==(0:Int))=true->((qs0 [[(1:Int),(1:Int),(0:Int)],[(0:Int),(1:Int),(1:Int)]]).1==(1:Int))=true)/\(((0:Int)==(0:Int))=false->false=true))/\(((1:Int)==(1:Int) && (3:Int)==(3:Int))=false->false=true))/\(((0:Int)==(0:Int))=false->false=true)) (by kernel_rfl) ?_
 try simp only[z0,z1,z2,z3,z4,z5,z6,z7,z8,z9,z10,Int.reduceEq,z11,z12,z13,z14,z15,z16,z17,z18,z19,z20,z21,z22,z23,z24,z25,z26,z27,z28,z29,z30,Int.reduceLE,Int.reduceLT,z31,z32,z33,z34,qa1]
 try simp only[qb3,qb4,qc0,z31,z32,z2,z1]
 have ho:(qs0 [[1,1,0],[0,1,1]]).1=1:=congrArg Prod.fst w9y.2.2
 exact⟨xr4,xr4,⟨λ_=>⟨ho,λq=>absurd trivial q⟩,λq=>by cases q⟩,λq=>absurd trivial q⟩
theorem xz1 {m:List (List Int)} (h:w5n m=true) (hv:validB m=true):(nL m 0).length<=7:=by
 unfold w5n at h
 rw[Bool.and_eq_true,Bool.not_eq_true',List.any_eq_false] at h
 have hM:=Mk.of hv
 have h1:=h.1 (nL m 0) (qk5 m 0 (by have:=hM.rows1; omega))
 have h2:=hM.pix10
 unfold xx3 at h1
 simp at h1
 omega
theorem q8c {m:List (List Int)} {p:List Int} (hv:validB m=true) (h:q9f m p=0):Named (nL m 0).length p:=by
 unfold q9f at h
 rw[if_neg (by rw[hv]; decide)] at h
 exact Named.of h
theorem xz2 {m:List (List Int)} {p:List Int} (h:q9f m p=0):validB m=true:=by
 unfold q9f at h
 split at h
 ·cases h
 ·rename_i q
  cases e:validB m with
  | true=>rfl
  | false=>exact absurd e q
theorem x6z {m:List (List Int)} {p:List Int} (hv:validB m=true) (h7:(nL m 0).length<=7) (hp:p.length<=1000000):w8h m p:=
 ⟨hp,λhv=>xy4 hv,λhe=>⟨q0c hv,λi hi=>by
  obtain⟨s,hc⟩:=qs2 hv h7 hi
  exact q42 hv hc (q8c hv he)⟩⟩
theorem x3f {m:List (List Int)} {p:List Int} (h7:validB m=true->(nL m 0).length<=7) (hp:p.length<=1000000):w8h m p:=
 ⟨hp,λhv=>xy4 hv,λhe=>(x6z (xz2 he) (h7 (xz2 he)) hp).ok he⟩
def wu4 (m:List (List Int)) (p:List Int):Bool:=decide (ofE m p=0) && !hlf (ofQ m p)
structure SafPre (m:List (List Int)) (p:List Int):Prop where
 fit:wu3 m
 len:p.length<=1000
theorem SafPre.lil {m:List (List Int)} {p:List Int} (h:SafPre m p) (he:ofE m p=0):qr5 (ofQ m p):=by
 have hv:=xz2 he
 rw[show ofQ m p=qq7 (qc8 m).1 p (qc8 m).1.length from if_pos he]
 exact q0a ⟨q0c hv,λi hi=>by
  obtain⟨s,hc⟩:=qs2 hv (h.fit.n7 hv) hi
  exact q42 hv hc (q8c hv he)⟩ _ (Nat.le_refl _)
abbrev x78:qb9:=qf6 true none [tMask,tInts] [.bool,tInt] (λx=>SafPre x.1 x.2.1) (λx=>(wu4 x.1 x.2.1,ofE x.1 x.2.1,()))
theorem w49:qd4 Tryz.prog 12 x78:=by
 refine meets (snd (SpecsOk.cons w9r (SpecsOk.cons q8b (SpecsOk.nil _)))) Tryz.func12 rfl rfl (λ_ _=>none) (λ_=>by kernel_rfl) (by decide) ?_
 rintro⟨m,p,⟨⟩⟩ h
 revert m p
 intro(m:List (List Int)) (p:List Int) (h:SafPre m p)
 refine @qd7 _ (let Q0:=((ofQ m p).1,(ofQ m p).2); w9q m p/\((ofE m p==(0:Int))=true->qr5 Q0/\(!hlf Q0)=wu4 m p/\ofE m p=ofE m p/\True)/\((ofE m p==(0:Int))=false->false=wu4 m p/\ofE m p=ofE m p/\True)) (by kernel_rfl) ?_
 try simp only[z0,z1,z2,z3,z4,z5,z6,z7,z8,z9,z10,Int.reduceEq,z11,z12,z13,z14,z15,z16,z17,z18,z19,z20,z21,z22,z23,z24,z25,z26,z27,z28,z29,z30,Int.reduceLE,Int.reduceLT,z31,z32,z33,z34,qa1]
 try simp only[qb3,qb4,qc0,z31,z32,z2,z1]
 refine⟨⟨h.fit,h.len⟩,λhe=>⟨h.lil he,?_⟩,λhe=>?_⟩
 ·unfold wu4; rw[decide_eq_true he,Bool.true_and]; first | rfl | exact(Bool.not_not _).symm
 ·unfold wu4; rw[decide_eq_false he]; rfl
theorem w90:qd4 Tryz.prog 11 x78:=by
 refine meets (snd (SpecsOk.cons w4u (SpecsOk.cons q9u (SpecsOk.nil _)))) Tryz.func11 rfl rfl (λ_ _=>none) (λ_=>by kernel_rfl) (by decide) ?_
 rintro⟨m,p,⟨⟩⟩ h
 revert m p
 intro(m:List (List Int)) (p:List Int) (h:SafPre m p)
 refine @qd7 _ (let Q0:=((ofQ m p).1,(ofQ m p).2); w8h m p/\((ofE m p==(0:Int))=true->qr5 Q0/\(!hlf Q0)=wu4 m p/\ofE m p=ofE m p/\True)/\((ofE m p==(0:Int))=false->false=wu4 m p/\ofE m p=ofE m p/\True)) (by kernel_rfl) ?_
 try simp only[z0,z1,z2,z3,z4,z5,z6,z7,z8,z9,z10,Int.reduceEq,z11,z12,z13,z14,z15,z16,z17,z18,z19,z20,z21,z22,z23,z24,z25,z26,z27,z28,z29,z30,Int.reduceLE,Int.reduceLT,z31,z32,z33,z34,qa1]
 try simp only[qb3,qb4,qc0,z31,z32,z2,z1]
 refine⟨x3f h.fit.n7 (by have:=h.len; omega),λhe=>⟨h.lil he,?_⟩,λhe=>?_⟩
 ·unfold wu4; rw[decide_eq_true he,Bool.true_and]; first | rfl | exact(Bool.not_not _).symm
 ·unfold wu4; rw[decide_eq_false he]; rfl
def x3g (l:List (List Int)) (n:Nat):Nat->Option Inv
 | 0=>some (Inv.of [15] 0 (λk:Nat=>[(15,.lit (.int .i64 k))]) (λ_=>[]) (λk=>wr5 l n k) (λk=>n-k))
 | _=>none
abbrev x60:qb9:=qf6 true none [tMask] [tInt,tInt] (λx=>wu3 x.1) (λx=>((qs0 x.1).1,(qs0 x.1).2,()))
theorem w5a:qd4 Tryz.prog 14 x60:=by
 refine meets (snd (SpecsOk.cons we8 (SpecsOk.cons w9x (SpecsOk.cons q8b (SpecsOk.nil _))))) Tryz.func14 rfl rfl (λx=>x3g (qc8 x.1).1 (nL x.1 0).length) (λ_=>by kernel_rfl) (by decide) ?_
 rintro⟨m,⟨⟩⟩ h
 revert m
 intro(m:List (List Int)) (h:wu3 m)
 refine @qd7 _ (w7u m/\((!validB m)=true->(0:Int)=(qs0 m).1/\(1:Int)=(qs0 m).2/\True)/\((!validB m)=false->((0:Int)<=(0:Int)/\(0:Int)<(↑m.length:Int))/\∃(v1:Unit),∃(v2:Nat),wr5 (qc8 m).1 (nL m (0:Nat)).length v2/\(((0:Int)=(↑v2:Int)/\True)/\True)/\∀(v3:Nat),wr5 (qc8 m).1 (nL m (0:Nat)).length v3->(decide ((↑v3:Int)<(↑(nL m (0:Nat)).length:Int))=true->fits .i64 ((↑v3:Int)+(1:Int))/\w9w m ((↑v3:Int)+(1:Int))/\qr5 ((whR m ((↑v3:Int)+(1:Int))).1.1,(whR m ((↑v3:Int)+(1:Int))).1.2)/\((!!hlf ((whR m ((↑v3:Int)+(1:Int))).1.1,(whR m ((↑v3:Int)+(1:Int))).1.2))=true->(↑v3:Int)=(qs0 m).1/\(0:Int)=(qs0 m).2/\True)/\((!!hlf ((whR m ((↑v3:Int)+(1:Int))).1.1,(whR m ((↑v3:Int)+(1:Int))).1.2))=false->fits .i64 ((↑v3:Int)+(1:Int))/\∃(v7:Nat),wr5 (qc8 m).1 (nL m (0:Nat)).length v7/\(nL m (0:Nat)).length-v7<(nL m (0:Nat)).length-v3/\((↑v3:Int)+(1:Int)=(↑v7:Int)/\True)/\True))/\(decide ((↑v3:Int)<(↑(nL m (0:Nat)).length:Int))=false->((0:Int)<=(0:Int)/\(0:Int)<(↑m.length:Int))/\(↑(nL m (0:Nat)).length:Int)=(qs0 m).1/\(0:Int)=(qs0 m).2/\True))) (by kernel_rfl) ?_
 try simp only[z0,z1,z2,z3,z4,z5,z6,z7,z8,z9,z10,Int.reduceEq,z11,z12,z13,z14,z15,z16,z17,z18,z19,z20,z21,z22,z23,z24,z25,z26,z27,z28,z29,z30,Int.reduceLE,Int.reduceLT,z31,z32,z33,z34,qa1]
 try simp only[qb3,qb4,qc0,z31,z32,z2,z1]
 have hoR:∀k:Nat,ordL m=k->validB m=true->(k:Int)=(qs0 m).1/\0=(qs0 m).2:=λk e hv=>by
  unfold qs0; rw[if_pos hv,e]; exact⟨rfl,rfl⟩
 refine⟨h.fit,λhv=>by unfold qs0; rw[hv]; exact⟨rfl,rfl⟩,λhv=>?_⟩
 have hM:=Mk.of hv
 have m1:=hM.rows1
 have m10:=hM.pix10
 have h7:=h.n7 hv
 refine⟨by omega,(),0,⟨Nat.zero_le _,rfl⟩,rfl,λk hk=>⟨λhlt=>?_,λhge=>?_⟩⟩
 ·have e2:((k:Int)+1)=((k+1:Nat):Int):=by push_cast; rfl
  have hw:=x3d hv h7 (k:=k+1) (by omega)
  have hT:=(xm2 (m:=m) λ_=>h7).shs hv (k+1) (by omega)
  have hl:=qo8 hT _ (Nat.le_refl _)
  rw[Int.toNat_natCast,<- hw] at hl
  have hst:=wg8 (l:=(qc8 m).1) hlt
  rw[<- hw] at hst
  rw[e2]
  refine⟨qa4 (by omega) (by omega),⟨h,hv,by omega,by omega⟩,hl,λhf=>?_,λhf=>⟨qa4 (by omega) (by omega),k+1,⟨by omega,?_⟩,by omega,rfl⟩⟩
  ·refine hoR k ?_ hv
   unfold ordL
   rw[hk.eq,hst,if_neg (by intro q; have hf:hlf (whR m ((k+1:Nat):Int)).1=true:=hf; rw[hf] at q; cases q)]
  ·rw[hk.eq,hst]
   exact if_pos hf
 ·have hle:=hk.le
  have e:k=(nL m 0).length:=by omega
  refine⟨by omega,hoR _ ?_ hv⟩
  unfold ordL
  rw[hk.eq,e,Nat.sub_self]; rfl
theorem isq (x:Int):0<=x*x:=by
 rcases Int.le_total 0 x with h | h
 ·exact Int.mul_nonneg h h
 ·exact Int.mul_nonneg_of_nonpos_of_nonpos h h
def bndTo (N D:Int):Nat->Nat->Nat
 | 0,k=>k
 | f+1,k=>if(2*(k:Int)+1)*(2*(k:Int)+1)*N<D then bndTo N D f (k+1) else k
theorem w22 (N D:Int):∀f k:Nat,(k=0\/(2*((k:Int)-1)+1)*(2*((k:Int)-1)+1)*N<D)->bndTo N D f k<=k+f/\(bndTo N D f k=0\/(2*((bndTo N D f k:Int)-1)+1)*(2*((bndTo N D f k:Int)-1)+1)*N<D)
 | 0,k,h=>⟨Nat.le_refl _,h⟩
 | f+1,k,h=>by
  rw[bndTo]
  split
  ·rename_i h1
   have e:(((k+1:Nat):Int)-1)=k:=by omega
   obtain⟨h2,h3⟩:=w22 N D f (k+1) (.inr (by rw[e]; exact h1))
   exact⟨by omega,h3⟩
  ·exact⟨by omega,h⟩
end Go.Proofs.YtempacilejhbgaaGreat
set_option linter.unusedSimpArgs false
namespace Go.Proofs.YtempacilejhbgaaGreat.K
open Go Go.RowKit Eng Ls
abbrev tInt:Ty:=.int .i64
abbrev tInts:Ty:=.list (.int .i64)
abbrev tMask:Ty:=.list (.list (.int .i64))
def ctx (specs:List (Nat × qb9)) (wr:List Nat):Ctx:={ specs:=specs,tys:=tys,wr:=wr }
theorem snd {specs:List (Nat × qb9)} (h:SpecsOk Tryz.prog specs) (wr:List Nat):Sound Tryz.prog (ctx specs wr):=SpecsOk.sound h q3o (by kernel_rfl)
def colA (m:List (List Int)) (j:Nat):List Int:=m.map λr=>qh4 tInt r j
def rowP (i n:Nat):List (Nat × Nat):=(List.range n).map λd=>(i,i+1+d)
def prs (p:Nat):Nat->List (Nat × Nat)
 | 0=>[]
 | i+1=>prs p i++rowP i (p-(i+1))
def prsL (m:List (List Int)):List (Nat × Nat):=prs (qh4 (.list (.int .i64)) m 0:List Int).length (qh4 (.list (.int .i64)) m 0:List Int).length
open Go.RowKit Ls
def inB (n lo hi:Int):Bool:=decide (lo<=n) && decide (n<=hi)
theorem inB_iff {n lo hi:Int}:inB n lo hi=true↔lo<=n/\n<=hi:=by simp[inB]
def wi6 (s:Int):List Int->List Int->Int
 | a :: l,b :: r=>wi6 (wrap64 (s+wrap64 (a*b))) l r
 | _,_=>s
theorem w91 (A B:List Int) (k:Nat) (h:k<A.length) (h2:k<B.length) (s:Int) :
  wi6 s (A.take (k+1)) (B.take (k+1))=wrap64 (wi6 s (A.take k) (B.take k)+wrap64 (nth A k*nth B k)):=by
 induction A generalizing B k s with
 | nil=>simp at h
 | cons a l ih=>
  cases B with
  | nil=>simp at h2
  | cons b r=>
   cases k with
   | zero=>simp[wi6,nth]
   | succ k=>
    simp only[List.take_succ_cons,wi6]
    have:=ih r k (by simpa using h) (by simpa using h2) (wrap64 (s+wrap64 (a*b)))
    rw[this]; simp[nth]
theorem w92 (A B:List Int) (h:A.length<=B.length) (s:Int):wi6 s A (B.take A.length)=wi6 s A B:=by
 induction A generalizing B s with
 | nil=>cases B <;> simp[wi6]
 | cons a l ih=>
  cases B with
  | nil=>simp[wi6]
  | cons b r=>simp only[List.length_cons,List.take_succ_cons,wi6]; exact ih r (by simpa using h) _
def qo2 (m:List (List Int)) (j:Nat):List Int:=m.map λl=>nth l j
theorem w93 (m:List (List Int)) (j k:Nat) (h:k<m.length):qo2 (m.take (k+1)) j=qo2 (m.take k) j++[nth (nthL m k) j]:=by
 rw[takeL_snoc m k h]; (first | (simp[qo2]; done) | (simp[qo2]; rfl))
theorem wi7 (m:List (List Int)) (j:Nat):(qo2 m j).length=m.length:=by simp[qo2]
def rowB (l:List Int):Bool:=inB l.length 1 10 && l.all λn=>inB n (-1) 1
def xm6 (m:List (List Int)) (l:List Int):Bool:=decide (l.length=(nthL m 0).length) && rowB l
def validB (m:List (List Int)):Bool:=inB m.length 1 6 && m.all (xm6 m)
structure IsMask (m:List (List Int)):Prop where
 rows1:1<=m.length
 rows6:m.length<=6
 pix1:1<=(nthL m 0).length
 pix10:(nthL m 0).length<=10
 each:∀k,k<m.length->(nthL m k).length=(nthL m 0).length
 small:∀k,k<m.length->∀j,j<(nthL m 0).length->-1<=nth (nthL m k) j/\nth (nthL m k) j<=1
theorem w23 {p:List Int->Bool} {m:List (List Int)} (h:m.all p=true) (k:Nat) (hk:k<m.length):p (nthL m k)=true:=by
 rw[wa6 m k hk]; exact List.all_eq_true.1 h _ (List.getElem_mem _)
theorem w0b {p:Int->Bool} {l:List Int} (h:l.all p=true) (k:Nat) (hk:k<l.length):p (nth l k)=true:=by
 rw[w5p l k hk]; exact List.all_eq_true.1 h _ (List.getElem_mem _)
theorem wa0 {p:Int->Bool} {l:List Int} (h:∀k,k<l.length->p (nth l k)=true):l.all p=true:=by
 rw[List.all_eq_true]; intro x hx
 obtain⟨k,hk,rfl⟩:=List.getElem_of_mem hx
 have:=h k hk; rwa [w5p l k hk] at this
theorem w0c {p:List Int->Bool} {l:List (List Int)} (h:∀k,k<l.length->p (nthL l k)=true):l.all p=true:=by
 rw[List.all_eq_true]; intro x hx
 obtain⟨k,hk,rfl⟩:=List.getElem_of_mem hx
 have:=h k hk; rwa [wa6 l k hk] at this
theorem wa1 {p:Int->Bool} {l:List Int} (k:Nat) (hk:k<l.length) (h:p (nth l k)=false):l.all p=false:=by
 cases hq:l.all p with
 | false=>rfl
 | true=>rw[w0b hq k hk] at h; cases h
theorem q8d {p:List Int->Bool} {l:List (List Int)} (k:Nat) (hk:k<l.length) (h:p (nthL l k)=false):l.all p=false:=by
 cases hq:l.all p with
 | false=>rfl
 | true=>rw[w23 hq k hk] at h; cases h
theorem IsMask.of {m:List (List Int)} (h:validB m=true):IsMask m:=by
 unfold validB at h
 rw[Bool.and_eq_true,inB_iff] at h
 have hf:=λk hk=>w23 h.2 k hk
 have h0:=hf 0 (by omega)
 simp only[xm6,rowB,Bool.and_eq_true,decide_eq_true_eq,inB_iff] at hf h0
 exact⟨by omega,by omega,by omega,by omega,λk hk=>(hf k hk).1,λk hk j hj=>by
  have:=w0b (hf k hk).2.2 j (by rw[(hf k hk).1]; exact hj)
  rwa [inB_iff] at this⟩
def qs3 (m:List (List Int)) (l:List Int):Int:=if validB m then(if l.all (λj=>inB j 0 ((nthL m 0).length-1)) then 0 else 5) else 1
theorem w5b {m:List (List Int)} {l:List Int} (h:qs3 m l=0):IsMask m/\∀k,k<l.length->0<=nth l k/\nth l k<(nthL m 0).length:=by
 unfold qs3 at h
 split at h
 ·rename_i hv
  refine⟨IsMask.of hv,?_⟩
  split at h
  ·rename_i h2
   exact λk hk=>by
    have:=w0b h2 k hk
    rw[inB_iff] at this
    omega
  ·omega
 ·omega
theorem x3h {m:List (List Int)} {i j:Int} (h:qs3 m [i,j]=0):IsMask m/\(0<=i/\i<(nthL m 0).length)/\0<=j/\j<(nthL m 0).length:=by
 obtain⟨h1,h2⟩:=w5b h
 exact⟨h1,h2 0 (by simp),h2 1 (by simp)⟩
theorem x61:Elt Tryz.prog 24 3 (.int .i64 0) 1 8:=⟨Tryz.underlying24,by kernel_rfl⟩
set_option maxHeartbeats 400000 in
theorem xz3 (A B:Option Addr) (n m c d:Nat) (xs ys:List Int) (w:World)
  (ha:SI w A n c xs) (hb:SI w B m d ys) (hnm:n<=m) :
  Calls Tryz.prog 68 #[.slice A n c,.slice B m d] w λe w'=>e=.returned (.int .i64 (wi6 0 xs ys))/\∃n,w'=w.drewN n:=by
 have hn:=ha.nmax; have hm:=hb.nmax
 obtain rfl:=ha.len; obtain rfl:=hb.len
 go_enter Tryz.func68,Tryz.ntmps68
 go_wp2
 go_loopw [5,6,9] (λs _ i wr=>∃k:Nat,k<=xs.length/\i=.int .i64 k/\s=.int .i64 (wi6 0 (xs.take k) (ys.take k))/\∃n,wr=w.drewN n) (λ_ _ i _=>xs.length-(intOf i).toNat)
 case atStart=>exact⟨0,Nat.zero_le _,rfl,w5o (by simp[wi6]),0,rfl⟩
 case round=>
  obtain⟨k,hk,rfl,rfl,q,rfl⟩:=hrel
  by_cases hlt:k<xs.length
  ·obtain⟨ad,rfl,hca⟩:=ha.at_ (by omega)
   obtain⟨bd,rfl,hcb⟩:=hb.at_ (by omega)
   have h1:=hca k hlt
   have h2:=hcb k (by omega)
   clear hca hcb ha hb
   have HS:=hidx (w91 xs ys k hlt (by omega) 0)
   have h3:(0:Int)<=k:=by omega
   have h4:(k:Int)<xs.length:=by omega
   have h5:(k:Int)<ys.length:=by omega
   go_wp2
   go_quiet (fail)
   go_wp2
   go_roundw
   case rel=>exact⟨k+1,by omega,by go_num,w5o (by rw[HS.out]),_,rfl⟩
   case measure=>simp[intOf]; omega
  ·go_wp2
   go_ret
   exact⟨q56 (by rw[List.take_of_length_le (by omega),<- w92 xs ys hnm,show k=xs.length by omega]),q,rfl⟩
def dotI:List Int->List Int->Int
 | a :: l,b :: r=>a*b+dotI l r
 | _,_=>0
theorem wa2 {x y K L:Int} (hx1:-K<=x) (hx2:x<=K) (hy1:-L<=y) (hy2:y<=L):-(K*L)<=x*y/\x*y<=K*L:=by
 have hK:0<=K:=by omega
 have hL:0<=L:=by omega
 obtain⟨k,rfl⟩:=Int.eq_ofNat_of_zero_le hK
 obtain⟨l,rfl⟩:=Int.eq_ofNat_of_zero_le hL
 have h1:x.natAbs<=k:=by omega
 have h2:y.natAbs<=l:=by omega
 have h3:(x*y).natAbs<=k*l:=by rw[Int.natAbs_mul]; exact Nat.mul_le_mul h1 h2
 have h4:((k*l:Nat):Int)=(k:Int)*(l:Int):=by simp
 omega
def Bd (K:Int) (l:List Int):Prop:=∀k,k<l.length->-K<=nth l k/\nth l k<=K
theorem Bd.cons {K a:Int} {l:List Int} (h:Bd K (a :: l)):(-K<=a/\a<=K)/\Bd K l:=
 ⟨by simpa[nth] using h 0 (by simp),λk hk=>by simpa[nth] using h (k+1) (by simpa using hk)⟩
theorem xz4 {K L:Int} (a b:List Int) (hKL:0<=K*L) (ha:Bd K a) (hb:Bd L b):-(a.length*(K*L))<=dotI a b/\dotI a b<=a.length*(K*L):=by
 induction a generalizing b with
 | nil=>simp[dotI]
 | cons x l ih=>
  cases b with
  | nil=>
   have:0<=((x :: l).length:Int)*(K*L):=Int.mul_nonneg (by omega) hKL
   simp only[dotI]; omega
  | cons y r=>
   obtain⟨h1,h2⟩:=ha.cons
   obtain⟨h3,h4⟩:=hb.cons
   have h5:=wa2 h1.1 h1.2 h3.1 h3.2
   have h6:=ih r h2 h4
   have h7:((x :: l).length:Int)*(K*L)=(l.length:Int)*(K*L)+K*L:=by
    simp only[List.length_cons]; rw[Int.natCast_add,Int.add_mul]; simp
   simp only[dotI]; rw[h7]; omega
theorem xz5 {K L:Int} (a b:List Int) (s:Int) (hKL:0<=K*L) (ha:Bd K a) (hb:Bd L b)
  (h1:-9223372036854775807+a.length*(K*L)<=s) (h2:s+a.length*(K*L)<=9223372036854775807):wi6 s a b=s+dotI a b:=by
 induction a generalizing b s with
 | nil=>cases b <;> simp[wi6,dotI]
 | cons x l ih=>
  cases b with
  | nil=>simp[wi6,dotI]
  | cons y r=>
   obtain⟨hx,hl⟩:=ha.cons
   obtain⟨hy,hr⟩:=hb.cons
   have h5:=wa2 hx.1 hx.2 hy.1 hy.2
   have h7:((x :: l).length:Int)*(K*L)=(l.length:Int)*(K*L)+K*L:=by
    simp only[List.length_cons]; rw[Int.natCast_add,Int.add_mul]; simp
   have h8:0<=(l.length:Int)*(K*L):=Int.mul_nonneg (by omega) hKL
   rw[h7] at h1 h2
   have e1:wrap64 (x*y)=x*y:=IntWalk.wrap64_in _ ⟨by omega,by omega⟩
   have e2:wrap64 (s+x*y)=s+x*y:=IntWalk.wrap64_in _ ⟨by omega,by omega⟩
   simp only[wi6,dotI]
   rw[e1,e2,ih r _ hl hr (by omega) (by omega)]
   omega
theorem wt8 (a:List Int):0<=dotI a a:=by
 induction a with
 | nil=>simp[dotI]
 | cons x l ih=>
  simp only[dotI]
  have:0<=x*x:=by
   rcases Int.le_total 0 x with h | h
   ·exact Int.mul_nonneg h h
   ·exact Int.mul_nonneg_of_nonpos_of_nonpos h h
  omega
structure Sm (l:List Int):Prop where
 len:l.length<=10
 bd:Bd 1 l
theorem wi8 {a b:List Int} (ha:Sm a) (hb:Sm b):wi6 0 a b=dotI a b/\-10<=dotI a b/\dotI a b<=10:=by
 have h1:=xz4 a b (K:=1) (L:=1) (by omega) ha.bd hb.bd
 have h2:=xz5 a b 0 (K:=1) (L:=1) (by omega) ha.bd hb.bd (by have:=ha.len; omega) (by have:=ha.len; omega)
 have:=ha.len
 omega
theorem q8e {m:List (List Int)} (h:IsMask m) {j:Nat} (hj:j<(nthL m 0).length):Sm (qo2 m j):=by
 refine⟨by rw[wi7]; have:=h.rows6; omega,λk hk=>?_⟩
 rw[wi7] at hk
 have:nth (qo2 m j) k=nth (nthL m k) j:=by
  rw[w5p _ _ (by rw[wi7]; exact hk),wa6 _ _ hk]; simp[qo2]
 rw[this]
 exact h.small k hk j hj
def ratN (n d:Nat):Int:=((n / Nat.gcd n d:Nat):Int)
def ratD (n d:Nat):Int:=((d / Nat.gcd n d:Nat):Int)
def likeD (a b:List Int):Nat:=(dotI a a*dotI b b).toNat
def likeN (a b:List Int):Nat:=(dotI a b*dotI a b).toNat
theorem w94 (x:Int):0<=x*x:=by
 rcases Int.le_total 0 x with h | h
 ·exact Int.mul_nonneg h h
 ·exact Int.mul_nonneg_of_nonpos_of_nonpos h h
theorem q8f (a b:List Int):((likeD a b:Nat):Int)=dotI a a*dotI b b:=by
 unfold likeD; exact Int.toNat_of_nonneg (Int.mul_nonneg (wt8 a) (wt8 b))
theorem q8g (a b:List Int):((likeN a b:Nat):Int)=dotI a b*dotI a b:=by
 unfold likeN; exact Int.toNat_of_nonneg (w94 _)
theorem w24 {a b:List Int} (ha:Sm a) (hb:Sm b):likeD a b<=100:=by
 have h1:=(wi8 ha ha).2
 have h2:=(wi8 hb hb).2
 have h3:=wa2 h1.1 h1.2 h2.1 h2.2
 have:=q8f a b
 omega
theorem wi9 {a b:List Int} (ha:Sm a) (hb:Sm b):likeN a b<=100:=by
 have h1:=(wi8 ha hb).2
 have h3:=wa2 h1.1 h1.2 h1.1 h1.2
 have:=q8g a b
 omega
end Go.Proofs.YtempacilejhbgaaGreat.K
