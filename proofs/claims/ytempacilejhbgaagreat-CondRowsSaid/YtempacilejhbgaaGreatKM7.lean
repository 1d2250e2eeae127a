/- Contracts of mask's Back, Rows, Pixels. No condition. -/
import Derived.Test.YtempacilejhbgaaGreatQ19
import Derived.Test.YtempacilejhbgaaGreatV22
import Derived.Test.YtempacilejhbgaaGreatQ25
import Derived.Test.YtempacilejhbgaaGreatV0
import Derived.Test.YtempacilejhbgaaGreatCore
import Derived.Test.YtempacilejhbgaaGreatProg
set_option linter.unusedVariables false
set_option linter.unusedSimpArgs false
namespace Go.Proofs.YtempacilejhbgaaGreat
open Go Go.RowKit Eng
structure x9i (h x:List Int):Prop where
 ok:HOk h
 le:h.length<=x.length
structure AgPre (m:List (List Int)) (x:List Int):Prop where
 fit:q1q m
 len:x.length<=1000
theorem AgPre.ag {m:List (List Int)} {x:List Int} (h:AgPre m x) (he:x49 m x=0):validB m=true/\(qc8 m).1.length<=1000000/\∀i,i<(qc8 m).1.length->x9i (nL (qc8 m).1 i) x/\0<(nL (qc8 m).1 i).length:=by
 have hS:=Shw.of he
 refine⟨hS.val,q1l hS.val,λi hi=>?_⟩
 obtain⟨s,hc⟩:=q1v hS.val (h.fit.n7 hS.val) hi
 have:=hS.msk.pix1
 exact⟨⟨wf9 hS.val hc,by rw[hc.len,hS.len]; exact Nat.le_refl _⟩,by rw[hc.len]; omega⟩
def x1t (a b:List (Ty.den (.int .i64))):Nat->Option Inv
 | 0=>some (Inv.of [13] 0 (λk:Nat=>[(13,.lit (.int .i64 k))]) (λ_=>[]) (λk=>k<=a.length/\∀i,i<k->qh8 (.int .i64) a i=qh8 (.int .i64) b i) (λk=>a.length-k))
 | _=>none
abbrev x5m:qb9:=qg1 true none [.list (.int .i64),.list (.int .i64)] [.bool] (λx=>x.1.length<=1000000) (λx=>(decide (x.1=x.2.1),()))
theorem w39:qd6 Tryz.prog 28 x5m:=by
 refine meets (snd (SpecsOk.nil _)) Tryz.func28 rfl rfl (λx=>x1t x.1 x.2.1) (λ_=>by kernel_rfl) (by decide) ?_
 rintro⟨a,b,⟨⟩⟩ h
 revert a b
 intro(a:List (Ty.den (.int .i64))) (b:List (Ty.den (.int .i64))) (h:a.length<=1000000)
 refine @qd9 _ ((((↑a.length:Int) != (↑b.length:Int))=true->false=decide (a=b))/\(((↑a.length:Int) != (↑b.length:Int))=false->∃(v1:Unit),∃(v2:Nat),(v2<=a.length/\∀(v3:Nat),Nat.le (Nat.succ v3) v2->nI a v3=nI b v3)/\(((0:Int)=(↑v2:Int)/\True)/\True)/\∀(v3:Nat),(v3<=a.length/\∀(v5:Nat),Nat.le (Nat.succ v5) v3->nI a v5=nI b v5)->(decide ((↑v3:Int)<(↑a.length:Int))=true->((0:Int)<=(↑v3:Int)/\(↑v3:Int)<(↑a.length:Int))/\((0:Int)<=(↑v3:Int)/\(↑v3:Int)<(↑b.length:Int))/\((nI a v3 != nI b v3)=true->false=decide (a=b))/\((nI a v3 != nI b v3)=false->fits .i64 ((↑v3:Int)+(1:Int))/\∃(v7:Nat),(v7<=a.length/\∀(v8:Nat),Nat.le (Nat.succ v8) v7->nI a v8=nI b v8)/\a.length-v7<a.length-v3/\((↑v3:Int)+(1:Int)=(↑v7:Int)/\True)/\True))/\(decide ((↑v3:Int)<(↑a.length:Int))=false->true=decide (a=b)))) (by kernel_rfl) ?_
 try simp only[z0,z1,z2,z3,z4,z5,z6,z7,z8,z9,z10,Int.reduceEq,z11,z12,z13,z14,z15,z16,z17,z18,z19,z20,z21,z22,z23,z24,z25,z26,z27,z28,z29,z30,Int.reduceLE,Int.reduceLT,z31,z32,z33,z34,qa3]
 try simp only[qb4,qb5,qc0,z31,z32,z2,z1]
 refine⟨λhl=>?_,λhl=>?_⟩
 ·rw[decide_eq_false]; intro e; subst e; exact hl rfl
 ·refine⟨(),0,⟨Nat.zero_le _,λi hi=>absurd hi (by omega)⟩,rfl,λk ⟨hk,hall⟩=>⟨λhlt=>⟨hlt,by omega,λhne=>?_,λhe=>⟨qa6 (by omega) (by omega),k+1,⟨by omega,λi hi=>?_⟩,by omega,by omega⟩⟩,λhge=>?_⟩⟩
  ·rw[decide_eq_false]; intro e; subst e; first | exact hne rfl | (revert hne; simp)
  ·by_cases e:i=k
   ·subst e; first | exact he | (refine Prod.ext ?_ ?_ <;> simp_all)
   ·exact hall i (by omega)
  ·exact(decide_eq_true (xd1 _ a b (by omega) λi hi=>hall i (by omega))).symm
theorem xu6 {n:Nat} {s:List Int} (h:Named n s):wh5 n s=0:=by
 have h1:xb7 s=true:=q5h.2 λi h0 hi=>h.asc (i-1) i (by omega) hi
 have h2:(s.any λp=>!(inB p 0 (n-1)))=false:=by
  rw[List.any_eq_false]
  intro x hx
  obtain⟨i,hi,rfl⟩:=List.getElem_of_mem hx
  have:=h.at_ i hi
  rw[qg4 s i hi] at this
  rw[inB_iff.2 ⟨this.1,by omega⟩]; simp
 simp[wh5,h1,h2]
open Go Go.RowKit Eng Ls
def q3y (m:List (List Int)):Nat->List Int
 | 0=>[]
 | j+1=>if hlf (qq7 (qc8 m).1 [(j:Int)] (qc8 m).1.length)=true then q3y m j++[(j:Int)] else q3y m j
def blR (m:List (List Int)):List Int × Int:=if validB m=true then(q3y m (nL m 0).length,0) else([],1)
theorem q5s (m:List (List Int)):∀j,(q3y m j).length<=j
 | 0=>Nat.le_refl _
 | j+1=>by
  have:=q5s m j
  rw[q3y]
  split
  ·simp; omega
  ·omega
theorem wq9 {n j:Nat} (h:j<n):Named n [(j:Int)]:=⟨λi hi=>by
 obtain rfl:i=0:=by have:i<1:=hi; omega
 rw[qr2]; omega,λa b hab hb=>by have:b<1:=hb; omega⟩
theorem xu7 {m:List (List Int)} (hv:validB m=true) {j:Nat} (h:j<(nL m 0).length):w3a m [(j:Int)]=0:=by
 unfold w3a
 rw[if_neg (by rw[hv]; decide)]
 exact xu6 (wq9 h)
theorem x1u {m:List (List Int)} (hF:q1q m) (hv:validB m=true) {j:Nat} (h:j<(nL m 0).length):xw4 (qc8 m).1 [(j:Int)]:=⟨q1l hv,λi hi=>by
 obtain⟨s,hc⟩:=q1v hv (hF.n7 hv) hi
 exact ww9 hv hc (wq9 h)⟩
theorem xi0 {m:List (List Int)} (hv:validB m=true) {j:Nat} (h:j<(nL m 0).length):xh6 m [(j:Int)]=!hlf (qq7 (qc8 m).1 [(j:Int)] (qc8 m).1.length):=by
 have e:=xu7 hv h
 unfold xh6
 rw[show ofE m [(j:Int)]=0 from e,show ofQ m [(j:Int)]=_ from if_pos e]
 rfl
theorem xm5 {m:List (List Int)} {j:Nat} (h:hlf (qq7 (qc8 m).1 [(j:Int)] (qc8 m).1.length)=true):q3y m j++[(j:Int)]=q3y m (j+1):=by rw[q3y,if_pos h]
theorem xm6 {m:List (List Int)} {j:Nat} (h:hlf (qq7 (qc8 m).1 [(j:Int)] (qc8 m).1.length)=false):q3y m j=q3y m (j+1):=by rw[q3y,if_neg (by rw[h]; decide)]
theorem x5n {m:List (List Int)} (h:validB m=false):blR m=([],1):=if_neg (by rw[h]; decide)
theorem x5o {m:List (List Int)} (h:validB m=true):blR m=(q3y m (nL m 0).length,0):=if_pos h
def x6j (m:List (List Int)) (s0 s1:Nat):Nat->Option Inv
 | 0=>some (Inv.of [s0,s1] 1 (λk:Nat=>[(s0,.own 0),(s1,.lit (.int .i64 k))]) (λk=>[.vec 3 (.int .i64) (q3y m k)]) (λk=>k<=(nL m 0).length) (λk=>(nL m 0).length-k))
 | _=>none
abbrev sBl:qb9:=qg1 false none [tMask] [tInts,tInt] (λx=>q1q x.1) (λx=>((blR x.1).1,(blR x.1).2,()))
theorem xi1:qd6 Tryz.prog 36 sBl:=by
 refine meets (snd (SpecsOk.cons qy9 (SpecsOk.cons q4m (SpecsOk.cons w69 (SpecsOk.cons q9j (SpecsOk.nil _)))))) Tryz.func36 rfl rfl (λx=>x6j x.1 5 16) (λ_=>by kernel_rfl) (by decide) ?_
 rintro⟨m,⟨⟩⟩ h
 revert m
 intro(m:List (List Int)) (h:q1q m)
 refine @qd9 _ (True/\((!validB m)=true->(blR m).1=[]/\(1:Int)=(blR m).2/\True)/\((!validB m)=false->(validB m=true->q8f m)/\((0:Int)<=(0:Int)/\(0:Int)<(↑m.length:Int))/\∃(v1:Unit),∃(v2:Nat),Nat.le v2 (nL m (0:Nat)).length/\((True/\(0:Int)=(↑v2:Int)/\True)/\q3y m v2=[]/\True)/\∀(v3:Nat),Nat.le v3 (nL m (0:Nat)).length->(decide ((↑v3:Int)<(↑(nL m (0:Nat)).length:Int))=true->xw4 (qc8 m).1 [(↑v3:Int)]/\qr5 ((qq7 (qc8 m).1 [(↑v3:Int)] (qc8 m).1.length).1,(qq7 (qc8 m).1 [(↑v3:Int)] (qc8 m).1.length).2)/\(hlf ((qq7 (qc8 m).1 [(↑v3:Int)] (qc8 m).1.length).1,(qq7 (qc8 m).1 [(↑v3:Int)] (qc8 m).1.length).2)=true->((0:Nat)<List.length [(↑v3:Int)]/\Nat.le ((q3y m v3).length+List.length [(↑v3:Int)]) (1000000:Nat))/\fits .i64 ((↑v3:Int)+(1:Int))/\∃(v7:Nat),Nat.le v7 (nL m (0:Nat)).length/\(nL m (0:Nat)).length-v7<(nL m (0:Nat)).length-v3/\(True/\(↑v3:Int)+(1:Int)=(↑v7:Int)/\True)/\q3y m v3++[(↑v3:Int)]=q3y m v7/\True)/\(hlf ((qq7 (qc8 m).1 [(↑v3:Int)] (qc8 m).1.length).1,(qq7 (qc8 m).1 [(↑v3:Int)] (qc8 m).1.length).2)=false->fits .i64 ((↑v3:Int)+(1:Int))/\∃(v7:Nat),Nat.le v7 (nL m (0:Nat)).length/\(nL m (0:Nat)).length-v7<(nL m (0:Nat)).length-v3/\(True/\(↑v3:Int)+(1:Int)=(↑v7:Int)/\True)/\q3y m v3=q3y m v7/\True))/\(decide ((↑v3:Int)<(↑(nL m (0:Nat)).length:Int))=false->q3y m v3=(blR m).1/\(0:Int)=(blR m).2/\True))) (by kernel_rfl) ?_
 try simp only[z0,z1,z2,z3,z4,z5,z6,z7,z8,z9,z10,Int.reduceEq,z11,z12,z13,z14,z15,z16,z17,z18,z19,z20,z21,z22,z23,z24,z25,z26,z27,z28,z29,z30,Int.reduceLE,Int.reduceLT,z31,z32,z33,z34,qa3]
 try simp only[qb4,qb5,qc0,z31,z32,z2,z1]
 refine⟨λhv=>by rw[x5n hv]; exact⟨rfl,rfl⟩,λhv=>?_⟩
 have hM:=Mk.of hv
 have m1:=hM.rows1
 have m10:=hM.pix10
 refine⟨λhv=>x1a hv,by omega,(),0,Nat.zero_le _,⟨rfl,rfl⟩,λj hj=>⟨λhlt=>?_,λhge=>?_⟩⟩
 ·have hO:=x1u h hv hlt
  have hle:=q5s m j
  exact⟨hO,q3r hO _ (Nat.le_refl _),λhf=>⟨by omega,qa6 (by omega) (by omega),j+1,hlt,by omega,by push_cast; rfl,xm5 hf⟩,λhf=>⟨qa6 (by omega) (by omega),j+1,hlt,by omega,by push_cast; rfl,xm6 hf⟩⟩
 ·obtain rfl:j=(nL m 0).length:=by omega
  rw[x5o hv]; exact⟨rfl,rfl⟩
theorem w8x:qd6 Tryz.prog 37 sBl:=by
 refine meets (snd (SpecsOk.cons q3i (SpecsOk.cons w33 (SpecsOk.nil _)))) Tryz.func37 rfl rfl (λx=>x6j x.1 4 15) (λ_=>by kernel_rfl) (by decide) ?_
 rintro⟨m,⟨⟩⟩ h
 revert m
 intro(m:List (List Int)) (h:q1q m)
 refine @qd9 _ (wm4 m/\((!validB m)=true->(blR m).1=[]/\(1:Int)=(blR m).2/\True)/\((!validB m)=false->((0:Int)<=(0:Int)/\(0:Int)<(↑m.length:Int))/\∃(v1:Unit),∃(v2:Nat),Nat.le v2 (nL m (0:Nat)).length/\((True/\(0:Int)=(↑v2:Int)/\True)/\q3y m v2=[]/\True)/\∀(v3:Nat),Nat.le v3 (nL m (0:Nat)).length->(decide ((↑v3:Int)<(↑(nL m (0:Nat)).length:Int))=true->SafPre m [(↑v3:Int)]/\((!xh6 m [(↑v3:Int)])=true->((0:Nat)<List.length [(↑v3:Int)]/\Nat.le ((q3y m v3).length+List.length [(↑v3:Int)]) (1000000:Nat))/\fits .i64 ((↑v3:Int)+(1:Int))/\∃(v7:Nat),Nat.le v7 (nL m (0:Nat)).length/\(nL m (0:Nat)).length-v7<(nL m (0:Nat)).length-v3/\(True/\(↑v3:Int)+(1:Int)=(↑v7:Int)/\True)/\q3y m v3++[(↑v3:Int)]=q3y m v7/\True)/\((!xh6 m [(↑v3:Int)])=false->fits .i64 ((↑v3:Int)+(1:Int))/\∃(v7:Nat),Nat.le v7 (nL m (0:Nat)).length/\(nL m (0:Nat)).length-v7<(nL m (0:Nat)).length-v3/\(True/\(↑v3:Int)+(1:Int)=(↑v7:Int)/\True)/\q3y m v3=q3y m v7/\True))/\(decide ((↑v3:Int)<(↑(nL m (0:Nat)).length:Int))=false->q3y m v3=(blR m).1/\(0:Int)=(blR m).2/\True))) (by kernel_rfl) ?_
 try simp only[z0,z1,z2,z3,z4,z5,z6,z7,z8,z9,z10,Int.reduceEq,z11,z12,z13,z14,z15,z16,z17,z18,z19,z20,z21,z22,z23,z24,z25,z26,z27,z28,z29,z30,Int.reduceLE,Int.reduceLT,z31,z32,z33,z34,qa3]
 try simp only[qb4,qb5,qc0,z31,z32,z2,z1]
 refine⟨h.fit,λhv=>by rw[x5n hv]; exact⟨rfl,rfl⟩,λhv=>?_⟩
 have hM:=Mk.of hv
 have m1:=hM.rows1
 have m10:=hM.pix10
 refine⟨by omega,(),0,Nat.zero_le _,⟨rfl,rfl⟩,λj hj=>⟨λhlt=>?_,λhge=>?_⟩⟩
 ·have hle:=q5s m j
  rw[xi0 hv hlt]
  refine⟨⟨h,by show 1<=_; omega⟩,λhf=>⟨by omega,qa6 (by omega) (by omega),j+1,hlt,by omega,by push_cast; rfl,xm5 ?_⟩,λhf=>⟨qa6 (by omega) (by omega),j+1,hlt,by omega,by push_cast; rfl,xm6 ?_⟩⟩
  ·simpa using hf
  ·simpa using hf
 ·obtain rfl:j=(nL m 0).length:=by omega
  rw[x5o hv]; exact⟨rfl,rfl⟩
end Go.Proofs.YtempacilejhbgaaGreat
namespace Go.Proofs.YtempacilejhbgaaGreat.K
open Go.RowKit Ls
def inB (n lo hi:Int):Bool:=decide (lo<=n) && decide (n<=hi)
theorem inB_iff {n lo hi:Int}:inB n lo hi=true↔lo<=n/\n<=hi:=by simp[inB]
def rowB (l:List Int):Bool:=inB l.length 1 10 && l.all λn=>inB n (-1) 1
def x2c (m:List (List Int)) (l:List Int):Bool:=decide (l.length=(nthL m 0).length) && rowB l
def validB (m:List (List Int)):Bool:=inB m.length 1 6 && m.all (x2c m)
structure IsMask (m:List (List Int)):Prop where
 rows1:1<=m.length
 rows6:m.length<=6
 pix1:1<=(nthL m 0).length
 pix10:(nthL m 0).length<=10
 each:∀k,k<m.length->(nthL m k).length=(nthL m 0).length
 small:∀k,k<m.length->∀j,j<(nthL m 0).length->-1<=nth (nthL m k) j/\nth (nthL m k) j<=1
theorem xi2 {p:List Int->Bool} {m:List (List Int)} (h:m.all p=true) (k:Nat) (hk:k<m.length):p (nthL m k)=true:=by
 rw[q5u m k hk]; exact List.all_eq_true.1 h _ (List.getElem_mem _)
theorem xu8 {p:Int->Bool} {l:List Int} (h:l.all p=true) (k:Nat) (hk:k<l.length):p (nth l k)=true:=by
 rw[xj3 l k hk]; exact List.all_eq_true.1 h _ (List.getElem_mem _)
theorem IsMask.of {m:List (List Int)} (h:validB m=true):IsMask m:=by
 unfold validB at h
 rw[Bool.and_eq_true,inB_iff] at h
 have hf:=λk hk=>xi2 h.2 k hk
 have h0:=hf 0 (by omega)
 simp only[x2c,rowB,Bool.and_eq_true,decide_eq_true_eq,inB_iff] at hf h0
 exact⟨by omega,by omega,by omega,by omega,λk hk=>(hf k hk).1,λk hk j hj=>by
  have:=xu8 (hf k hk).2.2 j (by rw[(hf k hk).1]; exact hj)
  rwa [inB_iff] at this⟩
theorem x5p:Elt Tryz.prog 24 3 (.int .i64 0) 1 8:=⟨Tryz.underlying24,by kernel_rfl⟩
theorem x2d:Elt Tryz.prog 23 24 (.slice none 0 0) 1 24:=⟨Tryz.underlying23,by kernel_rfl⟩
set_option maxHeartbeats 400000 in
theorem qn8 (n lo hi:Int) (w:World) :
  Calls Tryz.prog 90 #[.int .i64 n,.int .i64 lo,.int .i64 hi] w λe w'=>e=.returned (.bool (inB n lo hi))/\w=w':=by
 by_cases h1:lo<=n
 ·by_cases h2:n<=hi
  ·go_enter Tryz.func90,Tryz.ntmps90
   go_wp2
   go_ret
   exact⟨q92 (by simp[inB,h1,h2]),rfl⟩
  ·go_enter Tryz.func90,Tryz.ntmps90
   go_wp2
   go_ret
   exact⟨q92 (by simp[inB,h1,h2]),rfl⟩
 ·go_enter Tryz.func90,Tryz.ntmps90
  go_wp2
  go_ret
  exact⟨q92 (by simp[inB]; omega),rfl⟩
def FokI (P:Program) (g:Nat) (lb:Array Value) (p:Int->Bool) (w:World):Prop:=
 (∀args W,(callFunc g args).run P W=.ok (.enter g args) W) /\
 ∀(x:Int) (W:World),Below w.heap.size w W->Calls P g (#[.int .i64 x]++lb) W λe W'=>e=.returned (.bool (p x))/\Below W.heap.size W W'
def FokR (P:Program) (g:Nat) (lb:Array Value) (ok:List Int->Prop) (p:List Int->Bool) (w:World):Prop:=
 (∀args W,(callFunc g args).run P W=.ok (.enter g args) W) /\
 ∀(A:Option Addr) (n c:Nat) (zs:List Int) (W:World),ok zs->Below w.heap.size w W->SI W A n c zs->Calls P g (#[.slice A n c]++lb) W λe W'=>e=.returned (.bool (p zs))/\Below W.heap.size W W'
theorem FokI.later {P:Program} {g:Nat} {lb:Array Value} {p:Int->Bool} {w w':World} (h:FokI P g lb p w) (hb:Below w.heap.size w w'):FokI P g lb p w':=
 ⟨h.1,λx W hW=>h.2 x W (step_trans hb hW)⟩
theorem FokR.later {P:Program} {g:Nat} {lb:Array Value} {ok:List Int->Prop} {p:List Int->Bool} {w w':World} (h:FokR P g lb ok p w) (hb:Below w.heap.size w w'):FokR P g lb ok p w':=
 ⟨h.1,λA n c zs W h0 hW hs=>h.2 A n c zs W h0 (step_trans hb hW) hs⟩
def wx2 (p:Int->Bool):List Int->Int
 | []=>-1
 | a :: l=>if p a then 0 else if wx2 p l=-1 then -1 else wx2 p l+1
def wx3 (p:List Int->Bool):List (List Int)->Int
 | []=>-1
 | a :: l=>if p a then 0 else if wx3 p l=-1 then -1 else wx3 p l+1
theorem xu9 (p:Int->Bool) (l:List Int):-1<=wx2 p l:=by
 induction l with
 | nil=>simp[wx2]
 | cons a l ih=>unfold wx2; split <;> (try split) <;> omega
theorem xi3 (p:Int->Bool) (l:List Int) (k:Nat) (h:k<l.length) (h1:∀j,j<k->p (nth l j)=false) (h2:p (nth l k)=true):wx2 p l=k:=by
 induction l generalizing k with
 | nil=>simp at h
 | cons a l ih=>
  cases k with
  | zero=>simp[nth] at h2; simp[wx2,h2]
  | succ k=>
   have h0:p a=false:=by simpa[nth] using h1 0 (by omega)
   have:=ih k (by simpa using h) (λj hj=>by simpa[nth] using h1 (j+1) (by omega)) (by simpa[nth] using h2)
   simp[wx2,h0,this]
theorem w8y (p:Int->Bool) (l:List Int) (h1:∀j,j<l.length->p (nth l j)=false):wx2 p l=-1:=by
 induction l with
 | nil=>rfl
 | cons a l ih=>
  have h0:p a=false:=by simpa[nth] using h1 0 (by simp)
  have:=ih (λj hj=>by simpa[nth] using h1 (j+1) (by simpa using hj))
  simp[wx2,h0,this]
theorem xi4 (p:Int->Bool) (l:List Int):decide (0<=wx2 p l)=l.any p:=by
 induction l with
 | nil=>simp[wx2]
 | cons a l ih=>
  have hg:=xu9 p l
  unfold wx2
  cases ha:p a with
  | true=>simp[ha]
  | false=>
   simp only[List.any_cons,ha,Bool.false_or,<- ih]
   by_cases h:wx2 p l=-1
   ·simp[h]
   ·simp[h]; omega
theorem xv0 (p:List Int->Bool) (l:List (List Int)):-1<=wx3 p l:=by
 induction l with
 | nil=>simp[wx3]
 | cons a l ih=>unfold wx3; split <;> (try split) <;> omega
theorem xi5 (p:List Int->Bool) (l:List (List Int)) (k:Nat) (h:k<l.length) (h1:∀j,j<k->p (nthL l j)=false) (h2:p (nthL l k)=true):wx3 p l=k:=by
 induction l generalizing k with
 | nil=>simp at h
 | cons a l ih=>
  cases k with
  | zero=>simp[nthL] at h2; simp[wx3,h2]
  | succ k=>
   have h0:p a=false:=by simpa[nthL] using h1 0 (by omega)
   have:=ih k (by simpa using h) (λj hj=>by simpa[nthL] using h1 (j+1) (by omega)) (by simpa[nthL] using h2)
   simp[wx3,h0,this]
theorem w8z (p:List Int->Bool) (l:List (List Int)) (h1:∀j,j<l.length->p (nthL l j)=false):wx3 p l=-1:=by
 induction l with
 | nil=>rfl
 | cons a l ih=>
  have h0:p a=false:=by simpa[nthL] using h1 0 (by simp)
  have:=ih (λj hj=>by simpa[nthL] using h1 (j+1) (by simpa using hj))
  simp[wx3,h0,this]
theorem xi6 (p:List Int->Bool) (l:List (List Int)):decide (0<=wx3 p l)=l.any p:=by
 induction l with
 | nil=>simp[wx3]
 | cons a l ih=>
  have hg:=xv0 p l
  unfold wx3
  cases ha:p a with
  | true=>simp[ha]
  | false=>
   simp only[List.any_cons,ha,Bool.false_or,<- ih]
   by_cases h:wx3 p l=-1
   ·simp[h]
   ·simp[h]; omega
set_option maxHeartbeats 400000 in
theorem w4a (A:Option Addr) (n c g:Nat) (lb:Array Value) (p:Int->Bool) (zs:List Int) (w:World)
  (h:SI w A n c zs) (hf:FokI Tryz.prog g lb p w) :
  Calls Tryz.prog 98 #[.slice A n c,.func (.func g) #[] lb] w λe w'=>e=.returned (.int .i64 (wx2 p zs))/\Below w.heap.size w w':=by
 obtain rfl:=h.len
 have hmx:=h.nmax
 have eg:=hf.1
 go_enter Tryz.func98,Tryz.ntmps98
 go_wp2
 go_loopw [5,8] (λ_ i wr=>∃k:Nat,k<=zs.length/\i=.int .i64 k/\Hid (∀j,j<k->p (nth zs j)=false)/\Below w.heap.size w wr) (λ_ i _=>zs.length-(intOf i).toNat)
 case atStart=>exact⟨0,Nat.zero_le _,rfl,λj hj=>absurd hj (Nat.not_lt_zero _),Below.refl _ _⟩
 case round=>
  obtain⟨k,hk,rfl,hno,hb⟩:=hrel
  by_cases hlt:k<zs.length
  ·obtain⟨ad,rfl,hca⟩:=(h.below hb).at_ (by omega)
   have h1:=hca k hlt
   have hcall:=hf.2 (nth zs k) wr hb
   clear hca h hf
   cases hq:p (nth zs k) with
   | true=>
    have Hq:=hidx hq
    rw[hq] at hcall
    clear hq
    go_wp2_with (go_at_fn g; refine hcall.mono ?_; rintro e w1 ⟨rfl,hb1⟩)
    go_ret
    exact⟨q91 (xi3 p zs k hlt hno.out Hq.out).symm,step_trans hb hb1⟩
   | false=>
    have Hq:=hidx hq
    rw[hq] at hcall
    clear hq
    go_wp2_with (go_at_fn g; refine hcall.mono ?_; rintro e w1 ⟨rfl,hb1⟩)
    go_roundw
    case rel=>
     refine⟨k+1,by omega,by go_num,?_,step_trans hb hb1⟩
     intro j hj
     by_cases e:j=k
     ·subst e; exact Hq.out
     ·exact hno.out j (by omega)
    case measure=>simp[intOf]; omega
  ·go_wp2
   go_ret
   exact⟨q91 (w8y p zs (λj hj=>hno.out j (by omega))).symm,hb⟩
set_option maxHeartbeats 400000 in
theorem w4b (A:Option Addr) (n c g:Nat) (lb:Array Value) (ok:List Int->Prop) (p:List Int->Bool) (zs:List (List Int)) (w:World)
  (h:SM w A n c zs) (hok:∀l∈zs,ok l) (hf:FokR Tryz.prog g lb ok p w) :
  Calls Tryz.prog 78 #[.slice A n c,.func (.func g) #[] lb] w λe w'=>e=.returned (.int .i64 (wx3 p zs))/\Below w.heap.size w w':=by
 obtain rfl:=h.len
 have hmx:=h.nmax
 have eg:=hf.1
 have hok':Hid (∀k,k<zs.length->ok (nthL zs k)):=λk hk=>by rw[q5u _ _ hk]; exact hok _ (List.getElem_mem _)
 clear hok
 go_enter Tryz.func78,Tryz.ntmps78
 go_wp2
 go_loopw [5,8] (λ_ i wr=>∃k:Nat,k<=zs.length/\i=.int .i64 k/\Hid (∀j,j<k->p (nthL zs j)=false)/\Below w.heap.size w wr) (λ_ i _=>zs.length-(intOf i).toNat)
 case atStart=>exact⟨0,Nat.zero_le _,rfl,λj hj=>absurd hj (Nat.not_lt_zero _),Below.refl _ _⟩
 case round=>
  obtain⟨k,hk,rfl,hno,hb⟩:=hrel
  by_cases hlt:k<zs.length
  ·obtain⟨ad,rfl,hca⟩:=(h.below hb).at_ (by omega)
   obtain⟨A1,c1,h1,h2⟩:=hca k hlt
   have hcall:=hf.2 A1 _ c1 (nthL zs k) wr (hok'.out k hlt) hb h2
   clear hca h hf h2
   cases hq:p (nthL zs k) with
   | true=>
    have Hq:=hidx hq
    rw[hq] at hcall
    clear hq
    go_wp2_with (go_at_fn g; refine hcall.mono ?_; rintro e w1 ⟨rfl,hb1⟩)
    go_ret
    exact⟨q91 (xi5 p zs k hlt hno.out Hq.out).symm,step_trans hb hb1⟩
   | false=>
    have Hq:=hidx hq
    rw[hq] at hcall
    clear hq
    go_wp2_with (go_at_fn g; refine hcall.mono ?_; rintro e w1 ⟨rfl,hb1⟩)
    go_roundw
    case rel=>
     refine⟨k+1,by omega,by go_num,?_,step_trans hb hb1⟩
     intro j hj
     by_cases e:j=k
     ·subst e; exact Hq.out
     ·exact hno.out j (by omega)
    case measure=>simp[intOf]; omega
  ·go_wp2
   go_ret
   exact⟨q91 (w8z p zs (λj hj=>hno.out j (by omega))).symm,hb⟩
theorem wg8 (A:Option Addr) (n c g:Nat) (lb:Array Value) (p:Int->Bool) (zs:List Int) (w:World)
  (h:SI w A n c zs) (hf:FokI Tryz.prog g lb p w) :
  Calls Tryz.prog 55 #[.slice A n c,.func (.func g) #[] lb] w λe w'=>e=.returned (.bool (zs.any p))/\Below w.heap.size w w':=by
 rw[<- xi4]
 go_enter Tryz.func55,Tryz.ntmps55
 go_wp2_with (go_at_call 98; refine(w4a A n c g lb p zs w h hf).mono ?_; rintro e w1 ⟨rfl,hb1⟩)
 go_ret
 exact⟨rfl,hb1⟩
theorem wg9 (A:Option Addr) (n c g:Nat) (lb:Array Value) (ok:List Int->Prop) (p:List Int->Bool) (zs:List (List Int)) (w:World)
  (h:SM w A n c zs) (hok:∀l∈zs,ok l) (hf:FokR Tryz.prog g lb ok p w) :
  Calls Tryz.prog 83 #[.slice A n c,.func (.func g) #[] lb] w λe w'=>e=.returned (.bool (zs.any p))/\Below w.heap.size w w':=by
 rw[<- xi6]
 have hok':=hidx hok
 clear hok
 go_enter Tryz.func83,Tryz.ntmps83
 go_wp2_with (go_at_call 78; refine(w4b A n c g lb ok p zs w h hok'.out hf).mono ?_; rintro e w1 ⟨rfl,hb1⟩)
 go_ret
 exact⟨rfl,hb1⟩
theorem w80 {α:Type} (p:α->Bool) (l:List α):(!l.any λx=>!p x)=l.all p:=by
 induction l with
 | nil=>rfl
 | cons a l ih=>simp only[List.any_cons,List.all_cons,Bool.not_or,Bool.not_not,<- ih]
set_option maxHeartbeats 400000 in
theorem xi7 (B g:Nat) (lb:Array Value) (p:Int->Bool) (w:World) (hB:w.cell? ⟨B,0,none⟩=some (.func (.func g) #[] lb)) (hf:FokI Tryz.prog g lb p w) :
  FokI Tryz.prog 151 #[.pointer (some ⟨B,0,none⟩)] (λx=>!p x) w:=by
 refine⟨(enters_of Tryz.func151 (by kernel_rfl) rfl),λx W hW=>?_⟩
 have hc:=Below.cell_of hW hB
 have hcall:=hf.2 x W hW
 have eg:=hf.1
 clear hB hf
 go_enter Tryz.func151,Tryz.ntmps151
 go_wp2_with (go_at_fn g; refine hcall.mono ?_; rintro e w1 ⟨rfl,hb1⟩)
 go_ret
 exact⟨rfl,hb1⟩
set_option maxHeartbeats 400000 in
theorem x9j (A:Option Addr) (n c g:Nat) (lb:Array Value) (p:Int->Bool) (zs:List Int) (w:World)
  (h:SI w A n c zs) (hf:FokI Tryz.prog g lb p w) :
  Calls Tryz.prog 123 #[.slice A n c,.func (.func g) #[] lb] w λe w'=>e=.returned (.bool (zs.all p))/\Below w.heap.size w w':=by
 rw[<- w80]
 have hb0:∀o,Below w.heap.size w (w.alloc o):=λo=>(Below.refl _ w).alloc (Nat.le_refl _) o
 have hcl:=λo hc=>xi7 w.heap.size g lb p (w.alloc o) hc (hf.later (hb0 o))
 go_enter Tryz.func123,Tryz.ntmps123
 go_wp2_with (go_at_call 55; refine(wg8 A n c _ _ _ zs _ (h.below (hb0 _)) (hcl _ (by simp))).mono ?_; rintro e w1 ⟨rfl,hb1⟩)
 go_ret
 exact⟨rfl,step_trans (hb0 _) hb1⟩
set_option maxHeartbeats 400000 in
theorem xi8 (B g:Nat) (lb:Array Value) (ok:List Int->Prop) (p:List Int->Bool) (w:World) (hB:w.cell? ⟨B,0,none⟩=some (.func (.func g) #[] lb)) (hf:FokR Tryz.prog g lb ok p w) :
  FokR Tryz.prog 122 #[.pointer (some ⟨B,0,none⟩)] ok (λx=>!p x) w:=by
 refine⟨(enters_of Tryz.func122 (by kernel_rfl) rfl),λA n c zs W hok hW hs=>?_⟩
 have hc:=Below.cell_of hW hB
 have hcall:=hf.2 A n c zs W hok hW hs
 have eg:=hf.1
 clear hB hf hok
 go_enter Tryz.func122,Tryz.ntmps122
 go_wp2_with (go_at_fn g; refine hcall.mono ?_; rintro e w1 ⟨rfl,hb1⟩)
 go_ret
 exact⟨rfl,hb1⟩
set_option maxHeartbeats 400000 in
theorem x9k (A:Option Addr) (n c g:Nat) (lb:Array Value) (ok:List Int->Prop) (p:List Int->Bool) (zs:List (List Int)) (w:World)
  (h:SM w A n c zs) (hok:∀l∈zs,ok l) (hf:FokR Tryz.prog g lb ok p w) :
  Calls Tryz.prog 91 #[.slice A n c,.func (.func g) #[] lb] w λe w'=>e=.returned (.bool (zs.all p))/\Below w.heap.size w w':=by
 rw[<- w80]
 have hok':=hidx hok
 clear hok
 have hb0:∀o,Below w.heap.size w (w.alloc o):=λo=>(Below.refl _ w).alloc (Nat.le_refl _) o
 have hcl:=λo hc=>xi8 w.heap.size g lb ok p (w.alloc o) hc (hf.later (hb0 o))
 go_enter Tryz.func91,Tryz.ntmps91
 go_wp2_with (go_at_call 83; refine(wg9 A n c _ _ ok _ zs _ (h.below (hb0 _)) hok'.out (hcl _ (by simp))).mono ?_; rintro e w1 ⟨rfl,hb1⟩)
 go_ret
 exact⟨rfl,step_trans (hb0 _) hb1⟩
theorem xv1 (w:World):FokI Tryz.prog 124 #[] (λn=>inB n (-1) 1) w:=by
 refine⟨(enters_of Tryz.func124 (by kernel_rfl) rfl),λx W _=>?_⟩
 go_enter Tryz.func124,Tryz.ntmps124
 go_wp2_with (go_at_call 90; refine(qn8 _ _ _ _).mono ?_; rintro e w1 ⟨rfl,rfl⟩)
 go_ret
 exact⟨rfl,Below.refl _ _⟩
set_option maxHeartbeats 400000 in
theorem xv2 (A:Option Addr) (n c:Nat) (zs:List Int) (w:World) (h:SI w A n c zs) :
  Calls Tryz.prog 93 #[.slice A n c] w λe w'=>e=.returned (.bool (rowB zs))/\Below w.heap.size w w':=by
 have hl:=hidx h.len
 unfold rowB
 rw[hl.out]
 cases hq:inB n 1 10 with
 | true=>
  go_enter Tryz.func93,Tryz.ntmps93
  go_wp2_with (first | (go_at_call 90; refine(qn8 _ _ _ _).mono ?_; rintro e w1 ⟨rfl,rfl⟩) | (go_at_call 123; refine(x9j A n c _ _ _ zs _ h (xv1 _)).mono ?_; rintro e w1 ⟨rfl,hb1⟩))
  go_ret
  exact⟨by simp,hb1⟩
 | false=>
  go_enter Tryz.func93,Tryz.ntmps93
  go_wp2_with (first | (go_at_call 90; refine(qn8 _ _ _ _).mono ?_; rintro e w1 ⟨rfl,rfl⟩))
  go_ret
  exact⟨by simp,Below.refl _ _⟩
set_option maxHeartbeats 400000 in
theorem w81 (B:Nat) (A:Option Addr) (n c:Nat) (m:List (List Int)) (w:World) (hB:w.cell? ⟨B,0,none⟩=some (.slice A n c)) (hm:SM w A n c m) (hn:0<n) :
  FokR Tryz.prog 92 #[.pointer (some ⟨B,0,none⟩)] (λ_=>True) (x2c m) w:=by
 refine⟨(enters_of Tryz.func92 (by kernel_rfl) rfl),λA1 n1 c1 zs W _ hW hs=>?_⟩
 have hc:=Below.cell_of hW hB
 obtain⟨ad,rfl,hca⟩:=(hm.below hW).at_ hn
 obtain⟨A2,c2,h1,h2⟩:=hca 0 hn
 rw[add_zero] at h1
 have hl:=hidx hs.len
 unfold x2c
 rw[hl.out]
 have hmx:=h2.nmax
 have hmx1:=hs.nmax
 clear hca h2 hm hB
 by_cases hq:(n1:Int)=((nthL m 0).length:Int)
 ·have hq1:n1=(nthL m 0).length:=by omega
  have hq2:=hidx hq1
  clear hq1
  go_enter Tryz.func92,Tryz.ntmps92
  go_wp2_with (go_at_call 93; refine(xv2 _ _ _ _ _ hs).mono ?_; rintro e w1 ⟨rfl,hb1⟩)
  go_ret
  exact⟨by simp[hq2.out],hb1⟩
 ·have hq2:(decide (n1=(nthL m 0).length))=false:=by simp; omega
  have hq3:=hidx hq2
  clear hq2
  go_enter Tryz.func92,Tryz.ntmps92
  go_wp2
  go_ret
  exact⟨by simp[hq3.out],Below.refl _ _⟩
set_option maxHeartbeats 400000 in
theorem q3v (A:Option Addr) (n c:Nat) (m:List (List Int)) (w:World) (h:SM w A n c m) :
  Calls Tryz.prog 49 #[.slice A n c] w λe w'=>e=.returned (.bool (validB m))/\Below w.heap.size w w':=by
 have hl:=hidx h.len
 unfold validB
 rw[hl.out]
 have hb0:∀o,Below w.heap.size w (w.alloc o):=λo=>(Below.refl _ w).alloc (Nat.le_refl _) o
 cases hq:inB n 1 6 with
 | true=>
  have hn:0<n:=by simp[inB] at hq; omega
  have hcl:=λo hc=>w81 w.heap.size A n c m (w.alloc o) hc (h.below (hb0 o)) hn
  go_enter Tryz.func49,Tryz.ntmps49
  go_wp2_with (first | (go_at_call 90; refine(qn8 _ _ _ _).mono ?_; rintro e w1 ⟨rfl,rfl⟩) | (go_at_call 91; refine(x9k A n c _ _ (λ_=>True) _ m _ (h.below (hb0 _)) (λ_ _=>trivial) (hcl _ (by simp))).mono ?_; rintro e w1 ⟨rfl,hb1⟩))
  go_ret
  exact⟨by simp,step_trans (hb0 _) hb1⟩
 | false=>
  go_enter Tryz.func49,Tryz.ntmps49
  go_wp2_with (first | (go_at_call 90; refine(qn8 _ _ _ _).mono ?_; rintro e w1 ⟨rfl,rfl⟩))
  go_ret
  exact⟨by simp,hb0 _⟩
def Bd (K:Int) (l:List Int):Prop:=∀k,k<l.length->-K<=nth l k/\nth l k<=K
theorem Bd.cons {K a:Int} {l:List Int} (h:Bd K (a :: l)):(-K<=a/\a<=K)/\Bd K l:=
 ⟨by simpa[nth] using h 0 (by simp),λk hk=>by simpa[nth] using h (k+1) (by simpa using hk)⟩
end Go.Proofs.YtempacilejhbgaaGreat.K
