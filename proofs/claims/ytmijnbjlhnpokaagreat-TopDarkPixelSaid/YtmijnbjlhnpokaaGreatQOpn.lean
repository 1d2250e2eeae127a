/- Lengths of a slice of slices. No condition. -/
import Derived.Test.YtmijnbjlhnpokaaGreatH12
import Derived.Test.YtmijnbjlhnpokaaGreatH1
import Derived.Test.YtmijnbjlhnpokaaGreatV4
import Derived.Test.YtmijnbjlhnpokaaGreatW11
import Derived.Test.YtmijnbjlhnpokaaGreatW17
import Derived.Test.YtmijnbjlhnpokaaGreatW3
import Derived.Test.YtmijnbjlhnpokaaGreatRows
import Derived.Test.YtmijnbjlhnpokaaGreatCore
import Derived.ProofKit
import Derived.OpenShut
import Derived.ShutString
import Derived.ChangeOld
import Derived.Below
import Derived.Deep.Matrix
import Derived.Test.YtmijnbjlhnpokaaGreatV8
set_option linter.unusedVariables false
set_option linter.unusedSimpArgs false
namespace Go.Proofs.YtmijnbjlhnpokaaGreat
open Go Go.RowKit Eng
structure x1w (m:List (List Int)):Prop where
 fit:x37 m
 n7:qa9 m=true->(nL m 0).length<=7
structure yp2 (a:Int × Int):Prop where
 pos:1<=a.2
 n0:0<=a.1
 one:gcdI a.1 a.2=1
theorem LowIs.low {n d:Int} {r:Int × Int} (h:LowIs n d r):yp2 r:=⟨h.pos,h.n0,h.one⟩
def wu8 (h:List Int) (w:(Int × Int) × List Int × List Int) (s:List Int):(Int × Int) × List Int × List Int:=if w.2.1.isEmpty=true then(shR h s,h,s) else if x1r w.1 (shR h s)=true then(shR h s,h,s) else w
def Bef (i j i' j':Nat) (J:Nat):Prop:=(i' < i/\j' < J)\/(i'=i/\j' < j)
structure WhIs (l S:List (List Int)) (i j:Nat) (w:(Int × Int) × List Int × List Int):Prop where
 none:(∀i' j',¬Bef i j i' j' S.length)->w=((0,1),[],[])
 some:(∃i' j',Bef i j i' j' S.length)->∃p q,Bef i j p q S.length/\w=(shR (nL l p) (nL S q),nL l p,nL S q)/\(∀i' j',Bef i j i' j' S.length->leQ (shR (nL l i') (nL S j')) w.1)/\∀i' j',Bef p q i' j' S.length->shR (nL l i') (nL S j')≠w.1
structure WhOk (l S:List (List Int)):Prop where
 sh:∀i,i<l.length->∀j,j<S.length->xf3 (nL l i) (nL S j)
theorem WhOk.ne {l S:List (List Int)} (h:WhOk l S) {i j:Nat} (hi:i<l.length) (hj:j<S.length):(nL l i).isEmpty=false:=by
 have:=(h.sh i hi j hj).ne
 cases e:nL l i with
 | nil=>rw[e] at this; exact absurd rfl this
 | cons a r=>rfl
theorem WhIs.step {l S:List (List Int)} {i j:Nat} {w:(Int × Int) × List Int × List Int} (hO:WhOk l S) (hi:i<l.length) (hj:j<S.length) (h:WhIs l S i j w):WhIs l S i (j+1) (wu8 (nL l i) w (nL S j)):=by
 have bef:∀i' j',Bef i (j+1) i' j' S.length↔Bef i j i' j' S.length\/(i'=i/\j'=j):=λi' j'=>by
  unfold Bef
  constructor <;> intro q <;> omega
 have here:Bef i (j+1) i j S.length:=(bef i j).2 (.inr ⟨rfl,rfl⟩)
 refine⟨λhn=>absurd here (hn i j),λ_=>?_⟩
 by_cases hx:∃i' j',Bef i j i' j' S.length
 ·obtain⟨p,q,h1,h2,h3,h4⟩:=h.some hx
  have hp:p<l.length/\q<S.length:=by unfold Bef at h1; omega
  have hne:=hO.ne hp.1 hp.2
  have lx:=w2u (hO.sh i hi j hj)
  have lw:=w2u (hO.sh p hp.1 q hp.2)
  have hw1:w.1=shR (nL l p) (nL S q):=by rw[h2]
  have hstep:wu8 (nL l i) w (nL S j)=if x1r w.1 (shR (nL l i) (nL S j))=true then(shR (nL l i) (nL S j),nL l i,nL S j) else w:=by
   unfold wu8
   rw[if_neg]
   rw[h2]
   show ¬(nL l p).isEmpty=true
   rw[hne]; decide
  rw[hstep]
  by_cases hl:x1r w.1 (shR (nL l i) (nL S j))=true
  ·rw[if_pos hl]
   have hl':w.1.1*(shR (nL l i) (nL S j)).2<(shR (nL l i) (nL S j)).1*w.1.2:=of_decide_eq_true hl
   refine⟨i,j,here,rfl,λi' j' hb=>?_,λi' j' hb=>?_⟩
   ·rcases(bef i' j').1 hb with hb | ⟨rfl,rfl⟩
    ·have hb':i' < l.length/\j' < S.length:=by unfold Bef at hb; omega
     refine wu6 (w2u (hO.sh i' hb'.1 j' hb'.2)).pos (by rw[hw1]; exact lw.pos) lx.pos (h3 i' j' hb) (Int.le_of_lt hl')
    ·exact q6d _
   ·intro e
    have:=h3 i' j' hb
    rw[e] at this
    exact Int.not_lt.2 this hl'
  ·rw[if_neg hl]
   have hl':leQ (shR (nL l i) (nL S j)) w.1:=Int.not_lt.1 λq=>hl (decide_eq_true q)
   refine⟨p,q,(bef p q).2 (.inl h1),h2,λi' j' hb=>?_,h4⟩
   rcases(bef i' j').1 hb with hb | ⟨rfl,rfl⟩
   ·exact h3 i' j' hb
   ·exact hl'
 ·have hw:=h.none λi' j' q=>hx ⟨i',j',q⟩
  have hstep:wu8 (nL l i) w (nL S j)=(shR (nL l i) (nL S j),nL l i,nL S j):=by
   unfold wu8
   rw[hw]; rfl
  rw[hstep]
  refine⟨i,j,here,rfl,λi' j' hb=>?_,λi' j' hb=>absurd ⟨i',j',hb⟩ hx⟩
  rcases(bef i' j').1 hb with hb | ⟨rfl,rfl⟩
  ·exact absurd ⟨i',j',hb⟩ hx
  ·exact q6d _
theorem WhIs.next {l S:List (List Int)} {i:Nat} {w:(Int × Int) × List Int × List Int} (h:WhIs l S i S.length w):WhIs l S (i+1) 0 w:=by
 have bef:∀i' j',Bef (i+1) 0 i' j' S.length↔Bef i S.length i' j' S.length:=λi' j'=>by
  unfold Bef
  constructor <;> intro q <;> omega
 refine⟨λhn=>h.none λi' j' q=>hn i' j' ((bef i' j').2 q),λ⟨i',j',q⟩=>?_⟩
 obtain⟨p,q,h1,h2,h3,h4⟩:=h.some ⟨i',j',(bef i' j').1 q⟩
 exact⟨p,q,(bef p q).2 h1,h2,λi' j' hb=>h3 i' j' ((bef i' j').1 hb),h4⟩
theorem WhIs.lil {l S:List (List Int)} {i j:Nat} {w:(Int × Int) × List Int × List Int} (hO:WhOk l S) (hi:i<=l.length) (hij:i<l.length\/j=0) (hj:j<=S.length) (h:WhIs l S i j w):q0f w.1:=by
 by_cases hx:∃i' j',Bef i j i' j' S.length
 ·obtain⟨p,q,h1,h2,_,_⟩:=h.some hx
  rw[h2]
  exact q7y (hO.sh p (by unfold Bef at h1; omega) q (by unfold Bef at h1; omega))
 ·rw[h.none λi' j' q=>hx ⟨i',j',q⟩]
  exact w94
theorem xe0 {m:List (List Int)} {p:List Int} (hv:qa9 m=true) (h:w19 m p=0):Named (nL m 0).length p:=by
 unfold w19 at h
 rw[if_neg (by rw[hv]; decide)] at h
 exact Named.of h
theorem yb0 {m:List (List Int)} {p:List Int} (h:w19 m p=0):qa9 m=true:=by
 unfold w19 at h
 split at h
 ·cases h
 ·rename_i q
  cases e:qa9 m with
  | true=>rfl
  | false=>exact absurd e q
structure SafPre (m:List (List Int)) (p:List Int):Prop where
 fit:x1w m
 len:p.length<=1000
theorem SafPre.lil {m:List (List Int)} {p:List Int} (h:SafPre m p) (he:ofE m p=0):q0f (ofQ m p):=by
 have hv:=yb0 he
 rw[show ofQ m p=qz8 (qi1 m).1 p (qi1 m).1.length from if_pos he]
 exact qz9 ⟨q6c hv,λi hi=>by
  obtain⟨s,hc⟩:=wu5 hv (h.fit.n7 hv) hi
  exact x1s hv hc (xe0 hv he)⟩ _ (Nat.le_refl _)
open Go Go.RowKit Eng Ls
structure yp3 (h x:List Int):Prop where
 ok:HOk h
 le:h.length<=x.length
structure AgPre (m:List (List Int)) (x:List Int):Prop where
 fit:x1w m
 len:x.length<=1000
theorem AgPre.ag {m:List (List Int)} {x:List Int} (h:AgPre m x) (he:w2g m x=0):qa9 m=true/\(qi1 m).1.length<=1000000/\∀i,i<(qi1 m).1.length->yp3 (nL (qi1 m).1 i) x/\0<(nL (qi1 m).1 i).length:=by
 have hS:=Shw.of he
 refine⟨hS.val,q6c hS.val,λi hi=>?_⟩
 obtain⟨s,hc⟩:=wu5 hS.val (h.fit.n7 hS.val) hi
 have:=hS.msk.pix1
 exact⟨⟨wi7 hS.val hc,by rw[hc.len,hS.len]; exact Nat.le_refl _⟩,by rw[hc.len]; omega⟩
def q8m (m:List (List Int)):Nat->List Int
 | 0=>[]
 | j+1=>if hlf (qz8 (qi1 m).1 [(j:Int)] (qi1 m).1.length)=true then q8m m j++[(j:Int)] else q8m m j
def blR (m:List (List Int)):List Int × Int:=if qa9 m=true then(q8m m (nL m 0).length,0) else([],1)
theorem wi9 (m:List (List Int)):∀j,(q8m m j).length<=j
 | 0=>Nat.le_refl _
 | j+1=>by
  have:=wi9 m j
  rw[q8m]
  split
  ·simp; omega
  ·omega
theorem xe1 {n j:Nat} (h:j<n):Named n [(j:Int)]:=⟨λi hi=>by
 obtain rfl:i=0:=by have:i<1:=hi; omega
 rw[qs2]; omega,λa b hab hb=>by have:b<1:=hb; omega⟩
theorem xv2 {m:List (List Int)} (hF:x1w m) (hv:qa9 m=true) {j:Nat} (h:j<(nL m 0).length):x2h (qi1 m).1 [(j:Int)]:=⟨q6c hv,λi hi=>by
 obtain⟨s,hc⟩:=wu5 hv (hF.n7 hv) hi
 exact x1s hv hc (xe1 h)⟩
theorem x5s {m:List (List Int)} {j:Nat} (h:hlf (qz8 (qi1 m).1 [(j:Int)] (qi1 m).1.length)=true):q8m m j++[(j:Int)]=q8m m (j+1):=by rw[q8m,if_pos h]
theorem x5t {m:List (List Int)} {j:Nat} (h:hlf (qz8 (qi1 m).1 [(j:Int)] (qi1 m).1.length)=false):q8m m j=q8m m (j+1):=by rw[q8m,if_neg (by rw[h]; decide)]
theorem yp4 {m:List (List Int)} (h:qa9 m=false):blR m=([],1):=if_neg (by rw[h]; decide)
theorem yb1 {m:List (List Int)} (h:qa9 m=true):blR m=(q8m m (nL m 0).length,0):=if_pos h
def yp5 (m:List (List Int)) (s0 s1:Nat):Nat->Option Inv
 | 0=>some (Inv.of [s0,s1] 1 (λk:Nat=>[(s0,.own 0),(s1,.lit (.int .i64 k))]) (λk=>[.vec 3 (.int .i64) (q8m m k)]) (λk=>k<=(nL m 0).length) (λk=>(nL m 0).length-k))
 | _=>none
abbrev sBl:qb7:=qf1 false none [qg0] [qe9,qc8] (λx=>x1w x.1) (λx=>((blR x.1).1,(blR x.1).2,()))
theorem xr6:Meets Tryz.prog 18 sBl:=by
 refine meets (snd (SpecsOk.cons qp4 (SpecsOk.cons q98 (SpecsOk.cons w96 (SpecsOk.cons q99 (SpecsOk.nil _)))))) Tryz.func18 rfl rfl (λx=>yp5 x.1 5 16) (λ_=>by kernel_rfl) (by decide) ?_
 rintro⟨m,⟨⟩⟩ h
 revert m
 intro(m:List (List Int)) (h:x1w m)
 refine @qd1 _ (True/\((!qa9 m)=true->(blR m).1=[]/\(1:Int)=(blR m).2/\True)/\((!qa9 m)=false->(qa9 m=true->q2v m)/\((0:Int)<=(0:Int)/\(0:Int)<(↑m.length:Int))/\∃(v1:Unit),∃(v2:Nat),Nat.le v2 (nL m (0:Nat)).length/\((True/\(0:Int)=(↑v2:Int)/\True)/\q8m m v2=[]/\True)/\∀(v3:Nat),Nat.le v3 (nL m (0:Nat)).length->(decide ((↑v3:Int)<(↑(nL m (0:Nat)).length:Int))=true->x2h (qi1 m).1 [(↑v3:Int)]/\q0f ((qz8 (qi1 m).1 [(↑v3:Int)] (qi1 m).1.length).1,(qz8 (qi1 m).1 [(↑v3:Int)] (qi1 m).1.length).2)/\(hlf ((qz8 (qi1 m).1 [(↑v3:Int)] (qi1 m).1.length).1,(qz8 (qi1 m).1 [(↑v3:Int)] (qi1 m).1.length).2)=true->((0:Nat)<List.length [(↑v3:Int)]/\Nat.le ((q8m m v3).length+List.length [(↑v3:Int)]) (1000000:Nat))/\fits .i64 ((↑v3:Int)+(1:Int))/\∃(v7:Nat),Nat.le v7 (nL m (0:Nat)).length/\(nL m (0:Nat)).length-v7<(nL m (0:Nat)).length-v3/\(True/\(↑v3:Int)+(1:Int)=(↑v7:Int)/\True)/\q8m m v3++[(↑v3:Int)]=q8m m v7/\True)/\(hlf ((qz8 (qi1 m).1 [(↑v3:Int)] (qi1 m).1.length).1,(qz8 (qi1 m).1 [(↑v3:Int)] (qi1 m).1.length).2)=false->fits .i64 ((↑v3:Int)+(1:Int))/\∃(v7:Nat),Nat.le v7 (nL m (0:Nat)).length/\(nL m (0:Nat)).length-v7<(nL m (0:Nat)).length-v3/\(True/\(↑v3:Int)+(1:Int)=(↑v7:Int)/\True)/\q8m m v3=q8m m v7/\True))/\(decide ((↑v3:Int)<(↑(nL m (0:Nat)).length:Int))=false->q8m m v3=(blR m).1/\(0:Int)=(blR m).2/\True))) (by kernel_rfl) ?_
 try simp only[z0,z1,z2,z3,z4,z5,z6,z7,z8,z9,z10,Int.reduceEq,z11,z12,z13,z14,z15,z16,z17,z18,z19,z20,z21,z22,z23,z24,z25,z26,z27,z28,z29,z30,Int.reduceLE,Int.reduceLT,z31,z32,z33,z34,qa1]
 try simp only[qa7,qa8,qb8,z31,z32,z2,z1]
 refine⟨λhv=>by rw[yp4 hv]; exact⟨rfl,rfl⟩,λhv=>?_⟩
 have hM:=Mk.of hv
 have m1:=hM.rows1
 have m10:=hM.pix10
 refine⟨λhv=>xq4 hv,by omega,(),0,Nat.zero_le _,⟨rfl,rfl⟩,λj hj=>⟨λhlt=>?_,λhge=>?_⟩⟩
 ·have hO:=xv2 h hv hlt
  have hle:=wi9 m j
  exact⟨hO,qz9 hO _ (Nat.le_refl _),λhf=>⟨by omega,qb5 (by omega) (by omega),j+1,hlt,by omega,by push_cast; rfl,x5s hf⟩,λhf=>⟨qb5 (by omega) (by omega),j+1,hlt,by omega,by push_cast; rfl,x5t hf⟩⟩
 ·obtain rfl:j=(nL m 0).length:=by omega
  rw[yb1 hv]; exact⟨rfl,rfl⟩
open Go Go.RowKit Eng
structure Maps (a m:List (List Int)):Prop where
 va:qa9 a=true
 vm:qa9 m=true
 n7:(nL m 0).length<=7
 same:(nL a 0).length=(nL m 0).length
 mp:∀s h,w3g a s h->∃d:Nat->Int,Sol m.length (nL m 0).length (rowOf m) d/\sA (nL m 0).length d=szL h/\(∃c,c<(nL m 0).length/\d c≠0)/\∀p,Named (nL m 0).length p->∃p',Named (nL m 0).length p'/\p'.length=p.length/\sB p' d=inL h p
theorem w3r {a:List (List Int)} {n:Nat} (h1:1<=a.length) (h6:a.length<=6) (n1:1<=n) (n10:n<=10) (hl:∀i,i<a.length->(nL a i).length=n) (hs:∀i,i<a.length->∀j,j<n->-1<=nI (nL a i) j/\nI (nL a i) j<=1):qa9 a=true:=by
 unfold qa9
 rw[Bool.and_eq_true,qh5,List.all_eq_true]
 refine⟨by omega,λx hx=>?_⟩
 obtain⟨i,hi,rfl⟩:=List.mem_iff_getElem.1 hx
 rw[<- qj8 _ _ hi,Bool.and_eq_true,decide_eq_true_eq,hl i hi,hl 0 (by omega)]
 refine⟨rfl,?_⟩
 unfold rowB
 rw[Bool.and_eq_true,qh5,List.all_eq_true,hl i hi]
 refine⟨by omega,λy hy=>?_⟩
 obtain⟨j,hj,rfl⟩:=List.mem_iff_getElem.1 hy
 rw[<- qg5 _ _ hj]
 exact qh5.2 (hs i hi j (by rw[hl i hi] at hj; exact hj))
structure AlikeM (a m:List (List Int)):Prop where
 fwd:Maps a m
 back:Maps m a
theorem AlikeM.cnt {a m:List (List Int)} (h:AlikeM a m) (k:Int):ya0 a k 0=ya0 m k 0:=by
 unfold ya0
 rw[h.fwd.va,h.fwd.vm,h.fwd.same]
theorem AlikeM.n7 {a m:List (List Int)} (h:AlikeM a m):(nL a 0).length<=7:=by rw[h.fwd.same]; exact h.fwd.n7
theorem wrap_small {x:Int} (h0:0<=x) (h1:x<=1000):IntKind.i64.wrap x=x:=by
 have hm:x % 18446744073709551616=x:=by omega
 show(if(true && decide (x % 18446744073709551616 ≥ 9223372036854775808))=true then x % 18446744073709551616-18446744073709551616 else x % 18446744073709551616)=x
 rw[hm,if_neg (by simp; omega)]
theorem w3s {m:List (List Int)} (hM:Mk m) (h7:(nL m 0).length<=7):q7t m=true:=by
 have m6:=hM.rows6
 have key:∀k,k<=m.length->0<=wz9 m k/\wz9 m k<=8*k:=by
  intro k
  induction k with
  | zero=>intro _; exact⟨Int.le_refl _,by simp[wz9]⟩
  | succ k ih=>
   intro hk
   have h1:=ih (by omega)
   have h2:=hM.each k (by omega)
   have e:IntKind.i64.wrap (((nL m k).length:Int)+1)=(nL m k).length+1:=wrap_small (by omega) (by omega)
   rw[wz9,e,wrap_small (by omega) (by omega)]
   omega
 have hk:=key m.length (Nat.le_refl _)
 unfold q7t
 rw[decide_eq_true (show wz9 m m.length<=200 by omega),Bool.and_true,Bool.not_eq_true',List.any_eq_false]
 intro l hl
 obtain⟨i,hi,rfl⟩:=List.getElem_of_mem hl
 have:=hM.each i hi
 rw[qj8 m i hi] at this
 unfold x00
 rw[decide_eq_false (by omega)]; simp
theorem x1x {m:List (List Int)} {n:Nat} (h:smB m n=true) (h1:1<=m.length):(nL m 0).length<=n:=by
 unfold smB at h
 rw[Bool.and_eq_true,List.all_eq_true] at h
 have:=of_decide_eq_true (h.1 (nL m 0) (by rw[qj8 m 0 (by omega)]; exact List.getElem_mem _))
 omega
theorem x1y {m:List (List Int)} {p:Nat} (hM:Mk m) (hp:p<(nL m 0).length):qa9 (qf4 m p m.length)=true/\(nL (qf4 m p m.length) 0).length=(nL m 0).length/\(∀i,i<m.length->nI (nL (qf4 m p m.length) i) p=0):=by
 have m1:=hM.rows1
 have row:∀i,i<m.length->nL (qf4 m p m.length) i=(nL m i).set p 0:=λi hi=>by rw[wg8 hi,if_pos hi]
 have hz:∀i,i<m.length->nI (nL (qf4 m p m.length) i) p=0:=λi hi=>by
  have hl:=hM.each i hi
  rw[row i hi,qg5 _ p (by rw[List.length_set]; omega),List.getElem_set_self]
 refine⟨w3r (n:=(nL m 0).length) (by rw[qp7]; exact m1) (by rw[qp7]; exact hM.rows6) hM.pix1 hM.pix10 (λi hi=>?_) (λi hi j hj=>?_),?_,hz⟩
 ·rw[qp7] at hi
  rw[row i hi,List.length_set,hM.each i hi]
 ·rw[qp7] at hi
  by_cases e:j=p
  ·subst e; rw[hz i hi]; omega
  ·rw[row i hi,q7w _ e]
   exact hM.small i hi j hj
 ·rw[row 0 (by omega),List.length_set]
structure Drk (m:List (List Int)) (p:Nat):Prop where
 msk:Mk m
 val:qa9 m=true
 n6:(nL m 0).length<=6
 lt:p<(nL m 0).length
 col:∀i,i<m.length->nI (nL m i) p=0
def uVec (p:Nat) (c:Nat):Int:=if c=p then 1 else 0
theorem Drk.sol {m:List (List Int)} {p:Nat} (h:Drk m p):Sol m.length (nL m 0).length (rowOf m) (uVec p):=λa ha=>by
 refine sm_zero λc hc=>?_
 unfold uVec rowOf
 by_cases e:c=p
 ·subst e; rw[h.col a ha,Int.zero_mul]
 ·rw[if_neg e,Int.mul_zero]
theorem Drk.set {m:List (List Int)} {p:Nat} (h:Drk m p):∃s,Named (nL m 0).length s/\0<s.length/\IsC m s/\s.length<=1/\∀j,j<s.length->nI s j=(p:Int):=by
 have hu:∀c,uVec p c≠0->c=p:=λc q=>Classical.byContradiction λe=>q (if_neg e)
 obtain⟨s,hs,s1,sC,sd⟩:=q2e h.msk _ (uVec p) (Nat.le_refl _) h.sol ⟨p,h.lt,by unfold uVec; rw[if_pos rfl]; decide⟩
 have hp:∀j,j<s.length->nI s j=(p:Int):=λj hj=>by
  have h1:=hu _ (sd j hj)
  have h2:=(hs.at_ j hj).1
  omega
 refine⟨s,hs,s1,sC,?_,hp⟩
 rcases Nat.lt_or_ge 1 s.length with q | q
 ·have h1:=hs.asc 0 1 (by omega) q
  rw[hp 0 s1,hp 1 q] at h1
  omega
 ·exact q
theorem Drk.circ {m:List (List Int)} {p:Nat} (h:Drk m p):(qh0 m).2=0/\nzTo (qh0 m).1 (qh0 m).1.length=1:=by
 obtain⟨s,hs,s1,sC,sl,_⟩:=h.set
 rcases wa6 (w3s h.msk (by have:=h.n6; omega)) h.val with⟨h0,t,ht,hmin⟩ | ⟨_,_,hno⟩
 ·refine⟨h0,?_⟩
  have h1:=hmin s hs s1 sC
  have h2:=ht.pos
  have h3:=ht.nz
  rw[w3f,ht.len,h3]
  omega
 ·exact absurd sC (hno s hs s1)
theorem xr7 {x:Int} (h:0<=x):(ofR x x).1=(ofR x x).2:=by
 unfold ofR
 rw[if_neg (by omega)]
theorem Drk.blind {m:List (List Int)} {p:Nat} (h:Drk m p) (hF:x1w m):hlf (qz8 (qi1 m).1 [(p:Int)] (qi1 m).1.length)=true:=by
 have h7:(nL m 0).length<=7:=by have:=h.n6; omega
 obtain⟨s,hs,s1,sC,_,sp⟩:=h.set
 obtain⟨c,hc,hq⟩:=x1n h.val h7 hs s1 sC
 have off:∀k,k<(nL m 0).length->k≠p->nI c k=0:=λk hk e=>hq.off k hk λj hj q=>e (by have:=sp j hj; omega)
 have hsz:∀k,k<=(nL m 0).length->q8v c k=if p<k then q1y (nI c p) else 0:=by
  intro k
  induction k with
  | zero=>intro _; rfl
  | succ k ih=>
   intro hk
   rw[q8v,ih (by omega)]
   by_cases e:k=p
   ·subst e; rw[if_neg (Nat.lt_irrefl _),if_pos (Nat.lt_succ_self _),Int.zero_add]
   ·rw[off k (by omega) e]
    by_cases q:p<k
    ·rw[if_pos q,if_pos (by omega)]; exact Int.add_zero _
    ·rw[if_neg q,if_neg (by omega)]; rfl
 have e1:szL c=q1y (nI c p):=by unfold szL; rw[hq.len,hsz _ (Nat.le_refl _),if_pos h.lt]
 have e2:inL c [(p:Int)]=q1y (nI c p):=by
  show(0:Int)+q1y (nI c (Int.toNat (p:Int)))=_
  rw[Int.toNat_natCast,Int.zero_add]
 have e3:(shR c [(p:Int)]).1=(shR c [(p:Int)]).2:=by
  unfold shR
  rw[e1,e2]
  exact xr7 (by unfold q1y; omega)
 have hO:=xv2 hF h.val h.lt
 obtain⟨i,hi,rfl⟩:=List.getElem_of_mem hc
 have h1:=(w3n hO _ (Nat.le_refl _)).1 i hi
 have h2:=(q7y (hO.ok i hi)).pos
 have h3:=qz9 hO _ (Nat.le_refl _)
 rw[qj8 _ i hi] at h1 h2
 unfold leQ at h1
 rw[e3] at h1
 have h4:=h3.n
 have h5:=h3.pos
 unfold lil at h4
 generalize qz8 (qi1 m).1 [(p:Int)] (qi1 m).1.length=o at *
 have h6:o.2<=o.1:=by
  refine Int.le_of_mul_le_mul_left (a:=(shR (qi1 m).1[i] [(p:Int)]).2) ?_ (by omega)
  rw[Int.mul_comm _ o.1]; exact h1
 unfold hlf
 exact decide_eq_true (by omega)
theorem xv3 {m:List (List Int)} {p:Nat} (h:hlf (qz8 (qi1 m).1 [(p:Int)] (qi1 m).1.length)=true):∀k,p<k->(p:Int)∈q8m m k
 | 0,hk=>absurd hk (Nat.not_lt_zero _)
 | k+1,hk=>by
  rw[q8m]
  by_cases e:p=k
  ·subst e; rw[if_pos h]; exact List.mem_append_right _ (List.mem_singleton.2 rfl)
  ·have ih:=xv3 h k (by omega)
   split
   ·exact List.mem_append_left _ ih
   ·exact ih
theorem Drk.known {m:List (List Int)} {p:Nat} (h:Drk m p):knB m (p:Int)=false:=by
 have hst:=xd9 h.msk
 have hz:∀i,i<m.length->nI (nL (qj6 m).1 i) p=0:=λi hi=>by
  have h1:=(hst.sol (uVec p)).1 (λa ha=>by
   refine sm_zero λc hc=>?_
   unfold uVec rowOf
   by_cases e:c=p
   ·subst e; rw[q44 ha h.lt,h.col a ha,Int.zero_mul]
   ·rw[if_neg e,Int.mul_zero]) i hi
  unfold dt at h1
  have hlt:p<(nL m 0).length+m.length:=by have:=h.lt; omega
  rw[qq0 hlt λc hc hne=>by(try dsimp only); unfold uVec; rw[if_neg hne,Int.mul_zero]] at h1
  unfold uVec at h1
  simpa using h1
 have hix:ixE (qj6 m).2 (p:Int)=-1:=by
  refine q1r (.int .i64) (λe=>(p:Int)==e) _ λi hi=>?_
  have hp:=hst.pos i hi
  have h0:=hz i (by have:=hst.pl; omega)
  show decide ((p:Int)=nI (qj6 m).2 i)=false
  refine decide_eq_false λe=>?_
  rw[<- e,Int.toNat_natCast] at hp
  omega
 unfold knB
 rw[hix]; rfl
theorem x5u {m:List (List Int)} {p:Nat} (h:knB m (p:Int)=false) (k:Nat):∀x∈wi8 m k,x≠(p:Int):=λx hx e=>by
 unfold wi8 at hx
 obtain⟨j,hj,rfl⟩:=List.mem_map.1 hx
 have hj:=(List.mem_filter.1 hj).2
 have:j=p:=by omega
 subst this
 rw[h] at hj; cases hj
theorem q45 {m:List (List Int)} {pix:List Int} (hM:Mk m) (hn:Named (nL m 0).length pix):Small m.length pix.length pix.length (qk8 m pix):=by
 have h6:=hM.rows6
 have hp10:=hM.pix10
 have hpl:=hn.len
 have hat:∀i,i<m.length->nL (qk8 m pix) i=qx0 (nL m i) pix:=λi hi=>by
  unfold qk8
  rw[qx1 _ _ _ i hi,List.append_nil]
 have hlo:∀i,i<m.length->∀c,c<pix.length->(nI (nL (qk8 m pix) i) c).natAbs<=1:=λi hi c hc=>by
  rw[hat i hi,qp5 _ _ _ hc]
  have h1:=hn.at_ c hc
  have h2:=hM.small i hi (nI pix c).toNat (by omega)
  omega
 exact⟨⟨ql2 _ _ _,λi hi=>by rw[hat i hi,qj2]⟩,h6,Nat.le_refl _,by omega,λa c ha hc=>hlo a ha c hc,λa c ha hc=>by have:=hlo a ha c hc; omega⟩
theorem xv4 {m:List (List Int)} (hM:Mk m):q06 m:=by
 have:=q36 (q45 hM (Named.idx _))
 rw[qd8] at this
 exact⟨this⟩
def x5v (m:List (List Int)) (l:List Int):Prop:=∀z:Nat->Int,(∀i,i<m.length->(sm l.length λc=>nI (nL m i) (nI l c).toNat*z c)=0)->∀c,c<l.length->z c=0
theorem wu9 (m:List (List Int)) (C:List Int):qk8 m C=qn4 m C:=by simp[qk8,qb4,qn4]
theorem wj0 (m:List (List Int)) (C:List Int) {a c:Nat} (ha:a<m.length) (hc:c<C.length):rowOf (qn4 m C) a c=nI (nL m a) (nI C c).toNat:=by
 unfold rowOf; rw[qr3 _ _ _ ha,qp5 _ _ _ hc]
theorem St.pivH_ind {n W j:Nat} {R:Nat->Nat->Int} {rows:List (List Int)} {P:List Int} (h:St n W R j rows P) (hj:j<=W) {z':Nat->Int} (hz:∀a,a<n->(sm P.length λq=>R a (nI P q).toNat*z' q)=0):∀q,q<P.length->z' q=0:=by
 have hpl:=h.pl
 obtain⟨z,hzd⟩:∃z:Nat->Int,∀c,z c=sm P.length λq=>if nI P q=(c:Int) then z' q else 0:=⟨_,λ_=>rfl⟩
 have zq:∀q,q<P.length->z (nI P q).toNat=z' q:=λq hq=>by
  have hp:=h.pos q hq
  rw[hzd,qq0 hq λi hi hne=>if_neg λk=>hne (h.inj hi hq (by omega)),if_pos (by omega)]
 have z0:∀c,(∀q,q<P.length->(nI P q).toNat≠c)->z c=0:=λc hc=>by
  rw[hzd]
  refine sm_zero λq hq=>if_neg λk=>hc q hq (by omega)
 have him:∀f:Nat->Int,(sm W λc=>f c*z c)=sm P.length λq=>f (nI P q).toNat*z' q:=λf=>by
  rw[q39 P.length (n:=W) (f:=λc=>f c*z c) (τ:=λq=>(nI P q).toNat) (λq hq=>by have:=h.pos q hq; (try dsimp only); omega) (λq k hq hk e=>h.inj hq hk (by have:=h.pos q hq; have:=h.pos k hk; (try dsimp only at e); omega)) λb hb hq=>by
   try dsimp only
   rw[z0 b hq,Int.mul_zero]]
  refine qe8 λq hq=>?_
  try dsimp only
  rw[zq q hq]
 have hsol:=(h.sol z).1 λa ha=>by rw[him]; exact hz a ha
 intro q hq
 have h1:=hsol q (by omega)
 unfold dt at h1
 rw[him,qq0 hq λi hi hne=>by
  try dsimp only
  rw[(h.pos i hi).2.2.2.2 q (by omega) (Ne.symm hne),Int.zero_mul]] at h1
 exact qd5 h1 (by have:=(h.pos q hq).2.2.1; omega)
theorem St.indH_map {m:List (List Int)} {C:List Int} {j:Nat} {rows:List (List Int)} {P:List Int} (h:St m.length C.length (rowOf (qn4 m C)) j rows P) (hj:j<=C.length):x5v m (P.map λk=>nI C k.toNat):=by
 intro z hz c hc
 rw[List.length_map] at hc
 refine h.pivH_ind hj (z':=z) (λa ha=>?_) c hc
 have h1:=hz a ha
 rw[List.length_map] at h1
 rw[<- h1]
 refine qe8 λq hq=>?_
 have hp:=h.pos q hq
 rw[wj0 m C ha (by omega),w25 (f:=λk=>nI C k.toNat) hq]
def q4b (m:List (List Int)):List Int:=(qi5 m (ql7 (nL m 0).length)).2
theorem wj1 {m:List (List Int)} (hM:Mk m):St m.length (nL m 0).length (rowOf (qk8 m (ql7 (nL m 0).length))) (nL m 0).length (qi5 m (ql7 (nL m 0).length)).1 (q4b m):=by
 have h:=qv3 (q45 hM (Named.idx _)).toMat (ql7 (nL m 0).length).length (Nat.le_refl _)
 rw[qd8] at h
 have e:qi5 m (ql7 (nL m 0).length)=qc7 (qk8 m (ql7 (nL m 0).length)) (nL m 0).length:=by unfold qi5; rw[qd8]
 unfold q4b
 rw[e]
 exact h
theorem xe2 {m:List (List Int)} {a c:Nat} (ha:a<m.length) (hc:c<(nL m 0).length):rowOf (qk8 m (ql7 (nL m 0).length)) a c=nI (nL m a) c:=by
 rw[wu9,wj0 m _ ha (by rw[qd8]; exact hc),qv5 _ _ hc,Int.toNat_natCast]
theorem wa7 {m:List (List Int)} (hM:Mk m):Named (nL m 0).length (q4b m):=by
 have h:=wj1 hM
 exact⟨λj hj=>⟨(h.pos j hj).1,(h.pos j hj).2.1⟩,λi j hij hj=>h.asc i j hij hj⟩
theorem w3t {m:List (List Int)} (hM:Mk m):x5v m (q4b m):=λz hz=>by
 have h:=wj1 hM
 refine h.pivH_ind (Nat.le_refl _) λa ha=>?_
 rw[<- hz a ha]
 refine qe8 λq hq=>?_
 have hp:=h.pos q hq
 rw[xe2 ha (by omega)]
theorem xe3 {m:List (List Int)} {C:List Int} (hM:Mk m) (hC:∀j,j<C.length->0<=nI C j/\nI C j<(nL m 0).length) (hI:x5v m C):C.length<=(q4b m).length:=by
 have hst:=wj1 hM
 generalize hrr:(qi5 m (ql7 (nL m 0).length)).1=rows at hst
 generalize q4b m=P at hst ⊢
 rcases Nat.lt_or_ge P.length C.length with q | q
 ·exfalso
  obtain⟨z,z1,f,hf,z2⟩:=q8e (n:=P.length) (W:=C.length) (λk c=>nI (nL rows k) (nI C c).toNat) q
  refine z2 (hI z ?_ f hf)
  obtain⟨v,hv⟩:∃v:Nat->Int,∀c,v c=sm C.length λq=>if nI C q=(c:Int) then z q else 0:=⟨_,λ_=>rfl⟩
  have him:∀g:Nat->Int,(sm (nL m 0).length λc=>g c*v c)=sm C.length λq=>g (nI C q).toNat*z q:=λg=>by
   have e1:(sm (nL m 0).length λc=>g c*v c)=sm (nL m 0).length λc=>sm C.length λq=>g c*(if nI C q=(c:Int) then z q else 0):=qe8 λc _=>by rw[hv,<- qs6]
   rw[e1,w0j]
   refine qe8 λq hq=>?_
   have hc:=hC q hq
   rw[qq0 (k:=(nI C q).toNat) (by omega) λc hc2 hne=>by(try dsimp only); rw[if_neg (by omega),Int.mul_zero]]
   (try dsimp only)
   rw[if_pos (by omega)]
  have hsol:=(hst.sol v).2 λi hi=>by
   unfold dt
   rw[him λc=>nI (nL rows i) c]
   rcases Nat.lt_or_ge i P.length with k | k
   ·exact z1 i k
   ·refine sm_zero λq hq=>?_
    have hc:=hC q hq
    rw[hst.zero i k hi _ (by omega),Int.zero_mul]
  intro i hi
  have:=hsol i hi
  rw[him λc=>rowOf (qk8 m (ql7 (nL m 0).length)) i c] at this
  rw[<- this]
  refine qe8 λq hq=>?_
  have hc:=hC q hq
  rw[xe2 hi (by omega)]
 ·exact q
structure Ded (m d:List (List Int)) (r:Nat):Prop where
 msk:Mk m
 dsk:Mk d
 rows:d.length=m.length
 pix:(nL d 0).length=(nL m 0).length
 lt:r<m.length
 dead:∀c,nI (nL d r) c=0
 same:∀i,i<m.length->i≠r->nL d i=nL m i
theorem Ded.ind {m d:List (List Int)} {r:Nat} (h:Ded m d r) {C:List Int} (hI:x5v d C):x5v m C:=λz hz=>hI z λi hi=>by
 rw[h.rows] at hi
 by_cases e:i=r
 ·subst e
  exact sm_zero λc _=>by rw[h.dead,Int.zero_mul]
 ·rw[h.same i hi e]; exact hz i hi
theorem Ded.le {m d:List (List Int)} {r:Nat} (h:Ded m d r):(q4b d).length<=(q4b m).length:=by
 refine xe3 h.msk (λj hj=>?_) (h.ind (w3t h.dsk))
 have:=(wa7 h.dsk).at_ j hj
 rw[<- h.pix]; exact this
theorem Ded.ge {m d:List (List Int)} {r:Nat} (h:Ded m d r):(q4b m).length<=(q4b d).length+1:=by
 have hN:=wa7 h.msk
 have hI:=w3t h.msk
 generalize q4b m=C at hN hI ⊢
 have hNd:Named (nL d 0).length C:=by rw[h.pix]; exact hN
 have hst:=qv3 (q45 h.dsk hNd).toMat C.length (Nat.le_refl _)
 generalize qc7 (qk8 d C) C.length=s at hst
 obtain⟨rows,P⟩:=s
 dsimp only at hst
 rw[wu9] at hst
 have hmap:=hst.indH_map (Nat.le_refl _)
 have hP:P.length<=(q4b d).length:=by
  have h1:=xe3 h.dsk (C:=P.map λk=>nI C k.toNat) (λj hj=>?_) hmap
  ·rwa [List.length_map] at h1
  ·rw[List.length_map] at hj
   have hp:=hst.pos j hj
   have e:nI (P.map λk=>nI C k.toNat) j=nI C (nI P j).toNat:=w25 hj
   rw[e]
   exact hNd.at_ _ (by omega)
 rcases Nat.lt_or_ge (P.length+1) C.length with q | q
 ·exfalso
  obtain⟨z,z1,f,hf,z2⟩:=q8e (n:=P.length+1) (W:=C.length) (λk c=>if k<P.length then nI (nL rows k) c else nI (nL m r) (nI C c).toNat) q
  refine z2 (hI z ?_ f hf)
  have hsol:=(hst.sol z).2 λi hi=>by
   unfold dt
   rcases Nat.lt_or_ge i P.length with k | k
   ·have:=z1 i (by omega)
    simp only[if_pos k] at this
    exact this
   ·exact sm_zero λc hc=>by rw[hst.zero i k hi c hc,Int.zero_mul]
  intro i hi
  by_cases e:i=r
  ·subst e
   have:=z1 P.length (by omega)
   simp only[Nat.lt_irrefl,if_false] at this
   exact this
  ·have:=hsol i (by rw[h.rows]; exact hi)
   rw[<- this]
   refine qe8 λc hc=>?_
   rw[wj0 d C (by rw[h.rows]; exact hi) hc,h.same i hi e]
 ·omega
theorem xr8 {m:List (List Int)} {r:Nat} (hv:qa9 m=true) (hr:r<m.length):qa9 (m.set r (qq8 (nL m r)))=true/\Ded m (m.set r (qq8 (nL m r))) r:=by
 have hM:=Mk.of hv
 have m1:=hM.rows1
 have hlr:=hM.each r hr
 have zl:(qq8 (nL m r)).length=(nL m 0).length:=by unfold qq8; rw[List.length_replicate,hlr]
 have row:∀i,i<m.length->nL (m.set r (qq8 (nL m r))) i=if i=r then qq8 (nL m r) else nL m i:=λi hi=>by
  rw[qj8 _ i (by rw[List.length_set]; exact hi),List.getElem_set]
  by_cases e:r=i
  ·rw[if_pos e,if_pos e.symm]
  ·rw[if_neg e,if_neg λq=>e q.symm,qj8 m i hi]
 have hlen:∀i,i<m.length->(nL (m.set r (qq8 (nL m r))) i).length=(nL m 0).length:=λi hi=>by
  rw[row i hi]
  split
  ·exact zl
  ·exact hM.each i hi
 have hz:∀c,nI (qq8 (nL m r)) c=0:=λc=>xc4 _ _
 have hval:qa9 (m.set r (qq8 (nL m r)))=true:=by
  refine w3r (n:=(nL m 0).length) (by rw[List.length_set]; exact m1) (by rw[List.length_set]; exact hM.rows6) hM.pix1 hM.pix10 (λi hi=>hlen i (by rwa [List.length_set] at hi)) (λi hi j hj=>?_)
  rw[List.length_set] at hi
  rw[row i hi]
  split
  ·rw[hz]; omega
  ·exact hM.small i hi j hj
 exact⟨hval,hM,Mk.of hval,List.length_set,hlen 0 (by omega),hr,λc=>by rw[row r hr,if_pos rfl]; exact hz c,λi hi e=>by rw[row i hi,if_neg e]⟩
open Go Go.Proofs Go.RowKit Eng Ls
def yb2 (l:List Int):Nat->Option Inv
 | 0=>some (Inv.of [3,8] 0 (λk:Nat=>[(3,.lit (.int .i64 (nzTo l k))),(8,.lit (.int .i64 k))]) (λ_=>[]) (λk=>k<=l.length) (λk=>l.length-k))
 | _=>none
abbrev yp6:qb7:=qf1 true none [qe9] [qc8] (λx=>x.1.length<=1000000) (λx=>((nzTo x.1 x.1.length:Nat),()))
theorem xe4:Meets Tryz.prog 20 yp6:=by
 refine meets (snd (SpecsOk.nil _)) Tryz.func20 rfl rfl (λx=>yb2 x.1) (λ_=>by kernel_rfl) (by decide) ?_
 rintro⟨l,⟨⟩⟩ h
 revert l
 intro(l:List Int) (h:l.length<=1000000)
 refine @qd1 _ (∃(v0:Unit),∃(v1:Nat),Nat.le v1 l.length/\(((0:Int)=(↑(nzTo l v1):Int)/\(0:Int)=(↑v1:Int)/\True)/\True)/\∀(v2:Nat),Nat.le v2 l.length->(decide ((↑v2:Int)<(↑l.length:Int))=true->((0:Int)<=(↑v2:Int)/\(↑v2:Int)<(↑l.length:Int))/\((nI l v2 != (0:Int))=true->fits .i64 ((↑(nzTo l v2):Int)+(1:Int))/\fits .i64 ((↑v2:Int)+(1:Int))/\∃(v6:Nat),Nat.le v6 l.length/\l.length-v6<l.length-v2/\((↑(nzTo l v2):Int)+(1:Int)=(↑(nzTo l v6):Int)/\(↑v2:Int)+(1:Int)=(↑v6:Int)/\True)/\True)/\((nI l v2 != (0:Int))=false->fits .i64 ((↑v2:Int)+(1:Int))/\∃(v6:Nat),Nat.le v6 l.length/\l.length-v6<l.length-v2/\((↑(nzTo l v2):Int)=(↑(nzTo l v6):Int)/\(↑v2:Int)+(1:Int)=(↑v6:Int)/\True)/\True))/\(decide ((↑v2:Int)<(↑l.length:Int))=false->(↑(nzTo l v2):Int)=(↑(nzTo l l.length):Int))) (by kernel_rfl) ?_
 try simp only[z0,z1,z2,z3,z4,z5,z6,z7,z8,z9,z10,Int.reduceEq,z11,z12,z13,z14,z15,z16,z17,z18,z19,z20,z21,z22,z23,z24,z25,z26,z27,z28,z29,z30,Int.reduceLE,Int.reduceLT,z31,z32,z33,z34,qa1]
 try simp only[qa7,qa8,qb8,z31,z32,z2,z1]
 refine⟨(),0,Nat.zero_le _,⟨rfl,rfl⟩,λi hi=>⟨λhlt=>?_,λhge=>?_⟩⟩
 ·have:=wy7 l i
  exact⟨hlt,λhz=>⟨qb5 (by omega) (by omega),qb5 (by omega) (by omega),i+1,hlt,by omega,by rw[nzTo,if_pos hz]; omega,by omega⟩,λhz=>⟨qb5 (by omega) (by omega),i+1,hlt,by omega,by rw[nzTo,if_neg (λq=>q hz)],by omega⟩⟩
 ·obtain rfl:i=l.length:=by omega
  rfl
def q4c (l:List Int) (p:Int) (k:Nat):Bool:=(l.take k).any λx=>decide (x=p)
def q46 (b:Bool) (l:List Int) (p:Int) (k:Nat):Bool:=b && (l.take k).all λx=>decide (x≠p)
def yb3 (B K:List Int) (p:Int):Nat->Option Inv
 | 0=>some (Inv.of [17,85] 0 (λk:Nat=>[(17,.lit (.bool (q4c B p k))),(85,.lit (.int .i64 k))]) (λ_=>[]) (λk=>k<=B.length) (λk=>B.length-k))
 | 1=>some (Inv.of [17,98] 0 (λk:Nat=>[(17,.lit (.bool (q46 (q4c B p B.length) K p k))),(98,.lit (.int .i64 k))]) (λ_=>[]) (λk=>k<=K.length) (λk=>K.length-k))
 | _=>none
theorem xr9 (a b:Int):(a != b)=decide (a≠b):=by by_cases h:a=b <;> simp[h]
theorem w3u {l:List Int} {p:Int} {k:Nat} (hk:k<l.length):q4c l p (k+1)=(q4c l p k || decide (nI l k=p)):=by
 unfold q4c
 rw[wf5 l k hk,List.any_append]
 simp
theorem w3v {b:Bool} {l:List Int} {p:Int} {k:Nat} (hk:k<l.length):q46 b l p (k+1)=(q46 b l p k && decide (nI l k≠p)):=by
 unfold q46
 rw[wf5 l k hk,List.all_append]
 simp[Bool.and_assoc]
theorem x1z {l:List Int} {p:Int} (h:p∈l):q4c l p l.length=true:=by
 unfold q4c
 rw[List.take_length,List.any_eq_true]
 exact⟨p,h,by simp⟩
theorem x13 {l:List Int} {p:Int} (h:∀x∈l,x≠p):q46 true l p l.length=true:=by
 unfold q46
 rw[List.take_length,Bool.true_and,List.all_eq_true]
 exact λx hx=>decide_eq_true (h x hx)
abbrev xe5 (m:List (List Int)) (p:Int):List (List Int):=(ql8 m (2,0,p)).1
theorem w3w {m:List (List Int)} (hv:qa9 m=true):qg9 m=(((q4b m).length:Int),0):=by unfold qg9 q4b; rw[if_neg (by rw[hv]; decide)]
theorem wv0 {m:List (List Int)} {r:Int}:(ql8 m (1,r,0)).snd=0 ->
  (qa9 m=true->q06 m) /\
   (qa9 (ql8 m (1,r,0)).fst=true->q06 (ql8 m (1,r,0)).fst) /\
    ((qg9 m).snd=0 ->
      ((qg9 (ql8 m (1,r,0)).fst).snd=0 ->
        ((qg9 (ql8 m (1,r,0)).fst).fst<=(qg9 m).fst ->
          fits IntKind.i64 ((qg9 m).fst-1) /\
           ((qg9 (ql8 m (1,r,0)).fst).fst<(qg9 m).fst-1->false=true)) /\
         ((qg9 m).fst<(qg9 (ql8 m (1,r,0)).fst).fst->false=true)) /\
       (¬(qg9 (ql8 m (1,r,0)).fst).snd=0->false=true)) /\
     (¬(qg9 m).snd=0->false=true):=by
 intro hf
 obtain⟨hF,hb⟩:=w3p hf
 have hv:=(FltPre.of hF).valid
 have hok:=(FltPre.of hF).ok
 have hr:0<=r/\r<=(m.length:Int)-1:=DeedPre.row (rows:=m) (kd:=1) (r:=r) (p:=0) (k:=1) ⟨rfl,hv,hok⟩ (.inl rfl)
 obtain⟨n,rfl⟩:∃n:Nat,r=n:=⟨r.toNat,(Int.toNat_of_nonneg hr.1).symm⟩
 have hD:(ql8 m (1,(n:Int),0)).1=m.set n (qq8 (nL m n)):=by rw[hb]; simp[qi2]
 obtain⟨hval,hd⟩:=xr8 hv (r:=n) (by omega)
 have h1:=hd.le
 have h2:=hd.ge
 have h3:=wj1 hd.msk
 have h4:=h3.pl
 have h5:=hd.msk.rows6
 rw[hD,w3w hv,w3w hval]
 exact⟨λ_=>xv4 hd.msk,λ_=>xv4 hd.dsk,λ_=>⟨λ_=>⟨λ_=>⟨qb5 (by omega) (by omega),λq=>by(try dsimp only at q); omega⟩,λq=>by(try dsimp only at q); omega⟩,λq=>absurd rfl q⟩,λq=>absurd rfl q⟩
abbrev yp7:qb7:=qf1 true none [qg0,qc8,qc8] [.bool] (λx=>x37 x.1) (λ_=>(true,()))
theorem xe6:Meets Tryz.prog 4 yp7:=by
 refine meets (snd (SpecsOk.cons xr2 (SpecsOk.cons w59 (SpecsOk.cons w9n (SpecsOk.cons q93 (SpecsOk.cons wy8 (SpecsOk.cons xr6 (SpecsOk.cons xr5 (SpecsOk.cons xe4 (SpecsOk.cons q91 (SpecsOk.nil _))))))))))) Tryz.func4 rfl rfl (λx=>yb3 (blR (xe5 x.1 x.2.1)).1 (knR (xe5 x.1 x.2.1)).1 x.2.1) (λ_=>by kernel_rfl) (by decide) ?_
 rintro⟨m,p,r,⟨⟩⟩ h
 revert m p r
 intro(m:List (List Int)) (p:Int) (r:Int) (h:x37 m)
 refine @qd1 _ (let Q0:=blR (xe5 m p); let Q1:=knR (xe5 m p); let Q2:=q4c Q0.1 p Q0.1.length; m.length<=(9223372036854775807:Nat)/\((!smB m (6:Int))=true->True/\true=true)/\((!smB m (6:Int))=false->True/\(((ql8 m ((2:Int),(0:Int),p)).2==(0:Int))=true->(qa9 (ql8 m ((2:Int),(0:Int),p)).1=true->q2v (ql8 m ((2:Int),(0:Int),p)).1)/\xm2 (ql8 m ((2:Int),(0:Int),p)).1/\x1w (ql8 m ((2:Int),(0:Int),p)).1/\(qa9 (ql8 m ((2:Int),(0:Int),p)).1=true->q5j (ql8 m ((2:Int),(0:Int),p)).1)/\(((qh0 (ql8 m ((2:Int),(0:Int),p)).1).2 != (0:Int))=true->false=true)/\(((qh0 (ql8 m ((2:Int),(0:Int),p)).1).2 != (0:Int))=false->(qh0 (ql8 m ((2:Int),(0:Int),p)).1).1.length<=(1000000:Nat)/\(((↑(nzTo (qh0 (ql8 m ((2:Int),(0:Int),p)).1).1 (qh0 (ql8 m ((2:Int),(0:Int),p)).1).1.length):Int) != (1:Int))=true->false=true)/\(((↑(nzTo (qh0 (ql8 m ((2:Int),(0:Int),p)).1).1 (qh0 (ql8 m ((2:Int),(0:Int),p)).1).1.length):Int) != (1:Int))=false->(((q07 (ql8 m ((2:Int),(0:Int),p)).1).2 != (0:Int))=true->false=true)/\(((q07 (ql8 m ((2:Int),(0:Int),p)).1).2 != (0:Int))=false->(((q07 (ql8 m ((2:Int),(0:Int),p)).1).1 != (1:Int))=true->false=true)/\(((q07 (ql8 m ((2:Int),(0:Int),p)).1).1 != (1:Int))=false->(((blR (ql8 m ((2:Int),(0:Int),p)).1).2 != (0:Int))=true->false=true)/\(((blR (ql8 m ((2:Int),(0:Int),p)).1).2 != (0:Int))=false->(((knR (ql8 m ((2:Int),(0:Int),p)).1).2 != (0:Int))=true->false=true)/\(((knR (ql8 m ((2:Int),(0:Int),p)).1).2 != (0:Int))=false->∃(v8:Unit),∃(v9:Nat),Nat.le v9 Q0.1.length/\((false=q4c Q0.1 p v9/\(0:Int)=(↑v9:Int)/\True)/\True)/\∀(v10:Nat),Nat.le v10 Q0.1.length->(decide ((↑v10:Int)<(↑(blR (ql8 m ((2:Int),(0:Int),p)).1).1.length:Int))=true->((0:Int)<=(↑v10:Int)/\(↑v10:Int)<(↑(blR (ql8 m ((2:Int),(0:Int),p)).1).1.length:Int))/\(q4c Q0.1 p v10=true->fits .i64 ((↑v10:Int)+(1:Int))/\∃(v14:Nat),Nat.le v14 Q0.1.length/\Q0.1.length-v14<Q0.1.length-v10/\(true=q4c Q0.1 p v14/\(↑v10:Int)+(1:Int)=(↑v14:Int)/\True)/\True)/\(q4c Q0.1 p v10=false->fits .i64 ((↑v10:Int)+(1:Int))/\∃(v14:Nat),Nat.le v14 Q0.1.length/\Q0.1.length-v14<Q0.1.length-v10/\((nI (blR (ql8 m ((2:Int),(0:Int),p)).1).1 v10==p)=q4c Q0.1 p v14/\(↑v10:Int)+(1:Int)=(↑v14:Int)/\True)/\True))/\(decide ((↑v10:Int)<(↑(blR (ql8 m ((2:Int),(0:Int),p)).1).1.length:Int))=false->∃(v13:Unit),∃(v14:Nat),Nat.le v14 Q1.1.length/\((q4c Q0.1 p v10=q46 Q2 Q1.1 p v14/\(0:Int)=(↑v14:Int)/\True)/\True)/\∀(v15:Nat),Nat.le v15 Q1.1.length->(decide ((↑v15:Int)<(↑(knR (ql8 m ((2:Int),(0:Int),p)).1).1.length:Int))=true->((0:Int)<=(↑v15:Int)/\(↑v15:Int)<(↑(knR (ql8 m ((2:Int),(0:Int),p)).1).1.length:Int))/\(q46 Q2 Q1.1 p v15=true->fits .i64 ((↑v15:Int)+(1:Int))/\∃(v19:Nat),Nat.le v19 Q1.1.length/\Q1.1.length-v19<Q1.1.length-v15/\((nI (knR (ql8 m ((2:Int),(0:Int),p)).1).1 v15 != p)=q46 Q2 Q1.1 p v19/\(↑v15:Int)+(1:Int)=(↑v19:Int)/\True)/\True)/\(q46 Q2 Q1.1 p v15=false->fits .i64 ((↑v15:Int)+(1:Int))/\∃(v19:Nat),Nat.le v19 Q1.1.length/\Q1.1.length-v19<Q1.1.length-v15/\(false=q46 Q2 Q1.1 p v19/\(↑v15:Int)+(1:Int)=(↑v19:Int)/\True)/\True))/\(decide ((↑v15:Int)<(↑(knR (ql8 m ((2:Int),(0:Int),p)).1).1.length:Int))=false->((!q46 Q2 Q1.1 p v15)=true->false=true)/\((!q46 Q2 Q1.1 p v15)=false->True/\(((ql8 m ((1:Int),r,(0:Int))).2 != (0:Int))=true->True/\true=true)/\(((ql8 m ((1:Int),r,(0:Int))).2 != (0:Int))=false->(qa9 m=true->q06 m)/\(qa9 (ql8 m ((1:Int),r,(0:Int))).1=true->q06 (ql8 m ((1:Int),r,(0:Int))).1)/\(((qg9 m).2==(0:Int))=true->(((qg9 (ql8 m ((1:Int),r,(0:Int))).1).2==(0:Int))=true->(decide ((qg9 (ql8 m ((1:Int),r,(0:Int))).1).1<=(qg9 m).1)=true->fits .i64 ((qg9 m).1-(1:Int))/\(decide ((qg9 m).1-(1:Int)<=(qg9 (ql8 m ((1:Int),r,(0:Int))).1).1)=true->True/\true=true)/\(decide ((qg9 m).1-(1:Int)<=(qg9 (ql8 m ((1:Int),r,(0:Int))).1).1)=false->false=true))/\(decide ((qg9 (ql8 m ((1:Int),r,(0:Int))).1).1<=(qg9 m).1)=false->false=true))/\(((qg9 (ql8 m ((1:Int),r,(0:Int))).1).2==(0:Int))=false->false=true))/\(((qg9 m).2==(0:Int))=false->false=true))))))))))))/\(((ql8 m ((2:Int),(0:Int),p)).2==(0:Int))=false->True/\(((ql8 m ((1:Int),r,(0:Int))).2 != (0:Int))=true->True/\true=true)/\(((ql8 m ((1:Int),r,(0:Int))).2 != (0:Int))=false->(qa9 m=true->q06 m)/\(qa9 (ql8 m ((1:Int),r,(0:Int))).1=true->q06 (ql8 m ((1:Int),r,(0:Int))).1)/\(((qg9 m).2==(0:Int))=true->(((qg9 (ql8 m ((1:Int),r,(0:Int))).1).2==(0:Int))=true->(decide ((qg9 (ql8 m ((1:Int),r,(0:Int))).1).1<=(qg9 m).1)=true->fits .i64 ((qg9 m).1-(1:Int))/\(decide ((qg9 m).1-(1:Int)<=(qg9 (ql8 m ((1:Int),r,(0:Int))).1).1)=true->True/\true=true)/\(decide ((qg9 m).1-(1:Int)<=(qg9 (ql8 m ((1:Int),r,(0:Int))).1).1)=false->false=true))/\(decide ((qg9 (ql8 m ((1:Int),r,(0:Int))).1).1<=(qg9 m).1)=false->false=true))/\(((qg9 (ql8 m ((1:Int),r,(0:Int))).1).2==(0:Int))=false->false=true))/\(((qg9 m).2==(0:Int))=false->false=true))))) (by kernel_rfl) ?_
 try simp only[z0,z1,z2,z3,z4,z5,z6,z7,z8,z9,z10,Int.reduceEq,z11,z12,z13,z14,z15,z16,z17,z18,z19,z20,z21,z22,z23,z24,z25,z26,z27,z28,z29,z30,Int.reduceLE,Int.reduceLT,z31,z32,z33,z34,qa1]
 try simp only[qa7,qa8,qb8,z31,z32,z2,z1]
 refine⟨h.rows,λhsm=>⟨λhf=>?_,λhf=>?_⟩⟩
 ·obtain⟨hF,hb⟩:=w3p hf
  have hv:=(FltPre.of hF).valid
  have hok:=(FltPre.of hF).ok
  have hM:=Mk.of hv
  have hp:0<=p/\p<=((nL m 0).length:Int)-1:=DeedPre.pix (rows:=m) (kd:=2) (r:=0) (p:=p) (k:=2) ⟨rfl,hv,hok⟩ (.inl rfl)
  obtain⟨n,rfl⟩:∃n:Nat,p=n:=⟨p.toNat,(Int.toNat_of_nonneg hp.1).symm⟩
  have hD:(ql8 m (2,0,(n:Int))).1=qf4 m n m.length:=by rw[hb]; simp[qi2]
  obtain⟨d1,d2,d3⟩:=x1y hM (p:=n) (by omega)
  have hd:Drk (qf4 m n m.length) n:=⟨Mk.of d1,d1,by rw[d2]; exact x1x (n:=6) hsm hM.rows1,by rw[d2]; omega,λi hi=>d3 i (by rwa [qp7] at hi)⟩
  have h7:(nL (qf4 m n m.length) 0).length<=7:=by have:=hd.n6; omega
  have hlb:=w3s hd.msk h7
  obtain⟨c1,c2⟩:=hd.circ
  have hcl:=(w3i hlb).1
  have e1:(q07 (qf4 m n m.length)).1=1:=by unfold q07; rw[c2]; rfl
  have e2:(q07 (qf4 m n m.length)).2=0:=c1
  have hB:(blR (qf4 m n m.length)).1=q8m (qf4 m n m.length) (nL (qf4 m n m.length) 0).length:=by rw[yb1 d1]
  have hB2:(blR (qf4 m n m.length)).2=0:=by rw[yb1 d1]
  have hK:(knR (qf4 m n m.length)).1=wi8 (qf4 m n m.length) (nL (qf4 m n m.length) 0).length:=by unfold knR; rw[if_pos d1]
  have hK2:(knR (qf4 m n m.length)).2=0:=by unfold knR; rw[if_pos d1]
  have hkm:=x5u hd.known (nL (qf4 m n m.length) 0).length
  rw[<- hK] at hkm
  have hbl:(blR (qf4 m n m.length)).1.length<=10:=by rw[hB]; have:=wi9 (qf4 m n m.length) (nL (qf4 m n m.length) 0).length; omega
  have hkl:(knR (qf4 m n m.length)).1.length<=10:=by
   rw[hK]; unfold wi8; rw[List.length_map]
   exact Nat.le_trans (List.length_filter_le _ _) (by simp; omega)
  have hfit:x37 (qf4 m n m.length):=⟨by have:=hd.msk.rows6; omega,λi hi=>by have:=hd.msk.each i hi; omega⟩
  have hbm:=xv3 (hd.blind ⟨hfit,λ_=>h7⟩) _ hd.lt
  rw[<- hB] at hbm
  simp only[xe5,hD]
  refine⟨λ_=>xq4 d1,ya5 hlb,⟨hfit,λ_=>h7⟩,λ_=>x5r d1,λq=>absurd c1 q,λ_=>⟨by omega,λq=>absurd (by rw[c2]; rfl) q,λ_=>⟨λq=>absurd e2 q,λ_=>⟨λq=>absurd e1 q,λ_=>⟨λq=>absurd hB2 q,λ_=>⟨λq=>absurd hK2 q,λ_=>?_⟩⟩⟩⟩⟩⟩
  generalize(blR (qf4 m n m.length)).1=B at hbm hbl ⊢
  generalize(knR (qf4 m n m.length)).1=K at hkm hkl ⊢
  refine⟨(),0,Nat.zero_le _,⟨rfl,rfl⟩,λi hi=>⟨λhlt=>⟨hlt,λhh=>⟨qb5 (by omega) (by omega),i+1,hlt,by omega,by rw[w3u hlt,hh]; rfl,by omega⟩,λhh=>⟨qb5 (by omega) (by omega),i+1,hlt,by omega,by rw[w3u hlt,hh]; rfl,by omega⟩⟩,λhge=>?_⟩⟩
  obtain rfl:i=B.length:=by omega
  have hh:=x1z hbm
  rw[hh]
  refine⟨(),0,Nat.zero_le _,⟨rfl,rfl⟩,λj hj=>⟨λhlt=>⟨hlt,λhl=>⟨qb5 (by omega) (by omega),j+1,hlt,by omega,?_,by omega⟩,λhl=>⟨qb5 (by omega) (by omega),j+1,hlt,by omega,by rw[w3v hlt,hl]; rfl,by omega⟩⟩,λhge=>?_⟩⟩
  ·rw[w3v hlt,hl,Bool.true_and]
   exact xr9 _ _
  obtain rfl:j=K.length:=by omega
  rw[x13 hkm]
  exact⟨λq=>(by cases q),λ_=>wv0⟩
 ·exact wv0
open Go.ChangeShapes Go.WideShapes Go.ChangeAt Go.RowKit Go.Deep Ls
theorem own:ownKnob Tryz.prog.godebug=none:=by kernel_rfl
theorem laidOut:laidOutB Tryz.prog=true:=by kernel_rfl
theorem yb4 {H:Type} {enc:TypeId × Value->H} {W:World} {t e q:TypeId} {v:Value} {d:DataW H} {p:List MemPlace} (ht:Tryz.prog.underlying t=some (.slice e)) (he:Tryz.prog.underlying e=some (.slice q)) (hq:Tryz.prog.underlying q=some (.int .i64))
  (ce:Tryz.prog.cellsOf e=1) (cq:Tryz.prog.cellsOf q=1)
  (hv:∃a l c,v=.slice a l c) (h:DataW.Trod enc Tryz.prog W 0 (λ_=>true) true t v d p):∃a l c m,v=.slice a l c/\SM W a l c m:=by
 obtain⟨a,l,c,rfl⟩:=hv
 obtain⟨fuel,hf⟩:=h
 rcases open_int_rows ht he hq ce cq hf with⟨hcs,_⟩ | ⟨x,l',c',A,L,C,Z,hcs,_,hl,hm,_,hr⟩
 ·simp[Value.cells] at hcs
  obtain⟨rfl,rfl,rfl⟩:=hcs
  exact⟨_,_,_,[],rfl,SM.nil W⟩
 ·simp[Value.cells] at hcs
  obtain⟨rfl,rfl,rfl⟩:=hcs
  refine⟨_,_,_,(List.range l).map (λr=>(Z r).take (L r)),rfl,by simp,hl,hm,λ_=>⟨x,rfl,λk hk=>?_⟩⟩
  obtain⟨h1,h2,h3,h4,_,h6,h7⟩:=hr k (by omega)
  have e0:nthL ((List.range l).map (λr=>(Z r).take (L r))) k=(Z k).take (L k):=by simp[nthL,hk]
  have e1:((Z k).take (L k)).length=L k:=by simp; omega
  rw[e0,e1]
  refine⟨A k,C k,h1,e1,h2,h3,λhp=>?_⟩
  cases hA:A k with
  | none=>have:=h6 hA; omega
  | some a'=>
   refine⟨a',rfl,λj hj=>?_⟩
   rw[(h7 a' hA).2 j (by omega)]
   simp[nth,hj]
end Go.Proofs.YtmijnbjlhnpokaaGreat
set_option linter.unusedVariables false
namespace Go.Proofs.YtmijnbjlhnpokaaGreat
open Go Go.RowKit Eng Ls
theorem x2a {w:World} {A:Option Addr} {n c:Nat} {m:List (List Int)} (s:SM w A n c m):x37 m:=by
 have hl:=s.len
 have hn:=s.nmax
 refine⟨by omega,λi hi=>?_⟩
 obtain⟨ad,_,h⟩:=s.at_ (by omega)
 obtain⟨A',c',_,h2⟩:=h i (by omega)
 have e:nL m i=nthL m i:=by
  rw[qj8 m i hi]
  unfold nthL
  rw[List.getD_eq_getElem?_getD,List.getElem?_eq_getElem hi]
  rfl
 rw[e]
 exact h2.nmax
end Go.Proofs.YtmijnbjlhnpokaaGreat
