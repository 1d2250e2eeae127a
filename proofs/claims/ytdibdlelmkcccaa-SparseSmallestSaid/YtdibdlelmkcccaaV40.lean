/- The law SparseSmallest: contract by the engine. No condition. -/
import Derived.Test.YtdibdlelmkcccaaV38
import Derived.Test.YtdibdlelmkcccaaV30
import Derived.Test.YtdibdlelmkcccaaV34
import Derived.Test.YtdibdlelmkcccaaVSpr
import Derived.Test.YtdibdlelmkcccaaW20
set_option linter.unusedVariables false
set_option linter.unusedSimpArgs false
namespace Go.Proofs.Ytdibdlelmkcccaa
open Go Go.RowKit Eng
def qw4 (r:Int × Int):Bool:=inB r.2 1 400 && inB r.1 (0-10000000000) 10000000000 && (qf2 r.1 r.2==1)
abbrev xz4:qc7:=qg3 true none [.prod (.int .i64) (.int .i64)] [.bool] (λx=>qd2 BIG x.1.1/\qd2 BIG x.1.2) (λx=>(qw4 x.1,()))
theorem wr9:qd8 Try.prog 106 xz4:=by
 refine meets (snd (SpecsOk.cons q2t (SpecsOk.cons w2k (SpecsOk.nil _)))) Try.func106 rfl rfl (λ_ _=>none) (λ_=>by kernel_rfl) (by decide) ?_
 rintro⟨⟨n,d⟩,⟨⟩⟩ h
 revert n d
 intro(n:Int) (d:Int) (h:qd2 BIG n/\qd2 BIG d)
 refine @qe0 _ (True/\(inB d (1:Int) (400:Int)=true->True/\(inB n (-10000000000:Int) (10000000000:Int)=true->(((-4000000000000000000:Int)<=n/\n<=BIG)/\(-4000000000000000000:Int)<=d/\d<=BIG)/\(qf2 n d==(1:Int))=qw4 (n,d))/\(inB n (-10000000000:Int) (10000000000:Int)=false->false=qw4 (n,d)))/\(inB d (1:Int) (400:Int)=false->false=qw4 (n,d))) (by kernel_rfl) ?_
 try simp only[z0,z1,z2,z3,z4,z5,z6,z7,z8,z9,z10,Int.reduceEq,z11,z12,z13,z14,z15,z16,z17,z18,z19,z20,z21,z22,z23,z24,z25,z26,z27,z28,z29,z30,Int.reduceLE,Int.reduceLT,z31,z32,z33,z34,qa3]
 try simp only[qb3,qb4,qc8,List.set_cons_zero,List.cons.injEq,and_true,true_and]
 have h1:qd2 BIG n:=h.1
 have h2:qd2 BIG d:=h.2
 unfold qd2 BIG at h1 h2
 show(inB d 1 400=true->(inB n (-10000000000) 10000000000=true->((-4000000000000000000<=n/\n<=4000000000000000000)/\-4000000000000000000<=d/\d<=4000000000000000000)/\(qf2 n d==1)=qw4 (n,d))/\(inB n (-10000000000) 10000000000=false->false=qw4 (n,d)))/\(inB d 1 400=false->false=qw4 (n,d))
 have e0:qw4 (n,d)=(inB d 1 400 && inB n (-10000000000) 10000000000 && (qf2 n d==1)):=rfl
 rw[e0]
 refine⟨λc1=>⟨λc2=>⟨⟨⟨by omega,by omega⟩,by omega,by omega⟩,by rw[c1,c2]; rfl⟩,λc2=>by rw[c1,c2]; rfl⟩,λc1=>by rw[c1]; rfl⟩
theorem w0x {l:List (Int × Int)} {i:Nat} (hi:i<l.length):nR l i=l[i]:=by
 show l.getD i _=_
 rw[List.getD_eq_getElem?_getD,List.getElem?_eq_getElem hi]
 rfl
structure xc4 (l:List (Int × Int)) (k:Nat):Prop where
 le:k<=l.length
 ok:∀i,i<k->qw4 (nR l i)=true
abbrev xp2:qc7:=qg3 true none [wo1] [.bool] (λx=>x.1.length<=1000/\∀i,i<x.1.length->qd2 BIG (nR x.1 i).1/\qd2 BIG (nR x.1 i).2) (λx=>(x.1.all qw4,()))
def xc5 (l:List (Int × Int)):Nat->Option Inv
 | 0=>some (Inv.of [7] 0 (λk:Nat=>[(7,.lit (.int .i64 k))]) (λ_=>[]) (λk=>xc4 l k) (λk=>l.length-k))
 | _=>none
theorem wl7:qd8 Try.prog 71 xp2:=by
 refine meets (snd (SpecsOk.cons wr9 (SpecsOk.nil _))) Try.func71 rfl rfl (λx=>xc5 x.1) (λ_=>by kernel_rfl) (by decide) ?_
 rintro⟨l,⟨⟩⟩ h
 revert l
 intro(l:List (Int × Int)) (h:l.length<=1000/\∀i,i<l.length->qd2 BIG (nR l i).1/\qd2 BIG (nR l i).2)
 refine @qe0 _ (∃(v0:Unit),∃(v1:Nat),xc4 l v1/\(((0:Int)=(↑v1:Int)/\True)/\True)/\∀(v2:Nat),xc4 l v2->(decide ((↑v2:Int)<(↑(List.length l):Int))=true->((0:Int)<=(↑v2:Int)/\(↑v2:Int)<(↑(List.length l):Int))/\(qd2 BIG (Prod.fst (qa1 (Ty.prod (Ty.int .i64) (Ty.int .i64)) l (Int.toNat (↑v2:Int))))/\qd2 BIG (Prod.snd (qa1 (Ty.prod (Ty.int .i64) (Ty.int .i64)) l (Int.toNat (↑v2:Int)))))/\((!qw4 (Prod.fst (qa1 (Ty.prod (Ty.int .i64) (Ty.int .i64)) l (Int.toNat (↑v2:Int))),Prod.snd (qa1 (Ty.prod (Ty.int .i64) (Ty.int .i64)) l (Int.toNat (↑v2:Int)))))=true->false=List.all l qw4)/\((!qw4 (Prod.fst (qa1 (Ty.prod (Ty.int .i64) (Ty.int .i64)) l (Int.toNat (↑v2:Int))),Prod.snd (qa1 (Ty.prod (Ty.int .i64) (Ty.int .i64)) l (Int.toNat (↑v2:Int)))))=false->fits .i64 ((↑v2:Int)+(1:Int))/\∃(v6:Nat),xc4 l v6/\List.length l-v6<List.length l-v2/\((↑v2:Int)+(1:Int)=(↑v6:Int)/\True)/\True))/\(decide ((↑v2:Int)<(↑(List.length l):Int))=false->true=List.all l qw4)) (by kernel_rfl) ?_
 try simp only[z0,z1,z2,z3,z4,z5,z6,z7,z8,z9,z10,Int.reduceEq,z11,z12,z13,z14,z15,z16,z17,z18,z19,z20,z21,z22,z23,z24,z25,z26,z27,z28,z29,z30,Int.reduceLE,Int.reduceLT,z31,z32,z33,z34,qa3]
 try simp only[qb3,qb4,qc8,List.set_cons_zero,List.cons.injEq,and_true,true_and]
 refine⟨(),0,⟨Nat.zero_le _,by omega⟩,rfl,λk hk=>⟨λhlt=>⟨hlt,h.2 k hlt,λc=>?_,λc=>⟨?_,k+1,⟨hlt,λi hi=>?_⟩,by omega,by push_cast; rfl⟩⟩,λhge=>?_⟩⟩
 ·symm
  rw[List.all_eq_false]
  exact⟨nR l k,by rw[w0x hlt]; exact List.getElem_mem _,by rw[show qw4 (nR l k)=false from c]; simp⟩
 ·exact qb9 (by omega) (by have:=h.1; omega)
 ·by_cases e:i=k
  ·subst e; exact c
  ·exact hk.ok i (by omega)
 ·symm
  rw[List.all_eq_true]
  intro x hx
  obtain⟨i,hi,rfl⟩:=List.mem_iff_getElem.1 hx
  have:=hk.ok i (by have:=hk.le; omega)
  rwa [w0x hi] at this
def ql8 (m:List (List Int)) (x:List (Int × Int)) (y:List Int):Bool:=
 decide (qu7 m y=0) && decide (x.length=(nL m 0).length) && x.all qw4 && (List.range m.length).all λa=>decide (wm3 (qd9 (nL m a) x (nL m a).length) (qd5 (nI y a) 1)=0)
structure xc6 (m:List (List Int)) (x:List (Int × Int)) (y:List Int) (k:Nat):Prop where
 le:k<=m.length
 ok:∀a,a<k->wm3 (qd9 (nL m a) x (nL m a).length) (qd5 (nI y a) 1)=0
structure q7b (m:List (List Int)) (x:List (Int × Int)) (y:List Int):Prop where
 fit:q51 m
 len:x.length<=1000
 val:∀i,i<x.length->qd2 BIG (nR x i).1/\qd2 BIG (nR x i).2
abbrev xz5:qc7:=qg3 true none [ql6,wo1,qf7] [.bool] (λx=>q7b x.1 x.2.1 x.2.2.1) (λx=>(ql8 x.1 x.2.1 x.2.2.1,()))
def xp3 (m:List (List Int)) (x:List (Int × Int)) (y:List Int):Nat->Option Inv
 | 0=>some (Inv.of [29] 0 (λk:Nat=>[(29,.lit (.int .i64 k))]) (λ_=>[]) (λk=>xc6 m x y k) (λk=>m.length-k))
 | _=>none
theorem xc7 {m:List (List Int)} {y:List Int} (h:qu7 m y=0):qe7 m=true/\y.length=m.length/\∀k,k<y.length->qd2 BIG (nI y k):=by
 have h0:qt6 m y []=0:=by rw[(wa0 (pix:=[]) h).1]; rfl
 have hA:=Asked.of h0
 refine⟨hA.val,hA.len,λk hk=>?_⟩
 have h1:=hA.at_ k (by rw[<- hA.len]; exact hk)
 unfold qd2 at h1
 unfold qd2 BIG
 omega
theorem ws0:qd8 Try.prog 37 xz5:=by
 refine meets (snd (SpecsOk.cons w6s (SpecsOk.cons wl7 (SpecsOk.cons w26 (SpecsOk.cons wl6 (SpecsOk.cons w25 (SpecsOk.nil _))))))) Try.func37 rfl rfl (λx=>xp3 x.1 x.2.1 x.2.2.1) (λ_=>by kernel_rfl) (by decide) ?_
 rintro⟨m,x,y,⟨⟩⟩ h
 revert m x y
 intro(m:List (List Int)) (x:List (Int × Int)) (y:List Int) (h:q7b m x y)
 refine @qe0 _ (q51 m/\((!qu7 m y==(0:Int))=true->false=ql8 m x y)/\((!qu7 m y==(0:Int))=false->((0:Int)<=(0:Int)/\(0:Int)<(↑(List.length m):Int))/\(((↑(List.length x):Int) != (↑(List.length (qa1 (Ty.list (Ty.int .i64)) m (0:Nat))):Int))=true->false=ql8 m x y)/\(((↑(List.length x):Int) != (↑(List.length (qa1 (Ty.list (Ty.int .i64)) m (0:Nat))):Int))=false->(List.length x<=(1000:Nat)/\∀(v2:Nat),v2<List.length x->qd2 BIG (Prod.fst (nR x v2))/\qd2 BIG (Prod.snd (nR x v2)))/\((!List.all x qw4)=true->false=ql8 m x y)/\((!List.all x qw4)=false->∃(v3:Unit),∃(v4:Nat),xc6 m x y v4/\(((0:Int)=(↑v4:Int)/\True)/\True)/\∀(v5:Nat),xc6 m x y v5->(decide ((↑v5:Int)<(↑(List.length m):Int))=true->((0:Int)<=(↑v5:Int)/\(↑v5:Int)<(↑(List.length m):Int))/\w7y (qa1 (Ty.list (Ty.int .i64)) m (Int.toNat (↑v5:Int))) x/\((0:Int)<=(↑v5:Int)/\(↑v5:Int)<(↑(List.length y):Int))/\qd2 BIG (qa1 (Ty.int .i64) y (Int.toNat (↑v5:Int)))/\(RxOk (300:Nat) (Prod.fst (qd9 (qa1 (Ty.list (Ty.int .i64)) m (Int.toNat (↑v5:Int))) x (List.length (qa1 (Ty.list (Ty.int .i64)) m (Int.toNat (↑v5:Int))))),Prod.fst (Prod.snd (qd9 (qa1 (Ty.list (Ty.int .i64)) m (Int.toNat (↑v5:Int))) x (List.length (qa1 (Ty.list (Ty.int .i64)) m (Int.toNat (↑v5:Int)))))),Prod.snd (Prod.snd (qd9 (qa1 (Ty.list (Ty.int .i64)) m (Int.toNat (↑v5:Int))) x (List.length (qa1 (Ty.list (Ty.int .i64)) m (Int.toNat (↑v5:Int)))))))/\RxOk (300:Nat) (Prod.fst (qd5 (qa1 (Ty.int .i64) y (Int.toNat (↑v5:Int))) (1:Int)),Prod.fst (Prod.snd (qd5 (qa1 (Ty.int .i64) y (Int.toNat (↑v5:Int))) (1:Int))),Prod.snd (Prod.snd (qd5 (qa1 (Ty.int .i64) y (Int.toNat (↑v5:Int))) (1:Int)))))/\((wm3 (Prod.fst (qd9 (qa1 (Ty.list (Ty.int .i64)) m (Int.toNat (↑v5:Int))) x (List.length (qa1 (Ty.list (Ty.int .i64)) m (Int.toNat (↑v5:Int))))),Prod.fst (Prod.snd (qd9 (qa1 (Ty.list (Ty.int .i64)) m (Int.toNat (↑v5:Int))) x (List.length (qa1 (Ty.list (Ty.int .i64)) m (Int.toNat (↑v5:Int)))))),Prod.snd (Prod.snd (qd9 (qa1 (Ty.list (Ty.int .i64)) m (Int.toNat (↑v5:Int))) x (List.length (qa1 (Ty.list (Ty.int .i64)) m (Int.toNat (↑v5:Int))))))) (Prod.fst (qd5 (qa1 (Ty.int .i64) y (Int.toNat (↑v5:Int))) (1:Int)),Prod.fst (Prod.snd (qd5 (qa1 (Ty.int .i64) y (Int.toNat (↑v5:Int))) (1:Int))),Prod.snd (Prod.snd (qd5 (qa1 (Ty.int .i64) y (Int.toNat (↑v5:Int))) (1:Int)))) != (0:Int))=true->false=ql8 m x y)/\((wm3 (Prod.fst (qd9 (qa1 (Ty.list (Ty.int .i64)) m (Int.toNat (↑v5:Int))) x (List.length (qa1 (Ty.list (Ty.int .i64)) m (Int.toNat (↑v5:Int))))),Prod.fst (Prod.snd (qd9 (qa1 (Ty.list (Ty.int .i64)) m (Int.toNat (↑v5:Int))) x (List.length (qa1 (Ty.list (Ty.int .i64)) m (Int.toNat (↑v5:Int)))))),Prod.snd (Prod.snd (qd9 (qa1 (Ty.list (Ty.int .i64)) m (Int.toNat (↑v5:Int))) x (List.length (qa1 (Ty.list (Ty.int .i64)) m (Int.toNat (↑v5:Int))))))) (Prod.fst (qd5 (qa1 (Ty.int .i64) y (Int.toNat (↑v5:Int))) (1:Int)),Prod.fst (Prod.snd (qd5 (qa1 (Ty.int .i64) y (Int.toNat (↑v5:Int))) (1:Int))),Prod.snd (Prod.snd (qd5 (qa1 (Ty.int .i64) y (Int.toNat (↑v5:Int))) (1:Int)))) != (0:Int))=false->fits .i64 ((↑v5:Int)+(1:Int))/\∃(v9:Nat),xc6 m x y v9/\List.length m-v9<List.length m-v5/\((↑v5:Int)+(1:Int)=(↑v9:Int)/\True)/\True))/\(decide ((↑v5:Int)<(↑(List.length m):Int))=false->true=ql8 m x y))))) (by kernel_rfl) ?_
 try simp only[z0,z1,z2,z3,z4,z5,z6,z7,z8,z9,z10,Int.reduceEq,z11,z12,z13,z14,z15,z16,z17,z18,z19,z20,z21,z22,z23,z24,z25,z26,z27,z28,z29,z30,Int.reduceLE,Int.reduceLT,z31,z32,z33,z34,qa3]
 try simp only[qb3,qb4,qc8,List.set_cons_zero,List.cons.injEq,and_true,true_and]
 refine⟨h.fit,λh1=>by simp[ql8,h1],λh1=>?_⟩
 obtain⟨hv,hyl,hyb⟩:=xc7 h1
 have hM:=Mk.of hv
 have m1:=hM.rows1
 have m6:=hM.rows6
 have m10:=hM.pix10
 refine⟨by omega,λh2=>by simp[ql8,h1,show ¬x.length=(nL m 0).length by omega],λh2=>⟨⟨h.len,h.val⟩,λh3=>by unfold ql8; rw[h3]; simp,λh3=>?_⟩⟩
 have h2:x.length=(nL m 0).length:=by omega
 have hS:∀a,a<m.length->w7y (nL m a) x:=λa ha=>by
  have e:=hM.each a ha
  refine⟨by omega,by omega,λj hj=>?_,λj hj=>h.val j (by omega)⟩
  have:=hM.small a ha j (by omega)
  exact⟨by omega,this.2⟩
 refine⟨(),0,⟨Nat.zero_le _,by omega⟩,rfl,λk hk=>⟨λhlt=>?_,λhge=>?_⟩⟩
 ·have hs:=hS k hlt
  have hyk:qd2 BIG (nI y k):=hyb k (by omega)
  have e:=hM.each k hlt
  refine⟨hlt,hs,by omega,hyk,⟨(wr7 hs _ (Nat.le_refl _)).up (by omega),(q43 hyk (by unfold qd2 BIG; omega)).up (by omega)⟩,λh4=>?_,λh4=>⟨qb9 (by omega) (by omega),k+1,⟨hlt,λa ha=>?_⟩,by omega,by push_cast; rfl⟩⟩
  ·have h4:¬wm3 (qd9 (nL m k) x (nL m k).length) (qd5 (nI y k) 1)=0:=h4
   symm
   unfold ql8
   rw[Bool.and_eq_false_iff]
   right
   rw[List.all_eq_false]
   exact⟨k,List.mem_range.2 hlt,by simp[h4]⟩
  ·by_cases q:a=k
   ·subst q; exact h4
   ·exact hk.ok a (by omega)
 ·symm
  unfold ql8
  rw[h1,h2,h3]
  simp only[decide_true,Bool.true_and,List.all_eq_true,decide_eq_true_eq,List.mem_range]
  exact λa ha=>hk.ok a (by have:=hk.le; omega)
end Go.Proofs.Ytdibdlelmkcccaa
set_option linter.unusedVariables false
set_option linter.unusedSimpArgs false
namespace Go.Proofs.Ytdibdlelmkcccaa
open Go Go.RowKit Eng
theorem xc9 (r:Int × Int):qw4 r=q14 r:=by
 rw[Bool.eq_iff_iff]
 unfold qw4 q14
 simp only[Bool.and_eq_true,qu6,decide_eq_true_eq]
 constructor
 ·rintro⟨⟨⟨h1,h2⟩,h3,h4⟩,h5⟩
  exact⟨⟨⟨⟨h1,h2⟩,by omega⟩,h4⟩,h5⟩
 ·rintro⟨⟨⟨⟨h1,h2⟩,h3⟩,h4⟩,h5⟩
  exact⟨⟨⟨h1,h2⟩,by omega,h4⟩,h5⟩
theorem xd0 {r:Int × Int} (h:q14 r=true):qd2 BIG r.1/\qd2 BIG r.2:=by
 unfold q14 at h
 simp only[Bool.and_eq_true,decide_eq_true_eq] at h
 obtain⟨⟨⟨⟨h1,h2⟩,h3⟩,h4⟩,h5⟩:=h
 unfold qd2 BIG
 omega
theorem wb4 {m:List (List Int)} {y:List Int} {k:Int} (h:(qc9 m y k).2=0):q7k m y k=0:=by
 unfold qc9 at h
 split at h
 ·rename_i e; exact e
 ·exact h
theorem w75 {m:List (List Int)} {y:List Int} {g:Fit} (h:qj0 m y g=true):(qo0 m y).2=0/\(qo0 m y).1.1.length<=g.1.length:=by
 obtain⟨h1,h2⟩:=w0z h
 have hI:=qy5 h1
 have hA:=Asked.of hI.chk
 have hc:qt6 m y []=0:=by
  rw[wq5]
  refine Classical.byContradiction λq=>?_
  have:=w6q (pix:=g.1) q
  rw[hI.chk] at this
  exact q this.symm
 have hn:=hA.nam.len
 have h10:=hA.msk.pix10
 have hg:g∈qg1 m y 10:=(q7c h).2 (by omega)
 have hne:qg1 m y 10≠[]:=λe=>by rw[e] at hg; cases hg
 have e1:qn7 m y=(spL (qg1 m y 10),0):=by unfold qn7; rw[if_pos hc,if_neg hne]
 have e2:qo0 m y=(nF (spL (qg1 m y 10)) 0,0):=by unfold qo0; rw[e1]; rfl
 rw[e2]
 refine⟨rfl,?_⟩
 have hp:(qg1 m y 10).Pairwise λf g=>f.1.length<=g.1.length:=q8p _ _ _
 generalize qg1 m y 10=L at *
 cases L with
 | nil=>exact absurd rfl hne
 | cons x t=>
  have e3:nF (spL (x :: t)) 0=x:=by
   unfold spL
   rw[List.takeWhile_cons,if_pos (show decide (x.1.length<=(nF (x :: t) 0).1.length)=true from decide_eq_true (Nat.le_refl _))]
   rfl
  rw[e3]
  rcases List.mem_cons.1 hg with rfl | hg
  ·exact Nat.le_refl _
  ·exact(List.pairwise_cons.1 hp).1 g hg
structure GOk (m:List (List Int)) (y:List Int) (k:Int) (g:Fit):Prop where
 le:(g.1.length:Int)<=k
 sp:¬g.1.length<(qo0 m y).1.1.length
 l1:g.1.length<=10
 l2:g.2.length<=10
 isf:qj0 m y g=true
 pic:q4f m g.1 g.2=0
 pre:q7b m (q4g m g.1 g.2) y
 mak:ql8 m (q4g m g.1 g.2) y=true
theorem gOk {m:List (List Int)} {y:List Int} {k:Int} (h:q51 m) (hk:q7k m y k=0) {g:Fit} (hg:g∈qg1 m y k):GOk m y k g:=by
 obtain⟨hr,hk0,hk1⟩:=xf5 hk
 obtain⟨pix,hp,rfl⟩:=wl9 _ g hg
 have hI:=qy5 hp
 have hA:=Asked.of hI.chk
 have hf:=w73 hp
 have hle:=(q7c hf).1 hg
 have hs:=w75 hf
 have hM:=hA.msk
 have hn:=hA.nam.len
 have h10:=hM.pix10
 have hN:=hA.nam
 have hlen:=hI.len
 have hval:=wr0 hp
 have hmak:∀a,a<m.length->_:=λa ha=>w7w hp ha
 have hfst:=hI.fst
 have hv:∀j,j<pix.length->q14 (nR (qk0 m y pix).1.2 j)=true:=λj hj=>by
  rw[w0x (by rw[hlen]; exact hj)]
  exact(hval _ (List.getElem_mem _)).1
 have hvf:q8g (qk0 m y pix).1=true:=by
  unfold qj0 at hf
  simp only[Bool.and_eq_true] at hf
  exact hf.1.1.1
 have hE:q4f m (qk0 m y pix).1.1 (qk0 m y pix).1.2=0:=by
  have e:=hI.chk
  unfold qt6 at e
  unfold q4f
  rw[if_neg (by rw[hA.val]; simp[hvf]),hfst]
  split at e
  ·cases e
  ·split at e
   ·cases e
   ·split at e
    ·cases e
    ·exact e
 have hR:q4g m (qk0 m y pix).1.1 (qk0 m y pix).1.2=q25 (nL m 0).length pix (qk0 m y pix).1.2 pix.length:=by
  unfold q4g
  rw[if_pos hE,hfst]
 have hall:=w24 hN hv
 refine⟨hle,by omega,by omega,by omega,hf,hE,⟨h,?_,?_⟩,?_⟩
 ·rw[hR,qy1]; omega
 ·rw[hR]
  intro i hi
  have hq:nR (q25 (nL m 0).length pix (qk0 m y pix).1.2 pix.length) i∈q25 (nL m 0).length pix (qk0 m y pix).1.2 pix.length:=by rw[w0x hi]; exact List.getElem_mem _
  exact xd0 (hall _ hq)
 ·rw[hR]
  unfold ql8
  simp only[Bool.and_eq_true,decide_eq_true_eq,List.all_eq_true,List.mem_range]
  refine⟨⟨⟨hr,qy1 _ _ _ _⟩,λx hx=>by rw[xc9]; exact hall x hx⟩,λa ha=>?_⟩
  rw[hM.each a ha]
  exact hmak a ha
abbrev xz9:qc7:=qg3 true none [ql6,qf7,q3y,qg4] [.bool] (λx=>q51 x.1) (λ_=>(true,()))
def xp7 (m:List (List Int)) (y:List Int) (f:Fit) (k:Int):Nat->Option Inv
 | 0=>some (Inv.of [14,72] 2 (λi:Nat=>[(14,.lit (.bool (q4h (qc9 m y k).1 f i))),(72,.lit (.int .i64 i))]) (λi=>[.box 30 (.cons (.dat (.int .i64) f.1) (.cons (.dat xk4 f.2) .nil)),.box 30 (.cons (.dat (.int .i64) (qo0 m y).1.1) (.cons (.dat xk4 (qo0 m y).1.2) .nil))]) (λi=>i<=(qc9 m y k).1.length) (λi=>(qc9 m y k).1.length-i))
 | _=>none
theorem q1d:qd8 Try.prog 7 xz9:=by
 refine meets (snd (SpecsOk.cons w6j (SpecsOk.cons w2s (SpecsOk.cons wk8 (SpecsOk.cons wj7 (SpecsOk.cons wp0 (SpecsOk.cons wp8 (SpecsOk.cons q6c (SpecsOk.cons w28 (SpecsOk.cons ws0 (SpecsOk.nil _))))))))))) Try.func7 rfl rfl (λx=>xp7 x.1 x.2.1 x.2.2.1 x.2.2.2.1) (λ_=>by kernel_rfl) (by decide) ?_
 rintro⟨m,y,f,k,⟨⟩⟩ h
 revert m y f k
 intro(m:List (List Int)) (y:List Int) (f:List Int × List (Int × Int)) (k:Int) (h:q51 m)
 refine @qe0 _ (q51 m/\((!qy3 m)=true->True/\true=true)/\((!qy3 m)=false->List.length [y,Prod.fst f]<=(1000:Nat)/\(q99 [y,Prod.fst f]=true->True/\true=true)/\(q99 [y,Prod.fst f]=false->(decide ((100:Int)<(↑(List.length (Prod.snd f)):Int))=true->True/\true=true)/\(decide ((100:Int)<(↑(List.length (Prod.snd f)):Int))=false->q36 m y/\(qs7 m (Prod.fst f) y/\List.length (Prod.fst f)<=(100000:Nat)/\List.length (Prod.snd f)<=(100000:Nat))/\(qj0 m y (Prod.fst f,Prod.snd f)=true->((Prod.snd (qo0 m y) != (0:Int))=true->false=true)/\((Prod.snd (qo0 m y) != (0:Int))=false->(decide ((↑(List.length (Prod.fst f)):Int)<(↑(List.length (Prod.fst (Prod.fst (qo0 m y)))):Int))=true->false=true)/\(decide ((↑(List.length (Prod.fst f)):Int)<(↑(List.length (Prod.fst (Prod.fst (qo0 m y)))):Int))=false->(q7k m y k=(0:Int)->qk9 m y k)/\((Prod.snd (qc9 m y k) != (0:Int))=true->True/\true=true)/\((Prod.snd (qc9 m y k) != (0:Int))=false->∃(v7:Unit),∃(v8:Nat),Nat.le v8 (List.length (Prod.fst (qc9 m y k)))/\((false=q4h (Prod.fst (qc9 m y k)) f v8/\(0:Int)=(↑v8:Int)/\True)/\(Prod.fst f=Prod.fst f/\Prod.snd f=Prod.snd f/\True)/\(Prod.fst (Prod.fst (qo0 m y))=Prod.fst (Prod.fst (qo0 m y))/\Prod.snd (Prod.fst (qo0 m y))=Prod.snd (Prod.fst (qo0 m y))/\True)/\True)/\∀(v9:Nat),Nat.le v9 (List.length (Prod.fst (qc9 m y k)))->(decide ((↑v9:Int)<(↑(List.length (Prod.fst (qc9 m y k))):Int))=true->((0:Int)<=(↑v9:Int)/\(↑v9:Int)<(↑(List.length (Prod.fst (qc9 m y k))):Int))/\(decide (k<(↑(List.length (Prod.fst (qa1 (Ty.prod (Ty.list (Ty.int .i64)) (Ty.list (Ty.prod (Ty.int .i64) (Ty.int .i64)))) (Prod.fst (qc9 m y k)) (Int.toNat (↑v9:Int))))):Int))=true->false=true)/\(decide (k<(↑(List.length (Prod.fst (qa1 (Ty.prod (Ty.list (Ty.int .i64)) (Ty.list (Ty.prod (Ty.int .i64) (Ty.int .i64)))) (Prod.fst (qc9 m y k)) (Int.toNat (↑v9:Int))))):Int))=false->(decide ((↑(List.length (Prod.fst (qa1 (Ty.prod (Ty.list (Ty.int .i64)) (Ty.list (Ty.prod (Ty.int .i64) (Ty.int .i64)))) (Prod.fst (qc9 m y k)) (Int.toNat (↑v9:Int))))):Int)<(↑(List.length (Prod.fst (Prod.fst (qo0 m y)))):Int))=true->false=true)/\(decide ((↑(List.length (Prod.fst (qa1 (Ty.prod (Ty.list (Ty.int .i64)) (Ty.list (Ty.prod (Ty.int .i64) (Ty.int .i64)))) (Prod.fst (qc9 m y k)) (Int.toNat (↑v9:Int))))):Int)<(↑(List.length (Prod.fst (Prod.fst (qo0 m y)))):Int))=false->(qs7 m (Prod.fst (qa1 (Ty.prod (Ty.list (Ty.int .i64)) (Ty.list (Ty.prod (Ty.int .i64) (Ty.int .i64)))) (Prod.fst (qc9 m y k)) (Int.toNat (↑v9:Int)))) y/\List.length (Prod.fst (qa1 (Ty.prod (Ty.list (Ty.int .i64)) (Ty.list (Ty.prod (Ty.int .i64) (Ty.int .i64)))) (Prod.fst (qc9 m y k)) (Int.toNat (↑v9:Int))))<=(100000:Nat)/\List.length (Prod.snd (qa1 (Ty.prod (Ty.list (Ty.int .i64)) (Ty.list (Ty.prod (Ty.int .i64) (Ty.int .i64)))) (Prod.fst (qc9 m y k)) (Int.toNat (↑v9:Int))))<=(100000:Nat))/\((!qj0 m y (Prod.fst (qa1 (Ty.prod (Ty.list (Ty.int .i64)) (Ty.list (Ty.prod (Ty.int .i64) (Ty.int .i64)))) (Prod.fst (qc9 m y k)) (Int.toNat (↑v9:Int))),Prod.snd (qa1 (Ty.prod (Ty.list (Ty.int .i64)) (Ty.list (Ty.prod (Ty.int .i64) (Ty.int .i64)))) (Prod.fst (qc9 m y k)) (Int.toNat (↑v9:Int)))))=true->false=true)/\((!qj0 m y (Prod.fst (qa1 (Ty.prod (Ty.list (Ty.int .i64)) (Ty.list (Ty.prod (Ty.int .i64) (Ty.int .i64)))) (Prod.fst (qc9 m y k)) (Int.toNat (↑v9:Int))),Prod.snd (qa1 (Ty.prod (Ty.list (Ty.int .i64)) (Ty.list (Ty.prod (Ty.int .i64) (Ty.int .i64)))) (Prod.fst (qc9 m y k)) (Int.toNat (↑v9:Int)))))=false->(q4h (Prod.fst (qc9 m y k)) f v9=true->(List.length (Prod.fst (qa1 (Ty.prod (Ty.list (Ty.int .i64)) (Ty.list (Ty.prod (Ty.int .i64) (Ty.int .i64)))) (Prod.fst (qc9 m y k)) (Int.toNat (↑v9:Int))))<=(100000:Nat)/\List.length (Prod.snd (qa1 (Ty.prod (Ty.list (Ty.int .i64)) (Ty.list (Ty.prod (Ty.int .i64) (Ty.int .i64)))) (Prod.fst (qc9 m y k)) (Int.toNat (↑v9:Int))))<=(100000:Nat))/\((q4f m (Prod.fst (qa1 (Ty.prod (Ty.list (Ty.int .i64)) (Ty.list (Ty.prod (Ty.int .i64) (Ty.int .i64)))) (Prod.fst (qc9 m y k)) (Int.toNat (↑v9:Int)))) (Prod.snd (qa1 (Ty.prod (Ty.list (Ty.int .i64)) (Ty.list (Ty.prod (Ty.int .i64) (Ty.int .i64)))) (Prod.fst (qc9 m y k)) (Int.toNat (↑v9:Int)))) != (0:Int))=true->false=true)/\((q4f m (Prod.fst (qa1 (Ty.prod (Ty.list (Ty.int .i64)) (Ty.list (Ty.prod (Ty.int .i64) (Ty.int .i64)))) (Prod.fst (qc9 m y k)) (Int.toNat (↑v9:Int)))) (Prod.snd (qa1 (Ty.prod (Ty.list (Ty.int .i64)) (Ty.list (Ty.prod (Ty.int .i64) (Ty.int .i64)))) (Prod.fst (qc9 m y k)) (Int.toNat (↑v9:Int)))) != (0:Int))=false->q7b m (q4g m (Prod.fst (qa1 (Ty.prod (Ty.list (Ty.int .i64)) (Ty.list (Ty.prod (Ty.int .i64) (Ty.int .i64)))) (Prod.fst (qc9 m y k)) (Int.toNat (↑v9:Int)))) (Prod.snd (qa1 (Ty.prod (Ty.list (Ty.int .i64)) (Ty.list (Ty.prod (Ty.int .i64) (Ty.int .i64)))) (Prod.fst (qc9 m y k)) (Int.toNat (↑v9:Int))))) y/\((!ql8 m (q4g m (Prod.fst (qa1 (Ty.prod (Ty.list (Ty.int .i64)) (Ty.list (Ty.prod (Ty.int .i64) (Ty.int .i64)))) (Prod.fst (qc9 m y k)) (Int.toNat (↑v9:Int)))) (Prod.snd (qa1 (Ty.prod (Ty.list (Ty.int .i64)) (Ty.list (Ty.prod (Ty.int .i64) (Ty.int .i64)))) (Prod.fst (qc9 m y k)) (Int.toNat (↑v9:Int))))) y)=true->false=true)/\((!ql8 m (q4g m (Prod.fst (qa1 (Ty.prod (Ty.list (Ty.int .i64)) (Ty.list (Ty.prod (Ty.int .i64) (Ty.int .i64)))) (Prod.fst (qc9 m y k)) (Int.toNat (↑v9:Int)))) (Prod.snd (qa1 (Ty.prod (Ty.list (Ty.int .i64)) (Ty.list (Ty.prod (Ty.int .i64) (Ty.int .i64)))) (Prod.fst (qc9 m y k)) (Int.toNat (↑v9:Int))))) y)=false->fits .i64 ((↑v9:Int)+(1:Int))/\∃(v18:Nat),Nat.le v18 (List.length (Prod.fst (qc9 m y k)))/\List.length (Prod.fst (qc9 m y k))-v18<List.length (Prod.fst (qc9 m y k))-v9/\(true=q4h (Prod.fst (qc9 m y k)) f v18/\(↑v9:Int)+(1:Int)=(↑v18:Int)/\True)/\(Prod.fst f=Prod.fst f/\Prod.snd f=Prod.snd f/\True)/\(Prod.fst (Prod.fst (qo0 m y))=Prod.fst (Prod.fst (qo0 m y))/\Prod.snd (Prod.fst (qo0 m y))=Prod.snd (Prod.fst (qo0 m y))/\True)/\True)))/\(q4h (Prod.fst (qc9 m y k)) f v9=false->wj1 (Prod.fst (qa1 (Ty.prod (Ty.list (Ty.int .i64)) (Ty.list (Ty.prod (Ty.int .i64) (Ty.int .i64)))) (Prod.fst (qc9 m y k)) (Int.toNat (↑v9:Int))),Prod.snd (qa1 (Ty.prod (Ty.list (Ty.int .i64)) (Ty.list (Ty.prod (Ty.int .i64) (Ty.int .i64)))) (Prod.fst (qc9 m y k)) (Int.toNat (↑v9:Int))))/\(List.length (Prod.fst (qa1 (Ty.prod (Ty.list (Ty.int .i64)) (Ty.list (Ty.prod (Ty.int .i64) (Ty.int .i64)))) (Prod.fst (qc9 m y k)) (Int.toNat (↑v9:Int))))<=(100000:Nat)/\List.length (Prod.snd (qa1 (Ty.prod (Ty.list (Ty.int .i64)) (Ty.list (Ty.prod (Ty.int .i64) (Ty.int .i64)))) (Prod.fst (qc9 m y k)) (Int.toNat (↑v9:Int))))<=(100000:Nat))/\((q4f m (Prod.fst (qa1 (Ty.prod (Ty.list (Ty.int .i64)) (Ty.list (Ty.prod (Ty.int .i64) (Ty.int .i64)))) (Prod.fst (qc9 m y k)) (Int.toNat (↑v9:Int)))) (Prod.snd (qa1 (Ty.prod (Ty.list (Ty.int .i64)) (Ty.list (Ty.prod (Ty.int .i64) (Ty.int .i64)))) (Prod.fst (qc9 m y k)) (Int.toNat (↑v9:Int)))) != (0:Int))=true->false=true)/\((q4f m (Prod.fst (qa1 (Ty.prod (Ty.list (Ty.int .i64)) (Ty.list (Ty.prod (Ty.int .i64) (Ty.int .i64)))) (Prod.fst (qc9 m y k)) (Int.toNat (↑v9:Int)))) (Prod.snd (qa1 (Ty.prod (Ty.list (Ty.int .i64)) (Ty.list (Ty.prod (Ty.int .i64) (Ty.int .i64)))) (Prod.fst (qc9 m y k)) (Int.toNat (↑v9:Int)))) != (0:Int))=false->q7b m (q4g m (Prod.fst (qa1 (Ty.prod (Ty.list (Ty.int .i64)) (Ty.list (Ty.prod (Ty.int .i64) (Ty.int .i64)))) (Prod.fst (qc9 m y k)) (Int.toNat (↑v9:Int)))) (Prod.snd (qa1 (Ty.prod (Ty.list (Ty.int .i64)) (Ty.list (Ty.prod (Ty.int .i64) (Ty.int .i64)))) (Prod.fst (qc9 m y k)) (Int.toNat (↑v9:Int))))) y/\((!ql8 m (q4g m (Prod.fst (qa1 (Ty.prod (Ty.list (Ty.int .i64)) (Ty.list (Ty.prod (Ty.int .i64) (Ty.int .i64)))) (Prod.fst (qc9 m y k)) (Int.toNat (↑v9:Int)))) (Prod.snd (qa1 (Ty.prod (Ty.list (Ty.int .i64)) (Ty.list (Ty.prod (Ty.int .i64) (Ty.int .i64)))) (Prod.fst (qc9 m y k)) (Int.toNat (↑v9:Int))))) y)=true->false=true)/\((!ql8 m (q4g m (Prod.fst (qa1 (Ty.prod (Ty.list (Ty.int .i64)) (Ty.list (Ty.prod (Ty.int .i64) (Ty.int .i64)))) (Prod.fst (qc9 m y k)) (Int.toNat (↑v9:Int)))) (Prod.snd (qa1 (Ty.prod (Ty.list (Ty.int .i64)) (Ty.list (Ty.prod (Ty.int .i64) (Ty.int .i64)))) (Prod.fst (qc9 m y k)) (Int.toNat (↑v9:Int))))) y)=false->fits .i64 ((↑v9:Int)+(1:Int))/\∃(v18:Nat),Nat.le v18 (List.length (Prod.fst (qc9 m y k)))/\List.length (Prod.fst (qc9 m y k))-v18<List.length (Prod.fst (qc9 m y k))-v9/\(q1c (Prod.fst (qa1 (Ty.prod (Ty.list (Ty.int .i64)) (Ty.list (Ty.prod (Ty.int .i64) (Ty.int .i64)))) (Prod.fst (qc9 m y k)) (Int.toNat (↑v9:Int))),Prod.snd (qa1 (Ty.prod (Ty.list (Ty.int .i64)) (Ty.list (Ty.prod (Ty.int .i64) (Ty.int .i64)))) (Prod.fst (qc9 m y k)) (Int.toNat (↑v9:Int)))) (Prod.fst f,Prod.snd f)=q4h (Prod.fst (qc9 m y k)) f v18/\(↑v9:Int)+(1:Int)=(↑v18:Int)/\True)/\(Prod.fst f=Prod.fst f/\Prod.snd f=Prod.snd f/\True)/\(Prod.fst (Prod.fst (qo0 m y))=Prod.fst (Prod.fst (qo0 m y))/\Prod.snd (Prod.fst (qo0 m y))=Prod.snd (Prod.fst (qo0 m y))/\True)/\True)))))))/\(decide ((↑v9:Int)<(↑(List.length (Prod.fst (qc9 m y k))):Int))=false->((!qj0 m y (Prod.fst f,Prod.snd f))=true->True/\true=true)/\((!qj0 m y (Prod.fst f,Prod.snd f))=false->((q4h (Prod.fst (qc9 m y k)) f v9==decide ((↑(List.length (Prod.fst f)):Int)<=k))=true->True/\true=true)/\((q4h (Prod.fst (qc9 m y k)) f v9==decide ((↑(List.length (Prod.fst f)):Int)<=k))=false->false=true)))))))/\(qj0 m y (Prod.fst f,Prod.snd f)=false->(q7k m y k=(0:Int)->qk9 m y k)/\((Prod.snd (qc9 m y k) != (0:Int))=true->True/\true=true)/\((Prod.snd (qc9 m y k) != (0:Int))=false->∃(v5:Unit),∃(v6:Nat),Nat.le v6 (List.length (Prod.fst (qc9 m y k)))/\((false=q4h (Prod.fst (qc9 m y k)) f v6/\(0:Int)=(↑v6:Int)/\True)/\(Prod.fst f=Prod.fst f/\Prod.snd f=Prod.snd f/\True)/\(Prod.fst (Prod.fst (qo0 m y))=Prod.fst (Prod.fst (qo0 m y))/\Prod.snd (Prod.fst (qo0 m y))=Prod.snd (Prod.fst (qo0 m y))/\True)/\True)/\∀(v7:Nat),Nat.le v7 (List.length (Prod.fst (qc9 m y k)))->(decide ((↑v7:Int)<(↑(List.length (Prod.fst (qc9 m y k))):Int))=true->((0:Int)<=(↑v7:Int)/\(↑v7:Int)<(↑(List.length (Prod.fst (qc9 m y k))):Int))/\(decide (k<(↑(List.length (Prod.fst (qa1 (Ty.prod (Ty.list (Ty.int .i64)) (Ty.list (Ty.prod (Ty.int .i64) (Ty.int .i64)))) (Prod.fst (qc9 m y k)) (Int.toNat (↑v7:Int))))):Int))=true->false=true)/\(decide (k<(↑(List.length (Prod.fst (qa1 (Ty.prod (Ty.list (Ty.int .i64)) (Ty.list (Ty.prod (Ty.int .i64) (Ty.int .i64)))) (Prod.fst (qc9 m y k)) (Int.toNat (↑v7:Int))))):Int))=false->(decide ((↑(List.length (Prod.fst (qa1 (Ty.prod (Ty.list (Ty.int .i64)) (Ty.list (Ty.prod (Ty.int .i64) (Ty.int .i64)))) (Prod.fst (qc9 m y k)) (Int.toNat (↑v7:Int))))):Int)<(↑(List.length (Prod.fst (Prod.fst (qo0 m y)))):Int))=true->false=true)/\(decide ((↑(List.length (Prod.fst (qa1 (Ty.prod (Ty.list (Ty.int .i64)) (Ty.list (Ty.prod (Ty.int .i64) (Ty.int .i64)))) (Prod.fst (qc9 m y k)) (Int.toNat (↑v7:Int))))):Int)<(↑(List.length (Prod.fst (Prod.fst (qo0 m y)))):Int))=false->(qs7 m (Prod.fst (qa1 (Ty.prod (Ty.list (Ty.int .i64)) (Ty.list (Ty.prod (Ty.int .i64) (Ty.int .i64)))) (Prod.fst (qc9 m y k)) (Int.toNat (↑v7:Int)))) y/\List.length (Prod.fst (qa1 (Ty.prod (Ty.list (Ty.int .i64)) (Ty.list (Ty.prod (Ty.int .i64) (Ty.int .i64)))) (Prod.fst (qc9 m y k)) (Int.toNat (↑v7:Int))))<=(100000:Nat)/\List.length (Prod.snd (qa1 (Ty.prod (Ty.list (Ty.int .i64)) (Ty.list (Ty.prod (Ty.int .i64) (Ty.int .i64)))) (Prod.fst (qc9 m y k)) (Int.toNat (↑v7:Int))))<=(100000:Nat))/\((!qj0 m y (Prod.fst (qa1 (Ty.prod (Ty.list (Ty.int .i64)) (Ty.list (Ty.prod (Ty.int .i64) (Ty.int .i64)))) (Prod.fst (qc9 m y k)) (Int.toNat (↑v7:Int))),Prod.snd (qa1 (Ty.prod (Ty.list (Ty.int .i64)) (Ty.list (Ty.prod (Ty.int .i64) (Ty.int .i64)))) (Prod.fst (qc9 m y k)) (Int.toNat (↑v7:Int)))))=true->false=true)/\((!qj0 m y (Prod.fst (qa1 (Ty.prod (Ty.list (Ty.int .i64)) (Ty.list (Ty.prod (Ty.int .i64) (Ty.int .i64)))) (Prod.fst (qc9 m y k)) (Int.toNat (↑v7:Int))),Prod.snd (qa1 (Ty.prod (Ty.list (Ty.int .i64)) (Ty.list (Ty.prod (Ty.int .i64) (Ty.int .i64)))) (Prod.fst (qc9 m y k)) (Int.toNat (↑v7:Int)))))=false->(q4h (Prod.fst (qc9 m y k)) f v7=true->(List.length (Prod.fst (qa1 (Ty.prod (Ty.list (Ty.int .i64)) (Ty.list (Ty.prod (Ty.int .i64) (Ty.int .i64)))) (Prod.fst (qc9 m y k)) (Int.toNat (↑v7:Int))))<=(100000:Nat)/\List.length (Prod.snd (qa1 (Ty.prod (Ty.list (Ty.int .i64)) (Ty.list (Ty.prod (Ty.int .i64) (Ty.int .i64)))) (Prod.fst (qc9 m y k)) (Int.toNat (↑v7:Int))))<=(100000:Nat))/\((q4f m (Prod.fst (qa1 (Ty.prod (Ty.list (Ty.int .i64)) (Ty.list (Ty.prod (Ty.int .i64) (Ty.int .i64)))) (Prod.fst (qc9 m y k)) (Int.toNat (↑v7:Int)))) (Prod.snd (qa1 (Ty.prod (Ty.list (Ty.int .i64)) (Ty.list (Ty.prod (Ty.int .i64) (Ty.int .i64)))) (Prod.fst (qc9 m y k)) (Int.toNat (↑v7:Int)))) != (0:Int))=true->false=true)/\((q4f m (Prod.fst (qa1 (Ty.prod (Ty.list (Ty.int .i64)) (Ty.list (Ty.prod (Ty.int .i64) (Ty.int .i64)))) (Prod.fst (qc9 m y k)) (Int.toNat (↑v7:Int)))) (Prod.snd (qa1 (Ty.prod (Ty.list (Ty.int .i64)) (Ty.list (Ty.prod (Ty.int .i64) (Ty.int .i64)))) (Prod.fst (qc9 m y k)) (Int.toNat (↑v7:Int)))) != (0:Int))=false->q7b m (q4g m (Prod.fst (qa1 (Ty.prod (Ty.list (Ty.int .i64)) (Ty.list (Ty.prod (Ty.int .i64) (Ty.int .i64)))) (Prod.fst (qc9 m y k)) (Int.toNat (↑v7:Int)))) (Prod.snd (qa1 (Ty.prod (Ty.list (Ty.int .i64)) (Ty.list (Ty.prod (Ty.int .i64) (Ty.int .i64)))) (Prod.fst (qc9 m y k)) (Int.toNat (↑v7:Int))))) y/\((!ql8 m (q4g m (Prod.fst (qa1 (Ty.prod (Ty.list (Ty.int .i64)) (Ty.list (Ty.prod (Ty.int .i64) (Ty.int .i64)))) (Prod.fst (qc9 m y k)) (Int.toNat (↑v7:Int)))) (Prod.snd (qa1 (Ty.prod (Ty.list (Ty.int .i64)) (Ty.list (Ty.prod (Ty.int .i64) (Ty.int .i64)))) (Prod.fst (qc9 m y k)) (Int.toNat (↑v7:Int))))) y)=true->false=true)/\((!ql8 m (q4g m (Prod.fst (qa1 (Ty.prod (Ty.list (Ty.int .i64)) (Ty.list (Ty.prod (Ty.int .i64) (Ty.int .i64)))) (Prod.fst (qc9 m y k)) (Int.toNat (↑v7:Int)))) (Prod.snd (qa1 (Ty.prod (Ty.list (Ty.int .i64)) (Ty.list (Ty.prod (Ty.int .i64) (Ty.int .i64)))) (Prod.fst (qc9 m y k)) (Int.toNat (↑v7:Int))))) y)=false->fits .i64 ((↑v7:Int)+(1:Int))/\∃(v16:Nat),Nat.le v16 (List.length (Prod.fst (qc9 m y k)))/\List.length (Prod.fst (qc9 m y k))-v16<List.length (Prod.fst (qc9 m y k))-v7/\(true=q4h (Prod.fst (qc9 m y k)) f v16/\(↑v7:Int)+(1:Int)=(↑v16:Int)/\True)/\(Prod.fst f=Prod.fst f/\Prod.snd f=Prod.snd f/\True)/\(Prod.fst (Prod.fst (qo0 m y))=Prod.fst (Prod.fst (qo0 m y))/\Prod.snd (Prod.fst (qo0 m y))=Prod.snd (Prod.fst (qo0 m y))/\True)/\True)))/\(q4h (Prod.fst (qc9 m y k)) f v7=false->wj1 (Prod.fst (qa1 (Ty.prod (Ty.list (Ty.int .i64)) (Ty.list (Ty.prod (Ty.int .i64) (Ty.int .i64)))) (Prod.fst (qc9 m y k)) (Int.toNat (↑v7:Int))),Prod.snd (qa1 (Ty.prod (Ty.list (Ty.int .i64)) (Ty.list (Ty.prod (Ty.int .i64) (Ty.int .i64)))) (Prod.fst (qc9 m y k)) (Int.toNat (↑v7:Int))))/\(List.length (Prod.fst (qa1 (Ty.prod (Ty.list (Ty.int .i64)) (Ty.list (Ty.prod (Ty.int .i64) (Ty.int .i64)))) (Prod.fst (qc9 m y k)) (Int.toNat (↑v7:Int))))<=(100000:Nat)/\List.length (Prod.snd (qa1 (Ty.prod (Ty.list (Ty.int .i64)) (Ty.list (Ty.prod (Ty.int .i64) (Ty.int .i64)))) (Prod.fst (qc9 m y k)) (Int.toNat (↑v7:Int))))<=(100000:Nat))/\((q4f m (Prod.fst (qa1 (Ty.prod (Ty.list (Ty.int .i64)) (Ty.list (Ty.prod (Ty.int .i64) (Ty.int .i64)))) (Prod.fst (qc9 m y k)) (Int.toNat (↑v7:Int)))) (Prod.snd (qa1 (Ty.prod (Ty.list (Ty.int .i64)) (Ty.list (Ty.prod (Ty.int .i64) (Ty.int .i64)))) (Prod.fst (qc9 m y k)) (Int.toNat (↑v7:Int)))) != (0:Int))=true->false=true)/\((q4f m (Prod.fst (qa1 (Ty.prod (Ty.list (Ty.int .i64)) (Ty.list (Ty.prod (Ty.int .i64) (Ty.int .i64)))) (Prod.fst (qc9 m y k)) (Int.toNat (↑v7:Int)))) (Prod.snd (qa1 (Ty.prod (Ty.list (Ty.int .i64)) (Ty.list (Ty.prod (Ty.int .i64) (Ty.int .i64)))) (Prod.fst (qc9 m y k)) (Int.toNat (↑v7:Int)))) != (0:Int))=false->q7b m (q4g m (Prod.fst (qa1 (Ty.prod (Ty.list (Ty.int .i64)) (Ty.list (Ty.prod (Ty.int .i64) (Ty.int .i64)))) (Prod.fst (qc9 m y k)) (Int.toNat (↑v7:Int)))) (Prod.snd (qa1 (Ty.prod (Ty.list (Ty.int .i64)) (Ty.list (Ty.prod (Ty.int .i64) (Ty.int .i64)))) (Prod.fst (qc9 m y k)) (Int.toNat (↑v7:Int))))) y/\((!ql8 m (q4g m (Prod.fst (qa1 (Ty.prod (Ty.list (Ty.int .i64)) (Ty.list (Ty.prod (Ty.int .i64) (Ty.int .i64)))) (Prod.fst (qc9 m y k)) (Int.toNat (↑v7:Int)))) (Prod.snd (qa1 (Ty.prod (Ty.list (Ty.int .i64)) (Ty.list (Ty.prod (Ty.int .i64) (Ty.int .i64)))) (Prod.fst (qc9 m y k)) (Int.toNat (↑v7:Int))))) y)=true->false=true)/\((!ql8 m (q4g m (Prod.fst (qa1 (Ty.prod (Ty.list (Ty.int .i64)) (Ty.list (Ty.prod (Ty.int .i64) (Ty.int .i64)))) (Prod.fst (qc9 m y k)) (Int.toNat (↑v7:Int)))) (Prod.snd (qa1 (Ty.prod (Ty.list (Ty.int .i64)) (Ty.list (Ty.prod (Ty.int .i64) (Ty.int .i64)))) (Prod.fst (qc9 m y k)) (Int.toNat (↑v7:Int))))) y)=false->fits .i64 ((↑v7:Int)+(1:Int))/\∃(v16:Nat),Nat.le v16 (List.length (Prod.fst (qc9 m y k)))/\List.length (Prod.fst (qc9 m y k))-v16<List.length (Prod.fst (qc9 m y k))-v7/\(q1c (Prod.fst (qa1 (Ty.prod (Ty.list (Ty.int .i64)) (Ty.list (Ty.prod (Ty.int .i64) (Ty.int .i64)))) (Prod.fst (qc9 m y k)) (Int.toNat (↑v7:Int))),Prod.snd (qa1 (Ty.prod (Ty.list (Ty.int .i64)) (Ty.list (Ty.prod (Ty.int .i64) (Ty.int .i64)))) (Prod.fst (qc9 m y k)) (Int.toNat (↑v7:Int)))) (Prod.fst f,Prod.snd f)=q4h (Prod.fst (qc9 m y k)) f v16/\(↑v7:Int)+(1:Int)=(↑v16:Int)/\True)/\(Prod.fst f=Prod.fst f/\Prod.snd f=Prod.snd f/\True)/\(Prod.fst (Prod.fst (qo0 m y))=Prod.fst (Prod.fst (qo0 m y))/\Prod.snd (Prod.fst (qo0 m y))=Prod.snd (Prod.fst (qo0 m y))/\True)/\True)))))))/\(decide ((↑v7:Int)<(↑(List.length (Prod.fst (qc9 m y k))):Int))=false->((!qj0 m y (Prod.fst f,Prod.snd f))=true->True/\true=true)/\((!qj0 m y (Prod.fst f,Prod.snd f))=false->((q4h (Prod.fst (qc9 m y k)) f v7==decide ((↑(List.length (Prod.fst f)):Int)<=k))=true->True/\true=true)/\((q4h (Prod.fst (qc9 m y k)) f v7==decide ((↑(List.length (Prod.fst f)):Int)<=k))=false->false=true))))))))) (by kernel_rfl) ?_
 try simp only[z0,z1,z2,z3,z4,z5,z6,z7,z8,z9,z10,Int.reduceEq,z11,z12,z13,z14,z15,z16,z17,z18,z19,z20,z21,z22,z23,z24,z25,z26,z27,z28,z29,z30,Int.reduceLE,Int.reduceLT,z31,z32,z33,z34,qa3]
 try simp only[qb3,qb4,qc8,List.set_cons_zero,List.cons.injEq,and_true,true_and]
 refine⟨h,λhl=>⟨by decide,λhg h100=>?_⟩⟩
 have hp:f.1.length<=100:=by
  unfold q99 at hg
  rw[List.any_eq_false] at hg
  have:=hg f.1 (by simp)
  simpa using this
 have hpre:q7k m y k=0->qk9 m y k:=λhc=>by
  obtain⟨h1,h2,h3⟩:=xf5 hc
  have hM:=w64 h1
  exact w0f h hM (wy9 hl hM) h2 h3
 have hgo:(qc9 m y k).2=0->∀i,i<(qc9 m y k).1.length->GOk m y k (nF (qc9 m y k).1 i):=λh0 i hi=>by
  have hc:=wb4 h0
  have e:(qc9 m y k).1=qg1 m y k:=by unfold qc9; rw[if_pos hc]
  rw[e] at hi ⊢
  rw[w2w _ i hi]
  exact gOk h hc (List.getElem_mem hi)
 have hbig:(qc9 m y k).2=0->(qc9 m y k).1.length<=1000000:=λh0=>by
  have hc:=wb4 h0
  have e:(qc9 m y k).1=qg1 m y k:=by unfold qc9; rw[if_pos hc]
  rw[e]
  exact(hpre hc).len
 have hin:(qc9 m y k).2=0->qj0 m y f=true->q4h (qc9 m y k).1 f (qc9 m y k).1.length=decide ((f.1.length:Int)<=k):=λh0 hf=>by
  have hc:=wb4 h0
  have e:(qc9 m y k).1=qg1 m y k:=by unfold qc9; rw[if_pos hc]
  rw[Bool.eq_iff_iff,xc8,e,q7c hf,decide_eq_true_eq]
 refine⟨xf4 h hl,⟨w0e (by omega),by omega,by omega⟩,λhf=>⟨λhe=>absurd (w75 hf).1 he,λ_=>⟨λhlt=>absurd hlt (Nat.not_lt.2 (w75 hf).2),λ_=>⟨hpre,λh0=>?_⟩⟩⟩,λhf=>⟨hpre,λh0=>?_⟩⟩
 all_goals
  have hG:=hgo h0
  have hB:=hbig h0
  have hI:=hin h0
  generalize(qc9 m y k).1=L at *
  refine⟨(),0,Nat.zero_le _,⟨rfl,rfl⟩,λi hi=>⟨λhlt=>?_,λhge hf2 hne=>?_⟩⟩
 ·have G:=hG i hlt
  have es:q4h L f (i+1)=(q4h L f i || q1c (nF L i) f):=rfl
  refine⟨hlt,λhq=>absurd G.le (by show ¬((nF L i).1.length:Int)<=k; exact Int.not_le.2 hq),λ_=>⟨λhq=>absurd hq G.sp,λ_=>⟨⟨w0e (by have:=G.l1; show(nF L i).1.length<=100000; omega),by have:=G.l1; show(nF L i).1.length<=100000; omega,by have:=G.l2; show(nF L i).2.length<=100000; omega⟩,λhq=>absurd (G.isf.symm.trans hq) (by decide),λ_=>⟨λht=>?_,λht=>⟨⟨by have:=G.l1; show(nF L i).1.length<=1000000; omega,by have:=G.l2; show(nF L i).2.length<=1000000; omega⟩,?_⟩⟩⟩⟩⟩
  ·refine⟨⟨?_,?_⟩,λhq=>absurd G.pic hq,λ_=>⟨G.pre,λhq=>absurd (G.mak.symm.trans hq) (by decide),λ_=>⟨qb9 (by omega) (by omega),i+1,hlt,by omega,?_,by push_cast; rfl⟩⟩⟩
   ·have:=G.l1; show(nF L i).1.length<=100000; omega
   ·have:=G.l2; show(nF L i).2.length<=100000; omega
   ·rw[es,ht]; rfl
  ·refine⟨⟨?_,?_⟩,λhq=>absurd G.pic hq,λ_=>⟨G.pre,λhq=>absurd (G.mak.symm.trans hq) (by decide),λ_=>⟨qb9 (by omega) (by omega),i+1,hlt,by omega,?_,by push_cast; rfl⟩⟩⟩
   ·have:=G.l1; show(nF L i).1.length<=100000; omega
   ·have:=G.l2; show(nF L i).2.length<=100000; omega
   ·rw[es,ht]; rfl
 ·obtain rfl:i=L.length:=by omega
  exact absurd (hI hf2) hne
 ·have G:=hG i hlt
  have es:q4h L f (i+1)=(q4h L f i || q1c (nF L i) f):=rfl
  refine⟨hlt,λhq=>absurd G.le (by show ¬((nF L i).1.length:Int)<=k; exact Int.not_le.2 hq),λ_=>⟨λhq=>absurd hq G.sp,λ_=>⟨⟨w0e (by have:=G.l1; show(nF L i).1.length<=100000; omega),by have:=G.l1; show(nF L i).1.length<=100000; omega,by have:=G.l2; show(nF L i).2.length<=100000; omega⟩,λhq=>absurd (G.isf.symm.trans hq) (by decide),λ_=>⟨λht=>?_,λht=>⟨⟨by have:=G.l1; show(nF L i).1.length<=1000000; omega,by have:=G.l2; show(nF L i).2.length<=1000000; omega⟩,?_⟩⟩⟩⟩⟩
  ·refine⟨⟨?_,?_⟩,λhq=>absurd G.pic hq,λ_=>⟨G.pre,λhq=>absurd (G.mak.symm.trans hq) (by decide),λ_=>⟨qb9 (by omega) (by omega),i+1,hlt,by omega,?_,by push_cast; rfl⟩⟩⟩
   ·have:=G.l1; show(nF L i).1.length<=100000; omega
   ·have:=G.l2; show(nF L i).2.length<=100000; omega
   ·rw[es,ht]; rfl
  ·refine⟨⟨?_,?_⟩,λhq=>absurd G.pic hq,λ_=>⟨G.pre,λhq=>absurd (G.mak.symm.trans hq) (by decide),λ_=>⟨qb9 (by omega) (by omega),i+1,hlt,by omega,?_,by push_cast; rfl⟩⟩⟩
   ·have:=G.l1; show(nF L i).1.length<=100000; omega
   ·have:=G.l2; show(nF L i).2.length<=100000; omega
   ·rw[es,ht]; rfl
 ·obtain rfl:i=L.length:=by omega
  exact absurd (hI hf2) hne
end Go.Proofs.Ytdibdlelmkcccaa
