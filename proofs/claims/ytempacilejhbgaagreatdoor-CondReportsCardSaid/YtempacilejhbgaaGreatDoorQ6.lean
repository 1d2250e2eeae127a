/- The places of the greatest sizes: contracts by the engine. No condition. -/
import Derived.Test.YtempacilejhbgaaGreatDoorQ4
set_option linter.unusedVariables false
set_option linter.unusedSimpArgs false
namespace Go.Proofs.YtempacilejhbgaaGreatDoor
open Go Go.RowKit Eng
def swp (l:List Int) (j:Nat):List Int:=(l.set (j+1) (nI l j)).set j (nI l (j+1))
def qu3 (f:Int->Int->Int):Nat->List Int->List Int
 | 0,l=>l
 | j+1,l=>if f (nI l (j+1)) (nI l j)<0 then qu3 f j (swp l j) else l
def qt6 (f:Int->Int->Int) (l:List Int):Nat->List Int
 | 0=>l
 | k+1=>qu3 f (k+1) (qt6 f l k)
def insL (f:Int->Int->Int) (l:List Int):List Int:=qt6 f l (l.length-1)
theorem q6q (l:List Int) (j:Nat):(swp l j).length=l.length:=by simp[swp]
theorem q3y {l:List Int} {i:Nat} (h:i<l.length):nI l i∈l:=by rw[qg4 l i h]; exact List.getElem_mem h
theorem w51 {l:List Int} {j:Nat} (h:j+1<l.length):∀x∈swp l j,x∈l:=λx hx=>by
 unfold swp at hx
 rcases List.mem_or_eq_of_mem_set hx with hx | rfl
 ·rcases List.mem_or_eq_of_mem_set hx with hx | rfl
  ·exact hx
  ·exact q3y (by omega)
 ·exact q3y h
theorem wj6 (f:Int->Int->Int):∀(j:Nat) (l:List Int),j<l.length->(qu3 f j l).length=l.length/\∀x∈qu3 f j l,x∈l
 | 0,l,_=>⟨rfl,λx hx=>hx⟩
 | j+1,l,h=>by
  rw[qu3]
  split
  ·have:=wj6 f j (swp l j) (by rw[q6q]; omega)
   exact⟨this.1.trans (q6q l j),λx hx=>w51 h x (this.2 x hx)⟩
  ·exact⟨rfl,λx hx=>hx⟩
theorem qy3 (f:Int->Int->Int) (l:List Int):∀k,k<l.length\/k=0->(qt6 f l k).length=l.length/\∀x∈qt6 f l k,x∈l
 | 0,_=>⟨rfl,λx hx=>hx⟩
 | k+1,h=>by
  have h1:=qy3 f l k (by omega)
  have h2:=wj6 f (k+1) (qt6 f l k) (by omega)
  exact⟨h2.1.trans h1.1,λx hx=>h1.2 x (h2.2 x hx)⟩
theorem w9p (f:Int->Int->Int) (l:List Int) {i:Nat} (h:1<=i):qu3 f i (qt6 f l (i-1))=qt6 f l i:=by
 cases i with
 | zero=>omega
 | succ i=>rfl
abbrev x1f:PTy:=.fn [tInt,tInt] tInt
abbrev fn2 (g:qa4 [tInt,tInt]->Int) (x y:Int):Int:=g (x,y,())
structure q98 (l:List Int) (p:qa4 [tInt,tInt]->Prop):Prop where
 len:l.length<=19
 ok:∀x∈l,∀y∈l,p (x,y,())
structure w9q (f:Int->Int->Int) (l:List Int) (i j:Nat) (r:List Int):Prop where
 le:j<=i
 len:r.length=l.length
 sub:∀x∈r,x∈l
 eq:qu3 f j r=qt6 f l i
def x1g (T:q5b) (l:List Int) (f:Int->Int->Int):Nat->Option Inv
 | 0=>some (Inv.of [0,8] 1 (λi:Nat=>[(0,.msl 0 (some 0)),(8,.lit (.int .i64 i))]) (λi=>[.mat 0 3 (.int .i64) [qt6 f l (i-1)] (some []) (some T)]) (λi=>1<=i/\(i<=l.length\/i=1)) (λi=>l.length-i))
 | 1=>some (Eng.Inv.mk Nat (Nat × List Int) [0,9] 1 (λ_ s=>[(0,.msl 0 (some 0)),(9,.lit (.int .i64 s.1))]) (λ_ s=>[.mat 0 3 (.int .i64) [s.2] (some []) (some T)]) (λi s=>w9q f l i s.1 s.2) (λ_ s=>s.1))
 | _=>none
abbrev x5j:qo6:=wg9 (wh1 [] [.d tInt,.d tInt,x1f]) false false 0 3 (.int .i64) (λrows x=>x.1=0/\x.2.1=(nL rows 0).length/\q98 (nL rows 0) x.2.2.1.1) (λ_ _=>.tup .nil) (λrows x=>[insL (fn2 x.2.2.1.2) (nL rows 0)])
theorem w52:qq8 Tryz.prog 104 x5j:=by
 refine q52 (xr4 (SpecsOk.nil _) MutsOk.nil) Tryz.func104 rfl rfl (q21 (SpecsOk.nil _) _) (λT rows x=>x1g T (nL rows 0) (fn2 x.2.2.1.2)) (λ_ _ _=>by kernel_rfl) (by decide) ?_ rfl
 rintro T rows ⟨a,b,⟨p,g⟩,⟨⟩⟩ h hone
 obtain⟨l,rfl⟩:∃l:List Int,rows=[l]:=by
  have h1:=hone rfl
  match rows,h1 with
  | [l],_=>exact⟨l,rfl⟩
 have h:a=0/\b=l.length/\q98 l p:=h
 obtain⟨rfl,rfl,hs⟩:=h
 refine @qe7 _ (fits .i64 ((0:PTy.den (PTy.d tInt))+(1:Int))/\∃(v0:Unit),∃(v1:Nat),((1:Nat)<=v1/\(v1<=(nL [l] (0:Nat)).length\/v1=(1:Nat)))/\((some (0:Nat)=some (0:Nat)/\(0:PTy.den (PTy.d tInt))+(1:Int)=(↑v1:Int)/\True)/\([l]=[qt6 (fn2 g) (nL [l] (0:Nat)) (v1-(1:Nat))]/\True/\T=T)/\True)/\∀(v2:Nat),(1:Nat)<=v2/\(v2<=(nL [l] (0:Nat)).length\/v2=(1:Nat))->(decide ((↑v2:Int)<(↑l.length:PTy.den (PTy.d tInt)))=true->∃(v5:Nat),∃(v6:Nat × List Int),w9q (fn2 g) (nL [l] (0:Nat)) v5 v6.1 v6.2/\((some (0:Nat)=some (0:Nat)/\(↑v2:Int)=(↑v6.1:Int)/\True)/\([qt6 (fn2 g) (nL [l] (0:Nat)) (v2-(1:Nat))]=[v6.2]/\True/\T=T)/\True)/\∀(v7:Nat × List Int),w9q (fn2 g) (nL [l] (0:Nat)) v5 v7.1 v7.2->(decide ((0:PTy.den (PTy.d tInt))<(↑v7.1:Int))=true->((0:Int)<=(↑v7.1:Int)/\(↑v7.1:Int)<(↑(nL [v7.2] (0:Nat)).length:Int))/\(↑v7.1:Int).toNat<(nL [v7.2] (0:Nat)).length/\fits .i64 ((↑v7.1:Int)-(1:Int))/\((0:Int)<=(↑v7.1:Int)-(1:Int)/\(↑v7.1:Int)-(1:Int)<(↑(nL [v7.2] (0:Nat)).length:Int))/\((↑v7.1:Int)-(1:Int)).toNat<(nL [v7.2] (0:Nat)).length/\p (nI (nL [v7.2] (0:Nat)) (↑v7.1:Int).toNat,nI (nL [v7.2] (0:Nat)) ((↑v7.1:Int)-(1:Int)).toNat,())/\(decide (g (nI (nL [v7.2] (0:Nat)) (↑v7.1:Int).toNat,nI (nL [v7.2] (0:Nat)) ((↑v7.1:Int)-(1:Int)).toNat,())<(0:Int))=true->fits .i64 ((↑v7.1:Int)-(1:Int))/\fits .i64 ((↑v7.1:Int)-(1:Int))/\((0:Int)<=(↑v7.1:Int)-(1:Int)/\(↑v7.1:Int)-(1:Int)<(↑(nL [v7.2] (0:Nat)).length:Int))/\((↑v7.1:Int)-(1:Int)).toNat<(nL [v7.2] (0:Nat)).length/\((0:Int)<=(↑v7.1:Int)/\(↑v7.1:Int)<(↑(nL [v7.2] (0:Nat)).length:Int))/\(↑v7.1:Int).toNat<(nL [v7.2] (0:Nat)).length/\((0:Int)<=(↑v7.1:Int)/\(↑v7.1:Int)<(↑(nL [v7.2] (0:Nat)).length:Int))/\(↑v7.1:Int).toNat<(nL [v7.2] (0:Nat)).length/\((0:Int)<=(↑v7.1:Int)-(1:Int)/\(↑v7.1:Int)-(1:Int)<(↑(nL (List.set [v7.2] (0:Nat) (List.set (nL [v7.2] (0:Nat)) (↑v7.1:Int).toNat (nI (nL [v7.2] (0:Nat)) ((↑v7.1:Int)-(1:Int)).toNat))) (0:Nat)).length:Int))/\((↑v7.1:Int)-(1:Int)).toNat<(nL (List.set [v7.2] (0:Nat) (List.set (nL [v7.2] (0:Nat)) (↑v7.1:Int).toNat (nI (nL [v7.2] (0:Nat)) ((↑v7.1:Int)-(1:Int)).toNat))) (0:Nat)).length/\fits .i64 ((↑v7.1:Int)-(1:Int))/\∃(v11:Nat × List Int),w9q (fn2 g) (nL [l] (0:Nat)) v5 v11.1 v11.2/\v11.1<v7.1/\(some (0:Nat)=some (0:Nat)/\(↑v7.1:Int)-(1:Int)=(↑v11.1:Int)/\True)/\(List.set (List.set [v7.2] (0:Nat) (List.set (nL [v7.2] (0:Nat)) (↑v7.1:Int).toNat (nI (nL [v7.2] (0:Nat)) ((↑v7.1:Int)-(1:Int)).toNat))) (0:Nat) (List.set (nL (List.set [v7.2] (0:Nat) (List.set (nL [v7.2] (0:Nat)) (↑v7.1:Int).toNat (nI (nL [v7.2] (0:Nat)) ((↑v7.1:Int)-(1:Int)).toNat))) (0:Nat)) ((↑v7.1:Int)-(1:Int)).toNat (nI (nL [v7.2] (0:Nat)) (↑v7.1:Int).toNat))=[v11.2]/\True/\T=T)/\True)/\(decide (g (nI (nL [v7.2] (0:Nat)) (↑v7.1:Int).toNat,nI (nL [v7.2] (0:Nat)) ((↑v7.1:Int)-(1:Int)).toNat,())<(0:Int))=false->fits .i64 ((↑v2:Int)+(1:Int))/\∃(v11:Nat),((1:Nat)<=v11/\(v11<=(nL [l] (0:Nat)).length\/v11=(1:Nat)))/\(nL [l] (0:Nat)).length-v11<(nL [l] (0:Nat)).length-v2/\(some (0:Nat)=some (0:Nat)/\(↑v2:Int)+(1:Int)=(↑v11:Int)/\True)/\([v7.2]=[qt6 (fn2 g) (nL [l] (0:Nat)) (v11-(1:Nat))]/\True/\T=T)/\True))/\(decide ((0:PTy.den (PTy.d tInt))<(↑v7.1:Int))=false->fits .i64 ((↑v2:Int)+(1:Int))/\∃(v10:Nat),((1:Nat)<=v10/\(v10<=(nL [l] (0:Nat)).length\/v10=(1:Nat)))/\(nL [l] (0:Nat)).length-v10<(nL [l] (0:Nat)).length-v2/\(some (0:Nat)=some (0:Nat)/\(↑v2:Int)+(1:Int)=(↑v10:Int)/\True)/\([v7.2]=[qt6 (fn2 g) (nL [l] (0:Nat)) (v10-(1:Nat))]/\True/\T=T)/\True))/\(decide ((↑v2:Int)<(↑l.length:PTy.den (PTy.d tInt)))=false->[qt6 (fn2 g) (nL [l] (0:Nat)) (v2-(1:Nat))]=[insL (fn2 g) (nL [l] (0:Nat))]/\T=T/\True/\True)) (by kernel_rfl) ?_
 try simp only[z0,z1,z2,z3,z4,z5,z6,z7,z8,z9,z10,Int.reduceEq,z11,z12,z13,z14,z15,z16,z17,z18,z19,z20,z21,z22,z23,z24,z25,z26,z27,z28,z29,z30,Int.reduceLE,Int.reduceLT,z31,z32,z33,z34,qa3]
 try simp only[qb6,qb7,qc7,z31,z32,z2,z1]
 have hl:=hs.len
 refine⟨qa7 (by decide) (by decide),(),1,⟨Nat.le_refl _,.inr rfl⟩,⟨rfl,rfl⟩,λi hi=>⟨λhlt=>?_,λhge=>?_⟩⟩
 ·have k1:=qy3 (fn2 g) l (i-1) (by omega)
  refine⟨i,(i,qt6 (fn2 g) l (i-1)),⟨Nat.le_refl _,k1.1,k1.2,?_⟩,⟨rfl,rfl⟩,?_⟩
  ·exact w9p _ _ hi.1
  rintro⟨j,r⟩ ⟨h1,h2,h3,h4⟩
  dsimp only at h1 h2 h3 h4 ⊢
  have fin:j=0\/r=qt6 (fn2 g) l i->fits IntKind.i64 (↑i+1)/\∃v11,(1<=v11/\(v11<=l.length\/v11=1))/\l.length-v11<l.length-i/\(↑i+1:Int)=↑v11/\r=qt6 (fn2 g) l (v11-1):=λq=>by
   refine⟨qa7 (by omega) (by omega),i+1,⟨by omega,.inl (by omega)⟩,by omega,by omega,?_⟩
   rcases q with rfl | q
   ·exact h4
   ·exact q
  refine⟨λh0=>?_,λh0=>fin (.inl (by have h0:(j:Int)<=0:=h0; omega))⟩
  have h0:0<(j:Int):=h0
  obtain⟨q,rfl⟩:∃q,j=q+1:=⟨j-1,by omega⟩
  have e:(((q+1:Nat):Int)-1).toNat=q:=by omega
  have m1:=h3 _ (q3y (l:=r) (i:=q+1) (by omega))
  have m2:=h3 _ (q3y (l:=r) (i:=q) (by omega))
  rw[e]
  refine⟨by omega,by omega,qa7 (by omega) (by omega),⟨by omega,by omega⟩,by omega,hs.ok _ m1 _ m2,λhc=>?_,λhc=>fin (.inr ?_)⟩
  ·refine⟨qa7 (by omega) (by omega),qa7 (by omega) (by omega),⟨by omega,by omega⟩,by omega,by omega,by omega,by omega,by omega,⟨by omega,by rw[List.length_set]; omega⟩,by rw[List.length_set]; omega,qa7 (by omega) (by omega),(q,swp r q),⟨by dsimp only; omega,(q6q r q).trans h2,λx hx=>h3 x (w51 (by omega) x hx),?_⟩,by dsimp only; omega,by push_cast; omega,rfl⟩
   rw[qu3,if_pos hc] at h4
   exact h4
  ·rw[qu3,if_neg (Int.not_lt.2 hc)] at h4
   exact h4
 ·unfold insL
  congr 1
  omega
abbrev x5k:qo6:=wg9 (wh1 [] [.d tInt,x1f]) false false 0 3 (.int .i64) (λrows x=>x.1=(nL rows 0).length/\q98 (nL rows 0) x.2.1.1) (λ_ _=>.tup .nil) (λrows x=>[insL (fn2 x.2.1.2) (nL rows 0)])
def x1h (T:q5b) (l r:List Int):Nat->Option Inv
 | 0=>some (Inv.of [0,7,8] 1 (λ_:Unit=>[(0,.msl 0 (some 0)),(7,.lit (.int .i64 0)),(8,.lit (.int .i64 20))]) (λ_=>[.mat 0 3 (.int .i64) [l] (some []) (some T)]) (λ_=>True) (λ_=>0))
 | 1=>some (Inv.of [0,6] 1 (λ_:Unit=>[(0,.msl 0 (some 0)),(6,.lit (.int .i64 20))]) (λ_=>[.mat 0 3 (.int .i64) [r] (some []) (some T)]) (λ_=>True) (λ_=>0))
 | 2=>some (Inv.of [] 0 (λ_:Unit=>[]) (λ_=>[]) (λ_=>True) (λ_=>0))
 | _=>none
theorem w53:qq8 Tryz.prog 91 x5k:=by
 refine q52 (xr4 (SpecsOk.nil _) (MutsOk.cons w52 MutsOk.nil)) Tryz.func91 rfl rfl (q21 (SpecsOk.nil _) _) (λT rows x=>x1h T (nL rows 0) (insL (fn2 x.2.1.2) (nL rows 0))) (λ_ _ _=>by kernel_rfl) (by decide) ?_ rfl
 rintro T rows ⟨a,⟨p,g⟩,⟨⟩⟩ h hone
 obtain⟨l,rfl⟩:∃l:List Int,rows=[l]:=by
  have h1:=hone rfl
  match rows,h1 with
  | [l],_=>exact⟨l,rfl⟩
 have h:a=l.length/\q98 l p:=h
 obtain⟨rfl,hs⟩:=h
 refine @qe7 _ (∃(v0:Unit),∃(v1:Unit),True/\((some (0:Nat)=some (0:Nat)/\(0:Int)=(0:Int)/\(20:Int)=(20:Int)/\True)/\([l]=[nL [l] (0:Nat)]/\True/\T=T)/\True)/\∀(x:Unit),True->(decide ((20:Int)<=(↑l.length:PTy.den (PTy.d tInt)))=true->∃(v5:qa4 [tInt,tInt]->Prop),∃(v6:qa4 [tInt,tInt]->Int),([tInt,tInt]=[tInt,tInt]/\tInt=tInt/\p ≍ v5/\g ≍ v6)/\((0:Int)=(0:PTy.den (PTy.d tInt))/\(20:Int)=(↑(nL [nL [nL [l] (0:Nat)] (0:Nat)] (0:Nat)).length:PTy.den (PTy.d tInt))/\q98 (nL [nL [nL [l] (0:Nat)] (0:Nat)] (0:Nat)) v5)/\fits .i64 (40:Int)/\∃(v7:Unit),True/\(0:Nat)<(0:Nat)/\(some (0:Nat)=some (0:Nat)/\(20:Int)=(0:Int)/\(40:Int)=(20:Int)/\True)/\(List.set [nL [l] (0:Nat)] (0:Nat) (nL [insL (fn2 v6) (nL [nL [nL [l] (0:Nat)] (0:Nat)] (0:Nat))] (0:Nat))=[nL [l] (0:Nat)]/\True/\T=T)/\True)/\(decide ((20:Int)<=(↑l.length:PTy.den (PTy.d tInt)))=false->∃(v5:qa4 [tInt,tInt]->Prop),∃(v6:qa4 [tInt,tInt]->Int),([tInt,tInt]=[tInt,tInt]/\tInt=tInt/\p ≍ v5/\g ≍ v6)/\((0:Int)=(0:PTy.den (PTy.d tInt))/\(↑l.length:PTy.den (PTy.d tInt))=(↑(nL [nL [nL [l] (0:Nat)] (0:Nat)] (0:Nat)).length:PTy.den (PTy.d tInt))/\q98 (nL [nL [nL [l] (0:Nat)] (0:Nat)] (0:Nat)) v5)/\∃(v7:Unit),∃(v8:Unit),True/\((some (0:Nat)=some (0:Nat)/\(20:Int)=(20:Int)/\True)/\(List.set [nL [l] (0:Nat)] (0:Nat) (nL [insL (fn2 v6) (nL [nL [nL [l] (0:Nat)] (0:Nat)] (0:Nat))] (0:Nat))=[insL (fn2 g) (nL [l] (0:Nat))]/\True/\T=T)/\True)/\∀(x:Unit),True->(decide ((20:Int)<(↑l.length:PTy.den (PTy.d tInt)))=true->fits .i64 (40:Int)/\∃(v12:Unit),∃(v13:Unit),True/\(True/\True)/\∀(x:Unit),True->False)/\(decide ((20:Int)<(↑l.length:PTy.den (PTy.d tInt)))=false->[insL (fn2 g) (nL [l] (0:Nat))]=[insL (fn2 g) (nL [l] (0:Nat))]/\T=T/\True/\True))) (by kernel_rfl) ?_
 try simp only[z0,z1,z2,z3,z4,z5,z6,z7,z8,z9,z10,Int.reduceEq,z11,z12,z13,z14,z15,z16,z17,z18,z19,z20,z21,z22,z23,z24,z25,z26,z27,z28,z29,z30,Int.reduceLE,Int.reduceLT,z31,z32,z33,z34,qa3]
 try simp only[qb6,qb7,qc7,z31,z32,z2,z1]
 have hl:=hs.len
 refine⟨(),(),λ_=>⟨λh20=>absurd h20 (by omega),λ_=>⟨p,g,⟨HEq.rfl,HEq.rfl⟩,hs,(),(),rfl,λ_ h20=>absurd h20 (by omega)⟩⟩⟩
abbrev x5l:qo6:=wg9 (wh1 [] [x1f]) false false 0 3 (.int .i64) (λrows x=>q98 (nL rows 0) x.1.1) (λ_ _=>.tup .nil) (λrows x=>[insL (fn2 x.1.2) (nL rows 0)])
theorem w2n:qq8 Tryz.prog 77 x5l:=by
 refine q52 (xr4 (SpecsOk.nil _) (MutsOk.cons w53 MutsOk.nil)) Tryz.func77 rfl rfl (q21 (SpecsOk.nil _) _) (λ_ _ _ _=>none) (λ_ _ _=>by kernel_rfl) (by decide) ?_ rfl
 rintro T rows ⟨⟨p,g⟩,⟨⟩⟩ h hone
 obtain⟨l,rfl⟩:∃l:List Int,rows=[l]:=by
  have h1:=hone rfl
  match rows,h1 with
  | [l],_=>exact⟨l,rfl⟩
 have hs:q98 l p:=h
 refine @qe7 _ (∃(v0:qa4 [tInt,tInt]->Prop),∃(v1:qa4 [tInt,tInt]->Int),([tInt,tInt]=[tInt,tInt]/\tInt=tInt/\p ≍ v0/\g ≍ v1)/\((↑(nL [l] (0:Nat)).length:Int)=(↑(nL [nL [l] (0:Nat)] (0:Nat)).length:PTy.den (PTy.d tInt))/\q98 (nL [nL [l] (0:Nat)] (0:Nat)) v0)/\List.set [l] (0:Nat) (nL [insL (fn2 v1) (nL [nL [l] (0:Nat)] (0:Nat))] (0:Nat))=[insL (fn2 g) (nL [l] (0:Nat))]/\T=T/\True/\True) (by kernel_rfl) ?_
 try simp only[z0,z1,z2,z3,z4,z5,z6,z7,z8,z9,z10,Int.reduceEq,z11,z12,z13,z14,z15,z16,z17,z18,z19,z20,z21,z22,z23,z24,z25,z26,z27,z28,z29,z30,Int.reduceLE,Int.reduceLT,z31,z32,z33,z34,qa3]
 try simp only[qb6,qb7,qc7,z31,z32,z2,z1]
 exact⟨p,g,⟨HEq.rfl,HEq.rfl⟩,hs,rfl⟩
def q4n (h:List Int) (x y:Int):Int:=qz2 (nI h y.toNat)-qz2 (nI h x.toNat)
abbrev xu0:qb9:=hspec [] true none [.d tInt,.d tInt,.cap tInts] [tInt] (λx=>HOk x.2.2.1/\(0<=x.1/\x.1<x.2.2.1.length)/\0<=x.2.1/\x.2.1<x.2.2.1.length) (λx=>(q4n x.2.2.1 x.1 x.2.1,()))
theorem w2o:Meets Tryz.prog 78 xu0:=by
 refine qy9 (SpecsOk.nil _) (snd (SpecsOk.cons q2b (SpecsOk.nil _))) Tryz.func78 rfl rfl (λ_ _=>none) (λ_=>by kernel_rfl) (by decide) ?_
 rintro⟨a,b,h,⟨⟩⟩ hh
 revert a b h
 intro(a:Int) (b:Int) (h:List Int) (hh:HOk h/\(0<=a/\a<h.length)/\0<=b/\b<h.length)
 refine @qe7 _ (((0:Int)<=b/\b<(↑h.length:Int))/\qf3 (1000000000:Int) (nI h b.toNat)/\((0:Int)<=a/\a<(↑h.length:Int))/\qf3 (1000000000:Int) (nI h a.toNat)/\fits .i64 (qz2 (nI h b.toNat)-qz2 (nI h a.toNat))/\qz2 (nI h b.toNat)-qz2 (nI h a.toNat)=q4n h a b) (by kernel_rfl) ?_
 try simp only[z0,z1,z2,z3,z4,z5,z6,z7,z8,z9,z10,Int.reduceEq,z11,z12,z13,z14,z15,z16,z17,z18,z19,z20,z21,z22,z23,z24,z25,z26,z27,z28,z29,z30,Int.reduceLE,Int.reduceLT,z31,z32,z33,z34,qa3]
 try simp only[qb6,qb7,qc7,z31,z32,z2,z1]
 have h1:=hh.1.sm a.toNat
 have h2:=hh.1.sm b.toNat
 have h3:qz2 (nI h a.toNat)=(nI h a.toNat).natAbs:=rfl
 have h4:qz2 (nI h b.toNat)=(nI h b.toNat).natAbs:=rfl
 unfold qf3 at *
 exact⟨hh.2.2,⟨by omega,by omega⟩,hh.2.1,⟨by omega,by omega⟩,qa7 (by omega) (by omega),rfl⟩
def q1g (h:List Int) (k:Nat):List Int:=((insL (q4n h) (qo5 h.length)).take k).mergeSort λx y=>decide (x<=y)
structure w9r (h:List Int) (k:Int):Prop where
 ok:HOk h
 len:h.length<=19
 pos:1<=h.length
 k0:0<=k
 k1:k<=h.length
abbrev x5m:qb9:=qg6 true none [tInts,tInt] [tInts] (λx=>w9r x.1 x.2.1) (λx=>(q1g x.1 x.2.1.toNat,()))
end Go.Proofs.YtempacilejhbgaaGreatDoor
