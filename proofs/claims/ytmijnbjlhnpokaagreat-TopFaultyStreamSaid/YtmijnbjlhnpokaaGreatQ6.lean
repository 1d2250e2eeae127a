/- The places of the greatest sizes: contracts by the engine. No condition. -/
import Derived.Test.YtmijnbjlhnpokaaGreatQ4
set_option linter.unusedVariables false
set_option linter.unusedSimpArgs false
namespace Go.Proofs.YtmijnbjlhnpokaaGreat
open Go Go.RowKit Eng
def swp (l:List Int) (j:Nat):List Int:=(l.set (j+1) (nI l j)).set j (nI l (j+1))
def q03 (f:Int->Int->Int):Nat->List Int->List Int
 | 0,l=>l
 | j+1,l=>if f (nI l (j+1)) (nI l j)<0 then q03 f j (swp l j) else l
def qz2 (f:Int->Int->Int) (l:List Int):Nat->List Int
 | 0=>l
 | k+1=>q03 f (k+1) (qz2 f l k)
def insL (f:Int->Int->Int) (l:List Int):List Int:=qz2 f l (l.length-1)
theorem we8 (l:List Int) (j:Nat):(swp l j).length=l.length:=by simp[swp]
theorem q4q {l:List Int} {i:Nat} (h:i<l.length):nI l i∈l:=by rw[qh0 l i h]; exact List.getElem_mem h
theorem w9n {l:List Int} {j:Nat} (h:j+1<l.length):∀x∈swp l j,x∈l:=λx hx=>by
 unfold swp at hx
 rcases List.mem_or_eq_of_mem_set hx with hx | rfl
 ·rcases List.mem_or_eq_of_mem_set hx with hx | rfl
  ·exact hx
  ·exact q4q (by omega)
 ·exact q4q h
theorem wq8 (f:Int->Int->Int):∀(j:Nat) (l:List Int),j<l.length->(q03 f j l).length=l.length/\∀x∈q03 f j l,x∈l
 | 0,l,_=>⟨rfl,λx hx=>hx⟩
 | j+1,l,h=>by
  rw[q03]
  split
  ·have:=wq8 f j (swp l j) (by rw[we8]; omega)
   exact⟨this.1.trans (we8 l j),λx hx=>w9n h x (this.2 x hx)⟩
  ·exact⟨rfl,λx hx=>hx⟩
theorem q1r (f:Int->Int->Int) (l:List Int):∀k,k<l.length\/k=0->(qz2 f l k).length=l.length/\∀x∈qz2 f l k,x∈l
 | 0,_=>⟨rfl,λx hx=>hx⟩
 | k+1,h=>by
  have h1:=q1r f l k (by omega)
  have h2:=wq8 f (k+1) (qz2 f l k) (by omega)
  exact⟨h2.1.trans h1.1,λx hx=>h1.2 x (h2.2 x hx)⟩
theorem xl7 (f:Int->Int->Int) (l:List Int) {i:Nat} (h:1<=i):q03 f i (qz2 f l (i-1))=qz2 f l i:=by
 cases i with
 | zero=>omega
 | succ i=>rfl
abbrev x92:PTy:=.fn [qd0,qd0] qd0
abbrev fn2 (g:qa4 [qd0,qd0]->Int) (x y:Int):Int:=g (x,y,())
structure we9 (l:List Int) (p:qa4 [qd0,qd0]->Prop):Prop where
 len:l.length<=19
 ok:∀x∈l,∀y∈l,p (x,y,())
structure xl8 (f:Int->Int->Int) (l:List Int) (i j:Nat) (r:List Int):Prop where
 le:j<=i
 len:r.length=l.length
 sub:∀x∈r,x∈l
 eq:q03 f j r=qz2 f l i
def x94 (T:q5b) (l:List Int) (f:Int->Int->Int):Nat->Option Inv
 | 0=>some (Inv.of [0,8] 1 (λi:Nat=>[(0,.msl 0 (some 0)),(8,.lit (.int .i64 i))]) (λi=>[.mat 0 3 (.int .i64) [qz2 f l (i-1)] (some []) (some T)]) (λi=>1<=i/\(i<=l.length\/i=1)) (λi=>l.length-i))
 | 1=>some (Eng.Inv.mk Nat (Nat × List Int) [0,9] 1 (λ_ s=>[(0,.msl 0 (some 0)),(9,.lit (.int .i64 s.1))]) (λ_ s=>[.mat 0 3 (.int .i64) [s.2] (some []) (some T)]) (λi s=>xl8 f l i s.1 s.2) (λ_ s=>s.1))
 | _=>none
abbrev yo4:ql6:=q5h (wl3 [] [.d qd0,.d qd0,x92]) false false 0 3 (.int .i64) (λrows x=>x.1=0/\x.2.1=(nL rows 0).length/\we9 (nL rows 0) x.2.2.1.1) (λ_ _=>.tup .nil) (λrows x=>[insL (fn2 x.2.2.1.2) (nL rows 0)])
theorem w9o:qn4 Tryz.prog 257 yo4:=by
 refine q0w (x3i (SpecsOk.nil _) MutsOk.nil) Tryz.func257 rfl rfl (q3i (SpecsOk.nil _) _) (λT rows x=>x94 T (nL rows 0) (fn2 x.2.2.1.2)) (λ_ _ _=>by kernel_rfl) (by decide) ?_ rfl
 rintro T rows ⟨a,b,⟨p,g⟩,⟨⟩⟩ h hone
 obtain⟨l,rfl⟩:∃l:List Int,rows=[l]:=by
  have h1:=hone rfl
  match rows,h1 with
  | [l],_=>exact⟨l,rfl⟩
 have h:a=0/\b=l.length/\we9 l p:=h
 obtain⟨rfl,rfl,hs⟩:=h
 refine @qd1 _ (fits .i64 ((0:PTy.den (PTy.d qd0))+(1:Int))/\∃(v0:Unit),∃(v1:Nat),((1:Nat)<=v1/\(v1<=(nL [l] (0:Nat)).length\/v1=(1:Nat)))/\((some (0:Nat)=some (0:Nat)/\(0:PTy.den (PTy.d qd0))+(1:Int)=(↑v1:Int)/\True)/\([l]=[qz2 (fn2 g) (nL [l] (0:Nat)) (v1-(1:Nat))]/\True/\T=T)/\True)/\∀(v2:Nat),(1:Nat)<=v2/\(v2<=(nL [l] (0:Nat)).length\/v2=(1:Nat))->(decide ((↑v2:Int)<(↑l.length:PTy.den (PTy.d qd0)))=true->∃(v5:Nat),∃(v6:Nat × List Int),xl8 (fn2 g) (nL [l] (0:Nat)) v5 v6.1 v6.2/\((some (0:Nat)=some (0:Nat)/\(↑v2:Int)=(↑v6.1:Int)/\True)/\([qz2 (fn2 g) (nL [l] (0:Nat)) (v2-(1:Nat))]=[v6.2]/\True/\T=T)/\True)/\∀(v7:Nat × List Int),xl8 (fn2 g) (nL [l] (0:Nat)) v5 v7.1 v7.2->(decide ((0:PTy.den (PTy.d qd0))<(↑v7.1:Int))=true->((0:Int)<=(↑v7.1:Int)/\(↑v7.1:Int)<(↑(nL [v7.2] (0:Nat)).length:Int))/\(↑v7.1:Int).toNat<(nL [v7.2] (0:Nat)).length/\fits .i64 ((↑v7.1:Int)-(1:Int))/\((0:Int)<=(↑v7.1:Int)-(1:Int)/\(↑v7.1:Int)-(1:Int)<(↑(nL [v7.2] (0:Nat)).length:Int))/\((↑v7.1:Int)-(1:Int)).toNat<(nL [v7.2] (0:Nat)).length/\p (nI (nL [v7.2] (0:Nat)) (↑v7.1:Int).toNat,nI (nL [v7.2] (0:Nat)) ((↑v7.1:Int)-(1:Int)).toNat,())/\(decide (g (nI (nL [v7.2] (0:Nat)) (↑v7.1:Int).toNat,nI (nL [v7.2] (0:Nat)) ((↑v7.1:Int)-(1:Int)).toNat,())<(0:Int))=true->fits .i64 ((↑v7.1:Int)-(1:Int))/\fits .i64 ((↑v7.1:Int)-(1:Int))/\((0:Int)<=(↑v7.1:Int)-(1:Int)/\(↑v7.1:Int)-(1:Int)<(↑(nL [v7.2] (0:Nat)).length:Int))/\((↑v7.1:Int)-(1:Int)).toNat<(nL [v7.2] (0:Nat)).length/\((0:Int)<=(↑v7.1:Int)/\(↑v7.1:Int)<(↑(nL [v7.2] (0:Nat)).length:Int))/\(↑v7.1:Int).toNat<(nL [v7.2] (0:Nat)).length/\((0:Int)<=(↑v7.1:Int)/\(↑v7.1:Int)<(↑(nL [v7.2] (0:Nat)).length:Int))/\(↑v7.1:Int).toNat<(nL [v7.2] (0:Nat)).length/\((0:Int)<=(↑v7.1:Int)-(1:Int)/\(↑v7.1:Int)-(1:Int)<(↑(nL (List.set [v7.2] (0:Nat) (List.set (nL [v7.2] (0:Nat)) (↑v7.1:Int).toNat (nI (nL [v7.2] (0:Nat)) ((↑v7.1:Int)-(1:Int)).toNat))) (0:Nat)).length:Int))/\((↑v7.1:Int)-(1:Int)).toNat<(nL (List.set [v7.2] (0:Nat) (List.set (nL [v7.2] (0:Nat)) (↑v7.1:Int).toNat (nI (nL [v7.2] (0:Nat)) ((↑v7.1:Int)-(1:Int)).toNat))) (0:Nat)).length/\fits .i64 ((↑v7.1:Int)-(1:Int))/\∃(v11:Nat × List Int),xl8 (fn2 g) (nL [l] (0:Nat)) v5 v11.1 v11.2/\v11.1<v7.1/\(some (0:Nat)=some (0:Nat)/\(↑v7.1:Int)-(1:Int)=(↑v11.1:Int)/\True)/\(List.set (List.set [v7.2] (0:Nat) (List.set (nL [v7.2] (0:Nat)) (↑v7.1:Int).toNat (nI (nL [v7.2] (0:Nat)) ((↑v7.1:Int)-(1:Int)).toNat))) (0:Nat) (List.set (nL (List.set [v7.2] (0:Nat) (List.set (nL [v7.2] (0:Nat)) (↑v7.1:Int).toNat (nI (nL [v7.2] (0:Nat)) ((↑v7.1:Int)-(1:Int)).toNat))) (0:Nat)) ((↑v7.1:Int)-(1:Int)).toNat (nI (nL [v7.2] (0:Nat)) (↑v7.1:Int).toNat))=[v11.2]/\True/\T=T)/\True)/\(decide (g (nI (nL [v7.2] (0:Nat)) (↑v7.1:Int).toNat,nI (nL [v7.2] (0:Nat)) ((↑v7.1:Int)-(1:Int)).toNat,())<(0:Int))=false->fits .i64 ((↑v2:Int)+(1:Int))/\∃(v11:Nat),((1:Nat)<=v11/\(v11<=(nL [l] (0:Nat)).length\/v11=(1:Nat)))/\(nL [l] (0:Nat)).length-v11<(nL [l] (0:Nat)).length-v2/\(some (0:Nat)=some (0:Nat)/\(↑v2:Int)+(1:Int)=(↑v11:Int)/\True)/\([v7.2]=[qz2 (fn2 g) (nL [l] (0:Nat)) (v11-(1:Nat))]/\True/\T=T)/\True))/\(decide ((0:PTy.den (PTy.d qd0))<(↑v7.1:Int))=false->fits .i64 ((↑v2:Int)+(1:Int))/\∃(v10:Nat),((1:Nat)<=v10/\(v10<=(nL [l] (0:Nat)).length\/v10=(1:Nat)))/\(nL [l] (0:Nat)).length-v10<(nL [l] (0:Nat)).length-v2/\(some (0:Nat)=some (0:Nat)/\(↑v2:Int)+(1:Int)=(↑v10:Int)/\True)/\([v7.2]=[qz2 (fn2 g) (nL [l] (0:Nat)) (v10-(1:Nat))]/\True/\T=T)/\True))/\(decide ((↑v2:Int)<(↑l.length:PTy.den (PTy.d qd0)))=false->[qz2 (fn2 g) (nL [l] (0:Nat)) (v2-(1:Nat))]=[insL (fn2 g) (nL [l] (0:Nat))]/\T=T/\True/\True)) (by kernel_rfl) ?_
 try simp only[z0,z1,z2,z3,z4,z5,z6,z7,z8,z9,z10,Int.reduceEq,z11,z12,z13,z14,z15,z16,z17,z18,z19,z20,z21,z22,z23,z24,z25,z26,z27,z28,z29,z30,Int.reduceLE,Int.reduceLT,z31,z32,z33,z34,qa1]
 try simp only[qa7,qa8,qb5,z31,z32,z2,z1]
 have hl:=hs.len
 refine⟨qb8 (by decide) (by decide),(),1,⟨Nat.le_refl _,.inr rfl⟩,⟨rfl,rfl⟩,λi hi=>⟨λhlt=>?_,λhge=>?_⟩⟩
 ·have k1:=q1r (fn2 g) l (i-1) (by omega)
  refine⟨i,(i,qz2 (fn2 g) l (i-1)),⟨Nat.le_refl _,k1.1,k1.2,?_⟩,⟨rfl,rfl⟩,?_⟩
  ·exact xl7 _ _ hi.1
  rintro⟨j,r⟩ ⟨h1,h2,h3,h4⟩
  dsimp only at h1 h2 h3 h4 ⊢
  have fin:j=0\/r=qz2 (fn2 g) l i->fits IntKind.i64 (↑i+1)/\∃v11,(1<=v11/\(v11<=l.length\/v11=1))/\l.length-v11<l.length-i/\(↑i+1:Int)=↑v11/\r=qz2 (fn2 g) l (v11-1):=λq=>by
   refine⟨qb8 (by omega) (by omega),i+1,⟨by omega,.inl (by omega)⟩,by omega,by omega,?_⟩
   rcases q with rfl | q
   ·exact h4
   ·exact q
  refine⟨λh0=>?_,λh0=>fin (.inl (by have h0:(j:Int)<=0:=h0; omega))⟩
  have h0:0<(j:Int):=h0
  obtain⟨q,rfl⟩:∃q,j=q+1:=⟨j-1,by omega⟩
  have e:(((q+1:Nat):Int)-1).toNat=q:=by omega
  have m1:=h3 _ (q4q (l:=r) (i:=q+1) (by omega))
  have m2:=h3 _ (q4q (l:=r) (i:=q) (by omega))
  rw[e]
  refine⟨by omega,by omega,qb8 (by omega) (by omega),⟨by omega,by omega⟩,by omega,hs.ok _ m1 _ m2,λhc=>?_,λhc=>fin (.inr ?_)⟩
  ·refine⟨qb8 (by omega) (by omega),qb8 (by omega) (by omega),⟨by omega,by omega⟩,by omega,by omega,by omega,by omega,by omega,⟨by omega,by rw[List.length_set]; omega⟩,by rw[List.length_set]; omega,qb8 (by omega) (by omega),(q,swp r q),⟨by dsimp only; omega,(we8 r q).trans h2,λx hx=>h3 x (w9n (by omega) x hx),?_⟩,by dsimp only; omega,by push_cast; omega,rfl⟩
   rw[q03,if_pos hc] at h4
   exact h4
  ·rw[q03,if_neg (Int.not_lt.2 hc)] at h4
   exact h4
 ·unfold insL
  congr 1
  omega
abbrev yo5:ql6:=q5h (wl3 [] [.d qd0,x92]) false false 0 3 (.int .i64) (λrows x=>x.1=(nL rows 0).length/\we9 (nL rows 0) x.2.1.1) (λ_ _=>.tup .nil) (λrows x=>[insL (fn2 x.2.1.2) (nL rows 0)])
def x97 (T:q5b) (l r:List Int):Nat->Option Inv
 | 0=>some (Inv.of [0,7,8] 1 (λ_:Unit=>[(0,.msl 0 (some 0)),(7,.lit (.int .i64 0)),(8,.lit (.int .i64 20))]) (λ_=>[.mat 0 3 (.int .i64) [l] (some []) (some T)]) (λ_=>True) (λ_=>0))
 | 1=>some (Inv.of [0,6] 1 (λ_:Unit=>[(0,.msl 0 (some 0)),(6,.lit (.int .i64 20))]) (λ_=>[.mat 0 3 (.int .i64) [r] (some []) (some T)]) (λ_=>True) (λ_=>0))
 | 2=>some (Inv.of [] 0 (λ_:Unit=>[]) (λ_=>[]) (λ_=>True) (λ_=>0))
 | _=>none
theorem w9p:qn4 Tryz.prog 256 yo5:=by
 refine q0w (x3i (SpecsOk.nil _) (MutsOk.cons w9o MutsOk.nil)) Tryz.func256 rfl rfl (q3i (SpecsOk.nil _) _) (λT rows x=>x97 T (nL rows 0) (insL (fn2 x.2.1.2) (nL rows 0))) (λ_ _ _=>by kernel_rfl) (by decide) ?_ rfl
 rintro T rows ⟨a,⟨p,g⟩,⟨⟩⟩ h hone
 obtain⟨l,rfl⟩:∃l:List Int,rows=[l]:=by
  have h1:=hone rfl
  match rows,h1 with
  | [l],_=>exact⟨l,rfl⟩
 have h:a=l.length/\we9 l p:=h
 obtain⟨rfl,hs⟩:=h
 refine @qd1 _ (∃(v0:Unit),∃(v1:Unit),True/\((some (0:Nat)=some (0:Nat)/\(0:Int)=(0:Int)/\(20:Int)=(20:Int)/\True)/\([l]=[nL [l] (0:Nat)]/\True/\T=T)/\True)/\∀(x:Unit),True->(decide ((20:Int)<=(↑l.length:PTy.den (PTy.d qd0)))=true->∃(v5:qa4 [qd0,qd0]->Prop),∃(v6:qa4 [qd0,qd0]->Int),([qd0,qd0]=[qd0,qd0]/\qd0=qd0/\p ≍ v5/\g ≍ v6)/\((0:Int)=(0:PTy.den (PTy.d qd0))/\(20:Int)=(↑(nL [nL [nL [l] (0:Nat)] (0:Nat)] (0:Nat)).length:PTy.den (PTy.d qd0))/\we9 (nL [nL [nL [l] (0:Nat)] (0:Nat)] (0:Nat)) v5)/\fits .i64 (40:Int)/\∃(v7:Unit),True/\(0:Nat)<(0:Nat)/\(some (0:Nat)=some (0:Nat)/\(20:Int)=(0:Int)/\(40:Int)=(20:Int)/\True)/\(List.set [nL [l] (0:Nat)] (0:Nat) (nL [insL (fn2 v6) (nL [nL [nL [l] (0:Nat)] (0:Nat)] (0:Nat))] (0:Nat))=[nL [l] (0:Nat)]/\True/\T=T)/\True)/\(decide ((20:Int)<=(↑l.length:PTy.den (PTy.d qd0)))=false->∃(v5:qa4 [qd0,qd0]->Prop),∃(v6:qa4 [qd0,qd0]->Int),([qd0,qd0]=[qd0,qd0]/\qd0=qd0/\p ≍ v5/\g ≍ v6)/\((0:Int)=(0:PTy.den (PTy.d qd0))/\(↑l.length:PTy.den (PTy.d qd0))=(↑(nL [nL [nL [l] (0:Nat)] (0:Nat)] (0:Nat)).length:PTy.den (PTy.d qd0))/\we9 (nL [nL [nL [l] (0:Nat)] (0:Nat)] (0:Nat)) v5)/\∃(v7:Unit),∃(v8:Unit),True/\((some (0:Nat)=some (0:Nat)/\(20:Int)=(20:Int)/\True)/\(List.set [nL [l] (0:Nat)] (0:Nat) (nL [insL (fn2 v6) (nL [nL [nL [l] (0:Nat)] (0:Nat)] (0:Nat))] (0:Nat))=[insL (fn2 g) (nL [l] (0:Nat))]/\True/\T=T)/\True)/\∀(x:Unit),True->(decide ((20:Int)<(↑l.length:PTy.den (PTy.d qd0)))=true->fits .i64 (40:Int)/\∃(v12:Unit),∃(v13:Unit),True/\(True/\True)/\∀(x:Unit),True->False)/\(decide ((20:Int)<(↑l.length:PTy.den (PTy.d qd0)))=false->[insL (fn2 g) (nL [l] (0:Nat))]=[insL (fn2 g) (nL [l] (0:Nat))]/\T=T/\True/\True))) (by kernel_rfl) ?_
 try simp only[z0,z1,z2,z3,z4,z5,z6,z7,z8,z9,z10,Int.reduceEq,z11,z12,z13,z14,z15,z16,z17,z18,z19,z20,z21,z22,z23,z24,z25,z26,z27,z28,z29,z30,Int.reduceLE,Int.reduceLT,z31,z32,z33,z34,qa1]
 try simp only[qa7,qa8,qb5,z31,z32,z2,z1]
 have hl:=hs.len
 refine⟨(),(),λ_=>⟨λh20=>absurd h20 (by omega),λ_=>⟨p,g,⟨HEq.rfl,HEq.rfl⟩,hs,(),(),rfl,λ_ h20=>absurd h20 (by omega)⟩⟩⟩
abbrev yo6:ql6:=q5h (wl3 [] [x92]) false false 0 3 (.int .i64) (λrows x=>we9 (nL rows 0) x.1.1) (λ_ _=>.tup .nil) (λrows x=>[insL (fn2 x.1.2) (nL rows 0)])
theorem w5f:qn4 Tryz.prog 251 yo6:=by
 refine q0w (x3i (SpecsOk.nil _) (MutsOk.cons w9p MutsOk.nil)) Tryz.func251 rfl rfl (q3i (SpecsOk.nil _) _) (λ_ _ _ _=>none) (λ_ _ _=>by kernel_rfl) (by decide) ?_ rfl
 rintro T rows ⟨⟨p,g⟩,⟨⟩⟩ h hone
 obtain⟨l,rfl⟩:∃l:List Int,rows=[l]:=by
  have h1:=hone rfl
  match rows,h1 with
  | [l],_=>exact⟨l,rfl⟩
 have hs:we9 l p:=h
 refine @qd1 _ (∃(v0:qa4 [qd0,qd0]->Prop),∃(v1:qa4 [qd0,qd0]->Int),([qd0,qd0]=[qd0,qd0]/\qd0=qd0/\p ≍ v0/\g ≍ v1)/\((↑(nL [l] (0:Nat)).length:Int)=(↑(nL [nL [l] (0:Nat)] (0:Nat)).length:PTy.den (PTy.d qd0))/\we9 (nL [nL [l] (0:Nat)] (0:Nat)) v0)/\List.set [l] (0:Nat) (nL [insL (fn2 v1) (nL [nL [l] (0:Nat)] (0:Nat))] (0:Nat))=[insL (fn2 g) (nL [l] (0:Nat))]/\T=T/\True/\True) (by kernel_rfl) ?_
 try simp only[z0,z1,z2,z3,z4,z5,z6,z7,z8,z9,z10,Int.reduceEq,z11,z12,z13,z14,z15,z16,z17,z18,z19,z20,z21,z22,z23,z24,z25,z26,z27,z28,z29,z30,Int.reduceLE,Int.reduceLT,z31,z32,z33,z34,qa1]
 try simp only[qa7,qa8,qb5,z31,z32,z2,z1]
 exact⟨p,g,⟨HEq.rfl,HEq.rfl⟩,hs,rfl⟩
def q5j (h:List Int) (x y:Int):Int:=q4n (nI h y.toNat)-q4n (nI h x.toNat)
abbrev x44:qb4:=hspec [] true none [.d qd0,.d qd0,.cap qe8] [qd0] (λx=>HOk x.2.2.1/\(0<=x.1/\x.1<x.2.2.1.length)/\0<=x.2.1/\x.2.1<x.2.2.1.length) (λx=>(q5j x.2.2.1 x.1 x.2.1,()))
theorem w5g:Meets Tryz.prog 252 x44:=by
 refine qk0 (SpecsOk.nil _) (snd (SpecsOk.cons q2t (SpecsOk.nil _))) Tryz.func252 rfl rfl (λ_ _=>none) (λ_=>by kernel_rfl) (by decide) ?_
 rintro⟨a,b,h,⟨⟩⟩ hh
 revert a b h
 intro(a:Int) (b:Int) (h:List Int) (hh:HOk h/\(0<=a/\a<h.length)/\0<=b/\b<h.length)
 refine @qd1 _ (((0:Int)<=b/\b<(↑h.length:Int))/\qf0 (1000000000:Int) (nI h b.toNat)/\((0:Int)<=a/\a<(↑h.length:Int))/\qf0 (1000000000:Int) (nI h a.toNat)/\fits .i64 (q4n (nI h b.toNat)-q4n (nI h a.toNat))/\q4n (nI h b.toNat)-q4n (nI h a.toNat)=q5j h a b) (by kernel_rfl) ?_
 try simp only[z0,z1,z2,z3,z4,z5,z6,z7,z8,z9,z10,Int.reduceEq,z11,z12,z13,z14,z15,z16,z17,z18,z19,z20,z21,z22,z23,z24,z25,z26,z27,z28,z29,z30,Int.reduceLE,Int.reduceLT,z31,z32,z33,z34,qa1]
 try simp only[qa7,qa8,qb5,z31,z32,z2,z1]
 have h1:=hh.1.sm a.toNat
 have h2:=hh.1.sm b.toNat
 have h3:q4n (nI h a.toNat)=(nI h a.toNat).natAbs:=rfl
 have h4:q4n (nI h b.toNat)=(nI h b.toNat).natAbs:=rfl
 unfold qf0 at *
 exact⟨hh.2.2,⟨by omega,by omega⟩,hh.2.1,⟨by omega,by omega⟩,qb8 (by omega) (by omega),rfl⟩
def q7o (h:List Int) (k:Nat):List Int:=((insL (q5j h) (qp1 h.length)).take k).mergeSort λx y=>decide (x<=y)
structure xl9 (h:List Int) (k:Int):Prop where
 ok:HOk h
 len:h.length<=19
 pos:1<=h.length
 k0:0<=k
 k1:k<=h.length
abbrev yo7:qb4:=qf2 true none [qe8,qd0] [qe8] (λx=>xl9 x.1 x.2.1) (λx=>(q7o x.1 x.2.1.toNat,()))
end Go.Proofs.YtmijnbjlhnpokaaGreat
