/- The places of the greatest sizes: contracts by the engine. No condition. -/
import Derived.Test.YtempacilejhbgaaQ3
import Derived.Test.YtempacilejhbgaaQ4
set_option linter.unusedVariables false
set_option linter.unusedSimpArgs false
namespace Go.Proofs.Ytempacilejhbgaa
open Go Go.RowKit Eng
def swp (l:List Int) (j:Nat):List Int:=(l.set (j+1) (nI l j)).set j (nI l (j+1))
def qs1 (f:Int->Int->Int):Nat->List Int->List Int
 | 0,l=>l
 | j+1,l=>if f (nI l (j+1)) (nI l j)<0 then qs1 f j (swp l j) else l
def qr1 (f:Int->Int->Int) (l:List Int):Nat->List Int
 | 0=>l
 | k+1=>qs1 f (k+1) (qr1 f l k)
def insL (f:Int->Int->Int) (l:List Int):List Int:=qr1 f l (l.length-1)
theorem q5q (l:List Int) (j:Nat):(swp l j).length=l.length:=by simp[swp]
theorem q2y {l:List Int} {i:Nat} (h:i<l.length):nI l i∈l:=by rw[qg6 l i h]; exact List.getElem_mem h
theorem w38 {l:List Int} {j:Nat} (h:j+1<l.length):∀x∈swp l j,x∈l:=λx hx=>by
 unfold swp at hx
 rcases List.mem_or_eq_of_mem_set hx with hx | rfl
 ·rcases List.mem_or_eq_of_mem_set hx with hx | rfl
  ·exact hx
  ·exact q2y (by omega)
 ·exact q2y h
theorem we4 (f:Int->Int->Int):∀(j:Nat) (l:List Int),j<l.length->(qs1 f j l).length=l.length/\∀x∈qs1 f j l,x∈l
 | 0,l,_=>⟨rfl,λx hx=>hx⟩
 | j+1,l,h=>by
  rw[qs1]
  split
  ·have:=we4 f j (swp l j) (by rw[q5q]; omega)
   exact⟨this.1.trans (q5q l j),λx hx=>w38 h x (this.2 x hx)⟩
  ·exact⟨rfl,λx hx=>hx⟩
theorem qw5 (f:Int->Int->Int) (l:List Int):∀k,k<l.length\/k=0->(qr1 f l k).length=l.length/\∀x∈qr1 f l k,x∈l
 | 0,_=>⟨rfl,λx hx=>hx⟩
 | k+1,h=>by
  have h1:=qw5 f l k (by omega)
  have h2:=we4 f (k+1) (qr1 f l k) (by omega)
  exact⟨h2.1.trans h1.1,λx hx=>h1.2 x (h2.2 x hx)⟩
theorem w7m (f:Int->Int->Int) (l:List Int) {i:Nat} (h:1<=i):qs1 f i (qr1 f l (i-1))=qr1 f l i:=by
 cases i with
 | zero=>omega
 | succ i=>rfl
abbrev xr6:PTy:=.fn [qe3,qe3] qe3
abbrev fn2 (g:qa5 [qe3,qe3]->Int) (x y:Int):Int:=g (x,y,())
structure q81 (l:List Int) (p:qa5 [qe3,qe3]->Prop):Prop where
 len:l.length<=19
 ok:∀x∈l,∀y∈l,p (x,y,())
structure w7n (f:Int->Int->Int) (l:List Int) (i j:Nat) (r:List Int):Prop where
 le:j<=i
 len:r.length=l.length
 sub:∀x∈r,x∈l
 eq:qs1 f j r=qr1 f l i
def xr7 (T:q4e) (l:List Int) (f:Int->Int->Int):Nat->Option Inv
 | 0=>some (Inv.of [0,8] 1 (λi:Nat=>[(0,.msl 0 (some 0)),(8,.lit (.int .i64 i))]) (λi=>[.mat 0 3 (.int .i64) [qr1 f l (i-1)] (some []) (some T)]) (λi=>1<=i/\(i<=l.length\/i=1)) (λi=>l.length-i))
 | 1=>some (Eng.Inv.mk Nat (Nat × List Int) [0,9] 1 (λ_ s=>[(0,.msl 0 (some 0)),(9,.lit (.int .i64 s.1))]) (λ_ s=>[.mat 0 3 (.int .i64) [s.2] (some []) (some T)]) (λi s=>w7n f l i s.1 s.2) (λ_ s=>s.1))
 | _=>none
abbrev x0s:qm7:=wb0 (wb3 [] [.d qe3,.d qe3,xr6]) false false 0 3 (.int .i64) (λrows x=>x.1=0/\x.2.1=(nL rows 0).length/\q81 (nL rows 0) x.2.2.1.1) (λ_ _=>.tup .nil) (λrows x=>[insL (fn2 x.2.2.1.2) (nL rows 0)])
theorem w39:qr5 Try.prog 83 x0s:=by
 refine q46 (xi2 (SpecsOk.nil _) MutsOk.nil) Try.func83 rfl rfl (q1u (SpecsOk.nil _) _) (λT rows x=>xr7 T (nL rows 0) (fn2 x.2.2.1.2)) (λ_ _ _=>by kernel_rfl) (by decide) ?_ rfl
 rintro T rows ⟨a,b,⟨p,g⟩,⟨⟩⟩ h hone
 obtain⟨l,rfl⟩:∃l:List Int,rows=[l]:=by
  have h1:=hone rfl
  match rows,h1 with
  | [l],_=>exact⟨l,rfl⟩
 have h:a=0/\b=l.length/\q81 l p:=h
 obtain⟨rfl,rfl,hs⟩:=h
 refine @qe9 _ (fits .i64 ((0:PTy.den (PTy.d qe3))+(1:Int))/\∃(v0:Unit),∃(v1:Nat),((1:Nat)<=v1/\(v1<=List.length (nL [l] (0:Nat))\/v1=(1:Nat)))/\((some (0:Nat)=some (0:Nat)/\(0:PTy.den (PTy.d qe3))+(1:Int)=(↑v1:Int)/\True)/\([l]=[qr1 (fn2 g) (nL [l] (0:Nat)) (v1-(1:Nat))]/\True/\T=T)/\True)/\∀(v2:Nat),(1:Nat)<=v2/\(v2<=List.length (nL [l] (0:Nat))\/v2=(1:Nat))->(decide ((↑v2:Int)<(↑(List.length l):PTy.den (PTy.d qe3)))=true->∃(v5:Nat),∃(v6:Nat × List Int),w7n (fn2 g) (nL [l] (0:Nat)) v5 (Prod.fst v6) (Prod.snd v6)/\((some (0:Nat)=some (0:Nat)/\(↑v2:Int)=(↑(Prod.fst v6):Int)/\True)/\([qr1 (fn2 g) (nL [l] (0:Nat)) (v2-(1:Nat))]=[Prod.snd v6]/\True/\T=T)/\True)/\∀(v7:Nat × List Int),w7n (fn2 g) (nL [l] (0:Nat)) v5 (Prod.fst v7) (Prod.snd v7)->(decide ((0:PTy.den (PTy.d qe3))<(↑(Prod.fst v7):Int))=true->((0:Int)<=(↑(Prod.fst v7):Int)/\(↑(Prod.fst v7):Int)<(↑(List.length (qa3 (Ty.list (Ty.int .i64)) [Prod.snd v7] (0:Nat))):Int))/\Int.toNat (↑(Prod.fst v7):Int)<List.length (qa3 (Ty.list (Ty.int .i64)) [Prod.snd v7] (0:Nat))/\fits .i64 ((↑(Prod.fst v7):Int)-(1:Int))/\((0:Int)<=(↑(Prod.fst v7):Int)-(1:Int)/\(↑(Prod.fst v7):Int)-(1:Int)<(↑(List.length (qa3 (Ty.list (Ty.int .i64)) [Prod.snd v7] (0:Nat))):Int))/\Int.toNat ((↑(Prod.fst v7):Int)-(1:Int))<List.length (qa3 (Ty.list (Ty.int .i64)) [Prod.snd v7] (0:Nat))/\p (qa3 (Ty.int .i64) (qa3 (Ty.list (Ty.int .i64)) [Prod.snd v7] (0:Nat)) (Int.toNat (↑(Prod.fst v7):Int)),qa3 (Ty.int .i64) (qa3 (Ty.list (Ty.int .i64)) [Prod.snd v7] (0:Nat)) (Int.toNat ((↑(Prod.fst v7):Int)-(1:Int))),())/\(decide (g (qa3 (Ty.int .i64) (qa3 (Ty.list (Ty.int .i64)) [Prod.snd v7] (0:Nat)) (Int.toNat (↑(Prod.fst v7):Int)),qa3 (Ty.int .i64) (qa3 (Ty.list (Ty.int .i64)) [Prod.snd v7] (0:Nat)) (Int.toNat ((↑(Prod.fst v7):Int)-(1:Int))),())<(0:Int))=true->fits .i64 ((↑(Prod.fst v7):Int)-(1:Int))/\fits .i64 ((↑(Prod.fst v7):Int)-(1:Int))/\((0:Int)<=(↑(Prod.fst v7):Int)-(1:Int)/\(↑(Prod.fst v7):Int)-(1:Int)<(↑(List.length (qa3 (Ty.list (Ty.int .i64)) [Prod.snd v7] (0:Nat))):Int))/\Int.toNat ((↑(Prod.fst v7):Int)-(1:Int))<List.length (qa3 (Ty.list (Ty.int .i64)) [Prod.snd v7] (0:Nat))/\((0:Int)<=(↑(Prod.fst v7):Int)/\(↑(Prod.fst v7):Int)<(↑(List.length (qa3 (Ty.list (Ty.int .i64)) [Prod.snd v7] (0:Nat))):Int))/\Int.toNat (↑(Prod.fst v7):Int)<List.length (qa3 (Ty.list (Ty.int .i64)) [Prod.snd v7] (0:Nat))/\((0:Int)<=(↑(Prod.fst v7):Int)/\(↑(Prod.fst v7):Int)<(↑(List.length (qa3 (Ty.list (Ty.int .i64)) [Prod.snd v7] (0:Nat))):Int))/\Int.toNat (↑(Prod.fst v7):Int)<List.length (qa3 (Ty.list (Ty.int .i64)) [Prod.snd v7] (0:Nat))/\((0:Int)<=(↑(Prod.fst v7):Int)-(1:Int)/\(↑(Prod.fst v7):Int)-(1:Int)<(↑(List.length (qa3 (Ty.list (Ty.int .i64)) (List.set [Prod.snd v7] (0:Nat) (List.set (qa3 (Ty.list (Ty.int .i64)) [Prod.snd v7] (0:Nat)) (Int.toNat (↑(Prod.fst v7):Int)) (qa3 (Ty.int .i64) (qa3 (Ty.list (Ty.int .i64)) [Prod.snd v7] (0:Nat)) (Int.toNat ((↑(Prod.fst v7):Int)-(1:Int)))))) (0:Nat))):Int))/\Int.toNat ((↑(Prod.fst v7):Int)-(1:Int))<List.length (qa3 (Ty.list (Ty.int .i64)) (List.set [Prod.snd v7] (0:Nat) (List.set (qa3 (Ty.list (Ty.int .i64)) [Prod.snd v7] (0:Nat)) (Int.toNat (↑(Prod.fst v7):Int)) (qa3 (Ty.int .i64) (qa3 (Ty.list (Ty.int .i64)) [Prod.snd v7] (0:Nat)) (Int.toNat ((↑(Prod.fst v7):Int)-(1:Int)))))) (0:Nat))/\fits .i64 ((↑(Prod.fst v7):Int)-(1:Int))/\∃(v11:Nat × List Int),w7n (fn2 g) (nL [l] (0:Nat)) v5 (Prod.fst v11) (Prod.snd v11)/\Prod.fst v11<Prod.fst v7/\(some (0:Nat)=some (0:Nat)/\(↑(Prod.fst v7):Int)-(1:Int)=(↑(Prod.fst v11):Int)/\True)/\(List.set (List.set [Prod.snd v7] (0:Nat) (List.set (qa3 (Ty.list (Ty.int .i64)) [Prod.snd v7] (0:Nat)) (Int.toNat (↑(Prod.fst v7):Int)) (qa3 (Ty.int .i64) (qa3 (Ty.list (Ty.int .i64)) [Prod.snd v7] (0:Nat)) (Int.toNat ((↑(Prod.fst v7):Int)-(1:Int)))))) (0:Nat) (List.set (qa3 (Ty.list (Ty.int .i64)) (List.set [Prod.snd v7] (0:Nat) (List.set (qa3 (Ty.list (Ty.int .i64)) [Prod.snd v7] (0:Nat)) (Int.toNat (↑(Prod.fst v7):Int)) (qa3 (Ty.int .i64) (qa3 (Ty.list (Ty.int .i64)) [Prod.snd v7] (0:Nat)) (Int.toNat ((↑(Prod.fst v7):Int)-(1:Int)))))) (0:Nat)) (Int.toNat ((↑(Prod.fst v7):Int)-(1:Int))) (qa3 (Ty.int .i64) (qa3 (Ty.list (Ty.int .i64)) [Prod.snd v7] (0:Nat)) (Int.toNat (↑(Prod.fst v7):Int))))=[Prod.snd v11]/\True/\T=T)/\True)/\(decide (g (qa3 (Ty.int .i64) (qa3 (Ty.list (Ty.int .i64)) [Prod.snd v7] (0:Nat)) (Int.toNat (↑(Prod.fst v7):Int)),qa3 (Ty.int .i64) (qa3 (Ty.list (Ty.int .i64)) [Prod.snd v7] (0:Nat)) (Int.toNat ((↑(Prod.fst v7):Int)-(1:Int))),())<(0:Int))=false->fits .i64 ((↑v2:Int)+(1:Int))/\∃(v11:Nat),((1:Nat)<=v11/\(v11<=List.length (nL [l] (0:Nat))\/v11=(1:Nat)))/\List.length (nL [l] (0:Nat))-v11<List.length (nL [l] (0:Nat))-v2/\(some (0:Nat)=some (0:Nat)/\(↑v2:Int)+(1:Int)=(↑v11:Int)/\True)/\([Prod.snd v7]=[qr1 (fn2 g) (nL [l] (0:Nat)) (v11-(1:Nat))]/\True/\T=T)/\True))/\(decide ((0:PTy.den (PTy.d qe3))<(↑(Prod.fst v7):Int))=false->fits .i64 ((↑v2:Int)+(1:Int))/\∃(v10:Nat),((1:Nat)<=v10/\(v10<=List.length (nL [l] (0:Nat))\/v10=(1:Nat)))/\List.length (nL [l] (0:Nat))-v10<List.length (nL [l] (0:Nat))-v2/\(some (0:Nat)=some (0:Nat)/\(↑v2:Int)+(1:Int)=(↑v10:Int)/\True)/\([Prod.snd v7]=[qr1 (fn2 g) (nL [l] (0:Nat)) (v10-(1:Nat))]/\True/\T=T)/\True))/\(decide ((↑v2:Int)<(↑(List.length l):PTy.den (PTy.d qe3)))=false->[qr1 (fn2 g) (nL [l] (0:Nat)) (v2-(1:Nat))]=[insL (fn2 g) (nL [l] (0:Nat))]/\T=T/\True/\True)) (by kernel_rfl) ?_
 try simp only[z0,z1,z2,z3,z4,z5,z6,z7,z8,z9,z10,Int.reduceEq,z11,z12,z13,z14,z15,z16,z17,z18,z19,z20,z21,z22,z23,z24,z25,z26,z27,z28,z29,z30,Int.reduceLE,Int.reduceLT,z31,z32,z33,z34,qa6]
 try simp only[qb5,qb6,qd0,List.set_cons_zero,List.cons.injEq,and_true,true_and]
 have hl:=hs.len
 refine⟨qb9 (by decide) (by decide),(),1,⟨Nat.le_refl _,.inr rfl⟩,⟨rfl,rfl⟩,λi hi=>⟨λhlt=>?_,λhge=>?_⟩⟩
 ·have k1:=qw5 (fn2 g) l (i-1) (by omega)
  refine⟨i,(i,qr1 (fn2 g) l (i-1)),⟨Nat.le_refl _,k1.1,k1.2,?_⟩,⟨rfl,rfl⟩,?_⟩
  ·exact w7m _ _ hi.1
  rintro⟨j,r⟩ ⟨h1,h2,h3,h4⟩
  dsimp only at h1 h2 h3 h4 ⊢
  have fin:j=0\/r=qr1 (fn2 g) l i->fits IntKind.i64 (↑i+1)/\∃v11,(1<=v11/\(v11<=l.length\/v11=1))/\l.length-v11<l.length-i/\(↑i+1:Int)=↑v11/\r=qr1 (fn2 g) l (v11-1):=λq=>by
   refine⟨qb9 (by omega) (by omega),i+1,⟨by omega,.inl (by omega)⟩,by omega,by omega,?_⟩
   rcases q with rfl | q
   ·exact h4
   ·exact q
  refine⟨λh0=>?_,λh0=>fin (.inl (by have h0:(j:Int)<=0:=h0; omega))⟩
  have h0:0<(j:Int):=h0
  obtain⟨q,rfl⟩:∃q,j=q+1:=⟨j-1,by omega⟩
  have e:(((q+1:Nat):Int)-1).toNat=q:=by omega
  have m1:=h3 _ (q2y (l:=r) (i:=q+1) (by omega))
  have m2:=h3 _ (q2y (l:=r) (i:=q) (by omega))
  rw[e]
  refine⟨by omega,by omega,qb9 (by omega) (by omega),⟨by omega,by omega⟩,by omega,hs.ok _ m1 _ m2,λhc=>?_,λhc=>fin (.inr ?_)⟩
  ·refine⟨qb9 (by omega) (by omega),qb9 (by omega) (by omega),⟨by omega,by omega⟩,by omega,by omega,by omega,by omega,by omega,⟨by omega,by rw[List.length_set]; omega⟩,by rw[List.length_set]; omega,qb9 (by omega) (by omega),(q,swp r q),⟨by dsimp only; omega,(q5q r q).trans h2,λx hx=>h3 x (w38 (by omega) x hx),?_⟩,by dsimp only; omega,by push_cast; omega,rfl⟩
   rw[qs1,if_pos hc] at h4
   exact h4
  ·rw[qs1,if_neg (Int.not_lt.2 hc)] at h4
   exact h4
 ·unfold insL
  congr 1
  omega
abbrev x0t:qm7:=wb0 (wb3 [] [.d qe3,xr6]) false false 0 3 (.int .i64) (λrows x=>x.1=(nL rows 0).length/\q81 (nL rows 0) x.2.1.1) (λ_ _=>.tup .nil) (λrows x=>[insL (fn2 x.2.1.2) (nL rows 0)])
def xr8 (T:q4e) (l r:List Int):Nat->Option Inv
 | 0=>some (Inv.of [0,7,8] 1 (λ_:Unit=>[(0,.msl 0 (some 0)),(7,.lit (.int .i64 0)),(8,.lit (.int .i64 20))]) (λ_=>[.mat 0 3 (.int .i64) [l] (some []) (some T)]) (λ_=>True) (λ_=>0))
 | 1=>some (Inv.of [0,6] 1 (λ_:Unit=>[(0,.msl 0 (some 0)),(6,.lit (.int .i64 20))]) (λ_=>[.mat 0 3 (.int .i64) [r] (some []) (some T)]) (λ_=>True) (λ_=>0))
 | 2=>some (Inv.of [] 0 (λ_:Unit=>[]) (λ_=>[]) (λ_=>True) (λ_=>0))
 | _=>none
theorem w4a:qr5 Try.prog 76 x0t:=by
 refine q46 (xi2 (SpecsOk.nil _) (MutsOk.cons w39 MutsOk.nil)) Try.func76 rfl rfl (q1u (SpecsOk.nil _) _) (λT rows x=>xr8 T (nL rows 0) (insL (fn2 x.2.1.2) (nL rows 0))) (λ_ _ _=>by kernel_rfl) (by decide) ?_ rfl
 rintro T rows ⟨a,⟨p,g⟩,⟨⟩⟩ h hone
 obtain⟨l,rfl⟩:∃l:List Int,rows=[l]:=by
  have h1:=hone rfl
  match rows,h1 with
  | [l],_=>exact⟨l,rfl⟩
 have h:a=l.length/\q81 l p:=h
 obtain⟨rfl,hs⟩:=h
 refine @qe9 _ (let Q0:=List.length l; ∃(v0:Unit),∃(v1:Unit),True/\((some (0:Nat)=some (0:Nat)/\(0:Int)=(0:Int)/\(20:Int)=(20:Int)/\True)/\([l]=[nL [l] (0:Nat)]/\True/\T=T)/\True)/\∀(x:Unit),True->(decide ((20:Int)<=(↑Q0:PTy.den (PTy.d qe3)))=true->∃(v5:qa5 [qe3,qe3]->Prop),∃(v6:qa5 [qe3,qe3]->Int),([qe3,qe3]=[qe3,qe3]/\qe3=qe3/\p ≍ v5/\g ≍ v6)/\((0:Int)=(0:PTy.den (PTy.d qe3))/\(20:Int)=(↑(List.length (nL [qa3 (Ty.list (Ty.int .i64)) [nL [l] (0:Nat)] (0:Nat)] (0:Nat))):PTy.den (PTy.d qe3))/\q81 (nL [qa3 (Ty.list (Ty.int .i64)) [nL [l] (0:Nat)] (0:Nat)] (0:Nat)) v5)/\fits .i64 (40:Int)/\∃(v7:Unit),True/\(0:Nat)<(0:Nat)/\(some (0:Nat)=some (0:Nat)/\(20:Int)=(0:Int)/\(40:Int)=(20:Int)/\True)/\(List.set [nL [l] (0:Nat)] (0:Nat) (qa3 (Ty.list (Ty.int .i64)) [insL (fn2 v6) (nL [qa3 (Ty.list (Ty.int .i64)) [nL [l] (0:Nat)] (0:Nat)] (0:Nat))] (0:Nat))=[nL [l] (0:Nat)]/\True/\T=T)/\True)/\(decide ((20:Int)<=(↑Q0:PTy.den (PTy.d qe3)))=false->∃(v5:qa5 [qe3,qe3]->Prop),∃(v6:qa5 [qe3,qe3]->Int),([qe3,qe3]=[qe3,qe3]/\qe3=qe3/\p ≍ v5/\g ≍ v6)/\((0:Int)=(0:PTy.den (PTy.d qe3))/\(↑Q0:PTy.den (PTy.d qe3))=(↑(List.length (nL [qa3 (Ty.list (Ty.int .i64)) [nL [l] (0:Nat)] (0:Nat)] (0:Nat))):PTy.den (PTy.d qe3))/\q81 (nL [qa3 (Ty.list (Ty.int .i64)) [nL [l] (0:Nat)] (0:Nat)] (0:Nat)) v5)/\∃(v7:Unit),∃(v8:Unit),True/\((some (0:Nat)=some (0:Nat)/\(20:Int)=(20:Int)/\True)/\(List.set [nL [l] (0:Nat)] (0:Nat) (qa3 (Ty.list (Ty.int .i64)) [insL (fn2 v6) (nL [qa3 (Ty.list (Ty.int .i64)) [nL [l] (0:Nat)] (0:Nat)] (0:Nat))] (0:Nat))=[insL (fn2 g) (nL [l] (0:Nat))]/\True/\T=T)/\True)/\∀(x:Unit),True->(decide ((20:Int)<(↑Q0:PTy.den (PTy.d qe3)))=true->fits .i64 (40:Int)/\∃(v12:Unit),∃(v13:Unit),True/\(True/\True)/\∀(x:Unit),True->False)/\(decide ((20:Int)<(↑Q0:PTy.den (PTy.d qe3)))=false->[insL (fn2 g) (nL [l] (0:Nat))]=[insL (fn2 g) (nL [l] (0:Nat))]/\T=T/\True/\True))) (by kernel_rfl) ?_
 try simp only[z0,z1,z2,z3,z4,z5,z6,z7,z8,z9,z10,Int.reduceEq,z11,z12,z13,z14,z15,z16,z17,z18,z19,z20,z21,z22,z23,z24,z25,z26,z27,z28,z29,z30,Int.reduceLE,Int.reduceLT,z31,z32,z33,z34,qa6]
 try simp only[qb5,qb6,qd0,List.set_cons_zero,List.cons.injEq,and_true,true_and]
 have hl:=hs.len
 refine⟨(),(),λ_=>⟨λh20=>absurd h20 (by omega),λ_=>⟨p,g,⟨HEq.rfl,HEq.rfl⟩,hs,(),(),rfl,λ_ h20=>absurd h20 (by omega)⟩⟩⟩
abbrev x0u:qm7:=wb0 (wb3 [] [xr6]) false false 0 3 (.int .i64) (λrows x=>q81 (nL rows 0) x.1.1) (λ_ _=>.tup .nil) (λrows x=>[insL (fn2 x.1.2) (nL rows 0)])
theorem w0n:qr5 Try.prog 63 x0u:=by
 refine q46 (xi2 (SpecsOk.nil _) (MutsOk.cons w4a MutsOk.nil)) Try.func63 rfl rfl (q1u (SpecsOk.nil _) _) (λ_ _ _ _=>none) (λ_ _ _=>by kernel_rfl) (by decide) ?_ rfl
 rintro T rows ⟨⟨p,g⟩,⟨⟩⟩ h hone
 obtain⟨l,rfl⟩:∃l:List Int,rows=[l]:=by
  have h1:=hone rfl
  match rows,h1 with
  | [l],_=>exact⟨l,rfl⟩
 have hs:q81 l p:=h
 refine @qe9 _ (∃(v0:qa5 [qe3,qe3]->Prop),∃(v1:qa5 [qe3,qe3]->Int),([qe3,qe3]=[qe3,qe3]/\qe3=qe3/\p ≍ v0/\g ≍ v1)/\((↑(List.length (qa3 (Ty.list (Ty.int .i64)) [l] (0:Nat))):Int)=(↑(List.length (nL [qa3 (Ty.list (Ty.int .i64)) [l] (0:Nat)] (0:Nat))):PTy.den (PTy.d qe3))/\q81 (nL [qa3 (Ty.list (Ty.int .i64)) [l] (0:Nat)] (0:Nat)) v0)/\List.set [l] (0:Nat) (qa3 (Ty.list (Ty.int .i64)) [insL (fn2 v1) (nL [qa3 (Ty.list (Ty.int .i64)) [l] (0:Nat)] (0:Nat))] (0:Nat))=[insL (fn2 g) (nL [l] (0:Nat))]/\T=T/\True/\True) (by kernel_rfl) ?_
 try simp only[z0,z1,z2,z3,z4,z5,z6,z7,z8,z9,z10,Int.reduceEq,z11,z12,z13,z14,z15,z16,z17,z18,z19,z20,z21,z22,z23,z24,z25,z26,z27,z28,z29,z30,Int.reduceLE,Int.reduceLT,z31,z32,z33,z34,qa6]
 try simp only[qb5,qb6,qd0,List.set_cons_zero,List.cons.injEq,and_true,true_and]
 exact⟨p,g,⟨HEq.rfl,HEq.rfl⟩,hs,rfl⟩
def q3l (h:List Int) (x y:Int):Int:=qf9 (nI h y.toNat)-qf9 (nI h x.toNat)
abbrev xk3:qc7:=hspec [] true none [.d qe3,.d qe3,.cap qf8] [qe3] (λx=>HOk x.2.2.1/\(0<=x.1/\x.1<x.2.2.1.length)/\0<=x.2.1/\x.2.1<x.2.2.1.length) (λx=>(q3l x.2.2.1 x.1 x.2.1,()))
theorem w0o:qe6 Try.prog 64 xk3:=by
 refine qt6 (SpecsOk.nil _) (snd (SpecsOk.cons q07 (SpecsOk.nil _))) Try.func64 rfl rfl (λ_ _=>none) (λ_=>by kernel_rfl) (by decide) ?_
 rintro⟨a,b,h,⟨⟩⟩ hh
 revert a b h
 intro(a:Int) (b:Int) (h:List Int) (hh:HOk h/\(0<=a/\a<h.length)/\0<=b/\b<h.length)
 refine @qe9 _ (let Q0:=Int.toNat b; let Q1:=Int.toNat a; ((0:Int)<=b/\b<(↑(List.length h):Int))/\qj0 (1000000000:Int) (qa3 (Ty.int .i64) h Q0)/\((0:Int)<=a/\a<(↑(List.length h):Int))/\qj0 (1000000000:Int) (qa3 (Ty.int .i64) h Q1)/\fits .i64 (qf9 (qa3 (Ty.int .i64) h Q0)-qf9 (qa3 (Ty.int .i64) h Q1))/\qf9 (qa3 (Ty.int .i64) h Q0)-qf9 (qa3 (Ty.int .i64) h Q1)=q3l h a b) (by kernel_rfl) ?_
 try simp only[z0,z1,z2,z3,z4,z5,z6,z7,z8,z9,z10,Int.reduceEq,z11,z12,z13,z14,z15,z16,z17,z18,z19,z20,z21,z22,z23,z24,z25,z26,z27,z28,z29,z30,Int.reduceLE,Int.reduceLT,z31,z32,z33,z34,qa6]
 try simp only[qb5,qb6,qd0,List.set_cons_zero,List.cons.injEq,and_true,true_and]
 have h1:=hh.1.sm a.toNat
 have h2:=hh.1.sm b.toNat
 have h3:qf9 (nI h a.toNat)=(nI h a.toNat).natAbs:=rfl
 have h4:qf9 (nI h b.toNat)=(nI h b.toNat).natAbs:=rfl
 unfold qj0 at *
 exact⟨hh.2.2,⟨by omega,by omega⟩,hh.2.1,⟨by omega,by omega⟩,qb9 (by omega) (by omega),rfl⟩
def q0i (h:List Int) (k:Nat):List Int:=((insL (q3l h) (qm5 h.length)).take k).mergeSort λx y=>decide (x<=y)
structure w7o (h:List Int) (k:Int):Prop where
 ok:HOk h
 len:h.length<=19
 pos:1<=h.length
 k0:0<=k
 k1:k<=h.length
abbrev x0v:qc7:=qh6 true none [qf8,qe3] [qf8] (λx=>w7o x.1 x.2.1) (λx=>(q0i x.1 x.2.1.toNat,()))
end Go.Proofs.Ytempacilejhbgaa
