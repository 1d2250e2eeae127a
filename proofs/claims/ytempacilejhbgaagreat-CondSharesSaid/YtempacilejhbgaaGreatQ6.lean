/- The places of the greatest sizes: contracts by the engine. No condition. -/
import Derived.Test.YtempacilejhbgaaGreatQ4
set_option linter.unusedVariables false
set_option linter.unusedSimpArgs false
namespace Go.Proofs.YtempacilejhbgaaGreat
open Go Go.RowKit Eng
def swp (l:List Int) (j:Nat):List Int:=(l.set (j+1) (nI l j)).set j (nI l (j+1))
def q0m (f:Int->Int->Int):Nat->List Int->List Int
 | 0,l=>l
 | j+1,l=>if f (nI l (j+1)) (nI l j)<0 then q0m f j (swp l j) else l
def qy6 (f:Int->Int->Int) (l:List Int):Nat->List Int
 | 0=>l
 | k+1=>q0m f (k+1) (qy6 f l k)
def insL (f:Int->Int->Int) (l:List Int):List Int:=qy6 f l (l.length-1)
theorem q91 (l:List Int) (j:Nat):(swp l j).length=l.length:=by simp[swp]
theorem q3r {l:List Int} {i:Nat} (h:i<l.length):nI l i∈l:=by rw[qg5 l i h]; exact List.getElem_mem h
theorem w5o {l:List Int} {j:Nat} (h:j+1<l.length):∀x∈swp l j,x∈l:=λx hx=>by
 unfold swp at hx
 rcases List.mem_or_eq_of_mem_set hx with hx | rfl
 ·rcases List.mem_or_eq_of_mem_set hx with hx | rfl
  ·exact hx
  ·exact q3r (by omega)
 ·exact q3r h
theorem wj5 (f:Int->Int->Int):∀(j:Nat) (l:List Int),j<l.length->(q0m f j l).length=l.length/\∀x∈q0m f j l,x∈l
 | 0,l,_=>⟨rfl,λx hx=>hx⟩
 | j+1,l,h=>by
  rw[q0m]
  split
  ·have:=wj5 f j (swp l j) (by rw[q91]; omega)
   exact⟨this.1.trans (q91 l j),λx hx=>w5o h x (this.2 x hx)⟩
  ·exact⟨rfl,λx hx=>hx⟩
theorem q09 (f:Int->Int->Int) (l:List Int):∀k,k<l.length\/k=0->(qy6 f l k).length=l.length/\∀x∈qy6 f l k,x∈l
 | 0,_=>⟨rfl,λx hx=>hx⟩
 | k+1,h=>by
  have h1:=q09 f l k (by omega)
  have h2:=wj5 f (k+1) (qy6 f l k) (by omega)
  exact⟨h2.1.trans h1.1,λx hx=>h1.2 x (h2.2 x hx)⟩
theorem w9b (f:Int->Int->Int) (l:List Int) {i:Nat} (h:1<=i):q0m f i (qy6 f l (i-1))=qy6 f l i:=by
 cases i with
 | zero=>omega
 | succ i=>rfl
abbrev x03:PTy:=.fn [qd6,qd6] qd6
abbrev fn2 (g:qa6 [qd6,qd6]->Int) (x y:Int):Int:=g (x,y,())
structure q92 (l:List Int) (p:qa6 [qd6,qd6]->Prop):Prop where
 len:l.length<=19
 ok:∀x∈l,∀y∈l,p (x,y,())
structure w9c (f:Int->Int->Int) (l:List Int) (i j:Nat) (r:List Int):Prop where
 le:j<=i
 len:r.length=l.length
 sub:∀x∈r,x∈l
 eq:q0m f j r=qy6 f l i
def x04 (T:q45) (l:List Int) (f:Int->Int->Int):Nat->Option Inv
 | 0=>some (Inv.of [0,8] 1 (λi:Nat=>[(0,.msl 0 (some 0)),(8,.lit (.int .i64 i))]) (λi=>[.mat 0 3 (.int .i64) [qy6 f l (i-1)] (some []) (some T)]) (λi=>1<=i/\(i<=l.length\/i=1)) (λi=>l.length-i))
 | 1=>some (Eng.Inv.mk Nat (Nat × List Int) [0,9] 1 (λ_ s=>[(0,.msl 0 (some 0)),(9,.lit (.int .i64 s.1))]) (λ_ s=>[.mat 0 3 (.int .i64) [s.2] (some []) (some T)]) (λi s=>w9c f l i s.1 s.2) (λ_ s=>s.1))
 | _=>none
abbrev x49:qo7:=wf7 (wg1 [] [.d qd6,.d qd6,x03]) false false 0 3 (.int .i64) (λrows x=>x.1=0/\x.2.1=(nL rows 0).length/\q92 (nL rows 0) x.2.2.1.1) (λ_ _=>.tup .nil) (λrows x=>[insL (fn2 x.2.2.1.2) (nL rows 0)])
theorem w5p:qt9 Tryz.prog 169 x49:=by
 refine q5x (xq6 (SpecsOk.nil _) MutsOk.nil) Tryz.func169 rfl rfl (q2u (SpecsOk.nil _) _) (λT rows x=>x04 T (nL rows 0) (fn2 x.2.2.1.2)) (λ_ _ _=>by kernel_rfl) (by decide) ?_ rfl
 rintro T rows ⟨a,b,⟨p,g⟩,⟨⟩⟩ h hone
 obtain⟨l,rfl⟩:∃l:List Int,rows=[l]:=by
  have h1:=hone rfl
  match rows,h1 with
  | [l],_=>exact⟨l,rfl⟩
 have h:a=0/\b=l.length/\q92 l p:=h
 obtain⟨rfl,rfl,hs⟩:=h
 refine @qe1 _ (fits .i64 ((0:PTy.den (PTy.d qd6))+(1:Int))/\∃(v0:Unit),∃(v1:Nat),((1:Nat)<=v1/\(v1<=List.length (nL [l] (0:Nat))\/v1=(1:Nat)))/\((some (0:Nat)=some (0:Nat)/\(0:PTy.den (PTy.d qd6))+(1:Int)=(↑v1:Int)/\True)/\([l]=[qy6 (fn2 g) (nL [l] (0:Nat)) (v1-(1:Nat))]/\True/\T=T)/\True)/\∀(v2:Nat),(1:Nat)<=v2/\(v2<=List.length (nL [l] (0:Nat))\/v2=(1:Nat))->(decide ((↑v2:Int)<(↑(List.length l):PTy.den (PTy.d qd6)))=true->∃(v5:Nat),∃(v6:Nat × List Int),w9c (fn2 g) (nL [l] (0:Nat)) v5 (Prod.fst v6) (Prod.snd v6)/\((some (0:Nat)=some (0:Nat)/\(↑v2:Int)=(↑(Prod.fst v6):Int)/\True)/\([qy6 (fn2 g) (nL [l] (0:Nat)) (v2-(1:Nat))]=[Prod.snd v6]/\True/\T=T)/\True)/\∀(v7:Nat × List Int),w9c (fn2 g) (nL [l] (0:Nat)) v5 (Prod.fst v7) (Prod.snd v7)->(decide ((0:PTy.den (PTy.d qd6))<(↑(Prod.fst v7):Int))=true->((0:Int)<=(↑(Prod.fst v7):Int)/\(↑(Prod.fst v7):Int)<(↑(List.length (qa1 (Ty.list (Ty.int .i64)) [Prod.snd v7] (0:Nat))):Int))/\Int.toNat (↑(Prod.fst v7):Int)<List.length (qa1 (Ty.list (Ty.int .i64)) [Prod.snd v7] (0:Nat))/\fits .i64 ((↑(Prod.fst v7):Int)-(1:Int))/\((0:Int)<=(↑(Prod.fst v7):Int)-(1:Int)/\(↑(Prod.fst v7):Int)-(1:Int)<(↑(List.length (qa1 (Ty.list (Ty.int .i64)) [Prod.snd v7] (0:Nat))):Int))/\Int.toNat ((↑(Prod.fst v7):Int)-(1:Int))<List.length (qa1 (Ty.list (Ty.int .i64)) [Prod.snd v7] (0:Nat))/\p (qa1 (Ty.int .i64) (qa1 (Ty.list (Ty.int .i64)) [Prod.snd v7] (0:Nat)) (Int.toNat (↑(Prod.fst v7):Int)),qa1 (Ty.int .i64) (qa1 (Ty.list (Ty.int .i64)) [Prod.snd v7] (0:Nat)) (Int.toNat ((↑(Prod.fst v7):Int)-(1:Int))),())/\(decide (g (qa1 (Ty.int .i64) (qa1 (Ty.list (Ty.int .i64)) [Prod.snd v7] (0:Nat)) (Int.toNat (↑(Prod.fst v7):Int)),qa1 (Ty.int .i64) (qa1 (Ty.list (Ty.int .i64)) [Prod.snd v7] (0:Nat)) (Int.toNat ((↑(Prod.fst v7):Int)-(1:Int))),())<(0:Int))=true->fits .i64 ((↑(Prod.fst v7):Int)-(1:Int))/\fits .i64 ((↑(Prod.fst v7):Int)-(1:Int))/\((0:Int)<=(↑(Prod.fst v7):Int)-(1:Int)/\(↑(Prod.fst v7):Int)-(1:Int)<(↑(List.length (qa1 (Ty.list (Ty.int .i64)) [Prod.snd v7] (0:Nat))):Int))/\Int.toNat ((↑(Prod.fst v7):Int)-(1:Int))<List.length (qa1 (Ty.list (Ty.int .i64)) [Prod.snd v7] (0:Nat))/\((0:Int)<=(↑(Prod.fst v7):Int)/\(↑(Prod.fst v7):Int)<(↑(List.length (qa1 (Ty.list (Ty.int .i64)) [Prod.snd v7] (0:Nat))):Int))/\Int.toNat (↑(Prod.fst v7):Int)<List.length (qa1 (Ty.list (Ty.int .i64)) [Prod.snd v7] (0:Nat))/\((0:Int)<=(↑(Prod.fst v7):Int)/\(↑(Prod.fst v7):Int)<(↑(List.length (qa1 (Ty.list (Ty.int .i64)) [Prod.snd v7] (0:Nat))):Int))/\Int.toNat (↑(Prod.fst v7):Int)<List.length (qa1 (Ty.list (Ty.int .i64)) [Prod.snd v7] (0:Nat))/\((0:Int)<=(↑(Prod.fst v7):Int)-(1:Int)/\(↑(Prod.fst v7):Int)-(1:Int)<(↑(List.length (qa1 (Ty.list (Ty.int .i64)) (List.set [Prod.snd v7] (0:Nat) (List.set (qa1 (Ty.list (Ty.int .i64)) [Prod.snd v7] (0:Nat)) (Int.toNat (↑(Prod.fst v7):Int)) (qa1 (Ty.int .i64) (qa1 (Ty.list (Ty.int .i64)) [Prod.snd v7] (0:Nat)) (Int.toNat ((↑(Prod.fst v7):Int)-(1:Int)))))) (0:Nat))):Int))/\Int.toNat ((↑(Prod.fst v7):Int)-(1:Int))<List.length (qa1 (Ty.list (Ty.int .i64)) (List.set [Prod.snd v7] (0:Nat) (List.set (qa1 (Ty.list (Ty.int .i64)) [Prod.snd v7] (0:Nat)) (Int.toNat (↑(Prod.fst v7):Int)) (qa1 (Ty.int .i64) (qa1 (Ty.list (Ty.int .i64)) [Prod.snd v7] (0:Nat)) (Int.toNat ((↑(Prod.fst v7):Int)-(1:Int)))))) (0:Nat))/\fits .i64 ((↑(Prod.fst v7):Int)-(1:Int))/\∃(v11:Nat × List Int),w9c (fn2 g) (nL [l] (0:Nat)) v5 (Prod.fst v11) (Prod.snd v11)/\Prod.fst v11<Prod.fst v7/\(some (0:Nat)=some (0:Nat)/\(↑(Prod.fst v7):Int)-(1:Int)=(↑(Prod.fst v11):Int)/\True)/\(List.set (List.set [Prod.snd v7] (0:Nat) (List.set (qa1 (Ty.list (Ty.int .i64)) [Prod.snd v7] (0:Nat)) (Int.toNat (↑(Prod.fst v7):Int)) (qa1 (Ty.int .i64) (qa1 (Ty.list (Ty.int .i64)) [Prod.snd v7] (0:Nat)) (Int.toNat ((↑(Prod.fst v7):Int)-(1:Int)))))) (0:Nat) (List.set (qa1 (Ty.list (Ty.int .i64)) (List.set [Prod.snd v7] (0:Nat) (List.set (qa1 (Ty.list (Ty.int .i64)) [Prod.snd v7] (0:Nat)) (Int.toNat (↑(Prod.fst v7):Int)) (qa1 (Ty.int .i64) (qa1 (Ty.list (Ty.int .i64)) [Prod.snd v7] (0:Nat)) (Int.toNat ((↑(Prod.fst v7):Int)-(1:Int)))))) (0:Nat)) (Int.toNat ((↑(Prod.fst v7):Int)-(1:Int))) (qa1 (Ty.int .i64) (qa1 (Ty.list (Ty.int .i64)) [Prod.snd v7] (0:Nat)) (Int.toNat (↑(Prod.fst v7):Int))))=[Prod.snd v11]/\True/\T=T)/\True)/\(decide (g (qa1 (Ty.int .i64) (qa1 (Ty.list (Ty.int .i64)) [Prod.snd v7] (0:Nat)) (Int.toNat (↑(Prod.fst v7):Int)),qa1 (Ty.int .i64) (qa1 (Ty.list (Ty.int .i64)) [Prod.snd v7] (0:Nat)) (Int.toNat ((↑(Prod.fst v7):Int)-(1:Int))),())<(0:Int))=false->fits .i64 ((↑v2:Int)+(1:Int))/\∃(v11:Nat),((1:Nat)<=v11/\(v11<=List.length (nL [l] (0:Nat))\/v11=(1:Nat)))/\List.length (nL [l] (0:Nat))-v11<List.length (nL [l] (0:Nat))-v2/\(some (0:Nat)=some (0:Nat)/\(↑v2:Int)+(1:Int)=(↑v11:Int)/\True)/\([Prod.snd v7]=[qy6 (fn2 g) (nL [l] (0:Nat)) (v11-(1:Nat))]/\True/\T=T)/\True))/\(decide ((0:PTy.den (PTy.d qd6))<(↑(Prod.fst v7):Int))=false->fits .i64 ((↑v2:Int)+(1:Int))/\∃(v10:Nat),((1:Nat)<=v10/\(v10<=List.length (nL [l] (0:Nat))\/v10=(1:Nat)))/\List.length (nL [l] (0:Nat))-v10<List.length (nL [l] (0:Nat))-v2/\(some (0:Nat)=some (0:Nat)/\(↑v2:Int)+(1:Int)=(↑v10:Int)/\True)/\([Prod.snd v7]=[qy6 (fn2 g) (nL [l] (0:Nat)) (v10-(1:Nat))]/\True/\T=T)/\True))/\(decide ((↑v2:Int)<(↑(List.length l):PTy.den (PTy.d qd6)))=false->[qy6 (fn2 g) (nL [l] (0:Nat)) (v2-(1:Nat))]=[insL (fn2 g) (nL [l] (0:Nat))]/\T=T/\True/\True)) (by kernel_rfl) ?_
 try simp only[z0,z1,z2,z3,z4,z5,z6,z7,z8,z9,z10,Int.reduceEq,z11,z12,z13,z14,z15,z16,z17,z18,z19,z20,z21,z22,z23,z24,z25,z26,z27,z28,z29,z30,Int.reduceLE,Int.reduceLT,z31,z32,z33,z34,qa4]
 try simp only[qb3,qb4,qb9,List.set_cons_zero,List.cons.injEq,and_true,true_and]
 have hl:=hs.len
 refine⟨qa7 (by decide) (by decide),(),1,⟨Nat.le_refl _,.inr rfl⟩,⟨rfl,rfl⟩,λi hi=>⟨λhlt=>?_,λhge=>?_⟩⟩
 ·have k1:=q09 (fn2 g) l (i-1) (by omega)
  refine⟨i,(i,qy6 (fn2 g) l (i-1)),⟨Nat.le_refl _,k1.1,k1.2,?_⟩,⟨rfl,rfl⟩,?_⟩
  ·exact w9b _ _ hi.1
  rintro⟨j,r⟩ ⟨h1,h2,h3,h4⟩
  dsimp only at h1 h2 h3 h4 ⊢
  have fin:j=0\/r=qy6 (fn2 g) l i->fits IntKind.i64 (↑i+1)/\∃v11,(1<=v11/\(v11<=l.length\/v11=1))/\l.length-v11<l.length-i/\(↑i+1:Int)=↑v11/\r=qy6 (fn2 g) l (v11-1):=λq=>by
   refine⟨qa7 (by omega) (by omega),i+1,⟨by omega,.inl (by omega)⟩,by omega,by omega,?_⟩
   rcases q with rfl | q
   ·exact h4
   ·exact q
  refine⟨λh0=>?_,λh0=>fin (.inl (by have h0:(j:Int)<=0:=h0; omega))⟩
  have h0:0<(j:Int):=h0
  obtain⟨q,rfl⟩:∃q,j=q+1:=⟨j-1,by omega⟩
  have e:(((q+1:Nat):Int)-1).toNat=q:=by omega
  have m1:=h3 _ (q3r (l:=r) (i:=q+1) (by omega))
  have m2:=h3 _ (q3r (l:=r) (i:=q) (by omega))
  rw[e]
  refine⟨by omega,by omega,qa7 (by omega) (by omega),⟨by omega,by omega⟩,by omega,hs.ok _ m1 _ m2,λhc=>?_,λhc=>fin (.inr ?_)⟩
  ·refine⟨qa7 (by omega) (by omega),qa7 (by omega) (by omega),⟨by omega,by omega⟩,by omega,by omega,by omega,by omega,by omega,⟨by omega,by rw[List.length_set]; omega⟩,by rw[List.length_set]; omega,qa7 (by omega) (by omega),(q,swp r q),⟨by dsimp only; omega,(q91 r q).trans h2,λx hx=>h3 x (w5o (by omega) x hx),?_⟩,by dsimp only; omega,by push_cast; omega,rfl⟩
   rw[q0m,if_pos hc] at h4
   exact h4
  ·rw[q0m,if_neg (Int.not_lt.2 hc)] at h4
   exact h4
 ·unfold insL
  congr 1
  omega
abbrev x5b:qo7:=wf7 (wg1 [] [.d qd6,x03]) false false 0 3 (.int .i64) (λrows x=>x.1=(nL rows 0).length/\q92 (nL rows 0) x.2.1.1) (λ_ _=>.tup .nil) (λrows x=>[insL (fn2 x.2.1.2) (nL rows 0)])
def x05 (T:q45) (l r:List Int):Nat->Option Inv
 | 0=>some (Inv.of [0,7,8] 1 (λ_:Unit=>[(0,.msl 0 (some 0)),(7,.lit (.int .i64 0)),(8,.lit (.int .i64 20))]) (λ_=>[.mat 0 3 (.int .i64) [l] (some []) (some T)]) (λ_=>True) (λ_=>0))
 | 1=>some (Inv.of [0,6] 1 (λ_:Unit=>[(0,.msl 0 (some 0)),(6,.lit (.int .i64 20))]) (λ_=>[.mat 0 3 (.int .i64) [r] (some []) (some T)]) (λ_=>True) (λ_=>0))
 | 2=>some (Inv.of [] 0 (λ_:Unit=>[]) (λ_=>[]) (λ_=>True) (λ_=>0))
 | _=>none
theorem w5q:qt9 Tryz.prog 148 x5b:=by
 refine q5x (xq6 (SpecsOk.nil _) (MutsOk.cons w5p MutsOk.nil)) Tryz.func148 rfl rfl (q2u (SpecsOk.nil _) _) (λT rows x=>x05 T (nL rows 0) (insL (fn2 x.2.1.2) (nL rows 0))) (λ_ _ _=>by kernel_rfl) (by decide) ?_ rfl
 rintro T rows ⟨a,⟨p,g⟩,⟨⟩⟩ h hone
 obtain⟨l,rfl⟩:∃l:List Int,rows=[l]:=by
  have h1:=hone rfl
  match rows,h1 with
  | [l],_=>exact⟨l,rfl⟩
 have h:a=l.length/\q92 l p:=h
 obtain⟨rfl,hs⟩:=h
 refine @qe1 _ (let Q0:=List.length l; ∃(v0:Unit),∃(v1:Unit),True/\((some (0:Nat)=some (0:Nat)/\(0:Int)=(0:Int)/\(20:Int)=(20:Int)/\True)/\([l]=[nL [l] (0:Nat)]/\True/\T=T)/\True)/\∀(x:Unit),True->(decide ((20:Int)<=(↑Q0:PTy.den (PTy.d qd6)))=true->∃(v5:qa6 [qd6,qd6]->Prop),∃(v6:qa6 [qd6,qd6]->Int),([qd6,qd6]=[qd6,qd6]/\qd6=qd6/\p ≍ v5/\g ≍ v6)/\((0:Int)=(0:PTy.den (PTy.d qd6))/\(20:Int)=(↑(List.length (nL [qa1 (Ty.list (Ty.int .i64)) [nL [l] (0:Nat)] (0:Nat)] (0:Nat))):PTy.den (PTy.d qd6))/\q92 (nL [qa1 (Ty.list (Ty.int .i64)) [nL [l] (0:Nat)] (0:Nat)] (0:Nat)) v5)/\fits .i64 (40:Int)/\∃(v7:Unit),True/\(0:Nat)<(0:Nat)/\(some (0:Nat)=some (0:Nat)/\(20:Int)=(0:Int)/\(40:Int)=(20:Int)/\True)/\(List.set [nL [l] (0:Nat)] (0:Nat) (qa1 (Ty.list (Ty.int .i64)) [insL (fn2 v6) (nL [qa1 (Ty.list (Ty.int .i64)) [nL [l] (0:Nat)] (0:Nat)] (0:Nat))] (0:Nat))=[nL [l] (0:Nat)]/\True/\T=T)/\True)/\(decide ((20:Int)<=(↑Q0:PTy.den (PTy.d qd6)))=false->∃(v5:qa6 [qd6,qd6]->Prop),∃(v6:qa6 [qd6,qd6]->Int),([qd6,qd6]=[qd6,qd6]/\qd6=qd6/\p ≍ v5/\g ≍ v6)/\((0:Int)=(0:PTy.den (PTy.d qd6))/\(↑Q0:PTy.den (PTy.d qd6))=(↑(List.length (nL [qa1 (Ty.list (Ty.int .i64)) [nL [l] (0:Nat)] (0:Nat)] (0:Nat))):PTy.den (PTy.d qd6))/\q92 (nL [qa1 (Ty.list (Ty.int .i64)) [nL [l] (0:Nat)] (0:Nat)] (0:Nat)) v5)/\∃(v7:Unit),∃(v8:Unit),True/\((some (0:Nat)=some (0:Nat)/\(20:Int)=(20:Int)/\True)/\(List.set [nL [l] (0:Nat)] (0:Nat) (qa1 (Ty.list (Ty.int .i64)) [insL (fn2 v6) (nL [qa1 (Ty.list (Ty.int .i64)) [nL [l] (0:Nat)] (0:Nat)] (0:Nat))] (0:Nat))=[insL (fn2 g) (nL [l] (0:Nat))]/\True/\T=T)/\True)/\∀(x:Unit),True->(decide ((20:Int)<(↑Q0:PTy.den (PTy.d qd6)))=true->fits .i64 (40:Int)/\∃(v12:Unit),∃(v13:Unit),True/\(True/\True)/\∀(x:Unit),True->False)/\(decide ((20:Int)<(↑Q0:PTy.den (PTy.d qd6)))=false->[insL (fn2 g) (nL [l] (0:Nat))]=[insL (fn2 g) (nL [l] (0:Nat))]/\T=T/\True/\True))) (by kernel_rfl) ?_
 try simp only[z0,z1,z2,z3,z4,z5,z6,z7,z8,z9,z10,Int.reduceEq,z11,z12,z13,z14,z15,z16,z17,z18,z19,z20,z21,z22,z23,z24,z25,z26,z27,z28,z29,z30,Int.reduceLE,Int.reduceLT,z31,z32,z33,z34,qa4]
 try simp only[qb3,qb4,qb9,List.set_cons_zero,List.cons.injEq,and_true,true_and]
 have hl:=hs.len
 refine⟨(),(),λ_=>⟨λh20=>absurd h20 (by omega),λ_=>⟨p,g,⟨HEq.rfl,HEq.rfl⟩,hs,(),(),rfl,λ_ h20=>absurd h20 (by omega)⟩⟩⟩
abbrev x5c:qo7:=wf7 (wg1 [] [x03]) false false 0 3 (.int .i64) (λrows x=>q92 (nL rows 0) x.1.1) (λ_ _=>.tup .nil) (λrows x=>[insL (fn2 x.1.2) (nL rows 0)])
theorem w18:qt9 Tryz.prog 119 x5c:=by
 refine q5x (xq6 (SpecsOk.nil _) (MutsOk.cons w5q MutsOk.nil)) Tryz.func119 rfl rfl (q2u (SpecsOk.nil _) _) (λ_ _ _ _=>none) (λ_ _ _=>by kernel_rfl) (by decide) ?_ rfl
 rintro T rows ⟨⟨p,g⟩,⟨⟩⟩ h hone
 obtain⟨l,rfl⟩:∃l:List Int,rows=[l]:=by
  have h1:=hone rfl
  match rows,h1 with
  | [l],_=>exact⟨l,rfl⟩
 have hs:q92 l p:=h
 refine @qe1 _ (∃(v0:qa6 [qd6,qd6]->Prop),∃(v1:qa6 [qd6,qd6]->Int),([qd6,qd6]=[qd6,qd6]/\qd6=qd6/\p ≍ v0/\g ≍ v1)/\((↑(List.length (qa1 (Ty.list (Ty.int .i64)) [l] (0:Nat))):Int)=(↑(List.length (nL [qa1 (Ty.list (Ty.int .i64)) [l] (0:Nat)] (0:Nat))):PTy.den (PTy.d qd6))/\q92 (nL [qa1 (Ty.list (Ty.int .i64)) [l] (0:Nat)] (0:Nat)) v0)/\List.set [l] (0:Nat) (qa1 (Ty.list (Ty.int .i64)) [insL (fn2 v1) (nL [qa1 (Ty.list (Ty.int .i64)) [l] (0:Nat)] (0:Nat))] (0:Nat))=[insL (fn2 g) (nL [l] (0:Nat))]/\T=T/\True/\True) (by kernel_rfl) ?_
 try simp only[z0,z1,z2,z3,z4,z5,z6,z7,z8,z9,z10,Int.reduceEq,z11,z12,z13,z14,z15,z16,z17,z18,z19,z20,z21,z22,z23,z24,z25,z26,z27,z28,z29,z30,Int.reduceLE,Int.reduceLT,z31,z32,z33,z34,qa4]
 try simp only[qb3,qb4,qb9,List.set_cons_zero,List.cons.injEq,and_true,true_and]
 exact⟨p,g,⟨HEq.rfl,HEq.rfl⟩,hs,rfl⟩
def q4i (h:List Int) (x y:Int):Int:=qg3 (nI h y.toNat)-qg3 (nI h x.toNat)
abbrev xt0:qc0:=hspec [] true none [.d qd6,.d qd6,.cap qf2] [qd6] (λx=>HOk x.2.2.1/\(0<=x.1/\x.1<x.2.2.1.length)/\0<=x.2.1/\x.2.1<x.2.2.1.length) (λx=>(q4i x.2.2.1 x.1 x.2.1,()))
theorem w19:qd7 Tryz.prog 120 xt0:=by
 refine qu0 (SpecsOk.nil _) (snd (SpecsOk.cons q17 (SpecsOk.nil _))) Tryz.func120 rfl rfl (λ_ _=>none) (λ_=>by kernel_rfl) (by decide) ?_
 rintro⟨a,b,h,⟨⟩⟩ hh
 revert a b h
 intro(a:Int) (b:Int) (h:List Int) (hh:HOk h/\(0<=a/\a<h.length)/\0<=b/\b<h.length)
 refine @qe1 _ (let Q0:=Int.toNat b; let Q1:=Int.toNat a; ((0:Int)<=b/\b<(↑(List.length h):Int))/\qe8 (1000000000:Int) (qa1 (Ty.int .i64) h Q0)/\((0:Int)<=a/\a<(↑(List.length h):Int))/\qe8 (1000000000:Int) (qa1 (Ty.int .i64) h Q1)/\fits .i64 (qg3 (qa1 (Ty.int .i64) h Q0)-qg3 (qa1 (Ty.int .i64) h Q1))/\qg3 (qa1 (Ty.int .i64) h Q0)-qg3 (qa1 (Ty.int .i64) h Q1)=q4i h a b) (by kernel_rfl) ?_
 try simp only[z0,z1,z2,z3,z4,z5,z6,z7,z8,z9,z10,Int.reduceEq,z11,z12,z13,z14,z15,z16,z17,z18,z19,z20,z21,z22,z23,z24,z25,z26,z27,z28,z29,z30,Int.reduceLE,Int.reduceLT,z31,z32,z33,z34,qa4]
 try simp only[qb3,qb4,qb9,List.set_cons_zero,List.cons.injEq,and_true,true_and]
 have h1:=hh.1.sm a.toNat
 have h2:=hh.1.sm b.toNat
 have h3:qg3 (nI h a.toNat)=(nI h a.toNat).natAbs:=rfl
 have h4:qg3 (nI h b.toNat)=(nI h b.toNat).natAbs:=rfl
 unfold qe8 at *
 exact⟨hh.2.2,⟨by omega,by omega⟩,hh.2.1,⟨by omega,by omega⟩,qa7 (by omega) (by omega),rfl⟩
def q6k (h:List Int) (k:Nat):List Int:=((insL (q4i h) (qo9 h.length)).take k).mergeSort λx y=>decide (x<=y)
structure w9d (h:List Int) (k:Int):Prop where
 ok:HOk h
 len:h.length<=19
 pos:1<=h.length
 k0:0<=k
 k1:k<=h.length
abbrev x5d:qc0:=qg7 true none [qf2,qd6] [qf2] (λx=>w9d x.1 x.2.1) (λx=>(q6k x.1 x.2.1.toNat,()))
end Go.Proofs.YtempacilejhbgaaGreat
