/- Common divisors; rows shortened and cleared: contracts by the engine. No condition. -/
import Derived.Test.YtempacilejhbgaaGreatV0
set_option linter.unusedVariables false
set_option linter.unusedSimpArgs false
namespace Go.Proofs.YtempacilejhbgaaGreat
open Go Go.RowKit Eng
def gcdI (a b:Int):Int:=(Int.gcd a b:Int)
abbrev qe8 (K x:Int):Prop:=-K<=x/\x<=K
def BIG:Int:=4000000000000000000
theorem q5y (a b:Int):0<=gcdI a b:=Int.natCast_nonneg _
theorem w8p (a b:Int):gcdI (max a (0-a)) (max b (0-b))=gcdI a b:=by
 unfold gcdI
 have h1:(max a (0-a)).natAbs=a.natAbs:=by omega
 have h2:(max b (0-b)).natAbs=b.natAbs:=by omega
 show((Nat.gcd (max a (0-a)).natAbs (max b (0-b)).natAbs:Nat):Int)=(Nat.gcd a.natAbs b.natAbs:Nat)
 rw[h1,h2]
theorem wg8 {a b:Int} (ha:0<=a) (hb:0<=b):gcdI b (a.tmod b)=gcdI a b:=by
 unfold gcdI
 obtain⟨m,rfl⟩:=Int.eq_ofNat_of_zero_le ha
 obtain⟨n,rfl⟩:=Int.eq_ofNat_of_zero_le hb
 rw[Int.tmod_eq_emod_of_nonneg ha]
 have e:((m:Int) % (n:Int))=((m % n:Nat):Int):=rfl
 rw[e,Int.gcd_natCast_natCast,Int.gcd_natCast_natCast]
 congr 1
 rw[Nat.gcd_comm n,<- Nat.gcd_rec,Nat.gcd_comm]
theorem wg9 (a:Int) (h:0<=a):gcdI a 0=a:=by
 unfold gcdI
 rw[Int.gcd_zero_right]
 omega
theorem wh0 {a:Int} (b:Int) (h:a≠0):gcdI a b<=a.natAbs:=by
 unfold gcdI
 exact Int.ofNat_le.2 (Nat.le_of_dvd (by omega) (Nat.gcd_dvd_left _ _))
theorem q9n (a:Int) {b:Int} (h:b≠0):gcdI a b<=b.natAbs:=by
 unfold gcdI
 exact Int.ofNat_le.2 (Nat.le_of_dvd (by omega) (Nat.gcd_dvd_right _ _))
theorem w4t {a b:Int} (ha:-BIG<=a/\a<=BIG) (hb:-BIG<=b/\b<=BIG):0<=gcdI a b/\gcdI a b<=BIG:=by
 refine⟨q5y _ _,?_⟩
 unfold BIG at *
 by_cases h:a=0
 ·by_cases k:b=0
  ·subst h k; decide
  ·have:=q9n a k; omega
 ·have:=wh0 b h; omega
theorem qp9 {a b:Int} (h:a≠0\/b≠0):0<gcdI a b:=by
 unfold gcdI
 have:0<Int.gcd a b:=by rw[Int.gcd_pos_iff]; exact h
 omega
theorem qk4 {a g K:Int} (hk:-K<=a/\a<=K):-K<=a.tdiv g/\a.tdiv g<=K:=by
 have h1:(a.tdiv g).natAbs<=a.natAbs:=by
  rw[Int.natAbs_tdiv]; exact Nat.div_le_self _ _
 omega
def ww8:qc0:=qg7 true none [qd6,qd6] [qd6] (λx=>(-BIG<=x.1/\x.1<=BIG)/\-BIG<=x.2.1/\x.2.1<=BIG) (λx=>(gcdI x.1 x.2.1,()))
def w4u (a b:Int):Nat->Option Inv
 | 0=>some (Inv.of [0,1] 0 (λs:Int × Int=>[(0,.lit (.int .i64 s.1)),(1,.lit (.int .i64 s.2))]) (λ_=>[]) (λs=>(0<=s.1/\s.1<=BIG)/\(0<=s.2/\s.2<=BIG)/\gcdI s.1 s.2=gcdI a b) (λs=>s.2.toNat))
 | _=>none
theorem qr7:qd7 Tryz.prog 128 ww8:=by
 refine meets (snd (SpecsOk.nil _)) Tryz.func128 rfl rfl (λx=>w4u x.1 x.2.1) (λ_=>by kernel_rfl) (by decide) ?_
 rintro⟨a,b,⟨⟩⟩ h
 revert a b
 intro(a:Int) (b:Int) (h:(-BIG<=a/\a<=BIG)/\-BIG<=b/\b<=BIG)
 refine @qe1 _ (fits .i64 ((0:Int)-a)/\fits .i64 ((0:Int)-b)/\∃(v0:Unit),∃(v1:Int × Int),(((0:Int)<=Prod.fst v1/\Prod.fst v1<=BIG)/\((0:Int)<=Prod.snd v1/\Prod.snd v1<=BIG)/\gcdI (Prod.fst v1) (Prod.snd v1)=gcdI a b)/\((max2 true a ((0:Int)-a)=Prod.fst v1/\max2 true b ((0:Int)-b)=Prod.snd v1/\True)/\True)/\∀(v2:Int × Int),((0:Int)<=Prod.fst v2/\Prod.fst v2<=BIG)/\((0:Int)<=Prod.snd v2/\Prod.snd v2<=BIG)/\gcdI (Prod.fst v2) (Prod.snd v2)=gcdI a b->((Prod.snd v2 != (0:Int))=true->Prod.snd v2≠(0:Int)/\∃(v5:Int × Int),(((0:Int)<=Prod.fst v5/\Prod.fst v5<=BIG)/\((0:Int)<=Prod.snd v5/\Prod.snd v5<=BIG)/\gcdI (Prod.fst v5) (Prod.snd v5)=gcdI a b)/\Int.toNat (Prod.snd v5)<Int.toNat (Prod.snd v2)/\(Prod.snd v2=Prod.fst v5/\Int.tmod (Prod.fst v2) (Prod.snd v2)=Prod.snd v5/\True)/\True)/\((Prod.snd v2 != (0:Int))=false->Prod.fst v2=gcdI a b)) (by kernel_rfl) ?_
 try simp only[z0,z1,z2,z3,z4,z5,z6,z7,z8,z9,z10,Int.reduceEq,z11,z12,z13,z14,z15,z16,z17,z18,z19,z20,z21,z22,z23,z24,z25,z26,z27,z28,z29,z30,Int.reduceLE,Int.reduceLT,z31,z32,z33,z34,qa4]
 try simp only[qb3,qb4,qb9,List.set_cons_zero,List.cons.injEq,and_true,true_and]
 have hB:BIG=4000000000000000000:=rfl
 refine⟨qa7 (by omega) (by omega),qa7 (by omega) (by omega),(),(max a (0-a),max b (0-b)),⟨⟨by dsimp only; omega,by dsimp only; omega⟩,⟨by dsimp only; omega,by dsimp only; omega⟩,w8p a b⟩,⟨rfl,rfl⟩,?_⟩
 rintro⟨x,y⟩ ⟨⟨h1,h2⟩,⟨h3,h4⟩,h5⟩
 dsimp only at h1 h2 h3 h4 h5 ⊢
 refine⟨λhy=>⟨hy,(y,x.tmod y),⟨⟨h3,h4⟩,?_,?_⟩,?_,rfl,rfl⟩,λhy=>?_⟩
 ·rw[Int.tmod_eq_emod_of_nonneg h1]
  have k1:=Int.emod_nonneg x hy
  have k2:=Int.emod_lt_of_pos x (show 0<y by omega)
  exact⟨k1,by dsimp only; omega⟩
 ·exact(wg8 h1 h3).trans h5
 ·rw[Int.tmod_eq_emod_of_nonneg h1]
  have k1:=Int.emod_nonneg x hy
  have k2:=Int.emod_lt_of_pos x (show 0<y by omega)
  dsimp only; omega
 ·subst hy
  rw[wg9 x h1] at h5
  exact h5
def ofR (n d:Int):Int × Int:=if d<0 then(n.tdiv (0-gcdI n d),d.tdiv (0-gcdI n d)) else(n.tdiv (gcdI n d),d.tdiv (gcdI n d))
def sOf:qc0:=qg7 true none [qd6,qd6] [qy9] (λx=>(-BIG<=x.1/\x.1<=BIG)/\(-BIG<=x.2.1/\x.2.1<=BIG)/\x.2.1≠0) (λx=>(ofR x.1 x.2.1,()))
theorem w8q:qd7 Tryz.prog 102 sOf:=by
 refine meets (snd (SpecsOk.cons qr7 (SpecsOk.nil _))) Tryz.func102 rfl rfl (λx=>λ_=>none) (λ_=>by kernel_rfl) (by decide) ?_
 rintro⟨a,b,⟨⟩⟩ h
 revert a b
 intro(a:Int) (b:Int) (h:(-BIG<=a/\a<=BIG)/\(-BIG<=b/\b<=BIG)/\b≠0)
 refine @qe1 _ (let Q0:=gcdI a b; (((-4000000000000000000:Int)<=a/\a<=BIG)/\(-4000000000000000000:Int)<=b/\b<=BIG)/\(decide (b<(0:Int))=true->fits .i64 ((0:Int)-gcdI a b)/\(0:Int)-gcdI a b≠(0:Int)/\fits .i64 (Int.tdiv a ((0:Int)-gcdI a b))/\(0:Int)-gcdI a b≠(0:Int)/\fits .i64 (Int.tdiv b ((0:Int)-gcdI a b))/\Int.tdiv a ((0:Int)-gcdI a b)=Prod.fst (ofR a b)/\Int.tdiv b ((0:Int)-gcdI a b)=Prod.snd (ofR a b)/\True)/\(decide (b<(0:Int))=false->gcdI a b≠(0:Int)/\fits .i64 (Int.tdiv a Q0)/\gcdI a b≠(0:Int)/\fits .i64 (Int.tdiv b Q0)/\Int.tdiv a Q0=Prod.fst (ofR a b)/\Int.tdiv b Q0=Prod.snd (ofR a b)/\True)) (by kernel_rfl) ?_
 try simp only[z0,z1,z2,z3,z4,z5,z6,z7,z8,z9,z10,Int.reduceEq,z11,z12,z13,z14,z15,z16,z17,z18,z19,z20,z21,z22,z23,z24,z25,z26,z27,z28,z29,z30,Int.reduceLE,Int.reduceLT,z31,z32,z33,z34,qa4]
 try simp only[qb3,qb4,qb9,List.set_cons_zero,List.cons.injEq,and_true,true_and]
 have hB:BIG=4000000000000000000:=rfl
 have hg:=w4t h.1 h.2.1
 have hp:=qp9 (a:=a) (b:=b) (.inr h.2.2)
 refine⟨⟨h.1,h.2.1⟩,λhb=>?_,λhb=>?_⟩
 ·have h1:=qk4 (g:=0-gcdI a b) h.1
  have h2:=qk4 (g:=0-gcdI a b) h.2.1
  have e:ofR a b=(a.tdiv (0-gcdI a b),b.tdiv (0-gcdI a b)):=by unfold ofR; rw[if_pos hb]
  rw[e]
  exact⟨qa7 (by omega) (by omega),by omega,qa7 (by omega) (by omega),by omega,qa7 (by omega) (by omega),rfl,rfl⟩
 ·have h1:=qk4 (g:=gcdI a b) h.1
  have h2:=qk4 (g:=gcdI a b) h.2.1
  have e:ofR a b=(a.tdiv (gcdI a b),b.tdiv (gcdI a b)):=by unfold ofR; rw[if_neg (by omega)]
  rw[e]
  exact⟨by omega,qa7 (by omega) (by omega),by omega,qa7 (by omega) (by omega),rfl,rfl⟩
def gcdL (l:List Int):Int:=l.foldl gcdI 0
def qd9 (l:List Int):List Int:=if 1<gcdL l then l.map λx=>x.tdiv (gcdL l) else l
def q3l (l:List Int):Prop:=l.length<=1000/\∀x∈l,-BIG<=x/\x<=BIG
def xb5:qo7:=wf7 (q5u []) false false 0 3 (.int .i64) (λrows _=>q3l (nL rows 0)) (λ_ _=>.tup .nil) (λrows _=>[qd9 (nL rows 0)])
def shK (l:List Int) (k:Nat):List Int:=if 1<gcdL l then(l.take k).map (λx=>x.tdiv (gcdL l))++l.drop k else l
def xh5 (T:q45) (l:List Int):Nat->Option Inv
 | 0=>some (Inv.of [0,6,2,8] 1 (λk:Nat=>[(0,.msl 0 (some 0)),(6,.msl 0 (some 0)),(2,.lit (.int .i64 (gcdL (l.take k)))),(8,.lit (.int .i64 k))]) (λ_=>[.mat 0 3 (.int .i64) [l] (some []) (some T)]) (λk=>k<=l.length) (λk=>l.length-k))
 | 1=>some (Inv.of [0,18] 1 (λs:Nat × List Int=>[(0,.msl 0 (some 0)),(18,.lit (.int .i64 s.1))]) (λs=>[.mat 0 3 (.int .i64) [s.2] (some []) (some T)]) (λs=>s.1<=l.length/\s.2=shK l s.1) (λs=>l.length-s.1))
 | _=>none
theorem q50 (l:List Int) (k:Nat) (hk:k<l.length):gcdL (l.take (k+1))=gcdI (gcdL (l.take k)) (nI l k):=by
 rw[List.take_add_one,List.getElem?_eq_getElem hk]
 simp only[gcdL,List.foldl_append,Option.toList_some,List.foldl_cons,List.foldl_nil]
 rw[qg5 l k hk]
theorem q0i {l:List Int} (h:q3l l) {k:Nat} (hk:k<l.length):qe8 BIG (nI l k):=by
 rw[qg5 l k hk]
 exact h.2 _ (List.getElem_mem hk)
theorem wo3 {l:List Int} (h:q3l l):∀k,k<=l.length->0<=gcdL (l.take k)/\gcdL (l.take k)<=BIG
 | 0,_=>by simp[gcdL,BIG]
 | k+1,hk=>by
  rw[q50 l k hk]
  have h1:=wo3 h k (by omega)
  refine w4t ⟨?_,h1.2⟩ (q0i h hk)
  have hB:BIG=4000000000000000000:=rfl
  omega
theorem wo4 (l:List Int) (k:Nat) (hk:k<=l.length):(shK l k).length=l.length:=by
 unfold shK
 split
 ·simp; omega
 ·rfl
theorem xq7 (l:List Int) (k:Nat) (hk:k<l.length):nI (shK l k) k=nI l k:=by
 unfold shK
 split
 ·unfold nI qa1
  rw[List.getD_eq_getElem?_getD,List.getD_eq_getElem?_getD,List.getElem?_append_right (by simp; omega)]
  simp
  congr 2
  omega
 ·rfl
theorem w8r (l:List Int) (k:Nat) (hk:k<l.length) (hg:1<gcdL l):(shK l k).set k ((nI l k).tdiv (gcdL l))=shK l (k+1):=by
 have h1:=wo4 l k (by omega)
 have h2:=wo4 l (k+1) (by omega)
 apply List.ext_getElem (by rw[List.length_set,h1,h2])
 intro i hi _
 rw[List.length_set,h1] at hi
 rw[List.getElem_set]
 unfold shK
 simp only[if_pos hg]
 by_cases e:k=i
 ·subst e
  rw[if_pos rfl,List.getElem_append_left (by simp; omega),qg5 l k hk]
  simp
 ·rw[if_neg e]
  by_cases h:i<k
  ·rw[List.getElem_append_left (by simp; omega),List.getElem_append_left (by simp; omega)]
   simp
  ·rw[List.getElem_append_right (by simp; omega),List.getElem_append_right (by simp; omega)]
   simp only[List.length_map,List.length_take,List.getElem_drop]
   congr 1
   omega
theorem q1x:qt9 Tryz.prog 156 xb5:=by
 refine q5x (snd (SpecsOk.cons qr7 (SpecsOk.nil _))) Tryz.func156 rfl rfl (qx8 []) (λT rows _=>xh5 T (nL rows 0)) (λ_ _ _=>by kernel_rfl) (by decide) ?_ rfl
 rintro T rows ⟨⟩ h hone
 obtain⟨l,rfl⟩:∃l:List Int,rows=[l]:=by
  have h1:=hone rfl
  match rows,h1 with
  | [l],_=>exact⟨l,rfl⟩
 have h:q3l l:=h
 refine @qe1 _ (∃(v0:Unit),∃(v1:Nat),Nat.le v1 (List.length (nL [l] (0:Nat)))/\((some (0:Nat)=some (0:Nat)/\some (0:Nat)=some (0:Nat)/\(0:Int)=gcdL (List.take v1 (nL [l] (0:Nat)))/\(0:Int)=(↑v1:Int)/\True)/\([l]=[nL [l] (0:Nat)]/\True/\T=T)/\True)/\∀(v2:Nat),Nat.le v2 (List.length (nL [l] (0:Nat)))->(decide ((↑v2:Int)<(↑(List.length (qa1 (Ty.list (Ty.int .i64)) [l] (0:Nat))):Int))=true->((0:Int)<=(↑v2:Int)/\(↑v2:Int)<(↑(List.length (qa1 (Ty.list (Ty.int .i64)) [nL [l] (0:Nat)] (0:Nat))):Int))/\Int.toNat (↑v2:Int)<List.length (qa1 (Ty.list (Ty.int .i64)) [nL [l] (0:Nat)] (0:Nat))/\(((-4000000000000000000:Int)<=gcdL (List.take v2 (nL [l] (0:Nat)))/\gcdL (List.take v2 (nL [l] (0:Nat)))<=BIG)/\(-4000000000000000000:Int)<=qa1 (Ty.int .i64) (qa1 (Ty.list (Ty.int .i64)) [nL [l] (0:Nat)] (0:Nat)) (Int.toNat (↑v2:Int))/\qa1 (Ty.int .i64) (qa1 (Ty.list (Ty.int .i64)) [nL [l] (0:Nat)] (0:Nat)) (Int.toNat (↑v2:Int))<=BIG)/\fits .i64 ((↑v2:Int)+(1:Int))/\∃(v5:Nat),Nat.le v5 (List.length (nL [l] (0:Nat)))/\List.length (nL [l] (0:Nat))-v5<List.length (nL [l] (0:Nat))-v2/\(some (0:Nat)=some (0:Nat)/\some (0:Nat)=some (0:Nat)/\gcdI (gcdL (List.take v2 (nL [l] (0:Nat)))) (qa1 (Ty.int .i64) (qa1 (Ty.list (Ty.int .i64)) [nL [l] (0:Nat)] (0:Nat)) (Int.toNat (↑v2:Int)))=gcdL (List.take v5 (nL [l] (0:Nat)))/\(↑v2:Int)+(1:Int)=(↑v5:Int)/\True)/\([nL [l] (0:Nat)]=[nL [l] (0:Nat)]/\True/\T=T)/\True)/\(decide ((↑v2:Int)<(↑(List.length (qa1 (Ty.list (Ty.int .i64)) [l] (0:Nat))):Int))=false->∃(v5:Unit),∃(v6:Nat × List Int),(Prod.fst v6<=List.length (nL [l] (0:Nat))/\Prod.snd v6=shK (nL [l] (0:Nat)) (Prod.fst v6))/\((some (0:Nat)=some (0:Nat)/\(0:Int)=(↑(Prod.fst v6):Int)/\True)/\([nL [l] (0:Nat)]=[Prod.snd v6]/\True/\T=T)/\True)/\∀(v7:Nat × List Int),Prod.fst v7<=List.length (nL [l] (0:Nat))/\Prod.snd v7=shK (nL [l] (0:Nat)) (Prod.fst v7)->(decide ((↑(Prod.fst v7):Int)<(↑(List.length (qa1 (Ty.list (Ty.int .i64)) [nL [l] (0:Nat)] (0:Nat))):Int))=true->(decide ((1:Int)<gcdL (List.take v2 (nL [l] (0:Nat))))=true->((0:Int)<=(↑(Prod.fst v7):Int)/\(↑(Prod.fst v7):Int)<(↑(List.length (qa1 (Ty.list (Ty.int .i64)) [Prod.snd v7] (0:Nat))):Int))/\Int.toNat (↑(Prod.fst v7):Int)<List.length (qa1 (Ty.list (Ty.int .i64)) [Prod.snd v7] (0:Nat))/\gcdL (List.take v2 (nL [l] (0:Nat)))≠(0:Int)/\fits .i64 (Int.tdiv (qa1 (Ty.int .i64) (qa1 (Ty.list (Ty.int .i64)) [Prod.snd v7] (0:Nat)) (Int.toNat (↑(Prod.fst v7):Int))) (gcdL (List.take v2 (nL [l] (0:Nat)))))/\((0:Int)<=(↑(Prod.fst v7):Int)/\(↑(Prod.fst v7):Int)<(↑(List.length (qa1 (Ty.list (Ty.int .i64)) [Prod.snd v7] (0:Nat))):Int))/\Int.toNat (↑(Prod.fst v7):Int)<List.length (qa1 (Ty.list (Ty.int .i64)) [Prod.snd v7] (0:Nat))/\fits .i64 ((↑(Prod.fst v7):Int)+(1:Int))/\∃(v11:Nat × List Int),(Prod.fst v11<=List.length (nL [l] (0:Nat))/\Prod.snd v11=shK (nL [l] (0:Nat)) (Prod.fst v11))/\List.length (nL [l] (0:Nat))-Prod.fst v11<List.length (nL [l] (0:Nat))-Prod.fst v7/\(some (0:Nat)=some (0:Nat)/\(↑(Prod.fst v7):Int)+(1:Int)=(↑(Prod.fst v11):Int)/\True)/\(List.set [Prod.snd v7] (0:Nat) (List.set (qa1 (Ty.list (Ty.int .i64)) [Prod.snd v7] (0:Nat)) (Int.toNat (↑(Prod.fst v7):Int)) (Int.tdiv (qa1 (Ty.int .i64) (qa1 (Ty.list (Ty.int .i64)) [Prod.snd v7] (0:Nat)) (Int.toNat (↑(Prod.fst v7):Int))) (gcdL (List.take v2 (nL [l] (0:Nat))))))=[Prod.snd v11]/\True/\T=T)/\True)/\(decide ((1:Int)<gcdL (List.take v2 (nL [l] (0:Nat))))=false->fits .i64 ((↑(Prod.fst v7):Int)+(1:Int))/\∃(v11:Nat × List Int),(Prod.fst v11<=List.length (nL [l] (0:Nat))/\Prod.snd v11=shK (nL [l] (0:Nat)) (Prod.fst v11))/\List.length (nL [l] (0:Nat))-Prod.fst v11<List.length (nL [l] (0:Nat))-Prod.fst v7/\(some (0:Nat)=some (0:Nat)/\(↑(Prod.fst v7):Int)+(1:Int)=(↑(Prod.fst v11):Int)/\True)/\([Prod.snd v7]=[Prod.snd v11]/\True/\T=T)/\True))/\(decide ((↑(Prod.fst v7):Int)<(↑(List.length (qa1 (Ty.list (Ty.int .i64)) [nL [l] (0:Nat)] (0:Nat))):Int))=false->[Prod.snd v7]=[qd9 (nL [l] (0:Nat))]/\T=T/\True/\True))) (by kernel_rfl) ?_
 try simp only[z0,z1,z2,z3,z4,z5,z6,z7,z8,z9,z10,Int.reduceEq,z11,z12,z13,z14,z15,z16,z17,z18,z19,z20,z21,z22,z23,z24,z25,z26,z27,z28,z29,z30,Int.reduceLE,Int.reduceLT,z31,z32,z33,z34,qa4]
 try simp only[qb3,qb4,qb9,List.set_cons_zero,List.cons.injEq,and_true,true_and]
 have hB:BIG=4000000000000000000:=rfl
 refine⟨(),0,Nat.zero_le _,⟨rfl,rfl⟩,λk hk=>⟨λhlt=>?_,λhge=>?_⟩⟩
 ·have h1:=wo3 h k hk
  have h2:=q0i h hlt
  exact⟨hlt,hlt,⟨⟨by omega,h1.2⟩,h2⟩,qa7 (by have:=h.1; omega) (by have:=h.1; omega),k+1,by omega,by omega,(q50 l k hlt).symm,by omega⟩
 ·obtain rfl:k=l.length:=by omega
  simp only[List.take_length,decide_eq_true_eq,decide_eq_false_iff_not,Int.not_lt]
  have sh0:shK l 0=l:=by unfold shK; split <;> simp
  refine⟨(),(0,l),⟨Nat.zero_le _,sh0.symm⟩,⟨rfl,rfl⟩,?_⟩
  rintro⟨k,r⟩ ⟨h1,h2⟩
  dsimp only at h1 h2 ⊢
  subst h2
  have hl:=wo4 l k h1
  refine⟨λhlt=>⟨λhg=>?_,λhg=>?_⟩,λhge=>?_⟩
  ·have h3:=q0i h hlt
   have h4:=qk4 (g:=gcdL l) h3
   rw[xq7 l k hlt]
   refine⟨by omega,by omega,by omega,qa7 (by omega) (by omega),by omega,by omega,qa7 (by have:=h.1; omega) (by have:=h.1; omega),(k+1,shK l (k+1)),⟨by dsimp only; omega,rfl⟩,by dsimp only; omega,by dsimp only; omega,w8r l k hlt hg⟩
  ·refine⟨qa7 (by have:=h.1; omega) (by have:=h.1; omega),(k+1,shK l (k+1)),⟨by dsimp only; omega,rfl⟩,by dsimp only; omega,by dsimp only; omega,?_⟩
   unfold shK
   rw[if_neg (by omega),if_neg (by omega)]
  ·obtain rfl:k=l.length:=by omega
   unfold shK qd9
   split
   ·simp
   ·rfl
end Go.Proofs.YtempacilejhbgaaGreat
