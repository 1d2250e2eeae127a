/- Masks, and the errors of masks, readings and pixels: contracts by the engine. No condition. -/
import Derived.Test.YtmijnbjlhnpokaaGreatV0
set_option linter.unusedVariables false
set_option linter.unusedSimpArgs false
namespace Go.Proofs.YtmijnbjlhnpokaaGreat
open Go Go.RowKit Eng
def gcdI (a b:Int):Int:=(Int.gcd a b:Int)
abbrev qf8 (K x:Int):Prop:=-K<=x/\x<=K
def BIG:Int:=4000000000000000000
theorem q7a (a b:Int):0<=gcdI a b:=Int.natCast_nonneg _
theorem xk1 (a b:Int):gcdI (max a (0-a)) (max b (0-b))=gcdI a b:=by
 unfold gcdI
 have h1:(max a (0-a)).natAbs=a.natAbs:=by omega
 have h2:(max b (0-b)).natAbs=b.natAbs:=by omega
 show((Nat.gcd (max a (0-a)).natAbs (max b (0-b)).natAbs:Nat):Int)=(Nat.gcd a.natAbs b.natAbs:Nat)
 rw[h1,h2]
theorem w8j {a b:Int} (ha:0<=a) (hb:0<=b):gcdI b (a.tmod b)=gcdI a b:=by
 unfold gcdI
 obtain⟨m,rfl⟩:=Int.eq_ofNat_of_zero_le ha
 obtain⟨n,rfl⟩:=Int.eq_ofNat_of_zero_le hb
 rw[Int.tmod_eq_emod_of_nonneg ha]
 have e:((m:Int) % (n:Int))=((m % n:Nat):Int):=rfl
 rw[e,Int.gcd_natCast_natCast,Int.gcd_natCast_natCast]
 congr 1
 rw[Nat.gcd_comm n,<- Nat.gcd_rec,Nat.gcd_comm]
theorem w8k (a:Int) (h:0<=a):gcdI a 0=a:=by
 unfold gcdI
 rw[Int.gcd_zero_right]
 omega
theorem wo0 {a:Int} (b:Int) (h:a≠0):gcdI a b<=a.natAbs:=by
 unfold gcdI
 exact Int.ofNat_le.2 (Nat.le_of_dvd (by omega) (Nat.gcd_dvd_left _ _))
theorem we8 (a:Int) {b:Int} (h:b≠0):gcdI a b<=b.natAbs:=by
 unfold gcdI
 exact Int.ofNat_le.2 (Nat.le_of_dvd (by omega) (Nat.gcd_dvd_right _ _))
theorem w8l {a b:Int} (ha:-BIG<=a/\a<=BIG) (hb:-BIG<=b/\b<=BIG):0<=gcdI a b/\gcdI a b<=BIG:=by
 refine⟨q7a _ _,?_⟩
 unfold BIG at *
 by_cases h:a=0
 ·by_cases k:b=0
  ·subst h k; decide
  ·have:=we8 a k; omega
 ·have:=wo0 b h; omega
theorem qu9 {a b:Int} (h:a≠0\/b≠0):0<gcdI a b:=by
 unfold gcdI
 have:0<Int.gcd a b:=by rw[Int.gcd_pos_iff]; exact h
 omega
theorem qs1 {a g K:Int} (hk:-K<=a/\a<=K):-K<=a.tdiv g/\a.tdiv g<=K:=by
 have h1:(a.tdiv g).natAbs<=a.natAbs:=by
  rw[Int.natAbs_tdiv]; exact Nat.div_le_self _ _
 omega
def xk2:qb7:=qf1 true none [qc8,qc8] [qc8] (λx=>(-BIG<=x.1/\x.1<=BIG)/\-BIG<=x.2.1/\x.2.1<=BIG) (λx=>(gcdI x.1 x.2.1,()))
def w8m (a b:Int):Nat->Option Inv
 | 0=>some (Inv.of [0,1] 0 (λs:Int × Int=>[(0,.lit (.int .i64 s.1)),(1,.lit (.int .i64 s.2))]) (λ_=>[]) (λs=>(0<=s.1/\s.1<=BIG)/\(0<=s.2/\s.2<=BIG)/\gcdI s.1 s.2=gcdI a b) (λs=>s.2.toNat))
 | _=>none
theorem qt0:Meets Tryz.prog 138 xk2:=by
 refine meets (snd (SpecsOk.nil _)) Tryz.func138 rfl rfl (λx=>w8m x.1 x.2.1) (λ_=>by kernel_rfl) (by decide) ?_
 rintro⟨a,b,⟨⟩⟩ h
 revert a b
 intro(a:Int) (b:Int) (h:(-BIG<=a/\a<=BIG)/\-BIG<=b/\b<=BIG)
 refine @qd1 _ (fits .i64 ((0:Int)-a)/\fits .i64 ((0:Int)-b)/\∃(v0:Unit),∃(v1:Int × Int),(((0:Int)<=v1.1/\v1.1<=BIG)/\((0:Int)<=v1.2/\v1.2<=BIG)/\gcdI v1.1 v1.2=gcdI a b)/\((max2 true a ((0:Int)-a)=v1.1/\max2 true b ((0:Int)-b)=v1.2/\True)/\True)/\∀(v2:Int × Int),((0:Int)<=v2.1/\v2.1<=BIG)/\((0:Int)<=v2.2/\v2.2<=BIG)/\gcdI v2.1 v2.2=gcdI a b->((v2.2 != (0:Int))=true->v2.2≠(0:Int)/\∃(v5:Int × Int),(((0:Int)<=v5.1/\v5.1<=BIG)/\((0:Int)<=v5.2/\v5.2<=BIG)/\gcdI v5.1 v5.2=gcdI a b)/\v5.2.toNat<v2.2.toNat/\(v2.2=v5.1/\Int.tmod v2.1 v2.2=v5.2/\True)/\True)/\((v2.2 != (0:Int))=false->v2.1=gcdI a b)) (by kernel_rfl) ?_
 try simp only[z0,z1,z2,z3,z4,z5,z6,z7,z8,z9,z10,Int.reduceEq,z11,z12,z13,z14,z15,z16,z17,z18,z19,z20,z21,z22,z23,z24,z25,z26,z27,z28,z29,z30,Int.reduceLE,Int.reduceLT,z31,z32,z33,z34,qa1]
 try simp only[qa7,qa8,qb8,z31,z32,z2,z1]
 have hB:BIG=4000000000000000000:=rfl
 refine⟨qb5 (by omega) (by omega),qb5 (by omega) (by omega),(),(max a (0-a),max b (0-b)),⟨⟨by dsimp only; omega,by dsimp only; omega⟩,⟨by dsimp only; omega,by dsimp only; omega⟩,xk1 a b⟩,⟨rfl,rfl⟩,?_⟩
 rintro⟨x,y⟩ ⟨⟨h1,h2⟩,⟨h3,h4⟩,h5⟩
 dsimp only at h1 h2 h3 h4 h5 ⊢
 refine⟨λhy=>⟨hy,(y,x.tmod y),⟨⟨h3,h4⟩,?_,?_⟩,?_,rfl,rfl⟩,λhy=>?_⟩
 ·rw[Int.tmod_eq_emod_of_nonneg h1]
  have k1:=Int.emod_nonneg x hy
  have k2:=Int.emod_lt_of_pos x (show 0<y by omega)
  exact⟨k1,by dsimp only; omega⟩
 ·exact(w8j h1 h3).trans h5
 ·rw[Int.tmod_eq_emod_of_nonneg h1]
  have k1:=Int.emod_nonneg x hy
  have k2:=Int.emod_lt_of_pos x (show 0<y by omega)
  dsimp only; omega
 ·subst hy
  rw[w8k x h1] at h5
  exact h5
def ofR (n d:Int):Int × Int:=if d<0 then(n.tdiv (0-gcdI n d),d.tdiv (0-gcdI n d)) else(n.tdiv (gcdI n d),d.tdiv (gcdI n d))
def sOf:qb7:=qf1 true none [qc8,qc8] [q0e] (λx=>(-BIG<=x.1/\x.1<=BIG)/\(-BIG<=x.2.1/\x.2.1<=BIG)/\x.2.1≠0) (λx=>(ofR x.1 x.2.1,()))
theorem w18:Meets Tryz.prog 80 sOf:=by
 refine meets (snd (SpecsOk.cons qt0 (SpecsOk.nil _))) Tryz.func80 rfl rfl (λx=>λ_=>none) (λ_=>by kernel_rfl) (by decide) ?_
 rintro⟨a,b,⟨⟩⟩ h
 revert a b
 intro(a:Int) (b:Int) (h:(-BIG<=a/\a<=BIG)/\(-BIG<=b/\b<=BIG)/\b≠0)
 refine @qd1 _ (let Q0:=gcdI a b; (((-4000000000000000000:Int)<=a/\a<=BIG)/\(-4000000000000000000:Int)<=b/\b<=BIG)/\(decide (b<(0:Int))=true->fits .i64 ((0:Int)-gcdI a b)/\(0:Int)-gcdI a b≠(0:Int)/\fits .i64 (Int.tdiv a ((0:Int)-gcdI a b))/\(0:Int)-gcdI a b≠(0:Int)/\fits .i64 (Int.tdiv b ((0:Int)-gcdI a b))/\Int.tdiv a ((0:Int)-gcdI a b)=(ofR a b).1/\Int.tdiv b ((0:Int)-gcdI a b)=(ofR a b).2/\True)/\(decide (b<(0:Int))=false->gcdI a b≠(0:Int)/\fits .i64 (Int.tdiv a Q0)/\gcdI a b≠(0:Int)/\fits .i64 (Int.tdiv b Q0)/\Int.tdiv a Q0=(ofR a b).1/\Int.tdiv b Q0=(ofR a b).2/\True)) (by kernel_rfl) ?_
 try simp only[z0,z1,z2,z3,z4,z5,z6,z7,z8,z9,z10,Int.reduceEq,z11,z12,z13,z14,z15,z16,z17,z18,z19,z20,z21,z22,z23,z24,z25,z26,z27,z28,z29,z30,Int.reduceLE,Int.reduceLT,z31,z32,z33,z34,qa1]
 try simp only[qa7,qa8,qb8,z31,z32,z2,z1]
 have hB:BIG=4000000000000000000:=rfl
 have hg:=w8l h.1 h.2.1
 have hp:=qu9 (a:=a) (b:=b) (.inr h.2.2)
 refine⟨⟨h.1,h.2.1⟩,λhb=>?_,λhb=>?_⟩
 ·have h1:=qs1 (g:=0-gcdI a b) h.1
  have h2:=qs1 (g:=0-gcdI a b) h.2.1
  have e:ofR a b=(a.tdiv (0-gcdI a b),b.tdiv (0-gcdI a b)):=by unfold ofR; rw[if_pos hb]
  rw[e]
  exact⟨qb5 (by omega) (by omega),by omega,qb5 (by omega) (by omega),by omega,qb5 (by omega) (by omega),rfl,rfl⟩
 ·have h1:=qs1 (g:=gcdI a b) h.1
  have h2:=qs1 (g:=gcdI a b) h.2.1
  have e:ofR a b=(a.tdiv (gcdI a b),b.tdiv (gcdI a b)):=by unfold ofR; rw[if_neg (by omega)]
  rw[e]
  exact⟨by omega,qb5 (by omega) (by omega),by omega,qb5 (by omega) (by omega),rfl,rfl⟩
def gcdL (l:List Int):Int:=l.foldl gcdI 0
def qe4 (l:List Int):List Int:=if 1<gcdL l then l.map λx=>x.tdiv (gcdL l) else l
def wj3 (l:List Int):Prop:=l.length<=1000/\∀x∈l,-BIG<=x/\x<=BIG
def xt1:qm0:=q5q (q02 []) false false 0 3 (.int .i64) (λrows _=>wj3 (nL rows 0)) (λ_ _=>.tup .nil) (λrows _=>[qe4 (nL rows 0)])
def shK (l:List Int) (k:Nat):List Int:=if 1<gcdL l then(l.take k).map (λx=>x.tdiv (gcdL l))++l.drop k else l
def x0f (T:q5k) (l:List Int):Nat->Option Inv
 | 0=>some (Inv.of [0,6,2,8] 1 (λk:Nat=>[(0,.msl 0 (some 0)),(6,.msl 0 (some 0)),(2,.lit (.int .i64 (gcdL (l.take k)))),(8,.lit (.int .i64 k))]) (λ_=>[.mat 0 3 (.int .i64) [l] (some []) (some T)]) (λk=>k<=l.length) (λk=>l.length-k))
 | 1=>some (Inv.of [0,18] 1 (λs:Nat × List Int=>[(0,.msl 0 (some 0)),(18,.lit (.int .i64 s.1))]) (λs=>[.mat 0 3 (.int .i64) [s.2] (some []) (some T)]) (λs=>s.1<=l.length/\s.2=shK l s.1) (λs=>l.length-s.1))
 | _=>none
theorem wo1 (l:List Int) (k:Nat) (hk:k<l.length):gcdL (l.take (k+1))=gcdI (gcdL (l.take k)) (nI l k):=by
 rw[List.take_add_one,List.getElem?_eq_getElem hk]
 simp only[gcdL,List.foldl_append,Option.toList_some,List.foldl_cons,List.foldl_nil]
 rw[qg5 l k hk]
theorem q7b {l:List Int} (h:wj3 l) {k:Nat} (hk:k<l.length):qf8 BIG (nI l k):=by
 rw[qg5 l k hk]
 exact h.2 _ (List.getElem_mem hk)
theorem w8n {l:List Int} (h:wj3 l):∀k,k<=l.length->0<=gcdL (l.take k)/\gcdL (l.take k)<=BIG
 | 0,_=>by simp[gcdL,BIG]
 | k+1,hk=>by
  rw[wo1 l k hk]
  have h1:=w8n h k (by omega)
  refine w8l ⟨?_,h1.2⟩ (q7b h hk)
  have hB:BIG=4000000000000000000:=rfl
  omega
theorem wy0 (l:List Int) (k:Nat) (hk:k<=l.length):(shK l k).length=l.length:=by
 unfold shK
 split
 ·simp; omega
 ·rfl
theorem x3v (l:List Int) (k:Nat) (hk:k<l.length):nI (shK l k) k=nI l k:=by
 unfold shK
 split
 ·unfold nI qf2
  rw[List.getD_eq_getElem?_getD,List.getD_eq_getElem?_getD,List.getElem?_append_right (by simp; omega)]
  simp
  congr 2
  omega
 ·rfl
theorem xk3 (l:List Int) (k:Nat) (hk:k<l.length) (hg:1<gcdL l):(shK l k).set k ((nI l k).tdiv (gcdL l))=shK l (k+1):=by
 have h1:=wy0 l k (by omega)
 have h2:=wy0 l (k+1) (by omega)
 apply List.ext_getElem (by rw[List.length_set,h1,h2])
 intro i hi _
 rw[List.length_set,h1] at hi
 rw[List.getElem_set]
 unfold shK
 simp only[if_pos hg]
 by_cases e:k=i
 ·subst e
  rw[if_pos rfl,List.getElem_append_left (by simp; omega),qg5 l k hk]
  simp
 ·rw[if_neg e]
  by_cases h:i<k
  ·rw[List.getElem_append_left (by simp; omega),List.getElem_append_left (by simp; omega)]
   simp
  ·rw[List.getElem_append_right (by simp; omega),List.getElem_append_right (by simp; omega)]
   simp only[List.length_map,List.length_take,List.getElem_drop]
   congr 1
   omega
theorem q2t:qo0 Tryz.prog 177 xt1:=by
 refine q04 (snd (SpecsOk.cons qt0 (SpecsOk.nil _))) Tryz.func177 rfl rfl (qm4 []) (λT rows _=>x0f T (nL rows 0)) (λ_ _ _=>by kernel_rfl) (by decide) ?_ rfl
 rintro T rows ⟨⟩ h hone
 obtain⟨l,rfl⟩:∃l:List Int,rows=[l]:=by
  have h1:=hone rfl
  match rows,h1 with
  | [l],_=>exact⟨l,rfl⟩
 have h:wj3 l:=h
 refine @qd1 _ (∃(v0:Unit),∃(v1:Nat),Nat.le v1 (nL [l] (0:Nat)).length/\((some (0:Nat)=some (0:Nat)/\some (0:Nat)=some (0:Nat)/\(0:Int)=gcdL (List.take v1 (nL [l] (0:Nat)))/\(0:Int)=(↑v1:Int)/\True)/\([l]=[nL [l] (0:Nat)]/\True/\T=T)/\True)/\∀(v2:Nat),Nat.le v2 (nL [l] (0:Nat)).length->(decide ((↑v2:Int)<(↑(nL [l] (0:Nat)).length:Int))=true->((0:Int)<=(↑v2:Int)/\(↑v2:Int)<(↑(nL [nL [l] (0:Nat)] (0:Nat)).length:Int))/\v2<(nL [nL [l] (0:Nat)] (0:Nat)).length/\(((-4000000000000000000:Int)<=gcdL (List.take v2 (nL [l] (0:Nat)))/\gcdL (List.take v2 (nL [l] (0:Nat)))<=BIG)/\(-4000000000000000000:Int)<=nI (nL [nL [l] (0:Nat)] (0:Nat)) v2/\nI (nL [nL [l] (0:Nat)] (0:Nat)) v2<=BIG)/\fits .i64 ((↑v2:Int)+(1:Int))/\∃(v5:Nat),Nat.le v5 (nL [l] (0:Nat)).length/\(nL [l] (0:Nat)).length-v5<(nL [l] (0:Nat)).length-v2/\(some (0:Nat)=some (0:Nat)/\some (0:Nat)=some (0:Nat)/\gcdI (gcdL (List.take v2 (nL [l] (0:Nat)))) (nI (nL [nL [l] (0:Nat)] (0:Nat)) v2)=gcdL (List.take v5 (nL [l] (0:Nat)))/\(↑v2:Int)+(1:Int)=(↑v5:Int)/\True)/\([nL [l] (0:Nat)]=[nL [l] (0:Nat)]/\True/\T=T)/\True)/\(decide ((↑v2:Int)<(↑(nL [l] (0:Nat)).length:Int))=false->∃(v5:Unit),∃(v6:Nat × List Int),(v6.1<=(nL [l] (0:Nat)).length/\v6.2=shK (nL [l] (0:Nat)) v6.1)/\((some (0:Nat)=some (0:Nat)/\(0:Int)=(↑v6.1:Int)/\True)/\([nL [l] (0:Nat)]=[v6.2]/\True/\T=T)/\True)/\∀(v7:Nat × List Int),v7.1<=(nL [l] (0:Nat)).length/\v7.2=shK (nL [l] (0:Nat)) v7.1->(decide ((↑v7.1:Int)<(↑(nL [nL [l] (0:Nat)] (0:Nat)).length:Int))=true->(decide ((1:Int)<gcdL (List.take v2 (nL [l] (0:Nat))))=true->((0:Int)<=(↑v7.1:Int)/\(↑v7.1:Int)<(↑(nL [v7.2] (0:Nat)).length:Int))/\(↑v7.1:Int).toNat<(nL [v7.2] (0:Nat)).length/\gcdL (List.take v2 (nL [l] (0:Nat)))≠(0:Int)/\fits .i64 (Int.tdiv (nI (nL [v7.2] (0:Nat)) (↑v7.1:Int).toNat) (gcdL (List.take v2 (nL [l] (0:Nat)))))/\((0:Int)<=(↑v7.1:Int)/\(↑v7.1:Int)<(↑(nL [v7.2] (0:Nat)).length:Int))/\(↑v7.1:Int).toNat<(nL [v7.2] (0:Nat)).length/\fits .i64 ((↑v7.1:Int)+(1:Int))/\∃(v11:Nat × List Int),(v11.1<=(nL [l] (0:Nat)).length/\v11.2=shK (nL [l] (0:Nat)) v11.1)/\(nL [l] (0:Nat)).length-v11.1<(nL [l] (0:Nat)).length-v7.1/\(some (0:Nat)=some (0:Nat)/\(↑v7.1:Int)+(1:Int)=(↑v11.1:Int)/\True)/\(List.set [v7.2] (0:Nat) (List.set (nL [v7.2] (0:Nat)) (↑v7.1:Int).toNat (Int.tdiv (nI (nL [v7.2] (0:Nat)) (↑v7.1:Int).toNat) (gcdL (List.take v2 (nL [l] (0:Nat))))))=[v11.2]/\True/\T=T)/\True)/\(decide ((1:Int)<gcdL (List.take v2 (nL [l] (0:Nat))))=false->fits .i64 ((↑v7.1:Int)+(1:Int))/\∃(v11:Nat × List Int),(v11.1<=(nL [l] (0:Nat)).length/\v11.2=shK (nL [l] (0:Nat)) v11.1)/\(nL [l] (0:Nat)).length-v11.1<(nL [l] (0:Nat)).length-v7.1/\(some (0:Nat)=some (0:Nat)/\(↑v7.1:Int)+(1:Int)=(↑v11.1:Int)/\True)/\([v7.2]=[v11.2]/\True/\T=T)/\True))/\(decide ((↑v7.1:Int)<(↑(nL [nL [l] (0:Nat)] (0:Nat)).length:Int))=false->[v7.2]=[qe4 (nL [l] (0:Nat))]/\T=T/\True/\True))) (by kernel_rfl) ?_
 try simp only[z0,z1,z2,z3,z4,z5,z6,z7,z8,z9,z10,Int.reduceEq,z11,z12,z13,z14,z15,z16,z17,z18,z19,z20,z21,z22,z23,z24,z25,z26,z27,z28,z29,z30,Int.reduceLE,Int.reduceLT,z31,z32,z33,z34,qa1]
 try simp only[qa7,qa8,qb8,z31,z32,z2,z1]
 have hB:BIG=4000000000000000000:=rfl
 refine⟨(),0,Nat.zero_le _,⟨rfl,rfl⟩,λk hk=>⟨λhlt=>?_,λhge=>?_⟩⟩
 ·have h1:=w8n h k hk
  have h2:=q7b h hlt
  exact⟨hlt,hlt,⟨⟨by omega,h1.2⟩,h2⟩,qb5 (by have:=h.1; omega) (by have:=h.1; omega),k+1,by omega,by omega,(wo1 l k hlt).symm,by omega⟩
 ·obtain rfl:k=l.length:=by omega
  simp only[List.take_length,decide_eq_true_eq,decide_eq_false_iff_not,Int.not_lt]
  have sh0:shK l 0=l:=by unfold shK; split <;> simp
  refine⟨(),(0,l),⟨Nat.zero_le _,sh0.symm⟩,⟨rfl,rfl⟩,?_⟩
  rintro⟨k,r⟩ ⟨h1,h2⟩
  dsimp only at h1 h2 ⊢
  subst h2
  have hl:=wy0 l k h1
  refine⟨λhlt=>⟨λhg=>?_,λhg=>?_⟩,λhge=>?_⟩
  ·have h3:=q7b h hlt
   have h4:=qs1 (g:=gcdL l) h3
   rw[x3v l k hlt]
   refine⟨by omega,by omega,by omega,qb5 (by omega) (by omega),by omega,by omega,qb5 (by have:=h.1; omega) (by have:=h.1; omega),(k+1,shK l (k+1)),⟨by dsimp only; omega,rfl⟩,by dsimp only; omega,by dsimp only; omega,xk3 l k hlt hg⟩
  ·refine⟨qb5 (by have:=h.1; omega) (by have:=h.1; omega),(k+1,shK l (k+1)),⟨by dsimp only; omega,rfl⟩,by dsimp only; omega,by dsimp only; omega,?_⟩
   unfold shK
   rw[if_neg (by omega),if_neg (by omega)]
  ·obtain rfl:k=l.length:=by omega
   unfold shK qe4
   split
   ·simp
   ·rfl
def x3w:Int:=2000000000000000000
def q1 (r b:List Int) (c:Nat):Int:=(nI b c).tdiv (gcdI (nI r c) (nI b c))
def q2 (r b:List Int) (c:Nat):Int:=(nI r c).tdiv (gcdI (nI r c) (nI b c))
def x0g (r b:List Int) (c i:Nat):Int:=(nI r i)*q1 r b c-(nI b i)*q2 r b c
def q5f (r b:List Int) (c:Nat):List Int:=(List.range r.length).map (x0g r b c)
def qw9 (r b:List Int) (c:Nat):List Int:=qe4 (q5f r b c)
structure wo2 (r b:List Int) (c:Nat):Prop where
 at_:c<r.length
 len:b.length=r.length
 max:r.length<=1000
 ne:(nI b c)≠(0:Int)
 bdr:qf8 BIG (nI r c)
 bdb:qf8 BIG (nI b c)
 one:∀i,i<r.length->qf8 x3w ((nI r i)*q1 r b c)
 two:∀i,i<r.length->qf8 x3w ((nI b i)*q2 r b c)
def xt2:qm0:=q5q (q02 [qe9,qc8]) false false 0 3 (.int .i64) (λrows x=>0<=x.2.1/\wo2 (nL rows 0) x.1 x.2.1.toNat) (λ_ _=>.tup .nil) (λrows x=>[qw9 (nL rows 0) x.1 x.2.1.toNat])
def clK (r b:List Int) (c k:Nat):List Int:=ovr (.int .i64) (x0g r b c) r k
def x0h (T:q5k) (r b:List Int) (c:Nat):Nat->Option Inv
 | 0=>some (Inv.of [0,23] 11 (λs:Nat × List Int=>[(0,.msl 0 (some 0)),(23,.lit (.int .i64 s.1))]) (λs=>[.mat 0 3 (.int .i64) [s.2] (some []) (some T),.dead,.dead,.dead,.dead,.dead,.dead,.dead,.dead,.dead,.dead]) (λs=>s.1<=r.length/\s.2=clK r b c s.1) (λs=>r.length-s.1))
 | _=>none
theorem q1q (r b:List Int) (c:Nat):(q5f r b c).length=r.length:=by simp[q5f]
theorem x0i (r b:List Int) (c k:Nat):(clK r b c k).length=r.length:=qv4 (.int .i64) _ r k
theorem x3x (r b:List Int) (c k:Nat) (hk:k<r.length):nI (clK r b c k) k=nI r k:=(q9p (.int .i64) _ r k k hk).trans (if_neg (Nat.lt_irrefl k))
theorem xk4 (r b:List Int) (c k:Nat):(clK r b c k).set k (x0g r b c k)=clK r b c (k+1):=q1p (.int .i64) _ r k
theorem x0j (r b:List Int) (c:Nat):clK r b c r.length=q5f r b c:=q69 (.int .i64) _ r _ (Nat.le_refl _)
theorem w42 {r b:List Int} {c:Nat} (h:wo2 r b c):wj3 (q5f r b c):=by
 refine⟨by rw[q1q]; exact h.max,λx hx=>?_⟩
 unfold q5f at hx
 obtain⟨i,hi,rfl⟩:=List.mem_map.1 hx
 have hi:=List.mem_range.1 hi
 have h1:=h.one i hi
 have h2:=h.two i hi
 unfold x0g
 unfold x3w at h1 h2
 unfold BIG
 omega
theorem wy1:qo0 Tryz.prog 131 xt2:=by
 refine q04 (x3u (SpecsOk.cons qt0 (SpecsOk.nil _)) (MutsOk.cons q2t MutsOk.nil)) Tryz.func131 rfl rfl (qm4 [qe9,qc8]) (λT rows x=>x0h T (nL rows 0) x.1 x.2.1.toNat) (λ_ _ _=>by kernel_rfl) (by decide) ?_ rfl
 rintro T rows ⟨b,c,⟨⟩⟩ h hone
 revert b c
 intro(b:List Int) (c:Int) h
 obtain⟨r,rfl⟩:∃l:List Int,rows=[l]:=by
  have h1:=hone rfl
  match rows,h1 with
  | [l],_=>exact⟨l,rfl⟩
 have h:0<=c/\wo2 r b c.toNat:=h
 obtain⟨j,rfl⟩:∃j:Nat,c=j:=⟨c.toNat,by omega⟩
 refine @qd1 _ (let Q0:=qm0.t xt1; ((0:Int)<=(↑j:Int)/\(↑j:Int)<(↑(nL [r] (0:Nat)).length:Int))/\(↑j:Int).toNat<(nL [r] (0:Nat)).length/\((0:Int)<=(↑j:Int)/\(↑j:Int)<(↑b.length:Int))/\(((-4000000000000000000:Int)<=nI (nL [r] (0:Nat)) (↑j:Int).toNat/\nI (nL [r] (0:Nat)) (↑j:Int).toNat<=BIG)/\(-4000000000000000000:Int)<=nI b (↑j:Int).toNat/\nI b (↑j:Int).toNat<=BIG)/\∃(v0:Unit),∃(v1:Nat × List Int),(v1.1<=(nL [r] (0:Nat)).length/\v1.2=clK (nL [r] (0:Nat)) b (↑j:Int).toNat v1.1)/\((some (0:Nat)=some (0:Nat)/\(0:Int)=(↑v1.1:Int)/\True)/\([r]=[v1.2]/\True/\T=T)/\True/\True/\True/\True/\True/\True/\True/\True/\True/\True/\True)/\∀(v2:Nat × List Int),v2.1<=(nL [r] (0:Nat)).length/\v2.2=clK (nL [r] (0:Nat)) b (↑j:Int).toNat v2.1->(decide ((↑v2.1:Int)<(↑(nL [r] (0:Nat)).length:Int))=true->((0:Int)<=(↑v2.1:Int)/\(↑v2.1:Int)<(↑(nL [v2.2] (0:Nat)).length:Int))/\(↑v2.1:Int).toNat<(nL [v2.2] (0:Nat)).length/\gcdI (nI (nL [r] (0:Nat)) (↑j:Int).toNat) (nI b (↑j:Int).toNat)≠(0:Int)/\fits .i64 (Int.tdiv (nI b (↑j:Int).toNat) (gcdI (nI (nL [r] (0:Nat)) (↑j:Int).toNat) (nI b (↑j:Int).toNat)))/\fits .i64 (nI (nL [v2.2] (0:Nat)) (↑v2.1:Int).toNat*Int.tdiv (nI b (↑j:Int).toNat) (gcdI (nI (nL [r] (0:Nat)) (↑j:Int).toNat) (nI b (↑j:Int).toNat)))/\((0:Int)<=(↑v2.1:Int)/\(↑v2.1:Int)<(↑b.length:Int))/\gcdI (nI (nL [r] (0:Nat)) (↑j:Int).toNat) (nI b (↑j:Int).toNat)≠(0:Int)/\fits .i64 (Int.tdiv (nI (nL [r] (0:Nat)) (↑j:Int).toNat) (gcdI (nI (nL [r] (0:Nat)) (↑j:Int).toNat) (nI b (↑j:Int).toNat)))/\fits .i64 (nI b (↑v2.1:Int).toNat*Int.tdiv (nI (nL [r] (0:Nat)) (↑j:Int).toNat) (gcdI (nI (nL [r] (0:Nat)) (↑j:Int).toNat) (nI b (↑j:Int).toNat)))/\fits .i64 (nI (nL [v2.2] (0:Nat)) (↑v2.1:Int).toNat*Int.tdiv (nI b (↑j:Int).toNat) (gcdI (nI (nL [r] (0:Nat)) (↑j:Int).toNat) (nI b (↑j:Int).toNat))-nI b (↑v2.1:Int).toNat*Int.tdiv (nI (nL [r] (0:Nat)) (↑j:Int).toNat) (gcdI (nI (nL [r] (0:Nat)) (↑j:Int).toNat) (nI b (↑j:Int).toNat)))/\((0:Int)<=(↑v2.1:Int)/\(↑v2.1:Int)<(↑(nL [v2.2] (0:Nat)).length:Int))/\(↑v2.1:Int).toNat<(nL [v2.2] (0:Nat)).length/\fits .i64 ((↑v2.1:Int)+(1:Int))/\∃(v5:Nat × List Int),(v5.1<=(nL [r] (0:Nat)).length/\v5.2=clK (nL [r] (0:Nat)) b (↑j:Int).toNat v5.1)/\(nL [r] (0:Nat)).length-v5.1<(nL [r] (0:Nat)).length-v2.1/\(some (0:Nat)=some (0:Nat)/\(↑v2.1:Int)+(1:Int)=(↑v5.1:Int)/\True)/\(List.set [v2.2] (0:Nat) (List.set (nL [v2.2] (0:Nat)) (↑v2.1:Int).toNat (nI (nL [v2.2] (0:Nat)) (↑v2.1:Int).toNat*Int.tdiv (nI b (↑j:Int).toNat) (gcdI (nI (nL [r] (0:Nat)) (↑j:Int).toNat) (nI b (↑j:Int).toNat))-nI b (↑v2.1:Int).toNat*Int.tdiv (nI (nL [r] (0:Nat)) (↑j:Int).toNat) (gcdI (nI (nL [r] (0:Nat)) (↑j:Int).toNat) (nI b (↑j:Int).toNat))))=[v5.2]/\True/\T=T)/\True/\True/\True/\True/\True/\True/\True/\True/\True/\True/\True)/\(decide ((↑v2.1:Int)<(↑(nL [r] (0:Nat)).length:Int))=false->wj3 (nL [qf2 (Ty.list Q0) [v2.2] (0:Nat)] (0:Nat))/\List.set [v2.2] (0:Nat) (qf2 (Ty.list Q0) [qe4 (nL [qf2 (Ty.list Q0) [v2.2] (0:Nat)] (0:Nat))] (0:Nat))=[qw9 (nL [r] (0:Nat)) b (↑j:Int).toNat]/\T=T/\True/\True)) (by kernel_rfl) ?_
 try simp only[z0,z1,z2,z3,z4,z5,z6,z7,z8,z9,z10,Int.reduceEq,z11,z12,z13,z14,z15,z16,z17,z18,z19,z20,z21,z22,z23,z24,z25,z26,z27,z28,z29,z30,Int.reduceLE,Int.reduceLT,z31,z32,z33,z34,qa1]
 try simp only[qa7,qa8,qb8,z31,z32,z2,z1]
 obtain⟨_,h⟩:=h
 rw[Int.toNat_natCast] at h
 have hB:BIG=4000000000000000000:=rfl
 have hB2:x3w=2000000000000000000:=rfl
 have hl:=h.len
 have hj:=h.at_
 have hmx:=h.max
 refine⟨hj,hj,by omega,⟨by rw[<- hB]; exact h.bdr,by rw[<- hB]; exact h.bdb⟩,(),(0,r),⟨Nat.zero_le _,(q3n (.int .i64) _ r).symm⟩,⟨rfl,rfl⟩,?_⟩
 rintro⟨k,l⟩ ⟨h1,h2⟩
 dsimp only at h1 h2 ⊢
 subst h2
 have hkl:=x0i r b j k
 refine⟨λhlt=>?_,λhge=>?_⟩
 ·have hg:=qu9 (a:=nI r j) (b:=nI b j) (.inr h.ne)
  have k1:=qs1 (g:=gcdI (nI r j) (nI b j)) h.bdr
  have k2:=qs1 (g:=gcdI (nI r j) (nI b j)) h.bdb
  have k3:=h.one k hlt
  have k4:=h.two k hlt
  rw[x3x r b j k hlt]
  unfold q1 at k3
  unfold q2 at k4
  exact⟨by omega,by omega,by omega,qb5 (by omega) (by omega),qb5 (by omega) (by omega),by omega,by omega,qb5 (by omega) (by omega),qb5 (by omega) (by omega),qb5 (by omega) (by omega),by omega,by omega,qb5 (by omega) (by omega),(k+1,clK r b j (k+1)),⟨by dsimp only; omega,rfl⟩,by dsimp only; omega,by dsimp only; omega,xk4 r b j k⟩
 ·obtain rfl:k=r.length:=by omega
  rw[x0j]
  exact⟨w42 h,rfl⟩
def ixT (t:Ty) (f:t.den->Bool) (l:List t.den):Int:=if l.any f then(l.findIdx f:Int) else -1
theorem q9q (t:Ty) (f:t.den->Bool) (l:List t.den) (k:Nat) (hk:k<l.length) (h:∀i,i<k->f (qf2 t l i)=false) (hf:f (qf2 t l k)=true):ixT t f l=k:=by
 have hk':f l[k]=true:=by rw[<- qq4 l k hk]; exact hf
 unfold ixT
 rw[if_pos (List.any_eq_true.2 ⟨_,List.getElem_mem hk,hk'⟩)]
 have:l.findIdx f=k:=by
  rw[List.findIdx_eq hk]
  refine⟨hk',λj hj=>?_⟩
  have:=h j hj
  rw[qq4 l j (by omega)] at this
  exact this
 rw[this]
theorem q1r (t:Ty) (f:t.den->Bool) (l:List t.den) (h:∀i,i<l.length->f (qf2 t l i)=false):ixT t f l=-1:=by
 unfold ixT
 rw[if_neg]
 intro he
 obtain⟨x,hx,hf⟩:=List.any_eq_true.1 he
 obtain⟨i,hi,rfl⟩:=List.getElem_of_mem hx
 have:=h i hi
 rw[qq4 l i hi,hf] at this
 cases this
theorem q1s (t:Ty) (f:t.den->Bool) (l:List t.den):decide (0<=ixT t f l)=l.any f:=by
 unfold ixT
 split
 ·rename_i h; rw[h]; simp
 ·rename_i h; simp at h ⊢; exact h
theorem w8o (t:Ty) (f:t.den->Bool) (l:List t.den):ixT t f l<l.length/\-1<=ixT t f l:=by
 unfold ixT
 split
 ·rename_i h
  have:l.findIdx f<l.length:=List.findIdx_lt_length.2 (List.any_eq_true.1 h)
  omega
 ·omega
def x5y (t:Ty) (l:List t.den) (f:t.den->Bool):Nat->Option Inv
 | 0=>some (Inv.of [8] 0 (λk:Nat=>[(8,.lit (.int .i64 k))]) (λ_=>[]) (λk=>k<=l.length/\∀i,i<k->f (qf2 t l i)=false) (λk=>l.length-k))
 | _=>none
abbrev yi2 (fs:List (Nat × qb7)):qb7:=hspec fs true none [.d (.list (.list (.int .i64))),.fn [.list (.int .i64)] .bool] [qc8] (λx=>x.1.length<=1000000/\∀i,i<x.1.length->x.2.1.1 (qf2 (.list (.int .i64)) x.1 i,())) (λx=>(ixT (.list (.int .i64)) (λe=>x.2.1.2 (e,())) x.1,()))
theorem wo3 {fs:List (Nat × qb7)} (hfs:SpecsOk Tryz.prog fs):Meets Tryz.prog 129 (yi2 fs):=by
 refine qm7 hfs (snd (SpecsOk.nil _)) Tryz.func129 rfl rfl (λx=>x5y (.list (.int .i64)) x.1 (λe=>x.2.1.2 (e,()))) (λ_=>by kernel_rfl) (by decide) ?_
 rintro⟨l,⟨p,f⟩,⟨⟩⟩ h
 revert l p f
 intro(l:List (Ty.den (.list (.int .i64)))) (p:qa4 [.list (.int .i64)]->Prop) (f:qa4 [.list (.int .i64)]->Bool) (h:l.length<=1000000/\∀i,i<l.length->p (qf2 (.list (.int .i64)) l i,()))
 refine @qd1 _ (∃(v0:Unit),∃(v1:Nat),(v1<=l.length/\∀(v2:Nat),Nat.le (Nat.succ v2) v1->f (nL l v2,())=false)/\(((0:Int)=(↑v1:Int)/\True)/\True)/\∀(v2:Nat),(v2<=l.length/\∀(v4:Nat),Nat.le (Nat.succ v4) v2->f (nL l v4,())=false)->(decide ((↑v2:Int)<(↑l.length:Int))=true->((0:Int)<=(↑v2:Int)/\(↑v2:Int)<(↑l.length:Int))/\p (nL l v2,())/\(f (nL l v2,())=true->(↑v2:Int)=ixT (Ty.list (Ty.int .i64)) (λ(v6:List Int)=>f (v6,())) l)/\(f (nL l v2,())=false->fits .i64 ((↑v2:Int)+(1:Int))/\∃(v6:Nat),(v6<=l.length/\∀(v7:Nat),Nat.le (Nat.succ v7) v6->f (nL l v7,())=false)/\l.length-v6<l.length-v2/\((↑v2:Int)+(1:Int)=(↑v6:Int)/\True)/\True))/\(decide ((↑v2:Int)<(↑l.length:Int))=false->(-1:Int)=ixT (Ty.list (Ty.int .i64)) (λ(v5:List Int)=>f (v5,())) l)) (by kernel_rfl) ?_
 try simp only[z0,z1,z2,z3,z4,z5,z6,z7,z8,z9,z10,Int.reduceEq,z11,z12,z13,z14,z15,z16,z17,z18,z19,z20,z21,z22,z23,z24,z25,z26,z27,z28,z29,z30,Int.reduceLE,Int.reduceLT,z31,z32,z33,z34,qa1]
 try simp only[qa7,qa8,qb8,z31,z32,z2,z1]
 obtain⟨hl,hp⟩:=h
 refine⟨(),0,⟨Nat.zero_le _,λi hi=>absurd hi (by omega)⟩,rfl,λk ⟨hk,hall⟩=>?_⟩
 refine⟨λhlt=>⟨hlt,hp k hlt,λhf=>(q9q (.list (.int .i64)) (λe=>f (e,())) l k hlt hall hf).symm,λhf=>⟨qb5 (by omega) (by omega),k+1,⟨by omega,λi hi=>?_⟩,by omega,by omega⟩⟩,λhge=>(q1r (.list (.int .i64)) (λe=>f (e,())) l λi hi=>hall i (by omega)).symm⟩
 by_cases e:i=k
 ·subst e; exact hf
 ·exact hall i (by omega)
abbrev yi3 (fs:List (Nat × qb7)):qb7:=hspec fs true none [.d (.list (.int .i64)),.fn [.int .i64] .bool] [qc8] (λx=>x.1.length<=1000000/\∀i,i<x.1.length->x.2.1.1 (qf2 (.int .i64) x.1 i,())) (λx=>(ixT (.int .i64) (λe=>x.2.1.2 (e,())) x.1,()))
theorem wo4 {fs:List (Nat × qb7)} (hfs:SpecsOk Tryz.prog fs):Meets Tryz.prog 178 (yi3 fs):=by
 refine qm7 hfs (snd (SpecsOk.nil _)) Tryz.func178 rfl rfl (λx=>x5y (.int .i64) x.1 (λe=>x.2.1.2 (e,()))) (λ_=>by kernel_rfl) (by decide) ?_
 rintro⟨l,⟨p,f⟩,⟨⟩⟩ h
 revert l p f
 intro(l:List (Ty.den (.int .i64))) (p:qa4 [.int .i64]->Prop) (f:qa4 [.int .i64]->Bool) (h:l.length<=1000000/\∀i,i<l.length->p (qf2 (.int .i64) l i,()))
 refine @qd1 _ (∃(v0:Unit),∃(v1:Nat),(v1<=l.length/\∀(v2:Nat),Nat.le (Nat.succ v2) v1->f (nI l v2,())=false)/\(((0:Int)=(↑v1:Int)/\True)/\True)/\∀(v2:Nat),(v2<=l.length/\∀(v4:Nat),Nat.le (Nat.succ v4) v2->f (nI l v4,())=false)->(decide ((↑v2:Int)<(↑l.length:Int))=true->((0:Int)<=(↑v2:Int)/\(↑v2:Int)<(↑l.length:Int))/\p (nI l v2,())/\(f (nI l v2,())=true->(↑v2:Int)=ixT (Ty.int .i64) (λ(v6:Int)=>f (v6,())) l)/\(f (nI l v2,())=false->fits .i64 ((↑v2:Int)+(1:Int))/\∃(v6:Nat),(v6<=l.length/\∀(v7:Nat),Nat.le (Nat.succ v7) v6->f (nI l v7,())=false)/\l.length-v6<l.length-v2/\((↑v2:Int)+(1:Int)=(↑v6:Int)/\True)/\True))/\(decide ((↑v2:Int)<(↑l.length:Int))=false->(-1:Int)=ixT (Ty.int .i64) (λ(v5:Int)=>f (v5,())) l)) (by kernel_rfl) ?_
 try simp only[z0,z1,z2,z3,z4,z5,z6,z7,z8,z9,z10,Int.reduceEq,z11,z12,z13,z14,z15,z16,z17,z18,z19,z20,z21,z22,z23,z24,z25,z26,z27,z28,z29,z30,Int.reduceLE,Int.reduceLT,z31,z32,z33,z34,qa1]
 try simp only[qa7,qa8,qb8,z31,z32,z2,z1]
 obtain⟨hl,hp⟩:=h
 refine⟨(),0,⟨Nat.zero_le _,λi hi=>absurd hi (by omega)⟩,rfl,λk ⟨hk,hall⟩=>?_⟩
 refine⟨λhlt=>⟨hlt,hp k hlt,λhf=>(q9q (.int .i64) (λe=>f (e,())) l k hlt hall hf).symm,λhf=>⟨qb5 (by omega) (by omega),k+1,⟨by omega,λi hi=>?_⟩,by omega,by omega⟩⟩,λhge=>(q1r (.int .i64) (λe=>f (e,())) l λi hi=>hall i (by omega)).symm⟩
 by_cases e:i=k
 ·subst e; exact hf
 ·exact hall i (by omega)
abbrev yi4 (fs:List (Nat × qb7)):qb7:=hspec fs true none [.d (.list (.prod (.int .i64) (.int .i64))),.fn [.prod (.int .i64) (.int .i64)] .bool] [qc8] (λx=>x.1.length<=1000000/\∀i,i<x.1.length->x.2.1.1 (qf2 (.prod (.int .i64) (.int .i64)) x.1 i,())) (λx=>(ixT (.prod (.int .i64) (.int .i64)) (λe=>x.2.1.2 (e,())) x.1,()))
theorem w8p {fs:List (Nat × qb7)} (hfs:SpecsOk Tryz.prog fs):Meets Tryz.prog 250 (yi4 fs):=by
 refine qm7 hfs (snd (SpecsOk.nil _)) Tryz.func250 rfl rfl (λx=>x5y (.prod (.int .i64) (.int .i64)) x.1 (λe=>x.2.1.2 (e,()))) (λ_=>by kernel_rfl) (by decide) ?_
 rintro⟨l,⟨p,f⟩,⟨⟩⟩ h
 revert l p f
 intro(l:List (Ty.den (.prod (.int .i64) (.int .i64)))) (p:qa4 [.prod (.int .i64) (.int .i64)]->Prop) (f:qa4 [.prod (.int .i64) (.int .i64)]->Bool) (h:l.length<=1000000/\∀i,i<l.length->p (qf2 (.prod (.int .i64) (.int .i64)) l i,()))
 refine @qd1 _ (∃(v0:Unit),∃(v1:Nat),(v1<=l.length/\∀(v2:Nat),Nat.le (Nat.succ v2) v1->f (qf2 (Ty.prod (Ty.int .i64) (Ty.int .i64)) l v2,())=false)/\(((0:Int)=(↑v1:Int)/\True)/\True)/\∀(v2:Nat),(v2<=l.length/\∀(v4:Nat),Nat.le (Nat.succ v4) v2->f (qf2 (Ty.prod (Ty.int .i64) (Ty.int .i64)) l v4,())=false)->(decide ((↑v2:Int)<(↑l.length:Int))=true->((0:Int)<=(↑v2:Int)/\(↑v2:Int)<(↑l.length:Int))/\p (((qf2 (Ty.prod (Ty.int .i64) (Ty.int .i64)) l v2).1,(qf2 (Ty.prod (Ty.int .i64) (Ty.int .i64)) l v2).2),())/\(f (((qf2 (Ty.prod (Ty.int .i64) (Ty.int .i64)) l v2).1,(qf2 (Ty.prod (Ty.int .i64) (Ty.int .i64)) l v2).2),())=true->(↑v2:Int)=ixT (Ty.prod (Ty.int .i64) (Ty.int .i64)) (λ(v6:Int × Int)=>f (v6,())) l)/\(f (((qf2 (Ty.prod (Ty.int .i64) (Ty.int .i64)) l v2).1,(qf2 (Ty.prod (Ty.int .i64) (Ty.int .i64)) l v2).2),())=false->fits .i64 ((↑v2:Int)+(1:Int))/\∃(v6:Nat),(v6<=l.length/\∀(v7:Nat),Nat.le (Nat.succ v7) v6->f (qf2 (Ty.prod (Ty.int .i64) (Ty.int .i64)) l v7,())=false)/\l.length-v6<l.length-v2/\((↑v2:Int)+(1:Int)=(↑v6:Int)/\True)/\True))/\(decide ((↑v2:Int)<(↑l.length:Int))=false->(-1:Int)=ixT (Ty.prod (Ty.int .i64) (Ty.int .i64)) (λ(v5:Int × Int)=>f (v5,())) l)) (by kernel_rfl) ?_
 try simp only[z0,z1,z2,z3,z4,z5,z6,z7,z8,z9,z10,Int.reduceEq,z11,z12,z13,z14,z15,z16,z17,z18,z19,z20,z21,z22,z23,z24,z25,z26,z27,z28,z29,z30,Int.reduceLE,Int.reduceLT,z31,z32,z33,z34,qa1]
 try simp only[qa7,qa8,qb8,z31,z32,z2,z1]
 obtain⟨hl,hp⟩:=h
 refine⟨(),0,⟨Nat.zero_le _,λi hi=>absurd hi (by omega)⟩,rfl,λk ⟨hk,hall⟩=>?_⟩
 refine⟨λhlt=>⟨hlt,hp k hlt,λhf=>(q9q (.prod (.int .i64) (.int .i64)) (λe=>f (e,())) l k hlt hall hf).symm,λhf=>⟨qb5 (by omega) (by omega),k+1,⟨by omega,λi hi=>?_⟩,by omega,by omega⟩⟩,λhge=>(q1r (.prod (.int .i64) (.int .i64)) (λe=>f (e,())) l λi hi=>hall i (by omega)).symm⟩
 by_cases e:i=k
 ·subst e; exact hf
 ·exact hall i (by omega)
abbrev yi5 (fs:List (Nat × qb7)):qb7:=hspec fs true none [.d (.list (.list (.int .i64))),.fn [.list (.int .i64)] .bool] [.bool] (λx=>x.1.length<=1000000/\∀i,i<x.1.length->x.2.1.1 (qf2 (.list (.int .i64)) x.1 i,())) (λx=>(x.1.any λe=>x.2.1.2 (e,()),()))
theorem wo5 {fs:List (Nat × qb7)} (hfs:SpecsOk Tryz.prog fs):Meets Tryz.prog 107 (yi5 fs):=by
 refine qm7 hfs (snd (SpecsOk.cons (wo3 (fs:=fs) hfs) (SpecsOk.nil _))) Tryz.func107 rfl rfl (λx=>λ_=>none) (λ_=>by kernel_rfl) (by decide) ?_
 rintro⟨l,⟨p,f⟩,⟨⟩⟩ h
 revert l p f
 intro(l:List (Ty.den (.list (.int .i64)))) (p:qa4 [.list (.int .i64)]->Prop) (f:qa4 [.list (.int .i64)]->Bool) (h:l.length<=1000000/\∀i,i<l.length->p (qf2 (.list (.int .i64)) l i,()))
 refine @qd1 _ (∃(v0:qa4 [Ty.list (Ty.int .i64)]->Prop),∃(v1:qa4 [Ty.list (Ty.int .i64)]->Bool),([Ty.list (Ty.int .i64)]=[Ty.list (Ty.int .i64)]/\Ty.bool=Ty.bool/\p ≍ v0/\f ≍ v1)/\(l.length<=(1000000:Nat)/\∀(v2:Nat),v2<l.length->v0 (nL l v2,()))/\decide ((0:Int)<=ixT (Ty.list (Ty.int .i64)) (λ(v2:List Int)=>v1 (v2,())) l)=List.any l λ(v2:List Int)=>f (v2,())) (by kernel_rfl) ?_
 try simp only[z0,z1,z2,z3,z4,z5,z6,z7,z8,z9,z10,Int.reduceEq,z11,z12,z13,z14,z15,z16,z17,z18,z19,z20,z21,z22,z23,z24,z25,z26,z27,z28,z29,z30,Int.reduceLE,Int.reduceLT,z31,z32,z33,z34,qa1]
 try simp only[qa7,qa8,qb8,z31,z32,z2,z1]
 exact⟨p,f,⟨HEq.rfl,HEq.rfl⟩,h,q1s (.list (.int .i64)) (λe=>f (e,())) l⟩
abbrev yi6 (fs:List (Nat × qb7)):qb7:=hspec fs true none [.d (.list (.int .i64)),.fn [.int .i64] .bool] [.bool] (λx=>x.1.length<=1000000/\∀i,i<x.1.length->x.2.1.1 (qf2 (.int .i64) x.1 i,())) (λx=>(x.1.any λe=>x.2.1.2 (e,()),()))
theorem q3o {fs:List (Nat × qb7)} (hfs:SpecsOk Tryz.prog fs):Meets Tryz.prog 132 (yi6 fs):=by
 refine qm7 hfs (snd (SpecsOk.cons (wo4 (fs:=fs) hfs) (SpecsOk.nil _))) Tryz.func132 rfl rfl (λx=>λ_=>none) (λ_=>by kernel_rfl) (by decide) ?_
 rintro⟨l,⟨p,f⟩,⟨⟩⟩ h
 revert l p f
 intro(l:List (Ty.den (.int .i64))) (p:qa4 [.int .i64]->Prop) (f:qa4 [.int .i64]->Bool) (h:l.length<=1000000/\∀i,i<l.length->p (qf2 (.int .i64) l i,()))
 refine @qd1 _ (∃(v0:qa4 [Ty.int .i64]->Prop),∃(v1:qa4 [Ty.int .i64]->Bool),([Ty.int .i64]=[Ty.int .i64]/\Ty.bool=Ty.bool/\p ≍ v0/\f ≍ v1)/\(l.length<=(1000000:Nat)/\∀(v2:Nat),v2<l.length->v0 (nI l v2,()))/\decide ((0:Int)<=ixT (Ty.int .i64) (λ(v2:Int)=>v1 (v2,())) l)=List.any l λ(v2:Int)=>f (v2,())) (by kernel_rfl) ?_
 try simp only[z0,z1,z2,z3,z4,z5,z6,z7,z8,z9,z10,Int.reduceEq,z11,z12,z13,z14,z15,z16,z17,z18,z19,z20,z21,z22,z23,z24,z25,z26,z27,z28,z29,z30,Int.reduceLE,Int.reduceLT,z31,z32,z33,z34,qa1]
 try simp only[qa7,qa8,qb8,z31,z32,z2,z1]
 exact⟨p,f,⟨HEq.rfl,HEq.rfl⟩,h,q1s (.int .i64) (λe=>f (e,())) l⟩
abbrev yi7 (fs:List (Nat × qb7)):qb7:=hspec fs true none [.d (.list (.prod (.int .i64) (.int .i64))),.fn [.prod (.int .i64) (.int .i64)] .bool] [.bool] (λx=>x.1.length<=1000000/\∀i,i<x.1.length->x.2.1.1 (qf2 (.prod (.int .i64) (.int .i64)) x.1 i,())) (λx=>(x.1.any λe=>x.2.1.2 (e,()),()))
theorem w8q {fs:List (Nat × qb7)} (hfs:SpecsOk Tryz.prog fs):Meets Tryz.prog 239 (yi7 fs):=by
 refine qm7 hfs (snd (SpecsOk.cons (w8p (fs:=fs) hfs) (SpecsOk.nil _))) Tryz.func239 rfl rfl (λx=>λ_=>none) (λ_=>by kernel_rfl) (by decide) ?_
 rintro⟨l,⟨p,f⟩,⟨⟩⟩ h
 revert l p f
 intro(l:List (Ty.den (.prod (.int .i64) (.int .i64)))) (p:qa4 [.prod (.int .i64) (.int .i64)]->Prop) (f:qa4 [.prod (.int .i64) (.int .i64)]->Bool) (h:l.length<=1000000/\∀i,i<l.length->p (qf2 (.prod (.int .i64) (.int .i64)) l i,()))
 refine @qd1 _ (∃(v0:qa4 [Ty.prod (Ty.int .i64) (Ty.int .i64)]->Prop),∃(v1:qa4 [Ty.prod (Ty.int .i64) (Ty.int .i64)]->Bool),([Ty.prod (Ty.int .i64) (Ty.int .i64)]=[Ty.prod (Ty.int .i64) (Ty.int .i64)]/\Ty.bool=Ty.bool/\p ≍ v0/\f ≍ v1)/\(l.length<=(1000000:Nat)/\∀(v2:Nat),v2<l.length->v0 (qf2 (Ty.prod (Ty.int .i64) (Ty.int .i64)) l v2,()))/\decide ((0:Int)<=ixT (Ty.prod (Ty.int .i64) (Ty.int .i64)) (λ(v2:Int × Int)=>v1 (v2,())) l)=List.any l λ(v2:Int × Int)=>f (v2,())) (by kernel_rfl) ?_
 try simp only[z0,z1,z2,z3,z4,z5,z6,z7,z8,z9,z10,Int.reduceEq,z11,z12,z13,z14,z15,z16,z17,z18,z19,z20,z21,z22,z23,z24,z25,z26,z27,z28,z29,z30,Int.reduceLE,Int.reduceLT,z31,z32,z33,z34,qa1]
 try simp only[qa7,qa8,qb8,z31,z32,z2,z1]
 exact⟨p,f,⟨HEq.rfl,HEq.rfl⟩,h,q1s (.prod (.int .i64) (.int .i64)) (λe=>f (e,())) l⟩
def inB (n lo hi:Int):Bool:=decide (lo<=n) && decide (n<=hi)
theorem qh5 {n lo hi:Int}:inB n lo hi=true↔lo<=n/\n<=hi:=by simp[inB]
abbrev we9:qb7:=qf1 true none [qc8,qc8,qc8] [.bool] (λ_=>True) (λx=>(inB x.1 x.2.1 x.2.2.1,()))
theorem qt1:Meets Tryz.prog 121 we9:=by
 refine meets (snd (SpecsOk.nil _)) Tryz.func121 rfl rfl (λ_ _=>none) (λ_=>by kernel_rfl) (by decide) ?_
 rintro⟨n,lo,hi,⟨⟩⟩ -
 revert n lo hi
 intro(n:Int) (lo:Int) (hi:Int)
 refine @qd1 _ ((decide (lo<=n)=true->decide (n<=hi)=inB n lo hi)/\(decide (lo<=n)=false->false=inB n lo hi)) (by kernel_rfl) ?_
 try simp only[z0,z1,z2,z3,z4,z5,z6,z7,z8,z9,z10,Int.reduceEq,z11,z12,z13,z14,z15,z16,z17,z18,z19,z20,z21,z22,z23,z24,z25,z26,z27,z28,z29,z30,Int.reduceLE,Int.reduceLT,z31,z32,z33,z34,qa1]
 try simp only[qa7,qa8,qb8,z31,z32,z2,z1]
 constructor
 ·intro h1
  simp[inB,h1]
 ·intro h1
  have:¬lo<=n:=by omega
  simp[inB,this]
theorem qt2:Meets Tryz.prog 191 we9:=by
 refine meets (snd (SpecsOk.nil _)) Tryz.func191 rfl rfl (λ_ _=>none) (λ_=>by kernel_rfl) (by decide) ?_
 rintro⟨n,lo,hi,⟨⟩⟩ -
 revert n lo hi
 intro(n:Int) (lo:Int) (hi:Int)
 refine @qd1 _ ((decide (lo<=n)=true->decide (n<=hi)=inB n lo hi)/\(decide (lo<=n)=false->false=inB n lo hi)) (by kernel_rfl) ?_
 try simp only[z0,z1,z2,z3,z4,z5,z6,z7,z8,z9,z10,Int.reduceEq,z11,z12,z13,z14,z15,z16,z17,z18,z19,z20,z21,z22,z23,z24,z25,z26,z27,z28,z29,z30,Int.reduceLE,Int.reduceLT,z31,z32,z33,z34,qa1]
 try simp only[qa7,qa8,qb8,z31,z32,z2,z1]
 constructor
 ·intro h1
  simp[inB,h1]
 ·intro h1
  have:¬lo<=n:=by omega
  simp[inB,this]
abbrev xt3 (fs:List (Nat × qb7)):qb7:=hspec fs true none [.d qc8,.capfn [qc8] .bool] [.bool] (λx=>x.2.1.1 (x.1,())) (λx=>(!(x.2.1.2 (x.1,())),()))
theorem wy2 {fs:List (Nat × qb7)} (hfs:SpecsOk Tryz.prog fs):Meets Tryz.prog 226 (xt3 fs):=by
 refine qm7 hfs (snd (SpecsOk.nil _)) Tryz.func226 rfl rfl (λ_ _=>none) (λ_=>by kernel_rfl) (by decide) ?_
 rintro⟨n,⟨p,f⟩,⟨⟩⟩ h
 revert n p f
 intro(n:Int) (p:qa4 [.int .i64]->Prop) (f:qa4 [.int .i64]->Bool) (h:p (n,()))
 refine @qd1 _ (p (n,())/\(!f (n,()))=!f (n,())) (by kernel_rfl) ?_
 try simp only[z0,z1,z2,z3,z4,z5,z6,z7,z8,z9,z10,Int.reduceEq,z11,z12,z13,z14,z15,z16,z17,z18,z19,z20,z21,z22,z23,z24,z25,z26,z27,z28,z29,z30,Int.reduceLE,Int.reduceLT,z31,z32,z33,z34,qa1]
 try simp only[qa7,qa8,qb8,z31,z32,z2,z1]
 exact h
abbrev xt4 (fs:List (Nat × qb7)):qb7:=hspec fs true none [.d qe9,.capfn [qe9] .bool] [.bool] (λx=>x.2.1.1 (x.1,())) (λx=>(!(x.2.1.2 (x.1,())),()))
theorem wy3 {fs:List (Nat × qb7)} (hfs:SpecsOk Tryz.prog fs):Meets Tryz.prog 180 (xt4 fs):=by
 refine qm7 hfs (snd (SpecsOk.nil _)) Tryz.func180 rfl rfl (λ_ _=>none) (λ_=>by kernel_rfl) (by decide) ?_
 rintro⟨n,⟨p,f⟩,⟨⟩⟩ h
 revert n p f
 intro(n:List Int) (p:qa4 [.list (.int .i64)]->Prop) (f:qa4 [.list (.int .i64)]->Bool) (h:p (n,()))
 refine @qd1 _ (p (n,())/\(!f (n,()))=!f (n,())) (by kernel_rfl) ?_
 try simp only[z0,z1,z2,z3,z4,z5,z6,z7,z8,z9,z10,Int.reduceEq,z11,z12,z13,z14,z15,z16,z17,z18,z19,z20,z21,z22,z23,z24,z25,z26,z27,z28,z29,z30,Int.reduceLE,Int.reduceLT,z31,z32,z33,z34,qa1]
 try simp only[qa7,qa8,qb8,z31,z32,z2,z1]
 exact h
abbrev fsI (fs:List (Nat × qb7)):List (Nat × qb7):=[(226,xt3 fs)]
abbrev fsL (fs:List (Nat × qb7)):List (Nat × qb7):=[(180,xt4 fs)]
abbrev x70 (fs:List (Nat × qb7)):qb7:=hspec fs true none [.d qe9,.fn [qc8] .bool] [.bool] (λx=>x.1.length<=1000000/\∀i,i<x.1.length->x.2.1.1 (nI x.1 i,())) (λx=>(x.1.all λe=>x.2.1.2 (e,()),()))
abbrev x71 (fs:List (Nat × qb7)):qb7:=hspec fs true none [.d qg0,.fn [qe9] .bool] [.bool] (λx=>x.1.length<=1000000/\∀i,i<x.1.length->x.2.1.1 (nL x.1 i,())) (λx=>(x.1.all λe=>x.2.1.2 (e,()),()))
theorem q9r {fs:List (Nat × qb7)} (hfs:SpecsOk Tryz.prog fs):Meets Tryz.prog 181 (x70 fs):=by
 refine qm7 hfs (snd (SpecsOk.cons (q3o (fs:=fsI fs) (SpecsOk.cons (wy2 hfs) (SpecsOk.nil _))) (SpecsOk.nil _))) Tryz.func181 rfl rfl (λ_ _=>none) (λ_=>by kernel_rfl) (by decide) ?_
 rintro⟨l,⟨p,f⟩,⟨⟩⟩ h
 revert l p f
 intro(l:List Int) (p:qa4 [.int .i64]->Prop) (f:qa4 [.int .i64]->Bool) (h:l.length<=1000000/\∀i,i<l.length->p (nI l i,()))
 refine @qd1 _ (∃(v0:qa4 [Ty.int .i64]->Prop),∃(v1:qa4 [Ty.int .i64]->Bool),(∀(v2:Int × qa4._f [] PUnit.unit),v0 v2->∃(v4:qa4 [qc8]->Prop),∃(v5:qa4 [qc8]->Bool),([qc8]=[qc8]/\Ty.bool=Ty.bool/\p ≍ v4/\f ≍ v5)/\v4 (v2.1,())/\(!v5 (v2.1,()))=v1 v2)/\(l.length<=(1000000:Nat)/\∀(v2:Nat),v2<l.length->v0 (nI l v2,()))/\(!List.any l λ(v2:Int)=>v1 (v2,()))=List.all l λ(v2:Int)=>f (v2,())) (by kernel_rfl) ?_
 try simp only[z0,z1,z2,z3,z4,z5,z6,z7,z8,z9,z10,Int.reduceEq,z11,z12,z13,z14,z15,z16,z17,z18,z19,z20,z21,z22,z23,z24,z25,z26,z27,z28,z29,z30,Int.reduceLE,Int.reduceLT,z31,z32,z33,z34,qa1]
 try simp only[qa7,qa8,qb8,z31,z32,z2,z1]
 exact⟨p,λx=>!f x,λx hx=>⟨p,f,⟨HEq.rfl,HEq.rfl⟩,hx,(Bool.not_not (f x)).symm⟩,h,by simp[List.not_all_eq_any_not]⟩
theorem w43 {fs:List (Nat × qb7)} (hfs:SpecsOk Tryz.prog fs):Meets Tryz.prog 122 (x71 fs):=by
 refine qm7 hfs (snd (SpecsOk.cons (wo5 (fs:=fsL fs) (SpecsOk.cons (wy3 hfs) (SpecsOk.nil _))) (SpecsOk.nil _))) Tryz.func122 rfl rfl (λ_ _=>none) (λ_=>by kernel_rfl) (by decide) ?_
 rintro⟨l,⟨p,f⟩,⟨⟩⟩ h
 revert l p f
 intro(l:List (List Int)) (p:qa4 [.list (.int .i64)]->Prop) (f:qa4 [.list (.int .i64)]->Bool) (h:l.length<=1000000/\∀i,i<l.length->p (nL l i,()))
 refine @qd1 _ (∃(v0:qa4 [Ty.list (Ty.int .i64)]->Prop),∃(v1:qa4 [Ty.list (Ty.int .i64)]->Bool),(∀(v2:List Int × qa4._f [] PUnit.unit),v0 v2->∃(v4:qa4 [qe9]->Prop),∃(v5:qa4 [qe9]->Bool),([qe9]=[qe9]/\Ty.bool=Ty.bool/\p ≍ v4/\f ≍ v5)/\v4 (v2.1,())/\(!v5 (v2.1,()))=v1 v2)/\(l.length<=(1000000:Nat)/\∀(v2:Nat),v2<l.length->v0 (nL l v2,()))/\(!List.any l λ(v2:List Int)=>v1 (v2,()))=List.all l λ(v2:List Int)=>f (v2,())) (by kernel_rfl) ?_
 try simp only[z0,z1,z2,z3,z4,z5,z6,z7,z8,z9,z10,Int.reduceEq,z11,z12,z13,z14,z15,z16,z17,z18,z19,z20,z21,z22,z23,z24,z25,z26,z27,z28,z29,z30,Int.reduceLE,Int.reduceLT,z31,z32,z33,z34,qa1]
 try simp only[qa7,qa8,qb8,z31,z32,z2,z1]
 exact⟨p,λx=>!f x,λx hx=>⟨p,f,⟨HEq.rfl,HEq.rfl⟩,hx,(Bool.not_not (f x)).symm⟩,h,by simp[List.not_all_eq_any_not]⟩
abbrev x3y:qb7:=qf1 true none [qc8] [.bool] (λ_=>True) (λx=>(inB x.1 (-1) 1,()))
theorem w44:Meets Tryz.prog 182 x3y:=by
 refine meets (snd (SpecsOk.cons qt1 (SpecsOk.nil _))) Tryz.func182 rfl rfl (λ_ _=>none) (λ_=>by kernel_rfl) (by decide) ?_
 rintro⟨n,⟨⟩⟩ -
 revert n
 intro(n:Int)
 refine @qd1 _ (True/\inB n (-1:Int) (1:Int)=inB n (-1:Int) (1:Int)) (by kernel_rfl) ?_
 try simp only[z0,z1,z2,z3,z4,z5,z6,z7,z8,z9,z10,Int.reduceEq,z11,z12,z13,z14,z15,z16,z17,z18,z19,z20,z21,z22,z23,z24,z25,z26,z27,z28,z29,z30,Int.reduceLE,Int.reduceLT,z31,z32,z33,z34,qa1]
 try simp only[qa7,qa8,qb8,z31,z32,z2,z1]
def rowB (l:List Int):Bool:=inB l.length 1 10 && l.all λn=>inB n (-1) 1
abbrev yi8:qb7:=qf1 true none [qe9] [.bool] (λ_=>True) (λx=>(rowB x.1,()))
theorem w8r:Meets Tryz.prog 124 yi8:=by
 refine meets (snd (SpecsOk.cons qt1 (SpecsOk.cons (q9r (fs:=[(182,x3y)]) (SpecsOk.cons w44 (SpecsOk.nil _))) (SpecsOk.nil _)))) Tryz.func124 rfl rfl (λ_ _=>none) (λ_=>by kernel_rfl) (by decide) ?_
 rintro⟨l,⟨⟩⟩ -
 revert l
 intro(l:List Int)
 refine @qd1 _ (True/\(inB (↑l.length:Int) (1:Int) (10:Int)=true->∃(v1:qa4 [qc8]->Prop),∃(v2:qa4 [qc8]->Bool),(∀(v3:Int × qa4._f [] PUnit.unit),v1 v3->True/\inB v3.1 (-1:Int) (1:Int)=v2 v3)/\(l.length<=(1000000:Nat)/\∀(v3:Nat),v3<l.length->v1 (nI l v3,()))/\(List.all l λ(v3:Int)=>v2 (v3,()))=rowB l)/\(inB (↑l.length:Int) (1:Int) (10:Int)=false->false=rowB l)) (by kernel_rfl) ?_
 try simp only[z0,z1,z2,z3,z4,z5,z6,z7,z8,z9,z10,Int.reduceEq,z11,z12,z13,z14,z15,z16,z17,z18,z19,z20,z21,z22,z23,z24,z25,z26,z27,z28,z29,z30,Int.reduceLE,Int.reduceLT,z31,z32,z33,z34,qa1]
 try simp only[qa7,qa8,qb8,z31,z32,z2,z1]
 refine⟨λh=>⟨λ_=>True,λx=>inB x.1 (-1) 1,λ_ _=>rfl,⟨by rw[qh5] at h; omega,λ_ _=>trivial⟩,by simp[rowB,h]⟩,λh=>by simp[rowB,h]⟩
abbrev yf5:qb7:=hspec [] true none [.d qe9,.cap qg0] [.bool] (λx=>0<x.2.1.length) (λx=>(decide (x.1.length=(nL x.2.1 0).length) && rowB x.1,()))
theorem w8s:Meets Tryz.prog 123 yf5:=by
 refine qm7 (SpecsOk.nil _) (snd (SpecsOk.cons w8r (SpecsOk.nil _))) Tryz.func123 rfl rfl (λ_ _=>none) (λ_=>by kernel_rfl) (by decide) ?_
 rintro⟨l,m,⟨⟩⟩ h
 revert l m
 intro(l:List Int) (m:List (List Int)) (h:0<m.length)
 refine @qd1 _ (((0:Int)<=(0:Int)/\(0:Int)<(↑m.length:Int))/\(((↑l.length:Int)==(↑(nL m (0:Nat)).length:Int))=true->True/\rowB l=(decide (l.length=(nL m (0:Nat)).length) && rowB l))/\(((↑l.length:Int)==(↑(nL m (0:Nat)).length:Int))=false->false=(decide (l.length=(nL m (0:Nat)).length) && rowB l))) (by kernel_rfl) ?_
 try simp only[z0,z1,z2,z3,z4,z5,z6,z7,z8,z9,z10,Int.reduceEq,z11,z12,z13,z14,z15,z16,z17,z18,z19,z20,z21,z22,z23,z24,z25,z26,z27,z28,z29,z30,Int.reduceLE,Int.reduceLT,z31,z32,z33,z34,qa1]
 try simp only[qa7,qa8,qb8,z31,z32,z2,z1]
 refine⟨by omega,λh1=>?_,λh1=>?_⟩
 ·rw[decide_eq_true (Int.ofNat.inj h1)]; simp
 ·rw[decide_eq_false λe=>h1 (congrArg _ e)]; simp
def qa9 (m:List (List Int)):Bool:=inB m.length 1 6 && m.all λl=>decide (l.length=(nL m 0).length) && rowB l
abbrev sMV:qb7:=qf1 true none [qg0] [.bool] (λ_=>True) (λx=>(qa9 x.1,()))
theorem qp4:Meets Tryz.prog 65 sMV:=by
 refine meets (snd (SpecsOk.cons qt1 (SpecsOk.cons (w43 (fs:=[(123,yf5)]) (SpecsOk.cons w8s (SpecsOk.nil _))) (SpecsOk.nil _)))) Tryz.func65 rfl rfl (λ_ _=>none) (λ_=>by kernel_rfl) (by decide) ?_
 rintro⟨m,⟨⟩⟩ -
 revert m
 intro(m:List (List Int))
 refine @qd1 _ (True/\(inB (↑m.length:Int) (1:Int) (6:Int)=true->∃(v1:qa4 [qe9]->Prop),∃(v2:qa4 [qe9]->Bool),(∀(v3:List Int × qa4._f [] PUnit.unit),v1 v3->(0:Nat)<m.length/\(decide (v3.1.length=(nL m (0:Nat)).length) && rowB v3.1)=v2 v3)/\(m.length<=(1000000:Nat)/\∀(v3:Nat),v3<m.length->v1 (nL m v3,()))/\(List.all m λ(v3:List Int)=>v2 (v3,()))=qa9 m)/\(inB (↑m.length:Int) (1:Int) (6:Int)=false->false=qa9 m)) (by kernel_rfl) ?_
 try simp only[z0,z1,z2,z3,z4,z5,z6,z7,z8,z9,z10,Int.reduceEq,z11,z12,z13,z14,z15,z16,z17,z18,z19,z20,z21,z22,z23,z24,z25,z26,z27,z28,z29,z30,Int.reduceLE,Int.reduceLT,z31,z32,z33,z34,qa1]
 try simp only[qa7,qa8,qb8,z31,z32,z2,z1]
 refine⟨λh=>?_,λh=>by simp[qa9,h]⟩
 have hm:=qh5.1 h
 exact⟨λ_=>True,λx=>decide (x.1.length=(nL m 0).length) && rowB x.1,λx _=>⟨by omega,rfl⟩,⟨by omega,λ_ _=>trivial⟩,by simp[qa9,h]⟩
end Go.Proofs.YtmijnbjlhnpokaaGreat
