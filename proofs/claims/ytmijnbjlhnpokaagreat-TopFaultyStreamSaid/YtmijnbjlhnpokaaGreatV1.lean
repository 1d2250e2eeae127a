/- Common divisors; rows shortened and cleared: contracts by the engine. No condition. -/
import Derived.Test.YtmijnbjlhnpokaaGreatV0
set_option linter.unusedVariables false
set_option linter.unusedSimpArgs false
namespace Go.Proofs.YtmijnbjlhnpokaaGreat
open Go Go.RowKit Eng
def gcdI (a b:Int):Int:=(Int.gcd a b:Int)
abbrev qf0 (K x:Int):Prop:=-K<=x/\x<=K
def BIG:Int:=4000000000000000000
theorem q60 (a b:Int):0<=gcdI a b:=Int.natCast_nonneg _
theorem xh9 (a b:Int):gcdI (max a (0-a)) (max b (0-b))=gcdI a b:=by
 unfold gcdI
 have h1:(max a (0-a)).natAbs=a.natAbs:=by omega
 have h2:(max b (0-b)).natAbs=b.natAbs:=by omega
 show((Nat.gcd (max a (0-a)).natAbs (max b (0-b)).natAbs:Nat):Int)=(Nat.gcd a.natAbs b.natAbs:Nat)
 rw[h1,h2]
theorem w7v {a b:Int} (ha:0<=a) (hb:0<=b):gcdI b (a.tmod b)=gcdI a b:=by
 unfold gcdI
 obtain⟨m,rfl⟩:=Int.eq_ofNat_of_zero_le ha
 obtain⟨n,rfl⟩:=Int.eq_ofNat_of_zero_le hb
 rw[Int.tmod_eq_emod_of_nonneg ha]
 have e:((m:Int) % (n:Int))=((m % n:Nat):Int):=rfl
 rw[e,Int.gcd_natCast_natCast,Int.gcd_natCast_natCast]
 congr 1
 rw[Nat.gcd_comm n,<- Nat.gcd_rec,Nat.gcd_comm]
theorem w7w (a:Int) (h:0<=a):gcdI a 0=a:=by
 unfold gcdI
 rw[Int.gcd_zero_right]
 omega
theorem wl6 {a:Int} (b:Int) (h:a≠0):gcdI a b<=a.natAbs:=by
 unfold gcdI
 exact Int.ofNat_le.2 (Nat.le_of_dvd (by omega) (Nat.gcd_dvd_left _ _))
theorem wc5 (a:Int) {b:Int} (h:b≠0):gcdI a b<=b.natAbs:=by
 unfold gcdI
 exact Int.ofNat_le.2 (Nat.le_of_dvd (by omega) (Nat.gcd_dvd_right _ _))
theorem w7x {a b:Int} (ha:-BIG<=a/\a<=BIG) (hb:-BIG<=b/\b<=BIG):0<=gcdI a b/\gcdI a b<=BIG:=by
 refine⟨q60 _ _,?_⟩
 unfold BIG at *
 by_cases h:a=0
 ·by_cases k:b=0
  ·subst h k; decide
  ·have:=wc5 a k; omega
 ·have:=wl6 b h; omega
theorem qq0 {a b:Int} (h:a≠0\/b≠0):0<gcdI a b:=by
 unfold gcdI
 have:0<Int.gcd a b:=by rw[Int.gcd_pos_iff]; exact h
 omega
theorem qr2 {a g K:Int} (hk:-K<=a/\a<=K):-K<=a.tdiv g/\a.tdiv g<=K:=by
 have h1:(a.tdiv g).natAbs<=a.natAbs:=by
  rw[Int.natAbs_tdiv]; exact Nat.div_le_self _ _
 omega
def xi0:qb4:=qf2 true none [qd0,qd0] [qd0] (λx=>(-BIG<=x.1/\x.1<=BIG)/\-BIG<=x.2.1/\x.2.1<=BIG) (λx=>(gcdI x.1 x.2.1,()))
def w7y (a b:Int):Nat->Option Inv
 | 0=>some (Inv.of [0,1] 0 (λs:Int × Int=>[(0,.lit (.int .i64 s.1)),(1,.lit (.int .i64 s.2))]) (λ_=>[]) (λs=>(0<=s.1/\s.1<=BIG)/\(0<=s.2/\s.2<=BIG)/\gcdI s.1 s.2=gcdI a b) (λs=>s.2.toNat))
 | _=>none
theorem qs0:Meets Tryz.prog 138 xi0:=by
 refine meets (snd (SpecsOk.nil _)) Tryz.func138 rfl rfl (λx=>w7y x.1 x.2.1) (λ_=>by kernel_rfl) (by decide) ?_
 rintro⟨a,b,⟨⟩⟩ h
 revert a b
 intro(a:Int) (b:Int) (h:(-BIG<=a/\a<=BIG)/\-BIG<=b/\b<=BIG)
 refine @qd1 _ (fits .i64 ((0:Int)-a)/\fits .i64 ((0:Int)-b)/\∃(v0:Unit),∃(v1:Int × Int),(((0:Int)<=v1.1/\v1.1<=BIG)/\((0:Int)<=v1.2/\v1.2<=BIG)/\gcdI v1.1 v1.2=gcdI a b)/\((max2 true a ((0:Int)-a)=v1.1/\max2 true b ((0:Int)-b)=v1.2/\True)/\True)/\∀(v2:Int × Int),((0:Int)<=v2.1/\v2.1<=BIG)/\((0:Int)<=v2.2/\v2.2<=BIG)/\gcdI v2.1 v2.2=gcdI a b->((v2.2 != (0:Int))=true->v2.2≠(0:Int)/\∃(v5:Int × Int),(((0:Int)<=v5.1/\v5.1<=BIG)/\((0:Int)<=v5.2/\v5.2<=BIG)/\gcdI v5.1 v5.2=gcdI a b)/\v5.2.toNat<v2.2.toNat/\(v2.2=v5.1/\Int.tmod v2.1 v2.2=v5.2/\True)/\True)/\((v2.2 != (0:Int))=false->v2.1=gcdI a b)) (by kernel_rfl) ?_
 try simp only[z0,z1,z2,z3,z4,z5,z6,z7,z8,z9,z10,Int.reduceEq,z11,z12,z13,z14,z15,z16,z17,z18,z19,z20,z21,z22,z23,z24,z25,z26,z27,z28,z29,z30,Int.reduceLE,Int.reduceLT,z31,z32,z33,z34,qa1]
 try simp only[qa7,qa8,qb5,z31,z32,z2,z1]
 have hB:BIG=4000000000000000000:=rfl
 refine⟨qb8 (by omega) (by omega),qb8 (by omega) (by omega),(),(max a (0-a),max b (0-b)),⟨⟨by dsimp only; omega,by dsimp only; omega⟩,⟨by dsimp only; omega,by dsimp only; omega⟩,xh9 a b⟩,⟨rfl,rfl⟩,?_⟩
 rintro⟨x,y⟩ ⟨⟨h1,h2⟩,⟨h3,h4⟩,h5⟩
 dsimp only at h1 h2 h3 h4 h5 ⊢
 refine⟨λhy=>⟨hy,(y,x.tmod y),⟨⟨h3,h4⟩,?_,?_⟩,?_,rfl,rfl⟩,λhy=>?_⟩
 ·rw[Int.tmod_eq_emod_of_nonneg h1]
  have k1:=Int.emod_nonneg x hy
  have k2:=Int.emod_lt_of_pos x (show 0<y by omega)
  exact⟨k1,by dsimp only; omega⟩
 ·exact(w7v h1 h3).trans h5
 ·rw[Int.tmod_eq_emod_of_nonneg h1]
  have k1:=Int.emod_nonneg x hy
  have k2:=Int.emod_lt_of_pos x (show 0<y by omega)
  dsimp only; omega
 ·subst hy
  rw[w7w x h1] at h5
  exact h5
def ofR (n d:Int):Int × Int:=if d<0 then(n.tdiv (0-gcdI n d),d.tdiv (0-gcdI n d)) else(n.tdiv (gcdI n d),d.tdiv (gcdI n d))
def sOf:qb4:=qf2 true none [qd0,qd0] [q0a] (λx=>(-BIG<=x.1/\x.1<=BIG)/\(-BIG<=x.2.1/\x.2.1<=BIG)/\x.2.1≠0) (λx=>(ofR x.1 x.2.1,()))
theorem w1o:Meets Tryz.prog 80 sOf:=by
 refine meets (snd (SpecsOk.cons qs0 (SpecsOk.nil _))) Tryz.func80 rfl rfl (λx=>λ_=>none) (λ_=>by kernel_rfl) (by decide) ?_
 rintro⟨a,b,⟨⟩⟩ h
 revert a b
 intro(a:Int) (b:Int) (h:(-BIG<=a/\a<=BIG)/\(-BIG<=b/\b<=BIG)/\b≠0)
 refine @qd1 _ (let Q0:=gcdI a b; (((-4000000000000000000:Int)<=a/\a<=BIG)/\(-4000000000000000000:Int)<=b/\b<=BIG)/\(decide (b<(0:Int))=true->fits .i64 ((0:Int)-gcdI a b)/\(0:Int)-gcdI a b≠(0:Int)/\fits .i64 (Int.tdiv a ((0:Int)-gcdI a b))/\(0:Int)-gcdI a b≠(0:Int)/\fits .i64 (Int.tdiv b ((0:Int)-gcdI a b))/\Int.tdiv a ((0:Int)-gcdI a b)=(ofR a b).1/\Int.tdiv b ((0:Int)-gcdI a b)=(ofR a b).2/\True)/\(decide (b<(0:Int))=false->gcdI a b≠(0:Int)/\fits .i64 (Int.tdiv a Q0)/\gcdI a b≠(0:Int)/\fits .i64 (Int.tdiv b Q0)/\Int.tdiv a Q0=(ofR a b).1/\Int.tdiv b Q0=(ofR a b).2/\True)) (by kernel_rfl) ?_
 try simp only[z0,z1,z2,z3,z4,z5,z6,z7,z8,z9,z10,Int.reduceEq,z11,z12,z13,z14,z15,z16,z17,z18,z19,z20,z21,z22,z23,z24,z25,z26,z27,z28,z29,z30,Int.reduceLE,Int.reduceLT,z31,z32,z33,z34,qa1]
 try simp only[qa7,qa8,qb5,z31,z32,z2,z1]
 have hB:BIG=4000000000000000000:=rfl
 have hg:=w7x h.1 h.2.1
 have hp:=qq0 (a:=a) (b:=b) (.inr h.2.2)
 refine⟨⟨h.1,h.2.1⟩,λhb=>?_,λhb=>?_⟩
 ·have h1:=qr2 (g:=0-gcdI a b) h.1
  have h2:=qr2 (g:=0-gcdI a b) h.2.1
  have e:ofR a b=(a.tdiv (0-gcdI a b),b.tdiv (0-gcdI a b)):=by unfold ofR; rw[if_pos hb]
  rw[e]
  exact⟨qb8 (by omega) (by omega),by omega,qb8 (by omega) (by omega),by omega,qb8 (by omega) (by omega),rfl,rfl⟩
 ·have h1:=qr2 (g:=gcdI a b) h.1
  have h2:=qr2 (g:=gcdI a b) h.2.1
  have e:ofR a b=(a.tdiv (gcdI a b),b.tdiv (gcdI a b)):=by unfold ofR; rw[if_neg (by omega)]
  rw[e]
  exact⟨by omega,qb8 (by omega) (by omega),by omega,qb8 (by omega) (by omega),rfl,rfl⟩
def gcdL (l:List Int):Int:=l.foldl gcdI 0
def qe3 (l:List Int):List Int:=if 1<gcdL l then l.map λx=>x.tdiv (gcdL l) else l
def wc6 (l:List Int):Prop:=l.length<=1000/\∀x∈l,-BIG<=x/\x<=BIG
def xr1:ql6:=q5h (q0u []) false false 0 3 (.int .i64) (λrows _=>wc6 (nL rows 0)) (λ_ _=>.tup .nil) (λrows _=>[qe3 (nL rows 0)])
def shK (l:List Int) (k:Nat):List Int:=if 1<gcdL l then(l.take k).map (λx=>x.tdiv (gcdL l))++l.drop k else l
def xy5 (T:q5b) (l:List Int):Nat->Option Inv
 | 0=>some (Inv.of [0,6,2,8] 1 (λk:Nat=>[(0,.msl 0 (some 0)),(6,.msl 0 (some 0)),(2,.lit (.int .i64 (gcdL (l.take k)))),(8,.lit (.int .i64 k))]) (λ_=>[.mat 0 3 (.int .i64) [l] (some []) (some T)]) (λk=>k<=l.length) (λk=>l.length-k))
 | 1=>some (Inv.of [0,18] 1 (λs:Nat × List Int=>[(0,.msl 0 (some 0)),(18,.lit (.int .i64 s.1))]) (λs=>[.mat 0 3 (.int .i64) [s.2] (some []) (some T)]) (λs=>s.1<=l.length/\s.2=shK l s.1) (λs=>l.length-s.1))
 | _=>none
theorem wl7 (l:List Int) (k:Nat) (hk:k<l.length):gcdL (l.take (k+1))=gcdI (gcdL (l.take k)) (nI l k):=by
 rw[List.take_add_one,List.getElem?_eq_getElem hk]
 simp only[gcdL,List.foldl_append,Option.toList_some,List.foldl_cons,List.foldl_nil]
 rw[qh0 l k hk]
theorem q61 {l:List Int} (h:wc6 l) {k:Nat} (hk:k<l.length):qf0 BIG (nI l k):=by
 rw[qh0 l k hk]
 exact h.2 _ (List.getElem_mem hk)
theorem w7z {l:List Int} (h:wc6 l):∀k,k<=l.length->0<=gcdL (l.take k)/\gcdL (l.take k)<=BIG
 | 0,_=>by simp[gcdL,BIG]
 | k+1,hk=>by
  rw[wl7 l k hk]
  have h1:=w7z h k (by omega)
  refine w7x ⟨?_,h1.2⟩ (q61 h hk)
  have hB:BIG=4000000000000000000:=rfl
  omega
theorem ww2 (l:List Int) (k:Nat) (hk:k<=l.length):(shK l k).length=l.length:=by
 unfold shK
 split
 ·simp; omega
 ·rfl
theorem x3j (l:List Int) (k:Nat) (hk:k<l.length):nI (shK l k) k=nI l k:=by
 unfold shK
 split
 ·unfold nI qe6
  rw[List.getD_eq_getElem?_getD,List.getD_eq_getElem?_getD,List.getElem?_append_right (by simp; omega)]
  simp
  congr 2
  omega
 ·rfl
theorem xi1 (l:List Int) (k:Nat) (hk:k<l.length) (hg:1<gcdL l):(shK l k).set k ((nI l k).tdiv (gcdL l))=shK l (k+1):=by
 have h1:=ww2 l k (by omega)
 have h2:=ww2 l (k+1) (by omega)
 apply List.ext_getElem (by rw[List.length_set,h1,h2])
 intro i hi _
 rw[List.length_set,h1] at hi
 rw[List.getElem_set]
 unfold shK
 simp only[if_pos hg]
 by_cases e:k=i
 ·subst e
  rw[if_pos rfl,List.getElem_append_left (by simp; omega),qh0 l k hk]
  simp
 ·rw[if_neg e]
  by_cases h:i<k
  ·rw[List.getElem_append_left (by simp; omega),List.getElem_append_left (by simp; omega)]
   simp
  ·rw[List.getElem_append_right (by simp; omega),List.getElem_append_right (by simp; omega)]
   simp only[List.length_map,List.length_take,List.getElem_drop]
   congr 1
   omega
theorem q2n:qn4 Tryz.prog 177 xr1:=by
 refine q0w (snd (SpecsOk.cons qs0 (SpecsOk.nil _))) Tryz.func177 rfl rfl (qm0 []) (λT rows _=>xy5 T (nL rows 0)) (λ_ _ _=>by kernel_rfl) (by decide) ?_ rfl
 rintro T rows ⟨⟩ h hone
 obtain⟨l,rfl⟩:∃l:List Int,rows=[l]:=by
  have h1:=hone rfl
  match rows,h1 with
  | [l],_=>exact⟨l,rfl⟩
 have h:wc6 l:=h
 refine @qd1 _ (∃(v0:Unit),∃(v1:Nat),Nat.le v1 (nL [l] (0:Nat)).length/\((some (0:Nat)=some (0:Nat)/\some (0:Nat)=some (0:Nat)/\(0:Int)=gcdL (List.take v1 (nL [l] (0:Nat)))/\(0:Int)=(↑v1:Int)/\True)/\([l]=[nL [l] (0:Nat)]/\True/\T=T)/\True)/\∀(v2:Nat),Nat.le v2 (nL [l] (0:Nat)).length->(decide ((↑v2:Int)<(↑(nL [l] (0:Nat)).length:Int))=true->((0:Int)<=(↑v2:Int)/\(↑v2:Int)<(↑(nL [nL [l] (0:Nat)] (0:Nat)).length:Int))/\v2<(nL [nL [l] (0:Nat)] (0:Nat)).length/\(((-4000000000000000000:Int)<=gcdL (List.take v2 (nL [l] (0:Nat)))/\gcdL (List.take v2 (nL [l] (0:Nat)))<=BIG)/\(-4000000000000000000:Int)<=nI (nL [nL [l] (0:Nat)] (0:Nat)) v2/\nI (nL [nL [l] (0:Nat)] (0:Nat)) v2<=BIG)/\fits .i64 ((↑v2:Int)+(1:Int))/\∃(v5:Nat),Nat.le v5 (nL [l] (0:Nat)).length/\(nL [l] (0:Nat)).length-v5<(nL [l] (0:Nat)).length-v2/\(some (0:Nat)=some (0:Nat)/\some (0:Nat)=some (0:Nat)/\gcdI (gcdL (List.take v2 (nL [l] (0:Nat)))) (nI (nL [nL [l] (0:Nat)] (0:Nat)) v2)=gcdL (List.take v5 (nL [l] (0:Nat)))/\(↑v2:Int)+(1:Int)=(↑v5:Int)/\True)/\([nL [l] (0:Nat)]=[nL [l] (0:Nat)]/\True/\T=T)/\True)/\(decide ((↑v2:Int)<(↑(nL [l] (0:Nat)).length:Int))=false->∃(v5:Unit),∃(v6:Nat × List Int),(v6.1<=(nL [l] (0:Nat)).length/\v6.2=shK (nL [l] (0:Nat)) v6.1)/\((some (0:Nat)=some (0:Nat)/\(0:Int)=(↑v6.1:Int)/\True)/\([nL [l] (0:Nat)]=[v6.2]/\True/\T=T)/\True)/\∀(v7:Nat × List Int),v7.1<=(nL [l] (0:Nat)).length/\v7.2=shK (nL [l] (0:Nat)) v7.1->(decide ((↑v7.1:Int)<(↑(nL [nL [l] (0:Nat)] (0:Nat)).length:Int))=true->(decide ((1:Int)<gcdL (List.take v2 (nL [l] (0:Nat))))=true->((0:Int)<=(↑v7.1:Int)/\(↑v7.1:Int)<(↑(nL [v7.2] (0:Nat)).length:Int))/\(↑v7.1:Int).toNat<(nL [v7.2] (0:Nat)).length/\gcdL (List.take v2 (nL [l] (0:Nat)))≠(0:Int)/\fits .i64 (Int.tdiv (nI (nL [v7.2] (0:Nat)) (↑v7.1:Int).toNat) (gcdL (List.take v2 (nL [l] (0:Nat)))))/\((0:Int)<=(↑v7.1:Int)/\(↑v7.1:Int)<(↑(nL [v7.2] (0:Nat)).length:Int))/\(↑v7.1:Int).toNat<(nL [v7.2] (0:Nat)).length/\fits .i64 ((↑v7.1:Int)+(1:Int))/\∃(v11:Nat × List Int),(v11.1<=(nL [l] (0:Nat)).length/\v11.2=shK (nL [l] (0:Nat)) v11.1)/\(nL [l] (0:Nat)).length-v11.1<(nL [l] (0:Nat)).length-v7.1/\(some (0:Nat)=some (0:Nat)/\(↑v7.1:Int)+(1:Int)=(↑v11.1:Int)/\True)/\(List.set [v7.2] (0:Nat) (List.set (nL [v7.2] (0:Nat)) (↑v7.1:Int).toNat (Int.tdiv (nI (nL [v7.2] (0:Nat)) (↑v7.1:Int).toNat) (gcdL (List.take v2 (nL [l] (0:Nat))))))=[v11.2]/\True/\T=T)/\True)/\(decide ((1:Int)<gcdL (List.take v2 (nL [l] (0:Nat))))=false->fits .i64 ((↑v7.1:Int)+(1:Int))/\∃(v11:Nat × List Int),(v11.1<=(nL [l] (0:Nat)).length/\v11.2=shK (nL [l] (0:Nat)) v11.1)/\(nL [l] (0:Nat)).length-v11.1<(nL [l] (0:Nat)).length-v7.1/\(some (0:Nat)=some (0:Nat)/\(↑v7.1:Int)+(1:Int)=(↑v11.1:Int)/\True)/\([v7.2]=[v11.2]/\True/\T=T)/\True))/\(decide ((↑v7.1:Int)<(↑(nL [nL [l] (0:Nat)] (0:Nat)).length:Int))=false->[v7.2]=[qe3 (nL [l] (0:Nat))]/\T=T/\True/\True))) (by kernel_rfl) ?_
 try simp only[z0,z1,z2,z3,z4,z5,z6,z7,z8,z9,z10,Int.reduceEq,z11,z12,z13,z14,z15,z16,z17,z18,z19,z20,z21,z22,z23,z24,z25,z26,z27,z28,z29,z30,Int.reduceLE,Int.reduceLT,z31,z32,z33,z34,qa1]
 try simp only[qa7,qa8,qb5,z31,z32,z2,z1]
 have hB:BIG=4000000000000000000:=rfl
 refine⟨(),0,Nat.zero_le _,⟨rfl,rfl⟩,λk hk=>⟨λhlt=>?_,λhge=>?_⟩⟩
 ·have h1:=w7z h k hk
  have h2:=q61 h hlt
  exact⟨hlt,hlt,⟨⟨by omega,h1.2⟩,h2⟩,qb8 (by have:=h.1; omega) (by have:=h.1; omega),k+1,by omega,by omega,(wl7 l k hlt).symm,by omega⟩
 ·obtain rfl:k=l.length:=by omega
  simp only[List.take_length,decide_eq_true_eq,decide_eq_false_iff_not,Int.not_lt]
  have sh0:shK l 0=l:=by unfold shK; split <;> simp
  refine⟨(),(0,l),⟨Nat.zero_le _,sh0.symm⟩,⟨rfl,rfl⟩,?_⟩
  rintro⟨k,r⟩ ⟨h1,h2⟩
  dsimp only at h1 h2 ⊢
  subst h2
  have hl:=ww2 l k h1
  refine⟨λhlt=>⟨λhg=>?_,λhg=>?_⟩,λhge=>?_⟩
  ·have h3:=q61 h hlt
   have h4:=qr2 (g:=gcdL l) h3
   rw[x3j l k hlt]
   refine⟨by omega,by omega,by omega,qb8 (by omega) (by omega),by omega,by omega,qb8 (by have:=h.1; omega) (by have:=h.1; omega),(k+1,shK l (k+1)),⟨by dsimp only; omega,rfl⟩,by dsimp only; omega,by dsimp only; omega,xi1 l k hlt hg⟩
  ·refine⟨qb8 (by have:=h.1; omega) (by have:=h.1; omega),(k+1,shK l (k+1)),⟨by dsimp only; omega,rfl⟩,by dsimp only; omega,by dsimp only; omega,?_⟩
   unfold shK
   rw[if_neg (by omega),if_neg (by omega)]
  ·obtain rfl:k=l.length:=by omega
   unfold shK qe3
   split
   ·simp
   ·rfl
end Go.Proofs.YtmijnbjlhnpokaaGreat
