/- The errors of masks, readings and pixels: contracts by the engine. No condition. -/
import Derived.Test.YtnchigbbjajiiaaGreatV0
set_option linter.unusedVariables false
set_option linter.unusedSimpArgs false
namespace Go.Proofs.YtnchigbbjajiiaaGreat
open Go Go.RowKit Eng
def gcdI (a b:Int):Int:=(Int.gcd a b:Int)
abbrev qd8 (K x:Int):Prop:=-K<=x/\x<=K
def BIG:Int:=4000000000000000000
theorem q7d (a b:Int):0<=gcdI a b:=zb3 _
theorem xk3 (a b:Int):gcdI (max a (0-a)) (max b (0-b))=gcdI a b:=by
 unfold gcdI
 have h1:(max a (0-a)).natAbs=a.natAbs:=ow
 have h2:(max b (0-b)).natAbs=b.natAbs:=ow
 show((Nat.gcd (max a (0-a)).natAbs (max b (0-b)).natAbs:Nat):Int)=(Nat.gcd a.natAbs b.natAbs:Nat)
 grind
theorem w78 {a b:Int} (ha:0<=a) (hb:0<=b):gcdI b (a.tmod b)=gcdI a b:=by
 unfold gcdI
 obtain⟨m,rfl⟩:=zdq ha
 obtain⟨n,rfl⟩:=zdq hb
 rw[zcp ha]
 have e:((m:Int) % (n:Int))=((m % n:Nat):Int):=rfl
 rw[e,zdr,zdr]
 grind [Nat.gcd_comm,Nat.gcd_rec]
theorem w79 (a:Int) (h:0<=a):gcdI a 0=a:=by
 grind [gcdI,Int.gcd_zero_right]
theorem wm3 {a:Int} (b:Int) (h:a≠0):gcdI a b<=a.natAbs:=by
 unfold gcdI
 exact Int.ofNat_le.2 (Nat.le_of_dvd ow (zcr _ _))
theorem wc4 (a:Int) {b:Int} (h:b≠0):gcdI a b<=b.natAbs:=by
 unfold gcdI
 exact Int.ofNat_le.2 (Nat.le_of_dvd ow (zc1 _ _))
theorem w8a {a b:Int} (ha:-BIG<=a/\a<=BIG) (hb:-BIG<=b/\b<=BIG):0<=gcdI a b/\gcdI a b<=BIG:=by
 refine⟨q7d _ _,?_⟩
 unfold BIG at *
 by_cases h:a=0
 ·by_cases k:b=0
  ·subst h k; decide
  ·have:=wc4 a k; omega
 ·have:=wm3 b h; omega
theorem qu6 {a b:Int} (h:a≠0\/b≠0):0<gcdI a b:=by
 grind [gcdI,Int.gcd,Int.gcd_pos_iff]
theorem qr4 {a g K:Int} (hk:-K<=a/\a<=K):-K<=a.tdiv g/\a.tdiv g<=K:=by
 have h1:(a.tdiv g).natAbs<=a.natAbs:=by
  rw[Int.natAbs_tdiv]; exact Nat.div_le_self _ _
 omega
def xk4:qa8:=qe4 true none [qb9,qb9] [qb9] (λx=>(-BIG<=x.1/\x.1<=BIG)/\-BIG<=x.2.1/\x.2.1<=BIG) (λx=>(gcdI x.1 x.2.1,()))
def w8b (a b:Int):Nat->Option Inv
 | 0=>some (Inv.of [0,1] 0 (λs:Int × Int=>[(0,.lit (.int .i64 s.1)),(1,.lit (.int .i64 s.2))]) (λ_=>[]) (λs=>(0<=s.1/\s.1<=BIG)/\(0<=s.2/\s.2<=BIG)/\gcdI s.1 s.2=gcdI a b) (λs=>s.2.toNat))
 | _=>none
theorem qs0:Meets Tryz.prog 106 xk4:=by
 refine mts (SpecsOk.nil _) Tryz.func106 (λx=>w8b x.1 x.2.1) ?_
 rintro⟨a,b,⟨⟩⟩ h
 revert a b
 intro(a:Int) (b:Int) (h:(-BIG<=a/\a<=BIG)/\-BIG<=b/\b<=BIG)
 refine vcs (fits .i64 ((0:Int)-a)/\fits .i64 ((0:Int)-b)/\∃(v0:Unit),∃(v1:Int × Int),(((0:Int)<=v1.1/\v1.1<=BIG)/\((0:Int)<=v1.2/\v1.2<=BIG)/\gcdI v1.1 v1.2=gcdI a b)/\((max2 true a ((0:Int)-a)=v1.1/\max2 true b ((0:Int)-b)=v1.2/\True)/\True)/\∀(v2:Int × Int),((0:Int)<=v2.1/\v2.1<=BIG)/\((0:Int)<=v2.2/\v2.2<=BIG)/\gcdI v2.1 v2.2=gcdI a b->((v2.2 != (0:Int))=true->v2.2≠(0:Int)/\∃(v5:Int × Int),(((0:Int)<=v5.1/\v5.1<=BIG)/\((0:Int)<=v5.2/\v5.2<=BIG)/\gcdI v5.1 v5.2=gcdI a b)/\v5.2.toNat<v2.2.toNat/\(v2.2=v5.1/\Int.tmod v2.1 v2.2=v5.2/\True)/\True)/\((v2.2 != (0:Int))=false->v2.1=gcdI a b)) ?_
 have hB:BIG=4000000000000000000:=rfl
 refine⟨qa7,qa7,(),(max a (0-a),max b (0-b)),⟨⟨ow,ow⟩,⟨ow,ow⟩,xk3 a b⟩,⟨rfl,rfl⟩,?_⟩
 rintro⟨x,y⟩ ⟨⟨h1,h2⟩,⟨h3,h4⟩,h5⟩
 dsimp only at h1 h2 h3 h4 h5 ⊢
 refine⟨λhy=>⟨hy,(y,x.tmod y),⟨⟨h3,h4⟩,?_,?_⟩,?_,rfl,rfl⟩,λhy=>?_⟩
 ·rw[zcp h1]
  have k1:=Int.emod_nonneg x hy
  have k2:=Int.emod_lt_of_pos x (show 0<y by omega)
  omega
 ·grind [w78,trans]
 ·rw[zcp h1]
  have k1:=Int.emod_nonneg x hy
  have k2:=Int.emod_lt_of_pos x (show 0<y by omega)
  omega
 grind [w79]
def ofR (n d:Int):Int × Int:=if d<0 then(n.tdiv (0-gcdI n d),d.tdiv (0-gcdI n d)) else(n.tdiv (gcdI n d),d.tdiv (gcdI n d))
def sOf:qa8:=qe4 true none [qb9,qb9] [qy8] (λx=>(-BIG<=x.1/\x.1<=BIG)/\(-BIG<=x.2.1/\x.2.1<=BIG)/\x.2.1≠0) (λx=>(ofR x.1 x.2.1,()))
theorem wc5:Meets Tryz.prog 61 sOf:=by
 refine mts (SpecsOk.cons qs0 (SpecsOk.nil _)) Tryz.func61 (λx=>λ_=>none) ?_
 rintro⟨a,b,⟨⟩⟩ h
 revert a b
 intro(a:Int) (b:Int) (h:(-BIG<=a/\a<=BIG)/\(-BIG<=b/\b<=BIG)/\b≠0)
 refine vcs (let Q0:=gcdI a b; (((-4000000000000000000:Int)<=a/\a<=BIG)/\(-4000000000000000000:Int)<=b/\b<=BIG)/\(decide (b<(0:Int))=true->fits .i64 ((0:Int)-gcdI a b)/\(0:Int)-gcdI a b≠(0:Int)/\fits .i64 (Int.tdiv a ((0:Int)-gcdI a b))/\(0:Int)-gcdI a b≠(0:Int)/\fits .i64 (Int.tdiv b ((0:Int)-gcdI a b))/\Int.tdiv a ((0:Int)-gcdI a b)=(ofR a b).1/\Int.tdiv b ((0:Int)-gcdI a b)=(ofR a b).2/\True)/\(decide (b<(0:Int))=false->gcdI a b≠(0:Int)/\fits .i64 (Int.tdiv a Q0)/\gcdI a b≠(0:Int)/\fits .i64 (Int.tdiv b Q0)/\Int.tdiv a Q0=(ofR a b).1/\Int.tdiv b Q0=(ofR a b).2/\True)) ?_
 have hB:BIG=4000000000000000000:=rfl
 have hg:=w8a h.1 h.2.1
 have hp:=qu6 (a:=a) (b:=b) (.inr h.2.2)
 refine⟨⟨h.1,h.2.1⟩,λhb=>?_,λhb=>?_⟩
 ·have h1:=qr4 (g:=0-gcdI a b) h.1
  have h2:=qr4 (g:=0-gcdI a b) h.2.1
  have e:ofR a b=(a.tdiv (0-gcdI a b),b.tdiv (0-gcdI a b)):=by simp_all [ofR,if_pos]
  rw[e]
  exact⟨qa7,ow,qa7,ow,qa7,rfl,rfl⟩
 ·have h1:=qr4 (g:=gcdI a b) h.1
  have h2:=qr4 (g:=gcdI a b) h.2.1
  have e:ofR a b=(a.tdiv (gcdI a b),b.tdiv (gcdI a b)):=by simp_all [ofR,if_neg]
  rw[e]
  exact⟨ow,qa7,ow,qa7,rfl,rfl⟩
def gcdL (l:List Int):Int:=l.foldl gcdI 0
def qe2 (l:List Int):List Int:=if 1<gcdL l then l.map λx=>x.tdiv (gcdL l) else l
def wh6 (l:List Int):Prop:=l.length<=1000/\∀x∈l,-BIG<=x/\x<=BIG
def xv8:MSpec:=q4e (q0m []) false false 0 3 (.int .i64) (λrows _=>wh6 (nL rows 0)) (λ_ _=>.tup .nil) (λrows _=>[qe2 (nL rows 0)])
def shK (l:List Int) (k:Nat):List Int:=if 1<gcdL l then(l.take k).map (λx=>x.tdiv (gcdL l))++l.drop k else l
def x1f (T:q2v) (l:List Int):Nat->Option Inv
 | 0=>some (Inv.of [0,6,2,8] 1 (λk:Nat=>[(0,.msl 0 (some 0)),(6,.msl 0 (some 0)),(2,.lit (.int .i64 (gcdL (l.take k)))),(8,.lit (.int .i64 k))]) (λ_=>[.mat 0 3 (.int .i64) [l] (some []) (some T)]) (λk=>k<=l.length) (λk=>l.length-k))
 | 1=>some (Inv.of [0,18] 1 (λs:Nat × List Int=>[(0,.msl 0 (some 0)),(18,.lit (.int .i64 s.1))]) (λs=>[.mat 0 3 (.int .i64) [s.2] (some []) (some T)]) (λs=>s.1<=l.length/\s.2=shK l s.1) (λs=>l.length-s.1))
 | _=>none
theorem wm4 (l:List Int) (k:Nat) (hk:k<l.length):gcdL (l.take (k+1))=gcdI (gcdL (l.take k)) (nI l k):=by
 rw[zco,zak hk]
 grind [gcdL,Option.toList_some,qf2]
theorem q7e {l:List Int} (h:wh6 l) {k:Nat} (hk:k<l.length):qd8 BIG (nI l k):=by
 rw[qf2 l k hk]
 exact h.2 _ (zbd hk)
theorem w8c {l:List Int} (h:wh6 l):∀k,k<=l.length->0<=gcdL (l.take k)/\gcdL (l.take k)<=BIG
 | 0,_=>by simp[gcdL,BIG]
 | k+1,hk=>by
  rw[wm4 l k hk]
  have h1:=w8c h k ow
  refine w8a ⟨?_,h1.2⟩ (q7e h hk)
  omega
theorem ww5 (l:List Int) (k:Nat) (hk:k<=l.length):(shK l k).length=l.length:=by
 grind [shK]
theorem x44 (l:List Int) (k:Nat) (hk:k<l.length):nI (shK l k) k=nI l k:=by
 grind [shK,nI,qe5,List.getElem?_append_right]
theorem xk5 (l:List Int) (k:Nat) (hk:k<l.length) (hg:1<gcdL l):(shK l k).set k ((nI l k).tdiv (gcdL l))=shK l (k+1):=by
 have h1:=ww5 l k ow
 have h2:=ww5 l (k+1) ow
 apply zbo (by grind)
 intro i hi _
 rw[zaz,h1] at hi
 rw[zcc]
 unfold shK
 simp only[if_pos hg]
 by_cases e:k=i
 ·subst e
  rw[zap rfl,zdn (by grind),qf2 l k hk]
  simp
 grind
theorem q2l:qo6 Tryz.prog 204 xv8:=by
 refine q0q (snd (SpecsOk.cons qs0 (SpecsOk.nil _))) Tryz.func204 rfl rfl (ql4 []) (λT rows _=>x1f T (nL rows 0)) (λ_ _ _=>by kernel_rfl) dc ?_ rfl
 rintro T rows ⟨⟩ h hone
 obtain⟨l,rfl⟩:∃l:List Int,rows=[l]:=by
  have h1:=hone rfl
  match rows,h1 with
  | [l],_=>simp
 have h:wh6 l:=h
 refine vcs (∃(v0:Unit),∃(v1:Nat),Nat.le v1 (nL [l] (0:Nat)).length/\((some (0:Nat)=some (0:Nat)/\some (0:Nat)=some (0:Nat)/\(0:Int)=gcdL (List.take v1 (nL [l] (0:Nat)))/\(0:Int)=(↑v1:Int)/\True)/\([l]=[nL [l] (0:Nat)]/\True/\T=T)/\True)/\∀(v2:Nat),Nat.le v2 (nL [l] (0:Nat)).length->(decide ((↑v2:Int)<(↑(nL [l] (0:Nat)).length:Int))=true->((0:Int)<=(↑v2:Int)/\(↑v2:Int)<(↑(nL [nL [l] (0:Nat)] (0:Nat)).length:Int))/\v2<(nL [nL [l] (0:Nat)] (0:Nat)).length/\(((-4000000000000000000:Int)<=gcdL (List.take v2 (nL [l] (0:Nat)))/\gcdL (List.take v2 (nL [l] (0:Nat)))<=BIG)/\(-4000000000000000000:Int)<=nI (nL [nL [l] (0:Nat)] (0:Nat)) v2/\nI (nL [nL [l] (0:Nat)] (0:Nat)) v2<=BIG)/\fits .i64 ((↑v2:Int)+(1:Int))/\∃(v5:Nat),Nat.le v5 (nL [l] (0:Nat)).length/\(nL [l] (0:Nat)).length-v5<(nL [l] (0:Nat)).length-v2/\(some (0:Nat)=some (0:Nat)/\some (0:Nat)=some (0:Nat)/\gcdI (gcdL (List.take v2 (nL [l] (0:Nat)))) (nI (nL [nL [l] (0:Nat)] (0:Nat)) v2)=gcdL (List.take v5 (nL [l] (0:Nat)))/\(↑v2:Int)+(1:Int)=(↑v5:Int)/\True)/\([nL [l] (0:Nat)]=[nL [l] (0:Nat)]/\True/\T=T)/\True)/\(decide ((↑v2:Int)<(↑(nL [l] (0:Nat)).length:Int))=false->∃(v5:Unit),∃(v6:Nat × List Int),(v6.1<=(nL [l] (0:Nat)).length/\v6.2=shK (nL [l] (0:Nat)) v6.1)/\((some (0:Nat)=some (0:Nat)/\(0:Int)=(↑v6.1:Int)/\True)/\([nL [l] (0:Nat)]=[v6.2]/\True/\T=T)/\True)/\∀(v7:Nat × List Int),v7.1<=(nL [l] (0:Nat)).length/\v7.2=shK (nL [l] (0:Nat)) v7.1->(decide ((↑v7.1:Int)<(↑(nL [nL [l] (0:Nat)] (0:Nat)).length:Int))=true->(decide ((1:Int)<gcdL (List.take v2 (nL [l] (0:Nat))))=true->((0:Int)<=(↑v7.1:Int)/\(↑v7.1:Int)<(↑(nL [v7.2] (0:Nat)).length:Int))/\(↑v7.1:Int).toNat<(nL [v7.2] (0:Nat)).length/\gcdL (List.take v2 (nL [l] (0:Nat)))≠(0:Int)/\fits .i64 (Int.tdiv (nI (nL [v7.2] (0:Nat)) (↑v7.1:Int).toNat) (gcdL (List.take v2 (nL [l] (0:Nat)))))/\((0:Int)<=(↑v7.1:Int)/\(↑v7.1:Int)<(↑(nL [v7.2] (0:Nat)).length:Int))/\(↑v7.1:Int).toNat<(nL [v7.2] (0:Nat)).length/\fits .i64 ((↑v7.1:Int)+(1:Int))/\∃(v11:Nat × List Int),(v11.1<=(nL [l] (0:Nat)).length/\v11.2=shK (nL [l] (0:Nat)) v11.1)/\(nL [l] (0:Nat)).length-v11.1<(nL [l] (0:Nat)).length-v7.1/\(some (0:Nat)=some (0:Nat)/\(↑v7.1:Int)+(1:Int)=(↑v11.1:Int)/\True)/\(List.set [v7.2] (0:Nat) (List.set (nL [v7.2] (0:Nat)) (↑v7.1:Int).toNat (Int.tdiv (nI (nL [v7.2] (0:Nat)) (↑v7.1:Int).toNat) (gcdL (List.take v2 (nL [l] (0:Nat))))))=[v11.2]/\True/\T=T)/\True)/\(decide ((1:Int)<gcdL (List.take v2 (nL [l] (0:Nat))))=false->fits .i64 ((↑v7.1:Int)+(1:Int))/\∃(v11:Nat × List Int),(v11.1<=(nL [l] (0:Nat)).length/\v11.2=shK (nL [l] (0:Nat)) v11.1)/\(nL [l] (0:Nat)).length-v11.1<(nL [l] (0:Nat)).length-v7.1/\(some (0:Nat)=some (0:Nat)/\(↑v7.1:Int)+(1:Int)=(↑v11.1:Int)/\True)/\([v7.2]=[v11.2]/\True/\T=T)/\True))/\(decide ((↑v7.1:Int)<(↑(nL [nL [l] (0:Nat)] (0:Nat)).length:Int))=false->[v7.2]=[qe2 (nL [l] (0:Nat))]/\T=T/\True/\True))) ?_
 have hB:BIG=4000000000000000000:=rfl
 refine⟨(),0,zae _,⟨rfl,rfl⟩,λk hk=>⟨λhlt=>?_,λhge=>?_⟩⟩
 ·have h1:=w8c h k hk
  have h2:=q7e h hlt
  exact⟨hlt,hlt,⟨⟨ow,h1.2⟩,h2⟩,qa7 ow (by have:=h.1; omega),k+1,ow,ow,(wm4 l k hlt).symm,ow⟩
 ·obtain rfl:k=l.length:=ow
  simp only[List.take_length,decide_eq_true_eq,decide_eq_false_iff_not,Int.not_lt]
  have sh0:shK l 0=l:=by grind [shK]
  refine⟨(),(0,l),⟨zae _,sh0.symm⟩,⟨rfl,rfl⟩,?_⟩
  rintro⟨k,r⟩ ⟨h1,h2⟩
  dsimp only at h1 h2 ⊢
  subst h2
  have hl:=ww5 l k h1
  refine⟨λhlt=>⟨λhg=>?_,λhg=>?_⟩,λhge=>?_⟩
  ·have h3:=q7e h hlt
   have h4:=qr4 (g:=gcdL l) h3
   rw[x44 l k hlt]
   refine⟨ow,ow,ow,qa7,ow,ow,qa7 ow (by have:=h.1; omega),(k+1,shK l (k+1)),⟨ow,rfl⟩,ow,by rfl,xk5 l k hlt hg⟩
  ·refine⟨qa7 ow (by have:=h.1; omega),(k+1,shK l (k+1)),⟨ow,rfl⟩,ow,by rfl,?_⟩
   simp_all [shK,if_neg]
  ·obtain rfl:k=l.length:=ow
   grind [shK,qe2]
def x45:Int:=2000000000000000000
def q1 (r b:List Int) (c:Nat):Int:=(nI b c).tdiv (gcdI (nI r c) (nI b c))
def q2 (r b:List Int) (c:Nat):Int:=(nI r c).tdiv (gcdI (nI r c) (nI b c))
def x3h (r b:List Int) (c i:Nat):Int:=(nI r i)*q1 r b c-(nI b i)*q2 r b c
def q5g (r b:List Int) (c:Nat):List Int:=(List.range r.length).map (x3h r b c)
def qw3 (r b:List Int) (c:Nat):List Int:=qe2 (q5g r b c)
structure wm5 (r b:List Int) (c:Nat):Prop where
 at_:c<r.length
 len:b.length=r.length
 max:r.length<=1000
 ne:(nI b c)≠(0:Int)
 bdr:qd8 BIG (nI r c)
 bdb:qd8 BIG (nI b c)
 one:∀i,i<r.length->qd8 x45 ((nI r i)*q1 r b c)
 two:∀i,i<r.length->qd8 x45 ((nI b i)*q2 r b c)
def xv9:MSpec:=q4e (q0m [qd4,qb9]) false false 0 3 (.int .i64) (λrows x=>0<=x.2.1/\wm5 (nL rows 0) x.1 x.2.1.toNat) (λ_ _=>.tup .nil) (λrows x=>[qw3 (nL rows 0) x.1 x.2.1.toNat])
def clK (r b:List Int) (c k:Nat):List Int:=ovr (.int .i64) (x3h r b c) r k
def x1g (T:q2v) (r b:List Int) (c:Nat):Nat->Option Inv
 | 0=>some (Inv.of [0,23] 11 (λs:Nat × List Int=>[(0,.msl 0 (some 0)),(23,.lit (.int .i64 s.1))]) (λs=>[.mat 0 3 (.int .i64) [s.2] (some []) (some T),.dead,.dead,.dead,.dead,.dead,.dead,.dead,.dead,.dead,.dead]) (λs=>s.1<=r.length/\s.2=clK r b c s.1) (λs=>r.length-s.1))
 | _=>none
theorem q1c (r b:List Int) (c:Nat):(q5g r b c).length=r.length:=by simp[q5g]
theorem x1h (r b:List Int) (c k:Nat):(clK r b c k).length=r.length:=qy9 (.int .i64) _ r k
theorem x46 (r b:List Int) (c k:Nat) (hk:k<r.length):nI (clK r b c k) k=nI r k:=(q9h (.int .i64) _ r k k hk).trans (zai (zbf k))
theorem xk6 (r b:List Int) (c k:Nat):(clK r b c k).set k (x3h r b c k)=clK r b c (k+1):=q1b (.int .i64) _ r k
theorem x1i (r b:List Int) (c:Nat):clK r b c r.length=q5g r b c:=q7c (.int .i64) _ r _ (zad _)
theorem w4c {r b:List Int} {c:Nat} (h:wm5 r b c):wh6 (q5g r b c):=by
 refine⟨by rw[q1c]; exact h.max,λx hx=>?_⟩
 unfold q5g at hx
 obtain⟨i,hi,rfl⟩:=za4.1 hx
 have hi:=za2.1 hi
 have h1:=h.one i hi
 have h2:=h.two i hi
 grind [x3h,x45,BIG]
theorem ww6:qo6 Tryz.prog 190 xv9:=by
 refine q0q (x42 (SpecsOk.cons qs0 (SpecsOk.nil _)) (MutsOk.cons q2l MutsOk.nil)) Tryz.func190 rfl rfl (ql4 [qd4,qb9]) (λT rows x=>x1g T (nL rows 0) x.1 x.2.1.toNat) (λ_ _ _=>by kernel_rfl) dc ?_ rfl
 rintro T rows ⟨b,c,⟨⟩⟩ h hone
 revert b c
 intro(b:List Int) (c:Int) h
 obtain⟨r,rfl⟩:∃l:List Int,rows=[l]:=by
  have h1:=hone rfl
  match rows,h1 with
  | [l],_=>simp
 have h:0<=c/\wm5 r b c.toNat:=h
 obtain⟨j,rfl⟩:∃j:Nat,c=j:=⟨c.toNat,ow⟩
 refine vcs (let Q0:=MSpec.t xv8; ((0:Int)<=(↑j:Int)/\(↑j:Int)<(↑(nL [r] (0:Nat)).length:Int))/\(↑j:Int).toNat<(nL [r] (0:Nat)).length/\((0:Int)<=(↑j:Int)/\(↑j:Int)<(↑b.length:Int))/\(((-4000000000000000000:Int)<=nI (nL [r] (0:Nat)) (↑j:Int).toNat/\nI (nL [r] (0:Nat)) (↑j:Int).toNat<=BIG)/\(-4000000000000000000:Int)<=nI b (↑j:Int).toNat/\nI b (↑j:Int).toNat<=BIG)/\∃(v0:Unit),∃(v1:Nat × List Int),(v1.1<=(nL [r] (0:Nat)).length/\v1.2=clK (nL [r] (0:Nat)) b (↑j:Int).toNat v1.1)/\((some (0:Nat)=some (0:Nat)/\(0:Int)=(↑v1.1:Int)/\True)/\([r]=[v1.2]/\True/\T=T)/\True/\True/\True/\True/\True/\True/\True/\True/\True/\True/\True)/\∀(v2:Nat × List Int),v2.1<=(nL [r] (0:Nat)).length/\v2.2=clK (nL [r] (0:Nat)) b (↑j:Int).toNat v2.1->(decide ((↑v2.1:Int)<(↑(nL [r] (0:Nat)).length:Int))=true->((0:Int)<=(↑v2.1:Int)/\(↑v2.1:Int)<(↑(nL [v2.2] (0:Nat)).length:Int))/\(↑v2.1:Int).toNat<(nL [v2.2] (0:Nat)).length/\gcdI (nI (nL [r] (0:Nat)) (↑j:Int).toNat) (nI b (↑j:Int).toNat)≠(0:Int)/\fits .i64 (Int.tdiv (nI b (↑j:Int).toNat) (gcdI (nI (nL [r] (0:Nat)) (↑j:Int).toNat) (nI b (↑j:Int).toNat)))/\fits .i64 (nI (nL [v2.2] (0:Nat)) (↑v2.1:Int).toNat*Int.tdiv (nI b (↑j:Int).toNat) (gcdI (nI (nL [r] (0:Nat)) (↑j:Int).toNat) (nI b (↑j:Int).toNat)))/\((0:Int)<=(↑v2.1:Int)/\(↑v2.1:Int)<(↑b.length:Int))/\gcdI (nI (nL [r] (0:Nat)) (↑j:Int).toNat) (nI b (↑j:Int).toNat)≠(0:Int)/\fits .i64 (Int.tdiv (nI (nL [r] (0:Nat)) (↑j:Int).toNat) (gcdI (nI (nL [r] (0:Nat)) (↑j:Int).toNat) (nI b (↑j:Int).toNat)))/\fits .i64 (nI b (↑v2.1:Int).toNat*Int.tdiv (nI (nL [r] (0:Nat)) (↑j:Int).toNat) (gcdI (nI (nL [r] (0:Nat)) (↑j:Int).toNat) (nI b (↑j:Int).toNat)))/\fits .i64 (nI (nL [v2.2] (0:Nat)) (↑v2.1:Int).toNat*Int.tdiv (nI b (↑j:Int).toNat) (gcdI (nI (nL [r] (0:Nat)) (↑j:Int).toNat) (nI b (↑j:Int).toNat))-nI b (↑v2.1:Int).toNat*Int.tdiv (nI (nL [r] (0:Nat)) (↑j:Int).toNat) (gcdI (nI (nL [r] (0:Nat)) (↑j:Int).toNat) (nI b (↑j:Int).toNat)))/\((0:Int)<=(↑v2.1:Int)/\(↑v2.1:Int)<(↑(nL [v2.2] (0:Nat)).length:Int))/\(↑v2.1:Int).toNat<(nL [v2.2] (0:Nat)).length/\fits .i64 ((↑v2.1:Int)+(1:Int))/\∃(v5:Nat × List Int),(v5.1<=(nL [r] (0:Nat)).length/\v5.2=clK (nL [r] (0:Nat)) b (↑j:Int).toNat v5.1)/\(nL [r] (0:Nat)).length-v5.1<(nL [r] (0:Nat)).length-v2.1/\(some (0:Nat)=some (0:Nat)/\(↑v2.1:Int)+(1:Int)=(↑v5.1:Int)/\True)/\(List.set [v2.2] (0:Nat) (List.set (nL [v2.2] (0:Nat)) (↑v2.1:Int).toNat (nI (nL [v2.2] (0:Nat)) (↑v2.1:Int).toNat*Int.tdiv (nI b (↑j:Int).toNat) (gcdI (nI (nL [r] (0:Nat)) (↑j:Int).toNat) (nI b (↑j:Int).toNat))-nI b (↑v2.1:Int).toNat*Int.tdiv (nI (nL [r] (0:Nat)) (↑j:Int).toNat) (gcdI (nI (nL [r] (0:Nat)) (↑j:Int).toNat) (nI b (↑j:Int).toNat))))=[v5.2]/\True/\T=T)/\True/\True/\True/\True/\True/\True/\True/\True/\True/\True/\True)/\(decide ((↑v2.1:Int)<(↑(nL [r] (0:Nat)).length:Int))=false->wh6 (nL [qe5 (Ty.list Q0) [v2.2] (0:Nat)] (0:Nat))/\List.set [v2.2] (0:Nat) (qe5 (Ty.list Q0) [qe2 (nL [qe5 (Ty.list Q0) [v2.2] (0:Nat)] (0:Nat))] (0:Nat))=[qw3 (nL [r] (0:Nat)) b (↑j:Int).toNat]/\T=T/\True/\True)) ?_
 obtain⟨_,h⟩:=h
 rw[za6] at h
 have hB:BIG=4000000000000000000:=rfl
 have hB2:x45=2000000000000000000:=rfl
 have hl:=h.len
 have hj:=h.at_
 have hmx:=h.max
 refine⟨hj,hj,ow,⟨by rw[<- hB]; exact h.bdr,by rw[<- hB]; exact h.bdb⟩,(),(0,r),⟨zae _,(q3j (.int .i64) _ r).symm⟩,⟨rfl,rfl⟩,?_⟩
 rintro⟨k,l⟩ ⟨h1,h2⟩
 dsimp only at h1 h2 ⊢
 subst h2
 have hkl:=x1h r b j k
 refine⟨λhlt=>?_,λhge=>?_⟩
 ·have hg:=qu6 (a:=nI r j) (b:=nI b j) (.inr h.ne)
  have k1:=qr4 (g:=gcdI (nI r j) (nI b j)) h.bdr
  have k2:=qr4 (g:=gcdI (nI r j) (nI b j)) h.bdb
  have k3:=h.one k hlt
  have k4:=h.two k hlt
  rw[x46 r b j k hlt]
  unfold q1 at k3
  unfold q2 at k4
  exact⟨ow,ow,ow,qa7,qa7,ow,ow,qa7,qa7,qa7,ow,ow,qa7,(k+1,clK r b j (k+1)),⟨ow,rfl⟩,ow,by rfl,xk6 r b j k⟩
 ·obtain rfl:k=r.length:=ow
  rw[x1i]
  exact⟨w4c h,rfl⟩
def ixT (t:Ty) (f:t.den->Bool) (l:List t.den):Int:=if l.any f then(l.findIdx f:Int) else -1
theorem q7f (t:Ty) (f:t.den->Bool) (l:List t.den) (k:Nat) (hk:k<l.length) (h:∀i,i<k->f (qe5 t l i)=false) (hf:f (qe5 t l k)=true):ixT t f l=k:=by
 have hk':f l[k]=true:=by grind [qo1]
 unfold ixT
 rw[zap (zcd.2 ⟨_,zbd hk,hk'⟩)]
 grind [List.findIdx_eq,qo1]
theorem q1d (t:Ty) (f:t.den->Bool) (l:List t.den) (h:∀i,i<l.length->f (qe5 t l i)=false):ixT t f l=-1:=by
 unfold ixT
 rw[zai]
 intro he
 obtain⟨x,hx,hf⟩:=zcd.1 he
 obtain⟨i,hi,rfl⟩:=zbg hx
 grind [qo1]
theorem qs6 (t:Ty) (f:t.den->Bool) (l:List t.den):decide (0<=ixT t f l)=l.any f:=by
 grind [ixT]
theorem w1p (t:Ty) (f:t.den->Bool) (l:List t.den):ixT t f l<l.length/\-1<=ixT t f l:=by
 grind [ixT,List.findIdx_lt_length,List.any_eq_true]
def x47 (t:Ty) (l:List t.den) (f:t.den->Bool):Nat->Option Inv
 | 0=>some (Inv.of [8] 0 (λk:Nat=>[(8,.lit (.int .i64 k))]) (λ_=>[]) (λk=>k<=l.length/\∀i,i<k->f (qe5 t l i)=false) (λk=>l.length-k))
 | _=>none
abbrev ym5 (fs:List (Nat × qa8)):qa8:=hspec fs true none [.d (.list (.list (.int .i64))),.fn [.list (.int .i64)] .bool] [qb9] (λx=>x.1.length<=1000000/\∀i,i<x.1.length->x.2.1.1 (qe5 (.list (.int .i64)) x.1 i,())) (λx=>(ixT (.list (.int .i64)) (λe=>x.2.1.2 (e,())) x.1,()))
theorem wm6 {fs:List (Nat × qa8)} (hfs:SpecsOk Tryz.prog fs):Meets Tryz.prog 68 (ym5 fs):=by
 refine qi4 hfs (snd (SpecsOk.nil _)) Tryz.func68 rfl rfl (λx=>x47 (.list (.int .i64)) x.1 (λe=>x.2.1.2 (e,()))) (λ_=>by kernel_rfl) dc ?_
 rintro⟨l,⟨p,f⟩,⟨⟩⟩ h
 revert l p f
 intro(l:List (Ty.den (.list (.int .i64)))) (p:qa3 [.list (.int .i64)]->Prop) (f:qa3 [.list (.int .i64)]->Bool) (h:l.length<=1000000/\∀i,i<l.length->p (qe5 (.list (.int .i64)) l i,()))
 refine vcs (∃(v0:Unit),∃(v1:Nat),(v1<=l.length/\∀(v2:Nat),Nat.le (Nat.succ v2) v1->f (nL l v2,())=false)/\(((0:Int)=(↑v1:Int)/\True)/\True)/\∀(v2:Nat),(v2<=l.length/\∀(v4:Nat),Nat.le (Nat.succ v4) v2->f (nL l v4,())=false)->(decide ((↑v2:Int)<(↑l.length:Int))=true->((0:Int)<=(↑v2:Int)/\(↑v2:Int)<(↑l.length:Int))/\p (nL l v2,())/\(f (nL l v2,())=true->(↑v2:Int)=ixT (Ty.list (Ty.int .i64)) (λ(v6:List Int)=>f (v6,())) l)/\(f (nL l v2,())=false->fits .i64 ((↑v2:Int)+(1:Int))/\∃(v6:Nat),(v6<=l.length/\∀(v7:Nat),Nat.le (Nat.succ v7) v6->f (nL l v7,())=false)/\l.length-v6<l.length-v2/\((↑v2:Int)+(1:Int)=(↑v6:Int)/\True)/\True))/\(decide ((↑v2:Int)<(↑l.length:Int))=false->(-1:Int)=ixT (Ty.list (Ty.int .i64)) (λ(v5:List Int)=>f (v5,())) l)) ?_
 obtain⟨hl,hp⟩:=h
 refine⟨(),0,⟨zae _,λi hi=>absurd hi ow⟩,rfl,λk ⟨hk,hall⟩=>?_⟩
 refine⟨λhlt=>⟨hlt,hp k hlt,λhf=>(q7f (.list (.int .i64)) (λe=>f (e,())) l k hlt hall hf).symm,λhf=>⟨qa7,k+1,⟨ow,λi hi=>?_⟩,ow,ow⟩⟩,λhge=>(q1d (.list (.int .i64)) (λe=>f (e,())) l λi hi=>hall i ow).symm⟩
 grind
abbrev ym6 (fs:List (Nat × qa8)):qa8:=hspec fs true none [.d (.list (.int .i64)),.fn [.int .i64] .bool] [qb9] (λx=>x.1.length<=1000000/\∀i,i<x.1.length->x.2.1.1 (qe5 (.int .i64) x.1 i,())) (λx=>(ixT (.int .i64) (λe=>x.2.1.2 (e,())) x.1,()))
theorem wm7 {fs:List (Nat × qa8)} (hfs:SpecsOk Tryz.prog fs):Meets Tryz.prog 115 (ym6 fs):=by
 refine qi4 hfs (snd (SpecsOk.nil _)) Tryz.func115 rfl rfl (λx=>x47 (.int .i64) x.1 (λe=>x.2.1.2 (e,()))) (λ_=>by kernel_rfl) dc ?_
 rintro⟨l,⟨p,f⟩,⟨⟩⟩ h
 revert l p f
 intro(l:List (Ty.den (.int .i64))) (p:qa3 [.int .i64]->Prop) (f:qa3 [.int .i64]->Bool) (h:l.length<=1000000/\∀i,i<l.length->p (qe5 (.int .i64) l i,()))
 refine vcs (∃(v0:Unit),∃(v1:Nat),(v1<=l.length/\∀(v2:Nat),Nat.le (Nat.succ v2) v1->f (nI l v2,())=false)/\(((0:Int)=(↑v1:Int)/\True)/\True)/\∀(v2:Nat),(v2<=l.length/\∀(v4:Nat),Nat.le (Nat.succ v4) v2->f (nI l v4,())=false)->(decide ((↑v2:Int)<(↑l.length:Int))=true->((0:Int)<=(↑v2:Int)/\(↑v2:Int)<(↑l.length:Int))/\p (nI l v2,())/\(f (nI l v2,())=true->(↑v2:Int)=ixT (Ty.int .i64) (λ(v6:Int)=>f (v6,())) l)/\(f (nI l v2,())=false->fits .i64 ((↑v2:Int)+(1:Int))/\∃(v6:Nat),(v6<=l.length/\∀(v7:Nat),Nat.le (Nat.succ v7) v6->f (nI l v7,())=false)/\l.length-v6<l.length-v2/\((↑v2:Int)+(1:Int)=(↑v6:Int)/\True)/\True))/\(decide ((↑v2:Int)<(↑l.length:Int))=false->(-1:Int)=ixT (Ty.int .i64) (λ(v5:Int)=>f (v5,())) l)) ?_
 obtain⟨hl,hp⟩:=h
 refine⟨(),0,⟨zae _,λi hi=>absurd hi ow⟩,rfl,λk ⟨hk,hall⟩=>?_⟩
 refine⟨λhlt=>⟨hlt,hp k hlt,λhf=>(q7f (.int .i64) (λe=>f (e,())) l k hlt hall hf).symm,λhf=>⟨qa7,k+1,⟨ow,λi hi=>?_⟩,ow,ow⟩⟩,λhge=>(q1d (.int .i64) (λe=>f (e,())) l λi hi=>hall i ow).symm⟩
 grind
abbrev ym7 (fs:List (Nat × qa8)):qa8:=hspec fs true none [.d (.list (.prod (.int .i64) (.int .i64))),.fn [.prod (.int .i64) (.int .i64)] .bool] [qb9] (λx=>x.1.length<=1000000/\∀i,i<x.1.length->x.2.1.1 (qe5 (.prod (.int .i64) (.int .i64)) x.1 i,())) (λx=>(ixT (.prod (.int .i64) (.int .i64)) (λe=>x.2.1.2 (e,())) x.1,()))
theorem w8d {fs:List (Nat × qa8)} (hfs:SpecsOk Tryz.prog fs):Meets Tryz.prog 265 (ym7 fs):=by
 refine qi4 hfs (snd (SpecsOk.nil _)) Tryz.func265 rfl rfl (λx=>x47 (.prod (.int .i64) (.int .i64)) x.1 (λe=>x.2.1.2 (e,()))) (λ_=>by kernel_rfl) dc ?_
 rintro⟨l,⟨p,f⟩,⟨⟩⟩ h
 revert l p f
 intro(l:List (Ty.den (.prod (.int .i64) (.int .i64)))) (p:qa3 [.prod (.int .i64) (.int .i64)]->Prop) (f:qa3 [.prod (.int .i64) (.int .i64)]->Bool) (h:l.length<=1000000/\∀i,i<l.length->p (qe5 (.prod (.int .i64) (.int .i64)) l i,()))
 refine vcs (∃(v0:Unit),∃(v1:Nat),(v1<=l.length/\∀(v2:Nat),Nat.le (Nat.succ v2) v1->f (qe5 (Ty.prod (Ty.int .i64) (Ty.int .i64)) l v2,())=false)/\(((0:Int)=(↑v1:Int)/\True)/\True)/\∀(v2:Nat),(v2<=l.length/\∀(v4:Nat),Nat.le (Nat.succ v4) v2->f (qe5 (Ty.prod (Ty.int .i64) (Ty.int .i64)) l v4,())=false)->(decide ((↑v2:Int)<(↑l.length:Int))=true->((0:Int)<=(↑v2:Int)/\(↑v2:Int)<(↑l.length:Int))/\p (((qe5 (Ty.prod (Ty.int .i64) (Ty.int .i64)) l v2).1,(qe5 (Ty.prod (Ty.int .i64) (Ty.int .i64)) l v2).2),())/\(f (((qe5 (Ty.prod (Ty.int .i64) (Ty.int .i64)) l v2).1,(qe5 (Ty.prod (Ty.int .i64) (Ty.int .i64)) l v2).2),())=true->(↑v2:Int)=ixT (Ty.prod (Ty.int .i64) (Ty.int .i64)) (λ(v6:Int × Int)=>f (v6,())) l)/\(f (((qe5 (Ty.prod (Ty.int .i64) (Ty.int .i64)) l v2).1,(qe5 (Ty.prod (Ty.int .i64) (Ty.int .i64)) l v2).2),())=false->fits .i64 ((↑v2:Int)+(1:Int))/\∃(v6:Nat),(v6<=l.length/\∀(v7:Nat),Nat.le (Nat.succ v7) v6->f (qe5 (Ty.prod (Ty.int .i64) (Ty.int .i64)) l v7,())=false)/\l.length-v6<l.length-v2/\((↑v2:Int)+(1:Int)=(↑v6:Int)/\True)/\True))/\(decide ((↑v2:Int)<(↑l.length:Int))=false->(-1:Int)=ixT (Ty.prod (Ty.int .i64) (Ty.int .i64)) (λ(v5:Int × Int)=>f (v5,())) l)) ?_
 obtain⟨hl,hp⟩:=h
 refine⟨(),0,⟨zae _,λi hi=>absurd hi ow⟩,rfl,λk ⟨hk,hall⟩=>?_⟩
 refine⟨λhlt=>⟨hlt,hp k hlt,λhf=>(q7f (.prod (.int .i64) (.int .i64)) (λe=>f (e,())) l k hlt hall hf).symm,λhf=>⟨qa7,k+1,⟨ow,λi hi=>?_⟩,ow,ow⟩⟩,λhge=>(q1d (.prod (.int .i64) (.int .i64)) (λe=>f (e,())) l λi hi=>hall i ow).symm⟩
 grind
abbrev ym8 (fs:List (Nat × qa8)):qa8:=hspec fs true none [.d (.list (.list (.int .i64))),.fn [.list (.int .i64)] .bool] [.bool] (λx=>x.1.length<=1000000/\∀i,i<x.1.length->x.2.1.1 (qe5 (.list (.int .i64)) x.1 i,())) (λx=>(x.1.any λe=>x.2.1.2 (e,()),()))
theorem wm8 {fs:List (Nat × qa8)} (hfs:SpecsOk Tryz.prog fs):Meets Tryz.prog 88 (ym8 fs):=by
 refine qi4 hfs (snd (SpecsOk.cons (wm6 (fs:=fs) hfs) (SpecsOk.nil _))) Tryz.func88 rfl rfl (λx=>λ_=>none) (λ_=>by kernel_rfl) dc ?_
 rintro⟨l,⟨p,f⟩,⟨⟩⟩ h
 revert l p f
 intro(l:List (Ty.den (.list (.int .i64)))) (p:qa3 [.list (.int .i64)]->Prop) (f:qa3 [.list (.int .i64)]->Bool) (h:l.length<=1000000/\∀i,i<l.length->p (qe5 (.list (.int .i64)) l i,()))
 refine vcs (∃(v0:qa3 [Ty.list (Ty.int .i64)]->Prop),∃(v1:qa3 [Ty.list (Ty.int .i64)]->Bool),([Ty.list (Ty.int .i64)]=[Ty.list (Ty.int .i64)]/\Ty.bool=Ty.bool/\p ≍ v0/\f ≍ v1)/\(l.length<=(1000000:Nat)/\∀(v2:Nat),v2<l.length->v0 (nL l v2,()))/\decide ((0:Int)<=ixT (Ty.list (Ty.int .i64)) (λ(v2:List Int)=>v1 (v2,())) l)=List.any l λ(v2:List Int)=>f (v2,())) ?_
 exact⟨p,f,⟨HEq.rfl,HEq.rfl⟩,h,qs6 (.list (.int .i64)) (λe=>f (e,())) l⟩
abbrev ym9 (fs:List (Nat × qa8)):qa8:=hspec fs true none [.d (.list (.int .i64)),.fn [.int .i64] .bool] [.bool] (λx=>x.1.length<=1000000/\∀i,i<x.1.length->x.2.1.1 (qe5 (.int .i64) x.1 i,())) (λx=>(x.1.any λe=>x.2.1.2 (e,()),()))
theorem qw4 {fs:List (Nat × qa8)} (hfs:SpecsOk Tryz.prog fs):Meets Tryz.prog 73 (ym9 fs):=by
 refine qi4 hfs (snd (SpecsOk.cons (wm7 (fs:=fs) hfs) (SpecsOk.nil _))) Tryz.func73 rfl rfl (λx=>λ_=>none) (λ_=>by kernel_rfl) dc ?_
 rintro⟨l,⟨p,f⟩,⟨⟩⟩ h
 revert l p f
 intro(l:List (Ty.den (.int .i64))) (p:qa3 [.int .i64]->Prop) (f:qa3 [.int .i64]->Bool) (h:l.length<=1000000/\∀i,i<l.length->p (qe5 (.int .i64) l i,()))
 refine vcs (∃(v0:qa3 [Ty.int .i64]->Prop),∃(v1:qa3 [Ty.int .i64]->Bool),([Ty.int .i64]=[Ty.int .i64]/\Ty.bool=Ty.bool/\p ≍ v0/\f ≍ v1)/\(l.length<=(1000000:Nat)/\∀(v2:Nat),v2<l.length->v0 (nI l v2,()))/\decide ((0:Int)<=ixT (Ty.int .i64) (λ(v2:Int)=>v1 (v2,())) l)=List.any l λ(v2:Int)=>f (v2,())) ?_
 exact⟨p,f,⟨HEq.rfl,HEq.rfl⟩,h,qs6 (.int .i64) (λe=>f (e,())) l⟩
abbrev yn0 (fs:List (Nat × qa8)):qa8:=hspec fs true none [.d (.list (.prod (.int .i64) (.int .i64))),.fn [.prod (.int .i64) (.int .i64)] .bool] [.bool] (λx=>x.1.length<=1000000/\∀i,i<x.1.length->x.2.1.1 (qe5 (.prod (.int .i64) (.int .i64)) x.1 i,())) (λx=>(x.1.any λe=>x.2.1.2 (e,()),()))
theorem w8e {fs:List (Nat × qa8)} (hfs:SpecsOk Tryz.prog fs):Meets Tryz.prog 213 (yn0 fs):=by
 refine qi4 hfs (snd (SpecsOk.cons (w8d (fs:=fs) hfs) (SpecsOk.nil _))) Tryz.func213 rfl rfl (λx=>λ_=>none) (λ_=>by kernel_rfl) dc ?_
 rintro⟨l,⟨p,f⟩,⟨⟩⟩ h
 revert l p f
 intro(l:List (Ty.den (.prod (.int .i64) (.int .i64)))) (p:qa3 [.prod (.int .i64) (.int .i64)]->Prop) (f:qa3 [.prod (.int .i64) (.int .i64)]->Bool) (h:l.length<=1000000/\∀i,i<l.length->p (qe5 (.prod (.int .i64) (.int .i64)) l i,()))
 refine vcs (∃(v0:qa3 [Ty.prod (Ty.int .i64) (Ty.int .i64)]->Prop),∃(v1:qa3 [Ty.prod (Ty.int .i64) (Ty.int .i64)]->Bool),([Ty.prod (Ty.int .i64) (Ty.int .i64)]=[Ty.prod (Ty.int .i64) (Ty.int .i64)]/\Ty.bool=Ty.bool/\p ≍ v0/\f ≍ v1)/\(l.length<=(1000000:Nat)/\∀(v2:Nat),v2<l.length->v0 (qe5 (Ty.prod (Ty.int .i64) (Ty.int .i64)) l v2,()))/\decide ((0:Int)<=ixT (Ty.prod (Ty.int .i64) (Ty.int .i64)) (λ(v2:Int × Int)=>v1 (v2,())) l)=List.any l λ(v2:Int × Int)=>f (v2,())) ?_
 exact⟨p,f,⟨HEq.rfl,HEq.rfl⟩,h,qs6 (.prod (.int .i64) (.int .i64)) (λe=>f (e,())) l⟩
def inB (n lo hi:Int):Bool:=decide (lo<=n) && decide (n<=hi)
theorem qf9 {n lo hi:Int}:inB n lo hi=true↔lo<=n/\n<=hi:=by simp[inB]
abbrev wc6:qa8:=qe4 true none [qb9,qb9,qb9] [.bool] (λ_=>True) (λx=>(inB x.1 x.2.1 x.2.2.1,()))
theorem qs1:Meets Tryz.prog 39 wc6:=by
 refine mt0 (SpecsOk.nil _) Tryz.func39 ?_
 rintro⟨n,lo,hi,⟨⟩⟩ -
 revert n lo hi
 intro(n:Int) (lo:Int) (hi:Int)
 refine vcs ((decide (lo<=n)=true->decide (n<=hi)=inB n lo hi)/\(decide (lo<=n)=false->false=inB n lo hi)) ?_
 grind [inB]
theorem qs2:Meets Tryz.prog 117 wc6:=by
 refine mt0 (SpecsOk.nil _) Tryz.func117 ?_
 rintro⟨n,lo,hi,⟨⟩⟩ -
 revert n lo hi
 intro(n:Int) (lo:Int) (hi:Int)
 refine vcs ((decide (lo<=n)=true->decide (n<=hi)=inB n lo hi)/\(decide (lo<=n)=false->false=inB n lo hi)) ?_
 grind [inB]
abbrev xw0 (fs:List (Nat × qa8)):qa8:=hspec fs true none [.d qb9,.capfn [qb9] .bool] [.bool] (λx=>x.2.1.1 (x.1,())) (λx=>(!(x.2.1.2 (x.1,())),()))
theorem ww7 {fs:List (Nat × qa8)} (hfs:SpecsOk Tryz.prog fs):Meets Tryz.prog 137 (xw0 fs):=by
 refine qi4 hfs (snd (SpecsOk.nil _)) Tryz.func137 rfl rfl (λ_ _=>none) (λ_=>by kernel_rfl) dc ?_
 rintro⟨n,⟨p,f⟩,⟨⟩⟩ h
 revert n p f
 intro(n:Int) (p:qa3 [.int .i64]->Prop) (f:qa3 [.int .i64]->Bool) (h:p (n,()))
 refine vcr (p (n,())/\(!f (n,()))=!f (n,())) ?_
 grind
abbrev xw1 (fs:List (Nat × qa8)):qa8:=hspec fs true none [.d qd4,.capfn [qd4] .bool] [.bool] (λx=>x.2.1.1 (x.1,())) (λx=>(!(x.2.1.2 (x.1,())),()))
theorem ww8 {fs:List (Nat × qa8)} (hfs:SpecsOk Tryz.prog fs):Meets Tryz.prog 89 (xw1 fs):=by
 refine qi4 hfs (snd (SpecsOk.nil _)) Tryz.func89 rfl rfl (λ_ _=>none) (λ_=>by kernel_rfl) dc ?_
 rintro⟨n,⟨p,f⟩,⟨⟩⟩ h
 revert n p f
 intro(n:List Int) (p:qa3 [.list (.int .i64)]->Prop) (f:qa3 [.list (.int .i64)]->Bool) (h:p (n,()))
 refine vcr (p (n,())/\(!f (n,()))=!f (n,())) ?_
 grind
abbrev fsI (fs:List (Nat × qa8)):List (Nat × qa8):=[(137,xw0 fs)]
abbrev fsL (fs:List (Nat × qa8)):List (Nat × qa8):=[(89,xw1 fs)]
abbrev x8z (fs:List (Nat × qa8)):qa8:=hspec fs true none [.d qd4,.fn [qb9] .bool] [.bool] (λx=>x.1.length<=1000000/\∀i,i<x.1.length->x.2.1.1 (nI x.1 i,())) (λx=>(x.1.all λe=>x.2.1.2 (e,()),()))
abbrev x9a (fs:List (Nat × qa8)):qa8:=hspec fs true none [.d qf8,.fn [qd4] .bool] [.bool] (λx=>x.1.length<=1000000/\∀i,i<x.1.length->x.2.1.1 (nL x.1 i,())) (λx=>(x.1.all λe=>x.2.1.2 (e,()),()))
theorem q9i {fs:List (Nat × qa8)} (hfs:SpecsOk Tryz.prog fs):Meets Tryz.prog 90 (x8z fs):=by
 refine qi4 hfs (snd (SpecsOk.cons (qw4 (fs:=fsI fs) (SpecsOk.cons (ww7 hfs) (SpecsOk.nil _))) (SpecsOk.nil _))) Tryz.func90 rfl rfl (λ_ _=>none) (λ_=>by kernel_rfl) dc ?_
 rintro⟨l,⟨p,f⟩,⟨⟩⟩ h
 revert l p f
 intro(l:List Int) (p:qa3 [.int .i64]->Prop) (f:qa3 [.int .i64]->Bool) (h:l.length<=1000000/\∀i,i<l.length->p (nI l i,()))
 refine vcs (∃(v0:qa3 [Ty.int .i64]->Prop),∃(v1:qa3 [Ty.int .i64]->Bool),(∀(v2:Int × qa3._f [] PUnit.unit),v0 v2->∃(v4:qa3 [qb9]->Prop),∃(v5:qa3 [qb9]->Bool),([qb9]=[qb9]/\Ty.bool=Ty.bool/\p ≍ v4/\f ≍ v5)/\v4 (v2.1,())/\(!v5 (v2.1,()))=v1 v2)/\(l.length<=(1000000:Nat)/\∀(v2:Nat),v2<l.length->v0 (nI l v2,()))/\(!List.any l λ(v2:Int)=>v1 (v2,()))=List.all l λ(v2:Int)=>f (v2,())) ?_
 exact⟨p,λx=>!f x,λx hx=>⟨p,f,⟨HEq.rfl,HEq.rfl⟩,hx,(zb9 (f x)).symm⟩,h,by grind⟩
theorem w4d {fs:List (Nat × qa8)} (hfs:SpecsOk Tryz.prog fs):Meets Tryz.prog 40 (x9a fs):=by
 refine qi4 hfs (snd (SpecsOk.cons (wm8 (fs:=fsL fs) (SpecsOk.cons (ww8 hfs) (SpecsOk.nil _))) (SpecsOk.nil _))) Tryz.func40 rfl rfl (λ_ _=>none) (λ_=>by kernel_rfl) dc ?_
 rintro⟨l,⟨p,f⟩,⟨⟩⟩ h
 revert l p f
 intro(l:List (List Int)) (p:qa3 [.list (.int .i64)]->Prop) (f:qa3 [.list (.int .i64)]->Bool) (h:l.length<=1000000/\∀i,i<l.length->p (nL l i,()))
 refine vcs (∃(v0:qa3 [Ty.list (Ty.int .i64)]->Prop),∃(v1:qa3 [Ty.list (Ty.int .i64)]->Bool),(∀(v2:List Int × qa3._f [] PUnit.unit),v0 v2->∃(v4:qa3 [qd4]->Prop),∃(v5:qa3 [qd4]->Bool),([qd4]=[qd4]/\Ty.bool=Ty.bool/\p ≍ v4/\f ≍ v5)/\v4 (v2.1,())/\(!v5 (v2.1,()))=v1 v2)/\(l.length<=(1000000:Nat)/\∀(v2:Nat),v2<l.length->v0 (nL l v2,()))/\(!List.any l λ(v2:List Int)=>v1 (v2,()))=List.all l λ(v2:List Int)=>f (v2,())) ?_
 exact⟨p,λx=>!f x,λx hx=>⟨p,f,⟨HEq.rfl,HEq.rfl⟩,hx,(zb9 (f x)).symm⟩,h,by grind⟩
abbrev x48:qa8:=qe4 true none [qb9] [.bool] (λ_=>True) (λx=>(inB x.1 (-1) 1,()))
theorem w4e:Meets Tryz.prog 91 x48:=by
 refine mt0 (SpecsOk.cons qs1 (SpecsOk.nil _)) Tryz.func91 ?_
 rintro⟨n,⟨⟩⟩ -
 revert n
 intro(n:Int)
 refine vcr (True/\inB n (-1:Int) (1:Int)=inB n (-1:Int) (1:Int)) ?_
 simp
def rowB (l:List Int):Bool:=inB l.length 1 10 && l.all λn=>inB n (-1) 1
abbrev yn1:qa8:=qe4 true none [qd4] [.bool] (λ_=>True) (λx=>(rowB x.1,()))
theorem w8f:Meets Tryz.prog 42 yn1:=by
 refine mt0 (SpecsOk.cons qs1 (SpecsOk.cons (q9i (fs:=[(91,x48)]) (SpecsOk.cons w4e (SpecsOk.nil _))) (SpecsOk.nil _))) Tryz.func42 ?_
 rintro⟨l,⟨⟩⟩ -
 revert l
 intro(l:List Int)
 refine vcs (True/\(inB (↑l.length:Int) (1:Int) (10:Int)=true->∃(v1:qa3 [qb9]->Prop),∃(v2:qa3 [qb9]->Bool),(∀(v3:Int × qa3._f [] PUnit.unit),v1 v3->True/\inB v3.1 (-1:Int) (1:Int)=v2 v3)/\(l.length<=(1000000:Nat)/\∀(v3:Nat),v3<l.length->v1 (nI l v3,()))/\(List.all l λ(v3:Int)=>v2 (v3,()))=rowB l)/\(inB (↑l.length:Int) (1:Int) (10:Int)=false->false=rowB l)) ?_
 refine⟨λh=>⟨λ_=>True,λx=>inB x.1 (-1) 1,λ_ _=>rfl,⟨by grind [qf9],λ_ _=>trivial⟩,by simp[rowB,h]⟩,λh=>by simp[rowB,h]⟩
abbrev yi8:qa8:=hspec [] true none [.d qd4,.cap qf8] [.bool] (λx=>0<x.2.1.length) (λx=>(decide (x.1.length=(nL x.2.1 0).length) && rowB x.1,()))
theorem w8g:Meets Tryz.prog 41 yi8:=by
 refine qi4 (SpecsOk.nil _) (snd (SpecsOk.cons w8f (SpecsOk.nil _))) Tryz.func41 rfl rfl (λ_ _=>none) (λ_=>by kernel_rfl) dc ?_
 rintro⟨l,m,⟨⟩⟩ h
 revert l m
 intro(l:List Int) (m:List (List Int)) (h:0<m.length)
 refine vcs (((0:Int)<=(0:Int)/\(0:Int)<(↑m.length:Int))/\(((↑l.length:Int)==(↑(nL m (0:Nat)).length:Int))=true->True/\rowB l=(decide (l.length=(nL m (0:Nat)).length) && rowB l))/\(((↑l.length:Int)==(↑(nL m (0:Nat)).length:Int))=false->false=(decide (l.length=(nL m (0:Nat)).length) && rowB l))) ?_
 grind
def qb6 (m:List (List Int)):Bool:=inB m.length 1 6 && m.all λl=>decide (l.length=(nL m 0).length) && rowB l
abbrev sMV:qa8:=qe4 true none [qf8] [.bool] (λ_=>True) (λx=>(qb6 x.1,()))
theorem qq3:Meets Tryz.prog 9 sMV:=by
 refine mt0 (SpecsOk.cons qs1 (SpecsOk.cons (w4d (fs:=[(41,yi8)]) (SpecsOk.cons w8g (SpecsOk.nil _))) (SpecsOk.nil _))) Tryz.func9 ?_
 rintro⟨m,⟨⟩⟩ -
 revert m
 intro(m:List (List Int))
 refine vcs (True/\(inB (↑m.length:Int) (1:Int) (6:Int)=true->∃(v1:qa3 [qd4]->Prop),∃(v2:qa3 [qd4]->Bool),(∀(v3:List Int × qa3._f [] PUnit.unit),v1 v3->(0:Nat)<m.length/\(decide (v3.1.length=(nL m (0:Nat)).length) && rowB v3.1)=v2 v3)/\(m.length<=(1000000:Nat)/\∀(v3:Nat),v3<m.length->v1 (nL m v3,()))/\(List.all m λ(v3:List Int)=>v2 (v3,()))=qb6 m)/\(inB (↑m.length:Int) (1:Int) (6:Int)=false->false=qb6 m)) ?_
 refine⟨λh=>?_,λh=>by simp[qb6,h]⟩
 have hm:=qf9.1 h
 exact⟨λ_=>True,λx=>decide (x.1.length=(nL m 0).length) && rowB x.1,λx _=>⟨ow,rfl⟩,⟨ow,λ_ _=>trivial⟩,by simp[qb6,h]⟩
abbrev x49:qa8:=hspec [] true none [.d qb9,.cap qb9] [.bool] (λx=>0<=x.2.1/\x.2.1<=BIG) (λx=>(!(inB x.1 (0-x.2.1) x.2.1),()))
theorem w4f:Meets Tryz.prog 116 x49:=by
 refine qi4 (SpecsOk.nil _) (snd (SpecsOk.cons qs2 (SpecsOk.nil _))) Tryz.func116 rfl rfl (λ_ _=>none) (λ_=>by kernel_rfl) dc ?_
 rintro⟨n,k,⟨⟩⟩ h
 revert n k
 intro(n:Int) (k:Int) (h:0<=k/\k<=BIG)
 refine vcs (fits .i64 ((0:Int)-k)/\True/\(!inB n ((0:Int)-k) k)=!inB n ((0:Int)-k) k) ?_
 grind [BIG,qa7]
abbrev yn2:qa8:=q68 false none [qb9] (λ_=>True) (λx=>.clo 116 (.cons (.imm (.cons (.lit (.int .i64 x.1)) .nil) 0) .nil))
theorem w8h:Meets Tryz.prog 74 yn2:=by
 refine q0o (snd (SpecsOk.nil _)) Tryz.func74 rfl rfl (λ_ _=>none) (λ_=>by kernel_rfl) dc ?_
 rintro⟨m,⟨⟩⟩ -
 revert m
 intro(m:Int)
 refine vcr (((m=m/\True)/\(0:Nat)=(0:Nat))/\True) ?_
 simp
abbrev x5b:qa8:=hspec [] true none [.d qb9,.cap qb9] [.bool] (λx=>0<=x.2.1/\x.2.1<=BIG) (λx=>(!(inB x.1 0 (x.2.1-1)),()))
theorem w4g:Meets Tryz.prog 191 x5b:=by
 refine qi4 (SpecsOk.nil _) (snd (SpecsOk.cons qs2 (SpecsOk.nil _))) Tryz.func191 rfl rfl (λ_ _=>none) (λ_=>by kernel_rfl) dc ?_
 rintro⟨n,k,⟨⟩⟩ h
 revert n k
 intro(n:Int) (k:Int) (h:0<=k/\k<=BIG)
 refine vcs (fits .i64 (k-(1:Int))/\True/\(!inB n (0:Int) (k-(1:Int)))=!inB n (0:Int) (k-(1:Int))) ?_
 grind [BIG,qa7]
def xw2 (l:List Int):Bool:=(List.range l.length).all λi=>decide (i=0) || decide (nI l (i-1)<nI l i)
def w50 (n:Int) (l:List Int):Int:=if xw2 l=false then 7 else if l.any (λp=>!(inB p 0 (n-1))) then 5 else 0
theorem wc7 {l:List Int}:xw2 l=true↔∀i,0<i->i<l.length->nI l (i-1)<nI l i:=by
 unfold xw2
 grind
structure AscTo (l:List Int) (k:Nat):Prop where
 le:k<=l.length
 lt:∀i,0<i->i<k->nI l (i-1)<nI l i
theorem AscTo.step {l:List Int} {k:Nat} (h:AscTo l k) (hk:k<l.length) (h1:k=0\/nI l (k-1)<nI l k):AscTo l (k+1):=
 ⟨hk,λi h0 hi=>by
  by_cases e:i=k
  ·grind
  ·exact h.lt i h0 ow⟩
theorem AscTo.all {l:List Int} (h:AscTo l l.length):xw2 l=true:=wc7.2 h.lt
theorem xk7 {l:List Int} {k:Nat} (h0:0<k) (hk:k<l.length) (h:nI l k<=nI l (k-1)):xw2 l=false:=by
 grind [xw2,wc7]
def x9c (n:Int) (l:List Int):Nat->Option Inv
 | 0=>some (Inv.of [9] 1 (λk:Nat=>[(9,.lit (.int .i64 k))]) (λ_=>[.box 3 (.cons (.lit (.int .i64 n)) .nil)]) (λk=>AscTo l k) (λk=>l.length-k))
 | _=>none
abbrev yn3:qa8:=qe4 true none [qb9,qd4] [qb9] (λx=>(0<=x.1/\x.1<=BIG)/\x.2.1.length<=1000000) (λx=>(w50 x.1 x.2.1,()))
theorem w8i:Meets Tryz.prog 147 yn3:=by
 refine mts (SpecsOk.cons (qw4 (fs:=[(191,x5b)]) (SpecsOk.cons w4g (SpecsOk.nil _))) (SpecsOk.nil _)) Tryz.func147 (λx=>x9c x.1 x.2.1) ?_
 rintro⟨n,l,⟨⟩⟩ h
 revert n l
 intro(n:Int) (l:List Int) (h:(0<=n/\n<=BIG)/\l.length<=1000000)
 refine vcs (∃(v0:Unit),∃(v1:Nat),AscTo l v1/\(((0:Int)=(↑v1:Int)/\True)/\(n=n/\True)/\True)/\∀(v2:Nat),AscTo l v2->(decide ((↑v2:Int)<(↑l.length:Int))=true->((0:Int)<=(↑v2:Int)/\(↑v2:Int)<(↑l.length:Int))/\(decide ((0:Int)<(↑v2:Int))=true->fits .i64 ((↑v2:Int)-(1:Int))/\((0:Int)<=(↑v2:Int)-(1:Int)/\(↑v2:Int)-(1:Int)<(↑l.length:Int))/\(decide (nI l v2<=nI l ((↑v2:Int)-(1:Int)).toNat)=true->(7:Int)=w50 n l)/\(decide (nI l v2<=nI l ((↑v2:Int)-(1:Int)).toNat)=false->fits .i64 ((↑v2:Int)+(1:Int))/\∃(v7:Nat),AscTo l v7/\l.length-v7<l.length-v2/\((↑v2:Int)+(1:Int)=(↑v7:Int)/\True)/\(n=n/\True)/\True))/\(decide ((0:Int)<(↑v2:Int))=false->fits .i64 ((↑v2:Int)+(1:Int))/\∃(v6:Nat),AscTo l v6/\l.length-v6<l.length-v2/\((↑v2:Int)+(1:Int)=(↑v6:Int)/\True)/\(n=n/\True)/\True))/\(decide ((↑v2:Int)<(↑l.length:Int))=false->∃(v5:qa3 [Ty.int .i64]->Prop),∃(v6:qa3 [Ty.int .i64]->Bool),(∀(v7:Int × qa3._f [] PUnit.unit),v5 v7->((0:PTy.den (PTy.cap qb9))<=n/\n<=BIG)/\(!inB v7.1 (0:Int) (n-(1:Int)))=v6 v7)/\(l.length<=(1000000:Nat)/\∀(v7:Nat),v7<l.length->v5 (nI l v7,()))/\((List.any l λ(v8:Int)=>v6 (v8,()))=true->(5:Int)=w50 n l)/\((List.any l λ(v8:Int)=>v6 (v8,()))=false->(0:Int)=w50 n l))) ?_
 obtain⟨hn,hl⟩:=h
 refine⟨(),0,⟨zae _,λi h0 hi=>by omega⟩,rfl,λk hk=>⟨λhlt=>⟨hlt,λh0=>?_,λh0=>⟨qa7,k+1,hk.step hlt (.inl ow),ow,ow⟩⟩,λhge=>?_⟩⟩
 ·have e:((k:Int)-1).toNat=k-1:=ow
  rw[e]
  refine⟨qa7,ow,λh1=>?_,λh1=>⟨qa7,k+1,hk.step hlt (.inr h1),ow,ow⟩⟩
  unfold w50
  rw[zap (xk7 ow hlt h1)]
 ·obtain rfl:k=l.length:=by have:=hk.le; omega
  refine⟨λ_=>True,λx=>!(inB x.1 0 (n-1)),λx _=>⟨hn,by simp⟩,⟨hl,λ_ _=>trivial⟩,λh1=>?_,λh1=>?_⟩
  ·unfold w50
   rw[zai (by simp[hk.all]),zap h1]
  ·unfold w50
   rw[zai (by simp[hk.all]),zai (by grind)]
end Go.Proofs.YtnchigbbjajiiaaGreat
