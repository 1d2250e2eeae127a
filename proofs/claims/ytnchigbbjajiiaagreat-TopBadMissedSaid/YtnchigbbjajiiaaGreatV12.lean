/- Rank and solutions: contracts by the engine. No condition. -/
import Derived.Test.YtnchigbbjajiiaaGreatV0
set_option linter.unusedVariables false
set_option linter.unusedSimpArgs false
namespace Go.Proofs.YtnchigbbjajiiaaGreat
open Go Go.RowKit Eng
def gcdI (a b:Int):Int:=(Int.gcd a b:Int)
abbrev qd8 (K x:Int):Prop:=-K<=x/\x<=K
def BIG:Int:=4000000000000000000
theorem q8n (a b:Int):0<=gcdI a b:=zb3 _
theorem x0k (a b:Int):gcdI (max a (0-a)) (max b (0-b))=gcdI a b:=by
 unfold gcdI
 have h1:(max a (0-a)).natAbs=a.natAbs:=ow
 have h2:(max b (0-b)).natAbs=b.natAbs:=ow
 show((Nat.gcd (max a (0-a)).natAbs (max b (0-b)).natAbs:Nat):Int)=(Nat.gcd a.natAbs b.natAbs:Nat)
 grind
theorem xe8 {a b:Int} (ha:0<=a) (hb:0<=b):gcdI b (a.tmod b)=gcdI a b:=by
 unfold gcdI
 obtain⟨m,rfl⟩:=zbc ha
 obtain⟨n,rfl⟩:=zbc hb
 rw[zcx ha]
 have e:((m:Int) % (n:Int))=((m % n:Nat):Int):=rfl
 rw[e,zea,zea]
 grind [Nat.gcd_comm,Nat.gcd_rec]
theorem xe9 (a:Int) (h:0<=a):gcdI a 0=a:=by
 grind [gcdI,Int.gcd_zero_right]
theorem wu8 {a:Int} (b:Int) (h:a≠0):gcdI a b<=a.natAbs:=by
 unfold gcdI
 exact zem.2 (zc9 ow (zby _ _))
theorem wm1 (a:Int) {b:Int} (h:b≠0):gcdI a b<=b.natAbs:=by
 unfold gcdI
 exact zem.2 (zc9 ow (zb0 _ _))
theorem xf1 {a b:Int} (ha:-BIG<=a/\a<=BIG) (hb:-BIG<=b/\b<=BIG):0<=gcdI a b/\gcdI a b<=BIG:=by
 refine⟨q8n _ _,?_⟩
 unfold BIG at *
 by_cases h:a=0
 ·by_cases k:b=0
  ·subst h k; decide
  ·have:=wm1 a k; omega
 ·have:=wu8 b h; omega
theorem qn9 {a b:Int} (h:a≠0\/b≠0):0<gcdI a b:=by
 grind [gcdI,Int.gcd,Int.gcd_pos_iff]
theorem qt7 {a g K:Int} (hk:-K<=a/\a<=K):-K<=a.tdiv g/\a.tdiv g<=K:=by
 have h1:(a.tdiv g).natAbs<=a.natAbs:=by
  rw[zcm]; exact zen _ _
 omega
def x0l:qa8:=qd9 true none [qc0,qc0] [qc0] (λx=>(-BIG<=x.1/\x.1<=BIG)/\-BIG<=x.2.1/\x.2.1<=BIG) (λx=>(gcdI x.1 x.2.1,()))
def xf2 (a b:Int):Nat->Option Inv
 | 0=>some (Inv.of [0,1] 0 (λs:Int × Int=>[(0,.lit (.int .i64 s.1)),(1,.lit (.int .i64 s.2))]) (λ_=>[]) (λs=>(0<=s.1/\s.1<=BIG)/\(0<=s.2/\s.2<=BIG)/\gcdI s.1 s.2=gcdI a b) (λs=>s.2.toNat))
 | _=>none
theorem qq3:Meets Tryz.prog 106 x0l:=by
 refine mts (SpecsOk.nil _) Tryz.func106 (λx=>xf2 x.1 x.2.1) ?_
 rintro⟨a,b,⟨⟩⟩ h
 revert a b
 intro(a:Int) (b:Int) (h:(-BIG<=a/\a<=BIG)/\-BIG<=b/\b<=BIG)
 refine vcs (fits .i64 ((0:Int)-a)/\fits .i64 ((0:Int)-b)/\∃(v0:Unit),∃(v1:Int × Int),(((0:Int)<=v1.1/\v1.1<=BIG)/\((0:Int)<=v1.2/\v1.2<=BIG)/\gcdI v1.1 v1.2=gcdI a b)/\((max2 true a ((0:Int)-a)=v1.1/\max2 true b ((0:Int)-b)=v1.2/\True)/\True)/\∀(v2:Int × Int),((0:Int)<=v2.1/\v2.1<=BIG)/\((0:Int)<=v2.2/\v2.2<=BIG)/\gcdI v2.1 v2.2=gcdI a b->((v2.2 != (0:Int))=true->v2.2≠(0:Int)/\∃(v5:Int × Int),(((0:Int)<=v5.1/\v5.1<=BIG)/\((0:Int)<=v5.2/\v5.2<=BIG)/\gcdI v5.1 v5.2=gcdI a b)/\v5.2.toNat<v2.2.toNat/\(v2.2=v5.1/\Int.tmod v2.1 v2.2=v5.2/\True)/\True)/\((v2.2 != (0:Int))=false->v2.1=gcdI a b)) ?_
 have hB:BIG=4000000000000000000:=rfl
 refine⟨qa6,qa6,(),(max a (0-a),max b (0-b)),⟨⟨ow,ow⟩,⟨ow,ow⟩,x0k a b⟩,⟨rfl,rfl⟩,?_⟩
 rintro⟨x,y⟩ ⟨⟨h1,h2⟩,⟨h3,h4⟩,h5⟩
 dsimp only at h1 h2 h3 h4 h5 ⊢
 refine⟨λhy=>⟨hy,(y,x.tmod y),⟨⟨h3,h4⟩,?_,?_⟩,?_,rfl,rfl⟩,λhy=>?_⟩
 ·rw[zcx h1]
  have k1:=zdo x hy
  have k2:=zda x (show 0<y by omega)
  omega
 ·grind [xe8,trans]
 ·rw[zcx h1]
  have k1:=zdo x hy
  have k2:=zda x (show 0<y by omega)
  omega
 grind [xe9]
def ofR (n d:Int):Int × Int:=if d<0 then(n.tdiv (0-gcdI n d),d.tdiv (0-gcdI n d)) else(n.tdiv (gcdI n d),d.tdiv (gcdI n d))
def sOf:qa8:=qd9 true none [qc0,qc0] [qv9] (λx=>(-BIG<=x.1/\x.1<=BIG)/\(-BIG<=x.2.1/\x.2.1<=BIG)/\x.2.1≠0) (λx=>(ofR x.1 x.2.1,()))
theorem wm2:Meets Tryz.prog 61 sOf:=by
 refine mts (SpecsOk.cons qq3 (SpecsOk.nil _)) Tryz.func61 (λx=>λ_=>none) ?_
 rintro⟨a,b,⟨⟩⟩ h
 revert a b
 intro(a:Int) (b:Int) (h:(-BIG<=a/\a<=BIG)/\(-BIG<=b/\b<=BIG)/\b≠0)
 refine vcs (let Q0:=gcdI a b; (((-4000000000000000000:Int)<=a/\a<=BIG)/\(-4000000000000000000:Int)<=b/\b<=BIG)/\(decide (b<(0:Int))=true->fits .i64 ((0:Int)-gcdI a b)/\(0:Int)-gcdI a b≠(0:Int)/\fits .i64 (Int.tdiv a ((0:Int)-gcdI a b))/\(0:Int)-gcdI a b≠(0:Int)/\fits .i64 (Int.tdiv b ((0:Int)-gcdI a b))/\Int.tdiv a ((0:Int)-gcdI a b)=(ofR a b).1/\Int.tdiv b ((0:Int)-gcdI a b)=(ofR a b).2/\True)/\(decide (b<(0:Int))=false->gcdI a b≠(0:Int)/\fits .i64 (Int.tdiv a Q0)/\gcdI a b≠(0:Int)/\fits .i64 (Int.tdiv b Q0)/\Int.tdiv a Q0=(ofR a b).1/\Int.tdiv b Q0=(ofR a b).2/\True)) ?_
 have hB:BIG=4000000000000000000:=rfl
 have hg:=xf1 h.1 h.2.1
 have hp:=qn9 (a:=a) (b:=b) (.inr h.2.2)
 refine⟨⟨h.1,h.2.1⟩,λhb=>?_,λhb=>?_⟩
 ·have h1:=qt7 (g:=0-gcdI a b) h.1
  have h2:=qt7 (g:=0-gcdI a b) h.2.1
  have e:ofR a b=(a.tdiv (0-gcdI a b),b.tdiv (0-gcdI a b)):=by simp_all [ofR,if_pos]
  rw[e]
  exact⟨qa6,ow,qa6,ow,qa6,rfl,rfl⟩
 ·have h1:=qt7 (g:=gcdI a b) h.1
  have h2:=qt7 (g:=gcdI a b) h.2.1
  have e:ofR a b=(a.tdiv (gcdI a b),b.tdiv (gcdI a b)):=by simp_all [ofR,if_neg]
  rw[e]
  exact⟨ow,qa6,ow,qa6,rfl,rfl⟩
def gcdL (l:List Int):Int:=l.foldl gcdI 0
def qe6 (l:List Int):List Int:=if 1<gcdL l then l.map λx=>x.tdiv (gcdL l) else l
def wm3 (l:List Int):Prop:=l.length<=1000/\∀x∈l,-BIG<=x/\x<=BIG
def x4b:MSpec:=q5h (q1r []) false false 0 3 (.int .i64) (λrows _=>wm3 (nL rows 0)) (λ_ _=>.tup .nil) (λrows _=>[qe6 (nL rows 0)])
def shK (l:List Int) (k:Nat):List Int:=if 1<gcdL l then(l.take k).map (λx=>x.tdiv (gcdL l))++l.drop k else l
def x6p (T:q6v) (l:List Int):Nat->Option Inv
 | 0=>some (Inv.of [0,6,2,8] 1 (λk:Nat=>[(0,.msl 0 (some 0)),(6,.msl 0 (some 0)),(2,.lit (.int .i64 (gcdL (l.take k)))),(8,.lit (.int .i64 k))]) (λ_=>[.mat 0 3 (.int .i64) [l] (some []) (some T)]) (λk=>k<=l.length) (λk=>l.length-k))
 | 1=>some (Inv.of [0,18] 1 (λs:Nat × List Int=>[(0,.msl 0 (some 0)),(18,.lit (.int .i64 s.1))]) (λs=>[.mat 0 3 (.int .i64) [s.2] (some []) (some T)]) (λs=>s.1<=l.length/\s.2=shK l s.1) (λs=>l.length-s.1))
 | _=>none
theorem wu9 (l:List Int) (k:Nat) (hk:k<l.length):gcdL (l.take (k+1))=gcdI (gcdL (l.take k)) (nI l k):=by
 rw[zd5,zao hk]
 grind [gcdL,Option.toList_some,qg5]
theorem q8o {l:List Int} (h:wm3 l) {k:Nat} (hk:k<l.length):qd8 BIG (nI l k):=by
 rw[qg5 l k hk]
 exact h.2 _ (zec hk)
theorem xf3 {l:List Int} (h:wm3 l):∀k,k<=l.length->0<=gcdL (l.take k)/\gcdL (l.take k)<=BIG
 | 0,_=>by simp[gcdL,BIG]
 | k+1,hk=>by
  rw[wu9 l k hk]
  have h1:=xf3 h k ow
  refine xf1 ⟨?_,h1.2⟩ (q8o h hk)
  omega
theorem w1t (l:List Int) (k:Nat) (hk:k<=l.length):(shK l k).length=l.length:=by
 grind [shK]
theorem yd1 (l:List Int) (k:Nat) (hk:k<l.length):nI (shK l k) k=nI l k:=by
 grind [shK,nI,qf0,List.getElem?_append_right]
theorem x0m (l:List Int) (k:Nat) (hk:k<l.length) (hg:1<gcdL l):(shK l k).set k ((nI l k).tdiv (gcdL l))=shK l (k+1):=by
 have h1:=w1t l k ow
 have h2:=w1t l (k+1) ow
 apply zbx (by grind)
 intro i hi _
 rw[zba,h1] at hi
 rw[zc2]
 unfold shK
 simp only[if_pos hg]
 by_cases e:k=i
 ·subst e
  rw[zap rfl,List.getElem_append_left (by grind),qg5 l k hk]
  simp
 grind
theorem q3o:qo7 Tryz.prog 204 x4b:=by
 refine q1t (snd (SpecsOk.cons qq3 (SpecsOk.nil _))) Tryz.func204 rfl rfl (qm4 []) (λT rows _=>x6p T (nL rows 0)) (λ_ _ _=>by kernel_rfl) dc ?_ rfl
 rintro T rows ⟨⟩ h hone
 obtain⟨l,rfl⟩:∃l:List Int,rows=[l]:=by
  have h1:=hone rfl
  match rows,h1 with
  | [l],_=>simp
 have h:wm3 l:=h
 refine vcs (∃(v0:Unit),∃(v1:Nat),Nat.le v1 (nL [l] (0:Nat)).length/\((some (0:Nat)=some (0:Nat)/\some (0:Nat)=some (0:Nat)/\(0:Int)=gcdL (List.take v1 (nL [l] (0:Nat)))/\(0:Int)=(↑v1:Int)/\True)/\([l]=[nL [l] (0:Nat)]/\True/\T=T)/\True)/\∀(v2:Nat),Nat.le v2 (nL [l] (0:Nat)).length->(decide ((↑v2:Int)<(↑(nL [l] (0:Nat)).length:Int))=true->((0:Int)<=(↑v2:Int)/\(↑v2:Int)<(↑(nL [nL [l] (0:Nat)] (0:Nat)).length:Int))/\v2<(nL [nL [l] (0:Nat)] (0:Nat)).length/\(((-4000000000000000000:Int)<=gcdL (List.take v2 (nL [l] (0:Nat)))/\gcdL (List.take v2 (nL [l] (0:Nat)))<=BIG)/\(-4000000000000000000:Int)<=nI (nL [nL [l] (0:Nat)] (0:Nat)) v2/\nI (nL [nL [l] (0:Nat)] (0:Nat)) v2<=BIG)/\fits .i64 ((↑v2:Int)+(1:Int))/\∃(v5:Nat),Nat.le v5 (nL [l] (0:Nat)).length/\(nL [l] (0:Nat)).length-v5<(nL [l] (0:Nat)).length-v2/\(some (0:Nat)=some (0:Nat)/\some (0:Nat)=some (0:Nat)/\gcdI (gcdL (List.take v2 (nL [l] (0:Nat)))) (nI (nL [nL [l] (0:Nat)] (0:Nat)) v2)=gcdL (List.take v5 (nL [l] (0:Nat)))/\(↑v2:Int)+(1:Int)=(↑v5:Int)/\True)/\([nL [l] (0:Nat)]=[nL [l] (0:Nat)]/\True/\T=T)/\True)/\(decide ((↑v2:Int)<(↑(nL [l] (0:Nat)).length:Int))=false->∃(v5:Unit),∃(v6:Nat × List Int),(v6.1<=(nL [l] (0:Nat)).length/\v6.2=shK (nL [l] (0:Nat)) v6.1)/\((some (0:Nat)=some (0:Nat)/\(0:Int)=(↑v6.1:Int)/\True)/\([nL [l] (0:Nat)]=[v6.2]/\True/\T=T)/\True)/\∀(v7:Nat × List Int),v7.1<=(nL [l] (0:Nat)).length/\v7.2=shK (nL [l] (0:Nat)) v7.1->(decide ((↑v7.1:Int)<(↑(nL [nL [l] (0:Nat)] (0:Nat)).length:Int))=true->(decide ((1:Int)<gcdL (List.take v2 (nL [l] (0:Nat))))=true->((0:Int)<=(↑v7.1:Int)/\(↑v7.1:Int)<(↑(nL [v7.2] (0:Nat)).length:Int))/\(↑v7.1:Int).toNat<(nL [v7.2] (0:Nat)).length/\gcdL (List.take v2 (nL [l] (0:Nat)))≠(0:Int)/\fits .i64 (Int.tdiv (nI (nL [v7.2] (0:Nat)) (↑v7.1:Int).toNat) (gcdL (List.take v2 (nL [l] (0:Nat)))))/\((0:Int)<=(↑v7.1:Int)/\(↑v7.1:Int)<(↑(nL [v7.2] (0:Nat)).length:Int))/\(↑v7.1:Int).toNat<(nL [v7.2] (0:Nat)).length/\fits .i64 ((↑v7.1:Int)+(1:Int))/\∃(v11:Nat × List Int),(v11.1<=(nL [l] (0:Nat)).length/\v11.2=shK (nL [l] (0:Nat)) v11.1)/\(nL [l] (0:Nat)).length-v11.1<(nL [l] (0:Nat)).length-v7.1/\(some (0:Nat)=some (0:Nat)/\(↑v7.1:Int)+(1:Int)=(↑v11.1:Int)/\True)/\(List.set [v7.2] (0:Nat) (List.set (nL [v7.2] (0:Nat)) (↑v7.1:Int).toNat (Int.tdiv (nI (nL [v7.2] (0:Nat)) (↑v7.1:Int).toNat) (gcdL (List.take v2 (nL [l] (0:Nat))))))=[v11.2]/\True/\T=T)/\True)/\(decide ((1:Int)<gcdL (List.take v2 (nL [l] (0:Nat))))=false->fits .i64 ((↑v7.1:Int)+(1:Int))/\∃(v11:Nat × List Int),(v11.1<=(nL [l] (0:Nat)).length/\v11.2=shK (nL [l] (0:Nat)) v11.1)/\(nL [l] (0:Nat)).length-v11.1<(nL [l] (0:Nat)).length-v7.1/\(some (0:Nat)=some (0:Nat)/\(↑v7.1:Int)+(1:Int)=(↑v11.1:Int)/\True)/\([v7.2]=[v11.2]/\True/\T=T)/\True))/\(decide ((↑v7.1:Int)<(↑(nL [nL [l] (0:Nat)] (0:Nat)).length:Int))=false->[v7.2]=[qe6 (nL [l] (0:Nat))]/\T=T/\True/\True))) ?_
 have hB:BIG=4000000000000000000:=rfl
 refine⟨(),0,zae _,⟨rfl,rfl⟩,λk hk=>⟨λhlt=>?_,λhge=>?_⟩⟩
 ·have h1:=xf3 h k hk
  have h2:=q8o h hlt
  exact⟨hlt,hlt,⟨⟨ow,h1.2⟩,h2⟩,qa6 ow (by have:=h.1; omega),k+1,ow,ow,(wu9 l k hlt).symm,ow⟩
 ·obtain rfl:k=l.length:=ow
  simp only[List.take_length,decide_eq_true_eq,decide_eq_false_iff_not,Int.not_lt]
  have sh0:shK l 0=l:=by grind [shK]
  refine⟨(),(0,l),⟨zae _,sh0.symm⟩,⟨rfl,rfl⟩,?_⟩
  rintro⟨k,r⟩ ⟨h1,h2⟩
  dsimp only at h1 h2 ⊢
  subst h2
  have hl:=w1t l k h1
  refine⟨λhlt=>⟨λhg=>?_,λhg=>?_⟩,λhge=>?_⟩
  ·have h3:=q8o h hlt
   have h4:=qt7 (g:=gcdL l) h3
   rw[yd1 l k hlt]
   refine⟨ow,ow,ow,qa6,ow,ow,qa6 ow (by have:=h.1; omega),(k+1,shK l (k+1)),⟨ow,rfl⟩,ow,by rfl,x0m l k hlt hg⟩
  ·refine⟨qa6 ow (by have:=h.1; omega),(k+1,shK l (k+1)),⟨ow,rfl⟩,ow,by rfl,?_⟩
   simp_all [shK,if_neg]
  ·obtain rfl:k=l.length:=ow
   grind [shK,qe6]
def yd2:Int:=2000000000000000000
def q1 (r b:List Int) (c:Nat):Int:=(nI b c).tdiv (gcdI (nI r c) (nI b c))
def q2 (r b:List Int) (c:Nat):Int:=(nI r c).tdiv (gcdI (nI r c) (nI b c))
def x9c (r b:List Int) (c i:Nat):Int:=(nI r i)*q1 r b c-(nI b i)*q2 r b c
def q6l (r b:List Int) (c:Nat):List Int:=(List.range r.length).map (x9c r b c)
def qy7 (r b:List Int) (c:Nat):List Int:=qe6 (q6l r b c)
structure wv0 (r b:List Int) (c:Nat):Prop where
 at_:c<r.length
 len:b.length=r.length
 max:r.length<=1000
 ne:(nI b c)≠(0:Int)
 bdr:qd8 BIG (nI r c)
 bdb:qd8 BIG (nI b c)
 one:∀i,i<r.length->qd8 yd2 ((nI r i)*q1 r b c)
 two:∀i,i<r.length->qd8 yd2 ((nI b i)*q2 r b c)
def x4c:MSpec:=q5h (q1r [qe8,qc0]) false false 0 3 (.int .i64) (λrows x=>0<=x.2.1/\wv0 (nL rows 0) x.1 x.2.1.toNat) (λ_ _=>.tup .nil) (λrows x=>[qy7 (nL rows 0) x.1 x.2.1.toNat])
def clK (r b:List Int) (c k:Nat):List Int:=ovr (.int .i64) (x9c r b c) r k
def x6q (T:q6v) (r b:List Int) (c:Nat):Nat->Option Inv
 | 0=>some (Inv.of [0,23] 11 (λs:Nat × List Int=>[(0,.msl 0 (some 0)),(23,.lit (.int .i64 s.1))]) (λs=>[.mat 0 3 (.int .i64) [s.2] (some []) (some T),.dead,.dead,.dead,.dead,.dead,.dead,.dead,.dead,.dead,.dead]) (λs=>s.1<=r.length/\s.2=clK r b c s.1) (λs=>r.length-s.1))
 | _=>none
theorem q2m (r b:List Int) (c:Nat):(q6l r b c).length=r.length:=by simp[q6l]
theorem x6r (r b:List Int) (c k:Nat):(clK r b c k).length=r.length:=q0q (.int .i64) _ r k
theorem yd3 (r b:List Int) (c k:Nat) (hk:k<r.length):nI (clK r b c k) k=nI r k:=(wf5 (.int .i64) _ r k k hk).trans (zaj (zbg k))
theorem x0n (r b:List Int) (c k:Nat):(clK r b c k).set k (x9c r b c k)=clK r b c (k+1):=q2l (.int .i64) _ r k
theorem x6s (r b:List Int) (c:Nat):clK r b c r.length=q6l r b c:=q8m (.int .i64) _ r _ (zac _)
theorem w7c {r b:List Int} {c:Nat} (h:wv0 r b c):wm3 (q6l r b c):=by
 refine⟨by rw[q2m]; exact h.max,λx hx=>?_⟩
 unfold q6l at hx
 obtain⟨i,hi,rfl⟩:=zbk.1 hx
 have hi:=za4.1 hi
 have h1:=h.one i hi
 have h2:=h.two i hi
 grind [x9c,yd2,BIG]
theorem w1u:qo7 Tryz.prog 190 x4c:=by
 refine q1t (yc9 (SpecsOk.cons qq3 (SpecsOk.nil _)) (MutsOk.cons q3o MutsOk.nil)) Tryz.func190 rfl rfl (qm4 [qe8,qc0]) (λT rows x=>x6q T (nL rows 0) x.1 x.2.1.toNat) (λ_ _ _=>by kernel_rfl) dc ?_ rfl
 rintro T rows ⟨b,c,⟨⟩⟩ h hone
 revert b c
 intro(b:List Int) (c:Int) h
 obtain⟨r,rfl⟩:∃l:List Int,rows=[l]:=by
  have h1:=hone rfl
  match rows,h1 with
  | [l],_=>simp
 have h:0<=c/\wv0 r b c.toNat:=h
 obtain⟨j,rfl⟩:∃j:Nat,c=j:=⟨c.toNat,ow⟩
 refine vcs (let Q0:=MSpec.t x4b; ((0:Int)<=(↑j:Int)/\(↑j:Int)<(↑(nL [r] (0:Nat)).length:Int))/\(↑j:Int).toNat<(nL [r] (0:Nat)).length/\((0:Int)<=(↑j:Int)/\(↑j:Int)<(↑b.length:Int))/\(((-4000000000000000000:Int)<=nI (nL [r] (0:Nat)) (↑j:Int).toNat/\nI (nL [r] (0:Nat)) (↑j:Int).toNat<=BIG)/\(-4000000000000000000:Int)<=nI b (↑j:Int).toNat/\nI b (↑j:Int).toNat<=BIG)/\∃(v0:Unit),∃(v1:Nat × List Int),(v1.1<=(nL [r] (0:Nat)).length/\v1.2=clK (nL [r] (0:Nat)) b (↑j:Int).toNat v1.1)/\((some (0:Nat)=some (0:Nat)/\(0:Int)=(↑v1.1:Int)/\True)/\([r]=[v1.2]/\True/\T=T)/\True/\True/\True/\True/\True/\True/\True/\True/\True/\True/\True)/\∀(v2:Nat × List Int),v2.1<=(nL [r] (0:Nat)).length/\v2.2=clK (nL [r] (0:Nat)) b (↑j:Int).toNat v2.1->(decide ((↑v2.1:Int)<(↑(nL [r] (0:Nat)).length:Int))=true->((0:Int)<=(↑v2.1:Int)/\(↑v2.1:Int)<(↑(nL [v2.2] (0:Nat)).length:Int))/\(↑v2.1:Int).toNat<(nL [v2.2] (0:Nat)).length/\gcdI (nI (nL [r] (0:Nat)) (↑j:Int).toNat) (nI b (↑j:Int).toNat)≠(0:Int)/\fits .i64 (Int.tdiv (nI b (↑j:Int).toNat) (gcdI (nI (nL [r] (0:Nat)) (↑j:Int).toNat) (nI b (↑j:Int).toNat)))/\fits .i64 (nI (nL [v2.2] (0:Nat)) (↑v2.1:Int).toNat*Int.tdiv (nI b (↑j:Int).toNat) (gcdI (nI (nL [r] (0:Nat)) (↑j:Int).toNat) (nI b (↑j:Int).toNat)))/\((0:Int)<=(↑v2.1:Int)/\(↑v2.1:Int)<(↑b.length:Int))/\gcdI (nI (nL [r] (0:Nat)) (↑j:Int).toNat) (nI b (↑j:Int).toNat)≠(0:Int)/\fits .i64 (Int.tdiv (nI (nL [r] (0:Nat)) (↑j:Int).toNat) (gcdI (nI (nL [r] (0:Nat)) (↑j:Int).toNat) (nI b (↑j:Int).toNat)))/\fits .i64 (nI b (↑v2.1:Int).toNat*Int.tdiv (nI (nL [r] (0:Nat)) (↑j:Int).toNat) (gcdI (nI (nL [r] (0:Nat)) (↑j:Int).toNat) (nI b (↑j:Int).toNat)))/\fits .i64 (nI (nL [v2.2] (0:Nat)) (↑v2.1:Int).toNat*Int.tdiv (nI b (↑j:Int).toNat) (gcdI (nI (nL [r] (0:Nat)) (↑j:Int).toNat) (nI b (↑j:Int).toNat))-nI b (↑v2.1:Int).toNat*Int.tdiv (nI (nL [r] (0:Nat)) (↑j:Int).toNat) (gcdI (nI (nL [r] (0:Nat)) (↑j:Int).toNat) (nI b (↑j:Int).toNat)))/\((0:Int)<=(↑v2.1:Int)/\(↑v2.1:Int)<(↑(nL [v2.2] (0:Nat)).length:Int))/\(↑v2.1:Int).toNat<(nL [v2.2] (0:Nat)).length/\fits .i64 ((↑v2.1:Int)+(1:Int))/\∃(v5:Nat × List Int),(v5.1<=(nL [r] (0:Nat)).length/\v5.2=clK (nL [r] (0:Nat)) b (↑j:Int).toNat v5.1)/\(nL [r] (0:Nat)).length-v5.1<(nL [r] (0:Nat)).length-v2.1/\(some (0:Nat)=some (0:Nat)/\(↑v2.1:Int)+(1:Int)=(↑v5.1:Int)/\True)/\(List.set [v2.2] (0:Nat) (List.set (nL [v2.2] (0:Nat)) (↑v2.1:Int).toNat (nI (nL [v2.2] (0:Nat)) (↑v2.1:Int).toNat*Int.tdiv (nI b (↑j:Int).toNat) (gcdI (nI (nL [r] (0:Nat)) (↑j:Int).toNat) (nI b (↑j:Int).toNat))-nI b (↑v2.1:Int).toNat*Int.tdiv (nI (nL [r] (0:Nat)) (↑j:Int).toNat) (gcdI (nI (nL [r] (0:Nat)) (↑j:Int).toNat) (nI b (↑j:Int).toNat))))=[v5.2]/\True/\T=T)/\True/\True/\True/\True/\True/\True/\True/\True/\True/\True/\True)/\(decide ((↑v2.1:Int)<(↑(nL [r] (0:Nat)).length:Int))=false->wm3 (nL [qf0 (Ty.list Q0) [v2.2] (0:Nat)] (0:Nat))/\List.set [v2.2] (0:Nat) (qf0 (Ty.list Q0) [qe6 (nL [qf0 (Ty.list Q0) [v2.2] (0:Nat)] (0:Nat))] (0:Nat))=[qy7 (nL [r] (0:Nat)) b (↑j:Int).toNat]/\T=T/\True/\True)) ?_
 obtain⟨_,h⟩:=h
 rw[zaq] at h
 have hB:BIG=4000000000000000000:=rfl
 have hB2:yd2=2000000000000000000:=rfl
 have hl:=h.len
 have hj:=h.at_
 have hmx:=h.max
 refine⟨hj,hj,ow,⟨by rw[<- hB]; exact h.bdr,by rw[<- hB]; exact h.bdb⟩,(),(0,r),⟨zae _,(q4k (.int .i64) _ r).symm⟩,⟨rfl,rfl⟩,?_⟩
 rintro⟨k,l⟩ ⟨h1,h2⟩
 dsimp only at h1 h2 ⊢
 subst h2
 have hkl:=x6r r b j k
 refine⟨λhlt=>?_,λhge=>?_⟩
 ·have hg:=qn9 (a:=nI r j) (b:=nI b j) (.inr h.ne)
  have k1:=qt7 (g:=gcdI (nI r j) (nI b j)) h.bdr
  have k2:=qt7 (g:=gcdI (nI r j) (nI b j)) h.bdb
  have k3:=h.one k hlt
  have k4:=h.two k hlt
  rw[yd3 r b j k hlt]
  unfold q1 at k3
  unfold q2 at k4
  exact⟨ow,ow,ow,qa6,qa6,ow,ow,qa6,qa6,qa6,ow,ow,qa6,(k+1,clK r b j (k+1)),⟨ow,rfl⟩,ow,by rfl,x0n r b j k⟩
 ·obtain rfl:k=r.length:=ow
  rw[x6s]
  exact⟨w7c h,rfl⟩
def ixT (t:Ty) (f:t.den->Bool) (l:List t.den):Int:=if l.any f then(l.findIdx f:Int) else -1
theorem wf6 (t:Ty) (f:t.den->Bool) (l:List t.den) (k:Nat) (hk:k<l.length) (h:∀i,i<k->f (qf0 t l i)=false) (hf:f (qf0 t l k)=true):ixT t f l=k:=by
 have hk':f l[k]=true:=by grind [qp5]
 unfold ixT
 rw[zap (zbu.2 ⟨_,zec hk,hk'⟩)]
 grind [List.findIdx_eq,qp5]
theorem q2n (t:Ty) (f:t.den->Bool) (l:List t.den) (h:∀i,i<l.length->f (qf0 t l i)=false):ixT t f l=-1:=by
 unfold ixT
 rw[zaj]
 intro he
 obtain⟨x,hx,hf⟩:=zbu.1 he
 obtain⟨i,hi,rfl⟩:=zb6 hx
 grind [qp5]
theorem qr8 (t:Ty) (f:t.den->Bool) (l:List t.den):decide (0<=ixT t f l)=l.any f:=by
 grind [ixT]
theorem wv3 (t:Ty) (f:t.den->Bool) (l:List t.den):ixT t f l<l.length/\-1<=ixT t f l:=by
 grind [ixT,List.findIdx_lt_length,List.any_eq_true]
def ym1 (t:Ty) (l:List t.den) (f:t.den->Bool):Nat->Option Inv
 | 0=>some (Inv.of [8] 0 (λk:Nat=>[(8,.lit (.int .i64 k))]) (λ_=>[]) (λk=>k<=l.length/\∀i,i<k->f (qf0 t l i)=false) (λk=>l.length-k))
 | _=>none
abbrev y3m (fs:List (Nat × qa8)):qa8:=hspec fs true none [.d (.list (.list (.int .i64))),.fn [.list (.int .i64)] .bool] [qc0] (λx=>x.1.length<=1000000/\∀i,i<x.1.length->x.2.1.1 (qf0 (.list (.int .i64)) x.1 i,())) (λx=>(ixT (.list (.int .i64)) (λe=>x.2.1.2 (e,())) x.1,()))
theorem q8p {fs:List (Nat × qa8)} (hfs:SpecsOk Tryz.prog fs):Meets Tryz.prog 68 (y3m fs):=by
 refine qk7 hfs (snd (SpecsOk.nil _)) Tryz.func68 rfl rfl (λx=>ym1 (.list (.int .i64)) x.1 (λe=>x.2.1.2 (e,()))) (λ_=>by kernel_rfl) dc ?_
 rintro⟨l,⟨p,f⟩,⟨⟩⟩ h
 revert l p f
 intro(l:List (Ty.den (.list (.int .i64)))) (p:qa3 [.list (.int .i64)]->Prop) (f:qa3 [.list (.int .i64)]->Bool) (h:l.length<=1000000/\∀i,i<l.length->p (qf0 (.list (.int .i64)) l i,()))
 refine vcs (∃(v0:Unit),∃(v1:Nat),(v1<=l.length/\∀(v2:Nat),Nat.le (Nat.succ v2) v1->f (nL l v2,())=false)/\(((0:Int)=(↑v1:Int)/\True)/\True)/\∀(v2:Nat),(v2<=l.length/\∀(v4:Nat),Nat.le (Nat.succ v4) v2->f (nL l v4,())=false)->(decide ((↑v2:Int)<(↑l.length:Int))=true->((0:Int)<=(↑v2:Int)/\(↑v2:Int)<(↑l.length:Int))/\p (nL l v2,())/\(f (nL l v2,())=true->(↑v2:Int)=ixT (Ty.list (Ty.int .i64)) (λ(v6:List Int)=>f (v6,())) l)/\(f (nL l v2,())=false->fits .i64 ((↑v2:Int)+(1:Int))/\∃(v6:Nat),(v6<=l.length/\∀(v7:Nat),Nat.le (Nat.succ v7) v6->f (nL l v7,())=false)/\l.length-v6<l.length-v2/\((↑v2:Int)+(1:Int)=(↑v6:Int)/\True)/\True))/\(decide ((↑v2:Int)<(↑l.length:Int))=false->(-1:Int)=ixT (Ty.list (Ty.int .i64)) (λ(v5:List Int)=>f (v5,())) l)) ?_
 obtain⟨hl,hp⟩:=h
 refine⟨(),0,⟨zae _,λi hi=>absurd hi ow⟩,rfl,λk ⟨hk,hall⟩=>?_⟩
 refine⟨λhlt=>⟨hlt,hp k hlt,λhf=>(wf6 (.list (.int .i64)) (λe=>f (e,())) l k hlt hall hf).symm,λhf=>⟨qa6,k+1,⟨ow,λi hi=>?_⟩,ow,ow⟩⟩,λhge=>(q2n (.list (.int .i64)) (λe=>f (e,())) l λi hi=>hall i ow).symm⟩
 grind
abbrev y3n (fs:List (Nat × qa8)):qa8:=hspec fs true none [.d (.list (.int .i64)),.fn [.int .i64] .bool] [qc0] (λx=>x.1.length<=1000000/\∀i,i<x.1.length->x.2.1.1 (qf0 (.int .i64) x.1 i,())) (λx=>(ixT (.int .i64) (λe=>x.2.1.2 (e,())) x.1,()))
theorem wv4 {fs:List (Nat × qa8)} (hfs:SpecsOk Tryz.prog fs):Meets Tryz.prog 115 (y3n fs):=by
 refine qk7 hfs (snd (SpecsOk.nil _)) Tryz.func115 rfl rfl (λx=>ym1 (.int .i64) x.1 (λe=>x.2.1.2 (e,()))) (λ_=>by kernel_rfl) dc ?_
 rintro⟨l,⟨p,f⟩,⟨⟩⟩ h
 revert l p f
 intro(l:List (Ty.den (.int .i64))) (p:qa3 [.int .i64]->Prop) (f:qa3 [.int .i64]->Bool) (h:l.length<=1000000/\∀i,i<l.length->p (qf0 (.int .i64) l i,()))
 refine vcs (∃(v0:Unit),∃(v1:Nat),(v1<=l.length/\∀(v2:Nat),Nat.le (Nat.succ v2) v1->f (nI l v2,())=false)/\(((0:Int)=(↑v1:Int)/\True)/\True)/\∀(v2:Nat),(v2<=l.length/\∀(v4:Nat),Nat.le (Nat.succ v4) v2->f (nI l v4,())=false)->(decide ((↑v2:Int)<(↑l.length:Int))=true->((0:Int)<=(↑v2:Int)/\(↑v2:Int)<(↑l.length:Int))/\p (nI l v2,())/\(f (nI l v2,())=true->(↑v2:Int)=ixT (Ty.int .i64) (λ(v6:Int)=>f (v6,())) l)/\(f (nI l v2,())=false->fits .i64 ((↑v2:Int)+(1:Int))/\∃(v6:Nat),(v6<=l.length/\∀(v7:Nat),Nat.le (Nat.succ v7) v6->f (nI l v7,())=false)/\l.length-v6<l.length-v2/\((↑v2:Int)+(1:Int)=(↑v6:Int)/\True)/\True))/\(decide ((↑v2:Int)<(↑l.length:Int))=false->(-1:Int)=ixT (Ty.int .i64) (λ(v5:Int)=>f (v5,())) l)) ?_
 obtain⟨hl,hp⟩:=h
 refine⟨(),0,⟨zae _,λi hi=>absurd hi ow⟩,rfl,λk ⟨hk,hall⟩=>?_⟩
 refine⟨λhlt=>⟨hlt,hp k hlt,λhf=>(wf6 (.int .i64) (λe=>f (e,())) l k hlt hall hf).symm,λhf=>⟨qa6,k+1,⟨ow,λi hi=>?_⟩,ow,ow⟩⟩,λhge=>(q2n (.int .i64) (λe=>f (e,())) l λi hi=>hall i ow).symm⟩
 grind
abbrev y3o (fs:List (Nat × qa8)):qa8:=hspec fs true none [.d (.list (.prod (.int .i64) (.int .i64))),.fn [.prod (.int .i64) (.int .i64)] .bool] [qc0] (λx=>x.1.length<=1000000/\∀i,i<x.1.length->x.2.1.1 (qf0 (.prod (.int .i64) (.int .i64)) x.1 i,())) (λx=>(ixT (.prod (.int .i64) (.int .i64)) (λe=>x.2.1.2 (e,())) x.1,()))
theorem xf4 {fs:List (Nat × qa8)} (hfs:SpecsOk Tryz.prog fs):Meets Tryz.prog 265 (y3o fs):=by
 refine qk7 hfs (snd (SpecsOk.nil _)) Tryz.func265 rfl rfl (λx=>ym1 (.prod (.int .i64) (.int .i64)) x.1 (λe=>x.2.1.2 (e,()))) (λ_=>by kernel_rfl) dc ?_
 rintro⟨l,⟨p,f⟩,⟨⟩⟩ h
 revert l p f
 intro(l:List (Ty.den (.prod (.int .i64) (.int .i64)))) (p:qa3 [.prod (.int .i64) (.int .i64)]->Prop) (f:qa3 [.prod (.int .i64) (.int .i64)]->Bool) (h:l.length<=1000000/\∀i,i<l.length->p (qf0 (.prod (.int .i64) (.int .i64)) l i,()))
 refine vcs (∃(v0:Unit),∃(v1:Nat),(v1<=l.length/\∀(v2:Nat),Nat.le (Nat.succ v2) v1->f (qf0 (Ty.prod (Ty.int .i64) (Ty.int .i64)) l v2,())=false)/\(((0:Int)=(↑v1:Int)/\True)/\True)/\∀(v2:Nat),(v2<=l.length/\∀(v4:Nat),Nat.le (Nat.succ v4) v2->f (qf0 (Ty.prod (Ty.int .i64) (Ty.int .i64)) l v4,())=false)->(decide ((↑v2:Int)<(↑l.length:Int))=true->((0:Int)<=(↑v2:Int)/\(↑v2:Int)<(↑l.length:Int))/\p (((qf0 (Ty.prod (Ty.int .i64) (Ty.int .i64)) l v2).1,(qf0 (Ty.prod (Ty.int .i64) (Ty.int .i64)) l v2).2),())/\(f (((qf0 (Ty.prod (Ty.int .i64) (Ty.int .i64)) l v2).1,(qf0 (Ty.prod (Ty.int .i64) (Ty.int .i64)) l v2).2),())=true->(↑v2:Int)=ixT (Ty.prod (Ty.int .i64) (Ty.int .i64)) (λ(v6:Int × Int)=>f (v6,())) l)/\(f (((qf0 (Ty.prod (Ty.int .i64) (Ty.int .i64)) l v2).1,(qf0 (Ty.prod (Ty.int .i64) (Ty.int .i64)) l v2).2),())=false->fits .i64 ((↑v2:Int)+(1:Int))/\∃(v6:Nat),(v6<=l.length/\∀(v7:Nat),Nat.le (Nat.succ v7) v6->f (qf0 (Ty.prod (Ty.int .i64) (Ty.int .i64)) l v7,())=false)/\l.length-v6<l.length-v2/\((↑v2:Int)+(1:Int)=(↑v6:Int)/\True)/\True))/\(decide ((↑v2:Int)<(↑l.length:Int))=false->(-1:Int)=ixT (Ty.prod (Ty.int .i64) (Ty.int .i64)) (λ(v5:Int × Int)=>f (v5,())) l)) ?_
 obtain⟨hl,hp⟩:=h
 refine⟨(),0,⟨zae _,λi hi=>absurd hi ow⟩,rfl,λk ⟨hk,hall⟩=>?_⟩
 refine⟨λhlt=>⟨hlt,hp k hlt,λhf=>(wf6 (.prod (.int .i64) (.int .i64)) (λe=>f (e,())) l k hlt hall hf).symm,λhf=>⟨qa6,k+1,⟨ow,λi hi=>?_⟩,ow,ow⟩⟩,λhge=>(q2n (.prod (.int .i64) (.int .i64)) (λe=>f (e,())) l λi hi=>hall i ow).symm⟩
 grind
abbrev y3p (fs:List (Nat × qa8)):qa8:=hspec fs true none [.d (.list (.list (.int .i64))),.fn [.list (.int .i64)] .bool] [.bool] (λx=>x.1.length<=1000000/\∀i,i<x.1.length->x.2.1.1 (qf0 (.list (.int .i64)) x.1 i,())) (λx=>(x.1.any λe=>x.2.1.2 (e,()),()))
theorem wv5 {fs:List (Nat × qa8)} (hfs:SpecsOk Tryz.prog fs):Meets Tryz.prog 88 (y3p fs):=by
 refine qk7 hfs (snd (SpecsOk.cons (q8p (fs:=fs) hfs) (SpecsOk.nil _))) Tryz.func88 rfl rfl (λx=>λ_=>none) (λ_=>by kernel_rfl) dc ?_
 rintro⟨l,⟨p,f⟩,⟨⟩⟩ h
 revert l p f
 intro(l:List (Ty.den (.list (.int .i64)))) (p:qa3 [.list (.int .i64)]->Prop) (f:qa3 [.list (.int .i64)]->Bool) (h:l.length<=1000000/\∀i,i<l.length->p (qf0 (.list (.int .i64)) l i,()))
 refine vcs (∃(v0:qa3 [Ty.list (Ty.int .i64)]->Prop),∃(v1:qa3 [Ty.list (Ty.int .i64)]->Bool),([Ty.list (Ty.int .i64)]=[Ty.list (Ty.int .i64)]/\Ty.bool=Ty.bool/\p ≍ v0/\f ≍ v1)/\(l.length<=(1000000:Nat)/\∀(v2:Nat),v2<l.length->v0 (nL l v2,()))/\decide ((0:Int)<=ixT (Ty.list (Ty.int .i64)) (λ(v2:List Int)=>v1 (v2,())) l)=List.any l λ(v2:List Int)=>f (v2,())) ?_
 exact⟨p,f,⟨HEq.rfl,HEq.rfl⟩,h,qr8 (.list (.int .i64)) (λe=>f (e,())) l⟩
abbrev y3q (fs:List (Nat × qa8)):qa8:=hspec fs true none [.d (.list (.int .i64)),.fn [.int .i64] .bool] [.bool] (λx=>x.1.length<=1000000/\∀i,i<x.1.length->x.2.1.1 (qf0 (.int .i64) x.1 i,())) (λx=>(x.1.any λe=>x.2.1.2 (e,()),()))
theorem qy8 {fs:List (Nat × qa8)} (hfs:SpecsOk Tryz.prog fs):Meets Tryz.prog 73 (y3q fs):=by
 refine qk7 hfs (snd (SpecsOk.cons (wv4 (fs:=fs) hfs) (SpecsOk.nil _))) Tryz.func73 rfl rfl (λx=>λ_=>none) (λ_=>by kernel_rfl) dc ?_
 rintro⟨l,⟨p,f⟩,⟨⟩⟩ h
 revert l p f
 intro(l:List (Ty.den (.int .i64))) (p:qa3 [.int .i64]->Prop) (f:qa3 [.int .i64]->Bool) (h:l.length<=1000000/\∀i,i<l.length->p (qf0 (.int .i64) l i,()))
 refine vcs (∃(v0:qa3 [Ty.int .i64]->Prop),∃(v1:qa3 [Ty.int .i64]->Bool),([Ty.int .i64]=[Ty.int .i64]/\Ty.bool=Ty.bool/\p ≍ v0/\f ≍ v1)/\(l.length<=(1000000:Nat)/\∀(v2:Nat),v2<l.length->v0 (nI l v2,()))/\decide ((0:Int)<=ixT (Ty.int .i64) (λ(v2:Int)=>v1 (v2,())) l)=List.any l λ(v2:Int)=>f (v2,())) ?_
 exact⟨p,f,⟨HEq.rfl,HEq.rfl⟩,h,qr8 (.int .i64) (λe=>f (e,())) l⟩
abbrev y3r (fs:List (Nat × qa8)):qa8:=hspec fs true none [.d (.list (.prod (.int .i64) (.int .i64))),.fn [.prod (.int .i64) (.int .i64)] .bool] [.bool] (λx=>x.1.length<=1000000/\∀i,i<x.1.length->x.2.1.1 (qf0 (.prod (.int .i64) (.int .i64)) x.1 i,())) (λx=>(x.1.any λe=>x.2.1.2 (e,()),()))
theorem xf5 {fs:List (Nat × qa8)} (hfs:SpecsOk Tryz.prog fs):Meets Tryz.prog 213 (y3r fs):=by
 refine qk7 hfs (snd (SpecsOk.cons (xf4 (fs:=fs) hfs) (SpecsOk.nil _))) Tryz.func213 rfl rfl (λx=>λ_=>none) (λ_=>by kernel_rfl) dc ?_
 rintro⟨l,⟨p,f⟩,⟨⟩⟩ h
 revert l p f
 intro(l:List (Ty.den (.prod (.int .i64) (.int .i64)))) (p:qa3 [.prod (.int .i64) (.int .i64)]->Prop) (f:qa3 [.prod (.int .i64) (.int .i64)]->Bool) (h:l.length<=1000000/\∀i,i<l.length->p (qf0 (.prod (.int .i64) (.int .i64)) l i,()))
 refine vcs (∃(v0:qa3 [Ty.prod (Ty.int .i64) (Ty.int .i64)]->Prop),∃(v1:qa3 [Ty.prod (Ty.int .i64) (Ty.int .i64)]->Bool),([Ty.prod (Ty.int .i64) (Ty.int .i64)]=[Ty.prod (Ty.int .i64) (Ty.int .i64)]/\Ty.bool=Ty.bool/\p ≍ v0/\f ≍ v1)/\(l.length<=(1000000:Nat)/\∀(v2:Nat),v2<l.length->v0 (qf0 (Ty.prod (Ty.int .i64) (Ty.int .i64)) l v2,()))/\decide ((0:Int)<=ixT (Ty.prod (Ty.int .i64) (Ty.int .i64)) (λ(v2:Int × Int)=>v1 (v2,())) l)=List.any l λ(v2:Int × Int)=>f (v2,())) ?_
 exact⟨p,f,⟨HEq.rfl,HEq.rfl⟩,h,qr8 (.prod (.int .i64) (.int .i64)) (λe=>f (e,())) l⟩
def inB (n lo hi:Int):Bool:=decide (lo<=n) && decide (n<=hi)
theorem qh5 {n lo hi:Int}:inB n lo hi=true↔lo<=n/\n<=hi:=by simp[inB]
abbrev wm4:qa8:=qd9 true none [qc0,qc0,qc0] [.bool] (λ_=>True) (λx=>(inB x.1 x.2.1 x.2.2.1,()))
theorem qu6:Meets Tryz.prog 39 wm4:=by
 refine mt0 (SpecsOk.nil _) Tryz.func39 ?_
 rintro⟨n,lo,hi,⟨⟩⟩ -
 revert n lo hi
 intro(n:Int) (lo:Int) (hi:Int)
 refine vcs ((decide (lo<=n)=true->decide (n<=hi)=inB n lo hi)/\(decide (lo<=n)=false->false=inB n lo hi)) ?_
 grind [inB]
theorem qq4:Meets Tryz.prog 117 wm4:=by
 refine mt0 (SpecsOk.nil _) Tryz.func117 ?_
 rintro⟨n,lo,hi,⟨⟩⟩ -
 revert n lo hi
 intro(n:Int) (lo:Int) (hi:Int)
 refine vcs ((decide (lo<=n)=true->decide (n<=hi)=inB n lo hi)/\(decide (lo<=n)=false->false=inB n lo hi)) ?_
 grind [inB]
abbrev x4d (fs:List (Nat × qa8)):qa8:=hspec fs true none [.d qc0,.capfn [qc0] .bool] [.bool] (λx=>x.2.1.1 (x.1,())) (λx=>(!(x.2.1.2 (x.1,())),()))
theorem w1w {fs:List (Nat × qa8)} (hfs:SpecsOk Tryz.prog fs):Meets Tryz.prog 137 (x4d fs):=by
 refine qk7 hfs (snd (SpecsOk.nil _)) Tryz.func137 rfl rfl (λ_ _=>none) (λ_=>by kernel_rfl) dc ?_
 rintro⟨n,⟨p,f⟩,⟨⟩⟩ h
 revert n p f
 intro(n:Int) (p:qa3 [.int .i64]->Prop) (f:qa3 [.int .i64]->Bool) (h:p (n,()))
 refine vcr (p (n,())/\(!f (n,()))=!f (n,())) ?_
 grind
abbrev x4e (fs:List (Nat × qa8)):qa8:=hspec fs true none [.d qe8,.capfn [qe8] .bool] [.bool] (λx=>x.2.1.1 (x.1,())) (λx=>(!(x.2.1.2 (x.1,())),()))
theorem w1x {fs:List (Nat × qa8)} (hfs:SpecsOk Tryz.prog fs):Meets Tryz.prog 89 (x4e fs):=by
 refine qk7 hfs (snd (SpecsOk.nil _)) Tryz.func89 rfl rfl (λ_ _=>none) (λ_=>by kernel_rfl) dc ?_
 rintro⟨n,⟨p,f⟩,⟨⟩⟩ h
 revert n p f
 intro(n:List Int) (p:qa3 [.list (.int .i64)]->Prop) (f:qa3 [.list (.int .i64)]->Bool) (h:p (n,()))
 refine vcr (p (n,())/\(!f (n,()))=!f (n,())) ?_
 grind
abbrev fsI (fs:List (Nat × qa8)):List (Nat × qa8):=[(137,x4d fs)]
abbrev fsL (fs:List (Nat × qa8)):List (Nat × qa8):=[(89,x4e fs)]
abbrev yu1 (fs:List (Nat × qa8)):qa8:=hspec fs true none [.d qe8,.fn [qc0] .bool] [.bool] (λx=>x.1.length<=1000000/\∀i,i<x.1.length->x.2.1.1 (nI x.1 i,())) (λx=>(x.1.all λe=>x.2.1.2 (e,()),()))
abbrev yu2 (fs:List (Nat × qa8)):qa8:=hspec fs true none [.d qf9,.fn [qe8] .bool] [.bool] (λx=>x.1.length<=1000000/\∀i,i<x.1.length->x.2.1.1 (nL x.1 i,())) (λx=>(x.1.all λe=>x.2.1.2 (e,()),()))
theorem wf7 {fs:List (Nat × qa8)} (hfs:SpecsOk Tryz.prog fs):Meets Tryz.prog 90 (yu1 fs):=by
 refine qk7 hfs (snd (SpecsOk.cons (qy8 (fs:=fsI fs) (SpecsOk.cons (w1w hfs) (SpecsOk.nil _))) (SpecsOk.nil _))) Tryz.func90 rfl rfl (λ_ _=>none) (λ_=>by kernel_rfl) dc ?_
 rintro⟨l,⟨p,f⟩,⟨⟩⟩ h
 revert l p f
 intro(l:List Int) (p:qa3 [.int .i64]->Prop) (f:qa3 [.int .i64]->Bool) (h:l.length<=1000000/\∀i,i<l.length->p (nI l i,()))
 refine vcs (∃(v0:qa3 [Ty.int .i64]->Prop),∃(v1:qa3 [Ty.int .i64]->Bool),(∀(v2:Int × qa3._f [] PUnit.unit),v0 v2->∃(v4:qa3 [qc0]->Prop),∃(v5:qa3 [qc0]->Bool),([qc0]=[qc0]/\Ty.bool=Ty.bool/\p ≍ v4/\f ≍ v5)/\v4 (v2.1,())/\(!v5 (v2.1,()))=v1 v2)/\(l.length<=(1000000:Nat)/\∀(v2:Nat),v2<l.length->v0 (nI l v2,()))/\(!List.any l λ(v2:Int)=>v1 (v2,()))=List.all l λ(v2:Int)=>f (v2,())) ?_
 exact⟨p,λx=>!f x,λx hx=>⟨p,f,⟨HEq.rfl,HEq.rfl⟩,hx,(zdz (f x)).symm⟩,h,by grind⟩
theorem w7d {fs:List (Nat × qa8)} (hfs:SpecsOk Tryz.prog fs):Meets Tryz.prog 40 (yu2 fs):=by
 refine qk7 hfs (snd (SpecsOk.cons (wv5 (fs:=fsL fs) (SpecsOk.cons (w1x hfs) (SpecsOk.nil _))) (SpecsOk.nil _))) Tryz.func40 rfl rfl (λ_ _=>none) (λ_=>by kernel_rfl) dc ?_
 rintro⟨l,⟨p,f⟩,⟨⟩⟩ h
 revert l p f
 intro(l:List (List Int)) (p:qa3 [.list (.int .i64)]->Prop) (f:qa3 [.list (.int .i64)]->Bool) (h:l.length<=1000000/\∀i,i<l.length->p (nL l i,()))
 refine vcs (∃(v0:qa3 [Ty.list (Ty.int .i64)]->Prop),∃(v1:qa3 [Ty.list (Ty.int .i64)]->Bool),(∀(v2:List Int × qa3._f [] PUnit.unit),v0 v2->∃(v4:qa3 [qe8]->Prop),∃(v5:qa3 [qe8]->Bool),([qe8]=[qe8]/\Ty.bool=Ty.bool/\p ≍ v4/\f ≍ v5)/\v4 (v2.1,())/\(!v5 (v2.1,()))=v1 v2)/\(l.length<=(1000000:Nat)/\∀(v2:Nat),v2<l.length->v0 (nL l v2,()))/\(!List.any l λ(v2:List Int)=>v1 (v2,()))=List.all l λ(v2:List Int)=>f (v2,())) ?_
 exact⟨p,λx=>!f x,λx hx=>⟨p,f,⟨HEq.rfl,HEq.rfl⟩,hx,(zdz (f x)).symm⟩,h,by grind⟩
abbrev yd4:qa8:=qd9 true none [qc0] [.bool] (λ_=>True) (λx=>(inB x.1 (-1) 1,()))
theorem w7e:Meets Tryz.prog 91 yd4:=by
 refine mt0 (SpecsOk.cons qu6 (SpecsOk.nil _)) Tryz.func91 ?_
 rintro⟨n,⟨⟩⟩ -
 revert n
 intro(n:Int)
 refine vcr (True/\inB n (-1:Int) (1:Int)=inB n (-1:Int) (1:Int)) ?_
 simp
def rowB (l:List Int):Bool:=inB l.length 1 10 && l.all λn=>inB n (-1) 1
abbrev y3s:qa8:=qd9 true none [qe8] [.bool] (λ_=>True) (λx=>(rowB x.1,()))
theorem xf6:Meets Tryz.prog 42 y3s:=by
 refine mt0 (SpecsOk.cons qu6 (SpecsOk.cons (wf7 (fs:=[(91,yd4)]) (SpecsOk.cons w7e (SpecsOk.nil _))) (SpecsOk.nil _))) Tryz.func42 ?_
 rintro⟨l,⟨⟩⟩ -
 revert l
 intro(l:List Int)
 refine vcs (True/\(inB (↑l.length:Int) (1:Int) (10:Int)=true->∃(v1:qa3 [qc0]->Prop),∃(v2:qa3 [qc0]->Bool),(∀(v3:Int × qa3._f [] PUnit.unit),v1 v3->True/\inB v3.1 (-1:Int) (1:Int)=v2 v3)/\(l.length<=(1000000:Nat)/\∀(v3:Nat),v3<l.length->v1 (nI l v3,()))/\(List.all l λ(v3:Int)=>v2 (v3,()))=rowB l)/\(inB (↑l.length:Int) (1:Int) (10:Int)=false->false=rowB l)) ?_
 refine⟨λh=>⟨λ_=>True,λx=>inB x.1 (-1) 1,λ_ _=>rfl,⟨by grind [qh5],λ_ _=>trivial⟩,by simp[rowB,h]⟩,λh=>by simp[rowB,h]⟩
abbrev y2f:qa8:=hspec [] true none [.d qe8,.cap qf9] [.bool] (λx=>0<x.2.1.length) (λx=>(decide (x.1.length=(nL x.2.1 0).length) && rowB x.1,()))
theorem xf7:Meets Tryz.prog 41 y2f:=by
 refine qk7 (SpecsOk.nil _) (snd (SpecsOk.cons xf6 (SpecsOk.nil _))) Tryz.func41 rfl rfl (λ_ _=>none) (λ_=>by kernel_rfl) dc ?_
 rintro⟨l,m,⟨⟩⟩ h
 revert l m
 intro(l:List Int) (m:List (List Int)) (h:0<m.length)
 refine vcs (((0:Int)<=(0:Int)/\(0:Int)<(↑m.length:Int))/\(((↑l.length:Int)==(↑(nL m (0:Nat)).length:Int))=true->True/\rowB l=(decide (l.length=(nL m (0:Nat)).length) && rowB l))/\(((↑l.length:Int)==(↑(nL m (0:Nat)).length:Int))=false->false=(decide (l.length=(nL m (0:Nat)).length) && rowB l))) ?_
 grind
def qb7 (m:List (List Int)):Bool:=inB m.length 1 6 && m.all λl=>decide (l.length=(nL m 0).length) && rowB l
abbrev sMV:qa8:=qd9 true none [qf9] [.bool] (λ_=>True) (λx=>(qb7 x.1,()))
theorem qs7:Meets Tryz.prog 9 sMV:=by
 refine mt0 (SpecsOk.cons qu6 (SpecsOk.cons (w7d (fs:=[(41,y2f)]) (SpecsOk.cons xf7 (SpecsOk.nil _))) (SpecsOk.nil _))) Tryz.func9 ?_
 rintro⟨m,⟨⟩⟩ -
 revert m
 intro(m:List (List Int))
 refine vcs (True/\(inB (↑m.length:Int) (1:Int) (6:Int)=true->∃(v1:qa3 [qe8]->Prop),∃(v2:qa3 [qe8]->Bool),(∀(v3:List Int × qa3._f [] PUnit.unit),v1 v3->(0:Nat)<m.length/\(decide (v3.1.length=(nL m (0:Nat)).length) && rowB v3.1)=v2 v3)/\(m.length<=(1000000:Nat)/\∀(v3:Nat),v3<m.length->v1 (nL m v3,()))/\(List.all m λ(v3:List Int)=>v2 (v3,()))=qb7 m)/\(inB (↑m.length:Int) (1:Int) (6:Int)=false->false=qb7 m)) ?_
 refine⟨λh=>?_,λh=>by simp[qb7,h]⟩
 have hm:=qh5.1 h
 exact⟨λ_=>True,λx=>decide (x.1.length=(nL m 0).length) && rowB x.1,λx _=>⟨ow,rfl⟩,⟨ow,λ_ _=>trivial⟩,by simp[qb7,h]⟩
abbrev x0o:qa8:=hspec [] true none [.d qc0,.cap qc0] [.bool] (λx=>0<=x.2.1/\x.2.1<=BIG) (λx=>(!(inB x.1 (0-x.2.1) x.2.1),()))
theorem q5i:Meets Tryz.prog 116 x0o:=by
 refine qk7 (SpecsOk.nil _) (snd (SpecsOk.cons qq4 (SpecsOk.nil _))) Tryz.func116 rfl rfl (λ_ _=>none) (λ_=>by kernel_rfl) dc ?_
 rintro⟨n,k,⟨⟩⟩ h
 revert n k
 intro(n:Int) (k:Int) (h:0<=k/\k<=BIG)
 refine vcs (fits .i64 ((0:Int)-k)/\True/\(!inB n ((0:Int)-k) k)=!inB n ((0:Int)-k) k) ?_
 grind [BIG,qa6]
abbrev y3t:qa8:=wu3 false none [qc0] (λ_=>True) (λx=>.clo 116 (.cons (.imm (.cons (.lit (.int .i64 x.1)) .nil) 0) .nil))
theorem q8q:Meets Tryz.prog 74 y3t:=by
 refine q6j (snd (SpecsOk.nil _)) Tryz.func74 rfl rfl (λ_ _=>none) (λ_=>by kernel_rfl) dc ?_
 rintro⟨m,⟨⟩⟩ -
 revert m
 intro(m:Int)
 refine vcr (((m=m/\True)/\(0:Nat)=(0:Nat))/\True) ?_
 simp
abbrev yd5:qa8:=hspec [] true none [.d qc0,.cap qc0] [.bool] (λx=>0<=x.2.1/\x.2.1<=BIG) (λx=>(!(inB x.1 0 (x.2.1-1)),()))
theorem w7f:Meets Tryz.prog 191 yd5:=by
 refine qk7 (SpecsOk.nil _) (snd (SpecsOk.cons qq4 (SpecsOk.nil _))) Tryz.func191 rfl rfl (λ_ _=>none) (λ_=>by kernel_rfl) dc ?_
 rintro⟨n,k,⟨⟩⟩ h
 revert n k
 intro(n:Int) (k:Int) (h:0<=k/\k<=BIG)
 refine vcs (fits .i64 (k-(1:Int))/\True/\(!inB n (0:Int) (k-(1:Int)))=!inB n (0:Int) (k-(1:Int))) ?_
 grind [BIG,qa6]
def x4f (l:List Int):Bool:=(List.range l.length).all λi=>decide (i=0) || decide (nI l (i-1)<nI l i)
def w9c (n:Int) (l:List Int):Int:=if x4f l=false then 7 else if l.any (λp=>!(inB p 0 (n-1))) then 5 else 0
theorem q7h {l:List Int}:x4f l=true↔∀i,0<i->i<l.length->nI l (i-1)<nI l i:=by
 unfold x4f
 grind
structure AscTo (l:List Int) (k:Nat):Prop where
 le:k<=l.length
 lt:∀i,0<i->i<k->nI l (i-1)<nI l i
theorem AscTo.step {l:List Int} {k:Nat} (h:AscTo l k) (hk:k<l.length) (h1:k=0\/nI l (k-1)<nI l k):AscTo l (k+1):=
 ⟨hk,λi h0 hi=>by
  by_cases e:i=k
  ·grind
  ·exact h.lt i h0 ow⟩
theorem AscTo.all {l:List Int} (h:AscTo l l.length):x4f l=true:=q7h.2 h.lt
theorem x0p {l:List Int} {k:Nat} (h0:0<k) (hk:k<l.length) (h:nI l k<=nI l (k-1)):x4f l=false:=by
 grind [x4f,q7h]
def yu3 (n:Int) (l:List Int):Nat->Option Inv
 | 0=>some (Inv.of [9] 1 (λk:Nat=>[(9,.lit (.int .i64 k))]) (λ_=>[.box 3 (.cons (.lit (.int .i64 n)) .nil)]) (λk=>AscTo l k) (λk=>l.length-k))
 | _=>none
abbrev y3u:qa8:=qd9 true none [qc0,qe8] [qc0] (λx=>(0<=x.1/\x.1<=BIG)/\x.2.1.length<=1000000) (λx=>(w9c x.1 x.2.1,()))
theorem xf8:Meets Tryz.prog 147 y3u:=by
 refine mts (SpecsOk.cons (qy8 (fs:=[(191,yd5)]) (SpecsOk.cons w7f (SpecsOk.nil _))) (SpecsOk.nil _)) Tryz.func147 (λx=>yu3 x.1 x.2.1) ?_
 rintro⟨n,l,⟨⟩⟩ h
 revert n l
 intro(n:Int) (l:List Int) (h:(0<=n/\n<=BIG)/\l.length<=1000000)
 refine vcs (∃(v0:Unit),∃(v1:Nat),AscTo l v1/\(((0:Int)=(↑v1:Int)/\True)/\(n=n/\True)/\True)/\∀(v2:Nat),AscTo l v2->(decide ((↑v2:Int)<(↑l.length:Int))=true->((0:Int)<=(↑v2:Int)/\(↑v2:Int)<(↑l.length:Int))/\(decide ((0:Int)<(↑v2:Int))=true->fits .i64 ((↑v2:Int)-(1:Int))/\((0:Int)<=(↑v2:Int)-(1:Int)/\(↑v2:Int)-(1:Int)<(↑l.length:Int))/\(decide (nI l v2<=nI l ((↑v2:Int)-(1:Int)).toNat)=true->(7:Int)=w9c n l)/\(decide (nI l v2<=nI l ((↑v2:Int)-(1:Int)).toNat)=false->fits .i64 ((↑v2:Int)+(1:Int))/\∃(v7:Nat),AscTo l v7/\l.length-v7<l.length-v2/\((↑v2:Int)+(1:Int)=(↑v7:Int)/\True)/\(n=n/\True)/\True))/\(decide ((0:Int)<(↑v2:Int))=false->fits .i64 ((↑v2:Int)+(1:Int))/\∃(v6:Nat),AscTo l v6/\l.length-v6<l.length-v2/\((↑v2:Int)+(1:Int)=(↑v6:Int)/\True)/\(n=n/\True)/\True))/\(decide ((↑v2:Int)<(↑l.length:Int))=false->∃(v5:qa3 [Ty.int .i64]->Prop),∃(v6:qa3 [Ty.int .i64]->Bool),(∀(v7:Int × qa3._f [] PUnit.unit),v5 v7->((0:PTy.den (PTy.cap qc0))<=n/\n<=BIG)/\(!inB v7.1 (0:Int) (n-(1:Int)))=v6 v7)/\(l.length<=(1000000:Nat)/\∀(v7:Nat),v7<l.length->v5 (nI l v7,()))/\((List.any l λ(v8:Int)=>v6 (v8,()))=true->(5:Int)=w9c n l)/\((List.any l λ(v8:Int)=>v6 (v8,()))=false->(0:Int)=w9c n l))) ?_
 obtain⟨hn,hl⟩:=h
 refine⟨(),0,⟨zae _,λi h0 hi=>by omega⟩,rfl,λk hk=>⟨λhlt=>⟨hlt,λh0=>?_,λh0=>⟨qa6,k+1,hk.step hlt (.inl ow),ow,ow⟩⟩,λhge=>?_⟩⟩
 ·have e:((k:Int)-1).toNat=k-1:=ow
  rw[e]
  refine⟨qa6,ow,λh1=>?_,λh1=>⟨qa6,k+1,hk.step hlt (.inr h1),ow,ow⟩⟩
  unfold w9c
  rw[zap (x0p ow hlt h1)]
 ·obtain rfl:k=l.length:=by have:=hk.le; omega
  refine⟨λ_=>True,λx=>!(inB x.1 0 (n-1)),λx _=>⟨hn,by simp⟩,⟨hl,λ_ _=>trivial⟩,λh1=>?_,λh1=>?_⟩
  ·unfold w9c
   rw[zaj (by simp[hk.all]),zap h1]
  ·unfold w9c
   rw[zaj (by simp[hk.all]),zaj (by grind)]
structure Mk (m:List (List Int)):Prop where
 rows1:1<=m.length
 rows6:m.length<=6
 each:∀i,i<m.length->(nL m i).length=(nL m 0).length
 pix1:1<=(nL m 0).length
 pix10:(nL m 0).length<=10
 small:∀i,i<m.length->∀j,j<(nL m 0).length->-1<=nI (nL m i) j/\nI (nL m i) j<=1
theorem Mk.of {m:List (List Int)} (h:qb7 m=true):Mk m:=by
 unfold qb7 at h
 rw[zaz,qh5,zan] at h
 obtain⟨h1,h2⟩:=h
 have each:∀i,i<m.length->(nL m i).length=(nL m 0).length/\rowB (nL m i)=true:=λi hi=>by
  have:=h2 (nL m i) (by simp_all [nL,qp5,qe8,List.getElem_mem])
  grind
 have hr:∀i,i<m.length->(1<=(nL m i).length/\(nL m i).length<=10)/\∀j,j<(nL m i).length->-1<=nI (nL m i) j/\nI (nL m i) j<=1:=λi hi=>by
  have:=(each i hi).2
  unfold rowB at this
  rw[zaz,qh5,zan] at this
  refine⟨ow,λj hj=>qh5.1 (this.2 _ ?_)⟩
  simp_all [nI,qp5,qc0,List.getElem_mem]
 have h0:=hr 0 ow
 exact⟨ow,ow,λi hi=>(each i hi).1,h0.1.1,h0.1.2,λi hi j hj=>(hr i hi).2 j (by grind)⟩
def xv1 (m:List (List Int)) (l:List Int):Int:=if qb7 m=false then 1 else w9c (nL m 0).length l
abbrev y3v:qa8:=qd9 true none [qf9,qe8] [qc0] (λx=>x.2.1.length<=1000000) (λx=>(xv1 x.1 x.2.1,()))
theorem xf9:Meets Tryz.prog 105 y3v:=by
 refine mt0 (SpecsOk.cons qs7 (SpecsOk.cons xf8 (SpecsOk.nil _))) Tryz.func105 ?_
 rintro⟨m,l,⟨⟩⟩ h
 revert m l
 intro(m:List (List Int)) (l:List Int) (h:l.length<=1000000)
 refine vcs (True/\((!qb7 m)=true->(1:Int)=xv1 m l)/\((!qb7 m)=false->((0:Int)<=(0:Int)/\(0:Int)<(↑m.length:Int))/\(((0:Ty.den qc0)<=(↑(nL m (0:Nat)).length:Int)/\(↑(nL m (0:Nat)).length:Int)<=BIG)/\l.length<=(1000000:Nat))/\w9c (↑(nL m (0:Nat)).length:Int) l=xv1 m l)) ?_
 refine⟨λhv=>by grind [xv1],λhv=>?_⟩
 have hM:=Mk.of hv
 have h1:=hM.rows1
 have h2:=hM.pix10
 grind [BIG,xv1]
def wv6 (y:List Int):Bool:=y.any λn=>!(inB n (0-1000000) 1000000)
def qw0 (m:List (List Int)) (y l:List Int):Int:=if qb7 m=false then 1 else if ¬y.length=m.length then 9 else if wv6 y then 7 else xv1 m l
abbrev y3w:qa8:=qd9 true none [qf9,qe8,qe8] [qc0] (λx=>x.2.2.1.length<=1000000) (λx=>(qw0 x.1 x.2.1 x.2.2.1,()))
theorem q8r:Meets Tryz.prog 59 y3w:=by
 refine mt0 (SpecsOk.cons qs7 (SpecsOk.cons xf9 (SpecsOk.cons q8q (SpecsOk.cons (qy8 (fs:=[(116,x0o)]) (SpecsOk.cons q5i (SpecsOk.nil _))) (SpecsOk.nil _))))) Tryz.func59 ?_
 rintro⟨m,y,l,⟨⟩⟩ h
 revert m y l
 intro(m:List (List Int)) (y:List Int) (l:List Int) (h:l.length<=1000000)
 refine vcs (True/\((!qb7 m)=true->(1:Int)=qw0 m y l)/\((!qb7 m)=false->(((↑y.length:Int) != (↑m.length:Int))=true->(9:Int)=qw0 m y l)/\(((↑y.length:Int) != (↑m.length:Int))=false->True/\∃(v2:qa3 [Ty.int .i64]->Prop),∃(v3:qa3 [Ty.int .i64]->Bool),(∀(v4:Int × qa3._f [] PUnit.unit),v2 v4->((0:PTy.den (PTy.cap qc0))<=(1000000:Int)/\(1000000:Int)<=BIG)/\(!inB v4.1 ((0:Int)-(1000000:Int)) (1000000:Int))=v3 v4)/\(y.length<=(1000000:Nat)/\∀(v4:Nat),v4<y.length->v2 (nI y v4,()))/\((List.any y λ(v5:Int)=>v3 (v5,()))=true->(7:Int)=qw0 m y l)/\((List.any y λ(v5:Int)=>v3 (v5,()))=false->l.length<=(1000000:Nat)/\xv1 m l=qw0 m y l)))) ?_
 refine⟨λhv=>by grind [qw0],λhv=>⟨λhl=>?_,λhl=>?_⟩⟩
 ·grind [qw0]
 have hl:y.length=m.length:=ow
 have hM:=Mk.of hv
 have h1:=hM.rows6
 refine⟨λ_=>True,λx=>!(inB x.1 (0-1000000) 1000000),λx _=>⟨dc,by simp⟩,⟨ow,λ_ _=>trivial⟩,λho=>?_,λho=>⟨h,?_⟩⟩
 all_goals grind [wv6,qw0]
structure x4g (m:List (List Int)):Prop where
 rows:m.length<=9223372036854775807
 each:∀i,i<m.length->(nL m i).length<=9223372036854775807
theorem w1y (l:List Int) (k:Nat) (hk:k<l.length):l.take (k+1)=l.take k++[nI l k]:=by
 grind [List.take_add_one,List.getElem?_eq_getElem,qg5]
def qq8 (n:Nat):List Int:=(List.range n).map λi:Nat=>(i:Int)
theorem wv7 (n:Nat):qq8 (n+1)=qq8 n++[(n:Int)]:=by simp[qq8,List.range_succ]
theorem qg8 (n:Nat):(qq8 n).length=n:=by simp[qq8]
theorem q5j (n i:Nat) (h:i<n):nI (qq8 n) i=i:=by grind [qg5,qg8,qq8]
abbrev y3x:qa8:=q62 (q1r [qc0]) true (some 3) .none (λx=>x.1<=100000) (λx=>.dat (.int .i64) (qq8 x.1.toNat))
def yu4 (n:Nat):Nat->Option Inv
 | 0=>some (Inv.of [3,6] 1 (λk:Nat=>[(3,.own 0),(6,.lit (.int .i64 k))]) (λk=>[.vec 3 (.int .i64) (qq8 k)]) (λk=>k<=n) (λk=>n-k))
 | _=>none
theorem q8s:Meets Tryz.prog 133 y3x:=by
 refine q6i (snd (SpecsOk.nil _)) Tryz.func133 rfl rfl (qm4 [qc0]) (λx=>yu4 x.1.toNat) (λ_=>by kernel_rfl) dc ?_
 rintro⟨n,⟨⟩⟩ h
 revert n
 intro(n:Int) (h:n<=100000)
 refine vcs (∃(v0:Unit),∃(v1:Nat),Nat.le v1 n.toNat/\((True/\(0:Int)=(↑v1:Int)/\True)/\qq8 v1=[]/\True)/\∀(v2:Nat),Nat.le v2 n.toNat->(decide ((↑v2:Int)<n)=true->((0:Nat)<List.length [(↑v2:Int)]/\Nat.le ((qq8 v2).length+List.length [(↑v2:Int)]) (1000000:Nat))/\fits .i64 ((↑v2:Int)+(1:Int))/\∃(v5:Nat),Nat.le v5 n.toNat/\n.toNat-v5<n.toNat-v2/\(True/\(↑v2:Int)+(1:Int)=(↑v5:Int)/\True)/\qq8 v2++[(↑v2:Int)]=qq8 v5/\True)/\(decide ((↑v2:Int)<n)=false->qq8 v2=qq8 n.toNat)) ?_
 refine⟨(),0,zae _,⟨rfl,rfl⟩,λk hk=>⟨λhlt=>⟨by grind [qg8],qa6,k+1,ow,ow,ow,(wv7 k).symm⟩,λhge=>?_⟩⟩
 grind
abbrev x6t:qa8:=qd9 true none [qc0] [qe8] (λ_=>True) (λ_=>([],()))
theorem wf9:Meets Tryz.prog 202 x6t:=by
 refine mt0 (SpecsOk.nil _) Tryz.func202 ?_
 rintro⟨n,⟨⟩⟩ -
 revert n
 intro(n:Int)
 exact vct (x9q Int)
abbrev yd6:qa8:=hspec [] true none [.d qc0,.cap qe8] [qe8] (λx=>0<=x.1/\x.1<x.2.1.length) (λx=>([nI x.2.1 x.1.toNat],()))
theorem w7g:Meets Tryz.prog 264 yd6:=by
 refine qk7 (SpecsOk.nil _) (y3j [8] (SpecsOk.nil _)) Tryz.func264 rfl rfl (λ_ _=>none) (λ_=>by kernel_rfl) dc ?_
 rintro⟨n,y,⟨⟩⟩ h
 revert n y
 intro(n:Int) (y:List Int) (h:0<=n/\n<y.length)
 refine vcs (((0:Int)<=n/\n<(↑y.length:Int))/\[nI y n.toNat]=[nI y n.toNat]) ?_
 exact h
def qx5 (r pix:List Int):List Int:=pix.map λp=>nI r p.toNat
def qb3 (m:List (List Int)) (pix:List Int) (f:Int->List Int):List (List Int):=(List.range m.length).map λi=>qx5 (nL m i) pix++f i
structure ChoOk (m:List (List Int)) (pix:List Int) (p:qa3 [.int .i64]->Prop) (f:qa3 [.int .i64]->List Int):Prop where
 rows:m.length<=10000
 cols:pix.length<=10000
 at_:∀i,i<m.length->∀j,j<pix.length->0<=nI pix j/\nI pix j<(nL m i).length
 fn:∀i:Nat,i<m.length->p ((i:Int),())/\(f ((i:Int),())).length<=10000
theorem ql6 (r pix:List Int):(qx5 r pix).length=pix.length:=by simp[qx5]
theorem qu7 (r pix:List Int) (j:Nat) (hj:j<pix.length):nI (qx5 r pix) j=nI r (nI pix j).toNat:=by
 grind [qg5,ql6,qx5]
theorem qr9 (m:List (List Int)) (pix:List Int) (f:Int->List Int):(qb3 m pix f).length=m.length:=by simp[qb3]
theorem w7h (m:List (List Int)) (pix:List Int) (f:Int->List Int) (i:Nat) (hi:i<m.length):nL (qb3 m pix f) i=qx5 (nL m i) pix++f i:=by
 grind [qp2,qr9,qb3]
theorem q5k (m:List (List Int)) (k:Nat) (hk:k<m.length):m.take (k+1)=m.take k++[nL m k]:=by
 grind [List.take_add_one,List.getElem?_eq_getElem,qp2]
abbrev y3y (fs:List (Nat × qa8)):qa8:=q62 (wu5 fs [.d qf9,.d qe8,.fn [qc0] qe8]) true (some 24) (some 3) (λx=>ChoOk x.1 x.2.1 x.2.2.1.1 x.2.2.1.2) (λx=>.dat (.list (.int .i64)) (qb3 x.1 x.2.1 λi=>x.2.2.1.2 (i,())))
def yu5 (m:List (List Int)) (pix:List Int) (f:Int->List Int):Nat->Option Inv
 | 0=>some (Inv.of [7,15] 1 (λk:Nat=>[(7,.msl 0 .none),(15,.lit (.int .i64 k))]) (λk=>[.mat 24 3 (.int .i64) ((qb3 m pix f).take k) .none .none]) (λk=>k<=m.length) (λk=>m.length-k))
 | 1=>some (Eng.Inv.mk Nat Nat [7,10,22] 2 (λ_ j=>[(7,.msl 0 .none),(10,.own 1),(22,.lit (.int .i64 j))]) (λk j=>[.mat 24 3 (.int .i64) ((qb3 m pix f).take k) .none .none,.vec 3 (.int .i64) ((qx5 (nL m k) pix).take j)]) (λ_ j=>j<=pix.length) (λ_ j=>pix.length-j))
 | _=>none
theorem q8t {fs:List (Nat × qa8)} (hfs:SpecsOk Tryz.prog fs):Meets Tryz.prog 144 (y3y fs):=by
 refine q6i (yt8 [40] [39] (SpecsOk.nil _)) Tryz.func144 rfl rfl (q4i hfs [.d qf9,.d qe8,.fn [qc0] qe8]) (λx=>yu5 x.1 x.2.1 λi=>x.2.2.1.2 (i,())) (λ_=>by kernel_rfl) (show 3<=_ by decide) ?_
 rintro⟨m,pix,⟨p,f⟩,⟨⟩⟩ h
 revert m pix p f
 intro(m:List (List Int)) (pix:List Int) (p:qa3 [.int .i64]->Prop) (f:qa3 [.int .i64]->List Int) (h:ChoOk m pix p f)
 refine vcs (∃(v0:Unit),∃(v1:Nat),Nat.le v1 m.length/\((True/\(0:Int)=(↑v1:Int)/\True)/\List.take v1 (qb3 m pix λ(v2:Int)=>f (v2,()))=[]/\True)/\∀(v2:Nat),Nat.le v2 m.length->(decide ((↑v2:Int)<(↑m.length:Int))=true->((0:Int)<=(↑v2:Int)/\(↑v2:Int)<(↑m.length:Int))/\∃(v5:Nat),∃(v6:Nat),Nat.le v6 pix.length/\((True/\True/\(0:Int)=(↑v6:Int)/\True)/\(List.take v2 (qb3 m pix λ(v7:Int)=>f (v7,()))=List.take v5 (qb3 m pix λ(v7:Int)=>f (v7,()))/\True/\True)/\List.take v6 (qx5 (nL m v5) pix)=[]/\True)/\∀(v7:Nat),Nat.le v7 pix.length->(decide ((↑v7:Int)<(↑pix.length:Int))=true->((0:Int)<=(↑v7:Int)/\(↑v7:Int)<(↑pix.length:Int))/\((0:Int)<=nI pix v7/\nI pix v7<(↑(nL m v2).length:Int))/\((0:Nat)<List.length [nI (nL m v2) (nI pix v7).toNat]/\Nat.le ((List.take v7 (qx5 (nL m v5) pix)).length+List.length [nI (nL m v2) (nI pix v7).toNat]) (1000000:Nat))/\fits .i64 ((↑v7:Int)+(1:Int))/\∃(v10:Nat),Nat.le v10 pix.length/\pix.length-v10<pix.length-v7/\(True/\True/\(↑v7:Int)+(1:Int)=(↑v10:Int)/\True)/\(List.take v5 (qb3 m pix λ(v11:Int)=>f (v11,()))=List.take v5 (qb3 m pix λ(v11:Int)=>f (v11,()))/\True/\True)/\List.take v7 (qx5 (nL m v5) pix)++[nI (nL m v2) (nI pix v7).toNat]=List.take v10 (qx5 (nL m v5) pix)/\True)/\(decide ((↑v7:Int)<(↑pix.length:Int))=false->p ((↑v2:Int),())/\Nat.le ((List.take v7 (qx5 (nL m v5) pix)).length+(f ((↑v2:Int),())).length) (1000000:Nat)/\((0:Nat)<(0:Nat)+(1:Nat)/\(List.take v5 (qb3 m pix λ(v10:Int)=>f (v10,()))).length+((0:Nat)+(1:Nat))<=(1000000:Nat))/\fits .i64 ((↑v2:Int)+(1:Int))/\∃(v10:Nat),Nat.le v10 m.length/\m.length-v10<m.length-v2/\(True/\(↑v2:Int)+(1:Int)=(↑v10:Int)/\True)/\(List.take v5 (qb3 m pix λ(v11:Int)=>f (v11,()))++[List.take v7 (qx5 (nL m v5) pix)++f ((↑v2:Int),())]=List.take v10 (qb3 m pix λ(v11:Int)=>f (v11,()))/\True/\True)/\True))/\(decide ((↑v2:Int)<(↑m.length:Int))=false->List.take v2 (qb3 m pix λ(v5:Int)=>f (v5,()))=qb3 m pix λ(v5:Int)=>f (v5,()))) ?_
 have hr:=h.rows
 have hc:=h.cols
 have hl:=qr9 m pix λi=>f (i,())
 refine⟨(),0,zae _,⟨rfl,rfl⟩,λk hk=>⟨λhlt=>⟨hlt,k,0,zae _,⟨rfl,rfl,rfl⟩,λj hj=>⟨λhj2=>?_,λhj2=>?_⟩⟩,λhge=>?_⟩⟩
 ·have h1:=ql6 (nL m k) pix
  refine⟨hj2,h.at_ k hlt j hj2,by grind,qa6,j+1,ow,ow,ow,?_⟩
  grind [w1y,qu7]
 ·obtain rfl:j=pix.length:=ow
  have h1:=ql6 (nL m k) pix
  have h2:=h.fn k hlt
  have h3:(qx5 (nL m k) pix).take pix.length=qx5 (nL m k) pix:=zcs ow
  rw[h3]
  refine⟨h2.1,ow,by grind,qa6,k+1,ow,ow,ow,?_⟩
  grind [q5k,w7h]
 grind
abbrev yd7:qa8:=hspec [] true none [.d qe8,.cap qc0] [.bool] (λx=>0<=x.2.1/\x.2.1<x.1.length) (λx=>(nI x.1 x.2.1.toNat != 0,()))
theorem w7i:Meets Tryz.prog 189 yd7:=by
 refine qk7 (SpecsOk.nil _) (snd (SpecsOk.nil _)) Tryz.func189 rfl rfl (λ_ _=>none) (λ_=>by kernel_rfl) dc ?_
 rintro⟨l,j,⟨⟩⟩ h
 revert l j
 intro(l:List Int) (j:Int) (h:0<=j/\j<l.length)
 refine vcs (((0:Int)<=j/\j<(↑l.length:Int))/\(nI l j.toNat != (0:Int))=(nI l j.toNat != (0:Int))) ?_
 exact h
def qu8 (rows:List (List Int)) (k j:Nat):Int:=ixT (.list (.int .i64)) (λr=>nI r j != 0) (rows.drop k)
def wv8 (rows:List (List Int)) (a b:Nat):List (List Int):=(rows.set a (nL rows b)).set b (nL rows a)
def x0q (r:List Int):List Int:=(List.range r.length).map λi=>0-nI r i
def q2o (rows:List (List Int)) (k j:Nat):List (List Int):=wv8 rows k (k+(qu8 rows k j).toNat)
def qi9 (rows:List (List Int)) (k j:Nat):List (List Int):=if nI (nL (q2o rows k j) k) j<0 then(q2o rows k j).set k (x0q (nL (q2o rows k j) k)) else q2o rows k j
def wp8 (rows:List (List Int)) (k j i:Nat):List Int:=if i≠k/\nI (nL rows i) j≠0 then qy7 (nL rows i) (nL rows k) j else nL rows i
def xv2 (rows:List (List Int)) (k j:Nat):List (List Int):=(List.range rows.length).map (wp8 rows k j)
def qx6 (s:List (List Int) × List Int) (j:Nat):List (List Int) × List Int:=if qu8 s.1 s.2.length j<0 then s else(xv2 (qi9 s.1 s.2.length j) s.2.length j,s.2++[(j:Int)])
def qb5 (rows:List (List Int)):Nat->List (List Int) × List Int
 | 0=>(rows,[])
 | j+1=>qx6 (qb5 rows j) j
structure x4h (rows:List (List Int)) (k j:Nat):Prop where
 neg:∀x∈nL (q2o rows k j) k,qd8 BIG x
 clr:∀i,i<rows.length->i≠k->nI (nL (qi9 rows k j) i) j≠0->wv0 (nL (qi9 rows k j) i) (nL (qi9 rows k j) k) j
structure q5l (rows:List (List Int)) (cols W:Nat):Prop where
 n:rows.length<=1000
 w:W<=1000
 cw:cols<=W
 each:∀i,i<rows.length->(nL rows i).length=W
 step:∀j,j<cols->0<=qu8 (qb5 rows j).1 (qb5 rows j).2.length j->x4h (qb5 rows j).1 (qb5 rows j).2.length j
abbrev y3z:MSpec:=q5h (q1r [qc0]) true false 24 3 (.int .i64) (λrows x=>0<=x.1/\∃W,q5l rows x.1.toNat W) (λrows x=>.dat (.int .i64) (qb5 rows x.1.toNat).2) (λrows x=>(qb5 rows x.1.toNat).1)
def x4i:List AObj:=[.dead,.dead,.dead,.dead,.dead,.dead,.dead,.dead,.dead,.dead,.dead,.dead,.dead,.dead,.dead,.dead,.dead,.dead,.dead,.dead,.dead,.dead,.dead,.dead,.dead,.dead,.dead,.dead]
structure x0r (rows:List (List Int)) (k i:Nat) (r:List (List Int)):Prop where
 le:i<=(nL rows k).length
 eq:r=rows.set k (ovr (.int .i64) (λq=>0-nI (nL rows k) q) (nL rows k) i)
structure q8u (rows:List (List Int)) (k j i:Nat) (r:List (List Int)):Prop where
 le:i<=rows.length
 eq:r=ovr (.list (.int .i64)) (wp8 rows k j) rows i
structure w7j (R:List (List Int)) (c j:Nat) (r:List (List Int)) (p:List Int):Prop where
 le:j<=c
 eq:qb5 R j=(r,p)
def yu6 (T:q6v) (R:List (List Int)) (c:Nat):Nat->Option Inv
 | 0=>some (Inv.of [0,5,13] 2 (λs:Nat × List (List Int) × List Int=>[(0,.msl 0 .none),(5,.own 1),(13,.lit (.int .i64 s.1))]) (λs=>[.mat 24 3 (.int .i64) s.2.1 .none (some T),.vec 3 (.int .i64) s.2.2]) (λs=>w7j R c s.1 s.2.1 s.2.2) (λs=>c-s.1))
 | 1=>some (Eng.Inv.mk (Nat × Nat × List (List Int) × List Int) (Nat × List (List Int)) [0,5,56] 31 (λ_ s=>[(0,.msl 0 .none),(5,.own 1),(56,.lit (.int .i64 s.1))]) (λq s=>.mat 24 3 (.int .i64) s.2 .none (some T) :: .vec 3 (.int .i64) q.2.2.2 :: .box 3 (.cons (.lit (.int .i64 q.1)) .nil) :: x4i) (λq s=>x0r q.2.2.1 q.2.1 s.1 s.2) (λq s=>(nL q.2.2.1 q.2.1).length-s.1))
 | 2=>some (Eng.Inv.mk (Nat × Nat × List (List Int) × List Int) (Nat × List (List Int)) [0,5,74,76] 31 (λ_ s=>[(0,.msl 0 .none),(5,.own 1),(74,.msl 0 .none),(76,.lit (.int .i64 s.1))]) (λq s=>.mat 24 3 (.int .i64) s.2 .none (some T) :: .vec 3 (.int .i64) q.2.2.2 :: .box 3 (.cons (.lit (.int .i64 q.1)) .nil) :: x4i) (λq s=>q8u q.2.2.1 q.2.1 q.1 s.1 s.2) (λq s=>q.2.2.1.length-s.1))
 | _=>none
theorem q5m (n:Nat):qe3 n none=n:=rfl
theorem w7k (n:Nat) (l:List Nat):qe3 n (some l)=l.length:=rfl
theorem x0s (n:Nat):ixL n none=List.range n:=rfl
theorem x0t (n:Nat) (l:List Nat):ixL n (some l)=l:=rfl
theorem q8v (i:Nat):qe9 none i=i:=rfl
theorem xg0 (l:List Nat) (i:Nat):qe9 (some l) i=l.getD i 0:=rfl
theorem wv9 (r:List (List Int)):q3b (.int .i64) r none=r:=rfl
theorem xg1 (r:List (List Int)) (l:List Nat):q3b (.int .i64) r (some l)=l.map λp=>nL r p:=rfl
theorem x0u (n k b:Nat) (hk:k<n) (hb:b<n):(((List.range n).set k b).set b k).getD k 0=b:=by
 grind
theorem xg2 (n k b:Nat) (hk:k<n) (hb:b<n):(((List.range n).set k b).set b k).Nodup:=by
 grind
theorem x6u (r:List (List Int)) (k b:Nat) (hk:k<r.length) (hb:b<r.length):((((List.range r.length).set k b).set b k).map λp=>nL r p)=wv8 r k b:=by
 apply zbx (by simp[wv8])
 grind [wv8,qp2]
theorem ww0 (r:List (List Int)) (k b:Nat):(wv8 r k b).length=r.length:=by simp[wv8]
theorem q4l (r:List (List Int)) (k b:Nat) (hk:k<r.length) (hb:b<r.length) (i:Nat) (hi:i<r.length):nL (wv8 r k b) i=if i=b then nL r k else if i=k then nL r b else nL r i:=by
 rw[qp2 _ i (by grind [ww0])]
 simp only[wv8,List.getElem_set]
 by_cases e:b=i
 ·grind
 ·rw[zaj e,zaj (zdn e)]
  by_cases e2:k=i
  all_goals simp_all [if_pos,if_neg,Ne.symm,qp2]
theorem wg1 (l:List Int):(qe6 l).length=l.length:=by grind [qe6]
theorem wg6 (r b:List Int) (c:Nat):(qy7 r b c).length=r.length:=by grind [qy7,wg1,q2m]
theorem wm5 (r:List Int):(x0q r).length=r.length:=by simp[x0q]
theorem wm6 (r:List (List Int)) (k j:Nat):(q2o r k j).length=r.length:=ww0 _ _ _
theorem ql7 (r:List (List Int)) (k j:Nat):(qi9 r k j).length=r.length:=by
 grind [qi9,List.length_set,wm6]
theorem xg3 (r:List (List Int)) (k:Nat) (x:List Int) (i:Nat) (hi:i<r.length):nL (r.set k x) i=if i=k then x else nL r i:=by
 rw[qp2 _ i (by grind),zc2]
 by_cases e:k=i
 all_goals simp_all [if_pos,if_neg,Ne.symm,qp2]
theorem q2p (r:List (List Int)) (k j:Nat) (hk:k<=r.length) (h:0<=qu8 r k j):k+(qu8 r k j).toNat<r.length:=by
 have:=(wv3 (.list (.int .i64)) (λr=>nI r j != 0) (r.drop k)).1
 grind [qu8,List.length_drop]
theorem q4m (r:List (List Int)) (k j i:Nat) (hi:i<r.length):nL (qi9 r k j) i=if i=k/\nI (nL (q2o r k j) k) j<0 then x0q (nL (q2o r k j) k) else nL (q2o r k j) i:=by
 unfold qi9
 split
 all_goals simp_all [xg3,wm6,if_pos,if_neg]
theorem wm7 (r:List (List Int)) (k j:Nat):(xv2 r k j).length=r.length:=by simp[xv2]
theorem xg4 (r:List (List Int)) (k j i:Nat) (hi:i<r.length):nL (xv2 r k j) i=wp8 r k j i:=by
 grind [qp2,wm7,xv2]
structure RedSh (n W:Nat) (s:List (List Int) × List Int) (j:Nat):Prop where
 cnt:s.1.length=n
 each:∀i,i<n->(nL s.1 i).length=W
 piv:s.2.length<=n
 pivj:s.2.length<=j
theorem q8w {r:List (List Int)} {k j W:Nat} (hk:k<=r.length) (h:0<=qu8 r k j) (he:∀i,i<r.length->(nL r i).length=W):∀i,i<r.length->(nL (q2o r k j) i).length=W:=λi hi=>by
 grind [q2p,q2o,q4l]
theorem q2q {r:List (List Int)} {k j W:Nat} (hk:k<=r.length) (h:0<=qu8 r k j) (he:∀i,i<r.length->(nL r i).length=W):∀i,i<r.length->(nL (qi9 r k j) i).length=W:=λi hi=>by
 have hb:=q2p r k j hk h
 have h1:=q8w hk h he
 grind [q4m,wm5]
theorem RedSh.step {n W j:Nat} {s:List (List Int) × List Int} (h:RedSh n W s j):RedSh n W (qx6 s j) (j+1):=by
 unfold qx6
 split
 ·exact⟨h.cnt,h.each,h.piv,by have:=h.pivj; omega⟩
 ·rename_i hp
  have hp:0<=qu8 s.1 s.2.length j:=ow
  have hn:=h.cnt
  have hb:=q2p s.1 s.2.length j (by rw[hn]; exact h.piv) hp
  have he:=q2q (W:=W) ow hp (λi hi=>h.each i ow)
  refine⟨by grind [wm7,ql7],λi hi=>?_,?_,?_⟩
  ·grind [xg4,ql7,wp8,wg6]
  ·grind
  ·rw[zav]; have:=h.pivj; grind
theorem q2r {R:List (List Int)} {c W:Nat} (h:q5l R c W):∀j,RedSh R.length W (qb5 R j) j
 | 0=>⟨rfl,h.each,zae _,zac _⟩
 | j+1=>(q2r h j).step
theorem q4n (r:List (List Int)) (k j:Nat):wp8 r k j k=nL r k:=by unfold wp8; simp
theorem q7i (t:Ty) (g:Nat->t.den) (l:List t.den) (k:Nat) (h:k<l.length->g k=qf0 t l k):ovr t g l k=ovr t g l (k+1):=by
 unfold ovr
 apply zco
 grind
theorem q8x:qo7 Tryz.prog 146 y3z:=by
 refine q1t (yu0 [17,22] (SpecsOk.cons (q8p (fs:=[(189,yd7)]) (SpecsOk.cons w7i (SpecsOk.nil _))) (SpecsOk.nil _)) (MutsOk.cons w1u MutsOk.nil)) Tryz.func146 rfl rfl (qm4 [qc0]) (λT rows x=>yu6 T rows x.1.toNat) (λ_ _ _=>by kernel_rfl) dc ?_ rfl
 rintro T rows ⟨c,⟨⟩⟩ h -
 revert rows c
 intro(rows:List (List Int)) (c:Int) (h:0<=c/\∃W,q5l rows c.toNat W)
 refine vcs (let Q0:=List Int; let Q1:=MSpec.t x4c; ∃(v0:Unit),∃(v1:Nat × List Q0 × List Int),w7j rows c.toNat v1.1 v1.2.1 v1.2.2/\((True/\True/\(0:Int)=(↑v1.1:Int)/\True)/\(rows=v1.2.1/\True/\T=T)/\v1.2.2=[]/\True)/\∀(v2:Nat × List Q0 × List Int),w7j rows c.toNat v2.1 v2.2.1 v2.2.2->(decide ((↑v2.1:Int)<c)=true->∀(v5:Int),v5=(↑v2.2.2.length:Int)->((0:Int)<=v5/\v5<=(↑(qe3 v2.2.1.length none):Int)/\(↑(qe3 v2.2.1.length none):Int)<=(↑(qe3 v2.2.1.length none):Int))/\∃(v7:qa3 [Ty.list (Ty.int .i64)]->Prop),∃(v8:qa3 [Ty.list (Ty.int .i64)]->Bool),(∀(v9:List Int × qa3._f [] PUnit.unit),v7 v9->((0:PTy.den (PTy.cap qc0))<=(↑v2.1:Int)/\(↑v2.1:Int)<(↑v9.1.length:PTy.den (PTy.cap qc0)))/\(nI v9.1 (↑v2.1:Int).toNat != (0:Int))=v8 v9)/\((List.drop v5.toNat (List.take (↑(qe3 v2.2.1.length none):Int).toNat (q3b (Ty.int .i64) v2.2.1 none))).length<=(1000000:Nat)/\∀(v9:Nat),v9<(List.drop v5.toNat (List.take (↑(qe3 v2.2.1.length none):Int).toNat (q3b (Ty.int .i64) v2.2.1 none))).length->v7 (nL (List.drop v5.toNat (List.take (↑(qe3 v2.2.1.length none):Int).toNat (q3b (Ty.int .i64) v2.2.1 none))) v9,()))/\∀(v9:Int),v9=ixT (Ty.list (Ty.int .i64)) (λ(v11:List Int)=>v8 (v11,())) (List.drop v5.toNat (List.take (↑(qe3 v2.2.1.length none):Int).toNat (q3b (Ty.int .i64) v2.2.1 none)))->(decide (v9<(0:Int))=true->fits .i64 ((↑v2.1:Int)+(1:Int))/\∃(v12:Nat × List Q0 × List Int),w7j rows c.toNat v12.1 v12.2.1 v12.2.2/\c.toNat-v12.1<c.toNat-v2.1/\(True/\True/\(↑v2.1:Int)+(1:Int)=(↑v12.1:Int)/\True)/\(v2.2.1=v12.2.1/\True/\T=T)/\v2.2.2=v12.2.2/\True)/\(decide (v9<(0:Int))=false->fits .i64 (v5+v9)/\fits .i64 (v5+v9)/\((0:Int)<=v5+v9/\v5+v9<(↑(qe3 v2.2.1.length none):Int))/\(v5+v9).toNat<qe3 v2.2.1.length none/\((0:Int)<=v5/\v5<(↑(qe3 v2.2.1.length none):Int))/\v5.toNat<qe3 v2.2.1.length none/\((0:Int)<=v5/\v5<(↑(qe3 v2.2.1.length none):Int))/\v5.toNat<qe3 v2.2.1.length none/\((0:Int)<=v5+v9/\v5+v9<(↑(qe3 v2.2.1.length (some (List.set (ixL v2.2.1.length none) v5.toNat (qe9 none (v5+v9).toNat)))):Int))/\(v5+v9).toNat<qe3 v2.2.1.length (some (List.set (ixL v2.2.1.length none) v5.toNat (qe9 none (v5+v9).toNat)))/\((0:Int)<=v5/\v5<(↑(qe3 v2.2.1.length (some (List.set (ixL v2.2.1.length (some (List.set (ixL v2.2.1.length none) v5.toNat (qe9 none (v5+v9).toNat)))) (v5+v9).toNat (qe9 none v5.toNat)))):Int))/\v5.toNat<qe3 v2.2.1.length (some (List.set (ixL v2.2.1.length (some (List.set (ixL v2.2.1.length none) v5.toNat (qe9 none (v5+v9).toNat)))) (v5+v9).toNat (qe9 none v5.toNat)))/\((0:Int)<=(↑v2.1:Int)/\(↑v2.1:Int)<(↑(nL v2.2.1 (qe9 (some (List.set (ixL v2.2.1.length (some (List.set (ixL v2.2.1.length none) v5.toNat (qe9 none (v5+v9).toNat)))) (v5+v9).toNat (qe9 none v5.toNat))) v5.toNat)).length:Int))/\(↑v2.1:Int).toNat<(nL v2.2.1 (qe9 (some (List.set (ixL v2.2.1.length (some (List.set (ixL v2.2.1.length none) v5.toNat (qe9 none (v5+v9).toNat)))) (v5+v9).toNat (qe9 none v5.toNat))) v5.toNat)).length/\(decide (nI (nL v2.2.1 (qe9 (some (List.set (ixL v2.2.1.length (some (List.set (ixL v2.2.1.length none) v5.toNat (qe9 none (v5+v9).toNat)))) (v5+v9).toNat (qe9 none v5.toNat))) v5.toNat)) (↑v2.1:Int).toNat<(0:Int))=true->((0:Int)<=v5/\v5<(↑(qe3 v2.2.1.length (some (List.set (ixL v2.2.1.length (some (List.set (ixL v2.2.1.length none) v5.toNat (qe9 none (v5+v9).toNat)))) (v5+v9).toNat (qe9 none v5.toNat)))):Int))/\v5.toNat<qe3 v2.2.1.length (some (List.set (ixL v2.2.1.length (some (List.set (ixL v2.2.1.length none) v5.toNat (qe9 none (v5+v9).toNat)))) (v5+v9).toNat (qe9 none v5.toNat)))/\∃(v13:Nat × Nat × List Q0 × List Int),∃(v14:Nat × List Q0),x0r v13.2.2.1 v13.2.1 v14.1 v14.2/\(List.Nodup (List.set (ixL v2.2.1.length (some (List.set (ixL v2.2.1.length none) v5.toNat (qe9 none (v5+v9).toNat)))) (v5+v9).toNat (qe9 none v5.toNat))/\(List.set (ixL v2.2.1.length (some (List.set (ixL v2.2.1.length none) v5.toNat (qe9 none (v5+v9).toNat)))) (v5+v9).toNat (qe9 none v5.toNat)).length=v2.2.1.length)/\((True/\True/\(0:Int)=(↑v14.1:Int)/\True)/\(q3b (Ty.int .i64) v2.2.1 (some (List.set (ixL v2.2.1.length (some (List.set (ixL v2.2.1.length none) v5.toNat (qe9 none (v5+v9).toNat)))) (v5+v9).toNat (qe9 none v5.toNat)))=v14.2/\True/\T=T)/\v2.2.2=v13.2.2.2/\((↑v2.1:Int)=(↑v13.1:Int)/\True)/\True/\True/\True/\True/\True/\True/\True/\True/\True/\True/\True/\True/\True/\True/\True/\True/\True/\True/\True/\True/\True/\True/\True/\True/\True/\True/\True/\True/\True)/\∀(v15:Nat × List Q0),x0r v13.2.2.1 v13.2.1 v15.1 v15.2->(decide ((↑v15.1:Int)<(↑(nL v2.2.1 (qe9 (some (List.set (ixL v2.2.1.length (some (List.set (ixL v2.2.1.length none) v5.toNat (qe9 none (v5+v9).toNat)))) (v5+v9).toNat (qe9 none v5.toNat))) v5.toNat)).length:Int))=true->((0:Int)<=v5/\v5<(↑(qe3 v15.2.length none):Int))/\v5.toNat<qe3 v15.2.length none/\((0:Int)<=v5/\v5<(↑(qe3 v15.2.length none):Int))/\v5.toNat<qe3 v15.2.length none/\((0:Int)<=(↑v15.1:Int)/\(↑v15.1:Int)<(↑(nL v15.2 (qe9 none v5.toNat)).length:Int))/\(↑v15.1:Int).toNat<(nL v15.2 (qe9 none v5.toNat)).length/\fits .i64 ((0:Int)-nI (nL v15.2 (qe9 none v5.toNat)) (↑v15.1:Int).toNat)/\((0:Int)<=(↑v15.1:Int)/\(↑v15.1:Int)<(↑(nL v15.2 (qe9 none v5.toNat)).length:Int))/\(↑v15.1:Int).toNat<(nL v15.2 (qe9 none v5.toNat)).length/\fits .i64 ((↑v15.1:Int)+(1:Int))/\∃(v18:Nat × List Q0),x0r v13.2.2.1 v13.2.1 v18.1 v18.2/\(nL v13.2.2.1 v13.2.1).length-v18.1<(nL v13.2.2.1 v13.2.1).length-v15.1/\(True/\True/\(↑v15.1:Int)+(1:Int)=(↑v18.1:Int)/\True)/\(List.set v15.2 (qe9 none v5.toNat) (List.set (nL v15.2 (qe9 none v5.toNat)) (↑v15.1:Int).toNat ((0:Int)-nI (nL v15.2 (qe9 none v5.toNat)) (↑v15.1:Int).toNat))=v18.2/\True/\T=T)/\v13.2.2.2=v13.2.2.2/\((↑v13.1:Int)=(↑v13.1:Int)/\True)/\True/\True/\True/\True/\True/\True/\True/\True/\True/\True/\True/\True/\True/\True/\True/\True/\True/\True/\True/\True/\True/\True/\True/\True/\True/\True/\True/\True/\True)/\(decide ((↑v15.1:Int)<(↑(nL v2.2.1 (qe9 (some (List.set (ixL v2.2.1.length (some (List.set (ixL v2.2.1.length none) v5.toNat (qe9 none (v5+v9).toNat)))) (v5+v9).toNat (qe9 none v5.toNat))) v5.toNat)).length:Int))=false->∃(v18:Nat × Nat × List Q0 × List Int),∃(v19:Nat × List Q0),q8u v18.2.2.1 v18.2.1 v18.1 v19.1 v19.2/\((True/\True/\True/\(0:Int)=(↑v19.1:Int)/\True)/\(v15.2=v19.2/\True/\T=T)/\v13.2.2.2=v18.2.2.2/\((↑v13.1:Int)=(↑v18.1:Int)/\True)/\True/\True/\True/\True/\True/\True/\True/\True/\True/\True/\True/\True/\True/\True/\True/\True/\True/\True/\True/\True/\True/\True/\True/\True/\True/\True/\True/\True/\True)/\∀(v20:Nat × List Q0),q8u v18.2.2.1 v18.2.1 v18.1 v20.1 v20.2->(decide ((↑v20.1:Int)<(↑(qe3 v15.2.length none):Int))=true->((0:Int)<=(↑v20.1:Int)/\(↑v20.1:Int)<(↑(qe3 v20.2.length none):Int))/\(↑v20.1:Int).toNat<qe3 v20.2.length none/\(((↑v20.1:Int) != v5)=true->((0:Int)<=(↑v18.1:Int)/\(↑v18.1:Int)<(↑(nL v20.2 (qe9 none (↑v20.1:Int).toNat)).length:Int))/\(↑v18.1:Int).toNat<(nL v20.2 (qe9 none (↑v20.1:Int).toNat)).length/\((nI (nL v20.2 (qe9 none (↑v20.1:Int).toNat)) (↑v18.1:Int).toNat != (0:Int))=true->((0:Int)<=v5/\v5<(↑(qe3 v20.2.length none):Int))/\v5.toNat<qe3 v20.2.length none/\qe9 none v5.toNat≠qe9 none (↑v20.1:Int).toNat/\((0:Ty.den qc0)<=(↑v18.1:Int)/\wv0 (nL [qf0 (Ty.list Q1) v20.2 (qe9 none (↑v20.1:Int).toNat)] (0:Nat)) (nL v20.2 (qe9 none v5.toNat)) (↑v18.1:Int).toNat)/\fits .i64 ((↑v20.1:Int)+(1:Int))/\∃(v25:Nat × List Q0),q8u v18.2.2.1 v18.2.1 v18.1 v25.1 v25.2/\v18.2.2.1.length-v25.1<v18.2.2.1.length-v20.1/\(True/\True/\True/\(↑v20.1:Int)+(1:Int)=(↑v25.1:Int)/\True)/\(List.set v20.2 (qe9 none (↑v20.1:Int).toNat) (qf0 (Ty.list Q1) [qy7 (nL [qf0 (Ty.list Q1) v20.2 (qe9 none (↑v20.1:Int).toNat)] (0:Nat)) (nL v20.2 (qe9 none v5.toNat)) (↑v18.1:Int).toNat] (0:Nat))=v25.2/\True/\T=T)/\v18.2.2.2=v18.2.2.2/\((↑v18.1:Int)=(↑v18.1:Int)/\True)/\True/\True/\True/\True/\True/\True/\True/\True/\True/\True/\True/\True/\True/\True/\True/\True/\True/\True/\True/\True/\True/\True/\True/\True/\True/\True/\True/\True/\True)/\((nI (nL v20.2 (qe9 none (↑v20.1:Int).toNat)) (↑v18.1:Int).toNat != (0:Int))=false->fits .i64 ((↑v20.1:Int)+(1:Int))/\∃(v25:Nat × List Q0),q8u v18.2.2.1 v18.2.1 v18.1 v25.1 v25.2/\v18.2.2.1.length-v25.1<v18.2.2.1.length-v20.1/\(True/\True/\True/\(↑v20.1:Int)+(1:Int)=(↑v25.1:Int)/\True)/\(v20.2=v25.2/\True/\T=T)/\v18.2.2.2=v18.2.2.2/\((↑v18.1:Int)=(↑v18.1:Int)/\True)/\True/\True/\True/\True/\True/\True/\True/\True/\True/\True/\True/\True/\True/\True/\True/\True/\True/\True/\True/\True/\True/\True/\True/\True/\True/\True/\True/\True/\True))/\(((↑v20.1:Int) != v5)=false->fits .i64 ((↑v20.1:Int)+(1:Int))/\∃(v24:Nat × List Q0),q8u v18.2.2.1 v18.2.1 v18.1 v24.1 v24.2/\v18.2.2.1.length-v24.1<v18.2.2.1.length-v20.1/\(True/\True/\True/\(↑v20.1:Int)+(1:Int)=(↑v24.1:Int)/\True)/\(v20.2=v24.2/\True/\T=T)/\v18.2.2.2=v18.2.2.2/\((↑v18.1:Int)=(↑v18.1:Int)/\True)/\True/\True/\True/\True/\True/\True/\True/\True/\True/\True/\True/\True/\True/\True/\True/\True/\True/\True/\True/\True/\True/\True/\True/\True/\True/\True/\True/\True/\True))/\(decide ((↑v20.1:Int)<(↑(qe3 v15.2.length none):Int))=false->((0:Nat)<List.length [(↑v18.1:Int)]/\Nat.le (v18.2.2.2.length+List.length [(↑v18.1:Int)]) (1000000:Nat))/\fits .i64 ((↑v2.1:Int)+(1:Int))/\∃(v23:Nat × List Q0 × List Int),w7j rows c.toNat v23.1 v23.2.1 v23.2.2/\c.toNat-v23.1<c.toNat-v2.1/\(True/\True/\(↑v2.1:Int)+(1:Int)=(↑v23.1:Int)/\True)/\(v20.2=v23.2.1/\True/\T=T)/\v18.2.2.2++[(↑v18.1:Int)]=v23.2.2/\True)))/\(decide (nI (nL v2.2.1 (qe9 (some (List.set (ixL v2.2.1.length (some (List.set (ixL v2.2.1.length none) v5.toNat (qe9 none (v5+v9).toNat)))) (v5+v9).toNat (qe9 none v5.toNat))) v5.toNat)) (↑v2.1:Int).toNat<(0:Int))=false->∃(v13:Nat × Nat × List Q0 × List Int),∃(v14:Nat × List Q0),q8u v13.2.2.1 v13.2.1 v13.1 v14.1 v14.2/\(List.Nodup (List.set (ixL v2.2.1.length (some (List.set (ixL v2.2.1.length none) v5.toNat (qe9 none (v5+v9).toNat)))) (v5+v9).toNat (qe9 none v5.toNat))/\(List.set (ixL v2.2.1.length (some (List.set (ixL v2.2.1.length none) v5.toNat (qe9 none (v5+v9).toNat)))) (v5+v9).toNat (qe9 none v5.toNat)).length=v2.2.1.length)/\((True/\True/\True/\(0:Int)=(↑v14.1:Int)/\True)/\(q3b (Ty.int .i64) v2.2.1 (some (List.set (ixL v2.2.1.length (some (List.set (ixL v2.2.1.length none) v5.toNat (qe9 none (v5+v9).toNat)))) (v5+v9).toNat (qe9 none v5.toNat)))=v14.2/\True/\T=T)/\v2.2.2=v13.2.2.2/\((↑v2.1:Int)=(↑v13.1:Int)/\True)/\True/\True/\True/\True/\True/\True/\True/\True/\True/\True/\True/\True/\True/\True/\True/\True/\True/\True/\True/\True/\True/\True/\True/\True/\True/\True/\True/\True/\True)/\∀(v15:Nat × List Q0),q8u v13.2.2.1 v13.2.1 v13.1 v15.1 v15.2->(decide ((↑v15.1:Int)<(↑(qe3 v2.2.1.length (some (List.set (ixL v2.2.1.length (some (List.set (ixL v2.2.1.length none) v5.toNat (qe9 none (v5+v9).toNat)))) (v5+v9).toNat (qe9 none v5.toNat)))):Int))=true->((0:Int)<=(↑v15.1:Int)/\(↑v15.1:Int)<(↑(qe3 v15.2.length none):Int))/\(↑v15.1:Int).toNat<qe3 v15.2.length none/\(((↑v15.1:Int) != v5)=true->((0:Int)<=(↑v13.1:Int)/\(↑v13.1:Int)<(↑(nL v15.2 (qe9 none (↑v15.1:Int).toNat)).length:Int))/\(↑v13.1:Int).toNat<(nL v15.2 (qe9 none (↑v15.1:Int).toNat)).length/\((nI (nL v15.2 (qe9 none (↑v15.1:Int).toNat)) (↑v13.1:Int).toNat != (0:Int))=true->((0:Int)<=v5/\v5<(↑(qe3 v15.2.length none):Int))/\v5.toNat<qe3 v15.2.length none/\qe9 none v5.toNat≠qe9 none (↑v15.1:Int).toNat/\((0:Ty.den qc0)<=(↑v13.1:Int)/\wv0 (nL [qf0 (Ty.list Q1) v15.2 (qe9 none (↑v15.1:Int).toNat)] (0:Nat)) (nL v15.2 (qe9 none v5.toNat)) (↑v13.1:Int).toNat)/\fits .i64 ((↑v15.1:Int)+(1:Int))/\∃(v20:Nat × List Q0),q8u v13.2.2.1 v13.2.1 v13.1 v20.1 v20.2/\v13.2.2.1.length-v20.1<v13.2.2.1.length-v15.1/\(True/\True/\True/\(↑v15.1:Int)+(1:Int)=(↑v20.1:Int)/\True)/\(List.set v15.2 (qe9 none (↑v15.1:Int).toNat) (qf0 (Ty.list Q1) [qy7 (nL [qf0 (Ty.list Q1) v15.2 (qe9 none (↑v15.1:Int).toNat)] (0:Nat)) (nL v15.2 (qe9 none v5.toNat)) (↑v13.1:Int).toNat] (0:Nat))=v20.2/\True/\T=T)/\v13.2.2.2=v13.2.2.2/\((↑v13.1:Int)=(↑v13.1:Int)/\True)/\True/\True/\True/\True/\True/\True/\True/\True/\True/\True/\True/\True/\True/\True/\True/\True/\True/\True/\True/\True/\True/\True/\True/\True/\True/\True/\True/\True/\True)/\((nI (nL v15.2 (qe9 none (↑v15.1:Int).toNat)) (↑v13.1:Int).toNat != (0:Int))=false->fits .i64 ((↑v15.1:Int)+(1:Int))/\∃(v20:Nat × List Q0),q8u v13.2.2.1 v13.2.1 v13.1 v20.1 v20.2/\v13.2.2.1.length-v20.1<v13.2.2.1.length-v15.1/\(True/\True/\True/\(↑v15.1:Int)+(1:Int)=(↑v20.1:Int)/\True)/\(v15.2=v20.2/\True/\T=T)/\v13.2.2.2=v13.2.2.2/\((↑v13.1:Int)=(↑v13.1:Int)/\True)/\True/\True/\True/\True/\True/\True/\True/\True/\True/\True/\True/\True/\True/\True/\True/\True/\True/\True/\True/\True/\True/\True/\True/\True/\True/\True/\True/\True/\True))/\(((↑v15.1:Int) != v5)=false->fits .i64 ((↑v15.1:Int)+(1:Int))/\∃(v19:Nat × List Q0),q8u v13.2.2.1 v13.2.1 v13.1 v19.1 v19.2/\v13.2.2.1.length-v19.1<v13.2.2.1.length-v15.1/\(True/\True/\True/\(↑v15.1:Int)+(1:Int)=(↑v19.1:Int)/\True)/\(v15.2=v19.2/\True/\T=T)/\v13.2.2.2=v13.2.2.2/\((↑v13.1:Int)=(↑v13.1:Int)/\True)/\True/\True/\True/\True/\True/\True/\True/\True/\True/\True/\True/\True/\True/\True/\True/\True/\True/\True/\True/\True/\True/\True/\True/\True/\True/\True/\True/\True/\True))/\(decide ((↑v15.1:Int)<(↑(qe3 v2.2.1.length (some (List.set (ixL v2.2.1.length (some (List.set (ixL v2.2.1.length none) v5.toNat (qe9 none (v5+v9).toNat)))) (v5+v9).toNat (qe9 none v5.toNat)))):Int))=false->((0:Nat)<List.length [(↑v13.1:Int)]/\Nat.le (v13.2.2.2.length+List.length [(↑v13.1:Int)]) (1000000:Nat))/\fits .i64 ((↑v2.1:Int)+(1:Int))/\∃(v18:Nat × List Q0 × List Int),w7j rows c.toNat v18.1 v18.2.1 v18.2.2/\c.toNat-v18.1<c.toNat-v2.1/\(True/\True/\(↑v2.1:Int)+(1:Int)=(↑v18.1:Int)/\True)/\(v15.2=v18.2.1/\True/\T=T)/\v13.2.2.2++[(↑v13.1:Int)]=v18.2.2/\True))))/\(decide ((↑v2.1:Int)<c)=false->v2.2.1=(qb5 rows c.toNat).1/\T=T/\True/\v2.2.2=(qb5 rows c.toNat).2)) ?_
 simp only[q5m,w7k,x0s,x0t,q8v,xg0,wv9,xg1,List.length_set,List.length_range,List.take_length]
 obtain⟨hc0,W,hR⟩:=h
 have hRn:=hR.n
 have hRw:=hR.w
 refine⟨(),(0,rows,[]),⟨zae _,rfl⟩,⟨rfl,rfl,rfl⟩,?_⟩
 rintro⟨j,r0,piv⟩ ⟨hjc,hj⟩
 dsimp only at hjc hj ⊢
 have hsh:=q2r hR j
 rw[hj] at hsh
 have hn:=hsh.cnt
 have hpn:=hsh.piv
 have hpj:=hsh.pivj
 dsimp only at hn hpn hpj
 refine⟨λhlt=>?_,λhge=>?_⟩
 ·have hjl:j<c.toNat:=ow
  have hjW:j<W:=by have:=hR.cw; omega
  rintro k rfl
  have he:=hsh.each
  dsimp only at he
  have hdrop:∀q,q<(r0.drop piv.length).length->j<(nL (r0.drop piv.length) q).length:=λq hq=>by
   rw[List.length_drop] at hq
   have e:nL (r0.drop piv.length) q=nL r0 (piv.length+q):=by
    grind [qp2,List.length_drop]
   grind
  simp only[Int.toNat_natCast]
  refine⟨⟨ow,ow,zac _⟩,λx=>j<x.1.length,λx=>nI x.1 j != 0,λx hx=>⟨hx,rfl⟩,⟨by grind,hdrop⟩,?_⟩
  rintro a ha
  have ha:a=qu8 r0 piv.length j:=ha
  subst ha
  refine⟨λhneg=>?_,λhpos=>?_⟩
  ·refine⟨qa6,(j+1,r0,piv),⟨ow,?_⟩,ow,by rfl,rfl,rfl⟩
   simp_all [qb5,qx6,if_pos]
  have hb:=q2p r0 piv.length j ow hpos
  have hso:x4h r0 piv.length j:=by have:=hR.step j hjl; grind
  have hse:=q8w (W:=W) ow hpos (λi hi=>he i ow)
  have hpe:=q2q (W:=W) ow hpos (λi hi=>he i ow)
  have hab:((piv.length:Int)+qu8 r0 piv.length j).toNat=piv.length+(qu8 r0 piv.length j).toNat:=ow
  simp only[hab]
  have hgd:=x0u r0.length piv.length (piv.length+(qu8 r0 piv.length j).toNat) ow hb
  have hmap:=x6u r0 piv.length (piv.length+(qu8 r0 piv.length j).toNat) ow hb
  have hnd:=xg2 r0.length piv.length (piv.length+(qu8 r0 piv.length j).toNat) ow hb
  have hk1:nL (q2o r0 piv.length j) piv.length=nL r0 (piv.length+(qu8 r0 piv.length j).toNat):=by
   unfold q2o
   rw[q4l _ _ _ ow hb _ ow]
   grind
  simp only[hgd,hmap]
  rw[<- hk1]
  have hsl:=wm6 r0 piv.length j
  have hkW:=hse piv.length ow
  refine⟨qa6,qa6,ow,ow,ow,ow,ow,ow,ow,ow,ow,ow,ow,ow,λhng=>?_,λhng=>?_⟩
  ·refine⟨ow,ow,(j,piv.length,q2o r0 piv.length j,piv),(0,q2o r0 piv.length j),⟨zae _,?_⟩,⟨hnd,trivial⟩,⟨rfl,rfl,rfl,rfl⟩,?_⟩
   ·dsimp only
    have e:ovr (.int .i64) (λq=>0-nI (nL (q2o r0 piv.length j) piv.length) q) (nL (q2o r0 piv.length j) piv.length) 0=nL (q2o r0 piv.length j) piv.length:=q4k (.int .i64) _ _
    grind [qp2,List.set_getElem_self]
   rintro⟨i,r⟩ ⟨hi1,hi2⟩
   dsimp only at hi1 hi2 ⊢
   have hrl:r.length=r0.length:=by grind
   have hrk:nL r piv.length=ovr (.int .i64) (λq=>0-nI (nL (q2o r0 piv.length j) piv.length) q) (nL (q2o r0 piv.length j) piv.length) i:=by
    rw[hi2,xg3 _ _ _ _ ow,zap rfl]
   have hrkl:(nL r piv.length).length=W:=by grind [q0q]
   refine⟨λhlt=>?_,λhge=>?_⟩
   ·have hv:nI (nL r piv.length) i=nI (nL (q2o r0 piv.length j) piv.length) i:=by
     rw[hrk]
     exact(wf5 (.int .i64) _ _ _ _ hlt).trans (zaj (zbg _))
    have hbd:qd8 BIG (nI (nL (q2o r0 piv.length j) piv.length) i):=hso.neg _ (by grind [qg5,List.getElem_mem])
    unfold qd8 BIG at hbd
    rw[hv]
    refine⟨ow,ow,ow,ow,ow,ow,qa6,ow,ow,qa6,(i+1,r.set piv.length ((nL r piv.length).set i (0-nI (nL (q2o r0 piv.length j) piv.length) i))),⟨ow,?_⟩,ow,by rfl,rfl⟩
    dsimp only
    have e:=q2l (.int .i64) (λq=>0-nI (nL (q2o r0 piv.length j) piv.length) q) (nL (q2o r0 piv.length j) piv.length) i
    simp_all
   ·have hprep:r=qi9 r0 piv.length j:=by
     unfold qi9
     rw[zap hng,hi2]
     refine za2 _ ?_
     exact q8m (.int .i64) _ _ _ ow
    refine⟨(j,piv.length,qi9 r0 piv.length j,piv),(0,qi9 r0 piv.length j),⟨zae _,(q4k (.list (.int .i64)) _ _).symm⟩,⟨rfl,hprep,rfl,rfl⟩,?_⟩
    rw[hprep,ql7]
    rintro⟨i,r⟩ ⟨hi1,hi2⟩
    dsimp only at hi1 hi2 ⊢
    have hpl:=ql7 r0 piv.length j
    have hrl:r.length=r0.length:=by rw[hi2,q0q,ql7]
    have hi1:i<=r0.length:=ow
    have hat:∀q,q<r0.length->nL r q=if q<i then wp8 (qi9 r0 piv.length j) piv.length j q else nL (qi9 r0 piv.length j) q:=λq hq=>by
     rw[hi2]; exact wf5 (.list (.int .i64)) _ _ _ _ ow
    have hk2:nL r piv.length=nL (qi9 r0 piv.length j) piv.length:=by
     grind [q4n]
    refine⟨λhlt=>?_,λhge=>?_⟩
    ·have hlt:i<r0.length:=ow
     have hri:nL r i=nL (qi9 r0 piv.length j) i:=by grind
     have hw:=hpe i hlt
     refine⟨ow,ow,λhne=>⟨by grind,by grind,λhnz=>?_,λhz=>?_⟩,λheq=>?_⟩
     ·rw[hri] at hnz
      have hne:i≠piv.length:=ow
      have hcl:=hso.clr i hlt hne hnz
      have hcr:wp8 (qi9 r0 piv.length j) piv.length j i=qy7 (nL r i) (nL r piv.length) j:=by
       simp_all [wp8,if_pos]
      refine⟨ow,ow,ow,?_,qa6,(i+1,r.set i (qy7 (nL r i) (nL r piv.length) j)),⟨ow,?_⟩,ow,by rfl,rfl⟩
      ·show wv0 (nL r i) (nL r piv.length) j
       grind
      grind [q2l]
     ·refine⟨qa6,(i+1,r),⟨ow,?_⟩,ow,by rfl,rfl⟩
      dsimp only
      rw[hi2]
      refine q7i (.list (.int .i64)) _ _ _ λ_=>?_
      unfold wp8
      rw[zaj]
      ·rfl
      grind
     ·refine⟨qa6,(i+1,r),⟨ow,?_⟩,ow,by rfl,rfl⟩
      dsimp only
      rw[hi2]
      refine q7i (.list (.int .i64)) _ _ _ λ_=>?_
      have e:i=piv.length:=ow
      rw[e]
      exact q4n _ _ _
    ·obtain rfl:i=r0.length:=ow
     refine⟨ow,qa6,(j+1,r,piv++[(j:Int)]),⟨ow,?_⟩,ow,by rfl,rfl,rfl⟩
     rw[qb5,hj,qx6,zaj (by grind),hi2]
     refine za2 (·,_) ?_
     rw[<- ql7 r0 piv.length j]
     exact(q8m (.list (.int .i64)) _ _ _ (zac _)).symm
  ·have hprep:q2o r0 piv.length j=qi9 r0 piv.length j:=by simp_all [qi9,if_neg]
   refine⟨(j,piv.length,qi9 r0 piv.length j,piv),(0,qi9 r0 piv.length j),⟨zae _,(q4k (.list (.int .i64)) _ _).symm⟩,⟨hnd,trivial⟩,⟨rfl,hprep,rfl,rfl⟩,?_⟩
   rintro⟨i,r⟩ ⟨hi1,hi2⟩
   dsimp only at hi1 hi2 ⊢
   have hpl:=ql7 r0 piv.length j
   have hrl:r.length=r0.length:=by rw[hi2,q0q,ql7]
   have hi1:i<=r0.length:=ow
   have hat:∀q,q<r0.length->nL r q=if q<i then wp8 (qi9 r0 piv.length j) piv.length j q else nL (qi9 r0 piv.length j) q:=λq hq=>by
    rw[hi2]; exact wf5 (.list (.int .i64)) _ _ _ _ ow
   have hk2:nL r piv.length=nL (qi9 r0 piv.length j) piv.length:=by
    grind [q4n]
   refine⟨λhlt=>?_,λhge=>?_⟩
   ·have hlt:i<r0.length:=ow
    have hri:nL r i=nL (qi9 r0 piv.length j) i:=by grind
    have hw:=hpe i hlt
    refine⟨ow,ow,λhne=>⟨by grind,by grind,λhnz=>?_,λhz=>?_⟩,λheq=>?_⟩
    ·rw[hri] at hnz
     have hne:i≠piv.length:=ow
     have hcl:=hso.clr i hlt hne hnz
     have hcr:wp8 (qi9 r0 piv.length j) piv.length j i=qy7 (nL r i) (nL r piv.length) j:=by
      simp_all [wp8,if_pos]
     refine⟨ow,ow,ow,?_,qa6,(i+1,r.set i (qy7 (nL r i) (nL r piv.length) j)),⟨ow,?_⟩,ow,by rfl,rfl⟩
     ·show wv0 (nL r i) (nL r piv.length) j
      grind
     grind [q2l]
    ·refine⟨qa6,(i+1,r),⟨ow,?_⟩,ow,by rfl,rfl⟩
     dsimp only
     rw[hi2]
     refine q7i (.list (.int .i64)) _ _ _ λ_=>?_
     unfold wp8
     rw[zaj]
     ·rfl
     grind
    ·refine⟨qa6,(i+1,r),⟨ow,?_⟩,ow,by rfl,rfl⟩
     dsimp only
     rw[hi2]
     refine q7i (.list (.int .i64)) _ _ _ λ_=>?_
     have e:i=piv.length:=ow
     rw[e]
     exact q4n _ _ _
   ·obtain rfl:i=r0.length:=ow
    refine⟨ow,qa6,(j+1,r,piv++[(j:Int)]),⟨ow,?_⟩,ow,by rfl,rfl,rfl⟩
    rw[qb5,hj,qx6,zaj (by grind),hi2]
    refine za2 (·,_) ?_
    rw[<- ql7 r0 piv.length j]
    exact(q8m (.list (.int .i64)) _ _ _ (zac _)).symm
 grind
def xg5 (a:Int):Nat->List Int
 | 0=>[]
 | k+1=>a :: xg5 (a+1) k
theorem wm8 (a:Int) (k:Nat):(xg5 a k).length=k:=by
 induction k generalizing a with
 | zero=>rfl
 | succ k ih=>grind [xg5]
def qq5:Nat->Nat->Int->List (List Int)
 | _,0,_=>[[]]
 | 0,_+1,_=>[]
 | m+1,k+1,a=>(qq5 m k (a+1)).map (a :: ·)++qq5 m (k+1) (a+1)
def q5n (n:Int):List Int->Option (List Int)
 | []=>none
 | x :: t=>match q5n n t with
  | some t'=>some (x :: t')
  | none=>if x+t.length+1<n then some (xg5 (x+1) (t.length+1)) else none
theorem ww1 {m k:Nat} {a:Int} {l:List Int} (h:l∈qq5 m k a):l.length=k:=by
 induction m generalizing k a l with
 | zero=>cases k with
  | zero=>grind [qq5]
  | succ k=>cases h
 | succ m ih=>cases k with
  | zero=>grind [qq5]
  | succ k=>
   rcases zak.1 h with h | h
   all_goals grind
structure InC (m k:Nat) (a:Int) (l:List Int):Prop where
 len:l.length=k
 lo:∀i,i<k->a+i<=nI l i
 hi:∀i,i<k->nI l i+(k-i:Nat)<=a+m
 asc:∀i,0<i->i<k->nI l (i-1)<nI l i
theorem q0r (x:Int) (t:List Int):nI (x :: t) 0=x:=rfl
theorem qw1 (x:Int) (t:List Int) (i:Nat):nI (x :: t) (i+1)=nI t i:=rfl
theorem w4m {m k:Nat} {a:Int} {l:List Int} (h:l∈qq5 m k a):InC m k a l:=by
 induction m generalizing k a l with
 | zero=>cases k with
  | zero=>simp[qq5] at h; subst h; exact⟨rfl,λi hi=>by omega,λi hi=>by omega,λi _ hi=>by omega⟩
  | succ k=>cases h
 | succ m ih=>cases k with
  | zero=>simp[qq5] at h; subst h; exact⟨rfl,λi hi=>by omega,λi hi=>by omega,λi _ hi=>by omega⟩
  | succ k=>
   rcases zak.1 h with h | h
   ·obtain⟨t,ht,rfl⟩:=zbk.1 h
    have q:=ih ht
    refine⟨by simp[q.len],λi hi=>?_,λi hi=>?_,λi h0 hi=>?_⟩
    ·cases i with
     | zero=>grind [q0r]
     | succ i=>rw[qw1]; have:=q.lo i ow; omega
    ·cases i with
     | zero=>
      rw[q0r]
      cases k with
      | zero=>omega
      | succ k=>have h1:=q.lo 0 ow; have h2:=q.hi 0 ow; omega
     | succ i=>rw[qw1]; have:=q.hi i ow; omega
    ·obtain⟨i,rfl⟩:∃q,i=q+1:=⟨i-1,ow⟩
     rw[qw1,Nat.add_sub_cancel]
     cases i with
     | zero=>rw[q0r]; have:=q.lo 0 ow; omega
     | succ i=>rw[qw1]; have:=q.asc (i+1) ow ow; grind
   ·have q:=ih h
    exact⟨q.len,λi hi=>by have:=q.lo i hi; omega,λi hi=>by have:=q.hi i hi; omega,q.asc⟩
theorem w7l {m k:Nat} {a:Int} (h:m<k):qq5 m k a=[]:=by
 induction m generalizing k a with
 | zero=>cases k with
  | zero=>omega
  | succ k=>rfl
 | succ m ih=>cases k with
  | zero=>omega
  | succ k=>grind [qq5]
theorem w7m (m:Nat) (a:Int):qq5 m 0 a=[[]]:=by cases m <;> rfl
theorem wg7 {m k:Nat} {a:Int} (h:k<=m):(qq5 m k a)[0]? = some (xg5 a k):=by
 induction m generalizing k a with
 | zero=>
  obtain rfl:k=0:=ow
  rfl
 | succ m ih=>cases k with
  | zero=>rfl
  | succ k=>
   have:=ih (k:=k) (a:=a+1) ow
   have hl:0<(qq5 m k (a+1)).length:=(zag.1 this).1
   rw[qq5,zb9 (by grind),zbm,this]
   rfl
theorem w7n {m k:Nat} {a n:Int} (hn:n=a+m) {c:Nat} {l:List Int} (h:(qq5 m k a)[c]? = some l):q5n n l=(qq5 m k a)[c+1]?:=by
 induction m generalizing k a c l with
 | zero=>cases k with
  | zero=>
   have hc:=(zag.1 h).1
   simp[qq5] at hc
   subst hc
   simp[qq5] at h
   subst h
   rfl
  | succ k=>grind [qq5]
 | succ m ih=>cases k with
  | zero=>
   have hc:=(zag.1 h).1
   simp[qq5] at hc
   subst hc
   simp[qq5] at h
   subst h
   rfl
  | succ k=>
   rw[qq5] at h ⊢
   rcases zas c ((qq5 m k (a+1)).map (a :: ·)).length with hlt | hge
   ·rw[zb9 hlt,zbm] at h
    obtain⟨t,ht,rfl⟩:=zb5.1 h
    have hi:=ih ow ht
    have htl:=ww1 (zah ht)
    have hcl:c<(qq5 m k (a+1)).length:=by grind
    simp only[q5n,hi]
    rcases zas (c+1) (qq5 m k (a+1)).length with h2 | h2
    ·grind
    ·rw[zdh h2,zcg (by grind)]
     have e:c+1-((qq5 m k (a+1)).map (a :: ·)).length=0:=ow
     rw[e,htl]
     simp only
     by_cases hk:k+1<=m
     ·rw[wg7 hk,zap ow]
     ·rw[w7l ow,zaj ow]
      rfl
   grind
def qf2 (n k:Int):List (List Int):=if k<=n then qq5 n.toNat k.toNat 0 else[]
theorem xg6 (a:Int) (k i:Nat) (h:i<k):nI (xg5 a k) i=a+i:=by
 induction k generalizing a i with
 | zero=>omega
 | succ k ih=>cases i with
  | zero=>simp[xg5,q0r]
  | succ i=>grind [xg5,qw1]
theorem q5o {n:Int}:∀{l:List Int},(∀q:Nat,q<l.length->nI l q=n-l.length+q)->q5n n l=none
 | [],_=>rfl
 | x :: t,h=>by
  have h0:=h 0 (by simp)
  rw[q0r] at h0
  have ht:q5n n t=none:=q5o λq hq=>by
   have:=h (q+1) (by grind)
   grind [qw1,List.length_cons]
  simp only[q5n,ht]
  grind
theorem wg8 {n:Int}:∀{l:List Int} {i:Nat},i<l.length->(∀q:Nat,i<q->q<l.length->nI l q=n-l.length+q)->nI l i<n-l.length+i->q5n n l=some (l.take i++xg5 (nI l i+1) (l.length-i))
 | x :: t,0,_,h,h0=>by
  rw[q0r] at h0
  have ht:q5n n t=none:=q5o λq hq=>by
   have:=h (q+1) ow (by grind)
   grind [qw1,List.length_cons]
  simp only[q5n,ht]
  simp only[List.length_cons] at h0
  rw[zap ow]
  rfl
 | x :: t,i+1,hi,h,h0=>by
  have:=wg8 (n:=n) (l:=t) (i:=i) (by grind) (λq h1 h2=>by
   have:=h (q+1) ow (by grind)
   grind [qw1,List.length_cons]) (by
   grind [qw1,List.length_cons])
  grind [q5n,qw1,List.length_cons,Nat.add_sub_add_right]
def xv3 (l:List Int) (i:Nat):List Int:=l.take i++xg5 (nI l i+1) (l.length-i)
theorem w4n (l:List Int) (i:Nat) (hi:i<l.length):(xv3 l i).length=l.length:=by
 grind [xv3,wm8]
theorem wm9 (l:List Int) (i q:Nat) (hi:i<l.length) (hq:q<l.length):nI (xv3 l i) q=if q<i then nI l q else nI l i+1+(q-i:Nat):=by
 rw[qg5 _ _ (by rw[w4n l i hi]; exact hq)]
 unfold xv3
 split
 ·grind [List.getElem_append_left,qg5]
 ·rename_i h
  rw[List.getElem_append_right (by grind)]
  have hl:(l.take i).length=i:=by grind
  have:=xg6 (nI l i+1) (l.length-i) (q-i) ow
  grind [qg5,wm8]
def mkC (l:List Int) (i j:Nat):List Int:=ovr (.int .i64) (nI (xv3 l i)) l j
theorem q8y (l:List Int) (i j:Nat):(mkC l i j).length=l.length:=q0q (.int .i64) _ _ _
theorem w4o (l:List Int) (i j q:Nat) (hq:q<l.length):nI (mkC l i j) q=if q<j then nI (xv3 l i) q else nI l q:=wf5 (.int .i64) _ _ _ _ hq
theorem xg7 {a b:List Int} (h:a.length=b.length) (k:∀i,i<a.length->nI a i=nI b i):a=b:=by
 grind [List.ext_getElem,qg5]
theorem xg8 (l:List Int) (i:Nat) (hi:i<l.length):mkC l i (i+1)=l.set i (nI l i+1):=by
 apply xg7 (by rw[q8y,zba])
 intro q hq
 rw[q8y] at hq
 rw[w4o _ _ _ _ hq,qg5 (l.set i (nI l i+1)) q (by grind),zc2,wm9 _ _ _ hi hq]
 by_cases e:i=q
 ·omega
 ·rw[zaj e,<- qg5 l q hq]
  omega
theorem x0v (l:List Int) (i j:Nat) (hi:i<j) (hj:j<l.length):(mkC l i j).set j (nI (mkC l i j) (j-1)+1)=mkC l i (j+1):=by
 have e:nI (mkC l i j) (j-1)+1=nI (xv3 l i) j:=by
  rw[w4o _ _ _ _ ow,zap ow,wm9 _ _ _ ow ow,wm9 _ _ _ ow hj,zaj ow]
  omega
 rw[e]
 exact q2l (.int .i64) _ _ _
theorem x6v (l:List Int) (i:Nat) (hi:i<l.length):mkC l i l.length=xv3 l i:=by
 apply xg7 (by grind [q8y,w4n])
 simp_all [q8y,w4o,if_pos]
structure xg9 (n k:Int) (c:Nat) (l:List Int):Prop where
 len:l.length=k.toNat
 at_:k<=n->(qf2 n k)[c]? = some l
 cnt:n<k->c=0
structure x0w (n k:Int) (l:List Int) (i:Int):Prop where
 lo:-1<=i
 hi:i<k
 last:∀q:Nat,i<q->q<l.length->nI l q=n-k+q
structure x6w (l:List Int) (i j:Nat) (r:List Int):Prop where
 lo:i<j
 hi:j<=l.length
 eq:r=mkC l i j
abbrev yd8:q1b:=w1o [qc0,qc0] [qe8] (λx=>(0<=x.1/\x.1<=1000)/\0<=x.2.1/\x.2.1<=1000) (λx=>(qf2 x.2.1 x.1).map λl=>(l,())) (some 3)
def yd9 (n k:Int):Nat->Option Inv
 | 0=>some (Inv.of [4] 2 (λ_:Nat × List Int=>[(4,.own 1)]) (λs=>[.cnt (some s.1),.vec 3 (.int .i64) s.2]) (λs=>xg9 n k s.1 s.2) (λs=>(qf2 n k).length+1-s.1))
 | 1=>some (Eng.Inv.mk (Nat × List Int) Int [4,5] 2 (λ_ i=>[(4,.own 1),(5,.lit (.int .i64 i))]) (λq i=>[.cnt (some q.1),.vec 3 (.int .i64) q.2]) (λq i=>x0w n k q.2 i) (λq i=>(i+1).toNat))
 | 2=>some (Eng.Inv.mk (Nat × List Int × Nat) (Nat × List Int) [4,6] 16 (λ_ s=>[(4,.own 1),(6,.lit (.int .i64 s.1))]) (λq s=>[.cnt (some q.1),.vec 3 (.int .i64) s.2,.dead,.dead,.dead,.dead,.dead,.dead,.dead,.dead,.dead,.dead,.dead,.dead,.dead,.dead]) (λq s=>x6w q.2.1 q.2.2 s.1 s.2) (λq s=>q.2.1.length-s.1))
 | _=>none
theorem x0x (k:Nat):xg5 0 k=qq8 k:=by
 grind [xg7,wm8,qg8,xg6,q5j]
theorem xh0 {n k:Int} (hkn:k<=n) (hk:0<=k) {c:Nat} {l:List Int} (h:(qf2 n k)[c]? = some l):q5n n l=(qf2 n k)[c+1]?:=by
 unfold qf2 at h ⊢
 rw[zap hkn] at h ⊢
 grind [w7n]
theorem x6x {n k:Int} {l:List Int} (h:l∈qf2 n k):InC n.toNat k.toNat 0 l:=by
 grind [qf2,w4m]
theorem wg9:q02 Tryz.prog 203 yd8:=by
 refine says (snd (SpecsOk.cons q8s (SpecsOk.nil _))) Tryz.func203 rfl rfl rfl [12] (λx=>yd9 x.2.1 x.1) (λ_=>by kernel_rfl) dc ?_
 rintro⟨k,n,⟨⟩⟩ l h
 revert k n
 intro(k:Int) (n:Int) (h:(0<=k/\k<=1000)/\0<=n/\n<=1000)
 refine vcs (let Q0:=qf2 n k; let Q1:=(k,n,PUnit.unit); k<=(100000:Ty.den qc0)/\∃(v0:Unit),∃(v1:Nat × List Int),xg9 n k v1.1 v1.2/\((True/\True)/\some (0:Nat)=some v1.1/\qq8 k.toNat=v1.2/\True)/\∀(v2:Nat × List Int),xg9 n k v2.1 v2.2->(decide (k<=n)=true->Value.func (Fn.yield l) #[] #[]=Value.func (Fn.yield (qh4.l (q08 [qc0,qc0] [qe8] [(12:Nat)] Q1 (List.map (λ(v5:List Int)=>(v5,())) Q0) l (some (3:Nat))))) #[] #[]/\(qh4.L (q08 [qc0,qc0] [qe8] [(12:Nat)] Q1 (List.map (λ(v5:List Int)=>(v5,())) Q0) l (some (3:Nat))))[v2.1]?=some (v2.2,())/\(fits .i64 (k-(1:Int))/\∃(v5:Nat × List Int),∃(v6:Int),x0w n k v5.2 v6/\((True/\k-(1:Int)=v6/\True)/\some (v2.1+(1:Nat))=some v5.1/\v2.2=v5.2/\True)/\∀(v7:Int),x0w n k v5.2 v7->(decide ((0:Int)<=v7)=true->((0:Int)<=v7/\v7<(↑v5.2.length:Int))/\v7.toNat<v5.2.length/\fits .i64 (n-k)/\fits .i64 (n-k+v7)/\((nI v5.2 v7.toNat==n-k+v7)=true->fits .i64 (v7-(1:Int))/\∃(v11:Int),x0w n k v5.2 v11/\(v11+(1:Int)).toNat<(v7+(1:Int)).toNat/\(True/\v7-(1:Int)=v11/\True)/\some v5.1=some v5.1/\v5.2=v5.2/\True)/\((nI v5.2 v7.toNat==n-k+v7)=false->(decide (v7<(0:Int))=true->v5.1=(qh4.L (q08 [qc0,qc0] [qe8] [(12:Nat)] Q1 (List.map (λ(v12:List Int)=>(v12,())) Q0) l (some (3:Nat)))).length)/\(decide (v7<(0:Int))=false->((0:Int)<=v7/\v7<(↑v5.2.length:Int))/\v7.toNat<v5.2.length/\fits .i64 (nI v5.2 v7.toNat+(1:Int))/\((0:Int)<=v7/\v7<(↑v5.2.length:Int))/\v7.toNat<v5.2.length/\fits .i64 (v7+(1:Int))/\∃(v12:Nat × List Int × Nat),∃(v13:Nat × List Int),x6w v12.2.1 v12.2.2 v13.1 v13.2/\((True/\v7+(1:Int)=(↑v13.1:Int)/\True)/\some v5.1=some v12.1/\List.set v5.2 v7.toNat (nI v5.2 v7.toNat+(1:Int))=v13.2/\True/\True/\True/\True/\True/\True/\True/\True/\True/\True/\True/\True/\True/\True/\True)/\∀(v14:Nat × List Int),x6w v12.2.1 v12.2.2 v14.1 v14.2->(decide ((↑v14.1:Int)<k)=true->fits .i64 ((↑v14.1:Int)-(1:Int))/\((0:Int)<=(↑v14.1:Int)-(1:Int)/\(↑v14.1:Int)-(1:Int)<(↑v14.2.length:Int))/\((↑v14.1:Int)-(1:Int)).toNat<v14.2.length/\fits .i64 (nI v14.2 ((↑v14.1:Int)-(1:Int)).toNat+(1:Int))/\((0:Int)<=(↑v14.1:Int)/\(↑v14.1:Int)<(↑v14.2.length:Int))/\(↑v14.1:Int).toNat<v14.2.length/\fits .i64 ((↑v14.1:Int)+(1:Int))/\∃(v17:Nat × List Int),x6w v12.2.1 v12.2.2 v17.1 v17.2/\v12.2.1.length-v17.1<v12.2.1.length-v14.1/\(True/\(↑v14.1:Int)+(1:Int)=(↑v17.1:Int)/\True)/\some v12.1=some v12.1/\List.set v14.2 (↑v14.1:Int).toNat (nI v14.2 ((↑v14.1:Int)-(1:Int)).toNat+(1:Int))=v17.2/\True/\True/\True/\True/\True/\True/\True/\True/\True/\True/\True/\True/\True/\True/\True)/\(decide ((↑v14.1:Int)<k)=false->∃(v17:Nat × List Int),xg9 n k v17.1 v17.2/\Q0.length+(1:Nat)-v17.1<Q0.length+(1:Nat)-v2.1/\(True/\True)/\some v12.1=some v17.1/\v14.2=v17.2/\True))))/\(decide ((0:Int)<=v7)=false->(decide (v7<(0:Int))=true->v5.1=(qh4.L (q08 [qc0,qc0] [qe8] [(12:Nat)] Q1 (List.map (λ(v11:List Int)=>(v11,())) Q0) l (some (3:Nat)))).length)/\(decide (v7<(0:Int))=false->((0:Int)<=v7/\v7<(↑v5.2.length:Int))/\v7.toNat<v5.2.length/\fits .i64 (nI v5.2 v7.toNat+(1:Int))/\((0:Int)<=v7/\v7<(↑v5.2.length:Int))/\v7.toNat<v5.2.length/\fits .i64 (v7+(1:Int))/\∃(v11:Nat × List Int × Nat),∃(v12:Nat × List Int),x6w v11.2.1 v11.2.2 v12.1 v12.2/\((True/\v7+(1:Int)=(↑v12.1:Int)/\True)/\some v5.1=some v11.1/\List.set v5.2 v7.toNat (nI v5.2 v7.toNat+(1:Int))=v12.2/\True/\True/\True/\True/\True/\True/\True/\True/\True/\True/\True/\True/\True/\True/\True)/\∀(v13:Nat × List Int),x6w v11.2.1 v11.2.2 v13.1 v13.2->(decide ((↑v13.1:Int)<k)=true->fits .i64 ((↑v13.1:Int)-(1:Int))/\((0:Int)<=(↑v13.1:Int)-(1:Int)/\(↑v13.1:Int)-(1:Int)<(↑v13.2.length:Int))/\((↑v13.1:Int)-(1:Int)).toNat<v13.2.length/\fits .i64 (nI v13.2 ((↑v13.1:Int)-(1:Int)).toNat+(1:Int))/\((0:Int)<=(↑v13.1:Int)/\(↑v13.1:Int)<(↑v13.2.length:Int))/\(↑v13.1:Int).toNat<v13.2.length/\fits .i64 ((↑v13.1:Int)+(1:Int))/\∃(v16:Nat × List Int),x6w v11.2.1 v11.2.2 v16.1 v16.2/\v11.2.1.length-v16.1<v11.2.1.length-v13.1/\(True/\(↑v13.1:Int)+(1:Int)=(↑v16.1:Int)/\True)/\some v11.1=some v11.1/\List.set v13.2 (↑v13.1:Int).toNat (nI v13.2 ((↑v13.1:Int)-(1:Int)).toNat+(1:Int))=v16.2/\True/\True/\True/\True/\True/\True/\True/\True/\True/\True/\True/\True/\True/\True/\True)/\(decide ((↑v13.1:Int)<k)=false->∃(v16:Nat × List Int),xg9 n k v16.1 v16.2/\Q0.length+(1:Nat)-v16.1<Q0.length+(1:Nat)-v2.1/\(True/\True)/\some v11.1=some v16.1/\v13.2=v16.2/\True))))/\True)/\(decide (k<=n)=false->v2.1=(qh4.L (q08 [qc0,qc0] [qe8] [(12:Nat)] Q1 (List.map (λ(v5:List Int)=>(v5,())) Q0) l (some (3:Nat)))).length)) ?_
 obtain⟨⟨hk0,hk1⟩,hn0,hn1⟩:=h
 refine⟨ow,(),(0,qq8 k.toNat),⟨qg8 _,λhkn=>?_,λ_=>rfl⟩,⟨rfl,rfl⟩,?_⟩
 ·unfold qf2
  rw[zap hkn,wg7 ow,x0x]
 rintro⟨c,s⟩ ⟨hl,ha,hz⟩
 dsimp only at hl ha hz ⊢
 refine⟨λhkn=>?_,λhkn=>?_⟩
 ·have hat:=ha hkn
  have hc:=(zag.1 hat).1
  have hin:=x6x (zah hat)
  have hnx:=xh0 hkn hk0 hat
  have hmap:((qf2 n k).map λv=>((v,()):qa3 [qe8])).length=(qf2 n k).length:=zay _
  refine⟨rfl,?_,qa6,(c+1,s),k-1,⟨ow,ow,λq h1 h2=>by grind⟩,⟨rfl,rfl,rfl⟩,?_⟩
  ·show((qf2 n k).map λv=>((v,()):qa3 [qe8]))[c]? = some (s,())
   grind
  rintro i ⟨lo,hi,last⟩
  dsimp only at lo hi last ⊢
  have fin:i<0->c+1=((qf2 n k).map λv=>((v,()):qa3 [qe8])).length:=λhneg=>by
   grind [q5n,q5o,List.getElem?_eq_none_iff]
  refine⟨λhi0=>?_,λhi0=>⟨fin,λh=>by omega⟩⟩
  have hb1:=hin.lo i.toNat ow
  have hb2:=hin.hi i.toNat ow
  refine⟨ow,ow,qa6,qa6,λheq=>⟨qa6,i-1,⟨ow,ow,λq h1 h2=>?_⟩,ow,rfl⟩,λhne=>⟨fin,λ_=>?_⟩⟩
  ·grind
  have hil:i.toNat<s.length:=ow
  refine⟨ow,hil,qa6,ow,hil,qa6,(c+1,s,i.toNat),(i.toNat+1,s.set i.toNat (nI s i.toNat+1)),⟨zed _,hil,(xg8 s i.toNat hil).symm⟩,⟨ow,rfl,rfl⟩,?_⟩
  rintro⟨j,r⟩ ⟨h1,h2,h3⟩
  dsimp only at h1 h2 h3 ⊢
  have hrl:r.length=s.length:=by rw[h3,q8y]
  refine⟨λhj=>?_,λhj=>?_⟩
  ·have e:((j:Int)-1).toNat=j-1:=ow
   rw[e]
   have hv:nI r (j-1)=nI s i.toNat+1+(j-1-i.toNat:Nat):=by
    rw[h3,w4o _ _ _ _ ow,zap ow,wm9 _ _ _ hil ow,zaj ow]
   refine⟨qa6,ow,ow,qa6,ow,ow,qa6,(j+1,r.set j (nI r (j-1)+1)),⟨ow,ow,?_⟩,ow,by rfl,rfl⟩
   grind [x0v]
  ·have hjl:j=s.length:=ow
   have hr:r=xv3 s i.toNat:=by grind [x6v]
   have hlt2:nI s i.toNat<n-s.length+i.toNat:=by
    grind
   have hst:q5n n s=some (xv3 s i.toNat):=wg8 hil (λq h1 h2=>by grind) hlt2
   refine⟨(c+1,r),⟨hrl.trans hl,λ_=>?_,λh=>absurd (Int.lt_of_lt_of_le h hkn) (Int.lt_irrefl _)⟩,Nat.sub_lt_sub_left (Nat.lt_succ_of_lt hc) (zed c),rfl,rfl⟩
   grind
 ·show c=((qf2 n k).map λv=>((v,()):qa3 [qe8])).length
  simp_all [List.length_map,qf2,if_neg]
abbrev yu7:qa8:=wu3 false none [qc0,qc0] (λ_=>True) (λx=>.clo 203 (.cons (.imm (.cons (.lit (.int .i64 x.2.1)) .nil) 0) (.cons (.imm (.cons (.lit (.int .i64 x.1)) .nil) 0) .nil)))
theorem wh0:Meets Tryz.prog 154 yu7:=by
 refine q6j (snd (SpecsOk.nil _)) Tryz.func154 rfl rfl (λ_ _=>none) (λ_=>by kernel_rfl) dc ?_
 rintro⟨n,k,⟨⟩⟩ -
 revert n k
 intro(n:Int) (k:Int)
 refine vcr (((k=k/\True)/\(0:Nat)=(0:Nat))/\((n=n/\True)/\(0:Nat)=(0:Nat))/\True) ?_
 simp
def yu8 (l:List Int) (x:Int):Nat->Option Inv:=ym1 (.int .i64) l λe=>x==e
abbrev y30:qa8:=qd9 true none [qe8,qc0] [qc0] (λx=>x.1.length<=1000000) (λx=>(ixT (.int .i64) (λe=>x.2.1==e) x.1,()))
theorem xh1:Meets Tryz.prog 104 y30:=by
 refine mts (SpecsOk.nil _) Tryz.func104 (λx=>yu8 x.1 x.2.1) ?_
 rintro⟨l,x,⟨⟩⟩ h
 revert l x
 intro(l:List Int) (x:Int) (h:l.length<=1000000)
 refine vcs (∃(v0:Unit),∃(v1:Nat),(v1<=l.length/\∀(v2:Nat),Nat.le (Nat.succ v2) v1->(x==nI l v2)=false)/\(((0:Int)=(↑v1:Int)/\True)/\True)/\∀(v2:Nat),(v2<=l.length/\∀(v4:Nat),Nat.le (Nat.succ v4) v2->(x==nI l v4)=false)->(decide ((↑v2:Int)<(↑l.length:Int))=true->((0:Int)<=(↑v2:Int)/\(↑v2:Int)<(↑l.length:Int))/\((x==nI l v2)=true->(↑v2:Int)=ixT (Ty.int .i64) (λ(v6:Int)=>x==v6) l)/\((x==nI l v2)=false->fits .i64 ((↑v2:Int)+(1:Int))/\∃(v6:Nat),(v6<=l.length/\∀(v7:Nat),Nat.le (Nat.succ v7) v6->(x==nI l v7)=false)/\l.length-v6<l.length-v2/\((↑v2:Int)+(1:Int)=(↑v6:Int)/\True)/\True))/\(decide ((↑v2:Int)<(↑l.length:Int))=false->(-1:Int)=ixT (Ty.int .i64) (λ(v5:Int)=>x==v5) l)) ?_
 refine⟨(),0,⟨zae _,λi hi=>absurd hi ow⟩,rfl,λk ⟨hk,hall⟩=>?_⟩
 refine⟨λhlt=>⟨hlt,λhf=>(wf6 (.int .i64) (λe=>x==e) l k hlt (λi hi=>beq_false_of_ne λe=>hall i hi e) (beq_iff_eq.2 hf)).symm,λhf=>⟨qa6,k+1,⟨ow,λi hi=>?_⟩,ow,ow⟩⟩,λhge=>(q2n (.int .i64) (λe=>x==e) l λi hi=>beq_false_of_ne λe=>hall i ow e).symm⟩
 grind
abbrev y33:qa8:=qd9 true none [qe8,qc0] [.bool] (λx=>x.1.length<=1000000) (λx=>(x.1.any λe=>x.2.1==e,()))
theorem ww2:Meets Tryz.prog 156 y33:=by
 refine mt0 (SpecsOk.cons xh1 (SpecsOk.nil _)) Tryz.func156 ?_
 rintro⟨l,x,⟨⟩⟩ h
 revert l x
 intro(l:List Int) (x:Int) (h:l.length<=1000000)
 refine vcs (l.length<=(1000000:Nat)/\decide ((0:Int)<=ixT (Ty.int .i64) (λ(v0:Int)=>x==v0) l)=List.any l λ(v0:Int)=>x==v0) ?_
 grind [qr8]
abbrev ye0:qa8:=qd9 true none [qc0] [.bool] (λ_=>True) (λx=>(x.1 != 0,()))
theorem w7o:Meets Tryz.prog 205 ye0:=by
 refine mt0 (SpecsOk.nil _) Tryz.func205 ?_
 rintro⟨n,⟨⟩⟩ -
 revert n
 intro(n:Int)
 exact vct ((n != (0:Int))=(n != (0:Ty.den qc0)))
def qx7 (l:List Int):Int:=ixT (.int .i64) (λe=>e != 0) l
def q8z (l:List Int):List Int:=if 0<=qx7 (qe6 l)/\nI (qe6 l) (qx7 (qe6 l)).toNat<0 then x0q (qe6 l) else qe6 l
abbrev yu9:MSpec:=q5h (q1r []) false true 0 3 (.int .i64) (λrows _=>wm3 (nL rows 0)) (λ_ _=>.tup .nil) (λrows _=>[q8z (nL rows 0)])
structure x0y (l:List Int) (i:Nat) (r:List Int):Prop where
 le:i<=l.length
 eq:r=ovr (.int .i64) (λq=>0-nI l q) l i
def ye1 (T:q6v) (l:List Int):Nat->Option Inv
 | 0=>some (Inv.of [0,20] 1 (λs:Nat × List Int=>[(0,.msl 0 (some 0)),(20,.lit (.int .i64 s.1))]) (λs=>[.mat 0 3 (.int .i64) [s.2] (some []) (some T)]) (λs=>x0y (qe6 l) s.1 s.2) (λs=>(qe6 l).length-s.1))
 | _=>none
theorem wh1 {l:List Int} (h:wm3 l):wm3 (qe6 l):=by
 unfold qe6
 split
 ·refine⟨by simpa using h.1,λx hx=>?_⟩
  obtain⟨y,hy,rfl⟩:=zbk.1 hx
  exact qt7 (h.2 y hy)
 omega
theorem w7p:qo7 Tryz.prog 157 yu9:=by
 refine q1t (yc9 (SpecsOk.cons (wv4 (fs:=[(205,ye0)]) (SpecsOk.cons w7o (SpecsOk.nil _))) (SpecsOk.nil _)) (MutsOk.cons q3o MutsOk.nil)) Tryz.func157 rfl rfl (qm4 []) (λT rows _=>ye1 T (nL rows 0)) (λ_ _ _=>by kernel_rfl) dc ?_ rfl
 rintro T rows ⟨⟩ h hone
 obtain⟨l,rfl⟩:∃l:List Int,rows=[l]:=by
  have h1:=hone rfl
  match rows,h1 with
  | [l],_=>simp
 have h:wm3 l:=h
 refine vcs (wm3 (nL [nL [l] (0:Nat)] (0:Nat))/\∃(v0:qa3 [Ty.int .i64]->Prop),∃(v1:qa3 [Ty.int .i64]->Bool),(∀(v2:Int × qa3._f [] PUnit.unit),v0 v2->True/\(v2.1 != (0:Ty.den qc0))=v1 v2)/\((nL (List.set [l] (0:Nat) (nL [qe6 (nL [nL [l] (0:Nat)] (0:Nat))] (0:Nat))) (0:Nat)).length<=(1000000:Nat)/\∀(v2:Nat),v2<(nL (List.set [l] (0:Nat) (nL [qe6 (nL [nL [l] (0:Nat)] (0:Nat))] (0:Nat))) (0:Nat)).length->v0 (nI (nL (List.set [l] (0:Nat) (nL [qe6 (nL [nL [l] (0:Nat)] (0:Nat))] (0:Nat))) (0:Nat)) v2,()))/\(decide ((0:Int)<=ixT (Ty.int .i64) (λ(v3:Int)=>v1 (v3,())) (nL (List.set [l] (0:Nat) (nL [qe6 (nL [nL [l] (0:Nat)] (0:Nat))] (0:Nat))) (0:Nat)))=true->((0:Int)<=ixT (Ty.int .i64) (λ(v3:Int)=>v1 (v3,())) (nL (List.set [l] (0:Nat) (nL [qe6 (nL [nL [l] (0:Nat)] (0:Nat))] (0:Nat))) (0:Nat))/\ixT (Ty.int .i64) (λ(v3:Int)=>v1 (v3,())) (nL (List.set [l] (0:Nat) (nL [qe6 (nL [nL [l] (0:Nat)] (0:Nat))] (0:Nat))) (0:Nat))<(↑(nL (List.set [l] (0:Nat) (nL [qe6 (nL [nL [l] (0:Nat)] (0:Nat))] (0:Nat))) (0:Nat)).length:Int))/\(ixT (Ty.int .i64) (λ(v3:Int)=>v1 (v3,())) (nL (List.set [l] (0:Nat) (nL [qe6 (nL [nL [l] (0:Nat)] (0:Nat))] (0:Nat))) (0:Nat))).toNat<(nL (List.set [l] (0:Nat) (nL [qe6 (nL [nL [l] (0:Nat)] (0:Nat))] (0:Nat))) (0:Nat)).length/\(decide (nI (nL (List.set [l] (0:Nat) (nL [qe6 (nL [nL [l] (0:Nat)] (0:Nat))] (0:Nat))) (0:Nat)) (ixT (Ty.int .i64) (λ(v4:Int)=>v1 (v4,())) (nL (List.set [l] (0:Nat) (nL [qe6 (nL [nL [l] (0:Nat)] (0:Nat))] (0:Nat))) (0:Nat))).toNat<(0:Int))=true->∃(v4:Unit),∃(v5:Nat × List Int),x0y (qe6 (nL [l] (0:Nat))) v5.1 v5.2/\((some (0:Nat)=some (0:Nat)/\(0:Int)=(↑v5.1:Int)/\True)/\(List.set [l] (0:Nat) (nL [qe6 (nL [nL [l] (0:Nat)] (0:Nat))] (0:Nat))=[v5.2]/\True/\T=T)/\True)/\∀(v6:Nat × List Int),x0y (qe6 (nL [l] (0:Nat))) v6.1 v6.2->(decide ((↑v6.1:Int)<(↑(nL (List.set [l] (0:Nat) (nL [qe6 (nL [nL [l] (0:Nat)] (0:Nat))] (0:Nat))) (0:Nat)).length:Int))=true->((0:Int)<=(↑v6.1:Int)/\(↑v6.1:Int)<(↑(nL [v6.2] (0:Nat)).length:Int))/\(↑v6.1:Int).toNat<(nL [v6.2] (0:Nat)).length/\fits .i64 ((0:Int)-nI (nL [v6.2] (0:Nat)) (↑v6.1:Int).toNat)/\((0:Int)<=(↑v6.1:Int)/\(↑v6.1:Int)<(↑(nL [v6.2] (0:Nat)).length:Int))/\(↑v6.1:Int).toNat<(nL [v6.2] (0:Nat)).length/\fits .i64 ((↑v6.1:Int)+(1:Int))/\∃(v9:Nat × List Int),x0y (qe6 (nL [l] (0:Nat))) v9.1 v9.2/\(qe6 (nL [l] (0:Nat))).length-v9.1<(qe6 (nL [l] (0:Nat))).length-v6.1/\(some (0:Nat)=some (0:Nat)/\(↑v6.1:Int)+(1:Int)=(↑v9.1:Int)/\True)/\(List.set [v6.2] (0:Nat) (List.set (nL [v6.2] (0:Nat)) (↑v6.1:Int).toNat ((0:Int)-nI (nL [v6.2] (0:Nat)) (↑v6.1:Int).toNat))=[v9.2]/\True/\T=T)/\True)/\(decide ((↑v6.1:Int)<(↑(nL (List.set [l] (0:Nat) (nL [qe6 (nL [nL [l] (0:Nat)] (0:Nat))] (0:Nat))) (0:Nat)).length:Int))=false->[v6.2]=[q8z (nL [l] (0:Nat))]/\T=T/\True/\(0:Nat)=(0:Nat)))/\(decide (nI (nL (List.set [l] (0:Nat) (nL [qe6 (nL [nL [l] (0:Nat)] (0:Nat))] (0:Nat))) (0:Nat)) (ixT (Ty.int .i64) (λ(v4:Int)=>v1 (v4,())) (nL (List.set [l] (0:Nat) (nL [qe6 (nL [nL [l] (0:Nat)] (0:Nat))] (0:Nat))) (0:Nat))).toNat<(0:Int))=false->List.set [l] (0:Nat) (nL [qe6 (nL [nL [l] (0:Nat)] (0:Nat))] (0:Nat))=[q8z (nL [l] (0:Nat))]/\T=T/\True/\(0:Nat)=(0:Nat)))/\(decide ((0:Int)<=ixT (Ty.int .i64) (λ(v3:Int)=>v1 (v3,())) (nL (List.set [l] (0:Nat) (nL [qe6 (nL [nL [l] (0:Nat)] (0:Nat))] (0:Nat))) (0:Nat)))=false->List.set [l] (0:Nat) (nL [qe6 (nL [nL [l] (0:Nat)] (0:Nat))] (0:Nat))=[q8z (nL [l] (0:Nat))]/\T=T/\True/\(0:Nat)=(0:Nat))) ?_
 have hs:=wh1 h
 have hl:=hs.1
 refine⟨h,λ_=>True,λx=>x.1 != 0,λ_ _=>rfl,⟨ow,λ_ _=>trivial⟩,λh1=>?_,λh1=>?_⟩
 ·have h1:0<=qx7 (qe6 l):=by first | exact za3 h1 | exact h1
  have h2:qx7 (qe6 l)<(qe6 l).length:=(wv3 (.int .i64) _ _).1
  refine⟨⟨h1,h2⟩,by grind [qx7,qe6],λh3=>?_,λh3=>?_⟩
  ·have h3:nI (qe6 l) (qx7 (qe6 l)).toNat<0:=by first | exact za3 h3 | exact h3
   have hp:q8z l=x0q (qe6 l):=by simp_all [q8z,if_pos]
   refine⟨(),(0,qe6 l),⟨zae _,(q4k (.int .i64) _ _).symm⟩,⟨rfl,rfl⟩,?_⟩
   rintro⟨i,r⟩ ⟨k1,k2⟩
   dsimp only at k1 k2 ⊢
   have hrl:r.length=(qe6 l).length:=by grind [q0q]
   refine⟨λhlt=>?_,λhge=>?_⟩
   ·have hv:nI r i=nI (qe6 l) i:=by
     rw[k2]
     exact(wf5 (.int .i64) _ _ _ _ hlt).trans (zaj (zbg _))
    have hb:=q8o hs hlt
    unfold qd8 BIG at hb
    rw[hv]
    refine⟨ow,ow,qa6,ow,ow,qa6,(i+1,r.set i (0-nI (qe6 l) i)),⟨ow,?_⟩,ow,by rfl,rfl⟩
    grind [q2l,nI,qe6]
   ·rw[hp,k2]
    exact q8m (.int .i64) _ _ _ ow
  ·have h3:¬nI (qe6 l) (qx7 (qe6 l)).toNat<0:=by first | exact zck h3 | exact h3 | exact zbj.2 h3
   simp_all [q8z,if_neg]
 ·have h1:¬0<=qx7 (qe6 l):=by first | exact zck h1 | exact h1 | exact zdm.2 h1
  unfold q8z; grind
def q63 (r:List (List Int)) (piv:List Int) (f k:Nat):Int:=(nI (nL r k) (nI piv k).toNat).tdiv (gcdI (nI (nL r k) (nI piv k).toNat) (nI (nL r k) f))
def qf4 (r:List (List Int)) (piv:List Int) (f:Nat):Nat->Int
 | 0=>1
 | k+1=>qf4 r piv f k*(q63 r piv f k).tdiv (gcdI (qf4 r piv f k) (q63 r piv f k))
def hTo (r:List (List Int)) (piv:List Int) (n f:Nat):Nat->List Int
 | 0=>(List.replicate n 0).set f (qf4 r piv f piv.length)
 | k+1=>(hTo r piv n f k).set (nI piv k).toNat (((0-nI (nL r k) f)*qf4 r piv f piv.length).tdiv (nI (nL r k) (nI piv k).toNat))
def qp3 (r:List (List Int)) (piv:List Int) (n:Nat):Nat->List (List Int)
 | 0=>[]
 | f+1=>if piv.any λe=>(f:Int)==e then qp3 r piv n f else qp3 r piv n f++[qe6 (hTo r piv n f piv.length)]
def q3p (m:List (List Int)) (pix:List Int):List (List Int):=qb3 m pix λ_=>[]
def qj9 (m:List (List Int)) (pix:List Int):List (List Int) × List Int:=qb5 (q3p m pix) pix.length
def qm9 (m:List (List Int)) (pix:List Int):List (List Int):=qp3 (qj9 m pix).1 (qj9 m pix).2 pix.length pix.length
structure x0z (r:List (List Int)) (piv:List Int) (n:Nat):Prop where
 nz:∀k,k<piv.length->nI (nL r k) (nI piv k).toNat≠0
 big:∀k,k<piv.length->∀i,i<n->qd8 BIG (nI (nL r k) i)
 tm:∀f,f<n->(piv.any λe=>(f:Int)==e)=false->∀k,k<=piv.length->qd8 BIG (qf4 r piv f k)/\qf4 r piv f k≠0
 pr:∀f,f<n->(piv.any λe=>(f:Int)==e)=false->∀k,k<piv.length->qd8 BIG ((0-nI (nL r k) f)*qf4 r piv f piv.length)
structure w7q (m:List (List Int)) (pix:List Int):Prop where
 cho:ChoOk m pix (λ_=>True) (λ_=>[])
 red:q5l (q3p m pix) pix.length pix.length
 ar:x0z (qj9 m pix).1 (qj9 m pix).2 pix.length
theorem q4o (R:List (List Int)):∀j,∀e∈(qb5 R j).2,0<=e/\e<(j:Int)
 | 0=>λe h=>by cases h
 | j+1=>λe h=>by
  rw[qb5,qx6] at h
  split at h
  ·have:=q4o R j e h; omega
  ·rcases zak.1 h with h | h
   ·have:=q4o R j e h; omega
   grind
theorem q80 (r:List (List Int)) (piv:List Int) (n f:Nat):∀k,(hTo r piv n f k).length=n
 | 0=>by simp[hTo]
 | k+1=>by rw[hTo,zba]; exact q80 r piv n f k
theorem ww3 (r:List (List Int)) (piv:List Int) (n:Nat):∀f,(qp3 r piv n f).length<=f
 | 0=>zac _
 | f+1=>by
  have:=ww3 r piv n f
  grind [qp3]
theorem w1z {r:List (List Int)} {piv:List Int} {n f:Nat} (h:x0z r piv n) (hf:f<n) (hfree:(piv.any λe=>(f:Int)==e)=false):∀k,k<=piv.length->∀x∈hTo r piv n f k,qd8 BIG x
 | 0,_,x,hx=>by
  rw[hTo] at hx
  rcases za0 hx with hx | rfl
  ·obtain rfl:=(zc8.1 hx).2
   grind [BIG]
  ·exact(h.tm f hf hfree _ (zac _)).1
 | k+1,hk,x,hx=>by
  rw[hTo] at hx
  rcases za0 hx with hx | rfl
  ·exact w1z h hf hfree k ow x hx
  ·exact qt7 (h.pr f hf hfree k ow)
abbrev y35:qa8:=qd9 true none [qf9,qe8] [qf9] (λx=>w7q x.1 x.2.1) (λx=>(qm9 x.1 x.2.1,()))
def yv0 (m:List (List Int)) (pix:List Int):Nat->Option Inv
 | 0=>some (Inv.of [5,7,25] 2 (λf:Nat=>[(5,.msl 0 .none),(7,.msl 1 .none),(25,.lit (.int .i64 f))]) (λf=>[.mat 24 3 (.int .i64) (qj9 m pix).1 .none .none,.mat 24 3 (.int .i64) (qp3 (qj9 m pix).1 (qj9 m pix).2 pix.length f) .none .none]) (λf=>f<=pix.length) (λf=>pix.length-f))
 | 1=>some (Eng.Inv.mk Nat Nat [5,7,9,33] 2 (λf k=>[(5,.msl 0 .none),(7,.msl 1 .none),(9,.lit (.int .i64 (qf4 (qj9 m pix).1 (qj9 m pix).2 f k))),(33,.lit (.int .i64 k))]) (λf k=>[.mat 24 3 (.int .i64) (qj9 m pix).1 .none .none,.mat 24 3 (.int .i64) (qp3 (qj9 m pix).1 (qj9 m pix).2 pix.length f) .none .none]) (λf k=>k<=(qj9 m pix).2.length) (λf k=>(qj9 m pix).2.length-k))
 | 2=>some (Eng.Inv.mk Nat Nat [5,7,13,78] 3 (λf k=>[(5,.msl 0 .none),(7,.msl 1 .none),(13,.own 2),(78,.lit (.int .i64 k))]) (λf k=>[.mat 24 3 (.int .i64) (qj9 m pix).1 .none .none,.mat 24 3 (.int .i64) (qp3 (qj9 m pix).1 (qj9 m pix).2 pix.length f) .none .none,.vec 3 (.int .i64) (hTo (qj9 m pix).1 (qj9 m pix).2 pix.length f k)]) (λf k=>k<=(qj9 m pix).2.length) (λf k=>(qj9 m pix).2.length-k))
 | _=>none
def yv1 (mats em:List Nat) (specs:List (Nat × qa8)) (muts:List (Nat × MSpec)):Ctx:={ specs:=specs,tys:=tys,wr:=[],muts:=muts,mats:=mats,em:=em }
theorem x00 (mats em:List Nat) {specs:List (Nat × qa8)} {muts:List (Nat × MSpec)} (h:SpecsOk Tryz.prog specs) (hm:MutsOk muts):Sound Tryz.prog (yv1 mats em specs muts):=SpecsOk.sound h q03 kr (hmu:=hm)
theorem xh2:Meets Tryz.prog 155 y35:=by
 refine meets (x00 [109] [] (SpecsOk.cons (q8t (fs:=[(202,x6t)]) (SpecsOk.cons wf9 (SpecsOk.nil _))) (SpecsOk.cons ww2 (SpecsOk.cons qq3 (SpecsOk.nil _)))) (MutsOk.cons q8x (MutsOk.cons q3o MutsOk.nil))) Tryz.func155 rfl rfl (λx=>yv0 x.1 x.2.1) (λ_=>by kernel_rfl) dc ?_
 rintro⟨m,pix,⟨⟩⟩ h
 revert m pix
 intro(m:List (List Int)) (pix:List Int) (h:w7q m pix)
 refine vcs (let Q0:=qj9 m pix; let Q1:=qe3 Q0.1.length none; ∃(v0:qa3 [qc0]->Prop),∃(v1:qa3 [qc0]->List Int),(∀(v2:Int × qa3._f [] PUnit.unit),v0 v2->True/\[]=v1 v2)/\ChoOk m pix v0 v1/\((0:Ty.den qc0)<=(↑pix.length:Int)/\∃(v2:Nat),q5l (qb3 m pix λ(v3:Int)=>v1 (v3,())) (↑pix.length:Int).toNat v2)/\∃(v2:Unit),∃(v3:Nat),Nat.le v3 pix.length/\((True/\True/\(0:Int)=(↑v3:Int)/\True)/\((qb5 (qb3 m pix λ(v4:Int)=>v1 (v4,())) (↑pix.length:Int).toNat).1=Q0.1/\True/\True)/\qp3 Q0.1 Q0.2 pix.length v3=[]/\True)/\∀(v4:Nat),Nat.le v4 pix.length->(decide ((↑v4:Int)<(↑pix.length:Int))=true->(qb5 (qb3 m pix λ(v7:Int)=>v1 (v7,())) (↑pix.length:Int).toNat).2.length<=(1000000:Nat)/\((List.any (qb5 (qb3 m pix λ(v8:Int)=>v1 (v8,())) (↑pix.length:Int).toNat).2 λ(v8:Int)=>(↑v4:Int)==v8)=true->fits .i64 ((↑v4:Int)+(1:Int))/\∃(v8:Nat),Nat.le v8 pix.length/\pix.length-v8<pix.length-v4/\(True/\True/\(↑v4:Int)+(1:Int)=(↑v8:Int)/\True)/\(Q0.1=Q0.1/\True/\True)/\(qp3 Q0.1 Q0.2 pix.length v4=qp3 Q0.1 Q0.2 pix.length v8/\True/\True)/\True)/\((List.any (qb5 (qb3 m pix λ(v8:Int)=>v1 (v8,())) (↑pix.length:Int).toNat).2 λ(v8:Int)=>(↑v4:Int)==v8)=false->∃(v8:Nat),∃(v9:Nat),Nat.le v9 Q0.2.length/\((True/\True/\(1:Int)=qf4 Q0.1 Q0.2 v8 v9/\(0:Int)=(↑v9:Int)/\True)/\(Q0.1=Q0.1/\True/\True)/\(qp3 Q0.1 Q0.2 pix.length v4=qp3 Q0.1 Q0.2 pix.length v8/\True/\True)/\True)/\∀(v10:Nat),Nat.le v10 Q0.2.length->(decide ((↑v10:Int)<(↑(qb5 (qb3 m pix λ(v13:Int)=>v1 (v13,())) (↑pix.length:Int).toNat).2.length:Int))=true->((0:Int)<=(↑v10:Int)/\(↑v10:Int)<(↑(qb5 (qb3 m pix λ(v13:Int)=>v1 (v13,())) (↑pix.length:Int).toNat).2.length:Int))/\((0:Int)<=(↑v10:Int)/\(↑v10:Int)<(↑Q1:Int))/\v10<qe3 Q0.1.length none/\((0:Int)<=nI (qb5 (qb3 m pix λ(v13:Int)=>v1 (v13,())) (↑pix.length:Int).toNat).2 v10/\nI (qb5 (qb3 m pix λ(v13:Int)=>v1 (v13,())) (↑pix.length:Int).toNat).2 v10<(↑(nL Q0.1 (qe9 none v10)).length:Int))/\(nI (qb5 (qb3 m pix λ(v13:Int)=>v1 (v13,())) (↑pix.length:Int).toNat).2 v10).toNat<(nL Q0.1 (qe9 none v10)).length/\((0:Int)<=(↑v10:Int)/\(↑v10:Int)<(↑Q1:Int))/\v10<qe3 Q0.1.length none/\((0:Int)<=nI (qb5 (qb3 m pix λ(v13:Int)=>v1 (v13,())) (↑pix.length:Int).toNat).2 v10/\nI (qb5 (qb3 m pix λ(v13:Int)=>v1 (v13,())) (↑pix.length:Int).toNat).2 v10<(↑(nL Q0.1 (qe9 none v10)).length:Int))/\(nI (qb5 (qb3 m pix λ(v13:Int)=>v1 (v13,())) (↑pix.length:Int).toNat).2 v10).toNat<(nL Q0.1 (qe9 none v10)).length/\((0:Int)<=(↑v10:Int)/\(↑v10:Int)<(↑Q1:Int))/\v10<qe3 Q0.1.length none/\((0:Int)<=(↑v4:Int)/\(↑v4:Int)<(↑(nL Q0.1 (qe9 none v10)).length:Int))/\v4<(nL Q0.1 (qe9 none v10)).length/\(((-4000000000000000000:Int)<=nI (nL Q0.1 (qe9 none v10)) (nI (qb5 (qb3 m pix λ(v13:Int)=>v1 (v13,())) (↑pix.length:Int).toNat).2 v10).toNat/\nI (nL Q0.1 (qe9 none v10)) (nI (qb5 (qb3 m pix λ(v13:Int)=>v1 (v13,())) (↑pix.length:Int).toNat).2 v10).toNat<=BIG)/\(-4000000000000000000:Int)<=nI (nL Q0.1 (qe9 none v10)) v4/\nI (nL Q0.1 (qe9 none v10)) v4<=BIG)/\gcdI (nI (nL Q0.1 (qe9 none v10)) (nI (qb5 (qb3 m pix λ(v13:Int)=>v1 (v13,())) (↑pix.length:Int).toNat).2 v10).toNat) (nI (nL Q0.1 (qe9 none v10)) v4)≠(0:Int)/\fits .i64 (Int.tdiv (nI (nL Q0.1 (qe9 none v10)) (nI (qb5 (qb3 m pix λ(v13:Int)=>v1 (v13,())) (↑pix.length:Int).toNat).2 v10).toNat) (gcdI (nI (nL Q0.1 (qe9 none v10)) (nI (qb5 (qb3 m pix λ(v13:Int)=>v1 (v13,())) (↑pix.length:Int).toNat).2 v10).toNat) (nI (nL Q0.1 (qe9 none v10)) v4)))/\(((-4000000000000000000:Int)<=qf4 Q0.1 Q0.2 v8 v10/\qf4 Q0.1 Q0.2 v8 v10<=BIG)/\(-4000000000000000000:Int)<=Int.tdiv (nI (nL Q0.1 (qe9 none v10)) (nI (qb5 (qb3 m pix λ(v13:Int)=>v1 (v13,())) (↑pix.length:Int).toNat).2 v10).toNat) (gcdI (nI (nL Q0.1 (qe9 none v10)) (nI (qb5 (qb3 m pix λ(v13:Int)=>v1 (v13,())) (↑pix.length:Int).toNat).2 v10).toNat) (nI (nL Q0.1 (qe9 none v10)) v4))/\Int.tdiv (nI (nL Q0.1 (qe9 none v10)) (nI (qb5 (qb3 m pix λ(v13:Int)=>v1 (v13,())) (↑pix.length:Int).toNat).2 v10).toNat) (gcdI (nI (nL Q0.1 (qe9 none v10)) (nI (qb5 (qb3 m pix λ(v13:Int)=>v1 (v13,())) (↑pix.length:Int).toNat).2 v10).toNat) (nI (nL Q0.1 (qe9 none v10)) v4))<=BIG)/\gcdI (qf4 Q0.1 Q0.2 v8 v10) (Int.tdiv (nI (nL Q0.1 (qe9 none v10)) (nI (qb5 (qb3 m pix λ(v13:Int)=>v1 (v13,())) (↑pix.length:Int).toNat).2 v10).toNat) (gcdI (nI (nL Q0.1 (qe9 none v10)) (nI (qb5 (qb3 m pix λ(v13:Int)=>v1 (v13,())) (↑pix.length:Int).toNat).2 v10).toNat) (nI (nL Q0.1 (qe9 none v10)) v4)))≠(0:Int)/\fits .i64 (Int.tdiv (Int.tdiv (nI (nL Q0.1 (qe9 none v10)) (nI (qb5 (qb3 m pix λ(v13:Int)=>v1 (v13,())) (↑pix.length:Int).toNat).2 v10).toNat) (gcdI (nI (nL Q0.1 (qe9 none v10)) (nI (qb5 (qb3 m pix λ(v13:Int)=>v1 (v13,())) (↑pix.length:Int).toNat).2 v10).toNat) (nI (nL Q0.1 (qe9 none v10)) v4))) (gcdI (qf4 Q0.1 Q0.2 v8 v10) (Int.tdiv (nI (nL Q0.1 (qe9 none v10)) (nI (qb5 (qb3 m pix λ(v13:Int)=>v1 (v13,())) (↑pix.length:Int).toNat).2 v10).toNat) (gcdI (nI (nL Q0.1 (qe9 none v10)) (nI (qb5 (qb3 m pix λ(v13:Int)=>v1 (v13,())) (↑pix.length:Int).toNat).2 v10).toNat) (nI (nL Q0.1 (qe9 none v10)) v4)))))/\fits .i64 (qf4 Q0.1 Q0.2 v8 v10*Int.tdiv (Int.tdiv (nI (nL Q0.1 (qe9 none v10)) (nI (qb5 (qb3 m pix λ(v13:Int)=>v1 (v13,())) (↑pix.length:Int).toNat).2 v10).toNat) (gcdI (nI (nL Q0.1 (qe9 none v10)) (nI (qb5 (qb3 m pix λ(v13:Int)=>v1 (v13,())) (↑pix.length:Int).toNat).2 v10).toNat) (nI (nL Q0.1 (qe9 none v10)) v4))) (gcdI (qf4 Q0.1 Q0.2 v8 v10) (Int.tdiv (nI (nL Q0.1 (qe9 none v10)) (nI (qb5 (qb3 m pix λ(v13:Int)=>v1 (v13,())) (↑pix.length:Int).toNat).2 v10).toNat) (gcdI (nI (nL Q0.1 (qe9 none v10)) (nI (qb5 (qb3 m pix λ(v13:Int)=>v1 (v13,())) (↑pix.length:Int).toNat).2 v10).toNat) (nI (nL Q0.1 (qe9 none v10)) v4)))))/\fits .i64 ((↑v10:Int)+(1:Int))/\∃(v13:Nat),Nat.le v13 Q0.2.length/\Q0.2.length-v13<Q0.2.length-v10/\(True/\True/\qf4 Q0.1 Q0.2 v8 v10*Int.tdiv (Int.tdiv (nI (nL Q0.1 (qe9 none v10)) (nI (qb5 (qb3 m pix λ(v14:Int)=>v1 (v14,())) (↑pix.length:Int).toNat).2 v10).toNat) (gcdI (nI (nL Q0.1 (qe9 none v10)) (nI (qb5 (qb3 m pix λ(v14:Int)=>v1 (v14,())) (↑pix.length:Int).toNat).2 v10).toNat) (nI (nL Q0.1 (qe9 none v10)) v4))) (gcdI (qf4 Q0.1 Q0.2 v8 v10) (Int.tdiv (nI (nL Q0.1 (qe9 none v10)) (nI (qb5 (qb3 m pix λ(v14:Int)=>v1 (v14,())) (↑pix.length:Int).toNat).2 v10).toNat) (gcdI (nI (nL Q0.1 (qe9 none v10)) (nI (qb5 (qb3 m pix λ(v14:Int)=>v1 (v14,())) (↑pix.length:Int).toNat).2 v10).toNat) (nI (nL Q0.1 (qe9 none v10)) v4))))=qf4 Q0.1 Q0.2 v8 v13/\(↑v10:Int)+(1:Int)=(↑v13:Int)/\True)/\(Q0.1=Q0.1/\True/\True)/\(qp3 Q0.1 Q0.2 pix.length v8=qp3 Q0.1 Q0.2 pix.length v8/\True/\True)/\True)/\(decide ((↑v10:Int)<(↑(qb5 (qb3 m pix λ(v13:Int)=>v1 (v13,())) (↑pix.length:Int).toNat).2.length:Int))=false->((↑pix.length:Int)=(↑pix.length:Int)/\(0:Int)<=(↑pix.length:Int)/\(↑pix.length:Int)<=(1000000:Int))/\((0:Int)<=(↑v4:Int)/\(↑v4:Int)<(↑(List.replicate (↑pix.length:Int).toNat (Ty.dflt (TI.ty T3))).length:Int))/\v4<(List.replicate (↑pix.length:Int).toNat (Ty.dflt (TI.ty T3))).length/\∃(v13:Nat),∃(v14:Nat),Nat.le v14 Q0.2.length/\((True/\True/\True/\(0:Int)=(↑v14:Int)/\True)/\(Q0.1=Q0.1/\True/\True)/\(qp3 Q0.1 Q0.2 pix.length v8=qp3 Q0.1 Q0.2 pix.length v13/\True/\True)/\List.set (List.replicate (↑pix.length:Int).toNat (Ty.dflt (TI.ty T3))) v4 (qf4 Q0.1 Q0.2 v8 v10)=hTo Q0.1 Q0.2 pix.length v13 v14/\True)/\∀(v15:Nat),Nat.le v15 Q0.2.length->(decide ((↑v15:Int)<(↑(qb5 (qb3 m pix λ(v18:Int)=>v1 (v18,())) (↑pix.length:Int).toNat).2.length:Int))=true->((0:Int)<=(↑v15:Int)/\(↑v15:Int)<(↑(qb5 (qb3 m pix λ(v18:Int)=>v1 (v18,())) (↑pix.length:Int).toNat).2.length:Int))/\((0:Int)<=(↑v15:Int)/\(↑v15:Int)<(↑Q1:Int))/\v15<qe3 Q0.1.length none/\((0:Int)<=(↑v4:Int)/\(↑v4:Int)<(↑(nL Q0.1 (qe9 none v15)).length:Int))/\v4<(nL Q0.1 (qe9 none v15)).length/\fits .i64 ((0:Int)-nI (nL Q0.1 (qe9 none v15)) v4)/\fits .i64 (((0:Int)-nI (nL Q0.1 (qe9 none v15)) v4)*qf4 Q0.1 Q0.2 v8 v10)/\((0:Int)<=(↑v15:Int)/\(↑v15:Int)<(↑Q1:Int))/\v15<qe3 Q0.1.length none/\((0:Int)<=nI (qb5 (qb3 m pix λ(v18:Int)=>v1 (v18,())) (↑pix.length:Int).toNat).2 v15/\nI (qb5 (qb3 m pix λ(v18:Int)=>v1 (v18,())) (↑pix.length:Int).toNat).2 v15<(↑(nL Q0.1 (qe9 none v15)).length:Int))/\(nI (qb5 (qb3 m pix λ(v18:Int)=>v1 (v18,())) (↑pix.length:Int).toNat).2 v15).toNat<(nL Q0.1 (qe9 none v15)).length/\nI (nL Q0.1 (qe9 none v15)) (nI (qb5 (qb3 m pix λ(v18:Int)=>v1 (v18,())) (↑pix.length:Int).toNat).2 v15).toNat≠(0:Int)/\fits .i64 (Int.tdiv (((0:Int)-nI (nL Q0.1 (qe9 none v15)) v4)*qf4 Q0.1 Q0.2 v8 v10) (nI (nL Q0.1 (qe9 none v15)) (nI (qb5 (qb3 m pix λ(v18:Int)=>v1 (v18,())) (↑pix.length:Int).toNat).2 v15).toNat))/\((0:Int)<=nI (qb5 (qb3 m pix λ(v18:Int)=>v1 (v18,())) (↑pix.length:Int).toNat).2 v15/\nI (qb5 (qb3 m pix λ(v18:Int)=>v1 (v18,())) (↑pix.length:Int).toNat).2 v15<(↑(hTo Q0.1 Q0.2 pix.length v13 v15).length:Int))/\(nI (qb5 (qb3 m pix λ(v18:Int)=>v1 (v18,())) (↑pix.length:Int).toNat).2 v15).toNat<(hTo Q0.1 Q0.2 pix.length v13 v15).length/\fits .i64 ((↑v15:Int)+(1:Int))/\∃(v18:Nat),Nat.le v18 Q0.2.length/\Q0.2.length-v18<Q0.2.length-v15/\(True/\True/\True/\(↑v15:Int)+(1:Int)=(↑v18:Int)/\True)/\(Q0.1=Q0.1/\True/\True)/\(qp3 Q0.1 Q0.2 pix.length v13=qp3 Q0.1 Q0.2 pix.length v13/\True/\True)/\List.set (hTo Q0.1 Q0.2 pix.length v13 v15) (nI (qb5 (qb3 m pix λ(v19:Int)=>v1 (v19,())) (↑pix.length:Int).toNat).2 v15).toNat (Int.tdiv (((0:Int)-nI (nL Q0.1 (qe9 none v15)) v4)*qf4 Q0.1 Q0.2 v8 v10) (nI (nL Q0.1 (qe9 none v15)) (nI (qb5 (qb3 m pix λ(v19:Int)=>v1 (v19,())) (↑pix.length:Int).toNat).2 v15).toNat))=hTo Q0.1 Q0.2 pix.length v13 v18/\True)/\(decide ((↑v15:Int)<(↑(qb5 (qb3 m pix λ(v18:Int)=>v1 (v18,())) (↑pix.length:Int).toNat).2.length:Int))=false->wm3 (nL [hTo Q0.1 Q0.2 pix.length v13 v15] (0:Nat))/\((0:Nat)<(0:Nat)+(1:Nat)/\(qp3 Q0.1 Q0.2 pix.length v13).length+((0:Nat)+(1:Nat))<=(1000000:Nat))/\fits .i64 ((↑v4:Int)+(1:Int))/\∃(v18:Nat),Nat.le v18 pix.length/\pix.length-v18<pix.length-v4/\(True/\True/\(↑v4:Int)+(1:Int)=(↑v18:Int)/\True)/\(Q0.1=Q0.1/\True/\True)/\(qp3 Q0.1 Q0.2 pix.length v13++[nL [qe6 (nL [hTo Q0.1 Q0.2 pix.length v13 v15] (0:Nat))] (0:Nat)]=qp3 Q0.1 Q0.2 pix.length v18/\True/\True)/\True))))/\(decide ((↑v4:Int)<(↑pix.length:Int))=false->q3b (Ty.int .i64) (qp3 Q0.1 Q0.2 pix.length v4) none=qm9 m pix)) ?_
 have hcr:=h.cho.rows
 have hcc:=h.cho.cols
 have hrw:=h.red.w
 refine⟨λ_=>True,λ_=>[],λ_ _=>rfl,h.cho,⟨pix.length,h.red⟩,?_⟩
 have hkr:qb5 (qb3 m pix λ_=>[]) pix.length=qj9 m pix:=rfl
 have hsh:=q2r h.red pix.length
 have hpv:=q4o (q3p m pix) pix.length
 have har:=h.ar
 have hcl:(q3p m pix).length=m.length:=qr9 _ _ _
 simp only[Int.toNat_natCast]
 unfold qm9
 rw[hkr]
 change RedSh _ _ (qj9 m pix) _ at hsh
 change ∀e∈(qj9 m pix).2,_ at hpv
 generalize qj9 m pix=K at *
 obtain⟨R,P⟩:=K
 dsimp only at hpv har ⊢
 have hRn:=hsh.cnt
 have hRe:=hsh.each
 have hPn:=hsh.piv
 have hPj:=hsh.pivj
 dsimp only at hRn hRe hPn hPj
 have hPk:∀k,k<P.length->0<=nI P k/\nI P k<pix.length:=λk hk=>hpv _ (by grind [qg5,List.getElem_mem])
 simp only[q5m,q8v,wv9]
 refine⟨(),0,zae _,⟨by rfl,by simp,by rfl⟩,λf hf=>⟨λhlt=>⟨ow,λhin=>?_,λhfree=>?_⟩,λhge=>?_⟩⟩
 ·refine⟨qa6,f+1,ow,ow,ow,?_⟩
  rw[qp3,zap hin]
 ·refine⟨f,0,zae _,⟨⟨rfl,rfl⟩,rfl⟩,λk hk=>⟨λhlk=>?_,λhgk=>?_⟩⟩
  ·have hp:=hPk k hlk
   have hr:=hRe k ow
   have hp':0<=nI P k/\nI P k<((nL R k).length:Int):=⟨hp.1,ow⟩
   have hb1:=har.big k hlk (nI P k).toNat ow
   have hb2:=har.big k hlk f hlt
   have hz:=har.nz k hlk
   have ht:=har.tm f hlt hfree k hk
   have ht2:=(har.tm f hlt hfree (k+1) hlk).1
   have e2:qf4 R P f (k+1)=qf4 R P f k*(q63 R P f k).tdiv (gcdI (qf4 R P f k) (q63 R P f k)):=rfl
   have hq:qd8 BIG (q63 R P f k):=qt7 hb1
   have e1:(nI (nL R k) (nI P k).toNat).tdiv (gcdI (nI (nL R k) (nI P k).toNat) (nI (nL R k) f))=q63 R P f k:=rfl
   rw[e1,<- e2]
   have hq2:qd8 BIG ((q63 R P f k).tdiv (gcdI (qf4 R P f k) (q63 R P f k))):=qt7 hq
   have g1:=qn9 (a:=nI (nL R k) (nI P k).toNat) (b:=nI (nL R k) f) (Or.inl hz)
   have g2:=qn9 (a:=qf4 R P f k) (b:=q63 R P f k) (Or.inl ht.2)
   have hB:BIG=4000000000000000000:=rfl
   unfold qd8 at *
   refine⟨hlk,ow,ow,hp',ow,ow,ow,hp',ow,ow,ow,ow,ow,⟨hb1,hb2⟩,ow,qa6,⟨ht.1,hq⟩,ow,qa6,qa6,qa6,k+1,ow,ow,rfl,ow⟩
  ·obtain rfl:k=P.length:=ow
   have hl0:(List.replicate pix.length T3.ty.dflt).length=pix.length:=zcj
   refine⟨ow,ow,ow,f,0,zae _,⟨rfl,rfl,rfl⟩,λk hk=>⟨λhlk=>?_,λhgk=>?_⟩⟩
   ·have hp:=hPk k hlk
    have hr:=hRe k ow
    have hp':0<=nI P k/\nI P k<((nL R k).length:Int):=⟨hp.1,ow⟩
    have hb2:=har.big k hlk f hlt
    have hz:=har.nz k hlk
    have hpr:=har.pr f hlt hfree k hlk
    have hq:qd8 BIG (((0-nI (nL R k) f)*qf4 R P f P.length).tdiv (nI (nL R k) (nI P k).toNat)):=qt7 hpr
    have hl:=q80 R P pix.length f k
    have hp'':0<=nI P k/\nI P k<((hTo R P pix.length f k).length:Int):=⟨hp.1,ow⟩
    have hB:BIG=4000000000000000000:=rfl
    unfold qd8 at *
    refine⟨hlk,ow,ow,ow,ow,qa6,qa6,ow,ow,hp',ow,hz,qa6,hp'',ow,qa6,k+1,ow,ow,ow,rfl⟩
   ·obtain rfl:k=P.length:=ow
    have hl:=q80 R P pix.length f P.length
    have hkl:=ww3 R P pix.length f
    refine⟨⟨ow,w1z har hlt hfree _ (zac _)⟩,ow,qa6,f+1,ow,ow,ow,?_⟩
    rw[qp3,zaj (by grind)]
 grind
structure Named (n:Nat) (pix:List Int):Prop where
 at_:∀j,j<pix.length->0<=nI pix j/\nI pix j<n
 asc:∀i j,i<j->j<pix.length->nI pix i<nI pix j
theorem Named.of {n:Nat} {pix:List Int} (h:w9c n pix=0):Named n pix:=by
 unfold w9c at h
 split at h
 ·cases h
 ·rename_i ha
  split at h
  ·cases h
  ·rename_i hb
   have ha:=q7h.1 (by cases e:x4f pix with | true=>rfl | false=>grind)
   refine⟨λj hj=>?_,λi j hij hj=>?_⟩
   ·rw[Bool.not_eq_true,zb1] at hb
    grind [nI,qg5,List.getElem_mem,qh5]
   ·induction j with
    | zero=>omega
    | succ j ih=>
     grind
theorem Named.gap {n:Nat} {pix:List Int} (h:Named n pix):∀j,j<pix.length->(j:Int)<=nI pix j
 | 0,hj=>by have:=(h.at_ 0 hj).1; omega
 | j+1,hj=>by have:=h.gap j ow; have:=h.asc j (j+1) ow hj; omega
theorem Named.len {n:Nat} {pix:List Int} (h:Named n pix):pix.length<=n:=by
 rcases zbs pix.length with e | e
 ·omega
 ·have h1:=h.gap (pix.length-1) ow
  have h2:=(h.at_ (pix.length-1) ow).2
  omega
theorem Named.idx (n:Nat):Named n (qq8 n):=by
 refine⟨λj hj=>?_,λi j hij hj=>?_⟩
 all_goals grind [qg8,q5j]
structure Asked (m:List (List Int)) (y pix:List Int):Prop where
 msk:Mk m
 val:qb7 m=true
 len:y.length=m.length
 out:wv6 y=false
 nam:Named (nL m 0).length pix
theorem Asked.of {m:List (List Int)} {y pix:List Int} (h:qw0 m y pix=0):Asked m y pix:=by
 unfold qw0 at h
 split at h
 ·cases h
 ·rename_i hv
  have hv:qb7 m=true:=by grind
  split at h
  ·cases h
  ·rename_i hl
   split at h
   ·cases h
   ·rename_i ho
    unfold xv1 at h
    rw[zaj ow] at h
    exact⟨Mk.of hv,hv,Decidable.not_not.1 hl,by grind,Named.of h⟩
theorem Asked.at_ {m:List (List Int)} {y pix:List Int} (h:Asked m y pix) (i:Nat) (hi:i<m.length):qd8 1000000 (nI y i):=by
 have h1:=h.out
 unfold wv6 at h1
 rw[zb1] at h1
 have:=h1 (nI y i) (by rw[qg5 y i (by rw[h.len]; omega)]; simp)
 grind [qh5]
theorem ChoOk.of {m:List (List Int)} {pix:List Int} (hM:Mk m) (hn:Named (nL m 0).length pix) {p:qa3 [.int .i64]->Prop} {f:qa3 [.int .i64]->List Int} (hf:∀i:Nat,i<m.length->p ((i:Int),())/\(f ((i:Int),())).length<=10000):ChoOk m pix p f:=by
 have h1:=hM.rows6
 have h2:=hn.len
 have h3:=hM.pix10
 refine⟨ow,ow,λi hi j hj=>?_,hf⟩
 have:=hn.at_ j hj
 rw[hM.each i hi]
 omega
structure w4p (m:List (List Int)):Prop where
 red:q5l (q3p m (qq8 (nL m 0).length)) (nL m 0).length (nL m 0).length
def q0s (m:List (List Int)):Int × Int:=if qb7 m=false then(0,1) else((qj9 m (qq8 (nL m 0).length)).2.length,0)
abbrev yv2:qa8:=qd9 true none [qf9] [qc0,qc0] (λx=>qb7 x.1=true->w4p x.1) (λx=>((q0s x.1).1,(q0s x.1).2,()))
theorem w7r:Meets Tryz.prog 153 yv2:=by
 refine meets (x00 [] [] (SpecsOk.cons qs7 (SpecsOk.cons q8s (SpecsOk.cons (q8t (fs:=[(202,x6t)]) (SpecsOk.cons wf9 (SpecsOk.nil _))) (SpecsOk.nil _)))) (MutsOk.cons q8x MutsOk.nil)) Tryz.func153 rfl rfl (λ_ _=>none) (λ_=>by kernel_rfl) dc ?_
 rintro⟨m,⟨⟩⟩ h
 revert m
 intro(m:List (List Int)) (h:qb7 m=true->w4p m)
 refine vcs (True/\((!qb7 m)=true->(0:Int)=(q0s m).1/\(1:Int)=(q0s m).2/\True)/\((!qb7 m)=false->((0:Int)<=(0:Int)/\(0:Int)<(↑m.length:Int))/\(↑(nL m (0:Nat)).length:Int)<=(100000:Ty.den qc0)/\∃(v1:qa3 [qc0]->Prop),∃(v2:qa3 [qc0]->List Int),(∀(v3:Int × qa3._f [] PUnit.unit),v1 v3->True/\[]=v2 v3)/\ChoOk m (qq8 (↑(nL m (0:Nat)).length:Int).toNat) v1 v2/\((0:Int)<=(0:Int)/\(0:Int)<(↑m.length:Int))/\((0:Ty.den qc0)<=(↑(nL m (0:Nat)).length:Int)/\∃(v3:Nat),q5l (qb3 m (qq8 (↑(nL m (0:Nat)).length:Int).toNat) λ(v4:Int)=>v2 (v4,())) (↑(nL m (0:Nat)).length:Int).toNat v3)/\(↑(qb5 (qb3 m (qq8 (↑(nL m (0:Nat)).length:Int).toNat) λ(v3:Int)=>v2 (v3,())) (↑(nL m (0:Nat)).length:Int).toNat).2.length:Int)=(q0s m).1/\(0:Int)=(q0s m).2/\True)) ?_
 refine⟨λhv=>by grind [q0s],λhv=>?_⟩
 have hM:=Mk.of hv
 have h1:=hM.rows1
 have h2:=hM.pix10
 have hr:=(h hv).red
 have e:q0s m=(((qj9 m (qq8 (nL m 0).length)).2.length:Int),0):=by grind [q0s]
 rw[e]
 refine⟨ow,ow,λ_=>True,λ_=>[],λ_ _=>rfl,ChoOk.of hM (Named.idx _) λ_ _=>⟨trivial,zae _⟩,ow,⟨_,hr⟩,?_,rfl⟩
 unfold qj9
 rw[qg8]
 rfl
def qb8 (m:List (List Int)) (pix y:List Int):List (List Int):=qb3 m pix λi=>[nI y i.toNat]
def qt8 (m:List (List Int)) (pix y:List Int):List (List Int) × List Int:=qb5 (qb8 m pix y) pix.length
def q3q (R:List (List Int)) (P:List Int) (n:Nat):Bool:=(List.range R.length).any λk=>decide (P.length<=k) && nI (nL R k) n != 0
def q81 (R:List (List Int)) (P:List Int) (n k:Nat):Int × Int:=ofR (nI (nL R k) n) (nI (nL R k) (nI P k).toNat)
def w00 (R:List (List Int)) (P:List Int) (n:Nat):List (Int × Int) × Int:=if q3q R P n then([],8) else if P.length<n then([],11) else((List.range P.length).map (q81 R P n),0)
def qy0 (m:List (List Int)) (pix y:List Int):List (Int × Int) × Int:=if qw0 m y pix=0 then w00 (qt8 m pix y).1 (qt8 m pix y).2 pix.length else([],qw0 m y pix)
structure yv3 (R:List (List Int)) (P:List Int) (n:Nat):Prop where
 nz:∀k,k<P.length->nI (nL R k) (nI P k).toNat≠0
 bigD:∀k,k<P.length->qd8 BIG (nI (nL R k) (nI P k).toNat)
 bigN:∀k,k<P.length->qd8 BIG (nI (nL R k) n)
structure ye2 (m:List (List Int)) (pix y:List Int):Prop where
 red:q5l (qb8 m pix y) pix.length (pix.length+1)
 ar:yv3 (qt8 m pix y).1 (qt8 m pix y).2 pix.length
structure q4p (m:List (List Int)) (pix y:List Int):Prop where
 len:pix.length<=1000000
 ok:qw0 m y pix=0->ye2 m pix y
abbrev y36:qa8:=qd9 true (some 43) [qf9,qe8,qe8] [q25,qc0] (λx=>q4p x.1 x.2.1 x.2.2.1) (λx=>((qy0 x.1 x.2.1 x.2.2.1).1,(qy0 x.1 x.2.1 x.2.2.1).2,()))
structure xh3 (R:List (List Int)) (P:List Int) (n k:Nat) (l:List (Int × Int)):Prop where
 le:k<=R.length
 eq:l=(List.range (min k P.length)).map (q81 R P n)
 no:∀i,P.length<=i->i<k->nI (nL R i) n=0
def yv4 (m:List (List Int)) (pix y:List Int):Nat->Option Inv
 | 0=>some (Inv.of [10,12,31,33] 3 (λs:Nat × List (Int × Int)=>[(10,.msl 1 .none),(12,.own 2),(31,.msl 1 .none),(33,.lit (.int .i64 s.1))]) (λs=>[.box 24 (.cons (.dat (.int .i64) y) .nil),.mat 24 3 (.int .i64) (qt8 m pix y).1 .none .none,.vec 43 (.prod (.int .i64) (.int .i64)) s.2]) (λs=>xh3 (qt8 m pix y).1 (qt8 m pix y).2 pix.length s.1 s.2) (λs=>(qt8 m pix y).1.length-s.1))
 | _=>none
theorem xh4:Meets Tryz.prog 212 y36:=by
 refine meets (x00 [] [] (SpecsOk.cons q8r (SpecsOk.cons (q8t (fs:=[(264,yd6)]) (SpecsOk.cons w7g (SpecsOk.nil _))) (SpecsOk.cons wm2 (SpecsOk.nil _)))) (MutsOk.cons q8x MutsOk.nil)) Tryz.func212 rfl rfl (λx=>yv4 x.1 x.2.1 x.2.2.1) (λ_=>by kernel_rfl) dc ?_
 rintro⟨m,pix,y,⟨⟩⟩ h
 revert m pix y
 intro(m:List (List Int)) (pix:List Int) (y:List Int) (h:q4p m pix y)
 refine vcs (let Q0:=qt8 m pix y; let Q1:=qy0 m pix y; let Q2:=Int × Int; pix.length<=(1000000:Nat)/\((qw0 m y pix != (0:Int))=true->Q1.1=[]/\qw0 m y pix=Q1.2/\True)/\((qw0 m y pix != (0:Int))=false->∃(v1:qa3 [qc0]->Prop),∃(v2:qa3 [qc0]->List Int),(∀(v3:Int × qa3._f [] PUnit.unit),v1 v3->((0:PTy.den (PTy.d qc0))<=v3.1/\v3.1<(↑y.length:PTy.den (PTy.d qc0)))/\[nI y v3.1.toNat]=v2 v3)/\ChoOk m pix v1 v2/\((0:Ty.den qc0)<=(↑pix.length:Int)/\∃(v3:Nat),q5l (qb3 m pix λ(v4:Int)=>v2 (v4,())) (↑pix.length:Int).toNat v3)/\∃(v3:Unit),∃(v4:Nat × List Q2),xh3 Q0.1 Q0.2 pix.length v4.1 v4.2/\((True/\True/\True/\(0:Int)=(↑v4.1:Int)/\True)/\(y=y/\True)/\((qb5 (qb3 m pix λ(v5:Int)=>v2 (v5,())) (↑pix.length:Int).toNat).1=Q0.1/\True/\True)/\v4.2=[]/\True)/\∀(v5:Nat × List Q2),xh3 Q0.1 Q0.2 pix.length v5.1 v5.2->(decide ((↑v5.1:Int)<(↑(qe3 (qb5 (qb3 m pix λ(v8:Int)=>v2 (v8,())) (↑pix.length:Int).toNat).1.length none):Int))=true->((0:Int)<=(↑v5.1:Int)/\(↑v5.1:Int)<(↑(qe3 Q0.1.length none):Int))/\(↑v5.1:Int).toNat<qe3 Q0.1.length none/\(decide ((↑v5.1:Int)<(↑(qb5 (qb3 m pix λ(v9:Int)=>v2 (v9,())) (↑pix.length:Int).toNat).2.length:Int))=true->((0:Int)<=(↑pix.length:Int)/\(↑pix.length:Int)<(↑(nL Q0.1 (qe9 none (↑v5.1:Int).toNat)).length:Int))/\(↑pix.length:Int).toNat<(nL Q0.1 (qe9 none (↑v5.1:Int).toNat)).length/\((0:Int)<=(↑v5.1:Int)/\(↑v5.1:Int)<(↑(qb5 (qb3 m pix λ(v9:Int)=>v2 (v9,())) (↑pix.length:Int).toNat).2.length:Int))/\((0:Int)<=nI (qb5 (qb3 m pix λ(v9:Int)=>v2 (v9,())) (↑pix.length:Int).toNat).2 (↑v5.1:Int).toNat/\nI (qb5 (qb3 m pix λ(v9:Int)=>v2 (v9,())) (↑pix.length:Int).toNat).2 (↑v5.1:Int).toNat<(↑(nL Q0.1 (qe9 none (↑v5.1:Int).toNat)).length:Int))/\(nI (qb5 (qb3 m pix λ(v9:Int)=>v2 (v9,())) (↑pix.length:Int).toNat).2 (↑v5.1:Int).toNat).toNat<(nL Q0.1 (qe9 none (↑v5.1:Int).toNat)).length/\(((-4000000000000000000:Int)<=nI (nL Q0.1 (qe9 none (↑v5.1:Int).toNat)) (↑pix.length:Int).toNat/\nI (nL Q0.1 (qe9 none (↑v5.1:Int).toNat)) (↑pix.length:Int).toNat<=BIG)/\((-4000000000000000000:Int)<=nI (nL Q0.1 (qe9 none (↑v5.1:Int).toNat)) (nI (qb5 (qb3 m pix λ(v9:Int)=>v2 (v9,())) (↑pix.length:Int).toNat).2 (↑v5.1:Int).toNat).toNat/\nI (nL Q0.1 (qe9 none (↑v5.1:Int).toNat)) (nI (qb5 (qb3 m pix λ(v9:Int)=>v2 (v9,())) (↑pix.length:Int).toNat).2 (↑v5.1:Int).toNat).toNat<=BIG)/\nI (nL Q0.1 (qe9 none (↑v5.1:Int).toNat)) (nI (qb5 (qb3 m pix λ(v9:Int)=>v2 (v9,())) (↑pix.length:Int).toNat).2 (↑v5.1:Int).toNat).toNat≠(0:Ty.den qc0))/\((0:Nat)<List.length [((ofR (nI (nL Q0.1 (qe9 none (↑v5.1:Int).toNat)) (↑pix.length:Int).toNat) (nI (nL Q0.1 (qe9 none (↑v5.1:Int).toNat)) (nI (qb5 (qb3 m pix λ(v9:Int)=>v2 (v9,())) (↑pix.length:Int).toNat).2 (↑v5.1:Int).toNat).toNat)).1,(ofR (nI (nL Q0.1 (qe9 none (↑v5.1:Int).toNat)) (↑pix.length:Int).toNat) (nI (nL Q0.1 (qe9 none (↑v5.1:Int).toNat)) (nI (qb5 (qb3 m pix λ(v9:Int)=>v2 (v9,())) (↑pix.length:Int).toNat).2 (↑v5.1:Int).toNat).toNat)).2)]/\Nat.le (v5.2.length+List.length [((ofR (nI (nL Q0.1 (qe9 none (↑v5.1:Int).toNat)) (↑pix.length:Int).toNat) (nI (nL Q0.1 (qe9 none (↑v5.1:Int).toNat)) (nI (qb5 (qb3 m pix λ(v9:Int)=>v2 (v9,())) (↑pix.length:Int).toNat).2 (↑v5.1:Int).toNat).toNat)).1,(ofR (nI (nL Q0.1 (qe9 none (↑v5.1:Int).toNat)) (↑pix.length:Int).toNat) (nI (nL Q0.1 (qe9 none (↑v5.1:Int).toNat)) (nI (qb5 (qb3 m pix λ(v9:Int)=>v2 (v9,())) (↑pix.length:Int).toNat).2 (↑v5.1:Int).toNat).toNat)).2)]) (1000000:Nat))/\fits .i64 ((↑v5.1:Int)+(1:Int))/\∃(v9:Nat × List Q2),xh3 Q0.1 Q0.2 pix.length v9.1 v9.2/\Q0.1.length-v9.1<Q0.1.length-v5.1/\(True/\True/\True/\(↑v5.1:Int)+(1:Int)=(↑v9.1:Int)/\True)/\(y=y/\True)/\(Q0.1=Q0.1/\True/\True)/\v5.2++[((ofR (nI (nL Q0.1 (qe9 none (↑v5.1:Int).toNat)) (↑pix.length:Int).toNat) (nI (nL Q0.1 (qe9 none (↑v5.1:Int).toNat)) (nI (qb5 (qb3 m pix λ(v10:Int)=>v2 (v10,())) (↑pix.length:Int).toNat).2 (↑v5.1:Int).toNat).toNat)).1,(ofR (nI (nL Q0.1 (qe9 none (↑v5.1:Int).toNat)) (↑pix.length:Int).toNat) (nI (nL Q0.1 (qe9 none (↑v5.1:Int).toNat)) (nI (qb5 (qb3 m pix λ(v10:Int)=>v2 (v10,())) (↑pix.length:Int).toNat).2 (↑v5.1:Int).toNat).toNat)).2)]=v9.2/\True)/\(decide ((↑v5.1:Int)<(↑(qb5 (qb3 m pix λ(v9:Int)=>v2 (v9,())) (↑pix.length:Int).toNat).2.length:Int))=false->((0:Int)<=(↑pix.length:Int)/\(↑pix.length:Int)<(↑(nL Q0.1 (qe9 none (↑v5.1:Int).toNat)).length:Int))/\(↑pix.length:Int).toNat<(nL Q0.1 (qe9 none (↑v5.1:Int).toNat)).length/\((nI (nL Q0.1 (qe9 none (↑v5.1:Int).toNat)) (↑pix.length:Int).toNat != (0:Int))=true->Q1.1=[]/\(8:Int)=Q1.2/\True)/\((nI (nL Q0.1 (qe9 none (↑v5.1:Int).toNat)) (↑pix.length:Int).toNat != (0:Int))=false->fits .i64 ((↑v5.1:Int)+(1:Int))/\∃(v10:Nat × List Q2),xh3 Q0.1 Q0.2 pix.length v10.1 v10.2/\Q0.1.length-v10.1<Q0.1.length-v5.1/\(True/\True/\True/\(↑v5.1:Int)+(1:Int)=(↑v10.1:Int)/\True)/\(y=y/\True)/\(Q0.1=Q0.1/\True/\True)/\v5.2=v10.2/\True)))/\(decide ((↑v5.1:Int)<(↑(qe3 (qb5 (qb3 m pix λ(v8:Int)=>v2 (v8,())) (↑pix.length:Int).toNat).1.length none):Int))=false->(decide ((↑(qb5 (qb3 m pix λ(v9:Int)=>v2 (v9,())) (↑pix.length:Int).toNat).2.length:Int)<(↑pix.length:Int))=true->Q1.1=[]/\(11:Int)=Q1.2/\True)/\(decide ((↑(qb5 (qb3 m pix λ(v9:Int)=>v2 (v9,())) (↑pix.length:Int).toNat).2.length:Int)<(↑pix.length:Int))=false->v5.2=Q1.1/\(0:Int)=Q1.2/\True)))) ?_
 refine⟨h.len,λhe=>by grind [qy0],λhe=>?_⟩
 have hA:=Asked.of he
 have hO:=h.ok he
 have e:qy0 m pix y=w00 (qt8 m pix y).1 (qt8 m pix y).2 pix.length:=by rw[qy0,zap he]
 rw[e]
 refine⟨λx=>0<=x.1/\x.1<y.length,λx=>[nI y x.1.toNat],λx hx=>⟨hx,rfl⟩,ChoOk.of hA.msk hA.nam λi hi=>⟨⟨zb3 _,Int.ofNat_lt.2 (by have:=hA.len; omega)⟩,by simp⟩,?_⟩
 dsimp only
 have hkr:qb5 (qb3 m pix λv4=>[nI y v4.toNat]) pix.length=qt8 m pix y:=rfl
 have hred:q5l (qb3 m pix λv4=>[nI y v4.toNat]) pix.length (pix.length+1):=hO.red
 have hsh:=q2r hred pix.length
 have hpv:=q4o (qb3 m pix λv4=>[nI y v4.toNat]) pix.length
 have har:=hO.ar
 have hcl:(qb3 m pix λv4=>[nI y v4.toNat]).length=m.length:=qr9 _ _ _
 have hm6:=hA.msk.rows6
 have hn10:=hA.msk.pix10
 have hpn:=hA.nam.len
 rw[hkr] at hsh hpv ⊢
 rw[hcl] at hsh
 refine⟨⟨_,hred⟩,?_⟩
 clear hkr hred hcl e
 generalize qt8 m pix y=K at *
 obtain⟨R,P⟩:=K
 dsimp only at hpv har ⊢
 have hRn:=hsh.cnt
 have hRe:=hsh.each
 have hPn:=hsh.piv
 have hPj:=hsh.pivj
 dsimp only at hRn hRe hPn hPj
 simp only[q5m,q8v]
 have hPk:∀k,k<P.length->0<=nI P k/\nI P k<pix.length:=λk hk=>hpv _ (by grind [qg5,List.getElem_mem])
 refine⟨(),(0,[]),⟨zae _,by simp,λi h1 h2=>absurd h2 (zau _)⟩,⟨rfl,by simp,rfl⟩,?_⟩
 rintro⟨k,l⟩ ⟨k1,k2,k3⟩
 dsimp only at k1 k2 k3 ⊢
 refine⟨λhlt=>⟨hlt,hlt,λhp=>?_,λhp=>?_⟩,λhge=>?_⟩
 ·have hr:=hRe k ow
  have hq:=hPk k hp
  have hp':0<=nI P k/\nI P k<((nL R k).length:Int):=⟨hq.1,ow⟩
  have hll:l.length=k:=by grind
  refine⟨ow,ow,ow,hp',ow,⟨har.bigN k hp,har.bigD k hp,har.nz k hp⟩,ow,qa6,(k+1,l++[q81 R P pix.length k]),⟨ow,?_,λi h1 h2=>by omega⟩,ow,by rfl,rfl⟩
  grind [min,List.range_succ]
 ·have hr:=hRe k ow
  refine⟨ow,ow,λhz=>?_,λhz=>?_⟩
  ·have:q3q R P pix.length=true:=by
    unfold q3q
    grind
   grind [w00]
  ·refine⟨qa6,(k+1,l),⟨ow,?_,λi h1 h2=>?_⟩,ow,by rfl,rfl⟩
   all_goals grind
 ·obtain rfl:k=R.length:=ow
  have hno:q3q R P pix.length=false:=by
   simp_all [q3q,List.any_eq_false,List.mem_range,Bool.and_eq_true,decide_eq_true_eq,bne_iff_ne]
  refine⟨λh1=>by grind [w00],λh1=>?_⟩
  rw[w00,hno,zaj dc,zaj h1]
  grind
end Go.Proofs.YtnchigbbjajiiaaGreat
