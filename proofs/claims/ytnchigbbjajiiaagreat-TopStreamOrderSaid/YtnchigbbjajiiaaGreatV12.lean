/- Rank and solutions: contracts by the engine. No condition. -/
import Derived.Test.YtnchigbbjajiiaaGreatV0
set_option linter.unusedVariables false
set_option linter.unusedSimpArgs false
namespace Go.Proofs.YtnchigbbjajiiaaGreat
open Go Go.RowKit Eng
def gcdI (a b:Int):Int:=(Int.gcd a b:Int)
abbrev qe5 (K x:Int):Prop:=-K<=x/\x<=K
def BIG:Int:=4000000000000000000
theorem q80 (a b:Int):0<=gcdI a b:=zb3 _
theorem x1b (a b:Int):gcdI (max a (0-a)) (max b (0-b))=gcdI a b:=by
 unfold gcdI
 have h1:(max a (0-a)).natAbs=a.natAbs:=ow
 have h2:(max b (0-b)).natAbs=b.natAbs:=ow
 show((Nat.gcd (max a (0-a)).natAbs (max b (0-b)).natAbs:Nat):Int)=(Nat.gcd a.natAbs b.natAbs:Nat)
 grind
theorem xi1 {a b:Int} (ha:0<=a) (hb:0<=b):gcdI b (a.tmod b)=gcdI a b:=by
 unfold gcdI
 obtain⟨m,rfl⟩:=zba ha
 obtain⟨n,rfl⟩:=zba hb
 rw[zcx ha]
 have e:((m:Int) % (n:Int))=((m % n:Nat):Int):=rfl
 rw[e,zeg,zeg]
 grind [Nat.gcd_comm,Nat.gcd_rec]
theorem xi2 (a:Int) (h:0<=a):gcdI a 0=a:=by
 grind [gcdI,Int.gcd_zero_right]
theorem wx1 {a:Int} (b:Int) (h:a≠0):gcdI a b<=a.natAbs:=by
 unfold gcdI
 exact zd4.2 (zdc ow (zb0 _ _))
theorem wn7 (a:Int) {b:Int} (h:b≠0):gcdI a b<=b.natAbs:=by
 unfold gcdI
 exact zd4.2 (zdc ow (zb2 _ _))
theorem xi3 {a b:Int} (ha:-BIG<=a/\a<=BIG) (hb:-BIG<=b/\b<=BIG):0<=gcdI a b/\gcdI a b<=BIG:=by
 refine⟨q80 _ _,?_⟩
 unfold BIG at *
 by_cases h:a=0
 ·by_cases k:b=0
  ·subst h k; decide
  ·have:=wn7 a k; omega
 ·have:=wx1 b h; omega
theorem qo1 {a b:Int} (h:a≠0\/b≠0):0<gcdI a b:=by
 grind [gcdI,Int.gcd,Int.gcd_pos_iff]
theorem qt6 {a g K:Int} (hk:-K<=a/\a<=K):-K<=a.tdiv g/\a.tdiv g<=K:=by
 have h1:(a.tdiv g).natAbs<=a.natAbs:=by
  rw[zck]; exact zes _ _
 omega
def x1c:qa8:=qd9 true none [qc0,qc0] [qc0] (λx=>(-BIG<=x.1/\x.1<=BIG)/\-BIG<=x.2.1/\x.2.1<=BIG) (λx=>(gcdI x.1 x.2.1,()))
def xi4 (a b:Int):Nat->Option Inv
 | 0=>some (Inv.of [0,1] 0 (λs:Int × Int=>[(0,.lit (.int .i64 s.1)),(1,.lit (.int .i64 s.2))]) (λ_=>[]) (λs=>(0<=s.1/\s.1<=BIG)/\(0<=s.2/\s.2<=BIG)/\gcdI s.1 s.2=gcdI a b) (λs=>s.2.toNat))
 | _=>none
theorem qq7:Meets Tryz.prog 106 x1c:=by
 refine mts (SpecsOk.nil _) Tryz.func106 (λx=>xi4 x.1 x.2.1) ?_
 rintro⟨a,b,⟨⟩⟩ h
 revert a b
 intro(a:Int) (b:Int) (h:(-BIG<=a/\a<=BIG)/\-BIG<=b/\b<=BIG)
 refine vcs (fits .i64 ((0:Int)-a)/\fits .i64 ((0:Int)-b)/\∃(v0:Unit),∃(v1:Int × Int),(((0:Int)<=v1.1/\v1.1<=BIG)/\((0:Int)<=v1.2/\v1.2<=BIG)/\gcdI v1.1 v1.2=gcdI a b)/\((max2 true a ((0:Int)-a)=v1.1/\max2 true b ((0:Int)-b)=v1.2/\True)/\True)/\∀(v2:Int × Int),((0:Int)<=v2.1/\v2.1<=BIG)/\((0:Int)<=v2.2/\v2.2<=BIG)/\gcdI v2.1 v2.2=gcdI a b->((v2.2 != (0:Int))=true->v2.2≠(0:Int)/\∃(v5:Int × Int),(((0:Int)<=v5.1/\v5.1<=BIG)/\((0:Int)<=v5.2/\v5.2<=BIG)/\gcdI v5.1 v5.2=gcdI a b)/\v5.2.toNat<v2.2.toNat/\(v2.2=v5.1/\Int.tmod v2.1 v2.2=v5.2/\True)/\True)/\((v2.2 != (0:Int))=false->v2.1=gcdI a b)) ?_
 have hB:BIG=4000000000000000000:=rfl
 refine⟨qa7,qa7,(),(max a (0-a),max b (0-b)),⟨⟨ow,ow⟩,⟨ow,ow⟩,x1b a b⟩,⟨rfl,rfl⟩,?_⟩
 rintro⟨x,y⟩ ⟨⟨h1,h2⟩,⟨h3,h4⟩,h5⟩
 dsimp only at h1 h2 h3 h4 h5 ⊢
 refine⟨λhy=>⟨hy,(y,x.tmod y),⟨⟨h3,h4⟩,?_,?_⟩,?_,rfl,rfl⟩,λhy=>?_⟩
 ·rw[zcx h1]
  have k1:=zdu x hy
  have k2:=zdd x (show 0<y by omega)
  omega
 ·grind [xi1,trans]
 ·rw[zcx h1]
  have k1:=zdu x hy
  have k2:=zdd x (show 0<y by omega)
  omega
 grind [xi2]
def ofR (n d:Int):Int × Int:=if d<0 then(n.tdiv (0-gcdI n d),d.tdiv (0-gcdI n d)) else(n.tdiv (gcdI n d),d.tdiv (gcdI n d))
def sOf:qa8:=qd9 true none [qc0,qc0] [qx2] (λx=>(-BIG<=x.1/\x.1<=BIG)/\(-BIG<=x.2.1/\x.2.1<=BIG)/\x.2.1≠0) (λx=>(ofR x.1 x.2.1,()))
theorem wn8:Meets Tryz.prog 61 sOf:=by
 refine mts (SpecsOk.cons qq7 (SpecsOk.nil _)) Tryz.func61 (λx=>λ_=>none) ?_
 rintro⟨a,b,⟨⟩⟩ h
 revert a b
 intro(a:Int) (b:Int) (h:(-BIG<=a/\a<=BIG)/\(-BIG<=b/\b<=BIG)/\b≠0)
 refine vcs (let Q0:=gcdI a b; (((-4000000000000000000:Int)<=a/\a<=BIG)/\(-4000000000000000000:Int)<=b/\b<=BIG)/\(decide (b<(0:Int))=true->fits .i64 ((0:Int)-gcdI a b)/\(0:Int)-gcdI a b≠(0:Int)/\fits .i64 (Int.tdiv a ((0:Int)-gcdI a b))/\(0:Int)-gcdI a b≠(0:Int)/\fits .i64 (Int.tdiv b ((0:Int)-gcdI a b))/\Int.tdiv a ((0:Int)-gcdI a b)=(ofR a b).1/\Int.tdiv b ((0:Int)-gcdI a b)=(ofR a b).2/\True)/\(decide (b<(0:Int))=false->gcdI a b≠(0:Int)/\fits .i64 (Int.tdiv a Q0)/\gcdI a b≠(0:Int)/\fits .i64 (Int.tdiv b Q0)/\Int.tdiv a Q0=(ofR a b).1/\Int.tdiv b Q0=(ofR a b).2/\True)) ?_
 have hB:BIG=4000000000000000000:=rfl
 have hg:=xi3 h.1 h.2.1
 have hp:=qo1 (a:=a) (b:=b) (.inr h.2.2)
 refine⟨⟨h.1,h.2.1⟩,λhb=>?_,λhb=>?_⟩
 ·have h1:=qt6 (g:=0-gcdI a b) h.1
  have h2:=qt6 (g:=0-gcdI a b) h.2.1
  have e:ofR a b=(a.tdiv (0-gcdI a b),b.tdiv (0-gcdI a b)):=by simp_all [ofR,if_pos]
  rw[e]
  exact⟨qa7,ow,qa7,ow,qa7,rfl,rfl⟩
 ·have h1:=qt6 (g:=gcdI a b) h.1
  have h2:=qt6 (g:=gcdI a b) h.2.1
  have e:ofR a b=(a.tdiv (gcdI a b),b.tdiv (gcdI a b)):=by simp_all [ofR,if_neg]
  rw[e]
  exact⟨ow,qa7,ow,qa7,rfl,rfl⟩
def gcdL (l:List Int):Int:=l.foldl gcdI 0
def qe4 (l:List Int):List Int:=if 1<gcdL l then l.map λx=>x.tdiv (gcdL l) else l
def wn9 (l:List Int):Prop:=l.length<=1000/\∀x∈l,-BIG<=x/\x<=BIG
def x4y:qm2:=q7e (q1u []) false false 0 3 (.int .i64) (λrows _=>wn9 (nL rows 0)) (λ_ _=>.tup .nil) (λrows _=>[qe4 (nL rows 0)])
def shK (l:List Int) (k:Nat):List Int:=if 1<gcdL l then(l.take k).map (λx=>x.tdiv (gcdL l))++l.drop k else l
def x7h (T:q67) (l:List Int):Nat->Option Inv
 | 0=>some (Inv.of [0,6,2,8] 1 (λk:Nat=>[(0,.msl 0 (some 0)),(6,.msl 0 (some 0)),(2,.lit (.int .i64 (gcdL (l.take k)))),(8,.lit (.int .i64 k))]) (λ_=>[.mat 0 3 (.int .i64) [l] (some []) (some T)]) (λk=>k<=l.length) (λk=>l.length-k))
 | 1=>some (Inv.of [0,18] 1 (λs:Nat × List Int=>[(0,.msl 0 (some 0)),(18,.lit (.int .i64 s.1))]) (λs=>[.mat 0 3 (.int .i64) [s.2] (some []) (some T)]) (λs=>s.1<=l.length/\s.2=shK l s.1) (λs=>l.length-s.1))
 | _=>none
theorem wx2 (l:List Int) (k:Nat) (hk:k<l.length):gcdL (l.take (k+1))=gcdI (gcdL (l.take k)) (nI l k):=by
 rw[zeb,zan hk]
 grind [gcdL,Option.toList_some,qf3]
theorem q81 {l:List Int} (h:wn9 l) {k:Nat} (hk:k<l.length):qe5 BIG (nI l k):=by
 rw[qf3 l k hk]
 exact h.2 _ (zeh hk)
theorem xi5 {l:List Int} (h:wn9 l):∀k,k<=l.length->0<=gcdL (l.take k)/\gcdL (l.take k)<=BIG
 | 0,_=>by simp[gcdL,BIG]
 | k+1,hk=>by
  rw[wx2 l k hk]
  have h1:=xi5 h k ow
  refine xi3 ⟨?_,h1.2⟩ (q81 h hk)
  omega
theorem w2i (l:List Int) (k:Nat) (hk:k<=l.length):(shK l k).length=l.length:=by
 grind [shK]
theorem yf3 (l:List Int) (k:Nat) (hk:k<l.length):nI (shK l k) k=nI l k:=by
 grind [shK,nI,qf0,List.getElem?_append_right]
theorem x1d (l:List Int) (k:Nat) (hk:k<l.length) (hg:1<gcdL l):(shK l k).set k ((nI l k).tdiv (gcdL l))=shK l (k+1):=by
 have h1:=w2i l k ow
 have h2:=w2i l (k+1) ow
 apply zbl (by grind)
 intro i hi _
 rw[zbd,h1] at hi
 rw[zc4]
 unfold shK
 simp only[if_pos hg]
 by_cases e:k=i
 ·subst e
  rw[zam rfl,List.getElem_append_left (by grind),qf3 l k hk]
  simp
 grind
theorem q3y:qq3 Tryz.prog 204 x4y:=by
 refine q1w (snd (SpecsOk.cons qq7 (SpecsOk.nil _))) Tryz.func204 rfl rfl (qm5 []) (λT rows _=>x7h T (nL rows 0)) (λ_ _ _=>by kernel_rfl) dc ?_ rfl
 rintro T rows ⟨⟩ h hone
 obtain⟨l,rfl⟩:∃l:List Int,rows=[l]:=by
  have h1:=hone rfl
  match rows,h1 with
  | [l],_=>simp
 have h:wn9 l:=h
 refine vcs (∃(v0:Unit),∃(v1:Nat),Nat.le v1 (nL [l] (0:Nat)).length/\((some (0:Nat)=some (0:Nat)/\some (0:Nat)=some (0:Nat)/\(0:Int)=gcdL (List.take v1 (nL [l] (0:Nat)))/\(0:Int)=(↑v1:Int)/\True)/\([l]=[nL [l] (0:Nat)]/\True/\T=T)/\True)/\∀(v2:Nat),Nat.le v2 (nL [l] (0:Nat)).length->(decide ((↑v2:Int)<(↑(nL [l] (0:Nat)).length:Int))=true->((0:Int)<=(↑v2:Int)/\(↑v2:Int)<(↑(nL [nL [l] (0:Nat)] (0:Nat)).length:Int))/\v2<(nL [nL [l] (0:Nat)] (0:Nat)).length/\(((-4000000000000000000:Int)<=gcdL (List.take v2 (nL [l] (0:Nat)))/\gcdL (List.take v2 (nL [l] (0:Nat)))<=BIG)/\(-4000000000000000000:Int)<=nI (nL [nL [l] (0:Nat)] (0:Nat)) v2/\nI (nL [nL [l] (0:Nat)] (0:Nat)) v2<=BIG)/\fits .i64 ((↑v2:Int)+(1:Int))/\∃(v5:Nat),Nat.le v5 (nL [l] (0:Nat)).length/\(nL [l] (0:Nat)).length-v5<(nL [l] (0:Nat)).length-v2/\(some (0:Nat)=some (0:Nat)/\some (0:Nat)=some (0:Nat)/\gcdI (gcdL (List.take v2 (nL [l] (0:Nat)))) (nI (nL [nL [l] (0:Nat)] (0:Nat)) v2)=gcdL (List.take v5 (nL [l] (0:Nat)))/\(↑v2:Int)+(1:Int)=(↑v5:Int)/\True)/\([nL [l] (0:Nat)]=[nL [l] (0:Nat)]/\True/\T=T)/\True)/\(decide ((↑v2:Int)<(↑(nL [l] (0:Nat)).length:Int))=false->∃(v5:Unit),∃(v6:Nat × List Int),(v6.1<=(nL [l] (0:Nat)).length/\v6.2=shK (nL [l] (0:Nat)) v6.1)/\((some (0:Nat)=some (0:Nat)/\(0:Int)=(↑v6.1:Int)/\True)/\([nL [l] (0:Nat)]=[v6.2]/\True/\T=T)/\True)/\∀(v7:Nat × List Int),v7.1<=(nL [l] (0:Nat)).length/\v7.2=shK (nL [l] (0:Nat)) v7.1->(decide ((↑v7.1:Int)<(↑(nL [nL [l] (0:Nat)] (0:Nat)).length:Int))=true->(decide ((1:Int)<gcdL (List.take v2 (nL [l] (0:Nat))))=true->((0:Int)<=(↑v7.1:Int)/\(↑v7.1:Int)<(↑(nL [v7.2] (0:Nat)).length:Int))/\(↑v7.1:Int).toNat<(nL [v7.2] (0:Nat)).length/\gcdL (List.take v2 (nL [l] (0:Nat)))≠(0:Int)/\fits .i64 (Int.tdiv (nI (nL [v7.2] (0:Nat)) (↑v7.1:Int).toNat) (gcdL (List.take v2 (nL [l] (0:Nat)))))/\((0:Int)<=(↑v7.1:Int)/\(↑v7.1:Int)<(↑(nL [v7.2] (0:Nat)).length:Int))/\(↑v7.1:Int).toNat<(nL [v7.2] (0:Nat)).length/\fits .i64 ((↑v7.1:Int)+(1:Int))/\∃(v11:Nat × List Int),(v11.1<=(nL [l] (0:Nat)).length/\v11.2=shK (nL [l] (0:Nat)) v11.1)/\(nL [l] (0:Nat)).length-v11.1<(nL [l] (0:Nat)).length-v7.1/\(some (0:Nat)=some (0:Nat)/\(↑v7.1:Int)+(1:Int)=(↑v11.1:Int)/\True)/\(List.set [v7.2] (0:Nat) (List.set (nL [v7.2] (0:Nat)) (↑v7.1:Int).toNat (Int.tdiv (nI (nL [v7.2] (0:Nat)) (↑v7.1:Int).toNat) (gcdL (List.take v2 (nL [l] (0:Nat))))))=[v11.2]/\True/\T=T)/\True)/\(decide ((1:Int)<gcdL (List.take v2 (nL [l] (0:Nat))))=false->fits .i64 ((↑v7.1:Int)+(1:Int))/\∃(v11:Nat × List Int),(v11.1<=(nL [l] (0:Nat)).length/\v11.2=shK (nL [l] (0:Nat)) v11.1)/\(nL [l] (0:Nat)).length-v11.1<(nL [l] (0:Nat)).length-v7.1/\(some (0:Nat)=some (0:Nat)/\(↑v7.1:Int)+(1:Int)=(↑v11.1:Int)/\True)/\([v7.2]=[v11.2]/\True/\T=T)/\True))/\(decide ((↑v7.1:Int)<(↑(nL [nL [l] (0:Nat)] (0:Nat)).length:Int))=false->[v7.2]=[qe4 (nL [l] (0:Nat))]/\T=T/\True/\True))) ?_
 have hB:BIG=4000000000000000000:=rfl
 refine⟨(),0,zaf _,⟨rfl,rfl⟩,λk hk=>⟨λhlt=>?_,λhge=>?_⟩⟩
 ·have h1:=xi5 h k hk
  have h2:=q81 h hlt
  exact⟨hlt,hlt,⟨⟨ow,h1.2⟩,h2⟩,qa7 ow (by have:=h.1; omega),k+1,ow,ow,(wx2 l k hlt).symm,ow⟩
 ·obtain rfl:k=l.length:=ow
  simp only[List.take_length,decide_eq_true_eq,decide_eq_false_iff_not,Int.not_lt]
  have sh0:shK l 0=l:=by grind [shK]
  refine⟨(),(0,l),⟨zaf _,sh0.symm⟩,⟨rfl,rfl⟩,?_⟩
  rintro⟨k,r⟩ ⟨h1,h2⟩
  dsimp only at h1 h2 ⊢
  subst h2
  have hl:=w2i l k h1
  refine⟨λhlt=>⟨λhg=>?_,λhg=>?_⟩,λhge=>?_⟩
  ·have h3:=q81 h hlt
   have h4:=qt6 (g:=gcdL l) h3
   rw[yf3 l k hlt]
   refine⟨ow,ow,ow,qa7,ow,ow,qa7 ow (by have:=h.1; omega),(k+1,shK l (k+1)),⟨ow,rfl⟩,ow,by rfl,x1d l k hlt hg⟩
  ·refine⟨qa7 ow (by have:=h.1; omega),(k+1,shK l (k+1)),⟨ow,rfl⟩,ow,by rfl,?_⟩
   simp_all [shK,if_neg]
  ·obtain rfl:k=l.length:=ow
   grind [shK,qe4]
def yf4:Int:=2000000000000000000
def q1 (r b:List Int) (c:Nat):Int:=(nI b c).tdiv (gcdI (nI r c) (nI b c))
def q2 (r b:List Int) (c:Nat):Int:=(nI r c).tdiv (gcdI (nI r c) (nI b c))
def x97 (r b:List Int) (c i:Nat):Int:=(nI r i)*q1 r b c-(nI b i)*q2 r b c
def q6u (r b:List Int) (c:Nat):List Int:=(List.range r.length).map (x97 r b c)
def qy7 (r b:List Int) (c:Nat):List Int:=qe4 (q6u r b c)
structure wx3 (r b:List Int) (c:Nat):Prop where
 at_:c<r.length
 len:b.length=r.length
 max:r.length<=1000
 ne:(nI b c)≠(0:Int)
 bdr:qe5 BIG (nI r c)
 bdb:qe5 BIG (nI b c)
 one:∀i,i<r.length->qe5 yf4 ((nI r i)*q1 r b c)
 two:∀i,i<r.length->qe5 yf4 ((nI b i)*q2 r b c)
def x4z:qm2:=q7e (q1u [qf1,qc0]) false false 0 3 (.int .i64) (λrows x=>0<=x.2.1/\wx3 (nL rows 0) x.1 x.2.1.toNat) (λ_ _=>.tup .nil) (λrows x=>[qy7 (nL rows 0) x.1 x.2.1.toNat])
def clK (r b:List Int) (c k:Nat):List Int:=ovr (.int .i64) (x97 r b c) r k
def x7i (T:q67) (r b:List Int) (c:Nat):Nat->Option Inv
 | 0=>some (Inv.of [0,23] 11 (λs:Nat × List Int=>[(0,.msl 0 (some 0)),(23,.lit (.int .i64 s.1))]) (λs=>[.mat 0 3 (.int .i64) [s.2] (some []) (some T),.dead,.dead,.dead,.dead,.dead,.dead,.dead,.dead,.dead,.dead]) (λs=>s.1<=r.length/\s.2=clK r b c s.1) (λs=>r.length-s.1))
 | _=>none
theorem q2t (r b:List Int) (c:Nat):(q6u r b c).length=r.length:=by simp[q6u]
theorem x7j (r b:List Int) (c k:Nat):(clK r b c k).length=r.length:=q0p (.int .i64) _ r k
theorem yf5 (r b:List Int) (c k:Nat) (hk:k<r.length):nI (clK r b c k) k=nI r k:=(wg9 (.int .i64) _ r k k hk).trans (zaj (zbe k))
theorem x1e (r b:List Int) (c k:Nat):(clK r b c k).set k (x97 r b c k)=clK r b c (k+1):=q2s (.int .i64) _ r k
theorem x7k (r b:List Int) (c:Nat):clK r b c r.length=q6u r b c:=q8z (.int .i64) _ r _ (zac _)
theorem w78 {r b:List Int} {c:Nat} (h:wx3 r b c):wn9 (q6u r b c):=by
 refine⟨by rw[q2t]; exact h.max,λx hx=>?_⟩
 unfold q6u at hx
 obtain⟨i,hi,rfl⟩:=zbf.1 hx
 have hi:=za2.1 hi
 have h1:=h.one i hi
 have h2:=h.two i hi
 grind [x97,yf4,BIG]
theorem w2j:qq3 Tryz.prog 190 x4z:=by
 refine q1w (yf2 (SpecsOk.cons qq7 (SpecsOk.nil _)) (MutsOk.cons q3y MutsOk.nil)) Tryz.func190 rfl rfl (qm5 [qf1,qc0]) (λT rows x=>x7i T (nL rows 0) x.1 x.2.1.toNat) (λ_ _ _=>by kernel_rfl) dc ?_ rfl
 rintro T rows ⟨b,c,⟨⟩⟩ h hone
 revert b c
 intro(b:List Int) (c:Int) h
 obtain⟨r,rfl⟩:∃l:List Int,rows=[l]:=by
  have h1:=hone rfl
  match rows,h1 with
  | [l],_=>simp
 have h:0<=c/\wx3 r b c.toNat:=h
 obtain⟨j,rfl⟩:∃j:Nat,c=j:=⟨c.toNat,ow⟩
 refine vcs (let Q0:=qm2.t x4y; ((0:Int)<=(↑j:Int)/\(↑j:Int)<(↑(nL [r] (0:Nat)).length:Int))/\(↑j:Int).toNat<(nL [r] (0:Nat)).length/\((0:Int)<=(↑j:Int)/\(↑j:Int)<(↑b.length:Int))/\(((-4000000000000000000:Int)<=nI (nL [r] (0:Nat)) (↑j:Int).toNat/\nI (nL [r] (0:Nat)) (↑j:Int).toNat<=BIG)/\(-4000000000000000000:Int)<=nI b (↑j:Int).toNat/\nI b (↑j:Int).toNat<=BIG)/\∃(v0:Unit),∃(v1:Nat × List Int),(v1.1<=(nL [r] (0:Nat)).length/\v1.2=clK (nL [r] (0:Nat)) b (↑j:Int).toNat v1.1)/\((some (0:Nat)=some (0:Nat)/\(0:Int)=(↑v1.1:Int)/\True)/\([r]=[v1.2]/\True/\T=T)/\True/\True/\True/\True/\True/\True/\True/\True/\True/\True/\True)/\∀(v2:Nat × List Int),v2.1<=(nL [r] (0:Nat)).length/\v2.2=clK (nL [r] (0:Nat)) b (↑j:Int).toNat v2.1->(decide ((↑v2.1:Int)<(↑(nL [r] (0:Nat)).length:Int))=true->((0:Int)<=(↑v2.1:Int)/\(↑v2.1:Int)<(↑(nL [v2.2] (0:Nat)).length:Int))/\(↑v2.1:Int).toNat<(nL [v2.2] (0:Nat)).length/\gcdI (nI (nL [r] (0:Nat)) (↑j:Int).toNat) (nI b (↑j:Int).toNat)≠(0:Int)/\fits .i64 (Int.tdiv (nI b (↑j:Int).toNat) (gcdI (nI (nL [r] (0:Nat)) (↑j:Int).toNat) (nI b (↑j:Int).toNat)))/\fits .i64 (nI (nL [v2.2] (0:Nat)) (↑v2.1:Int).toNat*Int.tdiv (nI b (↑j:Int).toNat) (gcdI (nI (nL [r] (0:Nat)) (↑j:Int).toNat) (nI b (↑j:Int).toNat)))/\((0:Int)<=(↑v2.1:Int)/\(↑v2.1:Int)<(↑b.length:Int))/\gcdI (nI (nL [r] (0:Nat)) (↑j:Int).toNat) (nI b (↑j:Int).toNat)≠(0:Int)/\fits .i64 (Int.tdiv (nI (nL [r] (0:Nat)) (↑j:Int).toNat) (gcdI (nI (nL [r] (0:Nat)) (↑j:Int).toNat) (nI b (↑j:Int).toNat)))/\fits .i64 (nI b (↑v2.1:Int).toNat*Int.tdiv (nI (nL [r] (0:Nat)) (↑j:Int).toNat) (gcdI (nI (nL [r] (0:Nat)) (↑j:Int).toNat) (nI b (↑j:Int).toNat)))/\fits .i64 (nI (nL [v2.2] (0:Nat)) (↑v2.1:Int).toNat*Int.tdiv (nI b (↑j:Int).toNat) (gcdI (nI (nL [r] (0:Nat)) (↑j:Int).toNat) (nI b (↑j:Int).toNat))-nI b (↑v2.1:Int).toNat*Int.tdiv (nI (nL [r] (0:Nat)) (↑j:Int).toNat) (gcdI (nI (nL [r] (0:Nat)) (↑j:Int).toNat) (nI b (↑j:Int).toNat)))/\((0:Int)<=(↑v2.1:Int)/\(↑v2.1:Int)<(↑(nL [v2.2] (0:Nat)).length:Int))/\(↑v2.1:Int).toNat<(nL [v2.2] (0:Nat)).length/\fits .i64 ((↑v2.1:Int)+(1:Int))/\∃(v5:Nat × List Int),(v5.1<=(nL [r] (0:Nat)).length/\v5.2=clK (nL [r] (0:Nat)) b (↑j:Int).toNat v5.1)/\(nL [r] (0:Nat)).length-v5.1<(nL [r] (0:Nat)).length-v2.1/\(some (0:Nat)=some (0:Nat)/\(↑v2.1:Int)+(1:Int)=(↑v5.1:Int)/\True)/\(List.set [v2.2] (0:Nat) (List.set (nL [v2.2] (0:Nat)) (↑v2.1:Int).toNat (nI (nL [v2.2] (0:Nat)) (↑v2.1:Int).toNat*Int.tdiv (nI b (↑j:Int).toNat) (gcdI (nI (nL [r] (0:Nat)) (↑j:Int).toNat) (nI b (↑j:Int).toNat))-nI b (↑v2.1:Int).toNat*Int.tdiv (nI (nL [r] (0:Nat)) (↑j:Int).toNat) (gcdI (nI (nL [r] (0:Nat)) (↑j:Int).toNat) (nI b (↑j:Int).toNat))))=[v5.2]/\True/\T=T)/\True/\True/\True/\True/\True/\True/\True/\True/\True/\True/\True)/\(decide ((↑v2.1:Int)<(↑(nL [r] (0:Nat)).length:Int))=false->wn9 (nL [qf0 (Ty.list Q0) [v2.2] (0:Nat)] (0:Nat))/\List.set [v2.2] (0:Nat) (qf0 (Ty.list Q0) [qe4 (nL [qf0 (Ty.list Q0) [v2.2] (0:Nat)] (0:Nat))] (0:Nat))=[qy7 (nL [r] (0:Nat)) b (↑j:Int).toNat]/\T=T/\True/\True)) ?_
 obtain⟨_,h⟩:=h
 rw[zat] at h
 have hB:BIG=4000000000000000000:=rfl
 have hB2:yf4=2000000000000000000:=rfl
 have hl:=h.len
 have hj:=h.at_
 have hmx:=h.max
 refine⟨hj,hj,ow,⟨by rw[<- hB]; exact h.bdr,by rw[<- hB]; exact h.bdb⟩,(),(0,r),⟨zaf _,(q4w (.int .i64) _ r).symm⟩,⟨rfl,rfl⟩,?_⟩
 rintro⟨k,l⟩ ⟨h1,h2⟩
 dsimp only at h1 h2 ⊢
 subst h2
 have hkl:=x7j r b j k
 refine⟨λhlt=>?_,λhge=>?_⟩
 ·have hg:=qo1 (a:=nI r j) (b:=nI b j) (.inr h.ne)
  have k1:=qt6 (g:=gcdI (nI r j) (nI b j)) h.bdr
  have k2:=qt6 (g:=gcdI (nI r j) (nI b j)) h.bdb
  have k3:=h.one k hlt
  have k4:=h.two k hlt
  rw[yf5 r b j k hlt]
  unfold q1 at k3
  unfold q2 at k4
  exact⟨ow,ow,ow,qa7,qa7,ow,ow,qa7,qa7,qa7,ow,ow,qa7,(k+1,clK r b j (k+1)),⟨ow,rfl⟩,ow,by rfl,x1e r b j k⟩
 ·obtain rfl:k=r.length:=ow
  rw[x7k]
  exact⟨w78 h,rfl⟩
def ixT (t:Ty) (f:t.den->Bool) (l:List t.den):Int:=if l.any f then(l.findIdx f:Int) else -1
theorem wx4 (t:Ty) (f:t.den->Bool) (l:List t.den) (k:Nat) (hk:k<l.length) (h:∀i,i<k->f (qf0 t l i)=false) (hf:f (qf0 t l k)=true):ixT t f l=k:=by
 have hk':f l[k]=true:=by grind [qo3]
 unfold ixT
 rw[zam (zb1.2 ⟨_,zeh hk,hk'⟩)]
 grind [List.findIdx_eq,qo3]
theorem q7v (t:Ty) (f:t.den->Bool) (l:List t.den) (h:∀i,i<l.length->f (qf0 t l i)=false):ixT t f l=-1:=by
 unfold ixT
 rw[zaj]
 intro he
 obtain⟨x,hx,hf⟩:=zb1.1 he
 obtain⟨i,hi,rfl⟩:=zbu hx
 grind [qo3]
theorem qy8 (t:Ty) (f:t.den->Bool) (l:List t.den):decide (0<=ixT t f l)=l.any f:=by
 grind [ixT]
theorem x42 (t:Ty) (f:t.den->Bool) (l:List t.den):ixT t f l<l.length/\-1<=ixT t f l:=by
 grind [ixT,List.findIdx_lt_length,List.any_eq_true]
def yo4 (t:Ty) (l:List t.den) (f:t.den->Bool):Nat->Option Inv
 | 0=>some (Inv.of [8] 0 (λk:Nat=>[(8,.lit (.int .i64 k))]) (λ_=>[]) (λk=>k<=l.length/\∀i,i<k->f (qf0 t l i)=false) (λk=>l.length-k))
 | _=>none
abbrev y4e (fs:List (Nat × qa8)):qa8:=hspec fs true none [.d (.list (.list (.int .i64))),.fn [.list (.int .i64)] .bool] [qc0] (λx=>x.1.length<=1000000/\∀i,i<x.1.length->x.2.1.1 (qf0 (.list (.int .i64)) x.1 i,())) (λx=>(ixT (.list (.int .i64)) (λe=>x.2.1.2 (e,())) x.1,()))
theorem wx5 {fs:List (Nat × qa8)} (hfs:SpecsOk Tryz.prog fs):Meets Tryz.prog 68 (y4e fs):=by
 refine ql2 hfs (snd (SpecsOk.nil _)) Tryz.func68 rfl rfl (λx=>yo4 (.list (.int .i64)) x.1 (λe=>x.2.1.2 (e,()))) (λ_=>by kernel_rfl) dc ?_
 rintro⟨l,⟨p,f⟩,⟨⟩⟩ h
 revert l p f
 intro(l:List (Ty.den (.list (.int .i64)))) (p:qa3 [.list (.int .i64)]->Prop) (f:qa3 [.list (.int .i64)]->Bool) (h:l.length<=1000000/\∀i,i<l.length->p (qf0 (.list (.int .i64)) l i,()))
 refine vcs (∃(v0:Unit),∃(v1:Nat),(v1<=l.length/\∀(v2:Nat),Nat.le (Nat.succ v2) v1->f (nL l v2,())=false)/\(((0:Int)=(↑v1:Int)/\True)/\True)/\∀(v2:Nat),(v2<=l.length/\∀(v4:Nat),Nat.le (Nat.succ v4) v2->f (nL l v4,())=false)->(decide ((↑v2:Int)<(↑l.length:Int))=true->((0:Int)<=(↑v2:Int)/\(↑v2:Int)<(↑l.length:Int))/\p (nL l v2,())/\(f (nL l v2,())=true->(↑v2:Int)=ixT (Ty.list (Ty.int .i64)) (λ(v6:List Int)=>f (v6,())) l)/\(f (nL l v2,())=false->fits .i64 ((↑v2:Int)+(1:Int))/\∃(v6:Nat),(v6<=l.length/\∀(v7:Nat),Nat.le (Nat.succ v7) v6->f (nL l v7,())=false)/\l.length-v6<l.length-v2/\((↑v2:Int)+(1:Int)=(↑v6:Int)/\True)/\True))/\(decide ((↑v2:Int)<(↑l.length:Int))=false->(-1:Int)=ixT (Ty.list (Ty.int .i64)) (λ(v5:List Int)=>f (v5,())) l)) ?_
 obtain⟨hl,hp⟩:=h
 refine⟨(),0,⟨zaf _,λi hi=>absurd hi ow⟩,rfl,λk ⟨hk,hall⟩=>?_⟩
 refine⟨λhlt=>⟨hlt,hp k hlt,λhf=>(wx4 (.list (.int .i64)) (λe=>f (e,())) l k hlt hall hf).symm,λhf=>⟨qa7,k+1,⟨ow,λi hi=>?_⟩,ow,ow⟩⟩,λhge=>(q7v (.list (.int .i64)) (λe=>f (e,())) l λi hi=>hall i ow).symm⟩
 grind
abbrev y4f (fs:List (Nat × qa8)):qa8:=hspec fs true none [.d (.list (.int .i64)),.fn [.int .i64] .bool] [qc0] (λx=>x.1.length<=1000000/\∀i,i<x.1.length->x.2.1.1 (qf0 (.int .i64) x.1 i,())) (λx=>(ixT (.int .i64) (λe=>x.2.1.2 (e,())) x.1,()))
theorem wx6 {fs:List (Nat × qa8)} (hfs:SpecsOk Tryz.prog fs):Meets Tryz.prog 115 (y4f fs):=by
 refine ql2 hfs (snd (SpecsOk.nil _)) Tryz.func115 rfl rfl (λx=>yo4 (.int .i64) x.1 (λe=>x.2.1.2 (e,()))) (λ_=>by kernel_rfl) dc ?_
 rintro⟨l,⟨p,f⟩,⟨⟩⟩ h
 revert l p f
 intro(l:List (Ty.den (.int .i64))) (p:qa3 [.int .i64]->Prop) (f:qa3 [.int .i64]->Bool) (h:l.length<=1000000/\∀i,i<l.length->p (qf0 (.int .i64) l i,()))
 refine vcs (∃(v0:Unit),∃(v1:Nat),(v1<=l.length/\∀(v2:Nat),Nat.le (Nat.succ v2) v1->f (nI l v2,())=false)/\(((0:Int)=(↑v1:Int)/\True)/\True)/\∀(v2:Nat),(v2<=l.length/\∀(v4:Nat),Nat.le (Nat.succ v4) v2->f (nI l v4,())=false)->(decide ((↑v2:Int)<(↑l.length:Int))=true->((0:Int)<=(↑v2:Int)/\(↑v2:Int)<(↑l.length:Int))/\p (nI l v2,())/\(f (nI l v2,())=true->(↑v2:Int)=ixT (Ty.int .i64) (λ(v6:Int)=>f (v6,())) l)/\(f (nI l v2,())=false->fits .i64 ((↑v2:Int)+(1:Int))/\∃(v6:Nat),(v6<=l.length/\∀(v7:Nat),Nat.le (Nat.succ v7) v6->f (nI l v7,())=false)/\l.length-v6<l.length-v2/\((↑v2:Int)+(1:Int)=(↑v6:Int)/\True)/\True))/\(decide ((↑v2:Int)<(↑l.length:Int))=false->(-1:Int)=ixT (Ty.int .i64) (λ(v5:Int)=>f (v5,())) l)) ?_
 obtain⟨hl,hp⟩:=h
 refine⟨(),0,⟨zaf _,λi hi=>absurd hi ow⟩,rfl,λk ⟨hk,hall⟩=>?_⟩
 refine⟨λhlt=>⟨hlt,hp k hlt,λhf=>(wx4 (.int .i64) (λe=>f (e,())) l k hlt hall hf).symm,λhf=>⟨qa7,k+1,⟨ow,λi hi=>?_⟩,ow,ow⟩⟩,λhge=>(q7v (.int .i64) (λe=>f (e,())) l λi hi=>hall i ow).symm⟩
 grind
abbrev y4g (fs:List (Nat × qa8)):qa8:=hspec fs true none [.d (.list (.prod (.int .i64) (.int .i64))),.fn [.prod (.int .i64) (.int .i64)] .bool] [qc0] (λx=>x.1.length<=1000000/\∀i,i<x.1.length->x.2.1.1 (qf0 (.prod (.int .i64) (.int .i64)) x.1 i,())) (λx=>(ixT (.prod (.int .i64) (.int .i64)) (λe=>x.2.1.2 (e,())) x.1,()))
theorem xi6 {fs:List (Nat × qa8)} (hfs:SpecsOk Tryz.prog fs):Meets Tryz.prog 265 (y4g fs):=by
 refine ql2 hfs (snd (SpecsOk.nil _)) Tryz.func265 rfl rfl (λx=>yo4 (.prod (.int .i64) (.int .i64)) x.1 (λe=>x.2.1.2 (e,()))) (λ_=>by kernel_rfl) dc ?_
 rintro⟨l,⟨p,f⟩,⟨⟩⟩ h
 revert l p f
 intro(l:List (Ty.den (.prod (.int .i64) (.int .i64)))) (p:qa3 [.prod (.int .i64) (.int .i64)]->Prop) (f:qa3 [.prod (.int .i64) (.int .i64)]->Bool) (h:l.length<=1000000/\∀i,i<l.length->p (qf0 (.prod (.int .i64) (.int .i64)) l i,()))
 refine vcs (∃(v0:Unit),∃(v1:Nat),(v1<=l.length/\∀(v2:Nat),Nat.le (Nat.succ v2) v1->f (qf0 (Ty.prod (Ty.int .i64) (Ty.int .i64)) l v2,())=false)/\(((0:Int)=(↑v1:Int)/\True)/\True)/\∀(v2:Nat),(v2<=l.length/\∀(v4:Nat),Nat.le (Nat.succ v4) v2->f (qf0 (Ty.prod (Ty.int .i64) (Ty.int .i64)) l v4,())=false)->(decide ((↑v2:Int)<(↑l.length:Int))=true->((0:Int)<=(↑v2:Int)/\(↑v2:Int)<(↑l.length:Int))/\p (((qf0 (Ty.prod (Ty.int .i64) (Ty.int .i64)) l v2).1,(qf0 (Ty.prod (Ty.int .i64) (Ty.int .i64)) l v2).2),())/\(f (((qf0 (Ty.prod (Ty.int .i64) (Ty.int .i64)) l v2).1,(qf0 (Ty.prod (Ty.int .i64) (Ty.int .i64)) l v2).2),())=true->(↑v2:Int)=ixT (Ty.prod (Ty.int .i64) (Ty.int .i64)) (λ(v6:Int × Int)=>f (v6,())) l)/\(f (((qf0 (Ty.prod (Ty.int .i64) (Ty.int .i64)) l v2).1,(qf0 (Ty.prod (Ty.int .i64) (Ty.int .i64)) l v2).2),())=false->fits .i64 ((↑v2:Int)+(1:Int))/\∃(v6:Nat),(v6<=l.length/\∀(v7:Nat),Nat.le (Nat.succ v7) v6->f (qf0 (Ty.prod (Ty.int .i64) (Ty.int .i64)) l v7,())=false)/\l.length-v6<l.length-v2/\((↑v2:Int)+(1:Int)=(↑v6:Int)/\True)/\True))/\(decide ((↑v2:Int)<(↑l.length:Int))=false->(-1:Int)=ixT (Ty.prod (Ty.int .i64) (Ty.int .i64)) (λ(v5:Int × Int)=>f (v5,())) l)) ?_
 obtain⟨hl,hp⟩:=h
 refine⟨(),0,⟨zaf _,λi hi=>absurd hi ow⟩,rfl,λk ⟨hk,hall⟩=>?_⟩
 refine⟨λhlt=>⟨hlt,hp k hlt,λhf=>(wx4 (.prod (.int .i64) (.int .i64)) (λe=>f (e,())) l k hlt hall hf).symm,λhf=>⟨qa7,k+1,⟨ow,λi hi=>?_⟩,ow,ow⟩⟩,λhge=>(q7v (.prod (.int .i64) (.int .i64)) (λe=>f (e,())) l λi hi=>hall i ow).symm⟩
 grind
abbrev y4h (fs:List (Nat × qa8)):qa8:=hspec fs true none [.d (.list (.list (.int .i64))),.fn [.list (.int .i64)] .bool] [.bool] (λx=>x.1.length<=1000000/\∀i,i<x.1.length->x.2.1.1 (qf0 (.list (.int .i64)) x.1 i,())) (λx=>(x.1.any λe=>x.2.1.2 (e,()),()))
theorem wx7 {fs:List (Nat × qa8)} (hfs:SpecsOk Tryz.prog fs):Meets Tryz.prog 88 (y4h fs):=by
 refine ql2 hfs (snd (SpecsOk.cons (wx5 (fs:=fs) hfs) (SpecsOk.nil _))) Tryz.func88 rfl rfl (λx=>λ_=>none) (λ_=>by kernel_rfl) dc ?_
 rintro⟨l,⟨p,f⟩,⟨⟩⟩ h
 revert l p f
 intro(l:List (Ty.den (.list (.int .i64)))) (p:qa3 [.list (.int .i64)]->Prop) (f:qa3 [.list (.int .i64)]->Bool) (h:l.length<=1000000/\∀i,i<l.length->p (qf0 (.list (.int .i64)) l i,()))
 refine vcs (∃(v0:qa3 [Ty.list (Ty.int .i64)]->Prop),∃(v1:qa3 [Ty.list (Ty.int .i64)]->Bool),([Ty.list (Ty.int .i64)]=[Ty.list (Ty.int .i64)]/\Ty.bool=Ty.bool/\p ≍ v0/\f ≍ v1)/\(l.length<=(1000000:Nat)/\∀(v2:Nat),v2<l.length->v0 (nL l v2,()))/\decide ((0:Int)<=ixT (Ty.list (Ty.int .i64)) (λ(v2:List Int)=>v1 (v2,())) l)=List.any l λ(v2:List Int)=>f (v2,())) ?_
 exact⟨p,f,⟨HEq.rfl,HEq.rfl⟩,h,qy8 (.list (.int .i64)) (λe=>f (e,())) l⟩
abbrev y4i (fs:List (Nat × qa8)):qa8:=hspec fs true none [.d (.list (.int .i64)),.fn [.int .i64] .bool] [.bool] (λx=>x.1.length<=1000000/\∀i,i<x.1.length->x.2.1.1 (qf0 (.int .i64) x.1 i,())) (λx=>(x.1.any λe=>x.2.1.2 (e,()),()))
theorem q1x {fs:List (Nat × qa8)} (hfs:SpecsOk Tryz.prog fs):Meets Tryz.prog 73 (y4i fs):=by
 refine ql2 hfs (snd (SpecsOk.cons (wx6 (fs:=fs) hfs) (SpecsOk.nil _))) Tryz.func73 rfl rfl (λx=>λ_=>none) (λ_=>by kernel_rfl) dc ?_
 rintro⟨l,⟨p,f⟩,⟨⟩⟩ h
 revert l p f
 intro(l:List (Ty.den (.int .i64))) (p:qa3 [.int .i64]->Prop) (f:qa3 [.int .i64]->Bool) (h:l.length<=1000000/\∀i,i<l.length->p (qf0 (.int .i64) l i,()))
 refine vcs (∃(v0:qa3 [Ty.int .i64]->Prop),∃(v1:qa3 [Ty.int .i64]->Bool),([Ty.int .i64]=[Ty.int .i64]/\Ty.bool=Ty.bool/\p ≍ v0/\f ≍ v1)/\(l.length<=(1000000:Nat)/\∀(v2:Nat),v2<l.length->v0 (nI l v2,()))/\decide ((0:Int)<=ixT (Ty.int .i64) (λ(v2:Int)=>v1 (v2,())) l)=List.any l λ(v2:Int)=>f (v2,())) ?_
 exact⟨p,f,⟨HEq.rfl,HEq.rfl⟩,h,qy8 (.int .i64) (λe=>f (e,())) l⟩
abbrev y4j (fs:List (Nat × qa8)):qa8:=hspec fs true none [.d (.list (.prod (.int .i64) (.int .i64))),.fn [.prod (.int .i64) (.int .i64)] .bool] [.bool] (λx=>x.1.length<=1000000/\∀i,i<x.1.length->x.2.1.1 (qf0 (.prod (.int .i64) (.int .i64)) x.1 i,())) (λx=>(x.1.any λe=>x.2.1.2 (e,()),()))
theorem xi7 {fs:List (Nat × qa8)} (hfs:SpecsOk Tryz.prog fs):Meets Tryz.prog 213 (y4j fs):=by
 refine ql2 hfs (snd (SpecsOk.cons (xi6 (fs:=fs) hfs) (SpecsOk.nil _))) Tryz.func213 rfl rfl (λx=>λ_=>none) (λ_=>by kernel_rfl) dc ?_
 rintro⟨l,⟨p,f⟩,⟨⟩⟩ h
 revert l p f
 intro(l:List (Ty.den (.prod (.int .i64) (.int .i64)))) (p:qa3 [.prod (.int .i64) (.int .i64)]->Prop) (f:qa3 [.prod (.int .i64) (.int .i64)]->Bool) (h:l.length<=1000000/\∀i,i<l.length->p (qf0 (.prod (.int .i64) (.int .i64)) l i,()))
 refine vcs (∃(v0:qa3 [Ty.prod (Ty.int .i64) (Ty.int .i64)]->Prop),∃(v1:qa3 [Ty.prod (Ty.int .i64) (Ty.int .i64)]->Bool),([Ty.prod (Ty.int .i64) (Ty.int .i64)]=[Ty.prod (Ty.int .i64) (Ty.int .i64)]/\Ty.bool=Ty.bool/\p ≍ v0/\f ≍ v1)/\(l.length<=(1000000:Nat)/\∀(v2:Nat),v2<l.length->v0 (qf0 (Ty.prod (Ty.int .i64) (Ty.int .i64)) l v2,()))/\decide ((0:Int)<=ixT (Ty.prod (Ty.int .i64) (Ty.int .i64)) (λ(v2:Int × Int)=>v1 (v2,())) l)=List.any l λ(v2:Int × Int)=>f (v2,())) ?_
 exact⟨p,f,⟨HEq.rfl,HEq.rfl⟩,h,qy8 (.prod (.int .i64) (.int .i64)) (λe=>f (e,())) l⟩
def inB (n lo hi:Int):Bool:=decide (lo<=n) && decide (n<=hi)
theorem qh1 {n lo hi:Int}:inB n lo hi=true↔lo<=n/\n<=hi:=by simp[inB]
abbrev wo0:qa8:=qd9 true none [qc0,qc0,qc0] [.bool] (λ_=>True) (λx=>(inB x.1 x.2.1 x.2.2.1,()))
theorem qu3:Meets Tryz.prog 39 wo0:=by
 refine mt0 (SpecsOk.nil _) Tryz.func39 ?_
 rintro⟨n,lo,hi,⟨⟩⟩ -
 revert n lo hi
 intro(n:Int) (lo:Int) (hi:Int)
 refine vcs ((decide (lo<=n)=true->decide (n<=hi)=inB n lo hi)/\(decide (lo<=n)=false->false=inB n lo hi)) ?_
 grind [inB]
theorem qu4:Meets Tryz.prog 117 wo0:=by
 refine mt0 (SpecsOk.nil _) Tryz.func117 ?_
 rintro⟨n,lo,hi,⟨⟩⟩ -
 revert n lo hi
 intro(n:Int) (lo:Int) (hi:Int)
 refine vcs ((decide (lo<=n)=true->decide (n<=hi)=inB n lo hi)/\(decide (lo<=n)=false->false=inB n lo hi)) ?_
 grind [inB]
abbrev x44 (fs:List (Nat × qa8)):qa8:=hspec fs true none [.d qc0,.capfn [qc0] .bool] [.bool] (λx=>x.2.1.1 (x.1,())) (λx=>(!(x.2.1.2 (x.1,())),()))
theorem w2k {fs:List (Nat × qa8)} (hfs:SpecsOk Tryz.prog fs):Meets Tryz.prog 137 (x44 fs):=by
 refine ql2 hfs (snd (SpecsOk.nil _)) Tryz.func137 rfl rfl (λ_ _=>none) (λ_=>by kernel_rfl) dc ?_
 rintro⟨n,⟨p,f⟩,⟨⟩⟩ h
 revert n p f
 intro(n:Int) (p:qa3 [.int .i64]->Prop) (f:qa3 [.int .i64]->Bool) (h:p (n,()))
 refine vcr (p (n,())/\(!f (n,()))=!f (n,())) ?_
 grind
abbrev x45 (fs:List (Nat × qa8)):qa8:=hspec fs true none [.d qf1,.capfn [qf1] .bool] [.bool] (λx=>x.2.1.1 (x.1,())) (λx=>(!(x.2.1.2 (x.1,())),()))
theorem w2l {fs:List (Nat × qa8)} (hfs:SpecsOk Tryz.prog fs):Meets Tryz.prog 89 (x45 fs):=by
 refine ql2 hfs (snd (SpecsOk.nil _)) Tryz.func89 rfl rfl (λ_ _=>none) (λ_=>by kernel_rfl) dc ?_
 rintro⟨n,⟨p,f⟩,⟨⟩⟩ h
 revert n p f
 intro(n:List Int) (p:qa3 [.list (.int .i64)]->Prop) (f:qa3 [.list (.int .i64)]->Bool) (h:p (n,()))
 refine vcr (p (n,())/\(!f (n,()))=!f (n,())) ?_
 grind
abbrev fsI (fs:List (Nat × qa8)):List (Nat × qa8):=[(137,x44 fs)]
abbrev fsL (fs:List (Nat × qa8)):List (Nat × qa8):=[(89,x45 fs)]
abbrev yw7 (fs:List (Nat × qa8)):qa8:=hspec fs true none [.d qf1,.fn [qc0] .bool] [.bool] (λx=>x.1.length<=1000000/\∀i,i<x.1.length->x.2.1.1 (nI x.1 i,())) (λx=>(x.1.all λe=>x.2.1.2 (e,()),()))
abbrev yw8 (fs:List (Nat × qa8)):qa8:=hspec fs true none [.d qg1,.fn [qf1] .bool] [.bool] (λx=>x.1.length<=1000000/\∀i,i<x.1.length->x.2.1.1 (nL x.1 i,())) (λx=>(x.1.all λe=>x.2.1.2 (e,()),()))
theorem wh0 {fs:List (Nat × qa8)} (hfs:SpecsOk Tryz.prog fs):Meets Tryz.prog 90 (yw7 fs):=by
 refine ql2 hfs (snd (SpecsOk.cons (q1x (fs:=fsI fs) (SpecsOk.cons (w2k hfs) (SpecsOk.nil _))) (SpecsOk.nil _))) Tryz.func90 rfl rfl (λ_ _=>none) (λ_=>by kernel_rfl) dc ?_
 rintro⟨l,⟨p,f⟩,⟨⟩⟩ h
 revert l p f
 intro(l:List Int) (p:qa3 [.int .i64]->Prop) (f:qa3 [.int .i64]->Bool) (h:l.length<=1000000/\∀i,i<l.length->p (nI l i,()))
 refine vcs (∃(v0:qa3 [Ty.int .i64]->Prop),∃(v1:qa3 [Ty.int .i64]->Bool),(∀(v2:Int × qa3._f [] PUnit.unit),v0 v2->∃(v4:qa3 [qc0]->Prop),∃(v5:qa3 [qc0]->Bool),([qc0]=[qc0]/\Ty.bool=Ty.bool/\p ≍ v4/\f ≍ v5)/\v4 (v2.1,())/\(!v5 (v2.1,()))=v1 v2)/\(l.length<=(1000000:Nat)/\∀(v2:Nat),v2<l.length->v0 (nI l v2,()))/\(!List.any l λ(v2:Int)=>v1 (v2,()))=List.all l λ(v2:Int)=>f (v2,())) ?_
 exact⟨p,λx=>!f x,λx hx=>⟨p,f,⟨HEq.rfl,HEq.rfl⟩,hx,(zd5 (f x)).symm⟩,h,by grind⟩
theorem w79 {fs:List (Nat × qa8)} (hfs:SpecsOk Tryz.prog fs):Meets Tryz.prog 40 (yw8 fs):=by
 refine ql2 hfs (snd (SpecsOk.cons (wx7 (fs:=fsL fs) (SpecsOk.cons (w2l hfs) (SpecsOk.nil _))) (SpecsOk.nil _))) Tryz.func40 rfl rfl (λ_ _=>none) (λ_=>by kernel_rfl) dc ?_
 rintro⟨l,⟨p,f⟩,⟨⟩⟩ h
 revert l p f
 intro(l:List (List Int)) (p:qa3 [.list (.int .i64)]->Prop) (f:qa3 [.list (.int .i64)]->Bool) (h:l.length<=1000000/\∀i,i<l.length->p (nL l i,()))
 refine vcs (∃(v0:qa3 [Ty.list (Ty.int .i64)]->Prop),∃(v1:qa3 [Ty.list (Ty.int .i64)]->Bool),(∀(v2:List Int × qa3._f [] PUnit.unit),v0 v2->∃(v4:qa3 [qf1]->Prop),∃(v5:qa3 [qf1]->Bool),([qf1]=[qf1]/\Ty.bool=Ty.bool/\p ≍ v4/\f ≍ v5)/\v4 (v2.1,())/\(!v5 (v2.1,()))=v1 v2)/\(l.length<=(1000000:Nat)/\∀(v2:Nat),v2<l.length->v0 (nL l v2,()))/\(!List.any l λ(v2:List Int)=>v1 (v2,()))=List.all l λ(v2:List Int)=>f (v2,())) ?_
 exact⟨p,λx=>!f x,λx hx=>⟨p,f,⟨HEq.rfl,HEq.rfl⟩,hx,(zd5 (f x)).symm⟩,h,by grind⟩
abbrev yf6:qa8:=qd9 true none [qc0] [.bool] (λ_=>True) (λx=>(inB x.1 (-1) 1,()))
theorem w8a:Meets Tryz.prog 91 yf6:=by
 refine mt0 (SpecsOk.cons qu3 (SpecsOk.nil _)) Tryz.func91 ?_
 rintro⟨n,⟨⟩⟩ -
 revert n
 intro(n:Int)
 refine vcr (True/\inB n (-1:Int) (1:Int)=inB n (-1:Int) (1:Int)) ?_
 simp
def rowB (l:List Int):Bool:=inB l.length 1 10 && l.all λn=>inB n (-1) 1
abbrev y4k:qa8:=qd9 true none [qf1] [.bool] (λ_=>True) (λx=>(rowB x.1,()))
theorem xi8:Meets Tryz.prog 42 y4k:=by
 refine mt0 (SpecsOk.cons qu3 (SpecsOk.cons (wh0 (fs:=[(91,yf6)]) (SpecsOk.cons w8a (SpecsOk.nil _))) (SpecsOk.nil _))) Tryz.func42 ?_
 rintro⟨l,⟨⟩⟩ -
 revert l
 intro(l:List Int)
 refine vcs (True/\(inB (↑l.length:Int) (1:Int) (10:Int)=true->∃(v1:qa3 [qc0]->Prop),∃(v2:qa3 [qc0]->Bool),(∀(v3:Int × qa3._f [] PUnit.unit),v1 v3->True/\inB v3.1 (-1:Int) (1:Int)=v2 v3)/\(l.length<=(1000000:Nat)/\∀(v3:Nat),v3<l.length->v1 (nI l v3,()))/\(List.all l λ(v3:Int)=>v2 (v3,()))=rowB l)/\(inB (↑l.length:Int) (1:Int) (10:Int)=false->false=rowB l)) ?_
 refine⟨λh=>⟨λ_=>True,λx=>inB x.1 (-1) 1,λ_ _=>rfl,⟨by grind [qh1],λ_ _=>trivial⟩,by simp[rowB,h]⟩,λh=>by simp[rowB,h]⟩
abbrev y3g:qa8:=hspec [] true none [.d qf1,.cap qg1] [.bool] (λx=>0<x.2.1.length) (λx=>(decide (x.1.length=(nL x.2.1 0).length) && rowB x.1,()))
theorem xi9:Meets Tryz.prog 41 y3g:=by
 refine ql2 (SpecsOk.nil _) (snd (SpecsOk.cons xi8 (SpecsOk.nil _))) Tryz.func41 rfl rfl (λ_ _=>none) (λ_=>by kernel_rfl) dc ?_
 rintro⟨l,m,⟨⟩⟩ h
 revert l m
 intro(l:List Int) (m:List (List Int)) (h:0<m.length)
 refine vcs (((0:Int)<=(0:Int)/\(0:Int)<(↑m.length:Int))/\(((↑l.length:Int)==(↑(nL m (0:Nat)).length:Int))=true->True/\rowB l=(decide (l.length=(nL m (0:Nat)).length) && rowB l))/\(((↑l.length:Int)==(↑(nL m (0:Nat)).length:Int))=false->false=(decide (l.length=(nL m (0:Nat)).length) && rowB l))) ?_
 grind
def qb6 (m:List (List Int)):Bool:=inB m.length 1 6 && m.all λl=>decide (l.length=(nL m 0).length) && rowB l
abbrev sMV:qa8:=qd9 true none [qg1] [.bool] (λ_=>True) (λx=>(qb6 x.1,()))
theorem qx3:Meets Tryz.prog 9 sMV:=by
 refine mt0 (SpecsOk.cons qu3 (SpecsOk.cons (w79 (fs:=[(41,y3g)]) (SpecsOk.cons xi9 (SpecsOk.nil _))) (SpecsOk.nil _))) Tryz.func9 ?_
 rintro⟨m,⟨⟩⟩ -
 revert m
 intro(m:List (List Int))
 refine vcs (True/\(inB (↑m.length:Int) (1:Int) (6:Int)=true->∃(v1:qa3 [qf1]->Prop),∃(v2:qa3 [qf1]->Bool),(∀(v3:List Int × qa3._f [] PUnit.unit),v1 v3->(0:Nat)<m.length/\(decide (v3.1.length=(nL m (0:Nat)).length) && rowB v3.1)=v2 v3)/\(m.length<=(1000000:Nat)/\∀(v3:Nat),v3<m.length->v1 (nL m v3,()))/\(List.all m λ(v3:List Int)=>v2 (v3,()))=qb6 m)/\(inB (↑m.length:Int) (1:Int) (6:Int)=false->false=qb6 m)) ?_
 refine⟨λh=>?_,λh=>by simp[qb6,h]⟩
 have hm:=qh1.1 h
 exact⟨λ_=>True,λx=>decide (x.1.length=(nL m 0).length) && rowB x.1,λx _=>⟨ow,rfl⟩,⟨ow,λ_ _=>trivial⟩,by simp[qb6,h]⟩
abbrev x7l:qa8:=hspec [] true none [.d qc0,.cap qc0] [.bool] (λx=>0<=x.2.1/\x.2.1<=BIG) (λx=>(!(inB x.1 (0-x.2.1) x.2.1),()))
theorem wh1:Meets Tryz.prog 116 x7l:=by
 refine ql2 (SpecsOk.nil _) (snd (SpecsOk.cons qu4 (SpecsOk.nil _))) Tryz.func116 rfl rfl (λ_ _=>none) (λ_=>by kernel_rfl) dc ?_
 rintro⟨n,k,⟨⟩⟩ h
 revert n k
 intro(n:Int) (k:Int) (h:0<=k/\k<=BIG)
 refine vcs (fits .i64 ((0:Int)-k)/\True/\(!inB n ((0:Int)-k) k)=!inB n ((0:Int)-k) k) ?_
 grind [BIG,qa7]
abbrev y4l:qa8:=ww6 false none [qc0] (λ_=>True) (λx=>.clo 116 (.cons (.imm (.cons (.lit (.int .i64 x.1)) .nil) 0) .nil))
theorem wx8:Meets Tryz.prog 74 y4l:=by
 refine q6s (snd (SpecsOk.nil _)) Tryz.func74 rfl rfl (λ_ _=>none) (λ_=>by kernel_rfl) dc ?_
 rintro⟨m,⟨⟩⟩ -
 revert m
 intro(m:Int)
 refine vcr (((m=m/\True)/\(0:Nat)=(0:Nat))/\True) ?_
 simp
abbrev yf7:qa8:=hspec [] true none [.d qc0,.cap qc0] [.bool] (λx=>0<=x.2.1/\x.2.1<=BIG) (λx=>(!(inB x.1 0 (x.2.1-1)),()))
theorem w8b:Meets Tryz.prog 191 yf7:=by
 refine ql2 (SpecsOk.nil _) (snd (SpecsOk.cons qu4 (SpecsOk.nil _))) Tryz.func191 rfl rfl (λ_ _=>none) (λ_=>by kernel_rfl) dc ?_
 rintro⟨n,k,⟨⟩⟩ h
 revert n k
 intro(n:Int) (k:Int) (h:0<=k/\k<=BIG)
 refine vcs (fits .i64 (k-(1:Int))/\True/\(!inB n (0:Int) (k-(1:Int)))=!inB n (0:Int) (k-(1:Int))) ?_
 grind [BIG,qa7]
def x1f (l:List Int):Bool:=(List.range l.length).all λi=>decide (i=0) || decide (nI l (i-1)<nI l i)
def w5b (n:Int) (l:List Int):Int:=if x1f l=false then 7 else if l.any (λp=>!(inB p 0 (n-1))) then 5 else 0
theorem q4x {l:List Int}:x1f l=true↔∀i,0<i->i<l.length->nI l (i-1)<nI l i:=by
 unfold x1f
 grind
structure AscTo (l:List Int) (k:Nat):Prop where
 le:k<=l.length
 lt:∀i,0<i->i<k->nI l (i-1)<nI l i
theorem AscTo.step {l:List Int} {k:Nat} (h:AscTo l k) (hk:k<l.length) (h1:k=0\/nI l (k-1)<nI l k):AscTo l (k+1):=
 ⟨hk,λi h0 hi=>by
  by_cases e:i=k
  ·grind
  ·exact h.lt i h0 ow⟩
theorem AscTo.all {l:List Int} (h:AscTo l l.length):x1f l=true:=q4x.2 h.lt
theorem x1g {l:List Int} {k:Nat} (h0:0<k) (hk:k<l.length) (h:nI l k<=nI l (k-1)):x1f l=false:=by
 grind [x1f,q4x]
def yw9 (n:Int) (l:List Int):Nat->Option Inv
 | 0=>some (Inv.of [9] 1 (λk:Nat=>[(9,.lit (.int .i64 k))]) (λ_=>[.box 3 (.cons (.lit (.int .i64 n)) .nil)]) (λk=>AscTo l k) (λk=>l.length-k))
 | _=>none
abbrev y4m:qa8:=qd9 true none [qc0,qf1] [qc0] (λx=>(0<=x.1/\x.1<=BIG)/\x.2.1.length<=1000000) (λx=>(w5b x.1 x.2.1,()))
theorem xj0:Meets Tryz.prog 147 y4m:=by
 refine mts (SpecsOk.cons (q1x (fs:=[(191,yf7)]) (SpecsOk.cons w8b (SpecsOk.nil _))) (SpecsOk.nil _)) Tryz.func147 (λx=>yw9 x.1 x.2.1) ?_
 rintro⟨n,l,⟨⟩⟩ h
 revert n l
 intro(n:Int) (l:List Int) (h:(0<=n/\n<=BIG)/\l.length<=1000000)
 refine vcs (∃(v0:Unit),∃(v1:Nat),AscTo l v1/\(((0:Int)=(↑v1:Int)/\True)/\(n=n/\True)/\True)/\∀(v2:Nat),AscTo l v2->(decide ((↑v2:Int)<(↑l.length:Int))=true->((0:Int)<=(↑v2:Int)/\(↑v2:Int)<(↑l.length:Int))/\(decide ((0:Int)<(↑v2:Int))=true->fits .i64 ((↑v2:Int)-(1:Int))/\((0:Int)<=(↑v2:Int)-(1:Int)/\(↑v2:Int)-(1:Int)<(↑l.length:Int))/\(decide (nI l v2<=nI l ((↑v2:Int)-(1:Int)).toNat)=true->(7:Int)=w5b n l)/\(decide (nI l v2<=nI l ((↑v2:Int)-(1:Int)).toNat)=false->fits .i64 ((↑v2:Int)+(1:Int))/\∃(v7:Nat),AscTo l v7/\l.length-v7<l.length-v2/\((↑v2:Int)+(1:Int)=(↑v7:Int)/\True)/\(n=n/\True)/\True))/\(decide ((0:Int)<(↑v2:Int))=false->fits .i64 ((↑v2:Int)+(1:Int))/\∃(v6:Nat),AscTo l v6/\l.length-v6<l.length-v2/\((↑v2:Int)+(1:Int)=(↑v6:Int)/\True)/\(n=n/\True)/\True))/\(decide ((↑v2:Int)<(↑l.length:Int))=false->∃(v5:qa3 [Ty.int .i64]->Prop),∃(v6:qa3 [Ty.int .i64]->Bool),(∀(v7:Int × qa3._f [] PUnit.unit),v5 v7->((0:PTy.den (PTy.cap qc0))<=n/\n<=BIG)/\(!inB v7.1 (0:Int) (n-(1:Int)))=v6 v7)/\(l.length<=(1000000:Nat)/\∀(v7:Nat),v7<l.length->v5 (nI l v7,()))/\((List.any l λ(v8:Int)=>v6 (v8,()))=true->(5:Int)=w5b n l)/\((List.any l λ(v8:Int)=>v6 (v8,()))=false->(0:Int)=w5b n l))) ?_
 obtain⟨hn,hl⟩:=h
 refine⟨(),0,⟨zaf _,λi h0 hi=>by omega⟩,rfl,λk hk=>⟨λhlt=>⟨hlt,λh0=>?_,λh0=>⟨qa7,k+1,hk.step hlt (.inl ow),ow,ow⟩⟩,λhge=>?_⟩⟩
 ·have e:((k:Int)-1).toNat=k-1:=ow
  rw[e]
  refine⟨qa7,ow,λh1=>?_,λh1=>⟨qa7,k+1,hk.step hlt (.inr h1),ow,ow⟩⟩
  unfold w5b
  rw[zam (x1g ow hlt h1)]
 ·obtain rfl:k=l.length:=by have:=hk.le; omega
  refine⟨λ_=>True,λx=>!(inB x.1 0 (n-1)),λx _=>⟨hn,by simp⟩,⟨hl,λ_ _=>trivial⟩,λh1=>?_,λh1=>?_⟩
  ·unfold w5b
   rw[zaj (by simp[hk.all]),zam h1]
  ·unfold w5b
   rw[zaj (by simp[hk.all]),zaj (by grind)]
structure Mk (m:List (List Int)):Prop where
 rows1:1<=m.length
 rows6:m.length<=6
 each:∀i,i<m.length->(nL m i).length=(nL m 0).length
 pix1:1<=(nL m 0).length
 pix10:(nL m 0).length<=10
 small:∀i,i<m.length->∀j,j<(nL m 0).length->-1<=nI (nL m i) j/\nI (nL m i) j<=1
theorem Mk.of {m:List (List Int)} (h:qb6 m=true):Mk m:=by
 unfold qb6 at h
 rw[zax,qh1,zaq] at h
 obtain⟨h1,h2⟩:=h
 have each:∀i,i<m.length->(nL m i).length=(nL m 0).length/\rowB (nL m i)=true:=λi hi=>by
  have:=h2 (nL m i) (by simp_all [nL,qo3,qf1,List.getElem_mem])
  grind
 have hr:∀i,i<m.length->(1<=(nL m i).length/\(nL m i).length<=10)/\∀j,j<(nL m i).length->-1<=nI (nL m i) j/\nI (nL m i) j<=1:=λi hi=>by
  have:=(each i hi).2
  unfold rowB at this
  rw[zax,qh1,zaq] at this
  refine⟨ow,λj hj=>qh1.1 (this.2 _ ?_)⟩
  simp_all [nI,qo3,qc0,List.getElem_mem]
 have h0:=hr 0 ow
 exact⟨ow,ow,λi hi=>(each i hi).1,h0.1.1,h0.1.2,λi hi j hj=>(hr i hi).2 j (by grind)⟩
def w5c (m:List (List Int)) (l:List Int):Int:=if qb6 m=false then 1 else w5b (nL m 0).length l
abbrev y4n:qa8:=qd9 true none [qg1,qf1] [qc0] (λx=>x.2.1.length<=1000000) (λx=>(w5c x.1 x.2.1,()))
theorem xj1:Meets Tryz.prog 105 y4n:=by
 refine mt0 (SpecsOk.cons qx3 (SpecsOk.cons xj0 (SpecsOk.nil _))) Tryz.func105 ?_
 rintro⟨m,l,⟨⟩⟩ h
 revert m l
 intro(m:List (List Int)) (l:List Int) (h:l.length<=1000000)
 refine vcs (True/\((!qb6 m)=true->(1:Int)=w5c m l)/\((!qb6 m)=false->((0:Int)<=(0:Int)/\(0:Int)<(↑m.length:Int))/\(((0:Ty.den qc0)<=(↑(nL m (0:Nat)).length:Int)/\(↑(nL m (0:Nat)).length:Int)<=BIG)/\l.length<=(1000000:Nat))/\w5b (↑(nL m (0:Nat)).length:Int) l=w5c m l)) ?_
 refine⟨λhv=>by grind [w5c],λhv=>?_⟩
 have hM:=Mk.of hv
 have h1:=hM.rows1
 have h2:=hM.pix10
 grind [BIG,w5c]
def wx9 (y:List Int):Bool:=y.any λn=>!(inB n (0-1000000) 1000000)
def qq8 (m:List (List Int)) (y l:List Int):Int:=if qb6 m=false then 1 else if ¬y.length=m.length then 9 else if wx9 y then 7 else w5c m l
abbrev y4o:qa8:=qd9 true none [qg1,qf1,qf1] [qc0] (λx=>x.2.2.1.length<=1000000) (λx=>(qq8 x.1 x.2.1 x.2.2.1,()))
theorem q82:Meets Tryz.prog 59 y4o:=by
 refine mt0 (SpecsOk.cons qx3 (SpecsOk.cons xj1 (SpecsOk.cons wx8 (SpecsOk.cons (q1x (fs:=[(116,x7l)]) (SpecsOk.cons wh1 (SpecsOk.nil _))) (SpecsOk.nil _))))) Tryz.func59 ?_
 rintro⟨m,y,l,⟨⟩⟩ h
 revert m y l
 intro(m:List (List Int)) (y:List Int) (l:List Int) (h:l.length<=1000000)
 refine vcs (True/\((!qb6 m)=true->(1:Int)=qq8 m y l)/\((!qb6 m)=false->(((↑y.length:Int) != (↑m.length:Int))=true->(9:Int)=qq8 m y l)/\(((↑y.length:Int) != (↑m.length:Int))=false->True/\∃(v2:qa3 [Ty.int .i64]->Prop),∃(v3:qa3 [Ty.int .i64]->Bool),(∀(v4:Int × qa3._f [] PUnit.unit),v2 v4->((0:PTy.den (PTy.cap qc0))<=(1000000:Int)/\(1000000:Int)<=BIG)/\(!inB v4.1 ((0:Int)-(1000000:Int)) (1000000:Int))=v3 v4)/\(y.length<=(1000000:Nat)/\∀(v4:Nat),v4<y.length->v2 (nI y v4,()))/\((List.any y λ(v5:Int)=>v3 (v5,()))=true->(7:Int)=qq8 m y l)/\((List.any y λ(v5:Int)=>v3 (v5,()))=false->l.length<=(1000000:Nat)/\w5c m l=qq8 m y l)))) ?_
 refine⟨λhv=>by grind [qq8],λhv=>⟨λhl=>?_,λhl=>?_⟩⟩
 ·grind [qq8]
 have hl:y.length=m.length:=ow
 have hM:=Mk.of hv
 have h1:=hM.rows6
 refine⟨λ_=>True,λx=>!(inB x.1 (0-1000000) 1000000),λx _=>⟨dc,by simp⟩,⟨ow,λ_ _=>trivial⟩,λho=>?_,λho=>⟨h,?_⟩⟩
 all_goals grind [wx9,qq8]
structure x1h (m:List (List Int)):Prop where
 rows:m.length<=9223372036854775807
 each:∀i,i<m.length->(nL m i).length<=9223372036854775807
def yx0 (m:List (List Int)) (y:List Int):Int:=if ¬y.length=m.length then 9 else if wx9 y then 7 else 0
def wc5 (m:List (List Int)) (y:List Int):Int:=if qb6 m=false then 1 else yx0 m y
theorem xj2 (l:List Int) (k:Nat) (hk:k<l.length):l.take (k+1)=l.take k++[nI l k]:=by
 grind [List.take_add_one,List.getElem?_eq_getElem,qf3]
def qp1 (n:Nat):List Int:=(List.range n).map λi:Nat=>(i:Int)
theorem wy0 (n:Nat):qp1 (n+1)=qp1 n++[(n:Int)]:=by simp[qp1,List.range_succ]
theorem qf6 (n:Nat):(qp1 n).length=n:=by simp[qp1]
theorem q31 (n i:Nat) (h:i<n):nI (qp1 n) i=i:=by grind [qf3,qf6,qp1]
abbrev y4p:qa8:=q7d (q1u [qc0]) true (some 3) .none (λx=>x.1<=100000) (λx=>.dat (.int .i64) (qp1 x.1.toNat))
def yx1 (n:Nat):Nat->Option Inv
 | 0=>some (Inv.of [3,6] 1 (λk:Nat=>[(3,.own 0),(6,.lit (.int .i64 k))]) (λk=>[.vec 3 (.int .i64) (qp1 k)]) (λk=>k<=n) (λk=>n-k))
 | _=>none
theorem q83:Meets Tryz.prog 133 y4p:=by
 refine q6r (snd (SpecsOk.nil _)) Tryz.func133 rfl rfl (qm5 [qc0]) (λx=>yx1 x.1.toNat) (λ_=>by kernel_rfl) dc ?_
 rintro⟨n,⟨⟩⟩ h
 revert n
 intro(n:Int) (h:n<=100000)
 refine vcs (∃(v0:Unit),∃(v1:Nat),Nat.le v1 n.toNat/\((True/\(0:Int)=(↑v1:Int)/\True)/\qp1 v1=[]/\True)/\∀(v2:Nat),Nat.le v2 n.toNat->(decide ((↑v2:Int)<n)=true->((0:Nat)<List.length [(↑v2:Int)]/\Nat.le ((qp1 v2).length+List.length [(↑v2:Int)]) (1000000:Nat))/\fits .i64 ((↑v2:Int)+(1:Int))/\∃(v5:Nat),Nat.le v5 n.toNat/\n.toNat-v5<n.toNat-v2/\(True/\(↑v2:Int)+(1:Int)=(↑v5:Int)/\True)/\qp1 v2++[(↑v2:Int)]=qp1 v5/\True)/\(decide ((↑v2:Int)<n)=false->qp1 v2=qp1 n.toNat)) ?_
 refine⟨(),0,zaf _,⟨rfl,rfl⟩,λk hk=>⟨λhlt=>⟨by grind [qf6],qa7,k+1,ow,ow,ow,(wy0 k).symm⟩,λhge=>?_⟩⟩
 grind
abbrev x7m:qa8:=qd9 true none [qc0] [qf1] (λ_=>True) (λ_=>([],()))
theorem wh2:Meets Tryz.prog 202 x7m:=by
 refine mt0 (SpecsOk.nil _) Tryz.func202 ?_
 rintro⟨n,⟨⟩⟩ -
 revert n
 intro(n:Int)
 exact vct (yb2 Int)
abbrev yf8:qa8:=hspec [] true none [.d qc0,.cap qf1] [qf1] (λx=>0<=x.1/\x.1<x.2.1.length) (λx=>([nI x.2.1 x.1.toNat],()))
theorem w8c:Meets Tryz.prog 264 yf8:=by
 refine ql2 (SpecsOk.nil _) (y3f [8] (SpecsOk.nil _)) Tryz.func264 rfl rfl (λ_ _=>none) (λ_=>by kernel_rfl) dc ?_
 rintro⟨n,y,⟨⟩⟩ h
 revert n y
 intro(n:Int) (y:List Int) (h:0<=n/\n<y.length)
 refine vcs (((0:Int)<=n/\n<(↑y.length:Int))/\[nI y n.toNat]=[nI y n.toNat]) ?_
 exact h
def qx5 (r pix:List Int):List Int:=pix.map λp=>nI r p.toNat
def qb3 (m:List (List Int)) (pix:List Int) (f:Int->List Int):List (List Int):=(List.range m.length).map λi=>qx5 (nL m i) pix++f i
structure ChoOk (m:List (List Int)) (pix:List Int) (p:qa3 [.int .i64]->Prop) (f:qa3 [.int .i64]->List Int):Prop where
 rows:m.length<=10000
 cols:pix.length<=10000
 at_:∀i,i<m.length->∀j,j<pix.length->0<=nI pix j/\nI pix j<(nL m i).length
 fn:∀i:Nat,i<m.length->p ((i:Int),())/\(f ((i:Int),())).length<=10000
theorem ql7 (r pix:List Int):(qx5 r pix).length=pix.length:=by simp[qx5]
theorem qq9 (r pix:List Int) (j:Nat) (hj:j<pix.length):nI (qx5 r pix) j=nI r (nI pix j).toNat:=by
 grind [qf3,ql7,qx5]
theorem qr9 (m:List (List Int)) (pix:List Int) (f:Int->List Int):(qb3 m pix f).length=m.length:=by simp[qb3]
theorem w8d (m:List (List Int)) (pix:List Int) (f:Int->List Int) (i:Nat) (hi:i<m.length):nL (qb3 m pix f) i=qx5 (nL m i) pix++f i:=by
 grind [ql6,qr9,qb3]
theorem q2u (m:List (List Int)) (k:Nat) (hk:k<m.length):m.take (k+1)=m.take k++[nL m k]:=by
 grind [List.take_add_one,List.getElem?_eq_getElem,ql6]
abbrev y4q (fs:List (Nat × qa8)):qa8:=q7d (ww8 fs [.d qg1,.d qf1,.fn [qc0] qf1]) true (some 24) (some 3) (λx=>ChoOk x.1 x.2.1 x.2.2.1.1 x.2.2.1.2) (λx=>.dat (.list (.int .i64)) (qb3 x.1 x.2.1 λi=>x.2.2.1.2 (i,())))
def yx2 (m:List (List Int)) (pix:List Int) (f:Int->List Int):Nat->Option Inv
 | 0=>some (Inv.of [7,15] 1 (λk:Nat=>[(7,.msl 0 .none),(15,.lit (.int .i64 k))]) (λk=>[.mat 24 3 (.int .i64) ((qb3 m pix f).take k) .none .none]) (λk=>k<=m.length) (λk=>m.length-k))
 | 1=>some (Eng.Inv.mk Nat Nat [7,10,22] 2 (λ_ j=>[(7,.msl 0 .none),(10,.own 1),(22,.lit (.int .i64 j))]) (λk j=>[.mat 24 3 (.int .i64) ((qb3 m pix f).take k) .none .none,.vec 3 (.int .i64) ((qx5 (nL m k) pix).take j)]) (λ_ j=>j<=pix.length) (λ_ j=>pix.length-j))
 | _=>none
theorem q84 {fs:List (Nat × qa8)} (hfs:SpecsOk Tryz.prog fs):Meets Tryz.prog 144 (y4q fs):=by
 refine q6r (yw4 [40] [39] (SpecsOk.nil _)) Tryz.func144 rfl rfl (q4u hfs [.d qg1,.d qf1,.fn [qc0] qf1]) (λx=>yx2 x.1 x.2.1 λi=>x.2.2.1.2 (i,())) (λ_=>by kernel_rfl) (show 3<=_ by decide) ?_
 rintro⟨m,pix,⟨p,f⟩,⟨⟩⟩ h
 revert m pix p f
 intro(m:List (List Int)) (pix:List Int) (p:qa3 [.int .i64]->Prop) (f:qa3 [.int .i64]->List Int) (h:ChoOk m pix p f)
 refine vcs (∃(v0:Unit),∃(v1:Nat),Nat.le v1 m.length/\((True/\(0:Int)=(↑v1:Int)/\True)/\List.take v1 (qb3 m pix λ(v2:Int)=>f (v2,()))=[]/\True)/\∀(v2:Nat),Nat.le v2 m.length->(decide ((↑v2:Int)<(↑m.length:Int))=true->((0:Int)<=(↑v2:Int)/\(↑v2:Int)<(↑m.length:Int))/\∃(v5:Nat),∃(v6:Nat),Nat.le v6 pix.length/\((True/\True/\(0:Int)=(↑v6:Int)/\True)/\(List.take v2 (qb3 m pix λ(v7:Int)=>f (v7,()))=List.take v5 (qb3 m pix λ(v7:Int)=>f (v7,()))/\True/\True)/\List.take v6 (qx5 (nL m v5) pix)=[]/\True)/\∀(v7:Nat),Nat.le v7 pix.length->(decide ((↑v7:Int)<(↑pix.length:Int))=true->((0:Int)<=(↑v7:Int)/\(↑v7:Int)<(↑pix.length:Int))/\((0:Int)<=nI pix v7/\nI pix v7<(↑(nL m v2).length:Int))/\((0:Nat)<List.length [nI (nL m v2) (nI pix v7).toNat]/\Nat.le ((List.take v7 (qx5 (nL m v5) pix)).length+List.length [nI (nL m v2) (nI pix v7).toNat]) (1000000:Nat))/\fits .i64 ((↑v7:Int)+(1:Int))/\∃(v10:Nat),Nat.le v10 pix.length/\pix.length-v10<pix.length-v7/\(True/\True/\(↑v7:Int)+(1:Int)=(↑v10:Int)/\True)/\(List.take v5 (qb3 m pix λ(v11:Int)=>f (v11,()))=List.take v5 (qb3 m pix λ(v11:Int)=>f (v11,()))/\True/\True)/\List.take v7 (qx5 (nL m v5) pix)++[nI (nL m v2) (nI pix v7).toNat]=List.take v10 (qx5 (nL m v5) pix)/\True)/\(decide ((↑v7:Int)<(↑pix.length:Int))=false->p ((↑v2:Int),())/\Nat.le ((List.take v7 (qx5 (nL m v5) pix)).length+(f ((↑v2:Int),())).length) (1000000:Nat)/\((0:Nat)<(0:Nat)+(1:Nat)/\(List.take v5 (qb3 m pix λ(v10:Int)=>f (v10,()))).length+((0:Nat)+(1:Nat))<=(1000000:Nat))/\fits .i64 ((↑v2:Int)+(1:Int))/\∃(v10:Nat),Nat.le v10 m.length/\m.length-v10<m.length-v2/\(True/\(↑v2:Int)+(1:Int)=(↑v10:Int)/\True)/\(List.take v5 (qb3 m pix λ(v11:Int)=>f (v11,()))++[List.take v7 (qx5 (nL m v5) pix)++f ((↑v2:Int),())]=List.take v10 (qb3 m pix λ(v11:Int)=>f (v11,()))/\True/\True)/\True))/\(decide ((↑v2:Int)<(↑m.length:Int))=false->List.take v2 (qb3 m pix λ(v5:Int)=>f (v5,()))=qb3 m pix λ(v5:Int)=>f (v5,()))) ?_
 have hr:=h.rows
 have hc:=h.cols
 have hl:=qr9 m pix λi=>f (i,())
 refine⟨(),0,zaf _,⟨rfl,rfl⟩,λk hk=>⟨λhlt=>⟨hlt,k,0,zaf _,⟨rfl,rfl,rfl⟩,λj hj=>⟨λhj2=>?_,λhj2=>?_⟩⟩,λhge=>?_⟩⟩
 ·have h1:=ql7 (nL m k) pix
  refine⟨hj2,h.at_ k hlt j hj2,by grind,qa7,j+1,ow,ow,ow,?_⟩
  grind [xj2,qq9]
 ·obtain rfl:j=pix.length:=ow
  have h1:=ql7 (nL m k) pix
  have h2:=h.fn k hlt
  have h3:(qx5 (nL m k) pix).take pix.length=qx5 (nL m k) pix:=zcr ow
  rw[h3]
  refine⟨h2.1,ow,by grind,qa7,k+1,ow,ow,ow,?_⟩
  grind [q2u,w8d]
 grind
abbrev yf9:qa8:=hspec [] true none [.d qf1,.cap qc0] [.bool] (λx=>0<=x.2.1/\x.2.1<x.1.length) (λx=>(nI x.1 x.2.1.toNat != 0,()))
theorem w8e:Meets Tryz.prog 189 yf9:=by
 refine ql2 (SpecsOk.nil _) (snd (SpecsOk.nil _)) Tryz.func189 rfl rfl (λ_ _=>none) (λ_=>by kernel_rfl) dc ?_
 rintro⟨l,j,⟨⟩⟩ h
 revert l j
 intro(l:List Int) (j:Int) (h:0<=j/\j<l.length)
 refine vcs (((0:Int)<=j/\j<(↑l.length:Int))/\(nI l j.toNat != (0:Int))=(nI l j.toNat != (0:Int))) ?_
 exact h
def qu5 (rows:List (List Int)) (k j:Nat):Int:=ixT (.list (.int .i64)) (λr=>nI r j != 0) (rows.drop k)
def wy1 (rows:List (List Int)) (a b:Nat):List (List Int):=(rows.set a (nL rows b)).set b (nL rows a)
def x1i (r:List Int):List Int:=(List.range r.length).map λi=>0-nI r i
def q2v (rows:List (List Int)) (k j:Nat):List (List Int):=wy1 rows k (k+(qu5 rows k j).toNat)
def qi7 (rows:List (List Int)) (k j:Nat):List (List Int):=if nI (nL (q2v rows k j) k) j<0 then(q2v rows k j).set k (x1i (nL (q2v rows k j) k)) else q2v rows k j
def ws5 (rows:List (List Int)) (k j i:Nat):List Int:=if i≠k/\nI (nL rows i) j≠0 then qy7 (nL rows i) (nL rows k) j else nL rows i
def xx9 (rows:List (List Int)) (k j:Nat):List (List Int):=(List.range rows.length).map (ws5 rows k j)
def qx6 (s:List (List Int) × List Int) (j:Nat):List (List Int) × List Int:=if qu5 s.1 s.2.length j<0 then s else(xx9 (qi7 s.1 s.2.length j) s.2.length j,s.2++[(j:Int)])
def qb5 (rows:List (List Int)):Nat->List (List Int) × List Int
 | 0=>(rows,[])
 | j+1=>qx6 (qb5 rows j) j
structure x46 (rows:List (List Int)) (k j:Nat):Prop where
 neg:∀x∈nL (q2v rows k j) k,qe5 BIG x
 clr:∀i,i<rows.length->i≠k->nI (nL (qi7 rows k j) i) j≠0->wx3 (nL (qi7 rows k j) i) (nL (qi7 rows k j) k) j
structure q5v (rows:List (List Int)) (cols W:Nat):Prop where
 n:rows.length<=1000
 w:W<=1000
 cw:cols<=W
 each:∀i,i<rows.length->(nL rows i).length=W
 step:∀j,j<cols->0<=qu5 (qb5 rows j).1 (qb5 rows j).2.length j->x46 (qb5 rows j).1 (qb5 rows j).2.length j
abbrev y4r:qm2:=q7e (q1u [qc0]) true false 24 3 (.int .i64) (λrows x=>0<=x.1/\∃W,q5v rows x.1.toNat W) (λrows x=>.dat (.int .i64) (qb5 rows x.1.toNat).2) (λrows x=>(qb5 rows x.1.toNat).1)
def x47:List AObj:=[.dead,.dead,.dead,.dead,.dead,.dead,.dead,.dead,.dead,.dead,.dead,.dead,.dead,.dead,.dead,.dead,.dead,.dead,.dead,.dead,.dead,.dead,.dead,.dead,.dead,.dead,.dead,.dead]
structure x1j (rows:List (List Int)) (k i:Nat) (r:List (List Int)):Prop where
 le:i<=(nL rows k).length
 eq:r=rows.set k (ovr (.int .i64) (λq=>0-nI (nL rows k) q) (nL rows k) i)
structure q85 (rows:List (List Int)) (k j i:Nat) (r:List (List Int)):Prop where
 le:i<=rows.length
 eq:r=ovr (.list (.int .i64)) (ws5 rows k j) rows i
structure w8f (R:List (List Int)) (c j:Nat) (r:List (List Int)) (p:List Int):Prop where
 le:j<=c
 eq:qb5 R j=(r,p)
def yx3 (T:q67) (R:List (List Int)) (c:Nat):Nat->Option Inv
 | 0=>some (Inv.of [0,5,13] 2 (λs:Nat × List (List Int) × List Int=>[(0,.msl 0 .none),(5,.own 1),(13,.lit (.int .i64 s.1))]) (λs=>[.mat 24 3 (.int .i64) s.2.1 .none (some T),.vec 3 (.int .i64) s.2.2]) (λs=>w8f R c s.1 s.2.1 s.2.2) (λs=>c-s.1))
 | 1=>some (Eng.Inv.mk (Nat × Nat × List (List Int) × List Int) (Nat × List (List Int)) [0,5,56] 31 (λ_ s=>[(0,.msl 0 .none),(5,.own 1),(56,.lit (.int .i64 s.1))]) (λq s=>.mat 24 3 (.int .i64) s.2 .none (some T) :: .vec 3 (.int .i64) q.2.2.2 :: .box 3 (.cons (.lit (.int .i64 q.1)) .nil) :: x47) (λq s=>x1j q.2.2.1 q.2.1 s.1 s.2) (λq s=>(nL q.2.2.1 q.2.1).length-s.1))
 | 2=>some (Eng.Inv.mk (Nat × Nat × List (List Int) × List Int) (Nat × List (List Int)) [0,5,74,76] 31 (λ_ s=>[(0,.msl 0 .none),(5,.own 1),(74,.msl 0 .none),(76,.lit (.int .i64 s.1))]) (λq s=>.mat 24 3 (.int .i64) s.2 .none (some T) :: .vec 3 (.int .i64) q.2.2.2 :: .box 3 (.cons (.lit (.int .i64 q.1)) .nil) :: x47) (λq s=>q85 q.2.2.1 q.2.1 q.1 s.1 s.2) (λq s=>q.2.2.1.length-s.1))
 | _=>none
theorem q5w (n:Nat):qe1 n none=n:=rfl
theorem w8g (n:Nat) (l:List Nat):qe1 n (some l)=l.length:=rfl
theorem x1k (n:Nat):ixL n none=List.range n:=rfl
theorem x1l (n:Nat) (l:List Nat):ixL n (some l)=l:=rfl
theorem q86 (i:Nat):qe8 none i=i:=rfl
theorem xj3 (l:List Nat) (i:Nat):qe8 (some l) i=l.getD i 0:=rfl
theorem wy2 (r:List (List Int)):q3l (.int .i64) r none=r:=rfl
theorem xj4 (r:List (List Int)) (l:List Nat):q3l (.int .i64) r (some l)=l.map λp=>nL r p:=rfl
theorem x1m (n k b:Nat) (hk:k<n) (hb:b<n):(((List.range n).set k b).set b k).getD k 0=b:=by
 grind
theorem xj5 (n k b:Nat) (hk:k<n) (hb:b<n):(((List.range n).set k b).set b k).Nodup:=by
 grind
theorem x7n (r:List (List Int)) (k b:Nat) (hk:k<r.length) (hb:b<r.length):((((List.range r.length).set k b).set b k).map λp=>nL r p)=wy1 r k b:=by
 apply zbl (by simp[wy1])
 grind [wy1,ql6]
theorem wy3 (r:List (List Int)) (k b:Nat):(wy1 r k b).length=r.length:=by simp[wy1]
theorem q4y (r:List (List Int)) (k b:Nat) (hk:k<r.length) (hb:b<r.length) (i:Nat) (hi:i<r.length):nL (wy1 r k b) i=if i=b then nL r k else if i=k then nL r b else nL r i:=by
 rw[ql6 _ i (by grind [wy3])]
 simp only[wy1,List.getElem_set]
 by_cases e:b=i
 ·grind
 ·rw[zaj e,zaj (zds e)]
  by_cases e2:k=i
  all_goals simp_all [if_pos,if_neg,Ne.symm,ql6]
theorem wh3 (l:List Int):(qe4 l).length=l.length:=by grind [qe4]
theorem wh4 (r b:List Int) (c:Nat):(qy7 r b c).length=r.length:=by grind [qy7,wh3,q2t]
theorem wo1 (r:List Int):(x1i r).length=r.length:=by simp[x1i]
theorem wo2 (r:List (List Int)) (k j:Nat):(q2v r k j).length=r.length:=wy3 _ _ _
theorem ql8 (r:List (List Int)) (k j:Nat):(qi7 r k j).length=r.length:=by
 grind [qi7,List.length_set,wo2]
theorem xj6 (r:List (List Int)) (k:Nat) (x:List Int) (i:Nat) (hi:i<r.length):nL (r.set k x) i=if i=k then x else nL r i:=by
 rw[ql6 _ i (by grind),zc4]
 by_cases e:k=i
 all_goals simp_all [if_pos,if_neg,Ne.symm,ql6]
theorem q2w (r:List (List Int)) (k j:Nat) (hk:k<=r.length) (h:0<=qu5 r k j):k+(qu5 r k j).toNat<r.length:=by
 have:=(x42 (.list (.int .i64)) (λr=>nI r j != 0) (r.drop k)).1
 grind [qu5,List.length_drop]
theorem q40 (r:List (List Int)) (k j i:Nat) (hi:i<r.length):nL (qi7 r k j) i=if i=k/\nI (nL (q2v r k j) k) j<0 then x1i (nL (q2v r k j) k) else nL (q2v r k j) i:=by
 unfold qi7
 split
 all_goals simp_all [xj6,wo2,if_pos,if_neg]
theorem wo3 (r:List (List Int)) (k j:Nat):(xx9 r k j).length=r.length:=by simp[xx9]
theorem xj7 (r:List (List Int)) (k j i:Nat) (hi:i<r.length):nL (xx9 r k j) i=ws5 r k j i:=by
 grind [ql6,wo3,xx9]
structure RedSh (n W:Nat) (s:List (List Int) × List Int) (j:Nat):Prop where
 cnt:s.1.length=n
 each:∀i,i<n->(nL s.1 i).length=W
 piv:s.2.length<=n
 pivj:s.2.length<=j
theorem q87 {r:List (List Int)} {k j W:Nat} (hk:k<=r.length) (h:0<=qu5 r k j) (he:∀i,i<r.length->(nL r i).length=W):∀i,i<r.length->(nL (q2v r k j) i).length=W:=λi hi=>by
 grind [q2w,q2v,q4y]
theorem q2x {r:List (List Int)} {k j W:Nat} (hk:k<=r.length) (h:0<=qu5 r k j) (he:∀i,i<r.length->(nL r i).length=W):∀i,i<r.length->(nL (qi7 r k j) i).length=W:=λi hi=>by
 have hb:=q2w r k j hk h
 have h1:=q87 hk h he
 grind [q40,wo1]
theorem RedSh.step {n W j:Nat} {s:List (List Int) × List Int} (h:RedSh n W s j):RedSh n W (qx6 s j) (j+1):=by
 unfold qx6
 split
 ·exact⟨h.cnt,h.each,h.piv,by have:=h.pivj; omega⟩
 ·rename_i hp
  have hp:0<=qu5 s.1 s.2.length j:=ow
  have hn:=h.cnt
  have hb:=q2w s.1 s.2.length j (by rw[hn]; exact h.piv) hp
  have he:=q2x (W:=W) ow hp (λi hi=>h.each i ow)
  refine⟨by grind [wo3,ql8],λi hi=>?_,?_,?_⟩
  ·grind [xj7,ql8,ws5,wh4]
  ·grind
  ·rw[zaw]; have:=h.pivj; grind
theorem q2y {R:List (List Int)} {c W:Nat} (h:q5v R c W):∀j,RedSh R.length W (qb5 R j) j
 | 0=>⟨rfl,h.each,zaf _,zac _⟩
 | j+1=>(q2y h j).step
theorem q41 (r:List (List Int)) (k j:Nat):ws5 r k j k=nL r k:=by unfold ws5; simp
theorem q7w (t:Ty) (g:Nat->t.den) (l:List t.den) (k:Nat) (h:k<l.length->g k=qf0 t l k):ovr t g l k=ovr t g l (k+1):=by
 unfold ovr
 apply zco
 grind
theorem q88:qq3 Tryz.prog 146 y4r:=by
 refine q1w (yw6 [17,22] (SpecsOk.cons (wx5 (fs:=[(189,yf9)]) (SpecsOk.cons w8e (SpecsOk.nil _))) (SpecsOk.nil _)) (MutsOk.cons w2j MutsOk.nil)) Tryz.func146 rfl rfl (qm5 [qc0]) (λT rows x=>yx3 T rows x.1.toNat) (λ_ _ _=>by kernel_rfl) dc ?_ rfl
 rintro T rows ⟨c,⟨⟩⟩ h -
 revert rows c
 intro(rows:List (List Int)) (c:Int) (h:0<=c/\∃W,q5v rows c.toNat W)
 refine vcs (let Q0:=List Int; let Q1:=qm2.t x4z; ∃(v0:Unit),∃(v1:Nat × List Q0 × List Int),w8f rows c.toNat v1.1 v1.2.1 v1.2.2/\((True/\True/\(0:Int)=(↑v1.1:Int)/\True)/\(rows=v1.2.1/\True/\T=T)/\v1.2.2=[]/\True)/\∀(v2:Nat × List Q0 × List Int),w8f rows c.toNat v2.1 v2.2.1 v2.2.2->(decide ((↑v2.1:Int)<c)=true->∀(v5:Int),v5=(↑v2.2.2.length:Int)->((0:Int)<=v5/\v5<=(↑(qe1 v2.2.1.length none):Int)/\(↑(qe1 v2.2.1.length none):Int)<=(↑(qe1 v2.2.1.length none):Int))/\∃(v7:qa3 [Ty.list (Ty.int .i64)]->Prop),∃(v8:qa3 [Ty.list (Ty.int .i64)]->Bool),(∀(v9:List Int × qa3._f [] PUnit.unit),v7 v9->((0:PTy.den (PTy.cap qc0))<=(↑v2.1:Int)/\(↑v2.1:Int)<(↑v9.1.length:PTy.den (PTy.cap qc0)))/\(nI v9.1 (↑v2.1:Int).toNat != (0:Int))=v8 v9)/\((List.drop v5.toNat (List.take (↑(qe1 v2.2.1.length none):Int).toNat (q3l (Ty.int .i64) v2.2.1 none))).length<=(1000000:Nat)/\∀(v9:Nat),v9<(List.drop v5.toNat (List.take (↑(qe1 v2.2.1.length none):Int).toNat (q3l (Ty.int .i64) v2.2.1 none))).length->v7 (nL (List.drop v5.toNat (List.take (↑(qe1 v2.2.1.length none):Int).toNat (q3l (Ty.int .i64) v2.2.1 none))) v9,()))/\∀(v9:Int),v9=ixT (Ty.list (Ty.int .i64)) (λ(v11:List Int)=>v8 (v11,())) (List.drop v5.toNat (List.take (↑(qe1 v2.2.1.length none):Int).toNat (q3l (Ty.int .i64) v2.2.1 none)))->(decide (v9<(0:Int))=true->fits .i64 ((↑v2.1:Int)+(1:Int))/\∃(v12:Nat × List Q0 × List Int),w8f rows c.toNat v12.1 v12.2.1 v12.2.2/\c.toNat-v12.1<c.toNat-v2.1/\(True/\True/\(↑v2.1:Int)+(1:Int)=(↑v12.1:Int)/\True)/\(v2.2.1=v12.2.1/\True/\T=T)/\v2.2.2=v12.2.2/\True)/\(decide (v9<(0:Int))=false->fits .i64 (v5+v9)/\fits .i64 (v5+v9)/\((0:Int)<=v5+v9/\v5+v9<(↑(qe1 v2.2.1.length none):Int))/\(v5+v9).toNat<qe1 v2.2.1.length none/\((0:Int)<=v5/\v5<(↑(qe1 v2.2.1.length none):Int))/\v5.toNat<qe1 v2.2.1.length none/\((0:Int)<=v5/\v5<(↑(qe1 v2.2.1.length none):Int))/\v5.toNat<qe1 v2.2.1.length none/\((0:Int)<=v5+v9/\v5+v9<(↑(qe1 v2.2.1.length (some (List.set (ixL v2.2.1.length none) v5.toNat (qe8 none (v5+v9).toNat)))):Int))/\(v5+v9).toNat<qe1 v2.2.1.length (some (List.set (ixL v2.2.1.length none) v5.toNat (qe8 none (v5+v9).toNat)))/\((0:Int)<=v5/\v5<(↑(qe1 v2.2.1.length (some (List.set (ixL v2.2.1.length (some (List.set (ixL v2.2.1.length none) v5.toNat (qe8 none (v5+v9).toNat)))) (v5+v9).toNat (qe8 none v5.toNat)))):Int))/\v5.toNat<qe1 v2.2.1.length (some (List.set (ixL v2.2.1.length (some (List.set (ixL v2.2.1.length none) v5.toNat (qe8 none (v5+v9).toNat)))) (v5+v9).toNat (qe8 none v5.toNat)))/\((0:Int)<=(↑v2.1:Int)/\(↑v2.1:Int)<(↑(nL v2.2.1 (qe8 (some (List.set (ixL v2.2.1.length (some (List.set (ixL v2.2.1.length none) v5.toNat (qe8 none (v5+v9).toNat)))) (v5+v9).toNat (qe8 none v5.toNat))) v5.toNat)).length:Int))/\(↑v2.1:Int).toNat<(nL v2.2.1 (qe8 (some (List.set (ixL v2.2.1.length (some (List.set (ixL v2.2.1.length none) v5.toNat (qe8 none (v5+v9).toNat)))) (v5+v9).toNat (qe8 none v5.toNat))) v5.toNat)).length/\(decide (nI (nL v2.2.1 (qe8 (some (List.set (ixL v2.2.1.length (some (List.set (ixL v2.2.1.length none) v5.toNat (qe8 none (v5+v9).toNat)))) (v5+v9).toNat (qe8 none v5.toNat))) v5.toNat)) (↑v2.1:Int).toNat<(0:Int))=true->((0:Int)<=v5/\v5<(↑(qe1 v2.2.1.length (some (List.set (ixL v2.2.1.length (some (List.set (ixL v2.2.1.length none) v5.toNat (qe8 none (v5+v9).toNat)))) (v5+v9).toNat (qe8 none v5.toNat)))):Int))/\v5.toNat<qe1 v2.2.1.length (some (List.set (ixL v2.2.1.length (some (List.set (ixL v2.2.1.length none) v5.toNat (qe8 none (v5+v9).toNat)))) (v5+v9).toNat (qe8 none v5.toNat)))/\∃(v13:Nat × Nat × List Q0 × List Int),∃(v14:Nat × List Q0),x1j v13.2.2.1 v13.2.1 v14.1 v14.2/\(List.Nodup (List.set (ixL v2.2.1.length (some (List.set (ixL v2.2.1.length none) v5.toNat (qe8 none (v5+v9).toNat)))) (v5+v9).toNat (qe8 none v5.toNat))/\(List.set (ixL v2.2.1.length (some (List.set (ixL v2.2.1.length none) v5.toNat (qe8 none (v5+v9).toNat)))) (v5+v9).toNat (qe8 none v5.toNat)).length=v2.2.1.length)/\((True/\True/\(0:Int)=(↑v14.1:Int)/\True)/\(q3l (Ty.int .i64) v2.2.1 (some (List.set (ixL v2.2.1.length (some (List.set (ixL v2.2.1.length none) v5.toNat (qe8 none (v5+v9).toNat)))) (v5+v9).toNat (qe8 none v5.toNat)))=v14.2/\True/\T=T)/\v2.2.2=v13.2.2.2/\((↑v2.1:Int)=(↑v13.1:Int)/\True)/\True/\True/\True/\True/\True/\True/\True/\True/\True/\True/\True/\True/\True/\True/\True/\True/\True/\True/\True/\True/\True/\True/\True/\True/\True/\True/\True/\True/\True)/\∀(v15:Nat × List Q0),x1j v13.2.2.1 v13.2.1 v15.1 v15.2->(decide ((↑v15.1:Int)<(↑(nL v2.2.1 (qe8 (some (List.set (ixL v2.2.1.length (some (List.set (ixL v2.2.1.length none) v5.toNat (qe8 none (v5+v9).toNat)))) (v5+v9).toNat (qe8 none v5.toNat))) v5.toNat)).length:Int))=true->((0:Int)<=v5/\v5<(↑(qe1 v15.2.length none):Int))/\v5.toNat<qe1 v15.2.length none/\((0:Int)<=v5/\v5<(↑(qe1 v15.2.length none):Int))/\v5.toNat<qe1 v15.2.length none/\((0:Int)<=(↑v15.1:Int)/\(↑v15.1:Int)<(↑(nL v15.2 (qe8 none v5.toNat)).length:Int))/\(↑v15.1:Int).toNat<(nL v15.2 (qe8 none v5.toNat)).length/\fits .i64 ((0:Int)-nI (nL v15.2 (qe8 none v5.toNat)) (↑v15.1:Int).toNat)/\((0:Int)<=(↑v15.1:Int)/\(↑v15.1:Int)<(↑(nL v15.2 (qe8 none v5.toNat)).length:Int))/\(↑v15.1:Int).toNat<(nL v15.2 (qe8 none v5.toNat)).length/\fits .i64 ((↑v15.1:Int)+(1:Int))/\∃(v18:Nat × List Q0),x1j v13.2.2.1 v13.2.1 v18.1 v18.2/\(nL v13.2.2.1 v13.2.1).length-v18.1<(nL v13.2.2.1 v13.2.1).length-v15.1/\(True/\True/\(↑v15.1:Int)+(1:Int)=(↑v18.1:Int)/\True)/\(List.set v15.2 (qe8 none v5.toNat) (List.set (nL v15.2 (qe8 none v5.toNat)) (↑v15.1:Int).toNat ((0:Int)-nI (nL v15.2 (qe8 none v5.toNat)) (↑v15.1:Int).toNat))=v18.2/\True/\T=T)/\v13.2.2.2=v13.2.2.2/\((↑v13.1:Int)=(↑v13.1:Int)/\True)/\True/\True/\True/\True/\True/\True/\True/\True/\True/\True/\True/\True/\True/\True/\True/\True/\True/\True/\True/\True/\True/\True/\True/\True/\True/\True/\True/\True/\True)/\(decide ((↑v15.1:Int)<(↑(nL v2.2.1 (qe8 (some (List.set (ixL v2.2.1.length (some (List.set (ixL v2.2.1.length none) v5.toNat (qe8 none (v5+v9).toNat)))) (v5+v9).toNat (qe8 none v5.toNat))) v5.toNat)).length:Int))=false->∃(v18:Nat × Nat × List Q0 × List Int),∃(v19:Nat × List Q0),q85 v18.2.2.1 v18.2.1 v18.1 v19.1 v19.2/\((True/\True/\True/\(0:Int)=(↑v19.1:Int)/\True)/\(v15.2=v19.2/\True/\T=T)/\v13.2.2.2=v18.2.2.2/\((↑v13.1:Int)=(↑v18.1:Int)/\True)/\True/\True/\True/\True/\True/\True/\True/\True/\True/\True/\True/\True/\True/\True/\True/\True/\True/\True/\True/\True/\True/\True/\True/\True/\True/\True/\True/\True/\True)/\∀(v20:Nat × List Q0),q85 v18.2.2.1 v18.2.1 v18.1 v20.1 v20.2->(decide ((↑v20.1:Int)<(↑(qe1 v15.2.length none):Int))=true->((0:Int)<=(↑v20.1:Int)/\(↑v20.1:Int)<(↑(qe1 v20.2.length none):Int))/\(↑v20.1:Int).toNat<qe1 v20.2.length none/\(((↑v20.1:Int) != v5)=true->((0:Int)<=(↑v18.1:Int)/\(↑v18.1:Int)<(↑(nL v20.2 (qe8 none (↑v20.1:Int).toNat)).length:Int))/\(↑v18.1:Int).toNat<(nL v20.2 (qe8 none (↑v20.1:Int).toNat)).length/\((nI (nL v20.2 (qe8 none (↑v20.1:Int).toNat)) (↑v18.1:Int).toNat != (0:Int))=true->((0:Int)<=v5/\v5<(↑(qe1 v20.2.length none):Int))/\v5.toNat<qe1 v20.2.length none/\qe8 none v5.toNat≠qe8 none (↑v20.1:Int).toNat/\((0:Ty.den qc0)<=(↑v18.1:Int)/\wx3 (nL [qf0 (Ty.list Q1) v20.2 (qe8 none (↑v20.1:Int).toNat)] (0:Nat)) (nL v20.2 (qe8 none v5.toNat)) (↑v18.1:Int).toNat)/\fits .i64 ((↑v20.1:Int)+(1:Int))/\∃(v25:Nat × List Q0),q85 v18.2.2.1 v18.2.1 v18.1 v25.1 v25.2/\v18.2.2.1.length-v25.1<v18.2.2.1.length-v20.1/\(True/\True/\True/\(↑v20.1:Int)+(1:Int)=(↑v25.1:Int)/\True)/\(List.set v20.2 (qe8 none (↑v20.1:Int).toNat) (qf0 (Ty.list Q1) [qy7 (nL [qf0 (Ty.list Q1) v20.2 (qe8 none (↑v20.1:Int).toNat)] (0:Nat)) (nL v20.2 (qe8 none v5.toNat)) (↑v18.1:Int).toNat] (0:Nat))=v25.2/\True/\T=T)/\v18.2.2.2=v18.2.2.2/\((↑v18.1:Int)=(↑v18.1:Int)/\True)/\True/\True/\True/\True/\True/\True/\True/\True/\True/\True/\True/\True/\True/\True/\True/\True/\True/\True/\True/\True/\True/\True/\True/\True/\True/\True/\True/\True/\True)/\((nI (nL v20.2 (qe8 none (↑v20.1:Int).toNat)) (↑v18.1:Int).toNat != (0:Int))=false->fits .i64 ((↑v20.1:Int)+(1:Int))/\∃(v25:Nat × List Q0),q85 v18.2.2.1 v18.2.1 v18.1 v25.1 v25.2/\v18.2.2.1.length-v25.1<v18.2.2.1.length-v20.1/\(True/\True/\True/\(↑v20.1:Int)+(1:Int)=(↑v25.1:Int)/\True)/\(v20.2=v25.2/\True/\T=T)/\v18.2.2.2=v18.2.2.2/\((↑v18.1:Int)=(↑v18.1:Int)/\True)/\True/\True/\True/\True/\True/\True/\True/\True/\True/\True/\True/\True/\True/\True/\True/\True/\True/\True/\True/\True/\True/\True/\True/\True/\True/\True/\True/\True/\True))/\(((↑v20.1:Int) != v5)=false->fits .i64 ((↑v20.1:Int)+(1:Int))/\∃(v24:Nat × List Q0),q85 v18.2.2.1 v18.2.1 v18.1 v24.1 v24.2/\v18.2.2.1.length-v24.1<v18.2.2.1.length-v20.1/\(True/\True/\True/\(↑v20.1:Int)+(1:Int)=(↑v24.1:Int)/\True)/\(v20.2=v24.2/\True/\T=T)/\v18.2.2.2=v18.2.2.2/\((↑v18.1:Int)=(↑v18.1:Int)/\True)/\True/\True/\True/\True/\True/\True/\True/\True/\True/\True/\True/\True/\True/\True/\True/\True/\True/\True/\True/\True/\True/\True/\True/\True/\True/\True/\True/\True/\True))/\(decide ((↑v20.1:Int)<(↑(qe1 v15.2.length none):Int))=false->((0:Nat)<List.length [(↑v18.1:Int)]/\Nat.le (v18.2.2.2.length+List.length [(↑v18.1:Int)]) (1000000:Nat))/\fits .i64 ((↑v2.1:Int)+(1:Int))/\∃(v23:Nat × List Q0 × List Int),w8f rows c.toNat v23.1 v23.2.1 v23.2.2/\c.toNat-v23.1<c.toNat-v2.1/\(True/\True/\(↑v2.1:Int)+(1:Int)=(↑v23.1:Int)/\True)/\(v20.2=v23.2.1/\True/\T=T)/\v18.2.2.2++[(↑v18.1:Int)]=v23.2.2/\True)))/\(decide (nI (nL v2.2.1 (qe8 (some (List.set (ixL v2.2.1.length (some (List.set (ixL v2.2.1.length none) v5.toNat (qe8 none (v5+v9).toNat)))) (v5+v9).toNat (qe8 none v5.toNat))) v5.toNat)) (↑v2.1:Int).toNat<(0:Int))=false->∃(v13:Nat × Nat × List Q0 × List Int),∃(v14:Nat × List Q0),q85 v13.2.2.1 v13.2.1 v13.1 v14.1 v14.2/\(List.Nodup (List.set (ixL v2.2.1.length (some (List.set (ixL v2.2.1.length none) v5.toNat (qe8 none (v5+v9).toNat)))) (v5+v9).toNat (qe8 none v5.toNat))/\(List.set (ixL v2.2.1.length (some (List.set (ixL v2.2.1.length none) v5.toNat (qe8 none (v5+v9).toNat)))) (v5+v9).toNat (qe8 none v5.toNat)).length=v2.2.1.length)/\((True/\True/\True/\(0:Int)=(↑v14.1:Int)/\True)/\(q3l (Ty.int .i64) v2.2.1 (some (List.set (ixL v2.2.1.length (some (List.set (ixL v2.2.1.length none) v5.toNat (qe8 none (v5+v9).toNat)))) (v5+v9).toNat (qe8 none v5.toNat)))=v14.2/\True/\T=T)/\v2.2.2=v13.2.2.2/\((↑v2.1:Int)=(↑v13.1:Int)/\True)/\True/\True/\True/\True/\True/\True/\True/\True/\True/\True/\True/\True/\True/\True/\True/\True/\True/\True/\True/\True/\True/\True/\True/\True/\True/\True/\True/\True/\True)/\∀(v15:Nat × List Q0),q85 v13.2.2.1 v13.2.1 v13.1 v15.1 v15.2->(decide ((↑v15.1:Int)<(↑(qe1 v2.2.1.length (some (List.set (ixL v2.2.1.length (some (List.set (ixL v2.2.1.length none) v5.toNat (qe8 none (v5+v9).toNat)))) (v5+v9).toNat (qe8 none v5.toNat)))):Int))=true->((0:Int)<=(↑v15.1:Int)/\(↑v15.1:Int)<(↑(qe1 v15.2.length none):Int))/\(↑v15.1:Int).toNat<qe1 v15.2.length none/\(((↑v15.1:Int) != v5)=true->((0:Int)<=(↑v13.1:Int)/\(↑v13.1:Int)<(↑(nL v15.2 (qe8 none (↑v15.1:Int).toNat)).length:Int))/\(↑v13.1:Int).toNat<(nL v15.2 (qe8 none (↑v15.1:Int).toNat)).length/\((nI (nL v15.2 (qe8 none (↑v15.1:Int).toNat)) (↑v13.1:Int).toNat != (0:Int))=true->((0:Int)<=v5/\v5<(↑(qe1 v15.2.length none):Int))/\v5.toNat<qe1 v15.2.length none/\qe8 none v5.toNat≠qe8 none (↑v15.1:Int).toNat/\((0:Ty.den qc0)<=(↑v13.1:Int)/\wx3 (nL [qf0 (Ty.list Q1) v15.2 (qe8 none (↑v15.1:Int).toNat)] (0:Nat)) (nL v15.2 (qe8 none v5.toNat)) (↑v13.1:Int).toNat)/\fits .i64 ((↑v15.1:Int)+(1:Int))/\∃(v20:Nat × List Q0),q85 v13.2.2.1 v13.2.1 v13.1 v20.1 v20.2/\v13.2.2.1.length-v20.1<v13.2.2.1.length-v15.1/\(True/\True/\True/\(↑v15.1:Int)+(1:Int)=(↑v20.1:Int)/\True)/\(List.set v15.2 (qe8 none (↑v15.1:Int).toNat) (qf0 (Ty.list Q1) [qy7 (nL [qf0 (Ty.list Q1) v15.2 (qe8 none (↑v15.1:Int).toNat)] (0:Nat)) (nL v15.2 (qe8 none v5.toNat)) (↑v13.1:Int).toNat] (0:Nat))=v20.2/\True/\T=T)/\v13.2.2.2=v13.2.2.2/\((↑v13.1:Int)=(↑v13.1:Int)/\True)/\True/\True/\True/\True/\True/\True/\True/\True/\True/\True/\True/\True/\True/\True/\True/\True/\True/\True/\True/\True/\True/\True/\True/\True/\True/\True/\True/\True/\True)/\((nI (nL v15.2 (qe8 none (↑v15.1:Int).toNat)) (↑v13.1:Int).toNat != (0:Int))=false->fits .i64 ((↑v15.1:Int)+(1:Int))/\∃(v20:Nat × List Q0),q85 v13.2.2.1 v13.2.1 v13.1 v20.1 v20.2/\v13.2.2.1.length-v20.1<v13.2.2.1.length-v15.1/\(True/\True/\True/\(↑v15.1:Int)+(1:Int)=(↑v20.1:Int)/\True)/\(v15.2=v20.2/\True/\T=T)/\v13.2.2.2=v13.2.2.2/\((↑v13.1:Int)=(↑v13.1:Int)/\True)/\True/\True/\True/\True/\True/\True/\True/\True/\True/\True/\True/\True/\True/\True/\True/\True/\True/\True/\True/\True/\True/\True/\True/\True/\True/\True/\True/\True/\True))/\(((↑v15.1:Int) != v5)=false->fits .i64 ((↑v15.1:Int)+(1:Int))/\∃(v19:Nat × List Q0),q85 v13.2.2.1 v13.2.1 v13.1 v19.1 v19.2/\v13.2.2.1.length-v19.1<v13.2.2.1.length-v15.1/\(True/\True/\True/\(↑v15.1:Int)+(1:Int)=(↑v19.1:Int)/\True)/\(v15.2=v19.2/\True/\T=T)/\v13.2.2.2=v13.2.2.2/\((↑v13.1:Int)=(↑v13.1:Int)/\True)/\True/\True/\True/\True/\True/\True/\True/\True/\True/\True/\True/\True/\True/\True/\True/\True/\True/\True/\True/\True/\True/\True/\True/\True/\True/\True/\True/\True/\True))/\(decide ((↑v15.1:Int)<(↑(qe1 v2.2.1.length (some (List.set (ixL v2.2.1.length (some (List.set (ixL v2.2.1.length none) v5.toNat (qe8 none (v5+v9).toNat)))) (v5+v9).toNat (qe8 none v5.toNat)))):Int))=false->((0:Nat)<List.length [(↑v13.1:Int)]/\Nat.le (v13.2.2.2.length+List.length [(↑v13.1:Int)]) (1000000:Nat))/\fits .i64 ((↑v2.1:Int)+(1:Int))/\∃(v18:Nat × List Q0 × List Int),w8f rows c.toNat v18.1 v18.2.1 v18.2.2/\c.toNat-v18.1<c.toNat-v2.1/\(True/\True/\(↑v2.1:Int)+(1:Int)=(↑v18.1:Int)/\True)/\(v15.2=v18.2.1/\True/\T=T)/\v13.2.2.2++[(↑v13.1:Int)]=v18.2.2/\True))))/\(decide ((↑v2.1:Int)<c)=false->v2.2.1=(qb5 rows c.toNat).1/\T=T/\True/\v2.2.2=(qb5 rows c.toNat).2)) ?_
 simp only[q5w,w8g,x1k,x1l,q86,xj3,wy2,xj4,List.length_set,List.length_range,List.take_length]
 obtain⟨hc0,W,hR⟩:=h
 have hRn:=hR.n
 have hRw:=hR.w
 refine⟨(),(0,rows,[]),⟨zaf _,rfl⟩,⟨rfl,rfl,rfl⟩,?_⟩
 rintro⟨j,r0,piv⟩ ⟨hjc,hj⟩
 dsimp only at hjc hj ⊢
 have hsh:=q2y hR j
 rw[hj] at hsh
 have hn:=hsh.cnt
 have hpn:=hsh.piv
 have hpj:=hsh.pivj
 dsimp only at hn hpn hpj
 refine⟨λhlt=>?_,λhge=>?_⟩
 ·have hjl:j<c.toNat:=ow
  have hjW:j<W:=by have:=hR.cw; omega
  rintro k rfl
  have he:=hsh.each
  dsimp only at he
  have hdrop:∀q,q<(r0.drop piv.length).length->j<(nL (r0.drop piv.length) q).length:=λq hq=>by
   rw[List.length_drop] at hq
   have e:nL (r0.drop piv.length) q=nL r0 (piv.length+q):=by
    grind [ql6,List.length_drop]
   grind
  simp only[Int.toNat_natCast]
  refine⟨⟨ow,ow,zac _⟩,λx=>j<x.1.length,λx=>nI x.1 j != 0,λx hx=>⟨hx,rfl⟩,⟨by grind,hdrop⟩,?_⟩
  rintro a ha
  have ha:a=qu5 r0 piv.length j:=ha
  subst ha
  refine⟨λhneg=>?_,λhpos=>?_⟩
  ·refine⟨qa7,(j+1,r0,piv),⟨ow,?_⟩,ow,by rfl,rfl,rfl⟩
   simp_all [qb5,qx6,if_pos]
  have hb:=q2w r0 piv.length j ow hpos
  have hso:x46 r0 piv.length j:=by have:=hR.step j hjl; grind
  have hse:=q87 (W:=W) ow hpos (λi hi=>he i ow)
  have hpe:=q2x (W:=W) ow hpos (λi hi=>he i ow)
  have hab:((piv.length:Int)+qu5 r0 piv.length j).toNat=piv.length+(qu5 r0 piv.length j).toNat:=ow
  simp only[hab]
  have hgd:=x1m r0.length piv.length (piv.length+(qu5 r0 piv.length j).toNat) ow hb
  have hmap:=x7n r0 piv.length (piv.length+(qu5 r0 piv.length j).toNat) ow hb
  have hnd:=xj5 r0.length piv.length (piv.length+(qu5 r0 piv.length j).toNat) ow hb
  have hk1:nL (q2v r0 piv.length j) piv.length=nL r0 (piv.length+(qu5 r0 piv.length j).toNat):=by
   unfold q2v
   rw[q4y _ _ _ ow hb _ ow]
   grind
  simp only[hgd,hmap]
  rw[<- hk1]
  have hsl:=wo2 r0 piv.length j
  have hkW:=hse piv.length ow
  refine⟨qa7,qa7,ow,ow,ow,ow,ow,ow,ow,ow,ow,ow,ow,ow,λhng=>?_,λhng=>?_⟩
  ·refine⟨ow,ow,(j,piv.length,q2v r0 piv.length j,piv),(0,q2v r0 piv.length j),⟨zaf _,?_⟩,⟨hnd,trivial⟩,⟨rfl,rfl,rfl,rfl⟩,?_⟩
   ·dsimp only
    have e:ovr (.int .i64) (λq=>0-nI (nL (q2v r0 piv.length j) piv.length) q) (nL (q2v r0 piv.length j) piv.length) 0=nL (q2v r0 piv.length j) piv.length:=q4w (.int .i64) _ _
    grind [ql6,List.set_getElem_self]
   rintro⟨i,r⟩ ⟨hi1,hi2⟩
   dsimp only at hi1 hi2 ⊢
   have hrl:r.length=r0.length:=by grind
   have hrk:nL r piv.length=ovr (.int .i64) (λq=>0-nI (nL (q2v r0 piv.length j) piv.length) q) (nL (q2v r0 piv.length j) piv.length) i:=by
    rw[hi2,xj6 _ _ _ _ ow,zam rfl]
   have hrkl:(nL r piv.length).length=W:=by grind [q0p]
   refine⟨λhlt=>?_,λhge=>?_⟩
   ·have hv:nI (nL r piv.length) i=nI (nL (q2v r0 piv.length j) piv.length) i:=by
     rw[hrk]
     exact(wg9 (.int .i64) _ _ _ _ hlt).trans (zaj (zbe _))
    have hbd:qe5 BIG (nI (nL (q2v r0 piv.length j) piv.length) i):=hso.neg _ (by grind [qf3,List.getElem_mem])
    unfold qe5 BIG at hbd
    rw[hv]
    refine⟨ow,ow,ow,ow,ow,ow,qa7,ow,ow,qa7,(i+1,r.set piv.length ((nL r piv.length).set i (0-nI (nL (q2v r0 piv.length j) piv.length) i))),⟨ow,?_⟩,ow,by rfl,rfl⟩
    dsimp only
    have e:=q2s (.int .i64) (λq=>0-nI (nL (q2v r0 piv.length j) piv.length) q) (nL (q2v r0 piv.length j) piv.length) i
    simp_all
   ·have hprep:r=qi7 r0 piv.length j:=by
     unfold qi7
     rw[zam hng,hi2]
     refine za1 _ ?_
     exact q8z (.int .i64) _ _ _ ow
    refine⟨(j,piv.length,qi7 r0 piv.length j,piv),(0,qi7 r0 piv.length j),⟨zaf _,(q4w (.list (.int .i64)) _ _).symm⟩,⟨rfl,hprep,rfl,rfl⟩,?_⟩
    rw[hprep,ql8]
    rintro⟨i,r⟩ ⟨hi1,hi2⟩
    dsimp only at hi1 hi2 ⊢
    have hpl:=ql8 r0 piv.length j
    have hrl:r.length=r0.length:=by rw[hi2,q0p,ql8]
    have hi1:i<=r0.length:=ow
    have hat:∀q,q<r0.length->nL r q=if q<i then ws5 (qi7 r0 piv.length j) piv.length j q else nL (qi7 r0 piv.length j) q:=λq hq=>by
     rw[hi2]; exact wg9 (.list (.int .i64)) _ _ _ _ ow
    have hk2:nL r piv.length=nL (qi7 r0 piv.length j) piv.length:=by
     grind [q41]
    refine⟨λhlt=>?_,λhge=>?_⟩
    ·have hlt:i<r0.length:=ow
     have hri:nL r i=nL (qi7 r0 piv.length j) i:=by grind
     have hw:=hpe i hlt
     refine⟨ow,ow,λhne=>⟨by grind,by grind,λhnz=>?_,λhz=>?_⟩,λheq=>?_⟩
     ·rw[hri] at hnz
      have hne:i≠piv.length:=ow
      have hcl:=hso.clr i hlt hne hnz
      have hcr:ws5 (qi7 r0 piv.length j) piv.length j i=qy7 (nL r i) (nL r piv.length) j:=by
       simp_all [ws5,if_pos]
      refine⟨ow,ow,ow,?_,qa7,(i+1,r.set i (qy7 (nL r i) (nL r piv.length) j)),⟨ow,?_⟩,ow,by rfl,rfl⟩
      ·show wx3 (nL r i) (nL r piv.length) j
       grind
      grind [q2s]
     ·refine⟨qa7,(i+1,r),⟨ow,?_⟩,ow,by rfl,rfl⟩
      dsimp only
      rw[hi2]
      refine q7w (.list (.int .i64)) _ _ _ λ_=>?_
      unfold ws5
      rw[zaj]
      ·rfl
      grind
     ·refine⟨qa7,(i+1,r),⟨ow,?_⟩,ow,by rfl,rfl⟩
      dsimp only
      rw[hi2]
      refine q7w (.list (.int .i64)) _ _ _ λ_=>?_
      have e:i=piv.length:=ow
      rw[e]
      exact q41 _ _ _
    ·obtain rfl:i=r0.length:=ow
     refine⟨ow,qa7,(j+1,r,piv++[(j:Int)]),⟨ow,?_⟩,ow,by rfl,rfl,rfl⟩
     rw[qb5,hj,qx6,zaj (by grind),hi2]
     refine za1 (·,_) ?_
     rw[<- ql8 r0 piv.length j]
     exact(q8z (.list (.int .i64)) _ _ _ (zac _)).symm
  ·have hprep:q2v r0 piv.length j=qi7 r0 piv.length j:=by simp_all [qi7,if_neg]
   refine⟨(j,piv.length,qi7 r0 piv.length j,piv),(0,qi7 r0 piv.length j),⟨zaf _,(q4w (.list (.int .i64)) _ _).symm⟩,⟨hnd,trivial⟩,⟨rfl,hprep,rfl,rfl⟩,?_⟩
   rintro⟨i,r⟩ ⟨hi1,hi2⟩
   dsimp only at hi1 hi2 ⊢
   have hpl:=ql8 r0 piv.length j
   have hrl:r.length=r0.length:=by rw[hi2,q0p,ql8]
   have hi1:i<=r0.length:=ow
   have hat:∀q,q<r0.length->nL r q=if q<i then ws5 (qi7 r0 piv.length j) piv.length j q else nL (qi7 r0 piv.length j) q:=λq hq=>by
    rw[hi2]; exact wg9 (.list (.int .i64)) _ _ _ _ ow
   have hk2:nL r piv.length=nL (qi7 r0 piv.length j) piv.length:=by
    grind [q41]
   refine⟨λhlt=>?_,λhge=>?_⟩
   ·have hlt:i<r0.length:=ow
    have hri:nL r i=nL (qi7 r0 piv.length j) i:=by grind
    have hw:=hpe i hlt
    refine⟨ow,ow,λhne=>⟨by grind,by grind,λhnz=>?_,λhz=>?_⟩,λheq=>?_⟩
    ·rw[hri] at hnz
     have hne:i≠piv.length:=ow
     have hcl:=hso.clr i hlt hne hnz
     have hcr:ws5 (qi7 r0 piv.length j) piv.length j i=qy7 (nL r i) (nL r piv.length) j:=by
      simp_all [ws5,if_pos]
     refine⟨ow,ow,ow,?_,qa7,(i+1,r.set i (qy7 (nL r i) (nL r piv.length) j)),⟨ow,?_⟩,ow,by rfl,rfl⟩
     ·show wx3 (nL r i) (nL r piv.length) j
      grind
     grind [q2s]
    ·refine⟨qa7,(i+1,r),⟨ow,?_⟩,ow,by rfl,rfl⟩
     dsimp only
     rw[hi2]
     refine q7w (.list (.int .i64)) _ _ _ λ_=>?_
     unfold ws5
     rw[zaj]
     ·rfl
     grind
    ·refine⟨qa7,(i+1,r),⟨ow,?_⟩,ow,by rfl,rfl⟩
     dsimp only
     rw[hi2]
     refine q7w (.list (.int .i64)) _ _ _ λ_=>?_
     have e:i=piv.length:=ow
     rw[e]
     exact q41 _ _ _
   ·obtain rfl:i=r0.length:=ow
    refine⟨ow,qa7,(j+1,r,piv++[(j:Int)]),⟨ow,?_⟩,ow,by rfl,rfl,rfl⟩
    rw[qb5,hj,qx6,zaj (by grind),hi2]
    refine za1 (·,_) ?_
    rw[<- ql8 r0 piv.length j]
    exact(q8z (.list (.int .i64)) _ _ _ (zac _)).symm
 grind
def xj8 (a:Int):Nat->List Int
 | 0=>[]
 | k+1=>a :: xj8 (a+1) k
theorem wo4 (a:Int) (k:Nat):(xj8 a k).length=k:=by
 induction k generalizing a with
 | zero=>rfl
 | succ k ih=>grind [xj8]
def qr0:Nat->Nat->Int->List (List Int)
 | _,0,_=>[[]]
 | 0,_+1,_=>[]
 | m+1,k+1,a=>(qr0 m k (a+1)).map (a :: ·)++qr0 m (k+1) (a+1)
def q5x (n:Int):List Int->Option (List Int)
 | []=>none
 | x :: t=>match q5x n t with
  | some t'=>some (x :: t')
  | none=>if x+t.length+1<n then some (xj8 (x+1) (t.length+1)) else none
theorem wy4 {m k:Nat} {a:Int} {l:List Int} (h:l∈qr0 m k a):l.length=k:=by
 induction m generalizing k a l with
 | zero=>cases k with
  | zero=>grind [qr0]
  | succ k=>cases h
 | succ m ih=>cases k with
  | zero=>grind [qr0]
  | succ k=>
   rcases zak.1 h with h | h
   all_goals grind
structure InC (m k:Nat) (a:Int) (l:List Int):Prop where
 len:l.length=k
 lo:∀i,i<k->a+i<=nI l i
 hi:∀i,i<k->nI l i+(k-i:Nat)<=a+m
 asc:∀i,0<i->i<k->nI l (i-1)<nI l i
theorem q0q (x:Int) (t:List Int):nI (x :: t) 0=x:=rfl
theorem qv7 (x:Int) (t:List Int) (i:Nat):nI (x :: t) (i+1)=nI t i:=rfl
theorem w5d {m k:Nat} {a:Int} {l:List Int} (h:l∈qr0 m k a):InC m k a l:=by
 induction m generalizing k a l with
 | zero=>cases k with
  | zero=>simp[qr0] at h; subst h; exact⟨rfl,λi hi=>by omega,λi hi=>by omega,λi _ hi=>by omega⟩
  | succ k=>cases h
 | succ m ih=>cases k with
  | zero=>simp[qr0] at h; subst h; exact⟨rfl,λi hi=>by omega,λi hi=>by omega,λi _ hi=>by omega⟩
  | succ k=>
   rcases zak.1 h with h | h
   ·obtain⟨t,ht,rfl⟩:=zbf.1 h
    have q:=ih ht
    refine⟨by simp[q.len],λi hi=>?_,λi hi=>?_,λi h0 hi=>?_⟩
    ·cases i with
     | zero=>grind [q0q]
     | succ i=>rw[qv7]; have:=q.lo i ow; omega
    ·cases i with
     | zero=>
      rw[q0q]
      cases k with
      | zero=>omega
      | succ k=>have h1:=q.lo 0 ow; have h2:=q.hi 0 ow; omega
     | succ i=>rw[qv7]; have:=q.hi i ow; omega
    ·obtain⟨i,rfl⟩:∃q,i=q+1:=⟨i-1,ow⟩
     rw[qv7,Nat.add_sub_cancel]
     cases i with
     | zero=>rw[q0q]; have:=q.lo 0 ow; omega
     | succ i=>rw[qv7]; have:=q.asc (i+1) ow ow; grind
   ·have q:=ih h
    exact⟨q.len,λi hi=>by have:=q.lo i hi; omega,λi hi=>by have:=q.hi i hi; omega,q.asc⟩
theorem w8h {m k:Nat} {a:Int} (h:m<k):qr0 m k a=[]:=by
 induction m generalizing k a with
 | zero=>cases k with
  | zero=>omega
  | succ k=>rfl
 | succ m ih=>cases k with
  | zero=>omega
  | succ k=>grind [qr0]
theorem w8i (m:Nat) (a:Int):qr0 m 0 a=[[]]:=by cases m <;> rfl
theorem wh5 {m k:Nat} {a:Int} (h:k<=m):(qr0 m k a)[0]? = some (xj8 a k):=by
 induction m generalizing k a with
 | zero=>
  obtain rfl:k=0:=ow
  rfl
 | succ m ih=>cases k with
  | zero=>rfl
  | succ k=>
   have:=ih (k:=k) (a:=a+1) ow
   have hl:0<(qr0 m k (a+1)).length:=(zag.1 this).1
   rw[qr0,zb7 (by grind),zbm,this]
   rfl
theorem w8j {m k:Nat} {a n:Int} (hn:n=a+m) {c:Nat} {l:List Int} (h:(qr0 m k a)[c]? = some l):q5x n l=(qr0 m k a)[c+1]?:=by
 induction m generalizing k a c l with
 | zero=>cases k with
  | zero=>
   have hc:=(zag.1 h).1
   simp[qr0] at hc
   subst hc
   simp[qr0] at h
   subst h
   rfl
  | succ k=>grind [qr0]
 | succ m ih=>cases k with
  | zero=>
   have hc:=(zag.1 h).1
   simp[qr0] at hc
   subst hc
   simp[qr0] at h
   subst h
   rfl
  | succ k=>
   rw[qr0] at h ⊢
   rcases zap c ((qr0 m k (a+1)).map (a :: ·)).length with hlt | hge
   ·rw[zb7 hlt,zbm] at h
    obtain⟨t,ht,rfl⟩:=zb5.1 h
    have hi:=ih ow ht
    have htl:=wy4 (zah ht)
    have hcl:c<(qr0 m k (a+1)).length:=by grind
    simp only[q5x,hi]
    rcases zap (c+1) (qr0 m k (a+1)).length with h2 | h2
    ·grind
    ·rw[zdl h2,zcf (by grind)]
     have e:c+1-((qr0 m k (a+1)).map (a :: ·)).length=0:=ow
     rw[e,htl]
     simp only
     by_cases hk:k+1<=m
     ·rw[wh5 hk,zam ow]
     ·rw[w8h ow,zaj ow]
      rfl
   grind
def qe9 (n k:Int):List (List Int):=if k<=n then qr0 n.toNat k.toNat 0 else[]
theorem xj9 (a:Int) (k i:Nat) (h:i<k):nI (xj8 a k) i=a+i:=by
 induction k generalizing a i with
 | zero=>omega
 | succ k ih=>cases i with
  | zero=>simp[xj8,q0q]
  | succ i=>grind [xj8,qv7]
theorem q5y {n:Int}:∀{l:List Int},(∀q:Nat,q<l.length->nI l q=n-l.length+q)->q5x n l=none
 | [],_=>rfl
 | x :: t,h=>by
  have h0:=h 0 (by simp)
  rw[q0q] at h0
  have ht:q5x n t=none:=q5y λq hq=>by
   have:=h (q+1) (by grind)
   grind [qv7,List.length_cons]
  simp only[q5x,ht]
  grind
theorem wh6 {n:Int}:∀{l:List Int} {i:Nat},i<l.length->(∀q:Nat,i<q->q<l.length->nI l q=n-l.length+q)->nI l i<n-l.length+i->q5x n l=some (l.take i++xj8 (nI l i+1) (l.length-i))
 | x :: t,0,_,h,h0=>by
  rw[q0q] at h0
  have ht:q5x n t=none:=q5y λq hq=>by
   have:=h (q+1) ow (by grind)
   grind [qv7,List.length_cons]
  simp only[q5x,ht]
  simp only[List.length_cons] at h0
  rw[zam ow]
  rfl
 | x :: t,i+1,hi,h,h0=>by
  have:=wh6 (n:=n) (l:=t) (i:=i) (by grind) (λq h1 h2=>by
   have:=h (q+1) ow (by grind)
   grind [qv7,List.length_cons]) (by
   grind [qv7,List.length_cons])
  grind [q5x,qv7,List.length_cons,Nat.add_sub_add_right]
def xy0 (l:List Int) (i:Nat):List Int:=l.take i++xj8 (nI l i+1) (l.length-i)
theorem w5e (l:List Int) (i:Nat) (hi:i<l.length):(xy0 l i).length=l.length:=by
 grind [xy0,wo4]
theorem wo5 (l:List Int) (i q:Nat) (hi:i<l.length) (hq:q<l.length):nI (xy0 l i) q=if q<i then nI l q else nI l i+1+(q-i:Nat):=by
 rw[qf3 _ _ (by rw[w5e l i hi]; exact hq)]
 unfold xy0
 split
 ·grind [List.getElem_append_left,qf3]
 ·rename_i h
  rw[List.getElem_append_right (by grind)]
  have hl:(l.take i).length=i:=by grind
  have:=xj9 (nI l i+1) (l.length-i) (q-i) ow
  grind [qf3,wo4]
def mkC (l:List Int) (i j:Nat):List Int:=ovr (.int .i64) (nI (xy0 l i)) l j
theorem q89 (l:List Int) (i j:Nat):(mkC l i j).length=l.length:=q0p (.int .i64) _ _ _
theorem w5f (l:List Int) (i j q:Nat) (hq:q<l.length):nI (mkC l i j) q=if q<j then nI (xy0 l i) q else nI l q:=wg9 (.int .i64) _ _ _ _ hq
theorem xk0 {a b:List Int} (h:a.length=b.length) (k:∀i,i<a.length->nI a i=nI b i):a=b:=by
 grind [List.ext_getElem,qf3]
theorem xk1 (l:List Int) (i:Nat) (hi:i<l.length):mkC l i (i+1)=l.set i (nI l i+1):=by
 apply xk0 (by rw[q89,zbd])
 intro q hq
 rw[q89] at hq
 rw[w5f _ _ _ _ hq,qf3 (l.set i (nI l i+1)) q (by grind),zc4,wo5 _ _ _ hi hq]
 by_cases e:i=q
 ·omega
 ·rw[zaj e,<- qf3 l q hq]
  omega
theorem x1n (l:List Int) (i j:Nat) (hi:i<j) (hj:j<l.length):(mkC l i j).set j (nI (mkC l i j) (j-1)+1)=mkC l i (j+1):=by
 have e:nI (mkC l i j) (j-1)+1=nI (xy0 l i) j:=by
  rw[w5f _ _ _ _ ow,zam ow,wo5 _ _ _ ow ow,wo5 _ _ _ ow hj,zaj ow]
  omega
 rw[e]
 exact q2s (.int .i64) _ _ _
theorem x7o (l:List Int) (i:Nat) (hi:i<l.length):mkC l i l.length=xy0 l i:=by
 apply xk0 (by grind [q89,w5e])
 simp_all [q89,w5f,if_pos]
structure xk2 (n k:Int) (c:Nat) (l:List Int):Prop where
 len:l.length=k.toNat
 at_:k<=n->(qe9 n k)[c]? = some l
 cnt:n<k->c=0
structure x1o (n k:Int) (l:List Int) (i:Int):Prop where
 lo:-1<=i
 hi:i<k
 last:∀q:Nat,i<q->q<l.length->nI l q=n-k+q
structure x7p (l:List Int) (i j:Nat) (r:List Int):Prop where
 lo:i<j
 hi:j<=l.length
 eq:r=mkC l i j
abbrev yg0:q1e:=w2d [qc0,qc0] [qf1] (λx=>(0<=x.1/\x.1<=1000)/\0<=x.2.1/\x.2.1<=1000) (λx=>(qe9 x.2.1 x.1).map λl=>(l,())) (some 3)
def yg1 (n k:Int):Nat->Option Inv
 | 0=>some (Inv.of [4] 2 (λ_:Nat × List Int=>[(4,.own 1)]) (λs=>[.cnt (some s.1),.vec 3 (.int .i64) s.2]) (λs=>xk2 n k s.1 s.2) (λs=>(qe9 n k).length+1-s.1))
 | 1=>some (Eng.Inv.mk (Nat × List Int) Int [4,5] 2 (λ_ i=>[(4,.own 1),(5,.lit (.int .i64 i))]) (λq i=>[.cnt (some q.1),.vec 3 (.int .i64) q.2]) (λq i=>x1o n k q.2 i) (λq i=>(i+1).toNat))
 | 2=>some (Eng.Inv.mk (Nat × List Int × Nat) (Nat × List Int) [4,6] 16 (λ_ s=>[(4,.own 1),(6,.lit (.int .i64 s.1))]) (λq s=>[.cnt (some q.1),.vec 3 (.int .i64) s.2,.dead,.dead,.dead,.dead,.dead,.dead,.dead,.dead,.dead,.dead,.dead,.dead,.dead,.dead]) (λq s=>x7p q.2.1 q.2.2 s.1 s.2) (λq s=>q.2.1.length-s.1))
 | _=>none
theorem x1p (k:Nat):xj8 0 k=qp1 k:=by
 grind [xk0,wo4,qf6,xj9,q31]
theorem xk3 {n k:Int} (hkn:k<=n) (hk:0<=k) {c:Nat} {l:List Int} (h:(qe9 n k)[c]? = some l):q5x n l=(qe9 n k)[c+1]?:=by
 unfold qe9 at h ⊢
 rw[zam hkn] at h ⊢
 grind [w8j]
theorem x7q {n k:Int} {l:List Int} (h:l∈qe9 n k):InC n.toNat k.toNat 0 l:=by
 grind [qe9,w5d]
theorem wh7:q02 Tryz.prog 203 yg0:=by
 refine says (snd (SpecsOk.cons q83 (SpecsOk.nil _))) Tryz.func203 rfl rfl rfl [12] (λx=>yg1 x.2.1 x.1) (λ_=>by kernel_rfl) dc ?_
 rintro⟨k,n,⟨⟩⟩ l h
 revert k n
 intro(k:Int) (n:Int) (h:(0<=k/\k<=1000)/\0<=n/\n<=1000)
 refine vcs (let Q0:=qe9 n k; let Q1:=(k,n,PUnit.unit); k<=(100000:Ty.den qc0)/\∃(v0:Unit),∃(v1:Nat × List Int),xk2 n k v1.1 v1.2/\((True/\True)/\some (0:Nat)=some v1.1/\qp1 k.toNat=v1.2/\True)/\∀(v2:Nat × List Int),xk2 n k v2.1 v2.2->(decide (k<=n)=true->Value.func (Fn.yield l) #[] #[]=Value.func (Fn.yield (qh5.l (q1a [qc0,qc0] [qf1] [(12:Nat)] Q1 (List.map (λ(v5:List Int)=>(v5,())) Q0) l (some (3:Nat))))) #[] #[]/\(qh5.L (q1a [qc0,qc0] [qf1] [(12:Nat)] Q1 (List.map (λ(v5:List Int)=>(v5,())) Q0) l (some (3:Nat))))[v2.1]?=some (v2.2,())/\(fits .i64 (k-(1:Int))/\∃(v5:Nat × List Int),∃(v6:Int),x1o n k v5.2 v6/\((True/\k-(1:Int)=v6/\True)/\some (v2.1+(1:Nat))=some v5.1/\v2.2=v5.2/\True)/\∀(v7:Int),x1o n k v5.2 v7->(decide ((0:Int)<=v7)=true->((0:Int)<=v7/\v7<(↑v5.2.length:Int))/\v7.toNat<v5.2.length/\fits .i64 (n-k)/\fits .i64 (n-k+v7)/\((nI v5.2 v7.toNat==n-k+v7)=true->fits .i64 (v7-(1:Int))/\∃(v11:Int),x1o n k v5.2 v11/\(v11+(1:Int)).toNat<(v7+(1:Int)).toNat/\(True/\v7-(1:Int)=v11/\True)/\some v5.1=some v5.1/\v5.2=v5.2/\True)/\((nI v5.2 v7.toNat==n-k+v7)=false->(decide (v7<(0:Int))=true->v5.1=(qh5.L (q1a [qc0,qc0] [qf1] [(12:Nat)] Q1 (List.map (λ(v12:List Int)=>(v12,())) Q0) l (some (3:Nat)))).length)/\(decide (v7<(0:Int))=false->((0:Int)<=v7/\v7<(↑v5.2.length:Int))/\v7.toNat<v5.2.length/\fits .i64 (nI v5.2 v7.toNat+(1:Int))/\((0:Int)<=v7/\v7<(↑v5.2.length:Int))/\v7.toNat<v5.2.length/\fits .i64 (v7+(1:Int))/\∃(v12:Nat × List Int × Nat),∃(v13:Nat × List Int),x7p v12.2.1 v12.2.2 v13.1 v13.2/\((True/\v7+(1:Int)=(↑v13.1:Int)/\True)/\some v5.1=some v12.1/\List.set v5.2 v7.toNat (nI v5.2 v7.toNat+(1:Int))=v13.2/\True/\True/\True/\True/\True/\True/\True/\True/\True/\True/\True/\True/\True/\True/\True)/\∀(v14:Nat × List Int),x7p v12.2.1 v12.2.2 v14.1 v14.2->(decide ((↑v14.1:Int)<k)=true->fits .i64 ((↑v14.1:Int)-(1:Int))/\((0:Int)<=(↑v14.1:Int)-(1:Int)/\(↑v14.1:Int)-(1:Int)<(↑v14.2.length:Int))/\((↑v14.1:Int)-(1:Int)).toNat<v14.2.length/\fits .i64 (nI v14.2 ((↑v14.1:Int)-(1:Int)).toNat+(1:Int))/\((0:Int)<=(↑v14.1:Int)/\(↑v14.1:Int)<(↑v14.2.length:Int))/\(↑v14.1:Int).toNat<v14.2.length/\fits .i64 ((↑v14.1:Int)+(1:Int))/\∃(v17:Nat × List Int),x7p v12.2.1 v12.2.2 v17.1 v17.2/\v12.2.1.length-v17.1<v12.2.1.length-v14.1/\(True/\(↑v14.1:Int)+(1:Int)=(↑v17.1:Int)/\True)/\some v12.1=some v12.1/\List.set v14.2 (↑v14.1:Int).toNat (nI v14.2 ((↑v14.1:Int)-(1:Int)).toNat+(1:Int))=v17.2/\True/\True/\True/\True/\True/\True/\True/\True/\True/\True/\True/\True/\True/\True/\True)/\(decide ((↑v14.1:Int)<k)=false->∃(v17:Nat × List Int),xk2 n k v17.1 v17.2/\Q0.length+(1:Nat)-v17.1<Q0.length+(1:Nat)-v2.1/\(True/\True)/\some v12.1=some v17.1/\v14.2=v17.2/\True))))/\(decide ((0:Int)<=v7)=false->(decide (v7<(0:Int))=true->v5.1=(qh5.L (q1a [qc0,qc0] [qf1] [(12:Nat)] Q1 (List.map (λ(v11:List Int)=>(v11,())) Q0) l (some (3:Nat)))).length)/\(decide (v7<(0:Int))=false->((0:Int)<=v7/\v7<(↑v5.2.length:Int))/\v7.toNat<v5.2.length/\fits .i64 (nI v5.2 v7.toNat+(1:Int))/\((0:Int)<=v7/\v7<(↑v5.2.length:Int))/\v7.toNat<v5.2.length/\fits .i64 (v7+(1:Int))/\∃(v11:Nat × List Int × Nat),∃(v12:Nat × List Int),x7p v11.2.1 v11.2.2 v12.1 v12.2/\((True/\v7+(1:Int)=(↑v12.1:Int)/\True)/\some v5.1=some v11.1/\List.set v5.2 v7.toNat (nI v5.2 v7.toNat+(1:Int))=v12.2/\True/\True/\True/\True/\True/\True/\True/\True/\True/\True/\True/\True/\True/\True/\True)/\∀(v13:Nat × List Int),x7p v11.2.1 v11.2.2 v13.1 v13.2->(decide ((↑v13.1:Int)<k)=true->fits .i64 ((↑v13.1:Int)-(1:Int))/\((0:Int)<=(↑v13.1:Int)-(1:Int)/\(↑v13.1:Int)-(1:Int)<(↑v13.2.length:Int))/\((↑v13.1:Int)-(1:Int)).toNat<v13.2.length/\fits .i64 (nI v13.2 ((↑v13.1:Int)-(1:Int)).toNat+(1:Int))/\((0:Int)<=(↑v13.1:Int)/\(↑v13.1:Int)<(↑v13.2.length:Int))/\(↑v13.1:Int).toNat<v13.2.length/\fits .i64 ((↑v13.1:Int)+(1:Int))/\∃(v16:Nat × List Int),x7p v11.2.1 v11.2.2 v16.1 v16.2/\v11.2.1.length-v16.1<v11.2.1.length-v13.1/\(True/\(↑v13.1:Int)+(1:Int)=(↑v16.1:Int)/\True)/\some v11.1=some v11.1/\List.set v13.2 (↑v13.1:Int).toNat (nI v13.2 ((↑v13.1:Int)-(1:Int)).toNat+(1:Int))=v16.2/\True/\True/\True/\True/\True/\True/\True/\True/\True/\True/\True/\True/\True/\True/\True)/\(decide ((↑v13.1:Int)<k)=false->∃(v16:Nat × List Int),xk2 n k v16.1 v16.2/\Q0.length+(1:Nat)-v16.1<Q0.length+(1:Nat)-v2.1/\(True/\True)/\some v11.1=some v16.1/\v13.2=v16.2/\True))))/\True)/\(decide (k<=n)=false->v2.1=(qh5.L (q1a [qc0,qc0] [qf1] [(12:Nat)] Q1 (List.map (λ(v5:List Int)=>(v5,())) Q0) l (some (3:Nat)))).length)) ?_
 obtain⟨⟨hk0,hk1⟩,hn0,hn1⟩:=h
 refine⟨ow,(),(0,qp1 k.toNat),⟨qf6 _,λhkn=>?_,λ_=>rfl⟩,⟨rfl,rfl⟩,?_⟩
 ·unfold qe9
  rw[zam hkn,wh5 ow,x1p]
 rintro⟨c,s⟩ ⟨hl,ha,hz⟩
 dsimp only at hl ha hz ⊢
 refine⟨λhkn=>?_,λhkn=>?_⟩
 ·have hat:=ha hkn
  have hc:=(zag.1 hat).1
  have hin:=x7q (zah hat)
  have hnx:=xk3 hkn hk0 hat
  have hmap:((qe9 n k).map λv=>((v,()):qa3 [qf1])).length=(qe9 n k).length:=za4 _
  refine⟨rfl,?_,qa7,(c+1,s),k-1,⟨ow,ow,λq h1 h2=>by grind⟩,⟨rfl,rfl,rfl⟩,?_⟩
  ·show((qe9 n k).map λv=>((v,()):qa3 [qf1]))[c]? = some (s,())
   grind
  rintro i ⟨lo,hi,last⟩
  dsimp only at lo hi last ⊢
  have fin:i<0->c+1=((qe9 n k).map λv=>((v,()):qa3 [qf1])).length:=λhneg=>by
   grind [q5x,q5y,List.getElem?_eq_none_iff]
  refine⟨λhi0=>?_,λhi0=>⟨fin,λh=>by omega⟩⟩
  have hb1:=hin.lo i.toNat ow
  have hb2:=hin.hi i.toNat ow
  refine⟨ow,ow,qa7,qa7,λheq=>⟨qa7,i-1,⟨ow,ow,λq h1 h2=>?_⟩,ow,rfl⟩,λhne=>⟨fin,λ_=>?_⟩⟩
  ·grind
  have hil:i.toNat<s.length:=ow
  refine⟨ow,hil,qa7,ow,hil,qa7,(c+1,s,i.toNat),(i.toNat+1,s.set i.toNat (nI s i.toNat+1)),⟨zei _,hil,(xk1 s i.toNat hil).symm⟩,⟨ow,rfl,rfl⟩,?_⟩
  rintro⟨j,r⟩ ⟨h1,h2,h3⟩
  dsimp only at h1 h2 h3 ⊢
  have hrl:r.length=s.length:=by rw[h3,q89]
  refine⟨λhj=>?_,λhj=>?_⟩
  ·have e:((j:Int)-1).toNat=j-1:=ow
   rw[e]
   have hv:nI r (j-1)=nI s i.toNat+1+(j-1-i.toNat:Nat):=by
    rw[h3,w5f _ _ _ _ ow,zam ow,wo5 _ _ _ hil ow,zaj ow]
   refine⟨qa7,ow,ow,qa7,ow,ow,qa7,(j+1,r.set j (nI r (j-1)+1)),⟨ow,ow,?_⟩,ow,by rfl,rfl⟩
   grind [x1n]
  ·have hjl:j=s.length:=ow
   have hr:r=xy0 s i.toNat:=by grind [x7o]
   have hlt2:nI s i.toNat<n-s.length+i.toNat:=by
    grind
   have hst:q5x n s=some (xy0 s i.toNat):=wh6 hil (λq h1 h2=>by grind) hlt2
   refine⟨(c+1,r),⟨hrl.trans hl,λ_=>?_,λh=>absurd (Int.lt_of_lt_of_le h hkn) (Int.lt_irrefl _)⟩,Nat.sub_lt_sub_left (Nat.lt_succ_of_lt hc) (zei c),rfl,rfl⟩
   grind
 ·show c=((qe9 n k).map λv=>((v,()):qa3 [qf1])).length
  simp_all [List.length_map,qe9,if_neg]
abbrev yx4:qa8:=ww6 false none [qc0,qc0] (λ_=>True) (λx=>.clo 203 (.cons (.imm (.cons (.lit (.int .i64 x.2.1)) .nil) 0) (.cons (.imm (.cons (.lit (.int .i64 x.1)) .nil) 0) .nil)))
theorem wh8:Meets Tryz.prog 154 yx4:=by
 refine q6s (snd (SpecsOk.nil _)) Tryz.func154 rfl rfl (λ_ _=>none) (λ_=>by kernel_rfl) dc ?_
 rintro⟨n,k,⟨⟩⟩ -
 revert n k
 intro(n:Int) (k:Int)
 refine vcr (((k=k/\True)/\(0:Nat)=(0:Nat))/\((n=n/\True)/\(0:Nat)=(0:Nat))/\True) ?_
 simp
def yx5 (l:List Int) (x:Int):Nat->Option Inv:=yo4 (.int .i64) l λe=>x==e
abbrev y4s:qa8:=qd9 true none [qf1,qc0] [qc0] (λx=>x.1.length<=1000000) (λx=>(ixT (.int .i64) (λe=>x.2.1==e) x.1,()))
theorem xk4:Meets Tryz.prog 104 y4s:=by
 refine mts (SpecsOk.nil _) Tryz.func104 (λx=>yx5 x.1 x.2.1) ?_
 rintro⟨l,x,⟨⟩⟩ h
 revert l x
 intro(l:List Int) (x:Int) (h:l.length<=1000000)
 refine vcs (∃(v0:Unit),∃(v1:Nat),(v1<=l.length/\∀(v2:Nat),Nat.le (Nat.succ v2) v1->(x==nI l v2)=false)/\(((0:Int)=(↑v1:Int)/\True)/\True)/\∀(v2:Nat),(v2<=l.length/\∀(v4:Nat),Nat.le (Nat.succ v4) v2->(x==nI l v4)=false)->(decide ((↑v2:Int)<(↑l.length:Int))=true->((0:Int)<=(↑v2:Int)/\(↑v2:Int)<(↑l.length:Int))/\((x==nI l v2)=true->(↑v2:Int)=ixT (Ty.int .i64) (λ(v6:Int)=>x==v6) l)/\((x==nI l v2)=false->fits .i64 ((↑v2:Int)+(1:Int))/\∃(v6:Nat),(v6<=l.length/\∀(v7:Nat),Nat.le (Nat.succ v7) v6->(x==nI l v7)=false)/\l.length-v6<l.length-v2/\((↑v2:Int)+(1:Int)=(↑v6:Int)/\True)/\True))/\(decide ((↑v2:Int)<(↑l.length:Int))=false->(-1:Int)=ixT (Ty.int .i64) (λ(v5:Int)=>x==v5) l)) ?_
 refine⟨(),0,⟨zaf _,λi hi=>absurd hi ow⟩,rfl,λk ⟨hk,hall⟩=>?_⟩
 refine⟨λhlt=>⟨hlt,λhf=>(wx4 (.int .i64) (λe=>x==e) l k hlt (λi hi=>beq_false_of_ne λe=>hall i hi e) (beq_iff_eq.2 hf)).symm,λhf=>⟨qa7,k+1,⟨ow,λi hi=>?_⟩,ow,ow⟩⟩,λhge=>(q7v (.int .i64) (λe=>x==e) l λi hi=>beq_false_of_ne λe=>hall i ow e).symm⟩
 grind
abbrev y4t:qa8:=qd9 true none [qf1,qc0] [.bool] (λx=>x.1.length<=1000000) (λx=>(x.1.any λe=>x.2.1==e,()))
theorem wy5:Meets Tryz.prog 156 y4t:=by
 refine mt0 (SpecsOk.cons xk4 (SpecsOk.nil _)) Tryz.func156 ?_
 rintro⟨l,x,⟨⟩⟩ h
 revert l x
 intro(l:List Int) (x:Int) (h:l.length<=1000000)
 refine vcs (l.length<=(1000000:Nat)/\decide ((0:Int)<=ixT (Ty.int .i64) (λ(v0:Int)=>x==v0) l)=List.any l λ(v0:Int)=>x==v0) ?_
 grind [qy8]
abbrev yg2:qa8:=qd9 true none [qc0] [.bool] (λ_=>True) (λx=>(x.1 != 0,()))
theorem w8k:Meets Tryz.prog 205 yg2:=by
 refine mt0 (SpecsOk.nil _) Tryz.func205 ?_
 rintro⟨n,⟨⟩⟩ -
 revert n
 intro(n:Int)
 exact vct ((n != (0:Int))=(n != (0:Ty.den qc0)))
def qx7 (l:List Int):Int:=ixT (.int .i64) (λe=>e != 0) l
def q9a (l:List Int):List Int:=if 0<=qx7 (qe4 l)/\nI (qe4 l) (qx7 (qe4 l)).toNat<0 then x1i (qe4 l) else qe4 l
abbrev yx6:qm2:=q7e (q1u []) false true 0 3 (.int .i64) (λrows _=>wn9 (nL rows 0)) (λ_ _=>.tup .nil) (λrows _=>[q9a (nL rows 0)])
structure x1q (l:List Int) (i:Nat) (r:List Int):Prop where
 le:i<=l.length
 eq:r=ovr (.int .i64) (λq=>0-nI l q) l i
def yg3 (T:q67) (l:List Int):Nat->Option Inv
 | 0=>some (Inv.of [0,20] 1 (λs:Nat × List Int=>[(0,.msl 0 (some 0)),(20,.lit (.int .i64 s.1))]) (λs=>[.mat 0 3 (.int .i64) [s.2] (some []) (some T)]) (λs=>x1q (qe4 l) s.1 s.2) (λs=>(qe4 l).length-s.1))
 | _=>none
theorem wi0 {l:List Int} (h:wn9 l):wn9 (qe4 l):=by
 unfold qe4
 split
 ·refine⟨by simpa using h.1,λx hx=>?_⟩
  obtain⟨y,hy,rfl⟩:=zbf.1 hx
  exact qt6 (h.2 y hy)
 omega
theorem w8l:qq3 Tryz.prog 157 yx6:=by
 refine q1w (yf2 (SpecsOk.cons (wx6 (fs:=[(205,yg2)]) (SpecsOk.cons w8k (SpecsOk.nil _))) (SpecsOk.nil _)) (MutsOk.cons q3y MutsOk.nil)) Tryz.func157 rfl rfl (qm5 []) (λT rows _=>yg3 T (nL rows 0)) (λ_ _ _=>by kernel_rfl) dc ?_ rfl
 rintro T rows ⟨⟩ h hone
 obtain⟨l,rfl⟩:∃l:List Int,rows=[l]:=by
  have h1:=hone rfl
  match rows,h1 with
  | [l],_=>simp
 have h:wn9 l:=h
 refine vcs (wn9 (nL [nL [l] (0:Nat)] (0:Nat))/\∃(v0:qa3 [Ty.int .i64]->Prop),∃(v1:qa3 [Ty.int .i64]->Bool),(∀(v2:Int × qa3._f [] PUnit.unit),v0 v2->True/\(v2.1 != (0:Ty.den qc0))=v1 v2)/\((nL (List.set [l] (0:Nat) (nL [qe4 (nL [nL [l] (0:Nat)] (0:Nat))] (0:Nat))) (0:Nat)).length<=(1000000:Nat)/\∀(v2:Nat),v2<(nL (List.set [l] (0:Nat) (nL [qe4 (nL [nL [l] (0:Nat)] (0:Nat))] (0:Nat))) (0:Nat)).length->v0 (nI (nL (List.set [l] (0:Nat) (nL [qe4 (nL [nL [l] (0:Nat)] (0:Nat))] (0:Nat))) (0:Nat)) v2,()))/\(decide ((0:Int)<=ixT (Ty.int .i64) (λ(v3:Int)=>v1 (v3,())) (nL (List.set [l] (0:Nat) (nL [qe4 (nL [nL [l] (0:Nat)] (0:Nat))] (0:Nat))) (0:Nat)))=true->((0:Int)<=ixT (Ty.int .i64) (λ(v3:Int)=>v1 (v3,())) (nL (List.set [l] (0:Nat) (nL [qe4 (nL [nL [l] (0:Nat)] (0:Nat))] (0:Nat))) (0:Nat))/\ixT (Ty.int .i64) (λ(v3:Int)=>v1 (v3,())) (nL (List.set [l] (0:Nat) (nL [qe4 (nL [nL [l] (0:Nat)] (0:Nat))] (0:Nat))) (0:Nat))<(↑(nL (List.set [l] (0:Nat) (nL [qe4 (nL [nL [l] (0:Nat)] (0:Nat))] (0:Nat))) (0:Nat)).length:Int))/\(ixT (Ty.int .i64) (λ(v3:Int)=>v1 (v3,())) (nL (List.set [l] (0:Nat) (nL [qe4 (nL [nL [l] (0:Nat)] (0:Nat))] (0:Nat))) (0:Nat))).toNat<(nL (List.set [l] (0:Nat) (nL [qe4 (nL [nL [l] (0:Nat)] (0:Nat))] (0:Nat))) (0:Nat)).length/\(decide (nI (nL (List.set [l] (0:Nat) (nL [qe4 (nL [nL [l] (0:Nat)] (0:Nat))] (0:Nat))) (0:Nat)) (ixT (Ty.int .i64) (λ(v4:Int)=>v1 (v4,())) (nL (List.set [l] (0:Nat) (nL [qe4 (nL [nL [l] (0:Nat)] (0:Nat))] (0:Nat))) (0:Nat))).toNat<(0:Int))=true->∃(v4:Unit),∃(v5:Nat × List Int),x1q (qe4 (nL [l] (0:Nat))) v5.1 v5.2/\((some (0:Nat)=some (0:Nat)/\(0:Int)=(↑v5.1:Int)/\True)/\(List.set [l] (0:Nat) (nL [qe4 (nL [nL [l] (0:Nat)] (0:Nat))] (0:Nat))=[v5.2]/\True/\T=T)/\True)/\∀(v6:Nat × List Int),x1q (qe4 (nL [l] (0:Nat))) v6.1 v6.2->(decide ((↑v6.1:Int)<(↑(nL (List.set [l] (0:Nat) (nL [qe4 (nL [nL [l] (0:Nat)] (0:Nat))] (0:Nat))) (0:Nat)).length:Int))=true->((0:Int)<=(↑v6.1:Int)/\(↑v6.1:Int)<(↑(nL [v6.2] (0:Nat)).length:Int))/\(↑v6.1:Int).toNat<(nL [v6.2] (0:Nat)).length/\fits .i64 ((0:Int)-nI (nL [v6.2] (0:Nat)) (↑v6.1:Int).toNat)/\((0:Int)<=(↑v6.1:Int)/\(↑v6.1:Int)<(↑(nL [v6.2] (0:Nat)).length:Int))/\(↑v6.1:Int).toNat<(nL [v6.2] (0:Nat)).length/\fits .i64 ((↑v6.1:Int)+(1:Int))/\∃(v9:Nat × List Int),x1q (qe4 (nL [l] (0:Nat))) v9.1 v9.2/\(qe4 (nL [l] (0:Nat))).length-v9.1<(qe4 (nL [l] (0:Nat))).length-v6.1/\(some (0:Nat)=some (0:Nat)/\(↑v6.1:Int)+(1:Int)=(↑v9.1:Int)/\True)/\(List.set [v6.2] (0:Nat) (List.set (nL [v6.2] (0:Nat)) (↑v6.1:Int).toNat ((0:Int)-nI (nL [v6.2] (0:Nat)) (↑v6.1:Int).toNat))=[v9.2]/\True/\T=T)/\True)/\(decide ((↑v6.1:Int)<(↑(nL (List.set [l] (0:Nat) (nL [qe4 (nL [nL [l] (0:Nat)] (0:Nat))] (0:Nat))) (0:Nat)).length:Int))=false->[v6.2]=[q9a (nL [l] (0:Nat))]/\T=T/\True/\(0:Nat)=(0:Nat)))/\(decide (nI (nL (List.set [l] (0:Nat) (nL [qe4 (nL [nL [l] (0:Nat)] (0:Nat))] (0:Nat))) (0:Nat)) (ixT (Ty.int .i64) (λ(v4:Int)=>v1 (v4,())) (nL (List.set [l] (0:Nat) (nL [qe4 (nL [nL [l] (0:Nat)] (0:Nat))] (0:Nat))) (0:Nat))).toNat<(0:Int))=false->List.set [l] (0:Nat) (nL [qe4 (nL [nL [l] (0:Nat)] (0:Nat))] (0:Nat))=[q9a (nL [l] (0:Nat))]/\T=T/\True/\(0:Nat)=(0:Nat)))/\(decide ((0:Int)<=ixT (Ty.int .i64) (λ(v3:Int)=>v1 (v3,())) (nL (List.set [l] (0:Nat) (nL [qe4 (nL [nL [l] (0:Nat)] (0:Nat))] (0:Nat))) (0:Nat)))=false->List.set [l] (0:Nat) (nL [qe4 (nL [nL [l] (0:Nat)] (0:Nat))] (0:Nat))=[q9a (nL [l] (0:Nat))]/\T=T/\True/\(0:Nat)=(0:Nat))) ?_
 have hs:=wi0 h
 have hl:=hs.1
 refine⟨h,λ_=>True,λx=>x.1 != 0,λ_ _=>rfl,⟨ow,λ_ _=>trivial⟩,λh1=>?_,λh1=>?_⟩
 ·have h1:0<=qx7 (qe4 l):=by first | exact zbi h1 | exact h1
  have h2:qx7 (qe4 l)<(qe4 l).length:=(x42 (.int .i64) _ _).1
  refine⟨⟨h1,h2⟩,by grind [qx7,qe4],λh3=>?_,λh3=>?_⟩
  ·have h3:nI (qe4 l) (qx7 (qe4 l)).toNat<0:=by first | exact zbi h3 | exact h3
   have hp:q9a l=x1i (qe4 l):=by simp_all [q9a,if_pos]
   refine⟨(),(0,qe4 l),⟨zaf _,(q4w (.int .i64) _ _).symm⟩,⟨rfl,rfl⟩,?_⟩
   rintro⟨i,r⟩ ⟨k1,k2⟩
   dsimp only at k1 k2 ⊢
   have hrl:r.length=(qe4 l).length:=by grind [q0p]
   refine⟨λhlt=>?_,λhge=>?_⟩
   ·have hv:nI r i=nI (qe4 l) i:=by
     rw[k2]
     exact(wg9 (.int .i64) _ _ _ _ hlt).trans (zaj (zbe _))
    have hb:=q81 hs hlt
    unfold qe5 BIG at hb
    rw[hv]
    refine⟨ow,ow,qa7,ow,ow,qa7,(i+1,r.set i (0-nI (qe4 l) i)),⟨ow,?_⟩,ow,by rfl,rfl⟩
    grind [q2s,nI,qe4]
   ·rw[hp,k2]
    exact q8z (.int .i64) _ _ _ ow
  ·have h3:¬nI (qe4 l) (qx7 (qe4 l)).toNat<0:=by first | exact zde h3 | exact h3 | exact zbo.2 h3
   simp_all [q9a,if_neg]
 ·have h1:¬0<=qx7 (qe4 l):=by first | exact zde h1 | exact h1 | exact zdr.2 h1
  unfold q9a; grind
def q7f (r:List (List Int)) (piv:List Int) (f k:Nat):Int:=(nI (nL r k) (nI piv k).toNat).tdiv (gcdI (nI (nL r k) (nI piv k).toNat) (nI (nL r k) f))
def qf4 (r:List (List Int)) (piv:List Int) (f:Nat):Nat->Int
 | 0=>1
 | k+1=>qf4 r piv f k*(q7f r piv f k).tdiv (gcdI (qf4 r piv f k) (q7f r piv f k))
def hTo (r:List (List Int)) (piv:List Int) (n f:Nat):Nat->List Int
 | 0=>(List.replicate n 0).set f (qf4 r piv f piv.length)
 | k+1=>(hTo r piv n f k).set (nI piv k).toNat (((0-nI (nL r k) f)*qf4 r piv f piv.length).tdiv (nI (nL r k) (nI piv k).toNat))
def qp4 (r:List (List Int)) (piv:List Int) (n:Nat):Nat->List (List Int)
 | 0=>[]
 | f+1=>if piv.any λe=>(f:Int)==e then qp4 r piv n f else qp4 r piv n f++[qe4 (hTo r piv n f piv.length)]
def q33 (m:List (List Int)) (pix:List Int):List (List Int):=qb3 m pix λ_=>[]
def qj7 (m:List (List Int)) (pix:List Int):List (List Int) × List Int:=qb5 (q33 m pix) pix.length
def qn1 (m:List (List Int)) (pix:List Int):List (List Int):=qp4 (qj7 m pix).1 (qj7 m pix).2 pix.length pix.length
structure x1r (r:List (List Int)) (piv:List Int) (n:Nat):Prop where
 nz:∀k,k<piv.length->nI (nL r k) (nI piv k).toNat≠0
 big:∀k,k<piv.length->∀i,i<n->qe5 BIG (nI (nL r k) i)
 tm:∀f,f<n->(piv.any λe=>(f:Int)==e)=false->∀k,k<=piv.length->qe5 BIG (qf4 r piv f k)/\qf4 r piv f k≠0
 pr:∀f,f<n->(piv.any λe=>(f:Int)==e)=false->∀k,k<piv.length->qe5 BIG ((0-nI (nL r k) f)*qf4 r piv f piv.length)
structure w8m (m:List (List Int)) (pix:List Int):Prop where
 cho:ChoOk m pix (λ_=>True) (λ_=>[])
 red:q5v (q33 m pix) pix.length pix.length
 ar:x1r (qj7 m pix).1 (qj7 m pix).2 pix.length
theorem q42 (R:List (List Int)):∀j,∀e∈(qb5 R j).2,0<=e/\e<(j:Int)
 | 0=>λe h=>by cases h
 | j+1=>λe h=>by
  rw[qb5,qx6] at h
  split at h
  ·have:=q42 R j e h; omega
  ·rcases zak.1 h with h | h
   ·have:=q42 R j e h; omega
   grind
theorem q9b (r:List (List Int)) (piv:List Int) (n f:Nat):∀k,(hTo r piv n f k).length=n
 | 0=>by simp[hTo]
 | k+1=>by rw[hTo,zbd]; exact q9b r piv n f k
theorem wy6 (r:List (List Int)) (piv:List Int) (n:Nat):∀f,(qp4 r piv n f).length<=f
 | 0=>zac _
 | f+1=>by
  have:=wy6 r piv n f
  grind [qp4]
theorem w2m {r:List (List Int)} {piv:List Int} {n f:Nat} (h:x1r r piv n) (hf:f<n) (hfree:(piv.any λe=>(f:Int)==e)=false):∀k,k<=piv.length->∀x∈hTo r piv n f k,qe5 BIG x
 | 0,_,x,hx=>by
  rw[hTo] at hx
  rcases zaz hx with hx | rfl
  ·obtain rfl:=(zda.1 hx).2
   grind [BIG]
  ·exact(h.tm f hf hfree _ (zac _)).1
 | k+1,hk,x,hx=>by
  rw[hTo] at hx
  rcases zaz hx with hx | rfl
  ·exact w2m h hf hfree k ow x hx
  ·exact qt6 (h.pr f hf hfree k ow)
abbrev y4u:qa8:=qd9 true none [qg1,qf1] [qg1] (λx=>w8m x.1 x.2.1) (λx=>(qn1 x.1 x.2.1,()))
def yx7 (m:List (List Int)) (pix:List Int):Nat->Option Inv
 | 0=>some (Inv.of [5,7,25] 2 (λf:Nat=>[(5,.msl 0 .none),(7,.msl 1 .none),(25,.lit (.int .i64 f))]) (λf=>[.mat 24 3 (.int .i64) (qj7 m pix).1 .none .none,.mat 24 3 (.int .i64) (qp4 (qj7 m pix).1 (qj7 m pix).2 pix.length f) .none .none]) (λf=>f<=pix.length) (λf=>pix.length-f))
 | 1=>some (Eng.Inv.mk Nat Nat [5,7,9,33] 2 (λf k=>[(5,.msl 0 .none),(7,.msl 1 .none),(9,.lit (.int .i64 (qf4 (qj7 m pix).1 (qj7 m pix).2 f k))),(33,.lit (.int .i64 k))]) (λf k=>[.mat 24 3 (.int .i64) (qj7 m pix).1 .none .none,.mat 24 3 (.int .i64) (qp4 (qj7 m pix).1 (qj7 m pix).2 pix.length f) .none .none]) (λf k=>k<=(qj7 m pix).2.length) (λf k=>(qj7 m pix).2.length-k))
 | 2=>some (Eng.Inv.mk Nat Nat [5,7,13,78] 3 (λf k=>[(5,.msl 0 .none),(7,.msl 1 .none),(13,.own 2),(78,.lit (.int .i64 k))]) (λf k=>[.mat 24 3 (.int .i64) (qj7 m pix).1 .none .none,.mat 24 3 (.int .i64) (qp4 (qj7 m pix).1 (qj7 m pix).2 pix.length f) .none .none,.vec 3 (.int .i64) (hTo (qj7 m pix).1 (qj7 m pix).2 pix.length f k)]) (λf k=>k<=(qj7 m pix).2.length) (λf k=>(qj7 m pix).2.length-k))
 | _=>none
def yx8 (mats em:List Nat) (specs:List (Nat × qa8)) (muts:List (Nat × qm2)):Ctx:={ specs:=specs,tys:=tys,wr:=[],muts:=muts,mats:=mats,em:=em }
theorem x7r (mats em:List Nat) {specs:List (Nat × qa8)} {muts:List (Nat × qm2)} (h:SpecsOk Tryz.prog specs) (hm:MutsOk muts):Sound Tryz.prog (yx8 mats em specs muts):=SpecsOk.sound h q03 kr (hmu:=hm)
theorem xk5:Meets Tryz.prog 155 y4u:=by
 refine meets (x7r [109] [] (SpecsOk.cons (q84 (fs:=[(202,x7m)]) (SpecsOk.cons wh2 (SpecsOk.nil _))) (SpecsOk.cons wy5 (SpecsOk.cons qq7 (SpecsOk.nil _)))) (MutsOk.cons q88 (MutsOk.cons q3y MutsOk.nil))) Tryz.func155 rfl rfl (λx=>yx7 x.1 x.2.1) (λ_=>by kernel_rfl) dc ?_
 rintro⟨m,pix,⟨⟩⟩ h
 revert m pix
 intro(m:List (List Int)) (pix:List Int) (h:w8m m pix)
 refine vcs (let Q0:=qj7 m pix; let Q1:=qe1 Q0.1.length none; ∃(v0:qa3 [qc0]->Prop),∃(v1:qa3 [qc0]->List Int),(∀(v2:Int × qa3._f [] PUnit.unit),v0 v2->True/\[]=v1 v2)/\ChoOk m pix v0 v1/\((0:Ty.den qc0)<=(↑pix.length:Int)/\∃(v2:Nat),q5v (qb3 m pix λ(v3:Int)=>v1 (v3,())) (↑pix.length:Int).toNat v2)/\∃(v2:Unit),∃(v3:Nat),Nat.le v3 pix.length/\((True/\True/\(0:Int)=(↑v3:Int)/\True)/\((qb5 (qb3 m pix λ(v4:Int)=>v1 (v4,())) (↑pix.length:Int).toNat).1=Q0.1/\True/\True)/\qp4 Q0.1 Q0.2 pix.length v3=[]/\True)/\∀(v4:Nat),Nat.le v4 pix.length->(decide ((↑v4:Int)<(↑pix.length:Int))=true->(qb5 (qb3 m pix λ(v7:Int)=>v1 (v7,())) (↑pix.length:Int).toNat).2.length<=(1000000:Nat)/\((List.any (qb5 (qb3 m pix λ(v8:Int)=>v1 (v8,())) (↑pix.length:Int).toNat).2 λ(v8:Int)=>(↑v4:Int)==v8)=true->fits .i64 ((↑v4:Int)+(1:Int))/\∃(v8:Nat),Nat.le v8 pix.length/\pix.length-v8<pix.length-v4/\(True/\True/\(↑v4:Int)+(1:Int)=(↑v8:Int)/\True)/\(Q0.1=Q0.1/\True/\True)/\(qp4 Q0.1 Q0.2 pix.length v4=qp4 Q0.1 Q0.2 pix.length v8/\True/\True)/\True)/\((List.any (qb5 (qb3 m pix λ(v8:Int)=>v1 (v8,())) (↑pix.length:Int).toNat).2 λ(v8:Int)=>(↑v4:Int)==v8)=false->∃(v8:Nat),∃(v9:Nat),Nat.le v9 Q0.2.length/\((True/\True/\(1:Int)=qf4 Q0.1 Q0.2 v8 v9/\(0:Int)=(↑v9:Int)/\True)/\(Q0.1=Q0.1/\True/\True)/\(qp4 Q0.1 Q0.2 pix.length v4=qp4 Q0.1 Q0.2 pix.length v8/\True/\True)/\True)/\∀(v10:Nat),Nat.le v10 Q0.2.length->(decide ((↑v10:Int)<(↑(qb5 (qb3 m pix λ(v13:Int)=>v1 (v13,())) (↑pix.length:Int).toNat).2.length:Int))=true->((0:Int)<=(↑v10:Int)/\(↑v10:Int)<(↑(qb5 (qb3 m pix λ(v13:Int)=>v1 (v13,())) (↑pix.length:Int).toNat).2.length:Int))/\((0:Int)<=(↑v10:Int)/\(↑v10:Int)<(↑Q1:Int))/\v10<qe1 Q0.1.length none/\((0:Int)<=nI (qb5 (qb3 m pix λ(v13:Int)=>v1 (v13,())) (↑pix.length:Int).toNat).2 v10/\nI (qb5 (qb3 m pix λ(v13:Int)=>v1 (v13,())) (↑pix.length:Int).toNat).2 v10<(↑(nL Q0.1 (qe8 none v10)).length:Int))/\(nI (qb5 (qb3 m pix λ(v13:Int)=>v1 (v13,())) (↑pix.length:Int).toNat).2 v10).toNat<(nL Q0.1 (qe8 none v10)).length/\((0:Int)<=(↑v10:Int)/\(↑v10:Int)<(↑Q1:Int))/\v10<qe1 Q0.1.length none/\((0:Int)<=nI (qb5 (qb3 m pix λ(v13:Int)=>v1 (v13,())) (↑pix.length:Int).toNat).2 v10/\nI (qb5 (qb3 m pix λ(v13:Int)=>v1 (v13,())) (↑pix.length:Int).toNat).2 v10<(↑(nL Q0.1 (qe8 none v10)).length:Int))/\(nI (qb5 (qb3 m pix λ(v13:Int)=>v1 (v13,())) (↑pix.length:Int).toNat).2 v10).toNat<(nL Q0.1 (qe8 none v10)).length/\((0:Int)<=(↑v10:Int)/\(↑v10:Int)<(↑Q1:Int))/\v10<qe1 Q0.1.length none/\((0:Int)<=(↑v4:Int)/\(↑v4:Int)<(↑(nL Q0.1 (qe8 none v10)).length:Int))/\v4<(nL Q0.1 (qe8 none v10)).length/\(((-4000000000000000000:Int)<=nI (nL Q0.1 (qe8 none v10)) (nI (qb5 (qb3 m pix λ(v13:Int)=>v1 (v13,())) (↑pix.length:Int).toNat).2 v10).toNat/\nI (nL Q0.1 (qe8 none v10)) (nI (qb5 (qb3 m pix λ(v13:Int)=>v1 (v13,())) (↑pix.length:Int).toNat).2 v10).toNat<=BIG)/\(-4000000000000000000:Int)<=nI (nL Q0.1 (qe8 none v10)) v4/\nI (nL Q0.1 (qe8 none v10)) v4<=BIG)/\gcdI (nI (nL Q0.1 (qe8 none v10)) (nI (qb5 (qb3 m pix λ(v13:Int)=>v1 (v13,())) (↑pix.length:Int).toNat).2 v10).toNat) (nI (nL Q0.1 (qe8 none v10)) v4)≠(0:Int)/\fits .i64 (Int.tdiv (nI (nL Q0.1 (qe8 none v10)) (nI (qb5 (qb3 m pix λ(v13:Int)=>v1 (v13,())) (↑pix.length:Int).toNat).2 v10).toNat) (gcdI (nI (nL Q0.1 (qe8 none v10)) (nI (qb5 (qb3 m pix λ(v13:Int)=>v1 (v13,())) (↑pix.length:Int).toNat).2 v10).toNat) (nI (nL Q0.1 (qe8 none v10)) v4)))/\(((-4000000000000000000:Int)<=qf4 Q0.1 Q0.2 v8 v10/\qf4 Q0.1 Q0.2 v8 v10<=BIG)/\(-4000000000000000000:Int)<=Int.tdiv (nI (nL Q0.1 (qe8 none v10)) (nI (qb5 (qb3 m pix λ(v13:Int)=>v1 (v13,())) (↑pix.length:Int).toNat).2 v10).toNat) (gcdI (nI (nL Q0.1 (qe8 none v10)) (nI (qb5 (qb3 m pix λ(v13:Int)=>v1 (v13,())) (↑pix.length:Int).toNat).2 v10).toNat) (nI (nL Q0.1 (qe8 none v10)) v4))/\Int.tdiv (nI (nL Q0.1 (qe8 none v10)) (nI (qb5 (qb3 m pix λ(v13:Int)=>v1 (v13,())) (↑pix.length:Int).toNat).2 v10).toNat) (gcdI (nI (nL Q0.1 (qe8 none v10)) (nI (qb5 (qb3 m pix λ(v13:Int)=>v1 (v13,())) (↑pix.length:Int).toNat).2 v10).toNat) (nI (nL Q0.1 (qe8 none v10)) v4))<=BIG)/\gcdI (qf4 Q0.1 Q0.2 v8 v10) (Int.tdiv (nI (nL Q0.1 (qe8 none v10)) (nI (qb5 (qb3 m pix λ(v13:Int)=>v1 (v13,())) (↑pix.length:Int).toNat).2 v10).toNat) (gcdI (nI (nL Q0.1 (qe8 none v10)) (nI (qb5 (qb3 m pix λ(v13:Int)=>v1 (v13,())) (↑pix.length:Int).toNat).2 v10).toNat) (nI (nL Q0.1 (qe8 none v10)) v4)))≠(0:Int)/\fits .i64 (Int.tdiv (Int.tdiv (nI (nL Q0.1 (qe8 none v10)) (nI (qb5 (qb3 m pix λ(v13:Int)=>v1 (v13,())) (↑pix.length:Int).toNat).2 v10).toNat) (gcdI (nI (nL Q0.1 (qe8 none v10)) (nI (qb5 (qb3 m pix λ(v13:Int)=>v1 (v13,())) (↑pix.length:Int).toNat).2 v10).toNat) (nI (nL Q0.1 (qe8 none v10)) v4))) (gcdI (qf4 Q0.1 Q0.2 v8 v10) (Int.tdiv (nI (nL Q0.1 (qe8 none v10)) (nI (qb5 (qb3 m pix λ(v13:Int)=>v1 (v13,())) (↑pix.length:Int).toNat).2 v10).toNat) (gcdI (nI (nL Q0.1 (qe8 none v10)) (nI (qb5 (qb3 m pix λ(v13:Int)=>v1 (v13,())) (↑pix.length:Int).toNat).2 v10).toNat) (nI (nL Q0.1 (qe8 none v10)) v4)))))/\fits .i64 (qf4 Q0.1 Q0.2 v8 v10*Int.tdiv (Int.tdiv (nI (nL Q0.1 (qe8 none v10)) (nI (qb5 (qb3 m pix λ(v13:Int)=>v1 (v13,())) (↑pix.length:Int).toNat).2 v10).toNat) (gcdI (nI (nL Q0.1 (qe8 none v10)) (nI (qb5 (qb3 m pix λ(v13:Int)=>v1 (v13,())) (↑pix.length:Int).toNat).2 v10).toNat) (nI (nL Q0.1 (qe8 none v10)) v4))) (gcdI (qf4 Q0.1 Q0.2 v8 v10) (Int.tdiv (nI (nL Q0.1 (qe8 none v10)) (nI (qb5 (qb3 m pix λ(v13:Int)=>v1 (v13,())) (↑pix.length:Int).toNat).2 v10).toNat) (gcdI (nI (nL Q0.1 (qe8 none v10)) (nI (qb5 (qb3 m pix λ(v13:Int)=>v1 (v13,())) (↑pix.length:Int).toNat).2 v10).toNat) (nI (nL Q0.1 (qe8 none v10)) v4)))))/\fits .i64 ((↑v10:Int)+(1:Int))/\∃(v13:Nat),Nat.le v13 Q0.2.length/\Q0.2.length-v13<Q0.2.length-v10/\(True/\True/\qf4 Q0.1 Q0.2 v8 v10*Int.tdiv (Int.tdiv (nI (nL Q0.1 (qe8 none v10)) (nI (qb5 (qb3 m pix λ(v14:Int)=>v1 (v14,())) (↑pix.length:Int).toNat).2 v10).toNat) (gcdI (nI (nL Q0.1 (qe8 none v10)) (nI (qb5 (qb3 m pix λ(v14:Int)=>v1 (v14,())) (↑pix.length:Int).toNat).2 v10).toNat) (nI (nL Q0.1 (qe8 none v10)) v4))) (gcdI (qf4 Q0.1 Q0.2 v8 v10) (Int.tdiv (nI (nL Q0.1 (qe8 none v10)) (nI (qb5 (qb3 m pix λ(v14:Int)=>v1 (v14,())) (↑pix.length:Int).toNat).2 v10).toNat) (gcdI (nI (nL Q0.1 (qe8 none v10)) (nI (qb5 (qb3 m pix λ(v14:Int)=>v1 (v14,())) (↑pix.length:Int).toNat).2 v10).toNat) (nI (nL Q0.1 (qe8 none v10)) v4))))=qf4 Q0.1 Q0.2 v8 v13/\(↑v10:Int)+(1:Int)=(↑v13:Int)/\True)/\(Q0.1=Q0.1/\True/\True)/\(qp4 Q0.1 Q0.2 pix.length v8=qp4 Q0.1 Q0.2 pix.length v8/\True/\True)/\True)/\(decide ((↑v10:Int)<(↑(qb5 (qb3 m pix λ(v13:Int)=>v1 (v13,())) (↑pix.length:Int).toNat).2.length:Int))=false->((↑pix.length:Int)=(↑pix.length:Int)/\(0:Int)<=(↑pix.length:Int)/\(↑pix.length:Int)<=(1000000:Int))/\((0:Int)<=(↑v4:Int)/\(↑v4:Int)<(↑(List.replicate (↑pix.length:Int).toNat (Ty.dflt (TI.ty T3))).length:Int))/\v4<(List.replicate (↑pix.length:Int).toNat (Ty.dflt (TI.ty T3))).length/\∃(v13:Nat),∃(v14:Nat),Nat.le v14 Q0.2.length/\((True/\True/\True/\(0:Int)=(↑v14:Int)/\True)/\(Q0.1=Q0.1/\True/\True)/\(qp4 Q0.1 Q0.2 pix.length v8=qp4 Q0.1 Q0.2 pix.length v13/\True/\True)/\List.set (List.replicate (↑pix.length:Int).toNat (Ty.dflt (TI.ty T3))) v4 (qf4 Q0.1 Q0.2 v8 v10)=hTo Q0.1 Q0.2 pix.length v13 v14/\True)/\∀(v15:Nat),Nat.le v15 Q0.2.length->(decide ((↑v15:Int)<(↑(qb5 (qb3 m pix λ(v18:Int)=>v1 (v18,())) (↑pix.length:Int).toNat).2.length:Int))=true->((0:Int)<=(↑v15:Int)/\(↑v15:Int)<(↑(qb5 (qb3 m pix λ(v18:Int)=>v1 (v18,())) (↑pix.length:Int).toNat).2.length:Int))/\((0:Int)<=(↑v15:Int)/\(↑v15:Int)<(↑Q1:Int))/\v15<qe1 Q0.1.length none/\((0:Int)<=(↑v4:Int)/\(↑v4:Int)<(↑(nL Q0.1 (qe8 none v15)).length:Int))/\v4<(nL Q0.1 (qe8 none v15)).length/\fits .i64 ((0:Int)-nI (nL Q0.1 (qe8 none v15)) v4)/\fits .i64 (((0:Int)-nI (nL Q0.1 (qe8 none v15)) v4)*qf4 Q0.1 Q0.2 v8 v10)/\((0:Int)<=(↑v15:Int)/\(↑v15:Int)<(↑Q1:Int))/\v15<qe1 Q0.1.length none/\((0:Int)<=nI (qb5 (qb3 m pix λ(v18:Int)=>v1 (v18,())) (↑pix.length:Int).toNat).2 v15/\nI (qb5 (qb3 m pix λ(v18:Int)=>v1 (v18,())) (↑pix.length:Int).toNat).2 v15<(↑(nL Q0.1 (qe8 none v15)).length:Int))/\(nI (qb5 (qb3 m pix λ(v18:Int)=>v1 (v18,())) (↑pix.length:Int).toNat).2 v15).toNat<(nL Q0.1 (qe8 none v15)).length/\nI (nL Q0.1 (qe8 none v15)) (nI (qb5 (qb3 m pix λ(v18:Int)=>v1 (v18,())) (↑pix.length:Int).toNat).2 v15).toNat≠(0:Int)/\fits .i64 (Int.tdiv (((0:Int)-nI (nL Q0.1 (qe8 none v15)) v4)*qf4 Q0.1 Q0.2 v8 v10) (nI (nL Q0.1 (qe8 none v15)) (nI (qb5 (qb3 m pix λ(v18:Int)=>v1 (v18,())) (↑pix.length:Int).toNat).2 v15).toNat))/\((0:Int)<=nI (qb5 (qb3 m pix λ(v18:Int)=>v1 (v18,())) (↑pix.length:Int).toNat).2 v15/\nI (qb5 (qb3 m pix λ(v18:Int)=>v1 (v18,())) (↑pix.length:Int).toNat).2 v15<(↑(hTo Q0.1 Q0.2 pix.length v13 v15).length:Int))/\(nI (qb5 (qb3 m pix λ(v18:Int)=>v1 (v18,())) (↑pix.length:Int).toNat).2 v15).toNat<(hTo Q0.1 Q0.2 pix.length v13 v15).length/\fits .i64 ((↑v15:Int)+(1:Int))/\∃(v18:Nat),Nat.le v18 Q0.2.length/\Q0.2.length-v18<Q0.2.length-v15/\(True/\True/\True/\(↑v15:Int)+(1:Int)=(↑v18:Int)/\True)/\(Q0.1=Q0.1/\True/\True)/\(qp4 Q0.1 Q0.2 pix.length v13=qp4 Q0.1 Q0.2 pix.length v13/\True/\True)/\List.set (hTo Q0.1 Q0.2 pix.length v13 v15) (nI (qb5 (qb3 m pix λ(v19:Int)=>v1 (v19,())) (↑pix.length:Int).toNat).2 v15).toNat (Int.tdiv (((0:Int)-nI (nL Q0.1 (qe8 none v15)) v4)*qf4 Q0.1 Q0.2 v8 v10) (nI (nL Q0.1 (qe8 none v15)) (nI (qb5 (qb3 m pix λ(v19:Int)=>v1 (v19,())) (↑pix.length:Int).toNat).2 v15).toNat))=hTo Q0.1 Q0.2 pix.length v13 v18/\True)/\(decide ((↑v15:Int)<(↑(qb5 (qb3 m pix λ(v18:Int)=>v1 (v18,())) (↑pix.length:Int).toNat).2.length:Int))=false->wn9 (nL [hTo Q0.1 Q0.2 pix.length v13 v15] (0:Nat))/\((0:Nat)<(0:Nat)+(1:Nat)/\(qp4 Q0.1 Q0.2 pix.length v13).length+((0:Nat)+(1:Nat))<=(1000000:Nat))/\fits .i64 ((↑v4:Int)+(1:Int))/\∃(v18:Nat),Nat.le v18 pix.length/\pix.length-v18<pix.length-v4/\(True/\True/\(↑v4:Int)+(1:Int)=(↑v18:Int)/\True)/\(Q0.1=Q0.1/\True/\True)/\(qp4 Q0.1 Q0.2 pix.length v13++[nL [qe4 (nL [hTo Q0.1 Q0.2 pix.length v13 v15] (0:Nat))] (0:Nat)]=qp4 Q0.1 Q0.2 pix.length v18/\True/\True)/\True))))/\(decide ((↑v4:Int)<(↑pix.length:Int))=false->q3l (Ty.int .i64) (qp4 Q0.1 Q0.2 pix.length v4) none=qn1 m pix)) ?_
 have hcr:=h.cho.rows
 have hcc:=h.cho.cols
 have hrw:=h.red.w
 refine⟨λ_=>True,λ_=>[],λ_ _=>rfl,h.cho,⟨pix.length,h.red⟩,?_⟩
 have hkr:qb5 (qb3 m pix λ_=>[]) pix.length=qj7 m pix:=rfl
 have hsh:=q2y h.red pix.length
 have hpv:=q42 (q33 m pix) pix.length
 have har:=h.ar
 have hcl:(q33 m pix).length=m.length:=qr9 _ _ _
 simp only[Int.toNat_natCast]
 unfold qn1
 rw[hkr]
 change RedSh _ _ (qj7 m pix) _ at hsh
 change ∀e∈(qj7 m pix).2,_ at hpv
 generalize qj7 m pix=K at *
 obtain⟨R,P⟩:=K
 dsimp only at hpv har ⊢
 have hRn:=hsh.cnt
 have hRe:=hsh.each
 have hPn:=hsh.piv
 have hPj:=hsh.pivj
 dsimp only at hRn hRe hPn hPj
 have hPk:∀k,k<P.length->0<=nI P k/\nI P k<pix.length:=λk hk=>hpv _ (by grind [qf3,List.getElem_mem])
 simp only[q5w,q86,wy2]
 refine⟨(),0,zaf _,⟨by rfl,by simp,by rfl⟩,λf hf=>⟨λhlt=>⟨ow,λhin=>?_,λhfree=>?_⟩,λhge=>?_⟩⟩
 ·refine⟨qa7,f+1,ow,ow,ow,?_⟩
  rw[qp4,zam hin]
 ·refine⟨f,0,zaf _,⟨⟨rfl,rfl⟩,rfl⟩,λk hk=>⟨λhlk=>?_,λhgk=>?_⟩⟩
  ·have hp:=hPk k hlk
   have hr:=hRe k ow
   have hp':0<=nI P k/\nI P k<((nL R k).length:Int):=⟨hp.1,ow⟩
   have hb1:=har.big k hlk (nI P k).toNat ow
   have hb2:=har.big k hlk f hlt
   have hz:=har.nz k hlk
   have ht:=har.tm f hlt hfree k hk
   have ht2:=(har.tm f hlt hfree (k+1) hlk).1
   have e2:qf4 R P f (k+1)=qf4 R P f k*(q7f R P f k).tdiv (gcdI (qf4 R P f k) (q7f R P f k)):=rfl
   have hq:qe5 BIG (q7f R P f k):=qt6 hb1
   have e1:(nI (nL R k) (nI P k).toNat).tdiv (gcdI (nI (nL R k) (nI P k).toNat) (nI (nL R k) f))=q7f R P f k:=rfl
   rw[e1,<- e2]
   have hq2:qe5 BIG ((q7f R P f k).tdiv (gcdI (qf4 R P f k) (q7f R P f k))):=qt6 hq
   have g1:=qo1 (a:=nI (nL R k) (nI P k).toNat) (b:=nI (nL R k) f) (Or.inl hz)
   have g2:=qo1 (a:=qf4 R P f k) (b:=q7f R P f k) (Or.inl ht.2)
   have hB:BIG=4000000000000000000:=rfl
   unfold qe5 at *
   refine⟨hlk,ow,ow,hp',ow,ow,ow,hp',ow,ow,ow,ow,ow,⟨hb1,hb2⟩,ow,qa7,⟨ht.1,hq⟩,ow,qa7,qa7,qa7,k+1,ow,ow,rfl,ow⟩
  ·obtain rfl:k=P.length:=ow
   have hl0:(List.replicate pix.length T3.ty.dflt).length=pix.length:=zct
   refine⟨ow,ow,ow,f,0,zaf _,⟨rfl,rfl,rfl⟩,λk hk=>⟨λhlk=>?_,λhgk=>?_⟩⟩
   ·have hp:=hPk k hlk
    have hr:=hRe k ow
    have hp':0<=nI P k/\nI P k<((nL R k).length:Int):=⟨hp.1,ow⟩
    have hb2:=har.big k hlk f hlt
    have hz:=har.nz k hlk
    have hpr:=har.pr f hlt hfree k hlk
    have hq:qe5 BIG (((0-nI (nL R k) f)*qf4 R P f P.length).tdiv (nI (nL R k) (nI P k).toNat)):=qt6 hpr
    have hl:=q9b R P pix.length f k
    have hp'':0<=nI P k/\nI P k<((hTo R P pix.length f k).length:Int):=⟨hp.1,ow⟩
    have hB:BIG=4000000000000000000:=rfl
    unfold qe5 at *
    refine⟨hlk,ow,ow,ow,ow,qa7,qa7,ow,ow,hp',ow,hz,qa7,hp'',ow,qa7,k+1,ow,ow,ow,rfl⟩
   ·obtain rfl:k=P.length:=ow
    have hl:=q9b R P pix.length f P.length
    have hkl:=wy6 R P pix.length f
    refine⟨⟨ow,w2m har hlt hfree _ (zac _)⟩,ow,qa7,f+1,ow,ow,ow,?_⟩
    rw[qp4,zaj (by grind)]
 grind
structure Named (n:Nat) (pix:List Int):Prop where
 at_:∀j,j<pix.length->0<=nI pix j/\nI pix j<n
 asc:∀i j,i<j->j<pix.length->nI pix i<nI pix j
theorem Named.of {n:Nat} {pix:List Int} (h:w5b n pix=0):Named n pix:=by
 unfold w5b at h
 split at h
 ·cases h
 ·rename_i ha
  split at h
  ·cases h
  ·rename_i hb
   have ha:=q4x.1 (by cases e:x1f pix with | true=>rfl | false=>grind)
   refine⟨λj hj=>?_,λi j hij hj=>?_⟩
   ·rw[Bool.not_eq_true,zbx] at hb
    grind [nI,qf3,List.getElem_mem,qh1]
   ·induction j with
    | zero=>omega
    | succ j ih=>
     grind
theorem Named.gap {n:Nat} {pix:List Int} (h:Named n pix):∀j,j<pix.length->(j:Int)<=nI pix j
 | 0,hj=>by have:=(h.at_ 0 hj).1; omega
 | j+1,hj=>by have:=h.gap j ow; have:=h.asc j (j+1) ow hj; omega
theorem Named.len {n:Nat} {pix:List Int} (h:Named n pix):pix.length<=n:=by
 rcases zbt pix.length with e | e
 ·omega
 ·have h1:=h.gap (pix.length-1) ow
  have h2:=(h.at_ (pix.length-1) ow).2
  omega
theorem Named.idx (n:Nat):Named n (qp1 n):=by
 refine⟨λj hj=>?_,λi j hij hj=>?_⟩
 all_goals grind [qf6,q31]
structure Asked (m:List (List Int)) (y pix:List Int):Prop where
 msk:Mk m
 val:qb6 m=true
 len:y.length=m.length
 out:wx9 y=false
 nam:Named (nL m 0).length pix
theorem Asked.of {m:List (List Int)} {y pix:List Int} (h:qq8 m y pix=0):Asked m y pix:=by
 unfold qq8 at h
 split at h
 ·cases h
 ·rename_i hv
  have hv:qb6 m=true:=by grind
  split at h
  ·cases h
  ·rename_i hl
   split at h
   ·cases h
   ·rename_i ho
    unfold w5c at h
    rw[zaj ow] at h
    exact⟨Mk.of hv,hv,Decidable.not_not.1 hl,by grind,Named.of h⟩
theorem Asked.at_ {m:List (List Int)} {y pix:List Int} (h:Asked m y pix) (i:Nat) (hi:i<m.length):qe5 1000000 (nI y i):=by
 have h1:=h.out
 unfold wx9 at h1
 rw[zbx] at h1
 have:=h1 (nI y i) (by rw[qf3 y i (by rw[h.len]; omega)]; simp)
 grind [qh1]
theorem ChoOk.of {m:List (List Int)} {pix:List Int} (hM:Mk m) (hn:Named (nL m 0).length pix) {p:qa3 [.int .i64]->Prop} {f:qa3 [.int .i64]->List Int} (hf:∀i:Nat,i<m.length->p ((i:Int),())/\(f ((i:Int),())).length<=10000):ChoOk m pix p f:=by
 have h1:=hM.rows6
 have h2:=hn.len
 have h3:=hM.pix10
 refine⟨ow,ow,λi hi j hj=>?_,hf⟩
 have:=hn.at_ j hj
 rw[hM.each i hi]
 omega
structure w5g (m:List (List Int)):Prop where
 red:q5v (q33 m (qp1 (nL m 0).length)) (nL m 0).length (nL m 0).length
def q0r (m:List (List Int)):Int × Int:=if qb6 m=false then(0,1) else((qj7 m (qp1 (nL m 0).length)).2.length,0)
abbrev yx9:qa8:=qd9 true none [qg1] [qc0,qc0] (λx=>qb6 x.1=true->w5g x.1) (λx=>((q0r x.1).1,(q0r x.1).2,()))
theorem w8n:Meets Tryz.prog 153 yx9:=by
 refine meets (x7r [] [] (SpecsOk.cons qx3 (SpecsOk.cons q83 (SpecsOk.cons (q84 (fs:=[(202,x7m)]) (SpecsOk.cons wh2 (SpecsOk.nil _))) (SpecsOk.nil _)))) (MutsOk.cons q88 MutsOk.nil)) Tryz.func153 rfl rfl (λ_ _=>none) (λ_=>by kernel_rfl) dc ?_
 rintro⟨m,⟨⟩⟩ h
 revert m
 intro(m:List (List Int)) (h:qb6 m=true->w5g m)
 refine vcs (True/\((!qb6 m)=true->(0:Int)=(q0r m).1/\(1:Int)=(q0r m).2/\True)/\((!qb6 m)=false->((0:Int)<=(0:Int)/\(0:Int)<(↑m.length:Int))/\(↑(nL m (0:Nat)).length:Int)<=(100000:Ty.den qc0)/\∃(v1:qa3 [qc0]->Prop),∃(v2:qa3 [qc0]->List Int),(∀(v3:Int × qa3._f [] PUnit.unit),v1 v3->True/\[]=v2 v3)/\ChoOk m (qp1 (↑(nL m (0:Nat)).length:Int).toNat) v1 v2/\((0:Int)<=(0:Int)/\(0:Int)<(↑m.length:Int))/\((0:Ty.den qc0)<=(↑(nL m (0:Nat)).length:Int)/\∃(v3:Nat),q5v (qb3 m (qp1 (↑(nL m (0:Nat)).length:Int).toNat) λ(v4:Int)=>v2 (v4,())) (↑(nL m (0:Nat)).length:Int).toNat v3)/\(↑(qb5 (qb3 m (qp1 (↑(nL m (0:Nat)).length:Int).toNat) λ(v3:Int)=>v2 (v3,())) (↑(nL m (0:Nat)).length:Int).toNat).2.length:Int)=(q0r m).1/\(0:Int)=(q0r m).2/\True)) ?_
 refine⟨λhv=>by grind [q0r],λhv=>?_⟩
 have hM:=Mk.of hv
 have h1:=hM.rows1
 have h2:=hM.pix10
 have hr:=(h hv).red
 have e:q0r m=(((qj7 m (qp1 (nL m 0).length)).2.length:Int),0):=by grind [q0r]
 rw[e]
 refine⟨ow,ow,λ_=>True,λ_=>[],λ_ _=>rfl,ChoOk.of hM (Named.idx _) λ_ _=>⟨trivial,zaf _⟩,ow,⟨_,hr⟩,?_,rfl⟩
 unfold qj7
 rw[qf6]
 rfl
def qb8 (m:List (List Int)) (pix y:List Int):List (List Int):=qb3 m pix λi=>[nI y i.toNat]
def qr2 (m:List (List Int)) (pix y:List Int):List (List Int) × List Int:=qb5 (qb8 m pix y) pix.length
def q34 (R:List (List Int)) (P:List Int) (n:Nat):Bool:=(List.range R.length).any λk=>decide (P.length<=k) && nI (nL R k) n != 0
def q7g (R:List (List Int)) (P:List Int) (n k:Nat):Int × Int:=ofR (nI (nL R k) n) (nI (nL R k) (nI P k).toNat)
def w1m (R:List (List Int)) (P:List Int) (n:Nat):List (Int × Int) × Int:=if q34 R P n then([],8) else if P.length<n then([],11) else((List.range P.length).map (q7g R P n),0)
def qy0 (m:List (List Int)) (pix y:List Int):List (Int × Int) × Int:=if qq8 m y pix=0 then w1m (qr2 m pix y).1 (qr2 m pix y).2 pix.length else([],qq8 m y pix)
structure yy0 (R:List (List Int)) (P:List Int) (n:Nat):Prop where
 nz:∀k,k<P.length->nI (nL R k) (nI P k).toNat≠0
 bigD:∀k,k<P.length->qe5 BIG (nI (nL R k) (nI P k).toNat)
 bigN:∀k,k<P.length->qe5 BIG (nI (nL R k) n)
structure yg4 (m:List (List Int)) (pix y:List Int):Prop where
 red:q5v (qb8 m pix y) pix.length (pix.length+1)
 ar:yy0 (qr2 m pix y).1 (qr2 m pix y).2 pix.length
structure q43 (m:List (List Int)) (pix y:List Int):Prop where
 len:pix.length<=1000000
 ok:qq8 m y pix=0->yg4 m pix y
abbrev y4v:qa8:=qd9 true (some 43) [qg1,qf1,qf1] [q3b,qc0] (λx=>q43 x.1 x.2.1 x.2.2.1) (λx=>((qy0 x.1 x.2.1 x.2.2.1).1,(qy0 x.1 x.2.1 x.2.2.1).2,()))
structure xk6 (R:List (List Int)) (P:List Int) (n k:Nat) (l:List (Int × Int)):Prop where
 le:k<=R.length
 eq:l=(List.range (min k P.length)).map (q7g R P n)
 no:∀i,P.length<=i->i<k->nI (nL R i) n=0
def yy1 (m:List (List Int)) (pix y:List Int):Nat->Option Inv
 | 0=>some (Inv.of [10,12,31,33] 3 (λs:Nat × List (Int × Int)=>[(10,.msl 1 .none),(12,.own 2),(31,.msl 1 .none),(33,.lit (.int .i64 s.1))]) (λs=>[.box 24 (.cons (.dat (.int .i64) y) .nil),.mat 24 3 (.int .i64) (qr2 m pix y).1 .none .none,.vec 43 (.prod (.int .i64) (.int .i64)) s.2]) (λs=>xk6 (qr2 m pix y).1 (qr2 m pix y).2 pix.length s.1 s.2) (λs=>(qr2 m pix y).1.length-s.1))
 | _=>none
theorem xk7:Meets Tryz.prog 212 y4v:=by
 refine meets (x7r [] [] (SpecsOk.cons q82 (SpecsOk.cons (q84 (fs:=[(264,yf8)]) (SpecsOk.cons w8c (SpecsOk.nil _))) (SpecsOk.cons wn8 (SpecsOk.nil _)))) (MutsOk.cons q88 MutsOk.nil)) Tryz.func212 rfl rfl (λx=>yy1 x.1 x.2.1 x.2.2.1) (λ_=>by kernel_rfl) dc ?_
 rintro⟨m,pix,y,⟨⟩⟩ h
 revert m pix y
 intro(m:List (List Int)) (pix:List Int) (y:List Int) (h:q43 m pix y)
 refine vcs (let Q0:=qr2 m pix y; let Q1:=qy0 m pix y; let Q2:=Int × Int; pix.length<=(1000000:Nat)/\((qq8 m y pix != (0:Int))=true->Q1.1=[]/\qq8 m y pix=Q1.2/\True)/\((qq8 m y pix != (0:Int))=false->∃(v1:qa3 [qc0]->Prop),∃(v2:qa3 [qc0]->List Int),(∀(v3:Int × qa3._f [] PUnit.unit),v1 v3->((0:PTy.den (PTy.d qc0))<=v3.1/\v3.1<(↑y.length:PTy.den (PTy.d qc0)))/\[nI y v3.1.toNat]=v2 v3)/\ChoOk m pix v1 v2/\((0:Ty.den qc0)<=(↑pix.length:Int)/\∃(v3:Nat),q5v (qb3 m pix λ(v4:Int)=>v2 (v4,())) (↑pix.length:Int).toNat v3)/\∃(v3:Unit),∃(v4:Nat × List Q2),xk6 Q0.1 Q0.2 pix.length v4.1 v4.2/\((True/\True/\True/\(0:Int)=(↑v4.1:Int)/\True)/\(y=y/\True)/\((qb5 (qb3 m pix λ(v5:Int)=>v2 (v5,())) (↑pix.length:Int).toNat).1=Q0.1/\True/\True)/\v4.2=[]/\True)/\∀(v5:Nat × List Q2),xk6 Q0.1 Q0.2 pix.length v5.1 v5.2->(decide ((↑v5.1:Int)<(↑(qe1 (qb5 (qb3 m pix λ(v8:Int)=>v2 (v8,())) (↑pix.length:Int).toNat).1.length none):Int))=true->((0:Int)<=(↑v5.1:Int)/\(↑v5.1:Int)<(↑(qe1 Q0.1.length none):Int))/\(↑v5.1:Int).toNat<qe1 Q0.1.length none/\(decide ((↑v5.1:Int)<(↑(qb5 (qb3 m pix λ(v9:Int)=>v2 (v9,())) (↑pix.length:Int).toNat).2.length:Int))=true->((0:Int)<=(↑pix.length:Int)/\(↑pix.length:Int)<(↑(nL Q0.1 (qe8 none (↑v5.1:Int).toNat)).length:Int))/\(↑pix.length:Int).toNat<(nL Q0.1 (qe8 none (↑v5.1:Int).toNat)).length/\((0:Int)<=(↑v5.1:Int)/\(↑v5.1:Int)<(↑(qb5 (qb3 m pix λ(v9:Int)=>v2 (v9,())) (↑pix.length:Int).toNat).2.length:Int))/\((0:Int)<=nI (qb5 (qb3 m pix λ(v9:Int)=>v2 (v9,())) (↑pix.length:Int).toNat).2 (↑v5.1:Int).toNat/\nI (qb5 (qb3 m pix λ(v9:Int)=>v2 (v9,())) (↑pix.length:Int).toNat).2 (↑v5.1:Int).toNat<(↑(nL Q0.1 (qe8 none (↑v5.1:Int).toNat)).length:Int))/\(nI (qb5 (qb3 m pix λ(v9:Int)=>v2 (v9,())) (↑pix.length:Int).toNat).2 (↑v5.1:Int).toNat).toNat<(nL Q0.1 (qe8 none (↑v5.1:Int).toNat)).length/\(((-4000000000000000000:Int)<=nI (nL Q0.1 (qe8 none (↑v5.1:Int).toNat)) (↑pix.length:Int).toNat/\nI (nL Q0.1 (qe8 none (↑v5.1:Int).toNat)) (↑pix.length:Int).toNat<=BIG)/\((-4000000000000000000:Int)<=nI (nL Q0.1 (qe8 none (↑v5.1:Int).toNat)) (nI (qb5 (qb3 m pix λ(v9:Int)=>v2 (v9,())) (↑pix.length:Int).toNat).2 (↑v5.1:Int).toNat).toNat/\nI (nL Q0.1 (qe8 none (↑v5.1:Int).toNat)) (nI (qb5 (qb3 m pix λ(v9:Int)=>v2 (v9,())) (↑pix.length:Int).toNat).2 (↑v5.1:Int).toNat).toNat<=BIG)/\nI (nL Q0.1 (qe8 none (↑v5.1:Int).toNat)) (nI (qb5 (qb3 m pix λ(v9:Int)=>v2 (v9,())) (↑pix.length:Int).toNat).2 (↑v5.1:Int).toNat).toNat≠(0:Ty.den qc0))/\((0:Nat)<List.length [((ofR (nI (nL Q0.1 (qe8 none (↑v5.1:Int).toNat)) (↑pix.length:Int).toNat) (nI (nL Q0.1 (qe8 none (↑v5.1:Int).toNat)) (nI (qb5 (qb3 m pix λ(v9:Int)=>v2 (v9,())) (↑pix.length:Int).toNat).2 (↑v5.1:Int).toNat).toNat)).1,(ofR (nI (nL Q0.1 (qe8 none (↑v5.1:Int).toNat)) (↑pix.length:Int).toNat) (nI (nL Q0.1 (qe8 none (↑v5.1:Int).toNat)) (nI (qb5 (qb3 m pix λ(v9:Int)=>v2 (v9,())) (↑pix.length:Int).toNat).2 (↑v5.1:Int).toNat).toNat)).2)]/\Nat.le (v5.2.length+List.length [((ofR (nI (nL Q0.1 (qe8 none (↑v5.1:Int).toNat)) (↑pix.length:Int).toNat) (nI (nL Q0.1 (qe8 none (↑v5.1:Int).toNat)) (nI (qb5 (qb3 m pix λ(v9:Int)=>v2 (v9,())) (↑pix.length:Int).toNat).2 (↑v5.1:Int).toNat).toNat)).1,(ofR (nI (nL Q0.1 (qe8 none (↑v5.1:Int).toNat)) (↑pix.length:Int).toNat) (nI (nL Q0.1 (qe8 none (↑v5.1:Int).toNat)) (nI (qb5 (qb3 m pix λ(v9:Int)=>v2 (v9,())) (↑pix.length:Int).toNat).2 (↑v5.1:Int).toNat).toNat)).2)]) (1000000:Nat))/\fits .i64 ((↑v5.1:Int)+(1:Int))/\∃(v9:Nat × List Q2),xk6 Q0.1 Q0.2 pix.length v9.1 v9.2/\Q0.1.length-v9.1<Q0.1.length-v5.1/\(True/\True/\True/\(↑v5.1:Int)+(1:Int)=(↑v9.1:Int)/\True)/\(y=y/\True)/\(Q0.1=Q0.1/\True/\True)/\v5.2++[((ofR (nI (nL Q0.1 (qe8 none (↑v5.1:Int).toNat)) (↑pix.length:Int).toNat) (nI (nL Q0.1 (qe8 none (↑v5.1:Int).toNat)) (nI (qb5 (qb3 m pix λ(v10:Int)=>v2 (v10,())) (↑pix.length:Int).toNat).2 (↑v5.1:Int).toNat).toNat)).1,(ofR (nI (nL Q0.1 (qe8 none (↑v5.1:Int).toNat)) (↑pix.length:Int).toNat) (nI (nL Q0.1 (qe8 none (↑v5.1:Int).toNat)) (nI (qb5 (qb3 m pix λ(v10:Int)=>v2 (v10,())) (↑pix.length:Int).toNat).2 (↑v5.1:Int).toNat).toNat)).2)]=v9.2/\True)/\(decide ((↑v5.1:Int)<(↑(qb5 (qb3 m pix λ(v9:Int)=>v2 (v9,())) (↑pix.length:Int).toNat).2.length:Int))=false->((0:Int)<=(↑pix.length:Int)/\(↑pix.length:Int)<(↑(nL Q0.1 (qe8 none (↑v5.1:Int).toNat)).length:Int))/\(↑pix.length:Int).toNat<(nL Q0.1 (qe8 none (↑v5.1:Int).toNat)).length/\((nI (nL Q0.1 (qe8 none (↑v5.1:Int).toNat)) (↑pix.length:Int).toNat != (0:Int))=true->Q1.1=[]/\(8:Int)=Q1.2/\True)/\((nI (nL Q0.1 (qe8 none (↑v5.1:Int).toNat)) (↑pix.length:Int).toNat != (0:Int))=false->fits .i64 ((↑v5.1:Int)+(1:Int))/\∃(v10:Nat × List Q2),xk6 Q0.1 Q0.2 pix.length v10.1 v10.2/\Q0.1.length-v10.1<Q0.1.length-v5.1/\(True/\True/\True/\(↑v5.1:Int)+(1:Int)=(↑v10.1:Int)/\True)/\(y=y/\True)/\(Q0.1=Q0.1/\True/\True)/\v5.2=v10.2/\True)))/\(decide ((↑v5.1:Int)<(↑(qe1 (qb5 (qb3 m pix λ(v8:Int)=>v2 (v8,())) (↑pix.length:Int).toNat).1.length none):Int))=false->(decide ((↑(qb5 (qb3 m pix λ(v9:Int)=>v2 (v9,())) (↑pix.length:Int).toNat).2.length:Int)<(↑pix.length:Int))=true->Q1.1=[]/\(11:Int)=Q1.2/\True)/\(decide ((↑(qb5 (qb3 m pix λ(v9:Int)=>v2 (v9,())) (↑pix.length:Int).toNat).2.length:Int)<(↑pix.length:Int))=false->v5.2=Q1.1/\(0:Int)=Q1.2/\True)))) ?_
 refine⟨h.len,λhe=>by grind [qy0],λhe=>?_⟩
 have hA:=Asked.of he
 have hO:=h.ok he
 have e:qy0 m pix y=w1m (qr2 m pix y).1 (qr2 m pix y).2 pix.length:=by rw[qy0,zam he]
 rw[e]
 refine⟨λx=>0<=x.1/\x.1<y.length,λx=>[nI y x.1.toNat],λx hx=>⟨hx,rfl⟩,ChoOk.of hA.msk hA.nam λi hi=>⟨⟨zb3 _,Int.ofNat_lt.2 (by have:=hA.len; omega)⟩,by simp⟩,?_⟩
 dsimp only
 have hkr:qb5 (qb3 m pix λv4=>[nI y v4.toNat]) pix.length=qr2 m pix y:=rfl
 have hred:q5v (qb3 m pix λv4=>[nI y v4.toNat]) pix.length (pix.length+1):=hO.red
 have hsh:=q2y hred pix.length
 have hpv:=q42 (qb3 m pix λv4=>[nI y v4.toNat]) pix.length
 have har:=hO.ar
 have hcl:(qb3 m pix λv4=>[nI y v4.toNat]).length=m.length:=qr9 _ _ _
 have hm6:=hA.msk.rows6
 have hn10:=hA.msk.pix10
 have hpn:=hA.nam.len
 rw[hkr] at hsh hpv ⊢
 rw[hcl] at hsh
 refine⟨⟨_,hred⟩,?_⟩
 clear hkr hred hcl e
 generalize qr2 m pix y=K at *
 obtain⟨R,P⟩:=K
 dsimp only at hpv har ⊢
 have hRn:=hsh.cnt
 have hRe:=hsh.each
 have hPn:=hsh.piv
 have hPj:=hsh.pivj
 dsimp only at hRn hRe hPn hPj
 simp only[q5w,q86]
 have hPk:∀k,k<P.length->0<=nI P k/\nI P k<pix.length:=λk hk=>hpv _ (by grind [qf3,List.getElem_mem])
 refine⟨(),(0,[]),⟨zaf _,by simp,λi h1 h2=>absurd h2 (zar _)⟩,⟨rfl,by simp,rfl⟩,?_⟩
 rintro⟨k,l⟩ ⟨k1,k2,k3⟩
 dsimp only at k1 k2 k3 ⊢
 refine⟨λhlt=>⟨hlt,hlt,λhp=>?_,λhp=>?_⟩,λhge=>?_⟩
 ·have hr:=hRe k ow
  have hq:=hPk k hp
  have hp':0<=nI P k/\nI P k<((nL R k).length:Int):=⟨hq.1,ow⟩
  have hll:l.length=k:=by grind
  refine⟨ow,ow,ow,hp',ow,⟨har.bigN k hp,har.bigD k hp,har.nz k hp⟩,ow,qa7,(k+1,l++[q7g R P pix.length k]),⟨ow,?_,λi h1 h2=>by omega⟩,ow,by rfl,rfl⟩
  grind [min,List.range_succ]
 ·have hr:=hRe k ow
  refine⟨ow,ow,λhz=>?_,λhz=>?_⟩
  ·have:q34 R P pix.length=true:=by
    unfold q34
    grind
   grind [w1m]
  ·refine⟨qa7,(k+1,l),⟨ow,?_,λi h1 h2=>?_⟩,ow,by rfl,rfl⟩
   all_goals grind
 ·obtain rfl:k=R.length:=ow
  have hno:q34 R P pix.length=false:=by
   simp_all [q34,List.any_eq_false,List.mem_range,Bool.and_eq_true,decide_eq_true_eq,bne_iff_ne]
  refine⟨λh1=>by grind [w1m],λh1=>?_⟩
  rw[w1m,hno,zaj dc,zaj h1]
  grind
end Go.Proofs.YtnchigbbjajiiaaGreat
