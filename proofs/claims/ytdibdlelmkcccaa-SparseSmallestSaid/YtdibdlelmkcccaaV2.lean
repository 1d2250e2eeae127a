/- A row cleared by another one: contract by the engine. No condition. -/
import Derived.Test.YtdibdlelmkcccaaV1
set_option linter.unusedVariables false
set_option linter.unusedSimpArgs false
namespace Go.Proofs.Ytdibdlelmkcccaa
open Go Go.RowKit Eng
def xt7:Int:=2000000000000000000
def q1 (r b:List Int) (c:Nat):Int:=(nI b c).tdiv (qf2 (nI r c) (nI b c))
def q2 (r b:List Int) (c:Nat):Int:=(nI r c).tdiv (qf2 (nI r c) (nI b c))
def xk6 (r b:List Int) (c i:Nat):Int:=(nI r i)*q1 r b c-(nI b i)*q2 r b c
def q31 (r b:List Int) (c:Nat):List Int:=(List.range r.length).map (xk6 r b c)
def qv6 (r b:List Int) (c:Nat):List Int:=qe3 (q31 r b c)
structure wh1 (r b:List Int) (c:Nat):Prop where
 at_:c<r.length
 len:b.length=r.length
 max:r.length<=1000
 ne:(nI b c)≠(0:Int)
 bdr:qd2 BIG (nI r c)
 bdb:qd2 BIG (nI b c)
 one:∀i,i<r.length->qd2 xt7 ((nI r i)*q1 r b c)
 two:∀i,i<r.length->qd2 xt7 ((nI b i)*q2 r b c)
def q5y:ql3:=w46 (q9u [qf7,qg4]) false false 0 3 (.int .i64) (λrows x=>0<=x.2.1/\wh1 (nL rows 0) x.1 x.2.1.toNat) (λ_ _=>.tup .nil) (λrows x=>[qv6 (nL rows 0) x.1 x.2.1.toNat])
def clK (r b:List Int) (c k:Nat):List Int:=ovr (.int .i64) (xk6 r b c) r k
def xk7 (T:q7d) (r b:List Int) (c:Nat):Nat->Option Inv
 | 0=>some (Inv.of [0,23] 11 (λs:Nat × List Int=>[(0,.msl 0 (some 0)),(23,.lit (.int .i64 s.1))]) (λs=>[.mat 0 3 (.int .i64) [s.2] (some []) (some T),.dead,.dead,.dead,.dead,.dead,.dead,.dead,.dead,.dead,.dead]) (λs=>s.1<=r.length/\s.2=clK r b c s.1) (λs=>r.length-s.1))
 | _=>none
theorem q02 (r b:List Int) (c:Nat):(q31 r b c).length=r.length:=by simp[q31]
theorem xk8 (r b:List Int) (c k:Nat):(clK r b c k).length=r.length:=qu5 (.int .i64) _ r k
theorem xt8 (r b:List Int) (c k:Nat) (hk:k<r.length):nI (clK r b c k) k=nI r k:=(q75 (.int .i64) _ r k k hk).trans (if_neg (Nat.lt_irrefl k))
theorem w9j (r b:List Int) (c k:Nat):(clK r b c k).set k (xk6 r b c k)=clK r b c (k+1):=q00 (.int .i64) _ r k
theorem xk9 (r b:List Int) (c:Nat):clK r b c r.length=q31 r b c:=q5v (.int .i64) _ r _ (Nat.le_refl _)
theorem w1t {r b:List Int} {c:Nat} (h:wh1 r b c):q9z (q31 r b c):=by
 refine⟨by rw[q02]; exact h.max,λx hx=>?_⟩
 unfold q31 at hx
 obtain⟨i,hi,rfl⟩:=List.mem_map.1 hx
 have hi:=List.mem_range.1 hi
 have h1:=h.one i hi
 have h2:=h.two i hi
 unfold xk6
 unfold xt7 at h1 h2
 unfold BIG
 omega
theorem wo3:qz8 Try.prog 144 q5y:=by
 refine wx7 (x4n (SpecsOk.cons qn3 (SpecsOk.nil _)) (MutsOk.cons q1t MutsOk.nil)) Try.func144 rfl rfl (q0y [qf7,qg4]) (λT rows x=>xk7 T (nL rows 0) x.1 x.2.1.toNat) (λ_ _ _=>by kernel_rfl) (by decide) ?_ rfl
 rintro T rows ⟨b,c,⟨⟩⟩ h hone
 revert b c
 intro(b:List Int) (c:Int) h
 obtain⟨r,rfl⟩:∃l:List Int,rows=[l]:=by
  have h1:=hone rfl
  match rows,h1 with
  | [l],_=>exact⟨l,rfl⟩
 have h:0<=c/\wh1 r b c.toNat:=h
 obtain⟨j,rfl⟩:∃j:Nat,c=j:=⟨c.toNat,by omega⟩
 refine @qe0 _ (((0:Int)<=(↑j:Int)/\(↑j:Int)<(↑(List.length (qa1 (Ty.list (Ty.int .i64)) [r] (0:Nat))):Int))/\Int.toNat (↑j:Int)<List.length (qa1 (Ty.list (Ty.int .i64)) [r] (0:Nat))/\((0:Int)<=(↑j:Int)/\(↑j:Int)<(↑(List.length b):Int))/\(((-4000000000000000000:Int)<=qa1 (Ty.int .i64) (qa1 (Ty.list (Ty.int .i64)) [r] (0:Nat)) (Int.toNat (↑j:Int))/\qa1 (Ty.int .i64) (qa1 (Ty.list (Ty.int .i64)) [r] (0:Nat)) (Int.toNat (↑j:Int))<=BIG)/\(-4000000000000000000:Int)<=qa1 (Ty.int .i64) b (Int.toNat (↑j:Int))/\qa1 (Ty.int .i64) b (Int.toNat (↑j:Int))<=BIG)/\∃(v0:Unit),∃(v1:Nat × List Int),(Prod.fst v1<=List.length (nL [r] (0:Nat))/\Prod.snd v1=clK (nL [r] (0:Nat)) b (Int.toNat (↑j:Int)) (Prod.fst v1))/\((some (0:Nat)=some (0:Nat)/\(0:Int)=(↑(Prod.fst v1):Int)/\True)/\([r]=[Prod.snd v1]/\True/\T=T)/\True/\True/\True/\True/\True/\True/\True/\True/\True/\True/\True)/\∀(v2:Nat × List Int),Prod.fst v2<=List.length (nL [r] (0:Nat))/\Prod.snd v2=clK (nL [r] (0:Nat)) b (Int.toNat (↑j:Int)) (Prod.fst v2)->(decide ((↑(Prod.fst v2):Int)<(↑(List.length (qa1 (Ty.list (Ty.int .i64)) [r] (0:Nat))):Int))=true->((0:Int)<=(↑(Prod.fst v2):Int)/\(↑(Prod.fst v2):Int)<(↑(List.length (qa1 (Ty.list (Ty.int .i64)) [Prod.snd v2] (0:Nat))):Int))/\Int.toNat (↑(Prod.fst v2):Int)<List.length (qa1 (Ty.list (Ty.int .i64)) [Prod.snd v2] (0:Nat))/\qf2 (qa1 (Ty.int .i64) (qa1 (Ty.list (Ty.int .i64)) [r] (0:Nat)) (Int.toNat (↑j:Int))) (qa1 (Ty.int .i64) b (Int.toNat (↑j:Int)))≠(0:Int)/\fits .i64 (Int.tdiv (qa1 (Ty.int .i64) b (Int.toNat (↑j:Int))) (qf2 (qa1 (Ty.int .i64) (qa1 (Ty.list (Ty.int .i64)) [r] (0:Nat)) (Int.toNat (↑j:Int))) (qa1 (Ty.int .i64) b (Int.toNat (↑j:Int)))))/\fits .i64 (qa1 (Ty.int .i64) (qa1 (Ty.list (Ty.int .i64)) [Prod.snd v2] (0:Nat)) (Int.toNat (↑(Prod.fst v2):Int))*Int.tdiv (qa1 (Ty.int .i64) b (Int.toNat (↑j:Int))) (qf2 (qa1 (Ty.int .i64) (qa1 (Ty.list (Ty.int .i64)) [r] (0:Nat)) (Int.toNat (↑j:Int))) (qa1 (Ty.int .i64) b (Int.toNat (↑j:Int)))))/\((0:Int)<=(↑(Prod.fst v2):Int)/\(↑(Prod.fst v2):Int)<(↑(List.length b):Int))/\qf2 (qa1 (Ty.int .i64) (qa1 (Ty.list (Ty.int .i64)) [r] (0:Nat)) (Int.toNat (↑j:Int))) (qa1 (Ty.int .i64) b (Int.toNat (↑j:Int)))≠(0:Int)/\fits .i64 (Int.tdiv (qa1 (Ty.int .i64) (qa1 (Ty.list (Ty.int .i64)) [r] (0:Nat)) (Int.toNat (↑j:Int))) (qf2 (qa1 (Ty.int .i64) (qa1 (Ty.list (Ty.int .i64)) [r] (0:Nat)) (Int.toNat (↑j:Int))) (qa1 (Ty.int .i64) b (Int.toNat (↑j:Int)))))/\fits .i64 (qa1 (Ty.int .i64) b (Int.toNat (↑(Prod.fst v2):Int))*Int.tdiv (qa1 (Ty.int .i64) (qa1 (Ty.list (Ty.int .i64)) [r] (0:Nat)) (Int.toNat (↑j:Int))) (qf2 (qa1 (Ty.int .i64) (qa1 (Ty.list (Ty.int .i64)) [r] (0:Nat)) (Int.toNat (↑j:Int))) (qa1 (Ty.int .i64) b (Int.toNat (↑j:Int)))))/\fits .i64 (qa1 (Ty.int .i64) (qa1 (Ty.list (Ty.int .i64)) [Prod.snd v2] (0:Nat)) (Int.toNat (↑(Prod.fst v2):Int))*Int.tdiv (qa1 (Ty.int .i64) b (Int.toNat (↑j:Int))) (qf2 (qa1 (Ty.int .i64) (qa1 (Ty.list (Ty.int .i64)) [r] (0:Nat)) (Int.toNat (↑j:Int))) (qa1 (Ty.int .i64) b (Int.toNat (↑j:Int))))-qa1 (Ty.int .i64) b (Int.toNat (↑(Prod.fst v2):Int))*Int.tdiv (qa1 (Ty.int .i64) (qa1 (Ty.list (Ty.int .i64)) [r] (0:Nat)) (Int.toNat (↑j:Int))) (qf2 (qa1 (Ty.int .i64) (qa1 (Ty.list (Ty.int .i64)) [r] (0:Nat)) (Int.toNat (↑j:Int))) (qa1 (Ty.int .i64) b (Int.toNat (↑j:Int)))))/\((0:Int)<=(↑(Prod.fst v2):Int)/\(↑(Prod.fst v2):Int)<(↑(List.length (qa1 (Ty.list (Ty.int .i64)) [Prod.snd v2] (0:Nat))):Int))/\Int.toNat (↑(Prod.fst v2):Int)<List.length (qa1 (Ty.list (Ty.int .i64)) [Prod.snd v2] (0:Nat))/\fits .i64 ((↑(Prod.fst v2):Int)+(1:Int))/\∃(v5:Nat × List Int),(Prod.fst v5<=List.length (nL [r] (0:Nat))/\Prod.snd v5=clK (nL [r] (0:Nat)) b (Int.toNat (↑j:Int)) (Prod.fst v5))/\List.length (nL [r] (0:Nat))-Prod.fst v5<List.length (nL [r] (0:Nat))-Prod.fst v2/\(some (0:Nat)=some (0:Nat)/\(↑(Prod.fst v2):Int)+(1:Int)=(↑(Prod.fst v5):Int)/\True)/\(List.set [Prod.snd v2] (0:Nat) (List.set (qa1 (Ty.list (Ty.int .i64)) [Prod.snd v2] (0:Nat)) (Int.toNat (↑(Prod.fst v2):Int)) (qa1 (Ty.int .i64) (qa1 (Ty.list (Ty.int .i64)) [Prod.snd v2] (0:Nat)) (Int.toNat (↑(Prod.fst v2):Int))*Int.tdiv (qa1 (Ty.int .i64) b (Int.toNat (↑j:Int))) (qf2 (qa1 (Ty.int .i64) (qa1 (Ty.list (Ty.int .i64)) [r] (0:Nat)) (Int.toNat (↑j:Int))) (qa1 (Ty.int .i64) b (Int.toNat (↑j:Int))))-qa1 (Ty.int .i64) b (Int.toNat (↑(Prod.fst v2):Int))*Int.tdiv (qa1 (Ty.int .i64) (qa1 (Ty.list (Ty.int .i64)) [r] (0:Nat)) (Int.toNat (↑j:Int))) (qf2 (qa1 (Ty.int .i64) (qa1 (Ty.list (Ty.int .i64)) [r] (0:Nat)) (Int.toNat (↑j:Int))) (qa1 (Ty.int .i64) b (Int.toNat (↑j:Int))))))=[Prod.snd v5]/\True/\T=T)/\True/\True/\True/\True/\True/\True/\True/\True/\True/\True/\True)/\(decide ((↑(Prod.fst v2):Int)<(↑(List.length (qa1 (Ty.list (Ty.int .i64)) [r] (0:Nat))):Int))=false->q9z (qa1 (Ty.list (Ty.int .i64)) [qa1 (Ty.list (ql3.t wy0)) [Prod.snd v2] (0:Nat)] (0:Nat))/\List.set [Prod.snd v2] (0:Nat) (qa1 (Ty.list (ql3.t wy0)) [qe3 (qa1 (Ty.list (Ty.int .i64)) [qa1 (Ty.list (ql3.t wy0)) [Prod.snd v2] (0:Nat)] (0:Nat))] (0:Nat))=[qv6 (nL [r] (0:Nat)) b (Int.toNat (↑j:Int))]/\T=T/\True/\True)) (by kernel_rfl) ?_
 try simp only[z0,z1,z2,z3,z4,z5,z6,z7,z8,z9,z10,Int.reduceEq,z11,z12,z13,z14,z15,z16,z17,z18,z19,z20,z21,z22,z23,z24,z25,z26,z27,z28,z29,z30,Int.reduceLE,Int.reduceLT,z31,z32,z33,z34,qa3]
 try simp only[qb3,qb4,qc8,List.set_cons_zero,List.cons.injEq,and_true,true_and]
 obtain⟨_,h⟩:=h
 rw[Int.toNat_natCast] at h
 have hB:BIG=4000000000000000000:=rfl
 have hB2:xt7=2000000000000000000:=rfl
 have hl:=h.len
 have hj:=h.at_
 have hmx:=h.max
 refine⟨hj,hj,by omega,⟨by rw[<- hB]; exact h.bdr,by rw[<- hB]; exact h.bdb⟩,(),(0,r),⟨Nat.zero_le _,(q2r (.int .i64) _ r).symm⟩,⟨rfl,rfl⟩,?_⟩
 rintro⟨k,l⟩ ⟨h1,h2⟩
 dsimp only at h1 h2 ⊢
 subst h2
 have hkl:=xk8 r b j k
 refine⟨λhlt=>?_,λhge=>?_⟩
 ·have hg:=qp3 (a:=nI r j) (b:=nI b j) (.inr h.ne)
  have k1:=qo6 (g:=qf2 (nI r j) (nI b j)) h.bdr
  have k2:=qo6 (g:=qf2 (nI r j) (nI b j)) h.bdb
  have k3:=h.one k hlt
  have k4:=h.two k hlt
  rw[xt8 r b j k hlt]
  unfold q1 at k3
  unfold q2 at k4
  exact⟨by omega,by omega,by omega,qb9 (by omega) (by omega),qb9 (by omega) (by omega),by omega,by omega,qb9 (by omega) (by omega),qb9 (by omega) (by omega),qb9 (by omega) (by omega),by omega,by omega,qb9 (by omega) (by omega),(k+1,clK r b j (k+1)),⟨by dsimp only; omega,rfl⟩,by dsimp only; omega,by dsimp only; omega,w9j r b j k⟩
 ·obtain rfl:k=r.length:=by omega
  rw[xk9]
  exact⟨w1t h,rfl⟩
end Go.Proofs.Ytdibdlelmkcccaa
