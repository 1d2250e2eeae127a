/- The library's searches over lists, with a function: contracts by the engine. No condition. -/
import Derived.Test.YtempacilejhbgaaV1
set_option linter.unusedVariables false
set_option linter.unusedSimpArgs false
namespace Go.Proofs.Ytempacilejhbgaa
open Go Go.RowKit Eng
def xi6:Int:=2000000000000000000
def q1 (r b:List Int) (c:Nat):Int:=(nI b c).tdiv (gcdI (nI r c) (nI b c))
def q2 (r b:List Int) (c:Nat):Int:=(nI r c).tdiv (gcdI (nI r c) (nI b c))
def xa6 (r b:List Int) (c i:Nat):Int:=(nI r i)*q1 r b c-(nI b i)*q2 r b c
def q3f (r b:List Int) (c:Nat):List Int:=(List.range r.length).map (xa6 r b c)
def qt8 (r b:List Int) (c:Nat):List Int:=qd4 (q3f r b c)
structure wb8 (r b:List Int) (c:Nat):Prop where
 at_:c<r.length
 len:b.length=r.length
 max:r.length<=1000
 ne:(nI b c)≠(0:Int)
 bdr:qj0 BIG (nI r c)
 bdb:qj0 BIG (nI b c)
 one:∀i,i<r.length->qj0 xi6 ((nI r i)*q1 r b c)
 two:∀i,i<r.length->qj0 xi6 ((nI b i)*q2 r b c)
def w8o:qm7:=wb0 (q3j [qf8,qe3]) false false 0 3 (.int .i64) (λrows x=>0<=x.2.1/\wb8 (nL rows 0) x.1 x.2.1.toNat) (λ_ _=>.tup .nil) (λrows x=>[qt8 (nL rows 0) x.1 x.2.1.toNat])
def clK (r b:List Int) (c k:Nat):List Int:=ovr (.int .i64) (xa6 r b c) r k
def xa7 (T:q4e) (r b:List Int) (c:Nat):Nat->Option Inv
 | 0=>some (Inv.of [0,23] 11 (λs:Nat × List Int=>[(0,.msl 0 (some 0)),(23,.lit (.int .i64 s.1))]) (λs=>[.mat 0 3 (.int .i64) [s.2] (some []) (some T),.dead,.dead,.dead,.dead,.dead,.dead,.dead,.dead,.dead,.dead]) (λs=>s.1<=r.length/\s.2=clK r b c s.1) (λs=>r.length-s.1))
 | _=>none
theorem q0b (r b:List Int) (c:Nat):(q3f r b c).length=r.length:=by simp[q3f]
theorem xa8 (r b:List Int) (c k:Nat):(clK r b c k).length=r.length:=qs5 (.int .i64) _ r k
theorem xi7 (r b:List Int) (c k:Nat) (hk:k<r.length):nI (clK r b c k) k=nI r k:=(q7a (.int .i64) _ r k k hk).trans (if_neg (Nat.lt_irrefl k))
theorem w67 (r b:List Int) (c k:Nat):(clK r b c k).set k (xa6 r b c k)=clK r b c (k+1):=q0a (.int .i64) _ r k
theorem xa9 (r b:List Int) (c:Nat):clK r b c r.length=q3f r b c:=q47 (.int .i64) _ r _ (Nat.le_refl _)
theorem wy8 {r b:List Int} {c:Nat} (h:wb8 r b c):q9j (q3f r b c):=by
 refine⟨by rw[q0b]; exact h.max,λx hx=>?_⟩
 unfold q3f at hx
 obtain⟨i,hi,rfl⟩:=List.mem_map.1 hx
 have hi:=List.mem_range.1 hi
 have h1:=h.one i hi
 have h2:=h.two i hi
 unfold xa6
 unfold xi6 at h1 h2
 unfold BIG
 omega
theorem wk3:qr5 Try.prog 80 w8o:=by
 refine q46 (xi2 (SpecsOk.cons qp4 (SpecsOk.nil _)) (MutsOk.cons q03 MutsOk.nil)) Try.func80 rfl rfl (qr6 [qf8,qe3]) (λT rows x=>xa7 T (nL rows 0) x.1 x.2.1.toNat) (λ_ _ _=>by kernel_rfl) (by decide) ?_ rfl
 rintro T rows ⟨b,c,⟨⟩⟩ h hone
 revert b c
 intro(b:List Int) (c:Int) h
 obtain⟨r,rfl⟩:∃l:List Int,rows=[l]:=by
  have h1:=hone rfl
  match rows,h1 with
  | [l],_=>exact⟨l,rfl⟩
 have h:0<=c/\wb8 r b c.toNat:=h
 obtain⟨j,rfl⟩:∃j:Nat,c=j:=⟨c.toNat,by omega⟩
 refine @qe9 _ (let Q0:=qm7.t w8n; ((0:Int)<=(↑j:Int)/\(↑j:Int)<(↑(List.length (qa3 (Ty.list (Ty.int .i64)) [r] (0:Nat))):Int))/\Int.toNat (↑j:Int)<List.length (qa3 (Ty.list (Ty.int .i64)) [r] (0:Nat))/\((0:Int)<=(↑j:Int)/\(↑j:Int)<(↑(List.length b):Int))/\(((-4000000000000000000:Int)<=qa3 (Ty.int .i64) (qa3 (Ty.list (Ty.int .i64)) [r] (0:Nat)) (Int.toNat (↑j:Int))/\qa3 (Ty.int .i64) (qa3 (Ty.list (Ty.int .i64)) [r] (0:Nat)) (Int.toNat (↑j:Int))<=BIG)/\(-4000000000000000000:Int)<=qa3 (Ty.int .i64) b (Int.toNat (↑j:Int))/\qa3 (Ty.int .i64) b (Int.toNat (↑j:Int))<=BIG)/\∃(v0:Unit),∃(v1:Nat × List Int),(Prod.fst v1<=List.length (nL [r] (0:Nat))/\Prod.snd v1=clK (nL [r] (0:Nat)) b (Int.toNat (↑j:Int)) (Prod.fst v1))/\((some (0:Nat)=some (0:Nat)/\(0:Int)=(↑(Prod.fst v1):Int)/\True)/\([r]=[Prod.snd v1]/\True/\T=T)/\True/\True/\True/\True/\True/\True/\True/\True/\True/\True/\True)/\∀(v2:Nat × List Int),Prod.fst v2<=List.length (nL [r] (0:Nat))/\Prod.snd v2=clK (nL [r] (0:Nat)) b (Int.toNat (↑j:Int)) (Prod.fst v2)->(decide ((↑(Prod.fst v2):Int)<(↑(List.length (qa3 (Ty.list (Ty.int .i64)) [r] (0:Nat))):Int))=true->((0:Int)<=(↑(Prod.fst v2):Int)/\(↑(Prod.fst v2):Int)<(↑(List.length (qa3 (Ty.list (Ty.int .i64)) [Prod.snd v2] (0:Nat))):Int))/\Int.toNat (↑(Prod.fst v2):Int)<List.length (qa3 (Ty.list (Ty.int .i64)) [Prod.snd v2] (0:Nat))/\gcdI (qa3 (Ty.int .i64) (qa3 (Ty.list (Ty.int .i64)) [r] (0:Nat)) (Int.toNat (↑j:Int))) (qa3 (Ty.int .i64) b (Int.toNat (↑j:Int)))≠(0:Int)/\fits .i64 (Int.tdiv (qa3 (Ty.int .i64) b (Int.toNat (↑j:Int))) (gcdI (qa3 (Ty.int .i64) (qa3 (Ty.list (Ty.int .i64)) [r] (0:Nat)) (Int.toNat (↑j:Int))) (qa3 (Ty.int .i64) b (Int.toNat (↑j:Int)))))/\fits .i64 (qa3 (Ty.int .i64) (qa3 (Ty.list (Ty.int .i64)) [Prod.snd v2] (0:Nat)) (Int.toNat (↑(Prod.fst v2):Int))*Int.tdiv (qa3 (Ty.int .i64) b (Int.toNat (↑j:Int))) (gcdI (qa3 (Ty.int .i64) (qa3 (Ty.list (Ty.int .i64)) [r] (0:Nat)) (Int.toNat (↑j:Int))) (qa3 (Ty.int .i64) b (Int.toNat (↑j:Int)))))/\((0:Int)<=(↑(Prod.fst v2):Int)/\(↑(Prod.fst v2):Int)<(↑(List.length b):Int))/\gcdI (qa3 (Ty.int .i64) (qa3 (Ty.list (Ty.int .i64)) [r] (0:Nat)) (Int.toNat (↑j:Int))) (qa3 (Ty.int .i64) b (Int.toNat (↑j:Int)))≠(0:Int)/\fits .i64 (Int.tdiv (qa3 (Ty.int .i64) (qa3 (Ty.list (Ty.int .i64)) [r] (0:Nat)) (Int.toNat (↑j:Int))) (gcdI (qa3 (Ty.int .i64) (qa3 (Ty.list (Ty.int .i64)) [r] (0:Nat)) (Int.toNat (↑j:Int))) (qa3 (Ty.int .i64) b (Int.toNat (↑j:Int)))))/\fits .i64 (qa3 (Ty.int .i64) b (Int.toNat (↑(Prod.fst v2):Int))*Int.tdiv (qa3 (Ty.int .i64) (qa3 (Ty.list (Ty.int .i64)) [r] (0:Nat)) (Int.toNat (↑j:Int))) (gcdI (qa3 (Ty.int .i64) (qa3 (Ty.list (Ty.int .i64)) [r] (0:Nat)) (Int.toNat (↑j:Int))) (qa3 (Ty.int .i64) b (Int.toNat (↑j:Int)))))/\fits .i64 (qa3 (Ty.int .i64) (qa3 (Ty.list (Ty.int .i64)) [Prod.snd v2] (0:Nat)) (Int.toNat (↑(Prod.fst v2):Int))*Int.tdiv (qa3 (Ty.int .i64) b (Int.toNat (↑j:Int))) (gcdI (qa3 (Ty.int .i64) (qa3 (Ty.list (Ty.int .i64)) [r] (0:Nat)) (Int.toNat (↑j:Int))) (qa3 (Ty.int .i64) b (Int.toNat (↑j:Int))))-qa3 (Ty.int .i64) b (Int.toNat (↑(Prod.fst v2):Int))*Int.tdiv (qa3 (Ty.int .i64) (qa3 (Ty.list (Ty.int .i64)) [r] (0:Nat)) (Int.toNat (↑j:Int))) (gcdI (qa3 (Ty.int .i64) (qa3 (Ty.list (Ty.int .i64)) [r] (0:Nat)) (Int.toNat (↑j:Int))) (qa3 (Ty.int .i64) b (Int.toNat (↑j:Int)))))/\((0:Int)<=(↑(Prod.fst v2):Int)/\(↑(Prod.fst v2):Int)<(↑(List.length (qa3 (Ty.list (Ty.int .i64)) [Prod.snd v2] (0:Nat))):Int))/\Int.toNat (↑(Prod.fst v2):Int)<List.length (qa3 (Ty.list (Ty.int .i64)) [Prod.snd v2] (0:Nat))/\fits .i64 ((↑(Prod.fst v2):Int)+(1:Int))/\∃(v5:Nat × List Int),(Prod.fst v5<=List.length (nL [r] (0:Nat))/\Prod.snd v5=clK (nL [r] (0:Nat)) b (Int.toNat (↑j:Int)) (Prod.fst v5))/\List.length (nL [r] (0:Nat))-Prod.fst v5<List.length (nL [r] (0:Nat))-Prod.fst v2/\(some (0:Nat)=some (0:Nat)/\(↑(Prod.fst v2):Int)+(1:Int)=(↑(Prod.fst v5):Int)/\True)/\(List.set [Prod.snd v2] (0:Nat) (List.set (qa3 (Ty.list (Ty.int .i64)) [Prod.snd v2] (0:Nat)) (Int.toNat (↑(Prod.fst v2):Int)) (qa3 (Ty.int .i64) (qa3 (Ty.list (Ty.int .i64)) [Prod.snd v2] (0:Nat)) (Int.toNat (↑(Prod.fst v2):Int))*Int.tdiv (qa3 (Ty.int .i64) b (Int.toNat (↑j:Int))) (gcdI (qa3 (Ty.int .i64) (qa3 (Ty.list (Ty.int .i64)) [r] (0:Nat)) (Int.toNat (↑j:Int))) (qa3 (Ty.int .i64) b (Int.toNat (↑j:Int))))-qa3 (Ty.int .i64) b (Int.toNat (↑(Prod.fst v2):Int))*Int.tdiv (qa3 (Ty.int .i64) (qa3 (Ty.list (Ty.int .i64)) [r] (0:Nat)) (Int.toNat (↑j:Int))) (gcdI (qa3 (Ty.int .i64) (qa3 (Ty.list (Ty.int .i64)) [r] (0:Nat)) (Int.toNat (↑j:Int))) (qa3 (Ty.int .i64) b (Int.toNat (↑j:Int))))))=[Prod.snd v5]/\True/\T=T)/\True/\True/\True/\True/\True/\True/\True/\True/\True/\True/\True)/\(decide ((↑(Prod.fst v2):Int)<(↑(List.length (qa3 (Ty.list (Ty.int .i64)) [r] (0:Nat))):Int))=false->q9j (qa3 (Ty.list (Ty.int .i64)) [qa3 (Ty.list Q0) [Prod.snd v2] (0:Nat)] (0:Nat))/\List.set [Prod.snd v2] (0:Nat) (qa3 (Ty.list Q0) [qd4 (qa3 (Ty.list (Ty.int .i64)) [qa3 (Ty.list Q0) [Prod.snd v2] (0:Nat)] (0:Nat))] (0:Nat))=[qt8 (nL [r] (0:Nat)) b (Int.toNat (↑j:Int))]/\T=T/\True/\True)) (by kernel_rfl) ?_
 try simp only[z0,z1,z2,z3,z4,z5,z6,z7,z8,z9,z10,Int.reduceEq,z11,z12,z13,z14,z15,z16,z17,z18,z19,z20,z21,z22,z23,z24,z25,z26,z27,z28,z29,z30,Int.reduceLE,Int.reduceLT,z31,z32,z33,z34,qa6]
 try simp only[qb5,qb6,qd0,List.set_cons_zero,List.cons.injEq,and_true,true_and]
 obtain⟨_,h⟩:=h
 rw[Int.toNat_natCast] at h
 have hB:BIG=4000000000000000000:=rfl
 have hB2:xi6=2000000000000000000:=rfl
 have hl:=h.len
 have hj:=h.at_
 have hmx:=h.max
 refine⟨hj,hj,by omega,⟨by rw[<- hB]; exact h.bdr,by rw[<- hB]; exact h.bdb⟩,(),(0,r),⟨Nat.zero_le _,(q1v (.int .i64) _ r).symm⟩,⟨rfl,rfl⟩,?_⟩
 rintro⟨k,l⟩ ⟨h1,h2⟩
 dsimp only at h1 h2 ⊢
 subst h2
 have hkl:=xa8 r b j k
 refine⟨λhlt=>?_,λhge=>?_⟩
 ·have hg:=qr7 (a:=nI r j) (b:=nI b j) (.inr h.ne)
  have k1:=qo7 (g:=gcdI (nI r j) (nI b j)) h.bdr
  have k2:=qo7 (g:=gcdI (nI r j) (nI b j)) h.bdb
  have k3:=h.one k hlt
  have k4:=h.two k hlt
  rw[xi7 r b j k hlt]
  unfold q1 at k3
  unfold q2 at k4
  exact⟨by omega,by omega,by omega,qb9 (by omega) (by omega),qb9 (by omega) (by omega),by omega,by omega,qb9 (by omega) (by omega),qb9 (by omega) (by omega),qb9 (by omega) (by omega),by omega,by omega,qb9 (by omega) (by omega),(k+1,clK r b j (k+1)),⟨by dsimp only; omega,rfl⟩,by dsimp only; omega,by dsimp only; omega,w67 r b j k⟩
 ·obtain rfl:k=r.length:=by omega
  rw[xa9]
  exact⟨wy8 h,rfl⟩
def ixT (t:Ty) (f:t.den->Bool) (l:List t.den):Int:=if l.any f then(l.findIdx f:Int) else -1
theorem wr0 (t:Ty) (f:t.den->Bool) (l:List t.den) (k:Nat) (hk:k<l.length) (h:∀i,i<k->f (qa3 t l i)=false) (hf:f (qa3 t l k)=true):ixT t f l=k:=by
 have hk':f l[k]=true:=by rw[<- qs4 l k hk]; exact hf
 unfold ixT
 rw[if_pos (List.any_eq_true.2 ⟨_,List.getElem_mem hk,hk'⟩)]
 have:l.findIdx f=k:=by
  rw[List.findIdx_eq hk]
  refine⟨hk',λj hj=>?_⟩
  have:=h j hj
  rw[qs4 l j (by omega)] at this
  exact this
 rw[this]
theorem q8r (t:Ty) (f:t.den->Bool) (l:List t.den) (h:∀i,i<l.length->f (qa3 t l i)=false):ixT t f l=-1:=by
 unfold ixT
 rw[if_neg]
 intro he
 obtain⟨x,hx,hf⟩:=List.any_eq_true.1 he
 obtain⟨i,hi,rfl⟩:=List.getElem_of_mem hx
 have:=h i hi
 rw[qs4 l i hi,hf] at this
 cases this
theorem q2r (t:Ty) (f:t.den->Bool) (l:List t.den):decide (0<=ixT t f l)=l.any f:=by
 unfold ixT
 split
 ·rename_i h; rw[h]; simp
 ·rename_i h; simp at h ⊢; exact h
theorem w8p (t:Ty) (f:t.den->Bool) (l:List t.den):ixT t f l<l.length/\-1<=ixT t f l:=by
 unfold ixT
 split
 ·rename_i h
  have:l.findIdx f<l.length:=List.findIdx_lt_length.2 (List.any_eq_true.1 h)
  omega
 ·omega
def xp5 (t:Ty) (l:List t.den) (f:t.den->Bool):Nat->Option Inv
 | 0=>some (Inv.of [8] 0 (λk:Nat=>[(8,.lit (.int .i64 k))]) (λ_=>[]) (λk=>k<=l.length/\∀i,i<k->f (qa3 t l i)=false) (λk=>l.length-k))
 | _=>none
abbrev xz0 (fs:List (Nat × qc7)):qc7:=hspec fs true none [.d (.list (.list (.int .i64))),.fn [.list (.int .i64)] .bool] [qe3] (λx=>x.1.length<=1000000/\∀i,i<x.1.length->x.2.1.1 (qa3 (.list (.int .i64)) x.1 i,())) (λx=>(ixT (.list (.int .i64)) (λe=>x.2.1.2 (e,())) x.1,()))
theorem wb9 {fs:List (Nat × qc7)} (hfs:SpecsOk Try.prog fs):qe6 Try.prog 59 (xz0 fs):=by
 refine qt6 hfs (snd (SpecsOk.nil _)) Try.func59 rfl rfl (λx=>xp5 (.list (.int .i64)) x.1 (λe=>x.2.1.2 (e,()))) (λ_=>by kernel_rfl) (by decide) ?_
 rintro⟨l,⟨p,f⟩,⟨⟩⟩ h
 revert l p f
 intro(l:List (Ty.den (.list (.int .i64)))) (p:qa5 [.list (.int .i64)]->Prop) (f:qa5 [.list (.int .i64)]->Bool) (h:l.length<=1000000/\∀i,i<l.length->p (qa3 (.list (.int .i64)) l i,()))
 refine @qe9 _ (let Q0:=List.length l; ∃(v0:Unit),∃(v1:Nat),(v1<=List.length l/\∀(v2:Nat),Nat.le (Nat.succ v2) v1->f (qa3 (Ty.list (Ty.int .i64)) l v2,())=false)/\(((0:Int)=(↑v1:Int)/\True)/\True)/\∀(v2:Nat),(v2<=List.length l/\∀(v4:Nat),Nat.le (Nat.succ v4) v2->f (qa3 (Ty.list (Ty.int .i64)) l v4,())=false)->(decide ((↑v2:Int)<(↑Q0:Int))=true->((0:Int)<=(↑v2:Int)/\(↑v2:Int)<(↑Q0:Int))/\p (qa3 (Ty.list (Ty.int .i64)) l (Int.toNat (↑v2:Int)),())/\(f (qa3 (Ty.list (Ty.int .i64)) l (Int.toNat (↑v2:Int)),())=true->(↑v2:Int)=ixT (Ty.list (Ty.int .i64)) (λ(v6:List Int)=>f (v6,())) l)/\(f (qa3 (Ty.list (Ty.int .i64)) l (Int.toNat (↑v2:Int)),())=false->fits .i64 ((↑v2:Int)+(1:Int))/\∃(v6:Nat),(v6<=List.length l/\∀(v7:Nat),Nat.le (Nat.succ v7) v6->f (qa3 (Ty.list (Ty.int .i64)) l v7,())=false)/\List.length l-v6<List.length l-v2/\((↑v2:Int)+(1:Int)=(↑v6:Int)/\True)/\True))/\(decide ((↑v2:Int)<(↑Q0:Int))=false->(-1:Int)=ixT (Ty.list (Ty.int .i64)) (λ(v5:List Int)=>f (v5,())) l)) (by kernel_rfl) ?_
 try simp only[z0,z1,z2,z3,z4,z5,z6,z7,z8,z9,z10,Int.reduceEq,z11,z12,z13,z14,z15,z16,z17,z18,z19,z20,z21,z22,z23,z24,z25,z26,z27,z28,z29,z30,Int.reduceLE,Int.reduceLT,z31,z32,z33,z34,qa6]
 try simp only[qb5,qb6,qd0,List.set_cons_zero,List.cons.injEq,and_true,true_and]
 obtain⟨hl,hp⟩:=h
 refine⟨(),0,⟨Nat.zero_le _,λi hi=>absurd hi (by omega)⟩,rfl,λk ⟨hk,hall⟩=>?_⟩
 refine⟨λhlt=>⟨hlt,hp k hlt,λhf=>(wr0 (.list (.int .i64)) (λe=>f (e,())) l k hlt hall hf).symm,λhf=>⟨qb9 (by omega) (by omega),k+1,⟨by omega,λi hi=>?_⟩,by omega,by omega⟩⟩,λhge=>(q8r (.list (.int .i64)) (λe=>f (e,())) l λi hi=>hall i (by omega)).symm⟩
 by_cases e:i=k
 ·subst e; exact hf
 ·exact hall i (by omega)
abbrev xz1 (fs:List (Nat × qc7)):qc7:=hspec fs true none [.d (.list (.int .i64)),.fn [.int .i64] .bool] [qe3] (λx=>x.1.length<=1000000/\∀i,i<x.1.length->x.2.1.1 (qa3 (.int .i64) x.1 i,())) (λx=>(ixT (.int .i64) (λe=>x.2.1.2 (e,())) x.1,()))
theorem wc0 {fs:List (Nat × qc7)} (hfs:SpecsOk Try.prog fs):qe6 Try.prog 73 (xz1 fs):=by
 refine qt6 hfs (snd (SpecsOk.nil _)) Try.func73 rfl rfl (λx=>xp5 (.int .i64) x.1 (λe=>x.2.1.2 (e,()))) (λ_=>by kernel_rfl) (by decide) ?_
 rintro⟨l,⟨p,f⟩,⟨⟩⟩ h
 revert l p f
 intro(l:List (Ty.den (.int .i64))) (p:qa5 [.int .i64]->Prop) (f:qa5 [.int .i64]->Bool) (h:l.length<=1000000/\∀i,i<l.length->p (qa3 (.int .i64) l i,()))
 refine @qe9 _ (let Q0:=List.length l; ∃(v0:Unit),∃(v1:Nat),(v1<=List.length l/\∀(v2:Nat),Nat.le (Nat.succ v2) v1->f (qa3 (Ty.int .i64) l v2,())=false)/\(((0:Int)=(↑v1:Int)/\True)/\True)/\∀(v2:Nat),(v2<=List.length l/\∀(v4:Nat),Nat.le (Nat.succ v4) v2->f (qa3 (Ty.int .i64) l v4,())=false)->(decide ((↑v2:Int)<(↑Q0:Int))=true->((0:Int)<=(↑v2:Int)/\(↑v2:Int)<(↑Q0:Int))/\p (qa3 (Ty.int .i64) l (Int.toNat (↑v2:Int)),())/\(f (qa3 (Ty.int .i64) l (Int.toNat (↑v2:Int)),())=true->(↑v2:Int)=ixT (Ty.int .i64) (λ(v6:Int)=>f (v6,())) l)/\(f (qa3 (Ty.int .i64) l (Int.toNat (↑v2:Int)),())=false->fits .i64 ((↑v2:Int)+(1:Int))/\∃(v6:Nat),(v6<=List.length l/\∀(v7:Nat),Nat.le (Nat.succ v7) v6->f (qa3 (Ty.int .i64) l v7,())=false)/\List.length l-v6<List.length l-v2/\((↑v2:Int)+(1:Int)=(↑v6:Int)/\True)/\True))/\(decide ((↑v2:Int)<(↑Q0:Int))=false->(-1:Int)=ixT (Ty.int .i64) (λ(v5:Int)=>f (v5,())) l)) (by kernel_rfl) ?_
 try simp only[z0,z1,z2,z3,z4,z5,z6,z7,z8,z9,z10,Int.reduceEq,z11,z12,z13,z14,z15,z16,z17,z18,z19,z20,z21,z22,z23,z24,z25,z26,z27,z28,z29,z30,Int.reduceLE,Int.reduceLT,z31,z32,z33,z34,qa6]
 try simp only[qb5,qb6,qd0,List.set_cons_zero,List.cons.injEq,and_true,true_and]
 obtain⟨hl,hp⟩:=h
 refine⟨(),0,⟨Nat.zero_le _,λi hi=>absurd hi (by omega)⟩,rfl,λk ⟨hk,hall⟩=>?_⟩
 refine⟨λhlt=>⟨hlt,hp k hlt,λhf=>(wr0 (.int .i64) (λe=>f (e,())) l k hlt hall hf).symm,λhf=>⟨qb9 (by omega) (by omega),k+1,⟨by omega,λi hi=>?_⟩,by omega,by omega⟩⟩,λhge=>(q8r (.int .i64) (λe=>f (e,())) l λi hi=>hall i (by omega)).symm⟩
 by_cases e:i=k
 ·subst e; exact hf
 ·exact hall i (by omega)
abbrev xz2 (fs:List (Nat × qc7)):qc7:=hspec fs true none [.d (.list (.list (.int .i64))),.fn [.list (.int .i64)] .bool] [.bool] (λx=>x.1.length<=1000000/\∀i,i<x.1.length->x.2.1.1 (qa3 (.list (.int .i64)) x.1 i,())) (λx=>(x.1.any λe=>x.2.1.2 (e,()),()))
theorem w3e {fs:List (Nat × qc7)} (hfs:SpecsOk Try.prog fs):qe6 Try.prog 39 (xz2 fs):=by
 refine qt6 hfs (snd (SpecsOk.cons (wb9 (fs:=fs) hfs) (SpecsOk.nil _))) Try.func39 rfl rfl (λx=>λ_=>none) (λ_=>by kernel_rfl) (by decide) ?_
 rintro⟨l,⟨p,f⟩,⟨⟩⟩ h
 revert l p f
 intro(l:List (Ty.den (.list (.int .i64)))) (p:qa5 [.list (.int .i64)]->Prop) (f:qa5 [.list (.int .i64)]->Bool) (h:l.length<=1000000/\∀i,i<l.length->p (qa3 (.list (.int .i64)) l i,()))
 refine @qe9 _ (∃(v0:qa5 [Ty.list (Ty.int .i64)]->Prop),∃(v1:qa5 [Ty.list (Ty.int .i64)]->Bool),([Ty.list (Ty.int .i64)]=[Ty.list (Ty.int .i64)]/\Ty.bool=Ty.bool/\p ≍ v0/\f ≍ v1)/\(List.length l<=(1000000:Nat)/\∀(v2:Nat),v2<List.length l->v0 (qa3 (Ty.list (Ty.int .i64)) l v2,()))/\decide ((0:Int)<=ixT (Ty.list (Ty.int .i64)) (λ(v2:List Int)=>v1 (v2,())) l)=List.any l λ(v2:List Int)=>f (v2,())) (by kernel_rfl) ?_
 try simp only[z0,z1,z2,z3,z4,z5,z6,z7,z8,z9,z10,Int.reduceEq,z11,z12,z13,z14,z15,z16,z17,z18,z19,z20,z21,z22,z23,z24,z25,z26,z27,z28,z29,z30,Int.reduceLE,Int.reduceLT,z31,z32,z33,z34,qa6]
 try simp only[qb5,qb6,qd0,List.set_cons_zero,List.cons.injEq,and_true,true_and]
 exact⟨p,f,⟨HEq.rfl,HEq.rfl⟩,h,q2r (.list (.int .i64)) (λe=>f (e,())) l⟩
abbrev xz3 (fs:List (Nat × qc7)):qc7:=hspec fs true none [.d (.list (.int .i64)),.fn [.int .i64] .bool] [.bool] (λx=>x.1.length<=1000000/\∀i,i<x.1.length->x.2.1.1 (qa3 (.int .i64) x.1 i,())) (λx=>(x.1.any λe=>x.2.1.2 (e,()),()))
theorem wc1 {fs:List (Nat × qc7)} (hfs:SpecsOk Try.prog fs):qe6 Try.prog 54 (xz3 fs):=by
 refine qt6 hfs (snd (SpecsOk.cons (wc0 (fs:=fs) hfs) (SpecsOk.nil _))) Try.func54 rfl rfl (λx=>λ_=>none) (λ_=>by kernel_rfl) (by decide) ?_
 rintro⟨l,⟨p,f⟩,⟨⟩⟩ h
 revert l p f
 intro(l:List (Ty.den (.int .i64))) (p:qa5 [.int .i64]->Prop) (f:qa5 [.int .i64]->Bool) (h:l.length<=1000000/\∀i,i<l.length->p (qa3 (.int .i64) l i,()))
 refine @qe9 _ (∃(v0:qa5 [Ty.int .i64]->Prop),∃(v1:qa5 [Ty.int .i64]->Bool),([Ty.int .i64]=[Ty.int .i64]/\Ty.bool=Ty.bool/\p ≍ v0/\f ≍ v1)/\(List.length l<=(1000000:Nat)/\∀(v2:Nat),v2<List.length l->v0 (qa3 (Ty.int .i64) l v2,()))/\decide ((0:Int)<=ixT (Ty.int .i64) (λ(v2:Int)=>v1 (v2,())) l)=List.any l λ(v2:Int)=>f (v2,())) (by kernel_rfl) ?_
 try simp only[z0,z1,z2,z3,z4,z5,z6,z7,z8,z9,z10,Int.reduceEq,z11,z12,z13,z14,z15,z16,z17,z18,z19,z20,z21,z22,z23,z24,z25,z26,z27,z28,z29,z30,Int.reduceLE,Int.reduceLT,z31,z32,z33,z34,qa6]
 try simp only[qb5,qb6,qd0,List.set_cons_zero,List.cons.injEq,and_true,true_and]
 exact⟨p,f,⟨HEq.rfl,HEq.rfl⟩,h,q2r (.int .i64) (λe=>f (e,())) l⟩
end Go.Proofs.Ytempacilejhbgaa
