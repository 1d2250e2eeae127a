/- Shares of a mask for some pixels: contracts by the engine. No condition. -/
import Derived.Test.YtempacilejhbgaaQ3
set_option linter.unusedVariables false
set_option linter.unusedSimpArgs false
namespace Go.Proofs.Ytempacilejhbgaa
open Go Go.RowKit Eng
structure xk1 (n d:Int) (r:Int × Int):Prop where
 pos:1<=r.2
 eq:r.1*d=n*r.2
 n0:0<=r.1
 nle:r.1<=n
 dle:r.2<=d
 one:gcdI r.1 r.2=1
theorem xk2 {n d:Int} (hn:0<=n) (hd:0<d):xk1 n d (ofR n d):=by
 have e:ofR n d=(n.tdiv (gcdI n d),d.tdiv (gcdI n d)):=by unfold ofR; rw[if_neg (by omega)]
 have hg:0<gcdI n d:=qr7 (.inr (by omega))
 have h1:gcdI n d∣n:=Int.gcd_dvd_left ..
 have h2:gcdI n d∣d:=Int.gcd_dvd_right ..
 have hgd:(gcdI n d:Int)=(Int.gcd n d:Int):=rfl
 rw[e]
 have e1:n.tdiv (gcdI n d)=n / gcdI n d:=Int.tdiv_eq_ediv_of_nonneg hn
 have e2:d.tdiv (gcdI n d)=d / gcdI n d:=Int.tdiv_eq_ediv_of_nonneg (by omega)
 rw[e1,e2]
 obtain⟨a,ha⟩:=h1
 obtain⟨b,hb⟩:=h2
 have q1:n / gcdI n d=a:=by
  conv=>lhs; lhs; rw[ha]
  exact Int.mul_ediv_cancel_left _ (by omega)
 have q2:d / gcdI n d=b:=by
  conv=>lhs; lhs; rw[hb]
  exact Int.mul_ediv_cancel_left _ (by omega)
 have hgcd:Int.gcd a b=1:=by
  have:=Int.gcd_ediv_gcd_ediv_gcd (i:=n) (j:=d) (by have:=hg; rw[hgd] at this; omega)
  rw[<- hgd,q1,q2] at this
  exact this
 generalize gcdI n d=g at *
 rw[q1,q2]
 have hb1:1<=b:=by
  rcases Int.lt_or_le b 1 with q | q
  ·have:g*b<=0:=Int.mul_nonpos_of_nonneg_of_nonpos (by omega) (by omega)
   omega
  ·exact q
 have ha0:0<=a:=by
  rcases Int.lt_or_le a 0 with q | q
  ·have:g*a<0:=Int.mul_neg_of_pos_of_neg hg q
   omega
  ·exact q
 refine⟨hb1,?_,ha0,?_,?_,?_⟩
 ·show a*d=n*b
  rw[ha,hb,Int.mul_comm g b,<- Int.mul_assoc,Int.mul_comm (a*b) g,Int.mul_assoc]
 ·show a<=n
  rw[ha]; have:=Int.mul_le_mul_of_nonneg_right (a:=1) (b:=g) (c:=a) (by omega) ha0; omega
 ·show b<=d
  rw[hb]; have:=Int.mul_le_mul_of_nonneg_right (a:=1) (b:=g) (c:=b) (by omega) (by omega); omega
 ·show((Int.gcd a b:Nat):Int)=1
  rw[hgcd]; rfl
theorem q80 {h:List Int} (hh:HOk h) (h0:szL h≠0):0<szL h:=by
 have:=q2v hh h.length
 have e:szL h=q8z h h.length:=rfl
 omega
theorem w34 {h p:List Int} (hh:w33 h p):xk1 (inL h p) (szL h) (shR h p):=xk2 (q2w hh.ok _).1 (q80 hh.ok hh.ne)
theorem q0l {h p:List Int} (hh:w33 h p):qt7 (shR h p):=by
 have k:=w34 hh
 have h1:=(q2w (pix:=p) hh.ok p.length).2
 have h2:=(q2v hh.ok h.length).2
 have h3:=hh.len
 have h4:=hh.ok.len
 have e1:inL h p=qq8 h p p.length:=rfl
 have e2:szL h=q8z h h.length:=rfl
 have k1:=k.pos
 have k2:=k.nle
 have k3:=k.dle
 have k4:=k.n0
 exact⟨⟨k4,by omega⟩,⟨by omega,by omega⟩,k1⟩
theorem w8u:qt7 (0,1):=⟨⟨by decide,by decide⟩,⟨by decide,by decide⟩,by decide⟩
theorem w35 {a b:Int × Int} (ha:qt7 a) (hb:qt7 b):qt7 (q6l a b):=by unfold q6l; split <;> assumption
def q08 (l:List (List Int)) (pix:List Int):Nat->Int × Int
 | 0=>(0,1)
 | k+1=>q6l (q08 l pix k) (shR (nL l k) pix)
structure w8v (l:List (List Int)) (pix:List Int):Prop where
 len:l.length<=1000000
 ok:∀k,k<l.length->w33 (nL l k) pix
theorem qs0 {l:List (List Int)} {pix:List Int} (h:w8v l pix):∀k,k<=l.length->qt7 (q08 l pix k)
 | 0,_=>w8u
 | k+1,hk=>w35 (qs0 h k (by omega)) (q0l (h.ok k (by omega)))
def x0o (l:List (List Int)) (pix:List Int):Nat->Option Inv
 | 0=>some (Inv.of [15] 2 (λk:Nat=>[(15,.lit (.int .i64 k))]) (λk=>[.box 31 (.cons (.lit (.int .i64 0)) (.cons (.lit (.int .i64 0)) .nil)),.box 31 (.cons (.lit (.int .i64 (q08 l pix k).1)) (.cons (.lit (.int .i64 (q08 l pix k).2)) .nil))]) (λk=>k<=l.length) (λk=>l.length-k))
 | _=>none
abbrev x0p:qc7:=qh6 true none [ql8,qf8] [q0h] (λx=>w8v x.1 x.2.1) (λx=>(q08 x.1 x.2.1 x.1.length,()))
theorem w36:qe6 Try.prog 25 x0p:=by
 refine meets (xu3 (SpecsOk.cons we3 (SpecsOk.cons q7k (SpecsOk.cons q7m (SpecsOk.nil _)))) ItsOk.nil (BxsOk.cons q7l BxsOk.nil)) Try.func25 rfl rfl (λx=>x0o x.1 x.2.1) (λ_=>by kernel_rfl) (by decide) ?_
 rintro⟨l,p,⟨⟩⟩ h
 revert l p
 intro(l:List (List Int)) (p:List Int) (h:w8v l p)
 refine @qe9 _ (let Q0:=List.length l; True/\∃(v0:Unit),∃(v1:Nat),Nat.le v1 Q0/\(((0:Int)=(↑v1:Int)/\True)/\((0:Int)=(0:Int)/\(0:Int)=(0:Int)/\True)/\((0:Int)=Prod.fst (q08 l p v1)/\(1:Int)=Prod.snd (q08 l p v1)/\True)/\True)/\∀(v2:Nat),Nat.le v2 Q0->(decide ((↑v2:Int)<(↑Q0:Int))=true->((0:Int)<=(↑v2:Int)/\(↑v2:Int)<(↑Q0:Int))/\w33 (qa3 (Ty.list (Ty.int .i64)) l (Int.toNat (↑v2:Int))) p/\(qt7 (Prod.fst (q08 l p v2),Prod.snd (q08 l p v2))/\qt7 (Prod.fst (shR (qa3 (Ty.list (Ty.int .i64)) l (Int.toNat (↑v2:Int))) p),Prod.snd (shR (qa3 (Ty.list (Ty.int .i64)) l (Int.toNat (↑v2:Int))) p)))/\fits .i64 ((↑v2:Int)+(1:Int))/\∃(v5:Nat),Nat.le v5 Q0/\List.length l-v5<List.length l-v2/\((↑v2:Int)+(1:Int)=(↑v5:Int)/\True)/\((0:Int)=(0:Int)/\(0:Int)=(0:Int)/\True)/\(Prod.fst (q6l (Prod.fst (q08 l p v2),Prod.snd (q08 l p v2)) (Prod.fst (shR (qa3 (Ty.list (Ty.int .i64)) l (Int.toNat (↑v2:Int))) p),Prod.snd (shR (qa3 (Ty.list (Ty.int .i64)) l (Int.toNat (↑v2:Int))) p)))=Prod.fst (q08 l p v5)/\Prod.snd (q6l (Prod.fst (q08 l p v2),Prod.snd (q08 l p v2)) (Prod.fst (shR (qa3 (Ty.list (Ty.int .i64)) l (Int.toNat (↑v2:Int))) p),Prod.snd (shR (qa3 (Ty.list (Ty.int .i64)) l (Int.toNat (↑v2:Int))) p)))=Prod.snd (q08 l p v5)/\True)/\True)/\(decide ((↑v2:Int)<(↑Q0:Int))=false->True/\Prod.fst (q08 l p v2)=Prod.fst (q08 l p Q0)/\Prod.snd (q08 l p v2)=Prod.snd (q08 l p Q0)/\True)) (by kernel_rfl) ?_
 try simp only[z0,z1,z2,z3,z4,z5,z6,z7,z8,z9,z10,Int.reduceEq,z11,z12,z13,z14,z15,z16,z17,z18,z19,z20,z21,z22,z23,z24,z25,z26,z27,z28,z29,z30,Int.reduceLE,Int.reduceLT,z31,z32,z33,z34,qa6]
 try simp only[qb5,qb6,qd0,List.set_cons_zero,List.cons.injEq,and_true,true_and]
 have hl:=h.len
 refine⟨(),0,Nat.zero_le _,⟨rfl,rfl,rfl⟩,λk hk=>⟨λhlt=>⟨hlt,h.ok k hlt,⟨qs0 h k hk,q0l (h.ok k hlt)⟩,qb9 (by omega) (by omega),k+1,hlt,by omega,by push_cast; rfl,rfl,rfl⟩,λhge=>?_⟩⟩
 obtain rfl:k=l.length:=by omega
 exact⟨rfl,rfl⟩
abbrev x0q:qc7:=qh6 false none [ql8] [ql8] (λx=>qb8 x.1=true->q5l x.1) (λx=>((qk7 x.1).1,()))
theorem q2x:qe6 Try.prog 18 x0q:=by
 refine meets (snd (SpecsOk.cons w30 (SpecsOk.nil _))) Try.func18 rfl rfl (λ_ _=>none) (λ_=>by kernel_rfl) (by decide) ?_
 rintro⟨m,⟨⟩⟩ h
 revert m
 intro(m:List (List Int)) (h:qb8 m=true->q5l m)
 refine @qe9 _ ((qb8 m=true->q5l m)/\Prod.fst (qk7 m)=Prod.fst (qk7 m)) (by kernel_rfl) ?_
 try simp only[z0,z1,z2,z3,z4,z5,z6,z7,z8,z9,z10,Int.reduceEq,z11,z12,z13,z14,z15,z16,z17,z18,z19,z20,z21,z22,z23,z24,z25,z26,z27,z28,z29,z30,Int.reduceLE,Int.reduceLT,z31,z32,z33,z34,qa6]
 try simp only[qb5,qb6,qd0,List.set_cons_zero,List.cons.injEq,and_true,true_and]
 exact h
def ofE (m:List (List Int)) (p:List Int):Int:=wh9 m p
def ofQ (m:List (List Int)) (p:List Int):Int × Int:=if wh9 m p=0 then q08 (qk7 m).1 p (qk7 m).1.length else(0,0)
structure w37 (m:List (List Int)) (p:List Int):Prop where
 len:p.length<=1000000
 cir:qb8 m=true->q5l m
 ok:wh9 m p=0->w8v (qk7 m).1 p
abbrev x0r:qc7:=qh6 true none [ql8,qf8] [q0h,qe3] (λx=>w37 x.1 x.2.1) (λx=>(ofQ x.1 x.2.1,ofE x.1 x.2.1,()))
theorem w0m:qe6 Try.prog 12 x0r:=by
 refine meets (snd (SpecsOk.cons w3j (SpecsOk.cons q2x (SpecsOk.cons w36 (SpecsOk.nil _))))) Try.func12 rfl rfl (λ_ _=>none) (λ_=>by kernel_rfl) (by decide) ?_
 rintro⟨m,p,⟨⟩⟩ h
 revert m p
 intro(m:List (List Int)) (p:List Int) (h:w37 m p)
 refine @qe9 _ (let Q0:=q08 (Prod.fst (qk7 m)) p (List.length (Prod.fst (qk7 m))); List.length p<=(1000000:Nat)/\((wh9 m p != (0:Int))=true->((0:Int)=Prod.fst (ofQ m p)/\(0:Int)=Prod.snd (ofQ m p)/\True)/\wh9 m p=ofE m p/\True)/\((wh9 m p != (0:Int))=false->(qb8 m=true->q5l m)/\w8v (Prod.fst (qk7 m)) p/\(Prod.fst Q0=Prod.fst (ofQ m p)/\Prod.snd Q0=Prod.snd (ofQ m p)/\True)/\(0:Int)=ofE m p/\True)) (by kernel_rfl) ?_
 try simp only[z0,z1,z2,z3,z4,z5,z6,z7,z8,z9,z10,Int.reduceEq,z11,z12,z13,z14,z15,z16,z17,z18,z19,z20,z21,z22,z23,z24,z25,z26,z27,z28,z29,z30,Int.reduceLE,Int.reduceLT,z31,z32,z33,z34,qa6]
 try simp only[qb5,qb6,qd0,List.set_cons_zero,List.cons.injEq,and_true,true_and]
 refine⟨h.len,λhe=>?_,λhe=>⟨h.cir,h.ok he,?_,he.symm⟩⟩
 ·unfold ofQ; rw[if_neg he]; exact⟨⟨rfl,rfl⟩,rfl⟩
 ·unfold ofQ; rw[if_pos he]; exact⟨rfl,rfl⟩
end Go.Proofs.Ytempacilejhbgaa
