/- The bounds of a mask, and the reference's picture of a fit: contracts by the engine. No condition. -/
import Derived.Test.YtdibdlelmkcccaaGreatV37
import Derived.Test.YtdibdlelmkcccaaGreatV39
import Derived.Test.YtdibdlelmkcccaaGreatKT1
import Derived.Test.YtdibdlelmkcccaaGreatZ2
set_option linter.unusedVariables false
set_option linter.unusedSimpArgs false
namespace Go.Proofs.YtdibdlelmkcccaaGreat
open Go Go.RowKit Eng
def q3n (m:List (List Int)):Int × Int:=if(qi5 m).2=8 then((nL m 0).length,0) else if(qi5 m).2≠0 then(0,(qi5 m).2) else(((qi5 m).1-1).tdiv 2,0)
structure Sr4 (m:List (List Int)):Prop where
 sk:xx9 m
 bd:qg3 1000 (qi5 m).1
 one:(qi5 m).2=8->0<m.length
abbrev x2n:qc0:=qf8 true none [tMask] [tInt,tInt] (λx=>Sr4 x.1) (λx=>((q3n x.1).1,(q3n x.1).2,()))
theorem wx8:qd3 Tryz.prog 12 x2n:=by
 refine meets (snd (SpecsOk.cons q4w (SpecsOk.nil _))) Tryz.func12 rfl rfl (λ_ _=>none) (λ_=>by kernel_rfl) (by decide) ?_
 rintro⟨m,⟨⟩⟩ h
 revert m
 intro(m:List (List Int)) (h:Sr4 m)
 refine @qd8 _ (let Q0:=qi5 m; let Q1:=q3n m; xx9 m/\((Prod.snd Q0==(8:Int))=true->((0:Int)<=(0:Int)/\(0:Int)<(↑(List.length m):Int))/\(↑(List.length (qa1 (Ty.list (Ty.int .i64)) m (0:Nat))):Int)=Prod.fst Q1/\(0:Int)=Prod.snd Q1/\True)/\((Prod.snd Q0==(8:Int))=false->((Prod.snd Q0 != (0:Int))=true->(0:Int)=Prod.fst Q1/\Prod.snd Q0=Prod.snd Q1/\True)/\((Prod.snd Q0 != (0:Int))=false->fits .i64 (Prod.fst Q0-(1:Int))/\(2:Int)≠(0:Int)/\fits .i64 (Int.tdiv (Prod.fst Q0-(1:Int)) (2:Int))/\Int.tdiv (Prod.fst Q0-(1:Int)) (2:Int)=Prod.fst Q1/\(0:Int)=Prod.snd Q1/\True))) (by kernel_rfl) ?_
 try simp only[z0,z1,z2,z3,z4,z5,z6,z7,z8,z9,z10,Int.reduceEq,z11,z12,z13,z14,z15,z16,z17,z18,z19,z20,z21,z22,z23,z24,z25,z26,z27,z28,z29,z30,Int.reduceLE,Int.reduceLT,z31,z32,z33,z34,qa4]
 try simp only[qb6,qb7,qc8,List.set_cons_zero,List.cons.injEq,and_true,true_and]
 have hb:qg3 1000 ((qi5 m).1):=h.bd
 have hb2:qg3 1001 ((qi5 m).1-1):=by unfold qg3 at hb ⊢; omega
 have hb3:qg3 1001 (((qi5 m).1-1).tdiv 2):=qk5 hb2
 unfold qg3 at hb2 hb3
 refine⟨h.sk,λh8=>⟨by have:=h.one h8; omega,by simp[q3n,h8]⟩,λh8=>⟨λhe=>by simp[q3n,h8,he],λhe=>⟨qa7 (by omega) (by omega),qa7 (by omega) (by omega),by simp[q3n,he]⟩⟩⟩
theorem w9p {m:List (List Int)} (hl:ql0 m=true):q3n m=qu4 m:=by
 unfold q3n qu4
 rw[q5m hl]
 by_cases h8:(qi5 m).2=8
 ·simp[h8]
 ·by_cases h0:(qi5 m).2=0
  ·simp[h0]
  ·simp[h8,h0]
theorem sr4 {m:List (List Int)} (hf:q77 m) (hl:ql0 m=true):Sr4 m:=by
 have h10:=(wf5 hl).1
 have hn:=q65 (qi8 m).1 (qi8 m).1.length
 refine⟨x7j hf hl,?_,λh8=>?_⟩
 ·rw[<- q5m hl]
  show qg3 1000 (q1p (qi8 m).1 (qi8 m).1.length:Int)
  unfold qg3
  omega
 ·have hv:validB m=true:=by
   cases e:validB m with
   | true=>rfl
   | false=>
    rw[<- q5m hl] at h8
    have e2:(qm3 m).2=1:=by unfold qm3; rw[w2d e]
    rw[e2] at h8; cases h8
  have:=(Mk.of hv).rows1
  omega
structure q8d (N D:Int) (n k:Nat):Prop where
 le:k<=n
 eq:bndTo N D n 0=bndTo N D (n-k) k
def x2o (m:List (List Int)):Nat->Option Inv
 | 0=>some (Inv.of [6] 1 (λk:Nat=>[(6,.lit (.int .i64 k))]) (λk=>[.box 42 (.cons (.lit (.int .i64 (K.cohR m).1)) (.cons (.lit (.int .i64 (K.cohR m).2)) .nil))]) (λk=>q8d (K.cohR m).1 (K.cohR m).2 (nL m 0).length k) (λk=>(nL m 0).length-k))
 | _=>none
abbrev x7k:qc0:=qf8 true none [tMask] [tInt,tInt] (λ_=>True) (λx=>(q8c x.1,wh7 x.1,()))
theorem x2p {m:List (List Int)} (h:K.cohE m=0):Mk m/\0<=(K.cohR m).1/\(K.cohR m).1<=100:=by
 obtain⟨hv,b,hb,hR,_⟩:=K.coh_some h
 have hB:=K.cohK_bd (K.IsMask.of hv) (Nat.le_refl _) (by rw[K.cohK_all]; exact hb)
 rw[hR]
 exact⟨Mk.of hv,hB.1⟩
theorem xj3 {N D:Int} {n k:Nat} (h:k<n):bndTo N D (n-k) k=if(2*(k:Int)+1)*(2*(k:Int)+1)*N<D then bndTo N D (n-(k+1)) (k+1) else k:=by
 obtain⟨f,hf⟩:∃f,n-k=f+1:=⟨n-k-1,by omega⟩
 rw[hf,show n-(k+1)=f by omega,bndTo]
theorem w9q (m:List (List Int)):(¬K.cohE m=0->0=q8c m/\K.cohE m=wh7 m)/\(K.cohE m=0->∃(v1:Unit) (v2:Nat),q8d (K.cohR m).fst (K.cohR m).snd (nL m 0).length v2/\(0:Int)=↑v2/\∀(v3:Nat),q8d (K.cohR m).fst (K.cohR m).snd (nL m 0).length v3->(0:Int) < ↑m.length /\
   (v3<(nL m 0).length->fits IntKind.i64 (2 * ↑v3)/\fits IntKind.i64 (2 * ↑v3+1)/\fits IntKind.i64 (2 * ↑v3)/\fits IntKind.i64 (2 * ↑v3+1)/\fits IntKind.i64 ((2 * ↑v3+1)*(2 * ↑v3+1))/\fits IntKind.i64 ((2 * ↑v3+1)*(2 * ↑v3+1)*(K.cohR m).fst) /\
     ((2*(v3:Int)+1)*(2 * ↑v3+1)*(K.cohR m).fst<(K.cohR m).snd->fits IntKind.i64 (↑v3+1)/\∃(v7:Nat),q8d (K.cohR m).fst (K.cohR m).snd (nL m 0).length v7/\(nL m 0).length-v7<(nL m 0).length-v3/\(v3:Int)+1=↑v7) /\
      ((K.cohR m).snd<=(2*(v3:Int)+1)*(2 * ↑v3+1)*(K.cohR m).fst->(v3:Int)=q8c m/\0=wh7 m))/\(¬v3<(nL m 0).length->(v3:Int)=q8c m/\0=wh7 m)):=by
 refine⟨λh=>⟨by simp[q8c,h],rfl⟩,λh=>⟨(),0,⟨Nat.zero_le _,rfl⟩,rfl,λk hk=>?_⟩⟩
 obtain⟨hM,c1,c2⟩:=x2p h
 have h1:=hM.rows1
 have h10:=hM.pix10
 have eR:q8c m=(bndTo (K.cohR m).1 (K.cohR m).2 (nL m 0).length 0:Nat):=if_pos h
 have eE:wh7 m=0:=h
 rw[eR,eE,hk.eq]
 have hle:=hk.le
 have hstep:=xj3 (N:=(K.cohR m).1) (D:=(K.cohR m).2) (n:=(nL m 0).length) (k:=k)
 generalize(K.cohR m).1=N at *
 generalize(K.cohR m).2=D at *
 refine⟨by omega,λhlt=>?_,λhge=>?_⟩
 ·have hkk:(k:Int)<=9:=by omega
  have k0:(0:Int)<=k:=Int.natCast_nonneg k
  have s1:(2*(k:Int)+1)*(2*(k:Int)+1)<=19*19:=Int.mul_le_mul (by omega) (by omega) (by omega) (by omega)
  have s0:0<=(2*(k:Int)+1)*(2*(k:Int)+1):=Int.mul_nonneg (by omega) (by omega)
  have s2:(2*(k:Int)+1)*(2*(k:Int)+1)*N<=19*19*100:=Int.mul_le_mul s1 c2 c1 (by omega)
  have s3:0<=(2*(k:Int)+1)*(2*(k:Int)+1)*N:=Int.mul_nonneg s0 c1
  refine⟨qa7 (by omega) (by omega),qa7 (by omega) (by omega),qa7 (by omega) (by omega),qa7 (by omega) (by omega),qa7 (by omega) (by omega),qa7 (by omega) (by omega),λhc=>⟨qa7 (by omega) (by omega),k+1,⟨by omega,?_⟩,by omega,by omega⟩,λhc=>⟨?_,rfl⟩⟩
  ·rw[hk.eq,hstep hlt,if_pos hc]
  ·rw[hstep hlt,if_neg (Int.not_lt.2 hc)]
 ·have e:k=(nL m 0).length:=by omega
  rw[e,Nat.sub_self]
  exact⟨rfl,rfl⟩
theorem w9r:qd3 Tryz.prog 13 x7k:=by
 refine meets (snd (SpecsOk.cons K.Coherence_meets (SpecsOk.nil _))) Tryz.func13 rfl rfl (λx=>x2o x.1) (λ_=>by kernel_rfl) (by decide) ?_
 rintro⟨m,⟨⟩⟩ -
 revert m
 intro(m:List (List Int))
 refine @qd8 _ (let Q0:=K.cohR m; let Q1:=Prod.snd Q0; let Q2:=Prod.fst Q0; True/\((K.cohE m != (0:Int))=true->(0:Int)=q8c m/\K.cohE m=wh7 m/\True)/\((K.cohE m != (0:Int))=false->∃(v1:Unit),∃(v2:Nat),q8d Q2 Q1 (List.length (nL m (0:Nat))) v2/\(((0:Int)=(↑v2:Int)/\True)/\(Prod.fst Q0=Prod.fst Q0/\Prod.snd Q0=Prod.snd Q0/\True)/\True)/\∀(v3:Nat),q8d Q2 Q1 (List.length (nL m (0:Nat))) v3->((0:Int)<=(0:Int)/\(0:Int)<(↑(List.length m):Int))/\(decide ((↑v3:Int)<(↑(List.length (qa1 (Ty.list (Ty.int .i64)) m (0:Nat))):Int))=true->fits .i64 ((2:Int)*(↑v3:Int))/\fits .i64 ((2:Int)*(↑v3:Int)+(1:Int))/\fits .i64 ((2:Int)*(↑v3:Int))/\fits .i64 ((2:Int)*(↑v3:Int)+(1:Int))/\fits .i64 (((2:Int)*(↑v3:Int)+(1:Int))*((2:Int)*(↑v3:Int)+(1:Int)))/\fits .i64 (((2:Int)*(↑v3:Int)+(1:Int))*((2:Int)*(↑v3:Int)+(1:Int))*Prod.fst Q0)/\(decide (((2:Int)*(↑v3:Int)+(1:Int))*((2:Int)*(↑v3:Int)+(1:Int))*Prod.fst Q0<Prod.snd Q0)=true->fits .i64 ((↑v3:Int)+(1:Int))/\∃(v7:Nat),q8d Q2 Q1 (List.length (nL m (0:Nat))) v7/\List.length (nL m (0:Nat))-v7<List.length (nL m (0:Nat))-v3/\((↑v3:Int)+(1:Int)=(↑v7:Int)/\True)/\(Prod.fst Q0=Prod.fst Q0/\Prod.snd Q0=Prod.snd Q0/\True)/\True)/\(decide (((2:Int)*(↑v3:Int)+(1:Int))*((2:Int)*(↑v3:Int)+(1:Int))*Prod.fst Q0<Prod.snd Q0)=false->(↑v3:Int)=q8c m/\(0:Int)=wh7 m/\True))/\(decide ((↑v3:Int)<(↑(List.length (qa1 (Ty.list (Ty.int .i64)) m (0:Nat))):Int))=false->(↑v3:Int)=q8c m/\(0:Int)=wh7 m/\True))) (by kernel_rfl) ?_
 try simp only[z0,z1,z2,z3,z4,z5,z6,z7,z8,z9,z10,Int.reduceEq,z11,z12,z13,z14,z15,z16,z17,z18,z19,z20,z21,z22,z23,z24,z25,z26,z27,z28,z29,z30,Int.reduceLE,Int.reduceLT,z31,z32,z33,z34,qa4]
 try simp only[qb6,qb7,qc8,List.set_cons_zero,List.cons.injEq,and_true,true_and]
 exact w9q m
theorem w4n:qd3 Tryz.prog 46 K.sCoh:=by
 have e:K.sRCoh=K.sCoh:=by
  unfold K.sRCoh K.sCoh
  congr 1
  funext x
  rw[K.cohR_same,K.cohE_same]
 rw[<- e]
 exact K.rCoherence_meets
theorem w4o:qd3 Tryz.prog 14 x7k:=by
 refine meets (snd (SpecsOk.cons w4n (SpecsOk.nil _))) Tryz.func14 rfl rfl (λx=>x2o x.1) (λ_=>by kernel_rfl) (by decide) ?_
 rintro⟨m,⟨⟩⟩ -
 revert m
 intro(m:List (List Int))
 refine @qd8 _ (let Q0:=K.cohR m; let Q1:=Prod.snd Q0; let Q2:=Prod.fst Q0; True/\((K.cohE m != (0:Int))=true->(0:Int)=q8c m/\K.cohE m=wh7 m/\True)/\((K.cohE m != (0:Int))=false->∃(v1:Unit),∃(v2:Nat),q8d Q2 Q1 (List.length (nL m (0:Nat))) v2/\(((0:Int)=(↑v2:Int)/\True)/\(Prod.fst Q0=Prod.fst Q0/\Prod.snd Q0=Prod.snd Q0/\True)/\True)/\∀(v3:Nat),q8d Q2 Q1 (List.length (nL m (0:Nat))) v3->((0:Int)<=(0:Int)/\(0:Int)<(↑(List.length m):Int))/\(decide ((↑v3:Int)<(↑(List.length (qa1 (Ty.list (Ty.int .i64)) m (0:Nat))):Int))=true->fits .i64 ((2:Int)*(↑v3:Int))/\fits .i64 ((2:Int)*(↑v3:Int)+(1:Int))/\fits .i64 ((2:Int)*(↑v3:Int))/\fits .i64 ((2:Int)*(↑v3:Int)+(1:Int))/\fits .i64 (((2:Int)*(↑v3:Int)+(1:Int))*((2:Int)*(↑v3:Int)+(1:Int)))/\fits .i64 (((2:Int)*(↑v3:Int)+(1:Int))*((2:Int)*(↑v3:Int)+(1:Int))*Prod.fst Q0)/\(decide (((2:Int)*(↑v3:Int)+(1:Int))*((2:Int)*(↑v3:Int)+(1:Int))*Prod.fst Q0<Prod.snd Q0)=true->fits .i64 ((↑v3:Int)+(1:Int))/\∃(v7:Nat),q8d Q2 Q1 (List.length (nL m (0:Nat))) v7/\List.length (nL m (0:Nat))-v7<List.length (nL m (0:Nat))-v3/\((↑v3:Int)+(1:Int)=(↑v7:Int)/\True)/\(Prod.fst Q0=Prod.fst Q0/\Prod.snd Q0=Prod.snd Q0/\True)/\True)/\(decide (((2:Int)*(↑v3:Int)+(1:Int))*((2:Int)*(↑v3:Int)+(1:Int))*Prod.fst Q0<Prod.snd Q0)=false->(↑v3:Int)=q8c m/\(0:Int)=wh7 m/\True))/\(decide ((↑v3:Int)<(↑(List.length (qa1 (Ty.list (Ty.int .i64)) m (0:Nat))):Int))=false->(↑v3:Int)=q8c m/\(0:Int)=wh7 m/\True))) (by kernel_rfl) ?_
 try simp only[z0,z1,z2,z3,z4,z5,z6,z7,z8,z9,z10,Int.reduceEq,z11,z12,z13,z14,z15,z16,z17,z18,z19,z20,z21,z22,z23,z24,z25,z26,z27,z28,z29,z30,Int.reduceLE,Int.reduceLT,z31,z32,z33,z34,qa4]
 try simp only[qb6,qb7,qc8,List.set_cons_zero,List.cons.injEq,and_true,true_and]
 exact w9q m
abbrev x2q:qc0:=qf8 true none [.prod (.int .i64) (.int .i64)] [.bool] (λ_=>True) (λx=>(qs9 x.1,()))
theorem wx9:qd3 Tryz.prog 94 x2q:=by
 refine meets (snd (SpecsOk.cons q25 (SpecsOk.cons q4d (SpecsOk.nil _)))) Tryz.func94 rfl rfl (λ_ _=>none) (λ_=>by kernel_rfl) (by decide) ?_
 rintro⟨⟨n,d⟩,⟨⟩⟩ -
 revert n d
 intro(n:Int) (d:Int)
 refine @qd8 _ (True/\(inB d (1:Int) (400:Int)=true->True/\(inB n (-10000000000:Int) (10000000000:Int)=true->(((-4000000000000000000:Int)<=n/\n<=BIG)/\(-4000000000000000000:Int)<=d/\d<=BIG)/\(qf2 n d==(1:Int))=qs9 (n,d))/\(inB n (-10000000000:Int) (10000000000:Int)=false->false=qs9 (n,d)))/\(inB d (1:Int) (400:Int)=false->false=qs9 (n,d))) (by kernel_rfl) ?_
 try simp only[z0,z1,z2,z3,z4,z5,z6,z7,z8,z9,z10,Int.reduceEq,z11,z12,z13,z14,z15,z16,z17,z18,z19,z20,z21,z22,z23,z24,z25,z26,z27,z28,z29,z30,Int.reduceLE,Int.reduceLT,z31,z32,z33,z34,qa4]
 try simp only[qb6,qb7,qc8,List.set_cons_zero,List.cons.injEq,and_true,true_and]
 show(inB d 1 400=true->(inB n (-10000000000) 10000000000=true->((-4000000000000000000<=n/\n<=4000000000000000000)/\-4000000000000000000<=d/\d<=4000000000000000000)/\(qf2 n d==1)=qs9 (n,d))/\(inB n (-10000000000) 10000000000=false->false=qs9 (n,d)))/\(inB d 1 400=false->false=qs9 (n,d))
 have e0:qs9 (n,d)=(inB d 1 400 && inB n (-10000000000) 10000000000 && (qf2 n d==1)):=rfl
 rw[e0]
 refine⟨λc1=>⟨λc2=>?_,λc2=>by rw[c1,c2]; rfl⟩,λc1=>by rw[c1]; rfl⟩
 have h1:=inB_iff.1 c1
 have h2:=inB_iff.1 c2
 exact⟨⟨⟨by omega,by omega⟩,by omega,by omega⟩,by rw[c1,c2]; rfl⟩
structure x23 (l:List (Int × Int)) (k:Nat):Prop where
 le:k<=l.length
 ok:∀i,i<k->qs9 (nR l i)=true
def xj4 (l:List (Int × Int)):Nat->Option Inv
 | 0=>some (Inv.of [7] 0 (λk:Nat=>[(7,.lit (.int .i64 k))]) (λ_=>[]) (λk=>x23 l k) (λk=>l.length-k))
 | _=>none
abbrev xw9:qc0:=qf8 true none [wt3] [.bool] (λx=>x.1.length<=1000) (λx=>(x.1.all qs9,()))
theorem wq6:qd3 Tryz.prog 51 xw9:=by
 refine meets (snd (SpecsOk.cons wx9 (SpecsOk.nil _))) Tryz.func51 rfl rfl (λx=>xj4 x.1) (λ_=>by kernel_rfl) (by decide) ?_
 rintro⟨l,⟨⟩⟩ h
 revert l
 intro(l:List (Int × Int)) (h:l.length<=1000)
 refine @qd8 _ (let Q0:=List.length l; ∃(v0:Unit),∃(v1:Nat),x23 l v1/\(((0:Int)=(↑v1:Int)/\True)/\True)/\∀(v2:Nat),x23 l v2->(decide ((↑v2:Int)<(↑Q0:Int))=true->((0:Int)<=(↑v2:Int)/\(↑v2:Int)<(↑Q0:Int))/\True/\((!qs9 (Prod.fst (qa1 (Ty.prod (Ty.int .i64) (Ty.int .i64)) l (Int.toNat (↑v2:Int))),Prod.snd (qa1 (Ty.prod (Ty.int .i64) (Ty.int .i64)) l (Int.toNat (↑v2:Int)))))=true->false=List.all l qs9)/\((!qs9 (Prod.fst (qa1 (Ty.prod (Ty.int .i64) (Ty.int .i64)) l (Int.toNat (↑v2:Int))),Prod.snd (qa1 (Ty.prod (Ty.int .i64) (Ty.int .i64)) l (Int.toNat (↑v2:Int)))))=false->fits .i64 ((↑v2:Int)+(1:Int))/\∃(v6:Nat),x23 l v6/\List.length l-v6<List.length l-v2/\((↑v2:Int)+(1:Int)=(↑v6:Int)/\True)/\True))/\(decide ((↑v2:Int)<(↑Q0:Int))=false->true=List.all l qs9)) (by kernel_rfl) ?_
 try simp only[z0,z1,z2,z3,z4,z5,z6,z7,z8,z9,z10,Int.reduceEq,z11,z12,z13,z14,z15,z16,z17,z18,z19,z20,z21,z22,z23,z24,z25,z26,z27,z28,z29,z30,Int.reduceLE,Int.reduceLT,z31,z32,z33,z34,qa4]
 try simp only[qb6,qb7,qc8,List.set_cons_zero,List.cons.injEq,and_true,true_and]
 refine⟨(),0,⟨Nat.zero_le _,by omega⟩,rfl,λk hk=>⟨λhlt=>⟨hlt,λc=>?_,λc=>⟨?_,k+1,⟨hlt,λi hi=>?_⟩,by omega,by push_cast; rfl⟩⟩,λhge=>?_⟩⟩
 ·symm
  rw[List.all_eq_false]
  exact⟨nR l k,by rw[w2e hlt]; exact List.getElem_mem _,by rw[show qs9 (nR l k)=false from c]; simp⟩
 ·exact qa7 (by omega) (by omega)
 ·by_cases e:i=k
  ·subst e; exact c
  ·exact hk.ok i (by omega)
 ·symm
  rw[List.all_eq_true]
  intro x hx
  obtain⟨i,hi,rfl⟩:=List.mem_iff_getElem.1 hx
  have:=hk.ok i (by have:=hk.le; omega)
  rwa [w2e hi] at this
structure x6d (m:List (List Int)) (pix:List Int) (v:List (Int × Int)):Prop where
 one:0<m.length
 n2:(nL m 0).length<=1000
 len:pix.length<=v.length
 big:pix.length<=1000000
 at_:∀k,k<pix.length->0<=nI pix k/\nI pix k<(nL m 0).length
abbrev x6e:qc0:=qf8 true (some 42) [tMask,q5c] [wt3] (λx=>x6d x.1 x.2.1.1 x.2.1.2) (λx=>(q4y (nL x.1 0).length x.2.1.1 x.2.1.2 x.2.1.1.length,()))
def x2r (n:Nat) (pix:List Int) (v:List (Int × Int)):Nat->Option Inv
 | 0=>some (Inv.of [5,16] 2 (λk:Nat=>[(5,.own 1),(16,.lit (.int .i64 k))]) (λk=>[.box 27 (.cons (.dat (.int .i64) pix) (.cons (.dat q7z v) .nil)),.vec 42 q7z (ovr q7z (λ_=>(0,1)) (List.replicate n (0,0)) k)]) (λk=>k<=n) (λk=>n-k))
 | 1=>some (Inv.of [5,27] 2 (λk:Nat=>[(5,.own 1),(27,.lit (.int .i64 k))]) (λk=>[.box 27 (.cons (.dat (.int .i64) pix) (.cons (.dat q7z v) .nil)),.vec 42 q7z (q4y n pix v k)]) (λk=>k<=pix.length) (λk=>pix.length-k))
 | _=>none
theorem w4p:qd3 Tryz.prog 54 x6e:=by
 refine meets (snd (SpecsOk.nil _)) Tryz.func54 rfl rfl (λx=>x2r (nL x.1 0).length x.2.1.1 x.2.1.2) (λ_=>by kernel_rfl) (by decide) ?_
 rintro⟨m,⟨p,v⟩,⟨⟩⟩ h
 revert m p v
 intro(m:List (List Int)) (p:List Int) (v:List (Int × Int)) (h:x6d m p v)
 refine @qd8 _ (let Q0:=List.length p; ((0:Int)<=(0:Int)/\(0:Int)<(↑(List.length m):Int))/\((↑(List.length (qa1 (Ty.list (Ty.int .i64)) m (0:Nat))):Int)=(↑(List.length (qa1 (Ty.list (Ty.int .i64)) m (0:Nat))):Int)/\(0:Int)<=(↑(List.length (qa1 (Ty.list (Ty.int .i64)) m (0:Nat))):Int)/\(↑(List.length (qa1 (Ty.list (Ty.int .i64)) m (0:Nat))):Int)<=(1000000:Int))/\∃(v0:Unit),∃(v1:Nat),Nat.le v1 (List.length (nL m (0:Nat)))/\((True/\(0:Int)=(↑v1:Int)/\True)/\(p=p/\v=v/\True)/\List.replicate (Int.toNat (↑(List.length (qa1 (Ty.list (Ty.int .i64)) m (0:Nat))):Int)) (Ty.dflt (TI.ty T42))=ovr q7z (λ(v2:Nat)=>((0:Ty.den (Ty.int .i64)),(1:Ty.den (Ty.int .i64)))) (List.replicate (List.length (nL m (0:Nat))) ((0:Ty.den (Ty.int .i64)),(0:Ty.den (Ty.int .i64)))) v1/\True)/\∀(v2:Nat),Nat.le v2 (List.length (nL m (0:Nat)))->(decide ((↑v2:Int)<(↑(List.length (List.replicate (Int.toNat (↑(List.length (qa1 (Ty.list (Ty.int .i64)) m (0:Nat))):Int)) (Ty.dflt (TI.ty T42)))):Int))=true->((0:Int)<=(↑v2:Int)/\(↑v2:Int)<(↑(List.length (ovr q7z (λ(v5:Nat)=>((0:Ty.den (Ty.int .i64)),(1:Ty.den (Ty.int .i64)))) (List.replicate (List.length (nL m (0:Nat))) ((0:Ty.den (Ty.int .i64)),(0:Ty.den (Ty.int .i64)))) v2)):Int))/\Int.toNat (↑v2:Int)<List.length (ovr q7z (λ(v5:Nat)=>((0:Ty.den (Ty.int .i64)),(1:Ty.den (Ty.int .i64)))) (List.replicate (List.length (nL m (0:Nat))) ((0:Ty.den (Ty.int .i64)),(0:Ty.den (Ty.int .i64)))) v2)/\fits .i64 ((↑v2:Int)+(1:Int))/\∃(v5:Nat),Nat.le v5 (List.length (nL m (0:Nat)))/\List.length (nL m (0:Nat))-v5<List.length (nL m (0:Nat))-v2/\(True/\(↑v2:Int)+(1:Int)=(↑v5:Int)/\True)/\(p=p/\v=v/\True)/\List.set (ovr q7z (λ(v6:Nat)=>((0:Ty.den (Ty.int .i64)),(1:Ty.den (Ty.int .i64)))) (List.replicate (List.length (nL m (0:Nat))) ((0:Ty.den (Ty.int .i64)),(0:Ty.den (Ty.int .i64)))) v2) (Int.toNat (↑v2:Int)) ((0:Int),(1:Int))=ovr q7z (λ(v6:Nat)=>((0:Ty.den (Ty.int .i64)),(1:Ty.den (Ty.int .i64)))) (List.replicate (List.length (nL m (0:Nat))) ((0:Ty.den (Ty.int .i64)),(0:Ty.den (Ty.int .i64)))) v5/\True)/\(decide ((↑v2:Int)<(↑(List.length (List.replicate (Int.toNat (↑(List.length (qa1 (Ty.list (Ty.int .i64)) m (0:Nat))):Int)) (Ty.dflt (TI.ty T42)))):Int))=false->∃(v5:Unit),∃(v6:Nat),Nat.le v6 Q0/\((True/\(0:Int)=(↑v6:Int)/\True)/\(p=p/\v=v/\True)/\ovr q7z (λ(v7:Nat)=>((0:Ty.den (Ty.int .i64)),(1:Ty.den (Ty.int .i64)))) (List.replicate (List.length (nL m (0:Nat))) ((0:Ty.den (Ty.int .i64)),(0:Ty.den (Ty.int .i64)))) v2=q4y (List.length (nL m (0:Nat))) p v v6/\True)/\∀(v7:Nat),Nat.le v7 Q0->(decide ((↑v7:Int)<(↑Q0:Int))=true->((0:Int)<=(↑v7:Int)/\(↑v7:Int)<(↑Q0:Int))/\((0:Int)<=(↑v7:Int)/\(↑v7:Int)<(↑(List.length v):Int))/\((0:Int)<=qa1 (Ty.int .i64) p (Int.toNat (↑v7:Int))/\qa1 (Ty.int .i64) p (Int.toNat (↑v7:Int))<(↑(List.length (q4y (List.length (nL m (0:Nat))) p v v7)):Int))/\Int.toNat (qa1 (Ty.int .i64) p (Int.toNat (↑v7:Int)))<List.length (q4y (List.length (nL m (0:Nat))) p v v7)/\fits .i64 ((↑v7:Int)+(1:Int))/\∃(v10:Nat),Nat.le v10 Q0/\List.length p-v10<List.length p-v7/\(True/\(↑v7:Int)+(1:Int)=(↑v10:Int)/\True)/\(p=p/\v=v/\True)/\List.set (q4y (List.length (nL m (0:Nat))) p v v7) (Int.toNat (qa1 (Ty.int .i64) p (Int.toNat (↑v7:Int)))) (Prod.fst (qa1 q7z v (Int.toNat (↑v7:Int))),Prod.snd (qa1 q7z v (Int.toNat (↑v7:Int))))=q4y (List.length (nL m (0:Nat))) p v v10/\True)/\(decide ((↑v7:Int)<(↑Q0:Int))=false->q4y (List.length (nL m (0:Nat))) p v v7=q4y (List.length (nL m (0:Nat))) p v Q0))) (by kernel_rfl) ?_
 try simp only[z0,z1,z2,z3,z4,z5,z6,z7,z8,z9,z10,Int.reduceEq,z11,z12,z13,z14,z15,z16,z17,z18,z19,z20,z21,z22,z23,z24,z25,z26,z27,z28,z29,z30,Int.reduceLE,Int.reduceLT,z31,z32,z33,z34,qa4]
 try simp only[qb6,qb7,qc8,List.set_cons_zero,List.cons.injEq,and_true,true_and]
 obtain⟨h1,h2,h3,h4,h5⟩:=h
 have ol:∀k,(ovr q7z (λ_=>(0,1)) (List.replicate (nL m 0).length (0,0)) k).length=(nL m 0).length:=λk=>by rw[qp9,List.length_replicate]
 refine⟨by omega,by omega,(),0,Nat.zero_le _,⟨rfl,(qv1 _ _ _).symm⟩,λk hk=>⟨λhlt=>?_,λhge=>⟨(),0,Nat.zero_le _,⟨rfl,?_⟩,λi hi=>⟨λhlt=>?_,λhge2=>?_⟩⟩⟩⟩
 ·rw[List.length_replicate] at hlt
  exact⟨by rw[ol]; exact hlt,by rw[ol]; exact hlt,qa7 (by omega) (by omega),k+1,hlt,by omega,by push_cast; rfl,qs6 q7z (λ_=>(0,1)) _ k⟩
 ·rw[List.length_replicate] at hge
  rw[q0j q7z _ _ k (by rw[List.length_replicate]; omega),List.length_replicate]
  show(List.range (nL m 0).length).map (λ_=>((0,1):Int × Int))=List.replicate (nL m 0).length (0,1)
  rw[List.map_const',List.length_range]
 ·have ha:=h5 i hlt
  rw[q5n]
  exact⟨hlt,by omega,ha,by omega,qa7 (by omega) (by omega),i+1,hlt,by omega,by push_cast; rfl,rfl⟩
 ·obtain rfl:i=p.length:=by omega
  rfl
def qu5 (m:List (List Int)) (p:List Int) (v:List (Int × Int)):Int:=if validB m=false\/¬p.length=v.length\/v.all qs9=false\/wh4 p=false\/(v.any λr=>r.1==0)=true then 1 else q42 (nL m 0).length p
def q1k (m:List (List Int)) (p:List Int) (v:List (Int × Int)):List (Int × Int):=if qu5 m p v=0 then q4y (nL m 0).length p v p.length else[]
structure xx0 (m:List (List Int)) (p:List Int) (v:List (Int × Int)):Prop where
 fit:q77 m
 len:p.length<=1000
 val:v.length<=1000
structure xj5 (v:List (Int × Int)) (k:Nat):Prop where
 le:k<=v.length
 ok:∀i,i<k->(nR v i).1≠0
def x2s (p:List Int) (v:List (Int × Int)):Nat->Option Inv
 | 0=>some (Inv.of [36] 1 (λk:Nat=>[(36,.lit (.int .i64 k))]) (λk=>[.box 27 (.cons (.dat (.int .i64) p) (.cons (.dat q7z v) .nil))]) (λk=>xj5 v k) (λk=>v.length-k))
 | _=>none
abbrev x2t:qc0:=qf8 true (some 42) [tMask,q5c] [wt3,tInt] (λx=>xx0 x.1 x.2.1.1 x.2.1.2) (λx=>(q1k x.1 x.2.1.1 x.2.1.2,qu5 x.1 x.2.1.1 x.2.1.2,()))
theorem wy0:qd3 Tryz.prog 16 x2t:=by
 refine meets (snd (SpecsOk.cons w1a (SpecsOk.cons wq6 (SpecsOk.cons wm1 (SpecsOk.cons w3o (SpecsOk.cons w4p (SpecsOk.nil _))))))) Tryz.func16 rfl rfl (λx=>x2s x.2.1.1 x.2.1.2) (λ_=>by kernel_rfl) (by decide) ?_
 rintro⟨m,⟨p,v⟩,⟨⟩⟩ h
 revert m p v
 intro(m:List (List Int)) (p:List Int) (v:List (Int × Int)) (h:xx0 m p v)
 refine @qd8 _ (let Q0:=List.length v; let Q1:=List.length p; q77 m/\((!validB m)=true->q1k m p v=[]/\(1:Int)=qu5 m p v/\True)/\((!validB m)=false->(((↑Q1:Int) != (↑Q0:Int))=true->q1k m p v=[]/\(1:Int)=qu5 m p v/\True)/\(((↑Q1:Int) != (↑Q0:Int))=false->List.length v<=(1000:Nat)/\((!List.all v qs9)=true->q1k m p v=[]/\(1:Int)=qu5 m p v/\True)/\((!List.all v qs9)=false->List.length p<=(1000000:Nat)/\((!wh4 p)=true->q1k m p v=[]/\(1:Int)=qu5 m p v/\True)/\((!wh4 p)=false->∃(v4:Unit),∃(v5:Nat),xj5 v v5/\(((0:Int)=(↑v5:Int)/\True)/\(p=p/\v=v/\True)/\True)/\∀(v6:Nat),xj5 v v6->(decide ((↑v6:Int)<(↑Q0:Int))=true->((0:Int)<=(↑v6:Int)/\(↑v6:Int)<(↑Q0:Int))/\((Prod.fst (qa1 (Ty.prod (Ty.int .i64) (Ty.int .i64)) v (Int.toNat (↑v6:Int)))==(0:Int))=true->q1k m p v=[]/\(1:Int)=qu5 m p v/\True)/\((Prod.fst (qa1 (Ty.prod (Ty.int .i64) (Ty.int .i64)) v (Int.toNat (↑v6:Int)))==(0:Int))=false->fits .i64 ((↑v6:Int)+(1:Int))/\∃(v10:Nat),xj5 v v10/\List.length v-v10<List.length v-v6/\((↑v6:Int)+(1:Int)=(↑v10:Int)/\True)/\(p=p/\v=v/\True)/\True))/\(decide ((↑v6:Int)<(↑Q0:Int))=false->(((0:Nat)<List.length m/\List.length (nL m (0:Nat))<=(1000000:Nat))/\List.length p<=(1000000:Nat))/\((q42 (↑(List.length (nL m (0:Nat))):Int) p != (0:Int))=true->q1k m p v=[]/\q42 (↑(List.length (nL m (0:Nat))):Int) p=qu5 m p v/\True)/\((q42 (↑(List.length (nL m (0:Nat))):Int) p != (0:Int))=false->x6d m p v/\q4y (List.length (nL m (0:Nat))) p v Q1=q1k m p v/\(0:Int)=qu5 m p v/\True))))))) (by kernel_rfl) ?_
 try simp only[z0,z1,z2,z3,z4,z5,z6,z7,z8,z9,z10,Int.reduceEq,z11,z12,z13,z14,z15,z16,z17,z18,z19,z20,z21,z22,z23,z24,z25,z26,z27,z28,z29,z30,Int.reduceLE,Int.reduceLT,z31,z32,z33,z34,qa4]
 try simp only[qb6,qb7,qc8,List.set_cons_zero,List.cons.injEq,and_true,true_and]
 obtain⟨hf,hp,hv⟩:=h
 have bad:qu5 m p v=1->q1k m p v=[]/\1=qu5 m p v:=λe=>by simp[q1k,e]
 refine⟨hf,λc1=>bad (by simp[qu5,c1]),λc1=>⟨λc2=>bad (by simp[qu5,show ¬p.length=v.length by omega]),λc2=>⟨hv,λc3=>bad (by unfold qu5; rw[c3]; simp),λc3=>⟨by omega,λc4=>bad (by unfold qu5; rw[c4]; simp),λc4=>⟨(),0,⟨Nat.zero_le _,by omega⟩,rfl,λk hk=>⟨λhlt=>⟨hlt,λc5=>bad ?_,λc5=>⟨qa7 (by omega) (by omega),k+1,⟨hlt,λi hi=>?_⟩,by omega,by push_cast; rfl⟩⟩,λhge=>?_⟩⟩⟩⟩⟩⟩
 ·have e:(v.any λr=>r.1==0)=true:=by
   rw[List.any_eq_true]
   exact⟨nR v k,by rw[w2e hlt]; exact List.getElem_mem _,by rw[beq_iff_eq]; exact c5⟩
  unfold qu5
  rw[e]; simp
 ·by_cases e:i=k
  ·subst e; exact c5
  ·exact hk.ok i (by omega)
 ·have hle:=hk.le
  have e:(v.any λr=>r.1==0)=false:=by
   rw[List.any_eq_false]
   intro x hx
   obtain⟨i,hi,rfl⟩:=List.mem_iff_getElem.1 hx
   have:=hk.ok i (by omega)
   rw[w2e hi] at this
   simpa using this
  have hM:=Mk.of c1
  have m1:=hM.rows1
  have m10:=hM.pix10
  have eE:qu5 m p v=q42 (nL m 0).length p:=by
   unfold qu5
   rw[if_neg]
   rw[c1,c3,c4,e]
   simp
   omega
  refine⟨⟨⟨by omega,by omega⟩,by omega⟩,λc5=>?_,λc5=>?_⟩
  ·unfold q1k
   rw[eE,if_neg c5]
   exact⟨rfl,rfl⟩
  ·have hN:=Named.of c5
   refine⟨⟨by omega,by omega,by omega,by omega,hN.at_⟩,?_,?_⟩
   ·unfold q1k
    rw[eE,if_pos c5]
   ·rw[eE]; exact c5.symm
theorem xj6 (r:Int × Int):q86 r=qs9 r:=by
 rw[Bool.eq_iff_iff]
 unfold qs9 q86
 simp only[Bool.and_eq_true,inB_iff,decide_eq_true_eq]
 constructor
 ·rintro⟨⟨⟨⟨h1,h2⟩,h3⟩,h4⟩,h5⟩
  exact⟨⟨⟨h1,h2⟩,by omega,h4⟩,h5⟩
 ·rintro⟨⟨⟨h1,h2⟩,h3,h4⟩,h5⟩
  exact⟨⟨⟨⟨h1,h2⟩,by omega⟩,h4⟩,h5⟩
theorem w2m:∀v:List (Int × Int),wn3 v=(!(v.all qs9) || v.any λr=>r.1==0)
 | []=>rfl
 | r :: v=>by
  have ih:=w2m v
  unfold wn3 at ih ⊢
  rw[List.any_cons,List.all_cons,List.any_cons,ih,xj6]
  cases qs9 r <;> cases(r.1==0) <;> cases v.all qs9 <;> rfl
theorem w2n {m:List (List Int)} {p:List Int} {v:List (Int × Int)}:wf7 m p v=qu5 m p v:=by
 unfold wf7 qu5 wh5 w1e
 dsimp only
 rw[w2m]
 by_cases hl:p.length=v.length
 ·cases validB m <;> cases v.all qs9 <;> cases wh4 p <;> cases(v.any λr=>r.1==0) <;> simp[hl]
 ·cases validB m <;> simp[hl]
theorem w9s {m:List (List Int)} {p:List Int} {v:List (Int × Int)}:wq9 m p v=q1k m p v:=by
 unfold wq9 q1k
 rw[w2n]
end Go.Proofs.YtdibdlelmkcccaaGreat
