/- Lengths of a slice of slices. No condition. -/
import Derived.Test.YtempacilejhbgaaGreatR8
import Derived.Test.YtempacilejhbgaaGreatQ28
import Derived.Test.YtempacilejhbgaaGreatR1
import Derived.Test.YtempacilejhbgaaGreatProg
import Derived.Test.YtempacilejhbgaaGreatApp
import Derived.Test.YtempacilejhbgaaGreatRows
import Derived.Test.YtempacilejhbgaaGreatCore
import Derived.ProofKit
import Derived.OpenShut
import Derived.ShutString
import Derived.ChangeOld
import Derived.Below
import Derived.Deep.Matrix
import Derived.Test.YtempacilejhbgaaGreatV7
set_option linter.unusedVariables false
set_option linter.unusedSimpArgs false
namespace Go.Proofs.YtempacilejhbgaaGreat
open Go Go.RowKit Eng
structure NoHit (l S:List (List Int)) (g:Int × Int) (i j:Nat):Prop where
 no:∀i' j',Bef i j i' j' S.length->shR (nL l i') (nL S j')≠g
theorem xq2 (l S:List (List Int)) (g:Int × Int):NoHit l S g 0 0:=⟨λi' j' h=>by unfold Bef at h; omega⟩
theorem NoHit.step {l S:List (List Int)} {g:Int × Int} {i j:Nat} (h:NoHit l S g i j) (hh:shR (nL l i) (nL S j)≠g):NoHit l S g i (j+1):=⟨λi' j' hb=>by
 by_cases e:i'=i/\j'=j
 ·rw[e.1,e.2]; exact hh
 ·exact h.no i' j' (by unfold Bef at *; omega)⟩
theorem NoHit.next {l S:List (List Int)} {g:Int × Int} {i:Nat} (h:NoHit l S g i S.length):NoHit l S g (i+1) 0:=⟨λi' j' hb=>h.no i' j' (by unfold Bef at *; omega)⟩
theorem NoHit.skip {l S:List (List Int)} {g:Int × Int} {i:Nat} (h:NoHit l S g i 0) (hh:∀j,j<S.length->shR (nL l i) (nL S j)≠g):NoHit l S g (i+1) 0:=⟨λi' j' hb=>by
 by_cases e:i'=i
 ·rw[e]; exact hh j' (by unfold Bef at hb; omega)
 ·exact h.no i' j' (by unfold Bef at *; omega)⟩
theorem w79 {m:List (List Int)} {k:Int} (hl:(qc0 m).1.length=0):(whR m k).2=([],[]):=by
 unfold whR
 rw[hl]; rfl
section
variable {m : List (List Int)} (hv : validB m = true) (h7 : (nL m 0).length <= 7) {k : Nat} (hk : k <= (nL m 0).length)
include hv h7 hk
theorem wd1 (hl:0<(qc0 m).1.length):∃p q,(p<(qc0 m).1.length/\q<(qa4 (nL m 0).length (k:Nat)).length)/\(whR m k).2=(nL (qc0 m).1 p,nL (qa4 (nL m 0).length (k:Nat)) q) /\
  shR (nL (qc0 m).1 p) (nL (qa4 (nL m 0).length (k:Nat)) q)=qg6 (qc0 m).1 k (qc0 m).1.length/\NoHit (qc0 m).1 (qa4 (nL m 0).length (k:Nat)) (qg6 (qc0 m).1 k (qc0 m).1.length) p q:=by
 have hO:=xr6 hv h7 k
 have hS:=w1h hk
 have ht:=xh9 hv h7 hk
 obtain⟨p,q,h1,h2,h3,h4⟩:=(wd0 hO _ (Nat.le_refl _)).some ⟨0,0,.inl ⟨hl,hS⟩⟩
 have h2:whR m k=_:=h2
 have h4:∀i' j',Bef p q i' j' _->shR (nL (qc0 m).1 i') _≠(whR m k).1:=h4
 rw[ht] at h4
 refine⟨p,q,by unfold Bef at h1; omega,by rw[h2],?_,⟨h4⟩⟩
 rw[<- ht,h2]
theorem w8a {i j:Nat} (hi:i<(qc0 m).1.length) (hj:j<(qa4 (nL m 0).length (k:Nat)).length) (hn:NoHit (qc0 m).1 (qa4 (nL m 0).length (k:Nat)) (qg6 (qc0 m).1 k (qc0 m).1.length) i j)
  (hh:shR (nL (qc0 m).1 i) (nL (qa4 (nL m 0).length (k:Nat)) j)=qg6 (qc0 m).1 k (qc0 m).1.length):(whR m k).2=(nL (qc0 m).1 i,nL (qa4 (nL m 0).length (k:Nat)) j):=by
 obtain⟨p,q,⟨h1,h2⟩,h3,h4,h5⟩:=wd1 hv h7 hk (by omega)
 have a1:¬Bef p q i j (qa4 (nL m 0).length (k:Nat)).length:=λb=>h5.no i j b hh
 have a2:¬Bef i j p q (qa4 (nL m 0).length (k:Nat)).length:=λb=>hn.no p q b h4
 have e:p=i/\q=j:=by unfold Bef at *; omega
 rw[h3,e.1,e.2]
theorem xz9 (hn:NoHit (qc0 m).1 (qa4 (nL m 0).length (k:Nat)) (qg6 (qc0 m).1 k (qc0 m).1.length) (qc0 m).1.length 0):(qc0 m).1.length=0:=by
 rcases Nat.eq_zero_or_pos (qc0 m).1.length with e | e
 ·exact e
 ·obtain⟨p,q,⟨h1,h2⟩,h3,h4,h5⟩:=wd1 hv h7 hk e
  exact absurd h4 (hn.no p q (.inl ⟨h1,h2⟩))
theorem xq3 {i:Nat} (hi:i<(qc0 m).1.length) (hne:shR (nL (qc0 m).1 i) (qu3 (nL (qc0 m).1 i) k)≠qg6 (qc0 m).1 k (qc0 m).1.length) {j:Nat} (hj:j<(qa4 (nL m 0).length (k:Nat)).length) :
  shR (nL (qc0 m).1 i) (nL (qa4 (nL m 0).length (k:Nat)) j)≠qg6 (qc0 m).1 k (qc0 m).1.length:=λhe=>by
 have hO:=xr6 hv h7 k
 have hT:=(xp5 (m:=m) λ_=>h7).shs hv k hk
 have hmx:=q0t hT _ (Nat.le_refl _)
 have htl:=qo0 hT _ (Nat.le_refl _)
 rw[Int.toNat_natCast] at htl
 have hsh:=hO.sh i hi j hj
 obtain⟨s,hc⟩:=qz2 hv h7 hi
 have hsp:wb4 (nL (qc0 m).1 i) (qu3 (nL (qc0 m).1 i) k):=wn9 hv hc (q7n hc k)
 have hset:=qo3 (qj4 _ j hj)
 have hmost:=w1d (h:=nL (qc0 m).1 i) (p:=nL (qa4 (nL m 0).length (k:Nat)) j) (by rw[hc.len]; exact hset.1)
 rw[hset.2] at hmost
 have hpos:=q2b hsh.ok hsh.ne
 have l1:=xp6 hsh hsp (Int.mul_le_mul_of_nonneg_right hmost (by omega))
 rw[he] at l1
 exact hne (w74 (qu1 hsp).low (by rw[<- he]; exact(qu1 hsh).low) (hmx.1 i hi) l1)
theorem x3o (hl:0<(qc0 m).1.length):0<(whR m k).2.1.length:=by
 obtain⟨p,q,⟨h1,h2⟩,h3,h4,h5⟩:=wd1 hv h7 hk hl
 have:=(xr6 hv h7 k).ne h1 h2
 rw[h3]
 show 0<(nL (qc0 m).1 p).length
 exact List.length_pos_iff.2 λe=>by rw[e] at this; cases this
end
def q3k (m:List (List Int)) (k:Int):List Int × List Int × Int:=
 if qm9 m k 0=0 then if(whR m k).2.1.length=0 then([],[],8) else((whR m k).2.1,(whR m k).2.2,0) else([],[],qm9 m k 0)
abbrev xi1:qb9:=qg2 false none [tMask,tInt] [tInts,tInts,tInt] (λx=>wo9 x.1) (λx=>((q3k x.1 x.2.1).1,(q3k x.1 x.2.1).2.1,(q3k x.1 x.2.1).2.2,()))
theorem wu8 {m:List (List Int)} {k:Int} (h:¬qm9 m k 0=0):q3k m k=([],[],qm9 m k 0):=if_neg h
theorem wu9 {m:List (List Int)} {k:Int} (h:qm9 m k 0=0) (hl:(whR m k).2.1.length=0):q3k m k=([],[],8):=(if_pos h).trans (if_pos hl)
theorem wv0 {m:List (List Int)} {k:Int} (h:qm9 m k 0=0) (hl:¬(whR m k).2.1.length=0):q3k m k=((whR m k).2.1,(whR m k).2.2,0):=(if_pos h).trans (if_neg hl)
theorem xi2 {m:List (List Int)} {k:Int} (h:wo9 m) (h1:qm9 m k 0=0):wo3 m k:=by
 obtain⟨hv,n,rfl,hn⟩:=q4c h1
 exact⟨h,hv,by omega,by omega⟩
theorem wo5:Meets Tryz.prog 27 xi1:=by
 refine meets (snd (SpecsOk.cons q9e (SpecsOk.cons wo4 (SpecsOk.nil _)))) Tryz.func27 rfl rfl (λ_ _=>none) (λ_=>by kernel_rfl) (by decide) ?_
 rintro⟨m,k,⟨⟩⟩ h
 revert m k
 intro(m:List (List Int)) (k:Int) (h:wo9 m)
 refine @qd8 _ (let Q0:=q3k m k; wd8 m/\((qm9 m k (0:Int) != (0:Int))=true->Q0.1=[]/\Q0.2.1=[]/\qm9 m k (0:Int)=Q0.2.2/\True)/\((qm9 m k (0:Int) != (0:Int))=false->wo3 m k/\(List.isEmpty (whR m k).2.1=true->Q0.1=[]/\Q0.2.1=[]/\(8:Int)=Q0.2.2/\True)/\(List.isEmpty (whR m k).2.1=false->(whR m k).2.1=Q0.1/\(whR m k).2.2=Q0.2.1/\(0:Int)=Q0.2.2/\True))) (by kernel_rfl) ?_
 try simp only[z0,z1,z2,z3,z4,z5,z6,z7,z8,z9,z10,Int.reduceEq,z11,z12,z13,z14,z15,z16,z17,z18,z19,z20,z21,z22,z23,z24,z25,z26,z27,z28,z29,z30,Int.reduceLE,Int.reduceLT,z31,z32,z33,z34,qa3]
 try simp only[qb3,qb4,qc7,z31,z32,z2,z1]
 refine⟨h.fit,λh1=>by rw[wu8 h1]; exact⟨rfl,rfl,rfl⟩,λh1=>⟨xi2 h h1,λhe=>?_,λhe=>?_⟩⟩
 ·rw[wu9 h1 (by rw[List.isEmpty_iff.1 he]; rfl)]; exact⟨rfl,rfl,rfl⟩
 ·rw[wv0 h1 λq=>by rw[List.length_eq_zero_iff.1 q] at he; cases he]; exact⟨rfl,rfl,rfl⟩
abbrev xq4:qb9:=qg2 true none [tMask,tInt] [qz1,tInt] (λx=>wo9 x.1) (λx=>(grQ x.1 x.2.1,qm9 x.1 x.2.1 0,()))
theorem wo6:Meets Tryz.prog 25 xq4:=by
 refine meets (snd (SpecsOk.cons q9e (SpecsOk.cons wo4 (SpecsOk.nil _)))) Tryz.func25 rfl rfl (λ_ _=>none) (λ_=>by kernel_rfl) (by decide) ?_
 rintro⟨m,k,⟨⟩⟩ h
 revert m k
 intro(m:List (List Int)) (k:Int) (h:wo9 m)
 refine @qd8 _ (wd8 m/\((qm9 m k (0:Int) != (0:Int))=true->((0:Int)=(grQ m k).1/\(0:Int)=(grQ m k).2/\True)/\qm9 m k (0:Int)=qm9 m k (0:Int)/\True)/\((qm9 m k (0:Int) != (0:Int))=false->wo3 m k/\((whR m k).1.1=(grQ m k).1/\(whR m k).1.2=(grQ m k).2/\True)/\(0:Int)=qm9 m k (0:Int)/\True)) (by kernel_rfl) ?_
 try simp only[z0,z1,z2,z3,z4,z5,z6,z7,z8,z9,z10,Int.reduceEq,z11,z12,z13,z14,z15,z16,z17,z18,z19,z20,z21,z22,z23,z24,z25,z26,z27,z28,z29,z30,Int.reduceLE,Int.reduceLT,z31,z32,z33,z34,qa3]
 try simp only[qb3,qb4,qc7,z31,z32,z2,z1]
 refine⟨h.fit,λh1=>by unfold grQ; rw[if_neg h1]; exact⟨rfl,rfl⟩,λh1=>⟨xi2 h h1,?_,h1.symm⟩⟩
 obtain⟨hv,n,rfl,hn⟩:=q4c h1
 rw[xh9 hv (h.n7 hv) hn]
 unfold grQ
 rw[if_pos h1,Int.toNat_natCast]
 exact⟨rfl,rfl⟩
abbrev x4o (x:Int × Int):AV:=.cons (.lit (.int .i64 x.1)) (.cons (.lit (.int .i64 x.2)) .nil)
abbrev w8b (m:List (List Int)) (k:Int):List AObj:=[.box 3 (.cons (.lit (.int .i64 k)) .nil),.box 24 (.cons (.lit (.slice none 0 0)) .nil),.box 24 (.cons (.lit (.slice none 0 0)) .nil),.box 27 (.cons (.lit (.int .i64 0)) .nil),.box 34 (x4o (qg6 (qc0 m).1 k.toNat (qc0 m).1.length))]
theorem x3p {a b:Int × Int} (h:(a.1==b.1 && a.2==b.2)=true):a=b:=by
 rw[Bool.and_eq_true,beq_iff_eq,beq_iff_eq] at h
 exact Prod.ext h.1 h.2
theorem x0b {a b:Int × Int} (h:(a.1==b.1 && a.2==b.2)=false):a≠b:=λe=>by
 rw[e] at h
 simp at h
structure w8c (m:List (List Int)) (k:Int) (i:Nat):Prop where
 le:i<=(qc0 m).1.length
 no:NoHit (qc0 m).1 (qa4 (nL m 0).length k) (qg6 (qc0 m).1 k.toNat (qc0 m).1.length) i 0
structure x0k (m:List (List Int)) (k:Int) (i j:Nat):Prop where
 lt:i<(qc0 m).1.length
 le:j<=(qa4 (nL m 0).length k).length
 no:NoHit (qc0 m).1 (qa4 (nL m 0).length k) (qg6 (qc0 m).1 k.toNat (qc0 m).1.length) i j
def xq5 (m:List (List Int)) (k:Int):Nat->Option Inv
 | 0=>some (Inv.of [] 5 (λ_:Nat=>[]) (λ_=>w8b m k) (λi=>w8c m k i) (λi=>i))
 | 1=>some (Eng.Inv.mk Nat Nat [] 7 (λ_ _=>[]) (λi _=>w8b m k++[.box 24 (.cons (.dat (.int .i64) (nL (qc0 m).1 i)) .nil),.box 34 (x4o (shR (nL (qc0 m).1 i) (qu3 (nL (qc0 m).1 i) k.toNat)))]) (λi j=>x0k m k i j) (λ_ j=>j))
 | _=>none
theorem wv3:Meets Tryz.prog 26 xi1:=by
 refine meets (xw9 [] [] (SpecsOk.cons q81 (SpecsOk.cons q4a (SpecsOk.cons q65 (SpecsOk.cons wl9 (SpecsOk.cons q8v (SpecsOk.cons q39 (SpecsOk.cons ws5 (SpecsOk.nil _)))))))) MutsOk.nil (ItsOk.cons wl8 (ItsOk.cons q8u ItsOk.nil))) Tryz.func26 rfl rfl (λx=>xq5 x.1 x.2.1) (λ_=>by kernel_rfl) (by decide) ?_
 rintro⟨m,k,⟨⟩⟩ h
 revert m k
 intro(m:List (List Int)) (k:Int) (h:wo9 m)
 refine @qd8 _ (let Q0:=qg6 (qc0 m).1 k.toNat (qc0 m).1.length; let Q1:=q3k m k; let Q2:=w3q (qc0 m).1 k.toNat; True/\((qm9 m k (0:Int) != (0:Int))=true->Q1.1=[]/\Q1.2.1=[]/\qm9 m k (0:Int)=Q1.2.2/\True)/\((qm9 m k (0:Int) != (0:Int))=false->(validB m=true->q7y m)/\q40 (qc0 m).1 k/\True/\q40 (qc0 m).1 k/\∃(v1:Unit),∃(v2:Nat),w8c m k v2/\v2=(0:Nat)/\((k=k/\True)/\(Value.slice none (0:Nat) (0:Nat)=Value.slice none (0:Nat) (0:Nat)/\True)/\(Value.slice none (0:Nat) (0:Nat)=Value.slice none (0:Nat) (0:Nat)/\True)/\((0:Int)=(0:Int)/\True)/\(Q0.1=Q0.1/\Q0.2=Q0.2/\True)/\True)/\∀(v3:Nat),w8c m k v3->(∀(v5:List Int × qa6._f [qz1] ⟨qa6._f [] PUnit.unit,PUnit.unit⟩),(List.map (λ(v7:List Int × Int × Int)=>(v7.1,v7.2,())) Q2)[v3]?=some v5->((!(v5.2.1.1==Q0.1 && v5.2.1.2==Q0.2))=true->∃(v8:Nat),w8c m k v8/\v8=v3+(1:Nat)/\(k=k/\True)/\(Value.slice none (0:Nat) (0:Nat)=Value.slice none (0:Nat) (0:Nat)/\True)/\(Value.slice none (0:Nat) (0:Nat)=Value.slice none (0:Nat) (0:Nat)/\True)/\((0:Int)=(0:Int)/\True)/\(Q0.1=Q0.1/\Q0.2=Q0.2/\True)/\True)/\((!(v5.2.1.1==Q0.1 && v5.2.1.2==Q0.2))=false->True/\(((0:Ty.den tInt)<=k/\k<=(1000:Ty.den tInt))/\(0:Ty.den tInt)<=(↑v5.1.length:Int)/\(↑v5.1.length:Int)<=(1000:Ty.den tInt))/\∃(v8:Nat),∃(v9:Nat),x0k m k v8 v9/\v9=(0:Nat)/\((k=k/\True)/\(Value.slice none (0:Nat) (0:Nat)=Value.slice none (0:Nat) (0:Nat)/\True)/\(Value.slice none (0:Nat) (0:Nat)=Value.slice none (0:Nat) (0:Nat)/\True)/\((0:Int)=(0:Int)/\True)/\(Q0.1=Q0.1/\Q0.2=Q0.2/\True)/\(v5.1=nL (qc0 m).1 v8/\True)/\(v5.2.1.1=(shR (nL (qc0 m).1 v8) (qu3 (nL (qc0 m).1 v8) k.toNat)).1/\v5.2.1.2=(shR (nL (qc0 m).1 v8) (qu3 (nL (qc0 m).1 v8) k.toNat)).2/\True)/\True)/\∀(v10:Nat),x0k m k v8 v10->(∀(v12:List Int × qa6._f [] PUnit.unit),(List.map (λ(v14:List Int)=>(v14,())) (qa4 (↑v5.1.length:Int) k))[v10]?=some v12->∀(v14:q43),wb4 (nL (qc0 m).1 v8) (nL [v12.1] (0:Nat))/\(((shR (nL (qc0 m).1 v8) (nL [v12.1] (0:Nat))).1==Q0.1 && (shR (nL (qc0 m).1 v8) (nL [v12.1] (0:Nat))).2==Q0.2)=true->(nL [v12.1] (0:Nat)).length<=(100000:Nat)/\[v12.1]=[v12.1]/\v14=v14/\True/\nL (qc0 m).1 v8=Q1.1/\nL [v12.1] (0:Nat)=Q1.2.1/\(0:Int)=Q1.2.2/\True)/\(((shR (nL (qc0 m).1 v8) (nL [v12.1] (0:Nat))).1==Q0.1 && (shR (nL (qc0 m).1 v8) (nL [v12.1] (0:Nat))).2==Q0.2)=false->[v12.1]=[v12.1]/\v14=v14/\True/\∃(v16:Nat),x0k m k v8 v16/\v16=v10+(1:Nat)/\(k=k/\True)/\(Value.slice none (0:Nat) (0:Nat)=Value.slice none (0:Nat) (0:Nat)/\True)/\(Value.slice none (0:Nat) (0:Nat)=Value.slice none (0:Nat) (0:Nat)/\True)/\((0:Int)=(0:Int)/\True)/\(Q0.1=Q0.1/\Q0.2=Q0.2/\True)/\(nL (qc0 m).1 v8=nL (qc0 m).1 v8/\True)/\((shR (nL (qc0 m).1 v8) (qu3 (nL (qc0 m).1 v8) k.toNat)).1=(shR (nL (qc0 m).1 v8) (qu3 (nL (qc0 m).1 v8) k.toNat)).1/\(shR (nL (qc0 m).1 v8) (qu3 (nL (qc0 m).1 v8) k.toNat)).2=(shR (nL (qc0 m).1 v8) (qu3 (nL (qc0 m).1 v8) k.toNat)).2/\True)/\True))/\(v10=(List.map (λ(v13:List Int)=>(v13,())) (qa4 (↑v5.1.length:Int) k)).length->∃(v13:Nat),w8c m k v13/\v13=v3+(1:Nat)/\(k=k/\True)/\(Value.slice none (0:Nat) (0:Nat)=Value.slice none (0:Nat) (0:Nat)/\True)/\(Value.slice none (0:Nat) (0:Nat)=Value.slice none (0:Nat) (0:Nat)/\True)/\((0:Int)=(0:Int)/\True)/\(Q0.1=Q0.1/\Q0.2=Q0.2/\True)/\True)))/\(v3=(List.map (λ(v6:List Int × Int × Int)=>(v6.1,v6.2,())) Q2).length->Q1.1=[]/\Q1.2.1=[]/\(8:Int)=Q1.2.2/\True))) (by kernel_rfl) ?_
 try simp only[z0,z1,z2,z3,z4,z5,z6,z7,z8,z9,z10,Int.reduceEq,z11,z12,z13,z14,z15,z16,z17,z18,z19,z20,z21,z22,z23,z24,z25,z26,z27,z28,z29,z30,Int.reduceLE,Int.reduceLT,z31,z32,z33,z34,qa3]
 try simp only[qb3,qb4,qc7,z31,z32,z2,z1]
 refine⟨λh1=>by rw[wu8 h1]; exact⟨rfl,rfl,rfl⟩,λh1=>?_⟩
 obtain⟨hv,n,rfl,hn⟩:=q4c h1
 have h7:=h.n7 hv
 have hM:=Mk.of hv
 have m10:=hM.pix10
 have hT:=(xp5 (m:=m) λ_=>h7).shs hv n hn
 refine⟨λhv=>xz0 hv,hT,hT,(),0,⟨Nat.zero_le _,xq2 _ _ _⟩,rfl,λi hi=>⟨λd hd=>?_,λhe=>?_⟩⟩
 ·have hd:((w3q (qc0 m).1 n).map λq=>((q.1,q.2,()):qa6 [tInts,qz1]))[i]? = some d:=hd
  have hlt:i<(qc0 m).1.length:=by
   have:=(List.getElem?_eq_some_iff.1 hd).1
   rw[List.length_map] at this
   exact Nat.lt_of_lt_of_eq this (List.length_map _)
  rw[w6t hlt] at hd
  obtain rfl:=Option.some.inj hd
  obtain⟨s,hc⟩:=qz2 hv h7 hlt
  have hl:=hc.len
  have hno:NoHit (qc0 m).1 (qa4 (nL m 0).length (n:Nat)) (qg6 (qc0 m).1 n (qc0 m).1.length) i 0:=hi.no
  refine⟨λhf=>⟨i+1,⟨hlt,hno.skip λj hj=>xq3 hv h7 hn hlt (x0b hf) hj⟩,rfl⟩,λhf=>⟨⟨⟨Int.natCast_nonneg n,show(n:Int)<=1000 by omega⟩,show((nL (qc0 m).1 i).length:Int)<=1000 by omega⟩,i,0,⟨hlt,Nat.zero_le _,hno⟩,rfl,⟨rfl,rfl,rfl⟩,λj hj=>⟨λd hd T=>?_,λhe=>?_⟩⟩⟩
  ·have hd:((qa4 ((nL (qc0 m).1 i).length:Nat) n).map λv=>((v,()):qa6 [tInts]))[j]? = some d:=hd
   rw[hl,List.getElem?_map] at hd
   obtain⟨t,ht,rfl⟩:=Option.map_eq_some_iff.1 hd
   obtain⟨hjt,et⟩:=List.getElem?_eq_some_iff.1 ht
   have en:nL (qa4 (nL m 0).length (n:Nat)) j=t:=by rw[qk3 _ j hjt,et]
   have hsh:=(xr6 hv h7 n).sh i hlt j hjt
   have hno2:NoHit (qc0 m).1 (qa4 (nL m 0).length (n:Nat)) (qg6 (qc0 m).1 n (qc0 m).1.length) i j:=hj.no
   rw[en] at hsh
   refine⟨hsh,λhf=>?_,λhf=>⟨j+1,⟨hlt,hjt,hno2.step (by rw[en]; exact x0b hf)⟩,rfl⟩⟩
   have hfst:=w8a hv h7 hn hlt hjt hno2 (by rw[en]; exact x3p hf)
   have hne:=x3o hv h7 hn (Nat.lt_of_le_of_lt (Nat.zero_le _) hlt)
   have htl:=(qo3 (List.mem_of_getElem? ht)).2
   rw[wv0 h1 (by omega),hfst]
   exact⟨by show t.length<=100000; omega,rfl,en.symm,rfl⟩
  ·have he:j=((qa4 ((nL (qc0 m).1 i).length:Nat) n).map λv=>((v,()):qa6 [tInts])).length:=he
   rw[List.length_map,hl] at he
   have hno2:NoHit (qc0 m).1 (qa4 (nL m 0).length (n:Nat)) (qg6 (qc0 m).1 n (qc0 m).1.length) i j:=hj.no
   rw[he] at hno2
   exact⟨i+1,⟨hlt,hno2.next⟩,rfl⟩
 ·have he:i=((w3q (qc0 m).1 n).map λq=>((q.1,q.2,()):qa6 [tInts,qz1])).length:=he
  rw[List.length_map] at he
  obtain rfl:i=(qc0 m).1.length:=he.trans (List.length_map _)
  have:=xz9 hv h7 hn hi.no
  rw[wu9 h1 (by rw[w79 this]; rfl)]
  exact⟨rfl,rfl,rfl⟩
end Go.Proofs.YtempacilejhbgaaGreat
namespace Go.Proofs.YtempacilejhbgaaGreat.K
open Go.RowKit Ls
open Go Go.RowKit Eng Ls
theorem rdL_ints {m:View}:∀l:List Int,RdL m tInt l (ints l)
 | []=>rfl
 | x :: r=>⟨[.int .i64 x],ints r,rfl,rfl,rdL_ints r⟩
open Go.RowKit Ls
end Go.Proofs.YtempacilejhbgaaGreat.K
set_option linter.unusedVariables false
set_option linter.unusedSimpArgs false
namespace Go.Proofs.YtempacilejhbgaaGreat.K
open Go Go.RowKit Eng Ls
open Go.RowKit Ls
end Go.Proofs.YtempacilejhbgaaGreat.K
set_option linter.unusedVariables false
namespace Go.Proofs.YtempacilejhbgaaGreat.K
open Go Go.RowKit Eng Ls
end Go.Proofs.YtempacilejhbgaaGreat.K
namespace Go.Proofs.YtempacilejhbgaaGreat
open Go Go.RowKit Eng
def cq (m:List (List Int)) (i j:Nat):Int:=sm m.length λa=>nI (nL m a) i*nI (nL m a) j
theorem xe4 (h:List Int) {k j:Nat} (hkj:k<=j):inL h (qu3 h k)<=inL h (qu3 h j):=by
 rw[q5j,q5j]
 have:∀(l:List Int) (k j:Nat),k<=j->q2g (szV h) (l.take k)<=q2g (szV h) (l.take j):=λl=>by
  induction l with
  | nil=>intro k j _; simp
  | cons x l ih=>
   intro k j hkj
   have hx:0<=szV h x:=Int.natCast_nonneg _
   have nn:∀l:List Int,0<=q2g (szV h) l:=λl=>by
    induction l with
    | nil=>exact Int.le_refl _
    | cons y l ih2=>have:0<=szV h y:=Int.natCast_nonneg _; simp only[q2g]; omega
   cases k with
   | zero=>simpa[q2g] using nn (List.take j (x :: l))
   | succ k=>
    cases j with
    | zero=>omega
    | succ j=>
     have:=ih k j (by omega)
     simp only[List.take_succ_cons,q2g]
     omega
 exact this _ _ _ hkj
theorem xe5 {m:List (List Int)} (hv:validB m=true) (h7:(nL m 0).length<=7) {k j:Nat} (hkj:k<=j) (hj:j<=(nL m 0).length):leQ (qg6 (qc0 m).1 k (qc0 m).1.length) (qg6 (qc0 m).1 j (qc0 m).1.length):=by
 have hK:=(xp5 (m:=m) λ_=>h7).shs hv k (by omega)
 have hJ:=(xp5 (m:=m) λ_=>h7).shs hv j hj
 have lj:=qo0 hJ _ (Nat.le_refl _)
 rw[Int.toNat_natCast] at lj
 rcases(q0t hK _ (Nat.le_refl _)).2 with e | ⟨i,hi,e⟩
 ·rw[e]; exact w1e lj
 ·rw[e]
  obtain⟨s,hc⟩:=qz2 hv h7 hi
  have h1:=wn9 hv hc (q7n hc k)
  have h2:=wn9 hv hc (q7n hc j)
  have:=q2b h1.ok h1.ne
  exact q3j (qu1 h1).pos (qu1 h2).pos lj.pos (xp6 h1 h2 (Int.mul_le_mul_of_nonneg_right (xe4 _ hkj) (by omega))) ((q0t hJ _ (Nat.le_refl _)).1 i hi)
theorem w8d {h:List Int} (hh:HOk h):q8n h=false:=by
 unfold q8n
 rw[List.any_eq_false]
 intro x hx
 obtain⟨i,hi,rfl⟩:=List.getElem_of_mem hx
 have:=hh.sm i
 rw[qf8 h i hi] at this
 unfold qe8 at this
 rw[inB_iff.2 ⟨by omega,by omega⟩]; simp
theorem xe6 {m:List (List Int)} (hv:validB m=true) {s h:List Int} (hc:w3t m s h):we0 m h=true:=by
 have hz:q2c h h.length=false:=by
  rw[w6v]
  have:=wu4 hc
  unfold szL at this
  exact decide_eq_false (by omega)
 have hd:wu6 m h=true:=by
  unfold wu6
  rw[List.all_eq_true]
  intro a ha
  have ha:=List.mem_range.1 ha
  refine decide_eq_true ?_
  have:=hc.sol a ha
  rw[w1i,(Mk.of hv).each a ha]
  exact this
 unfold we0
 rw[hv,decide_eq_true hc.len,w8d (q3i hv hc),hz,hd]
 rfl
theorem xe7 {m:List (List Int)} (hv:validB m=true) {s h:List Int} (hc:w3t m s h):w3f h=false:=by
 have:=wu4 hc
 have h10:=(Mk.of hv).pix10
 unfold w3f
 rw[w8d (q3i hv hc),decide_eq_false (by rw[hc.len]; omega),decide_eq_false (by omega)]
 rfl
theorem xe8 {m:List (List Int)} (hv:validB m=true) {s h p:List Int} (hc:w3t m s h) (hp:Named (nL m 0).length p):shE h p=0:=by
 unfold shE
 rw[if_neg (by rw[xe7 hv hc]; decide),hc.len]
 exact xq0 hp
theorem x3q {m:List (List Int)} (hv:validB m=true) (h7:(nL m 0).length<=7) {k:Nat} (hk:k<=(nL m 0).length) (hl:0<(qc0 m).1.length) :
  (whR m k).2.1.length=(nL m 0).length/\(whR m k).2.2.length=k/\shE (whR m k).2.1 (whR m k).2.2=0/\shQ (whR m k).2.1 (whR m k).2.2=qg6 (qc0 m).1 k (qc0 m).1.length/\we0 m (whR m k).2.1=true:=by
 obtain⟨p,q,⟨h1,h2⟩,h3,h4,h5⟩:=wd1 hv h7 hk hl
 obtain⟨s,hc⟩:=qz2 hv h7 h1
 have hset:=qo3 (qj4 _ q h2)
 have he:=xe8 hv hc hset.1
 rw[h3]
 exact⟨hc.len,hset.2,he,(if_pos he).trans h4,xe6 hv hc⟩
abbrev xq6:qb9:=qg2 true none [tMask,tInt] [.bool] (λx=>wd8 x.1) (λ_=>(true,()))
theorem q3l:Meets Tryz.prog 5 xq6:=by
 refine meets (snd (SpecsOk.cons w3b (SpecsOk.cons w77 (SpecsOk.cons q66 (SpecsOk.cons wo6 (SpecsOk.cons wv3 (SpecsOk.cons wo5 (SpecsOk.cons wm0 (SpecsOk.cons w70 (SpecsOk.cons q82 (SpecsOk.cons w3n (SpecsOk.nil _)))))))))))) Tryz.func5 rfl rfl (λ_ _=>none) (λ_=>by kernel_rfl) (by decide) ?_
 rintro⟨m,k,⟨⟩⟩ hh
 revert m k
 intro(m:List (List Int)) (k:Int) (hh:wd8 m)
 refine @qd8 _ (let Q0:=q3k m k; let Q1:=((grQ m k).1,(grQ m k).2); let Q2:=shQ Q0.1 Q0.2.1; m.length<=(9223372036854775807:Nat)/\((!w3s m)=true->True/\true=true)/\((!w3s m)=false->wo8 m/\wo9 m/\wo9 m/\wo9 m/\((!((grQ m k).1==(grQ m k).1 && (grQ m k).2==(grQ m k).2))=true->false=true)/\((!((grQ m k).1==(grQ m k).1 && (grQ m k).2==(grQ m k).2))=false->((qm9 m k (0:Int) != qm9 m k (0:Int))=true->false=true)/\((qm9 m k (0:Int) != qm9 m k (0:Int))=false->Q0.1.length<=(1000000:Nat)/\((!decide (Q0.1=Q0.1))=true->false=true)/\((!decide (Q0.1=Q0.1))=false->Q0.2.1.length<=(1000000:Nat)/\((!decide (Q0.2.1=Q0.2.1))=true->false=true)/\((!decide (Q0.2.1=Q0.2.1))=false->((Q0.2.2 != Q0.2.2)=true->false=true)/\((Q0.2.2 != Q0.2.2)=false->((Q0.2.2==(0:Int))=true->xo0 Q0.1 Q0.2.1/\((shE Q0.1 Q0.2.1 != (0:Int))=true->false=true)/\((shE Q0.1 Q0.2.1 != (0:Int))=false->((!(Q2.1==(grQ m k).1 && Q2.2==(grQ m k).2))=true->false=true)/\((!(Q2.1==(grQ m k).1 && Q2.2==(grQ m k).2))=false->(((↑Q0.2.1.length:Int) != k)=true->false=true)/\(((↑Q0.2.1.length:Int) != k)=false->(wd8 m/\Q0.1.length<=(1000:Nat))/\((!we0 m Q0.1)=true->false=true)/\((!we0 m Q0.1)=false->((qm9 m k (0:Int) != (0:Int))=true->True/\true=true)/\((qm9 m k (0:Int) != (0:Int))=false->(decide (k<(1:Int))=true->True/\true=true)/\(decide (k<(1:Int))=false->fits .i64 (k-(1:Int))/\wo8 m/\((qm9 m (k-(1:Int)) (0:Int)==(0:Int))=true->(qs7 Q1/\qs7 ((grQ m (k-(1:Int))).1,(grQ m (k-(1:Int))).2))/\((!q4d Q1 ((grQ m (k-(1:Int))).1,(grQ m (k-(1:Int))).2))=true->True/\true=true)/\((!q4d Q1 ((grQ m (k-(1:Int))).1,(grQ m (k-(1:Int))).2))=false->false=true))/\((qm9 m (k-(1:Int)) (0:Int)==(0:Int))=false->false=true))))))))/\((Q0.2.2==(0:Int))=false->((qm9 m k (0:Int) != (0:Int))=true->True/\true=true)/\((qm9 m k (0:Int) != (0:Int))=false->(decide (k<(1:Int))=true->True/\true=true)/\(decide (k<(1:Int))=false->fits .i64 (k-(1:Int))/\wo8 m/\((qm9 m (k-(1:Int)) (0:Int)==(0:Int))=true->(qs7 Q1/\qs7 ((grQ m (k-(1:Int))).1,(grQ m (k-(1:Int))).2))/\((!q4d Q1 ((grQ m (k-(1:Int))).1,(grQ m (k-(1:Int))).2))=true->True/\true=true)/\((!q4d Q1 ((grQ m (k-(1:Int))).1,(grQ m (k-(1:Int))).2))=false->false=true))/\((qm9 m (k-(1:Int)) (0:Int)==(0:Int))=false->false=true))))))))))) (by kernel_rfl) ?_
 try simp only[z0,z1,z2,z3,z4,z5,z6,z7,z8,z9,z10,Int.reduceEq,z11,z12,z13,z14,z15,z16,z17,z18,z19,z20,z21,z22,z23,z24,z25,z26,z27,z28,z29,z30,Int.reduceLE,Int.reduceLT,z31,z32,z33,z34,qa3]
 try simp only[qb3,qb4,qc7,z31,z32,z2,z1]
 refine⟨hh.rows,λh6=>?_⟩
 have hF:wo9 m:=⟨hh,λhv=>xp9 h6 hv⟩
 have tr:(¬True->false=true):=λq=>absurd trivial q
 have hcc:wo8 m:=xp5 hF.n7
 have eqb:∀a b:Int,((a==a && b==b)=false)->false=true:=λa b q=>by simp at q
 have mono:qm9 m k 0=0->1<=k->fits IntKind.i64 (k-1)/\wo8 m/\(qm9 m (k-1) 0=0->(qs7 (grQ m k)/\qs7 (grQ m (k-1)))/\(q4d (grQ m k) (grQ m (k-1))=true->false=true))/\(¬qm9 m (k-1) 0=0->false=true):=λh1 hk=>by
  obtain⟨hv,n,rfl,hn⟩:=q4c h1
  have h7:=hF.n7 hv
  obtain⟨j,rfl⟩:∃j,n=j+1:=⟨n-1,by omega⟩
  have e:((j+1:Nat):Int)-1=(j:Int):=by push_cast; omega
  have hj:qm9 m (j:Nat) 0=0:=by
   unfold qm9
   rw[hv,inB_iff.2 ⟨by omega,by omega⟩]
   rfl
  rw[e]
  refine⟨qa7 (by omega) (by omega),hcc,λ_=>?_,λq=>absurd hj q⟩
  have e1:grQ m ((j+1:Nat):Int)=qg6 (qc0 m).1 (j+1) (qc0 m).1.length:=if_pos h1
  have e2:grQ m (j:Int)=qg6 (qc0 m).1 j (qc0 m).1.length:=if_pos hj
  rw[e1,e2]
  refine⟨⟨qo0 (hcc.shs hv (j+1) hn) _ (Nat.le_refl _),qo0 (hcc.shs hv j (by omega)) _ (Nat.le_refl _)⟩,λq=>?_⟩
  exact absurd (of_decide_eq_true q) (Int.not_lt.2 (xe5 hv h7 (Nat.le_succ j) hn))
 refine⟨hcc,hF,hF,hF,eqb _ _,λ_=>⟨tr,?_⟩⟩
 by_cases h1:qm9 m k 0=0
 ·by_cases hl:(whR m k).2.1.length=0
  ·rw[wu9 h1 hl]
   exact⟨Nat.zero_le _,tr,Nat.zero_le _,tr,tr,λq=>(by cases q),λ_=>mono⟩
  ·rw[wv0 h1 hl]
   obtain⟨hv,n,e,hn⟩:=q4c h1
   have h7:=hF.n7 hv
   have hc:0<(qc0 m).1.length:=by
    rcases Nat.eq_zero_or_pos (qc0 m).1.length with q | q
    ·rw[e,w79 q] at hl; exact absurd rfl hl
    ·exact q
   have hw:=x3q hv h7 hn hc
   rw[<- e] at hw
   obtain⟨k1,k2,k3,k4,k5⟩:=hw
   have eg:grQ m k=qg6 (qc0 m).1 n (qc0 m).1.length:=by rw[e]; rw[e] at h1; exact if_pos h1
   have tt:∀a b:Int × Int,a=b->((a.1==b.1 && a.2==b.2)=false->false=true):=λa b q=>by rw[q]; exact eqb _ _
   dsimp only
   exact⟨by omega,tr,by omega,tr,tr,λ_=>⟨⟨by omega,by omega⟩,λq=>absurd k3 q,λ_=>⟨tt _ _ (k4.trans eg.symm),λ_=>⟨λq=>absurd (by omega) q,λ_=>⟨⟨hh,by omega⟩,λq=>(by rw[k5] at q; cases q),λ_=>mono⟩⟩⟩⟩,λq=>absurd rfl q⟩
 ·rw[wu8 h1]
  exact⟨Nat.zero_le _,tr,Nat.zero_le _,tr,tr,λq=>absurd q h1,λ_=>mono⟩
open Go.ChangeShapes Go.WideShapes Go.ChangeAt Go.RowKit Go.Deep Ls
theorem own:ownKnob Tryz.prog.godebug=none:=by kernel_rfl
theorem laidOut:laidOutB Tryz.prog=true:=by kernel_rfl
theorem x3r {H:Type} {enc:TypeId × Value->H} {W:World} {t e q:TypeId} {v:Value} {d:DataW H} {p:List MemPlace} (ht:Tryz.prog.underlying t=some (.slice e)) (he:Tryz.prog.underlying e=some (.slice q)) (hq:Tryz.prog.underlying q=some (.int .i64))
  (ce:Tryz.prog.cellsOf e=1) (cq:Tryz.prog.cellsOf q=1)
  (hv:∃a l c,v=.slice a l c) (h:DataW.Trod enc Tryz.prog W 0 (λ_=>true) true t v d p):∃a l c m,v=.slice a l c/\SM W a l c m:=by
 obtain⟨a,l,c,rfl⟩:=hv
 obtain⟨fuel,hf⟩:=h
 rcases open_int_rows ht he hq ce cq hf with⟨hcs,_⟩ | ⟨x,l',c',A,L,C,Z,hcs,_,hl,hm,_,hr⟩
 ·simp[Value.cells] at hcs
  obtain⟨rfl,rfl,rfl⟩:=hcs
  exact⟨_,_,_,[],rfl,SM.nil W⟩
 ·simp[Value.cells] at hcs
  obtain⟨rfl,rfl,rfl⟩:=hcs
  refine⟨_,_,_,(List.range l).map (λr=>(Z r).take (L r)),rfl,by simp,hl,hm,λ_=>⟨x,rfl,λk hk=>?_⟩⟩
  obtain⟨h1,h2,h3,h4,_,h6,h7⟩:=hr k (by omega)
  have e0:nthL ((List.range l).map (λr=>(Z r).take (L r))) k=(Z k).take (L k):=by simp[nthL,hk]
  have e1:((Z k).take (L k)).length=L k:=by simp; omega
  rw[e0,e1]
  refine⟨A k,C k,h1,e1,h2,h3,λhp=>?_⟩
  cases hA:A k with
  | none=>have:=h6 hA; omega
  | some a'=>
   refine⟨a',rfl,λj hj=>?_⟩
   rw[(h7 a' hA).2 j (by omega)]
   simp[nth,hj]
end Go.Proofs.YtempacilejhbgaaGreat
set_option linter.unusedVariables false
namespace Go.Proofs.YtempacilejhbgaaGreat
open Go Go.RowKit Eng Ls
theorem xq7 {w:World} {A:Option Addr} {n c:Nat} {m:List (List Int)} (s:SM w A n c m):wd8 m:=by
 have hl:=s.len
 have hn:=s.nmax
 refine⟨by omega,λi hi=>?_⟩
 obtain⟨ad,_,h⟩:=s.at_ (by omega)
 obtain⟨A',c',_,h2⟩:=h i (by omega)
 have e:nL m i=nthL m i:=by
  rw[qk3 m i hi]
  unfold nthL
  rw[List.getD_eq_getElem?_getD,List.getElem?_eq_getElem hi]
  rfl
 rw[e]
 exact h2.nmax
end Go.Proofs.YtempacilejhbgaaGreat
