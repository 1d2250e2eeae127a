/- Rank and solutions: contracts by the engine. No condition. -/
import Derived.Test.YtempacilejhbgaaGreatV11
set_option linter.unusedVariables false
set_option linter.unusedSimpArgs false
namespace Go.Proofs.YtempacilejhbgaaGreat
open Go Go.RowKit Eng
structure Named (n:Nat) (pix:List Int):Prop where
 at_:∀j,j<pix.length->0<=nI pix j/\nI pix j<n
 asc:∀i j,i<j->j<pix.length->nI pix i<nI pix j
theorem Named.of {n:Nat} {pix:List Int} (h:q1d n pix=0):Named n pix:=by
 unfold q1d at h
 split at h
 ·cases h
 ·rename_i ha
  split at h
  ·cases h
  ·rename_i hb
   have ha:=q9r.1 (by cases e:xc0 pix with | true=>rfl | false=>exact absurd e ha)
   refine⟨λj hj=>?_,λi j hij hj=>?_⟩
   ·rw[Bool.not_eq_true,List.any_eq_false] at hb
    have:=hb (nI pix j) (by rw[qg5 pix j hj]; exact List.getElem_mem hj)
    have:=qm0.1 (by simpa using this)
    exact⟨this.1,by have:=this.2; omega⟩
   ·induction j with
    | zero=>omega
    | succ j ih=>
     have h1:=ha (j+1) (by omega) hj
     simp only[Nat.add_sub_cancel] at h1
     rcases Nat.lt_or_ge i j with h | h
     ·exact Int.lt_trans (ih h (by omega)) h1
     ·rw[show i=j by omega]; exact h1
theorem Named.gap {n:Nat} {pix:List Int} (h:Named n pix):∀j,j<pix.length->(j:Int)<=nI pix j
 | 0,hj=>by have:=(h.at_ 0 hj).1; omega
 | j+1,hj=>by have:=h.gap j (by omega); have:=h.asc j (j+1) (by omega) hj; omega
theorem Named.len {n:Nat} {pix:List Int} (h:Named n pix):pix.length<=n:=by
 rcases Nat.eq_zero_or_pos pix.length with e | e
 ·omega
 ·have h1:=h.gap (pix.length-1) (by omega)
  have h2:=(h.at_ (pix.length-1) (by omega)).2
  omega
theorem Named.idx (n:Nat):Named n (qo9 n):=by
 refine⟨λj hj=>?_,λi j hij hj=>?_⟩
 ·rw[qf5] at hj; rw[q0j _ _ hj]; omega
 ·rw[qf5] at hj; rw[q0j _ _ hj,q0j _ _ (by omega)]; omega
structure Asked (m:List (List Int)) (y pix:List Int):Prop where
 msk:Mk m
 val:qc8 m=true
 len:y.length=m.length
 out:q67 y=false
 nam:Named (nL m 0).length pix
theorem Asked.of {m:List (List Int)} {y pix:List Int} (h:x2o m y pix=0):Asked m y pix:=by
 unfold x2o at h
 split at h
 ·cases h
 ·rename_i hv
  have hv:qc8 m=true:=by cases e:qc8 m with | true=>rfl | false=>exact absurd e hv
  split at h
  ·cases h
  ·rename_i hl
   split at h
   ·cases h
   ·rename_i ho
    unfold q72 at h
    rw[if_neg (by rw[hv]; decide)] at h
    exact⟨Mk.of hv,hv,Decidable.not_not.1 hl,by simpa using ho,Named.of h⟩
theorem Asked.at_ {m:List (List Int)} {y pix:List Int} (h:Asked m y pix) (i:Nat) (hi:i<m.length):qe8 1000000 (nI y i):=by
 have h1:=h.out
 unfold q67 at h1
 rw[List.any_eq_false] at h1
 have:=h1 (nI y i) (by rw[qg5 y i (by rw[h.len]; exact hi)]; exact List.getElem_mem _)
 have:=qm0.1 (by simpa using this)
 exact⟨by have:=this.1; omega,this.2⟩
theorem ChoOk.of {m:List (List Int)} {pix:List Int} (hM:Mk m) (hn:Named (nL m 0).length pix) {p:qa6 [.int .i64]->Prop} {f:qa6 [.int .i64]->List Int} (hf:∀i:Nat,i<m.length->p ((i:Int),())/\(f ((i:Int),())).length<=10000):ChoOk m pix p f:=by
 have h1:=hM.rows6
 have h2:=hn.len
 have h3:=hM.pix10
 refine⟨by omega,by omega,λi hi j hj=>?_,hf⟩
 have:=hn.at_ j hj
 rw[hM.each i hi]
 exact this
structure wx5 (m:List (List Int)):Prop where
 red:q9t (q14 m (qo9 (nL m 0).length)) (nL m 0).length (nL m 0).length
def qv8 (m:List (List Int)):Int × Int:=if qc8 m=false then(0,1) else((qj1 m (qo9 (nL m 0).length)).2.length,0)
abbrev x0s:qc0:=qg7 true none [qk0] [qd6,qd6] (λx=>qc8 x.1=true->wx5 x.1) (λx=>((qv8 x.1).1,(qv8 x.1).2,()))
theorem w13:qd7 Tryz.prog 133 x0s:=by
 refine meets (xs1 [] [] (SpecsOk.cons q4r (SpecsOk.cons q54 (SpecsOk.cons (wh5 (fs:=[(155,xi2)]) (SpecsOk.cons q73 (SpecsOk.nil _))) (SpecsOk.nil _)))) (MutsOk.cons wi0 MutsOk.nil)) Tryz.func133 rfl rfl (λ_ _=>none) (λ_=>by kernel_rfl) (by decide) ?_
 rintro⟨m,⟨⟩⟩ h
 revert m
 intro(m:List (List Int)) (h:qc8 m=true->wx5 m)
 refine @qe1 _ (True/\((!qc8 m)=true->(0:Int)=Prod.fst (qv8 m)/\(1:Int)=Prod.snd (qv8 m)/\True)/\((!qc8 m)=false->((0:Int)<=(0:Int)/\(0:Int)<(↑(List.length m):Int))/\(↑(List.length (qa1 (Ty.list (Ty.int .i64)) m (0:Nat))):Int)<=(100000:Ty.den qd6)/\∃(v1:qa6 [qd6]->Prop),∃(v2:qa6 [qd6]->List Int),(∀(v3:Int × qa6._f [] PUnit.unit),v1 v3->True/\[]=v2 v3)/\ChoOk m (qo9 (Int.toNat (↑(List.length (qa1 (Ty.list (Ty.int .i64)) m (0:Nat))):Int))) v1 v2/\((0:Int)<=(0:Int)/\(0:Int)<(↑(List.length m):Int))/\((0:Ty.den qd6)<=(↑(List.length (qa1 (Ty.list (Ty.int .i64)) m (0:Nat))):Int)/\∃(v3:Nat),q9t (qc7 m (qo9 (Int.toNat (↑(List.length (qa1 (Ty.list (Ty.int .i64)) m (0:Nat))):Int))) λ(v4:Int)=>v2 (v4,())) (Int.toNat (↑(List.length (qa1 (Ty.list (Ty.int .i64)) m (0:Nat))):Int)) v3)/\(↑(List.length (Prod.snd (qd2 (qc7 m (qo9 (Int.toNat (↑(List.length (qa1 (Ty.list (Ty.int .i64)) m (0:Nat))):Int))) λ(v3:Int)=>v2 (v3,())) (Int.toNat (↑(List.length (qa1 (Ty.list (Ty.int .i64)) m (0:Nat))):Int))))):Int)=Prod.fst (qv8 m)/\(0:Int)=Prod.snd (qv8 m)/\True)) (by kernel_rfl) ?_
 try simp only[z0,z1,z2,z3,z4,z5,z6,z7,z8,z9,z10,Int.reduceEq,z11,z12,z13,z14,z15,z16,z17,z18,z19,z20,z21,z22,z23,z24,z25,z26,z27,z28,z29,z30,Int.reduceLE,Int.reduceLT,z31,z32,z33,z34,qa4]
 try simp only[qb3,qb4,qb9,List.set_cons_zero,List.cons.injEq,and_true,true_and]
 refine⟨λhv=>by simp[qv8,hv],λhv=>?_⟩
 have hM:=Mk.of hv
 have h1:=hM.rows1
 have h2:=hM.pix10
 have hr:=(h hv).red
 have e:qv8 m=(((qj1 m (qo9 (nL m 0).length)).2.length:Int),0):=by simp[qv8,hv]
 rw[e]
 refine⟨by omega,by omega,λ_=>True,λ_=>[],λ_ _=>rfl,ChoOk.of hM (Named.idx _) λ_ _=>⟨trivial,Nat.zero_le _⟩,by omega,⟨_,hr⟩,?_,rfl⟩
 unfold qj1
 rw[qf5]
 rfl
end Go.Proofs.YtempacilejhbgaaGreat
