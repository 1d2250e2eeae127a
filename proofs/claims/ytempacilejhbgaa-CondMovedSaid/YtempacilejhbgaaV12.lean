/- Rank and solutions: contracts by the engine. No condition. -/
import Derived.Test.YtempacilejhbgaaV11
set_option linter.unusedVariables false
set_option linter.unusedSimpArgs false
namespace Go.Proofs.Ytempacilejhbgaa
open Go Go.RowKit Eng
structure Named (n:Nat) (pix:List Int):Prop where
 at_:∀j,j<pix.length->0<=nI pix j/\nI pix j<n
 asc:∀i j,i<j->j<pix.length->nI pix i<nI pix j
theorem Named.of {n:Nat} {pix:List Int} (h:xs4 n pix=0):Named n pix:=by
 unfold xs4 at h
 split at h
 ·cases h
 ·rename_i ha
  split at h
  ·cases h
  ·rename_i hb
   have ha:=q84.1 (by cases e:ws5 pix with | true=>rfl | false=>exact absurd e ha)
   refine⟨λj hj=>?_,λi j hij hj=>?_⟩
   ·rw[Bool.not_eq_true,List.any_eq_false] at hb
    have:=hb (nI pix j) (by rw[qf9 pix j hj]; exact List.getElem_mem hj)
    have:=qn3.1 (by simpa using this)
    exact⟨this.1,by have:=this.2; omega⟩
   ·induction j with
    | zero=>omega
    | succ j ih=>
     have h1:=ha (j+1) (by omega) hj
     simp only[Nat.add_sub_cancel] at h1
     rcases Nat.lt_or_ge i j with h | h
     ·exact Int.lt_trans (ih h (by omega)) h1
     ·rw[show i=j by omega]; exact h1
theorem Named.gap {n:Nat} {pix:List Int} (h:Named n pix):∀j,j<pix.length->(j:Int)<=nI pix j
 | 0,hj=>by have:=(h.at_ 0 hj).1; omega
 | j+1,hj=>by have:=h.gap j (by omega); have:=h.asc j (j+1) (by omega) hj; omega
theorem Named.len {n:Nat} {pix:List Int} (h:Named n pix):pix.length<=n:=by
 rcases Nat.eq_zero_or_pos pix.length with e | e
 ·omega
 ·have h1:=h.gap (pix.length-1) (by omega)
  have h2:=(h.at_ (pix.length-1) (by omega)).2
  omega
theorem Named.idx (n:Nat):Named n (qm5 n):=by
 refine⟨λj hj=>?_,λi j hij hj=>?_⟩
 ·rw[qe5] at hj; rw[qz3 _ _ hj]; omega
 ·rw[qe5] at hj; rw[qz3 _ _ hj,qz3 _ _ (by omega)]; omega
structure Asked (m:List (List Int)) (y pix:List Int):Prop where
 msk:Mk m
 val:qb9 m=true
 len:y.length=m.length
 out:xs5 y=false
 nam:Named (nL m 0).length pix
theorem Asked.of {m:List (List Int)} {y pix:List Int} (h:xx7 m y pix=0):Asked m y pix:=by
 unfold xx7 at h
 split at h
 ·cases h
 ·rename_i hv
  have hv:qb9 m=true:=by cases e:qb9 m with | true=>rfl | false=>exact absurd e hv
  split at h
  ·cases h
  ·rename_i hl
   split at h
   ·cases h
   ·rename_i ho
    unfold xx6 at h
    rw[if_neg (by rw[hv]; decide)] at h
    exact⟨Mk.of hv,hv,Decidable.not_not.1 hl,by simpa using ho,Named.of h⟩
theorem Asked.at_ {m:List (List Int)} {y pix:List Int} (h:Asked m y pix) (i:Nat) (hi:i<m.length):qj0 1000000 (nI y i):=by
 have h1:=h.out
 unfold xs5 at h1
 rw[List.any_eq_false] at h1
 have:=h1 (nI y i) (by rw[qf9 y i (by rw[h.len]; exact hi)]; exact List.getElem_mem _)
 have:=qn3.1 (by simpa using this)
 exact⟨by have:=this.1; omega,this.2⟩
theorem ChoOk.of {m:List (List Int)} {pix:List Int} (hM:Mk m) (hn:Named (nL m 0).length pix) {p:qa5 [.int .i64]->Prop} {f:qa5 [.int .i64]->List Int} (hf:∀i:Nat,i<m.length->p ((i:Int),())/\(f ((i:Int),())).length<=10000):ChoOk m pix p f:=by
 have h1:=hM.rows6
 have h2:=hn.len
 have h3:=hM.pix10
 refine⟨by omega,by omega,λi hi j hj=>?_,hf⟩
 have:=hn.at_ j hj
 rw[hM.each i hi]
 exact this
structure ws9 (m:List (List Int)):Prop where
 red:q87 (q1e m (qm5 (nL m 0).length)) (nL m 0).length (nL m 0).length
def qu3 (m:List (List Int)):Int × Int:=if qb9 m=false then(0,1) else((qh9 m (qm5 (nL m 0).length)).2.length,0)
abbrev xt6:qc7:=qi1 true none [ql9] [qe4,qe4] (λx=>qb9 x.1=true->ws9 x.1) (λx=>((qu3 x.1).1,(qu3 x.1).2,()))
theorem w0v:qe7 Try.prog 49 xt6:=by
 refine meets (xl8 [] [] (SpecsOk.cons q83 (SpecsOk.cons q5i (SpecsOk.cons (wd5 (fs:=[(68,xe0)]) (SpecsOk.cons q7j (SpecsOk.nil _))) (SpecsOk.nil _)))) (MutsOk.cons we0 MutsOk.nil)) Try.func49 rfl rfl (λ_ _=>none) (λ_=>by kernel_rfl) (by decide) ?_
 rintro⟨m,⟨⟩⟩ h
 revert m
 intro(m:List (List Int)) (h:qb9 m=true->ws9 m)
 refine @qf1 _ (True/\((!qb9 m)=true->(0:Int)=Prod.fst (qu3 m)/\(1:Int)=Prod.snd (qu3 m)/\True)/\((!qb9 m)=false->((0:Int)<=(0:Int)/\(0:Int)<(↑(List.length m):Int))/\(↑(List.length (qa3 (Ty.list (Ty.int .i64)) m (0:Nat))):Int)<=(100000:Ty.den qe4)/\∃(v1:qa5 [qe4]->Prop),∃(v2:qa5 [qe4]->List Int),(∀(v3:Int × qa5._f [] PUnit.unit),v1 v3->True/\[]=v2 v3)/\ChoOk m (qm5 (Int.toNat (↑(List.length (qa3 (Ty.list (Ty.int .i64)) m (0:Nat))):Int))) v1 v2/\((0:Int)<=(0:Int)/\(0:Int)<(↑(List.length m):Int))/\((0:Ty.den qe4)<=(↑(List.length (qa3 (Ty.list (Ty.int .i64)) m (0:Nat))):Int)/\∃(v3:Nat),q87 (qb5 m (qm5 (Int.toNat (↑(List.length (qa3 (Ty.list (Ty.int .i64)) m (0:Nat))):Int))) λ(v4:Int)=>v2 (v4,())) (Int.toNat (↑(List.length (qa3 (Ty.list (Ty.int .i64)) m (0:Nat))):Int)) v3)/\(↑(List.length (Prod.snd (qc9 (qb5 m (qm5 (Int.toNat (↑(List.length (qa3 (Ty.list (Ty.int .i64)) m (0:Nat))):Int))) λ(v3:Int)=>v2 (v3,())) (Int.toNat (↑(List.length (qa3 (Ty.list (Ty.int .i64)) m (0:Nat))):Int))))):Int)=Prod.fst (qu3 m)/\(0:Int)=Prod.snd (qu3 m)/\True)) (by kernel_rfl) ?_
 try simp only[z0,z1,z2,z3,z4,z5,z6,z7,z8,z9,z10,Int.reduceEq,z11,z12,z13,z14,z15,z16,z17,z18,z19,z20,z21,z22,z23,z24,z25,z26,z27,z28,z29,z30,Int.reduceLE,Int.reduceLT,z31,z32,z33,z34,qa6]
 try simp only[qb6,qb7,qd0,List.set_cons_zero,List.cons.injEq,and_true,true_and]
 refine⟨λhv=>by simp[qu3,hv],λhv=>?_⟩
 have hM:=Mk.of hv
 have h1:=hM.rows1
 have h2:=hM.pix10
 have hr:=(h hv).red
 have e:qu3 m=(((qh9 m (qm5 (nL m 0).length)).2.length:Int),0):=by simp[qu3,hv]
 rw[e]
 refine⟨by omega,by omega,λ_=>True,λ_=>[],λ_ _=>rfl,ChoOk.of hM (Named.idx _) λ_ _=>⟨trivial,Nat.zero_le _⟩,by omega,⟨_,hr⟩,?_,rfl⟩
 unfold qh9
 rw[qe5]
 rfl
end Go.Proofs.Ytempacilejhbgaa
