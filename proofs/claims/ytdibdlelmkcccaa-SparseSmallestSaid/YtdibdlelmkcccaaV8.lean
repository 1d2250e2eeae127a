/- Rows reduced: contract by the engine. No condition. -/
import Derived.Test.YtdibdlelmkcccaaV7
set_option linter.unusedVariables false
set_option linter.unusedSimpArgs false
namespace Go.Proofs.Ytdibdlelmkcccaa
open Go Go.RowKit Eng
abbrev xu5:qc7:=hspec [] true none [.d qf7,.cap qg4] [.bool] (λx=>0<=x.2.1/\x.2.1<x.1.length) (λx=>(nI x.1 x.2.1.toNat != 0,()))
theorem w15:qd8 Try.prog 143 xu5:=by
 refine qs5 (SpecsOk.nil _) (snd (SpecsOk.nil _)) Try.func143 rfl rfl (λ_ _=>none) (λ_=>by kernel_rfl) (by decide) ?_
 rintro⟨l,j,⟨⟩⟩ h
 revert l j
 intro(l:List Int) (j:Int) (h:0<=j/\j<l.length)
 refine @qe0 _ (((0:Int)<=j/\j<(↑(List.length l):Int))/\(qa1 (Ty.int .i64) l (Int.toNat j) != (0:Int))=(nI l (Int.toNat j) != (0:Int))) (by kernel_rfl) ?_
 try simp only[z0,z1,z2,z3,z4,z5,z6,z7,z8,z9,z10,Int.reduceEq,z11,z12,z13,z14,z15,z16,z17,z18,z19,z20,z21,z22,z23,z24,z25,z26,z27,z28,z29,z30,Int.reduceLE,Int.reduceLT,z31,z32,z33,z34,qa3]
 try simp only[qb3,qb4,qc8,List.set_cons_zero,List.cons.injEq,and_true,true_and]
 exact h
def qr2 (rows:List (List Int)) (k j:Nat):Int:=ixT (.list (.int .i64)) (λr=>nI r j != 0) (rows.drop k)
def wh8 (rows:List (List Int)) (a b:Nat):List (List Int):=(rows.set a (nL rows b)).set b (nL rows a)
def xe5 (r:List Int):List Int:=(List.range r.length).map λi=>0-nI r i
def q04 (rows:List (List Int)) (k j:Nat):List (List Int):=wh8 rows k (k+(qr2 rows k j).toNat)
def qi8 (rows:List (List Int)) (k j:Nat):List (List Int):=if nI (nL (q04 rows k j) k) j<0 then(q04 rows k j).set k (xe5 (nL (q04 rows k j) k)) else q04 rows k j
def wb8 (rows:List (List Int)) (k j i:Nat):List Int:=if i≠k/\nI (nL rows i) j≠0 then qv6 (nL rows i) (nL rows k) j else nL rows i
def w77 (rows:List (List Int)) (k j:Nat):List (List Int):=(List.range rows.length).map (wb8 rows k j)
def qu9 (s:List (List Int) × List Int) (j:Nat):List (List Int) × List Int:=if qr2 s.1 s.2.length j<0 then s else(w77 (qi8 s.1 s.2.length j) s.2.length j,s.2++[(j:Int)])
def qc0 (rows:List (List Int)):Nat->List (List Int) × List Int
 | 0=>(rows,[])
 | j+1=>qu9 (qc0 rows j) j
structure xe6 (rows:List (List Int)) (k j:Nat):Prop where
 neg:∀x∈nL (q04 rows k j) k,qd2 BIG x
 clr:∀i,i<rows.length->i≠k->nI (nL (qi8 rows k j) i) j≠0->wh1 (nL (qi8 rows k j) i) (nL (qi8 rows k j) k) j
structure q54 (rows:List (List Int)) (cols W:Nat):Prop where
 n:rows.length<=1000
 w:W<=1000
 cw:cols<=W
 each:∀i,i<rows.length->(nL rows i).length=W
 step:∀j,j<cols->0<=qr2 (qc0 rows j).1 (qc0 rows j).2.length j->xe6 (qc0 rows j).1 (qc0 rows j).2.length j
abbrev x6o:ql3:=w46 (q9u [qg4]) true false 24 3 (.int .i64) (λrows x=>0<=x.1/\∃W,q54 rows x.1.toNat W) (λrows x=>.dat (.int .i64) (qc0 rows x.1.toNat).2) (λrows x=>(qc0 rows x.1.toNat).1)
def xe7:List AObj:=[.dead,.dead,.dead,.dead,.dead,.dead,.dead,.dead,.dead,.dead,.dead,.dead,.dead,.dead,.dead,.dead,.dead,.dead,.dead,.dead,.dead,.dead,.dead,.dead,.dead,.dead,.dead,.dead]
structure w9n (rows:List (List Int)) (k i:Nat) (r:List (List Int)):Prop where
 le:i<=(nL rows k).length
 eq:r=rows.set k (ovr (.int .i64) (λq=>0-nI (nL rows k) q) (nL rows k) i)
structure q55 (rows:List (List Int)) (k j i:Nat) (r:List (List Int)):Prop where
 le:i<=rows.length
 eq:r=ovr (.list (.int .i64)) (wb8 rows k j) rows i
structure w17 (R:List (List Int)) (c j:Nat) (r:List (List Int)) (p:List Int):Prop where
 le:j<=c
 eq:qc0 R j=(r,p)
def x2a (T:q7d) (R:List (List Int)) (c:Nat):Nat->Option Inv
 | 0=>some (Inv.of [0,5,13] 2 (λs:Nat × List (List Int) × List Int=>[(0,.msl 0 .none),(5,.own 1),(13,.lit (.int .i64 s.1))]) (λs=>[.mat 24 3 (.int .i64) s.2.1 .none (some T),.vec 3 (.int .i64) s.2.2]) (λs=>w17 R c s.1 s.2.1 s.2.2) (λs=>c-s.1))
 | 1=>some (Eng.Inv.mk (Nat × Nat × List (List Int) × List Int) (Nat × List (List Int)) [0,5,56] 31 (λ_ s=>[(0,.msl 0 .none),(5,.own 1),(56,.lit (.int .i64 s.1))]) (λq s=>.mat 24 3 (.int .i64) s.2 .none (some T) :: .vec 3 (.int .i64) q.2.2.2 :: .box 3 (.cons (.lit (.int .i64 q.1)) .nil) :: xe7) (λq s=>w9n q.2.2.1 q.2.1 s.1 s.2) (λq s=>(nL q.2.2.1 q.2.1).length-s.1))
 | 2=>some (Eng.Inv.mk (Nat × Nat × List (List Int) × List Int) (Nat × List (List Int)) [0,5,74,76] 31 (λ_ s=>[(0,.msl 0 .none),(5,.own 1),(74,.msl 0 .none),(76,.lit (.int .i64 s.1))]) (λq s=>.mat 24 3 (.int .i64) s.2 .none (some T) :: .vec 3 (.int .i64) q.2.2.2 :: .box 3 (.cons (.lit (.int .i64 q.1)) .nil) :: xe7) (λq s=>q55 q.2.2.1 q.2.1 q.1 s.1 s.2) (λq s=>q.2.2.1.length-s.1))
 | _=>none
theorem q3j (n:Nat):qe9 n none=n:=rfl
theorem w18 (n:Nat) (l:List Nat):qe9 n (some l)=l.length:=rfl
theorem w9o (n:Nat):ixL n none=List.range n:=rfl
theorem w9p (n:Nat) (l:List Nat):ixL n (some l)=l:=rfl
theorem q56 (i:Nat):qf3 none i=i:=rfl
theorem w5t (l:List Nat) (i:Nat):qf3 (some l) i=l.getD i 0:=rfl
theorem wh9 (r:List (List Int)):q28 (.int .i64) r none=r:=rfl
theorem w5u (r:List (List Int)) (l:List Nat):q28 (.int .i64) r (some l)=l.map λp=>nL r p:=rfl
theorem w9q (n k b:Nat) (hk:k<n) (hb:b<n):(((List.range n).set k b).set b k).getD k 0=b:=by
 rw[List.getD_eq_getElem?_getD]
 by_cases e:b=k
 ·subst e
  rw[List.getElem?_set_self (by simpa using hb)]; rfl
 ·rw[List.getElem?_set_ne e,List.getElem?_set_self (by simpa using hk)]; rfl
theorem w5v (n k b:Nat) (hk:k<n) (hb:b<n):(((List.range n).set k b).set b k).Nodup:=by
 rw[List.nodup_iff_pairwise_ne,List.pairwise_iff_getElem]
 intro i j hi hj hij
 simp only[List.length_set,List.length_range] at hi hj
 simp only[List.getElem_set,List.getElem_range]
 split <;> split <;> (try split) <;> (try split) <;> omega
theorem xl2 (r:List (List Int)) (k b:Nat) (hk:k<r.length) (hb:b<r.length):((((List.range r.length).set k b).set b k).map λp=>nL r p)=wh8 r k b:=by
 apply List.ext_getElem (by simp[wh8])
 intro i h1 h2
 have hi:i<r.length:=by simpa using h1
 simp only[List.getElem_map,List.getElem_set,List.getElem_range,wh8]
 split
 ·rfl
 ·split
  ·rfl
  ·exact qq0 r i hi
theorem wi0 (r:List (List Int)) (k b:Nat):(wh8 r k b).length=r.length:=by simp[wh8]
theorem q2v (r:List (List Int)) (k b:Nat) (hk:k<r.length) (hb:b<r.length) (i:Nat) (hi:i<r.length):nL (wh8 r k b) i=if i=b then nL r k else if i=k then nL r b else nL r i:=by
 rw[qq0 _ i (by rw[wi0]; exact hi)]
 simp only[wh8,List.getElem_set]
 by_cases e:b=i
 ·rw[if_pos e,if_pos e.symm]
 ·rw[if_neg e,if_neg (Ne.symm e)]
  by_cases e2:k=i
  ·rw[if_pos e2,if_pos e2.symm]
  ·rw[if_neg e2,if_neg (Ne.symm e2),qq0 r i hi]
theorem q78 (l:List Int):(qe3 l).length=l.length:=by unfold qe3; split <;> simp
theorem q79 (r b:List Int) (c:Nat):(qv6 r b c).length=r.length:=by unfold qv6; rw[q78,q02]
theorem q92 (r:List Int):(xe5 r).length=r.length:=by simp[xe5]
theorem q4t (r:List (List Int)) (k j:Nat):(q04 r k j).length=r.length:=wi0 _ _ _
theorem qi7 (r:List (List Int)) (k j:Nat):(qi8 r k j).length=r.length:=by
 unfold qi8; split
 ·rw[List.length_set,q4t]
 ·rw[q4t]
theorem q93 (r:List (List Int)) (k:Nat) (x:List Int) (i:Nat) (hi:i<r.length):nL (r.set k x) i=if i=k then x else nL r i:=by
 rw[qq0 _ i (by rw[List.length_set]; exact hi),List.getElem_set]
 by_cases e:k=i
 ·rw[if_pos e,if_pos e.symm]
 ·rw[if_neg e,if_neg (Ne.symm e),qq0 r i hi]
theorem q05 (r:List (List Int)) (k j:Nat) (hk:k<=r.length) (h:0<=qr2 r k j):k+(qr2 r k j).toNat<r.length:=by
 have:=(xe2 (.list (.int .i64)) (λr=>nI r j != 0) (r.drop k)).1
 unfold qr2 at h ⊢
 rw[List.length_drop] at this
 omega
theorem q2w (r:List (List Int)) (k j i:Nat) (hi:i<r.length):nL (qi8 r k j) i=if i=k/\nI (nL (q04 r k j) k) j<0 then xe5 (nL (q04 r k j) k) else nL (q04 r k j) i:=by
 unfold qi8
 split
 ·rename_i h
  rw[q93 _ _ _ _ (by rw[q4t]; exact hi)]
  by_cases e:i=k
  ·rw[if_pos e,if_pos ⟨e,h⟩]
  ·rw[if_neg e,if_neg λq=>e q.1]
 ·rename_i h
  rw[if_neg λq=>h q.2]
theorem q94 (r:List (List Int)) (k j:Nat):(w77 r k j).length=r.length:=by simp[w77]
theorem w5w (r:List (List Int)) (k j i:Nat) (hi:i<r.length):nL (w77 r k j) i=wb8 r k j i:=by
 rw[qq0 _ i (by rw[q94]; exact hi)]; simp[w77]
structure RedSh (n W:Nat) (s:List (List Int) × List Int) (j:Nat):Prop where
 cnt:s.1.length=n
 each:∀i,i<n->(nL s.1 i).length=W
 piv:s.2.length<=n
 pivj:s.2.length<=j
theorem q57 {r:List (List Int)} {k j W:Nat} (hk:k<=r.length) (h:0<=qr2 r k j) (he:∀i,i<r.length->(nL r i).length=W):∀i,i<r.length->(nL (q04 r k j) i).length=W:=λi hi=>by
 have hb:=q05 r k j hk h
 unfold q04
 rw[q2v _ _ _ (by omega) hb i hi]
 split
 ·exact he _ (by omega)
 ·split
  ·exact he _ hb
  ·exact he _ hi
theorem q06 {r:List (List Int)} {k j W:Nat} (hk:k<=r.length) (h:0<=qr2 r k j) (he:∀i,i<r.length->(nL r i).length=W):∀i,i<r.length->(nL (qi8 r k j) i).length=W:=λi hi=>by
 have hb:=q05 r k j hk h
 have h1:=q57 hk h he
 rw[q2w _ _ _ _ hi]
 split
 ·rw[q92]; exact h1 _ (by omega)
 ·exact h1 _ hi
theorem RedSh.step {n W j:Nat} {s:List (List Int) × List Int} (h:RedSh n W s j):RedSh n W (qu9 s j) (j+1):=by
 unfold qu9
 split
 ·exact⟨h.cnt,h.each,h.piv,by have:=h.pivj; omega⟩
 ·rename_i hp
  have hp:0<=qr2 s.1 s.2.length j:=by omega
  have hn:=h.cnt
  have hb:=q05 s.1 s.2.length j (by rw[hn]; exact h.piv) hp
  have he:=q06 (W:=W) (by rw[hn]; exact h.piv) hp (λi hi=>h.each i (by omega))
  refine⟨by rw[q94,qi7]; exact hn,λi hi=>?_,?_,?_⟩
  ·rw[w5w _ _ _ _ (by rw[qi7]; omega)]
   unfold wb8
   split
   ·rw[q79]; exact he i (by omega)
   ·exact he i (by omega)
  ·rw[List.length_append]; simp; omega
  ·rw[List.length_append]; have:=h.pivj; simp; omega
theorem q07 {R:List (List Int)} {c W:Nat} (h:q54 R c W):∀j,RedSh R.length W (qc0 R j) j
 | 0=>⟨rfl,h.each,Nat.zero_le _,Nat.le_refl _⟩
 | j+1=>(q07 h j).step
theorem q2x (r:List (List Int)) (k j:Nat):wb8 r k j k=nL r k:=by unfold wb8; rw[if_neg]; exact λh=>h.1 rfl
theorem q4u (t:Ty) (g:Nat->t.den) (l:List t.den) (k:Nat) (h:k<l.length->g k=qa1 t l k):ovr t g l k=ovr t g l (k+1):=by
 unfold ovr
 apply List.map_congr_left
 intro i hi
 have hi:=List.mem_range.1 hi
 by_cases e:i=k
 ·subst e; rw[if_neg (Nat.lt_irrefl _),if_pos (by omega),h hi]
 ·by_cases h2:i<k
  ·rw[if_pos h2,if_pos (by omega)]
  ·rw[if_neg h2,if_neg (by omega)]
theorem q58:qz8 Try.prog 116 x6o:=by
 refine wx7 (x1s [17,22] (SpecsOk.cons (wh2 (fs:=[(143,xu5)]) (SpecsOk.cons w15 (SpecsOk.nil _))) (SpecsOk.nil _)) (MutsOk.cons wo3 MutsOk.nil)) Try.func116 rfl rfl (q0y [qg4]) (λT rows x=>x2a T rows x.1.toNat) (λ_ _ _=>by kernel_rfl) (by decide) ?_ rfl
 rintro T rows ⟨c,⟨⟩⟩ h -
 revert rows c
 intro(rows:List (List Int)) (c:Int) (h:0<=c/\∃W,q54 rows c.toNat W)
 refine @qe0 _ (∃(v0:Unit),∃(v1:Nat × List (List Int) × List Int),w17 rows (Int.toNat c) (Prod.fst v1) (Prod.fst (Prod.snd v1)) (Prod.snd (Prod.snd v1))/\((True/\True/\(0:Int)=(↑(Prod.fst v1):Int)/\True)/\(rows=Prod.fst (Prod.snd v1)/\True/\T=T)/\Prod.snd (Prod.snd v1)=[]/\True)/\∀(v2:Nat × List (List Int) × List Int),w17 rows (Int.toNat c) (Prod.fst v2) (Prod.fst (Prod.snd v2)) (Prod.snd (Prod.snd v2))->(decide ((↑(Prod.fst v2):Int)<c)=true->∀(v5:Int),v5=(↑(List.length (Prod.snd (Prod.snd v2))):Int)->((0:Int)<=v5/\v5<=(↑(qe9 (List.length (Prod.fst (Prod.snd v2))) none):Int)/\(↑(qe9 (List.length (Prod.fst (Prod.snd v2))) none):Int)<=(↑(qe9 (List.length (Prod.fst (Prod.snd v2))) none):Int))/\∃(v7:qa6 [Ty.list (Ty.int .i64)]->Prop),∃(v8:qa6 [Ty.list (Ty.int .i64)]->Bool),(∀(v9:List Int × qa6._f [] PUnit.unit),v7 v9->((0:PTy.den (PTy.cap qg4))<=(↑(Prod.fst v2):Int)/\(↑(Prod.fst v2):Int)<(↑(List.length (Prod.fst v9)):PTy.den (PTy.cap qg4)))/\(nI (Prod.fst v9) (Int.toNat (↑(Prod.fst v2):Int)) != (0:Int))=v8 v9)/\(List.length (List.drop (Int.toNat v5) (List.take (Int.toNat (↑(qe9 (List.length (Prod.fst (Prod.snd v2))) none):Int)) (q28 (Ty.int .i64) (Prod.fst (Prod.snd v2)) none)))<=(1000000:Nat)/\∀(v9:Nat),v9<List.length (List.drop (Int.toNat v5) (List.take (Int.toNat (↑(qe9 (List.length (Prod.fst (Prod.snd v2))) none):Int)) (q28 (Ty.int .i64) (Prod.fst (Prod.snd v2)) none)))->v7 (qa1 (Ty.list (Ty.int .i64)) (List.drop (Int.toNat v5) (List.take (Int.toNat (↑(qe9 (List.length (Prod.fst (Prod.snd v2))) none):Int)) (q28 (Ty.int .i64) (Prod.fst (Prod.snd v2)) none))) v9,()))/\∀(v9:Int),v9=ixT (Ty.list (Ty.int .i64)) (λ(v11:List Int)=>v8 (v11,())) (List.drop (Int.toNat v5) (List.take (Int.toNat (↑(qe9 (List.length (Prod.fst (Prod.snd v2))) none):Int)) (q28 (Ty.int .i64) (Prod.fst (Prod.snd v2)) none)))->(decide (v9<(0:Int))=true->fits .i64 ((↑(Prod.fst v2):Int)+(1:Int))/\∃(v12:Nat × List (List Int) × List Int),w17 rows (Int.toNat c) (Prod.fst v12) (Prod.fst (Prod.snd v12)) (Prod.snd (Prod.snd v12))/\Int.toNat c-Prod.fst v12<Int.toNat c-Prod.fst v2/\(True/\True/\(↑(Prod.fst v2):Int)+(1:Int)=(↑(Prod.fst v12):Int)/\True)/\(Prod.fst (Prod.snd v2)=Prod.fst (Prod.snd v12)/\True/\T=T)/\Prod.snd (Prod.snd v2)=Prod.snd (Prod.snd v12)/\True)/\(decide (v9<(0:Int))=false->fits .i64 (v5+v9)/\fits .i64 (v5+v9)/\((0:Int)<=v5+v9/\v5+v9<(↑(qe9 (List.length (Prod.fst (Prod.snd v2))) none):Int))/\Int.toNat (v5+v9)<qe9 (List.length (Prod.fst (Prod.snd v2))) none/\((0:Int)<=v5/\v5<(↑(qe9 (List.length (Prod.fst (Prod.snd v2))) none):Int))/\Int.toNat v5<qe9 (List.length (Prod.fst (Prod.snd v2))) none/\((0:Int)<=v5/\v5<(↑(qe9 (List.length (Prod.fst (Prod.snd v2))) none):Int))/\Int.toNat v5<qe9 (List.length (Prod.fst (Prod.snd v2))) none/\((0:Int)<=v5+v9/\v5+v9<(↑(qe9 (List.length (Prod.fst (Prod.snd v2))) (some (List.set (ixL (List.length (Prod.fst (Prod.snd v2))) none) (Int.toNat v5) (qf3 none (Int.toNat (v5+v9)))))):Int))/\Int.toNat (v5+v9)<qe9 (List.length (Prod.fst (Prod.snd v2))) (some (List.set (ixL (List.length (Prod.fst (Prod.snd v2))) none) (Int.toNat v5) (qf3 none (Int.toNat (v5+v9)))))/\((0:Int)<=v5/\v5<(↑(qe9 (List.length (Prod.fst (Prod.snd v2))) (some (List.set (ixL (List.length (Prod.fst (Prod.snd v2))) (some (List.set (ixL (List.length (Prod.fst (Prod.snd v2))) none) (Int.toNat v5) (qf3 none (Int.toNat (v5+v9)))))) (Int.toNat (v5+v9)) (qf3 none (Int.toNat v5))))):Int))/\Int.toNat v5<qe9 (List.length (Prod.fst (Prod.snd v2))) (some (List.set (ixL (List.length (Prod.fst (Prod.snd v2))) (some (List.set (ixL (List.length (Prod.fst (Prod.snd v2))) none) (Int.toNat v5) (qf3 none (Int.toNat (v5+v9)))))) (Int.toNat (v5+v9)) (qf3 none (Int.toNat v5))))/\((0:Int)<=(↑(Prod.fst v2):Int)/\(↑(Prod.fst v2):Int)<(↑(List.length (qa1 (Ty.list (Ty.int .i64)) (Prod.fst (Prod.snd v2)) (qf3 (some (List.set (ixL (List.length (Prod.fst (Prod.snd v2))) (some (List.set (ixL (List.length (Prod.fst (Prod.snd v2))) none) (Int.toNat v5) (qf3 none (Int.toNat (v5+v9)))))) (Int.toNat (v5+v9)) (qf3 none (Int.toNat v5)))) (Int.toNat v5)))):Int))/\Int.toNat (↑(Prod.fst v2):Int)<List.length (qa1 (Ty.list (Ty.int .i64)) (Prod.fst (Prod.snd v2)) (qf3 (some (List.set (ixL (List.length (Prod.fst (Prod.snd v2))) (some (List.set (ixL (List.length (Prod.fst (Prod.snd v2))) none) (Int.toNat v5) (qf3 none (Int.toNat (v5+v9)))))) (Int.toNat (v5+v9)) (qf3 none (Int.toNat v5)))) (Int.toNat v5)))/\(decide (qa1 (Ty.int .i64) (qa1 (Ty.list (Ty.int .i64)) (Prod.fst (Prod.snd v2)) (qf3 (some (List.set (ixL (List.length (Prod.fst (Prod.snd v2))) (some (List.set (ixL (List.length (Prod.fst (Prod.snd v2))) none) (Int.toNat v5) (qf3 none (Int.toNat (v5+v9)))))) (Int.toNat (v5+v9)) (qf3 none (Int.toNat v5)))) (Int.toNat v5))) (Int.toNat (↑(Prod.fst v2):Int))<(0:Int))=true->((0:Int)<=v5/\v5<(↑(qe9 (List.length (Prod.fst (Prod.snd v2))) (some (List.set (ixL (List.length (Prod.fst (Prod.snd v2))) (some (List.set (ixL (List.length (Prod.fst (Prod.snd v2))) none) (Int.toNat v5) (qf3 none (Int.toNat (v5+v9)))))) (Int.toNat (v5+v9)) (qf3 none (Int.toNat v5))))):Int))/\Int.toNat v5<qe9 (List.length (Prod.fst (Prod.snd v2))) (some (List.set (ixL (List.length (Prod.fst (Prod.snd v2))) (some (List.set (ixL (List.length (Prod.fst (Prod.snd v2))) none) (Int.toNat v5) (qf3 none (Int.toNat (v5+v9)))))) (Int.toNat (v5+v9)) (qf3 none (Int.toNat v5))))/\∃(v13:Nat × Nat × List (List Int) × List Int),∃(v14:Nat × List (List Int)),w9n (Prod.fst (Prod.snd (Prod.snd v13))) (Prod.fst (Prod.snd v13)) (Prod.fst v14) (Prod.snd v14)/\(List.Nodup (List.set (ixL (List.length (Prod.fst (Prod.snd v2))) (some (List.set (ixL (List.length (Prod.fst (Prod.snd v2))) none) (Int.toNat v5) (qf3 none (Int.toNat (v5+v9)))))) (Int.toNat (v5+v9)) (qf3 none (Int.toNat v5)))/\List.length (List.set (ixL (List.length (Prod.fst (Prod.snd v2))) (some (List.set (ixL (List.length (Prod.fst (Prod.snd v2))) none) (Int.toNat v5) (qf3 none (Int.toNat (v5+v9)))))) (Int.toNat (v5+v9)) (qf3 none (Int.toNat v5)))=List.length (Prod.fst (Prod.snd v2)))/\((True/\True/\(0:Int)=(↑(Prod.fst v14):Int)/\True)/\(q28 (Ty.int .i64) (Prod.fst (Prod.snd v2)) (some (List.set (ixL (List.length (Prod.fst (Prod.snd v2))) (some (List.set (ixL (List.length (Prod.fst (Prod.snd v2))) none) (Int.toNat v5) (qf3 none (Int.toNat (v5+v9)))))) (Int.toNat (v5+v9)) (qf3 none (Int.toNat v5))))=Prod.snd v14/\True/\T=T)/\Prod.snd (Prod.snd v2)=Prod.snd (Prod.snd (Prod.snd v13))/\((↑(Prod.fst v2):Int)=(↑(Prod.fst v13):Int)/\True)/\True/\True/\True/\True/\True/\True/\True/\True/\True/\True/\True/\True/\True/\True/\True/\True/\True/\True/\True/\True/\True/\True/\True/\True/\True/\True/\True/\True/\True)/\∀(v15:Nat × List (List Int)),w9n (Prod.fst (Prod.snd (Prod.snd v13))) (Prod.fst (Prod.snd v13)) (Prod.fst v15) (Prod.snd v15)->(decide ((↑(Prod.fst v15):Int)<(↑(List.length (qa1 (Ty.list (Ty.int .i64)) (Prod.fst (Prod.snd v2)) (qf3 (some (List.set (ixL (List.length (Prod.fst (Prod.snd v2))) (some (List.set (ixL (List.length (Prod.fst (Prod.snd v2))) none) (Int.toNat v5) (qf3 none (Int.toNat (v5+v9)))))) (Int.toNat (v5+v9)) (qf3 none (Int.toNat v5)))) (Int.toNat v5)))):Int))=true->((0:Int)<=v5/\v5<(↑(qe9 (List.length (Prod.snd v15)) none):Int))/\Int.toNat v5<qe9 (List.length (Prod.snd v15)) none/\((0:Int)<=v5/\v5<(↑(qe9 (List.length (Prod.snd v15)) none):Int))/\Int.toNat v5<qe9 (List.length (Prod.snd v15)) none/\((0:Int)<=(↑(Prod.fst v15):Int)/\(↑(Prod.fst v15):Int)<(↑(List.length (qa1 (Ty.list (Ty.int .i64)) (Prod.snd v15) (qf3 none (Int.toNat v5)))):Int))/\Int.toNat (↑(Prod.fst v15):Int)<List.length (qa1 (Ty.list (Ty.int .i64)) (Prod.snd v15) (qf3 none (Int.toNat v5)))/\fits .i64 ((0:Int)-qa1 (Ty.int .i64) (qa1 (Ty.list (Ty.int .i64)) (Prod.snd v15) (qf3 none (Int.toNat v5))) (Int.toNat (↑(Prod.fst v15):Int)))/\((0:Int)<=(↑(Prod.fst v15):Int)/\(↑(Prod.fst v15):Int)<(↑(List.length (qa1 (Ty.list (Ty.int .i64)) (Prod.snd v15) (qf3 none (Int.toNat v5)))):Int))/\Int.toNat (↑(Prod.fst v15):Int)<List.length (qa1 (Ty.list (Ty.int .i64)) (Prod.snd v15) (qf3 none (Int.toNat v5)))/\fits .i64 ((↑(Prod.fst v15):Int)+(1:Int))/\∃(v18:Nat × List (List Int)),w9n (Prod.fst (Prod.snd (Prod.snd v13))) (Prod.fst (Prod.snd v13)) (Prod.fst v18) (Prod.snd v18)/\List.length (nL (Prod.fst (Prod.snd (Prod.snd v13))) (Prod.fst (Prod.snd v13)))-Prod.fst v18<List.length (nL (Prod.fst (Prod.snd (Prod.snd v13))) (Prod.fst (Prod.snd v13)))-Prod.fst v15/\(True/\True/\(↑(Prod.fst v15):Int)+(1:Int)=(↑(Prod.fst v18):Int)/\True)/\(List.set (Prod.snd v15) (qf3 none (Int.toNat v5)) (List.set (qa1 (Ty.list (Ty.int .i64)) (Prod.snd v15) (qf3 none (Int.toNat v5))) (Int.toNat (↑(Prod.fst v15):Int)) ((0:Int)-qa1 (Ty.int .i64) (qa1 (Ty.list (Ty.int .i64)) (Prod.snd v15) (qf3 none (Int.toNat v5))) (Int.toNat (↑(Prod.fst v15):Int))))=Prod.snd v18/\True/\T=T)/\Prod.snd (Prod.snd (Prod.snd v13))=Prod.snd (Prod.snd (Prod.snd v13))/\((↑(Prod.fst v13):Int)=(↑(Prod.fst v13):Int)/\True)/\True/\True/\True/\True/\True/\True/\True/\True/\True/\True/\True/\True/\True/\True/\True/\True/\True/\True/\True/\True/\True/\True/\True/\True/\True/\True/\True/\True/\True)/\(decide ((↑(Prod.fst v15):Int)<(↑(List.length (qa1 (Ty.list (Ty.int .i64)) (Prod.fst (Prod.snd v2)) (qf3 (some (List.set (ixL (List.length (Prod.fst (Prod.snd v2))) (some (List.set (ixL (List.length (Prod.fst (Prod.snd v2))) none) (Int.toNat v5) (qf3 none (Int.toNat (v5+v9)))))) (Int.toNat (v5+v9)) (qf3 none (Int.toNat v5)))) (Int.toNat v5)))):Int))=false->∃(v18:Nat × Nat × List (List Int) × List Int),∃(v19:Nat × List (List Int)),q55 (Prod.fst (Prod.snd (Prod.snd v18))) (Prod.fst (Prod.snd v18)) (Prod.fst v18) (Prod.fst v19) (Prod.snd v19)/\((True/\True/\True/\(0:Int)=(↑(Prod.fst v19):Int)/\True)/\(Prod.snd v15=Prod.snd v19/\True/\T=T)/\Prod.snd (Prod.snd (Prod.snd v13))=Prod.snd (Prod.snd (Prod.snd v18))/\((↑(Prod.fst v13):Int)=(↑(Prod.fst v18):Int)/\True)/\True/\True/\True/\True/\True/\True/\True/\True/\True/\True/\True/\True/\True/\True/\True/\True/\True/\True/\True/\True/\True/\True/\True/\True/\True/\True/\True/\True/\True)/\∀(v20:Nat × List (List Int)),q55 (Prod.fst (Prod.snd (Prod.snd v18))) (Prod.fst (Prod.snd v18)) (Prod.fst v18) (Prod.fst v20) (Prod.snd v20)->(decide ((↑(Prod.fst v20):Int)<(↑(qe9 (List.length (Prod.snd v15)) none):Int))=true->((0:Int)<=(↑(Prod.fst v20):Int)/\(↑(Prod.fst v20):Int)<(↑(qe9 (List.length (Prod.snd v20)) none):Int))/\Int.toNat (↑(Prod.fst v20):Int)<qe9 (List.length (Prod.snd v20)) none/\(((↑(Prod.fst v20):Int) != v5)=true->((0:Int)<=(↑(Prod.fst v18):Int)/\(↑(Prod.fst v18):Int)<(↑(List.length (qa1 (Ty.list (Ty.int .i64)) (Prod.snd v20) (qf3 none (Int.toNat (↑(Prod.fst v20):Int))))):Int))/\Int.toNat (↑(Prod.fst v18):Int)<List.length (qa1 (Ty.list (Ty.int .i64)) (Prod.snd v20) (qf3 none (Int.toNat (↑(Prod.fst v20):Int))))/\((qa1 (Ty.int .i64) (qa1 (Ty.list (Ty.int .i64)) (Prod.snd v20) (qf3 none (Int.toNat (↑(Prod.fst v20):Int)))) (Int.toNat (↑(Prod.fst v18):Int)) != (0:Int))=true->((0:Int)<=v5/\v5<(↑(qe9 (List.length (Prod.snd v20)) none):Int))/\Int.toNat v5<qe9 (List.length (Prod.snd v20)) none/\qf3 none (Int.toNat v5)≠qf3 none (Int.toNat (↑(Prod.fst v20):Int))/\((0:Ty.den qg4)<=(↑(Prod.fst v18):Int)/\wh1 (nL [qa1 (Ty.list (ql3.t q5y)) (Prod.snd v20) (qf3 none (Int.toNat (↑(Prod.fst v20):Int)))] (0:Nat)) (qa1 (Ty.list (Ty.int .i64)) (Prod.snd v20) (qf3 none (Int.toNat v5))) (Int.toNat (↑(Prod.fst v18):Int)))/\fits .i64 ((↑(Prod.fst v20):Int)+(1:Int))/\∃(v25:Nat × List (List Int)),q55 (Prod.fst (Prod.snd (Prod.snd v18))) (Prod.fst (Prod.snd v18)) (Prod.fst v18) (Prod.fst v25) (Prod.snd v25)/\List.length (Prod.fst (Prod.snd (Prod.snd v18)))-Prod.fst v25<List.length (Prod.fst (Prod.snd (Prod.snd v18)))-Prod.fst v20/\(True/\True/\True/\(↑(Prod.fst v20):Int)+(1:Int)=(↑(Prod.fst v25):Int)/\True)/\(List.set (Prod.snd v20) (qf3 none (Int.toNat (↑(Prod.fst v20):Int))) (qa1 (Ty.list (ql3.t q5y)) [qv6 (nL [qa1 (Ty.list (ql3.t q5y)) (Prod.snd v20) (qf3 none (Int.toNat (↑(Prod.fst v20):Int)))] (0:Nat)) (qa1 (Ty.list (Ty.int .i64)) (Prod.snd v20) (qf3 none (Int.toNat v5))) (Int.toNat (↑(Prod.fst v18):Int))] (0:Nat))=Prod.snd v25/\True/\T=T)/\Prod.snd (Prod.snd (Prod.snd v18))=Prod.snd (Prod.snd (Prod.snd v18))/\((↑(Prod.fst v18):Int)=(↑(Prod.fst v18):Int)/\True)/\True/\True/\True/\True/\True/\True/\True/\True/\True/\True/\True/\True/\True/\True/\True/\True/\True/\True/\True/\True/\True/\True/\True/\True/\True/\True/\True/\True/\True)/\((qa1 (Ty.int .i64) (qa1 (Ty.list (Ty.int .i64)) (Prod.snd v20) (qf3 none (Int.toNat (↑(Prod.fst v20):Int)))) (Int.toNat (↑(Prod.fst v18):Int)) != (0:Int))=false->fits .i64 ((↑(Prod.fst v20):Int)+(1:Int))/\∃(v25:Nat × List (List Int)),q55 (Prod.fst (Prod.snd (Prod.snd v18))) (Prod.fst (Prod.snd v18)) (Prod.fst v18) (Prod.fst v25) (Prod.snd v25)/\List.length (Prod.fst (Prod.snd (Prod.snd v18)))-Prod.fst v25<List.length (Prod.fst (Prod.snd (Prod.snd v18)))-Prod.fst v20/\(True/\True/\True/\(↑(Prod.fst v20):Int)+(1:Int)=(↑(Prod.fst v25):Int)/\True)/\(Prod.snd v20=Prod.snd v25/\True/\T=T)/\Prod.snd (Prod.snd (Prod.snd v18))=Prod.snd (Prod.snd (Prod.snd v18))/\((↑(Prod.fst v18):Int)=(↑(Prod.fst v18):Int)/\True)/\True/\True/\True/\True/\True/\True/\True/\True/\True/\True/\True/\True/\True/\True/\True/\True/\True/\True/\True/\True/\True/\True/\True/\True/\True/\True/\True/\True/\True))/\(((↑(Prod.fst v20):Int) != v5)=false->fits .i64 ((↑(Prod.fst v20):Int)+(1:Int))/\∃(v24:Nat × List (List Int)),q55 (Prod.fst (Prod.snd (Prod.snd v18))) (Prod.fst (Prod.snd v18)) (Prod.fst v18) (Prod.fst v24) (Prod.snd v24)/\List.length (Prod.fst (Prod.snd (Prod.snd v18)))-Prod.fst v24<List.length (Prod.fst (Prod.snd (Prod.snd v18)))-Prod.fst v20/\(True/\True/\True/\(↑(Prod.fst v20):Int)+(1:Int)=(↑(Prod.fst v24):Int)/\True)/\(Prod.snd v20=Prod.snd v24/\True/\T=T)/\Prod.snd (Prod.snd (Prod.snd v18))=Prod.snd (Prod.snd (Prod.snd v18))/\((↑(Prod.fst v18):Int)=(↑(Prod.fst v18):Int)/\True)/\True/\True/\True/\True/\True/\True/\True/\True/\True/\True/\True/\True/\True/\True/\True/\True/\True/\True/\True/\True/\True/\True/\True/\True/\True/\True/\True/\True/\True))/\(decide ((↑(Prod.fst v20):Int)<(↑(qe9 (List.length (Prod.snd v15)) none):Int))=false->((0:Nat)<List.length [(↑(Prod.fst v18):Int)]/\Nat.le (List.length (Prod.snd (Prod.snd (Prod.snd v18)))+List.length [(↑(Prod.fst v18):Int)]) (1000000:Nat))/\fits .i64 ((↑(Prod.fst v2):Int)+(1:Int))/\∃(v23:Nat × List (List Int) × List Int),w17 rows (Int.toNat c) (Prod.fst v23) (Prod.fst (Prod.snd v23)) (Prod.snd (Prod.snd v23))/\Int.toNat c-Prod.fst v23<Int.toNat c-Prod.fst v2/\(True/\True/\(↑(Prod.fst v2):Int)+(1:Int)=(↑(Prod.fst v23):Int)/\True)/\(Prod.snd v20=Prod.fst (Prod.snd v23)/\True/\T=T)/\Prod.snd (Prod.snd (Prod.snd v18))++[(↑(Prod.fst v18):Int)]=Prod.snd (Prod.snd v23)/\True)))/\(decide (qa1 (Ty.int .i64) (qa1 (Ty.list (Ty.int .i64)) (Prod.fst (Prod.snd v2)) (qf3 (some (List.set (ixL (List.length (Prod.fst (Prod.snd v2))) (some (List.set (ixL (List.length (Prod.fst (Prod.snd v2))) none) (Int.toNat v5) (qf3 none (Int.toNat (v5+v9)))))) (Int.toNat (v5+v9)) (qf3 none (Int.toNat v5)))) (Int.toNat v5))) (Int.toNat (↑(Prod.fst v2):Int))<(0:Int))=false->∃(v13:Nat × Nat × List (List Int) × List Int),∃(v14:Nat × List (List Int)),q55 (Prod.fst (Prod.snd (Prod.snd v13))) (Prod.fst (Prod.snd v13)) (Prod.fst v13) (Prod.fst v14) (Prod.snd v14)/\(List.Nodup (List.set (ixL (List.length (Prod.fst (Prod.snd v2))) (some (List.set (ixL (List.length (Prod.fst (Prod.snd v2))) none) (Int.toNat v5) (qf3 none (Int.toNat (v5+v9)))))) (Int.toNat (v5+v9)) (qf3 none (Int.toNat v5)))/\List.length (List.set (ixL (List.length (Prod.fst (Prod.snd v2))) (some (List.set (ixL (List.length (Prod.fst (Prod.snd v2))) none) (Int.toNat v5) (qf3 none (Int.toNat (v5+v9)))))) (Int.toNat (v5+v9)) (qf3 none (Int.toNat v5)))=List.length (Prod.fst (Prod.snd v2)))/\((True/\True/\True/\(0:Int)=(↑(Prod.fst v14):Int)/\True)/\(q28 (Ty.int .i64) (Prod.fst (Prod.snd v2)) (some (List.set (ixL (List.length (Prod.fst (Prod.snd v2))) (some (List.set (ixL (List.length (Prod.fst (Prod.snd v2))) none) (Int.toNat v5) (qf3 none (Int.toNat (v5+v9)))))) (Int.toNat (v5+v9)) (qf3 none (Int.toNat v5))))=Prod.snd v14/\True/\T=T)/\Prod.snd (Prod.snd v2)=Prod.snd (Prod.snd (Prod.snd v13))/\((↑(Prod.fst v2):Int)=(↑(Prod.fst v13):Int)/\True)/\True/\True/\True/\True/\True/\True/\True/\True/\True/\True/\True/\True/\True/\True/\True/\True/\True/\True/\True/\True/\True/\True/\True/\True/\True/\True/\True/\True/\True)/\∀(v15:Nat × List (List Int)),q55 (Prod.fst (Prod.snd (Prod.snd v13))) (Prod.fst (Prod.snd v13)) (Prod.fst v13) (Prod.fst v15) (Prod.snd v15)->(decide ((↑(Prod.fst v15):Int)<(↑(qe9 (List.length (Prod.fst (Prod.snd v2))) (some (List.set (ixL (List.length (Prod.fst (Prod.snd v2))) (some (List.set (ixL (List.length (Prod.fst (Prod.snd v2))) none) (Int.toNat v5) (qf3 none (Int.toNat (v5+v9)))))) (Int.toNat (v5+v9)) (qf3 none (Int.toNat v5))))):Int))=true->((0:Int)<=(↑(Prod.fst v15):Int)/\(↑(Prod.fst v15):Int)<(↑(qe9 (List.length (Prod.snd v15)) none):Int))/\Int.toNat (↑(Prod.fst v15):Int)<qe9 (List.length (Prod.snd v15)) none/\(((↑(Prod.fst v15):Int) != v5)=true->((0:Int)<=(↑(Prod.fst v13):Int)/\(↑(Prod.fst v13):Int)<(↑(List.length (qa1 (Ty.list (Ty.int .i64)) (Prod.snd v15) (qf3 none (Int.toNat (↑(Prod.fst v15):Int))))):Int))/\Int.toNat (↑(Prod.fst v13):Int)<List.length (qa1 (Ty.list (Ty.int .i64)) (Prod.snd v15) (qf3 none (Int.toNat (↑(Prod.fst v15):Int))))/\((qa1 (Ty.int .i64) (qa1 (Ty.list (Ty.int .i64)) (Prod.snd v15) (qf3 none (Int.toNat (↑(Prod.fst v15):Int)))) (Int.toNat (↑(Prod.fst v13):Int)) != (0:Int))=true->((0:Int)<=v5/\v5<(↑(qe9 (List.length (Prod.snd v15)) none):Int))/\Int.toNat v5<qe9 (List.length (Prod.snd v15)) none/\qf3 none (Int.toNat v5)≠qf3 none (Int.toNat (↑(Prod.fst v15):Int))/\((0:Ty.den qg4)<=(↑(Prod.fst v13):Int)/\wh1 (nL [qa1 (Ty.list (ql3.t q5y)) (Prod.snd v15) (qf3 none (Int.toNat (↑(Prod.fst v15):Int)))] (0:Nat)) (qa1 (Ty.list (Ty.int .i64)) (Prod.snd v15) (qf3 none (Int.toNat v5))) (Int.toNat (↑(Prod.fst v13):Int)))/\fits .i64 ((↑(Prod.fst v15):Int)+(1:Int))/\∃(v20:Nat × List (List Int)),q55 (Prod.fst (Prod.snd (Prod.snd v13))) (Prod.fst (Prod.snd v13)) (Prod.fst v13) (Prod.fst v20) (Prod.snd v20)/\List.length (Prod.fst (Prod.snd (Prod.snd v13)))-Prod.fst v20<List.length (Prod.fst (Prod.snd (Prod.snd v13)))-Prod.fst v15/\(True/\True/\True/\(↑(Prod.fst v15):Int)+(1:Int)=(↑(Prod.fst v20):Int)/\True)/\(List.set (Prod.snd v15) (qf3 none (Int.toNat (↑(Prod.fst v15):Int))) (qa1 (Ty.list (ql3.t q5y)) [qv6 (nL [qa1 (Ty.list (ql3.t q5y)) (Prod.snd v15) (qf3 none (Int.toNat (↑(Prod.fst v15):Int)))] (0:Nat)) (qa1 (Ty.list (Ty.int .i64)) (Prod.snd v15) (qf3 none (Int.toNat v5))) (Int.toNat (↑(Prod.fst v13):Int))] (0:Nat))=Prod.snd v20/\True/\T=T)/\Prod.snd (Prod.snd (Prod.snd v13))=Prod.snd (Prod.snd (Prod.snd v13))/\((↑(Prod.fst v13):Int)=(↑(Prod.fst v13):Int)/\True)/\True/\True/\True/\True/\True/\True/\True/\True/\True/\True/\True/\True/\True/\True/\True/\True/\True/\True/\True/\True/\True/\True/\True/\True/\True/\True/\True/\True/\True)/\((qa1 (Ty.int .i64) (qa1 (Ty.list (Ty.int .i64)) (Prod.snd v15) (qf3 none (Int.toNat (↑(Prod.fst v15):Int)))) (Int.toNat (↑(Prod.fst v13):Int)) != (0:Int))=false->fits .i64 ((↑(Prod.fst v15):Int)+(1:Int))/\∃(v20:Nat × List (List Int)),q55 (Prod.fst (Prod.snd (Prod.snd v13))) (Prod.fst (Prod.snd v13)) (Prod.fst v13) (Prod.fst v20) (Prod.snd v20)/\List.length (Prod.fst (Prod.snd (Prod.snd v13)))-Prod.fst v20<List.length (Prod.fst (Prod.snd (Prod.snd v13)))-Prod.fst v15/\(True/\True/\True/\(↑(Prod.fst v15):Int)+(1:Int)=(↑(Prod.fst v20):Int)/\True)/\(Prod.snd v15=Prod.snd v20/\True/\T=T)/\Prod.snd (Prod.snd (Prod.snd v13))=Prod.snd (Prod.snd (Prod.snd v13))/\((↑(Prod.fst v13):Int)=(↑(Prod.fst v13):Int)/\True)/\True/\True/\True/\True/\True/\True/\True/\True/\True/\True/\True/\True/\True/\True/\True/\True/\True/\True/\True/\True/\True/\True/\True/\True/\True/\True/\True/\True/\True))/\(((↑(Prod.fst v15):Int) != v5)=false->fits .i64 ((↑(Prod.fst v15):Int)+(1:Int))/\∃(v19:Nat × List (List Int)),q55 (Prod.fst (Prod.snd (Prod.snd v13))) (Prod.fst (Prod.snd v13)) (Prod.fst v13) (Prod.fst v19) (Prod.snd v19)/\List.length (Prod.fst (Prod.snd (Prod.snd v13)))-Prod.fst v19<List.length (Prod.fst (Prod.snd (Prod.snd v13)))-Prod.fst v15/\(True/\True/\True/\(↑(Prod.fst v15):Int)+(1:Int)=(↑(Prod.fst v19):Int)/\True)/\(Prod.snd v15=Prod.snd v19/\True/\T=T)/\Prod.snd (Prod.snd (Prod.snd v13))=Prod.snd (Prod.snd (Prod.snd v13))/\((↑(Prod.fst v13):Int)=(↑(Prod.fst v13):Int)/\True)/\True/\True/\True/\True/\True/\True/\True/\True/\True/\True/\True/\True/\True/\True/\True/\True/\True/\True/\True/\True/\True/\True/\True/\True/\True/\True/\True/\True/\True))/\(decide ((↑(Prod.fst v15):Int)<(↑(qe9 (List.length (Prod.fst (Prod.snd v2))) (some (List.set (ixL (List.length (Prod.fst (Prod.snd v2))) (some (List.set (ixL (List.length (Prod.fst (Prod.snd v2))) none) (Int.toNat v5) (qf3 none (Int.toNat (v5+v9)))))) (Int.toNat (v5+v9)) (qf3 none (Int.toNat v5))))):Int))=false->((0:Nat)<List.length [(↑(Prod.fst v13):Int)]/\Nat.le (List.length (Prod.snd (Prod.snd (Prod.snd v13)))+List.length [(↑(Prod.fst v13):Int)]) (1000000:Nat))/\fits .i64 ((↑(Prod.fst v2):Int)+(1:Int))/\∃(v18:Nat × List (List Int) × List Int),w17 rows (Int.toNat c) (Prod.fst v18) (Prod.fst (Prod.snd v18)) (Prod.snd (Prod.snd v18))/\Int.toNat c-Prod.fst v18<Int.toNat c-Prod.fst v2/\(True/\True/\(↑(Prod.fst v2):Int)+(1:Int)=(↑(Prod.fst v18):Int)/\True)/\(Prod.snd v15=Prod.fst (Prod.snd v18)/\True/\T=T)/\Prod.snd (Prod.snd (Prod.snd v13))++[(↑(Prod.fst v13):Int)]=Prod.snd (Prod.snd v18)/\True))))/\(decide ((↑(Prod.fst v2):Int)<c)=false->Prod.fst (Prod.snd v2)=Prod.fst (qc0 rows (Int.toNat c))/\T=T/\True/\Prod.snd (Prod.snd v2)=Prod.snd (qc0 rows (Int.toNat c)))) (by kernel_rfl) ?_
 try simp only[z0,z1,z2,z3,z4,z5,z6,z7,z8,z9,z10,Int.reduceEq,z11,z12,z13,z14,z15,z16,z17,z18,z19,z20,z21,z22,z23,z24,z25,z26,z27,z28,z29,z30,Int.reduceLE,Int.reduceLT,z31,z32,z33,z34,qa3]
 try simp only[qb3,qb4,qc8,List.set_cons_zero,List.cons.injEq,and_true,true_and]
 simp only[q3j,w18,w9o,w9p,q56,w5t,wh9,w5u,List.length_set,List.length_range,List.take_length]
 obtain⟨hc0,W,hR⟩:=h
 have hRn:=hR.n
 have hRw:=hR.w
 refine⟨(),(0,rows,[]),⟨Nat.zero_le _,rfl⟩,⟨rfl,rfl,rfl⟩,?_⟩
 rintro⟨j,r0,piv⟩ ⟨hjc,hj⟩
 dsimp only at hjc hj ⊢
 have hsh:=q07 hR j
 rw[hj] at hsh
 have hn:=hsh.cnt
 have hpn:=hsh.piv
 have hpj:=hsh.pivj
 dsimp only at hn hpn hpj
 refine⟨λhlt=>?_,λhge=>?_⟩
 ·have hjl:j<c.toNat:=by omega
  have hjW:j<W:=by have:=hR.cw; omega
  rintro k rfl
  have he:=hsh.each
  dsimp only at he
  have hdrop:∀q,q<(r0.drop piv.length).length->j<(nL (r0.drop piv.length) q).length:=λq hq=>by
   rw[List.length_drop] at hq
   have e:nL (r0.drop piv.length) q=nL r0 (piv.length+q):=by
    rw[qq0 _ _ (by rw[List.length_drop]; exact hq),qq0 _ _ (by omega)]; simp
   rw[e,he _ (by omega)]; exact hjW
  simp only[Int.toNat_natCast]
  refine⟨⟨by omega,by omega,Nat.le_refl _⟩,λx=>j<x.1.length,λx=>nI x.1 j != 0,λx hx=>⟨hx,rfl⟩,⟨by rw[List.length_drop]; omega,hdrop⟩,?_⟩
  rintro a ha
  have ha:a=qr2 r0 piv.length j:=ha
  subst ha
  refine⟨λhneg=>?_,λhpos=>?_⟩
  ·refine⟨qb9 (by omega) (by omega),(j+1,r0,piv),⟨by dsimp only; omega,?_⟩,by dsimp only; omega,by dsimp only; omega,rfl,rfl⟩
   rw[qc0,hj,qu9,if_pos hneg]
  have hb:=q05 r0 piv.length j (by omega) hpos
  have hso:xe6 r0 piv.length j:=by have:=hR.step j hjl; rw[hj] at this; exact this hpos
  have hse:=q57 (W:=W) (by omega) hpos (λi hi=>he i (by omega))
  have hpe:=q06 (W:=W) (by omega) hpos (λi hi=>he i (by omega))
  have hab:((piv.length:Int)+qr2 r0 piv.length j).toNat=piv.length+(qr2 r0 piv.length j).toNat:=by omega
  simp only[hab]
  have hgd:=w9q r0.length piv.length (piv.length+(qr2 r0 piv.length j).toNat) (by omega) hb
  have hmap:=xl2 r0 piv.length (piv.length+(qr2 r0 piv.length j).toNat) (by omega) hb
  have hnd:=w5v r0.length piv.length (piv.length+(qr2 r0 piv.length j).toNat) (by omega) hb
  have hk1:nL (q04 r0 piv.length j) piv.length=nL r0 (piv.length+(qr2 r0 piv.length j).toNat):=by
   unfold q04
   rw[q2v _ _ _ (by omega) hb _ (by omega)]
   split
   ·rename_i e; rw[<- e]
   ·rw[if_pos rfl]
  simp only[hgd,hmap]
  rw[<- hk1]
  have hsl:=q4t r0 piv.length j
  have hkW:=hse piv.length (by omega)
  refine⟨qb9 (by omega) (by omega),qb9 (by omega) (by omega),by omega,by omega,by omega,by omega,by omega,by omega,by omega,by omega,by omega,by omega,by omega,by omega,λhng=>?_,λhng=>?_⟩
  ·refine⟨by omega,by omega,(j,piv.length,q04 r0 piv.length j,piv),(0,q04 r0 piv.length j),⟨Nat.zero_le _,?_⟩,⟨hnd,trivial⟩,⟨rfl,rfl,rfl,rfl⟩,?_⟩
   ·dsimp only
    have e:ovr (.int .i64) (λq=>0-nI (nL (q04 r0 piv.length j) piv.length) q) (nL (q04 r0 piv.length j) piv.length) 0=nL (q04 r0 piv.length j) piv.length:=q2r (.int .i64) _ _
    rw[e,qq0 _ _ (by omega),List.set_getElem_self]
   rintro⟨i,r⟩ ⟨hi1,hi2⟩
   dsimp only at hi1 hi2 ⊢
   have hrl:r.length=r0.length:=by rw[hi2,List.length_set,hsl]
   have hrk:nL r piv.length=ovr (.int .i64) (λq=>0-nI (nL (q04 r0 piv.length j) piv.length) q) (nL (q04 r0 piv.length j) piv.length) i:=by
    rw[hi2,q93 _ _ _ _ (by omega),if_pos rfl]
   have hrkl:(nL r piv.length).length=W:=by rw[hrk,qu5]; exact hkW
   refine⟨λhlt=>?_,λhge=>?_⟩
   ·have hv:nI (nL r piv.length) i=nI (nL (q04 r0 piv.length j) piv.length) i:=by
     rw[hrk]
     exact(q75 (.int .i64) _ _ _ _ hlt).trans (if_neg (Nat.lt_irrefl _))
    have hbd:qd2 BIG (nI (nL (q04 r0 piv.length j) piv.length) i):=hso.neg _ (by rw[qi5 _ i hlt]; exact List.getElem_mem hlt)
    unfold qd2 BIG at hbd
    rw[hv]
    refine⟨by omega,by omega,by omega,by omega,by omega,by omega,qb9 (by omega) (by omega),by omega,by omega,qb9 (by omega) (by omega),(i+1,r.set piv.length ((nL r piv.length).set i (0-nI (nL (q04 r0 piv.length j) piv.length) i))),⟨by dsimp only; omega,?_⟩,by dsimp only; omega,by dsimp only; omega,rfl⟩
    dsimp only
    have e:=q00 (.int .i64) (λq=>0-nI (nL (q04 r0 piv.length j) piv.length) q) (nL (q04 r0 piv.length j) piv.length) i
    rw[hrk]
    refine(congrArg (r.set piv.length) e).trans ?_
    rw[hi2,List.set_set]
   ·have hprep:r=qi8 r0 piv.length j:=by
     unfold qi8
     rw[if_pos hng,hi2]
     refine congrArg _ ?_
     exact q5v (.int .i64) _ _ _ (by omega)
    refine⟨(j,piv.length,qi8 r0 piv.length j,piv),(0,qi8 r0 piv.length j),⟨Nat.zero_le _,(q2r (.list (.int .i64)) _ _).symm⟩,⟨rfl,hprep,rfl,rfl⟩,?_⟩
    rw[hprep,qi7]
    rintro⟨i,r⟩ ⟨hi1,hi2⟩
    dsimp only at hi1 hi2 ⊢
    have hpl:=qi7 r0 piv.length j
    have hrl:r.length=r0.length:=by rw[hi2,qu5,qi7]
    have hi1:i<=r0.length:=by rw[qi7] at hi1; exact hi1
    have hat:∀q,q<r0.length->nL r q=if q<i then wb8 (qi8 r0 piv.length j) piv.length j q else nL (qi8 r0 piv.length j) q:=λq hq=>by
     rw[hi2]; exact q75 (.list (.int .i64)) _ _ _ _ (by rw[qi7]; exact hq)
    have hk2:nL r piv.length=nL (qi8 r0 piv.length j) piv.length:=by
     rw[hat _ (by omega)]
     split
     ·exact q2x _ _ _
     ·rfl
    refine⟨λhlt=>?_,λhge=>?_⟩
    ·have hlt:i<r0.length:=by omega
     have hri:nL r i=nL (qi8 r0 piv.length j) i:=by rw[hat i hlt,if_neg (Nat.lt_irrefl _)]
     have hw:=hpe i hlt
     refine⟨by omega,by omega,λhne=>⟨by rw[hri]; omega,by rw[hri]; omega,λhnz=>?_,λhz=>?_⟩,λheq=>?_⟩
     ·rw[hri] at hnz
      have hne:i≠piv.length:=by omega
      have hcl:=hso.clr i hlt hne hnz
      have hcr:wb8 (qi8 r0 piv.length j) piv.length j i=qv6 (nL r i) (nL r piv.length) j:=by
       unfold wb8; rw[if_pos ⟨hne,hnz⟩,hri,hk2]
      refine⟨by omega,by omega,by omega,?_,qb9 (by omega) (by omega),(i+1,r.set i (qv6 (nL r i) (nL r piv.length) j)),⟨by dsimp only; omega,?_⟩,by dsimp only; omega,by dsimp only; omega,rfl⟩
      ·show wh1 (nL r i) (nL r piv.length) j
       rw[hri,hk2]; exact hcl
      ·dsimp only
       rw[<- hcr,hi2]
       exact q00 (.list (.int .i64)) _ _ _
     ·refine⟨qb9 (by omega) (by omega),(i+1,r),⟨by dsimp only; omega,?_⟩,by dsimp only; omega,by dsimp only; omega,rfl⟩
      dsimp only
      rw[hi2]
      refine q4u (.list (.int .i64)) _ _ _ λ_=>?_
      unfold wb8
      rw[if_neg]
      ·rfl
      ·intro h2
       rw[hri] at hz
       exact h2.2 hz
     ·refine⟨qb9 (by omega) (by omega),(i+1,r),⟨by dsimp only; omega,?_⟩,by dsimp only; omega,by dsimp only; omega,rfl⟩
      dsimp only
      rw[hi2]
      refine q4u (.list (.int .i64)) _ _ _ λ_=>?_
      have e:i=piv.length:=by omega
      rw[e]
      exact q2x _ _ _
    ·obtain rfl:i=r0.length:=by omega
     refine⟨by omega,qb9 (by omega) (by omega),(j+1,r,piv++[(j:Int)]),⟨by omega,?_⟩,by dsimp only; omega,by dsimp only; omega,rfl,rfl⟩
     rw[qc0,hj,qu9,if_neg (by dsimp only; omega),hi2]
     refine congrArg (·,_) ?_
     rw[<- qi7 r0 piv.length j]
     exact(q5v (.list (.int .i64)) _ _ _ (Nat.le_refl _)).symm
  ·have hprep:q04 r0 piv.length j=qi8 r0 piv.length j:=by unfold qi8; rw[if_neg (by omega)]
   refine⟨(j,piv.length,qi8 r0 piv.length j,piv),(0,qi8 r0 piv.length j),⟨Nat.zero_le _,(q2r (.list (.int .i64)) _ _).symm⟩,⟨hnd,trivial⟩,⟨rfl,hprep,rfl,rfl⟩,?_⟩
   rintro⟨i,r⟩ ⟨hi1,hi2⟩
   dsimp only at hi1 hi2 ⊢
   have hpl:=qi7 r0 piv.length j
   have hrl:r.length=r0.length:=by rw[hi2,qu5,qi7]
   have hi1:i<=r0.length:=by rw[qi7] at hi1; exact hi1
   have hat:∀q,q<r0.length->nL r q=if q<i then wb8 (qi8 r0 piv.length j) piv.length j q else nL (qi8 r0 piv.length j) q:=λq hq=>by
    rw[hi2]; exact q75 (.list (.int .i64)) _ _ _ _ (by rw[qi7]; exact hq)
   have hk2:nL r piv.length=nL (qi8 r0 piv.length j) piv.length:=by
    rw[hat _ (by omega)]
    split
    ·exact q2x _ _ _
    ·rfl
   refine⟨λhlt=>?_,λhge=>?_⟩
   ·have hlt:i<r0.length:=by omega
    have hri:nL r i=nL (qi8 r0 piv.length j) i:=by rw[hat i hlt,if_neg (Nat.lt_irrefl _)]
    have hw:=hpe i hlt
    refine⟨by omega,by omega,λhne=>⟨by rw[hri]; omega,by rw[hri]; omega,λhnz=>?_,λhz=>?_⟩,λheq=>?_⟩
    ·rw[hri] at hnz
     have hne:i≠piv.length:=by omega
     have hcl:=hso.clr i hlt hne hnz
     have hcr:wb8 (qi8 r0 piv.length j) piv.length j i=qv6 (nL r i) (nL r piv.length) j:=by
      unfold wb8; rw[if_pos ⟨hne,hnz⟩,hri,hk2]
     refine⟨by omega,by omega,by omega,?_,qb9 (by omega) (by omega),(i+1,r.set i (qv6 (nL r i) (nL r piv.length) j)),⟨by dsimp only; omega,?_⟩,by dsimp only; omega,by dsimp only; omega,rfl⟩
     ·show wh1 (nL r i) (nL r piv.length) j
      rw[hri,hk2]; exact hcl
     ·dsimp only
      rw[<- hcr,hi2]
      exact q00 (.list (.int .i64)) _ _ _
    ·refine⟨qb9 (by omega) (by omega),(i+1,r),⟨by dsimp only; omega,?_⟩,by dsimp only; omega,by dsimp only; omega,rfl⟩
     dsimp only
     rw[hi2]
     refine q4u (.list (.int .i64)) _ _ _ λ_=>?_
     unfold wb8
     rw[if_neg]
     ·rfl
     ·intro h2
      rw[hri] at hz
      exact h2.2 hz
    ·refine⟨qb9 (by omega) (by omega),(i+1,r),⟨by dsimp only; omega,?_⟩,by dsimp only; omega,by dsimp only; omega,rfl⟩
     dsimp only
     rw[hi2]
     refine q4u (.list (.int .i64)) _ _ _ λ_=>?_
     have e:i=piv.length:=by omega
     rw[e]
     exact q2x _ _ _
   ·obtain rfl:i=r0.length:=by omega
    refine⟨by omega,qb9 (by omega) (by omega),(j+1,r,piv++[(j:Int)]),⟨by omega,?_⟩,by dsimp only; omega,by dsimp only; omega,rfl,rfl⟩
    rw[qc0,hj,qu9,if_neg (by dsimp only; omega),hi2]
    refine congrArg (·,_) ?_
    rw[<- qi7 r0 piv.length j]
    exact(q5v (.list (.int .i64)) _ _ _ (Nat.le_refl _)).symm
 ·obtain rfl:j=c.toNat:=by omega
  rw[hj]
  exact⟨rfl,rfl⟩
end Go.Proofs.Ytdibdlelmkcccaa
