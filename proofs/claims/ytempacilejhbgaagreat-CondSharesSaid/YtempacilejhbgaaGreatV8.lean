/- Rows reduced: contract by the engine. No condition. -/
import Derived.Test.YtempacilejhbgaaGreatV7
set_option linter.unusedVariables false
set_option linter.unusedSimpArgs false
namespace Go.Proofs.YtempacilejhbgaaGreat
open Go Go.RowKit Eng
abbrev xr6:qc0:=hspec [] true none [.d qf2,.cap qd6] [.bool] (λx=>0<=x.2.1/\x.2.1<x.1.length) (λx=>(nI x.1 x.2.1.toNat != 0,()))
theorem w1p:qd7 Tryz.prog 183 xr6:=by
 refine qu0 (SpecsOk.nil _) (snd (SpecsOk.nil _)) Tryz.func183 rfl rfl (λ_ _=>none) (λ_=>by kernel_rfl) (by decide) ?_
 rintro⟨l,j,⟨⟩⟩ h
 revert l j
 intro(l:List Int) (j:Int) (h:0<=j/\j<l.length)
 refine @qe1 _ (((0:Int)<=j/\j<(↑(List.length l):Int))/\(qa1 (Ty.int .i64) l (Int.toNat j) != (0:Int))=(nI l (Int.toNat j) != (0:Int))) (by kernel_rfl) ?_
 try simp only[z0,z1,z2,z3,z4,z5,z6,z7,z8,z9,z10,Int.reduceEq,z11,z12,z13,z14,z15,z16,z17,z18,z19,z20,z21,z22,z23,z24,z25,z26,z27,z28,z29,z30,Int.reduceLE,Int.reduceLT,z31,z32,z33,z34,qa4]
 try simp only[qb3,qb4,qb9,List.set_cons_zero,List.cons.injEq,and_true,true_and]
 exact h
def qr8 (rows:List (List Int)) (k j:Nat):Int:=ixT (.list (.int .i64)) (λr=>nI r j != 0) (rows.drop k)
def wh6 (rows:List (List Int)) (a b:Nat):List (List Int):=(rows.set a (nL rows b)).set b (nL rows a)
def w8u (r:List Int):List Int:=(List.range r.length).map λi=>0-nI r i
def q03 (rows:List (List Int)) (k j:Nat):List (List Int):=wh6 rows k (k+(qr8 rows k j).toNat)
def qi7 (rows:List (List Int)) (k j:Nat):List (List Int):=if nI (nL (q03 rows k j) k) j<0 then(q03 rows k j).set k (w8u (nL (q03 rows k j) k)) else q03 rows k j
def wb1 (rows:List (List Int)) (k j i:Nat):List Int:=if i≠k/\nI (nL rows i) j≠0 then qv7 (nL rows i) (nL rows k) j else nL rows i
def w7c (rows:List (List Int)) (k j:Nat):List (List Int):=(List.range rows.length).map (wb1 rows k j)
def qu8 (s:List (List Int) × List Int) (j:Nat):List (List Int) × List Int:=if qr8 s.1 s.2.length j<0 then s else(w7c (qi7 s.1 s.2.length j) s.2.length j,s.2++[(j:Int)])
def qd2 (rows:List (List Int)):Nat->List (List Int) × List Int
 | 0=>(rows,[])
 | j+1=>qu8 (qd2 rows j) j
structure xc1 (rows:List (List Int)) (k j:Nat):Prop where
 neg:∀x∈nL (q03 rows k j) k,qe8 BIG x
 clr:∀i,i<rows.length->i≠k->nI (nL (qi7 rows k j) i) j≠0->wh1 (nL (qi7 rows k j) i) (nL (qi7 rows k j) k) j
structure q9t (rows:List (List Int)) (cols W:Nat):Prop where
 n:rows.length<=1000
 w:W<=1000
 cw:cols<=W
 each:∀i,i<rows.length->(nL rows i).length=W
 step:∀j,j<cols->0<=qr8 (qd2 rows j).1 (qd2 rows j).2.length j->xc1 (qd2 rows j).1 (qd2 rows j).2.length j
abbrev x4l:qo7:=wf7 (q5u [qd6]) true false 24 3 (.int .i64) (λrows x=>0<=x.1/\∃W,q9t rows x.1.toNat W) (λrows x=>.dat (.int .i64) (qd2 rows x.1.toNat).2) (λrows x=>(qd2 rows x.1.toNat).1)
def xc2:List AObj:=[.dead,.dead,.dead,.dead,.dead,.dead,.dead,.dead,.dead,.dead,.dead,.dead,.dead,.dead,.dead,.dead,.dead,.dead,.dead,.dead,.dead,.dead,.dead,.dead,.dead,.dead,.dead,.dead]
structure w8v (rows:List (List Int)) (k i:Nat) (r:List (List Int)):Prop where
 le:i<=(nL rows k).length
 eq:r=rows.set k (ovr (.int .i64) (λq=>0-nI (nL rows k) q) (nL rows k) i)
structure q55 (rows:List (List Int)) (k j i:Nat) (r:List (List Int)):Prop where
 le:i<=rows.length
 eq:r=ovr (.list (.int .i64)) (wb1 rows k j) rows i
structure w1q (R:List (List Int)) (c j:Nat) (r:List (List Int)) (p:List Int):Prop where
 le:j<=c
 eq:qd2 R j=(r,p)
def x0m (T:q45) (R:List (List Int)) (c:Nat):Nat->Option Inv
 | 0=>some (Inv.of [0,5,13] 2 (λs:Nat × List (List Int) × List Int=>[(0,.msl 0 .none),(5,.own 1),(13,.lit (.int .i64 s.1))]) (λs=>[.mat 24 3 (.int .i64) s.2.1 .none (some T),.vec 3 (.int .i64) s.2.2]) (λs=>w1q R c s.1 s.2.1 s.2.2) (λs=>c-s.1))
 | 1=>some (Eng.Inv.mk (Nat × Nat × List (List Int) × List Int) (Nat × List (List Int)) [0,5,56] 31 (λ_ s=>[(0,.msl 0 .none),(5,.own 1),(56,.lit (.int .i64 s.1))]) (λq s=>.mat 24 3 (.int .i64) s.2 .none (some T) :: .vec 3 (.int .i64) q.2.2.2 :: .box 3 (.cons (.lit (.int .i64 q.1)) .nil) :: xc2) (λq s=>w8v q.2.2.1 q.2.1 s.1 s.2) (λq s=>(nL q.2.2.1 q.2.1).length-s.1))
 | 2=>some (Eng.Inv.mk (Nat × Nat × List (List Int) × List Int) (Nat × List (List Int)) [0,5,74,76] 31 (λ_ s=>[(0,.msl 0 .none),(5,.own 1),(74,.msl 0 .none),(76,.lit (.int .i64 s.1))]) (λq s=>.mat 24 3 (.int .i64) s.2 .none (some T) :: .vec 3 (.int .i64) q.2.2.2 :: .box 3 (.cons (.lit (.int .i64 q.1)) .nil) :: xc2) (λq s=>q55 q.2.2.1 q.2.1 q.1 s.1 s.2) (λq s=>q.2.2.1.length-s.1))
 | _=>none
theorem q74 (n:Nat):qf3 n none=n:=rfl
theorem w1r (n:Nat) (l:List Nat):qf3 n (some l)=l.length:=rfl
theorem w8w (n:Nat):ixL n none=List.range n:=rfl
theorem w8x (n:Nat) (l:List Nat):ixL n (some l)=l:=rfl
theorem wh7 (i:Nat):qg2 none i=i:=rfl
theorem w43 (l:List Nat) (i:Nat):qg2 (some l) i=l.getD i 0:=rfl
theorem wh8 (r:List (List Int)):q28 (.int .i64) r none=r:=rfl
theorem w44 (r:List (List Int)) (l:List Nat):q28 (.int .i64) r (some l)=l.map λp=>nL r p:=rfl
theorem w8y (n k b:Nat) (hk:k<n) (hb:b<n):(((List.range n).set k b).set b k).getD k 0=b:=by
 rw[List.getD_eq_getElem?_getD]
 by_cases e:b=k
 ·subst e
  rw[List.getElem?_set_self (by simpa using hb)]; rfl
 ·rw[List.getElem?_set_ne e,List.getElem?_set_self (by simpa using hk)]; rfl
theorem w45 (n k b:Nat) (hk:k<n) (hb:b<n):(((List.range n).set k b).set b k).Nodup:=by
 rw[List.nodup_iff_pairwise_ne,List.pairwise_iff_getElem]
 intro i j hi hj hij
 simp only[List.length_set,List.length_range] at hi hj
 simp only[List.getElem_set,List.getElem_range]
 split <;> split <;> (try split) <;> (try split) <;> omega
theorem xi3 (r:List (List Int)) (k b:Nat) (hk:k<r.length) (hb:b<r.length):((((List.range r.length).set k b).set b k).map λp=>nL r p)=wh6 r k b:=by
 apply List.ext_getElem (by simp[wh6])
 intro i h1 h2
 have hi:i<r.length:=by simpa using h1
 simp only[List.getElem_map,List.getElem_set,List.getElem_range,wh6]
 split
 ·rfl
 ·split
  ·rfl
  ·exact ql4 r i hi
theorem wh9 (r:List (List Int)) (k b:Nat):(wh6 r k b).length=r.length:=by simp[wh6]
theorem q2w (r:List (List Int)) (k b:Nat) (hk:k<r.length) (hb:b<r.length) (i:Nat) (hi:i<r.length):nL (wh6 r k b) i=if i=b then nL r k else if i=k then nL r b else nL r i:=by
 rw[ql4 _ i (by rw[wh9]; exact hi)]
 simp only[wh6,List.getElem_set]
 by_cases e:b=i
 ·rw[if_pos e,if_pos e.symm]
 ·rw[if_neg e,if_neg (Ne.symm e)]
  by_cases e2:k=i
  ·rw[if_pos e2,if_pos e2.symm]
  ·rw[if_neg e2,if_neg (Ne.symm e2),ql4 r i hi]
theorem q75 (l:List Int):(qd9 l).length=l.length:=by unfold qd9; split <;> simp
theorem q76 (r b:List Int) (c:Nat):(qv7 r b c).length=r.length:=by unfold qv7; rw[q75,q02]
theorem q4s (r:List Int):(w8u r).length=r.length:=by simp[w8u]
theorem q4t (r:List (List Int)) (k j:Nat):(q03 r k j).length=r.length:=wh9 _ _ _
theorem qi5 (r:List (List Int)) (k j:Nat):(qi7 r k j).length=r.length:=by
 unfold qi7; split
 ·rw[List.length_set,q4t]
 ·rw[q4t]
theorem q9u (r:List (List Int)) (k:Nat) (x:List Int) (i:Nat) (hi:i<r.length):nL (r.set k x) i=if i=k then x else nL r i:=by
 rw[ql4 _ i (by rw[List.length_set]; exact hi),List.getElem_set]
 by_cases e:k=i
 ·rw[if_pos e,if_pos e.symm]
 ·rw[if_neg e,if_neg (Ne.symm e),ql4 r i hi]
theorem q04 (r:List (List Int)) (k j:Nat) (hk:k<=r.length) (h:0<=qr8 r k j):k+(qr8 r k j).toNat<r.length:=by
 have:=(xb7 (.list (.int .i64)) (λr=>nI r j != 0) (r.drop k)).1
 unfold qr8 at h ⊢
 rw[List.length_drop] at this
 omega
theorem q2x (r:List (List Int)) (k j i:Nat) (hi:i<r.length):nL (qi7 r k j) i=if i=k/\nI (nL (q03 r k j) k) j<0 then w8u (nL (q03 r k j) k) else nL (q03 r k j) i:=by
 unfold qi7
 split
 ·rename_i h
  rw[q9u _ _ _ _ (by rw[q4t]; exact hi)]
  by_cases e:i=k
  ·rw[if_pos e,if_pos ⟨e,h⟩]
  ·rw[if_neg e,if_neg λq=>e q.1]
 ·rename_i h
  rw[if_neg λq=>h q.2]
theorem q9v (r:List (List Int)) (k j:Nat):(w7c r k j).length=r.length:=by simp[w7c]
theorem w46 (r:List (List Int)) (k j i:Nat) (hi:i<r.length):nL (w7c r k j) i=wb1 r k j i:=by
 rw[ql4 _ i (by rw[q9v]; exact hi)]; simp[w7c]
structure RedSh (n W:Nat) (s:List (List Int) × List Int) (j:Nat):Prop where
 cnt:s.1.length=n
 each:∀i,i<n->(nL s.1 i).length=W
 piv:s.2.length<=n
 pivj:s.2.length<=j
theorem q56 {r:List (List Int)} {k j W:Nat} (hk:k<=r.length) (h:0<=qr8 r k j) (he:∀i,i<r.length->(nL r i).length=W):∀i,i<r.length->(nL (q03 r k j) i).length=W:=λi hi=>by
 have hb:=q04 r k j hk h
 unfold q03
 rw[q2w _ _ _ (by omega) hb i hi]
 split
 ·exact he _ (by omega)
 ·split
  ·exact he _ hb
  ·exact he _ hi
theorem q05 {r:List (List Int)} {k j W:Nat} (hk:k<=r.length) (h:0<=qr8 r k j) (he:∀i,i<r.length->(nL r i).length=W):∀i,i<r.length->(nL (qi7 r k j) i).length=W:=λi hi=>by
 have hb:=q04 r k j hk h
 have h1:=q56 hk h he
 rw[q2x _ _ _ _ hi]
 split
 ·rw[q4s]; exact h1 _ (by omega)
 ·exact h1 _ hi
theorem RedSh.step {n W j:Nat} {s:List (List Int) × List Int} (h:RedSh n W s j):RedSh n W (qu8 s j) (j+1):=by
 unfold qu8
 split
 ·exact⟨h.cnt,h.each,h.piv,by have:=h.pivj; omega⟩
 ·rename_i hp
  have hp:0<=qr8 s.1 s.2.length j:=by omega
  have hn:=h.cnt
  have hb:=q04 s.1 s.2.length j (by rw[hn]; exact h.piv) hp
  have he:=q05 (W:=W) (by rw[hn]; exact h.piv) hp (λi hi=>h.each i (by omega))
  refine⟨by rw[q9v,qi5]; exact hn,λi hi=>?_,?_,?_⟩
  ·rw[w46 _ _ _ _ (by rw[qi5]; omega)]
   unfold wb1
   split
   ·rw[q76]; exact he i (by omega)
   ·exact he i (by omega)
  ·rw[List.length_append]; simp; omega
  ·rw[List.length_append]; have:=h.pivj; simp; omega
theorem q4u {R:List (List Int)} {c W:Nat} (h:q9t R c W):∀j,RedSh R.length W (qd2 R j) j
 | 0=>⟨rfl,h.each,Nat.zero_le _,Nat.le_refl _⟩
 | j+1=>(q4u h j).step
theorem q2y (r:List (List Int)) (k j:Nat):wb1 r k j k=nL r k:=by unfold wb1; rw[if_neg]; exact λh=>h.1 rfl
theorem q4v (t:Ty) (g:Nat->t.den) (l:List t.den) (k:Nat) (h:k<l.length->g k=qa1 t l k):ovr t g l k=ovr t g l (k+1):=by
 unfold ovr
 apply List.map_congr_left
 intro i hi
 have hi:=List.mem_range.1 hi
 by_cases e:i=k
 ·subst e; rw[if_neg (Nat.lt_irrefl _),if_pos (by omega),h hi]
 ·by_cases h2:i<k
  ·rw[if_pos h2,if_pos (by omega)]
  ·rw[if_neg h2,if_neg (by omega)]
theorem wi0:qt9 Tryz.prog 153 x4l:=by
 refine q5x (xz9 [17,22] (SpecsOk.cons (wh2 (fs:=[(183,xr6)]) (SpecsOk.cons w1p (SpecsOk.nil _))) (SpecsOk.nil _)) (MutsOk.cons wo7 MutsOk.nil)) Tryz.func153 rfl rfl (qx8 [qd6]) (λT rows x=>x0m T rows x.1.toNat) (λ_ _ _=>by kernel_rfl) (by decide) ?_ rfl
 rintro T rows ⟨c,⟨⟩⟩ h -
 revert rows c
 intro(rows:List (List Int)) (c:Int) (h:0<=c/\∃W,q9t rows c.toNat W)
 refine @qe1 _ (let Q0:=List Int; let Q1:=qo7.t xb6; let Q2:=Int.toNat c; ∃(v0:Unit),∃(v1:Nat × List Q0 × List Int),w1q rows Q2 (Prod.fst v1) (Prod.fst (Prod.snd v1)) (Prod.snd (Prod.snd v1))/\((True/\True/\(0:Int)=(↑(Prod.fst v1):Int)/\True)/\(rows=Prod.fst (Prod.snd v1)/\True/\T=T)/\Prod.snd (Prod.snd v1)=[]/\True)/\∀(v2:Nat × List Q0 × List Int),w1q rows Q2 (Prod.fst v2) (Prod.fst (Prod.snd v2)) (Prod.snd (Prod.snd v2))->(decide ((↑(Prod.fst v2):Int)<c)=true->∀(v5:Int),v5=(↑(List.length (Prod.snd (Prod.snd v2))):Int)->((0:Int)<=v5/\v5<=(↑(qf3 (List.length (Prod.fst (Prod.snd v2))) none):Int)/\(↑(qf3 (List.length (Prod.fst (Prod.snd v2))) none):Int)<=(↑(qf3 (List.length (Prod.fst (Prod.snd v2))) none):Int))/\∃(v7:qa6 [Ty.list (Ty.int .i64)]->Prop),∃(v8:qa6 [Ty.list (Ty.int .i64)]->Bool),(∀(v9:List Int × qa6._f [] PUnit.unit),v7 v9->((0:PTy.den (PTy.cap qd6))<=(↑(Prod.fst v2):Int)/\(↑(Prod.fst v2):Int)<(↑(List.length (Prod.fst v9)):PTy.den (PTy.cap qd6)))/\(nI (Prod.fst v9) (Int.toNat (↑(Prod.fst v2):Int)) != (0:Int))=v8 v9)/\(List.length (List.drop (Int.toNat v5) (List.take (Int.toNat (↑(qf3 (List.length (Prod.fst (Prod.snd v2))) none):Int)) (q28 (Ty.int .i64) (Prod.fst (Prod.snd v2)) none)))<=(1000000:Nat)/\∀(v9:Nat),v9<List.length (List.drop (Int.toNat v5) (List.take (Int.toNat (↑(qf3 (List.length (Prod.fst (Prod.snd v2))) none):Int)) (q28 (Ty.int .i64) (Prod.fst (Prod.snd v2)) none)))->v7 (qa1 (Ty.list (Ty.int .i64)) (List.drop (Int.toNat v5) (List.take (Int.toNat (↑(qf3 (List.length (Prod.fst (Prod.snd v2))) none):Int)) (q28 (Ty.int .i64) (Prod.fst (Prod.snd v2)) none))) v9,()))/\∀(v9:Int),v9=ixT (Ty.list (Ty.int .i64)) (λ(v11:List Int)=>v8 (v11,())) (List.drop (Int.toNat v5) (List.take (Int.toNat (↑(qf3 (List.length (Prod.fst (Prod.snd v2))) none):Int)) (q28 (Ty.int .i64) (Prod.fst (Prod.snd v2)) none)))->(decide (v9<(0:Int))=true->fits .i64 ((↑(Prod.fst v2):Int)+(1:Int))/\∃(v12:Nat × List Q0 × List Int),w1q rows Q2 (Prod.fst v12) (Prod.fst (Prod.snd v12)) (Prod.snd (Prod.snd v12))/\Int.toNat c-Prod.fst v12<Int.toNat c-Prod.fst v2/\(True/\True/\(↑(Prod.fst v2):Int)+(1:Int)=(↑(Prod.fst v12):Int)/\True)/\(Prod.fst (Prod.snd v2)=Prod.fst (Prod.snd v12)/\True/\T=T)/\Prod.snd (Prod.snd v2)=Prod.snd (Prod.snd v12)/\True)/\(decide (v9<(0:Int))=false->fits .i64 (v5+v9)/\fits .i64 (v5+v9)/\((0:Int)<=v5+v9/\v5+v9<(↑(qf3 (List.length (Prod.fst (Prod.snd v2))) none):Int))/\Int.toNat (v5+v9)<qf3 (List.length (Prod.fst (Prod.snd v2))) none/\((0:Int)<=v5/\v5<(↑(qf3 (List.length (Prod.fst (Prod.snd v2))) none):Int))/\Int.toNat v5<qf3 (List.length (Prod.fst (Prod.snd v2))) none/\((0:Int)<=v5/\v5<(↑(qf3 (List.length (Prod.fst (Prod.snd v2))) none):Int))/\Int.toNat v5<qf3 (List.length (Prod.fst (Prod.snd v2))) none/\((0:Int)<=v5+v9/\v5+v9<(↑(qf3 (List.length (Prod.fst (Prod.snd v2))) (some (List.set (ixL (List.length (Prod.fst (Prod.snd v2))) none) (Int.toNat v5) (qg2 none (Int.toNat (v5+v9)))))):Int))/\Int.toNat (v5+v9)<qf3 (List.length (Prod.fst (Prod.snd v2))) (some (List.set (ixL (List.length (Prod.fst (Prod.snd v2))) none) (Int.toNat v5) (qg2 none (Int.toNat (v5+v9)))))/\((0:Int)<=v5/\v5<(↑(qf3 (List.length (Prod.fst (Prod.snd v2))) (some (List.set (ixL (List.length (Prod.fst (Prod.snd v2))) (some (List.set (ixL (List.length (Prod.fst (Prod.snd v2))) none) (Int.toNat v5) (qg2 none (Int.toNat (v5+v9)))))) (Int.toNat (v5+v9)) (qg2 none (Int.toNat v5))))):Int))/\Int.toNat v5<qf3 (List.length (Prod.fst (Prod.snd v2))) (some (List.set (ixL (List.length (Prod.fst (Prod.snd v2))) (some (List.set (ixL (List.length (Prod.fst (Prod.snd v2))) none) (Int.toNat v5) (qg2 none (Int.toNat (v5+v9)))))) (Int.toNat (v5+v9)) (qg2 none (Int.toNat v5))))/\((0:Int)<=(↑(Prod.fst v2):Int)/\(↑(Prod.fst v2):Int)<(↑(List.length (qa1 (Ty.list (Ty.int .i64)) (Prod.fst (Prod.snd v2)) (qg2 (some (List.set (ixL (List.length (Prod.fst (Prod.snd v2))) (some (List.set (ixL (List.length (Prod.fst (Prod.snd v2))) none) (Int.toNat v5) (qg2 none (Int.toNat (v5+v9)))))) (Int.toNat (v5+v9)) (qg2 none (Int.toNat v5)))) (Int.toNat v5)))):Int))/\Int.toNat (↑(Prod.fst v2):Int)<List.length (qa1 (Ty.list (Ty.int .i64)) (Prod.fst (Prod.snd v2)) (qg2 (some (List.set (ixL (List.length (Prod.fst (Prod.snd v2))) (some (List.set (ixL (List.length (Prod.fst (Prod.snd v2))) none) (Int.toNat v5) (qg2 none (Int.toNat (v5+v9)))))) (Int.toNat (v5+v9)) (qg2 none (Int.toNat v5)))) (Int.toNat v5)))/\(decide (qa1 (Ty.int .i64) (qa1 (Ty.list (Ty.int .i64)) (Prod.fst (Prod.snd v2)) (qg2 (some (List.set (ixL (List.length (Prod.fst (Prod.snd v2))) (some (List.set (ixL (List.length (Prod.fst (Prod.snd v2))) none) (Int.toNat v5) (qg2 none (Int.toNat (v5+v9)))))) (Int.toNat (v5+v9)) (qg2 none (Int.toNat v5)))) (Int.toNat v5))) (Int.toNat (↑(Prod.fst v2):Int))<(0:Int))=true->((0:Int)<=v5/\v5<(↑(qf3 (List.length (Prod.fst (Prod.snd v2))) (some (List.set (ixL (List.length (Prod.fst (Prod.snd v2))) (some (List.set (ixL (List.length (Prod.fst (Prod.snd v2))) none) (Int.toNat v5) (qg2 none (Int.toNat (v5+v9)))))) (Int.toNat (v5+v9)) (qg2 none (Int.toNat v5))))):Int))/\Int.toNat v5<qf3 (List.length (Prod.fst (Prod.snd v2))) (some (List.set (ixL (List.length (Prod.fst (Prod.snd v2))) (some (List.set (ixL (List.length (Prod.fst (Prod.snd v2))) none) (Int.toNat v5) (qg2 none (Int.toNat (v5+v9)))))) (Int.toNat (v5+v9)) (qg2 none (Int.toNat v5))))/\∃(v13:Nat × Nat × List Q0 × List Int),∃(v14:Nat × List Q0),w8v (Prod.fst (Prod.snd (Prod.snd v13))) (Prod.fst (Prod.snd v13)) (Prod.fst v14) (Prod.snd v14)/\(List.Nodup (List.set (ixL (List.length (Prod.fst (Prod.snd v2))) (some (List.set (ixL (List.length (Prod.fst (Prod.snd v2))) none) (Int.toNat v5) (qg2 none (Int.toNat (v5+v9)))))) (Int.toNat (v5+v9)) (qg2 none (Int.toNat v5)))/\List.length (List.set (ixL (List.length (Prod.fst (Prod.snd v2))) (some (List.set (ixL (List.length (Prod.fst (Prod.snd v2))) none) (Int.toNat v5) (qg2 none (Int.toNat (v5+v9)))))) (Int.toNat (v5+v9)) (qg2 none (Int.toNat v5)))=List.length (Prod.fst (Prod.snd v2)))/\((True/\True/\(0:Int)=(↑(Prod.fst v14):Int)/\True)/\(q28 (Ty.int .i64) (Prod.fst (Prod.snd v2)) (some (List.set (ixL (List.length (Prod.fst (Prod.snd v2))) (some (List.set (ixL (List.length (Prod.fst (Prod.snd v2))) none) (Int.toNat v5) (qg2 none (Int.toNat (v5+v9)))))) (Int.toNat (v5+v9)) (qg2 none (Int.toNat v5))))=Prod.snd v14/\True/\T=T)/\Prod.snd (Prod.snd v2)=Prod.snd (Prod.snd (Prod.snd v13))/\((↑(Prod.fst v2):Int)=(↑(Prod.fst v13):Int)/\True)/\True/\True/\True/\True/\True/\True/\True/\True/\True/\True/\True/\True/\True/\True/\True/\True/\True/\True/\True/\True/\True/\True/\True/\True/\True/\True/\True/\True/\True)/\∀(v15:Nat × List Q0),w8v (Prod.fst (Prod.snd (Prod.snd v13))) (Prod.fst (Prod.snd v13)) (Prod.fst v15) (Prod.snd v15)->(decide ((↑(Prod.fst v15):Int)<(↑(List.length (qa1 (Ty.list (Ty.int .i64)) (Prod.fst (Prod.snd v2)) (qg2 (some (List.set (ixL (List.length (Prod.fst (Prod.snd v2))) (some (List.set (ixL (List.length (Prod.fst (Prod.snd v2))) none) (Int.toNat v5) (qg2 none (Int.toNat (v5+v9)))))) (Int.toNat (v5+v9)) (qg2 none (Int.toNat v5)))) (Int.toNat v5)))):Int))=true->((0:Int)<=v5/\v5<(↑(qf3 (List.length (Prod.snd v15)) none):Int))/\Int.toNat v5<qf3 (List.length (Prod.snd v15)) none/\((0:Int)<=v5/\v5<(↑(qf3 (List.length (Prod.snd v15)) none):Int))/\Int.toNat v5<qf3 (List.length (Prod.snd v15)) none/\((0:Int)<=(↑(Prod.fst v15):Int)/\(↑(Prod.fst v15):Int)<(↑(List.length (qa1 (Ty.list (Ty.int .i64)) (Prod.snd v15) (qg2 none (Int.toNat v5)))):Int))/\Int.toNat (↑(Prod.fst v15):Int)<List.length (qa1 (Ty.list (Ty.int .i64)) (Prod.snd v15) (qg2 none (Int.toNat v5)))/\fits .i64 ((0:Int)-qa1 (Ty.int .i64) (qa1 (Ty.list (Ty.int .i64)) (Prod.snd v15) (qg2 none (Int.toNat v5))) (Int.toNat (↑(Prod.fst v15):Int)))/\((0:Int)<=(↑(Prod.fst v15):Int)/\(↑(Prod.fst v15):Int)<(↑(List.length (qa1 (Ty.list (Ty.int .i64)) (Prod.snd v15) (qg2 none (Int.toNat v5)))):Int))/\Int.toNat (↑(Prod.fst v15):Int)<List.length (qa1 (Ty.list (Ty.int .i64)) (Prod.snd v15) (qg2 none (Int.toNat v5)))/\fits .i64 ((↑(Prod.fst v15):Int)+(1:Int))/\∃(v18:Nat × List Q0),w8v (Prod.fst (Prod.snd (Prod.snd v13))) (Prod.fst (Prod.snd v13)) (Prod.fst v18) (Prod.snd v18)/\List.length (nL (Prod.fst (Prod.snd (Prod.snd v13))) (Prod.fst (Prod.snd v13)))-Prod.fst v18<List.length (nL (Prod.fst (Prod.snd (Prod.snd v13))) (Prod.fst (Prod.snd v13)))-Prod.fst v15/\(True/\True/\(↑(Prod.fst v15):Int)+(1:Int)=(↑(Prod.fst v18):Int)/\True)/\(List.set (Prod.snd v15) (qg2 none (Int.toNat v5)) (List.set (qa1 (Ty.list (Ty.int .i64)) (Prod.snd v15) (qg2 none (Int.toNat v5))) (Int.toNat (↑(Prod.fst v15):Int)) ((0:Int)-qa1 (Ty.int .i64) (qa1 (Ty.list (Ty.int .i64)) (Prod.snd v15) (qg2 none (Int.toNat v5))) (Int.toNat (↑(Prod.fst v15):Int))))=Prod.snd v18/\True/\T=T)/\Prod.snd (Prod.snd (Prod.snd v13))=Prod.snd (Prod.snd (Prod.snd v13))/\((↑(Prod.fst v13):Int)=(↑(Prod.fst v13):Int)/\True)/\True/\True/\True/\True/\True/\True/\True/\True/\True/\True/\True/\True/\True/\True/\True/\True/\True/\True/\True/\True/\True/\True/\True/\True/\True/\True/\True/\True/\True)/\(decide ((↑(Prod.fst v15):Int)<(↑(List.length (qa1 (Ty.list (Ty.int .i64)) (Prod.fst (Prod.snd v2)) (qg2 (some (List.set (ixL (List.length (Prod.fst (Prod.snd v2))) (some (List.set (ixL (List.length (Prod.fst (Prod.snd v2))) none) (Int.toNat v5) (qg2 none (Int.toNat (v5+v9)))))) (Int.toNat (v5+v9)) (qg2 none (Int.toNat v5)))) (Int.toNat v5)))):Int))=false->∃(v18:Nat × Nat × List Q0 × List Int),∃(v19:Nat × List Q0),q55 (Prod.fst (Prod.snd (Prod.snd v18))) (Prod.fst (Prod.snd v18)) (Prod.fst v18) (Prod.fst v19) (Prod.snd v19)/\((True/\True/\True/\(0:Int)=(↑(Prod.fst v19):Int)/\True)/\(Prod.snd v15=Prod.snd v19/\True/\T=T)/\Prod.snd (Prod.snd (Prod.snd v13))=Prod.snd (Prod.snd (Prod.snd v18))/\((↑(Prod.fst v13):Int)=(↑(Prod.fst v18):Int)/\True)/\True/\True/\True/\True/\True/\True/\True/\True/\True/\True/\True/\True/\True/\True/\True/\True/\True/\True/\True/\True/\True/\True/\True/\True/\True/\True/\True/\True/\True)/\∀(v20:Nat × List Q0),q55 (Prod.fst (Prod.snd (Prod.snd v18))) (Prod.fst (Prod.snd v18)) (Prod.fst v18) (Prod.fst v20) (Prod.snd v20)->(decide ((↑(Prod.fst v20):Int)<(↑(qf3 (List.length (Prod.snd v15)) none):Int))=true->((0:Int)<=(↑(Prod.fst v20):Int)/\(↑(Prod.fst v20):Int)<(↑(qf3 (List.length (Prod.snd v20)) none):Int))/\Int.toNat (↑(Prod.fst v20):Int)<qf3 (List.length (Prod.snd v20)) none/\(((↑(Prod.fst v20):Int) != v5)=true->((0:Int)<=(↑(Prod.fst v18):Int)/\(↑(Prod.fst v18):Int)<(↑(List.length (qa1 (Ty.list (Ty.int .i64)) (Prod.snd v20) (qg2 none (Int.toNat (↑(Prod.fst v20):Int))))):Int))/\Int.toNat (↑(Prod.fst v18):Int)<List.length (qa1 (Ty.list (Ty.int .i64)) (Prod.snd v20) (qg2 none (Int.toNat (↑(Prod.fst v20):Int))))/\((qa1 (Ty.int .i64) (qa1 (Ty.list (Ty.int .i64)) (Prod.snd v20) (qg2 none (Int.toNat (↑(Prod.fst v20):Int)))) (Int.toNat (↑(Prod.fst v18):Int)) != (0:Int))=true->((0:Int)<=v5/\v5<(↑(qf3 (List.length (Prod.snd v20)) none):Int))/\Int.toNat v5<qf3 (List.length (Prod.snd v20)) none/\qg2 none (Int.toNat v5)≠qg2 none (Int.toNat (↑(Prod.fst v20):Int))/\((0:Ty.den qd6)<=(↑(Prod.fst v18):Int)/\wh1 (nL [qa1 (Ty.list Q1) (Prod.snd v20) (qg2 none (Int.toNat (↑(Prod.fst v20):Int)))] (0:Nat)) (qa1 (Ty.list (Ty.int .i64)) (Prod.snd v20) (qg2 none (Int.toNat v5))) (Int.toNat (↑(Prod.fst v18):Int)))/\fits .i64 ((↑(Prod.fst v20):Int)+(1:Int))/\∃(v25:Nat × List Q0),q55 (Prod.fst (Prod.snd (Prod.snd v18))) (Prod.fst (Prod.snd v18)) (Prod.fst v18) (Prod.fst v25) (Prod.snd v25)/\List.length (Prod.fst (Prod.snd (Prod.snd v18)))-Prod.fst v25<List.length (Prod.fst (Prod.snd (Prod.snd v18)))-Prod.fst v20/\(True/\True/\True/\(↑(Prod.fst v20):Int)+(1:Int)=(↑(Prod.fst v25):Int)/\True)/\(List.set (Prod.snd v20) (qg2 none (Int.toNat (↑(Prod.fst v20):Int))) (qa1 (Ty.list Q1) [qv7 (nL [qa1 (Ty.list Q1) (Prod.snd v20) (qg2 none (Int.toNat (↑(Prod.fst v20):Int)))] (0:Nat)) (qa1 (Ty.list (Ty.int .i64)) (Prod.snd v20) (qg2 none (Int.toNat v5))) (Int.toNat (↑(Prod.fst v18):Int))] (0:Nat))=Prod.snd v25/\True/\T=T)/\Prod.snd (Prod.snd (Prod.snd v18))=Prod.snd (Prod.snd (Prod.snd v18))/\((↑(Prod.fst v18):Int)=(↑(Prod.fst v18):Int)/\True)/\True/\True/\True/\True/\True/\True/\True/\True/\True/\True/\True/\True/\True/\True/\True/\True/\True/\True/\True/\True/\True/\True/\True/\True/\True/\True/\True/\True/\True)/\((qa1 (Ty.int .i64) (qa1 (Ty.list (Ty.int .i64)) (Prod.snd v20) (qg2 none (Int.toNat (↑(Prod.fst v20):Int)))) (Int.toNat (↑(Prod.fst v18):Int)) != (0:Int))=false->fits .i64 ((↑(Prod.fst v20):Int)+(1:Int))/\∃(v25:Nat × List Q0),q55 (Prod.fst (Prod.snd (Prod.snd v18))) (Prod.fst (Prod.snd v18)) (Prod.fst v18) (Prod.fst v25) (Prod.snd v25)/\List.length (Prod.fst (Prod.snd (Prod.snd v18)))-Prod.fst v25<List.length (Prod.fst (Prod.snd (Prod.snd v18)))-Prod.fst v20/\(True/\True/\True/\(↑(Prod.fst v20):Int)+(1:Int)=(↑(Prod.fst v25):Int)/\True)/\(Prod.snd v20=Prod.snd v25/\True/\T=T)/\Prod.snd (Prod.snd (Prod.snd v18))=Prod.snd (Prod.snd (Prod.snd v18))/\((↑(Prod.fst v18):Int)=(↑(Prod.fst v18):Int)/\True)/\True/\True/\True/\True/\True/\True/\True/\True/\True/\True/\True/\True/\True/\True/\True/\True/\True/\True/\True/\True/\True/\True/\True/\True/\True/\True/\True/\True/\True))/\(((↑(Prod.fst v20):Int) != v5)=false->fits .i64 ((↑(Prod.fst v20):Int)+(1:Int))/\∃(v24:Nat × List Q0),q55 (Prod.fst (Prod.snd (Prod.snd v18))) (Prod.fst (Prod.snd v18)) (Prod.fst v18) (Prod.fst v24) (Prod.snd v24)/\List.length (Prod.fst (Prod.snd (Prod.snd v18)))-Prod.fst v24<List.length (Prod.fst (Prod.snd (Prod.snd v18)))-Prod.fst v20/\(True/\True/\True/\(↑(Prod.fst v20):Int)+(1:Int)=(↑(Prod.fst v24):Int)/\True)/\(Prod.snd v20=Prod.snd v24/\True/\T=T)/\Prod.snd (Prod.snd (Prod.snd v18))=Prod.snd (Prod.snd (Prod.snd v18))/\((↑(Prod.fst v18):Int)=(↑(Prod.fst v18):Int)/\True)/\True/\True/\True/\True/\True/\True/\True/\True/\True/\True/\True/\True/\True/\True/\True/\True/\True/\True/\True/\True/\True/\True/\True/\True/\True/\True/\True/\True/\True))/\(decide ((↑(Prod.fst v20):Int)<(↑(qf3 (List.length (Prod.snd v15)) none):Int))=false->((0:Nat)<List.length [(↑(Prod.fst v18):Int)]/\Nat.le (List.length (Prod.snd (Prod.snd (Prod.snd v18)))+List.length [(↑(Prod.fst v18):Int)]) (1000000:Nat))/\fits .i64 ((↑(Prod.fst v2):Int)+(1:Int))/\∃(v23:Nat × List Q0 × List Int),w1q rows Q2 (Prod.fst v23) (Prod.fst (Prod.snd v23)) (Prod.snd (Prod.snd v23))/\Int.toNat c-Prod.fst v23<Int.toNat c-Prod.fst v2/\(True/\True/\(↑(Prod.fst v2):Int)+(1:Int)=(↑(Prod.fst v23):Int)/\True)/\(Prod.snd v20=Prod.fst (Prod.snd v23)/\True/\T=T)/\Prod.snd (Prod.snd (Prod.snd v18))++[(↑(Prod.fst v18):Int)]=Prod.snd (Prod.snd v23)/\True)))/\(decide (qa1 (Ty.int .i64) (qa1 (Ty.list (Ty.int .i64)) (Prod.fst (Prod.snd v2)) (qg2 (some (List.set (ixL (List.length (Prod.fst (Prod.snd v2))) (some (List.set (ixL (List.length (Prod.fst (Prod.snd v2))) none) (Int.toNat v5) (qg2 none (Int.toNat (v5+v9)))))) (Int.toNat (v5+v9)) (qg2 none (Int.toNat v5)))) (Int.toNat v5))) (Int.toNat (↑(Prod.fst v2):Int))<(0:Int))=false->∃(v13:Nat × Nat × List Q0 × List Int),∃(v14:Nat × List Q0),q55 (Prod.fst (Prod.snd (Prod.snd v13))) (Prod.fst (Prod.snd v13)) (Prod.fst v13) (Prod.fst v14) (Prod.snd v14)/\(List.Nodup (List.set (ixL (List.length (Prod.fst (Prod.snd v2))) (some (List.set (ixL (List.length (Prod.fst (Prod.snd v2))) none) (Int.toNat v5) (qg2 none (Int.toNat (v5+v9)))))) (Int.toNat (v5+v9)) (qg2 none (Int.toNat v5)))/\List.length (List.set (ixL (List.length (Prod.fst (Prod.snd v2))) (some (List.set (ixL (List.length (Prod.fst (Prod.snd v2))) none) (Int.toNat v5) (qg2 none (Int.toNat (v5+v9)))))) (Int.toNat (v5+v9)) (qg2 none (Int.toNat v5)))=List.length (Prod.fst (Prod.snd v2)))/\((True/\True/\True/\(0:Int)=(↑(Prod.fst v14):Int)/\True)/\(q28 (Ty.int .i64) (Prod.fst (Prod.snd v2)) (some (List.set (ixL (List.length (Prod.fst (Prod.snd v2))) (some (List.set (ixL (List.length (Prod.fst (Prod.snd v2))) none) (Int.toNat v5) (qg2 none (Int.toNat (v5+v9)))))) (Int.toNat (v5+v9)) (qg2 none (Int.toNat v5))))=Prod.snd v14/\True/\T=T)/\Prod.snd (Prod.snd v2)=Prod.snd (Prod.snd (Prod.snd v13))/\((↑(Prod.fst v2):Int)=(↑(Prod.fst v13):Int)/\True)/\True/\True/\True/\True/\True/\True/\True/\True/\True/\True/\True/\True/\True/\True/\True/\True/\True/\True/\True/\True/\True/\True/\True/\True/\True/\True/\True/\True/\True)/\∀(v15:Nat × List Q0),q55 (Prod.fst (Prod.snd (Prod.snd v13))) (Prod.fst (Prod.snd v13)) (Prod.fst v13) (Prod.fst v15) (Prod.snd v15)->(decide ((↑(Prod.fst v15):Int)<(↑(qf3 (List.length (Prod.fst (Prod.snd v2))) (some (List.set (ixL (List.length (Prod.fst (Prod.snd v2))) (some (List.set (ixL (List.length (Prod.fst (Prod.snd v2))) none) (Int.toNat v5) (qg2 none (Int.toNat (v5+v9)))))) (Int.toNat (v5+v9)) (qg2 none (Int.toNat v5))))):Int))=true->((0:Int)<=(↑(Prod.fst v15):Int)/\(↑(Prod.fst v15):Int)<(↑(qf3 (List.length (Prod.snd v15)) none):Int))/\Int.toNat (↑(Prod.fst v15):Int)<qf3 (List.length (Prod.snd v15)) none/\(((↑(Prod.fst v15):Int) != v5)=true->((0:Int)<=(↑(Prod.fst v13):Int)/\(↑(Prod.fst v13):Int)<(↑(List.length (qa1 (Ty.list (Ty.int .i64)) (Prod.snd v15) (qg2 none (Int.toNat (↑(Prod.fst v15):Int))))):Int))/\Int.toNat (↑(Prod.fst v13):Int)<List.length (qa1 (Ty.list (Ty.int .i64)) (Prod.snd v15) (qg2 none (Int.toNat (↑(Prod.fst v15):Int))))/\((qa1 (Ty.int .i64) (qa1 (Ty.list (Ty.int .i64)) (Prod.snd v15) (qg2 none (Int.toNat (↑(Prod.fst v15):Int)))) (Int.toNat (↑(Prod.fst v13):Int)) != (0:Int))=true->((0:Int)<=v5/\v5<(↑(qf3 (List.length (Prod.snd v15)) none):Int))/\Int.toNat v5<qf3 (List.length (Prod.snd v15)) none/\qg2 none (Int.toNat v5)≠qg2 none (Int.toNat (↑(Prod.fst v15):Int))/\((0:Ty.den qd6)<=(↑(Prod.fst v13):Int)/\wh1 (nL [qa1 (Ty.list Q1) (Prod.snd v15) (qg2 none (Int.toNat (↑(Prod.fst v15):Int)))] (0:Nat)) (qa1 (Ty.list (Ty.int .i64)) (Prod.snd v15) (qg2 none (Int.toNat v5))) (Int.toNat (↑(Prod.fst v13):Int)))/\fits .i64 ((↑(Prod.fst v15):Int)+(1:Int))/\∃(v20:Nat × List Q0),q55 (Prod.fst (Prod.snd (Prod.snd v13))) (Prod.fst (Prod.snd v13)) (Prod.fst v13) (Prod.fst v20) (Prod.snd v20)/\List.length (Prod.fst (Prod.snd (Prod.snd v13)))-Prod.fst v20<List.length (Prod.fst (Prod.snd (Prod.snd v13)))-Prod.fst v15/\(True/\True/\True/\(↑(Prod.fst v15):Int)+(1:Int)=(↑(Prod.fst v20):Int)/\True)/\(List.set (Prod.snd v15) (qg2 none (Int.toNat (↑(Prod.fst v15):Int))) (qa1 (Ty.list Q1) [qv7 (nL [qa1 (Ty.list Q1) (Prod.snd v15) (qg2 none (Int.toNat (↑(Prod.fst v15):Int)))] (0:Nat)) (qa1 (Ty.list (Ty.int .i64)) (Prod.snd v15) (qg2 none (Int.toNat v5))) (Int.toNat (↑(Prod.fst v13):Int))] (0:Nat))=Prod.snd v20/\True/\T=T)/\Prod.snd (Prod.snd (Prod.snd v13))=Prod.snd (Prod.snd (Prod.snd v13))/\((↑(Prod.fst v13):Int)=(↑(Prod.fst v13):Int)/\True)/\True/\True/\True/\True/\True/\True/\True/\True/\True/\True/\True/\True/\True/\True/\True/\True/\True/\True/\True/\True/\True/\True/\True/\True/\True/\True/\True/\True/\True)/\((qa1 (Ty.int .i64) (qa1 (Ty.list (Ty.int .i64)) (Prod.snd v15) (qg2 none (Int.toNat (↑(Prod.fst v15):Int)))) (Int.toNat (↑(Prod.fst v13):Int)) != (0:Int))=false->fits .i64 ((↑(Prod.fst v15):Int)+(1:Int))/\∃(v20:Nat × List Q0),q55 (Prod.fst (Prod.snd (Prod.snd v13))) (Prod.fst (Prod.snd v13)) (Prod.fst v13) (Prod.fst v20) (Prod.snd v20)/\List.length (Prod.fst (Prod.snd (Prod.snd v13)))-Prod.fst v20<List.length (Prod.fst (Prod.snd (Prod.snd v13)))-Prod.fst v15/\(True/\True/\True/\(↑(Prod.fst v15):Int)+(1:Int)=(↑(Prod.fst v20):Int)/\True)/\(Prod.snd v15=Prod.snd v20/\True/\T=T)/\Prod.snd (Prod.snd (Prod.snd v13))=Prod.snd (Prod.snd (Prod.snd v13))/\((↑(Prod.fst v13):Int)=(↑(Prod.fst v13):Int)/\True)/\True/\True/\True/\True/\True/\True/\True/\True/\True/\True/\True/\True/\True/\True/\True/\True/\True/\True/\True/\True/\True/\True/\True/\True/\True/\True/\True/\True/\True))/\(((↑(Prod.fst v15):Int) != v5)=false->fits .i64 ((↑(Prod.fst v15):Int)+(1:Int))/\∃(v19:Nat × List Q0),q55 (Prod.fst (Prod.snd (Prod.snd v13))) (Prod.fst (Prod.snd v13)) (Prod.fst v13) (Prod.fst v19) (Prod.snd v19)/\List.length (Prod.fst (Prod.snd (Prod.snd v13)))-Prod.fst v19<List.length (Prod.fst (Prod.snd (Prod.snd v13)))-Prod.fst v15/\(True/\True/\True/\(↑(Prod.fst v15):Int)+(1:Int)=(↑(Prod.fst v19):Int)/\True)/\(Prod.snd v15=Prod.snd v19/\True/\T=T)/\Prod.snd (Prod.snd (Prod.snd v13))=Prod.snd (Prod.snd (Prod.snd v13))/\((↑(Prod.fst v13):Int)=(↑(Prod.fst v13):Int)/\True)/\True/\True/\True/\True/\True/\True/\True/\True/\True/\True/\True/\True/\True/\True/\True/\True/\True/\True/\True/\True/\True/\True/\True/\True/\True/\True/\True/\True/\True))/\(decide ((↑(Prod.fst v15):Int)<(↑(qf3 (List.length (Prod.fst (Prod.snd v2))) (some (List.set (ixL (List.length (Prod.fst (Prod.snd v2))) (some (List.set (ixL (List.length (Prod.fst (Prod.snd v2))) none) (Int.toNat v5) (qg2 none (Int.toNat (v5+v9)))))) (Int.toNat (v5+v9)) (qg2 none (Int.toNat v5))))):Int))=false->((0:Nat)<List.length [(↑(Prod.fst v13):Int)]/\Nat.le (List.length (Prod.snd (Prod.snd (Prod.snd v13)))+List.length [(↑(Prod.fst v13):Int)]) (1000000:Nat))/\fits .i64 ((↑(Prod.fst v2):Int)+(1:Int))/\∃(v18:Nat × List Q0 × List Int),w1q rows Q2 (Prod.fst v18) (Prod.fst (Prod.snd v18)) (Prod.snd (Prod.snd v18))/\Int.toNat c-Prod.fst v18<Int.toNat c-Prod.fst v2/\(True/\True/\(↑(Prod.fst v2):Int)+(1:Int)=(↑(Prod.fst v18):Int)/\True)/\(Prod.snd v15=Prod.fst (Prod.snd v18)/\True/\T=T)/\Prod.snd (Prod.snd (Prod.snd v13))++[(↑(Prod.fst v13):Int)]=Prod.snd (Prod.snd v18)/\True))))/\(decide ((↑(Prod.fst v2):Int)<c)=false->Prod.fst (Prod.snd v2)=Prod.fst (qd2 rows Q2)/\T=T/\True/\Prod.snd (Prod.snd v2)=Prod.snd (qd2 rows Q2))) (by kernel_rfl) ?_
 try simp only[z0,z1,z2,z3,z4,z5,z6,z7,z8,z9,z10,Int.reduceEq,z11,z12,z13,z14,z15,z16,z17,z18,z19,z20,z21,z22,z23,z24,z25,z26,z27,z28,z29,z30,Int.reduceLE,Int.reduceLT,z31,z32,z33,z34,qa4]
 try simp only[qb3,qb4,qb9,List.set_cons_zero,List.cons.injEq,and_true,true_and]
 simp only[q74,w1r,w8w,w8x,wh7,w43,wh8,w44,List.length_set,List.length_range,List.take_length]
 obtain⟨hc0,W,hR⟩:=h
 have hRn:=hR.n
 have hRw:=hR.w
 refine⟨(),(0,rows,[]),⟨Nat.zero_le _,rfl⟩,⟨rfl,rfl,rfl⟩,?_⟩
 rintro⟨j,r0,piv⟩ ⟨hjc,hj⟩
 dsimp only at hjc hj ⊢
 have hsh:=q4u hR j
 rw[hj] at hsh
 have hn:=hsh.cnt
 have hpn:=hsh.piv
 have hpj:=hsh.pivj
 dsimp only at hn hpn hpj
 refine⟨λhlt=>?_,λhge=>?_⟩
 ·have hjl:j<c.toNat:=by omega
  have hjW:j<W:=by have:=hR.cw; omega
  rintro k rfl
  have he:=hsh.each
  dsimp only at he
  have hdrop:∀q,q<(r0.drop piv.length).length->j<(nL (r0.drop piv.length) q).length:=λq hq=>by
   rw[List.length_drop] at hq
   have e:nL (r0.drop piv.length) q=nL r0 (piv.length+q):=by
    rw[ql4 _ _ (by rw[List.length_drop]; exact hq),ql4 _ _ (by omega)]; simp
   rw[e,he _ (by omega)]; exact hjW
  simp only[Int.toNat_natCast]
  refine⟨⟨by omega,by omega,Nat.le_refl _⟩,λx=>j<x.1.length,λx=>nI x.1 j != 0,λx hx=>⟨hx,rfl⟩,⟨by rw[List.length_drop]; omega,hdrop⟩,?_⟩
  rintro a ha
  have ha:a=qr8 r0 piv.length j:=ha
  subst ha
  refine⟨λhneg=>?_,λhpos=>?_⟩
  ·refine⟨qa7 (by omega) (by omega),(j+1,r0,piv),⟨by dsimp only; omega,?_⟩,by dsimp only; omega,by dsimp only; omega,rfl,rfl⟩
   rw[qd2,hj,qu8,if_pos hneg]
  have hb:=q04 r0 piv.length j (by omega) hpos
  have hso:xc1 r0 piv.length j:=by have:=hR.step j hjl; rw[hj] at this; exact this hpos
  have hse:=q56 (W:=W) (by omega) hpos (λi hi=>he i (by omega))
  have hpe:=q05 (W:=W) (by omega) hpos (λi hi=>he i (by omega))
  have hab:((piv.length:Int)+qr8 r0 piv.length j).toNat=piv.length+(qr8 r0 piv.length j).toNat:=by omega
  simp only[hab]
  have hgd:=w8y r0.length piv.length (piv.length+(qr8 r0 piv.length j).toNat) (by omega) hb
  have hmap:=xi3 r0 piv.length (piv.length+(qr8 r0 piv.length j).toNat) (by omega) hb
  have hnd:=w45 r0.length piv.length (piv.length+(qr8 r0 piv.length j).toNat) (by omega) hb
  have hk1:nL (q03 r0 piv.length j) piv.length=nL r0 (piv.length+(qr8 r0 piv.length j).toNat):=by
   unfold q03
   rw[q2w _ _ _ (by omega) hb _ (by omega)]
   split
   ·rename_i e; rw[<- e]
   ·rw[if_pos rfl]
  simp only[hgd,hmap]
  rw[<- hk1]
  have hsl:=q4t r0 piv.length j
  have hkW:=hse piv.length (by omega)
  refine⟨qa7 (by omega) (by omega),qa7 (by omega) (by omega),by omega,by omega,by omega,by omega,by omega,by omega,by omega,by omega,by omega,by omega,by omega,by omega,λhng=>?_,λhng=>?_⟩
  ·refine⟨by omega,by omega,(j,piv.length,q03 r0 piv.length j,piv),(0,q03 r0 piv.length j),⟨Nat.zero_le _,?_⟩,⟨hnd,trivial⟩,⟨rfl,rfl,rfl,rfl⟩,?_⟩
   ·dsimp only
    have e:ovr (.int .i64) (λq=>0-nI (nL (q03 r0 piv.length j) piv.length) q) (nL (q03 r0 piv.length j) piv.length) 0=nL (q03 r0 piv.length j) piv.length:=qy1 (.int .i64) _ _
    rw[e,ql4 _ _ (by omega),List.set_getElem_self]
   rintro⟨i,r⟩ ⟨hi1,hi2⟩
   dsimp only at hi1 hi2 ⊢
   have hrl:r.length=r0.length:=by rw[hi2,List.length_set,hsl]
   have hrk:nL r piv.length=ovr (.int .i64) (λq=>0-nI (nL (q03 r0 piv.length j) piv.length) q) (nL (q03 r0 piv.length j) piv.length) i:=by
    rw[hi2,q9u _ _ _ _ (by omega),if_pos rfl]
   have hrkl:(nL r piv.length).length=W:=by rw[hrk,qq7]; exact hkW
   refine⟨λhlt=>?_,λhge=>?_⟩
   ·have hv:nI (nL r piv.length) i=nI (nL (q03 r0 piv.length j) piv.length) i:=by
     rw[hrk]
     exact(q4b (.int .i64) _ _ _ _ hlt).trans (if_neg (Nat.lt_irrefl _))
    have hbd:qe8 BIG (nI (nL (q03 r0 piv.length j) piv.length) i):=hso.neg _ (by rw[qg5 _ i hlt]; exact List.getElem_mem hlt)
    unfold qe8 BIG at hbd
    rw[hv]
    refine⟨by omega,by omega,by omega,by omega,by omega,by omega,qa7 (by omega) (by omega),by omega,by omega,qa7 (by omega) (by omega),(i+1,r.set piv.length ((nL r piv.length).set i (0-nI (nL (q03 r0 piv.length j) piv.length) i))),⟨by dsimp only; omega,?_⟩,by dsimp only; omega,by dsimp only; omega,rfl⟩
    dsimp only
    have e:=qu1 (.int .i64) (λq=>0-nI (nL (q03 r0 piv.length j) piv.length) q) (nL (q03 r0 piv.length j) piv.length) i
    rw[hrk]
    refine(congrArg (r.set piv.length) e).trans ?_
    rw[hi2,List.set_set]
   ·have hprep:r=qi7 r0 piv.length j:=by
     unfold qi7
     rw[if_pos hng,hi2]
     refine congrArg _ ?_
     exact q1w (.int .i64) _ _ _ (by omega)
    refine⟨(j,piv.length,qi7 r0 piv.length j,piv),(0,qi7 r0 piv.length j),⟨Nat.zero_le _,(qy1 (.list (.int .i64)) _ _).symm⟩,⟨rfl,hprep,rfl,rfl⟩,?_⟩
    rw[hprep,qi5]
    rintro⟨i,r⟩ ⟨hi1,hi2⟩
    dsimp only at hi1 hi2 ⊢
    have hpl:=qi5 r0 piv.length j
    have hrl:r.length=r0.length:=by rw[hi2,qq7,qi5]
    have hi1:i<=r0.length:=by rw[qi5] at hi1; exact hi1
    have hat:∀q,q<r0.length->nL r q=if q<i then wb1 (qi7 r0 piv.length j) piv.length j q else nL (qi7 r0 piv.length j) q:=λq hq=>by
     rw[hi2]; exact q4b (.list (.int .i64)) _ _ _ _ (by rw[qi5]; exact hq)
    have hk2:nL r piv.length=nL (qi7 r0 piv.length j) piv.length:=by
     rw[hat _ (by omega)]
     split
     ·exact q2y _ _ _
     ·rfl
    refine⟨λhlt=>?_,λhge=>?_⟩
    ·have hlt:i<r0.length:=by omega
     have hri:nL r i=nL (qi7 r0 piv.length j) i:=by rw[hat i hlt,if_neg (Nat.lt_irrefl _)]
     have hw:=hpe i hlt
     refine⟨by omega,by omega,λhne=>⟨by rw[hri]; omega,by rw[hri]; omega,λhnz=>?_,λhz=>?_⟩,λheq=>?_⟩
     ·rw[hri] at hnz
      have hne:i≠piv.length:=by omega
      have hcl:=hso.clr i hlt hne hnz
      have hcr:wb1 (qi7 r0 piv.length j) piv.length j i=qv7 (nL r i) (nL r piv.length) j:=by
       unfold wb1; rw[if_pos ⟨hne,hnz⟩,hri,hk2]
      refine⟨by omega,by omega,by omega,?_,qa7 (by omega) (by omega),(i+1,r.set i (qv7 (nL r i) (nL r piv.length) j)),⟨by dsimp only; omega,?_⟩,by dsimp only; omega,by dsimp only; omega,rfl⟩
      ·show wh1 (nL r i) (nL r piv.length) j
       rw[hri,hk2]; exact hcl
      ·dsimp only
       rw[<- hcr,hi2]
       exact qu1 (.list (.int .i64)) _ _ _
     ·refine⟨qa7 (by omega) (by omega),(i+1,r),⟨by dsimp only; omega,?_⟩,by dsimp only; omega,by dsimp only; omega,rfl⟩
      dsimp only
      rw[hi2]
      refine q4v (.list (.int .i64)) _ _ _ λ_=>?_
      unfold wb1
      rw[if_neg]
      ·rfl
      ·intro h2
       rw[hri] at hz
       exact h2.2 hz
     ·refine⟨qa7 (by omega) (by omega),(i+1,r),⟨by dsimp only; omega,?_⟩,by dsimp only; omega,by dsimp only; omega,rfl⟩
      dsimp only
      rw[hi2]
      refine q4v (.list (.int .i64)) _ _ _ λ_=>?_
      have e:i=piv.length:=by omega
      rw[e]
      exact q2y _ _ _
    ·obtain rfl:i=r0.length:=by omega
     refine⟨by omega,qa7 (by omega) (by omega),(j+1,r,piv++[(j:Int)]),⟨by omega,?_⟩,by dsimp only; omega,by dsimp only; omega,rfl,rfl⟩
     rw[qd2,hj,qu8,if_neg (by dsimp only; omega),hi2]
     refine congrArg (·,_) ?_
     rw[<- qi5 r0 piv.length j]
     exact(q1w (.list (.int .i64)) _ _ _ (Nat.le_refl _)).symm
  ·have hprep:q03 r0 piv.length j=qi7 r0 piv.length j:=by unfold qi7; rw[if_neg (by omega)]
   refine⟨(j,piv.length,qi7 r0 piv.length j,piv),(0,qi7 r0 piv.length j),⟨Nat.zero_le _,(qy1 (.list (.int .i64)) _ _).symm⟩,⟨hnd,trivial⟩,⟨rfl,hprep,rfl,rfl⟩,?_⟩
   rintro⟨i,r⟩ ⟨hi1,hi2⟩
   dsimp only at hi1 hi2 ⊢
   have hpl:=qi5 r0 piv.length j
   have hrl:r.length=r0.length:=by rw[hi2,qq7,qi5]
   have hi1:i<=r0.length:=by rw[qi5] at hi1; exact hi1
   have hat:∀q,q<r0.length->nL r q=if q<i then wb1 (qi7 r0 piv.length j) piv.length j q else nL (qi7 r0 piv.length j) q:=λq hq=>by
    rw[hi2]; exact q4b (.list (.int .i64)) _ _ _ _ (by rw[qi5]; exact hq)
   have hk2:nL r piv.length=nL (qi7 r0 piv.length j) piv.length:=by
    rw[hat _ (by omega)]
    split
    ·exact q2y _ _ _
    ·rfl
   refine⟨λhlt=>?_,λhge=>?_⟩
   ·have hlt:i<r0.length:=by omega
    have hri:nL r i=nL (qi7 r0 piv.length j) i:=by rw[hat i hlt,if_neg (Nat.lt_irrefl _)]
    have hw:=hpe i hlt
    refine⟨by omega,by omega,λhne=>⟨by rw[hri]; omega,by rw[hri]; omega,λhnz=>?_,λhz=>?_⟩,λheq=>?_⟩
    ·rw[hri] at hnz
     have hne:i≠piv.length:=by omega
     have hcl:=hso.clr i hlt hne hnz
     have hcr:wb1 (qi7 r0 piv.length j) piv.length j i=qv7 (nL r i) (nL r piv.length) j:=by
      unfold wb1; rw[if_pos ⟨hne,hnz⟩,hri,hk2]
     refine⟨by omega,by omega,by omega,?_,qa7 (by omega) (by omega),(i+1,r.set i (qv7 (nL r i) (nL r piv.length) j)),⟨by dsimp only; omega,?_⟩,by dsimp only; omega,by dsimp only; omega,rfl⟩
     ·show wh1 (nL r i) (nL r piv.length) j
      rw[hri,hk2]; exact hcl
     ·dsimp only
      rw[<- hcr,hi2]
      exact qu1 (.list (.int .i64)) _ _ _
    ·refine⟨qa7 (by omega) (by omega),(i+1,r),⟨by dsimp only; omega,?_⟩,by dsimp only; omega,by dsimp only; omega,rfl⟩
     dsimp only
     rw[hi2]
     refine q4v (.list (.int .i64)) _ _ _ λ_=>?_
     unfold wb1
     rw[if_neg]
     ·rfl
     ·intro h2
      rw[hri] at hz
      exact h2.2 hz
    ·refine⟨qa7 (by omega) (by omega),(i+1,r),⟨by dsimp only; omega,?_⟩,by dsimp only; omega,by dsimp only; omega,rfl⟩
     dsimp only
     rw[hi2]
     refine q4v (.list (.int .i64)) _ _ _ λ_=>?_
     have e:i=piv.length:=by omega
     rw[e]
     exact q2y _ _ _
   ·obtain rfl:i=r0.length:=by omega
    refine⟨by omega,qa7 (by omega) (by omega),(j+1,r,piv++[(j:Int)]),⟨by omega,?_⟩,by dsimp only; omega,by dsimp only; omega,rfl,rfl⟩
    rw[qd2,hj,qu8,if_neg (by dsimp only; omega),hi2]
    refine congrArg (·,_) ?_
    rw[<- qi5 r0 piv.length j]
    exact(q1w (.list (.int .i64)) _ _ _ (Nat.le_refl _)).symm
 ·obtain rfl:j=c.toNat:=by omega
  rw[hj]
  exact⟨rfl,rfl⟩
end Go.Proofs.YtempacilejhbgaaGreat
