/- Rows reduced: contract by the engine. No condition. -/
import Derived.Test.YtmijnbjlhnpokaaGreatV7
set_option linter.unusedVariables false
set_option linter.unusedSimpArgs false
namespace Go.Proofs.YtmijnbjlhnpokaaGreat
open Go Go.RowKit Eng
abbrev x0m:qc9:=hspec [] true none [.d qf1,.cap qg0] [.bool] (λx=>0<=x.2.1/\x.2.1<x.1.length) (λx=>(nI x.1 x.2.1.toNat != 0,()))
theorem w3i:Meets Tryz.prog 130 x0m:=by
 refine qt0 (SpecsOk.nil _) (snd (SpecsOk.nil _)) Tryz.func130 rfl rfl (λ_ _=>none) (λ_=>by kernel_rfl) (by decide) ?_
 rintro⟨l,j,⟨⟩⟩ h
 revert l j
 intro(l:List Int) (j:Int) (h:0<=j/\j<l.length)
 refine @qe1 _ (((0:Int)<=j/\j<(↑l.length:Int))/\(nI l j.toNat != (0:Int))=(nI l j.toNat != (0:Int))) (by kernel_rfl) ?_
 try simp only[z0,z1,z2,z3,z4,z5,z6,z7,z8,z9,z10,Int.reduceEq,z11,z12,z13,z14,z15,z16,z17,z18,z19,z20,z21,z22,z23,z24,z25,z26,z27,z28,z29,z30,Int.reduceLE,Int.reduceLT,z31,z32,z33,z34,qa1]
 try simp only[qb5,qb6,qd2,z31,z32,z2,z1]
 exact h
def qt6 (rows:List (List Int)) (k j:Nat):Int:=ixT (.list (.int .i64)) (λr=>nI r j != 0) (rows.drop k)
def wm2 (rows:List (List Int)) (a b:Nat):List (List Int):=(rows.set a (nL rows b)).set b (nL rows a)
def xl2 (r:List Int):List Int:=(List.range r.length).map λi=>0-nI r i
def q1x (rows:List (List Int)) (k j:Nat):List (List Int):=wm2 rows k (k+(qt6 rows k j).toNat)
def qk1 (rows:List (List Int)) (k j:Nat):List (List Int):=if nI (nL (q1x rows k j) k) j<0 then(q1x rows k j).set k (xl2 (nL (q1x rows k j) k)) else q1x rows k j
def wh3 (rows:List (List Int)) (k j i:Nat):List Int:=if i≠k/\nI (nL rows i) j≠0 then qx4 (nL rows i) (nL rows k) j else nL rows i
def w9l (rows:List (List Int)) (k j:Nat):List (List Int):=(List.range rows.length).map (wh3 rows k j)
def qw5 (s:List (List Int) × List Int) (j:Nat):List (List Int) × List Int:=if qt6 s.1 s.2.length j<0 then s else(w9l (qk1 s.1 s.2.length j) s.2.length j,s.2++[(j:Int)])
def qa6 (rows:List (List Int)):Nat->List (List Int) × List Int
 | 0=>(rows,[])
 | j+1=>qw5 (qa6 rows j) j
structure xl3 (rows:List (List Int)) (k j:Nat):Prop where
 neg:∀x∈nL (q1x rows k j) k,qc8 BIG x
 clr:∀i,i<rows.length->i≠k->nI (nL (qk1 rows k j) i) j≠0->wl7 (nL (qk1 rows k j) i) (nL (qk1 rows k j) k) j
structure q08 (rows:List (List Int)) (cols W:Nat):Prop where
 n:rows.length<=1000
 w:W<=1000
 cw:cols<=W
 each:∀i,i<rows.length->(nL rows i).length=W
 step:∀j,j<cols->0<=qt6 (qa6 rows j).1 (qa6 rows j).2.length j->xl3 (qa6 rows j).1 (qa6 rows j).2.length j
abbrev x9s:qs6:=w6f (wc6 [qg0]) true false 34 3 (.int .i64) (λrows x=>0<=x.1/\∃W,q08 rows x.1.toNat W) (λrows x=>.dat (.int .i64) (qa6 rows x.1.toNat).2) (λrows x=>(qa6 rows x.1.toNat).1)
def xl4:List AObj:=[.dead,.dead,.dead,.dead,.dead,.dead,.dead,.dead,.dead,.dead,.dead,.dead,.dead,.dead,.dead,.dead,.dead,.dead,.dead,.dead,.dead,.dead,.dead,.dead,.dead,.dead,.dead,.dead]
structure xe3 (rows:List (List Int)) (k i:Nat) (r:List (List Int)):Prop where
 le:i<=(nL rows k).length
 eq:r=rows.set k (ovr (.int .i64) (λq=>0-nI (nL rows k) q) (nL rows k) i)
structure q7h (rows:List (List Int)) (k j i:Nat) (r:List (List Int)):Prop where
 le:i<=rows.length
 eq:r=ovr (.list (.int .i64)) (wh3 rows k j) rows i
structure w3j (R:List (List Int)) (c j:Nat) (r:List (List Int)) (p:List Int):Prop where
 le:j<=c
 eq:qa6 R j=(r,p)
def x4w (T:q8a) (R:List (List Int)) (c:Nat):Nat->Option Inv
 | 0=>some (Inv.of [0,5,13] 2 (λs:Nat × List (List Int) × List Int=>[(0,.msl 0 .none),(5,.own 1),(13,.lit (.int .i64 s.1))]) (λs=>[.mat 34 3 (.int .i64) s.2.1 .none (some T),.vec 3 (.int .i64) s.2.2]) (λs=>w3j R c s.1 s.2.1 s.2.2) (λs=>c-s.1))
 | 1=>some (Eng.Inv.mk (Nat × Nat × List (List Int) × List Int) (Nat × List (List Int)) [0,5,56] 31 (λ_ s=>[(0,.msl 0 .none),(5,.own 1),(56,.lit (.int .i64 s.1))]) (λq s=>.mat 34 3 (.int .i64) s.2 .none (some T) :: .vec 3 (.int .i64) q.2.2.2 :: .box 3 (.cons (.lit (.int .i64 q.1)) .nil) :: xl4) (λq s=>xe3 q.2.2.1 q.2.1 s.1 s.2) (λq s=>(nL q.2.2.1 q.2.1).length-s.1))
 | 2=>some (Eng.Inv.mk (Nat × Nat × List (List Int) × List Int) (Nat × List (List Int)) [0,5,74,76] 31 (λ_ s=>[(0,.msl 0 .none),(5,.own 1),(74,.msl 0 .none),(76,.lit (.int .i64 s.1))]) (λq s=>.mat 34 3 (.int .i64) s.2 .none (some T) :: .vec 3 (.int .i64) q.2.2.2 :: .box 3 (.cons (.lit (.int .i64 q.1)) .nil) :: xl4) (λq s=>q7h q.2.2.1 q.2.1 q.1 s.1 s.2) (λq s=>q.2.2.1.length-s.1))
 | _=>none
theorem q1y (n:Nat):qe7 n none=n:=rfl
theorem w3k (n:Nat) (l:List Nat):qe7 n (some l)=l.length:=rfl
theorem xe4 (n:Nat):ixL n none=List.range n:=rfl
theorem xe5 (n:Nat) (l:List Nat):ixL n (some l)=l:=rfl
theorem q31 (i:Nat):qd4 none i=i:=rfl
theorem w69 (l:List Nat) (i:Nat):qd4 (some l) i=l.getD i 0:=rfl
theorem wm3 (r:List (List Int)):q4l (.int .i64) r none=r:=rfl
theorem w7a (r:List (List Int)) (l:List Nat):q4l (.int .i64) r (some l)=l.map λp=>nL r p:=rfl
theorem xe6 (n k b:Nat) (hk:k<n) (hb:b<n):(((List.range n).set k b).set b k).getD k 0=b:=by
 rw[List.getD_eq_getElem?_getD]
 by_cases e:b=k
 ·subst e
  rw[List.getElem?_set_self (by simpa using hb)]; rfl
 ·rw[List.getElem?_set_ne e,List.getElem?_set_self (by simpa using hk)]; rfl
theorem w7b (n k b:Nat) (hk:k<n) (hb:b<n):(((List.range n).set k b).set b k).Nodup:=by
 rw[List.nodup_iff_pairwise_ne,List.pairwise_iff_getElem]
 intro i j hi hj hij
 simp only[List.length_set,List.length_range] at hi hj
 simp only[List.getElem_set,List.getElem_range]
 split <;> split <;> (try split) <;> (try split) <;> omega
theorem xr5 (r:List (List Int)) (k b:Nat) (hk:k<r.length) (hb:b<r.length):((((List.range r.length).set k b).set b k).map λp=>nL r p)=wm2 r k b:=by
 apply List.ext_getElem (by simp[wm2])
 intro i h1 h2
 have hi:i<r.length:=by simpa using h1
 simp only[List.getElem_map,List.getElem_set,List.getElem_range,wm2]
 split
 ·rfl
 ·split
  ·rfl
  ·exact qn4 r i hi
theorem wm4 (r:List (List Int)) (k b:Nat):(wm2 r k b).length=r.length:=by simp[wm2]
theorem q33 (r:List (List Int)) (k b:Nat) (hk:k<r.length) (hb:b<r.length) (i:Nat) (hi:i<r.length):nL (wm2 r k b) i=if i=b then nL r k else if i=k then nL r b else nL r i:=by
 rw[qn4 _ i (by rw[wm4]; exact hi)]
 simp only[wm2,List.getElem_set]
 by_cases e:b=i
 ·rw[if_pos e,if_pos e.symm]
 ·rw[if_neg e,if_neg (Ne.symm e)]
  by_cases e2:k=i
  ·rw[if_pos e2,if_pos e2.symm]
  ·rw[if_neg e2,if_neg (Ne.symm e2),qn4 r i hi]
theorem q9c (l:List Int):(qf2 l).length=l.length:=by unfold qf2; split <;> simp
theorem q9d (r b:List Int) (c:Nat):(qx4 r b c).length=r.length:=by unfold qx4; rw[q9c,q1v]
theorem we3 (r:List Int):(xl2 r).length=r.length:=by simp[xl2]
theorem q56 (r:List (List Int)) (k j:Nat):(q1x r k j).length=r.length:=wm4 _ _ _
theorem qj8 (r:List (List Int)) (k j:Nat):(qk1 r k j).length=r.length:=by
 unfold qk1; split
 ·rw[List.length_set,q56]
 ·rw[q56]
theorem we4 (r:List (List Int)) (k:Nat) (x:List Int) (i:Nat) (hi:i<r.length):nL (r.set k x) i=if i=k then x else nL r i:=by
 rw[qn4 _ i (by rw[List.length_set]; exact hi),List.getElem_set]
 by_cases e:k=i
 ·rw[if_pos e,if_pos e.symm]
 ·rw[if_neg e,if_neg (Ne.symm e),qn4 r i hi]
theorem q14 (r:List (List Int)) (k j:Nat) (hk:k<=r.length) (h:0<=qt6 r k j):k+(qt6 r k j).toNat<r.length:=by
 have:=(xk8 (.list (.int .i64)) (λr=>nI r j != 0) (r.drop k)).1
 unfold qt6 at h ⊢
 rw[List.length_drop] at this
 omega
theorem q34 (r:List (List Int)) (k j i:Nat) (hi:i<r.length):nL (qk1 r k j) i=if i=k/\nI (nL (q1x r k j) k) j<0 then xl2 (nL (q1x r k j) k) else nL (q1x r k j) i:=by
 unfold qk1
 split
 ·rename_i h
  rw[we4 _ _ _ _ (by rw[q56]; exact hi)]
  by_cases e:i=k
  ·rw[if_pos e,if_pos ⟨e,h⟩]
  ·rw[if_neg e,if_neg λq=>e q.1]
 ·rename_i h
  rw[if_neg λq=>h q.2]
theorem we5 (r:List (List Int)) (k j:Nat):(w9l r k j).length=r.length:=by simp[w9l]
theorem w7c (r:List (List Int)) (k j i:Nat) (hi:i<r.length):nL (w9l r k j) i=wh3 r k j i:=by
 rw[qn4 _ i (by rw[we5]; exact hi)]; simp[w9l]
structure RedSh (n W:Nat) (s:List (List Int) × List Int) (j:Nat):Prop where
 cnt:s.1.length=n
 each:∀i,i<n->(nL s.1 i).length=W
 piv:s.2.length<=n
 pivj:s.2.length<=j
theorem q7i {r:List (List Int)} {k j W:Nat} (hk:k<=r.length) (h:0<=qt6 r k j) (he:∀i,i<r.length->(nL r i).length=W):∀i,i<r.length->(nL (q1x r k j) i).length=W:=λi hi=>by
 have hb:=q14 r k j hk h
 unfold q1x
 rw[q33 _ _ _ (by omega) hb i hi]
 split
 ·exact he _ (by omega)
 ·split
  ·exact he _ hb
  ·exact he _ hi
theorem q15 {r:List (List Int)} {k j W:Nat} (hk:k<=r.length) (h:0<=qt6 r k j) (he:∀i,i<r.length->(nL r i).length=W):∀i,i<r.length->(nL (qk1 r k j) i).length=W:=λi hi=>by
 have hb:=q14 r k j hk h
 have h1:=q7i hk h he
 rw[q34 _ _ _ _ hi]
 split
 ·rw[we3]; exact h1 _ (by omega)
 ·exact h1 _ hi
theorem RedSh.step {n W j:Nat} {s:List (List Int) × List Int} (h:RedSh n W s j):RedSh n W (qw5 s j) (j+1):=by
 unfold qw5
 split
 ·exact⟨h.cnt,h.each,h.piv,by have:=h.pivj; omega⟩
 ·rename_i hp
  have hp:0<=qt6 s.1 s.2.length j:=by omega
  have hn:=h.cnt
  have hb:=q14 s.1 s.2.length j (by rw[hn]; exact h.piv) hp
  have he:=q15 (W:=W) (by rw[hn]; exact h.piv) hp (λi hi=>h.each i (by omega))
  refine⟨by rw[we5,qj8]; exact hn,λi hi=>?_,?_,?_⟩
  ·rw[w7c _ _ _ _ (by rw[qj8]; omega)]
   unfold wh3
   split
   ·rw[q9d]; exact he i (by omega)
   ·exact he i (by omega)
  ·rw[List.length_append]; simp; omega
  ·rw[List.length_append]; have:=h.pivj; simp; omega
theorem qv8 {R:List (List Int)} {c W:Nat} (h:q08 R c W):∀j,RedSh R.length W (qa6 R j) j
 | 0=>⟨rfl,h.each,Nat.zero_le _,Nat.le_refl _⟩
 | j+1=>(qv8 h j).step
theorem q36 (r:List (List Int)) (k j:Nat):wh3 r k j k=nL r k:=by unfold wh3; rw[if_neg]; exact λh=>h.1 rfl
theorem q57 (t:Ty) (g:Nat->t.den) (l:List t.den) (k:Nat) (h:k<l.length->g k=qd1 t l k):ovr t g l k=ovr t g l (k+1):=by
 unfold ovr
 apply List.map_congr_left
 intro i hi
 have hi:=List.mem_range.1 hi
 by_cases e:i=k
 ·subst e; rw[if_neg (Nat.lt_irrefl _),if_pos (by omega),h hi]
 ·by_cases h2:i<k
  ·rw[if_pos h2,if_pos (by omega)]
  ·rw[if_neg h2,if_neg (by omega)]
theorem q09:qx1 Tryz.prog 70 x9s:=by
 refine w0s (x4m [17,22] (SpecsOk.cons (wl8 (fs:=[(130,x0m)]) (SpecsOk.cons w3i (SpecsOk.nil _))) (SpecsOk.nil _)) (MutsOk.cons wt1 MutsOk.nil)) Tryz.func70 rfl rfl (q1u [qg0]) (λT rows x=>x4w T rows x.1.toNat) (λ_ _ _=>by kernel_rfl) (by decide) ?_ rfl
 rintro T rows ⟨c,⟨⟩⟩ h -
 revert rows c
 intro(rows:List (List Int)) (c:Int) (h:0<=c/\∃W,q08 rows c.toNat W)
 refine @qe1 _ (let Q0:=List Int; let Q1:=qs6.t xk7; ∃(v0:Unit),∃(v1:Nat × List Q0 × List Int),w3j rows c.toNat v1.1 v1.2.1 v1.2.2/\((True/\True/\(0:Int)=(↑v1.1:Int)/\True)/\(rows=v1.2.1/\True/\T=T)/\v1.2.2=[]/\True)/\∀(v2:Nat × List Q0 × List Int),w3j rows c.toNat v2.1 v2.2.1 v2.2.2->(decide ((↑v2.1:Int)<c)=true->∀(v5:Int),v5=(↑v2.2.2.length:Int)->((0:Int)<=v5/\v5<=(↑(qe7 v2.2.1.length none):Int)/\(↑(qe7 v2.2.1.length none):Int)<=(↑(qe7 v2.2.1.length none):Int))/\∃(v7:qa5 [Ty.list (Ty.int .i64)]->Prop),∃(v8:qa5 [Ty.list (Ty.int .i64)]->Bool),(∀(v9:List Int × qa5._f [] PUnit.unit),v7 v9->((0:PTy.den (PTy.cap qg0))<=(↑v2.1:Int)/\(↑v2.1:Int)<(↑v9.1.length:PTy.den (PTy.cap qg0)))/\(nI v9.1 (↑v2.1:Int).toNat != (0:Int))=v8 v9)/\((List.drop v5.toNat (List.take (↑(qe7 v2.2.1.length none):Int).toNat (q4l (Ty.int .i64) v2.2.1 none))).length<=(1000000:Nat)/\∀(v9:Nat),v9<(List.drop v5.toNat (List.take (↑(qe7 v2.2.1.length none):Int).toNat (q4l (Ty.int .i64) v2.2.1 none))).length->v7 (nL (List.drop v5.toNat (List.take (↑(qe7 v2.2.1.length none):Int).toNat (q4l (Ty.int .i64) v2.2.1 none))) v9,()))/\∀(v9:Int),v9=ixT (Ty.list (Ty.int .i64)) (λ(v11:List Int)=>v8 (v11,())) (List.drop v5.toNat (List.take (↑(qe7 v2.2.1.length none):Int).toNat (q4l (Ty.int .i64) v2.2.1 none)))->(decide (v9<(0:Int))=true->fits .i64 ((↑v2.1:Int)+(1:Int))/\∃(v12:Nat × List Q0 × List Int),w3j rows c.toNat v12.1 v12.2.1 v12.2.2/\c.toNat-v12.1<c.toNat-v2.1/\(True/\True/\(↑v2.1:Int)+(1:Int)=(↑v12.1:Int)/\True)/\(v2.2.1=v12.2.1/\True/\T=T)/\v2.2.2=v12.2.2/\True)/\(decide (v9<(0:Int))=false->fits .i64 (v5+v9)/\fits .i64 (v5+v9)/\((0:Int)<=v5+v9/\v5+v9<(↑(qe7 v2.2.1.length none):Int))/\(v5+v9).toNat<qe7 v2.2.1.length none/\((0:Int)<=v5/\v5<(↑(qe7 v2.2.1.length none):Int))/\v5.toNat<qe7 v2.2.1.length none/\((0:Int)<=v5/\v5<(↑(qe7 v2.2.1.length none):Int))/\v5.toNat<qe7 v2.2.1.length none/\((0:Int)<=v5+v9/\v5+v9<(↑(qe7 v2.2.1.length (some (List.set (ixL v2.2.1.length none) v5.toNat (qd4 none (v5+v9).toNat)))):Int))/\(v5+v9).toNat<qe7 v2.2.1.length (some (List.set (ixL v2.2.1.length none) v5.toNat (qd4 none (v5+v9).toNat)))/\((0:Int)<=v5/\v5<(↑(qe7 v2.2.1.length (some (List.set (ixL v2.2.1.length (some (List.set (ixL v2.2.1.length none) v5.toNat (qd4 none (v5+v9).toNat)))) (v5+v9).toNat (qd4 none v5.toNat)))):Int))/\v5.toNat<qe7 v2.2.1.length (some (List.set (ixL v2.2.1.length (some (List.set (ixL v2.2.1.length none) v5.toNat (qd4 none (v5+v9).toNat)))) (v5+v9).toNat (qd4 none v5.toNat)))/\((0:Int)<=(↑v2.1:Int)/\(↑v2.1:Int)<(↑(nL v2.2.1 (qd4 (some (List.set (ixL v2.2.1.length (some (List.set (ixL v2.2.1.length none) v5.toNat (qd4 none (v5+v9).toNat)))) (v5+v9).toNat (qd4 none v5.toNat))) v5.toNat)).length:Int))/\(↑v2.1:Int).toNat<(nL v2.2.1 (qd4 (some (List.set (ixL v2.2.1.length (some (List.set (ixL v2.2.1.length none) v5.toNat (qd4 none (v5+v9).toNat)))) (v5+v9).toNat (qd4 none v5.toNat))) v5.toNat)).length/\(decide (nI (nL v2.2.1 (qd4 (some (List.set (ixL v2.2.1.length (some (List.set (ixL v2.2.1.length none) v5.toNat (qd4 none (v5+v9).toNat)))) (v5+v9).toNat (qd4 none v5.toNat))) v5.toNat)) (↑v2.1:Int).toNat<(0:Int))=true->((0:Int)<=v5/\v5<(↑(qe7 v2.2.1.length (some (List.set (ixL v2.2.1.length (some (List.set (ixL v2.2.1.length none) v5.toNat (qd4 none (v5+v9).toNat)))) (v5+v9).toNat (qd4 none v5.toNat)))):Int))/\v5.toNat<qe7 v2.2.1.length (some (List.set (ixL v2.2.1.length (some (List.set (ixL v2.2.1.length none) v5.toNat (qd4 none (v5+v9).toNat)))) (v5+v9).toNat (qd4 none v5.toNat)))/\∃(v13:Nat × Nat × List Q0 × List Int),∃(v14:Nat × List Q0),xe3 v13.2.2.1 v13.2.1 v14.1 v14.2/\(List.Nodup (List.set (ixL v2.2.1.length (some (List.set (ixL v2.2.1.length none) v5.toNat (qd4 none (v5+v9).toNat)))) (v5+v9).toNat (qd4 none v5.toNat))/\(List.set (ixL v2.2.1.length (some (List.set (ixL v2.2.1.length none) v5.toNat (qd4 none (v5+v9).toNat)))) (v5+v9).toNat (qd4 none v5.toNat)).length=v2.2.1.length)/\((True/\True/\(0:Int)=(↑v14.1:Int)/\True)/\(q4l (Ty.int .i64) v2.2.1 (some (List.set (ixL v2.2.1.length (some (List.set (ixL v2.2.1.length none) v5.toNat (qd4 none (v5+v9).toNat)))) (v5+v9).toNat (qd4 none v5.toNat)))=v14.2/\True/\T=T)/\v2.2.2=v13.2.2.2/\((↑v2.1:Int)=(↑v13.1:Int)/\True)/\True/\True/\True/\True/\True/\True/\True/\True/\True/\True/\True/\True/\True/\True/\True/\True/\True/\True/\True/\True/\True/\True/\True/\True/\True/\True/\True/\True/\True)/\∀(v15:Nat × List Q0),xe3 v13.2.2.1 v13.2.1 v15.1 v15.2->(decide ((↑v15.1:Int)<(↑(nL v2.2.1 (qd4 (some (List.set (ixL v2.2.1.length (some (List.set (ixL v2.2.1.length none) v5.toNat (qd4 none (v5+v9).toNat)))) (v5+v9).toNat (qd4 none v5.toNat))) v5.toNat)).length:Int))=true->((0:Int)<=v5/\v5<(↑(qe7 v15.2.length none):Int))/\v5.toNat<qe7 v15.2.length none/\((0:Int)<=v5/\v5<(↑(qe7 v15.2.length none):Int))/\v5.toNat<qe7 v15.2.length none/\((0:Int)<=(↑v15.1:Int)/\(↑v15.1:Int)<(↑(nL v15.2 (qd4 none v5.toNat)).length:Int))/\(↑v15.1:Int).toNat<(nL v15.2 (qd4 none v5.toNat)).length/\fits .i64 ((0:Int)-nI (nL v15.2 (qd4 none v5.toNat)) (↑v15.1:Int).toNat)/\((0:Int)<=(↑v15.1:Int)/\(↑v15.1:Int)<(↑(nL v15.2 (qd4 none v5.toNat)).length:Int))/\(↑v15.1:Int).toNat<(nL v15.2 (qd4 none v5.toNat)).length/\fits .i64 ((↑v15.1:Int)+(1:Int))/\∃(v18:Nat × List Q0),xe3 v13.2.2.1 v13.2.1 v18.1 v18.2/\(nL v13.2.2.1 v13.2.1).length-v18.1<(nL v13.2.2.1 v13.2.1).length-v15.1/\(True/\True/\(↑v15.1:Int)+(1:Int)=(↑v18.1:Int)/\True)/\(List.set v15.2 (qd4 none v5.toNat) (List.set (nL v15.2 (qd4 none v5.toNat)) (↑v15.1:Int).toNat ((0:Int)-nI (nL v15.2 (qd4 none v5.toNat)) (↑v15.1:Int).toNat))=v18.2/\True/\T=T)/\v13.2.2.2=v13.2.2.2/\((↑v13.1:Int)=(↑v13.1:Int)/\True)/\True/\True/\True/\True/\True/\True/\True/\True/\True/\True/\True/\True/\True/\True/\True/\True/\True/\True/\True/\True/\True/\True/\True/\True/\True/\True/\True/\True/\True)/\(decide ((↑v15.1:Int)<(↑(nL v2.2.1 (qd4 (some (List.set (ixL v2.2.1.length (some (List.set (ixL v2.2.1.length none) v5.toNat (qd4 none (v5+v9).toNat)))) (v5+v9).toNat (qd4 none v5.toNat))) v5.toNat)).length:Int))=false->∃(v18:Nat × Nat × List Q0 × List Int),∃(v19:Nat × List Q0),q7h v18.2.2.1 v18.2.1 v18.1 v19.1 v19.2/\((True/\True/\True/\(0:Int)=(↑v19.1:Int)/\True)/\(v15.2=v19.2/\True/\T=T)/\v13.2.2.2=v18.2.2.2/\((↑v13.1:Int)=(↑v18.1:Int)/\True)/\True/\True/\True/\True/\True/\True/\True/\True/\True/\True/\True/\True/\True/\True/\True/\True/\True/\True/\True/\True/\True/\True/\True/\True/\True/\True/\True/\True/\True)/\∀(v20:Nat × List Q0),q7h v18.2.2.1 v18.2.1 v18.1 v20.1 v20.2->(decide ((↑v20.1:Int)<(↑(qe7 v15.2.length none):Int))=true->((0:Int)<=(↑v20.1:Int)/\(↑v20.1:Int)<(↑(qe7 v20.2.length none):Int))/\(↑v20.1:Int).toNat<qe7 v20.2.length none/\(((↑v20.1:Int) != v5)=true->((0:Int)<=(↑v18.1:Int)/\(↑v18.1:Int)<(↑(nL v20.2 (qd4 none (↑v20.1:Int).toNat)).length:Int))/\(↑v18.1:Int).toNat<(nL v20.2 (qd4 none (↑v20.1:Int).toNat)).length/\((nI (nL v20.2 (qd4 none (↑v20.1:Int).toNat)) (↑v18.1:Int).toNat != (0:Int))=true->((0:Int)<=v5/\v5<(↑(qe7 v20.2.length none):Int))/\v5.toNat<qe7 v20.2.length none/\qd4 none v5.toNat≠qd4 none (↑v20.1:Int).toNat/\((0:Ty.den qg0)<=(↑v18.1:Int)/\wl7 (nL [qd1 (Ty.list Q1) v20.2 (qd4 none (↑v20.1:Int).toNat)] (0:Nat)) (nL v20.2 (qd4 none v5.toNat)) (↑v18.1:Int).toNat)/\fits .i64 ((↑v20.1:Int)+(1:Int))/\∃(v25:Nat × List Q0),q7h v18.2.2.1 v18.2.1 v18.1 v25.1 v25.2/\v18.2.2.1.length-v25.1<v18.2.2.1.length-v20.1/\(True/\True/\True/\(↑v20.1:Int)+(1:Int)=(↑v25.1:Int)/\True)/\(List.set v20.2 (qd4 none (↑v20.1:Int).toNat) (qd1 (Ty.list Q1) [qx4 (nL [qd1 (Ty.list Q1) v20.2 (qd4 none (↑v20.1:Int).toNat)] (0:Nat)) (nL v20.2 (qd4 none v5.toNat)) (↑v18.1:Int).toNat] (0:Nat))=v25.2/\True/\T=T)/\v18.2.2.2=v18.2.2.2/\((↑v18.1:Int)=(↑v18.1:Int)/\True)/\True/\True/\True/\True/\True/\True/\True/\True/\True/\True/\True/\True/\True/\True/\True/\True/\True/\True/\True/\True/\True/\True/\True/\True/\True/\True/\True/\True/\True)/\((nI (nL v20.2 (qd4 none (↑v20.1:Int).toNat)) (↑v18.1:Int).toNat != (0:Int))=false->fits .i64 ((↑v20.1:Int)+(1:Int))/\∃(v25:Nat × List Q0),q7h v18.2.2.1 v18.2.1 v18.1 v25.1 v25.2/\v18.2.2.1.length-v25.1<v18.2.2.1.length-v20.1/\(True/\True/\True/\(↑v20.1:Int)+(1:Int)=(↑v25.1:Int)/\True)/\(v20.2=v25.2/\True/\T=T)/\v18.2.2.2=v18.2.2.2/\((↑v18.1:Int)=(↑v18.1:Int)/\True)/\True/\True/\True/\True/\True/\True/\True/\True/\True/\True/\True/\True/\True/\True/\True/\True/\True/\True/\True/\True/\True/\True/\True/\True/\True/\True/\True/\True/\True))/\(((↑v20.1:Int) != v5)=false->fits .i64 ((↑v20.1:Int)+(1:Int))/\∃(v24:Nat × List Q0),q7h v18.2.2.1 v18.2.1 v18.1 v24.1 v24.2/\v18.2.2.1.length-v24.1<v18.2.2.1.length-v20.1/\(True/\True/\True/\(↑v20.1:Int)+(1:Int)=(↑v24.1:Int)/\True)/\(v20.2=v24.2/\True/\T=T)/\v18.2.2.2=v18.2.2.2/\((↑v18.1:Int)=(↑v18.1:Int)/\True)/\True/\True/\True/\True/\True/\True/\True/\True/\True/\True/\True/\True/\True/\True/\True/\True/\True/\True/\True/\True/\True/\True/\True/\True/\True/\True/\True/\True/\True))/\(decide ((↑v20.1:Int)<(↑(qe7 v15.2.length none):Int))=false->((0:Nat)<List.length [(↑v18.1:Int)]/\Nat.le (v18.2.2.2.length+List.length [(↑v18.1:Int)]) (1000000:Nat))/\fits .i64 ((↑v2.1:Int)+(1:Int))/\∃(v23:Nat × List Q0 × List Int),w3j rows c.toNat v23.1 v23.2.1 v23.2.2/\c.toNat-v23.1<c.toNat-v2.1/\(True/\True/\(↑v2.1:Int)+(1:Int)=(↑v23.1:Int)/\True)/\(v20.2=v23.2.1/\True/\T=T)/\v18.2.2.2++[(↑v18.1:Int)]=v23.2.2/\True)))/\(decide (nI (nL v2.2.1 (qd4 (some (List.set (ixL v2.2.1.length (some (List.set (ixL v2.2.1.length none) v5.toNat (qd4 none (v5+v9).toNat)))) (v5+v9).toNat (qd4 none v5.toNat))) v5.toNat)) (↑v2.1:Int).toNat<(0:Int))=false->∃(v13:Nat × Nat × List Q0 × List Int),∃(v14:Nat × List Q0),q7h v13.2.2.1 v13.2.1 v13.1 v14.1 v14.2/\(List.Nodup (List.set (ixL v2.2.1.length (some (List.set (ixL v2.2.1.length none) v5.toNat (qd4 none (v5+v9).toNat)))) (v5+v9).toNat (qd4 none v5.toNat))/\(List.set (ixL v2.2.1.length (some (List.set (ixL v2.2.1.length none) v5.toNat (qd4 none (v5+v9).toNat)))) (v5+v9).toNat (qd4 none v5.toNat)).length=v2.2.1.length)/\((True/\True/\True/\(0:Int)=(↑v14.1:Int)/\True)/\(q4l (Ty.int .i64) v2.2.1 (some (List.set (ixL v2.2.1.length (some (List.set (ixL v2.2.1.length none) v5.toNat (qd4 none (v5+v9).toNat)))) (v5+v9).toNat (qd4 none v5.toNat)))=v14.2/\True/\T=T)/\v2.2.2=v13.2.2.2/\((↑v2.1:Int)=(↑v13.1:Int)/\True)/\True/\True/\True/\True/\True/\True/\True/\True/\True/\True/\True/\True/\True/\True/\True/\True/\True/\True/\True/\True/\True/\True/\True/\True/\True/\True/\True/\True/\True)/\∀(v15:Nat × List Q0),q7h v13.2.2.1 v13.2.1 v13.1 v15.1 v15.2->(decide ((↑v15.1:Int)<(↑(qe7 v2.2.1.length (some (List.set (ixL v2.2.1.length (some (List.set (ixL v2.2.1.length none) v5.toNat (qd4 none (v5+v9).toNat)))) (v5+v9).toNat (qd4 none v5.toNat)))):Int))=true->((0:Int)<=(↑v15.1:Int)/\(↑v15.1:Int)<(↑(qe7 v15.2.length none):Int))/\(↑v15.1:Int).toNat<qe7 v15.2.length none/\(((↑v15.1:Int) != v5)=true->((0:Int)<=(↑v13.1:Int)/\(↑v13.1:Int)<(↑(nL v15.2 (qd4 none (↑v15.1:Int).toNat)).length:Int))/\(↑v13.1:Int).toNat<(nL v15.2 (qd4 none (↑v15.1:Int).toNat)).length/\((nI (nL v15.2 (qd4 none (↑v15.1:Int).toNat)) (↑v13.1:Int).toNat != (0:Int))=true->((0:Int)<=v5/\v5<(↑(qe7 v15.2.length none):Int))/\v5.toNat<qe7 v15.2.length none/\qd4 none v5.toNat≠qd4 none (↑v15.1:Int).toNat/\((0:Ty.den qg0)<=(↑v13.1:Int)/\wl7 (nL [qd1 (Ty.list Q1) v15.2 (qd4 none (↑v15.1:Int).toNat)] (0:Nat)) (nL v15.2 (qd4 none v5.toNat)) (↑v13.1:Int).toNat)/\fits .i64 ((↑v15.1:Int)+(1:Int))/\∃(v20:Nat × List Q0),q7h v13.2.2.1 v13.2.1 v13.1 v20.1 v20.2/\v13.2.2.1.length-v20.1<v13.2.2.1.length-v15.1/\(True/\True/\True/\(↑v15.1:Int)+(1:Int)=(↑v20.1:Int)/\True)/\(List.set v15.2 (qd4 none (↑v15.1:Int).toNat) (qd1 (Ty.list Q1) [qx4 (nL [qd1 (Ty.list Q1) v15.2 (qd4 none (↑v15.1:Int).toNat)] (0:Nat)) (nL v15.2 (qd4 none v5.toNat)) (↑v13.1:Int).toNat] (0:Nat))=v20.2/\True/\T=T)/\v13.2.2.2=v13.2.2.2/\((↑v13.1:Int)=(↑v13.1:Int)/\True)/\True/\True/\True/\True/\True/\True/\True/\True/\True/\True/\True/\True/\True/\True/\True/\True/\True/\True/\True/\True/\True/\True/\True/\True/\True/\True/\True/\True/\True)/\((nI (nL v15.2 (qd4 none (↑v15.1:Int).toNat)) (↑v13.1:Int).toNat != (0:Int))=false->fits .i64 ((↑v15.1:Int)+(1:Int))/\∃(v20:Nat × List Q0),q7h v13.2.2.1 v13.2.1 v13.1 v20.1 v20.2/\v13.2.2.1.length-v20.1<v13.2.2.1.length-v15.1/\(True/\True/\True/\(↑v15.1:Int)+(1:Int)=(↑v20.1:Int)/\True)/\(v15.2=v20.2/\True/\T=T)/\v13.2.2.2=v13.2.2.2/\((↑v13.1:Int)=(↑v13.1:Int)/\True)/\True/\True/\True/\True/\True/\True/\True/\True/\True/\True/\True/\True/\True/\True/\True/\True/\True/\True/\True/\True/\True/\True/\True/\True/\True/\True/\True/\True/\True))/\(((↑v15.1:Int) != v5)=false->fits .i64 ((↑v15.1:Int)+(1:Int))/\∃(v19:Nat × List Q0),q7h v13.2.2.1 v13.2.1 v13.1 v19.1 v19.2/\v13.2.2.1.length-v19.1<v13.2.2.1.length-v15.1/\(True/\True/\True/\(↑v15.1:Int)+(1:Int)=(↑v19.1:Int)/\True)/\(v15.2=v19.2/\True/\T=T)/\v13.2.2.2=v13.2.2.2/\((↑v13.1:Int)=(↑v13.1:Int)/\True)/\True/\True/\True/\True/\True/\True/\True/\True/\True/\True/\True/\True/\True/\True/\True/\True/\True/\True/\True/\True/\True/\True/\True/\True/\True/\True/\True/\True/\True))/\(decide ((↑v15.1:Int)<(↑(qe7 v2.2.1.length (some (List.set (ixL v2.2.1.length (some (List.set (ixL v2.2.1.length none) v5.toNat (qd4 none (v5+v9).toNat)))) (v5+v9).toNat (qd4 none v5.toNat)))):Int))=false->((0:Nat)<List.length [(↑v13.1:Int)]/\Nat.le (v13.2.2.2.length+List.length [(↑v13.1:Int)]) (1000000:Nat))/\fits .i64 ((↑v2.1:Int)+(1:Int))/\∃(v18:Nat × List Q0 × List Int),w3j rows c.toNat v18.1 v18.2.1 v18.2.2/\c.toNat-v18.1<c.toNat-v2.1/\(True/\True/\(↑v2.1:Int)+(1:Int)=(↑v18.1:Int)/\True)/\(v15.2=v18.2.1/\True/\T=T)/\v13.2.2.2++[(↑v13.1:Int)]=v18.2.2/\True))))/\(decide ((↑v2.1:Int)<c)=false->v2.2.1=(qa6 rows c.toNat).1/\T=T/\True/\v2.2.2=(qa6 rows c.toNat).2)) (by kernel_rfl) ?_
 try simp only[z0,z1,z2,z3,z4,z5,z6,z7,z8,z9,z10,Int.reduceEq,z11,z12,z13,z14,z15,z16,z17,z18,z19,z20,z21,z22,z23,z24,z25,z26,z27,z28,z29,z30,Int.reduceLE,Int.reduceLT,z31,z32,z33,z34,qa1]
 try simp only[qb5,qb6,qd2,z31,z32,z2,z1]
 simp only[q1y,w3k,xe4,xe5,q31,w69,wm3,w7a,List.length_set,List.length_range,List.take_length]
 obtain⟨hc0,W,hR⟩:=h
 have hRn:=hR.n
 have hRw:=hR.w
 refine⟨(),(0,rows,[]),⟨Nat.zero_le _,rfl⟩,⟨rfl,rfl,rfl⟩,?_⟩
 rintro⟨j,r0,piv⟩ ⟨hjc,hj⟩
 dsimp only at hjc hj ⊢
 have hsh:=qv8 hR j
 rw[hj] at hsh
 have hn:=hsh.cnt
 have hpn:=hsh.piv
 have hpj:=hsh.pivj
 dsimp only at hn hpn hpj
 refine⟨λhlt=>?_,λhge=>?_⟩
 ·have hjl:j<c.toNat:=by omega
  have hjW:j<W:=by have:=hR.cw; omega
  rintro k rfl
  have he:=hsh.each
  dsimp only at he
  have hdrop:∀q,q<(r0.drop piv.length).length->j<(nL (r0.drop piv.length) q).length:=λq hq=>by
   rw[List.length_drop] at hq
   have e:nL (r0.drop piv.length) q=nL r0 (piv.length+q):=by
    rw[qn4 _ _ (by rw[List.length_drop]; exact hq),qn4 _ _ (by omega)]; simp
   rw[e,he _ (by omega)]; exact hjW
  simp only[Int.toNat_natCast]
  refine⟨⟨by omega,by omega,Nat.le_refl _⟩,λx=>j<x.1.length,λx=>nI x.1 j != 0,λx hx=>⟨hx,rfl⟩,⟨by rw[List.length_drop]; omega,hdrop⟩,?_⟩
  rintro a ha
  have ha:a=qt6 r0 piv.length j:=ha
  subst ha
  refine⟨λhneg=>?_,λhpos=>?_⟩
  ·refine⟨qa7 (by omega) (by omega),(j+1,r0,piv),⟨by dsimp only; omega,?_⟩,by dsimp only; omega,by dsimp only; omega,rfl,rfl⟩
   rw[qa6,hj,qw5,if_pos hneg]
  have hb:=q14 r0 piv.length j (by omega) hpos
  have hso:xl3 r0 piv.length j:=by have:=hR.step j hjl; rw[hj] at this; exact this hpos
  have hse:=q7i (W:=W) (by omega) hpos (λi hi=>he i (by omega))
  have hpe:=q15 (W:=W) (by omega) hpos (λi hi=>he i (by omega))
  have hab:((piv.length:Int)+qt6 r0 piv.length j).toNat=piv.length+(qt6 r0 piv.length j).toNat:=by omega
  simp only[hab]
  have hgd:=xe6 r0.length piv.length (piv.length+(qt6 r0 piv.length j).toNat) (by omega) hb
  have hmap:=xr5 r0 piv.length (piv.length+(qt6 r0 piv.length j).toNat) (by omega) hb
  have hnd:=w7b r0.length piv.length (piv.length+(qt6 r0 piv.length j).toNat) (by omega) hb
  have hk1:nL (q1x r0 piv.length j) piv.length=nL r0 (piv.length+(qt6 r0 piv.length j).toNat):=by
   unfold q1x
   rw[q33 _ _ _ (by omega) hb _ (by omega)]
   split
   ·rename_i e; rw[<- e]
   ·rw[if_pos rfl]
  simp only[hgd,hmap]
  rw[<- hk1]
  have hsl:=q56 r0 piv.length j
  have hkW:=hse piv.length (by omega)
  refine⟨qa7 (by omega) (by omega),qa7 (by omega) (by omega),by omega,by omega,by omega,by omega,by omega,by omega,by omega,by omega,by omega,by omega,by omega,by omega,λhng=>?_,λhng=>?_⟩
  ·refine⟨by omega,by omega,(j,piv.length,q1x r0 piv.length j,piv),(0,q1x r0 piv.length j),⟨Nat.zero_le _,?_⟩,⟨hnd,trivial⟩,⟨rfl,rfl,rfl,rfl⟩,?_⟩
   ·dsimp only
    have e:ovr (.int .i64) (λq=>0-nI (nL (q1x r0 piv.length j) piv.length) q) (nL (q1x r0 piv.length j) piv.length) 0=nL (q1x r0 piv.length j) piv.length:=qv5 (.int .i64) _ _
    rw[e,qn4 _ _ (by omega),List.set_getElem_self]
   rintro⟨i,r⟩ ⟨hi1,hi2⟩
   dsimp only at hi1 hi2 ⊢
   have hrl:r.length=r0.length:=by rw[hi2,List.length_set,hsl]
   have hrk:nL r piv.length=ovr (.int .i64) (λq=>0-nI (nL (q1x r0 piv.length j) piv.length) q) (nL (q1x r0 piv.length j) piv.length) i:=by
    rw[hi2,we4 _ _ _ _ (by omega),if_pos rfl]
   have hrkl:(nL r piv.length).length=W:=by rw[hrk,qq5]; exact hkW
   refine⟨λhlt=>?_,λhge=>?_⟩
   ·have hv:nI (nL r piv.length) i=nI (nL (q1x r0 piv.length j) piv.length) i:=by
     rw[hrk]
     exact(q3t (.int .i64) _ _ _ _ hlt).trans (if_neg (Nat.lt_irrefl _))
    have hbd:qc8 BIG (nI (nL (q1x r0 piv.length j) piv.length) i):=hso.neg _ (by rw[qh7 _ i hlt]; exact List.getElem_mem hlt)
    unfold qc8 BIG at hbd
    rw[hv]
    refine⟨by omega,by omega,by omega,by omega,by omega,by omega,qa7 (by omega) (by omega),by omega,by omega,qa7 (by omega) (by omega),(i+1,r.set piv.length ((nL r piv.length).set i (0-nI (nL (q1x r0 piv.length j) piv.length) i))),⟨by dsimp only; omega,?_⟩,by dsimp only; omega,by dsimp only; omega,rfl⟩
    dsimp only
    have e:=qt4 (.int .i64) (λq=>0-nI (nL (q1x r0 piv.length j) piv.length) q) (nL (q1x r0 piv.length j) piv.length) i
    rw[hrk]
    refine(congrArg (r.set piv.length) e).trans ?_
    rw[hi2,List.set_set]
   ·have hprep:r=qk1 r0 piv.length j:=by
     unfold qk1
     rw[if_pos hng,hi2]
     refine congrArg _ ?_
     exact q07 (.int .i64) _ _ _ (by omega)
    refine⟨(j,piv.length,qk1 r0 piv.length j,piv),(0,qk1 r0 piv.length j),⟨Nat.zero_le _,(qv5 (.list (.int .i64)) _ _).symm⟩,⟨rfl,hprep,rfl,rfl⟩,?_⟩
    rw[hprep,qj8]
    rintro⟨i,r⟩ ⟨hi1,hi2⟩
    dsimp only at hi1 hi2 ⊢
    have hpl:=qj8 r0 piv.length j
    have hrl:r.length=r0.length:=by rw[hi2,qq5,qj8]
    have hi1:i<=r0.length:=by rw[qj8] at hi1; exact hi1
    have hat:∀q,q<r0.length->nL r q=if q<i then wh3 (qk1 r0 piv.length j) piv.length j q else nL (qk1 r0 piv.length j) q:=λq hq=>by
     rw[hi2]; exact q3t (.list (.int .i64)) _ _ _ _ (by rw[qj8]; exact hq)
    have hk2:nL r piv.length=nL (qk1 r0 piv.length j) piv.length:=by
     rw[hat _ (by omega)]
     split
     ·exact q36 _ _ _
     ·rfl
    refine⟨λhlt=>?_,λhge=>?_⟩
    ·have hlt:i<r0.length:=by omega
     have hri:nL r i=nL (qk1 r0 piv.length j) i:=by rw[hat i hlt,if_neg (Nat.lt_irrefl _)]
     have hw:=hpe i hlt
     refine⟨by omega,by omega,λhne=>⟨by rw[hri]; omega,by rw[hri]; omega,λhnz=>?_,λhz=>?_⟩,λheq=>?_⟩
     ·rw[hri] at hnz
      have hne:i≠piv.length:=by omega
      have hcl:=hso.clr i hlt hne hnz
      have hcr:wh3 (qk1 r0 piv.length j) piv.length j i=qx4 (nL r i) (nL r piv.length) j:=by
       unfold wh3; rw[if_pos ⟨hne,hnz⟩,hri,hk2]
      refine⟨by omega,by omega,by omega,?_,qa7 (by omega) (by omega),(i+1,r.set i (qx4 (nL r i) (nL r piv.length) j)),⟨by dsimp only; omega,?_⟩,by dsimp only; omega,by dsimp only; omega,rfl⟩
      ·show wl7 (nL r i) (nL r piv.length) j
       rw[hri,hk2]; exact hcl
      ·dsimp only
       rw[<- hcr,hi2]
       exact qt4 (.list (.int .i64)) _ _ _
     ·refine⟨qa7 (by omega) (by omega),(i+1,r),⟨by dsimp only; omega,?_⟩,by dsimp only; omega,by dsimp only; omega,rfl⟩
      dsimp only
      rw[hi2]
      refine q57 (.list (.int .i64)) _ _ _ λ_=>?_
      unfold wh3
      rw[if_neg]
      ·rfl
      ·intro h2
       rw[hri] at hz
       exact h2.2 hz
     ·refine⟨qa7 (by omega) (by omega),(i+1,r),⟨by dsimp only; omega,?_⟩,by dsimp only; omega,by dsimp only; omega,rfl⟩
      dsimp only
      rw[hi2]
      refine q57 (.list (.int .i64)) _ _ _ λ_=>?_
      have e:i=piv.length:=by omega
      rw[e]
      exact q36 _ _ _
    ·obtain rfl:i=r0.length:=by omega
     refine⟨by omega,qa7 (by omega) (by omega),(j+1,r,piv++[(j:Int)]),⟨by omega,?_⟩,by dsimp only; omega,by dsimp only; omega,rfl,rfl⟩
     rw[qa6,hj,qw5,if_neg (by dsimp only; omega),hi2]
     refine congrArg (·,_) ?_
     rw[<- qj8 r0 piv.length j]
     exact(q07 (.list (.int .i64)) _ _ _ (Nat.le_refl _)).symm
  ·have hprep:q1x r0 piv.length j=qk1 r0 piv.length j:=by unfold qk1; rw[if_neg (by omega)]
   refine⟨(j,piv.length,qk1 r0 piv.length j,piv),(0,qk1 r0 piv.length j),⟨Nat.zero_le _,(qv5 (.list (.int .i64)) _ _).symm⟩,⟨hnd,trivial⟩,⟨rfl,hprep,rfl,rfl⟩,?_⟩
   rintro⟨i,r⟩ ⟨hi1,hi2⟩
   dsimp only at hi1 hi2 ⊢
   have hpl:=qj8 r0 piv.length j
   have hrl:r.length=r0.length:=by rw[hi2,qq5,qj8]
   have hi1:i<=r0.length:=by rw[qj8] at hi1; exact hi1
   have hat:∀q,q<r0.length->nL r q=if q<i then wh3 (qk1 r0 piv.length j) piv.length j q else nL (qk1 r0 piv.length j) q:=λq hq=>by
    rw[hi2]; exact q3t (.list (.int .i64)) _ _ _ _ (by rw[qj8]; exact hq)
   have hk2:nL r piv.length=nL (qk1 r0 piv.length j) piv.length:=by
    rw[hat _ (by omega)]
    split
    ·exact q36 _ _ _
    ·rfl
   refine⟨λhlt=>?_,λhge=>?_⟩
   ·have hlt:i<r0.length:=by omega
    have hri:nL r i=nL (qk1 r0 piv.length j) i:=by rw[hat i hlt,if_neg (Nat.lt_irrefl _)]
    have hw:=hpe i hlt
    refine⟨by omega,by omega,λhne=>⟨by rw[hri]; omega,by rw[hri]; omega,λhnz=>?_,λhz=>?_⟩,λheq=>?_⟩
    ·rw[hri] at hnz
     have hne:i≠piv.length:=by omega
     have hcl:=hso.clr i hlt hne hnz
     have hcr:wh3 (qk1 r0 piv.length j) piv.length j i=qx4 (nL r i) (nL r piv.length) j:=by
      unfold wh3; rw[if_pos ⟨hne,hnz⟩,hri,hk2]
     refine⟨by omega,by omega,by omega,?_,qa7 (by omega) (by omega),(i+1,r.set i (qx4 (nL r i) (nL r piv.length) j)),⟨by dsimp only; omega,?_⟩,by dsimp only; omega,by dsimp only; omega,rfl⟩
     ·show wl7 (nL r i) (nL r piv.length) j
      rw[hri,hk2]; exact hcl
     ·dsimp only
      rw[<- hcr,hi2]
      exact qt4 (.list (.int .i64)) _ _ _
    ·refine⟨qa7 (by omega) (by omega),(i+1,r),⟨by dsimp only; omega,?_⟩,by dsimp only; omega,by dsimp only; omega,rfl⟩
     dsimp only
     rw[hi2]
     refine q57 (.list (.int .i64)) _ _ _ λ_=>?_
     unfold wh3
     rw[if_neg]
     ·rfl
     ·intro h2
      rw[hri] at hz
      exact h2.2 hz
    ·refine⟨qa7 (by omega) (by omega),(i+1,r),⟨by dsimp only; omega,?_⟩,by dsimp only; omega,by dsimp only; omega,rfl⟩
     dsimp only
     rw[hi2]
     refine q57 (.list (.int .i64)) _ _ _ λ_=>?_
     have e:i=piv.length:=by omega
     rw[e]
     exact q36 _ _ _
   ·obtain rfl:i=r0.length:=by omega
    refine⟨by omega,qa7 (by omega) (by omega),(j+1,r,piv++[(j:Int)]),⟨by omega,?_⟩,by dsimp only; omega,by dsimp only; omega,rfl,rfl⟩
    rw[qa6,hj,qw5,if_neg (by dsimp only; omega),hi2]
    refine congrArg (·,_) ?_
    rw[<- qj8 r0 piv.length j]
    exact(q07 (.list (.int .i64)) _ _ _ (Nat.le_refl _)).symm
 ·obtain rfl:j=c.toNat:=by omega
  rw[hj]
  exact⟨rfl,rfl⟩
end Go.Proofs.YtmijnbjlhnpokaaGreat
