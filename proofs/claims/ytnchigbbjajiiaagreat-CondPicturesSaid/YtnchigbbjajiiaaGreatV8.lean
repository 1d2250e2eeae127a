/- Rows reduced: contract by the engine. No condition. -/
import Derived.Test.YtnchigbbjajiiaaGreatV7
set_option linter.unusedVariables false
set_option linter.unusedSimpArgs false
namespace Go.Proofs.YtnchigbbjajiiaaGreat
open Go Go.RowKit Eng
abbrev x8j:qb3:=hspec [] true none [.d tInts,.cap tInt] [.bool] (λx=>0<=x.2.1/\x.2.1<x.1.length) (λx=>(nI x.1 x.2.1.toNat != 0,()))
theorem w6w:Meets Tryz.prog 189 x8j:=by
 refine qu0 (SpecsOk.nil _) (snd (SpecsOk.nil _)) Tryz.func189 rfl rfl (λ_ _=>none) (λ_=>by kernel_rfl) dc ?_
 rintro⟨l,j,⟨⟩⟩ h
 revert l j
 intro(l:List Int) (j:Int) (h:0<=j/\j<l.length)
 refine vcs (((0:Int)<=j/\j<(↑l.length:Int))/\(nI l j.toNat != (0:Int))=(nI l j.toNat != (0:Int))) ?_
 exact h
def qu8 (rows:List (List Int)) (k j:Nat):Int:=ixT (.list (.int .i64)) (λr=>nI r j != 0) (rows.drop k)
def wu6 (rows:List (List Int)) (a b:Nat):List (List Int):=(rows.set a (nL rows b)).set b (nL rows a)
def xx2 (r:List Int):List Int:=(List.range r.length).map λi=>0-nI r i
def q2g (rows:List (List Int)) (k j:Nat):List (List Int):=wu6 rows k (k+(qu8 rows k j).toNat)
def qj0 (rows:List (List Int)) (k j:Nat):List (List Int):=if nI (nL (q2g rows k j) k) j<0 then(q2g rows k j).set k (xx2 (nL (q2g rows k j) k)) else q2g rows k j
def wo4 (rows:List (List Int)) (k j i:Nat):List Int:=if i≠k/\nI (nL rows i) j≠0 then qy9 (nL rows i) (nL rows k) j else nL rows i
def xq8 (rows:List (List Int)) (k j:Nat):List (List Int):=(List.range rows.length).map (wo4 rows k j)
def qx7 (s:List (List Int) × List Int) (j:Nat):List (List Int) × List Int:=if qu8 s.1 s.2.length j<0 then s else(xq8 (qj0 s.1 s.2.length j) s.2.length j,s.2++[(j:Int)])
def qb7 (rows:List (List Int)):Nat->List (List Int) × List Int
 | 0=>(rows,[])
 | j+1=>qx7 (qb7 rows j) j
structure x2g (rows:List (List Int)) (k j:Nat):Prop where
 neg:∀x∈nL (q2g rows k j) k,qc0 BIG x
 clr:∀i,i<rows.length->i≠k->nI (nL (qj0 rows k j) i) j≠0->wt8 (nL (qj0 rows k j) i) (nL (qj0 rows k j) k) j
structure q78 (rows:List (List Int)) (cols W:Nat):Prop where
 n:rows.length<=1000
 w:W<=1000
 cw:cols<=W
 each:∀i,i<rows.length->(nL rows i).length=W
 step:∀j,j<cols->0<=qu8 (qb7 rows j).1 (qb7 rows j).2.length j->x2g (qb7 rows j).1 (qb7 rows j).2.length j
abbrev yw9:qr3:=wt1 (q4c [tInt]) true false 24 3 (.int .i64) (λrows x=>0<=x.1/\∃W,q78 rows x.1.toNat W) (λrows x=>.dat (.int .i64) (qb7 rows x.1.toNat).2) (λrows x=>(qb7 rows x.1.toNat).1)
def x2h:List AObj:=[.dead,.dead,.dead,.dead,.dead,.dead,.dead,.dead,.dead,.dead,.dead,.dead,.dead,.dead,.dead,.dead,.dead,.dead,.dead,.dead,.dead,.dead,.dead,.dead,.dead,.dead,.dead,.dead]
structure xx3 (rows:List (List Int)) (k i:Nat) (r:List (List Int)):Prop where
 le:i<=(nL rows k).length
 eq:r=rows.set k (ovr (.int .i64) (λq=>0-nI (nL rows k) q) (nL rows k) i)
structure q79 (rows:List (List Int)) (k j i:Nat) (r:List (List Int)):Prop where
 le:i<=rows.length
 eq:r=ovr (.list (.int .i64)) (wo4 rows k j) rows i
structure w6x (R:List (List Int)) (c j:Nat) (r:List (List Int)) (p:List Int):Prop where
 le:j<=c
 eq:qb7 R j=(r,p)
def yk4 (T:q7a) (R:List (List Int)) (c:Nat):Nat->Option Inv
 | 0=>some (Inv.of [0,5,13] 2 (λs:Nat × List (List Int) × List Int=>[(0,.msl 0 .none),(5,.own 1),(13,.lit (.int .i64 s.1))]) (λs=>[.mat 24 3 (.int .i64) s.2.1 .none (some T),.vec 3 (.int .i64) s.2.2]) (λs=>w6x R c s.1 s.2.1 s.2.2) (λs=>c-s.1))
 | 1=>some (Eng.Inv.mk (Nat × Nat × List (List Int) × List Int) (Nat × List (List Int)) [0,5,56] 31 (λ_ s=>[(0,.msl 0 .none),(5,.own 1),(56,.lit (.int .i64 s.1))]) (λq s=>.mat 24 3 (.int .i64) s.2 .none (some T) :: .vec 3 (.int .i64) q.2.2.2 :: .box 3 (.cons (.lit (.int .i64 q.1)) .nil) :: x2h) (λq s=>xx3 q.2.2.1 q.2.1 s.1 s.2) (λq s=>(nL q.2.2.1 q.2.1).length-s.1))
 | 2=>some (Eng.Inv.mk (Nat × Nat × List (List Int) × List Int) (Nat × List (List Int)) [0,5,74,76] 31 (λ_ s=>[(0,.msl 0 .none),(5,.own 1),(74,.msl 0 .none),(76,.lit (.int .i64 s.1))]) (λq s=>.mat 24 3 (.int .i64) s.2 .none (some T) :: .vec 3 (.int .i64) q.2.2.2 :: .box 3 (.cons (.lit (.int .i64 q.1)) .nil) :: x2h) (λq s=>q79 q.2.2.1 q.2.1 q.1 s.1 s.2) (λq s=>q.2.2.1.length-s.1))
 | _=>none
theorem wd0 (n:Nat):qf5 n none=n:=rfl
theorem w6y (n:Nat) (l:List Nat):qf5 n (some l)=l.length:=rfl
theorem xx4 (n:Nat):ixL n none=List.range n:=rfl
theorem xx5 (n:Nat) (l:List Nat):ixL n (some l)=l:=rfl
theorem wu7 (i:Nat):qg2 none i=i:=rfl
theorem xc9 (l:List Nat) (i:Nat):qg2 (some l) i=l.getD i 0:=rfl
theorem wu8 (r:List (List Int)):q4x (.int .i64) r none=r:=rfl
theorem xd0 (r:List (List Int)) (l:List Nat):q4x (.int .i64) r (some l)=l.map λp=>nL r p:=rfl
theorem xx6 (n k b:Nat) (hk:k<n) (hb:b<n):(((List.range n).set k b).set b k).getD k 0=b:=by
 grind
theorem xd1 (n k b:Nat) (hk:k<n) (hb:b<n):(((List.range n).set k b).set b k).Nodup:=by
 grind
theorem x4n (r:List (List Int)) (k b:Nat) (hk:k<r.length) (hb:b<r.length):((((List.range r.length).set k b).set b k).map λp=>nL r p)=wu6 r k b:=by
 apply zbb (by simp[wu6])
 grind [wu6,qm3]
theorem wu9 (r:List (List Int)) (k b:Nat):(wu6 r k b).length=r.length:=by simp[wu6]
theorem q4k (r:List (List Int)) (k b:Nat) (hk:k<r.length) (hb:b<r.length) (i:Nat) (hi:i<r.length):nL (wu6 r k b) i=if i=b then nL r k else if i=k then nL r b else nL r i:=by
 rw[qm3 _ i (by grind [wu9])]
 simp only[wu6,List.getElem_set]
 by_cases e:b=i
 ·grind
 ·rw[zak e,zak (zdd e)]
  by_cases e2:k=i
  all_goals simp_all [if_pos,if_neg,Ne.symm,qm3]
theorem wd1 (l:List Int):(qe4 l).length=l.length:=by grind [qe4]
theorem wd5 (r b:List Int) (c:Nat):(qy9 r b c).length=r.length:=by grind [qy9,wd1,q2e]
theorem wk5 (r:List Int):(xx2 r).length=r.length:=by simp[xx2]
theorem wk6 (r:List (List Int)) (k j:Nat):(q2g r k j).length=r.length:=wu9 _ _ _
theorem qm4 (r:List (List Int)) (k j:Nat):(qj0 r k j).length=r.length:=by
 grind [qj0,List.length_set,wk6]
theorem wk7 (r:List (List Int)) (k:Nat) (x:List Int) (i:Nat) (hi:i<r.length):nL (r.set k x) i=if i=k then x else nL r i:=by
 rw[qm3 _ i (by grind),zdf]
 by_cases e:k=i
 all_goals simp_all [if_pos,if_neg,Ne.symm,qm3]
theorem q2h (r:List (List Int)) (k j:Nat) (hk:k<=r.length) (h:0<=qu8 r k j):k+(qu8 r k j).toNat<r.length:=by
 have:=(wu0 (.list (.int .i64)) (λr=>nI r j != 0) (r.drop k)).1
 grind [qu8,List.length_drop]
theorem q4l (r:List (List Int)) (k j i:Nat) (hi:i<r.length):nL (qj0 r k j) i=if i=k/\nI (nL (q2g r k j) k) j<0 then xx2 (nL (q2g r k j) k) else nL (q2g r k j) i:=by
 unfold qj0
 split
 all_goals simp_all [wk7,wk6,if_pos,if_neg]
theorem wk8 (r:List (List Int)) (k j:Nat):(xq8 r k j).length=r.length:=by simp[xq8]
theorem xd2 (r:List (List Int)) (k j i:Nat) (hi:i<r.length):nL (xq8 r k j) i=wo4 r k j i:=by
 grind [qm3,wk8,xq8]
structure RedSh (n W:Nat) (s:List (List Int) × List Int) (j:Nat):Prop where
 cnt:s.1.length=n
 each:∀i,i<n->(nL s.1 i).length=W
 piv:s.2.length<=n
 pivj:s.2.length<=j
theorem q8a {r:List (List Int)} {k j W:Nat} (hk:k<=r.length) (h:0<=qu8 r k j) (he:∀i,i<r.length->(nL r i).length=W):∀i,i<r.length->(nL (q2g r k j) i).length=W:=λi hi=>by
 grind [q2h,q2g,q4k]
theorem q2i {r:List (List Int)} {k j W:Nat} (hk:k<=r.length) (h:0<=qu8 r k j) (he:∀i,i<r.length->(nL r i).length=W):∀i,i<r.length->(nL (qj0 r k j) i).length=W:=λi hi=>by
 have hb:=q2h r k j hk h
 have h1:=q8a hk h he
 grind [q4l,wk5]
theorem RedSh.step {n W j:Nat} {s:List (List Int) × List Int} (h:RedSh n W s j):RedSh n W (qx7 s j) (j+1):=by
 unfold qx7
 split
 ·exact⟨h.cnt,h.each,h.piv,by have:=h.pivj; omega⟩
 ·rename_i hp
  have hp:0<=qu8 s.1 s.2.length j:=ow
  have hn:=h.cnt
  have hb:=q2h s.1 s.2.length j (by rw[hn]; exact h.piv) hp
  have he:=q2i (W:=W) ow hp (λi hi=>h.each i ow)
  refine⟨by grind [wk8,qm4],λi hi=>?_,?_,?_⟩
  ·grind [xd2,qm4,wo4,wd5]
  ·grind
  ·rw[zay]; have:=h.pivj; grind
theorem q60 {R:List (List Int)} {c W:Nat} (h:q78 R c W):∀j,RedSh R.length W (qb7 R j) j
 | 0=>⟨rfl,h.each,zae _,zab _⟩
 | j+1=>(q60 h j).step
theorem q4m (r:List (List Int)) (k j:Nat):wo4 r k j k=nL r k:=by unfold wo4; simp
theorem q61 (t:Ty) (g:Nat->t.den) (l:List t.den) (k:Nat) (h:k<l.length->g k=qe0 t l k):ovr t g l k=ovr t g l (k+1):=by
 unfold ovr
 apply zcz
 grind
theorem wv0:qv5 Tryz.prog 146 yw9:=by
 refine q7z (yj4 [17,22] (SpecsOk.cons (q74 (fs:=[(189,x8j)]) (SpecsOk.cons w6w (SpecsOk.nil _))) (SpecsOk.nil _)) (MutsOk.cons w1c MutsOk.nil)) Tryz.func146 rfl rfl (qx0 [tInt]) (λT rows x=>yk4 T rows x.1.toNat) (λ_ _ _=>by kernel_rfl) dc ?_ rfl
 rintro T rows ⟨c,⟨⟩⟩ h -
 revert rows c
 intro(rows:List (List Int)) (c:Int) (h:0<=c/\∃W,q78 rows c.toNat W)
 refine vcs (let Q0:=List Int; let Q1:=qr3.t x2c; ∃(v0:Unit),∃(v1:Nat × List Q0 × List Int),w6x rows c.toNat v1.1 v1.2.1 v1.2.2/\((True/\True/\(0:Int)=(↑v1.1:Int)/\True)/\(rows=v1.2.1/\True/\T=T)/\v1.2.2=[]/\True)/\∀(v2:Nat × List Q0 × List Int),w6x rows c.toNat v2.1 v2.2.1 v2.2.2->(decide ((↑v2.1:Int)<c)=true->∀(v5:Int),v5=(↑v2.2.2.length:Int)->((0:Int)<=v5/\v5<=(↑(qf5 v2.2.1.length none):Int)/\(↑(qf5 v2.2.1.length none):Int)<=(↑(qf5 v2.2.1.length none):Int))/\∃(v7:qa5 [Ty.list (Ty.int .i64)]->Prop),∃(v8:qa5 [Ty.list (Ty.int .i64)]->Bool),(∀(v9:List Int × qa5._f [] PUnit.unit),v7 v9->((0:PTy.den (PTy.cap tInt))<=(↑v2.1:Int)/\(↑v2.1:Int)<(↑v9.1.length:PTy.den (PTy.cap tInt)))/\(nI v9.1 (↑v2.1:Int).toNat != (0:Int))=v8 v9)/\((List.drop v5.toNat (List.take (↑(qf5 v2.2.1.length none):Int).toNat (q4x (Ty.int .i64) v2.2.1 none))).length<=(1000000:Nat)/\∀(v9:Nat),v9<(List.drop v5.toNat (List.take (↑(qf5 v2.2.1.length none):Int).toNat (q4x (Ty.int .i64) v2.2.1 none))).length->v7 (nL (List.drop v5.toNat (List.take (↑(qf5 v2.2.1.length none):Int).toNat (q4x (Ty.int .i64) v2.2.1 none))) v9,()))/\∀(v9:Int),v9=ixT (Ty.list (Ty.int .i64)) (λ(v11:List Int)=>v8 (v11,())) (List.drop v5.toNat (List.take (↑(qf5 v2.2.1.length none):Int).toNat (q4x (Ty.int .i64) v2.2.1 none)))->(decide (v9<(0:Int))=true->fits .i64 ((↑v2.1:Int)+(1:Int))/\∃(v12:Nat × List Q0 × List Int),w6x rows c.toNat v12.1 v12.2.1 v12.2.2/\c.toNat-v12.1<c.toNat-v2.1/\(True/\True/\(↑v2.1:Int)+(1:Int)=(↑v12.1:Int)/\True)/\(v2.2.1=v12.2.1/\True/\T=T)/\v2.2.2=v12.2.2/\True)/\(decide (v9<(0:Int))=false->fits .i64 (v5+v9)/\fits .i64 (v5+v9)/\((0:Int)<=v5+v9/\v5+v9<(↑(qf5 v2.2.1.length none):Int))/\(v5+v9).toNat<qf5 v2.2.1.length none/\((0:Int)<=v5/\v5<(↑(qf5 v2.2.1.length none):Int))/\v5.toNat<qf5 v2.2.1.length none/\((0:Int)<=v5/\v5<(↑(qf5 v2.2.1.length none):Int))/\v5.toNat<qf5 v2.2.1.length none/\((0:Int)<=v5+v9/\v5+v9<(↑(qf5 v2.2.1.length (some (List.set (ixL v2.2.1.length none) v5.toNat (qg2 none (v5+v9).toNat)))):Int))/\(v5+v9).toNat<qf5 v2.2.1.length (some (List.set (ixL v2.2.1.length none) v5.toNat (qg2 none (v5+v9).toNat)))/\((0:Int)<=v5/\v5<(↑(qf5 v2.2.1.length (some (List.set (ixL v2.2.1.length (some (List.set (ixL v2.2.1.length none) v5.toNat (qg2 none (v5+v9).toNat)))) (v5+v9).toNat (qg2 none v5.toNat)))):Int))/\v5.toNat<qf5 v2.2.1.length (some (List.set (ixL v2.2.1.length (some (List.set (ixL v2.2.1.length none) v5.toNat (qg2 none (v5+v9).toNat)))) (v5+v9).toNat (qg2 none v5.toNat)))/\((0:Int)<=(↑v2.1:Int)/\(↑v2.1:Int)<(↑(nL v2.2.1 (qg2 (some (List.set (ixL v2.2.1.length (some (List.set (ixL v2.2.1.length none) v5.toNat (qg2 none (v5+v9).toNat)))) (v5+v9).toNat (qg2 none v5.toNat))) v5.toNat)).length:Int))/\(↑v2.1:Int).toNat<(nL v2.2.1 (qg2 (some (List.set (ixL v2.2.1.length (some (List.set (ixL v2.2.1.length none) v5.toNat (qg2 none (v5+v9).toNat)))) (v5+v9).toNat (qg2 none v5.toNat))) v5.toNat)).length/\(decide (nI (nL v2.2.1 (qg2 (some (List.set (ixL v2.2.1.length (some (List.set (ixL v2.2.1.length none) v5.toNat (qg2 none (v5+v9).toNat)))) (v5+v9).toNat (qg2 none v5.toNat))) v5.toNat)) (↑v2.1:Int).toNat<(0:Int))=true->((0:Int)<=v5/\v5<(↑(qf5 v2.2.1.length (some (List.set (ixL v2.2.1.length (some (List.set (ixL v2.2.1.length none) v5.toNat (qg2 none (v5+v9).toNat)))) (v5+v9).toNat (qg2 none v5.toNat)))):Int))/\v5.toNat<qf5 v2.2.1.length (some (List.set (ixL v2.2.1.length (some (List.set (ixL v2.2.1.length none) v5.toNat (qg2 none (v5+v9).toNat)))) (v5+v9).toNat (qg2 none v5.toNat)))/\∃(v13:Nat × Nat × List Q0 × List Int),∃(v14:Nat × List Q0),xx3 v13.2.2.1 v13.2.1 v14.1 v14.2/\(List.Nodup (List.set (ixL v2.2.1.length (some (List.set (ixL v2.2.1.length none) v5.toNat (qg2 none (v5+v9).toNat)))) (v5+v9).toNat (qg2 none v5.toNat))/\(List.set (ixL v2.2.1.length (some (List.set (ixL v2.2.1.length none) v5.toNat (qg2 none (v5+v9).toNat)))) (v5+v9).toNat (qg2 none v5.toNat)).length=v2.2.1.length)/\((True/\True/\(0:Int)=(↑v14.1:Int)/\True)/\(q4x (Ty.int .i64) v2.2.1 (some (List.set (ixL v2.2.1.length (some (List.set (ixL v2.2.1.length none) v5.toNat (qg2 none (v5+v9).toNat)))) (v5+v9).toNat (qg2 none v5.toNat)))=v14.2/\True/\T=T)/\v2.2.2=v13.2.2.2/\((↑v2.1:Int)=(↑v13.1:Int)/\True)/\True/\True/\True/\True/\True/\True/\True/\True/\True/\True/\True/\True/\True/\True/\True/\True/\True/\True/\True/\True/\True/\True/\True/\True/\True/\True/\True/\True/\True)/\∀(v15:Nat × List Q0),xx3 v13.2.2.1 v13.2.1 v15.1 v15.2->(decide ((↑v15.1:Int)<(↑(nL v2.2.1 (qg2 (some (List.set (ixL v2.2.1.length (some (List.set (ixL v2.2.1.length none) v5.toNat (qg2 none (v5+v9).toNat)))) (v5+v9).toNat (qg2 none v5.toNat))) v5.toNat)).length:Int))=true->((0:Int)<=v5/\v5<(↑(qf5 v15.2.length none):Int))/\v5.toNat<qf5 v15.2.length none/\((0:Int)<=v5/\v5<(↑(qf5 v15.2.length none):Int))/\v5.toNat<qf5 v15.2.length none/\((0:Int)<=(↑v15.1:Int)/\(↑v15.1:Int)<(↑(nL v15.2 (qg2 none v5.toNat)).length:Int))/\(↑v15.1:Int).toNat<(nL v15.2 (qg2 none v5.toNat)).length/\fits .i64 ((0:Int)-nI (nL v15.2 (qg2 none v5.toNat)) (↑v15.1:Int).toNat)/\((0:Int)<=(↑v15.1:Int)/\(↑v15.1:Int)<(↑(nL v15.2 (qg2 none v5.toNat)).length:Int))/\(↑v15.1:Int).toNat<(nL v15.2 (qg2 none v5.toNat)).length/\fits .i64 ((↑v15.1:Int)+(1:Int))/\∃(v18:Nat × List Q0),xx3 v13.2.2.1 v13.2.1 v18.1 v18.2/\(nL v13.2.2.1 v13.2.1).length-v18.1<(nL v13.2.2.1 v13.2.1).length-v15.1/\(True/\True/\(↑v15.1:Int)+(1:Int)=(↑v18.1:Int)/\True)/\(List.set v15.2 (qg2 none v5.toNat) (List.set (nL v15.2 (qg2 none v5.toNat)) (↑v15.1:Int).toNat ((0:Int)-nI (nL v15.2 (qg2 none v5.toNat)) (↑v15.1:Int).toNat))=v18.2/\True/\T=T)/\v13.2.2.2=v13.2.2.2/\((↑v13.1:Int)=(↑v13.1:Int)/\True)/\True/\True/\True/\True/\True/\True/\True/\True/\True/\True/\True/\True/\True/\True/\True/\True/\True/\True/\True/\True/\True/\True/\True/\True/\True/\True/\True/\True/\True)/\(decide ((↑v15.1:Int)<(↑(nL v2.2.1 (qg2 (some (List.set (ixL v2.2.1.length (some (List.set (ixL v2.2.1.length none) v5.toNat (qg2 none (v5+v9).toNat)))) (v5+v9).toNat (qg2 none v5.toNat))) v5.toNat)).length:Int))=false->∃(v18:Nat × Nat × List Q0 × List Int),∃(v19:Nat × List Q0),q79 v18.2.2.1 v18.2.1 v18.1 v19.1 v19.2/\((True/\True/\True/\(0:Int)=(↑v19.1:Int)/\True)/\(v15.2=v19.2/\True/\T=T)/\v13.2.2.2=v18.2.2.2/\((↑v13.1:Int)=(↑v18.1:Int)/\True)/\True/\True/\True/\True/\True/\True/\True/\True/\True/\True/\True/\True/\True/\True/\True/\True/\True/\True/\True/\True/\True/\True/\True/\True/\True/\True/\True/\True/\True)/\∀(v20:Nat × List Q0),q79 v18.2.2.1 v18.2.1 v18.1 v20.1 v20.2->(decide ((↑v20.1:Int)<(↑(qf5 v15.2.length none):Int))=true->((0:Int)<=(↑v20.1:Int)/\(↑v20.1:Int)<(↑(qf5 v20.2.length none):Int))/\(↑v20.1:Int).toNat<qf5 v20.2.length none/\(((↑v20.1:Int) != v5)=true->((0:Int)<=(↑v18.1:Int)/\(↑v18.1:Int)<(↑(nL v20.2 (qg2 none (↑v20.1:Int).toNat)).length:Int))/\(↑v18.1:Int).toNat<(nL v20.2 (qg2 none (↑v20.1:Int).toNat)).length/\((nI (nL v20.2 (qg2 none (↑v20.1:Int).toNat)) (↑v18.1:Int).toNat != (0:Int))=true->((0:Int)<=v5/\v5<(↑(qf5 v20.2.length none):Int))/\v5.toNat<qf5 v20.2.length none/\qg2 none v5.toNat≠qg2 none (↑v20.1:Int).toNat/\((0:Ty.den tInt)<=(↑v18.1:Int)/\wt8 (nL [qe0 (Ty.list Q1) v20.2 (qg2 none (↑v20.1:Int).toNat)] (0:Nat)) (nL v20.2 (qg2 none v5.toNat)) (↑v18.1:Int).toNat)/\fits .i64 ((↑v20.1:Int)+(1:Int))/\∃(v25:Nat × List Q0),q79 v18.2.2.1 v18.2.1 v18.1 v25.1 v25.2/\v18.2.2.1.length-v25.1<v18.2.2.1.length-v20.1/\(True/\True/\True/\(↑v20.1:Int)+(1:Int)=(↑v25.1:Int)/\True)/\(List.set v20.2 (qg2 none (↑v20.1:Int).toNat) (qe0 (Ty.list Q1) [qy9 (nL [qe0 (Ty.list Q1) v20.2 (qg2 none (↑v20.1:Int).toNat)] (0:Nat)) (nL v20.2 (qg2 none v5.toNat)) (↑v18.1:Int).toNat] (0:Nat))=v25.2/\True/\T=T)/\v18.2.2.2=v18.2.2.2/\((↑v18.1:Int)=(↑v18.1:Int)/\True)/\True/\True/\True/\True/\True/\True/\True/\True/\True/\True/\True/\True/\True/\True/\True/\True/\True/\True/\True/\True/\True/\True/\True/\True/\True/\True/\True/\True/\True)/\((nI (nL v20.2 (qg2 none (↑v20.1:Int).toNat)) (↑v18.1:Int).toNat != (0:Int))=false->fits .i64 ((↑v20.1:Int)+(1:Int))/\∃(v25:Nat × List Q0),q79 v18.2.2.1 v18.2.1 v18.1 v25.1 v25.2/\v18.2.2.1.length-v25.1<v18.2.2.1.length-v20.1/\(True/\True/\True/\(↑v20.1:Int)+(1:Int)=(↑v25.1:Int)/\True)/\(v20.2=v25.2/\True/\T=T)/\v18.2.2.2=v18.2.2.2/\((↑v18.1:Int)=(↑v18.1:Int)/\True)/\True/\True/\True/\True/\True/\True/\True/\True/\True/\True/\True/\True/\True/\True/\True/\True/\True/\True/\True/\True/\True/\True/\True/\True/\True/\True/\True/\True/\True))/\(((↑v20.1:Int) != v5)=false->fits .i64 ((↑v20.1:Int)+(1:Int))/\∃(v24:Nat × List Q0),q79 v18.2.2.1 v18.2.1 v18.1 v24.1 v24.2/\v18.2.2.1.length-v24.1<v18.2.2.1.length-v20.1/\(True/\True/\True/\(↑v20.1:Int)+(1:Int)=(↑v24.1:Int)/\True)/\(v20.2=v24.2/\True/\T=T)/\v18.2.2.2=v18.2.2.2/\((↑v18.1:Int)=(↑v18.1:Int)/\True)/\True/\True/\True/\True/\True/\True/\True/\True/\True/\True/\True/\True/\True/\True/\True/\True/\True/\True/\True/\True/\True/\True/\True/\True/\True/\True/\True/\True/\True))/\(decide ((↑v20.1:Int)<(↑(qf5 v15.2.length none):Int))=false->((0:Nat)<List.length [(↑v18.1:Int)]/\Nat.le (v18.2.2.2.length+List.length [(↑v18.1:Int)]) (1000000:Nat))/\fits .i64 ((↑v2.1:Int)+(1:Int))/\∃(v23:Nat × List Q0 × List Int),w6x rows c.toNat v23.1 v23.2.1 v23.2.2/\c.toNat-v23.1<c.toNat-v2.1/\(True/\True/\(↑v2.1:Int)+(1:Int)=(↑v23.1:Int)/\True)/\(v20.2=v23.2.1/\True/\T=T)/\v18.2.2.2++[(↑v18.1:Int)]=v23.2.2/\True)))/\(decide (nI (nL v2.2.1 (qg2 (some (List.set (ixL v2.2.1.length (some (List.set (ixL v2.2.1.length none) v5.toNat (qg2 none (v5+v9).toNat)))) (v5+v9).toNat (qg2 none v5.toNat))) v5.toNat)) (↑v2.1:Int).toNat<(0:Int))=false->∃(v13:Nat × Nat × List Q0 × List Int),∃(v14:Nat × List Q0),q79 v13.2.2.1 v13.2.1 v13.1 v14.1 v14.2/\(List.Nodup (List.set (ixL v2.2.1.length (some (List.set (ixL v2.2.1.length none) v5.toNat (qg2 none (v5+v9).toNat)))) (v5+v9).toNat (qg2 none v5.toNat))/\(List.set (ixL v2.2.1.length (some (List.set (ixL v2.2.1.length none) v5.toNat (qg2 none (v5+v9).toNat)))) (v5+v9).toNat (qg2 none v5.toNat)).length=v2.2.1.length)/\((True/\True/\True/\(0:Int)=(↑v14.1:Int)/\True)/\(q4x (Ty.int .i64) v2.2.1 (some (List.set (ixL v2.2.1.length (some (List.set (ixL v2.2.1.length none) v5.toNat (qg2 none (v5+v9).toNat)))) (v5+v9).toNat (qg2 none v5.toNat)))=v14.2/\True/\T=T)/\v2.2.2=v13.2.2.2/\((↑v2.1:Int)=(↑v13.1:Int)/\True)/\True/\True/\True/\True/\True/\True/\True/\True/\True/\True/\True/\True/\True/\True/\True/\True/\True/\True/\True/\True/\True/\True/\True/\True/\True/\True/\True/\True/\True)/\∀(v15:Nat × List Q0),q79 v13.2.2.1 v13.2.1 v13.1 v15.1 v15.2->(decide ((↑v15.1:Int)<(↑(qf5 v2.2.1.length (some (List.set (ixL v2.2.1.length (some (List.set (ixL v2.2.1.length none) v5.toNat (qg2 none (v5+v9).toNat)))) (v5+v9).toNat (qg2 none v5.toNat)))):Int))=true->((0:Int)<=(↑v15.1:Int)/\(↑v15.1:Int)<(↑(qf5 v15.2.length none):Int))/\(↑v15.1:Int).toNat<qf5 v15.2.length none/\(((↑v15.1:Int) != v5)=true->((0:Int)<=(↑v13.1:Int)/\(↑v13.1:Int)<(↑(nL v15.2 (qg2 none (↑v15.1:Int).toNat)).length:Int))/\(↑v13.1:Int).toNat<(nL v15.2 (qg2 none (↑v15.1:Int).toNat)).length/\((nI (nL v15.2 (qg2 none (↑v15.1:Int).toNat)) (↑v13.1:Int).toNat != (0:Int))=true->((0:Int)<=v5/\v5<(↑(qf5 v15.2.length none):Int))/\v5.toNat<qf5 v15.2.length none/\qg2 none v5.toNat≠qg2 none (↑v15.1:Int).toNat/\((0:Ty.den tInt)<=(↑v13.1:Int)/\wt8 (nL [qe0 (Ty.list Q1) v15.2 (qg2 none (↑v15.1:Int).toNat)] (0:Nat)) (nL v15.2 (qg2 none v5.toNat)) (↑v13.1:Int).toNat)/\fits .i64 ((↑v15.1:Int)+(1:Int))/\∃(v20:Nat × List Q0),q79 v13.2.2.1 v13.2.1 v13.1 v20.1 v20.2/\v13.2.2.1.length-v20.1<v13.2.2.1.length-v15.1/\(True/\True/\True/\(↑v15.1:Int)+(1:Int)=(↑v20.1:Int)/\True)/\(List.set v15.2 (qg2 none (↑v15.1:Int).toNat) (qe0 (Ty.list Q1) [qy9 (nL [qe0 (Ty.list Q1) v15.2 (qg2 none (↑v15.1:Int).toNat)] (0:Nat)) (nL v15.2 (qg2 none v5.toNat)) (↑v13.1:Int).toNat] (0:Nat))=v20.2/\True/\T=T)/\v13.2.2.2=v13.2.2.2/\((↑v13.1:Int)=(↑v13.1:Int)/\True)/\True/\True/\True/\True/\True/\True/\True/\True/\True/\True/\True/\True/\True/\True/\True/\True/\True/\True/\True/\True/\True/\True/\True/\True/\True/\True/\True/\True/\True)/\((nI (nL v15.2 (qg2 none (↑v15.1:Int).toNat)) (↑v13.1:Int).toNat != (0:Int))=false->fits .i64 ((↑v15.1:Int)+(1:Int))/\∃(v20:Nat × List Q0),q79 v13.2.2.1 v13.2.1 v13.1 v20.1 v20.2/\v13.2.2.1.length-v20.1<v13.2.2.1.length-v15.1/\(True/\True/\True/\(↑v15.1:Int)+(1:Int)=(↑v20.1:Int)/\True)/\(v15.2=v20.2/\True/\T=T)/\v13.2.2.2=v13.2.2.2/\((↑v13.1:Int)=(↑v13.1:Int)/\True)/\True/\True/\True/\True/\True/\True/\True/\True/\True/\True/\True/\True/\True/\True/\True/\True/\True/\True/\True/\True/\True/\True/\True/\True/\True/\True/\True/\True/\True))/\(((↑v15.1:Int) != v5)=false->fits .i64 ((↑v15.1:Int)+(1:Int))/\∃(v19:Nat × List Q0),q79 v13.2.2.1 v13.2.1 v13.1 v19.1 v19.2/\v13.2.2.1.length-v19.1<v13.2.2.1.length-v15.1/\(True/\True/\True/\(↑v15.1:Int)+(1:Int)=(↑v19.1:Int)/\True)/\(v15.2=v19.2/\True/\T=T)/\v13.2.2.2=v13.2.2.2/\((↑v13.1:Int)=(↑v13.1:Int)/\True)/\True/\True/\True/\True/\True/\True/\True/\True/\True/\True/\True/\True/\True/\True/\True/\True/\True/\True/\True/\True/\True/\True/\True/\True/\True/\True/\True/\True/\True))/\(decide ((↑v15.1:Int)<(↑(qf5 v2.2.1.length (some (List.set (ixL v2.2.1.length (some (List.set (ixL v2.2.1.length none) v5.toNat (qg2 none (v5+v9).toNat)))) (v5+v9).toNat (qg2 none v5.toNat)))):Int))=false->((0:Nat)<List.length [(↑v13.1:Int)]/\Nat.le (v13.2.2.2.length+List.length [(↑v13.1:Int)]) (1000000:Nat))/\fits .i64 ((↑v2.1:Int)+(1:Int))/\∃(v18:Nat × List Q0 × List Int),w6x rows c.toNat v18.1 v18.2.1 v18.2.2/\c.toNat-v18.1<c.toNat-v2.1/\(True/\True/\(↑v2.1:Int)+(1:Int)=(↑v18.1:Int)/\True)/\(v15.2=v18.2.1/\True/\T=T)/\v13.2.2.2++[(↑v13.1:Int)]=v18.2.2/\True))))/\(decide ((↑v2.1:Int)<c)=false->v2.2.1=(qb7 rows c.toNat).1/\T=T/\True/\v2.2.2=(qb7 rows c.toNat).2)) ?_
 simp only[wd0,w6y,xx4,xx5,wu7,xc9,wu8,xd0,List.length_set,List.length_range,List.take_length]
 obtain⟨hc0,W,hR⟩:=h
 have hRn:=hR.n
 have hRw:=hR.w
 refine⟨(),(0,rows,[]),⟨zae _,rfl⟩,⟨rfl,rfl,rfl⟩,?_⟩
 rintro⟨j,r0,piv⟩ ⟨hjc,hj⟩
 dsimp only at hjc hj ⊢
 have hsh:=q60 hR j
 rw[hj] at hsh
 have hn:=hsh.cnt
 have hpn:=hsh.piv
 have hpj:=hsh.pivj
 dsimp only at hn hpn hpj
 refine⟨λhlt=>?_,λhge=>?_⟩
 ·have hjl:j<c.toNat:=ow
  have hjW:j<W:=by have:=hR.cw; omega
  rintro k rfl
  have he:=hsh.each
  dsimp only at he
  have hdrop:∀q,q<(r0.drop piv.length).length->j<(nL (r0.drop piv.length) q).length:=λq hq=>by
   rw[List.length_drop] at hq
   have e:nL (r0.drop piv.length) q=nL r0 (piv.length+q):=by
    grind [qm3,List.length_drop]
   grind
  simp only[Int.toNat_natCast]
  refine⟨⟨ow,ow,zab _⟩,λx=>j<x.1.length,λx=>nI x.1 j != 0,λx hx=>⟨hx,rfl⟩,⟨by grind,hdrop⟩,?_⟩
  rintro a ha
  have ha:a=qu8 r0 piv.length j:=ha
  subst ha
  refine⟨λhneg=>?_,λhpos=>?_⟩
  ·refine⟨qa3,(j+1,r0,piv),⟨ow,?_⟩,ow,by rfl,rfl,rfl⟩
   simp_all [qb7,qx7,if_pos]
  have hb:=q2h r0 piv.length j ow hpos
  have hso:x2g r0 piv.length j:=by have:=hR.step j hjl; grind
  have hse:=q8a (W:=W) ow hpos (λi hi=>he i ow)
  have hpe:=q2i (W:=W) ow hpos (λi hi=>he i ow)
  have hab:((piv.length:Int)+qu8 r0 piv.length j).toNat=piv.length+(qu8 r0 piv.length j).toNat:=ow
  simp only[hab]
  have hgd:=xx6 r0.length piv.length (piv.length+(qu8 r0 piv.length j).toNat) ow hb
  have hmap:=x4n r0 piv.length (piv.length+(qu8 r0 piv.length j).toNat) ow hb
  have hnd:=xd1 r0.length piv.length (piv.length+(qu8 r0 piv.length j).toNat) ow hb
  have hk1:nL (q2g r0 piv.length j) piv.length=nL r0 (piv.length+(qu8 r0 piv.length j).toNat):=by
   unfold q2g
   rw[q4k _ _ _ ow hb _ ow]
   grind
  simp only[hgd,hmap]
  rw[<- hk1]
  have hsl:=wk6 r0 piv.length j
  have hkW:=hse piv.length ow
  refine⟨qa3,qa3,ow,ow,ow,ow,ow,ow,ow,ow,ow,ow,ow,ow,λhng=>?_,λhng=>?_⟩
  ·refine⟨ow,ow,(j,piv.length,q2g r0 piv.length j,piv),(0,q2g r0 piv.length j),⟨zae _,?_⟩,⟨hnd,trivial⟩,⟨rfl,rfl,rfl,rfl⟩,?_⟩
   ·dsimp only
    have e:ovr (.int .i64) (λq=>0-nI (nL (q2g r0 piv.length j) piv.length) q) (nL (q2g r0 piv.length j) piv.length) 0=nL (q2g r0 piv.length j) piv.length:=qt0 (.int .i64) _ _
    grind [qm3,List.set_getElem_self]
   rintro⟨i,r⟩ ⟨hi1,hi2⟩
   dsimp only at hi1 hi2 ⊢
   have hrl:r.length=r0.length:=by grind
   have hrk:nL r piv.length=ovr (.int .i64) (λq=>0-nI (nL (q2g r0 piv.length j) piv.length) q) (nL (q2g r0 piv.length j) piv.length) i:=by
    rw[hi2,wk7 _ _ _ _ ow,zao rfl]
   have hrkl:(nL r piv.length).length=W:=by grind [qs5]
   refine⟨λhlt=>?_,λhge=>?_⟩
   ·have hv:nI (nL r piv.length) i=nI (nL (q2g r0 piv.length j) piv.length) i:=by
     rw[hrk]
     exact(q4h (.int .i64) _ _ _ _ hlt).trans (zak (zbw _))
    have hbd:qc0 BIG (nI (nL (q2g r0 piv.length j) piv.length) i):=hso.neg _ (by grind [qf1,List.getElem_mem])
    unfold qc0 BIG at hbd
    rw[hv]
    refine⟨ow,ow,ow,ow,ow,ow,qa3,ow,ow,qa3,(i+1,r.set piv.length ((nL r piv.length).set i (0-nI (nL (q2g r0 piv.length j) piv.length) i))),⟨ow,?_⟩,ow,by rfl,rfl⟩
    dsimp only
    have e:=qq5 (.int .i64) (λq=>0-nI (nL (q2g r0 piv.length j) piv.length) q) (nL (q2g r0 piv.length j) piv.length) i
    simp_all
   ·have hprep:r=qj0 r0 piv.length j:=by
     unfold qj0
     rw[zao hng,hi2]
     refine zbi _ ?_
     exact qx6 (.int .i64) _ _ _ ow
    refine⟨(j,piv.length,qj0 r0 piv.length j,piv),(0,qj0 r0 piv.length j),⟨zae _,(qt0 (.list (.int .i64)) _ _).symm⟩,⟨rfl,hprep,rfl,rfl⟩,?_⟩
    rw[hprep,qm4]
    rintro⟨i,r⟩ ⟨hi1,hi2⟩
    dsimp only at hi1 hi2 ⊢
    have hpl:=qm4 r0 piv.length j
    have hrl:r.length=r0.length:=by rw[hi2,qs5,qm4]
    have hi1:i<=r0.length:=ow
    have hat:∀q,q<r0.length->nL r q=if q<i then wo4 (qj0 r0 piv.length j) piv.length j q else nL (qj0 r0 piv.length j) q:=λq hq=>by
     rw[hi2]; exact q4h (.list (.int .i64)) _ _ _ _ ow
    have hk2:nL r piv.length=nL (qj0 r0 piv.length j) piv.length:=by
     grind [q4m]
    refine⟨λhlt=>?_,λhge=>?_⟩
    ·have hlt:i<r0.length:=ow
     have hri:nL r i=nL (qj0 r0 piv.length j) i:=by grind
     have hw:=hpe i hlt
     refine⟨ow,ow,λhne=>⟨by grind,by grind,λhnz=>?_,λhz=>?_⟩,λheq=>?_⟩
     ·rw[hri] at hnz
      have hne:i≠piv.length:=ow
      have hcl:=hso.clr i hlt hne hnz
      have hcr:wo4 (qj0 r0 piv.length j) piv.length j i=qy9 (nL r i) (nL r piv.length) j:=by
       simp_all [wo4,if_pos]
      refine⟨ow,ow,ow,?_,qa3,(i+1,r.set i (qy9 (nL r i) (nL r piv.length) j)),⟨ow,?_⟩,ow,by rfl,rfl⟩
      ·show wt8 (nL r i) (nL r piv.length) j
       grind
      grind [qq5]
     ·refine⟨qa3,(i+1,r),⟨ow,?_⟩,ow,by rfl,rfl⟩
      dsimp only
      rw[hi2]
      refine q61 (.list (.int .i64)) _ _ _ λ_=>?_
      unfold wo4
      rw[zak]
      ·rfl
      grind
     ·refine⟨qa3,(i+1,r),⟨ow,?_⟩,ow,by rfl,rfl⟩
      dsimp only
      rw[hi2]
      refine q61 (.list (.int .i64)) _ _ _ λ_=>?_
      have e:i=piv.length:=ow
      rw[e]
      exact q4m _ _ _
    ·obtain rfl:i=r0.length:=ow
     refine⟨ow,qa3,(j+1,r,piv++[(j:Int)]),⟨ow,?_⟩,ow,by rfl,rfl,rfl⟩
     rw[qb7,hj,qx7,zak (by grind),hi2]
     refine zbi (·,_) ?_
     rw[<- qm4 r0 piv.length j]
     exact(qx6 (.list (.int .i64)) _ _ _ (zab _)).symm
  ·have hprep:q2g r0 piv.length j=qj0 r0 piv.length j:=by simp_all [qj0,if_neg]
   refine⟨(j,piv.length,qj0 r0 piv.length j,piv),(0,qj0 r0 piv.length j),⟨zae _,(qt0 (.list (.int .i64)) _ _).symm⟩,⟨hnd,trivial⟩,⟨rfl,hprep,rfl,rfl⟩,?_⟩
   rintro⟨i,r⟩ ⟨hi1,hi2⟩
   dsimp only at hi1 hi2 ⊢
   have hpl:=qm4 r0 piv.length j
   have hrl:r.length=r0.length:=by rw[hi2,qs5,qm4]
   have hi1:i<=r0.length:=ow
   have hat:∀q,q<r0.length->nL r q=if q<i then wo4 (qj0 r0 piv.length j) piv.length j q else nL (qj0 r0 piv.length j) q:=λq hq=>by
    rw[hi2]; exact q4h (.list (.int .i64)) _ _ _ _ ow
   have hk2:nL r piv.length=nL (qj0 r0 piv.length j) piv.length:=by
    grind [q4m]
   refine⟨λhlt=>?_,λhge=>?_⟩
   ·have hlt:i<r0.length:=ow
    have hri:nL r i=nL (qj0 r0 piv.length j) i:=by grind
    have hw:=hpe i hlt
    refine⟨ow,ow,λhne=>⟨by grind,by grind,λhnz=>?_,λhz=>?_⟩,λheq=>?_⟩
    ·rw[hri] at hnz
     have hne:i≠piv.length:=ow
     have hcl:=hso.clr i hlt hne hnz
     have hcr:wo4 (qj0 r0 piv.length j) piv.length j i=qy9 (nL r i) (nL r piv.length) j:=by
      simp_all [wo4,if_pos]
     refine⟨ow,ow,ow,?_,qa3,(i+1,r.set i (qy9 (nL r i) (nL r piv.length) j)),⟨ow,?_⟩,ow,by rfl,rfl⟩
     ·show wt8 (nL r i) (nL r piv.length) j
      grind
     grind [qq5]
    ·refine⟨qa3,(i+1,r),⟨ow,?_⟩,ow,by rfl,rfl⟩
     dsimp only
     rw[hi2]
     refine q61 (.list (.int .i64)) _ _ _ λ_=>?_
     unfold wo4
     rw[zak]
     ·rfl
     grind
    ·refine⟨qa3,(i+1,r),⟨ow,?_⟩,ow,by rfl,rfl⟩
     dsimp only
     rw[hi2]
     refine q61 (.list (.int .i64)) _ _ _ λ_=>?_
     have e:i=piv.length:=ow
     rw[e]
     exact q4m _ _ _
   ·obtain rfl:i=r0.length:=ow
    refine⟨ow,qa3,(j+1,r,piv++[(j:Int)]),⟨ow,?_⟩,ow,by rfl,rfl,rfl⟩
    rw[qb7,hj,qx7,zak (by grind),hi2]
    refine zbi (·,_) ?_
    rw[<- qm4 r0 piv.length j]
    exact(qx6 (.list (.int .i64)) _ _ _ (zab _)).symm
 grind
end Go.Proofs.YtnchigbbjajiiaaGreat
