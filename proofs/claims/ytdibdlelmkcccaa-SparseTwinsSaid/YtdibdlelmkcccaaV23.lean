/- The reference's circuits: contracts by the engine. No condition. -/
import Derived.Test.YtdibdlelmkcccaaV22
set_option linter.unusedVariables false
set_option linter.unusedSimpArgs false
namespace Go.Proofs.Ytdibdlelmkcccaa
open Go Go.RowKit Eng
def qi7 (m:List (List Int)) (s:List Int):List (List Int):=qg5 (qi5 m s)
def qp8 (v:List Int):Nat->Bool
 | 0=>true
 | k+1=>qp8 v k && (nI v k != 0)
def q0e (m:List (List Int)) (s:List Int):Bool:=decide (s.length≠0) && decide (s.length<=m.length+1)
def q2l (m:List (List Int)) (n:Nat) (s:List Int):List Int:=qd7 n s (nL (qi7 m s) 0) s.length
def q7a (m:List (List Int)) (n:Nat) (s:List Int):List Int:=if nI (q2l m n s) (nI s 0).toNat<0 then qi9 (q2l m n s) (-1) else q2l m n s
def qt0 (m:List (List Int)) (s:List Int):Bool:=q0e m s && decide ((qi7 m s).length=1) && qp8 (nL (qi7 m s) 0) s.length
def qh7 (m:List (List Int)) (n:Nat) (L:List (List Int)):Nat->List (List Int)
 | 0=>[]
 | c+1=>if qt0 m (nL L c) then qh7 m n L c++[q7a m n (nL L c)] else qh7 m n L c
def qq8 (m:List (List Int)):List (List Int) × Int:=if qd3 m=false then([],1) else(qh7 m (nL m 0).length (qe0 (nL m 0).length) (qe0 (nL m 0).length).length,0)
structure x4o (m:List (List Int)):Prop where
 n7:(nL m 0).length<=7
 kr:∀s∈qe0 (nL m 0).length,q0e m s=true->xl8 (qi5 m s)/\w5u m s
structure wk7 (m:List (List Int)):Prop where
 fit:q6o m
 ok:qd3 m=true->x4o m
theorem q86 (m:List (List Int)) (n:Nat) (L:List (List Int)):∀c,(qh7 m n L c).length<=c
 | 0=>Nat.le_refl _
 | c+1=>by
  have:=q86 m n L c
  rw[qh7]
  split
  ·simp; omega
  ·omega
theorem q4j {d:List (List Int)} {P:List Int} {n:Nat} (h:xv1 d P n) (hn:n<=1000):∀f,f<=n->∀x∈qh8 d P n f,x.length=n/\q3x x
 | 0,_,x,hx=>by cases hx
 | f+1,hf,x,hx=>by
  rw[qh8] at hx
  split at hx
  ·rename_i hfree
   rcases List.mem_append.1 hx with hx | hx
   ·exact q4j h hn f (by omega) x hx
   ·obtain rfl:=List.mem_singleton.1 hx
    refine⟨by rw[qn6,q3l],by rw[qn6,q3l]; exact hn,λx hx=>?_⟩
    obtain⟨y,hy,rfl⟩:=List.mem_map.1 hx
    exact ql4 (wb3 h (by omega) hfree _ (Nat.le_refl _) y hy)
  ·exact q4j h hn f (by omega) x hx
theorem wq5 {rows:List (List Int)} (h:xl8 rows) (x:List Int) (hx:x∈qg5 rows):x.length=rdW rows/\q3x x:=
 q4j h.ar h.rd.w _ (Nat.le_refl _) x hx
theorem w9c {m:List (List Int)} (hm:0<m.length) (s:List Int):rdW (qi5 m s)=s.length:=by
 unfold rdW
 rw[qp7 m s 0 hm,ql7]
abbrev x4p:qc9:=qh6 false none [qk0] [qk0,qg1] (λx=>wk7 x.1) (λx=>((qq8 x.1).1,(qq8 x.1).2,()))
def x00 (m:List (List Int)) (n:Nat):Nat->Option Inv
 | 0=>some (Inv.of [4,21] 1 (λc:Nat=>[(4,.own 0),(21,.lit (.int .i64 c))]) (λc=>[.vec 24 (.list (.int .i64)) (qh7 m n (qe0 n) c)]) (λc=>c<=(qe0 n).length) (λc=>(qe0 n).length-c))
 | 1=>some (Eng.Inv.mk (Nat × List Int) Nat [4,8,9,50] 2 (λq k=>[(4,.own 0),(8,.own 1),(9,.lit (.bool (qp8 (nL (qi7 m q.2) 0) k))),(50,.lit (.int .i64 k))]) (λq k=>[.vec 24 (.list (.int .i64)) (qh7 m n (qe0 n) q.1),.vec 3 (.int .i64) (qd7 n q.2 (nL (qi7 m q.2) 0) k)]) (λq k=>k<=q.2.length) (λq k=>q.2.length-k))
 | _=>none
theorem w51:qe1 Try.prog 99 x4p:=by
 refine meets (snd (SpecsOk.cons q5h (SpecsOk.cons wp8 (SpecsOk.cons w17 (SpecsOk.cons w88 (SpecsOk.cons wk1 (SpecsOk.nil _))))))) Try.func99 rfl rfl (λx=>x00 x.1 (nL x.1 0).length) (λ_=>by kernel_rfl) (by decide) ?_
 rintro⟨m,⟨⟩⟩ h
 revert m
 intro(m:List (List Int)) (h:wk7 m)
 refine qe6 (B:=q6o m/\((!qd3 m)=true->Prod.fst (qq8 m)=[]/\(1:Int)=Prod.snd (qq8 m)/\True)/\((!qd3 m)=false->((0:Int)<=(0:Int)/\(0:Int)<(↑(List.length m):Int))/\((0:Ty.den qg1)<=(↑(List.length (qa3 (Ty.list (Ty.int .i64)) m (0:Nat))):Int)/\(↑(List.length (qa3 (Ty.list (Ty.int .i64)) m (0:Nat))):Int)<=(7:Ty.den qg1))/\∃(v1:Unit),∃(v2:Nat),Nat.le v2 (List.length (qe0 (List.length (nL m (0:Nat)))))/\((True/\(0:Int)=(↑v2:Int)/\True)/\qh7 m (List.length (nL m (0:Nat))) (qe0 (List.length (nL m (0:Nat)))) v2=[]/\True)/\∀(v3:Nat),Nat.le v3 (List.length (qe0 (List.length (nL m (0:Nat)))))->(decide ((↑v3:Int)<(↑(List.length (qe0 (Int.toNat (↑(List.length (qa3 (Ty.list (Ty.int .i64)) m (0:Nat))):Int)))):Int))=true->((0:Int)<=(↑v3:Int)/\(↑v3:Int)<(↑(List.length (qe0 (Int.toNat (↑(List.length (qa3 (Ty.list (Ty.int .i64)) m (0:Nat))):Int)))):Int))/\(((↑(List.length (qa3 (Ty.list (Ty.int .i64)) (qe0 (Int.toNat (↑(List.length (qa3 (Ty.list (Ty.int .i64)) m (0:Nat))):Int))) (Int.toNat (↑v3:Int)))):Int)==(0:Int))=true->fits .i64 ((↑v3:Int)+(1:Int))/\∃(v7:Nat),Nat.le v7 (List.length (qe0 (List.length (nL m (0:Nat)))))/\List.length (qe0 (List.length (nL m (0:Nat))))-v7<List.length (qe0 (List.length (nL m (0:Nat))))-v3/\(True/\(↑v3:Int)+(1:Int)=(↑v7:Int)/\True)/\qh7 m (List.length (nL m (0:Nat))) (qe0 (List.length (nL m (0:Nat)))) v3=qh7 m (List.length (nL m (0:Nat))) (qe0 (List.length (nL m (0:Nat)))) v7/\True)/\(((↑(List.length (qa3 (Ty.list (Ty.int .i64)) (qe0 (Int.toNat (↑(List.length (qa3 (Ty.list (Ty.int .i64)) m (0:Nat))):Int))) (Int.toNat (↑v3:Int)))):Int)==(0:Int))=false->fits .i64 ((↑(List.length m):Int)+(1:Int))/\(decide ((↑(List.length m):Int)+(1:Int)<(↑(List.length (qa3 (Ty.list (Ty.int .i64)) (qe0 (Int.toNat (↑(List.length (qa3 (Ty.list (Ty.int .i64)) m (0:Nat))):Int))) (Int.toNat (↑v3:Int)))):Int))=true->fits .i64 ((↑v3:Int)+(1:Int))/\∃(v8:Nat),Nat.le v8 (List.length (qe0 (List.length (nL m (0:Nat)))))/\List.length (qe0 (List.length (nL m (0:Nat))))-v8<List.length (qe0 (List.length (nL m (0:Nat))))-v3/\(True/\(↑v3:Int)+(1:Int)=(↑v8:Int)/\True)/\qh7 m (List.length (nL m (0:Nat))) (qe0 (List.length (nL m (0:Nat)))) v3=qh7 m (List.length (nL m (0:Nat))) (qe0 (List.length (nL m (0:Nat)))) v8/\True)/\(decide ((↑(List.length m):Int)+(1:Int)<(↑(List.length (qa3 (Ty.list (Ty.int .i64)) (qe0 (Int.toNat (↑(List.length (qa3 (Ty.list (Ty.int .i64)) m (0:Nat))):Int))) (Int.toNat (↑v3:Int)))):Int))=false->w5u m (qa3 (Ty.list (Ty.int .i64)) (qe0 (Int.toNat (↑(List.length (qa3 (Ty.list (Ty.int .i64)) m (0:Nat))):Int))) (Int.toNat (↑v3:Int)))/\xl8 (qi5 m (qa3 (Ty.list (Ty.int .i64)) (qe0 (Int.toNat (↑(List.length (qa3 (Ty.list (Ty.int .i64)) m (0:Nat))):Int))) (Int.toNat (↑v3:Int))))/\(((↑(List.length (qg5 (qi5 m (qa3 (Ty.list (Ty.int .i64)) (qe0 (Int.toNat (↑(List.length (qa3 (Ty.list (Ty.int .i64)) m (0:Nat))):Int))) (Int.toNat (↑v3:Int)))))):Int) != (1:Int))=true->fits .i64 ((↑v3:Int)+(1:Int))/\∃(v9:Nat),Nat.le v9 (List.length (qe0 (List.length (nL m (0:Nat)))))/\List.length (qe0 (List.length (nL m (0:Nat))))-v9<List.length (qe0 (List.length (nL m (0:Nat))))-v3/\(True/\(↑v3:Int)+(1:Int)=(↑v9:Int)/\True)/\qh7 m (List.length (nL m (0:Nat))) (qe0 (List.length (nL m (0:Nat)))) v3=qh7 m (List.length (nL m (0:Nat))) (qe0 (List.length (nL m (0:Nat)))) v9/\True)/\(((↑(List.length (qg5 (qi5 m (qa3 (Ty.list (Ty.int .i64)) (qe0 (Int.toNat (↑(List.length (qa3 (Ty.list (Ty.int .i64)) m (0:Nat))):Int))) (Int.toNat (↑v3:Int)))))):Int) != (1:Int))=false->((0:Int)<=(0:Int)/\(0:Int)<(↑(List.length m):Int))/\((↑(List.length (qa3 (Ty.list (Ty.int .i64)) m (0:Nat))):Int)=(↑(List.length (qa3 (Ty.list (Ty.int .i64)) m (0:Nat))):Int)/\(0:Int)<=(↑(List.length (qa3 (Ty.list (Ty.int .i64)) m (0:Nat))):Int)/\(↑(List.length (qa3 (Ty.list (Ty.int .i64)) m (0:Nat))):Int)<=(1000000:Int))/\∃(v9:Nat × List Int),∃(v10:Nat),Nat.le v10 (List.length (Prod.snd v9))/\((True/\True/\true=qp8 (nL (qi7 m (Prod.snd v9)) (0:Nat)) v10/\(0:Int)=(↑v10:Int)/\True)/\qh7 m (List.length (nL m (0:Nat))) (qe0 (List.length (nL m (0:Nat)))) v3=qh7 m (List.length (nL m (0:Nat))) (qe0 (List.length (nL m (0:Nat)))) (Prod.fst v9)/\List.replicate (Int.toNat (↑(List.length (qa3 (Ty.list (Ty.int .i64)) m (0:Nat))):Int)) (Ty.dflt (TI.ty T3))=qd7 (List.length (nL m (0:Nat))) (Prod.snd v9) (nL (qi7 m (Prod.snd v9)) (0:Nat)) v10/\True)/\∀(v11:Nat),Nat.le v11 (List.length (Prod.snd v9))->(decide ((↑v11:Int)<(↑(List.length (qa3 (Ty.list (Ty.int .i64)) (qe0 (Int.toNat (↑(List.length (qa3 (Ty.list (Ty.int .i64)) m (0:Nat))):Int))) (Int.toNat (↑v3:Int)))):Int))=true->((0:Int)<=(↑v11:Int)/\(↑v11:Int)<(↑(List.length (qa3 (Ty.list (Ty.int .i64)) (qe0 (Int.toNat (↑(List.length (qa3 (Ty.list (Ty.int .i64)) m (0:Nat))):Int))) (Int.toNat (↑v3:Int)))):Int))/\((0:Int)<=(0:Int)/\(0:Int)<(↑(List.length (qg5 (qi5 m (qa3 (Ty.list (Ty.int .i64)) (qe0 (Int.toNat (↑(List.length (qa3 (Ty.list (Ty.int .i64)) m (0:Nat))):Int))) (Int.toNat (↑v3:Int)))))):Int))/\((0:Int)<=(↑v11:Int)/\(↑v11:Int)<(↑(List.length (qa3 (Ty.list (Ty.int .i64)) (qg5 (qi5 m (qa3 (Ty.list (Ty.int .i64)) (qe0 (Int.toNat (↑(List.length (qa3 (Ty.list (Ty.int .i64)) m (0:Nat))):Int))) (Int.toNat (↑v3:Int))))) (0:Nat))):Int))/\((0:Int)<=qa3 (Ty.int .i64) (qa3 (Ty.list (Ty.int .i64)) (qe0 (Int.toNat (↑(List.length (qa3 (Ty.list (Ty.int .i64)) m (0:Nat))):Int))) (Int.toNat (↑v3:Int))) (Int.toNat (↑v11:Int))/\qa3 (Ty.int .i64) (qa3 (Ty.list (Ty.int .i64)) (qe0 (Int.toNat (↑(List.length (qa3 (Ty.list (Ty.int .i64)) m (0:Nat))):Int))) (Int.toNat (↑v3:Int))) (Int.toNat (↑v11:Int))<(↑(List.length (qd7 (List.length (nL m (0:Nat))) (Prod.snd v9) (nL (qi7 m (Prod.snd v9)) (0:Nat)) v11)):Int))/\Int.toNat (qa3 (Ty.int .i64) (qa3 (Ty.list (Ty.int .i64)) (qe0 (Int.toNat (↑(List.length (qa3 (Ty.list (Ty.int .i64)) m (0:Nat))):Int))) (Int.toNat (↑v3:Int))) (Int.toNat (↑v11:Int)))<List.length (qd7 (List.length (nL m (0:Nat))) (Prod.snd v9) (nL (qi7 m (Prod.snd v9)) (0:Nat)) v11)/\(qp8 (nL (qi7 m (Prod.snd v9)) (0:Nat)) v11=true->((0:Int)<=(0:Int)/\(0:Int)<(↑(List.length (qg5 (qi5 m (qa3 (Ty.list (Ty.int .i64)) (qe0 (Int.toNat (↑(List.length (qa3 (Ty.list (Ty.int .i64)) m (0:Nat))):Int))) (Int.toNat (↑v3:Int)))))):Int))/\((0:Int)<=(↑v11:Int)/\(↑v11:Int)<(↑(List.length (qa3 (Ty.list (Ty.int .i64)) (qg5 (qi5 m (qa3 (Ty.list (Ty.int .i64)) (qe0 (Int.toNat (↑(List.length (qa3 (Ty.list (Ty.int .i64)) m (0:Nat))):Int))) (Int.toNat (↑v3:Int))))) (0:Nat))):Int))/\fits .i64 ((↑v11:Int)+(1:Int))/\∃(v15:Nat),Nat.le v15 (List.length (Prod.snd v9))/\List.length (Prod.snd v9)-v15<List.length (Prod.snd v9)-v11/\(True/\True/\(qa3 (Ty.int .i64) (qa3 (Ty.list (Ty.int .i64)) (qg5 (qi5 m (qa3 (Ty.list (Ty.int .i64)) (qe0 (Int.toNat (↑(List.length (qa3 (Ty.list (Ty.int .i64)) m (0:Nat))):Int))) (Int.toNat (↑v3:Int))))) (0:Nat)) (Int.toNat (↑v11:Int)) != (0:Int))=qp8 (nL (qi7 m (Prod.snd v9)) (0:Nat)) v15/\(↑v11:Int)+(1:Int)=(↑v15:Int)/\True)/\qh7 m (List.length (nL m (0:Nat))) (qe0 (List.length (nL m (0:Nat)))) (Prod.fst v9)=qh7 m (List.length (nL m (0:Nat))) (qe0 (List.length (nL m (0:Nat)))) (Prod.fst v9)/\List.set (qd7 (List.length (nL m (0:Nat))) (Prod.snd v9) (nL (qi7 m (Prod.snd v9)) (0:Nat)) v11) (Int.toNat (qa3 (Ty.int .i64) (qa3 (Ty.list (Ty.int .i64)) (qe0 (Int.toNat (↑(List.length (qa3 (Ty.list (Ty.int .i64)) m (0:Nat))):Int))) (Int.toNat (↑v3:Int))) (Int.toNat (↑v11:Int)))) (qa3 (Ty.int .i64) (qa3 (Ty.list (Ty.int .i64)) (qg5 (qi5 m (qa3 (Ty.list (Ty.int .i64)) (qe0 (Int.toNat (↑(List.length (qa3 (Ty.list (Ty.int .i64)) m (0:Nat))):Int))) (Int.toNat (↑v3:Int))))) (0:Nat)) (Int.toNat (↑v11:Int)))=qd7 (List.length (nL m (0:Nat))) (Prod.snd v9) (nL (qi7 m (Prod.snd v9)) (0:Nat)) v15/\True)/\(qp8 (nL (qi7 m (Prod.snd v9)) (0:Nat)) v11=false->fits .i64 ((↑v11:Int)+(1:Int))/\∃(v15:Nat),Nat.le v15 (List.length (Prod.snd v9))/\List.length (Prod.snd v9)-v15<List.length (Prod.snd v9)-v11/\(True/\True/\false=qp8 (nL (qi7 m (Prod.snd v9)) (0:Nat)) v15/\(↑v11:Int)+(1:Int)=(↑v15:Int)/\True)/\qh7 m (List.length (nL m (0:Nat))) (qe0 (List.length (nL m (0:Nat)))) (Prod.fst v9)=qh7 m (List.length (nL m (0:Nat))) (qe0 (List.length (nL m (0:Nat)))) (Prod.fst v9)/\List.set (qd7 (List.length (nL m (0:Nat))) (Prod.snd v9) (nL (qi7 m (Prod.snd v9)) (0:Nat)) v11) (Int.toNat (qa3 (Ty.int .i64) (qa3 (Ty.list (Ty.int .i64)) (qe0 (Int.toNat (↑(List.length (qa3 (Ty.list (Ty.int .i64)) m (0:Nat))):Int))) (Int.toNat (↑v3:Int))) (Int.toNat (↑v11:Int)))) (qa3 (Ty.int .i64) (qa3 (Ty.list (Ty.int .i64)) (qg5 (qi5 m (qa3 (Ty.list (Ty.int .i64)) (qe0 (Int.toNat (↑(List.length (qa3 (Ty.list (Ty.int .i64)) m (0:Nat))):Int))) (Int.toNat (↑v3:Int))))) (0:Nat)) (Int.toNat (↑v11:Int)))=qd7 (List.length (nL m (0:Nat))) (Prod.snd v9) (nL (qi7 m (Prod.snd v9)) (0:Nat)) v15/\True))/\(decide ((↑v11:Int)<(↑(List.length (qa3 (Ty.list (Ty.int .i64)) (qe0 (Int.toNat (↑(List.length (qa3 (Ty.list (Ty.int .i64)) m (0:Nat))):Int))) (Int.toNat (↑v3:Int)))):Int))=false->((!qp8 (nL (qi7 m (Prod.snd v9)) (0:Nat)) v11)=true->fits .i64 ((↑v3:Int)+(1:Int))/\∃(v15:Nat),Nat.le v15 (List.length (qe0 (List.length (nL m (0:Nat)))))/\List.length (qe0 (List.length (nL m (0:Nat))))-v15<List.length (qe0 (List.length (nL m (0:Nat))))-v3/\(True/\(↑v3:Int)+(1:Int)=(↑v15:Int)/\True)/\qh7 m (List.length (nL m (0:Nat))) (qe0 (List.length (nL m (0:Nat)))) (Prod.fst v9)=qh7 m (List.length (nL m (0:Nat))) (qe0 (List.length (nL m (0:Nat)))) v15/\True)/\((!qp8 (nL (qi7 m (Prod.snd v9)) (0:Nat)) v11)=false->((0:Int)<=(0:Int)/\(0:Int)<(↑(List.length (qa3 (Ty.list (Ty.int .i64)) (qe0 (Int.toNat (↑(List.length (qa3 (Ty.list (Ty.int .i64)) m (0:Nat))):Int))) (Int.toNat (↑v3:Int)))):Int))/\((0:Int)<=qa3 (Ty.int .i64) (qa3 (Ty.list (Ty.int .i64)) (qe0 (Int.toNat (↑(List.length (qa3 (Ty.list (Ty.int .i64)) m (0:Nat))):Int))) (Int.toNat (↑v3:Int))) (0:Nat)/\qa3 (Ty.int .i64) (qa3 (Ty.list (Ty.int .i64)) (qe0 (Int.toNat (↑(List.length (qa3 (Ty.list (Ty.int .i64)) m (0:Nat))):Int))) (Int.toNat (↑v3:Int))) (0:Nat)<(↑(List.length (qd7 (List.length (nL m (0:Nat))) (Prod.snd v9) (nL (qi7 m (Prod.snd v9)) (0:Nat)) v11)):Int))/\Int.toNat (qa3 (Ty.int .i64) (qa3 (Ty.list (Ty.int .i64)) (qe0 (Int.toNat (↑(List.length (qa3 (Ty.list (Ty.int .i64)) m (0:Nat))):Int))) (Int.toNat (↑v3:Int))) (0:Nat))<List.length (qd7 (List.length (nL m (0:Nat))) (Prod.snd v9) (nL (qi7 m (Prod.snd v9)) (0:Nat)) v11)/\(decide (qa3 (Ty.int .i64) (qd7 (List.length (nL m (0:Nat))) (Prod.snd v9) (nL (qi7 m (Prod.snd v9)) (0:Nat)) v11) (Int.toNat (qa3 (Ty.int .i64) (qa3 (Ty.list (Ty.int .i64)) (qe0 (Int.toNat (↑(List.length (qa3 (Ty.list (Ty.int .i64)) m (0:Nat))):Int))) (Int.toNat (↑v3:Int))) (0:Nat)))<(0:Int))=true->w5t (qd7 (List.length (nL m (0:Nat))) (Prod.snd v9) (nL (qi7 m (Prod.snd v9)) (0:Nat)) v11) (-1:Int)/\((0:Nat)<List.length [qi9 (qd7 (List.length (nL m (0:Nat))) (Prod.snd v9) (nL (qi7 m (Prod.snd v9)) (0:Nat)) v11) (-1:Int)]/\Nat.le (List.length (qh7 m (List.length (nL m (0:Nat))) (qe0 (List.length (nL m (0:Nat)))) (Prod.fst v9))+List.length [qi9 (qd7 (List.length (nL m (0:Nat))) (Prod.snd v9) (nL (qi7 m (Prod.snd v9)) (0:Nat)) v11) (-1:Int)]) (1000000:Nat))/\fits .i64 ((↑v3:Int)+(1:Int))/\∃(v16:Nat),Nat.le v16 (List.length (qe0 (List.length (nL m (0:Nat)))))/\List.length (qe0 (List.length (nL m (0:Nat))))-v16<List.length (qe0 (List.length (nL m (0:Nat))))-v3/\(True/\(↑v3:Int)+(1:Int)=(↑v16:Int)/\True)/\qh7 m (List.length (nL m (0:Nat))) (qe0 (List.length (nL m (0:Nat)))) (Prod.fst v9)++[qi9 (qd7 (List.length (nL m (0:Nat))) (Prod.snd v9) (nL (qi7 m (Prod.snd v9)) (0:Nat)) v11) (-1:Int)]=qh7 m (List.length (nL m (0:Nat))) (qe0 (List.length (nL m (0:Nat)))) v16/\True)/\(decide (qa3 (Ty.int .i64) (qd7 (List.length (nL m (0:Nat))) (Prod.snd v9) (nL (qi7 m (Prod.snd v9)) (0:Nat)) v11) (Int.toNat (qa3 (Ty.int .i64) (qa3 (Ty.list (Ty.int .i64)) (qe0 (Int.toNat (↑(List.length (qa3 (Ty.list (Ty.int .i64)) m (0:Nat))):Int))) (Int.toNat (↑v3:Int))) (0:Nat)))<(0:Int))=false->((0:Nat)<(0:Nat)+(1:Nat)/\Nat.le (List.length (qh7 m (List.length (nL m (0:Nat))) (qe0 (List.length (nL m (0:Nat)))) (Prod.fst v9))+((0:Nat)+(1:Nat))) (1000000:Nat))/\fits .i64 ((↑v3:Int)+(1:Int))/\∃(v16:Nat),Nat.le v16 (List.length (qe0 (List.length (nL m (0:Nat)))))/\List.length (qe0 (List.length (nL m (0:Nat))))-v16<List.length (qe0 (List.length (nL m (0:Nat))))-v3/\(True/\(↑v3:Int)+(1:Int)=(↑v16:Int)/\True)/\qh7 m (List.length (nL m (0:Nat))) (qe0 (List.length (nL m (0:Nat)))) (Prod.fst v9)++[qd7 (List.length (nL m (0:Nat))) (Prod.snd v9) (nL (qi7 m (Prod.snd v9)) (0:Nat)) v11]=qh7 m (List.length (nL m (0:Nat))) (qe0 (List.length (nL m (0:Nat)))) v16/\True)))))))/\(decide ((↑v3:Int)<(↑(List.length (qe0 (Int.toNat (↑(List.length (qa3 (Ty.list (Ty.int .i64)) m (0:Nat))):Int)))):Int))=false->qh7 m (List.length (nL m (0:Nat))) (qe0 (List.length (nL m (0:Nat)))) v3=Prod.fst (qq8 m)/\(0:Int)=Prod.snd (qq8 m)/\True))) (by kernel_rfl) ?_
 try simp only[z0,z1,z2,z3,z4,z5,z6,z7,z8,z9,z10,Int.reduceEq,z11,z12,z13,z14,z15,z16,z17,z18,z19,z20,z21,z22,z23,z24,z25,z26,z27,z28,z29,z30,Int.reduceLE,Int.reduceLT,z31,z32,z33,z34,qa4]
 try simp only[qb8,qb9,qd2,List.set_cons_zero,List.cons.injEq,and_true,true_and]
 refine⟨h.fit,λhv=>by simp[qq8,hv],λhv=>?_⟩
 have hM:=Mk.of hv
 have hO:=h.ok hv
 have hm1:=hM.rows1
 have hm6:=hM.rows6
 have hn7:=hO.n7
 have hkr:=hO.kr
 have hR:qq8 m=(qh7 m (nL m 0).length (qe0 (nL m 0).length) (qe0 (nL m 0).length).length,0):=by simp[qq8,hv]
 rw[hR]
 have hst:=q3k (n:=(nL m 0).length) (k:=128) hn7 (Nat.le_refl _)
 change(qe0 (nL m 0).length).length<=128/\∀s∈qe0 (nL m 0).length,_ at hst
 obtain⟨hsl,hsm⟩:=hst
 generalize hnn:(nL m 0).length=n at *
 simp only[show ∀x,qg5 (qi5 m x)=qi7 m x from λ_=>rfl]
 clear hR
 generalize qe0 n=SA at *
 refine⟨by omega,by omega,(),0,Nat.zero_le _,⟨rfl,rfl⟩,λc hc=>⟨λhlt=>?_,λhge=>?_⟩⟩
 ·have hcl:=q86 m n SA c
  have hs2:=hsm _ (qo5 SA c hlt)
  have hk2:=hkr _ (qo5 SA c hlt)
  obtain⟨s,hs⟩:∃s,nL SA c=s:=⟨_,rfl⟩
  rw[hs] at hs2 hk2 ⊢
  have hs1:=hs2.1
  have no:qt0 m s=false->qh7 m n SA c=qh7 m n SA (c+1):=λq=>by
   rw[qh7,hs,if_neg (by rw[q]; decide)]
  have nok:q0e m s=false->qt0 m s=false:=λq=>by simp[qt0,q]
  refine⟨hlt,λh0=>⟨qa8 (by omega) (by omega),c+1,hlt,by omega,by omega,no (nok ?_)⟩,λh0=>⟨qa8 (by omega) (by omega),λh1=>⟨qa8 (by omega) (by omega),c+1,hlt,by omega,by omega,no (nok ?_)⟩,λh1=>?_⟩⟩
  ·have:s.length=0:=by omega
   simp[q0e,this]
  ·have:¬s.length<=m.length+1:=by omega
   simp[q0e,this]
  have hok:q0e m s=true:=by
   unfold q0e
   rw[Bool.and_eq_true,decide_eq_true_eq,decide_eq_true_eq]
   omega
  obtain⟨hK,hC⟩:=hk2 hok
  refine⟨hC,hK,λh2=>⟨qa8 (by omega) (by omega),c+1,hlt,by omega,by omega,no ?_⟩,λh2=>?_⟩
  ·have:¬(qi7 m s).length=1:=by omega
   simp[qt0,this]
  have h2:(qi7 m s).length=1:=by omega
  have hkm:=wq5 hK (nL (qi7 m s) 0) (qo5 (qi7 m s) 0 (by omega))
  rw[w9c (by omega)] at hkm
  obtain⟨hkl,hkb⟩:=hkm
  have hat:∀j,j<s.length->0<=nI s j/\nI s j<n:=λj hj=>hs2.2 _ (by rw[qh9 s j hj]; exact List.getElem_mem hj)
  have hat':∀j i,j<s.length->0<=nI s j/\nI s j<((qd7 n s (nL (qi7 m s) 0) i).length:Int):=λj i hj=>by
   have:=hat j hj
   rw[qk1]; exact this
  refine⟨by omega,by omega,(c,s),0,Nat.zero_le _,⟨⟨rfl,rfl⟩,rfl,rfl⟩,λj hj=>⟨λhjl=>?_,λhjl=>?_⟩⟩
  ·dsimp only at hj ⊢
   have ha:=hat' j j hjl
   refine⟨hjl,by omega,by omega,ha,by omega,λhw=>⟨by omega,by omega,qa8 (by omega) (by omega),j+1,hjl,by omega,⟨by rw[qp8,hw,Bool.true_and],by omega⟩,rfl⟩,λhw=>⟨qa8 (by omega) (by omega),j+1,hjl,by omega,⟨by rw[qp8,hw,Bool.false_and],by omega⟩,rfl⟩⟩
  ·dsimp only at hj ⊢
   obtain rfl:j=s.length:=by omega
   refine⟨λhw=>⟨qa8 (by omega) (by omega),c+1,hlt,by omega,by omega,no (by simp[qt0,hw])⟩,λhw=>?_⟩
   have yes:qt0 m s=true:=by simp[qt0,hok,h2,hw]
   have hsb:q3x (qd7 n s (nL (qi7 m s) 0) s.length):=q03 hkb (by omega) hkl _ (Nat.le_refl _)
   have ha:=hat' 0 s.length (by omega)
   have hst:=qk1 n s (nL (qi7 m s) 0) s.length
   refine⟨by omega,ha,by omega,λhng=>⟨⟨hsb.1,λi hi=>?_⟩,by omega,qa8 (by omega) (by omega),c+1,hlt,by omega,by omega,?_⟩,λhng=>⟨by omega,qa8 (by omega) (by omega),c+1,hlt,by omega,by omega,?_⟩⟩
   ·have:=qz4 hsb hi
    unfold qf3 at *
    omega
   ·rw[qh7,hs,if_pos yes,q7a]
    rw[if_pos (show nI (q2l m n s) (nI s 0).toNat<0 from hng)]
    rfl
   ·rw[qh7,hs,if_pos yes,q7a]
    rw[if_neg (show ¬nI (q2l m n s) (nI s 0).toNat<0 from by show ¬nI (qd7 n s (nL (qi7 m s) 0) s.length) (nI s 0).toNat<0; omega)]
    rfl
 ·obtain rfl:c=SA.length:=by omega
  exact⟨rfl,by first | rfl | trivial⟩
def qg0 (m:List (List Int)):List Int × Int:=if(qq8 m).2≠0 then([],(qq8 m).2) else if(qq8 m).1=[] then([],8) else(nL (qq8 m).1 0,0)
abbrev xr9:qc9:=qh6 false none [qk0] [qf6,qg1] (λx=>wk7 x.1) (λx=>((qg0 x.1).1,(qg0 x.1).2,()))
theorem wq6:qe1 Try.prog 67 xr9:=by
 refine meets (snd (SpecsOk.cons w51 (SpecsOk.nil _))) Try.func67 rfl rfl (λ_ _=>none) (λ_=>by kernel_rfl) (by decide) ?_
 rintro⟨m,⟨⟩⟩ h
 revert m
 intro(m:List (List Int)) (h:wk7 m)
 refine qe6 (B:=wk7 m/\((Prod.snd (qq8 m) != (0:Int))=true->Prod.fst (qg0 m)=[]/\Prod.snd (qq8 m)=Prod.snd (qg0 m)/\True)/\((Prod.snd (qq8 m) != (0:Int))=false->(((↑(List.length (Prod.fst (qq8 m))):Int)==(0:Int))=true->Prod.fst (qg0 m)=[]/\(8:Int)=Prod.snd (qg0 m)/\True)/\(((↑(List.length (Prod.fst (qq8 m))):Int)==(0:Int))=false->((0:Int)<=(0:Int)/\(0:Int)<(↑(List.length (Prod.fst (qq8 m))):Int))/\qa3 (Ty.list (Ty.int .i64)) (Prod.fst (qq8 m)) (0:Nat)=Prod.fst (qg0 m)/\(0:Int)=Prod.snd (qg0 m)/\True))) (by kernel_rfl) ?_
 try simp only[z0,z1,z2,z3,z4,z5,z6,z7,z8,z9,z10,Int.reduceEq,z11,z12,z13,z14,z15,z16,z17,z18,z19,z20,z21,z22,z23,z24,z25,z26,z27,z28,z29,z30,Int.reduceLE,Int.reduceLT,z31,z32,z33,z34,qa4]
 try simp only[qb8,qb9,qd2,List.set_cons_zero,List.cons.injEq,and_true,true_and]
 refine⟨h,λhe=>by simp[qg0,he],λhe=>⟨λh0=>?_,λh0=>?_⟩⟩
 ·have e:(qq8 m).1=[]:=List.eq_nil_of_length_eq_zero (by omega)
  simp[qg0,he,e]
 ·have e:¬(qq8 m).1=[]:=λe=>by rw[e] at h0; exact h0 rfl
  unfold qg0
  rw[if_neg (λq=>q he),if_neg e]
  exact⟨by omega,rfl,rfl⟩
def qi0 (m:List (List Int)):Int × Int:=if(qg0 m).2≠0 then(0,(qg0 m).2) else((nzTo (qg0 m).1 (qg0 m).1.length:Int),0)
structure w7e (m:List (List Int)):Prop where
 cr:wk7 m
 len:(qg0 m).1.length<=1000
abbrev xh9:qc9:=qh6 true none [qk0] [qg1,qg1] (λx=>w7e x.1) (λx=>((qi0 x.1).1,(qi0 x.1).2,()))
def w9d (l:List Int):Nat->Option Inv
 | 0=>some (Inv.of [6,19] 0 (λk:Nat=>[(6,.lit (.int .i64 (nzTo l k))),(19,.lit (.int .i64 k))]) (λ_=>[]) (λk=>k<=l.length) (λk=>l.length-k))
 | _=>none
theorem q4y:qe1 Try.prog 35 xh9:=by
 refine meets (snd (SpecsOk.cons wq6 (SpecsOk.nil _))) Try.func35 rfl rfl (λx=>w9d (qg0 x.1).1) (λ_=>by kernel_rfl) (by decide) ?_
 rintro⟨m,⟨⟩⟩ h
 revert m
 intro(m:List (List Int)) (h:w7e m)
 refine qe6 (B:=wk7 m/\((Prod.snd (qg0 m) != (0:Int))=true->(0:Int)=Prod.fst (qi0 m)/\Prod.snd (qg0 m)=Prod.snd (qi0 m)/\True)/\((Prod.snd (qg0 m) != (0:Int))=false->∃(v1:Unit),∃(v2:Nat),Nat.le v2 (List.length (Prod.fst (qg0 m)))/\(((0:Int)=(↑(nzTo (Prod.fst (qg0 m)) v2):Int)/\(0:Int)=(↑v2:Int)/\True)/\True)/\∀(v3:Nat),Nat.le v3 (List.length (Prod.fst (qg0 m)))->(decide ((↑v3:Int)<(↑(List.length (Prod.fst (qg0 m))):Int))=true->((0:Int)<=(↑v3:Int)/\(↑v3:Int)<(↑(List.length (Prod.fst (qg0 m))):Int))/\((qa3 (Ty.int .i64) (Prod.fst (qg0 m)) (Int.toNat (↑v3:Int)) != (0:Int))=true->fits .i64 ((↑(nzTo (Prod.fst (qg0 m)) v3):Int)+(1:Int))/\fits .i64 ((↑v3:Int)+(1:Int))/\∃(v7:Nat),Nat.le v7 (List.length (Prod.fst (qg0 m)))/\List.length (Prod.fst (qg0 m))-v7<List.length (Prod.fst (qg0 m))-v3/\((↑(nzTo (Prod.fst (qg0 m)) v3):Int)+(1:Int)=(↑(nzTo (Prod.fst (qg0 m)) v7):Int)/\(↑v3:Int)+(1:Int)=(↑v7:Int)/\True)/\True)/\((qa3 (Ty.int .i64) (Prod.fst (qg0 m)) (Int.toNat (↑v3:Int)) != (0:Int))=false->fits .i64 ((↑v3:Int)+(1:Int))/\∃(v7:Nat),Nat.le v7 (List.length (Prod.fst (qg0 m)))/\List.length (Prod.fst (qg0 m))-v7<List.length (Prod.fst (qg0 m))-v3/\((↑(nzTo (Prod.fst (qg0 m)) v3):Int)=(↑(nzTo (Prod.fst (qg0 m)) v7):Int)/\(↑v3:Int)+(1:Int)=(↑v7:Int)/\True)/\True))/\(decide ((↑v3:Int)<(↑(List.length (Prod.fst (qg0 m))):Int))=false->(↑(nzTo (Prod.fst (qg0 m)) v3):Int)=Prod.fst (qi0 m)/\(0:Int)=Prod.snd (qi0 m)/\True))) (by kernel_rfl) ?_
 try simp only[z0,z1,z2,z3,z4,z5,z6,z7,z8,z9,z10,Int.reduceEq,z11,z12,z13,z14,z15,z16,z17,z18,z19,z20,z21,z22,z23,z24,z25,z26,z27,z28,z29,z30,Int.reduceLE,Int.reduceLT,z31,z32,z33,z34,qa4]
 try simp only[qb8,qb9,qd2,List.set_cons_zero,List.cons.injEq,and_true,true_and]
 have hl:=h.len
 refine⟨h.cr,λhe=>by simp[qi0,he],λhe=>?_⟩
 have hR:qi0 m=((nzTo (qg0 m).1 (qg0 m).1.length:Int),0):=by simp[qi0,he]
 rw[hR]
 refine⟨(),0,Nat.zero_le _,⟨rfl,rfl⟩,λi hi=>⟨λhlt=>?_,λhge=>?_⟩⟩
 ·have:=q04 (qg0 m).1 i
  exact⟨hlt,λhz=>⟨qa8 (by omega) (by omega),qa8 (by omega) (by omega),i+1,hlt,by omega,by rw[nzTo,if_pos hz]; omega,by omega⟩,λhz=>⟨qa8 (by omega) (by omega),i+1,hlt,by omega,by rw[nzTo,if_neg (λq=>q hz)],by omega⟩⟩
 ·obtain rfl:i=(qg0 m).1.length:=by omega
  exact⟨rfl,rfl⟩
def qu7 (m:List (List Int)) (k:Int):Int:=if qd3 m=false then 1 else if inB k 1 10=false then 7 else if(qi0 m).2≠0\/2*k<(qi0 m).1 then 8 else 0
abbrev xs0:qc9:=qh6 true none [qk0,qg1] [qg1] (λx=>w7e x.1) (λx=>(qu7 x.1 x.2.1,()))
theorem wq7:qe1 Try.prog 33 xs0:=by
 refine meets (snd (SpecsOk.cons q5h (SpecsOk.cons q3j (SpecsOk.cons q4y (SpecsOk.nil _))))) Try.func33 rfl rfl (λ_ _=>none) (λ_=>by kernel_rfl) (by decide) ?_
 rintro⟨m,k,⟨⟩⟩ h
 revert m k
 intro(m:List (List Int)) (k:Int) (h:w7e m)
 refine qe6 (B:=q6o m/\((!qd3 m)=true->(1:Int)=qu7 m k)/\((!qd3 m)=false->True/\((!inB k (1:Int) (10:Int))=true->(7:Int)=qu7 m k)/\((!inB k (1:Int) (10:Int))=false->w7e m/\((Prod.snd (qi0 m) != (0:Int))=true->(8:Int)=qu7 m k)/\((Prod.snd (qi0 m) != (0:Int))=false->fits .i64 ((2:Int)*k)/\(decide ((2:Int)*k<Prod.fst (qi0 m))=true->(8:Int)=qu7 m k)/\(decide ((2:Int)*k<Prod.fst (qi0 m))=false->(0:Int)=qu7 m k))))) (by kernel_rfl) ?_
 try simp only[z0,z1,z2,z3,z4,z5,z6,z7,z8,z9,z10,Int.reduceEq,z11,z12,z13,z14,z15,z16,z17,z18,z19,z20,z21,z22,z23,z24,z25,z26,z27,z28,z29,z30,Int.reduceLE,Int.reduceLT,z31,z32,z33,z34,qa4]
 try simp only[qb8,qb9,qd2,List.set_cons_zero,List.cons.injEq,and_true,true_and]
 refine⟨h.cr.fit,λhv=>by simp[qu7,hv],λhv=>⟨λhk=>by simp[qu7,hv,hk],λhk=>⟨h,λh1=>?_,λh1=>?_⟩⟩⟩
 ·unfold qu7; rw[if_neg (by rw[hv]; decide),if_neg (by rw[hk]; decide),if_pos (.inl h1)]
 ·have:=qp5.1 hk
  refine⟨qa8 (by omega) (by omega),λh2=>?_,λh2=>?_⟩
  ·unfold qu7; rw[if_neg (by rw[hv]; decide),if_neg (by rw[hk]; decide),if_pos (.inr h2)]
  ·unfold qu7; rw[if_neg (by rw[hv]; decide),if_neg (by rw[hk]; decide),if_neg]
   intro q
   rcases q with q | q
   ·exact q h1
   ·exact absurd q (by omega)
end Go.Proofs.Ytdibdlelmkcccaa
