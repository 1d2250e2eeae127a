/- The reference's circuits: contracts by the engine. No condition. -/
import Derived.Test.YtdibdlelmkcccaaGreatV22
set_option linter.unusedVariables false
set_option linter.unusedSimpArgs false
namespace Go.Proofs.YtdibdlelmkcccaaGreat
open Go Go.RowKit Eng
def qh5 (m:List (List Int)) (s:List Int):List (List Int):=qg6 (qj1 m s)
def qo9 (v:List Int):Nat->Bool
 | 0=>true
 | k+1=>qo9 v k && (nI v k != 0)
def qy9 (m:List (List Int)) (s:List Int):Bool:=decide (s.length≠0) && decide (s.length<=m.length+1)
def q19 (m:List (List Int)) (n:Nat) (s:List Int):List Int:=qd2 n s (nL (qh5 m s) 0) s.length
def q66 (m:List (List Int)) (n:Nat) (s:List Int):List Int:=if nI (q19 m n s) (nI s 0).toNat<0 then qj0 (q19 m n s) (-1) else q19 m n s
def qs2 (m:List (List Int)) (s:List Int):Bool:=qy9 m s && decide ((qh5 m s).length=1) && qo9 (nL (qh5 m s) 0) s.length
def qg9 (m:List (List Int)) (n:Nat) (L:List (List Int)):Nat->List (List Int)
 | 0=>[]
 | c+1=>if qs2 m (nL L c) then qg9 m n L c++[q66 m n (nL L c)] else qg9 m n L c
def qr8 (m:List (List Int)):List (List Int) × Int:=if validB m=false then([],1) else(qg9 m (nL m 0).length (qd7 (nL m 0).length) (qd7 (nL m 0).length).length,0)
structure x94 (m:List (List Int)):Prop where
 n7:(nL m 0).length<=7
 kr:∀s∈qd7 (nL m 0).length,qy9 m s=true->xx8 (qj1 m s)/\w7r m s
structure wn9 (m:List (List Int)):Prop where
 fit:q77 m
 ok:validB m=true->x94 m
theorem q9b (m:List (List Int)) (n:Nat) (L:List (List Int)):∀c,(qg9 m n L c).length<=c
 | 0=>Nat.le_refl _
 | c+1=>by
  have:=q9b m n L c
  rw[qg9]
  split
  ·simp; omega
  ·omega
theorem q4e {d:List (List Int)} {P:List Int} {n:Nat} (h:x2x d P n) (hn:n<=1000):∀f,f<=n->∀x∈qh0 d P n f,x.length=n/\q36 x
 | 0,_,x,hx=>by cases hx
 | f+1,hf,x,hx=>by
  rw[qh0] at hx
  split at hx
  ·rename_i hfree
   rcases List.mem_append.1 hx with hx | hx
   ·exact q4e h hn f (by omega) x hx
   ·obtain rfl:=List.mem_singleton.1 hx
    refine⟨by rw[qm9,q3e],by rw[qm9,q3e]; exact hn,λx hx=>?_⟩
    obtain⟨y,hy,rfl⟩:=List.mem_map.1 hx
    exact qk5 (wc9 h (by omega) hfree _ (Nat.le_refl _) y hy)
  ·exact q4e h hn f (by omega) x hx
theorem wu9 {rows:List (List Int)} (h:xx8 rows) (x:List Int) (hx:x∈qg6 rows):x.length=rdW rows/\q36 x:=
 q4e h.ar h.rd.w _ (Nat.le_refl _) x hx
theorem xf5 {m:List (List Int)} (hm:0<m.length) (s:List Int):rdW (qj1 m s)=s.length:=by
 unfold rdW
 rw[qs8 m s 0 hm,qk8]
abbrev x97:qc0:=qf8 false none [tMask] [tMask,tInt] (λx=>wn9 x.1) (λx=>((qr8 x.1).1,(qr8 x.1).2,()))
def x5q (m:List (List Int)) (n:Nat):Nat->Option Inv
 | 0=>some (Inv.of [4,21] 1 (λc:Nat=>[(4,.own 0),(21,.lit (.int .i64 c))]) (λc=>[.vec 24 (.list (.int .i64)) (qg9 m n (qd7 n) c)]) (λc=>c<=(qd7 n).length) (λc=>(qd7 n).length-c))
 | 1=>some (Eng.Inv.mk (Nat × List Int) Nat [4,8,9,50] 2 (λq k=>[(4,.own 0),(8,.own 1),(9,.lit (.bool (qo9 (nL (qh5 m q.2) 0) k))),(50,.lit (.int .i64 k))]) (λq k=>[.vec 24 (.list (.int .i64)) (qg9 m n (qd7 n) q.1),.vec 3 (.int .i64) (qd2 n q.2 (nL (qh5 m q.2) 0) k)]) (λq k=>k<=q.2.length) (λq k=>q.2.length-k))
 | _=>none
theorem w7v:qd3 Tryz.prog 96 x97:=by
 refine meets (snd (SpecsOk.cons w1a (SpecsOk.cons wu6 (SpecsOk.cons w35 (SpecsOk.cons xf4 (SpecsOk.cons wn4 (SpecsOk.nil _))))))) Tryz.func96 rfl rfl (λx=>x5q x.1 (nL x.1 0).length) (λ_=>by kernel_rfl) (by decide) ?_
 rintro⟨m,⟨⟩⟩ h
 revert m
 intro(m:List (List Int)) (h:wn9 m)
 refine @qd8 _ (let Q0:=List.length m; q77 m/\((!validB m)=true->Prod.fst (qr8 m)=[]/\(1:Int)=Prod.snd (qr8 m)/\True)/\((!validB m)=false->((0:Int)<=(0:Int)/\(0:Int)<(↑Q0:Int))/\((0:Ty.den tInt)<=(↑(List.length (qa1 (Ty.list (Ty.int .i64)) m (0:Nat))):Int)/\(↑(List.length (qa1 (Ty.list (Ty.int .i64)) m (0:Nat))):Int)<=(7:Ty.den tInt))/\∃(v1:Unit),∃(v2:Nat),Nat.le v2 (List.length (qd7 (List.length (nL m (0:Nat)))))/\((True/\(0:Int)=(↑v2:Int)/\True)/\qg9 m (List.length (nL m (0:Nat))) (qd7 (List.length (nL m (0:Nat)))) v2=[]/\True)/\∀(v3:Nat),Nat.le v3 (List.length (qd7 (List.length (nL m (0:Nat)))))->(decide ((↑v3:Int)<(↑(List.length (qd7 (Int.toNat (↑(List.length (qa1 (Ty.list (Ty.int .i64)) m (0:Nat))):Int)))):Int))=true->((0:Int)<=(↑v3:Int)/\(↑v3:Int)<(↑(List.length (qd7 (Int.toNat (↑(List.length (qa1 (Ty.list (Ty.int .i64)) m (0:Nat))):Int)))):Int))/\(((↑(List.length (qa1 (Ty.list (Ty.int .i64)) (qd7 (Int.toNat (↑(List.length (qa1 (Ty.list (Ty.int .i64)) m (0:Nat))):Int))) (Int.toNat (↑v3:Int)))):Int)==(0:Int))=true->fits .i64 ((↑v3:Int)+(1:Int))/\∃(v7:Nat),Nat.le v7 (List.length (qd7 (List.length (nL m (0:Nat)))))/\List.length (qd7 (List.length (nL m (0:Nat))))-v7<List.length (qd7 (List.length (nL m (0:Nat))))-v3/\(True/\(↑v3:Int)+(1:Int)=(↑v7:Int)/\True)/\qg9 m (List.length (nL m (0:Nat))) (qd7 (List.length (nL m (0:Nat)))) v3=qg9 m (List.length (nL m (0:Nat))) (qd7 (List.length (nL m (0:Nat)))) v7/\True)/\(((↑(List.length (qa1 (Ty.list (Ty.int .i64)) (qd7 (Int.toNat (↑(List.length (qa1 (Ty.list (Ty.int .i64)) m (0:Nat))):Int))) (Int.toNat (↑v3:Int)))):Int)==(0:Int))=false->fits .i64 ((↑Q0:Int)+(1:Int))/\(decide ((↑Q0:Int)+(1:Int)<(↑(List.length (qa1 (Ty.list (Ty.int .i64)) (qd7 (Int.toNat (↑(List.length (qa1 (Ty.list (Ty.int .i64)) m (0:Nat))):Int))) (Int.toNat (↑v3:Int)))):Int))=true->fits .i64 ((↑v3:Int)+(1:Int))/\∃(v8:Nat),Nat.le v8 (List.length (qd7 (List.length (nL m (0:Nat)))))/\List.length (qd7 (List.length (nL m (0:Nat))))-v8<List.length (qd7 (List.length (nL m (0:Nat))))-v3/\(True/\(↑v3:Int)+(1:Int)=(↑v8:Int)/\True)/\qg9 m (List.length (nL m (0:Nat))) (qd7 (List.length (nL m (0:Nat)))) v3=qg9 m (List.length (nL m (0:Nat))) (qd7 (List.length (nL m (0:Nat)))) v8/\True)/\(decide ((↑Q0:Int)+(1:Int)<(↑(List.length (qa1 (Ty.list (Ty.int .i64)) (qd7 (Int.toNat (↑(List.length (qa1 (Ty.list (Ty.int .i64)) m (0:Nat))):Int))) (Int.toNat (↑v3:Int)))):Int))=false->w7r m (qa1 (Ty.list (Ty.int .i64)) (qd7 (Int.toNat (↑(List.length (qa1 (Ty.list (Ty.int .i64)) m (0:Nat))):Int))) (Int.toNat (↑v3:Int)))/\xx8 (qj1 m (qa1 (Ty.list (Ty.int .i64)) (qd7 (Int.toNat (↑(List.length (qa1 (Ty.list (Ty.int .i64)) m (0:Nat))):Int))) (Int.toNat (↑v3:Int))))/\(((↑(List.length (qg6 (qj1 m (qa1 (Ty.list (Ty.int .i64)) (qd7 (Int.toNat (↑(List.length (qa1 (Ty.list (Ty.int .i64)) m (0:Nat))):Int))) (Int.toNat (↑v3:Int)))))):Int) != (1:Int))=true->fits .i64 ((↑v3:Int)+(1:Int))/\∃(v9:Nat),Nat.le v9 (List.length (qd7 (List.length (nL m (0:Nat)))))/\List.length (qd7 (List.length (nL m (0:Nat))))-v9<List.length (qd7 (List.length (nL m (0:Nat))))-v3/\(True/\(↑v3:Int)+(1:Int)=(↑v9:Int)/\True)/\qg9 m (List.length (nL m (0:Nat))) (qd7 (List.length (nL m (0:Nat)))) v3=qg9 m (List.length (nL m (0:Nat))) (qd7 (List.length (nL m (0:Nat)))) v9/\True)/\(((↑(List.length (qg6 (qj1 m (qa1 (Ty.list (Ty.int .i64)) (qd7 (Int.toNat (↑(List.length (qa1 (Ty.list (Ty.int .i64)) m (0:Nat))):Int))) (Int.toNat (↑v3:Int)))))):Int) != (1:Int))=false->((0:Int)<=(0:Int)/\(0:Int)<(↑Q0:Int))/\((↑(List.length (qa1 (Ty.list (Ty.int .i64)) m (0:Nat))):Int)=(↑(List.length (qa1 (Ty.list (Ty.int .i64)) m (0:Nat))):Int)/\(0:Int)<=(↑(List.length (qa1 (Ty.list (Ty.int .i64)) m (0:Nat))):Int)/\(↑(List.length (qa1 (Ty.list (Ty.int .i64)) m (0:Nat))):Int)<=(1000000:Int))/\∃(v9:Nat × List Int),∃(v10:Nat),Nat.le v10 (List.length (Prod.snd v9))/\((True/\True/\true=qo9 (nL (qh5 m (Prod.snd v9)) (0:Nat)) v10/\(0:Int)=(↑v10:Int)/\True)/\qg9 m (List.length (nL m (0:Nat))) (qd7 (List.length (nL m (0:Nat)))) v3=qg9 m (List.length (nL m (0:Nat))) (qd7 (List.length (nL m (0:Nat)))) (Prod.fst v9)/\List.replicate (Int.toNat (↑(List.length (qa1 (Ty.list (Ty.int .i64)) m (0:Nat))):Int)) (Ty.dflt (TI.ty T3))=qd2 (List.length (nL m (0:Nat))) (Prod.snd v9) (nL (qh5 m (Prod.snd v9)) (0:Nat)) v10/\True)/\∀(v11:Nat),Nat.le v11 (List.length (Prod.snd v9))->(decide ((↑v11:Int)<(↑(List.length (qa1 (Ty.list (Ty.int .i64)) (qd7 (Int.toNat (↑(List.length (qa1 (Ty.list (Ty.int .i64)) m (0:Nat))):Int))) (Int.toNat (↑v3:Int)))):Int))=true->((0:Int)<=(↑v11:Int)/\(↑v11:Int)<(↑(List.length (qa1 (Ty.list (Ty.int .i64)) (qd7 (Int.toNat (↑(List.length (qa1 (Ty.list (Ty.int .i64)) m (0:Nat))):Int))) (Int.toNat (↑v3:Int)))):Int))/\((0:Int)<=(0:Int)/\(0:Int)<(↑(List.length (qg6 (qj1 m (qa1 (Ty.list (Ty.int .i64)) (qd7 (Int.toNat (↑(List.length (qa1 (Ty.list (Ty.int .i64)) m (0:Nat))):Int))) (Int.toNat (↑v3:Int)))))):Int))/\((0:Int)<=(↑v11:Int)/\(↑v11:Int)<(↑(List.length (qa1 (Ty.list (Ty.int .i64)) (qg6 (qj1 m (qa1 (Ty.list (Ty.int .i64)) (qd7 (Int.toNat (↑(List.length (qa1 (Ty.list (Ty.int .i64)) m (0:Nat))):Int))) (Int.toNat (↑v3:Int))))) (0:Nat))):Int))/\((0:Int)<=qa1 (Ty.int .i64) (qa1 (Ty.list (Ty.int .i64)) (qd7 (Int.toNat (↑(List.length (qa1 (Ty.list (Ty.int .i64)) m (0:Nat))):Int))) (Int.toNat (↑v3:Int))) (Int.toNat (↑v11:Int))/\qa1 (Ty.int .i64) (qa1 (Ty.list (Ty.int .i64)) (qd7 (Int.toNat (↑(List.length (qa1 (Ty.list (Ty.int .i64)) m (0:Nat))):Int))) (Int.toNat (↑v3:Int))) (Int.toNat (↑v11:Int))<(↑(List.length (qd2 (List.length (nL m (0:Nat))) (Prod.snd v9) (nL (qh5 m (Prod.snd v9)) (0:Nat)) v11)):Int))/\Int.toNat (qa1 (Ty.int .i64) (qa1 (Ty.list (Ty.int .i64)) (qd7 (Int.toNat (↑(List.length (qa1 (Ty.list (Ty.int .i64)) m (0:Nat))):Int))) (Int.toNat (↑v3:Int))) (Int.toNat (↑v11:Int)))<List.length (qd2 (List.length (nL m (0:Nat))) (Prod.snd v9) (nL (qh5 m (Prod.snd v9)) (0:Nat)) v11)/\(qo9 (nL (qh5 m (Prod.snd v9)) (0:Nat)) v11=true->((0:Int)<=(0:Int)/\(0:Int)<(↑(List.length (qg6 (qj1 m (qa1 (Ty.list (Ty.int .i64)) (qd7 (Int.toNat (↑(List.length (qa1 (Ty.list (Ty.int .i64)) m (0:Nat))):Int))) (Int.toNat (↑v3:Int)))))):Int))/\((0:Int)<=(↑v11:Int)/\(↑v11:Int)<(↑(List.length (qa1 (Ty.list (Ty.int .i64)) (qg6 (qj1 m (qa1 (Ty.list (Ty.int .i64)) (qd7 (Int.toNat (↑(List.length (qa1 (Ty.list (Ty.int .i64)) m (0:Nat))):Int))) (Int.toNat (↑v3:Int))))) (0:Nat))):Int))/\fits .i64 ((↑v11:Int)+(1:Int))/\∃(v15:Nat),Nat.le v15 (List.length (Prod.snd v9))/\List.length (Prod.snd v9)-v15<List.length (Prod.snd v9)-v11/\(True/\True/\(qa1 (Ty.int .i64) (qa1 (Ty.list (Ty.int .i64)) (qg6 (qj1 m (qa1 (Ty.list (Ty.int .i64)) (qd7 (Int.toNat (↑(List.length (qa1 (Ty.list (Ty.int .i64)) m (0:Nat))):Int))) (Int.toNat (↑v3:Int))))) (0:Nat)) (Int.toNat (↑v11:Int)) != (0:Int))=qo9 (nL (qh5 m (Prod.snd v9)) (0:Nat)) v15/\(↑v11:Int)+(1:Int)=(↑v15:Int)/\True)/\qg9 m (List.length (nL m (0:Nat))) (qd7 (List.length (nL m (0:Nat)))) (Prod.fst v9)=qg9 m (List.length (nL m (0:Nat))) (qd7 (List.length (nL m (0:Nat)))) (Prod.fst v9)/\List.set (qd2 (List.length (nL m (0:Nat))) (Prod.snd v9) (nL (qh5 m (Prod.snd v9)) (0:Nat)) v11) (Int.toNat (qa1 (Ty.int .i64) (qa1 (Ty.list (Ty.int .i64)) (qd7 (Int.toNat (↑(List.length (qa1 (Ty.list (Ty.int .i64)) m (0:Nat))):Int))) (Int.toNat (↑v3:Int))) (Int.toNat (↑v11:Int)))) (qa1 (Ty.int .i64) (qa1 (Ty.list (Ty.int .i64)) (qg6 (qj1 m (qa1 (Ty.list (Ty.int .i64)) (qd7 (Int.toNat (↑(List.length (qa1 (Ty.list (Ty.int .i64)) m (0:Nat))):Int))) (Int.toNat (↑v3:Int))))) (0:Nat)) (Int.toNat (↑v11:Int)))=qd2 (List.length (nL m (0:Nat))) (Prod.snd v9) (nL (qh5 m (Prod.snd v9)) (0:Nat)) v15/\True)/\(qo9 (nL (qh5 m (Prod.snd v9)) (0:Nat)) v11=false->fits .i64 ((↑v11:Int)+(1:Int))/\∃(v15:Nat),Nat.le v15 (List.length (Prod.snd v9))/\List.length (Prod.snd v9)-v15<List.length (Prod.snd v9)-v11/\(True/\True/\false=qo9 (nL (qh5 m (Prod.snd v9)) (0:Nat)) v15/\(↑v11:Int)+(1:Int)=(↑v15:Int)/\True)/\qg9 m (List.length (nL m (0:Nat))) (qd7 (List.length (nL m (0:Nat)))) (Prod.fst v9)=qg9 m (List.length (nL m (0:Nat))) (qd7 (List.length (nL m (0:Nat)))) (Prod.fst v9)/\List.set (qd2 (List.length (nL m (0:Nat))) (Prod.snd v9) (nL (qh5 m (Prod.snd v9)) (0:Nat)) v11) (Int.toNat (qa1 (Ty.int .i64) (qa1 (Ty.list (Ty.int .i64)) (qd7 (Int.toNat (↑(List.length (qa1 (Ty.list (Ty.int .i64)) m (0:Nat))):Int))) (Int.toNat (↑v3:Int))) (Int.toNat (↑v11:Int)))) (qa1 (Ty.int .i64) (qa1 (Ty.list (Ty.int .i64)) (qg6 (qj1 m (qa1 (Ty.list (Ty.int .i64)) (qd7 (Int.toNat (↑(List.length (qa1 (Ty.list (Ty.int .i64)) m (0:Nat))):Int))) (Int.toNat (↑v3:Int))))) (0:Nat)) (Int.toNat (↑v11:Int)))=qd2 (List.length (nL m (0:Nat))) (Prod.snd v9) (nL (qh5 m (Prod.snd v9)) (0:Nat)) v15/\True))/\(decide ((↑v11:Int)<(↑(List.length (qa1 (Ty.list (Ty.int .i64)) (qd7 (Int.toNat (↑(List.length (qa1 (Ty.list (Ty.int .i64)) m (0:Nat))):Int))) (Int.toNat (↑v3:Int)))):Int))=false->((!qo9 (nL (qh5 m (Prod.snd v9)) (0:Nat)) v11)=true->fits .i64 ((↑v3:Int)+(1:Int))/\∃(v15:Nat),Nat.le v15 (List.length (qd7 (List.length (nL m (0:Nat)))))/\List.length (qd7 (List.length (nL m (0:Nat))))-v15<List.length (qd7 (List.length (nL m (0:Nat))))-v3/\(True/\(↑v3:Int)+(1:Int)=(↑v15:Int)/\True)/\qg9 m (List.length (nL m (0:Nat))) (qd7 (List.length (nL m (0:Nat)))) (Prod.fst v9)=qg9 m (List.length (nL m (0:Nat))) (qd7 (List.length (nL m (0:Nat)))) v15/\True)/\((!qo9 (nL (qh5 m (Prod.snd v9)) (0:Nat)) v11)=false->((0:Int)<=(0:Int)/\(0:Int)<(↑(List.length (qa1 (Ty.list (Ty.int .i64)) (qd7 (Int.toNat (↑(List.length (qa1 (Ty.list (Ty.int .i64)) m (0:Nat))):Int))) (Int.toNat (↑v3:Int)))):Int))/\((0:Int)<=qa1 (Ty.int .i64) (qa1 (Ty.list (Ty.int .i64)) (qd7 (Int.toNat (↑(List.length (qa1 (Ty.list (Ty.int .i64)) m (0:Nat))):Int))) (Int.toNat (↑v3:Int))) (0:Nat)/\qa1 (Ty.int .i64) (qa1 (Ty.list (Ty.int .i64)) (qd7 (Int.toNat (↑(List.length (qa1 (Ty.list (Ty.int .i64)) m (0:Nat))):Int))) (Int.toNat (↑v3:Int))) (0:Nat)<(↑(List.length (qd2 (List.length (nL m (0:Nat))) (Prod.snd v9) (nL (qh5 m (Prod.snd v9)) (0:Nat)) v11)):Int))/\Int.toNat (qa1 (Ty.int .i64) (qa1 (Ty.list (Ty.int .i64)) (qd7 (Int.toNat (↑(List.length (qa1 (Ty.list (Ty.int .i64)) m (0:Nat))):Int))) (Int.toNat (↑v3:Int))) (0:Nat))<List.length (qd2 (List.length (nL m (0:Nat))) (Prod.snd v9) (nL (qh5 m (Prod.snd v9)) (0:Nat)) v11)/\(decide (qa1 (Ty.int .i64) (qd2 (List.length (nL m (0:Nat))) (Prod.snd v9) (nL (qh5 m (Prod.snd v9)) (0:Nat)) v11) (Int.toNat (qa1 (Ty.int .i64) (qa1 (Ty.list (Ty.int .i64)) (qd7 (Int.toNat (↑(List.length (qa1 (Ty.list (Ty.int .i64)) m (0:Nat))):Int))) (Int.toNat (↑v3:Int))) (0:Nat)))<(0:Int))=true->w7q (qd2 (List.length (nL m (0:Nat))) (Prod.snd v9) (nL (qh5 m (Prod.snd v9)) (0:Nat)) v11) (-1:Int)/\((0:Nat)<List.length [qj0 (qd2 (List.length (nL m (0:Nat))) (Prod.snd v9) (nL (qh5 m (Prod.snd v9)) (0:Nat)) v11) (-1:Int)]/\Nat.le (List.length (qg9 m (List.length (nL m (0:Nat))) (qd7 (List.length (nL m (0:Nat)))) (Prod.fst v9))+List.length [qj0 (qd2 (List.length (nL m (0:Nat))) (Prod.snd v9) (nL (qh5 m (Prod.snd v9)) (0:Nat)) v11) (-1:Int)]) (1000000:Nat))/\fits .i64 ((↑v3:Int)+(1:Int))/\∃(v16:Nat),Nat.le v16 (List.length (qd7 (List.length (nL m (0:Nat)))))/\List.length (qd7 (List.length (nL m (0:Nat))))-v16<List.length (qd7 (List.length (nL m (0:Nat))))-v3/\(True/\(↑v3:Int)+(1:Int)=(↑v16:Int)/\True)/\qg9 m (List.length (nL m (0:Nat))) (qd7 (List.length (nL m (0:Nat)))) (Prod.fst v9)++[qj0 (qd2 (List.length (nL m (0:Nat))) (Prod.snd v9) (nL (qh5 m (Prod.snd v9)) (0:Nat)) v11) (-1:Int)]=qg9 m (List.length (nL m (0:Nat))) (qd7 (List.length (nL m (0:Nat)))) v16/\True)/\(decide (qa1 (Ty.int .i64) (qd2 (List.length (nL m (0:Nat))) (Prod.snd v9) (nL (qh5 m (Prod.snd v9)) (0:Nat)) v11) (Int.toNat (qa1 (Ty.int .i64) (qa1 (Ty.list (Ty.int .i64)) (qd7 (Int.toNat (↑(List.length (qa1 (Ty.list (Ty.int .i64)) m (0:Nat))):Int))) (Int.toNat (↑v3:Int))) (0:Nat)))<(0:Int))=false->((0:Nat)<(0:Nat)+(1:Nat)/\Nat.le (List.length (qg9 m (List.length (nL m (0:Nat))) (qd7 (List.length (nL m (0:Nat)))) (Prod.fst v9))+((0:Nat)+(1:Nat))) (1000000:Nat))/\fits .i64 ((↑v3:Int)+(1:Int))/\∃(v16:Nat),Nat.le v16 (List.length (qd7 (List.length (nL m (0:Nat)))))/\List.length (qd7 (List.length (nL m (0:Nat))))-v16<List.length (qd7 (List.length (nL m (0:Nat))))-v3/\(True/\(↑v3:Int)+(1:Int)=(↑v16:Int)/\True)/\qg9 m (List.length (nL m (0:Nat))) (qd7 (List.length (nL m (0:Nat)))) (Prod.fst v9)++[qd2 (List.length (nL m (0:Nat))) (Prod.snd v9) (nL (qh5 m (Prod.snd v9)) (0:Nat)) v11]=qg9 m (List.length (nL m (0:Nat))) (qd7 (List.length (nL m (0:Nat)))) v16/\True)))))))/\(decide ((↑v3:Int)<(↑(List.length (qd7 (Int.toNat (↑(List.length (qa1 (Ty.list (Ty.int .i64)) m (0:Nat))):Int)))):Int))=false->qg9 m (List.length (nL m (0:Nat))) (qd7 (List.length (nL m (0:Nat)))) v3=Prod.fst (qr8 m)/\(0:Int)=Prod.snd (qr8 m)/\True))) (by kernel_rfl) ?_
 try simp only[z0,z1,z2,z3,z4,z5,z6,z7,z8,z9,z10,Int.reduceEq,z11,z12,z13,z14,z15,z16,z17,z18,z19,z20,z21,z22,z23,z24,z25,z26,z27,z28,z29,z30,Int.reduceLE,Int.reduceLT,z31,z32,z33,z34,qa4]
 try simp only[qb6,qb7,qc8,List.set_cons_zero,List.cons.injEq,and_true,true_and]
 refine⟨h.fit,λhv=>by simp[qr8,hv],λhv=>?_⟩
 have hM:=Mk.of hv
 have hO:=h.ok hv
 have hm1:=hM.rows1
 have hm6:=hM.rows6
 have hn7:=hO.n7
 have hkr:=hO.kr
 have hR:qr8 m=(qg9 m (nL m 0).length (qd7 (nL m 0).length) (qd7 (nL m 0).length).length,0):=by simp[qr8,hv]
 rw[hR]
 have hst:=q3d (n:=(nL m 0).length) (k:=128) hn7 (Nat.le_refl _)
 change(qd7 (nL m 0).length).length<=128/\∀s∈qd7 (nL m 0).length,_ at hst
 obtain⟨hsl,hsm⟩:=hst
 generalize hnn:(nL m 0).length=n at *
 simp only[show ∀x,qg6 (qj1 m x)=qh5 m x from λ_=>rfl]
 clear hR
 generalize qd7 n=SA at *
 refine⟨by omega,by omega,(),0,Nat.zero_le _,⟨rfl,rfl⟩,λc hc=>⟨λhlt=>?_,λhge=>?_⟩⟩
 ·have hcl:=q9b m n SA c
  have hs2:=hsm _ (qn8 SA c hlt)
  have hk2:=hkr _ (qn8 SA c hlt)
  obtain⟨s,hs⟩:∃s,nL SA c=s:=⟨_,rfl⟩
  rw[hs] at hs2 hk2 ⊢
  have hs1:=hs2.1
  have no:qs2 m s=false->qg9 m n SA c=qg9 m n SA (c+1):=λq=>by
   rw[qg9,hs,if_neg (by rw[q]; decide)]
  have nok:qy9 m s=false->qs2 m s=false:=λq=>by simp[qs2,q]
  refine⟨hlt,λh0=>⟨qa7 (by omega) (by omega),c+1,hlt,by omega,by omega,no (nok ?_)⟩,λh0=>⟨qa7 (by omega) (by omega),λh1=>⟨qa7 (by omega) (by omega),c+1,hlt,by omega,by omega,no (nok ?_)⟩,λh1=>?_⟩⟩
  ·have:s.length=0:=by omega
   simp[qy9,this]
  ·have:¬s.length<=m.length+1:=by omega
   simp[qy9,this]
  have hok:qy9 m s=true:=by
   unfold qy9
   rw[Bool.and_eq_true,decide_eq_true_eq,decide_eq_true_eq]
   omega
  obtain⟨hK,hC⟩:=hk2 hok
  refine⟨hC,hK,λh2=>⟨qa7 (by omega) (by omega),c+1,hlt,by omega,by omega,no ?_⟩,λh2=>?_⟩
  ·have:¬(qh5 m s).length=1:=by omega
   simp[qs2,this]
  have h2:(qh5 m s).length=1:=by omega
  have hkm:=wu9 hK (nL (qh5 m s) 0) (qn8 (qh5 m s) 0 (by omega))
  rw[xf5 (by omega)] at hkm
  obtain⟨hkl,hkb⟩:=hkm
  have hat:∀j,j<s.length->0<=nI s j/\nI s j<n:=λj hj=>hs2.2 _ (by rw[qh7 s j hj]; exact List.getElem_mem hj)
  have hat':∀j i,j<s.length->0<=nI s j/\nI s j<((qd2 n s (nL (qh5 m s) 0) i).length:Int):=λj i hj=>by
   have:=hat j hj
   rw[qj2]; exact this
  refine⟨by omega,by omega,(c,s),0,Nat.zero_le _,⟨⟨rfl,rfl⟩,rfl,rfl⟩,λj hj=>⟨λhjl=>?_,λhjl=>?_⟩⟩
  ·dsimp only at hj ⊢
   have ha:=hat' j j hjl
   refine⟨hjl,by omega,by omega,ha,by omega,λhw=>⟨by omega,by omega,qa7 (by omega) (by omega),j+1,hjl,by omega,⟨by rw[qo9,hw,Bool.true_and],by omega⟩,rfl⟩,λhw=>⟨qa7 (by omega) (by omega),j+1,hjl,by omega,⟨by rw[qo9,hw,Bool.false_and],by omega⟩,rfl⟩⟩
  ·dsimp only at hj ⊢
   obtain rfl:j=s.length:=by omega
   refine⟨λhw=>⟨qa7 (by omega) (by omega),c+1,hlt,by omega,by omega,no (by simp[qs2,hw])⟩,λhw=>?_⟩
   have yes:qs2 m s=true:=by simp[qs2,hok,h2,hw]
   have hsb:q36 (qd2 n s (nL (qh5 m s) 0) s.length):=q0o hkb (by omega) hkl _ (Nat.le_refl _)
   have ha:=hat' 0 s.length (by omega)
   have hst:=qj2 n s (nL (qh5 m s) 0) s.length
   refine⟨by omega,ha,by omega,λhng=>⟨⟨hsb.1,λi hi=>?_⟩,by omega,qa7 (by omega) (by omega),c+1,hlt,by omega,by omega,?_⟩,λhng=>⟨by omega,qa7 (by omega) (by omega),c+1,hlt,by omega,by omega,?_⟩⟩
   ·have:=q0k hsb hi
    unfold qg3 at *
    omega
   ·rw[qg9,hs,if_pos yes,q66]
    rw[if_pos (show nI (q19 m n s) (nI s 0).toNat<0 from hng)]
    rfl
   ·rw[qg9,hs,if_pos yes,q66]
    rw[if_neg (show ¬nI (q19 m n s) (nI s 0).toNat<0 from by show ¬nI (qd2 n s (nL (qh5 m s) 0) s.length) (nI s 0).toNat<0; omega)]
    rfl
 ·obtain rfl:c=SA.length:=by omega
  exact⟨rfl,by first | rfl | trivial⟩
def qk3 (m:List (List Int)):List Int × Int:=if(qr8 m).2≠0 then([],(qr8 m).2) else if(qr8 m).1=[] then([],8) else(nL (qr8 m).1 0,0)
abbrev x1d:qc0:=qf8 false none [tMask] [tInts,tInt] (λx=>wn9 x.1) (λx=>((qk3 x.1).1,(qk3 x.1).2,()))
theorem wv0:qd3 Tryz.prog 55 x1d:=by
 refine meets (snd (SpecsOk.cons w7v (SpecsOk.nil _))) Tryz.func55 rfl rfl (λ_ _=>none) (λ_=>by kernel_rfl) (by decide) ?_
 rintro⟨m,⟨⟩⟩ h
 revert m
 intro(m:List (List Int)) (h:wn9 m)
 refine @qd8 _ (let Q0:=List.length (Prod.fst (qr8 m)); let Q1:=qk3 m; wn9 m/\((Prod.snd (qr8 m) != (0:Int))=true->Prod.fst Q1=[]/\Prod.snd (qr8 m)=Prod.snd Q1/\True)/\((Prod.snd (qr8 m) != (0:Int))=false->(((↑Q0:Int)==(0:Int))=true->Prod.fst Q1=[]/\(8:Int)=Prod.snd Q1/\True)/\(((↑Q0:Int)==(0:Int))=false->((0:Int)<=(0:Int)/\(0:Int)<(↑Q0:Int))/\qa1 (Ty.list (Ty.int .i64)) (Prod.fst (qr8 m)) (0:Nat)=Prod.fst Q1/\(0:Int)=Prod.snd Q1/\True))) (by kernel_rfl) ?_
 try simp only[z0,z1,z2,z3,z4,z5,z6,z7,z8,z9,z10,Int.reduceEq,z11,z12,z13,z14,z15,z16,z17,z18,z19,z20,z21,z22,z23,z24,z25,z26,z27,z28,z29,z30,Int.reduceLE,Int.reduceLT,z31,z32,z33,z34,qa4]
 try simp only[qb6,qb7,qc8,List.set_cons_zero,List.cons.injEq,and_true,true_and]
 refine⟨h,λhe=>by simp[qk3,he],λhe=>⟨λh0=>?_,λh0=>?_⟩⟩
 ·have e:(qr8 m).1=[]:=List.eq_nil_of_length_eq_zero (by omega)
  simp[qk3,he,e]
 ·have e:¬(qr8 m).1=[]:=λe=>by rw[e] at h0; exact h0 rfl
  unfold qk3
  rw[if_neg (λq=>q he),if_neg e]
  exact⟨by omega,rfl,rfl⟩
def qi5 (m:List (List Int)):Int × Int:=if(qk3 m).2≠0 then(0,(qk3 m).2) else((q1p (qk3 m).1 (qk3 m).1.length:Int),0)
structure xx9 (m:List (List Int)):Prop where
 cr:wn9 m
 len:(qk3 m).1.length<=1000
abbrev xs7:qc0:=qf8 true none [tMask] [tInt,tInt] (λx=>xx9 x.1) (λx=>((qi5 x.1).1,(qi5 x.1).2,()))
def xf6 (l:List Int):Nat->Option Inv
 | 0=>some (Inv.of [6,19] 0 (λk:Nat=>[(6,.lit (.int .i64 (q1p l k))),(19,.lit (.int .i64 k))]) (λ_=>[]) (λk=>k<=l.length) (λk=>l.length-k))
 | _=>none
theorem q4w:qd3 Tryz.prog 18 xs7:=by
 refine meets (snd (SpecsOk.cons wv0 (SpecsOk.nil _))) Tryz.func18 rfl rfl (λx=>xf6 (qk3 x.1).1) (λ_=>by kernel_rfl) (by decide) ?_
 rintro⟨m,⟨⟩⟩ h
 revert m
 intro(m:List (List Int)) (h:xx9 m)
 refine @qd8 _ (let Q0:=Prod.fst (qk3 m); let Q1:=List.length Q0; let Q2:=qi5 m; wn9 m/\((Prod.snd (qk3 m) != (0:Int))=true->(0:Int)=Prod.fst Q2/\Prod.snd (qk3 m)=Prod.snd Q2/\True)/\((Prod.snd (qk3 m) != (0:Int))=false->∃(v1:Unit),∃(v2:Nat),Nat.le v2 Q1/\(((0:Int)=(↑(q1p Q0 v2):Int)/\(0:Int)=(↑v2:Int)/\True)/\True)/\∀(v3:Nat),Nat.le v3 Q1->(decide ((↑v3:Int)<(↑Q1:Int))=true->((0:Int)<=(↑v3:Int)/\(↑v3:Int)<(↑Q1:Int))/\((qa1 (Ty.int .i64) Q0 (Int.toNat (↑v3:Int)) != (0:Int))=true->fits .i64 ((↑(q1p Q0 v3):Int)+(1:Int))/\fits .i64 ((↑v3:Int)+(1:Int))/\∃(v7:Nat),Nat.le v7 Q1/\List.length Q0-v7<List.length Q0-v3/\((↑(q1p Q0 v3):Int)+(1:Int)=(↑(q1p Q0 v7):Int)/\(↑v3:Int)+(1:Int)=(↑v7:Int)/\True)/\True)/\((qa1 (Ty.int .i64) Q0 (Int.toNat (↑v3:Int)) != (0:Int))=false->fits .i64 ((↑v3:Int)+(1:Int))/\∃(v7:Nat),Nat.le v7 Q1/\List.length Q0-v7<List.length Q0-v3/\((↑(q1p Q0 v3):Int)=(↑(q1p Q0 v7):Int)/\(↑v3:Int)+(1:Int)=(↑v7:Int)/\True)/\True))/\(decide ((↑v3:Int)<(↑Q1:Int))=false->(↑(q1p Q0 v3):Int)=Prod.fst Q2/\(0:Int)=Prod.snd Q2/\True))) (by kernel_rfl) ?_
 try simp only[z0,z1,z2,z3,z4,z5,z6,z7,z8,z9,z10,Int.reduceEq,z11,z12,z13,z14,z15,z16,z17,z18,z19,z20,z21,z22,z23,z24,z25,z26,z27,z28,z29,z30,Int.reduceLE,Int.reduceLT,z31,z32,z33,z34,qa4]
 try simp only[qb6,qb7,qc8,List.set_cons_zero,List.cons.injEq,and_true,true_and]
 have hl:=h.len
 refine⟨h.cr,λhe=>by simp[qi5,he],λhe=>?_⟩
 have hR:qi5 m=((q1p (qk3 m).1 (qk3 m).1.length:Int),0):=by simp[qi5,he]
 rw[hR]
 refine⟨(),0,Nat.zero_le _,⟨rfl,rfl⟩,λi hi=>⟨λhlt=>?_,λhge=>?_⟩⟩
 ·have:=q65 (qk3 m).1 i
  exact⟨hlt,λhz=>⟨qa7 (by omega) (by omega),qa7 (by omega) (by omega),i+1,hlt,by omega,by rw[q1p,if_pos hz]; omega,by omega⟩,λhz=>⟨qa7 (by omega) (by omega),i+1,hlt,by omega,by rw[q1p,if_neg (λq=>q hz)],by omega⟩⟩
 ·obtain rfl:i=(qk3 m).1.length:=by omega
  exact⟨rfl,rfl⟩
end Go.Proofs.YtdibdlelmkcccaaGreat
