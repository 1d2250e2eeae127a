/- The reference's circuits: contracts by the engine. No condition. -/
import Derived.Test.YtempacilejhbgaaGreatV22
set_option linter.unusedVariables false
set_option linter.unusedSimpArgs false
namespace Go.Proofs.YtempacilejhbgaaGreat
open Go Go.RowKit Eng
def qi0 (m:List (List Int)) (s:List Int):List (List Int):=qf9 (qi8 m s)
def qo5 (v:List Int):Nat->Bool
 | 0=>true
 | k+1=>qo5 v k && (nI v k != 0)
def qz2 (m:List (List Int)) (s:List Int):Bool:=decide (s.length≠0) && decide (s.length<=m.length+1)
def q18 (m:List (List Int)) (n:Nat) (s:List Int):List Int:=qd1 n s (nL (qi0 m s) 0) s.length
def wa0 (m:List (List Int)) (n:Nat) (s:List Int):List Int:=if nI (q18 m n s) (nI s 0).toNat<0 then qj2 (q18 m n s) (-1) else q18 m n s
def qr3 (m:List (List Int)) (s:List Int):Bool:=qz2 m s && decide ((qi0 m s).length=1) && qo5 (nL (qi0 m s) 0) s.length
def qh1 (m:List (List Int)) (n:Nat) (L:List (List Int)):Nat->List (List Int)
 | 0=>[]
 | c+1=>if qr3 m (nL L c) then qh1 m n L c++[wa0 m n (nL L c)] else qh1 m n L c
def q19 (m:List (List Int)):List (List Int) × Int:=if qc8 m=false then([],1) else(qh1 m (nL m 0).length (qe0 (nL m 0).length) (qe0 (nL m 0).length).length,0)
structure x5i (m:List (List Int)):Prop where
 n7:(nL m 0).length<=7
 kr:∀s∈qe0 (nL m 0).length,qz2 m s=true->xn0 (qi8 m s)/\w86 m s
structure w9u (m:List (List Int)):Prop where
 fit:wx1 m
 ok:qc8 m=true->x5i m
theorem q8k (m:List (List Int)) (n:Nat) (L:List (List Int)):∀c,(qh1 m n L c).length<=c
 | 0=>Nat.le_refl _
 | c+1=>by
  have:=q8k m n L c
  rw[qh1]
  split
  ·simp; omega
  ·omega
theorem q3u {d:List (List Int)} {P:List Int} {n:Nat} (h:xv9 d P n) (hn:n<=1000):∀f,f<=n->∀x∈qh3 d P n f,x.length=n/\q3l x
 | 0,_,x,hx=>by cases hx
 | f+1,hf,x,hx=>by
  rw[qh3] at hx
  split at hx
  ·rename_i hfree
   rcases List.mem_append.1 hx with hx | hx
   ·exact q3u h hn f (by omega) x hx
   ·obtain rfl:=List.mem_singleton.1 hx
    refine⟨by rw[qm6,q21],by rw[qm6,q21]; exact hn,λx hx=>?_⟩
    obtain⟨y,hy,rfl⟩:=List.mem_map.1 hx
    exact qk4 (q9x h (by omega) hfree _ (Nat.le_refl _) y hy)
  ·exact q3u h hn f (by omega) x hx
theorem wq3 {rows:List (List Int)} (h:xn0 rows) (x:List Int) (hx:x∈qf9 rows):x.length=rdW rows/\q3l x:=
 q3u h.ar h.rd.w _ (Nat.le_refl _) x hx
theorem w9v {m:List (List Int)} (hm:0<m.length) (s:List Int):rdW (qi8 m s)=s.length:=by
 unfold rdW
 rw[qr9 m s 0 hm,qt1]
abbrev x5j:qc0:=qg7 false none [qk0] [qk0,qd6] (λx=>w9u x.1) (λx=>((q19 x.1).1,(q19 x.1).2,()))
def x1m (m:List (List Int)) (n:Nat):Nat->Option Inv
 | 0=>some (Inv.of [4,21] 1 (λc:Nat=>[(4,.own 0),(21,.lit (.int .i64 c))]) (λc=>[.vec 24 (.list (.int .i64)) (qh1 m n (qe0 n) c)]) (λc=>c<=(qe0 n).length) (λc=>(qe0 n).length-c))
 | 1=>some (Eng.Inv.mk (Nat × List Int) Nat [4,8,9,50] 2 (λq k=>[(4,.own 0),(8,.own 1),(9,.lit (.bool (qo5 (nL (qi0 m q.2) 0) k))),(50,.lit (.int .i64 k))]) (λq k=>[.vec 24 (.list (.int .i64)) (qh1 m n (qe0 n) q.1),.vec 3 (.int .i64) (qd1 n q.2 (nL (qi0 m q.2) 0) k)]) (λq k=>k<=q.2.length) (λq k=>q.2.length-k))
 | _=>none
theorem w59:qd7 Tryz.prog 107 x5j:=by
 refine meets (snd (SpecsOk.cons q9s (SpecsOk.cons wp3 (SpecsOk.cons w14 (SpecsOk.cons w89 (SpecsOk.cons wi5 (SpecsOk.nil _))))))) Tryz.func107 rfl rfl (λx=>x1m x.1 (nL x.1 0).length) (λ_=>by kernel_rfl) (by decide) ?_
 rintro⟨m,⟨⟩⟩ h
 revert m
 intro(m:List (List Int)) (h:w9u m)
 refine @qe1 _ (let Q0:=List.length m; wx1 m/\((!qc8 m)=true->Prod.fst (q19 m)=[]/\(1:Int)=Prod.snd (q19 m)/\True)/\((!qc8 m)=false->((0:Int)<=(0:Int)/\(0:Int)<(↑Q0:Int))/\((0:Ty.den qd6)<=(↑(List.length (qa1 (Ty.list (Ty.int .i64)) m (0:Nat))):Int)/\(↑(List.length (qa1 (Ty.list (Ty.int .i64)) m (0:Nat))):Int)<=(7:Ty.den qd6))/\∃(v1:Unit),∃(v2:Nat),Nat.le v2 (List.length (qe0 (List.length (nL m (0:Nat)))))/\((True/\(0:Int)=(↑v2:Int)/\True)/\qh1 m (List.length (nL m (0:Nat))) (qe0 (List.length (nL m (0:Nat)))) v2=[]/\True)/\∀(v3:Nat),Nat.le v3 (List.length (qe0 (List.length (nL m (0:Nat)))))->(decide ((↑v3:Int)<(↑(List.length (qe0 (Int.toNat (↑(List.length (qa1 (Ty.list (Ty.int .i64)) m (0:Nat))):Int)))):Int))=true->((0:Int)<=(↑v3:Int)/\(↑v3:Int)<(↑(List.length (qe0 (Int.toNat (↑(List.length (qa1 (Ty.list (Ty.int .i64)) m (0:Nat))):Int)))):Int))/\(((↑(List.length (qa1 (Ty.list (Ty.int .i64)) (qe0 (Int.toNat (↑(List.length (qa1 (Ty.list (Ty.int .i64)) m (0:Nat))):Int))) (Int.toNat (↑v3:Int)))):Int)==(0:Int))=true->fits .i64 ((↑v3:Int)+(1:Int))/\∃(v7:Nat),Nat.le v7 (List.length (qe0 (List.length (nL m (0:Nat)))))/\List.length (qe0 (List.length (nL m (0:Nat))))-v7<List.length (qe0 (List.length (nL m (0:Nat))))-v3/\(True/\(↑v3:Int)+(1:Int)=(↑v7:Int)/\True)/\qh1 m (List.length (nL m (0:Nat))) (qe0 (List.length (nL m (0:Nat)))) v3=qh1 m (List.length (nL m (0:Nat))) (qe0 (List.length (nL m (0:Nat)))) v7/\True)/\(((↑(List.length (qa1 (Ty.list (Ty.int .i64)) (qe0 (Int.toNat (↑(List.length (qa1 (Ty.list (Ty.int .i64)) m (0:Nat))):Int))) (Int.toNat (↑v3:Int)))):Int)==(0:Int))=false->fits .i64 ((↑Q0:Int)+(1:Int))/\(decide ((↑Q0:Int)+(1:Int)<(↑(List.length (qa1 (Ty.list (Ty.int .i64)) (qe0 (Int.toNat (↑(List.length (qa1 (Ty.list (Ty.int .i64)) m (0:Nat))):Int))) (Int.toNat (↑v3:Int)))):Int))=true->fits .i64 ((↑v3:Int)+(1:Int))/\∃(v8:Nat),Nat.le v8 (List.length (qe0 (List.length (nL m (0:Nat)))))/\List.length (qe0 (List.length (nL m (0:Nat))))-v8<List.length (qe0 (List.length (nL m (0:Nat))))-v3/\(True/\(↑v3:Int)+(1:Int)=(↑v8:Int)/\True)/\qh1 m (List.length (nL m (0:Nat))) (qe0 (List.length (nL m (0:Nat)))) v3=qh1 m (List.length (nL m (0:Nat))) (qe0 (List.length (nL m (0:Nat)))) v8/\True)/\(decide ((↑Q0:Int)+(1:Int)<(↑(List.length (qa1 (Ty.list (Ty.int .i64)) (qe0 (Int.toNat (↑(List.length (qa1 (Ty.list (Ty.int .i64)) m (0:Nat))):Int))) (Int.toNat (↑v3:Int)))):Int))=false->w86 m (qa1 (Ty.list (Ty.int .i64)) (qe0 (Int.toNat (↑(List.length (qa1 (Ty.list (Ty.int .i64)) m (0:Nat))):Int))) (Int.toNat (↑v3:Int)))/\xn0 (qi8 m (qa1 (Ty.list (Ty.int .i64)) (qe0 (Int.toNat (↑(List.length (qa1 (Ty.list (Ty.int .i64)) m (0:Nat))):Int))) (Int.toNat (↑v3:Int))))/\(((↑(List.length (qf9 (qi8 m (qa1 (Ty.list (Ty.int .i64)) (qe0 (Int.toNat (↑(List.length (qa1 (Ty.list (Ty.int .i64)) m (0:Nat))):Int))) (Int.toNat (↑v3:Int)))))):Int) != (1:Int))=true->fits .i64 ((↑v3:Int)+(1:Int))/\∃(v9:Nat),Nat.le v9 (List.length (qe0 (List.length (nL m (0:Nat)))))/\List.length (qe0 (List.length (nL m (0:Nat))))-v9<List.length (qe0 (List.length (nL m (0:Nat))))-v3/\(True/\(↑v3:Int)+(1:Int)=(↑v9:Int)/\True)/\qh1 m (List.length (nL m (0:Nat))) (qe0 (List.length (nL m (0:Nat)))) v3=qh1 m (List.length (nL m (0:Nat))) (qe0 (List.length (nL m (0:Nat)))) v9/\True)/\(((↑(List.length (qf9 (qi8 m (qa1 (Ty.list (Ty.int .i64)) (qe0 (Int.toNat (↑(List.length (qa1 (Ty.list (Ty.int .i64)) m (0:Nat))):Int))) (Int.toNat (↑v3:Int)))))):Int) != (1:Int))=false->((0:Int)<=(0:Int)/\(0:Int)<(↑Q0:Int))/\((↑(List.length (qa1 (Ty.list (Ty.int .i64)) m (0:Nat))):Int)=(↑(List.length (qa1 (Ty.list (Ty.int .i64)) m (0:Nat))):Int)/\(0:Int)<=(↑(List.length (qa1 (Ty.list (Ty.int .i64)) m (0:Nat))):Int)/\(↑(List.length (qa1 (Ty.list (Ty.int .i64)) m (0:Nat))):Int)<=(1000000:Int))/\∃(v9:Nat × List Int),∃(v10:Nat),Nat.le v10 (List.length (Prod.snd v9))/\((True/\True/\true=qo5 (nL (qi0 m (Prod.snd v9)) (0:Nat)) v10/\(0:Int)=(↑v10:Int)/\True)/\qh1 m (List.length (nL m (0:Nat))) (qe0 (List.length (nL m (0:Nat)))) v3=qh1 m (List.length (nL m (0:Nat))) (qe0 (List.length (nL m (0:Nat)))) (Prod.fst v9)/\List.replicate (Int.toNat (↑(List.length (qa1 (Ty.list (Ty.int .i64)) m (0:Nat))):Int)) (Ty.dflt (TI.ty T3))=qd1 (List.length (nL m (0:Nat))) (Prod.snd v9) (nL (qi0 m (Prod.snd v9)) (0:Nat)) v10/\True)/\∀(v11:Nat),Nat.le v11 (List.length (Prod.snd v9))->(decide ((↑v11:Int)<(↑(List.length (qa1 (Ty.list (Ty.int .i64)) (qe0 (Int.toNat (↑(List.length (qa1 (Ty.list (Ty.int .i64)) m (0:Nat))):Int))) (Int.toNat (↑v3:Int)))):Int))=true->((0:Int)<=(↑v11:Int)/\(↑v11:Int)<(↑(List.length (qa1 (Ty.list (Ty.int .i64)) (qe0 (Int.toNat (↑(List.length (qa1 (Ty.list (Ty.int .i64)) m (0:Nat))):Int))) (Int.toNat (↑v3:Int)))):Int))/\((0:Int)<=(0:Int)/\(0:Int)<(↑(List.length (qf9 (qi8 m (qa1 (Ty.list (Ty.int .i64)) (qe0 (Int.toNat (↑(List.length (qa1 (Ty.list (Ty.int .i64)) m (0:Nat))):Int))) (Int.toNat (↑v3:Int)))))):Int))/\((0:Int)<=(↑v11:Int)/\(↑v11:Int)<(↑(List.length (qa1 (Ty.list (Ty.int .i64)) (qf9 (qi8 m (qa1 (Ty.list (Ty.int .i64)) (qe0 (Int.toNat (↑(List.length (qa1 (Ty.list (Ty.int .i64)) m (0:Nat))):Int))) (Int.toNat (↑v3:Int))))) (0:Nat))):Int))/\((0:Int)<=qa1 (Ty.int .i64) (qa1 (Ty.list (Ty.int .i64)) (qe0 (Int.toNat (↑(List.length (qa1 (Ty.list (Ty.int .i64)) m (0:Nat))):Int))) (Int.toNat (↑v3:Int))) (Int.toNat (↑v11:Int))/\qa1 (Ty.int .i64) (qa1 (Ty.list (Ty.int .i64)) (qe0 (Int.toNat (↑(List.length (qa1 (Ty.list (Ty.int .i64)) m (0:Nat))):Int))) (Int.toNat (↑v3:Int))) (Int.toNat (↑v11:Int))<(↑(List.length (qd1 (List.length (nL m (0:Nat))) (Prod.snd v9) (nL (qi0 m (Prod.snd v9)) (0:Nat)) v11)):Int))/\Int.toNat (qa1 (Ty.int .i64) (qa1 (Ty.list (Ty.int .i64)) (qe0 (Int.toNat (↑(List.length (qa1 (Ty.list (Ty.int .i64)) m (0:Nat))):Int))) (Int.toNat (↑v3:Int))) (Int.toNat (↑v11:Int)))<List.length (qd1 (List.length (nL m (0:Nat))) (Prod.snd v9) (nL (qi0 m (Prod.snd v9)) (0:Nat)) v11)/\(qo5 (nL (qi0 m (Prod.snd v9)) (0:Nat)) v11=true->((0:Int)<=(0:Int)/\(0:Int)<(↑(List.length (qf9 (qi8 m (qa1 (Ty.list (Ty.int .i64)) (qe0 (Int.toNat (↑(List.length (qa1 (Ty.list (Ty.int .i64)) m (0:Nat))):Int))) (Int.toNat (↑v3:Int)))))):Int))/\((0:Int)<=(↑v11:Int)/\(↑v11:Int)<(↑(List.length (qa1 (Ty.list (Ty.int .i64)) (qf9 (qi8 m (qa1 (Ty.list (Ty.int .i64)) (qe0 (Int.toNat (↑(List.length (qa1 (Ty.list (Ty.int .i64)) m (0:Nat))):Int))) (Int.toNat (↑v3:Int))))) (0:Nat))):Int))/\fits .i64 ((↑v11:Int)+(1:Int))/\∃(v15:Nat),Nat.le v15 (List.length (Prod.snd v9))/\List.length (Prod.snd v9)-v15<List.length (Prod.snd v9)-v11/\(True/\True/\(qa1 (Ty.int .i64) (qa1 (Ty.list (Ty.int .i64)) (qf9 (qi8 m (qa1 (Ty.list (Ty.int .i64)) (qe0 (Int.toNat (↑(List.length (qa1 (Ty.list (Ty.int .i64)) m (0:Nat))):Int))) (Int.toNat (↑v3:Int))))) (0:Nat)) (Int.toNat (↑v11:Int)) != (0:Int))=qo5 (nL (qi0 m (Prod.snd v9)) (0:Nat)) v15/\(↑v11:Int)+(1:Int)=(↑v15:Int)/\True)/\qh1 m (List.length (nL m (0:Nat))) (qe0 (List.length (nL m (0:Nat)))) (Prod.fst v9)=qh1 m (List.length (nL m (0:Nat))) (qe0 (List.length (nL m (0:Nat)))) (Prod.fst v9)/\List.set (qd1 (List.length (nL m (0:Nat))) (Prod.snd v9) (nL (qi0 m (Prod.snd v9)) (0:Nat)) v11) (Int.toNat (qa1 (Ty.int .i64) (qa1 (Ty.list (Ty.int .i64)) (qe0 (Int.toNat (↑(List.length (qa1 (Ty.list (Ty.int .i64)) m (0:Nat))):Int))) (Int.toNat (↑v3:Int))) (Int.toNat (↑v11:Int)))) (qa1 (Ty.int .i64) (qa1 (Ty.list (Ty.int .i64)) (qf9 (qi8 m (qa1 (Ty.list (Ty.int .i64)) (qe0 (Int.toNat (↑(List.length (qa1 (Ty.list (Ty.int .i64)) m (0:Nat))):Int))) (Int.toNat (↑v3:Int))))) (0:Nat)) (Int.toNat (↑v11:Int)))=qd1 (List.length (nL m (0:Nat))) (Prod.snd v9) (nL (qi0 m (Prod.snd v9)) (0:Nat)) v15/\True)/\(qo5 (nL (qi0 m (Prod.snd v9)) (0:Nat)) v11=false->fits .i64 ((↑v11:Int)+(1:Int))/\∃(v15:Nat),Nat.le v15 (List.length (Prod.snd v9))/\List.length (Prod.snd v9)-v15<List.length (Prod.snd v9)-v11/\(True/\True/\false=qo5 (nL (qi0 m (Prod.snd v9)) (0:Nat)) v15/\(↑v11:Int)+(1:Int)=(↑v15:Int)/\True)/\qh1 m (List.length (nL m (0:Nat))) (qe0 (List.length (nL m (0:Nat)))) (Prod.fst v9)=qh1 m (List.length (nL m (0:Nat))) (qe0 (List.length (nL m (0:Nat)))) (Prod.fst v9)/\List.set (qd1 (List.length (nL m (0:Nat))) (Prod.snd v9) (nL (qi0 m (Prod.snd v9)) (0:Nat)) v11) (Int.toNat (qa1 (Ty.int .i64) (qa1 (Ty.list (Ty.int .i64)) (qe0 (Int.toNat (↑(List.length (qa1 (Ty.list (Ty.int .i64)) m (0:Nat))):Int))) (Int.toNat (↑v3:Int))) (Int.toNat (↑v11:Int)))) (qa1 (Ty.int .i64) (qa1 (Ty.list (Ty.int .i64)) (qf9 (qi8 m (qa1 (Ty.list (Ty.int .i64)) (qe0 (Int.toNat (↑(List.length (qa1 (Ty.list (Ty.int .i64)) m (0:Nat))):Int))) (Int.toNat (↑v3:Int))))) (0:Nat)) (Int.toNat (↑v11:Int)))=qd1 (List.length (nL m (0:Nat))) (Prod.snd v9) (nL (qi0 m (Prod.snd v9)) (0:Nat)) v15/\True))/\(decide ((↑v11:Int)<(↑(List.length (qa1 (Ty.list (Ty.int .i64)) (qe0 (Int.toNat (↑(List.length (qa1 (Ty.list (Ty.int .i64)) m (0:Nat))):Int))) (Int.toNat (↑v3:Int)))):Int))=false->((!qo5 (nL (qi0 m (Prod.snd v9)) (0:Nat)) v11)=true->fits .i64 ((↑v3:Int)+(1:Int))/\∃(v15:Nat),Nat.le v15 (List.length (qe0 (List.length (nL m (0:Nat)))))/\List.length (qe0 (List.length (nL m (0:Nat))))-v15<List.length (qe0 (List.length (nL m (0:Nat))))-v3/\(True/\(↑v3:Int)+(1:Int)=(↑v15:Int)/\True)/\qh1 m (List.length (nL m (0:Nat))) (qe0 (List.length (nL m (0:Nat)))) (Prod.fst v9)=qh1 m (List.length (nL m (0:Nat))) (qe0 (List.length (nL m (0:Nat)))) v15/\True)/\((!qo5 (nL (qi0 m (Prod.snd v9)) (0:Nat)) v11)=false->((0:Int)<=(0:Int)/\(0:Int)<(↑(List.length (qa1 (Ty.list (Ty.int .i64)) (qe0 (Int.toNat (↑(List.length (qa1 (Ty.list (Ty.int .i64)) m (0:Nat))):Int))) (Int.toNat (↑v3:Int)))):Int))/\((0:Int)<=qa1 (Ty.int .i64) (qa1 (Ty.list (Ty.int .i64)) (qe0 (Int.toNat (↑(List.length (qa1 (Ty.list (Ty.int .i64)) m (0:Nat))):Int))) (Int.toNat (↑v3:Int))) (0:Nat)/\qa1 (Ty.int .i64) (qa1 (Ty.list (Ty.int .i64)) (qe0 (Int.toNat (↑(List.length (qa1 (Ty.list (Ty.int .i64)) m (0:Nat))):Int))) (Int.toNat (↑v3:Int))) (0:Nat)<(↑(List.length (qd1 (List.length (nL m (0:Nat))) (Prod.snd v9) (nL (qi0 m (Prod.snd v9)) (0:Nat)) v11)):Int))/\Int.toNat (qa1 (Ty.int .i64) (qa1 (Ty.list (Ty.int .i64)) (qe0 (Int.toNat (↑(List.length (qa1 (Ty.list (Ty.int .i64)) m (0:Nat))):Int))) (Int.toNat (↑v3:Int))) (0:Nat))<List.length (qd1 (List.length (nL m (0:Nat))) (Prod.snd v9) (nL (qi0 m (Prod.snd v9)) (0:Nat)) v11)/\(decide (qa1 (Ty.int .i64) (qd1 (List.length (nL m (0:Nat))) (Prod.snd v9) (nL (qi0 m (Prod.snd v9)) (0:Nat)) v11) (Int.toNat (qa1 (Ty.int .i64) (qa1 (Ty.list (Ty.int .i64)) (qe0 (Int.toNat (↑(List.length (qa1 (Ty.list (Ty.int .i64)) m (0:Nat))):Int))) (Int.toNat (↑v3:Int))) (0:Nat)))<(0:Int))=true->w5g (qd1 (List.length (nL m (0:Nat))) (Prod.snd v9) (nL (qi0 m (Prod.snd v9)) (0:Nat)) v11) (-1:Int)/\((0:Nat)<List.length [qj2 (qd1 (List.length (nL m (0:Nat))) (Prod.snd v9) (nL (qi0 m (Prod.snd v9)) (0:Nat)) v11) (-1:Int)]/\Nat.le (List.length (qh1 m (List.length (nL m (0:Nat))) (qe0 (List.length (nL m (0:Nat)))) (Prod.fst v9))+List.length [qj2 (qd1 (List.length (nL m (0:Nat))) (Prod.snd v9) (nL (qi0 m (Prod.snd v9)) (0:Nat)) v11) (-1:Int)]) (1000000:Nat))/\fits .i64 ((↑v3:Int)+(1:Int))/\∃(v16:Nat),Nat.le v16 (List.length (qe0 (List.length (nL m (0:Nat)))))/\List.length (qe0 (List.length (nL m (0:Nat))))-v16<List.length (qe0 (List.length (nL m (0:Nat))))-v3/\(True/\(↑v3:Int)+(1:Int)=(↑v16:Int)/\True)/\qh1 m (List.length (nL m (0:Nat))) (qe0 (List.length (nL m (0:Nat)))) (Prod.fst v9)++[qj2 (qd1 (List.length (nL m (0:Nat))) (Prod.snd v9) (nL (qi0 m (Prod.snd v9)) (0:Nat)) v11) (-1:Int)]=qh1 m (List.length (nL m (0:Nat))) (qe0 (List.length (nL m (0:Nat)))) v16/\True)/\(decide (qa1 (Ty.int .i64) (qd1 (List.length (nL m (0:Nat))) (Prod.snd v9) (nL (qi0 m (Prod.snd v9)) (0:Nat)) v11) (Int.toNat (qa1 (Ty.int .i64) (qa1 (Ty.list (Ty.int .i64)) (qe0 (Int.toNat (↑(List.length (qa1 (Ty.list (Ty.int .i64)) m (0:Nat))):Int))) (Int.toNat (↑v3:Int))) (0:Nat)))<(0:Int))=false->((0:Nat)<(0:Nat)+(1:Nat)/\Nat.le (List.length (qh1 m (List.length (nL m (0:Nat))) (qe0 (List.length (nL m (0:Nat)))) (Prod.fst v9))+((0:Nat)+(1:Nat))) (1000000:Nat))/\fits .i64 ((↑v3:Int)+(1:Int))/\∃(v16:Nat),Nat.le v16 (List.length (qe0 (List.length (nL m (0:Nat)))))/\List.length (qe0 (List.length (nL m (0:Nat))))-v16<List.length (qe0 (List.length (nL m (0:Nat))))-v3/\(True/\(↑v3:Int)+(1:Int)=(↑v16:Int)/\True)/\qh1 m (List.length (nL m (0:Nat))) (qe0 (List.length (nL m (0:Nat)))) (Prod.fst v9)++[qd1 (List.length (nL m (0:Nat))) (Prod.snd v9) (nL (qi0 m (Prod.snd v9)) (0:Nat)) v11]=qh1 m (List.length (nL m (0:Nat))) (qe0 (List.length (nL m (0:Nat)))) v16/\True)))))))/\(decide ((↑v3:Int)<(↑(List.length (qe0 (Int.toNat (↑(List.length (qa1 (Ty.list (Ty.int .i64)) m (0:Nat))):Int)))):Int))=false->qh1 m (List.length (nL m (0:Nat))) (qe0 (List.length (nL m (0:Nat)))) v3=Prod.fst (q19 m)/\(0:Int)=Prod.snd (q19 m)/\True))) (by kernel_rfl) ?_
 try simp only[z0,z1,z2,z3,z4,z5,z6,z7,z8,z9,z10,Int.reduceEq,z11,z12,z13,z14,z15,z16,z17,z18,z19,z20,z21,z22,z23,z24,z25,z26,z27,z28,z29,z30,Int.reduceLE,Int.reduceLT,z31,z32,z33,z34,qa4]
 try simp only[qb3,qb4,qb9,List.set_cons_zero,List.cons.injEq,and_true,true_and]
 refine⟨h.fit,λhv=>by simp[q19,hv],λhv=>?_⟩
 have hM:=Mk.of hv
 have hO:=h.ok hv
 have hm1:=hM.rows1
 have hm6:=hM.rows6
 have hn7:=hO.n7
 have hkr:=hO.kr
 have hR:q19 m=(qh1 m (nL m 0).length (qe0 (nL m 0).length) (qe0 (nL m 0).length).length,0):=by simp[q19,hv]
 rw[hR]
 have hst:=wi7 (n:=(nL m 0).length) (k:=128) hn7 (Nat.le_refl _)
 change(qe0 (nL m 0).length).length<=128/\∀s∈qe0 (nL m 0).length,_ at hst
 obtain⟨hsl,hsm⟩:=hst
 generalize hnn:(nL m 0).length=n at *
 simp only[show ∀x,qf9 (qi8 m x)=qi0 m x from λ_=>rfl]
 clear hR
 generalize qe0 n=SA at *
 refine⟨by omega,by omega,(),0,Nat.zero_le _,⟨rfl,rfl⟩,λc hc=>⟨λhlt=>?_,λhge=>?_⟩⟩
 ·have hcl:=q8k m n SA c
  have hs2:=hsm _ (qn6 SA c hlt)
  have hk2:=hkr _ (qn6 SA c hlt)
  obtain⟨s,hs⟩:∃s,nL SA c=s:=⟨_,rfl⟩
  rw[hs] at hs2 hk2 ⊢
  have hs1:=hs2.1
  have no:qr3 m s=false->qh1 m n SA c=qh1 m n SA (c+1):=λq=>by
   rw[qh1,hs,if_neg (by rw[q]; decide)]
  have nok:qz2 m s=false->qr3 m s=false:=λq=>by simp[qr3,q]
  refine⟨hlt,λh0=>⟨qa7 (by omega) (by omega),c+1,hlt,by omega,by omega,no (nok ?_)⟩,λh0=>⟨qa7 (by omega) (by omega),λh1=>⟨qa7 (by omega) (by omega),c+1,hlt,by omega,by omega,no (nok ?_)⟩,λh1=>?_⟩⟩
  ·have:s.length=0:=by omega
   simp[qz2,this]
  ·have:¬s.length<=m.length+1:=by omega
   simp[qz2,this]
  have hok:qz2 m s=true:=by
   unfold qz2
   rw[Bool.and_eq_true,decide_eq_true_eq,decide_eq_true_eq]
   omega
  obtain⟨hK,hC⟩:=hk2 hok
  refine⟨hC,hK,λh2=>⟨qa7 (by omega) (by omega),c+1,hlt,by omega,by omega,no ?_⟩,λh2=>?_⟩
  ·have:¬(qi0 m s).length=1:=by omega
   simp[qr3,this]
  have h2:(qi0 m s).length=1:=by omega
  have hkm:=wq3 hK (nL (qi0 m s) 0) (qn6 (qi0 m s) 0 (by omega))
  rw[w9v (by omega)] at hkm
  obtain⟨hkl,hkb⟩:=hkm
  have hat:∀j,j<s.length->0<=nI s j/\nI s j<n:=λj hj=>hs2.2 _ (by rw[qg5 s j hj]; exact List.getElem_mem hj)
  have hat':∀j i,j<s.length->0<=nI s j/\nI s j<((qd1 n s (nL (qi0 m s) 0) i).length:Int):=λj i hj=>by
   have:=hat j hj
   rw[qj3]; exact this
  refine⟨by omega,by omega,(c,s),0,Nat.zero_le _,⟨⟨rfl,rfl⟩,rfl,rfl⟩,λj hj=>⟨λhjl=>?_,λhjl=>?_⟩⟩
  ·dsimp only at hj ⊢
   have ha:=hat' j j hjl
   refine⟨hjl,by omega,by omega,ha,by omega,λhw=>⟨by omega,by omega,qa7 (by omega) (by omega),j+1,hjl,by omega,⟨by rw[qo5,hw,Bool.true_and],by omega⟩,rfl⟩,λhw=>⟨qa7 (by omega) (by omega),j+1,hjl,by omega,⟨by rw[qo5,hw,Bool.false_and],by omega⟩,rfl⟩⟩
  ·dsimp only at hj ⊢
   obtain rfl:j=s.length:=by omega
   refine⟨λhw=>⟨qa7 (by omega) (by omega),c+1,hlt,by omega,by omega,no (by simp[qr3,hw])⟩,λhw=>?_⟩
   have yes:qr3 m s=true:=by simp[qr3,hok,h2,hw]
   have hsb:q3l (qd1 n s (nL (qi0 m s) 0) s.length):=q0l hkb (by omega) hkl _ (Nat.le_refl _)
   have ha:=hat' 0 s.length (by omega)
   have hst:=qj3 n s (nL (qi0 m s) 0) s.length
   refine⟨by omega,ha,by omega,λhng=>⟨⟨hsb.1,λi hi=>?_⟩,by omega,qa7 (by omega) (by omega),c+1,hlt,by omega,by omega,?_⟩,λhng=>⟨by omega,qa7 (by omega) (by omega),c+1,hlt,by omega,by omega,?_⟩⟩
   ·have:=q0i hsb hi
    unfold qe8 at *
    omega
   ·rw[qh1,hs,if_pos yes,wa0]
    rw[if_pos (show nI (q18 m n s) (nI s 0).toNat<0 from hng)]
    rfl
   ·rw[qh1,hs,if_pos yes,wa0]
    rw[if_neg (show ¬nI (q18 m n s) (nI s 0).toNat<0 from by show ¬nI (qd1 n s (nL (qi0 m s) 0) s.length) (nI s 0).toNat<0; omega)]
    rfl
 ·obtain rfl:c=SA.length:=by omega
  exact⟨rfl,by first | rfl | trivial⟩
end Go.Proofs.YtempacilejhbgaaGreat
