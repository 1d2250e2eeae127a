/- The words for memory that the proofs of this seat share: a slice that reads as a list of integers, a slice of such slices, and one element appended to a row of the call's own. No condition. -/
import Derived.WalkKit
import Derived.WalkSpells
import Derived.WalkLawsBesides
import Derived.Deep.QuietTactic
import Derived.BigQuiet
import Derived.Maps.AppendAt
import Derived.Deep.AppendLies
import Derived.Shelf.Abstract
import Derived.Laws.EntriesVeiled
import Derived.StillTailTactics
import Derived.Deep.DeepCutAuto
import Derived.Deep.CutBlock
import Derived.Deep.RegionHeld3
import Derived.Deep.DrawnRows
namespace Ls
open Go Go.RowKit
theorem hidx {p:Prop} (h:p):Hid p:=h
def nth (l:List Int) (k:Nat):Int:=l.getD k 0
def nthL (m:List (List Int)) (k:Nat):List Int:=m.getD k []
theorem xv5 (l:List (List Int)) (k:Nat) (h:k<l.length):nthL l k=l[k]:=by simp[nthL,h]
theorem takeL_snoc (l:List (List Int)) (k:Nat) (h:k<l.length):l.take (k+1)=l.take k++[nthL l k]:=by
 rw[List.take_succ_eq_append_getElem h,xv5 l k h]
theorem block_add (a:Addr) (n:Nat):(a.add n).block=a.block:=by unfold Addr.add; split <;> rfl
theorem add_zero (a:Addr):a.add 0=a:=by unfold Addr.add; simp
theorem add_add (a:Addr) (i j:Nat):(a.add i).add j=a.add (i+j):=by
 unfold Addr.add
 by_cases hi:i=0 <;> by_cases hj:j=0 <;> simp[hi,hj,Nat.add_assoc]
theorem cell_lt {w:World} {a:Addr} {v:Value} (h:w.cell? a=some v):a.block<w.heap.size:=World.block_lt_of_cell? w a h
theorem Below.cell_of {w w':World} (hb:Below w.heap.size w w') {a:Addr} {v:Value} (h:w.cell? a=some v):w'.cell? a=some v:=
 (hb.cell (cell_lt h)).trans h
theorem below_alloc (w:World) (o:Obj):Below w.heap.size w (w.alloc o):=(Below.refl _ w).alloc (Nat.le_refl _) o
theorem step_trans {a b c:World} (h:Below a.heap.size a b) (k:Below b.heap.size b c):Below a.heap.size a c:=h.trans (k.mono h.size)
def SI (w:World) (A:Option Addr) (n c:Nat) (zs:List Int):Prop:=
 zs.length=n/\n<=c/\c<=maxLen/\(0<n->∃ad,A=some ad/\∀k,k<n->w.cell? (ad.add k)=some (.int .i64 (nth zs k)))
theorem SI.len {w:World} {A:Option Addr} {n c:Nat} {zs:List Int} (h:SI w A n c zs):zs.length=n:=h.1
theorem SI.cap {w:World} {A:Option Addr} {n c:Nat} {zs:List Int} (h:SI w A n c zs):n<=c:=h.2.1
theorem SI.max {w:World} {A:Option Addr} {n c:Nat} {zs:List Int} (h:SI w A n c zs):c<=9223372036854775807:=h.2.2.1
theorem SI.nmax {w:World} {A:Option Addr} {n c:Nat} {zs:List Int} (h:SI w A n c zs):n<=9223372036854775807:=Nat.le_trans h.2.1 h.2.2.1
theorem SI.at_ {w:World} {A:Option Addr} {n c:Nat} {zs:List Int} (h:SI w A n c zs) (hn:0<n) :
  ∃ad,A=some ad/\∀k,k<n->w.cell? (ad.add k)=some (.int .i64 (nth zs k)):=h.2.2.2 hn
theorem SI.below {w w':World} {A:Option Addr} {n c:Nat} {zs:List Int} (h:SI w A n c zs) (hb:Below w.heap.size w w'):SI w' A n c zs:=
 ⟨h.1,h.2.1,h.2.2.1,λhn=>by
  obtain⟨ad,e,hc⟩:=h.2.2.2 hn
  exact⟨ad,e,λk hk=>Below.cell_of hb (hc k hk)⟩⟩
theorem SI.nil (w:World):SI w none 0 0 []:=⟨rfl,Nat.le_refl _,by unfold maxLen; omega,λh=>absurd h (by omega)⟩
def SM (w:World) (A:Option Addr) (n c:Nat) (m:List (List Int)):Prop:=
 m.length=n/\n<=c/\c<=maxLen/\(0<n->∃ad,A=some ad/\∀k,k<n->∃A' c',w.cell? (ad.add k)=some (.slice A' (nthL m k).length c')/\SI w A' (nthL m k).length c' (nthL m k))
theorem SM.len {w:World} {A:Option Addr} {n c:Nat} {m:List (List Int)} (h:SM w A n c m):m.length=n:=h.1
theorem SM.cap {w:World} {A:Option Addr} {n c:Nat} {m:List (List Int)} (h:SM w A n c m):n<=c:=h.2.1
theorem SM.max {w:World} {A:Option Addr} {n c:Nat} {m:List (List Int)} (h:SM w A n c m):c<=9223372036854775807:=h.2.2.1
theorem SM.nmax {w:World} {A:Option Addr} {n c:Nat} {m:List (List Int)} (h:SM w A n c m):n<=9223372036854775807:=Nat.le_trans h.2.1 h.2.2.1
theorem SM.at_ {w:World} {A:Option Addr} {n c:Nat} {m:List (List Int)} (h:SM w A n c m) (hn:0<n) :
  ∃ad,A=some ad/\∀k,k<n->∃A' c',w.cell? (ad.add k)=some (.slice A' (nthL m k).length c')/\SI w A' (nthL m k).length c' (nthL m k):=h.2.2.2 hn
theorem SM.below {w w':World} {A:Option Addr} {n c:Nat} {m:List (List Int)} (h:SM w A n c m) (hb:Below w.heap.size w w'):SM w' A n c m:=
 ⟨h.1,h.2.1,h.2.2.1,λhn=>by
  obtain⟨ad,e,hc⟩:=h.2.2.2 hn
  refine⟨ad,e,λk hk=>?_⟩
  obtain⟨A',c',h1,h2⟩:=hc k hk
  exact⟨A',c',Below.cell_of hb h1,h2.below hb⟩⟩
theorem SM.nil (w:World):SM w none 0 0 []:=⟨rfl,Nat.le_refl _,by unfold maxLen; omega,λh=>absurd h (by omega)⟩
theorem xf4 (w:World) (cs:Array Value) (t:TypeId) (k:Nat) (v:Value) (h:cs[k]? = some v):(w.alloc (.cells cs t)).cell? ((⟨w.heap.size,0,none⟩:Addr).add k)=some v:=by
 have hh:(w.alloc (.cells cs t)).heap[w.heap.size]? = some (.cells cs t (0,0)):=heap_alloc_new w _
 have ha:(⟨w.heap.size,0,none⟩:Addr).add k=⟨w.heap.size,k,none⟩:=by unfold Addr.add; split <;> simp_all
 rw[ha,cell_of_row _ _ _ _ _ _ hh,h]
theorem SI.new (w:World) (t:TypeId) (zs:List Int) (n:Nat) (hn:zs.length=n) (hmx:n<=1000000):SI (w.alloc (.cells (zs.map (Value.int .i64)).toArray t)) (some ⟨w.heap.size,0,none⟩) n n zs:=
 ⟨hn,Nat.le_refl _,by unfold maxLen; omega,λ_=>⟨_,rfl,λk hk=>xf4 w _ t k _ (by simp[nth]; rw[List.getElem?_eq_getElem (by omega)]; simp)⟩⟩
def x2b (l:List (List (List Int))) (k:Nat):List (List Int):=l.getD k []
def S3 (w:World) (A:Option Addr) (n c:Nat) (l:List (List (List Int))):Prop:=
 l.length=n/\n<=c/\c<=maxLen/\(0<n->∃ad,A=some ad/\∀k,k<n->∃A' c',w.cell? (ad.add k)=some (.slice A' (x2b l k).length c')/\SM w A' (x2b l k).length c' (x2b l k))
theorem S3.len {w:World} {A:Option Addr} {n c:Nat} {m:List (List (List Int))} (h:S3 w A n c m):m.length=n:=h.1
theorem S3.nmax {w:World} {A:Option Addr} {n c:Nat} {m:List (List (List Int))} (h:S3 w A n c m):n<=9223372036854775807:=Nat.le_trans h.2.1 h.2.2.1
theorem S3.at_ {w:World} {A:Option Addr} {n c:Nat} {m:List (List (List Int))} (h:S3 w A n c m) (hn:0<n) :
  ∃ad,A=some ad/\∀k,k<n->∃A' c',w.cell? (ad.add k)=some (.slice A' (x2b m k).length c')/\SM w A' (x2b m k).length c' (x2b m k):=h.2.2.2 hn
def ints (zs:List Int):List Value:=zs.map (Value.int .i64)
theorem wa8 (zs:List Int):(ints zs).length=zs.length:=by simp[ints]
theorem w0r (zs:List Int) (k:Nat) (h:k<zs.length):(ints zs)[k]? = some (.int .i64 (nth zs k)):=by
 simp[ints,nth,h]
theorem wa9 {w:World} {B e size n:Nat} {v:Value} {xs:List Value} (h:w.ownsRow B e size v n xs) :
  ∃A c,v=.slice A n c/\n<=c/\c<=maxLen/\(0<n->∃g,A=some ⟨g,0,none⟩/\B<=g/\g<w.heap.size):=by
 rcases h.2 with⟨rfl,rfl⟩ | ⟨g,cap,cur,rfl,hb,hg,h1,h2,_⟩
 ·exact⟨none,0,rfl,Nat.le_refl _,by unfold maxLen; omega,λhh=>absurd hh (by omega)⟩
 ·exact⟨some ⟨g,0,none⟩,cap,rfl,h1,h2,λ_=>⟨g,rfl,hb,(Array.getElem?_eq_some_iff.1 hg).1⟩⟩
theorem w6g {w:World} {B e n:Nat} {A:Option Addr} {c:Nat} {zs:List Int} (h:w.ownsRow B e 1 (.slice A n c) n (ints zs)):SI w A n c zs:=by
 have hl:zs.length=n:=by have:=h.1; rw[wa8] at this; omega
 obtain⟨A',c',hv,h1,h2,h3⟩:=wa9 h
 injection hv with e1 e2 e3
 subst e1; subst e3
 refine⟨hl,h1,h2,λhn=>?_⟩
 obtain⟨g,rfl,_,_⟩:=h3 hn
 exact⟨_,rfl,λk hk=>h.cells (g:=g) rfl k _ (w0r zs k (by omega))⟩
theorem own_base {w:World} {B B' e size n:Nat} {v:Value} {xs:List Value} (h:w.ownsRow B e size v n xs) (hB:B'<=B):w.ownsRow B' e size v n xs:=by
 refine⟨h.1,?_⟩
 rcases h.2 with h0 | ⟨g,cap,cur,hv,hb,r⟩
 ·exact .inl h0
 ·exact .inr ⟨g,cap,cur,hv,Nat.le_trans hB hb,r⟩
structure Elt (P:Program) (t e:TypeId) (z:Value) (size bytes:Nat):Prop where
 under:P.underlying t=some (.slice e)
 info:(P.info? e).map (λi=>(i.zero,i.size,i.bytes))=some (some z,size,bytes)
end Ls
