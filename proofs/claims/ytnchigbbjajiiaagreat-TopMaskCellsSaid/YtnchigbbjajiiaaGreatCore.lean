/- The words for memory that the proofs of this seat share: a slice that reads as a list of integers, a slice of such slices, and one element appended to a row of the call's own. No condition. -/
import Derived.Test.YtnchigbbjajiiaaGreatZ
import Derived.WalkKit
import Derived.WalkSpells
import Derived.WalkLawsBesides
import Derived.Deep.QuietTactic
import Derived.BigQuiet
import Derived.Maps.AppendAt
import Derived.Deep.AppendLies
import Derived.Shelf.Abstract
import Derived.Laws.EntriesVeiled
import Derived.StillTailTactics
import Derived.Deep.DeepCutAuto
import Derived.Deep.CutBlock
import Derived.Deep.RegionHeld3
import Derived.Deep.DrawnRows
set_option linter.unusedVariables false
set_option linter.unusedSimpArgs false
namespace Ls
open Go Go.RowKit
theorem hidx {p:Prop} (h:p):Hid p:=h
def nth (l:List Int) (k:Nat):Int:=l.getD k 0
def nthL (m:List (List Int)) (k:Nat):List Int:=m.getD k []
theorem block_add (a:Addr) (n:Nat):(a.add n).block=a.block:=by grind [Addr.add]
theorem add_add (a:Addr) (i j:Nat):(a.add i).add j=a.add (i+j):=by
 grind [Addr.add,Nat.add_assoc]
theorem cell_lt {w:World} {a:Addr} {v:Value} (h:w.cell? a=some v):a.block<w.heap.size:=World.block_lt_of_cell? w a h
theorem Below.cell_of {w w':World} (hb:Below w.heap.size w w') {a:Addr} {v:Value} (h:w.cell? a=some v):w'.cell? a=some v:=
 (hb.cell (cell_lt h)).trans h
theorem below_alloc (w:World) (o:Obj):Below w.heap.size w (w.alloc o):=(zc0 _ w).alloc (zad _) o
theorem step_trans {a b c:World} (h:Below a.heap.size a b) (k:Below b.heap.size b c):Below a.heap.size a c:=h.trans (k.mono h.size)
def SI (w:World) (A:Option Addr) (n c:Nat) (zs:List Int):Prop:=
 zs.length=n/\n<=c/\c<=maxLen/\(0<n->∃ad,A=some ad/\∀k,k<n->w.cell? (ad.add k)=some (.int .i64 (nth zs k)))
theorem SI.len {w:World} {A:Option Addr} {n c:Nat} {zs:List Int} (h:SI w A n c zs):zs.length=n:=h.1
theorem SI.nmax {w:World} {A:Option Addr} {n c:Nat} {zs:List Int} (h:SI w A n c zs):n<=9223372036854775807:=zah h.2.1 h.2.2.1
theorem SI.at_ {w:World} {A:Option Addr} {n c:Nat} {zs:List Int} (h:SI w A n c zs) (hn:0<n) :
  ∃ad,A=some ad/\∀k,k<n->w.cell? (ad.add k)=some (.int .i64 (nth zs k)):=h.2.2.2 hn
theorem SI.nil (w:World):SI w none 0 0 []:=⟨rfl,zad _,by simp,λh=>absurd h ow⟩
def SM (w:World) (A:Option Addr) (n c:Nat) (m:List (List Int)):Prop:=
 m.length=n/\n<=c/\c<=maxLen/\(0<n->∃ad,A=some ad/\∀k,k<n->∃A' c',w.cell? (ad.add k)=some (.slice A' (nthL m k).length c')/\SI w A' (nthL m k).length c' (nthL m k))
theorem SM.len {w:World} {A:Option Addr} {n c:Nat} {m:List (List Int)} (h:SM w A n c m):m.length=n:=h.1
theorem SM.nmax {w:World} {A:Option Addr} {n c:Nat} {m:List (List Int)} (h:SM w A n c m):n<=9223372036854775807:=zah h.2.1 h.2.2.1
theorem SM.at_ {w:World} {A:Option Addr} {n c:Nat} {m:List (List Int)} (h:SM w A n c m) (hn:0<n) :
  ∃ad,A=some ad/\∀k,k<n->∃A' c',w.cell? (ad.add k)=some (.slice A' (nthL m k).length c')/\SI w A' (nthL m k).length c' (nthL m k):=h.2.2.2 hn
theorem SM.nil (w:World):SM w none 0 0 []:=⟨rfl,zad _,by simp,λh=>absurd h ow⟩
def ints (zs:List Int):List Value:=zs.map (Value.int .i64)
theorem q91 (zs:List Int):(ints zs).length=zs.length:=by simp[ints]
theorem wz9 (zs:List Int) (k:Nat) (h:k<zs.length):(ints zs)[k]? = some (.int .i64 (nth zs k)):=by
 simp[ints,nth,h]
theorem q92 {w:World} {B e size n:Nat} {v:Value} {xs:List Value} (h:w.ownsRow B e size v n xs) :
  ∃A c,v=.slice A n c/\n<=c/\c<=maxLen/\(0<n->∃g,A=some ⟨g,0,none⟩/\B<=g/\g<w.heap.size):=by
 rcases h.2 with⟨rfl,rfl⟩ | ⟨g,cap,cur,rfl,hb,hg,h1,h2,_⟩
 all_goals grind
theorem xu3 {w:World} {B e n:Nat} {A:Option Addr} {c:Nat} {zs:List Int} (h:w.ownsRow B e 1 (.slice A n c) n (ints zs)):SI w A n c zs:=by
 have hl:zs.length=n:=by have:=h.1; grind [q91]
 obtain⟨A',c',hv,h1,h2,h3⟩:=q92 h
 injection hv with e1 e2 e3
 subst e1; subst e3
 refine⟨hl,h1,h2,λhn=>?_⟩
 obtain⟨g,rfl,_,_⟩:=h3 hn
 exact⟨_,rfl,λk hk=>h.cells (g:=g) rfl k _ (wz9 zs k ow)⟩
theorem own_base {w:World} {B B' e size n:Nat} {v:Value} {xs:List Value} (h:w.ownsRow B e size v n xs) (hB:B'<=B):w.ownsRow B' e size v n xs:=by
 refine⟨h.1,?_⟩
 rcases h.2 with h0 | ⟨g,cap,cur,hv,hb,r⟩
 ·grind
 ·exact .inr ⟨g,cap,cur,hv,zah hB hb,r⟩
structure Elt (P:Program) (t e:TypeId) (z:Value) (size bytes:Nat):Prop where
 under:P.underlying t=some (.slice e)
 info:(P.info? e).map (λi=>(i.zero,i.size,i.bytes))=some (some z,size,bytes)
end Ls
