/- Appending a slice to a row of the call's own; cuts of slices of slices; the row that slices.Grow makes. No condition. -/
import Derived.Test.YtempacilejhbgaaGreatDoorOwn
import Derived.Lib.AppendZeros
namespace Ls
open Go Go.RowKit
def SV (w:World) (A:Option Addr) (k:Nat) (us:List Value):Prop:=us.length=k/\(0<k->∃ad,A=some ad/\∀j u,us[j]? = some u->w.cell? (ad.add j)=some u)
theorem SV.below {w w':World} {A:Option Addr} {k:Nat} {us:List Value} (h:SV w A k us) (hb:Below w.heap.size w w'):SV w' A k us:=
 ⟨h.1,λhk=>by
  obtain⟨ad,e,hc⟩:=h.2 hk
  exact⟨ad,e,λj u hu=>Below.cell_of hb (hc j u hu)⟩⟩
def RowsRead (w:World) (us:List Value) (m:List (List Int)):Prop:=
 us.length=m.length/\∀k,k<m.length->∃A c,us[k]? = some (.slice A (nthL m k).length c)/\SI w A (nthL m k).length c (nthL m k)
theorem RowsRead.below {w w':World} {us:List Value} {m:List (List Int)} (h:RowsRead w us m) (hb:Below w.heap.size w w'):RowsRead w' us m:=
 ⟨h.1,λk hk=>by
  obtain⟨A,c,h1,h2⟩:=h.2 k hk
  exact⟨A,c,h1,h2.below hb⟩⟩
theorem RowsOwn.read {w:World} {B e:Nat} {us:List Value} {m:List (List Int)} (h:RowsOwn w B e us m):RowsRead w us m:=
 ⟨h.1,λk hk=>by
  obtain⟨A,c,h1,h2⟩:=h.2 k hk
  exact⟨A,c,h1,w28 h2⟩⟩
theorem wi7 (a b:List (List Int)) (k:Nat) (h:k<a.length):nthL (a++b) k=nthL a k:=by simp[nthL,List.getElem?_append_left h]
theorem q8m (a b:List (List Int)) (k:Nat) (h:a.length<=k):nthL (a++b) k=nthL b (k-a.length):=by simp[nthL,List.getElem?_append_right h]
theorem RowsRead.append {w:World} {us vs:List Value} {a b:List (List Int)} (h:RowsRead w us a) (k:RowsRead w vs b):RowsRead w (us++vs) (a++b):=by
 refine⟨by simp[h.1,k.1],λi hi=>?_⟩
 by_cases hlt:i<a.length
 ·rw[wi7 a b i hlt,List.getElem?_append_left (by rw[h.1]; exact hlt)]
  exact h.2 i hlt
 ·rw[q8m a b i (by omega),List.getElem?_append_right (by rw[h.1]; omega),h.1]
  exact k.2 (i-a.length) (by simp at hi; omega)
theorem RowsOwn.append {w:World} {B e:Nat} {us vs:List Value} {a b:List (List Int)} (h:RowsOwn w B e us a) (k:RowsOwn w B e vs b):RowsOwn w B e (us++vs) (a++b):=by
 refine⟨by simp[h.1,k.1],λi hi=>?_⟩
 by_cases hlt:i<a.length
 ·rw[wi7 a b i hlt,List.getElem?_append_left (by rw[h.1]; exact hlt)]
  exact h.2 i hlt
 ·rw[q8m a b i (by omega),List.getElem?_append_right (by rw[h.1]; omega),h.1]
  exact k.2 (i-a.length) (by simp at hi; omega)
theorem SM.take {w:World} {A:Option Addr} {n c:Nat} {m:List (List Int)} (h:SM w A n c m) (k:Nat) (hk:k<=n):SM w A k c (m.take k):=by
 refine⟨by have:=h.len; simp; omega,Nat.le_trans hk h.cap,h.2.2.1,λh0=>?_⟩
 obtain⟨ad,rfl,hc⟩:=h.at_ (by omega)
 refine⟨ad,rfl,λi hi=>?_⟩
 have e:nthL (m.take k) i=nthL m i:=by simp[nthL,hi]
 rw[e]
 exact hc i (by omega)
theorem SM.drop {w:World} {A:Option Addr} {n c:Nat} {m:List (List Int)} (h:SM w A n c m) (k:Nat) (hk:k<=n):SM w (if c=k then A else A.map (·.add k)) (n-k) (c-k) (m.drop k):=by
 refine⟨by have:=h.len; simp; omega,by have:=h.cap; omega,Nat.le_trans (Nat.sub_le _ _) h.2.2.1,λh0=>?_⟩
 obtain⟨ad,rfl,hc⟩:=h.at_ (by omega)
 have hck:¬c=k:=by have:=h.cap; omega
 rw[if_neg hck]
 refine⟨ad.add k,rfl,λi hi=>?_⟩
 have e:nthL (m.drop k) i=nthL m (k+i):=by simp[nthL]
 rw[e,add_add]
 exact hc (k+i) (by omega)
section
variable {P : Program} (w : World)
end
end Ls
