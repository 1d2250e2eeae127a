/- Rows of the call's own that hold rows of the call's own: a slice of slices that is being built. No condition. -/
import Derived.Test.YtempacilejhbgaaGreatCore
import Derived.Deep.RegionLaw
namespace Ls
open Go Go.RowKit
def KeepsT (e:TypeId) (w w':World):Prop:=∀(g:Nat) (cur:Array Value),w.heap[g]? = some (Obj.cells cur e (0,0))->w'.heap[g]? = some (Obj.cells cur e (0,0))
theorem KeepsT.refl (e:TypeId) (w:World):KeepsT e w w:=λ_ _ h=>h
theorem KeepsT.trans {e:TypeId} {a b c:World} (h:KeepsT e a b) (k:KeepsT e b c):KeepsT e a c:=λg cur hh=>k g cur (h g cur hh)
theorem KeepsT.of_below {e:TypeId} {w w':World} (h:Below w.heap.size w w'):KeepsT e w w':=λg _ hh=>(h.block g (Array.getElem?_eq_some_iff.1 hh).1).trans hh
theorem q5v {w w':World} {B e size n:Nat} {v:Value} {xs:List Value} (h:w.ownsRow B e size v n xs) (hk:KeepsT e w w'):w'.ownsRow B e size v n xs:=by
 refine⟨h.1,?_⟩
 rcases h.2 with h0 | ⟨g,cap,cur,hv,hB,hg,r⟩
 ·exact .inl h0
 ·exact .inr ⟨g,cap,cur,hv,hB,hk g cur hg,r⟩
theorem w4j {w w':World} {B b e size n c:Nat} {g:Nat} {xs:List Value} (h:w.ownsRow B e size (.slice (some ⟨g,0,none⟩) n c) n xs) (hb:Below b w w') (hg:g<b) :
  w'.ownsRow B e size (.slice (some ⟨g,0,none⟩) n c) n xs:=by
 refine⟨h.1,?_⟩
 rcases h.2 with⟨h0,_⟩ | ⟨g',cap,cur,hv,hB,hh,r⟩
 ·simp at h0
 ·simp only[Value.slice.injEq,Option.some.injEq,Addr.mk.injEq,and_true,true_and] at hv
  obtain⟨rfl,rfl⟩:=hv
  exact .inr ⟨g,c,cur,rfl,hB,(hb.block g hg).trans hh,r⟩
theorem KeepsT.stored {w w':World} {B e e' size n c g:Nat} {xs:List Value} (hne:e≠e') (h:w.ownsRow B e' size (.slice (some ⟨g,0,none⟩) n c) n xs) (hg:w.grownBy w' (some g)):KeepsT e w w':=by
 intro k cur hk
 have hne':k≠g:=by
  rintro rfl
  rcases h.2 with⟨h0,_⟩ | ⟨g',cap,cur',hv,_,hh,_⟩
  ·simp at h0
  ·simp only[Value.slice.injEq,Option.some.injEq,Addr.mk.injEq,and_true,true_and] at hv
   obtain⟨rfl,_⟩:=hv
   rw[hk] at hh
   injection hh with hh
   injection hh with _ ht
   exact hne ht
 exact(hg.block k (Array.getElem?_eq_some_iff.1 hk).1 (by simpa using hne')).trans hk
theorem KeepsT.grown {w w':World} {B e e' size n:Nat} {v:Value} {xs:List Value} (hne:e≠e') (h:w.ownsRow B e' size v n xs) (hg:w.grownBy w' v.ownBlock):KeepsT e w w':=by
 intro k cur hk
 have hne':some k≠v.ownBlock:=by
  intro hkv
  rcases h.2 with⟨h0,_⟩ | ⟨g',cap,cur',hv,_,hh,_⟩
  ·subst h0; simp[Value.ownBlock] at hkv
  ·subst hv
   simp only[Value.ownBlock,Option.some.injEq] at hkv
   subst hkv
   rw[hk] at hh
   injection hh with hh
   injection hh with _ ht
   exact hne ht
 exact(hg.block k (Array.getElem?_eq_some_iff.1 hk).1 hne').trans hk
def RowsOwn (w:World) (B e:Nat) (vs:List Value) (rs:List (List Int)):Prop:=
 vs.length=rs.length/\∀r,r<rs.length->∃A c,vs[r]? = some (.slice A (nthL rs r).length c)/\w.ownsRow B e 1 (.slice A (nthL rs r).length c) (nthL rs r).length (ints (nthL rs r))
theorem RowsOwn.nil (w:World) (B e:Nat):RowsOwn w B e [] []:=⟨rfl,λr h=>absurd h (by simp)⟩
theorem RowsOwn.keep {w w':World} {B e:Nat} {vs:List Value} {rs:List (List Int)} (h:RowsOwn w B e vs rs) (hk:KeepsT e w w'):RowsOwn w' B e vs rs:=
 ⟨h.1,λr hr=>by
  obtain⟨A,c,h1,h2⟩:=h.2 r hr
  exact⟨A,c,h1,q5v h2 hk⟩⟩
theorem RowsOwn.snoc {w:World} {B e:Nat} {vs:List Value} {rs:List (List Int)} {A:Option Addr} {n c:Nat} {l:List Int} (h:RowsOwn w B e vs rs) (hn:l.length=n) (ho:w.ownsRow B e 1 (.slice A n c) n (ints l)):RowsOwn w B e (vs++[.slice A n c]) (rs++[l]):=by
 subst hn
 refine⟨by simp[h.1],λr hr=>?_⟩
 by_cases hlt:r<rs.length
 ·obtain⟨A',c',h1,h2⟩:=h.2 r hlt
  have e1:nthL (rs++[l]) r=nthL rs r:=by simp[nthL,List.getElem?_append_left hlt]
  rw[e1]
  exact⟨A',c',by rw[List.getElem?_append_left (by rw[h.1]; exact hlt)]; exact h1,h2⟩
 ·have hrr:r=rs.length:=by simp at hr; omega
  subst hrr
  have e1:nthL (rs++[l]) rs.length=l:=by simp[nthL]
  rw[e1]
  exact⟨A,c,by rw[<- h.1]; simp,ho⟩
theorem RowsOwn.base {w:World} {B B' e:Nat} {vs:List Value} {rs:List (List Int)} (h:RowsOwn w B e vs rs) (hB:B'<=B):RowsOwn w B' e vs rs:=
 ⟨h.1,λr hr=>by
  obtain⟨A,c,h1,h2⟩:=h.2 r hr
  exact⟨A,c,h1,own_base h2 hB⟩⟩
theorem xw9 {w:World} {B B' e e' n:Nat} {A:Option Addr} {c:Nat} {vs:List Value} {rs:List (List Int)} (h:w.ownsRow B e' 1 (.slice A n c) n vs) (hr:RowsOwn w B' e vs rs):SM w A n c rs:=by
 have hl:vs.length=n:=by have:=h.1; omega
 obtain⟨A',c',hv,h1,h2,h3⟩:=qx2 h
 injection hv with e1 e2 e3
 subst e1; subst e3
 refine⟨by rw[<- hr.1]; exact hl,h1,h2,λhn=>?_⟩
 obtain⟨g,rfl,_,_⟩:=h3 hn
 refine⟨_,rfl,λk hk=>?_⟩
 obtain⟨A1,c1,h4,h5⟩:=hr.2 k (by rw[<- hr.1,hl]; exact hk)
 exact⟨A1,c1,h.cells (g:=g) rfl k _ h4,wx7 h5⟩
theorem w9d (z:Value) (hz:z.cells=#[z]) (n:Nat):(madeCells z.cells (n*1)).toList=List.replicate n z:=by
 rw[hz]
 apply List.ext_getElem
 ·simp[madeCells]
 ·intro i h1 h2
  simp[madeCells,Nat.mod_one]
theorem below_none {w w':World} (h:w.grownBy w' none):Below w.heap.size w w':=(Below.refl _ w).grown h (Nat.le_refl _) (λk e=>by cases e)
theorem x2e {P:Program} {w:World} {ops:Array Oper} {rest:List Oper} {o:Oper} {a:Act} {Q:Exit->Act->World->Prop} {t e:TypeId} {z:Value} {bytes:Nat}
  (E:Elt P t e z 1 bytes) (hz:z.cells=#[z]) (hg:o.guard=none) (l c:Operand) (hop:o.op=Op.makeSlice t l c) (n:Nat)
  (hl:a.eval l=.int .i64 (n:Int)) (hc:a.eval c=.int .i64 (n:Int)) (hb:n<=1000000) (hby:bytes<=1000000)
  (hK:∀w',w'.ownsRow w.heap.size e 1 (.slice (some ⟨w.heap.size,0,none⟩) n n) n (List.replicate n z)->Below w.heap.size w w'->w.heap.size<w'.heap.size->wpList P ops Q rest (a.put o.dst (.slice (some ⟨w.heap.size,0,none⟩) n n)) w') :
  wpList P ops Q (o :: rest) a w:=by
 obtain⟨i,hi,hz0,hz1,hz2⟩:=info_parts E.info
 have hbb:bytes*n<=1000000*1000000:=Nat.mul_le_mul hby hb
 refine wpList_make_full w hg l c t hop w.heap.size e i z 1 E.under hi hz0 hz1 .i64 .i64 _ _ n hl hc rfl rfl (by rw[hz2]; omega) (by unfold maxLen; omega) (Nat.le_refl _) ?_
 intro w' h1 h2
 rw[w9d z hz] at h1
 have hlt:=h1.lt w.heap.size rfl
 exact hK w' h1 (below_none h2) hlt.2
theorem wr1 {w:World} {B e g n c:Nat} {xs:List Value} (h:w.ownsRow B e 1 (.slice (some ⟨g,0,none⟩) n c) n xs) (j:Nat) (hj:j<n) (v:Value) (hv:xs[j]? = some v):w.cell? ((⟨g,0,none⟩:Addr).add j)=some v:=by
 rw[<- hv]
 have ha:(⟨g,0,none⟩:Addr).add j=⟨g,j,none⟩:=by unfold Addr.add; split <;> simp_all
 rw[ha]
 exact h.cellAt j (by omega)
theorem add_zero_lit (g j:Nat):(⟨g,0,none⟩:Addr).add j=⟨g,j,none⟩:=by unfold Addr.add; split <;> simp_all
theorem KeepsT.under {e:TypeId} {a b c:World} (h:KeepsT e a b) (hb:Below a.heap.size b c):KeepsT e a c:=λg cur hh=>
 (hb.block g (Array.getElem?_eq_some_iff.1 hh).1).trans (h g cur hh)
theorem q5w {w w':World} (h:Below w.drew.heap.size w.drew w'):Below w.heap.size w w':=⟨h.os,h.tape,h.output,h.size,h.block⟩
theorem w17 {P:Program} {ops:Array Oper} {o:Oper} {a:Act} {K:Act->World->Prop} {Q:Exit->Act->World->Prop} {D:Prop} {w0 wr:World} {t e:TypeId} {z:Value} {bytes B n:Nat} {v el:Value} {xs:List Value}
  (E:Elt P t e z 1 bytes) (hz:z.cells.size=1) (hgd:o.guard=none) (s x:Operand)
  (ho:o.op=.call { callee:=.builtin .append,args:=#[s,x],argTypes:=#[t,t] })
  (hs:a.eval s=v) (hx:a.eval x=.slice (some ⟨wr.heap.size,0,none⟩) 1 1)
  (hown:wr.ownsRow B e 1 v n xs) (hb:Below B w0 wr) (hB:B<=w0.heap.size) (h1:el.oneCell'=true)
  (h63:n<1000000) (hby:bytes<=1000000)
  (h:∀A' c' w',w'.ownsRow B e 1 (.slice A' (n+1) c') (n+1) (xs++[el])->Below B w0 w'->wr.grownBy w' v.ownBlock->n+1<=c'->c'<=9223372036854775807->K (a.put o.dst (.slice A' (n+1) c')) w') :
  if Region.wanted o (yielded ops a.tmps)=true then Oper.wp P o a (wr.alloc (.cells #[el] e)) K Q else D:=by
 have hw:Region.wanted o (yielded ops a.tmps)=true:=by simp[Region.wanted,hgd]
 rw[if_pos hw]
 obtain⟨i,hi,hz0,hz1,hz2⟩:=info_parts E.info
 have hsz:=hb.size
 have hbb:(n+1)*bytes<=1000000*1000000:=Nat.mul_le_mul (by omega) hby
 refine wp_append_own _ s x t ho B e i z 1 bytes E.under hi hz0 hz1 hz2 hz (by decide) v n xs hs (hown.alloc _) ⟨wr.heap.size,0,none⟩ 1 1 [el] hx rfl
  (cell_one_new _ _ _) (by intro u hu; simp at hu; subst hu; exact h1) (by unfold maxLen; omega) (by omega) (by simp; omega) ?_
 intro v' w' hown' hg' hnil
 obtain⟨A',c',rfl,hc1,hc2,_⟩:=qx2 hown'
 have hg:wr.grownBy w' v.ownBlock:=⟨hg'.os,hg'.tape,hg'.output,Nat.le_trans (by simp) hg'.size,λk hk hne=>
  (hg'.block k (by simp; omega) hne).trans (Below.heap_alloc wr _ k hk)⟩
 refine h A' c' w' hown' (hb.grown hg (by omega) (λk hk=>(hown.lt k hk).1)) hg hc1 hc2
theorem S3.below {w w':World} {A:Option Addr} {n c:Nat} {m:List (List (List Int))} (h:S3 w A n c m) (hb:Below w.heap.size w w'):S3 w' A n c m:=
 ⟨h.1,h.2.1,h.2.2.1,λhn=>by
  obtain⟨ad,e,hc⟩:=h.2.2.2 hn
  refine⟨ad,e,λk hk=>?_⟩
  obtain⟨A',c',h1,h2⟩:=hc k hk
  exact⟨A',c',Below.cell_of hb h1,h2.below hb⟩⟩
end Ls
