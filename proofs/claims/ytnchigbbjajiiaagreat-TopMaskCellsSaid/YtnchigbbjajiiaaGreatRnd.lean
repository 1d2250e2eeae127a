/- A region that draws its order, walked by an invariant on what has come up; it fits inside a round of a loop over a function. No condition. -/
import Derived.Test.YtnchigbbjajiiaaGreatZ
import Derived.OrdersIn
import Derived.WalkKit
import Derived.Below
set_option linter.unusedVariables false
set_option linter.unusedSimpArgs false
namespace Ls
open Go Go.RowKit
theorem ready_of {md:Region.Mode} {ops:Array Oper} {l:Array Bool} {i:Nat} (h:i∈Region.ready md ops l) :
  i<ops.size/\l.getD i true=false/\∀o,ops[i]? = some o->∀e∈o.after,Region.binds md e=true->l.getD e.on false=true:=by
 unfold Region.ready at h
 rw[zb7,zam] at h
 grind [Array.all_eq_true']
def pend (l:Array Bool):Nat:=l.toList.count false
theorem xh0 (l:List Bool) (i:Nat) (h:l[i]? = some false):(l.set i true).count false+1=l.count false:=by
 grind
theorem q80 {md:Region.Mode} {ops:Array Oper} {l:Array Bool} {i:Nat} (hl:l.size=ops.size) (h:i∈Region.ready md ops l):pend (l.setIfInBounds i true)+1=pend l:=by
 obtain⟨h1,h2,_⟩:=ready_of h
 simp_all [pend,Array.toList_setIfInBounds,xh0,List.getElem?_eq_getElem,Array.getD]
theorem w3l {md:Region.Mode} {ops:Array Oper} {l:Array Bool} (hl:l.size=ops.size) (h:pend l=0):Region.ready md ops l=[]:=by
 rw[List.eq_nil_iff_forall_not_mem]
 grind [q80]
theorem wpAnyIn_inv {F:Fence} {n:Nat} {P:Program} {md:Region.Mode} {ops:Array Oper} {Q:Exit->Act->World->Prop} (I:Array Bool->Act->World->Prop)
  (hs:∀l a w i,l.size=ops.size->I l a w->i∈Region.ready md ops l->wpOpIn F n P ops Q i (I (l.setIfInBounds i true)) a w)
  (he:∀l a w,l.size=ops.size->I l a w->Region.ready md ops l=[]->Q .normal a w) :
  ∀(k:Nat) (l:Array Bool) (a:Act) (w:World),l.size=ops.size->pend l<=k->I l a w->wpAnyIn F n P md ops Q k l a w
 | 0,l,a,w,hl,hk,hi=>by
  have hr:=w3l (md:=md) hl ow
  exact⟨hr,he l a w hl hi hr⟩
 | k+1,l,a,w,hl,hk,hi=>by
  refine⟨λhr=>he l a w hl hi hr,λi hm=>?_⟩
  refine wpOpIn_mono (λa' w' h'=>wpAnyIn_inv I hs he k _ a' w' (by grind) ?_ h') (hs l a w i hl hi hm)
  grind [q80]
end Ls
