/- A region that draws its order, walked by an invariant on what has come up; it fits inside a round of a loop over a function. No condition. -/
import Derived.OrdersIn
import Derived.WalkKit
import Derived.Below
namespace Ls
open Go Go.RowKit
theorem ready_of {md:Region.Mode} {ops:Array Oper} {l:Array Bool} {i:Nat} (h:i∈Region.ready md ops l) :
  i<ops.size/\l.getD i true=false/\∀o,ops[i]? = some o->∀e∈o.after,Region.binds md e=true->l.getD e.on false=true:=by
 unfold Region.ready at h
 rw[List.mem_filter,Bool.and_eq_true] at h
 obtain⟨h1,h2,h3⟩:=h
 refine⟨List.mem_range.1 h1,by simpa using h2,λo ho e he hb=>?_⟩
 rw[ho] at h3
 simp only[Option.map_some,Option.getD_some] at h3
 rw[Array.all_eq_true'] at h3
 have:=h3 e he
 rw[hb] at this
 simpa using this
def pend (l:Array Bool):Nat:=l.toList.count false
theorem xh0 (l:List Bool) (i:Nat) (h:l[i]? = some false):(l.set i true).count false+1=l.count false:=by
 induction l generalizing i with
 | nil=>simp at h
 | cons b l ih=>
  cases i with
  | zero=>
   simp at h; subst h
   simp
  | succ i=>
   have:=ih i (by simpa using h)
   cases b <;> simp <;> omega
theorem q87 {md:Region.Mode} {ops:Array Oper} {l:Array Bool} {i:Nat} (hl:l.size=ops.size) (h:i∈Region.ready md ops l):pend (l.setIfInBounds i true)+1=pend l:=by
 obtain⟨h1,h2,_⟩:=ready_of h
 unfold pend
 rw[Array.toList_setIfInBounds]
 refine xh0 _ _ ?_
 have:i<l.toList.length:=by simpa[hl] using h1
 rw[List.getElem?_eq_getElem this]
 have h3:l.getD i true=l[i]'(by simpa using this):=by simp[Array.getD,show i<l.size by simpa using this]
 rw[h3] at h2
 simpa using h2
theorem w4b {md:Region.Mode} {ops:Array Oper} {l:Array Bool} (hl:l.size=ops.size) (h:pend l=0):Region.ready md ops l=[]:=by
 rw[List.eq_nil_iff_forall_not_mem]
 intro i hi
 have:=q87 hl hi
 omega
theorem wpAnyIn_inv {F:Fence} {n:Nat} {P:Program} {md:Region.Mode} {ops:Array Oper} {Q:Exit->Act->World->Prop} (I:Array Bool->Act->World->Prop)
  (hs:∀l a w i,l.size=ops.size->I l a w->i∈Region.ready md ops l->wpOpIn F n P ops Q i (I (l.setIfInBounds i true)) a w)
  (he:∀l a w,l.size=ops.size->I l a w->Region.ready md ops l=[]->Q .normal a w) :
  ∀(k:Nat) (l:Array Bool) (a:Act) (w:World),l.size=ops.size->pend l<=k->I l a w->wpAnyIn F n P md ops Q k l a w
 | 0,l,a,w,hl,hk,hi=>by
  have hr:=w4b (md:=md) hl (by omega)
  exact⟨hr,he l a w hl hi hr⟩
 | k+1,l,a,w,hl,hk,hi=>by
  refine⟨λhr=>he l a w hl hi hr,λi hm=>?_⟩
  refine wpOpIn_mono (λa' w' h'=>wpAnyIn_inv I hs he k _ a' w' (by simpa using hl) ?_ h') (hs l a w i hl hi hm)
  have:=q87 hl hm
  omega
def x6d (md:Region.Mode) (ops:Array Oper):Bool:=(List.range ops.size).all λi=>((ops[i]?).map λo=>o.after.all λe=>!Region.binds md e || decide (e.on<i)).getD true
theorem all_up {md:Region.Mode} {ops:Array Oper} {l:Array Bool} (hb:x6d md ops=true) (hl:l.size=ops.size) (hr:Region.ready md ops l=[]):∀i,i<ops.size->l.getD i false=true:=by
 intro i
 induction i using Nat.strongRecOn with
 | ind i ih=>
  intro hi
  cases hq:l.getD i true with
  | true=>
   have e:l.getD i true=l.getD i false:=by simp[Array.getD,show i<l.size by omega]
   rw[<- e]; exact hq
  | false=>
   exfalso
   have:i∈Region.ready md ops l:=by
    unfold Region.ready
    rw[List.mem_filter,hq]
    refine⟨List.mem_range.2 hi,?_⟩
    have ho:ops[i]? = some ops[i]:=Array.getElem?_eq_getElem hi
    rw[ho]
    simp only[Bool.not_false,Bool.true_and,Option.map_some,Option.getD_some]
    rw[Array.all_eq_true']
    intro e he
    have hb1:=List.all_eq_true.1 hb i (List.mem_range.2 hi)
    rw[ho] at hb1
    simp only[Option.map_some,Option.getD_some] at hb1
    rw[Array.all_eq_true'] at hb1
    have hb2:=hb1 e he
    cases hq2:Region.binds md e with
    | false=>rfl
    | true=>
     rw[hq2] at hb2
     have hlt:e.on<i:=by simpa using hb2
     rw[ih e.on hlt (by omega)]; rfl
   rw[hr] at this
   cases this
end Ls
