/- The abstract values by which the proofs of this seat walk code: data that is read, slices and boxes of the call's own; what they say of a world. No condition. -/
import Derived.Test.YtnchigbbjajiiaaGreatOwn
import Derived.RangeFuncNested
import Derived.RangeFuncLeaves
import Derived.RangeFuncRecord
import Derived.Lib.UnsafeStr
import Derived.DeepKeys
import Derived.Great.BuildSlice
import Derived.Great.FillDense
set_option linter.unusedVariables false
set_option linter.unusedSimpArgs false
namespace Eng
open Go Go.RowKit
inductive Ty where
 | int (k:IntKind)
 | bool
 | str
 | list (t:Ty)
 | prod (a b:Ty)
 | nlist (t:Ty)      -- a list whose slice is nil where it is empty
 deriving DecidableEq
@[reducible] def Ty.den:Ty->Type
 | .int _=>Int
 | .bool=>Bool
 | .str=>ByteArray
 | .list t=>List t.den
 | .nlist t=>List t.den
 | .prod a b=>a.den × b.den
def Ty.dflt:(t:Ty)->t.den
 | .int _=>(0:Int)
 | .bool=>false
 | .str=>ByteArray.empty
 | .list _=>[]
 | .nlist _=>[]
 | .prod a b=>(a.dflt,b.dflt)
def Ty.size:Ty->Nat
 | .prod a b=>a.size+b.size
 | .int _=>1
 | .bool=>1
 | .str=>1
 | .list _=>1
 | .nlist _=>1
theorem Ty.size_pos (t:Ty):0<t.size:=by
 induction t with
 | prod a b iha ihb=>grind [Ty.size]
 | _=>simp[Ty.size]
def qe5 (t:Ty) (l:List t.den) (i:Nat):t.den:=l.getD i t.dflt
theorem q2x {t:Ty} (l:List t.den) (p:Nat) (x:t.den) (hp:p<l.length):qe5 t (l.set p x) p=x:=by
 grind [qe5,List.getElem?_set_self]
theorem q6g {t:Ty} (l:List t.den) (p q:Nat) (x:t.den) (h:q≠p):qe5 t (l.set p x) q=qe5 t l q:=by
 simp_all [qe5,List.getD_eq_getElem?_getD,List.getElem?_set_ne,Ne.symm]
theorem qo1 {t:Ty} (l:List t.den) (p:Nat) (hp:p<l.length):qe5 t l p=l[p]:=by
 grind [qe5,List.getElem?_eq_getElem]
abbrev View:=Nat->Option Obj
def View.cell (m:View) (a:Addr):Option Value:=
 match m a.block with
 | some (.cells c _ _)=>if a.spot.isSome then none else c[a.off]?
 | _=>none
def View.le (m m':View):Prop:=∀b o,m b=some o->m' b=some o
def View.on (m:View) (w:World):Prop:=∀b o,m b=some o->w.heap[b]? = some o
def View.from (w:World) (B:Nat):View:=λb=>if B<=b then w.heap[b]? else none
def View.or (m m':View):View:=λb=>match m b with | some o=>some o | none=>m' b
theorem View.le_refl (m:View):m.le m:=λ_ _ h=>h
theorem View.le_trans {a b c:View} (h:a.le b) (k:b.le c):a.le c:=λx o hx=>k x o (h x o hx)
theorem View.cell_le {m m':View} (h:m.le m') {a:Addr} {v:Value} (hc:m.cell a=some v):m'.cell a=some v:=by
 unfold View.cell at *
 cases hm:m a.block with
 | none=>grind
 | some o=>rw[hm] at hc; rw[h _ _ hm]; omega
theorem View.cell_on {m:View} {w:World} (h:m.on w) {a:Addr} {v:Value} (hc:m.cell a=some v):w.cell? a=some v:=
 View.cell_le (m':=λb=>w.heap[b]?) h hc
theorem View.full_on (w:World):View.on (λb=>w.heap[b]?) w:=λ_ _ h=>h
theorem View.from_on (w:World) (B:Nat):(View.from w B).on w:=by
 intro b o h
 grind [View.from]
theorem View.lt {m:View} {w:World} (h:m.on w) {b:Nat} {o:Obj} (hm:m b=some o):b<w.heap.size:=(zal.1 (h b o hm)).1
theorem View.on_below {m:View} {w w':World} (h:m.on w) (hb:Below w.heap.size w w'):m.on w':=λb o hm=>(hb.block b (View.lt h hm)).trans (h b o hm)
theorem View.le_or {m m':View}:m.le (m.or m'):=λb o h=>by simp[View.or,h]
theorem View.or_le {m m':View} {w:World} (h:m.on w) (h':m'.on w):m'.le (m.or m'):=λb o hb=>by
 unfold View.or
 cases hm:m b with
 | none=>omega
 | some o'=>have:=h b o' hm; rw[h' b o hb] at this; grind
theorem View.or_on {m m':View} {w:World} (h:m.on w) (h':m'.on w):(m.or m').on w:=λb o hb=>by
 unfold View.or at hb
 cases hm:m b with
 | none=>rw[hm] at hb; exact h' b o hb
 | some o'=>rw[hm] at hb; exact h b o (by grind)
def View.cle (m m':View):Prop:=∀a v,m.cell a=some v->m'.cell a=some v
theorem View.le.cle {m m':View} (h:m.le m'):m.cle m':=λa v hc=>View.cell_le h hc
theorem View.cle_refl (m:View):m.cle m:=λ_ _ h=>h
theorem View.cle_trans {a b c:View} (h:a.cle b) (k:b.cle c):a.cle c:=λx o hx=>k x o (h x o hx)
def View.cells (m:View):View:=λb=>match m b with
 | some (.cells c t f)=>some (.cells c t f)
 | _=>none
theorem View.cells_cle (m:View):m.cle m.cells:=λa v h=>by
 grind [View.cell,View.cells]
theorem View.cells_le (m:View):m.cells.le m:=λb o h=>by
 grind [View.cells]
theorem View.cells_is {m:View} {b:Nat} {o:Obj} (h:m.cells b=some o):∃c t f,o=.cells c t f:=by
 grind [View.cells,Option.some.inj]
def Rd (m:View):(t:Ty)->t.den->List Value->Prop
 | .int k,n,vs=>vs=[.int k n]
 | .bool,b,vs=>vs=[.bool b]
 | .str,s,vs=>vs=[.string s]
 | .list t,l,vs=>∃A c,vs=[.slice A l.length c]/\l.length<=c/\c<=maxLen /\
   (0<l.length->∃ad,A=some ad/\∀i,i<l.length->∃cs:List Value,Rd m t (qe5 t l i) cs/\∀j v,cs[j]? = some v->m.cell (ad.add (i*t.size+j))=some v)
 | .nlist t,l,vs=>(∃A c,vs=[.slice A l.length c]/\l.length<=c/\c<=maxLen /\
   (0<l.length->∃ad,A=some ad/\∀i,i<l.length->∃cs:List Value,Rd m t (qe5 t l i) cs/\∀j v,cs[j]? = some v->m.cell (ad.add (i*t.size+j))=some v))/\(l.length=0->vs=[.slice none 0 0])
 | .prod a b,x,vs=>∃u v,vs=u++v/\Rd m a x.1 u/\Rd m b x.2 v
theorem Rd.cle {m m':View} (h:m.cle m'):∀{t:Ty} {x:t.den} {vs:List Value},Rd m t x vs->Rd m' t x vs:=by
 intro t
 induction t with
 | int k=>intro x vs hr; exact hr
 | bool=>intro x vs hr; exact hr
 | str=>intro x vs hr; exact hr
 | list t ih=>
  intro l vs hr
  obtain⟨A,c,h1,h2,h3,h4⟩:=hr
  refine⟨A,c,h1,h2,h3,λhl=>?_⟩
  obtain⟨ad,e,hc⟩:=h4 hl
  refine⟨ad,e,λi hi=>?_⟩
  obtain⟨cs,k1,k2⟩:=hc i hi
  exact⟨cs,ih k1,λj v hj=>h _ _ (k2 j v hj)⟩
 | nlist t ih=>
  intro l vs hr
  obtain⟨⟨A,c,h1,h2,h3,h4⟩,h5⟩:=hr
  refine⟨⟨A,c,h1,h2,h3,λhl=>?_⟩,h5⟩
  obtain⟨ad,e,hc⟩:=h4 hl
  refine⟨ad,e,λi hi=>?_⟩
  obtain⟨cs,k1,k2⟩:=hc i hi
  exact⟨cs,ih k1,λj v hj=>h _ _ (k2 j v hj)⟩
 | prod a b iha ihb=>
  intro x vs hr
  obtain⟨u,v,h1,h2,h3⟩:=hr
  exact⟨u,v,h1,iha h2,ihb h3⟩
theorem Rd.le {m m':View} (h:m.le m') {t:Ty} {x:t.den} {vs:List Value} (hr:Rd m t x vs):Rd m' t x vs:=Rd.cle h.cle hr
theorem Rd.length {m:View}:∀{t:Ty} {x:t.den} {vs:List Value},Rd m t x vs->vs.length=t.size:=by
 intro t
 induction t with
 | int k=>intro x vs hr; simp only[Rd] at hr; subst hr; rfl
 | bool=>intro x vs hr; simp only[Rd] at hr; subst hr; rfl
 | str=>intro x vs hr; simp only[Rd] at hr; subst hr; rfl
 | list t ih=>intro l vs hr; obtain⟨A,c,rfl,_⟩:=hr; rfl
 | nlist t ih=>intro l vs hr; obtain⟨⟨A,c,rfl,_⟩,_⟩:=hr; rfl
 | prod a b iha ihb=>
  intro x vs hr
  obtain⟨u,v,rfl,h2,h3⟩:=hr
  grind [Ty.size]
theorem Rd.one {m:View}:∀{t:Ty} {x:t.den} {vs:List Value},Rd m t x vs->∀v∈vs,v.oneCell'=true:=by
 intro t
 induction t with
 | int k=>intro x vs hr v hv; simp only[Rd] at hr; subst hr; simp at hv; subst hv; rfl
 | bool=>intro x vs hr v hv; simp only[Rd] at hr; subst hr; simp at hv; subst hv; rfl
 | str=>intro x vs hr v hv; simp only[Rd] at hr; subst hr; simp at hv; subst hv; rfl
 | list t ih=>intro l vs hr v hv; obtain⟨A,c,rfl,_⟩:=hr; simp at hv; subst hv; rfl
 | nlist t ih=>intro l vs hr v hv; obtain⟨⟨A,c,rfl,_⟩,_⟩:=hr; simp at hv; subst hv; rfl
 | prod a b iha ihb=>
  intro x vs hr v hv
  obtain⟨u,v',rfl,h2,h3⟩:=hr
  grind
def RdV (m:View):(t:Ty)->t.den->Value->Prop
 | .prod a b,x,v=>∃cs:List Value,v=.agg cs.toArray/\Rd m (.prod a b) x cs
 | .int k,x,v=>v=.int k x
 | .bool,x,v=>v=.bool x
 | .str,x,v=>v=.string x
 | .list t,x,v=>Rd m (.list t) x [v]
 | .nlist t,x,v=>Rd m (.nlist t) x [v]
@[reducible] def qa3:List Ty->Type
 | []=>Unit
 | t :: r=>t.den × qa3 r
def qs9 (m:View):(ts:List Ty)->qa3 ts->List Value->Prop
 | [],_,vs=>vs=[]
 | t :: r,x,vs=>∃u us,vs=u :: us/\RdV m t x.1 u/\qs9 m r x.2 us
def RdL (m:View) (t:Ty):List t.den->List Value->Prop
 | [],vs=>vs=[]
 | x :: l,vs=>∃u v,vs=u++v/\Rd m t x u/\RdL m t l v
theorem RdL.le {m m':View} (h:m.le m') {t:Ty}:∀{l:List t.den} {vs:List Value},RdL m t l vs->RdL m' t l vs
 | [],_,hr=>hr
 | _ :: _,_,⟨u,v,h1,h2,h3⟩=>⟨u,v,h1,Rd.le h h2,RdL.le h h3⟩
theorem RdL.length {m:View} {t:Ty}:∀{l:List t.den} {vs:List Value},RdL m t l vs->vs.length=l.length*t.size
 | [],_,hr=>by grind [RdL]
 | _ :: l,_,⟨u,v,h1,h2,h3⟩=>by subst h1; simp[Rd.length h2,RdL.length h3,Nat.succ_mul]; omega
theorem RdL.append {m:View} {t:Ty} {l':List t.den} {us:List Value} (hx:RdL m t l' us):∀{l:List t.den} {vs:List Value},RdL m t l vs->RdL m t (l++l') (vs++us)
 | [],_,hr=>by grind [RdL]
 | _ :: _,_,⟨a,b,h1,h2,h3⟩=>by subst h1; exact⟨a,b++us,by simp,h2,RdL.append hx h3⟩
theorem RdL.at_ {m:View} {t:Ty}:∀{l:List t.den} {vs:List Value},RdL m t l vs->∀i,i<l.length->∃cs:List Value,Rd m t (qe5 t l i) cs/\∀j,j<t.size->vs[i*t.size+j]? = cs[j]?
 | [],_,_,i,hi=>absurd hi (by simp)
 | x :: l,_,⟨u,v,h1,h2,h3⟩,i,hi=>by
  subst h1
  cases i with
  | zero=>exact⟨u,h2,λj hj=>by simp only[Nat.zero_mul,Nat.zero_add]; grind [List.getElem?_append_left,Rd.length]⟩
  | succ i=>
   obtain⟨cs,k1,k2⟩:=RdL.at_ h3 i (by grind)
   grind [qe5,List.getElem?_append_right,Rd.length,Nat.succ_mul]
theorem RdL.set {m:View} {t:Ty} {x:t.den} {cs:List Value} (hx:Rd m t x cs):∀{l:List t.den} {vs:List Value},RdL m t l vs->∀i,i<l.length ->
  RdL m t (l.set i x) (vs.take (i*t.size)++cs++vs.drop (i*t.size+t.size))
 | [],_,_,i,hi=>absurd hi (by simp)
 | y :: l,_,⟨u,v,h1,h2,h3⟩,i,hi=>by
  subst h1
  have hu:=Rd.length h2
  cases i with
  | zero=>
   refine⟨cs,v,?_,hx,h3⟩
   grind
  | succ i=>
   have k:=RdL.set hx h3 i (by grind)
   refine⟨u,_,?_,h2,k⟩
   have e1:(i+1)*t.size=u.length+i*t.size:=by grind
   rw[e1,List.take_length_add_append,zca,List.drop_length_add_append]
   simp
inductive AV where
 | any
 | lit (v:Value)
 | tt
 | ff
 | dat (t:Ty) (l:List t.den)
 | ndat (c:Bool) (t:Ty) (l:List t.den) -- data; nil where it is empty,or ('c') with no room behind it
 | own (g:Nat)
 | box (g off:Nat)
 | dptr (t:Ty) (l:List t.den) (i off:Nat)
 | optr (g:Nat) (t:Ty) (i off:Nat)
 | imm (cs:AV) (off:Nat)
 | fn (a:List Ty) (r:Ty) (p:qa3 a->Prop) (f:qa3 a->r.den)
 | msl (g:Nat) (k:Option Nat)            -- a slice of a pool: its head,or a row
 | mptr (g:Nat) (k:Option Nat) (t:Ty) (i off:Nat)
 | msub (g a b:Nat)                        -- a part of its head
 | clo (f:Nat) (caps:AV)
 | agg (cs:AV)
 | tup (cs:AV)
 | nil
 | cons (a b:AV)
def ql2 (P : Program) (f : Nat) : Prop := ∃ fn c, P.funcs[f]? = some fn /\ (fn.name == "runtime.NumGoroutine") = false /\ fn.body = some c
def IsFn (P:Program) (m:View) (a:List Ty) (r:Ty) (p:qa3 a->Prop) (f:qa3 a->r.den) (fv:Value):Prop:=
 ∃k caps,fv=.func (.func k) #[] caps/\ql2 P k/\∀(w:World) (m':View) (x:qa3 a) (vs:List Value),m.cle m'->m'.on w->p x->qs9 m' a x vs ->
  Calls P k (vs.toArray++caps) w λe w'=>∃v,e=.returned v/\Below w.heap.size w w'/\RdV (View.from w' w.heap.size) r (f x) v
def w53:Value->Bool
 | .slice _ _ _=>true
 | .pointer a=>a.isSome        -- a builder's,in a pool's head
 | .map a=>a.isSome
 | _=>false
def q8n:Value->Bool
 | .bool _=>true
 | _=>false
theorem x3o {v:Value} (h:w53 v=true):q8n v=false:=by cases v <;> first | rfl | cases h
def qf7 (hs:List Value):Value:=.func (.func 0) #[] hs.toArray
def kx:Option Nat->Nat
 | .none=>0
 | some p=>p+1
def ndK (c:Bool) (n:Nat) (vs:List Value):Prop:=match c with
 | false=>n=0->vs=[.slice none 0 0]
 | true=>∃A,vs=[.slice A n n]
def AV.ok (P:Program) (m:View) (ρ:List Value):AV->List Value->Prop
 | .any,vs=>∃v,vs=[v]
 | .lit v,vs=>vs=[v]
 | .tt,vs=>vs=[.bool true]
 | .ff,vs=>vs=[.bool false]
 | .dat t l,vs=>Rd m (.list t) l vs
 | .ndat c t l,vs=>Rd m (.list t) l vs/\ndK c l.length vs
 | .own g,vs=>∃v,(ρ[g]? = some v/\w53 v=true)/\vs=[v]
 | .box g off,vs=>∃b,ρ[g]? = some (.pointer (some ⟨b,0,none⟩))/\vs=[.pointer (some ⟨b,off,none⟩)]
 | .dptr t l i off,vs=>i<l.length/\∃(ad:Addr) (cs:List Value),vs=[.pointer (some (ad.add (i*t.size+off)))]/\Rd m t (qe5 t l i) cs/\∀j v,cs[j]? = some v->m.cell (ad.add (i*t.size+j))=some v
 | .optr g t i off,vs=>∃b n c,ρ[g]? = some (.slice (some ⟨b,0,none⟩) n c)/\vs=[.pointer (some ⟨b,i*t.size+off,none⟩)]
 | .imm cs off,vs=>∃(ad:Addr) (us:List Value),vs=[.pointer (some (ad.add off))]/\cs.ok P m ρ us/\∀j v,us[j]? = some v->m.cell (ad.add j)=some v
 | .fn a r p f,vs=>∃fv,vs=[fv]/\IsFn P m a r p f fv
 | .msl g k,vs=>∃hs v,ρ[g]? = some (qf7 hs)/\(hs[kx k]? = some v/\w53 v=true)/\vs=[v]
 | .mptr g k t i off,vs=>∃hs b n c,ρ[g]? = some (qf7 hs)/\hs[kx k]? = some (.slice (some ⟨b,0,none⟩) n c)/\vs=[.pointer (some ⟨b,i*t.size+off,none⟩)]
 | .msub g x y,vs=>∃hs A n c,ρ[g]? = some (qf7 hs)/\hs[0]? = some (.slice A n c)/\(x<=y/\y<=n)/\vs=[.slice (if c=x then A else A.map (·.add x)) (y-x) (c-x)]
 | .clo f caps,vs=>∃cs:List Value,vs=[.func (.func f) #[] cs.toArray]/\caps.ok P m ρ cs
 | .agg l,vs=>∃cs:List Value,vs=[.agg cs.toArray]/\l.ok P m ρ cs
 | .tup l,vs=>∃cs:List Value,vs=[.tuple cs.toArray]/\l.ok P m ρ cs
 | .nil,vs=>vs=[]
 | .cons a b,vs=>∃v rest,vs=v :: rest/\a.ok P m ρ [v]/\b.ok P m ρ rest
theorem IsFn.le {P:Program} {m m':View} (h:m.cle m') {a:List Ty} {r:Ty} {p:qa3 a->Prop} {f:qa3 a->r.den} {fv:Value} (k:IsFn P m a r p f fv):IsFn P m' a r p f fv:=by
 obtain⟨i,caps,e,hc,hk⟩:=k
 exact⟨i,caps,e,hc,λw m'' x vs hm=>hk w m'' x vs (View.cle_trans h hm)⟩
theorem AV.ok_cle {P:Program} {m m':View} {ρ ρ':List Value} (h:m.cle m') (hρ:∀(g:Nat) (v:Value),ρ[g]? = some v->q8n v=false->ρ'[g]? = some v):∀{av:AV} {vs:List Value},av.ok P m ρ vs->av.ok P m' ρ' vs:=by
 intro av
 induction av with
 | any=>intro vs k; exact k
 | lit v=>intro vs k; exact k
 | tt=>intro vs k; exact k
 | ff=>intro vs k; exact k
 | dat t l=>intro vs k; exact Rd.cle h k
 | ndat c t l=>intro vs k; exact⟨Rd.cle h k.1,k.2⟩
 | own g=>intro vs k; obtain⟨v,k1,k2⟩:=k; exact⟨v,⟨hρ _ _ k1.1 (x3o k1.2),k1.2⟩,k2⟩
 | box g off=>intro vs k; obtain⟨v,k1,k2⟩:=k; exact⟨v,hρ _ _ k1 rfl,k2⟩
 | dptr t l i off=>intro vs k; obtain⟨h0,ad,cs,k1,k2,k3⟩:=k; exact⟨h0,ad,cs,k1,Rd.cle h k2,λj v hj=>h _ _ (k3 j v hj)⟩
 | optr g t i off=>intro vs k; obtain⟨b,n,c,k1,k2⟩:=k; exact⟨b,n,c,hρ _ _ k1 rfl,k2⟩
 | imm cs off ih=>intro vs k; obtain⟨ad,us,k1,k2,k3⟩:=k; exact⟨ad,us,k1,ih k2,λj v hj=>h _ _ (k3 j v hj)⟩
 | fn a r p f=>intro vs k; obtain⟨fv,k1,k2⟩:=k; exact⟨fv,k1,k2.le h⟩
 | msl g j=>intro vs k; obtain⟨hs,v,k1,k2⟩:=k; exact⟨hs,v,hρ _ _ k1 rfl,k2⟩
 | mptr g j t i off=>intro vs k; obtain⟨hs,b,n,c,k1,k2⟩:=k; exact⟨hs,b,n,c,hρ _ _ k1 rfl,k2⟩
 | msub g x y=>intro vs k; obtain⟨hs,A,n,c,k1,k2⟩:=k; exact⟨hs,A,n,c,hρ _ _ k1 rfl,k2⟩
 | clo f caps ih=>intro vs k; obtain⟨cs,k1,k2⟩:=k; exact⟨cs,k1,ih k2⟩
 | agg l ih=>intro vs k; obtain⟨cs,k1,k2⟩:=k; exact⟨cs,k1,ih k2⟩
 | tup l ih=>intro vs k; obtain⟨cs,k1,k2⟩:=k; exact⟨cs,k1,ih k2⟩
 | nil=>intro vs k; exact k
 | cons a b iha ihb=>intro vs k; obtain⟨v,rest,k1,k2,k3⟩:=k; exact⟨v,rest,k1,iha k2,ihb k3⟩
theorem AV.ok_le {P:Program} {m m':View} {ρ ρ':List Value} (h:m.le m') (hρ:∀(g:Nat) (v:Value),ρ[g]? = some v->q8n v=false->ρ'[g]? = some v) {av:AV} {vs:List Value} (k:av.ok P m ρ vs):av.ok P m' ρ' vs:=AV.ok_cle h.cle hρ k
def qi3:(t:Ty)->t.den->AV->AV
 | .int k,n,r=>.cons (.lit (.int k n)) r
 | .bool,b,r=>.cons (.lit (.bool b)) r
 | .str,s,r=>.cons (.lit (.string s)) r
 | .list t,l,r=>.cons (.dat t l) r
 | .nlist t,l,r=>.cons (.ndat false t l) r
 | .prod a b,x,r=>qi3 a x.1 (qi3 b x.2 r)
def q8k:(t:Ty)->t.den->AV
 | .int k,n=>.lit (.int k n)
 | .bool,b=>.lit (.bool b)
 | .str,s=>.lit (.string s)
 | .list t,l=>.dat t l
 | .nlist t,l=>.ndat false t l
 | .prod a b,x=>.agg (qi3 (.prod a b) x .nil)
theorem qv3 {P:Program} {m:View} {ρ:List Value}:∀{t:Ty} {x:t.den} {r:AV} {u v:List Value},Rd m t x u->r.ok P m ρ v->(qi3 t x r).ok P m ρ (u++v):=by
 intro t
 induction t with
 | int k=>intro x r u v h k; simp only[Rd] at h; subst h; exact⟨_,_,rfl,rfl,k⟩
 | bool=>intro x r u v h k; simp only[Rd] at h; subst h; exact⟨_,_,rfl,rfl,k⟩
 | str=>intro x r u v h k; simp only[Rd] at h; subst h; exact⟨_,_,rfl,rfl,k⟩
 | list t ih=>intro x r u v h k; obtain⟨A,c,rfl,h4⟩:=h; exact⟨_,_,rfl,⟨A,c,rfl,h4⟩,k⟩
 | nlist t ih=>intro x r u v h k; obtain⟨⟨A,c,rfl,h4⟩,h5⟩:=h; exact⟨_,_,rfl,⟨⟨A,c,rfl,h4⟩,h5⟩,k⟩
 | prod a b iha ihb=>
  intro x r u v h k
  obtain⟨u1,u2,rfl,h1,h2⟩:=h
  rw[zdl]
  exact iha h1 (ihb h2 k)
theorem q93 {P:Program} {m:View} {ρ:List Value} {t:Ty} {x:t.den} {v:Value} (h:RdV m t x v):(q8k t x).ok P m ρ [v]:=by
 cases t with
 | int k=>grind [RdV,q8k,AV.ok]
 | bool=>grind [RdV,q8k,AV.ok]
 | str=>grind [RdV,q8k,AV.ok]
 | list t=>simp only[q8k,AV.ok]; exact h
 | nlist t=>simp only[q8k,AV.ok]; exact h
 | prod a b=>
  obtain⟨cs,rfl,h⟩:=h
  have:=qv3 (P:=P) (ρ:=ρ) (r:=.nil) (v:=[]) h rfl
  simp only[q8k,AV.ok]
  grind
def qj1 (t' t:Ty) (l:List t'.den) (k:List t.den->Prop):Prop:=match decEq t' t with
 | .isTrue h=>k (Eq.rec (motive:=λt _=>List t.den) l h)
 | .isFalse _=>False
theorem qm6 (t' t:Ty) (l:List t'.den) (k:List t.den->Prop):qj1 t' t l k=(t'=t/\∀l':List t.den,HEq l l'->k l'):=by
 apply propext
 unfold qj1
 split
 all_goals grind
theorem qg0 {t' t:Ty} {l:List t'.den} {k:List t.den->Prop} (h:qj1 t' t l k):t'=t/\∀l':List t.den,HEq l l'->k l':=(qm6 t' t l k).mp h
def qg5:(t:Ty)->AV->(t.den->AV->Prop)->Prop
 | .int k,c,K=>match c with
  | .cons (.lit (.int k' n)) r=>match decide (k'=k) with
   | true=>K n r
   | false=>False
  | _=>False
 | .bool,c,K=>match c with
  | .cons (.lit (.bool b)) r=>K b r
  | .cons .tt r=>K true r
  | .cons .ff r=>K false r
  | _=>False
 | .str,c,K=>match c with
  | .cons (.lit (.string s)) r=>K s r
  | _=>False
 | .list t,c,K=>match c with
  | .cons (.dat t' l) r=>qj1 t' t l λl'=>K l' r
  | .cons (.ndat _ t' l) r=>qj1 t' t l λl'=>K l' r
  | .cons (.lit v) r=>v=.slice .none 0 0/\K [] r
  | _=>False
 | .nlist t,c,K=>match c with
  | .cons (.ndat b t' l) r=>match b with
   | false=>qj1 t' t l λl'=>K l' r
   | true=>False
  | .cons (.dat t' l) r=>0<l.length/\qj1 t' t l λl'=>K l' r
  | .cons (.lit v) r=>v=.slice .none 0 0/\K [] r
  | _=>False
 | .prod a b,c,K=>qg5 a c λx r=>qg5 b r λy r'=>K (x,y) r'
theorem qv4 {P:Program} {m:View} {ρ:List Value}:∀{t:Ty} {c:AV} {K:t.den->AV->Prop} {vs:List Value},qg5 t c K->c.ok P m ρ vs ->
  ∃x r u v,vs=u++v/\Rd m t x u/\r.ok P m ρ v/\K x r:=by
 intro t
 induction t with
 | int k=>
  intro c K vs h hc
  simp only[qg5] at h
  split at h
  ·split at h
   ·rename_i hk
    have hk:=zbe hk
    subst hk
    obtain⟨v,rest,rfl,h3,h4⟩:=hc
    obtain⟨rfl,-⟩:=zac h3
    exact⟨_,_,[_],rest,rfl,rfl,h4,h⟩
   grind
  grind
 | bool=>
  intro c K vs h hc
  simp only[qg5] at h
  split at h
  ·obtain⟨v,rest,rfl,h3,h4⟩:=hc
   obtain⟨rfl,-⟩:=zac h3
   exact⟨_,_,[_],rest,rfl,rfl,h4,h⟩
  ·obtain⟨v,rest,rfl,h3,h4⟩:=hc
   obtain⟨rfl,-⟩:=zac h3
   exact⟨_,_,[_],rest,rfl,rfl,h4,h⟩
  ·obtain⟨v,rest,rfl,h3,h4⟩:=hc
   obtain⟨rfl,-⟩:=zac h3
   exact⟨_,_,[_],rest,rfl,rfl,h4,h⟩
  grind
 | str=>
  intro c K vs h hc
  simp only[qg5] at h
  split at h
  ·obtain⟨v,rest,rfl,h3,h4⟩:=hc
   obtain⟨rfl,-⟩:=zac h3
   exact⟨_,_,[_],rest,rfl,rfl,h4,h⟩
  grind
 | list t ih=>
  intro c K vs h hc
  simp only[qg5] at h
  split at h
  ·rw[qm6] at h
   obtain⟨rfl,h⟩:=h
   obtain⟨v,rest,rfl,h3,h4⟩:=hc
   exact⟨_,_,[_],rest,rfl,h3,h4,h _ HEq.rfl⟩
  ·rw[qm6] at h
   obtain⟨rfl,h⟩:=h
   obtain⟨v,rest,rfl,h3,h4⟩:=hc
   exact⟨_,_,[_],rest,rfl,h3.1,h4,h _ HEq.rfl⟩
  ·obtain⟨rfl,h⟩:=h
   obtain⟨v,rest,rfl,h3,h4⟩:=hc
   obtain⟨rfl,-⟩:=zac h3
   exact⟨_,_,[_],rest,rfl,⟨none,0,rfl,zad _,by simp,λhh=>absurd hh (by simp)⟩,h4,h⟩
  grind
 | nlist t ih=>
  intro c K vs h hc
  simp only[qg5] at h
  split at h
  ·split at h
   ·rw[qm6] at h
    obtain⟨rfl,h⟩:=h
    obtain⟨v,rest,rfl,h3,h4⟩:=hc
    exact⟨_,_,[_],rest,rfl,⟨h3.1,h3.2⟩,h4,h _ HEq.rfl⟩
   grind
  ·obtain⟨hl,h⟩:=h
   rw[qm6] at h
   obtain⟨rfl,h⟩:=h
   obtain⟨v,rest,rfl,h3,h4⟩:=hc
   exact⟨_,_,[_],rest,rfl,⟨h3,λe=>by omega⟩,h4,h _ HEq.rfl⟩
  ·obtain⟨rfl,h⟩:=h
   obtain⟨v,rest,rfl,h3,h4⟩:=hc
   obtain⟨rfl,-⟩:=zac h3
   exact⟨_,_,[_],rest,rfl,⟨⟨none,0,rfl,zad _,by simp,λhh=>absurd hh (by simp)⟩,λ_=>rfl⟩,h4,h⟩
  grind
 | prod a b iha ihb=>
  intro c K vs h hc
  obtain⟨x,r,u,v,rfl,h1,h2,h3⟩:=iha h hc
  obtain⟨y,r',u',v',rfl,k1,k2,k3⟩:=ihb h3 h2
  exact⟨_,_,u++u',v',by simp,⟨u,u',rfl,h1,k1⟩,k2,k3⟩
def qg2:(ts:List Ty)->qa3 ts->AV
 | [],_=>.nil
 | t :: r,x=>.cons (q8k t x.1) (qg2 r x.2)
theorem qz8 {P:Program} {m:View} {ρ:List Value}:∀{ts:List Ty} {y:qa3 ts} {vs:List Value},qs9 m ts y vs->(qg2 ts y).ok P m ρ vs/\vs.length=ts.length
 | [],y,vs,h=>⟨h,by have h:vs=[]:=h; grind⟩
 | t :: r,(x,y),vs,⟨u,us,e,h1,h2⟩=>by
  obtain⟨k1,k2⟩:=qz8 (P:=P) (ρ:=ρ) h2
  exact⟨⟨u,us,e,q93 h1,k1⟩,by grind⟩
theorem q8s {m:View}:∀{ts:List Ty} {y:qa3 ts} {vs:List Value},qs9 m ts y vs->vs.length=ts.length
 | [],y,vs,h=>by obtain rfl:vs=[]:=h; rfl
 | t :: r,x,vs,⟨u,us,e,h1,h2⟩=>by rw[e,zdu,q8s h2]; rfl
theorem xu4 {m m':View} (h:m.le m'):∀{t:Ty} {x:t.den} {v:Value},RdV m t x v->RdV m' t x v:=by
 intro t x v hr
 cases t <;> first | exact hr | exact Rd.le h hr | (obtain⟨cs,e,k⟩:=hr; exact⟨cs,e,Rd.le h k⟩)
theorem wh8 {m m':View} (h:m.le m'):∀{ts:List Ty} {y:qa3 ts} {vs:List Value},qs9 m ts y vs->qs9 m' ts y vs
 | [],y,vs,k=>k
 | t :: r,x,vs,⟨u,us,e,h1,h2⟩=>⟨u,us,e,xu4 h h1,wh8 h h2⟩
end Eng
set_option linter.unusedVariables false
set_option linter.unusedSimpArgs false
namespace Eng
open Go Go.RowKit
structure TI where
 agg:Bool
 size:Nat
 bytes:Nat
 ty:Ty
 zero:AV
 kind:Nat            -- 1: a slice,2: a string,3: a bool,4: an array,5: a struct
 dflt:Bool           -- its zero value reads as the zero datum
 elem:Nat
 flds:List (Nat × Nat × Nat)   -- offset,type,size
 eq2:Bool:=false   -- two integers,compared together
 isInt:Bool:=false -- an integer,of the kind that 'ty' tells
 bld:Option Nat:=none   -- a strings.Builder; the type of its bytes
 mp:Bool:=false    -- a map from texts; 'elem': what it gives
 eq3:Bool:=false   -- three integers,compared together
def Ty.flat:Ty->Bool
 | .int _=>true
 | .bool=>true
 | .str=>true
 | .prod a b=>match Ty.flat a with
  | true=>Ty.flat b
  | false=>false
 | .list _=>false
 | .nlist _=>false
structure q2v where
 hs:List Value
inductive AObj where
 | dead
 | box (ty:Nat) (cs:AV)
 | vec (e:Nat) (t:Ty) (l:List t.den)
 | cnt (k:Option Nat)          -- how often was handed over; none: no more is wanted
 | mat (eh e:Nat) (t:Ty) (rows:List (List t.den)) (ix:Option (List Nat)) (lt:Option q2v)   -- a pool: rows of the call's own,and a head that names them,in order or by a list
 | sit (s:ByteArray) (p:Nat)   -- a range over a string
 | bld (T e:Nat) (s:ByteArray) -- a strings.Builder: its pointer is the head of a pool,its buffer the first row
 | mp (t:Ty) (l:List (Ty.prod .str t).den) -- a map from texts to bools or integers
structure qa8 where
 fresh:Bool
 own:Option Nat
 deep:Option Nat:=.none          -- what it returns is a pool,with rows of these elements
 bx:Bool:=false                  -- it makes a box (of the type 'own'): what it returns,with the box as object 0,and the box's cells
 run:AV->(AV->Prop)->Prop
 one:∀args k,run args k->∃r,k r/\∀k':AV->Prop,k' r->run args k'
structure qz6 where
 ins:List Ty
 run:AV->(List (qa3 ins)->Prop)->Prop
 lend:Option Nat:=.none        -- it lends a list of such elements,for one round
structure qg6 where
 ins:List Ty
 L:List (qa3 ins)
 l:Nat
 slots:List Nat
 fix:List (Nat × AV)
 lend:Option Nat:=.none
structure MSpec where
 deep:Bool
 self:Bool
 eh:Nat
 e:Nat
 t:Ty
 run:List (List t.den)->AV->(AV->List (List t.den)->Prop)->Prop
 one:∀rows args k,run rows args k->∃r l,k r l/\∀k':AV->List (List t.den)->Prop,k' r l->run rows args k'
structure wt6 where
 T:Nat
 e:Nat
 kind:Nat
structure q3y where
 T:Nat
 pos:Nat
 run:AV->AV->(AV->AV->Prop)->Prop
 one:∀cs args k,run cs args k->∃r c,k r c/\∀k':AV->AV->Prop,k' r c->run cs args k'
structure Ctx where
 specs:List (Nat × qa8)
 tys:List (Nat × TI)
 wr:List Nat
 nm:List Nat:=[]
 its:List (Nat × qz6):=[]
 yl:Option qg6:=.none
 muts:List (Nat × MSpec):=[]
 mats:List Nat:=[]        -- literals of a slice that take their only element as a row of a pool
 em:List Nat:=[]          -- appends that may add nothing
 blds:List (Nat × wt6):=[]
 bxs:List (Nat × q3y):=[]
inductive Eff where
 | none
 | new (o:AObj)
 | upd (g:Nat) (o:AObj) (kill:Bool)
 | freeze (g:Nat) (t:Ty) (l:List t.den)
 | eat (h g:Nat) (o:AObj)      -- 'h' goes into 'g'
 | eatN (h:Nat) (o:AObj)       -- 'h' goes into what is made
 | perm (g:Nat) (o:AObj)       -- the rows of a pool change their places
def find {α:Type}:List (Nat × α)->Nat->Option α
 | [],_=>.none
 | (j,v) :: r,i=>match Nat.beq j i with
  | true=>some v
  | false=>find r i
def withSome.{u} {α:Type u} (o:Option α) (k:α->Prop):Prop:=
 match o with
 | some a=>k a
 | .none=>False
def qd5 (C:Ctx) (t:Nat) (k:TI->Prop):Prop:=withSome (find C.tys t) k
def split (b:Bool) (x y:Unit->Prop):Prop:=(b=true->x ())/\(b=false->y ())
def need (p:Prop) (k:Unit->Prop):Prop:=p/\k ()
def q18 (v:AV) (x y:Unit->Prop):Prop:=match v with
 | .tt=>x ()
 | .ff=>y ()
 | .lit (.bool b)=>split b x y
 | _=>False
def xf1:AV->Nat->(AV->Prop)->Prop
 | .cons a _,0,k=>k a
 | .cons _ b,i+1,k=>xf1 b i k
 | _,_,_=>False
def w29:AV->Nat->(AV->Prop)->Prop
 | c,0,k=>k c
 | .cons _ b,i+1,k=>w29 b i k
 | _,_,_=>False
def wt7:AV->Nat->(AV->Prop)->Prop
 | _,0,k=>k .nil
 | .cons a b,n+1,k=>wt7 b n λr=>k (.cons a r)
 | _,_,_=>False
def xf2:AV->Nat->AV->(AV->Prop)->Prop
 | c,_,.nil,k=>k c
 | .cons _ b,0,.cons v r,k=>xf2 b 0 r λb'=>k (.cons v b')
 | .cons a b,i+1,v,k=>xf2 b i v λb'=>k (.cons a b')
 | _,_,_,_=>False
def AV.lenIs:AV->Nat->Bool
 | .nil,0=>true
 | .cons _ b,n+1=>b.lenIs n
 | _,_=>false
def w54:AV->AV->(AV->Prop)->Prop
 | .nil,c,k=>k c
 | .cons a b,c,k=>w54 b c λr=>k (.cons a r)
 | _,_,_=>False
def AV.one:AV->Bool
 | .lit v=>match v with
  | .agg _=>false
  | .tuple _=>false
  | _=>true
 | .any=>false
 | .agg _=>false
 | .tup _=>false
 | .nil=>false
 | .cons _ _=>false
 | _=>true
def AV.flat:AV->Bool
 | .nil=>true
 | .cons a b=>match a.one with
  | true=>b.flat
  | false=>false
 | _=>false
def q1x (v:AV) (k:AV->Prop):Prop:=match v with
 | .agg cs=>match cs.flat with
  | true=>k cs
  | false=>False
 | v=>match v.one with
  | true=>k (.cons v .nil)
  | false=>False
def q5n (c:AV) (agg:Bool) (off size:Nat) (k:AV->Prop):Prop:=
 match agg with
 | true=>w29 c off λd=>wt7 d size λr=>k (.agg r)
 | false=>xf1 c off k
def AV.subst (g:Nat) (d:AV):AV->AV
 | .own h=>match Nat.beq h g with
  | true=>d
  | false=>.own h
 | .box h off=>.box h off
 | .optr h t i off=>match Nat.beq h g with
  | true=>.any
  | false=>.optr h t i off
 | .msl h k=>match Nat.beq h g with
  | true=>match k with
   | .none=>d
   | some _=>.any
  | false=>.msl h k
 | .mptr h k t i off=>match Nat.beq h g with
  | true=>.any
  | false=>.mptr h k t i off
 | .msub h a b=>match Nat.beq h g with
  | true=>.any
  | false=>.msub h a b
 | .imm cs off=>.imm (AV.subst g d cs) off
 | .clo f caps=>.clo f (AV.subst g d caps)
 | .agg cs=>.agg (AV.subst g d cs)
 | .tup cs=>.tup (AV.subst g d cs)
 | .cons a b=>.cons (AV.subst g d a) (AV.subst g d b)
 | c=>c
def AV.plain:AV->Bool
 | .own _=>false
 | .box _ _=>false
 | .optr _ _ _ _=>false
 | .msl _ _=>false
 | .mptr _ _ _ _ _=>false
 | .msub _ _ _=>false
 | .imm cs _=>cs.plain
 | .clo _ caps=>caps.plain
 | .agg cs=>cs.plain
 | .tup cs=>cs.plain
 | .cons a b=>match a.plain with
  | true=>b.plain
  | false=>false
 | _=>true
def qa1:List AObj->Nat->AObj
 | [],_=>.dead
 | o :: _,0=>o
 | _ :: r,i+1=>qa1 r i
def qc7:List AObj->Nat->AObj->List AObj
 | [],0,o=>[o]
 | [],_+1,_=>[]
 | _ :: r,0,o=>o :: r
 | x :: r,i+1,o=>x :: qc7 r i o
def ixL (n:Nat):Option (List Nat)->List Nat
 | .none=>List.range n
 | some l=>l
def qe6:Option (List Nat)->Nat->Nat
 | .none,i=>i
 | some l,i=>l.getD i 0
def qe0 (n:Nat):Option (List Nat)->Nat
 | .none=>n
 | some l=>l.length
def q1u (t:Ty) (rows:List (List t.den)):Option (List Nat)->List (List t.den)
 | .none=>rows
 | some l=>l.map λp=>qe5 (.list t) rows p
def qz9 (mem:List AObj) (g:Nat) (k:Option Nat):AV:=match qa1 mem g with
 | .mat _ _ t rows ix _=>match k with
  | .none=>.dat (.list t) (q1u t rows ix)
  | some p=>.dat t (qe5 (.list t) rows p)
 | _=>.any
def q19 (mem:List AObj) (g a b:Nat):AV:=match qa1 mem g with
 | .mat _ _ t rows ix _=>.dat (.list t) (((q1u t rows ix).take b).drop a)
 | _=>.any
def AV.snap (mem:List AObj):AV->AV
 | .own g=>match qa1 mem g with
  | .vec _ t l=>.dat t l
  | _=>.any
 | .box _ _=>.any
 | .optr _ _ _ _=>.any
 | .msl g k=>qz9 mem g k
 | .mptr _ _ _ _ _=>.any
 | .msub g a b=>q19 mem g a b
 | .imm cs off=>.imm (cs.snap mem) off
 | .clo f caps=>.clo f (caps.snap mem)
 | .agg cs=>.agg (cs.snap mem)
 | .tup cs=>.tup (cs.snap mem)
 | .cons a b=>.cons (a.snap mem) (b.snap mem)
 | c=>c
def AV.bor (mem:List AObj):AV->AV
 | .own g=>match qa1 mem g with
  | .vec _ t l=>.dat t l
  | _=>.any
 | .box g off=>match qa1 mem g with
  | .box _ cs=>.imm (cs.snap mem) off
  | _=>.any
 | .optr _ _ _ _=>.any
 | .msl g k=>qz9 mem g k
 | .mptr _ _ _ _ _=>.any
 | .msub g a b=>q19 mem g a b
 | .imm cs off=>.imm (cs.bor mem) off
 | .clo f caps=>.clo f (caps.bor mem)
 | .agg cs=>.agg (cs.bor mem)
 | .tup cs=>.tup (cs.bor mem)
 | .cons a b=>.cons (a.bor mem) (b.bor mem)
 | c=>c
def q94 (t:Ty) (v:AV) (k:t.den->Prop):Prop:=q1x v λc=>qg5 t c λx r=>match r with
 | .nil=>k x
 | _=>False
def asInt (v:AV) (k:IntKind->Int->Prop):Prop:=match v with
 | .lit (.int j n)=>k j n
 | _=>False
def asBool (v:AV) (k:Bool->Prop):Prop:=match v with
 | .lit (.bool b)=>k b
 | .tt=>k true
 | .ff=>k false
 | _=>False
def q1v (j k:IntKind) (x:Unit->Prop):Prop:=match decide (j=k) with
 | true=>x ()
 | false=>False
def q5o (t t':Ty) (x:Unit->Prop):Prop:=match decide (t=t') with
 | true=>x ()
 | false=>False
def w55 (o:Option Operand) (x:Unit->Prop):Prop:=match o with
 | .none=>x ()
 | some _=>False
def fits (k:IntKind) (n:Int):Prop:=k.wrap n=n
def q6h (w:Bool) (j:IntKind) (n:Int) (k:AV->Prop):Prop:=match w with
 | true=>k (.lit (.int j (j.wrap n)))
 | false=>need (fits j n) λ_=>k (.lit (.int j n))
def w0a (w:Bool) (op:BinOp) (j:IntKind) (a b:Int) (k:AV->Prop):Prop:=match op with
 | .add=>q6h w j (a+b) k
 | .sub=>q6h w j (a-b) k
 | .mul=>q6h w j (a*b) k
 | .quo=>need (b≠0) λ_=>q6h w j (a.tdiv b) k
 | .rem=>need (b≠0) λ_=>k (.lit (.int j (a.tmod b)))
 | .eql=>k (.lit (.bool (a==b)))
 | .neq=>k (.lit (.bool (a != b)))
 | .lss=>k (.lit (.bool (decide (a<b))))
 | .leq=>k (.lit (.bool (decide (a<=b))))
 | .gtr=>k (.lit (.bool (decide (b<a))))
 | .geq=>k (.lit (.bool (decide (b<=a))))
 | .and=>k (.lit (.int j (j.wrap (BitVec.ofInt j.bits a &&& BitVec.ofInt j.bits b).toNat)))
 | .or=>k (.lit (.int j (j.wrap (BitVec.ofInt j.bits a ||| BitVec.ofInt j.bits b).toNat)))
 | _=>False
def xy9 (v:AV) (k:IntKind->Int->IntKind->Int->Prop):Prop:=match v with
 | .cons x r=>match r with
  | .cons y z=>match z with
   | .nil=>asInt x λj a=>asInt y λi b=>k j a i b
   | _=>False
  | _=>False
 | _=>False
def x3e (v:AV) (k:IntKind->Int->IntKind->Int->IntKind->Int->Prop):Prop:=match v with
 | .cons x r=>asInt x λj a=>xy9 r λi b l c=>k j a i b l c
 | _=>False
def w0b (op:BinOp) (x y:ByteArray) (k:AV->Prop):Prop:=match op with
 | .add=>need (x.size+y.size<=9223372036854775807) λ_=>k (.lit (.string (x++y)))
 | .eql=>k (.lit (.bool (decide (x=y))))
 | .neq=>k (.lit (.bool (!decide (x=y))))
 | _=>False
def isNil:Value->Bool
 | .slice a n c=>match a with
  | .none=>match n,c with
   | 0,0=>true
   | _,_=>false
  | _=>false
 | _=>false
def q44 (C:Ctx) (op:BinOp) (t:Nat) (v:Value) (e:Bool) (k:AV->Prop):Prop:=qd5 C t λT=>match Nat.beq T.kind 1,isNil v with
 | true,true=>match op with
  | .eql=>k (.lit (.bool e))
  | .neq=>k (.lit (.bool (!e)))
  | _=>False
 | _,_=>False
def x3p (C:Ctx) (w:Bool) (op:BinOp) (t:Nat) (x y:AV) (k:AV->Prop):Prop:=match x,y with
 | .lit (.int j a),.lit (.int j' b)=>match op with
  | .shr=>need (0<=b) λ_=>k (.lit (.int j (a.fdiv (2 ^ (min b.toNat j.bits)))))
  | .shl=>need (0<=b) λ_=>q6h w j (a*2 ^ (min b.toNat j.bits)) k
  | op=>q1v j' j λ_=>w0a w op j a b k
 | .lit (.string a),.lit (.string b)=>w0b op a b k
 | .agg xs,.agg ys=>qd5 C t λT=>match T.eq2 with
  | false=>match T.eq3 with
   | false=>False
   | true=>x3e xs λj a i b l e=>x3e ys λj' a' i' b' l' e'=>q1v j' j λ_=>q1v i' i λ_=>q1v l' l λ_=>match op with
    | .eql=>k (.lit (.bool (a==a' && (b==b' && e==e'))))
    | .neq=>k (.lit (.bool (!(a==a' && (b==b' && e==e')))))
    | _=>False
  | true=>xy9 xs λj a i b=>xy9 ys λj' c i' d=>q1v j' j λ_=>q1v i' i λ_=>match op with
   | .eql=>k (.lit (.bool (a==c && b==d)))
   | .neq=>k (.lit (.bool (!(a==c && b==d))))
   | _=>False
 | .ndat c _ l,.lit v=>match c with
  | false=>q44 C op t v l.isEmpty k
  | true=>False
 | .dat _ l,.lit v=>need (0<l.length) λ_=>q44 C op t v false k
 | x,y=>qd5 C t λT=>match Nat.beq T.kind 3 with
  | false=>False
  | true=>asBool x λa=>asBool y λb=>match op with
   | .eql=>k (.lit (.bool (a==b)))
   | .neq=>k (.lit (.bool (a != b)))
   | _=>False
def unK (w:Bool) (op:UnOp) (x:AV) (k:AV->Prop):Prop:=match op,x with
 | .neg,.lit (.int j a)=>q6h w j (0-a) k
 | .not,.lit (.bool b)=>k (.lit (.bool (!b)))
 | .not,.tt=>k .ff
 | .not,.ff=>k .tt
 | _,_=>False
def q6i (flds:List (Nat × Nat × Nat)):List (Nat × AV)->AV->(AV->Prop)->Prop
 | [],c,k=>k c
 | (i,v) :: r,c,k=>withSome flds[i]? λf=>q1x v λx=>match x.lenIs f.2.2 with
  | true=>xf2 c f.1 x λc'=>q6i flds r c' k
  | false=>False
def q0a (t:Ty):List (Nat × AV)->Nat->(List t.den->Prop)->Prop
 | [],_,k=>k []
 | (i,v) :: r,j,k=>match Nat.beq i j with
  | true=>q94 t v λx=>q0a t r (j+1) λl=>k (x :: l)
  | false=>False
def xu5 (T:TI) (mem:List AObj) (v:AV) (k:AV->Prop):Prop:=match v with
 | .dat _ l=>match Nat.beq T.kind 1 with
  | true=>k (.lit (.int .i64 l.length))
  | false=>False
 | .ndat _ _ l=>match Nat.beq T.kind 1 with
  | true=>k (.lit (.int .i64 l.length))
  | false=>False
 | .own g=>match qa1 mem g,Nat.beq T.kind 1 with
  | .vec _ _ l,true=>k (.lit (.int .i64 l.length))
  | _,_=>False
 | .lit (.string s)=>match Nat.beq T.kind 2 with
  | true=>k (.lit (.int .i64 s.size))
  | false=>False
 | .lit (.slice _ n _)=>match Nat.beq T.kind 1 with
  | true=>k (.lit (.int .i64 n))
  | false=>False
 | .msl g j=>match qa1 mem g,Nat.beq T.kind 1 with
  | .mat _ _ t rows ix _,true=>match j with
   | .none=>k (.lit (.int .i64 (qe0 rows.length ix)))
   | some p=>k (.lit (.int .i64 (qe5 (.list t) rows p:List t.den).length))
  | _,_=>False
 | .msub _ a b=>match Nat.beq T.kind 1 with
  | true=>k (.lit (.int .i64 ((b-a:Nat):Int)))
  | false=>False
 | _=>False
def q6j (T:TI) (mem:List AObj) (v:AV) (k:AV->Prop):Prop:=match v with
 | .box g off=>match qa1 mem g with
  | .box _ cs=>q5n cs T.agg off T.size k
  | _=>False
 | .dptr t l i off=>q5n (qi3 t (qe5 t l i) .nil) T.agg off T.size k
 | .optr g t i off=>match qa1 mem g with
  | .vec _ t' l=>need (i<l.length) λ_=>qj1 t' t l λl'=>q5n (qi3 t (qe5 t l' i) .nil) T.agg off T.size k
  | _=>False
 | .mptr g j t i off=>match qa1 mem g with
  | .mat _ _ t' rows ix _=>match j with
   | .none=>match T.agg,Nat.beq off 0,Nat.beq t.size 1 with
    | false,true,true=>need (i<qe0 rows.length ix) λ_=>k (.msl g (some (qe6 ix i)))
    | _,_,_=>False
   | some p=>need (i<(qe5 (.list t') rows p:List t'.den).length) λ_=>qj1 t' t (qe5 (.list t') rows p) λl'=>q5n (qi3 t (qe5 t l' i) .nil) T.agg off T.size k
  | _=>False
 | .imm cs off=>q5n cs T.agg off T.size k
 | _=>False
def q45 (T:TI) (mem:List AObj) (v x:AV) (k:AV->Eff->Prop):Prop:=match v with
 | .box g off=>match qa1 mem g with
  | .box ty cs=>q1x x λc=>match c.lenIs T.size with
   | true=>xf2 cs off c λcs'=>k .any (.upd g (.box ty cs') false)
   | false=>False
  | _=>False
 | .optr g t i off=>match qa1 mem g with
  | .vec e t' l=>need (i<l.length) λ_=>q5o t' t λ_=>match Nat.beq off 0,Nat.beq t'.size T.size with
   | true,true=>q94 t' x λd=>k .any (.upd g (.vec e t' (l.set i d)) false)
   | _,_=>False
  | _=>False
 | .mptr g j t i off=>match qa1 mem g with
  | .mat eh e t' rows ix lt=>match j with
   | .none=>match x with
    | .msl h p=>match p with
     | some p=>match Nat.beq h g,Nat.beq off 0,Nat.beq T.size 1,Nat.beq t.size 1 with
      | true,true,true,true=>need (i<qe0 rows.length ix) λ_=>k .any (.upd g (.mat eh e t' rows (some ((ixL rows.length ix).set i p)) lt) false)
      | _,_,_,_=>False
     | .none=>False
    | _=>False
   | some p=>need (i<(qe5 (.list t') rows p:List t'.den).length) λ_=>q5o t' t λ_=>match Nat.beq off 0,Nat.beq t'.size T.size with
    | true,true=>q94 t' x λd=>k .any (.upd g (.mat eh e t' (rows.set p ((qe5 (.list t') rows p:List t'.den).set i d)) ix lt) false)
    | _,_=>False
  | _=>False
 | _=>False
def q6k (off:Nat) (v:AV) (k:AV->Prop):Prop:=match v with
 | .box g o=>k (.box g (o+off))
 | .dptr t l i o=>k (.dptr t l i (o+off))
 | .optr g t i o=>k (.optr g t i (o+off))
 | .imm cs o=>k (.imm cs (o+off))
 | _=>False
def x61 (n:Int) (k:Nat->Prop):Prop:=match n with
 | .ofNat j=>k j
 | .negSucc _=>False
def q2y (T E:TI) (mem:List AObj) (v:AV) (i:Int) (k:AV->Prop):Prop:=match Nat.beq T.kind 1 with
 | false=>match Nat.beq T.kind 4 with
  | true=>x61 i λj=>withSome T.flds[j]? λfl=>q6k fl.1 v k
  | false=>False
 | true=>match v with
  | .dat t l=>match Nat.beq t.size E.size with
   | true=>need (0<=i/\i<l.length) λ_=>k (.dptr t l i.toNat 0)
   | false=>False
  | .ndat _ t l=>match Nat.beq t.size E.size with
   | true=>need (0<=i/\i<l.length) λ_=>k (.dptr t l i.toNat 0)
   | false=>False
  | .own g=>match qa1 mem g with
   | .vec _ t l=>match Nat.beq t.size E.size with
    | true=>need (0<=i/\i<l.length) λ_=>k (.optr g t i.toNat 0)
    | false=>False
   | _=>False
  | .msl g j=>match qa1 mem g with
   | .mat _ _ t rows ix _=>match j with
    | .none=>match Nat.beq E.size 1 with
     | true=>need (0<=i/\i<qe0 rows.length ix) λ_=>k (.mptr g .none (.list t) i.toNat 0)
     | false=>False
    | some p=>match Nat.beq t.size E.size with
     | true=>need (0<=i/\i<(qe5 (.list t) rows p:List t.den).length) λ_=>k (.mptr g (some p) t i.toNat 0)
     | false=>False
   | _=>False
  | _=>False
def bound (ρ:Operand->AV) (o:Option Operand) (d:Int) (k:Int->Prop):Prop:=match o with
 | .none=>k d
 | some x=>asInt (ρ x) λ_ n=>k n
def byteAt (s:ByteArray) (i:Nat):Int:=match s[i]? with
 | some b=>b.toNat
 | .none=>0
def q0x (x i:AV) (k:AV->Prop):Prop:=match x with
 | .lit v=>match v with
  | .string s=>asInt i λ_ n=>need (0<=n/\n<s.size) λ_=>k (.lit (.int .u8 (byteAt s n.toNat)))
  | _=>False
 | _=>False
def q8t (nm:Nat) (x:AV) (k:AV->Eff->Prop):Prop:=match x with
 | .lit v=>match v with
  | .string s=>k (.box nm 0) (.new (.sit s 0))
  | _=>False
 | _=>False
def wi0 (mem:List AObj) (x:AV) (str:Bool) (k:AV->Eff->Prop):Prop:=match str with
 | true=>match x with
  | .box g off=>match off,qa1 mem g with
   | 0,.sit s p=>split (decide (p<s.size)) (λ_=>k (.tup (.cons .tt (.cons (.lit (.int .i64 p)) (.cons (.lit (.int .i32 (Utf8.decode s p).1)) .nil)))) (.upd g (.sit s (p+(Utf8.decode s p).2)) false)) (λ_=>k (.tup (.cons .ff .nil)) .none)
   | _,_=>False
  | _=>False
 | false=>False
def qp9 (ρ:Operand->AV) (v:AV) (lo hi mx:Option Operand) (k:AV->Prop):Prop:=w55 mx λ_=>match v with
 | .lit u=>match u with
  | .string s=>bound ρ lo 0 λa=>bound ρ hi s.size λb=>need (0<=a/\a<=b/\b<=s.size) λ_=>k (.lit (.string (s.extract a.toNat b.toNat)))
  | _=>False
 | _=>False
def q0b (T E:TI) (ρ:Operand->AV) (mem:List AObj) (v:AV) (lo hi mx:Option Operand) (k:AV->Eff->Prop):Prop:=match Nat.beq T.kind 1 with
 | false=>False
 | true=>w55 mx λ_=>match v with
  | .dat t l=>match Nat.beq t.size E.size with
   | true=>bound ρ lo 0 λa=>bound ρ hi l.length λb=>need (0<=a/\a<=b/\b<=l.length) λ_=>k (.dat t ((l.take b.toNat).drop a.toNat)) .none
   | false=>False
  | .own g=>match qa1 mem g with
   | .vec _ t l=>match Nat.beq t.size E.size with
    | true=>bound ρ lo 0 λa=>bound ρ hi l.length λb=>need (0<=a/\a<=b/\b<=l.length) λ_=>k (.dat t ((l.take b.toNat).drop a.toNat)) (.freeze g t l)
    | false=>False
   | _=>False
  | .msl g j=>match qa1 mem g,j with
   | .mat _ _ _ rows ix _,.none=>match Nat.beq E.size 1 with
    | true=>bound ρ lo 0 λa=>bound ρ hi (qe0 rows.length ix) λb=>need (0<=a/\a<=b/\b<=qe0 rows.length ix) λ_=>k (.msub g a.toNat b.toNat) .none
    | false=>False
   | _,_=>False
  | _=>False
def q20 (t:Ty) (mem:List AObj) (x:AV) (k:List t.den->Prop):Prop:=match x with
 | .dat t' l=>qj1 t' t l k
 | .own g=>match qa1 mem g with
  | .vec _ t' l=>qj1 t' t l k
  | _=>False
 | .msl g j=>match qa1 mem g,j with
  | .mat _ _ t' rows _ _,some p=>qj1 t' t (qe5 (.list t') rows p) k
  | _,_=>False
 | .lit v=>match isNil v with
  | true=>k []
  | false=>False
 | _=>False
def xz0 (em:Bool) (n:Nat) (p:Prop):Prop:=match em with
 | true=>p
 | false=>0<n/\p
def q0c (em:Bool) (nm:Nat) (mem:List AObj) (T E:TI) (s x:AV) (k:AV->Eff->Prop):Prop:=match Nat.beq T.kind 1,Nat.beq E.ty.size E.size with
 | true,true=>match s with
  | .msl g j=>match qa1 mem g,j with
   | .mat eh e t rows ix lt,.none=>match x with
    | .msl h jh=>match qa1 mem h,jh with
     | .mat eh' e' t' rows' ix' _,.none=>match Nat.beq eh' eh,Nat.beq e' e,Nat.beq T.elem eh,ix,ix',Nat.beq h g,lt,Nat.beq E.size 1 with
      | true,true,true,.none,.none,false,.none,true=>qj1 (.list t') (.list t) rows' λrows'=>need (0<rows'.length/\rows.length+rows'.length<=1000000) λ_=>k (.msl g .none) (.eat h g (.mat eh e t (rows++rows') .none .none))
      | _,_,_,_,_,_,_,_=>False
     | _,_=>False
    | _=>False
   | _,_=>False
  | s=>q20 E.ty mem x λl'=>match s with
   | .own g=>match qa1 mem g with
    | .vec e t l=>match Nat.beq e T.elem with
     | true=>qj1 E.ty t l' λl''=>need (xz0 em l''.length (l.length+l''.length<=1000000)) λ_=>k (.own g) (.upd g (.vec e t (l++l'')) true)
     | false=>False
    | _=>False
   | .lit (.slice .none n c)=>match n,c with
    | 0,0=>need (xz0 em l'.length (l'.length<=1000000)) λ_=>k (.own nm) (.new (.vec T.elem E.ty l'))
    | _,_=>False
   | .ndat c t l=>match c with
    | true=>q20 E.ty mem (.dat t l) λl0=>need (0<l'.length/\l0.length+l'.length<=1000000) λ_=>k (.own nm) (.new (.vec T.elem E.ty (l0++l')))
    | false=>False
   | _=>False
 | _,_=>False
def AV.nilLit:AV->Bool
 | .lit v=>isNil v
 | _=>false
def AV.tf:AV->AV
 | .lit v=>match v with
  | .bool b=>match b with
   | true=>.tt
   | false=>.ff
  | v=>.lit v
 | a=>a
def xu6 (C:Ctx) (w:Bool) (op:BinOp) (t:Nat) (mem:List AObj) (x y:AV) (k:AV->Prop):Prop:=match x.nilLit with
 | true=>match y with
  | .lit v=>q44 C op t v true λa=>k a.tf
  | _=>False
 | false=>match x with
  | .own g=>match y,qa1 mem g with
   | .lit v,.vec _ _ l=>need (0<l.length) λ_=>q44 C op t v false λa=>k a.tf
   | _,_=>False
  | x=>x3p C w op t x y k
def max2 (big:Bool) (a b:Int):Int:=match big with
 | true=>max a b
 | false=>min a b
def q8u (big:Bool) (l:List AV) (k:IntKind->Int->Prop):Prop:=match l with
 | [x,y]=>asInt x λj a=>asInt y λj' b=>q1v j' j λ_=>k j (max2 big a b)
 | [x,y,z]=>asInt x λj a=>asInt y λj' b=>asInt z λj'' c=>q1v j' j λ_=>q1v j'' j λ_=>k j (max2 big (max2 big a b) c)
 | _=>False
def qk1 (ρ:Operand->AV):List Operand->AV
 | []=>.nil
 | x :: r=>.cons (ρ x) (qk1 ρ r)
def takeA:(t:Ty)->AV->(t.den->Prop)->Prop
 | .prod a b,v,k=>match v with
  | .agg cs=>qg5 (.prod a b) cs λx r=>match r with
   | .nil=>k x
   | _=>False
  | _=>False
 | .int j,v,k=>qg5 (.int j) (.cons v .nil) λx _=>k x
 | .bool,v,k=>qg5 .bool (.cons v .nil) λx _=>k x
 | .str,v,k=>qg5 .str (.cons v .nil) λx _=>k x
 | .list t,v,k=>qg5 (.list t) (.cons v .nil) λx _=>k x
 | .nlist t,v,k=>qg5 (.nlist t) (.cons v .nil) λx _=>k x
def qg1:(ts:List Ty)->AV->(qa3 ts->Prop)->Prop
 | [],c,k=>match c with
  | .nil=>k ()
  | _=>False
 | t :: r,c,k=>match c with
  | .cons v rest=>takeA t v λx=>qg1 r rest λy=>k (x,y)
  | _=>False
def bit (n:Nat):Nat:=Nat.pow 2 n
def AV.msk:AV->Nat
 | .own g=>bit g
 | .box g _=>bit g
 | .optr g _ _ _=>bit g
 | .msl g _=>bit g
 | .mptr g _ _ _ _=>bit g
 | .msub g _ _=>bit g
 | .imm cs _=>cs.msk
 | .clo _ c=>c.msk
 | .agg c=>c.msk
 | .tup c=>c.msk
 | .cons a b=>Nat.lor a.msk b.msk
 | _=>0
def AObj.msk:AObj->Nat
 | .box _ c=>c.msk
 | _=>0
def qq4 (R:Nat):List AObj->Nat->Nat
 | [],_=>0
 | o :: r,i=>match Nat.testBit R i with
  | true=>Nat.lor o.msk (qq4 R r (i+1))
  | false=>qq4 R r (i+1)
def qf5 (mem:List AObj) (R:Nat):Nat:=Nat.lor R (qq4 R mem 0)
def q31 (mem:List AObj) (g:Nat) (p:Option Nat):AV->(AV->Prop)->Prop
 | .nil,k=>k .nil
 | .cons v r,k=>match Nat.testBit (qf5 mem v.msk) g with
  | false=>q31 mem g p r λr'=>k (.cons (v.bor mem) r')
  | true=>match p with
   | .none=>False
   | some p=>match v with
    | .msl h j=>match j with
     | some q=>match Nat.beq h g with
      | true=>need (q≠p) λ_=>q31 mem g (some p) r λr'=>k (.cons (qz9 mem h (some q)) r')
      | false=>False
     | .none=>False
    | _=>False
 | _,_=>False
def xu7 (b:Bool) (a r:AV):AV:=match b with
 | true=>a
 | false=>r
def q6l (M:MSpec) (mem:List AObj) (a rest:AV) (k:AV->Eff->Prop):Prop:=match a with
 | .own g=>match qa1 mem g,M.deep,M.self with
  | .vec e t l,false,false=>match Nat.beq e M.e,rest.plain with
   | true,true=>qj1 t M.t l λl=>M.run [l] rest λr rows'=>k r (.upd g (.vec M.e M.t (qe5 (.list M.t) rows' 0)) false)
   | _,_=>False
  | _,_,_=>False
 | _=>False
def wi1 (M:MSpec) (mem:List AObj) (args:AV) (k:AV->Eff->Prop):Prop:=match args with
 | .cons a rest=>match Ty.flat M.t with
  | false=>q6l M mem a rest k
  | true=>match a with
  | .own g=>match qa1 mem g,M.deep with
   | .vec e t l,false=>match Nat.beq e M.e with
    | true=>qj1 t M.t l λl=>q31 mem g .none rest λrest'=>M.run [l] rest' λr rows'=>k (xu7 M.self a r) (.upd g (.vec M.e M.t (qe5 (.list M.t) rows' 0)) false)
    | false=>False
   | _,_=>False
  | .msl g j=>match qa1 mem g,j,M.deep with
   | .mat eh e t rows ix lt,some p,false=>match Nat.beq e M.e with
    | true=>qj1 (.list t) (.list M.t) rows λrows=>q31 mem g (some p) rest λrest'=>M.run [qe5 (.list M.t) rows p] rest' λr rows'=>k (xu7 M.self a r) (.upd g (.mat eh M.e M.t (rows.set p (qe5 (.list M.t) rows' 0)) ix lt) false)
    | false=>False
   | .mat eh e t rows ix lt,.none,true=>match Nat.beq eh M.eh,Nat.beq e M.e,M.self,ix with
    | true,true,false,.none=>qj1 (.list t) (.list M.t) rows λrows=>q31 mem g .none rest λrest'=>M.run rows rest' λr rows'=>k r (.perm g (.mat M.eh M.e M.t rows' .none lt))
    | _,_,_,_=>False
   | _,_,_=>False
  | _=>False
 | _=>False
def AV.own1:AV->Option Nat
 | .own g=>some g
 | .agg cs=>cs.own1
 | .tup cs=>cs.own1
 | .clo _ cs=>cs.own1
 | .cons a b=>match a.own1 with
  | some g=>some g
  | .none=>b.own1
 | _=>.none
def q0d (mem:List AObj) (args:AV) (k:AV->Nat->(t:Ty)->List t.den->Prop):Prop:=match args.own1 with
 | .none=>False
 | some g=>match qa1 mem g with
  | .vec _ t l=>match(AV.subst g (.dat t l) args).plain with
   | true=>k (AV.subst g (.dat t l) args) g t l
   | false=>False
  | _=>False
def AV.rn (nm:Nat):AV->AV
 | .box g o=>match g with
  | 0=>.box nm o
  | _+1=>.any
 | .own _=>.any
 | .optr _ _ _ _=>.any
 | .msl _ _=>.any
 | .mptr _ _ _ _ _=>.any
 | .msub _ _ _=>.any
 | .imm cs off=>.imm (cs.rn nm) off
 | .clo f caps=>.clo f (caps.rn nm)
 | .agg cs=>.agg (cs.rn nm)
 | .tup cs=>.tup (cs.rn nm)
 | .cons a b=>.cons (a.rn nm) (b.rn nm)
 | c=>c
def wt8:Nat->AV->(AV->AV->Prop)->Prop
 | 0,c,k=>match c with
  | .cons a r=>k a r
  | _=>False
 | n+1,c,k=>match c with
  | .cons a r=>wt8 n r λx r'=>k x (.cons a r')
  | _=>False
def bxK (B:q3y) (mem:List AObj) (args:AV) (k:AV->Eff->Prop):Prop:=wt8 B.pos args λa rest=>match a with
 | .box g off=>match off,qa1 mem g with
  | 0,.box ty cs=>match Nat.beq ty B.T,rest.plain,cs.plain with
   | true,true,true=>B.run cs rest λr cs'=>k r (.upd g (.box B.T cs') false)
   | _,_,_=>False
  | _,_=>False
 | _=>False
def q5p (S:qa8) (nm:Nat) (k:AV->Eff->Prop) (r:AV):Prop:=match S.own with
 | .none=>k r .none
 | some e=>match S.bx with
  | true=>match r with
   | .cons r' cs=>k (r'.rn nm) (.new (.box e cs))
   | _=>False
  | false=>match r with
   | .dat t l=>match S.deep with
    | .none=>k (.own nm) (.new (.vec e t l))
    | some e'=>match t,l with
     | .list t,l=>k (.msl nm .none) (.new (.mat e e' t l .none .none))
     | _,_=>False
   | .tup c=>match S.deep,c with
    | .none,.cons a z=>match a with
     | .dat t l=>k (.tup (.cons (.own nm) z)) (.new (.vec e t l))
     | _=>False
    | some e',.cons a z=>match a with
     | .dat t l=>match t,l with
      | .list t,l=>k (.tup (.cons (.msl nm .none) z)) (.new (.mat e e' t l .none .none))
      | _,_=>False
     | _=>False
    | _,_=>False
   | .lit v=>match S.deep with
    | .none=>need (v=.slice .none 0 0) λ_=>k (.lit (.slice .none 0 0)) .none
    | some _=>False
   | _=>False
def xz1 (kind:Nat) (g T e:Nat) (s:ByteArray) (r:AV) (k:AV->Eff->Prop):Prop:=match kind with
 | 0=>match r with
  | .cons x z=>match z with
   | .nil=>asInt x λj n=>q1v j .u8 λ_=>need (0<=n/\n<256/\s.size+1<=1000000000) λ_=>k (.lit .nilIface) (.perm g (.bld T e (s.push n.toNat.toUInt8)))
   | _=>False
  | _=>False
 | 1=>match r with
  | .cons x z=>match z with
   | .nil=>match x with
    | .lit v=>match v with
     | .string u=>need (s.size+u.size<=1000000000) λ_=>k (.tup (.cons (.lit (.int .i64 u.size)) (.cons (.lit .nilIface) .nil))) (.perm g (.bld T e (s++u)))
     | _=>False
    | _=>False
   | _=>False
  | _=>False
 | 2=>match r with
  | .nil=>k (.lit (.string s)) (.upd g .dead true)
  | _=>False
 | _=>False
def xu8 (B:wt6) (mem:List AObj) (args:AV) (k:AV->Eff->Prop):Prop:=match args with
 | .cons a r=>match a with
  | .msl g j=>match qa1 mem g,j with
   | .bld T e s,.none=>match Nat.beq T B.T,Nat.beq e B.e with
    | true,true=>xz1 B.kind g T e s r k
    | _,_=>False
   | _,_=>False
  | _=>False
 | _=>False
def callK (C:Ctx) (nm:Nat) (mem:List AObj) (f:Nat) (args:AV) (k:AV->Eff->Prop):Prop:=match find C.muts f with
 | some M=>wi1 M mem args k
 | .none=>match find C.blds f with
  | some B=>xu8 B mem args k
  | .none=>match find C.bxs f with
  | some B=>bxK B mem args k
  | .none=>withSome (find C.specs f) λS=>
  let k':AV->Prop:=λr=>q5p S nm k r
  match args.plain with
  | true=>S.run args k'
  | false=>match S.fresh with
   | true=>S.run (args.bor mem) k'
   | false=>match S.own with
    | .none=>q0d mem args λargs' g t l=>S.run args' λr=>k r (.freeze g t l)
    | some _=>False
def q46 (T E:TI) (mem:List AObj) (x:AV) (k:AV->Eff->Prop):Prop:=match Nat.beq T.kind 1,E.isInt,E.dflt with
 | true,true,true=>match x with
  | .msl g j=>match qa1 mem g,j with
   | .mat eh e t rows ix lt,some p=>q5o t E.ty λ_=>k .any (.upd g (.mat eh e t (rows.set p (List.replicate (qe5 (.list t) rows p:List t.den).length t.dflt)) ix lt) false)
   | _,_=>False
  | _=>False
 | _,_,_=>False
def q0y (C:Ctx) (dst nm:Nat) (mem:List AObj) (b:Builtin) (tys:List Nat) (args:List AV) (k:AV->Eff->Prop):Prop:=match b,args with
 | .len,[x]=>match tys with
  | [t]=>qd5 C t λT=>xu5 T mem x λv=>k v .none
  | _=>False
 | .append,[s,x]=>match tys with
  | [t,t']=>match Nat.beq t t' with
   | true=>qd5 C t λT=>qd5 C T.elem λE=>q0c (C.em.contains dst) nm mem T E s x k
   | false=>False
  | _=>False
 | .clear,[x]=>match tys with
  | [t]=>qd5 C t λT=>qd5 C T.elem λE=>q46 T E mem x k
  | _=>False
 | .max,l=>q8u true l λj n=>k (.lit (.int j n)) .none
 | .min,l=>q8u false l λj n=>k (.lit (.int j n)) .none
 | _,_=>False
def qh5 (pool:Bool) (nm e:Nat) (E:TI) (mem:List AObj) (parts:List (Nat × AV)) (k:AV->Eff->Prop):Prop:=match parts with
 | []=>k (.own nm) (.new (.vec e E.ty []))
 | [(0,.own g)]=>match qa1 mem g with
  | .vec e' t l=>match pool with
   | true=>qj1 (.list t) E.ty [l] λ_=>k (.msl nm .none) (.eatN g (.mat e e' t [l] .none .none))
   | false=>qj1 (.list t) E.ty [l] λl'=>k (.dat E.ty l') (.freeze g t l)
  | _=>False
 | parts=>match pool with
  | true=>q0a E.ty parts 0 λl=>k (.own nm) (.new (.vec e E.ty l))
  | false=>q0a E.ty parts 0 λl=>k (.dat E.ty l) .none
def q8v (nm e:Nat) (T:TI) (k:AV->Eff->Prop):Prop:=match T.bld with
 | .none=>k (.box nm 0) (.new (.box e T.zero))
 | some eb=>k (.msl nm .none) (.new (.bld e eb ⟨#[]⟩))
def w56 (w:Bool) (T:TI) (x:AV) (k:AV->Prop):Prop:=match x with
 | .lit v=>match v with
  | .int _ n=>match T.isInt with
   | true=>match T.ty with
    | .int j=>q6h w j n k
    | _=>False
   | false=>match Nat.beq T.kind 2 with
    | true=>k (.lit (.string (Utf8.encode n)))
    | false=>False
  | .string s=>match Nat.beq T.kind 2 with
   | true=>k (.lit (.string s))
   | false=>False
  | _=>False
 | _=>False
def w57:AV->Nat->Int->(AV->Prop)->Prop
 | .cons a r,j,n,k=>match r with
  | .nil=>need (n=j) λ_=>k a
  | r=>split (decide (n=j)) (λ_=>k a) (λ_=>w57 r (j+1) n k)
 | _,_,_,_=>False
def qx0 (T E:TI) (x i:AV) (k:AV->Prop):Prop:=match Nat.beq T.kind 4,E.agg,Nat.beq E.size 1 with
 | true,false,true=>match x with
  | .agg c=>match c.lenIs T.flds.length with
   | true=>asInt i λ_ n=>w57 c 0 n k
   | false=>False
  | _=>False
 | _,_,_=>False
def q33 {V:Type}:List (ByteArray × V)->ByteArray->Option V
 | [],_=>.none
 | (q,v) :: r,s=>match s==q with
  | true=>some v
  | false=>q33 r s
def q5q {V:Type}:List (ByteArray × V)->ByteArray->V->List (ByteArray × V)
 | [],s,x=>[(s,x)]
 | (q,v) :: r,s,x=>match s==q with
  | true=>(q,x) :: r
  | false=>(q,v) :: q5q r s x
def Ty.cell1:Ty->Bool
 | .int _=>true
 | .bool=>true
 | _=>false
def xz2:(t:Ty)->t.den->AV
 | .int j,n=>.lit (.int j n)
 | .bool,b=>.lit (.bool b)
 | _,_=>.any
def wi2 (v:AV) (k:ByteArray->Prop):Prop:=match v with
 | .lit u=>match u with
  | .string s=>k s
  | _=>False
 | _=>False
def q21 (nm:Nat) (T E:TI) (k:AV->Eff->Prop):Prop:=match T.mp,E.dflt,E.ty.cell1,Nat.beq E.size 1 with
 | true,true,true,true=>k (.own nm) (.new (.mp E.ty []))
 | _,_,_,_=>False
def qx1 (T E:TI) (mem:List AObj) (x i:AV) (ok:Bool) (k:AV->Prop):Prop:=match x with
 | .own g=>match qa1 mem g with
  | .mp t l=>match T.mp,E.dflt,t.cell1,Nat.beq E.size 1 with
   | true,true,true,true=>q5o t E.ty λ_=>wi2 i λs=>match ok with
    | true=>k (.tup (.cons (xz2 t ((q33 l s).getD t.dflt)) (.cons (.lit (.bool (q33 l s).isSome)) .nil)))
    | false=>k (xz2 t ((q33 l s).getD t.dflt))
   | _,_,_,_=>False
  | _=>False
 | _=>False
def q0e (T:TI) (mem:List AObj) (x i v:AV) (k:AV->Eff->Prop):Prop:=match x with
 | .own g=>match qa1 mem g with
  | .mp t l=>match T.mp,t.cell1 with
   | true,true=>wi2 i λs=>takeA t v λd=>k .any (.upd g (.mp t (q5q l s d)) false)
   | _,_=>False
  | _=>False
 | _=>False
def opK (C:Ctx) (dst:Nat) (nm:Nat) (op:Op) (ρ:Operand->AV) (mem:List AObj) (k:AV->Eff->Prop):Prop:=match op with
 | .move x=>k (ρ x) .none
 | .assign x=>k (ρ x) .none
 | .pick c a b=>q18 (ρ c) (λ_=>k (ρ a) .none) (λ_=>k (ρ b) .none)
 | .alloc e=>qd5 C e λT=>q8v nm e T k
 | .box e x=>q1x (ρ x) λc=>k (.box nm 0) (.new (.box e c))
 | .build t parts=>qd5 C t λT=>match Nat.ble 4 T.kind with
  | false=>False
  | true=>q6i T.flds (parts.toList.map λp=>(p.1,ρ p.2)) T.zero λc=>k (.agg c) .none
 | .buildSlice t n parts=>qd5 C t λT=>qd5 C T.elem λE=>match Nat.beq T.kind 1,Nat.beq E.ty.size E.size,Nat.beq parts.toList.length n,Nat.ble n 1000 with
  | true,true,true,true=>qh5 (C.mats.contains dst) nm T.elem E mem (parts.toList.map λp=>(p.1,ρ p.2)) k
  | _,_,_,_=>False
 | .load t a=>qd5 C t λT=>q6j T mem (ρ a) λv=>k v .none
 | .store t a x=>qd5 C t λT=>q45 T mem (ρ a) (ρ x) k
 | .binOp op t x y _=>xu6 C (C.wr.contains dst) op t mem (ρ x) (ρ y) λv=>k v .none
 | .unOp op _ x=>unK (C.wr.contains dst) op (ρ x) λv=>k v .none
 | .convert u t x=>qd5 C u λ_=>qd5 C t λT=>w56 (C.wr.contains dst) T (ρ x) λv=>k v .none
 | .makeFunc fn first caps=>match fn,first.toList with
  | .func f,[]=>k (.clo f (qk1 ρ caps.toList)) .none
  | _,_=>False
 | .makeSlice t l c=>qd5 C t λT=>qd5 C T.elem λE=>match Nat.beq T.kind 1,Nat.beq E.ty.size E.size,E.dflt with
  | true,true,true=>asInt (ρ l) λ_ n=>asInt (ρ c) λ_ m=>need (m=n/\0<=n/\n<=1000000) λ_=>k (.own nm) (.new (.vec T.elem E.ty (List.replicate n.toNat E.ty.dflt)))
  | _,_,_=>False
 | .slice t x lo hi mx=>qd5 C t λT=>match Nat.beq T.kind 2 with
  | true=>qp9 ρ (ρ x) lo hi mx λv=>k v .none
  | false=>qd5 C T.elem λE=>q0b T E ρ mem (ρ x) lo hi mx k
 | .index t x i=>qd5 C t λT=>match Nat.beq T.kind 2 with
  | true=>q0x (ρ x) (ρ i) λv=>k v .none
  | false=>qd5 C T.elem λE=>qx0 T E (ρ x) (ρ i) λv=>k v .none
 | .range t x=>qd5 C t λT=>match Nat.beq T.kind 2 with
  | true=>q8t nm (ρ x) k
  | false=>False
 | .next x str=>wi0 mem (ρ x) str k
 | .makeMap t r=>match r with
  | .none=>qd5 C t λT=>qd5 C T.elem λE=>q21 nm T E k
  | some _=>False
 | .lookup t x i ok=>qd5 C t λT=>qd5 C T.elem λE=>qx1 T E mem (ρ x) (ρ i) ok λv=>k v .none
 | .mapUpdate t x i v=>qd5 C t λT=>q0e T mem (ρ x) (ρ i) (ρ v) k
 | .fieldAddr s x f=>qd5 C s λT=>match Nat.beq T.kind 5 with
  | false=>False
  | true=>withSome T.flds[f]? λfl=>q6k fl.1 (ρ x) λv=>k v .none
 | .field s x f=>qd5 C s λT=>match Nat.beq T.kind 5 with
  | false=>False
  | true=>withSome T.flds[f]? λfl=>qd5 C fl.2.1 λE=>match ρ x with
   | .agg c=>q5n c E.agg fl.1 E.size λv=>k v .none
   | _=>False
 | .indexAddr t x i=>qd5 C t λT=>qd5 C T.elem λE=>asInt (ρ i) λ_ n=>q2y T E mem (ρ x) n λv=>k v .none
 | .extract x i=>match ρ x with
  | .tup cs=>xf1 cs i λv=>k v .none
  | _=>False
 | .nilCheck x=>match ρ x with
  | .box g off=>k (.box g off) .none
  | .imm cs off=>k (.imm cs off) .none
  | .clo f caps=>k (.clo f caps) .none
  | _=>False
 | .call c=>match c.callee with
  | .value (.func f)=>callK C nm mem f (qk1 ρ c.args.toList) k
  | .value x=>match ρ x with
   | .clo f caps=>w54 (qk1 ρ c.args.toList) caps λargs=>callK C nm mem f args k
   | .fn a r p f=>qg1 a (qk1 ρ c.args.toList) λx=>need (p x) λ_=>k (q8k r (f x)) .none
   | _=>False
  | .builtin b=>q0y C dst nm mem b c.argTypes.toList (c.args.toList.map ρ) k
  | _=>False
 | _=>False
def q2a (n:Nat):List Nat->(Nat->Prop)->Prop
 | [],k=>k n
 | m :: r,k=>match Nat.beq n m with
  | true=>k m
  | false=>q2a n r k
def lits:List Nat:=[0,1,2,3,4,5,6,7,8,9,10,11,12,13,14,15,16,17,18,19,20,21,22,23,24,25,26,27,28,29,30,31,32,33,34,35,36,37,38,39,40,41,42,43,44,45,46,47,48,49,50,51,52,53,54,55,56,57,58,59,60,61,62,63,64,65,66,67,68,69,70,71,72,73,74,75,76,77,78,79,80,81,82,83,84,85,86,87,88,89,90,91,92,93,94,95,96,97,98,99,100,101,102,103,104,105,106,107,108,109,110,111,112,113,114,115,116,117,118,119,120,121,122,123,124,125,126,127,128,129,130,131,132,133,134,135,136,137,138,139,140,141,142,143,144,145,146,147,148,149,150,151,152,153,154,155,156,157,158,159,160]
def yf0 (v:Value) (k:Value->Prop):Prop:=match v with
 | .int j n=>k (.int j n)
 | .bool b=>k (.bool b)
 | .string s=>k (.string s)
 | v=>k v
def fAV:AV->(AV->Prop)->Prop
 | .any,k=>k .any
 | .tt,k=>k .tt
 | .ff,k=>k .ff
 | .lit v,k=>yf0 v λv=>k (.lit v)
 | .dat t l,k=>k (.dat t l)
 | .ndat c t l,k=>k (.ndat c t l)
 | .own g,k=>k (.own g)
 | .box g o,k=>q2a o lits λo=>k (.box g o)
 | .dptr t l i o,k=>q2a o lits λo=>k (.dptr t l i o)
 | .optr g t i o,k=>q2a o lits λo=>k (.optr g t i o)
 | .imm c o,k=>q2a o lits λo=>fAV c λc=>k (.imm c o)
 | .fn a r p f,k=>k (.fn a r p f)
 | .msl g j,k=>k (.msl g j)
 | .mptr g j t i o,k=>q2a o lits λo=>k (.mptr g j t i o)
 | .msub g a b,k=>k (.msub g a b)
 | .clo f c,k=>fAV c λc=>k (.clo f c)
 | .agg c,k=>fAV c λc=>k (.agg c)
 | .tup c,k=>fAV c λc=>k (.tup c)
 | .nil,k=>k .nil
 | .cons a b,k=>fAV a λa=>fAV b λb=>k (.cons a b)
def x62:AObj->(AObj->Prop)->Prop
 | .dead,k=>k .dead
 | .box t c,k=>fAV c λc=>k (.box t c)
 | .vec e t l,k=>k (.vec e t l)
 | .cnt n,k=>k (.cnt n)
 | .mat eh e t rows ix lt,k=>k (.mat eh e t rows ix lt)
 | .sit s p,k=>k (.sit s p)
 | .bld T e s,k=>k (.bld T e s)
 | .mp t l,k=>k (.mp t l)
def q8l:List AObj->(List AObj->Prop)->Prop
 | [],k=>k []
 | o :: r,k=>x62 o λo=>q8l r λr=>k (o :: r)
def fOv:List (Nat × AV)->(List (Nat × AV)->Prop)->Prop
 | [],k=>k []
 | (i,v) :: r,k=>fAV v λv=>fOv r λr=>k ((i,v) :: r)
def x3q (b:Bool) (v:AV) (k:AV->Prop):Prop:=match b with
 | false=>k v
 | true=>match v with
  | .lit u=>match u with
   | .int j n=>∀z:Int,z=n->k (.lit (.int j z))
   | .bool n=>∀z:Bool,z=n->k (.lit (.bool z))
   | u=>k (.lit u)
  | v=>k v
def w58 (C:Ctx) (d:Option Nat) (v:AV) (k:AV->Prop):Prop:=match C.nm with
 | []=>fAV v k
 | l=>x3q (l.contains (d.getD 0)) v λv=>fAV v k
structure St where
 ov:List (Nat × AV)
 base:Nat->AV
 mem:List AObj
def look:List (Nat × AV)->Nat->AV->AV
 | [],_,d=>d
 | (j,v) :: r,i,d=>match Nat.beq j i with
  | true=>v
  | false=>look r i d
def St.get (s:St) (i:Nat):AV:=look s.ov i (s.base i)
def qc8 (ov:List (Nat × AV)) (base:Nat->AV):Operand->AV
 | .tmp t=>look ov t (base t)
 | .const v=>match v with
  | .bool b=>match b with
   | true=>.tt
   | false=>.ff
  | v=>.lit v
 | .global g=>.lit (.pointer (some ⟨g,0,.none⟩))
 | .func f=>.clo f .nil
def qo2 (g:Nat) (d:AV):AObj->AObj
 | .box ty cs=>.box ty (AV.subst g d cs)
 | o=>o
def qb7 (g:Nat) (d:AV):List AObj->List AObj
 | []=>[]
 | o :: r=>qo2 g d o :: qb7 g d r
def qg8 (g:Nat) (d:AV):List (Nat × AV)->List (Nat × AV)
 | []=>[]
 | (i,v) :: r=>(i,AV.subst g d v) :: qg8 g d r
def q95 (ov:List (Nat × AV)) (base:Nat->AV) (mem:List AObj) (nm:Nat) (e:Eff) (k:St->Prop):Prop:=match e with
 | .none=>k ⟨ov,base,mem⟩
 | .new o=>q8l (qc7 mem nm o) λmem=>k ⟨ov,base,mem⟩
 | .upd g o kill=>match kill with
  | false=>q8l (qc7 mem g o) λmem=>k ⟨ov,base,mem⟩
  | true=>fOv (qg8 g .any ov) λov=>q8l (qc7 (qb7 g .any mem) g o) λmem=>k ⟨ov,λi=>AV.subst g .any (base i),mem⟩
 | .freeze g t l=>fOv (qg8 g (.dat t l) ov) λov=>q8l (qc7 (qb7 g (.dat t l) mem) g .dead) λmem=>k ⟨ov,λi=>AV.subst g (.dat t l) (base i),mem⟩
 | .perm g o=>fOv (qg8 g (.msl g .none) ov) λov=>q8l (qc7 (qb7 g (.msl g .none) mem) g o) λmem=>k ⟨ov,λi=>AV.subst g (.msl g .none) (base i),mem⟩
 | .eatN h o=>fOv (qg8 h .any ov) λov=>q8l (qc7 (qc7 (qb7 h .any mem) h .dead) nm o) λmem=>k ⟨ov,λi=>AV.subst h .any (base i),mem⟩
 | .eat h g o=>fOv (qg8 g .any (qg8 h .any ov)) λov=>q8l (qc7 (qb7 g .any (qc7 (qb7 h .any mem) h .dead)) g o) λmem=>k ⟨ov,λi=>AV.subst g .any (AV.subst h .any (base i)),mem⟩
def qv5 (d:Option Nat) (v:AV) (s:St):St:=match d with
 | .none=>s
 | some i=>match s with
  | ⟨ov,base,mem⟩=>⟨(i,v) :: ov,base,mem⟩
inductive XK where
 | normal
 | exit (id:Nat)
 | ret
structure Inv where
 Q:Type
 S:Type
 names:List Nat
 size:Nat
 slots:Q->S->List (Nat × AV)
 mem:Q->S->List AObj
 I:Q->S->Prop
 μ:Q->S->Nat
def Inv.of {S:Type} (names:List Nat) (size:Nat) (slots:S->List (Nat × AV)) (mem:S->List AObj) (I:S->Prop) (μ:S->Nat):Inv:=⟨Unit,S,names,size,λ_=>slots,λ_=>mem,λ_=>I,λ_=>μ⟩
def loops:Code->Nat
 | .seq a b=>loops a+loops b
 | .cond _ a b=>loops a+loops b
 | .block _ c=>loops c
 | .scope c=>loops c
 | .loop c=>loops c+1
 | .rangeFunc _ _ ag c=>loops ag+loops c+1
 | _=>0
def qi2:Code->Bool
 | .seq a b=>match qi2 a with
  | true=>qi2 b
  | false=>false
 | .cond _ a b=>match qi2 a with
  | true=>qi2 b
  | false=>false
 | .block _ c=>qi2 c
 | .scope c=>qi2 c
 | .loop c=>qi2 c
 | .rangeFunc _ _ _ _=>false
 | _=>true
def w0c (y:Option qg6) (c:Code):Bool:=match y with
 | none=>true
 | some _=>qi2 c
def qm7 (iv:Nat->Option Inv):Code->Nat->List Nat
 | .region _ ops _,_=>ops.toList.filterMap (·.dst)
 | .seq a b,n=>qm7 iv a n++qm7 iv b (n+loops a)
 | .cond _ a b,n=>qm7 iv a n++qm7 iv b (n+loops a)
 | .block _ c,n=>qm7 iv c n
 | .scope c,n=>qm7 iv c n
 | .loop c,n=>match iv n with
  | some V=>V.names++qm7 iv c (n+1)
  | none=>qm7 iv c (n+1)
 | .rangeFunc _ ps ag c,n=>ps.toList++(qm7 iv ag (n+1)++qm7 iv c (n+1+loops ag))
 | _,_=>[]
def qt0:List (Nat × AV)->List Nat->Bool
 | [],[]=>true
 | (i,_) :: r,j :: l=>match Nat.beq i j with
  | true=>qt0 r l
  | false=>false
 | _,_=>false
def w59 (v u:Value):Prop:=match v with
 | .int k n=>match u with
  | .int k' n'=>match decide (k=k') with
   | true=>n=n'
   | false=>False
  | _=>v=u
 | .bool a=>match u with
  | .bool b=>a=b
  | _=>v=u
 | _=>v=u
def same (a b:Nat) (p:Prop):Prop:=match Nat.beq a b with
 | true=>p
 | false=>False
def w3a (v:Value) (p:Prop):Prop:=match isNil v with
 | true=>p
 | false=>False
def x3r (a b:Option Nat):Prop:=match a with
 | .none=>match b with
  | .none=>True
  | some b=>(.none:Option Nat)=some b
 | some a=>some a=b
def qm8 (b0:Nat):List AObj->Nat->Nat
 | [],_=>0
 | o :: r,i=>match Nat.ble b0 i with
  | true=>match o with
   | .vec _ _ _=>Nat.lor (bit (2*i)) (qm8 b0 r (i+1))
   | .mat _ _ _ _ _ _=>Nat.lor (bit (2*i+1)) (qm8 b0 r (i+1))
   | _=>qm8 b0 r (i+1)
  | false=>qm8 b0 r (i+1)
def AV.le (b:Option Nat):AV->AV->Prop
 | .nil,v'=>match v' with
  | .nil=>True
  | _=>False
 | .cons a x,v'=>match v' with
  | .cons a' x'=>AV.le b a a'/\AV.le b x x'
  | _=>False
 | .any,v'=>match v' with
  | .any=>True
  | _=>False
 | .lit v,v'=>match v' with
  | .any=>True
  | .lit u=>w59 v u
  | .dat t l=>w3a v ((l:List t.den)=[])
  | .ndat _ t l=>w3a v ((l:List t.den)=[])
  | .own g=>match b with
   | some b=>match Nat.testBit b (2*g) with
    | true=>w3a v True
    | false=>False
   | .none=>False
  | .msl g j=>match b,j with
   | some b,.none=>match Nat.testBit b (2*g+1) with
    | true=>w3a v True
    | false=>False
   | _,_=>False
  | _=>False
 | .tt,v'=>match v' with
  | .any=>True
  | .tt=>True
  | .lit u=>w59 (.bool true) u
  | _=>False
 | .ff,v'=>match v' with
  | .any=>True
  | .ff=>True
  | .lit u=>w59 (.bool false) u
  | _=>False
 | .dat t l,v'=>match v' with
  | .any=>True
  | .dat t' l'=>qj1 t t' l λl2=>l2=l'
  | .ndat c t' l'=>match c with
   | false=>qj1 t t' l λl2=>l2=l'/\0<l2.length
   | true=>False
  | _=>False
 | .ndat c t l,v'=>match v' with
  | .any=>True
  | .dat t' l'=>qj1 t t' l λl2=>l2=l'
  | .ndat c' t' l'=>match c,c' with
   | false,false=>qj1 t t' l λl2=>l2=l'
   | true,true=>qj1 t t' l λl2=>l2=l'
   | _,_=>False
  | _=>False
 | .own g,v'=>match v' with
  | .any=>True
  | .own g'=>same g g' True
  | _=>False
 | .box g o,v'=>match v' with
  | .any=>True
  | .box g' o'=>same g g' (same o o' True)
  | _=>False
 | .dptr t l i o,v'=>match v' with
  | .any=>True
  | .dptr t' l' i' o'=>qj1 t t' l λl2=>l2=l'/\i=i'/\o=o'
  | _=>False
 | .optr _ _ _ _,v'=>match v' with
  | .any=>True
  | _=>False
 | .imm c o,v'=>match v' with
  | .any=>True
  | .imm c' o'=>AV.le b c c'/\o=o'
  | _=>False
 | .fn a r p f,v'=>match v' with
  | .any=>True
  | .fn a' r' p' f'=>a=a'/\r=r'/\HEq p p'/\HEq f f'
  | _=>False
 | .msl g j,v'=>match v' with
  | .any=>True
  | .msl g' j'=>same g g' (x3r j j')
  | _=>False
 | .mptr _ _ _ _ _,v'=>match v' with
  | .any=>True
  | _=>False
 | .msub _ _ _,v'=>match v' with
  | .any=>True
  | _=>False
 | .clo f c,v'=>match v' with
  | .any=>True
  | .clo f' c'=>same f f' (AV.le b c c')
  | _=>False
 | .agg c,v'=>match v' with
  | .any=>True
  | .agg c'=>AV.le b c c'
  | _=>False
 | .tup c,v'=>match v' with
  | .any=>True
  | .tup c'=>AV.le b c c'
  | _=>False
def x3s (α:Type):Prop:=([]:List α)=[]
theorem q8w (α:Type):x3s α=True:=eq_true rfl
def wi3 {α:Type} (l:List α):Prop:=match l with
 | []=>True
 | _=>l=[]
def xu9 (a b:Option (List Nat)):Prop:=match a,b with
 | .none,.none=>True
 | some a,some b=>match b with
  | []=>wi3 a
  | b=>a=b
 | _,_=>False
def xv0 (a b:Option q2v):Prop:=match a,b with
 | .none,.none=>True
 | some a,some b=>a=b
 | _,_=>False
def AObj.le (b:Option Nat):AObj->AObj->Prop
 | _,.dead=>True
 | .box t c,.box t' c'=>same t t' (AV.le b c c')
 | .vec e t l,.vec e' t' l'=>same e e' (qj1 t t' l λl2=>l2=l')
 | .cnt n,.cnt n'=>n=n'
 | .sit s p,.sit s' p'=>s=s'/\p=p'
 | .mp t l,.mp t' l'=>qj1 (.prod .str t) (.prod .str t') l λl2=>l2=l'
 | .bld T e s,.bld T' e' s'=>same T T' (same e e' (s=s'))
 | .mat eh e t l ix lt,.mat eh' e' t' l' ix' lt'=>same eh eh' (same e e' (qj1 (.list t) (.list t') l λl2=>l2=l'/\xu9 ix ix'/\xv0 lt lt'))
 | _,_=>False
def qx2 (b:Option Nat):List AObj->List AObj->Prop
 | _,[]=>True
 | o :: r,o' :: r'=>AObj.le b o o'/\qx2 b r r'
 | [],o' :: r'=>match b with
  | some _=>match o' with
   | .vec _ t l=>(l:List t.den)=[]/\qx2 b [] r'
   | .mat _ _ t l ix lt=>match ix,lt with
    | .none,.none=>(l:List (List t.den))=[]/\qx2 b [] r'
    | _,_=>False
   | _=>False
  | .none=>False
def q0f (b:Option Nat) (s:St):List (Nat × AV)->Prop
 | []=>True
 | (i,v) :: r=>AV.le b (s.get i) v/\q0f b s r
def AV.strip:AV->AV
 | .own _=>.any
 | .optr _ _ _ _=>.any
 | .msl _ _=>.any
 | .mptr _ _ _ _ _=>.any
 | .msub _ _ _=>.any
 | .imm cs off=>.imm cs.strip off
 | .clo f caps=>.clo f caps.strip
 | .agg cs=>.agg cs.strip
 | .tup cs=>.tup cs.strip
 | .cons a b=>.cons a.strip b.strip
 | c=>c
def AV.bnd (n:Nat):AV->Bool
 | .own g=>Nat.blt g n
 | .box g _=>Nat.blt g n
 | .optr g _ _ _=>Nat.blt g n
 | .msl g _=>Nat.blt g n
 | .mptr g _ _ _ _=>Nat.blt g n
 | .msub g _ _=>Nat.blt g n
 | .imm cs _=>cs.bnd n
 | .clo _ caps=>caps.bnd n
 | .agg cs=>cs.bnd n
 | .tup cs=>cs.bnd n
 | .cons a b=>match a.bnd n with
  | true=>b.bnd n
  | false=>false
 | _=>true
def qu1 (n:Nat):List (Nat × AV)->Bool
 | []=>true
 | (_,v) :: r=>match v.bnd n with
  | true=>qu1 n r
  | false=>false
def qr7 (n:Nat):List AObj->Bool
 | []=>true
 | .box _ c :: r=>match c.bnd n with
  | true=>qr7 n r
  | false=>false
 | _ :: r=>qr7 n r
def AV.hav:AV->AV
 | .lit v=>.lit v
 | .tt=>.tt
 | .ff=>.ff
 | .own g=>match g with
  | 0=>.any
  | g+1=>.own (g+1)
 | .box g off=>.box g off
 | .agg cs=>.agg cs.hav
 | .tup cs=>.tup cs.hav
 | .nil=>.nil
 | .cons a b=>.cons a.hav b.hav
 | _=>.any
def kpK (y:Option qg6) (i:Nat) (v:AV):AV:=match y with
 | .none=>v.strip
 | some Y=>look Y.fix i v.strip.hav
def wi4 (y:Option qg6) (sl:List (Nat × AV)) (mem:List AObj) (ds:List Nat) (s0:St) (k:St->Prop):Prop:=
 fOv sl λsl=>q8l mem λmem=>k ⟨sl,λi=>match ds.elem i with
   | true=>.any
   | false=>kpK y i (s0.get i),mem⟩
def AV.skipped:AV->Bool
 | .tup c=>match c with
  | .nil=>true
  | _=>false
 | _=>false
def w3b (C:Ctx) (all:List Oper):List Oper->St->(St->Prop)->Prop
 | [],s,K=>K s
 | o :: r,s,K=>match s with
  | ⟨ov,base,mem⟩=>
   let go (ov:List (Nat × AV)):Prop:=q2a mem.length lits λnm=>opK C (o.dst.getD 0) nm o.op (qc8 ov base) mem λv e=>w58 C o.dst v λv=>q95 ov base mem nm e λs'=>w3b C all r (qv5 o.dst v s') K
   match o.guard with
   | .none=>go ov
   | some (j,want)=>withSome (all[j]?) λg=>withSome g.dst λd=>match want with
    | true=>match(look ov d (base d)).skipped with
     | true=>w3b C all r (qv5 o.dst (.tup .nil) ⟨(d,.tup .nil) :: ov,base,mem⟩) K
     | false=>q18 (look ov d (base d)) (λ_=>go ((d,.tt) :: ov)) (λ_=>w3b C all r (qv5 o.dst (.tup .nil) ⟨(d,.ff) :: ov,base,mem⟩) K)
    | false=>match(look ov d (base d)).skipped with
     | true=>w3b C all r (qv5 o.dst (.tup .nil) ⟨(d,.tup .nil) :: ov,base,mem⟩) K
     | false=>q18 (look ov d (base d)) (λ_=>w3b C all r (qv5 o.dst (.tup .nil) ⟨(d,.tt) :: ov,base,mem⟩) K) (λ_=>go ((d,.ff) :: ov))
def qi1 (ρ:Operand->AV):List Operand->Nat
 | []=>0
 | x :: r=>Nat.lor (ρ x).msk (qi1 ρ r)
def q47:List Operand->Nat
 | []=>0
 | .tmp t :: r=>Nat.lor (bit t) (q47 r)
 | _ :: r=>q47 r
def wi5 (d:Option Nat):Nat:=match d with
 | .none=>0
 | some t=>bit t
structure Info where
 o:Oper
 nm:Nat
 v:AV
 e:Eff
 s:St
def Eff.wr (nm:Nat):Eff->Nat
 | .none=>0
 | .new _=>bit nm
 | .upd g _ _=>bit g
 | .freeze g _ _=>bit g
 | .eat h g _=>Nat.lor (bit h) (bit g)
 | .perm g _=>bit g
 | .eatN h _=>Nat.lor (bit h) (bit nm)
def Eff.ks:Eff->Bool
 | .upd _ _ k=>k
 | .freeze _ _ _=>true
 | .eat _ _ _=>true
 | .perm _ _=>true
 | .eatN _ _=>true
 | _=>false
def Eff.om:Eff->Nat
 | .new o=>o.msk
 | .upd _ o _=>o.msk
 | .eat _ _ o=>o.msk
 | .perm _ o=>o.msk
 | .eatN _ o=>o.msk
 | _=>0
def Info.W (I:Info):Nat:=I.e.wr I.nm
def Info.V (I:Info):Nat:=Nat.lor I.v.msk I.e.om
def Info.D (I:Info):Nat:=wi5 I.o.dst
def q0g (all:List Oper) (o:Oper):List Operand:=match o.guard with
 | .none=>o.op.operands.toList
 | some (j,_)=>match all[j]? with
  | some g=>match g.dst with
   | some d=>.tmp d :: o.op.operands.toList
   | .none=>o.op.operands.toList
  | .none=>o.op.operands.toList
def Info.T (all:List Oper) (I:Info):Nat:=q47 (q0g all I.o)
def xf3 (all:List Oper) (o:Oper) (s:St):Nat:=match s with
 | ⟨ov,base,mem⟩=>qf5 mem (qi1 (qc8 ov base) (q0g all o))
def Info.R (all:List Oper) (I:Info):Nat:=xf3 all I.o I.s
def Info.X (all:List Oper) (I:Info):Nat:=qf5 I.s.mem (I.R all)
def Eff.inb (nm len:Nat):Eff->Bool
 | .none=>true
 | .new _=>Nat.blt nm len
 | .upd g _ _=>Nat.blt g len
 | .freeze g _ _=>Nat.blt g len
 | .perm g _=>Nat.blt g len
 | .eatN h _=>match Nat.blt h len with
  | true=>Nat.blt nm len
  | false=>false
 | .eat h g _=>match Nat.blt h len with
  | true=>Nat.blt g len
  | false=>false
def off (a b:Nat):Bool:=Nat.beq (Nat.land a b) 0
def w6a (all:List Oper) (lt:Bool) (n j:Info):Bool:=
 match off n.D (j.T all),off n.D j.D,n.W with
 | true,true,0=>true
 | true,true,w+1=>match off (w+1) (j.X all),off (w+1) j.W,off (w+1) j.V with
  | true,true,true=>match lt,n.e.ks with
   | true,true=>match off (w+1) (xf3 all j.o n.s),off (w+1) (qq4 (j.R all) n.s.mem 0) with
    | true,true=>true
    | _,_=>false
   | _,_=>true
  | _,_,_=>false
 | _,_,_=>false
def q2b (T:List Nat):List Edge->Nat
 | []=>0
 | e :: r=>match Region.binds .any e with
  | true=>Nat.lor (Nat.lor (bit e.on) (T.getD e.on 0)) (q2b T r)
  | false=>q2b T r
def xf4:List Nat->List Oper->List Nat
 | T,[]=>T
 | T,o :: r=>xf4 (T++[q2b T o.after.toList]) r
def x3t (a b c:AObj) (k:Unit->Prop):Prop:=match a with
 | .mat _ _ t1 r1 i1 _=>match b with
  | .mat _ _ t2 r2 i2 _=>match c with
   | .mat _ _ t3 r3 i3 _=>q5o t1 t2 λ_=>q5o t3 t2 λ_=>need (qe0 r1.length i1=qe0 r2.length i2/\qe0 r3.length i3=qe0 r2.length i2) k
   | _=>False
  | _=>False
 | _=>False
def qj9:AV->Nat->Option AV
 | .cons a _,0=>some a
 | .cons _ b,i+1=>qj9 b i
 | _,_=>.none
def qx3 (o:AObj) (i w:Nat):Bool:=match o with
 | .box _ c=>match qj9 c i with
  | some a=>off w a.msk
  | .none=>true
 | _=>true
def x6u (all:List Oper) (n j:Info) (k:Unit->Prop):Prop:=match off n.W (qi1 (qc8 n.s.ov n.s.base) (q0g all j.o)),off n.W (qi1 (qc8 j.s.ov j.s.base) (q0g all j.o)),off n.W j.V with
 | true,true,true=>k ()
 | _,_,_=>False
def x3u (all:List Oper) (n j:Info) (k:Unit->Prop):Prop:=match n.e.ks with
 | true=>x6u all n j k
 | false=>k ()
def x63 (all:List Oper) (n j:Info) (k:Unit->Prop):Prop:=match off n.D (j.T all),off n.D j.D,Nat.beq j.W 0 with
 | true,true,true=>match j.o.op with
  | .move _=>x3u all n j k
  | .assign _=>x3u all n j k
  | .fieldAddr _ _ _=>x3u all n j k
  | .load _ x=>match n.e.ks,j.v with
   | _,.agg _=>False
   | true,_=>match qc8 j.s.ov j.s.base x with
    | .box h i=>match Nat.testBit n.W h,qx3 (qa1 n.s.mem h) i n.W,qx3 (qa1 j.s.mem h) i n.W with
     | false,true,true=>x6u all n j k
     | _,_,_=>False
    | _=>False
   | _,_=>False
  | .indexAddr _ x _=>match qc8 j.s.ov j.s.base x with
   | .msl g q=>match q with
    | .none=>match n.e with
     | .upd g' o kill=>match kill,Nat.beq g' g with
      | false,true=>x3t (qa1 n.s.mem g) o (qa1 j.s.mem g) k
      | _,_=>False
     | _=>False
    | some _=>False
   | _=>False
  | _=>False
 | _,_,_=>False
def xf5 (all:List Oper) (lt:Bool) (n j:Info) (k:Unit->Prop):Prop:=match w6a all lt n j with
 | true=>k ()
 | false=>x63 all n j k
def rowOk (all:List Oper) (A:Nat) (j:Info):List Info->Nat->(Unit->Prop)->Prop
 | [],_,k=>k ()
 | n :: r,i,k=>match Nat.testBit A i with
  | true=>rowOk all A j r (i+1) k
  | false=>xf5 all true n j λ_=>xf5 all false j n λ_=>rowOk all A j r (i+1) k
def wi6 (all:List Oper) (T:List Nat):List Info->List Info->Nat->(Unit->Prop)->Prop
 | _,[],_,k=>k ()
 | pre,j :: r,i,k=>match j.e.inb j.nm j.s.mem.length with
  | true=>rowOk all (T.getD i 0) j pre 0 λ_=>wi6 all T (pre++[j]) r (i+1) k
  | false=>False
def backOk:List Oper->Nat->Bool
 | [],_=>true
 | o :: r,i=>match o.after.toList.all λe=>!Region.binds .any e || Nat.blt e.on i with
  | true=>backOk r (i+1)
  | false=>false
def chk (all:List Oper) (tr:List Info) (k:Unit->Prop):Prop:=match backOk all 0 with
 | true=>wi6 all (xf4 [] all) [] tr 0 k
 | false=>False
def isG (all:List Oper) (i:Nat):Bool:=all.any λo=>match o.guard with
 | some (j,_)=>Nat.beq j i
 | .none=>false
def splitB (g:Bool) (v:AV) (k:AV->Prop):Prop:=match g with
 | false=>k v
 | true=>match v with
  | .lit (.bool b)=>split b (λ_=>k .tt) (λ_=>k .ff)
  | v=>k v
def q2c (C:Ctx) (all:List Oper) (n0:Nat):Nat->List Oper->St->List Info->(St->Prop)->Prop
 | _,[],s,tr,K=>chk all tr λ_=>K s
 | i,o :: r,s,tr,K=>match s with
  | ⟨ov,base,mem⟩=>
   let run (_:Unit):Prop:=q2a (n0+i) lits λnm=>opK C (o.dst.getD 0) nm o.op (qc8 ov base) mem λv e=>splitB (isG all i) v λv=>w58 C o.dst v λv=>q95 ov base mem nm e λs'=>q2c C all n0 (i+1) r (qv5 o.dst v s') (tr++[⟨o,nm,v,e,⟨ov,base,mem⟩⟩]) K
   let skip (_:Unit):Prop:=q2c C all n0 (i+1) r (qv5 o.dst (.tup .nil) ⟨ov,base,mem⟩) (tr++[⟨o,n0+i,.tup .nil,.none,⟨ov,base,mem⟩⟩]) K
   match o.guard with
   | .none=>run ()
   | some (j,want)=>withSome (all[j]?) λg=>withSome g.dst λd=>match want with
    | true=>match(look ov d (base d)).skipped with
     | true=>skip ()
     | false=>q18 (look ov d (base d)) run skip
    | false=>match(look ov d (base d)).skipped with
     | true=>skip ()
     | false=>q18 (look ov d (base d)) skip run
def padMem (mem:List AObj):List Oper->List AObj
 | []=>mem
 | _ :: r=>padMem (mem++[.dead]) r
def x3v:AV->AV->List (Nat × Nat)
 | .own g,v=>match v with
  | .own j=>match Nat.beq g j with
   | true=>[]
   | false=>[(g,j)]
  | _=>[]
 | .cons a b,v=>match v with
  | .cons c d=>match x3v a c with
   | []=>x3v b d
   | l=>l
  | _=>[]
 | .agg a,v=>match v with
  | .agg c=>x3v a c
  | _=>[]
 | _,_=>[]
def w6b (s:St):List (Nat × AV)->List (Nat × Nat)
 | []=>[]
 | (i,v) :: r=>match x3v (s.get i) v with
  | []=>w6b s r
  | l=>l
def xf6:List AObj->List AObj->List (Nat × Nat)
 | .box _ c :: r,o :: r'=>match o with
  | .box _ d=>match x3v c d with
   | []=>xf6 r r'
   | l=>l
  | _=>xf6 r r'
 | _ :: r,_ :: r'=>xf6 r r'
 | _,_=>[]
def xf7 (s:St) (sl:List (Nat × AV)) (mem:List AObj):List (Nat × Nat):=match w6b s sl with
 | []=>xf6 s.mem mem
 | l=>l
def mvK (l:List (Nat × Nat)) (s:St) (K:St->Prop):Prop:=match l with
 | []=>K s
 | (g,j) :: _=>match s with
  | ⟨ov,base,mem⟩=>match Nat.beq g j with
   | true=>K ⟨ov,base,mem⟩
   | false=>match qa1 mem j with
    | .vec _ _ _=>match qa1 mem g with
     | .vec e t l=>fOv (qg8 g (.own j) (qg8 j .any ov)) λov=>q8l (qc7 (qc7 (qb7 g (.own j) (qc7 (qb7 j .any mem) j .dead)) g .dead) j (.vec e t l)) λmem=>K ⟨ov,λi=>AV.subst g (.own j) (AV.subst j .any (base i)),mem⟩
     | _=>K ⟨ov,base,mem⟩
    | _=>K ⟨ov,base,mem⟩
def q8x (mem':List AObj):Nat->List AObj->St->(St->Prop)->Prop
 | _,[],s,K=>K s
 | i,o :: r,s,K=>match o with
  | .vec _ t l=>match qa1 mem' i with
   | .dead=>match s with
    | ⟨ov,base,mem⟩=>q95 ov base mem 0 (.freeze i t l) λs'=>q8x mem' (i+1) r s' K
   | _=>q8x mem' (i+1) r s K
  | .mat eh e t rows ix lt=>match ix with
   | .none=>q8x mem' (i+1) r s K
   | some l=>match qa1 mem' i with
    | .mat _ _ _ _ ix' _=>match ix' with
     | .none=>match s with
      | ⟨ov,base,mem⟩=>need (l.Nodup/\l.length=rows.length) λ_=>q95 ov base mem 0 (.perm i (.mat eh e t (q1u t rows (some l)) .none lt)) λs'=>q8x mem' (i+1) r s' K
     | some _=>q8x mem' (i+1) r s K
    | _=>q8x mem' (i+1) r s K
  | _=>q8x mem' (i+1) r s K
def AObj.hav:AObj->AObj
 | .box t cs=>.box t cs.hav
 | .vec e t l=>match Ty.flat t with
  | true=>.vec e t l
  | false=>.dead
 | .mat eh e t rows ix lt=>match Ty.flat t with
  | true=>.mat eh e t rows ix lt
  | false=>.dead
 | o=>o
def ql5:List AObj->List AObj
 | []=>[]
 | o :: r=>o.hav :: ql5 r
def w3c:List (Nat × AV)->List (Nat × AV)
 | []=>[]
 | (i,v) :: r=>(i,v.hav) :: w3c r
def w3d:List (Nat × AV)->List (Nat × AV)->List (Nat × AV)
 | [],l=>l
 | p :: r,l=>p :: w3d r l
def w0d (e:Nat) (mem:List AObj):(ts:List Ty)->AV->(qa3 ts->Prop)->Prop
 | [.list t],v,k=>match v with
  | .cons a z=>match a,z with
   | .own g,.nil=>match qa1 mem g with
    | .vec e' t' l=>match Nat.beq e' e,Ty.flat t with
     | true,true=>qj1 t' t l λl=>k (l,())
     | _,_=>False
    | _=>False
   | _,_=>False
  | _=>False
 | _,_,_=>False
def q96 (o:Option Nat) (ts:List Ty) (mem:List AObj) (args:AV) (k:qa3 ts->Prop):Prop:=match o with
 | .none=>match args.plain with
  | true=>qg1 ts args k
  | false=>False
 | some e=>w0d e mem ts args k
def x3f (g:Nat) (t:Ty) (l:List t.den):AV->Option AV
 | .cons a r=>match x3f g t l r with
  | .none=>.none
  | some r'=>match a with
   | .lit v=>some (.cons (.lit v) r')
   | .own h=>match Nat.beq h g with
    | true=>some (.cons (.dat t l) r')
    | false=>.none
   | _=>.none
 | .nil=>some .nil
 | _=>.none
def x3w:AV->Bool
 | .cons a r=>match a with
  | .lit _=>x3w r
  | _=>false
 | .nil=>true
 | _=>false
def x6v (Y:qg6) (args:AV) (ov:List (Nat × AV)) (base:Nat->AV) (mem:List AObj) (n:Nat) (k:Bool->St->Prop):Prop:=
 qg1 Y.ins args λd=>need (Y.L[n]? = some d) λ_=>(q8l (qc7 mem 0 (.cnt (some (n+1)))) λmem'=>k true ⟨ov,base,mem'⟩)/\(q8l (qc7 mem 0 (.cnt .none)) λmem'=>k false ⟨ov,base,mem'⟩)
def x64 (Y:qg6) (args:AV) (ov:List (Nat × AV)) (base:Nat->AV) (mem:List AObj) (n:Nat) (k:Bool->St->Prop):Prop:=match Y.lend with
 | some _=>False
 | .none=>match x3w args with
  | true=>x6v Y args ov base mem n k
  | false=>match args.own1 with
   | some g=>match qa1 mem g with
    | .vec _ t l=>match Nat.beq g 0,Ty.flat t with
     | false,true=>withSome (x3f g t l args) λargs'=>x6v Y args' ov base (qc7 mem g .dead) n k
     | _,_=>False
    | _=>False
   | .none=>False
def isH (Y:qg6) (args:AV):Bool:=match Y.lend with
 | some _=>false
 | .none=>match x3w args with
  | true=>true
  | false=>match args.own1 with
   | some _=>true
   | .none=>false
def w6c (o:Option Nat) (args:AV) (mem:List AObj):List AObj:=match o with
 | .none=>mem
 | some _=>match args with
  | .cons a _=>match a with
   | .own g=>qc7 mem g .dead
   | _=>mem
  | _=>mem
def x65 (Y:qg6) (args:AV) (ov:List (Nat × AV)) (base:Nat->AV) (mem:List AObj) (k:Bool->St->Prop):Prop:=match qa1 mem 0 with
 | .cnt (some n)=>match isH Y args with
  | true=>x64 Y args ov base mem n k
  | false=>q96 Y.lend Y.ins mem args λd=>need (Y.L[n]? = some d) λ_=>
   fOv (w3d Y.fix (w3c ov)) λov'=>(q8l (qc7 (ql5 mem) 0 (.cnt (some (n+1)))) λmem'=>k true ⟨ov',λi=>(base i).hav,mem'⟩)/\(q8l (qc7 (ql5 (w6c Y.lend args mem)) 0 (.cnt .none)) λmem'=>k false ⟨ov',λi=>(base i).hav,mem'⟩)
 | _=>False
def isY (slots:List Nat):Op->Bool
 | .call c=>match c.callee with
  | .value (.tmp t)=>slots.contains t
  | _=>false
 | _=>false
def yIx (slots:List Nat):List Oper->Nat->Option Nat
 | [],_=>.none
 | o :: r,i=>match isY slots o.op with
  | true=>some i
  | false=>yIx slots r (i+1)
def x3x (v:AV) (u:Value) (k:Unit->Prop):Prop:=match v with
 | .lit w=>need (w=u) k
 | _=>False
def opY (C:Ctx) (Y:qg6) (o:Oper) (nm:Nat) (ov:List (Nat × AV)) (base:Nat->AV) (mem:List AObj) (k:AV->St->Prop):Prop:=match isY Y.slots o.op with
 | false=>opK C (o.dst.getD 0) nm o.op (qc8 ov base) mem λv e=>w58 C o.dst v λv=>q95 ov base mem nm e λs=>k v s
 | true=>match o.op with
  | .call c=>match c.callee with
   | .value x=>x3x (qc8 ov base x) (.func (.yield Y.l) #[] #[]) λ_=>x65 Y (qk1 (qc8 ov base) c.args.toList) ov base mem λb s=>match b with
    | true=>k .tt s
    | false=>k .ff s
   | _=>False
  | _=>False
def xz3 (C:Ctx) (Y:qg6) (all:List Oper) (o:Oper) (s:St) (K:St->Prop):Prop:=match s with
 | ⟨ov,base,mem⟩=>
  let go (ov:List (Nat × AV)):Prop:=q2a mem.length lits λnm=>opY C Y o nm ov base mem λv s'=>K (qv5 o.dst v s')
  match o.guard with
  | .none=>go ov
  | some (j,want)=>withSome (all[j]?) λg=>withSome g.dst λd=>match want with
   | true=>match(look ov d (base d)).skipped with
    | true=>K (qv5 o.dst (.tup .nil) ⟨(d,.tup .nil) :: ov,base,mem⟩)
    | false=>q18 (look ov d (base d)) (λ_=>go ((d,.tt) :: ov)) (λ_=>K (qv5 o.dst (.tup .nil) ⟨(d,.ff) :: ov,base,mem⟩))
   | false=>match(look ov d (base d)).skipped with
    | true=>K (qv5 o.dst (.tup .nil) ⟨(d,.tup .nil) :: ov,base,mem⟩)
    | false=>q18 (look ov d (base d)) (λ_=>K (qv5 o.dst (.tup .nil) ⟨(d,.tt) :: ov,base,mem⟩)) (λ_=>go ((d,.ff) :: ov))
def xz4 (C:Ctx) (Y:qg6) (all:List Oper):List Oper->St->(St->Prop)->Prop
 | [],s,K=>K s
 | o :: r,s,K=>xz3 C Y all o s λs=>xz4 C Y all r s K
def q97:Nat->Nat->Bool
 | _,0=>true
 | A,i+1=>match Nat.testBit A i with
  | true=>q97 A i
  | false=>false
def q6m (T:List Nat) (n:Nat):Nat->Nat->Bool
 | _,0=>true
 | i,f+1=>match Nat.blt i n with
  | false=>true
  | true=>match q97 (T.getD i 0) i with
   | true=>q6m T n (i+1) f
   | false=>false
def q48:List Oper->Nat->Bool
 | [],_=>true
 | o :: r,i=>match o.guard with
  | some (j,_)=>match Nat.blt j i with
   | true=>q48 r (i+1)
   | false=>false
  | .none=>q48 r (i+1)
def yOk (all:List Oper) (y:Nat):Bool:=match backOk all 0,q48 all 0 with
 | true,true=>q6m (xf4 [] all) all.length y all.length
 | _,_=>false
def w3e:List Nat->AV->St->(St->Prop)->Prop
 | [],v,s,k=>match v with
  | .nil=>k s
  | _=>False
 | p :: r,v,s,k=>match v with
  | .cons a vs=>match s with
   | ⟨ov,base,mem⟩=>fAV a λa=>w3e r vs ⟨(p,a) :: ov,base,mem⟩ k
  | _=>False
def w3f (o:Option Nat) (ps:List Nat) (v:AV) (s:St) (k:q2v->St->Prop):Prop:=match o with
 | .none=>w3e ps v s (k ⟨[]⟩)
 | some e=>match ps,v with
  | [p],.cons x z=>match x,z with
   | .dat t l,.nil=>match Ty.flat t,s with
    | true,⟨ov,base,mem⟩=>∀T:q2v,q2a mem.length lits λn=>q8l (qc7 mem n (.mat e e t [l] (some []) (some T))) λmem'=>k T ⟨(p,.msl n (some 0)) :: ov,base,mem'⟩
    | _,_=>False
   | _,_=>False
  | _,_=>False
def x3y (ix:Option (List Nat)):Prop:=match ix with
 | .none=>False
 | some l=>wi3 l
def wi7 (o:Option Nat) (n:Nat) (T:q2v) (v:AV) (s:St) (k:St->Prop):Prop:=match o with
 | .none=>k s
 | some e=>match v with
  | .cons x z=>match x,z with
   | .dat t l,.nil=>match s with
    | ⟨ov,base,mem⟩=>match qa1 mem n with
     | .mat _ e' t' rows ix lt=>match lt with
      | some T'=>same e' e (qj1 (.list t') (.list t) rows λr=>r=[l]/\T'=T/\x3y ix/\q95 ov base mem 0 (.upd n .dead true) k)
      | .none=>False
     | _=>False
   | _,_=>False
  | _=>False
def x67 (iv:Nat->Option Inv) (n k:Nat):Option Inv:=match iv (n+1000*(k+1)) with
 | some V=>some V
 | .none=>iv n
def Ctx.quiet (C:Ctx):Ctx:={ specs:=C.specs,tys:=C.tys,wr:=C.wr,nm:=C.nm,its:=C.its,muts:=C.muts,mats:=C.mats,em:=C.em,blds:=C.blds,bxs:=C.bxs }
def blkX (id:Nat):XK->XK
 | .exit j=>match Nat.beq j id with
  | true=>.normal
  | false=>.exit j
 | e=>e
def xz5 (C:Ctx) (iv:Nat->Option Inv) (c:Code) (n:Nat) (K:XK->St->Prop) (B:(XK->St->Prop)->St->Prop) (s:St):Prop:=withSome (iv n) λ(V0:Inv)=>q2a s.mem.length lits λk=>withSome (x67 iv n k) λ(V:Inv)=>∃p:V.Q,∃x0:V.S,V.I p x0/\mvK (xf7 s (V.slots p x0) (V.mem p x0)) s λs=>q8x (V.mem p x0) 0 s.mem s λs=>(q2a s.mem.length lits λb0=>q0f (some (qm8 b0 (V.mem p x0) 0)) s (V.slots p x0)/\qx2 (some (qm8 b0 (V.mem p x0) 0)) s.mem (V.mem p x0))/\∀x:V.S,V.I p x ->
  match qu1 V.size (V.slots p x),qr7 V.size (V.mem p x),Nat.beq (V.mem p x).length V.size,qt0 (V.slots p x) V0.names,Nat.ble s.mem.length V.size with
  | true,true,true,true,true=>wi4 C.yl (V.slots p x) (V.mem p x) (qm7 iv (.loop c) n) s (B (λe s'=>match e with
   | .normal=>∃x':V.S,V.I p x'/\V.μ p x' < V.μ p x/\mvK (xf7 s' (V.slots p x') (V.mem p x')) s' λs'=>q8x (V.mem p x') 0 s'.mem s' λs'=>q0f .none s' (V.slots p x')/\qx2 .none s'.mem (V.mem p x')
   | e=>K e s'))
  | _,_,_,_,_=>False
def x3z (o:Option Inv) (B:(XK->St->Prop)->St->Prop) (K:XK->St->Prop) (s:St) (L:St->Prop):Prop:=match o with
 | .none=>L s
 | some _=>B (λe s'=>match e with
  | .normal=>L s'
  | e=>K e s') s
def xf8 (iv:Nat->Option Inv) (n:Nat) (o:Option Nat):Bool:=match o with
 | .none=>false
 | some _=>match iv (n+800000) with
  | .none=>false
  | some _=>true
def x3g (n:Nat) (t:Ty) (l:List t.den):AV->AV
 | .msl g j=>match Nat.beq g n,j with
  | true,some 0=>.dat t l
  | _,_=>.msl g j
 | .cons a r=>.cons (x3g n t l a) (x3g n t l r)
 | v=>v
def w6d (n:Nat) (t:Ty) (l:List t.den):List AObj->List AObj
 | []=>[]
 | o :: r=>(match o with
  | .box ty cs=>.box ty (x3g n t l cs)
  | o=>o) :: w6d n t l r
def xz6 (o:Option Nat) (n:Nat) (T:q2v) (v:AV) (s:St) (k:St->Prop):Prop:=match o,v with
 | some e,.cons x z=>match x,z with
  | .dat t l,.nil=>match s with
   | ⟨ov,base,mem⟩=>match qa1 mem n with
    | .mat _ e' t' rows _ lt=>match lt with
     | some T'=>same e' e (qj1 (.list t') (.list t) rows λr=>r=[l]/\T'=T/\q8l (qc7 (w6d n t l mem) n .dead) λmem'=>k ⟨ov,base,mem'⟩)
     | .none=>False
    | _=>False
  | _,_=>False
 | _,_=>False
def xf9 (b:Bool) (o:Option Nat) (n:Nat) (T:q2v) (v:AV) (s:St) (k:St->Prop):Prop:=match b with
 | true=>xz6 o n T v s k
 | false=>wi7 o n T v s k
def vc:Ctx->(Nat->Option Inv)->Code->Nat->(XK->St->Prop)->St->Prop
 | C,iv,.skip,_,K,s=>K .normal s
 | C,iv,.region _ ops draw,_,K,s=>match C.yl with
  | .none=>match draw with
   | false=>w3b C ops.toList ops.toList s (K .normal)
   | true=>match s with
    | ⟨ov,base,mem⟩=>q8l (padMem mem ops.toList) λmem'=>q2a mem.length lits λn0=>q2c C ops.toList n0 0 ops.toList ⟨ov,base,mem'⟩ [] (K .normal)
  | some Y=>match draw with
   | false=>xz4 C Y ops.toList ops.toList s (K .normal)
   | true=>match yIx Y.slots ops.toList 0 with
    | .none=>match s with
     | ⟨ov,base,mem⟩=>q8l (padMem mem ops.toList) λmem'=>q2a mem.length lits λn0=>q2c C ops.toList n0 0 ops.toList ⟨ov,base,mem'⟩ [] (K .normal)
    | some y=>match yOk ops.toList y,s with
     | true,⟨ov,base,mem⟩=>q8l (padMem mem (ops.toList.take y)) λmem'=>q2a mem.length lits λn0=>q2c C (ops.toList.take y) n0 0 (ops.toList.take y) ⟨ov,base,mem'⟩ [] λs1=>xz4 C Y ops.toList (ops.toList.drop y) s1 (K .normal)
     | false,_=>False
 | C,iv,.seq a b,n,K,s=>vc C iv a n (λe s'=>match e with
  | .normal=>vc C iv b (n+loops a) K s'
  | e=>K e s') s
 | C,iv,.cond c a b,n,K,s=>match s with
  | ⟨ov,base,mem⟩=>q18 (qc8 ov base c) (λ_=>vc C iv a n K ⟨ov,base,mem⟩) (λ_=>vc C iv b (n+loops a) K ⟨ov,base,mem⟩)
 | C,iv,.block id c,n,K,s=>vc C iv c n (λe s'=>match e with
  | .exit j=>match Nat.beq j id with
   | true=>K .normal s'
   | false=>K (.exit j) s'
  | e=>K e s') s
 | C,iv,.scope c,n,K,s=>vc C iv c n K s
 | C,iv,.label _,_,K,s=>K .normal s
 | C,iv,.loop c,n,K,s=>x3z (iv (n+900000)) (vc C iv c (n+1)) K s (xz5 C iv c n K (vc C iv c (n+1)))
 | C,iv,.rangeFunc f ps ag c,n,K,s=>match s with
  | ⟨ov,base,mem⟩=>match qc8 ov base f with
   | .clo F caps=>match caps.plain,qi2 ag,w0c C.yl c,C.yl with
    | true,true,true,.none=>withSome (find C.its F) λS=>q2a mem.length lits λk=>withSome (x67 iv n k) λ(V:Inv)=>same ps.toList.length S.ins.length (S.run caps λL=>∃p:V.Q,∃x0:V.S,V.I p x0/\V.μ p x0=0/\q8x (V.mem p x0) 0 mem ⟨ov,base,mem⟩ λs=>(q2a s.mem.length lits λb0=>qx2 (some (qm8 b0 (V.mem p x0) 0)) s.mem (V.mem p x0))/\∀x:V.S,V.I p x ->
     match qr7 V.size (V.mem p x),Nat.beq (V.mem p x).length V.size,Nat.ble s.mem.length V.size with
     | true,true,true=>wi4 C.yl [] (V.mem p x) [] s λs1=>
       (∀d:qa3 S.ins,L[V.μ p x]? = some d->w3f S.lend ps.toList (qg2 S.ins d) s1 λT s2=>vc C iv ag (n+1) (λe s3=>match e with
        | .normal=>vc C iv c (n+1+loops ag) (λe s4=>q2a V.size lits λnv=>match e with
         | .normal=>wi7 S.lend nv T (qg2 S.ins d) s4 λs4=>∃x':V.S,V.I p x'/\V.μ p x'=V.μ p x+1/\q8x (V.mem p x') 0 s4.mem s4 λs5=>qx2 .none s5.mem (V.mem p x')
         | e=>xf9 (xf8 iv n S.lend) S.lend nv T (qg2 S.ins d) s4 λs4=>wi4 C.yl [] s4.mem [] s (K e)) s3
        | _=>False) s2)/\(V.μ p x=L.length->K .normal s1)
     | _,_,_=>False)
    | true,true,true,some Y=>match c with
     | .block id cc=>match cc with
      | .seq c1 c2=>withSome (find C.its F) λS=>withSome S.lend λ_=>q2a mem.length lits λk=>withSome (x67 iv n k) λ(V:Inv)=>same ps.toList.length S.ins.length (S.run caps λL=>∃p:V.Q,∃x0:V.S,V.I p x0/\V.μ p x0=0/\qx2 .none (ql5 mem) (V.mem p x0)/\∀x:V.S,V.I p x ->
       match qr7 V.size (V.mem p x),Nat.beq (V.mem p x).length V.size,Nat.beq mem.length V.size with
       | true,true,true=>wi4 (some Y) [] (V.mem p x) [] ⟨ov,base,mem⟩ λs1=>
         (∀d:qa3 S.ins,L[V.μ p x]? = some d->w3f S.lend ps.toList (qg2 S.ins d) s1 λT s2=>vc C.quiet iv ag (n+1) (λe s3=>match e with
          | .normal=>vc C.quiet iv c1 (n+1+loops ag) (λe s4=>match e with
           | .normal=>q2a V.size lits λnv=>wi7 S.lend nv T (qg2 S.ins d) s4 λs5=>vc C iv c2 (n+1+loops ag+loops c1) (λe s6=>match blkX id e with
            | .normal=>∃x':V.S,V.I p x'/\V.μ p x'=V.μ p x+1/\qx2 .none (ql5 s6.mem) (V.mem p x')
            | e=>wi4 (some Y) [] (ql5 s6.mem) [] ⟨ov,base,mem⟩ (K e)) s5
           | _=>False) s3
          | _=>False) s2)/\(V.μ p x=L.length->K .normal s1)
       | _,_,_=>False)
      | _=>False
     | _=>False
    | _,_,_,_=>False
   | _=>False
 | C,iv,.exit id,_,K,s=>K (.exit id) s
 | C,iv,.ret,_,K,s=>K .ret s
 | _,_,_,_,_,_=>False
end Eng
set_option linter.unusedVariables false
set_option linter.unusedSimpArgs false
namespace Eng
open Go Go.RowKit
theorem q6n {α:Type} {l:List α} (h:wi3 l):l=[]:=by
 grind [wi3]
theorem qm9 (n:Nat) (l:List Nat) (k:Nat->Prop):q2a n l k=k n:=by
 induction l with
 | nil=>rfl
 | cons m r ih=>
  grind [q2a,Nat.eq_of_beq_eq_true]
theorem xz7 (v:Value) (k:Value->Prop):yf0 v k=k v:=by cases v <;> rfl
theorem qv6 (v:AV):∀k:AV->Prop,fAV v k=k v:=by
 induction v with
 | lit v=>grind [fAV,xz7]
 | imm c o ih=>grind [fAV,qm9]
 | clo f c ih=>grind [fAV]
 | agg c ih=>grind [fAV]
 | tup c ih=>grind [fAV]
 | cons a b iha ihb=>grind [fAV]
 | _=>grind [fAV,qm9]
theorem xg0 (b:Bool) (v:AV) (k:AV->Prop):x3q b v k=k v:=by
 cases b with
 | false=>rfl
 | true=>
  cases v with
  | lit u=>cases u with
   | int j n=>exact propext ⟨λh=>h n rfl,λh z e=>by grind⟩
   | bool n=>exact propext ⟨λh=>h n rfl,λh z e=>by grind⟩
   | _=>rfl
  | _=>rfl
theorem wt9 (C:Ctx) (d:Option Nat) (v:AV) (k:AV->Prop):w58 C d v k=k v:=by
 grind [w58,qv6,xg0]
theorem xz8 (o:AObj) (k:AObj->Prop):x62 o k=k o:=by cases o <;> simp only[x62,qv6]
theorem qo3 (m:List AObj):∀k:List AObj->Prop,q8l m k=k m:=by
 induction m with
 | nil=>intro k; rfl
 | cons o r ih=>grind [q8l,xz8]
theorem q49 (m:List (Nat × AV)):∀k:List (Nat × AV)->Prop,fOv m k=k m:=by
 induction m with
 | nil=>intro k; rfl
 | cons o r ih=>grind [fOv,qv6]
def qr2 (s:St) (nm:Nat):Eff->St
 | .none=>s
 | .new o=>⟨s.ov,s.base,qc7 s.mem nm o⟩
 | .upd g o kill=>match kill with
  | false=>⟨s.ov,s.base,qc7 s.mem g o⟩
  | true=>⟨qg8 g .any s.ov,λi=>AV.subst g .any (s.base i),qc7 (qb7 g .any s.mem) g o⟩
 | .freeze g t l=>⟨qg8 g (.dat t l) s.ov,λi=>AV.subst g (.dat t l) (s.base i),qc7 (qb7 g (.dat t l) s.mem) g .dead⟩
 | .perm g o=>⟨qg8 g (.msl g .none) s.ov,λi=>AV.subst g (.msl g .none) (s.base i),qc7 (qb7 g (.msl g .none) s.mem) g o⟩
 | .eatN h o=>⟨qg8 h .any s.ov,λi=>AV.subst h .any (s.base i),qc7 (qc7 (qb7 h .any s.mem) h .dead) nm o⟩
 | .eat h g o=>⟨qg8 g .any (qg8 h .any s.ov),λi=>AV.subst g .any (AV.subst h .any (s.base i)),qc7 (qb7 g .any (qc7 (qb7 h .any s.mem) h .dead)) g o⟩
theorem q34 (s:St) (nm:Nat) (e:Eff) (k:St->Prop):q95 s.ov s.base s.mem nm e k=k (qr2 s nm e):=by
 cases e with
 | none=>rfl
 | new o=>grind [q95,qr2,qo3]
 | upd g o kill=>cases kill <;> simp only[q95,qr2,qo3,q49]
 | freeze g t l=>grind [q95,qr2,qo3,q49]
 | perm g o=>grind [q95,qr2,qo3,q49]
 | eat h g o=>grind [q95,qr2,qo3,q49]
 | eatN h o=>grind [q95,qr2,qo3,q49]
theorem qi7 (g:Nat) (d:AV) (i:Nat):∀(ov:List (Nat × AV)) (b:AV),look (qg8 g d ov) i (AV.subst g d b)=AV.subst g d (look ov i b)
 | [],_=>rfl
 | (j,v) :: r,b=>by
  simp only[qg8,look]
  split
  ·rfl
  ·exact qi7 g d i r b
theorem qe7 (g:Nat) (d:AV):∀(m:List AObj) (i:Nat),qa1 (qb7 g d m) i=qo2 g d (qa1 m i)
 | [],_=>rfl
 | o :: r,0=>rfl
 | o :: r,i+1=>qe7 g d r i
theorem qa9 (g:Nat) (d:AV):∀(m:List AObj),(qb7 g d m).length=m.length
 | []=>rfl
 | o :: r=>by simp[qb7,qa9 g d r]
theorem qc9:∀(m:List AObj) (i:Nat) (o:AObj),i<m.length->(qc7 m i o).length=m.length
 | [],_,_,h=>absurd h (by simp)
 | _ :: r,0,o,_=>rfl
 | _ :: r,i+1,o,h=>by simp[qc7,qc9 r i o (by grind)]
theorem q36:∀(m:List AObj) (o:AObj),qc7 m m.length o=m++[o]
 | [],_=>rfl
 | x :: r,o=>by simp[qc7,q36 r o]
theorem qx4:∀(m:List AObj) (o:AObj) (i:Nat),qa1 (m++[o]) i=if i=m.length then o else qa1 m i
 | [],o,0=>rfl
 | [],o,i+1=>by rfl
 | x :: r,o,0=>by rfl
 | x :: r,o,i+1=>by simp[qa1,qx4 r o i]
theorem qd1:∀(m:List AObj) (g:Nat) (o:AObj) (i:Nat),g<m.length->qa1 (qc7 m g o) i=if i=g then o else qa1 m i
 | [],_,_,_,h=>absurd h (by simp)
 | _ :: r,0,o,0,_=>rfl
 | _ :: r,0,o,i+1,_=>by rfl
 | _ :: r,g+1,o,0,_=>by rfl
 | _ :: r,g+1,o,i+1,h=>by simp[qc7,qa1,qd1 r g o i (by grind)]
theorem q0h:∀(m:List AObj) (i:Nat),m.length<=i->qa1 m i=.dead
 | [],_,_=>rfl
 | _ :: r,0,h=>absurd h (by simp)
 | _ :: r,i+1,h=>q0h r i (by grind)
def blk:Value->Option Nat
 | .pointer (some a)=>some a.block
 | .slice (some a) _ _=>some a.block
 | .map (some b)=>some b
 | _=>none
def Blk:Value->Nat->Prop
 | .func _ _ a,b=>∃u∈a.toList,blk u=some b
 | v,b=>blk v=some b
theorem qd7 {hs:List Value} {b:Nat}:Blk (qf7 hs) b↔∃u∈hs,blk u=some b:=by rfl
theorem qf1 {hs hs':List Value} (h:qf7 hs=qf7 hs'):hs=hs':=by
 grind [qf7]
theorem qh6 {w:World} {B e size n:Nat} {v:Value} {xs:List Value} (h:w.ownsRow B e size v n xs) {b:Nat}:blk v=some b↔v.ownBlock=some b:=by
 rcases h.2 with⟨rfl,_⟩ | ⟨g',cap,cur,rfl,_⟩ <;> simp[blk,Value.ownBlock]
theorem qk4 {w:World} {B e size n:Nat} {v:Value} {xs:List Value} (h:w.ownsRow B e size v n xs) {b:Nat}:Blk v b↔v.ownBlock=some b:=by
 rcases h.2 with⟨rfl,_⟩ | ⟨g',cap,cur,rfl,_⟩ <;> simp[Blk,blk,Value.ownBlock]
def AObj.live:AObj->Bool
 | .dead=>false
 | _=>true
def code:Option Nat->Int
 | .none=>-1
 | some k=>k
theorem code_inj:∀{a b:Option Nat},code a=code b->a=b
 | .none,.none,_=>rfl
 | .none,some k,h=>by grind [code]
 | some k,.none,h=>by grind [code]
 | some k,some j,h=>by
  grind [code]
def w5z:Value->Bool
 | .pointer _=>true
 | .int _ _=>true
 | _=>false
theorem w6e {v:Value} (h:w5z v=true):q8n v=false:=by cases v <;> first | rfl | cases h
theorem RdL.cle {m m':View} (h:m.cle m') {t:Ty}:∀{l:List t.den} {vs:List Value},RdL m t l vs->RdL m' t l vs
 | [],_,hr=>hr
 | _ :: _,_,⟨u,v,h1,h2,h3⟩=>⟨u,v,h1,Rd.cle h h2,RdL.cle h h3⟩
structure PoolOk (m:View) (w:World) (B eh e:Nat) (t:Ty) (rows:List (List t.den)) (ix:Option (List Nat)) (hs:List Value):Prop where
 len:hs.length=rows.length+1
 head:∃cs:List Value,w.ownsRow B eh 1 (hs.getD 0 undef) (qe0 rows.length ix) cs/\∀(i p:Nat),(ixL rows.length ix)[i]? = some p->p<rows.length/\cs[i]? = hs[p+1]?
 row:∀p,p<rows.length->∃vs,RdL m t (qe5 (.list t) rows p) vs/\w.ownsRow B e t.size (hs.getD (p+1) undef) (qe5 (.list t) rows p:List t.den).length vs
 apart:∀(i j:Nat) u v b,i≠j->hs[i]? = some u->hs[j]? = some v->blk u=some b->blk v=some b->False
 free:∀u b,u∈hs->blk u=some b->m b=none
theorem PoolOk.each {m:View} {w:World} {B eh e:Nat} {t:Ty} {rows:List (List t.den)} {ix:Option (List Nat)} {hs:List Value} (h:PoolOk m w B eh e t rows ix hs) {u:Value} (hu:u∈hs):∃e size n xs,w.ownsRow B e size u n xs:=by
 obtain⟨i,hi,e1⟩:=zbg hu
 cases i with
 | zero=>
  obtain⟨cs,k1,_⟩:=h.head
  grind
 | succ i=>
  obtain⟨vs,_,k1⟩:=h.row i (by have:=h.len; omega)
  grind
theorem own_blk {w:World} {B e size n:Nat} {u:Value} {xs:List Value} (h:w.ownsRow B e size u n xs) {b:Nat} (hb:blk u=some b):B<=b/\b<w.heap.size/\∃c t f,w.heap[b]? = some (.cells c t f):=by
 have h1:=h.lt b ((qh6 h).1 hb)
 refine⟨h1.1,h1.2,?_⟩
 rcases h.2 with⟨rfl,_⟩ | ⟨g',cap,cur,rfl,_,hg,_⟩
 all_goals grind [blk,Option.some.injEq]
theorem qo4 {w w':World} {B e size n:Nat} {u:Value} {xs:List Value} (h:w.ownsRow B e size u n xs) (hk:∀b,blk u=some b->w'.heap[b]? = w.heap[b]?):w'.ownsRow B e size u n xs:=by
 refine⟨h.1,?_⟩
 rcases h.2 with h0 | ⟨g',cap,cur,rfl,hB,hg,r⟩
 ·grind
 ·exact .inr ⟨g',cap,cur,rfl,hB,(hk g' rfl).trans hg,r⟩
theorem PoolOk.grow {m m':View} {w w':World} {B eh e:Nat} {t:Ty} {rows:List (List t.den)} {ix:Option (List Nat)} {hs:List Value} (h:PoolOk m w B eh e t rows ix hs) (hm:m.cle m') (hk:∀b,(∃u∈hs,blk u=some b)->w'.heap[b]? = w.heap[b]?/\m' b=.none):PoolOk m' w' B eh e t rows ix hs:=by
 have mem:∀i,i<hs.length->hs.getD i undef∈hs:=λi hi=>by
  grind
 refine⟨h.len,?_,λp hp=>?_,h.apart,λu b hu hb=>(hk b ⟨u,hu,hb⟩).2⟩
 ·obtain⟨cs,k1,k2⟩:=h.head
  exact⟨cs,qo4 k1 λb hb=>(hk b ⟨_,mem 0 (by have:=h.len; omega),hb⟩).1,k2⟩
 ·obtain⟨vs,k1,k2⟩:=h.row p hp
  exact⟨vs,RdL.cle hm k1,qo4 k2 λb hb=>(hk b ⟨_,mem (p+1) (by have:=h.len; omega),hb⟩).1⟩
structure BldOk (m:View) (w:World) (B T e b:Nat) (v:Value) (s:ByteArray):Prop where
 low:B<=b
 cell:∃p,(p=.pointer none\/p=.pointer (some ⟨b,0,none⟩))/\w.heap[b]? = some (.cells #[p,v] T (0,0))
 own:w.ownsRow B e 1 v s.size (Lib.byteCells s.data.toList)
 ne:v.ownBlock≠some b
 free:m b=none
 free':∀b',v.ownBlock=some b'->m b'=none
def q5w (b:Nat) (v:Value):Value:=qf7 [.pointer (some ⟨b,0,none⟩),v]
theorem q6o {b:Nat} {v:Value} {x:Nat}:Blk (q5w b v) x↔x=b\/blk v=some x:=by
 simp_all [q5w,qd7,blk,eq_comm]
theorem BldOk.blkIs {m:View} {w:World} {B T e b:Nat} {v:Value} {s:ByteArray} (h:BldOk m w B T e b v s) {x:Nat}:Blk (q5w b v) x↔x=b\/v.ownBlock=some x:=by
 rw[q6o,qh6 h.own]
theorem BldOk.at {m:View} {w:World} {B T e b:Nat} {v:Value} {s:ByteArray} (h:BldOk m w B T e b v s) {x:Nat} (hx:Blk (q5w b v) x):B<=x/\x<w.heap.size/\m x=none/\∃c t f,w.heap[x]? = some (.cells c t f):=by
 rcases h.blkIs.1 hx with rfl | hx
 ·obtain⟨p,_,hc⟩:=h.cell
  exact⟨h.low,(zal.1 hc).1,h.free,_,_,_,hc⟩
 ·have:=own_blk h.own ((qh6 h.own).2 hx)
  exact⟨this.1,this.2.1,h.free' x hx,this.2.2⟩
theorem BldOk.grow {m m':View} {w w':World} {B T e b:Nat} {v:Value} {s:ByteArray} (h:BldOk m w B T e b v s) (hk:∀x,Blk (q5w b v) x->w'.heap[x]? = w.heap[x]?/\m' x=none):BldOk m' w' B T e b v s:=by
 obtain⟨p,h1,h2⟩:=h.cell
 exact⟨h.low,⟨p,h1,(hk b (h.blkIs.2 (.inl rfl))).1.trans h2⟩,qo4 h.own λx hx=>(hk x (q6o.2 (.inr hx))).1,h.ne,(hk b (h.blkIs.2 (.inl rfl))).2,λx hx=>(hk x (h.blkIs.2 (.inr hx))).2⟩
def q6p (lt:Option q2v) (hs:List Value):Prop:=∀T,lt=some T->hs[0]? = T.hs[0]?/\hs.length=T.hs.length/\∀u,u∈hs↔u∈T.hs
def qv7:(t:Ty)->t.den->Value
 | .int j,n=>.int j n
 | .bool,b=>.bool b
 | _,_=>.nilFunc
def xz9 (t:Ty):List (Ty.prod .str t).den->List MapEntry->Prop
 | [],es=>es=[]
 | (s,x) :: r,es=>∃e es',es=e :: es'/\e.key=.string s/\e.val=qv7 t x/\xz9 t r es'
def ObjOk (P:Program) (m:View) (ρ:List Value) (w:World) (B g:Nat):AObj->Prop
 | .dead=>True
 | .box ty cs=>∃b vs,ρ[g]? = some (.pointer (some ⟨b,0,none⟩))/\B<=b/\w.heap[b]? = some (.cells (List.toArray vs) ty (0,0))/\cs.ok P m ρ vs/\(∀v∈vs,Value.oneCell' v=true)/\m b=none
 | .vec e t l=>∃v vs,ρ[g]? = some v/\RdL m t l vs/\w.ownsRow B e t.size v l.length vs/\∀b,v.ownBlock=some b->m b=none
 | .cnt k=>ρ[g]? = some (.int .i64 (code k))
 | .sit s p=>∃b,ρ[g]? = some (.pointer (some ⟨b,0,none⟩))/\B<=b/\w.heap[b]? = some (.stringIter s p)/\m b=none
 | .mat eh e t rows ix lt=>∃hs,ρ[g]? = some (qf7 hs)/\PoolOk m w B eh e t rows ix hs/\q6p lt hs
 | .bld T e s=>∃b v,ρ[g]? = some (q5w b v)/\BldOk m w B T e b v s
 | .mp t l=>∃b es clock,ρ[g]? = some (.map (some b))/\B<=b/\w.heap[b]? = some (.map es clock)/\xz9 t l es.toList/\m b=none
theorem ObjOk.blk_lt {P:Program} {m:View} {ρ:List Value} {w:World} {B g:Nat} {o:AObj} (h:ObjOk P m ρ w B g o) (hl:o.live=true):∃v,ρ[g]? = some v/\∀b,Blk v b->B<=b/\b<w.heap.size/\m b=none:=by
 cases o with
 | dead=>cases hl
 | box ty cs=>
  obtain⟨b,vs,h1,h2,h3,_,_,h6⟩:=h
  grind [Blk,blk,Option.some.injEq,Array.getElem?_eq_some_iff]
 | vec e t l=>
  obtain⟨v,vs,h1,_,h3,h4⟩:=h
  refine⟨v,h1,λb hb=>?_⟩
  have hv:v.ownBlock=some b:=(qk4 h3).1 hb
  have:=h3.lt b hv
  grind
 | sit s p=>
  obtain⟨b,h1,h2,h3,h4⟩:=h
  grind [Blk,blk,Option.some.injEq,Array.getElem?_eq_some_iff]
 | mp t l=>
  obtain⟨b,es,cl,h1,h2,h3,_,h4⟩:=h
  grind [Blk,blk,Option.some.injEq,Array.getElem?_eq_some_iff]
 | cnt k=>exact⟨_,h,λb hb=>by grind [Blk,blk]⟩
 | bld T e s=>
  obtain⟨b,v,h1,h2⟩:=h
  exact⟨_,h1,λx hx=>⟨(h2.at hx).1,(h2.at hx).2.1,(h2.at hx).2.2.1⟩⟩
 | mat eh e t rows ix lt=>
  obtain⟨hs,h1,h2,_⟩:=h
  refine⟨_,h1,λb hb=>?_⟩
  obtain⟨u,k1,k2⟩:=qd7.1 hb
  obtain⟨_,_,_,_,k3⟩:=h2.each k1
  have:=own_blk k3 k2
  exact⟨this.1,this.2.1,h2.free u b k1 k2⟩
theorem w6f {w:World} {B e size n:Nat} {v:Value} {xs:List Value} (h:w.ownsRow B e size v n xs):q8n v=false:=by
 rcases h.2 with⟨rfl,_⟩ | ⟨g',cap,cur,rfl,_⟩ <;> rfl
theorem ObjOk.grow {P:Program} {m m':View} {ρ ρ':List Value} {w w':World} {B g:Nat} {o:AObj} (h:ObjOk P m ρ w B g o) (hm:m.le m') (hρ:∀(g:Nat) (v:Value),ρ[g]? = some v->q8n v=false->ρ'[g]? = some v)
  (hw:∀v b,ρ[g]? = some v->Blk v b->w'.heap[b]? = w.heap[b]?/\m' b=none):ObjOk P m' ρ' w' B g o:=by
 cases o with
 | dead=>trivial
 | box ty cs=>
  obtain⟨b,vs,h1,h2,h3,h4,h5,h6⟩:=h
  obtain⟨k1,k2⟩:=hw _ b h1 rfl
  exact⟨b,vs,hρ _ _ h1 rfl,h2,k1.trans h3,AV.ok_le hm hρ h4,h5,k2⟩
 | vec e t l=>
  obtain⟨v,vs,h1,h2,h3,h4⟩:=h
  refine⟨v,vs,hρ _ _ h1 (w6f h3),RdL.le hm h2,?_,λb hb=>?_⟩
  ·refine⟨h3.1,?_⟩
   rcases h3.2 with h0 | ⟨g',cap,cur,rfl,hB,hg,r⟩
   ·grind
   ·exact .inr ⟨g',cap,cur,rfl,hB,(hw _ g' h1 rfl).1.trans hg,r⟩
  ·exact(hw _ b h1 ((qk4 h3).2 hb)).2
 | sit s p=>
  obtain⟨b,h1,h2,h3,h4⟩:=h
  obtain⟨k1,k2⟩:=hw _ b h1 rfl
  exact⟨b,hρ _ _ h1 rfl,h2,k1.trans h3,k2⟩
 | mp t l=>
  obtain⟨b,es,cl,h1,h2,h3,h4,h5⟩:=h
  obtain⟨k1,k2⟩:=hw _ b h1 rfl
  exact⟨b,es,cl,hρ _ _ h1 rfl,h2,k1.trans h3,h4,k2⟩
 | cnt k=>exact hρ _ _ h rfl
 | bld T e s=>
  obtain⟨b,v,h1,h2⟩:=h
  exact⟨b,v,hρ _ _ h1 rfl,h2.grow λx hx=>hw _ x h1 hx⟩
 | mat eh e t rows ix lt=>
  obtain⟨hs,h1,h2,h3⟩:=h
  exact⟨hs,hρ _ _ h1 rfl,h2.grow hm.cle λb hb=>hw _ b h1 (qd7.2 hb),h3⟩
def x6w:Obj->Prop
 | .deferred _=>False
 | .loop _=>False
 | _=>True
theorem ObjOk.blk_cells {P:Program} {m:View} {ρ:List Value} {w:World} {B g:Nat} {o:AObj} (h:ObjOk P m ρ w B g o) (hl:o.live=true):∃v,ρ[g]? = some v/\∀b,Blk v b->∃o,w.heap[b]? = some o/\x6w o:=by
 cases o with
 | dead=>cases hl
 | box ty cs=>
  obtain⟨b,vs,h1,h2,h3,_⟩:=h
  exact⟨_,h1,λb' hb=>by simp only[Blk,blk,Option.some.injEq] at hb; subst hb; exact⟨_,h3,trivial⟩⟩
 | vec e t l=>
  obtain⟨v,vs,h1,_,h3,h4⟩:=h
  refine⟨v,h1,λb hb=>?_⟩
  rcases h3.2 with⟨rfl,_⟩ | ⟨g',cap,cur,rfl,_,hg,_⟩
  ·grind [Blk,blk]
  ·simp only[Blk,blk,Option.some.injEq] at hb; subst hb; exact⟨_,hg,trivial⟩
 | sit s p=>
  obtain⟨b,h1,h2,h3,h4⟩:=h
  exact⟨_,h1,λb' hb=>by simp only[Blk,blk,Option.some.injEq] at hb; subst hb; exact⟨_,h3,trivial⟩⟩
 | mp t l=>
  obtain⟨b,es,cl,h1,h2,h3,_⟩:=h
  exact⟨_,h1,λb' hb=>by simp only[Blk,blk,Option.some.injEq] at hb; subst hb; exact⟨_,h3,trivial⟩⟩
 | cnt k=>exact⟨_,h,λb hb=>by grind [Blk,blk]⟩
 | bld T e s=>
  obtain⟨b,v,h1,h2⟩:=h
  refine⟨_,h1,λx hx=>?_⟩
  obtain⟨c,t,f,hc⟩:=(h2.at hx).2.2.2
  exact⟨_,hc,trivial⟩
 | mat eh e t rows ix lt=>
  obtain⟨hs,h1,h2,_⟩:=h
  refine⟨_,h1,λb hb=>?_⟩
  obtain⟨u,k1,k2⟩:=qd7.1 hb
  obtain⟨_,_,_,_,k3⟩:=h2.each k1
  obtain⟨c,t,f,hc⟩:=(own_blk k3 k2).2.2
  exact⟨_,hc,trivial⟩
structure Same (D:Nat->Prop) (W W':World):Prop where
 os:W'.os=W.os
 tape:W'.tape=W.tape
 output:W'.output=W.output
 size:W.heap.size<=W'.heap.size
 block:∀b,D b->W'.heap[b]? = W.heap[b]?
def Kept (D:Nat->Prop) (W W':World):Prop:=Same (λb=>b<W.heap.size/\¬D b) W W'
theorem Same.refl (D:Nat->Prop) (W:World):Same D W W:=⟨rfl,rfl,rfl,zad _,λ_ _=>rfl⟩
theorem Same.mono {D D':Nat->Prop} {A B:World} (h:Same D A B) (hd:∀b,D' b->D b):Same D' A B:=⟨h.os,h.tape,h.output,h.size,λb hb=>h.block b (hd b hb)⟩
theorem Same.of_grown {D:Nat->Prop} {A B:World} {row:Option Nat} (hg:A.grownBy B row) (hD:∀b,D b->b<A.heap.size) (hr:∀r,row=some r->¬D r):Same D A B:=
 ⟨hg.os,hg.tape,hg.output,hg.size,λb hb=>hg.block b (hD b hb) (λe=>hr b e.symm hb)⟩
theorem qr8 {D:Nat->Prop} {A B:World} {row:Option Nat} (hg:A.grownBy B row) (hr:∀r,row=some r->D r):Kept D A B:=
 Same.of_grown hg (λb hb=>hb.1) (λr e h=>h.2 (hr r e))
theorem q98 {D:Nat->Prop} {A B:World} (h:Below A.heap.size A B):Kept D A B:=⟨h.os,h.tape,h.output,h.size,λb hb=>h.block b hb.1⟩
theorem qb4 (n i:Nat):Nat.testBit (bit n) i=decide (n=i):=by
 show Nat.testBit (2 ^ n) i=_
 grind
theorem qd0 (a b i:Nat):Nat.testBit (Nat.lor a b) i=(a.testBit i || b.testBit i):=Nat.testBit_or a b i
theorem qh7 {a b:Nat} (h:off a b=true) (i:Nat) (ha:a.testBit i=true):b.testBit i=false:=by
 have h:=zab h
 have:(a &&& b).testBit i=false:=by
  simp_all
 grind
theorem q2d {R:Nat} {h:Nat}:∀{l:List AObj} {i g:Nat},R.testBit (i+g)=true->(qa1 l g).msk.testBit h=true->(qq4 R l i).testBit h=true
 | [],i,g,_,h2=>by grind [qa1,AObj.msk]
 | o :: r,i,0,h1,h2=>by
  simp only[qq4]
  rw[zbv] at h1
  rw[h1]
  simp only[qd0,Bool.or_eq_true]
  exact .inl h2
 | o :: r,i,g+1,h1,h2=>by
  have:=q2d (l:=r) (i:=i+1) (g:=g) (by rw[zca,Nat.add_comm 1 g]; exact h1) h2
  simp only[qq4]
  split
  all_goals simp_all
theorem qh4 {mem:List AObj} {R g:Nat} (h:R.testBit g=true):(qf5 mem R).testBit g=true:=by
 grind [qf5,qd0]
theorem q0i {mem:List AObj} {R g h:Nat} (h1:R.testBit g=true) (h2:(qa1 mem g).msk.testBit h=true):(qf5 mem R).testBit h=true:=by
 unfold qf5; rw[qd0,zbx]
 exact .inr (q2d (i:=0) (by grind) h2)
structure Base where
 n:Nat
 W:World
 F:Nat->Prop
 low:n<=W.heap.size
 ρ:List Value
structure Base.ok (Z:Base) (w:World):Prop where
 os:w.os=Z.W.os
 tape:w.tape=Z.W.tape
 output:w.output=Z.W.output
 grows:Z.W.heap.size<=w.heap.size
 kept:∀b,Z.F b->b<Z.W.heap.size/\w.heap[b]? = Z.W.heap[b]?
theorem Base.ok.size {Z:Base} {w:World} (h:Z.ok w):Z.n<=w.heap.size:=zah Z.low h.grows
theorem Base.ok.grow {Z:Base} {w w':World} (h:Z.ok w) (hb:Below w.heap.size w w'):Z.ok w':=
 ⟨hb.os.trans h.os,hb.tape.trans h.tape,hb.output.trans h.output,zah h.grows hb.size,λb hF=>⟨(h.kept b hF).1,(hb.block b (za7 (h.kept b hF).1 h.grows)).trans (h.kept b hF).2⟩⟩
theorem Base.ok.turned {Z:Base} {w w':World} {row:Option Nat} (h:Z.ok w) (hg:w.grownBy w' row) (hr:∀b,row=some b->¬Z.F b):Z.ok w':=
 ⟨hg.os.trans h.os,hg.tape.trans h.tape,hg.output.trans h.output,zah h.grows hg.size,λb hF=>⟨(h.kept b hF).1,(hg.block b (za7 (h.kept b hF).1 h.grows) (λe=>hr b e.symm hF)).trans (h.kept b hF).2⟩⟩
theorem Base.ok.kept2 {Z:Base} {w w':World} {D:Nat->Prop} (h:Z.ok w) (hg:Kept D w w') (hr:∀b,D b->¬Z.F b):Z.ok w':=
 ⟨hg.os.trans h.os,hg.tape.trans h.tape,hg.output.trans h.output,zah h.grows hg.size,λb hF=>⟨(h.kept b hF).1,(hg.block b ⟨za7 (h.kept b hF).1 h.grows,λe=>hr b e hF⟩).trans (h.kept b hF).2⟩⟩
theorem Base.ok.new {Z:Base} {w:World} (h:Z.ok w) {b:Nat} (hb:w.heap.size<=b):¬Z.F b:=λhF=>by
 have:=(h.kept b hF).1
 have:=h.grows
 omega
def base0 (w:World):Base:=⟨w.heap.size,w,λb=>b<w.heap.size,zad _,[]⟩
theorem q5x {w w':World}:(base0 w).ok w'↔Below w.heap.size w w':=
 ⟨λh=>⟨h.os,h.tape,h.output,h.grows,λb hb=>(h.kept b hb).2⟩,λh=>⟨h.os,h.tape,h.output,h.size,λb hb=>⟨hb,h.block b hb⟩⟩⟩
def Marks (Z:Base) (W:World):List Deferred->Prop
 | []=>True
 | d :: ds=>(∃D,d.target=.collected D/\Z.n<=D/\¬Z.F D/\W.heap[D]? = some (.deferred (some []))/\∀e∈ds,e.target≠.collected D)/\Marks Z W ds
theorem Marks.turn {Z:Base} {W W':World} {ds:List Deferred} (h:Marks Z W ds) (hk:∀D:Nat,(∃e∈ds,e.target=.collected D)->W.heap[D]? = some (Obj.deferred (some []))->W'.heap[D]? = some (Obj.deferred (some []))):Marks Z W' ds:=by
 induction ds with
 | nil=>trivial
 | cons d ds ih=>
  obtain⟨⟨D,h1,h2,h3,h4,h6⟩,h5⟩:=h
  exact⟨⟨D,h1,h2,h3,hk D ⟨d,by simp,h1⟩ h4,h6⟩,ih h5 λD' ⟨e,he,ht⟩ hD=>hk D' ⟨e,by grind,ht⟩ hD⟩
theorem Marks.below {Z:Base} {W W':World} {ds:List Deferred} (h:Marks Z W ds) (hb:Below W.heap.size W W'):Marks Z W' ds:=
 h.turn λD _ hD=>(hb.block D (zal.1 hD).1).trans hD
theorem Marks.kept {Z:Base} {W W':World} {ds:List Deferred} {D:Nat->Prop} (h:Marks Z W ds) (hg:Kept D W W') (hr:∀r,D r->∃o,W.heap[r]? = some o/\x6w o):Marks Z W' ds:=
 h.turn λD' _ hD=>(hg.block D' ⟨(zal.1 hD).1,λe=>by obtain⟨o,hc,ho⟩:=hr D' e; rw[hD] at hc; obtain rfl:=zaa hc; exact ho⟩).trans hD
theorem qn4 {F:Fence} {n:Nat} {P:Program} {fn:Func} {tmps:Array Value} {R:Ending->World->Prop} {Z:Base} (I:World->Prop)
  (hI:∀W D,I W->Z.n<=D->¬Z.F D->W.heap[D]? = some (.deferred (some []))->I (W.putObj D (.deferred none))) (hbase:∀W,I W->LeavesInM F n P fn tmps R [] .returning W) :
  ∀(ds:List Deferred) (W:World),Marks Z W ds->I W->LeavesInM F n P fn tmps R ds .returning W
 | [],W,_,h=>hbase W h
 | d :: ds,W,hm,h=>by
  obtain⟨⟨D,h1,h2,h3,h4,h6⟩,h5⟩:=hm
  refine⟨by simp,.inl ⟨D,_,h1,run_takeDeferred h4,?_⟩⟩
  refine qn4 I hI hbase ds _ (h5.turn λD' ⟨e,he,ht⟩ hD=>?_) (hI W D h h2 h3 h4)
  have hne:D'≠D:=by grind
  grind [World.putObj_heap_other,trans]
structure Rel (P:Program) (w0:Base) (m0:View) (s:St) (m:View) (ρ:List Value) (a:Act) (w:World):Prop where
 slots:∀i,(s.get i).ok P m ρ [a.tmps.getD i undef]
 len:ρ.length=s.mem.length
 hdr:∀v∈ρ,v.oneCell'=true
 defers:Marks w0 w a.defers
 objs:∀g,ObjOk P m ρ w w0.n g (qa1 s.mem g)
 apart:∀g g' v v' b,g≠g'->(qa1 s.mem g).live=true->(qa1 s.mem g').live=true->ρ[g]? = some v->ρ[g']? = some v'->Blk v b->Blk v' b->False
 view:m.on w
 ext:m0.le m
 new:∀b o,m b=some o->m0 b=some o\/(w0.n<=b/\¬w0.F b)
 below:w0.ok w
 zone:∀g v b,(qa1 s.mem g).live=true->ρ[g]? = some v->Blk v b->¬w0.F b
 pins:∀(g:Nat) v,w0.ρ[g]? = some v->w5z v=true->ρ[g]? = some v
theorem Rel.eval {P:Program} {w0:Base} {m0:View} {s:St} {m:View} {ρ:List Value} {a:Act} {w:World} (h:Rel P w0 m0 s m ρ a w) (x:Operand):(qc8 s.ov s.base x).ok P m ρ [a.eval x]:=by
 cases x with
 | tmp t=>exact h.slots t
 | const v=>
  simp only[qc8]
  split
  ·split <;> rfl
  rfl
 | global g=>rfl
 | func f=>exact⟨[],rfl,rfl⟩
theorem Rel.put {P:Program} {w0:Base} {m0:View} {s:St} {m:View} {ρ:List Value} {a:Act} {w:World} (h:Rel P w0 m0 s m ρ a w) {d:Option Nat} {av:AV} {v:Value} (hv:av.ok P m ρ [v])
  (hd:∀i,d=some i->i<a.tmps.size):Rel P w0 m0 (qv5 d av s) m ρ (a.put d v) w:=by
 cases d with
 | none=>exact h
 | some i=>
  obtain⟨ov,base,mem⟩:=s
  refine⟨λj=>?_,h.len,h.hdr,h.defers,h.objs,h.apart,h.view,h.ext,h.new,h.below,h.zone,h.pins⟩
  have hi:=hd i rfl
  simp only[qv5,St.get,look,Act.put]
  by_cases hj:i=j
  ·simp_all
  ·have:Nat.beq i j=false:=by grind [Nat.beq,absurd,Nat.eq_of_beq_eq_true]
   rw[this]
   have h2:(a.tmps.setIfInBounds i v).getD j undef=a.tmps.getD j undef:=by simp_all
   rw[h2]
   exact h.slots j
theorem Rel.grow {P:Program} {w0:Base} {m0:View} {s:St} {m m':View} {ρ:List Value} {a:Act} {w w':World} (h:Rel P w0 m0 s m ρ a w) (hb:Below w.heap.size w w') (hm:m.le m') (hon:m'.on w')
  (hnew:∀b o,m' b=some o->m b=some o\/w.heap.size<=b):Rel P w0 m0 s m' ρ a w':=by
 have hw:∀g,(qa1 s.mem g).live=true->∀v b,ρ[g]? = some v->Blk v b->w'.heap[b]? = w.heap[b]?/\m' b=none:=by
  intro g hl v b h1 h2
  obtain⟨v',k1,k2⟩:=(h.objs g).blk_lt hl
  rw[h1] at k1; obtain rfl:=zaa k1
  obtain⟨_,k3,k4⟩:=k2 b h2
  refine⟨hb.block b k3,?_⟩
  cases hm':m' b with
  | none=>rfl
  | some o=>
   grind
 refine⟨λi=>AV.ok_le hm (λ_ _ h _=>h) (h.slots i),h.len,h.hdr,h.defers.below hb,λg=>?_,h.apart,hon,View.le_trans h.ext hm,λb o hbo=>?_,h.below.grow hb,h.zone,h.pins⟩
 ·cases hl:(qa1 s.mem g).live with
  | false=>cases hg:qa1 s.mem g <;> rw[hg] at hl <;> first | trivial | cases hl
  | true=>exact(h.objs g).grow hm (λ_ _ h _=>h) (hw g hl)
 ·rcases hnew b o hbo with h5 | h5
  ·exact h.new b o h5
  ·exact .inr ⟨zah h.below.size h5,h.below.new h5⟩
theorem Rel.cells {P:Program} {w0:Base} {m0:View} {s:St} {m:View} {ρ:List Value} {a:Act} {w:World} (h:Rel P w0 m0 s m ρ a w):Rel P w0 m0.cells s m.cells ρ a w:=by
 have hc:=View.cells_cle m
 have hn:∀b,m b=none->m.cells b=none:=λb hb=>by grind [View.cells]
 refine⟨λi=>AV.ok_cle hc (λ_ _ h _=>h) (h.slots i),h.len,h.hdr,h.defers,λg=>?_,h.apart,λb o hb=>h.view b o (View.cells_le m b o hb),λb o hb=>?_,λb o hb=>?_,h.below,h.zone,h.pins⟩
 ·have ho:=h.objs g
  cases hg:qa1 s.mem g with
  | dead=>trivial
  | box ty cs=>
   rw[hg] at ho
   obtain⟨b,vs,h1,h2,h3,h4,h5,h6⟩:=ho
   exact⟨b,vs,h1,h2,h3,AV.ok_cle hc (λ_ _ h _=>h) h4,h5,hn _ h6⟩
  | vec e t l=>
   rw[hg] at ho
   obtain⟨v,vs,h1,h2,h3,h4⟩:=ho
   exact⟨v,vs,h1,RdL.cle hc h2,h3,λb hb=>hn _ (h4 b hb)⟩
  | sit q p=>
   rw[hg] at ho
   obtain⟨b,h1,h2,h3,h4⟩:=ho
   exact⟨b,h1,h2,h3,hn _ h4⟩
  | mp t l=>
   rw[hg] at ho
   obtain⟨b,es,cl,h1,h2,h3,h4,h5⟩:=ho
   exact⟨b,es,cl,h1,h2,h3,h4,hn _ h5⟩
  | cnt k=>rw[hg] at ho; exact ho
  | bld T e q=>
   rw[hg] at ho
   obtain⟨b,v,h1,h2⟩:=ho
   exact⟨b,v,h1,h2.grow λx hx=>⟨rfl,hn _ (h2.at hx).2.2.1⟩⟩
  | mat eh e t rows ix lt=>
   rw[hg] at ho
   obtain⟨hs,h1,h2,h3⟩:=ho
   exact⟨hs,h1,h2.grow hc λb ⟨u,k1,k2⟩=>⟨rfl,hn _ (h2.free u b k1 k2)⟩,h3⟩
 ·obtain⟨c,t,f,e⟩:=View.cells_is hb
  have:=h.ext b o (View.cells_le m0 b o hb)
  grind [View.cells]
 ·obtain⟨c,t,f,e⟩:=View.cells_is hb
  rcases h.new b o (View.cells_le m b o hb) with k | k
  all_goals grind [View.cells]
theorem Rel.shake {P:Program} {w0:Base} {m0:View} {s:St} {m:View} {ρ:List Value} {a:Act} {w w':World} (h:Rel P w0 m0 s m ρ a w) (hc:∀b o,m b=some o->∃c t f,o=.cells c t f) {row:Option Nat} (hg:w.grownBy w' row)
  (hr:∀r,row=some r->(∀o,x6w o->w.heap[r]?≠some o)/\¬w0.F r) {ds:List Deferred} (hmk:Marks w0 w' ds):Rel P w0 m0 s m ρ { a with defers:=ds } w':=by
 have hon:m.on w':=λb o hb=>by
  have:=h.view b o hb
  rw[hg.block b (View.lt h.view hb) (λe=>by obtain⟨c,t,f,e2⟩:=hc b o hb; subst e2; exact(hr b e.symm).1 (.cells c t f) trivial this)]
  omega
 refine⟨h.slots,h.len,h.hdr,hmk,λg=>?_,h.apart,hon,h.ext,h.new,h.below.turned hg λb e=>(hr b e).2,h.zone,h.pins⟩
 cases hl:(qa1 s.mem g).live with
 | false=>cases hg:qa1 s.mem g <;> rw[hg] at hl <;> first | trivial | cases hl
 | true=>
  refine(h.objs g).grow (View.le_refl m) (λ_ _ h _=>h) λu b hu hb=>?_
  obtain⟨u',j1,j2⟩:=(h.objs g).blk_lt hl
  rw[hu] at j1; obtain rfl:=zaa j1
  obtain⟨u'',i1,i2⟩:=(h.objs g).blk_cells hl
  rw[hu] at i1; obtain rfl:=zaa i1
  obtain⟨o',hcc,ho'⟩:=i2 b hb
  exact⟨hg.block b (j2 b hb).2.1 (λe=>(hr b e.symm).1 o' ho' hcc),(j2 b hb).2.2⟩
theorem w3g (w:World):Below w.heap.size w w.drew:=⟨rfl,rfl,rfl,zad _,λ_ _=>rfl⟩
theorem Rel.drew {P:Program} {w0:Base} {m0:View} {s:St} {m:View} {ρ:List Value} {a:Act} {w:World} (h:Rel P w0 m0 s m ρ a w):Rel P w0 m0 s m ρ a w.drew:=
 h.grow (w3g w) (View.le_refl m) h.view (λ_ _ hb=>.inl hb)
def Free (s:St) (ρ:List Value) (nm:Nat):Prop:=nm=s.mem.length\/(nm<s.mem.length/\∃b,ρ[nm]? = some (.bool b))
def nput (ρ:List Value) (nm:Nat) (v:Value):List Value:=if nm<ρ.length then ρ.set nm v else ρ++[v]
theorem qh0 {s:St} {ρ:List Value} {nm:Nat} (hl:ρ.length=s.mem.length) (hf:Free s ρ nm) (v:Value):(nput ρ nm v)[nm]? = some v:=by
 unfold nput
 split
 ·grind
 ·rename_i h
  rcases hf with rfl | ⟨h2,_⟩
  all_goals grind
theorem qx5 {s:St} {ρ:List Value} {nm g:Nat} (hl:ρ.length=s.mem.length) (hf:Free s ρ nm) (v:Value) (hg:g≠nm):(nput ρ nm v)[g]? = ρ[g]?:=by
 unfold nput
 split
 ·grind
 ·rename_i h
  rcases hf with rfl | ⟨h2,_⟩
  all_goals grind
theorem w0e {s:St} {ρ:List Value} {nm g:Nat} {u:Value} (hl:ρ.length=s.mem.length) (hf:Free s ρ nm) (v:Value) (hu:ρ[g]? = some u) (hp:q8n u=false):(nput ρ nm v)[g]? = some u:=by
 rw[qx5 hl hf v (λe=>?_)]
 ·omega
 ·subst e
  rcases hf with rfl | ⟨_,b,h2⟩
  ·grind
  ·rw[hu] at h2; obtain rfl:=zaa h2; cases hp
theorem Free.le {s:St} {ρ:List Value} {nm:Nat} (hf:Free s ρ nm):nm<=s.mem.length:=by
 rcases hf with rfl | ⟨h,_⟩ <;> omega
theorem qx6 (m:List AObj) (g:Nat) (o:AObj) (i:Nat) (h:g<=m.length):qa1 (qc7 m g o) i=if i=g then o else qa1 m i:=by
 rcases zav g m.length with h' | h'
 ·grind [qd1]
 ·obtain rfl:g=m.length:=ow
  rw[q36,qx4]
theorem wu0 {s:St} {ρ:List Value} {nm:Nat} (hl:ρ.length=s.mem.length) (hf:Free s ρ nm) (v:Value) (o:AObj):(nput ρ nm v).length=(qc7 s.mem nm o).length:=by
 unfold nput
 rcases zav nm s.mem.length with h | h
 ·simp_all [if_pos,qc9,List.length_set]
 ·have h':=hf.le
  obtain rfl:nm=s.mem.length:=ow
  simp_all [if_neg,q36]
theorem xg1 {ρ:List Value} {nm:Nat} {v u:Value} (h:u∈nput ρ nm v):u∈ρ\/u=v:=by
 grind [nput,List.mem_or_eq_of_mem_set]
def Loose (w0:Base) (s:St) (ρ:List Value) (w:World) (b:Nat):Prop:=w0.n<=b/\b<w.heap.size/\¬w0.F b/\∀g u,(qa1 s.mem g).live=true->ρ[g]? = some u->Blk u b->False
theorem Rel.addObjG {P:Program} {w0:Base} {m0:View} {s:St} {m:View} {ρ:List Value} {a:Act} {w:World} {nm:Nat} (h:Rel P w0 m0 s m ρ a w) (hf:Free s ρ nm) {o:AObj} {v:Value}
  (ho:ObjOk P m (nput ρ nm v) w w0.n nm o) (hv:∀b,Blk v b->¬w0.F b/\∀g u,(qa1 s.mem g).live=true->ρ[g]? = some u->Blk u b->False) (h1:v.oneCell'=true):Rel P w0 m0 (qr2 s nm (.new o)) m (nput ρ nm v) a w:=by
 have hρ:∀(g:Nat) (u:Value),ρ[g]? = some u->q8n u=false->(nput ρ nm v)[g]? = some u:=λg u hg hp=>w0e h.len hf v hg hp
 simp only[qr2]
 refine⟨λi=>AV.ok_le (View.le_refl m) hρ (h.slots i),wu0 h.len hf v o,λu hu=>by rcases xg1 hu with hu | rfl; exact h.hdr u hu; omega,h.defers,λg=>?_,?_,h.view,h.ext,h.new,h.below,λg u b hl hu hb=>?_,λg p hp hv=>hρ _ _ (h.pins g p hp hv) (w6e hv)⟩
 ·rw[qx6 _ _ _ _ hf.le]
  split
  ·grind
  ·cases hl:(qa1 s.mem g).live with
   | false=>cases hg:qa1 s.mem g <;> rw[hg] at hl <;> first | trivial | cases hl
   | true=>
    refine(h.objs g).grow (View.le_refl m) hρ (λu b hu hbu=>⟨rfl,?_⟩)
    obtain⟨v',k1,k2⟩:=(h.objs g).blk_lt hl
    grind
 ·intro g g' u u' b hne hl hl' hu hu' hb1 hb2
  simp only[qx6 _ _ _ _ hf.le] at hl hl'
  by_cases e1:g=nm
  ·subst e1
   have e2:g'≠g:=λe=>hne e.symm
   rw[zai e2] at hl'
   rw[qh0 h.len hf] at hu
   obtain rfl:=zaa hu
   rw[qx5 h.len hf v e2] at hu'
   grind
  ·rw[zai e1] at hl
   by_cases e2:g'=nm
   ·subst e2
    rw[qh0 h.len hf] at hu'
    obtain rfl:=zaa hu'
    rw[qx5 h.len hf v e1] at hu
    grind
   ·rw[zai e2] at hl'
    rw[qx5 h.len hf v e1] at hu
    rw[qx5 h.len hf v e2] at hu'
    exact h.apart g g' u u' b hne hl hl' hu hu' hb1 hb2
 ·rw[qx6 _ _ _ _ hf.le] at hl
  by_cases e:g=nm
  ·subst e
   rw[qh0 h.len hf] at hu
   grind
  ·rw[zai e] at hl
   rw[qx5 h.len hf v e] at hu
   exact h.zone g u b hl hu hb
theorem Rel.addObj {P:Program} {w0:Base} {m0:View} {s:St} {m:View} {ρ:List Value} {a:Act} {w:World} {nm:Nat} (h:Rel P w0 m0 s m ρ a w) (hf:Free s ρ nm) {o:AObj} {v:Value} {B:Nat}
  (hB:∀g v b,(qa1 s.mem g).live=true->ρ[g]? = some v->Blk v b->b<B) (hz:∀b,B<=b->¬w0.F b)
  (ho:ObjOk P m (nput ρ nm v) w w0.n nm o) (hv:∀b,Blk v b->B<=b) (h1:v.oneCell'=true):Rel P w0 m0 (qr2 s nm (.new o)) m (nput ρ nm v) a w:=
 h.addObjG hf ho (λb hb=>⟨hz b (hv b hb),λg u hl hu hbu=>by grind⟩) h1
end Eng
set_option linter.unusedVariables false
set_option linter.unusedSimpArgs false
namespace Eng
open Go Go.RowKit
theorem qd6 {m:List AObj} {g:Nat} (h:(qa1 m g).live=true):g<m.length:=by
 rcases zav g m.length with k | k
 ·exact k
 ·rw[q0h _ _ k] at h; cases h
theorem qv8 {P:Program} {m:View} {ρ:List Value} {w:World} {B g:Nat} {o:AObj} (h:o.live=false):ObjOk P m ρ w B g o:=by
 cases o <;> first | trivial | cases h
theorem qg7 {v:Value} {b:Nat} (h:v.ownBlock=some b):Blk v b:=by
 cases v <;> simp_all [Value.ownBlock,Blk,blk]
 grind
theorem qe9 {v:Value} {b:Nat} (h:v.ownBlock=some b):blk v=some b:=by
 cases v <;> simp_all [Value.ownBlock,blk]
 grind
theorem Rel.updG {P:Program} {w0:Base} {m0:View} {s:St} {m m':View} {ρ:List Value} {a:Act} {w w':World} (h:Rel P w0 m0 s m ρ a w) {g:Nat} {o:AObj} {v:Value} {nm:Nat} (hl:(qa1 s.mem g).live=true)
  (hv:ρ[g]? = some v) (hg:Kept (Blk v) w w') (hm:m.le m') (hon:m'.on w') (hnew:∀b ob,m' b=some ob->m b=some ob\/w.heap.size<=b) (ho:ObjOk P m' ρ w' w0.n g o):Rel P w0 m0 (qr2 s nm (.upd g o false)) m' ρ a w':=by
 have hlt:=qd6 hl
 obtain⟨v',k1,k2⟩:=(h.objs g).blk_lt hl
 rw[hv] at k1; obtain rfl:=zaa k1
 have hbel:w0.ok w':=h.below.kept2 hg (λk hk=>h.zone g v k hl hv hk)
 have hmk:Marks w0 w' a.defers:=h.defers.kept hg (λr hr=>by obtain⟨u,q1,q2⟩:=(h.objs g).blk_cells hl; grind)
 refine⟨λi=>AV.ok_le hm (λ_ _ h _=>h) (h.slots i),by simp[qr2,qc9 _ _ _ hlt,h.len],h.hdr,hmk,λg'=>?_,?_,hon,View.le_trans h.ext hm,λb ob hb=>?_,hbel,?_,h.pins⟩
 ·simp only[qr2]
  rw[qd1 _ _ _ _ hlt]
  split
  ·grind
  ·rename_i hne
   cases hl':(qa1 s.mem g').live with
   | false=>exact qv8 hl'
   | true=>
    refine(h.objs g').grow hm (λ_ _ h _=>h) (λu b hu hb=>?_)
    obtain⟨u',j1,j2⟩:=(h.objs g').blk_lt hl'
    rw[hu] at j1; obtain rfl:=zaa j1
    obtain⟨_,j3,j4⟩:=j2 b hb
    refine⟨hg.block b ⟨j3,λe=>h.apart g' g u v b hne hl' hl hu hv hb e⟩,?_⟩
    cases hm':m' b with
    | none=>rfl
    | some ob=>
     grind
 ·intro g1 g2 u u' b hne hl1 hl2 hu hu' hb1 hb2
  have lv:∀x,(qa1 (qr2 s nm (.upd g o false)).mem x).live=true->(qa1 s.mem x).live=true:=by
   grind [qr2,qd1]
  exact h.apart g1 g2 u u' b hne (lv _ hl1) (lv _ hl2) hu hu' hb1 hb2
 ·rcases hnew b ob hb with h9 | h9
  ·exact h.new b ob h9
  ·exact .inr ⟨zah h.below.size h9,h.below.new h9⟩
 ·intro x u b hx hu hb
  refine h.zone x u b ?_ hu hb
  grind [qr2,qd1]
theorem Rel.upd {P:Program} {w0:Base} {m0:View} {s:St} {m:View} {ρ:List Value} {a:Act} {w w':World} (h:Rel P w0 m0 s m ρ a w) {g:Nat} {o:AObj} {v:Value} {nm:Nat} (hl:(qa1 s.mem g).live=true)
  (hv:ρ[g]? = some v) {row:Option Nat} (hg:w.grownBy w' row) (hrow:∀r,row=some r->Blk v r) (ho:ObjOk P m ρ w' w0.n g o):Rel P w0 m0 (qr2 s nm (.upd g o false)) m ρ a w':=by
 obtain⟨v',k1,k2⟩:=(h.objs g).blk_lt hl
 rw[hv] at k1; obtain rfl:=zaa k1
 refine h.updG hl hv (qr8 hg hrow) (View.le_refl m) (λb o hb=>?_) (λb ob hb=>.inl hb) ho
 rw[hg.block b (View.lt h.view hb) (λe=>by grind)]
 exact h.view b o hb
theorem w0f {P:Program} {m m':View} {ρ ρ':List Value} {g:Nat} {d:AV} (hm:m.le m') (hd:∀v,ρ[g]? = some v->w53 v=true->d.ok P m' ρ' [v]) (hp:∀hs v,ρ[g]? = some (qf7 hs)->hs[0]? = some v->w53 v=true->d.ok P m' ρ' [v])
  (hρ:∀(h:Nat) (v:Value),h≠g->ρ[h]? = some v->ρ'[h]? = some v) (hbox:∀b,ρ[g]?≠some (.pointer b)):∀{av:AV} {vs:List Value},av.ok P m ρ vs->(AV.subst g d av).ok P m' ρ' vs:=by
 intro av
 induction av with
 | any=>intro vs k; exact k
 | lit v=>intro vs k; exact k
 | tt=>intro vs k; exact k
 | ff=>intro vs k; exact k
 | dat t l=>intro vs k; exact Rd.le hm k
 | ndat c t l=>intro vs k; exact⟨Rd.le hm k.1,k.2⟩
 | own h=>
  intro vs k
  obtain⟨v,k1,k2⟩:=k
  simp only[AV.subst]
  split
  ·simp_all
  ·rename_i e; exact⟨v,⟨hρ _ _ (λe'=>by simp_all) k1.1,k1.2⟩,k2⟩
 | box h off=>
  intro vs k
  obtain⟨b,k1,k2⟩:=k
  exact⟨b,hρ _ _ (λe'=>by grind) k1,k2⟩
 | dptr t l i off=>intro vs k; obtain⟨h0,ad,cs,k1,k2,k3⟩:=k; exact⟨h0,ad,cs,k1,Rd.le hm k2,λj v hj=>View.cell_le hm (k3 j v hj)⟩
 | optr h t i off=>
  intro vs k
  obtain⟨b,n,c,k1,k2⟩:=k
  simp only[AV.subst]
  split
  ·exact⟨_,k2⟩
  ·rename_i e; exact⟨b,n,c,hρ _ _ (λe'=>by simp_all) k1,k2⟩
 | msl h j=>
  intro vs k
  obtain⟨hs,v,k1,k2,k3⟩:=k
  simp only[AV.subst]
  split
  ·rename_i e
   have e:=zab e
   subst e
   cases j with
   | none=>rw[k3]; exact hp hs v k1 k2.1 k2.2
   | some j=>exact⟨_,k3⟩
  ·rename_i e; exact⟨hs,v,hρ _ _ (λe'=>by simp_all) k1,k2,k3⟩
 | mptr h j t i off=>
  intro vs k
  obtain⟨hs,b,n,c,k1,k2,k3⟩:=k
  simp only[AV.subst]
  split
  ·exact⟨_,k3⟩
  ·rename_i e; exact⟨hs,b,n,c,hρ _ _ (λe'=>by simp_all) k1,k2,k3⟩
 | msub h x y=>
  intro vs k
  obtain⟨hs,A,n,c,k1,k2,k3,k4⟩:=k
  simp only[AV.subst]
  split
  ·exact⟨_,k4⟩
  ·rename_i e; exact⟨hs,A,n,c,hρ _ _ (λe'=>by simp_all) k1,k2,k3,k4⟩
 | imm cs off ih=>intro vs k; obtain⟨ad,us,k1,k2,k3⟩:=k; exact⟨ad,us,k1,ih k2,λj v hj=>View.cell_le hm (k3 j v hj)⟩
 | fn a r p f=>intro vs k; obtain⟨fv,k1,k2⟩:=k; exact⟨fv,k1,k2.le hm.cle⟩
 | clo f caps ih=>intro vs k; obtain⟨cs,k1,k2⟩:=k; exact⟨cs,k1,ih k2⟩
 | agg l ih=>intro vs k; obtain⟨cs,k1,k2⟩:=k; exact⟨cs,k1,ih k2⟩
 | tup l ih=>intro vs k; obtain⟨cs,k1,k2⟩:=k; exact⟨cs,k1,ih k2⟩
 | nil=>intro vs k; exact k
 | cons a b iha ihb=>intro vs k; obtain⟨v,rest,k1,k2,k3⟩:=k; exact⟨v,rest,k1,iha k2,ihb k3⟩
theorem x0b {v:Value} (h:w5z v=false):∀b,v≠.pointer b:=λb e=>by subst e; cases h
theorem Rel.turnG {P:Program} {w0:Base} {m0:View} {s:St} {m m':View} {ρ ρ':List Value} {a:Act} {w w':World} (h:Rel P w0 m0 s m ρ a w) {g:Nat} {o:AObj} {v:Value} {d:AV}
  (hl:(qa1 s.mem g).live=true) (hv:ρ[g]? = some v) (hpv:w5z v=false) (hg:Kept (Blk v) w w') (hm:m.le m') (hlen:ρ'.length=ρ.length)
  (hρ:∀(h:Nat) (v:Value),h≠g->ρ[h]? = some v->ρ'[h]? = some v) (hρ':∀(h:Nat) (v:Value),h≠g->ρ'[h]? = some v->ρ[h]? = some v) (hd:w53 v=true->d.ok P m' ρ' [v]) (hp:∀hs u,v=qf7 hs->hs[0]? = some u->w53 u=true->d.ok P m' ρ' [u])
  (hnew:∀b ob,m' b=some ob->m b=some ob\/Blk v b\/w.heap.size<=b) (hon:m'.on w')
  (hhdr:∀v∈ρ',v.oneCell'=true) (hobj:ObjOk P m' ρ' w' w0.n g o) (hblk:o.live=true->∀v' b,ρ'[g]? = some v'->Blk v' b->Blk v b\/w.heap.size<=b\/Loose w0 s ρ w b) :
  Rel P w0 m0 ⟨qg8 g d s.ov,λi=>AV.subst g d (s.base i),qc7 (qb7 g d s.mem) g o⟩ m' ρ' a w':=by
 have hlt:=qd6 hl
 have hlt':g<(qb7 g d s.mem).length:=by grind [qa9]
 obtain⟨v',k1,k2⟩:=(h.objs g).blk_lt hl
 rw[hv] at k1; obtain rfl:=zaa k1
 have hsub:∀{av:AV} {vs:List Value},av.ok P m ρ vs->(AV.subst g d av).ok P m' ρ' vs:=
  w0f hm (λu hu=>by grind) (λhs u hu=>by grind) hρ (λb hb=>x0b hpv b (by grind))
 have hbel:w0.ok w':=h.below.kept2 hg (λk hk=>h.zone g v k hl hv hk)
 have hmk:Marks w0 w' a.defers:=h.defers.kept hg (λr hr=>by obtain⟨u,q1,q2⟩:=(h.objs g).blk_cells hl; grind)
 -- the other objects
 have hoth:∀g',g'≠g->ObjOk P m' ρ' w' w0.n g' (qo2 g d (qa1 s.mem g')):=by
  intro g' hne
  have hk:=h.objs g'
  have tk:∀{o':AObj},qa1 s.mem g'=o'->o'.live=true->∀u b,ρ[g']? = some u->Blk u b->w'.heap[b]? = w.heap[b]?/\m' b=none:=by
   intro o' e hlo u b hu hb
   have hl':(qa1 s.mem g').live=true:=by grind
   have hnb:¬Blk v b:=λhh=>h.apart g' g u v b hne hl' hl hu hv hb hh
   obtain⟨u',j1,j2⟩:=(h.objs g').blk_lt hl'
   rw[hu] at j1; obtain rfl:=zaa j1
   obtain⟨_,j3,j4⟩:=j2 b hb
   refine⟨hg.block b ⟨j3,hnb⟩,?_⟩
   cases hm':m' b with
   | none=>rfl
   | some ob=>
    grind
  cases hmg:qa1 s.mem g' with
  | dead=>trivial
  | box ty cs=>
   have tk:=tk hmg rfl
   rw[hmg] at hk
   obtain⟨b,vs,h1,h2,h3,h4,h5,h6⟩:=hk
   exact⟨b,vs,hρ _ _ hne h1,h2,(tk _ b h1 rfl).1.trans h3,hsub h4,h5,(tk _ b h1 rfl).2⟩
  | vec e' t' l'=>
   have tk:=tk hmg rfl
   rw[hmg] at hk
   have k:ObjOk P m' ρ w' w0.n g' (.vec e' t' l'):=ObjOk.grow (ρ':=ρ) hk hm (λ_ _ h _=>h) tk
   obtain⟨u,us,q1,q2,q3,q4⟩:=k
   exact⟨u,us,hρ _ _ hne q1,q2,q3,q4⟩
  | cnt k=>rw[hmg] at hk; exact hρ _ _ hne hk
  | bld T e q=>
   have tk:=tk hmg rfl
   rw[hmg] at hk
   obtain⟨b,v,h1,h2⟩:=hk
   exact⟨b,v,hρ _ _ hne h1,h2.grow λx hx=>tk _ x h1 hx⟩
  | sit q p=>
   have tk:=tk hmg rfl
   rw[hmg] at hk
   obtain⟨b,h1,h2,h3,h4⟩:=hk
   exact⟨b,hρ _ _ hne h1,h2,(tk _ b h1 rfl).1.trans h3,(tk _ b h1 rfl).2⟩
  | mp t' l'=>
   have tk:=tk hmg rfl
   rw[hmg] at hk
   obtain⟨b,es,cl,h1,h2,h3,h4,h5⟩:=hk
   exact⟨b,es,cl,hρ _ _ hne h1,h2,(tk _ b h1 rfl).1.trans h3,h4,(tk _ b h1 rfl).2⟩
  | mat eh e t rows ix lt=>
   have tk:=tk hmg rfl
   rw[hmg] at hk
   have k:ObjOk P m' ρ w' w0.n g' (.mat eh e t rows ix lt):=ObjOk.grow (ρ':=ρ) hk hm (λ_ _ h _=>h) tk
   obtain⟨hs,q1,q2⟩:=k
   exact⟨hs,hρ _ _ hne q1,q2⟩
 refine⟨λi=>?_,?_,hhdr,hmk,λg'=>?_,?_,hon,View.le_trans h.ext hm,λb ob hb=>?_,hbel,?_,λx p hp hpv'=>hρ _ _ (λe=>by subst e; rw[h.pins x p hp hpv'] at hv; grind) (h.pins x p hp hpv')⟩
 ·show(look (qg8 g d s.ov) i (AV.subst g d (s.base i))).ok P m' ρ' _
  rw[qi7]
  exact hsub (h.slots i)
 ·show ρ'.length=(qc7 (qb7 g d s.mem) g o).length
  rw[qc9 _ _ _ hlt',qa9,hlen,h.len]
 ·grind [ObjOk,qa1,qc7,qb7,qd1,qe7]
 ·have lv:∀x,x≠g->(qa1 (qc7 (qb7 g d s.mem) g o) x).live=true->(qa1 s.mem x).live=true:=by
   intro x hne hx
   rw[qd1 _ _ _ _ hlt',qe7,zai hne] at hx
   cases hq:qa1 s.mem x <;> rw[hq] at hx <;> first | rfl | exact hx
  have lo:(qa1 (qc7 (qb7 g d s.mem) g o) g).live=true->o.live=true:=by
   intro hx; rw[qd1 _ _ _ _ hlt',zap rfl] at hx; omega
  have one:∀x u u' b,x≠g->o.live=true->ρ'[g]? = some u->Blk u b->(qa1 s.mem x).live=true->ρ[x]? = some u'->Blk u' b->False:=by
   intro x u u' b hne hol hu hb hlx hux hbx
   rcases hblk hol u b hu hb with h8 | h8 | h8
   ·exact h.apart g x v u' b (zc9 hne) hl hlx hv hux h8 hbx
   ·obtain⟨y,j1,j2⟩:=(h.objs x).blk_lt hlx
    grind
   ·exact h8.2.2.2 x u' hlx hux hbx
  intro g1 g2 u u' b hne hl1 hl2 hu hu' hb1 hb2
  by_cases e1:g1=g
  ·grind
  ·by_cases e2:g2=g
   ·grind
   ·exact h.apart g1 g2 u u' b hne (lv g1 e1 hl1) (lv g2 e2 hl2) (hρ' g1 u e1 hu) (hρ' g2 u' e2 hu') hb1 hb2
 ·rcases hnew b ob hb with h9 | h9 | h9
  ·exact h.new b ob h9
  ·exact .inr ⟨(k2 b h9).1,h.zone g v b hl hv h9⟩
  ·exact .inr ⟨zah h.below.size h9,h.below.new h9⟩
 ·intro x u b hx hu hb
  by_cases e:x=g
  ·subst e
   have hx:(qa1 (qc7 (qb7 x d s.mem) x o) x).live=true:=hx
   rw[qd1 _ _ _ _ hlt',zap rfl] at hx
   rcases hblk hx u b hu hb with h8 | h8 | h8
   ·exact h.zone x v b hl hv h8
   ·exact h.below.new h8
   ·exact h8.2.2.1
  ·have hx:(qa1 (qc7 (qb7 g d s.mem) g o) x).live=true:=hx
   rw[qd1 _ _ _ _ hlt',qe7,zai e] at hx
   refine h.zone x u b ?_ (hρ' x u e hu) hb
   cases hq:qa1 s.mem x <;> rw[hq] at hx <;> first | rfl | exact hx
theorem Rel.turn {P:Program} {w0:Base} {m0:View} {s:St} {m m':View} {ρ ρ':List Value} {a:Act} {w w':World} (h:Rel P w0 m0 s m ρ a w) {g:Nat} {e:Nat} {t:Ty} {l:List t.den} {o:AObj} {v:Value} {d:AV}
  (ho:qa1 s.mem g=.vec e t l) (hv:ρ[g]? = some v) (hg:w.grownBy w' v.ownBlock) (hm:m.le m') (hlen:ρ'.length=ρ.length)
  (hρ:∀(h:Nat) (v:Value),h≠g->ρ[h]? = some v->ρ'[h]? = some v) (hρ':∀(h:Nat) (v:Value),h≠g->ρ'[h]? = some v->ρ[h]? = some v) (hd:d.ok P m' ρ' [v])
  (hnew:∀b ob,m' b=some ob->m b=some ob\/v.ownBlock=some b) (hon:m'.on w')
  (hhdr:∀v∈ρ',v.oneCell'=true) (hobj:ObjOk P m' ρ' w' w0.n g o) (hblk:o.live=true->∀v' b,ρ'[g]? = some v'->Blk v' b->v.ownBlock=some b\/w.heap.size<=b) :
  Rel P w0 m0 ⟨qg8 g d s.ov,λi=>AV.subst g d (s.base i),qc7 (qb7 g d s.mem) g o⟩ m' ρ' a w':=by
 have hk:=h.objs g
 rw[ho] at hk
 obtain⟨u,us,q1,_,q3,_⟩:=hk
 rw[hv] at q1; obtain rfl:=zaa q1
 have hpv:w5z v=false:=by rcases q3.2 with⟨rfl,_⟩ | ⟨g',cap,cur,rfl,_⟩ <;> rfl
 refine h.turnG (by rw[ho]; rfl) hv hpv (qr8 hg λr hr=>qg7 hr) hm hlen hρ hρ' (λ_=>hd) (λhs x e=>by subst e; rcases q3.2 with⟨e,_⟩ | ⟨_,_,_,e,_⟩ <;> cases e) (λb ob hb=>(hnew b ob hb).imp id λe=>.inl (qg7 e)) hon hhdr hobj λhl v' b h1 h2=>?_
 grind [qg7]
theorem qm2 {m:View} {w:World} {B e:Nat} {t:Ty} {l:List t.den} {v:Value} {vs:List Value} (h:w.ownsRow B e t.size v l.length vs) (hr:RdL m t l vs) (hk:∀b,v.ownBlock=some b->m b=w.heap[b]?):Rd m (.list t) l [v]:=by
 rcases h.2 with⟨rfl,h0⟩ | ⟨g,cap,cur,rfl,hB,hg,h1,h2,h3,h4⟩
 ·refine⟨none,0,by rw[h0],ow,by simp,λhl=>by omega⟩
 ·refine⟨some ⟨g,0,none⟩,cap,rfl,h1,h2,λhl=>⟨_,rfl,λi hi=>?_⟩⟩
  obtain⟨cs,k1,k2⟩:=hr.at_ i hi
  refine⟨cs,k1,λj u hj=>?_⟩
  have hjs:j<t.size:=by grind [Rd.length,List.getElem?_eq_some_iff]
  have hadd:(⟨g,0,none⟩:Addr).add (i*t.size+j)=⟨g,i*t.size+j,none⟩:=by grind [Addr.add]
  have hlt:i*t.size+j<l.length*t.size:=by
   grind
  rw[hadd,View.cell,show m g=some (.cells cur e (0,0)) from(hk g rfl).trans hg]
  grind
theorem Rel.freeze {P:Program} {w0:Base} {m0:View} {s:St} {m:View} {ρ:List Value} {a:Act} {w:World} (h:Rel P w0 m0 s m ρ a w) {g e:Nat} {t:Ty} {l:List t.den} {nm:Nat} (ho:qa1 s.mem g=.vec e t l) :
  ∃m',m.le m'/\Rel P w0 m0 (qr2 s nm (.freeze g t l)) m' ρ a w/\∀v,ρ[g]? = some v->Rd m' (.list t) l [v]:=by
 have hk:=h.objs g
 rw[ho] at hk
 obtain⟨v,vs,h1,h2,h3,h4⟩:=hk
 let m':View:=λb=>if v.ownBlock=some b then w.heap[b]? else m b
 have hm:m.le m':=λb o hb=>by
  grind
 have hd:Rd m' (.list t) l [v]:=qm2 h3 (RdL.le hm h2) (λb hb=>by grind)
 refine⟨m',hm,?_,λu hu=>by grind⟩
 refine h.turn ho h1 ⟨rfl,rfl,rfl,zad _,λ_ _ _=>rfl⟩ hm rfl (λ_ _ _ h=>h) (λ_ _ _ h=>h) hd (λb ob hb=>?_) (λb ob hb=>?_) h.hdr trivial (λhl=>by cases hl)
 ·grind
 ·change(if v.ownBlock=some b then w.heap[b]? else m b)=some ob at hb
  split at hb
  ·omega
  ·exact h.view b ob hb
theorem Rel.forget {P:Program} {w0:Base} {m0:View} {s:St} {m:View} {ρ:List Value} {a:Act} {w:World} (h:Rel P w0 m0 s m ρ a w) {g:Nat} {v:Value} (hl:(qa1 s.mem g).live=true) (hv:ρ[g]? = some v) (hpv:w5z v=false) :
  Rel P w0 m0 ⟨qg8 g .any s.ov,λi=>AV.subst g .any (s.base i),qc7 (qb7 g .any s.mem) g .dead⟩ m ρ a w/\∀b,Blk v b->Loose w0 ⟨qg8 g .any s.ov,λi=>AV.subst g .any (s.base i),qc7 (qb7 g .any s.mem) g .dead⟩ ρ w b/\m b=none:=by
 refine⟨h.turnG hl hv hpv (Same.refl _ _) (View.le_refl m) rfl (λ_ _ _ h=>h) (λ_ _ _ h=>h) (λ_=>⟨_,rfl⟩) (λ_ _ _ _ _=>⟨_,rfl⟩) (λ_ _ hb=>.inl hb) h.view h.hdr trivial (λhl=>by grind),λb hb=>?_⟩
 obtain⟨v',k1,k2⟩:=(h.objs g).blk_lt hl
 rw[hv] at k1; obtain rfl:=zaa k1
 obtain⟨j1,j2,j3⟩:=k2 b hb
 refine⟨⟨j1,j2,h.zone g v b hl hv hb,λg' u hl' hu hbu=>?_⟩,j3⟩
 have hlt:=qd6 hl
 have hl':(qa1 (qc7 (qb7 g .any s.mem) g .dead) g').live=true:=hl'
 rw[qd1 _ _ _ _ (by grind [qa9]),qe7] at hl'
 split at hl'
 ·cases hl'
 ·rename_i hne
  refine h.apart g' g u v b hne ?_ hl hu hv hbu hb
  cases hq:qa1 s.mem g' <;> rw[hq] at hl' <;> first | rfl | exact hl'
end Eng
set_option linter.unusedVariables false
set_option linter.unusedSimpArgs false
namespace Eng
open Go Go.RowKit
def Eq2 (P:Program) (t:TypeId):Prop:=∀(j1 j2:IntKind) (a b c d:Int) (op:BinOp) (X Y:Operand) (w:World),(eqGuard op t X Y (.agg #[.int j1 a,.int j2 b]) (.agg #[.int j1 c,.int j2 d])).run P w=.ok () w/\(Op.equal t (.agg #[.int j1 a,.int j2 b]) (.agg #[.int j1 c,.int j2 d])).run P w=.ok (a==c && b==d) w
theorem q00 {P : Program} {t : TypeId} {f1 f2 : Field} {k1 k2 : IntKind} (hu : P.underlying t = some (.struct #[f1, f2])) (n1 : f1.name ≠ "_") (n2 : f2.name ≠ "_") (o1 : f1.offset = 0) (o2 : f2.offset = 1) (u1 : P.underlying f1.type = some (.int k1)) (u2 : P.underlying f2.type = some (.int k2)) (hs : P.stoodInHeld t = false) (hg : P.eqGuardType P.depth t = false) : Eq2 P t := by
 intro j1 j2 a b c d op X Y w
 constructor
 ·simp_all [eqGuard]
 ·have e:Op.maxDepth=9999+1:=rfl
  unfold Op.equal
  have hfs:P.fieldsOf t=#[f1,f2]:=by grind [Program.fieldsOf]
  rw[e,run_equalIn_struct w 9999 t _ _ (by grind) hs,hfs]
  have p1:∀x y:Int,(part f1.type #[.int j1 x,.int j2 y] 0).run P w=.ok (.int j1 x) w:=λx y=>by simp_all [part,isAgg,run_underlying]
  have p2:∀x y:Int,(part f2.type #[.int j1 x,.int j2 y] 1).run P w=.ok (.int j2 y) w:=λx y=>by simp_all [part,isAgg,run_underlying]
  have q1:∀x y:Int,(Op.equalIn 9999 f1.type (.int j1 x) (.int j1 y)).run P w=.ok (x==y) w:=λx y=>run_equalIn_int w 9998 f1.type j1 k1 x y u1
  have q2:∀x y:Int,(Op.equalIn 9999 f2.type (.int j2 x) (.int j2 y)).run P w=.ok (x==y) w:=λx y=>run_equalIn_int w 9998 f2.type j2 k2 x y u2
  simp only[Op.eqFields,o1,o2,n1,n2,ne_eq,not_false_eq_true,if_true,Sem.run_bind,p1,p2,q1,q2,Result.andThen_ok]
  by_cases h1:a=c <;> by_cases h2:b=d <;> simp[h1,h2,p2,q2,Op.eqFields,Op.eqItems,o1,o2,n1,n2]
def Eq3 (P:Program) (t:TypeId):Prop:=∀(j1 j2 j3:IntKind) (a b e c d f:Int) (op:BinOp) (X Y:Operand) (w:World),(eqGuard op t X Y (.agg #[.int j1 a,.int j2 b,.int j3 e]) (.agg #[.int j1 c,.int j2 d,.int j3 f])).run P w=.ok () w/\(Op.equal t (.agg #[.int j1 a,.int j2 b,.int j3 e]) (.agg #[.int j1 c,.int j2 d,.int j3 f])).run P w=.ok (a==c && (b==d && e==f)) w
theorem w3h {P : Program} {t : TypeId} {f1 f2 f3 : Field} {k1 k2 k3 : IntKind} (hu : P.underlying t = some (.struct #[f1, f2, f3])) (n1 : f1.name ≠ "_") (n2 : f2.name ≠ "_") (n3 : f3.name ≠ "_") (o1 : f1.offset = 0) (o2 : f2.offset = 1) (o3 : f3.offset = 2) (u1 : P.underlying f1.type = some (.int k1)) (u2 : P.underlying f2.type = some (.int k2)) (u3 : P.underlying f3.type = some (.int k3)) (hs : P.stoodInHeld t = false) (hg : P.eqGuardType P.depth t = false) : Eq3 P t := by
 intro j1 j2 j3 a b x c d y op X Y w
 constructor
 ·simp_all [eqGuard]
 ·have e:Op.maxDepth=9999+1:=rfl
  unfold Op.equal
  have hfs:P.fieldsOf t=#[f1,f2,f3]:=by grind [Program.fieldsOf]
  rw[e,run_equalIn_struct w 9999 t _ _ (by grind) hs,hfs]
  have p1:∀x y z:Int,(part f1.type #[.int j1 x,.int j2 y,.int j3 z] 0).run P w=.ok (.int j1 x) w:=λx y z=>by simp_all [part,isAgg,run_underlying]
  have p2:∀x y z:Int,(part f2.type #[.int j1 x,.int j2 y,.int j3 z] 1).run P w=.ok (.int j2 y) w:=λx y z=>by simp_all [part,isAgg,run_underlying]
  have p3:∀x y z:Int,(part f3.type #[.int j1 x,.int j2 y,.int j3 z] 2).run P w=.ok (.int j3 z) w:=λx y z=>by simp_all [part,isAgg,run_underlying]
  have q1:∀x y:Int,(Op.equalIn 9999 f1.type (.int j1 x) (.int j1 y)).run P w=.ok (x==y) w:=λx y=>run_equalIn_int w 9998 f1.type j1 k1 x y u1
  have q2:∀x y:Int,(Op.equalIn 9999 f2.type (.int j2 x) (.int j2 y)).run P w=.ok (x==y) w:=λx y=>run_equalIn_int w 9998 f2.type j2 k2 x y u2
  have q3:∀x y:Int,(Op.equalIn 9999 f3.type (.int j3 x) (.int j3 y)).run P w=.ok (x==y) w:=λx y=>run_equalIn_int w 9998 f3.type j3 k3 x y u3
  simp only[Op.eqFields,o1,o2,o3,n1,n2,n3,ne_eq,not_false_eq_true,if_true,Sem.run_bind,p1,p2,p3,q1,q2,q3,Result.andThen_ok]
  by_cases h1:a=c <;> by_cases h2:b=d <;> by_cases h3:x=y <;> simp[h1,h2,h3,p2,q2,p3,q3,Op.eqFields,Op.eqItems,o1,o2,o3,n1,n2,n3]
structure TIok (P:Program) (t:Nat) (T:TI):Prop where
 info:∃i z,P.info? t=some i/\i.size=T.size/\i.bytes=T.bytes/\i.zero=some z/\z.cells.size=T.size/\z.cells.toList.all (·.oneCell')=true/\(∀m ρ,T.zero.ok P m ρ z.cells.toList)/\(T.dflt=true->∀m,Rd m T.ty T.ty.dflt z.cells.toList)
 small:T.bytes<=1000000
 pos:T.size≠0
 little:T.size<=10000
 agg:∃d,P.underlying t=some d/\(match d with | .struct _ | .array _ _=>true | _=>false)=T.agg
 slice:T.kind=1->P.underlying t=some (.slice T.elem)
 str:T.kind=2->P.underlying t=some .string
 bool:T.kind=3->P.underlying t=some .bool
 arr:T.kind=4->∃n sz,P.underlying t=some (.array n T.elem)/\(∃j,P.info? T.elem=some j/\j.size=sz)/\sz≠0/\∀(f:Nat) (fl:Nat × Nat × Nat),T.flds[f]? = some fl->fl=(f*sz,T.elem,sz)/\f<n
 struct:T.kind=5->∃fields,P.underlying t=some (.struct fields)/\fields.toList.map (λF=>(F.offset,F.type))=T.flds.map (λf=>(f.1,f.2.1))/\∀f∈T.flds,(∃j,P.info? f.2.1=some j/\j.size=f.2.2)/\f.2.2≠0
 kind:T.kind<=5
 eq2:T.eq2=true->Eq2 P t
 eq3:T.eq3=true->Eq3 P t
 int:T.isInt=true->∃k,T.ty=.int k/\P.underlying t=some (.int k)
 one:T.isInt=true->∃j z,P.info? t=some j/\j.zero=some z/\z.cells=#[z]
 mp:T.mp=true->(∃k,P.underlying t=some (.map k T.elem)/\P.underlying k=some .string)/\∃j z,P.info? T.elem=some j/\j.zero=some z/\z.cells=#[z]
 bld:∀eb,T.bld=some eb->∃i,P.info? t=some i/\i.zero=some (.agg #[.pointer none,.slice none 0 0])
theorem withSome_iff.{u} {α:Type u} {o:Option α} {k:α->Prop}:withSome o k↔∃a,o=some a/\k a:=by
 cases o with
 | none=>simp[withSome]
 | some a=>simp[withSome]
section
variable {P : Program} {m : View} {ρ : List Value}
theorem wu1:∀{c:AV} {i:Nat} {k:AV->Prop} {vs:List Value},xf1 c i k->c.ok P m ρ vs->∃a v,k a/\vs[i]? = some v/\a.ok P m ρ [v]
 | .cons a b,0,k,vs,h,hc=>by
  obtain⟨v,rest,rfl,h1,h2⟩:=hc
  exact⟨a,v,h,rfl,h1⟩
 | .cons a b,i+1,k,vs,h,hc=>by
  obtain⟨v,rest,rfl,h1,h2⟩:=hc
  obtain⟨a',v',j1,j2,j3⟩:=wu1 (c:=b) h h2
  grind
theorem w0g:∀{c:AV} {i:Nat} {k:AV->Prop} {vs:List Value},w29 c i k->c.ok P m ρ vs->∃c',k c'/\c'.ok P m ρ (vs.drop i)/\i<=vs.length
 | c,0,k,vs,h,hc=>⟨c,by cases c <;> exact h,hc,zae _⟩
 | .cons a b,i+1,k,vs,h,hc=>by
  obtain⟨v,rest,rfl,h1,h2⟩:=hc
  obtain⟨c',j1,j2,j3⟩:=w0g (c:=b) h h2
  grind
theorem w0h:∀{c:AV} {i:Nat} {k:AV->Prop} {vs:List Value},wt7 c i k->c.ok P m ρ vs->∃c',k c'/\c'.ok P m ρ (vs.take i)/\i<=vs.length
 | c,0,k,vs,h,hc=>⟨.nil,by cases c <;> exact h,by rfl,zae _⟩
 | .cons a b,i+1,k,vs,h,hc=>by
  obtain⟨v,rest,rfl,h1,h2⟩:=hc
  obtain⟨c',j1,j2,j3⟩:=w0h (c:=b) h h2
  exact⟨_,j1,⟨v,_,by simp,h1,j2⟩,by grind⟩
theorem w6g {c:AV}:∀{i:Nat} {x:AV} {k:AV->Prop} {vs us:List Value},xf2 c i x k->c.ok P m ρ vs->x.ok P m ρ us->∃c',k c'/\c'.ok P m ρ (vs.take i++us++vs.drop (i+us.length))/\(us≠[]->i+us.length<=vs.length):=by
 induction c with
 | cons a b _ ih=>
  intro i x k vs us h hc hx
  obtain⟨u,rest,rfl,h1,h2⟩:=hc
  cases x with
  | nil=>
   obtain rfl:us=[]:=hx
   exact⟨.cons a b,by cases i <;> exact h,⟨u,rest,by simp,h1,h2⟩,λh=>absurd rfl h⟩
  | cons v r=>
   cases i with
   | zero=>
    obtain⟨u',rest',rfl,k1,k2⟩:=hx
    obtain⟨c',j1,j2,j3⟩:=ih (x:=r) h h2 k2
    refine⟨_,j1,⟨u',_,rfl,k1,?_⟩,λ_=>?_⟩
    ·simp_all
    grind
   | succ i=>
    obtain⟨c',j1,j2,j3⟩:=ih (x:=.cons v r) h h2 hx
    refine⟨_,j1,⟨u,_,rfl,h1,?_⟩,λhu=>?_⟩
    ·have e:i+1+us.length=(i+us.length)+1:=ow
     simp_all
    grind
  | _=>
   cases i with
   | zero=>exact h.elim
   | succ i=>
    obtain⟨c',j1,j2,j3⟩:=ih (i:=i) h h2 hx
    refine⟨_,j1,⟨u,_,rfl,h1,?_⟩,λhu=>?_⟩
    ·have e:i+1+us.length=(i+us.length)+1:=ow
     simp_all
    grind
 | _=>
  intro i x k vs us h hc hx
  cases x with
  | nil=>
   obtain rfl:us=[]:=hx
   exact⟨_,by cases i <;> exact h,by simp_all,λh=>absurd rfl h⟩
  | _=>cases i <;> exact h.elim
theorem q99 {c:AV}:∀{n:Nat} {us:List Value},c.lenIs n=true->c.ok P m ρ us->us.length=n:=by
 induction c with
 | nil=>intro n us h hv; obtain rfl:us=[]:=hv; cases n <;> first | rfl | cases h
 | cons a b _ ih=>
  intro n us h hv
  obtain⟨v,rest,rfl,h1,h2⟩:=hv
  cases n with
  | zero=>cases h
  | succ n=>simp[ih h h2]
 | _=>intro n us h; cases n <;> cases h
theorem xv1 {v:AV} {us:List Value} (h:v.one=true) (hv:v.ok P m ρ us) (hρ:∀v∈ρ,Value.oneCell' v=true):∃u,us=[u]/\u.oneCell'=true:=by
 cases v with
 | any=>cases h
 | tup c=>cases h
 | nil=>cases h
 | cons a b=>cases h
 | agg cs=>cases h
 | lit x=>
  obtain rfl:us=[x]:=hv
  refine⟨x,rfl,?_⟩
  cases x <;> first | rfl | cases h
 | own g=>obtain⟨x,h1,rfl⟩:=hv; grind
 | tt=>obtain rfl:us=[_]:=hv; exact⟨_,rfl,rfl⟩
 | ff=>obtain rfl:us=[_]:=hv; exact⟨_,rfl,rfl⟩
 | dat t l=>obtain⟨A,c,rfl,_⟩:=hv; exact⟨_,rfl,rfl⟩
 | ndat c t l=>obtain⟨⟨A,c,rfl,_⟩,_⟩:=hv; exact⟨_,rfl,rfl⟩
 | box g o=>obtain⟨b,_,rfl⟩:=hv; exact⟨_,rfl,rfl⟩
 | dptr t l i o=>obtain⟨_,ad,cs,rfl,_⟩:=hv; exact⟨_,rfl,rfl⟩
 | optr g t i o=>obtain⟨b,n,c,_,rfl⟩:=hv; exact⟨_,rfl,rfl⟩
 | msl g j=>obtain⟨hs,v,_,⟨_,k2⟩,rfl⟩:=hv; exact⟨v,rfl,by cases v <;> first | rfl | cases k2⟩
 | mptr g j t i o=>obtain⟨hs,b,n,c,_,_,rfl⟩:=hv; exact⟨_,rfl,rfl⟩
 | msub g x y=>obtain⟨hs,A,n,c,_,_,_,rfl⟩:=hv; exact⟨_,rfl,rfl⟩
 | imm c o=>obtain⟨ad,us,rfl,_⟩:=hv; exact⟨_,rfl,rfl⟩
 | fn a r p f=>obtain⟨fv,rfl,k,caps,rfl,_⟩:=hv; exact⟨_,rfl,rfl⟩
 | clo f c=>obtain⟨cs,rfl,_⟩:=hv; exact⟨_,rfl,rfl⟩
theorem x0c {c:AV}:∀{us:List Value},c.flat=true->c.ok P m ρ us->(∀v∈ρ,Value.oneCell' v=true)->∀u∈us,Value.oneCell' u=true:=by
 induction c with
 | nil=>intro us _ hv _ u hu; obtain rfl:us=[]:=hv; grind
 | cons a b _ ih=>
  intro us h hv hρ u hu
  obtain⟨v,rest,rfl,h1,h2⟩:=hv
  simp only[AV.flat] at h
  split at h
  ·rename_i h3
   obtain⟨x,e,hx⟩:=xv1 h3 h1 hρ
   grind
  grind
 | _=>intro us h; cases h
theorem q25 {v:AV} {k:AV->Prop} {u:Value} (h:q1x v k) (hv:v.ok P m ρ [u]) (hρ:∀v∈ρ,Value.oneCell' v=true):∃c,k c/\c.ok P m ρ u.cells.toList/\∀x∈u.cells.toList,Value.oneCell' x=true:=by
 have one:∀{u:Value},u.oneCell'=true->u.cells.toList=[u]:=by intro u h; cases u <;> simp_all [Value.oneCell',Value.cells]
 unfold q1x at h
 split at h
 ·split at h
  ·rename_i hf
   obtain⟨l,e,hl⟩:=hv
   obtain rfl:=(zac e).1
   grind [Value.cells,x0c]
  grind
 ·split at h
  ·rename_i h1
   obtain⟨x,e,hx⟩:=xv1 h1 hv hρ
   obtain rfl:=(zac e).1
   exact⟨_,h,by rw[one hx]; exact⟨u,[],rfl,hv,rfl⟩,by grind⟩
  grind
theorem w0i {c:AV} {agg:Bool} {off size:Nat} {k:AV->Prop} {vs:List Value} (h:q5n c agg off size k) (hc:c.ok P m ρ vs) :
  (agg=true/\∃r,k (.agg r)/\r.ok P m ρ ((vs.drop off).take size)/\off+size<=vs.length)\/(agg=false/\∃a v,k a/\vs[off]? = some v/\a.ok P m ρ [v]):=by
 cases agg with
 | true=>
  obtain⟨d,h1,h2,h3⟩:=w0g h hc
  obtain⟨r,k1,k2,k3⟩:=w0h h1 h2
  grind
 | false=>exact .inr ⟨rfl,wu1 h hc⟩
theorem wa0 {t:Ty} {v:AV} {k:t.den->Prop} {u:Value} (h:q94 t v k) (hv:v.ok P m ρ [u]) (hρ:∀v∈ρ,Value.oneCell' v=true):∃x,Rd m t x u.cells.toList/\k x:=by
 obtain⟨c,h1,h2,_⟩:=q25 h hv hρ
 obtain⟨x,r,us,vs,e,k1,k2,k3⟩:=qv4 h1 h2
 cases r <;> first | grind | skip
 obtain rfl:vs=[]:=k2
 grind
theorem qj2 {v:AV} {k:IntKind->Int->Prop} {u:Value} (h:asInt v k) (hv:v.ok P m ρ [u]):∃j n,u=.int j n/\k j n:=by
 unfold asInt at h
 split at h
 ·obtain rfl:=(zac (show[u]=[_] from hv)).1; grind
 grind
theorem wi8 {v:AV} {k:Bool->Prop} {u:Value} (h:asBool v k) (hv:v.ok P m ρ [u]):∃b,u=.bool b/\k b:=by
 unfold asBool at h
 split at h
 ·obtain rfl:=(zac (show[u]=[_] from hv)).1; grind
 ·obtain rfl:=(zac (show[u]=[_] from hv)).1; grind
 ·obtain rfl:=(zac (show[u]=[_] from hv)).1; grind
 grind
theorem q02 {v:AV} {x y:Unit->Prop} {u:Value} (h:q18 v x y) (hv:v.ok P m ρ [u]):∃b,u=.bool b/\(b=true->x ())/\(b=false->y ()):=by
 unfold q18 at h
 split at h
 ·obtain rfl:=(zac (show[u]=[_] from hv)).1; grind
 ·obtain rfl:=(zac (show[u]=[_] from hv)).1; grind
 ·obtain rfl:=(zac (show[u]=[_] from hv)).1; exact⟨_,rfl,h⟩
 grind
theorem qx7 {w:Bool} {j:IntKind} {n:Int} {k:AV->Prop} (h:q6h w j n k):k (.lit (.int j (j.wrap n))):=by
 cases w with
 | true=>exact h
 | false=>obtain⟨h1,h2⟩:=h; rw[show j.wrap n=n from h1]; omega
theorem qq0 {j k:IntKind} {x:Unit->Prop} (h:q1v j k x):j=k/\x ():=by
 unfold q1v at h
 grind
theorem q03 {j k:Ty} {x:Unit->Prop} (h:q5o j k x):j=k/\x ():=by
 unfold q5o at h
 grind
theorem wu3 {v:AV} {k:IntKind->Int->IntKind->Int->Prop} {us:List Value} (h:xy9 v k) (hv:v.ok P m ρ us):∃j a i b,us=[.int j a,.int i b]/\k j a i b:=by
 unfold xy9 at h
 split at h
 case h_2=>grind
 split at h
 case h_2=>grind
 split at h
 case h_2=>grind
 obtain⟨u,r,rfl,h1,u',r',rfl,h2,h3⟩:=hv
 obtain rfl:r'=[]:=h3
 obtain⟨j,a,rfl,h⟩:=qj2 h h1
 obtain⟨i,b,rfl,h⟩:=qj2 h h2
 grind
theorem w6h {v:AV} {k:IntKind->Int->IntKind->Int->IntKind->Int->Prop} {us:List Value} (h:x3e v k) (hv:v.ok P m ρ us):∃j a i b l c,us=[.int j a,.int i b,.int l c]/\k j a i b l c:=by
 unfold x3e at h
 split at h
 case h_2=>grind
 obtain⟨u,r,rfl,h1,h2⟩:=hv
 obtain⟨j,a,rfl,h⟩:=qj2 h h1
 obtain⟨i,b,l,c,rfl,h⟩:=wu3 h h2
 grind
theorem wi9 (x y:ByteArray):(x.toList==y.toList)=decide (x=y):=by
 rw[ByteArray.toList_eq,ByteArray.toList_eq]
 obtain⟨⟨x⟩⟩:=x
 obtain⟨⟨y⟩⟩:=y
 grind
theorem w6i {op:BinOp} {x y:ByteArray} {k:AV->Prop} {t:Nat} (h:w0b op x y k) (X Y:Operand) (W:World) :
  ∃v av,(do eqGuard op t X Y (.string x) (.string y); binOp op t (.string x) (.string y):Sem Value).run P W=.ok v W/\k av/\av.ok P m ρ [v]:=by
 have hg:(eqGuard op t X Y (.string x) (.string y)).run P W=.ok () W:=by
  simp_all [eqGuard]
 unfold w0b at h
 split at h
 ·obtain⟨h0,h⟩:=h
  have h1:¬(((x.size+y.size:Nat):Int) > IntKind.i64.max):=by
   have:IntKind.i64.max=9223372036854775807:=by rfl
   omega
  refine⟨.string (x++y),_,?_,h,rfl⟩
  simp_all [Sem.run_bind,Result.andThen_ok,binOp,Op.stringOp,if_neg]
 ·exact⟨_,_,by simp_all [Sem.run_bind,Result.andThen_ok,binOp,Op.stringOp,wi9],h,rfl⟩
 ·exact⟨_,_,by simp_all [Sem.run_bind,Result.andThen_ok,binOp,Op.stringOp,wi9],h,rfl⟩
 grind
theorem w0j {v:Value} (hv:isNil v=true):v=.slice none 0 0:=by
 revert hv
 unfold isNil
 split
 ·split
  ·split
   ·intro _; rfl
   ·intro q; cases q
  ·intro q; cases q
 ·intro q; cases q
theorem q26 {C:Ctx} (hC:∀t T,find C.tys t=some T->TIok P t T) {t:Nat} {op:BinOp} {v:Value} {e:Bool} {k:AV->Prop} {A:Option Addr} {n c:Nat} (h:q44 C op t v e k) (he:e=A.isNone) (X Y:Operand) (W:World) :
  ∃u av,(do eqGuard op t X Y (.slice A n c) v; binOp op t (.slice A n c) v:Sem Value).run P W=.ok u W/\k av/\av.ok P m ρ [u]:=by
 subst he
 unfold q44 qd5 at h
 rw[withSome_iff] at h
 obtain⟨T,hT,h⟩:=h
 split at h
 case h_2=>exact h.elim
 rename_i hk hv
 have hu:=(hC t T hT).slice (zab hk)
 obtain rfl:=w0j hv
 have hg:(eqGuard op t X Y (.slice A n c) (.slice none 0 0)).run P W=.ok () W:=by
  cases op <;> simp[eqGuard,go_sem]
 have hq:(Op.equal t (.slice A n c) (.slice none 0 0)).run P W=.ok A.isNone W:=by
  have h1:∀d,(Op.equalIn (d+1) t (.slice A n c) (.slice none 0 0)).run P W=.ok A.isNone W:=λd=>by
   cases A <;> simp[Op.equalIn,run_underlying hu]
  exact h1 9999
 split at h
 ·exact⟨_,_,by simp only[Sem.run_bind,hg,Result.andThen_ok,binOp,hq]; rfl,h,rfl⟩
 ·exact⟨_,_,by simp only[Sem.run_bind,hg,Result.andThen_ok,binOp,hq]; rfl,h,rfl⟩
 ·exact h.elim
theorem x0d {C:Ctx} (hC:∀t T,find C.tys t=some T->TIok P t T) {t:Nat} {w:Bool} {op:BinOp} {x y:AV} {k:AV->Prop} {u u':Value} (h:x3p C w op t x y k) (hx:x.ok P m ρ [u]) (hy:y.ok P m ρ [u']) (X Y:Operand) (W:World) :
  ∃v av,(do eqGuard op t X Y u u'; binOp op t u u':Sem Value).run P W=.ok v W/\k av/\av.ok P m ρ [v]:=by
 unfold x3p at h
 split at h
 ·rename_i j a j' b
  obtain rfl:=(zac (show[u]=[_] from hx)).1
  obtain rfl:=(zac (show[u']=[_] from hy)).1
  split at h
  ·obtain⟨h0,h⟩:=h
   have h0':¬b<0:=ow
   exact⟨_,_,by simp[eqGuard,binOp,Op.shift,h0',go_sem],h,rfl⟩
  ·obtain⟨h0,h⟩:=h
   have h0':¬b<0:=ow
   exact⟨_,_,by simp[eqGuard,binOp,Op.shift,h0',go_sem],qx7 h,rfl⟩
  rename_i hn1 hn2
  obtain⟨rfl,h⟩:=qq0 h
  have hg:(eqGuard op t X Y (.int j' a) (.int j' b)).run P W=.ok () W:=by
   simp_all [eqGuard]
  cases op <;> simp only[w0a] at h <;> first | exact h.elim | skip
  case add=>exact⟨_,_,by simp_all [binOp,Op.intArith],qx7 h,rfl⟩
  case sub=>exact⟨_,_,by simp_all [binOp,Op.intArith],qx7 h,rfl⟩
  case mul=>exact⟨_,_,by simp_all [binOp,Op.intArith],qx7 h,rfl⟩
  case quo=>obtain⟨h0,h⟩:=h; exact⟨_,_,by simp_all [binOp,Op.intDiv],qx7 h,rfl⟩
  case rem=>obtain⟨h0,h⟩:=h; exact⟨_,_,by simp_all [binOp,Op.intDiv],h,rfl⟩
  case and=>exact⟨_,_,by simp only[Sem.run_bind,hg,Result.andThen_ok,binOp,ne_eq,not_true,if_false]; rfl,h,rfl⟩
  case or=>exact⟨_,_,by simp only[Sem.run_bind,hg,Result.andThen_ok,binOp,ne_eq,not_true,if_false]; rfl,h,rfl⟩
  all_goals exact⟨_,_,by simp_all [binOp,Op.intCmp],h,rfl⟩
 ·obtain rfl:=(zac (show[u]=[_] from hx)).1
  obtain rfl:=(zac (show[u']=[_] from hy)).1
  exact w6i h X Y W
 ·rename_i xs ys
  obtain⟨T,hT,h⟩:=withSome_iff.1 h
  cases hq:T.eq2 <;> rw[hq] at h
  ·dsimp only at h
   cases hq3:T.eq3 <;> rw[hq3] at h
   ·grind
   have hE:=(hC t T hT).eq3 hq3
   obtain⟨us,e1,hx⟩:=hx
   obtain rfl:=(zac e1).1
   obtain⟨us',e2,hy⟩:=hy
   obtain rfl:=(zac e2).1
   obtain⟨j,a,i,b,l,e,rfl,h⟩:=w6h h hx
   obtain⟨j',a',i',b',l',e',rfl,h⟩:=w6h h hy
   obtain⟨e3,h⟩:=qq0 h
   obtain⟨e4,h⟩:=qq0 h
   obtain⟨e5,h⟩:=qq0 h
   rw[e3,e4,e5]
   clear e3 e4 e5
   cases op <;> simp only at h <;> first | exact h.elim | skip
   case eql=>obtain⟨g1,g2⟩:=hE j i l a b e a' b' e' .eql X Y W; exact⟨_,_,by simp_all [Sem.run_bind,Result.andThen_ok,binOp],h,rfl⟩
   case neq=>obtain⟨g1,g2⟩:=hE j i l a b e a' b' e' .neq X Y W; exact⟨_,_,by simp_all [Sem.run_bind,Result.andThen_ok,binOp],h,rfl⟩
  have hE:=(hC t T hT).eq2 hq
  obtain⟨us,e1,hx⟩:=hx
  obtain rfl:=(zac e1).1
  obtain⟨us',e2,hy⟩:=hy
  obtain rfl:=(zac e2).1
  obtain⟨j,a,i,b,rfl,h⟩:=wu3 h hx
  obtain⟨j',c,i',d,rfl,h⟩:=wu3 h hy
  obtain⟨e3,h⟩:=qq0 h
  obtain⟨e4,h⟩:=qq0 h
  rw[e3,e4]
  clear e3 e4
  cases op <;> simp only at h <;> first | exact h.elim | skip
  case eql=>obtain⟨g1,g2⟩:=hE j i a b c d .eql X Y W; exact⟨_,_,by simp_all [Sem.run_bind,Result.andThen_ok,binOp],h,rfl⟩
  case neq=>obtain⟨g1,g2⟩:=hE j i a b c d .neq X Y W; exact⟨_,_,by simp_all [Sem.run_bind,Result.andThen_ok,binOp],h,rfl⟩
 ·rename_i b0 _ l v
  cases b0 with
  | true=>grind
  | false=>
  obtain rfl:=(zac (show[u']=[_] from hy)).1
  obtain⟨⟨A,c,e,h1,h2,h3⟩,h4⟩:=hx
  obtain rfl:=(zac e).1
  refine q26 hC h ?_ X Y W
  cases l with
  | nil=>have:=(zac (h4 rfl)).1; grind
  | cons a r=>grind
 ·rename_i l v
  obtain rfl:=(zac (show[u']=[_] from hy)).1
  obtain⟨A,c,e,h1,h2,h3⟩:=hx
  obtain rfl:=(zac e).1
  obtain⟨hl,h⟩:=h
  exact q26 hC h (by grind) X Y W
 ·obtain⟨T,hT,h⟩:=withSome_iff.1 h
  split at h
  ·grind
  rename_i hk
  have hu:=(hC t T hT).bool (zab hk)
  obtain⟨a,rfl,h⟩:=wi8 h hx
  obtain⟨b,rfl,h⟩:=wi8 h hy
  have hg:(eqGuard op t X Y (.bool a) (.bool b)).run P W=.ok () W:=by
   simp_all [eqGuard]
  have he:(Op.equal t (.bool a) (.bool b)).run P W=.ok (a==b) W:=by
   grind [run_equalIn_bool,Op.maxDepth,Op.equal]
  cases op <;> simp only at h <;> first | exact h.elim | skip
  case eql=>exact⟨_,_,by simp_all [Sem.run_bind,Result.andThen_ok,binOp],h,rfl⟩
  case neq=>exact⟨_,_,by simp only[Sem.run_bind,hg,Result.andThen_ok,binOp,he]; rfl,h,by rfl⟩
theorem x33 {w:Bool} {op:UnOp} {x:AV} {k:AV->Prop} {u:Value} (h:unK w op x k) (hx:x.ok P m ρ [u]) (W:World):∃v av,(Op.unary op u).run P W=.ok v W/\k av/\av.ok P m ρ [v]:=by
 unfold unK at h
 split at h
 ·obtain rfl:=(zac (show[u]=[_] from hx)).1
  exact⟨_,_,by rfl,qx7 h,rfl⟩
 ·obtain rfl:=(zac (show[u]=[_] from hx)).1
  exact⟨_,_,by rfl,h,rfl⟩
 ·obtain rfl:=(zac (show[u]=[_] from hx)).1
  exact⟨_,_,by rfl,h,rfl⟩
 ·obtain rfl:=(zac (show[u]=[_] from hx)).1
  exact⟨_,_,by rfl,h,rfl⟩
 grind
theorem TIok.runAgg {t:Nat} {T:TI} (h:TIok P t T) (w:World):(isAgg t).run P w=.ok T.agg w:=by
 obtain⟨d,h1,h2⟩:=h.agg
 cases d <;> simp_all [isAgg,run_underlying h1]
theorem TIok.runSize {t:Nat} {T:TI} (h:TIok P t T) (w:World):(Go.sizeOf t).run P w=.ok T.size w:=by
 obtain⟨i,z,h1,h2,_⟩:=h.info
 simp_all [Go.sizeOf,typeInfo]
theorem q27 {t:Nat} {T:TI} (hT:TIok P t T) {W:World} {ad:Addr} {X off:Nat} {c:AV} {k:AV->Prop} {vs:List Value} (hc:∀j v,vs[j]? = some v->W.cell? (ad.add (X+j))=some v)
  (h:q5n c T.agg off T.size k) (hok:c.ok P m ρ vs):∃v av,(Instr.loadAt t (.pointer (some (ad.add (X+off))))).run P W=.ok v W/\k av/\av.ok P m ρ [v]:=by
 rcases w0i h hok with⟨e,r,h1,h2,h3⟩ | ⟨e,a,v,h1,h2,h3⟩
 ·have hl:=run_loadCells_list (P:=P) W (ad.add (X+off)) ((vs.drop off).take T.size) (λj v hj=>by
   grind [Ls.add_add,Nat.add_assoc])
  have hlen:((vs.drop off).take T.size).length=T.size:=by grind
  rw[hlen] at hl
  simp only[loadCells] at hl
  exact⟨_,_,by simp[Instr.loadAt,Instr.sureAddr,loadVar,loadCells,hT.runAgg,hT.runSize,e,hl,go_sem],h1,⟨_,rfl,h2⟩⟩
 ·have hl:=hc _ _ h2
  exact⟨_,_,by simp[Instr.loadAt,Instr.sureAddr,loadVar,hT.runAgg,e,hl,go_sem],h1,h3⟩
end
end Eng
set_option linter.unusedVariables false
set_option linter.unusedSimpArgs false
namespace Eng
open Go Go.RowKit
def Res (P:Program) (T:Value->World->Prop):Result Next->Prop
 | .ok (.value v) w=>T v w
 | .ok .skip w=>T undef w
 | .ok (.enter f args) w=>Calls P f args w λe w'=>∃v,e=.returned v/\T v w'
 | _=>False
def Pads (ρ ρ':List Value) (nm:Nat):Prop:=∀g b,g≠nm->ρ[g]? = some (.bool b)->ρ'[g]? = some (.bool b)
theorem Pads.refl (ρ:List Value) (nm:Nat):Pads ρ ρ nm:=λ_ _ _ h=>h
theorem Pads.nput {s:St} {ρ:List Value} {nm:Nat} (hl:ρ.length=s.mem.length) (hf:Free s ρ nm) (v:Value):Pads ρ (nput ρ nm v) nm:=λg b hg h=>by grind [qx5]
def To (P:Program) (w0:Base) (m0:View) (s:St) (ρ0:List Value) (nm:Nat) (a:Act) (k:AV->Eff->Prop) (v:Value) (w:World):Prop:=
 ∃av e m ρ,k av e/\Pads ρ0 ρ nm/\av.ok P m ρ [v]/\Rel P w0 m0 (qr2 s nm e) m ρ a w
theorem heap_setCell (w:World) (b o:Nat) (v:Value) (vs:List Value) (ty:Nat) (h:w.heap[b]? = some (.cells vs.toArray ty (0,0))):(w.setCell ⟨b,o,none⟩ v).heap[b]? = some (.cells (vs.set o v).toArray ty (0,0)):=by
 simp[World.setCell,Array.getElem?_modify,h]
theorem grownBy_setCell (w:World) (b o:Nat) (v:Value):w.grownBy (w.setCell ⟨b,o,none⟩ v) (some b):=
 ⟨rfl,rfl,rfl,by simp,λk _ hne=>by
  grind [World.setCell]⟩
theorem grownBy_trans {w w' w'':World} {r:Option Nat} (h:w.grownBy w' r) (k:w'.grownBy w'' r):w.grownBy w'' r:=
 ⟨k.os.trans h.os,k.tape.trans h.tape,k.output.trans h.output,zah h.size k.size,λi hi hne=>(k.block i (za7 hi h.size) hne).trans (h.block i hi hne)⟩
theorem qo5 (b ty:Nat):∀(us:List Value) (o:Nat) (w:World) (vs:List Value),w.heap[b]? = some (.cells vs.toArray ty (0,0))->(us≠[]->o+us.length<=vs.length) ->
  (w.setCells b o us).heap[b]? = some (.cells (vs.take o++us++vs.drop (o+us.length)).toArray ty (0,0))/\w.grownBy (w.setCells b o us) (some b)
 | [],o,w,vs,h,_=>⟨by simp_all [World.setCells],⟨rfl,rfl,rfl,zad _,λ_ _ _=>rfl⟩⟩
 | u :: r,o,w,vs,h,hl=>by
  have hl:=hl (by simp)
  simp only[List.length_cons] at hl
  obtain⟨k1,k2⟩:=qo5 b ty r (o+1) (w.setCell ⟨b,o,none⟩ u) (vs.set o u) (heap_setCell w b o u vs ty h) (λ_=>by grind)
  refine⟨?_,grownBy_trans (grownBy_setCell w b o u) k2⟩
  simp only[World.setCells]
  rw[k1]
  congr 3
  rw[List.set_eq_take_append_cons_drop,zap ow]
  have e1:(vs.take o++u :: vs.drop (o+1)).take (o+1)=vs.take o++[u]:=by
   grind
  have e2:(vs.take o++u :: vs.drop (o+1)).drop (o+1+r.length)=vs.drop (o+(r.length+1)):=by
   have:(vs.take o).length=o:=by grind
   rw[List.drop_append,this]
   have e3:o+1+r.length-o=r.length+1:=ow
   rw[e3,zdx ow]
   simp
   omega
  grind
section
variable {P : Program} {w0 : Base} {m0 : View} {s : St} {m : View} {ρ : List Value} {a : Act} {w : World}
theorem To.same {k:AV->Eff->Prop} {nm:Nat} {av:AV} {v:Value} (hr:Rel P w0 m0 s m ρ a w) (h:k av .none) (hv:av.ok P m ρ [v]):To P w0 m0 s ρ nm a k v w:=⟨av,.none,m,ρ,h,Pads.refl _ _,hv,hr⟩
theorem Rel.blkLt (hr:Rel P w0 m0 s m ρ a w):∀g v b,(qa1 s.mem g).live=true->ρ[g]? = some v->Blk v b->b<w.heap.size:=by
 intro g v b hl hv hb
 obtain⟨v',k1,k2⟩:=(hr.objs g).blk_lt hl
 grind
theorem xv2 {k:AV->Eff->Prop} {nm:Nat} {e:Nat} {c:AV} {cs:List Value} (hr:Rel P w0 m0 s m ρ a w) (hf:Free s ρ nm) (h:k (.box nm 0) (.new (.box e c))) (hc:c.ok P m ρ cs) (h1:∀v∈cs,Value.oneCell' v=true) :
  To P w0 m0 s ρ nm a k (.pointer (some ⟨w.heap.size,0,none⟩)) (w.alloc (.cells cs.toArray e)):=by
 have hb:=Ls.below_alloc w (.cells cs.toArray e)
 have hr':=hr.grow hb (View.le_refl m) (View.on_below hr.view hb) (λ_ _ hb=>.inl hb)
 refine⟨_,_,m,nput ρ nm (.pointer (some ⟨w.heap.size,0,none⟩)),h,Pads.nput hr.len hf _,⟨w.heap.size,qh0 hr.len hf _,rfl⟩,?_⟩
 refine hr'.addObj hf hr.blkLt (λb hb=>hr.below.new hb) ⟨w.heap.size,cs,qh0 hr.len hf _,hr.below.size,heap_alloc_new w _,AV.ok_le (View.le_refl m) (λg u hg hp=>w0e hr.len hf _ hg hp) hc,h1,?_⟩ (λb hb=>by grind [Blk,blk]) rfl
 cases hm:m w.heap.size with
 | none=>rfl
 | some o=>have:=View.lt hr.view hm; omega
theorem w0k {T:Ty} {l:List T.den} {vs:List Value} {e:Nat} (hr:Rel P w0 m0 s m ρ a w) (hl:RdL m T l vs) (hlen:l.length<=maxLen) :
  ∃m',m.le m'/\Rel P w0 m0 s m' ρ a (w.alloc (.cells vs.toArray e))/\Rd m' (.list T) l [.slice (some ⟨w.heap.size,0,none⟩) l.length l.length]:=by
 let m':View:=λb=>if b=w.heap.size then some (.cells vs.toArray e (0,0)) else m b
 have hnone:m w.heap.size=none:=by
  cases hm:m w.heap.size with
  | none=>rfl
  | some o=>have:=View.lt hr.view hm; omega
 have hm:m.le m':=λb o hb=>by
  grind
 have hb:=Ls.below_alloc w (.cells vs.toArray e)
 refine⟨m',hm,hr.grow hb hm (λb o hbo=>?_) (λb o hbo=>?_),some ⟨w.heap.size,0,none⟩,l.length,rfl,zad _,hlen,λ_=>⟨_,rfl,λi hi=>?_⟩⟩
 ·change(if b=w.heap.size then some (.cells vs.toArray e (0,0)) else m b)=some o at hbo
  split at hbo
  ·grind [heap_alloc_new]
  ·exact(View.on_below hr.view hb) b o hbo
 ·grind
 ·obtain⟨cs,k1,k2⟩:=hl.at_ i hi
  refine⟨cs,Rd.le hm k1,λj v hj=>?_⟩
  grind [Rd.length,List.getElem?_eq_some_iff,Addr.add,View.cell]
theorem q1y {w:World} {B e size n:Nat} {v:Value} {xs:List Value} (h:w.ownsRow B e size v n xs):w53 v=true:=by
 rcases h.2 with⟨rfl,_⟩ | ⟨g',cap,cur,rfl,_⟩ <;> rfl
theorem q8y {k:AV->Eff->Prop} {nm:Nat} {e:Nat} {T:Ty} {l:List T.den} {vs:List Value} {v:Value} {w':World} (hr:Rel P w0 m0 s m ρ a w) (hf:Free s ρ nm) (h:k (.own nm) (.new (.vec e T l))) (hl:RdL m T l vs)
  (hb:Below w.heap.size w w') (ho:w'.ownsRow w.heap.size e T.size v l.length vs) (h1:v.oneCell'=true):To P w0 m0 s ρ nm a k v w':=by
 have hbase:w'.ownsRow w0.n e T.size v l.length vs:=Ls.own_base ho hr.below.size
 have hr':=hr.grow hb (View.le_refl m) (View.on_below hr.view hb) (λ_ _ hb=>.inl hb)
 refine⟨_,_,m,nput ρ nm v,h,Pads.nput hr.len hf _,⟨v,⟨qh0 hr.len hf _,q1y ho⟩,rfl⟩,?_⟩
 refine hr'.addObj hf hr.blkLt (λb hb=>hr.below.new hb) ⟨v,vs,qh0 hr.len hf _,hl,hbase,λb hbv=>?_⟩ (λb hbv=>?_) h1
 ·have:=(ho.lt b hbv).1
  cases hm:m b with
  | none=>rfl
  | some o=>have:=View.lt hr.view hm; omega
 ·exact(ho.lt b ((qk4 ho).1 hbv)).1
theorem q2e {w:World} {B e size n:Nat} {v:Value} {xs:List Value} (h:w.ownsRow B e size v n xs):v.oneCell'=true:=by
 rcases h.2 with⟨rfl,_⟩ | ⟨g',cap,cur,rfl,_⟩ <;> rfl
theorem w3i {w:World} {b o:Nat} {cs:Array Value} {ty:Nat} (h:w.heap[b]? = some (.cells cs ty (0,0))):w.frozen? ⟨b,o,none⟩=false:=by
 simp[World.frozen?,h]
theorem qu2 {w:World} {b o:Nat} {cs:Array Value} {ty:Nat} (h:w.heap[b]? = some (.cells cs ty (0,0))):w.cell? ⟨b,o,none⟩=cs[o]?:=by
 simp[World.cell?,h]
theorem q6q {t:Nat} {T:TI} (hT:TIok P t T) {b ty off:Nat} {cur:List Value} {u:Value} (hh:w.heap[b]? = some (.cells cur.toArray ty (0,0))) (hsz:u.cells.size=T.size) (hin:off+T.size<=cur.length)
  (h1:∀v∈u.cells.toList,Value.oneCell' v=true):(Instr.storeAt t (.pointer (some ⟨b,off,none⟩)) u).run P w=.ok () (w.setCells b off u.cells.toList):=by
 have hl:u.cells.toList.length=T.size:=ow
 have:=run_storeCells_cells (P:=P) b off u.cells.toList 0 w (λj hj=>by
   rw[qu2 hh]
   grind)
  (λj hj=>w3i hh) h1
 simp only[Nat.add_zero] at this
 simp only[Instr.storeAt,Instr.sureAddr,storeVar]
 clear h1 hl
 generalize u.cells=cs at *
 simp[hT.runSize,hsz,this,go_sem]
theorem w6j {t:Ty} {x:t.den} {u:Value} (h:Rd m t x u.cells.toList):u.cells.size=t.size:=by
 have:=Rd.length h; omega
theorem q28 {L us:List Value} {off N:Nat} (h:off+us.length<=N) (hN:N<=L.length):(L.take off++us++L.drop (off+us.length)).take N=(L.take N).take off++us++(L.take N).drop (off+us.length):=by
 have e1:L.take off=(L.take N).take off:=by grind
 have e2:L.drop (off+us.length)=(L.take N).drop (off+us.length)++L.drop N:=by
  grind [List.take_append_drop]
 rw[e1,e2,<- zdl]
 grind [List.take_left']
end
end Eng
set_option linter.unusedVariables false
set_option linter.unusedSimpArgs false
namespace Eng
open Go Go.RowKit
section
variable {P : Program} {w0 : Base} {m0 : View} {s : St} {nm : Nat} {m : View} {ρ : List Value} {a : Act} {w : World} {k : AV -> Eff -> Prop} {o : Oper} {C : Ctx}
theorem x68 {P:Program} {w:World} {x:Sem Value} {v:Value} {w':World} (h:x.run P w=.ok v w'):(do pure (Next.value (<- x)):Sem Next).run P w=.ok (.value v) w':=by simp[h]
theorem xg2 {P:Program} {w:World} {x:Sem Unit} {w':World} (h:x.run P w=.ok () w'):(do x; pure Next.skip:Sem Next).run P w=.ok .skip w':=by simp[h]
theorem qf4 {x:Sem Value} {v:Value} {w':World} {T:Value->World->Prop} (h:x.run P w=.ok v w') (ht:T v w'):Res P T ((do pure (Next.value (<- x)):Sem Next).run P w):=by
 rw[x68 h]; exact ht
theorem w6k (hr:Rel P w0 m0 s m ρ a w) {x:Operand} (ho:o.op=.move x\/o.op=.assign x) (h:k (qc8 s.ov s.base x) .none):Res P (To P w0 m0 s ρ nm a k) ((execOp a.eval o).run P w):=by
 have e:execOp a.eval o=pure (.value (a.eval x)):=by grind [execOp]
 rw[e]
 exact To.same hr h (hr.eval x)
theorem x0e (hr:Rel P w0 m0 s m ρ a w) {c x y:Operand} (ho:o.op=.pick c x y) (h:q18 (qc8 s.ov s.base c) (λ_=>k (qc8 s.ov s.base x) .none) (λ_=>k (qc8 s.ov s.base y) .none)) :
  Res P (To P w0 m0 s ρ nm a k) ((execOp a.eval o).run P w):=by
 obtain⟨b,hb,h1,h2⟩:=q02 h (hr.eval c)
 have e:execOp a.eval o=(do pure (.value (if <- Go.asBool (a.eval c) then a.eval x else a.eval y))):=by grind [execOp]
 rw[e,hb]
 cases b with
 | true=>exact To.same hr (h1 rfl) (hr.eval x)
 | false=>exact To.same hr (h2 rfl) (hr.eval y)
theorem w3j {l:List Value} (h:l.all (·.oneCell')=true):∀v∈l,Value.oneCell' v=true:=by grind
theorem x0f {e eb:Nat} (hr:Rel P w0 m0 s m ρ a w) (hf:Free s ρ nm) (h:k (.msl nm .none) (.new (.bld e eb ⟨#[]⟩))) :
  To P w0 m0 s ρ nm a k (.pointer (some ⟨w.heap.size,0,none⟩)) (w.alloc (.cells #[.pointer none,.slice none 0 0] e)):=by
 have hb:=Ls.below_alloc w (.cells #[.pointer none,.slice none 0 0] e)
 have hr':=hr.grow hb (View.le_refl m) (View.on_below hr.view hb) (λ_ _ hb=>.inl hb)
 refine⟨_,_,m,nput ρ nm (q5w w.heap.size (.slice none 0 0)),h,Pads.nput hr.len hf _,⟨_,_,qh0 hr.len hf _,⟨rfl,rfl⟩,rfl⟩,?_⟩
 refine hr'.addObj hf hr.blkLt (λb hb=>hr.below.new hb) ⟨w.heap.size,.slice none 0 0,qh0 hr.len hf _,hr.below.size,⟨_,.inl rfl,heap_alloc_new w _⟩,zbp _ _ _ _,λhh=>(by cases hh),?_,λb hh=>(by cases hh)⟩ (λb hb=>?_) rfl
 ·cases hm:m w.heap.size with
  | none=>rfl
  | some o=>have:=View.lt hr.view hm; omega
 ·rcases q6o.1 hb with rfl | hb
  all_goals simp_all [Nat.le_refl,blk]
theorem xg3 (hC:∀t T,find C.tys t=some T->TIok P t T) (hr:Rel P w0 m0 s m ρ a w) (hf:Free s ρ nm) {e:Nat} (ho:o.op=.alloc e) (h:qd5 C e λT=>q8v nm e T k) :
  Res P (To P w0 m0 s ρ nm a k) ((execOp a.eval o).run P w):=by
 obtain⟨T,hT,h⟩:=withSome_iff.1 h
 cases hb:T.bld with
 | some eb=>
  unfold q8v at h
  rw[hb] at h
  have h:k (.msl nm .none) (.new (.bld e eb ⟨#[]⟩)):=h
  obtain⟨i,h1,h2⟩:=(hC e T hT).bld eb hb
  have e':execOp a.eval o=(do pure (.value (<- Instr.alloc e true (.tuple #[])))):=by grind [execOp]
  rw[e']
  refine qf4 (v:=.pointer (some ⟨w.heap.size,0,none⟩)) (w':=w.alloc (.cells #[.pointer none,.slice none 0 0] e)) ?_ ?_
  ·simp_all [Instr.alloc,zeroValue,typeInfo,newVar,newRow,Value.cells]
  grind [x0f]
 | none=>
 unfold q8v at h
 rw[hb] at h
 have h:k (.box nm 0) (.new (.box e T.zero)):=h
 obtain⟨i,z,h1,h2,h3,h4,h5,h6,h7,h8⟩:=(hC e T hT).info
 have e':execOp a.eval o=(do pure (.value (<- Instr.alloc e true (.tuple #[])))):=by grind [execOp]
 rw[e']
 refine qf4 (v:=.pointer (some ⟨w.heap.size,0,none⟩)) (w':=w.alloc (.cells z.cells e)) ?_ ?_
 ·simp_all [Instr.alloc,zeroValue,typeInfo,newVar,newRow]
 ·have:=xv2 hr hf h (h7 m ρ) (w3j h6)
  omega
theorem x0g (hC:∀t T,find C.tys t=some T->TIok P t T) (hr:Rel P w0 m0 s m ρ a w) {t u:Nat} {x:Operand} {wr:Bool} (ho:o.op=.convert u t x) (h:qd5 C u λ_=>qd5 C t λT=>w56 wr T (qc8 s.ov s.base x) λv=>k v .none) :
  Res P (To P w0 m0 s ρ nm a k) ((execOp a.eval o).run P w):=by
 obtain⟨U,hU,h⟩:=withSome_iff.1 h
 obtain⟨T,hT,h⟩:=withSome_iff.1 h
 obtain⟨d,hu,_⟩:=(hC u U hU).agg
 have e':execOp a.eval o=(do pure (.value (<- convert u t (a.eval x)))):=by grind [execOp]
 rw[e']
 have hx0:=hr.eval x
 unfold w56 at h
 split at h
 case h_2=>grind
 rename_i v hv
 rw[hv] at hx0
 have hx:a.eval x=v:=(zac (show[a.eval x]=[v] from hx0)).1
 rw[hx]
 clear hx hx0 hv
 split at h
 ·rename_i j0 n
  split at h
  ·rename_i hI
   obtain⟨kk,e1,e2⟩:=(hC t T hT).int hI
   rw[e1] at h
   have h:q6h wr kk n (λv=>k v .none):=h
   refine qf4 (v:=.int kk (kk.wrap n)) (w':=w) ?_ (To.same hr (qx7 h) rfl)
   simp_all [convert,run_underlying,Conv.intToInt]
  ·split at h
   ·rename_i hk
    have e2:=(hC t T hT).str (zab hk)
    refine qf4 (v:=.string (Utf8.encode n)) (w':=w) ?_ (To.same hr h rfl)
    simp_all [convert,run_underlying,Conv.intToString]
   grind
 ·rename_i q
  split at h
  ·rename_i hk
   have e2:=(hC t T hT).str (zab hk)
   refine qf4 (v:=.string q) (w':=w) ?_ (To.same hr h rfl)
   simp_all [convert,run_underlying]
  grind
 grind
theorem xg4 (hr:Rel P w0 m0 s m ρ a w) (hf:Free s ρ nm) {e:Nat} {x:Operand} (ho:o.op=.box e x) (h:q1x (qc8 s.ov s.base x) λc=>k (.box nm 0) (.new (.box e c))) :
  Res P (To P w0 m0 s ρ nm a k) ((execOp a.eval o).run P w):=by
 obtain⟨c,h1,h2,h3⟩:=q25 h (hr.eval x) hr.hdr
 have e':execOp a.eval o=(do pure (.value (<- Instr.box e (a.eval x)))):=by grind [execOp]
 rw[e']
 refine qf4 (v:=.pointer (some ⟨w.heap.size,0,none⟩)) (w':=w.alloc (.cells (a.eval x).cells e)) ?_ ?_
 ·rfl
 ·have:=xv2 hr hf h1 h2 h3
  omega
theorem xg5 (off:Nat) (us cs:List Value) (h:off+us.length<=cs.length):us.toArray.zipIdx.foldl (λcs (x:Value × Nat)=>cs.setIfInBounds (off+x.2) x.1) cs.toArray=(cs.take off++us++cs.drop (off+us.length)).toArray:=by
 rw[<- zdb,Array.toList_zipIdx]
 obtain⟨g1,g2⟩:=Great.foldl_set off us 0 cs.toArray
 apply Array.ext_getElem?
 grind
theorem q6r {flds:List (Nat × Nat × Nat)} {places:Array (Nat × Nat)} (hpos:∀(f:Nat) (fl:Nat × Nat × Nat),flds[f]? = some fl->fl.2.2≠0) (hp:∀(f:Nat) (fl:Nat × Nat × Nat),flds[f]? = some fl->places[f]? = some (fl.1,fl.2.2)) (hρ:∀v∈ρ,Value.oneCell' v=true) (ρ':Operand->Value) (ρa:Operand->AV)
  (he:∀x,(ρa x).ok P m ρ [ρ' x]) {K:AV->Prop} :
  ∀(parts:List (Nat × Operand)) (c:AV) (cs:List Value),q6i flds (parts.map λp=>(p.1,ρa p.2)) c K->c.ok P m ρ cs ->
   ∃cs' c',Instr.fill (places[·]?) cs.toArray (parts.map λp=>(p.1,ρ' p.2))=some (List.toArray cs')/\K c'/\c'.ok P m ρ cs'
 | [],c,cs,h,hc=>⟨cs,c,rfl,h,hc⟩
 | (i,x) :: r,c,cs,h,hc=>by
  simp only[List.map_cons,q6i] at h
  obtain⟨fl,hfl,h⟩:=withSome_iff.1 h
  obtain⟨xc,h5,h6,h7⟩:=q25 h (he x) hρ
  split at h5
  ·rename_i hlen
   have hsz:=q99 hlen h6
   obtain⟨c',k1,k2,k3⟩:=w6g h5 hc h6
   obtain⟨cs'',c'',j1,j2,j3⟩:=q6r hpos hp hρ ρ' ρa he r c' _ k1 k2
   refine⟨cs'',c'',?_,j2,j3⟩
   have hin:fl.1+(ρ' x).cells.toList.length<=cs.length:=k3 (λe=>hpos i fl hfl (by grind))
   have hf1:=xg5 fl.1 (ρ' x).cells.toList cs hin
   simp only[List.map_cons]
   unfold Instr.fill
   have hs2:(ρ' x).cells.size=fl.2.2:=ow
   simp only[hp i fl hfl,hs2]
   simp_all
  grind
theorem run_places {t:Nat} {w:World}:∀(l:List Field) (fl:List (Nat × Nat × Nat)),l.map (λF=>(F.offset,F.type))=fl.map (λf=>(f.1,f.2.1))->(∀f∈fl,(∃j,P.info? f.2.1=some j/\j.size=f.2.2)/\f.2.2≠0) ->
  (l.mapM λf=>do pure (f.offset,<- Go.sizeOf f.type):Sem (List (Nat × Nat))).run P w=.ok (fl.map λf=>(f.1,f.2.2)) w
 | [],[],_,_=>rfl
 | F :: l,f :: fl,h,hs=>by
  simp only[List.map_cons,List.cons.injEq,Prod.mk.injEq] at h
  obtain⟨⟨j,h1,h2⟩,_⟩:=hs f za0
  have ih:=run_places (t:=t) (w:=w) l fl h.2 (λf hf=>hs f (zau _ hf))
  rw[List.mapM_cons]
  simp_all [Sem.run_bind,Go.sizeOf,typeInfo,run_program,Result.andThen_ok,Sem.run_pure]
theorem xg6 (hC:∀t T,find C.tys t=some T->TIok P t T) (hr:Rel P w0 m0 s m ρ a w) {t:Nat} {parts:Array (Nat × Operand)} (ho:o.op=.build t parts)
  (h:qd5 C t λT=>match Nat.ble 4 T.kind with
   | false=>False
   | true=>q6i T.flds (parts.toList.map λp=>(p.1,qc8 s.ov s.base p.2)) T.zero λc=>k (.agg c) .none) :
  Res P (To P w0 m0 s ρ nm a k) ((execOp a.eval o).run P w):=by
 obtain⟨T,hT,h⟩:=withSome_iff.1 h
 have hTI:=hC t T hT
 cases hk:Nat.ble 4 T.kind <;> rw[hk] at h
 ·grind
 have hk:=zbh hk
 obtain⟨i,z,h1,h2,h3,h4,h5,h6,h7,h8⟩:=hTI.info
 have e':execOp a.eval o=(do pure (.value (<- Instr.build t (parts.map λ(i,x)=>(i,a.eval x))))):=by grind [execOp]
 rw[e']
 have hz:(zeroValue t).run P w=.ok z w:=by simp_all [zeroValue,typeInfo]
 have hparts:(parts.map λ(i,x)=>(i,a.eval x)).toList=parts.toList.map λp=>(p.1,a.eval p.2):=by simp
 have hzl:z.cells.toList.toArray=z.cells:=zd1
 rcases(show T.kind=4\/T.kind=5 by have:=hTI.kind; omega) with k4 | k5
 ·obtain⟨n,sz,hu,⟨j,q1,q2⟩,q3,q4⟩:=hTI.arr k4
  have hp:∀(f:Nat) (fl:Nat × Nat × Nat),T.flds[f]? = some fl->fl.2.2≠0:=λf fl hf=>by grind
  let places:Array (Nat × Nat):=(T.flds.map λf=>(f.1,f.2.2)).toArray
  obtain⟨cs',c',j1,j2,j3⟩:=q6r (P:=P) (m:=m) (ρ:=ρ) (places:=places) hp (λf fl hf=>by grind) hr.hdr a.eval (qc8 s.ov s.base) hr.eval parts.toList T.zero z.cells.toList h (h7 m ρ)
  have hfe:∀(l:List (Nat × Value)) (cs:Array Value) (r:Array Value),Instr.fill (places[·]?) cs l=some r->Instr.fill (λi=>some (i*sz,sz)) cs l=some r:=by
   intro l
   induction l with
   | nil=>intro cs r hh; exact hh
   | cons p l ih=>
    obtain⟨i,v⟩:=p
    intro cs r hh
    unfold Instr.fill at hh ⊢
    grind
  refine qf4 (v:=.agg cs'.toArray) (w':=w) ?_ (To.same hr j2 ⟨cs',rfl,j3⟩)
  have j1':=hfe _ _ _ j1
  rw[hzl] at j1'
  simp only[Instr.build,Sem.run_bind,hz,Result.andThen_ok,run_underlying hu,Go.sizeOf,typeInfo,run_program,q1,q2,Sem.run_pure,hparts,j1']
 ·obtain⟨fields,hu,q1,q2⟩:=hTI.struct k5
  have hrun:=run_places (P:=P) (t:=t) (w:=w) fields.toList T.flds q1 q2
  have hm:(fields.mapM λf=>do pure (f.offset,<- Go.sizeOf f.type):Sem (Array (Nat × Nat))).run P w=.ok (T.flds.map λf=>(f.1,f.2.2)).toArray w:=by
   simp_all [Array.mapM_eq_mapM_toList,Sem.run_map]
  obtain⟨cs',c',j1,j2,j3⟩:=q6r (P:=P) (m:=m) (ρ:=ρ) (places:=(T.flds.map λf=>(f.1,f.2.2)).toArray) (λf fl hfl=>(q2 fl (zag hfl)).2) (λf fl hf=>by grind) hr.hdr a.eval (qc8 s.ov s.base) hr.eval parts.toList T.zero z.cells.toList h (h7 m ρ)
  refine qf4 (v:=.agg cs'.toArray) (w':=w) ?_ (To.same hr j2 ⟨cs',rfl,j3⟩)
  simp_all [Instr.build,Sem.run_bind,Result.andThen_ok,run_underlying]
theorem wj0 {t:Nat} {T:TI} (hTI:TIok P t T) {B e size b n c N i:Nat} {vs:List Value} {u':Value} (q3:w.ownsRow B e size (.slice (some ⟨b,0,none⟩) n c) N vs) (hsz:size=T.size) (hi:i<N) (hu:u'.cells.toList.length=size) (h1:∀v∈u'.cells.toList,Value.oneCell' v=true) :
  ∃w',(Instr.storeAt t (.pointer (some ⟨b,i*size,none⟩)) u').run P w=.ok () w'/\w.grownBy w' (some b)/\w'.ownsRow B e size (.slice (some ⟨b,0,none⟩) n c) N (vs.take (i*size)++u'.cells.toList++vs.drop (i*size+size)):=by
 rcases q3.2 with⟨q,_⟩ | ⟨g',cap,cur,q,p1,p2,p3,p4,p5,p6⟩
 ·cases q
 ·simp only[Value.slice.injEq,Option.some.injEq,Addr.mk.injEq,and_true] at q
  obtain⟨rfl,rfl,rfl⟩:=q
  have hlt:(i+1)*size<=n*size:=zbn _ hi
  rw[zdc] at hlt
  have hcap:n*size<=c*size:=zbn _ p3
  have hh:w.heap[b]? = some (.cells cur.toList.toArray e (0,0)):=ow
  have hcl:cur.toList.length=c*size:=ow
  have hin:i*size+u'.cells.toList.length<=cur.toList.length:=ow
  have hrun:=q6q (off:=i*size) hTI hh (by grind) ow h1
  obtain⟨z1,z2⟩:=qo5 b e u'.cells.toList (i*size) w cur.toList hh (λ_=>hin)
  have hvl:vs.length=n*size:=q3.1
  refine⟨_,hrun,z2,?_,.inr ⟨b,c,_,rfl,p1,z1,p3,p4,?_,?_⟩⟩
  ·grind
  ·grind
  ·rw[<- p6,show i*size+size=i*size+u'.cells.toList.length by rw[hu]]
   exact q28 (L:=cur.toList) (us:=u'.cells.toList) (off:=i*size) (N:=n*size) ow ow
theorem w6l {B e b n c:Nat} {tt:Ty} {l:List tt.den} {vs:List Value} (q3:w.ownsRow B e tt.size (.slice (some ⟨b,0,none⟩) n c) l.length vs) (q2:RdL m tt l vs) {i:Nat} (hi:i<l.length) :
  ∃cs,Rd m tt (qe5 tt l i) cs/\∀j v,cs[j]? = some v->w.cell? ((⟨b,0,none⟩:Addr).add (i*tt.size+j))=some v:=by
 obtain⟨cs,k1,k2⟩:=q2.at_ i hi
 refine⟨cs,k1,λj v hj=>?_⟩
 have hlt:(i+1)*tt.size<=l.length*tt.size:=zbn _ hi
 rw[zdc] at hlt
 have hjs:j<tt.size:=by grind [Rd.length,List.getElem?_eq_some_iff]
 rw[Ls.add_zero_lit]
 rcases q3.2 with⟨q,_⟩ | ⟨g',cap,cur,q,p1,p2,p3,p4,p5,p6⟩
 ·cases q
 ·simp only[Value.slice.injEq,Option.some.injEq,Addr.mk.injEq,and_true] at q
  obtain⟨rfl,rfl,rfl⟩:=q
  rw[qu2 p2]
  grind
theorem getD_some {hs:List Value} {i:Nat} {v:Value} (h:hs[i]? = some v):hs.getD i undef=v:=by grind
theorem x0h (n:Nat) (ix:Option (List Nat)):(ixL n ix).length=qe0 n ix:=by cases ix <;> simp[ixL,qe0]
theorem x35 {n:Nat} {ix:Option (List Nat)} {i:Nat} (h:i<qe0 n ix):(ixL n ix)[i]? = some (qe6 ix i):=by
 cases ix with
 | none=>grind [qe0,ixL,qe6]
 | some l=>grind [qe0,ixL,qe6]
theorem PoolOk.rowAt {B eh e:Nat} {t:Ty} {rows:List (List t.den)} {ix:Option (List Nat)} {hs:List Value} (h:PoolOk m w B eh e t rows ix hs) {p:Nat} {v:Value} (hv:hs[p+1]? = some v):p<rows.length/\∃vs,RdL m t (qe5 (.list t) rows p) vs/\w.ownsRow B e t.size v (qe5 (.list t) rows p:List t.den).length vs:=by
 have h1:=(zaf.1 hv).1
 have hp:p<rows.length:=by have:=h.len; omega
 have:=h.row p hp
 grind
theorem PoolOk.headAt {B eh e:Nat} {t:Ty} {rows:List (List t.den)} {ix:Option (List Nat)} {hs:List Value} (h:PoolOk m w B eh e t rows ix hs) {v:Value} (hv:hs[0]? = some v):∃cs:List Value,w.ownsRow B eh 1 v (qe0 rows.length ix) cs/\∀(i p:Nat),(ixL rows.length ix)[i]? = some p->p<rows.length/\cs[i]? = hs[p+1]?:=by
 obtain⟨cs,k1,k2⟩:=h.head
 grind
theorem PoolOk.headCell {B eh e:Nat} {t:Ty} {rows:List (List t.den)} {ix:Option (List Nat)} {hs:List Value} (h:PoolOk m w B eh e t rows ix hs) {b n c:Nat} (hv:hs[0]? = some (.slice (some ⟨b,0,none⟩) n c)) {i:Nat} (hi:i<qe0 rows.length ix):∃v,hs[qe6 ix i+1]? = some v/\w53 v=true/\w.cell? ⟨b,i,none⟩=some v:=by
 obtain⟨cs,k1,k2⟩:=h.headAt hv
 obtain⟨h1,h2⟩:=k2 i _ (x35 hi)
 have h3:hs[qe6 ix i+1]? = some (hs[qe6 ix i+1]'(by have:=h.len; omega)):=zak _
 refine⟨_,h3,?_,?_⟩
 ·obtain⟨_,vs,_,k4⟩:=h.rowAt h3
  exact q1y k4
 ·rw[h3] at h2
  rcases k1.2 with⟨q,_⟩ | ⟨g',cap,cur,q,p1,p2,p3,p4,p5,p6⟩
  ·cases q
  ·simp only[Value.slice.injEq,Option.some.injEq,Addr.mk.injEq,and_true] at q
   obtain⟨rfl,rfl,rfl⟩:=q
   grind [qu2]
theorem wj1 {t:Nat} {T:TI} (hTI:TIok P t T) (hr:Rel P w0 m0 s m ρ a w) {av:AV} {u:Value} {k:AV->Prop} (h:q6j T s.mem av k) (hx:av.ok P m ρ [u]) :
  (∃ad,u=.pointer (some ad))/\∃v av,(Instr.loadAt t u).run P w=.ok v w/\k av/\av.ok P m ρ [v]:=by
 unfold q6j at h
 split at h
 ·rename_i g off
  split at h
  ·rename_i ty cs hm
   have ho:=hr.objs g
   rw[hm] at ho
   obtain⟨b,vs,q1,q2,q3,q4,q5,q6⟩:=ho
   obtain⟨b',r1,r2⟩:=hx
   rw[q1] at r1
   obtain rfl:b=b':=by grind
   obtain rfl:=(zac r2).1
   have:=q27 (ad:=⟨b,0,none⟩) (X:=0) (W:=w) hTI (λj v hj=>by rw[zb8,Ls.add_zero_lit,qu2 q3]; grind) h q4
   rw[zb8,Ls.add_zero_lit] at this
   grind
  grind
 ·rename_i t' l i off
  obtain⟨h0,ad,cs,r1,r2,r3⟩:=hx
  obtain rfl:=(zac r1).1
  have hfl:=qv3 (P:=P) (ρ:=ρ) (r:=.nil) (v:=[]) r2 rfl
  rw[zby] at hfl
  exact⟨⟨_,rfl⟩,q27 hTI (λj v hj=>View.cell_on hr.view (r3 j v hj)) h hfl⟩
 ·rename_i g t' i off
  split at h
  ·rename_i e t'' l hm
   obtain⟨hi,h⟩:=h
   obtain⟨rfl,h⟩:=qg0 h
   have h:=h l HEq.rfl
   have ho:=hr.objs g
   rw[hm] at ho
   obtain⟨v,vs,q1,q2,q3,q4⟩:=ho
   obtain⟨b,n,c,r1,r2⟩:=hx
   rw[q1] at r1
   obtain rfl:=zaa r1
   obtain rfl:=(zac r2).1
   obtain⟨cs,k1,k2⟩:=q2.at_ i hi
   have hfl:=qv3 (P:=P) (ρ:=ρ) (r:=.nil) (v:=[]) k1 rfl
   rw[zby] at hfl
   have hlt:(i+1)*t''.size<=l.length*t''.size:=zbn _ hi
   rw[zdc] at hlt
   have hsz:=RdL.length q2
   have:=q27 (ad:=⟨b,0,none⟩) (X:=i*t''.size) (W:=w) hTI (λj v hj=>by
    have hjs:j<t''.size:=by grind [Rd.length,List.getElem?_eq_some_iff]
    rw[Ls.add_zero_lit]
    rcases q3.2 with⟨q,_⟩ | ⟨g',cap,cur,q,p1,p2,p3,p4,p5,p6⟩
    ·cases q
    ·simp only[Value.slice.injEq,Option.some.injEq,Addr.mk.injEq,and_true] at q
     obtain⟨rfl,rfl,rfl⟩:=q
     rw[qu2 p2]
     grind) h hfl
   rw[Ls.add_zero_lit] at this
   grind
  grind
 ·rename_i g j t' i off
  split at h
  ·rename_i eh e t'' rows ix lt hm
   have ho:=hr.objs g
   rw[hm] at ho
   obtain⟨hs,q1,q2,q3⟩:=ho
   obtain⟨hs',b,n,c,r1,r2,r3⟩:=hx
   rw[q1] at r1
   obtain rfl:=qf1 (zaa r1)
   obtain rfl:=(zac r3).1
   cases j with
   | none=>
    have hb:T.agg=false/\Nat.beq off 0=true/\Nat.beq t'.size 1=true/\need (i<qe0 rows.length ix) λ_=>k (.msl g (some (qe6 ix i))):=by
     grind
    obtain⟨e1,e2,e3,hi,hk⟩:=hb
    have e2:=zab e2
    have e3:=zab e3
    subst e2
    obtain⟨v,k1,k2,k3⟩:=q2.headCell r2 hi
    rw[e3,zci,zbv]
    exact⟨⟨_,rfl⟩,v,_,by simp[Instr.loadAt,Instr.sureAddr,loadVar,hTI.runAgg,e1,k3,go_sem],hk,hs,v,q1,⟨k1,k2⟩,rfl⟩
   | some p=>
    obtain⟨hi,h⟩:=h
    obtain⟨rfl,h⟩:=qg0 h
    have h:=h _ HEq.rfl
    obtain⟨hp,vs,k1,k2⟩:=q2.rowAt r2
    obtain⟨cs,k3,k4⟩:=w6l k2 k1 hi
    have hfl:=qv3 (P:=P) (ρ:=ρ) (r:=.nil) (v:=[]) k3 rfl
    rw[zby] at hfl
    have:=q27 (ad:=⟨b,0,none⟩) (X:=i*t''.size) (W:=w) hTI k4 h hfl
    rw[Ls.add_zero_lit] at this
    grind
  grind
 ·rename_i cs off
  obtain⟨ad,us,r1,r2,r3⟩:=hx
  obtain rfl:=(zac r1).1
  have:=q27 (ad:=ad) (X:=0) (W:=w) hTI (λj v hj=>by rw[zb8]; exact View.cell_on hr.view (r3 j v hj)) h r2
  grind
 grind
theorem x0i (hC:∀t T,find C.tys t=some T->TIok P t T) (hr:Rel P w0 m0 s m ρ a w) {t:Nat} {x:Operand} (ho:o.op=.load t x)
  (h:qd5 C t λT=>q6j T s.mem (qc8 s.ov s.base x) λv=>k v .none):Res P (To P w0 m0 s ρ nm a k) ((execOp a.eval o).run P w):=by
 obtain⟨T,hT,h⟩:=withSome_iff.1 h
 have e':execOp a.eval o=(do pure (.value (<- Instr.loadAt t (a.eval x)))):=by grind [execOp]
 rw[e']
 obtain⟨_,v,av,q1,q2,q3⟩:=wj1 (hC t T hT) hr h (hr.eval x)
 grind [qf4,To.same]
theorem xg7 (hC:∀t T,find C.tys t=some T->TIok P t T) (hr:Rel P w0 m0 s m ρ a w) {t:Nat} {x y:Operand} (ho:o.op=.store t x y)
  (h:qd5 C t λT=>q45 T s.mem (qc8 s.ov s.base x) (qc8 s.ov s.base y) k):Res P (To P w0 m0 s ρ nm a k) ((execOp a.eval o).run P w):=by
 obtain⟨T,hT,h⟩:=withSome_iff.1 h
 have hTI:=hC t T hT
 have e':execOp a.eval o=(do Instr.storeAt t (a.eval x) (a.eval y); pure .skip):=by grind [execOp]
 rw[e']
 have hx:=hr.eval x
 have hy:=hr.eval y
 generalize qc8 s.ov s.base x=av at h hx
 generalize a.eval x=u at hx
 generalize qc8 s.ov s.base y=bv at h hy
 generalize a.eval y=u' at hy
 unfold q45 at h
 split at h
 ·rename_i g off
  split at h
  ·rename_i ty cs hm
   have ho:=hr.objs g
   have hl:(qa1 s.mem g).live=true:=by rw[hm]; rfl
   rw[hm] at ho
   obtain⟨b,vs,q1,q2,q3,q4,q5,q6⟩:=ho
   obtain⟨b',r1,r2⟩:=hx
   rw[q1] at r1
   obtain rfl:b=b':=by grind
   obtain rfl:=(zac r2).1
   obtain⟨c,j1,j2,j3⟩:=q25 h hy hr.hdr
   split at j1
   ·rename_i hlen
    have hsz:=q99 hlen j2
    obtain⟨cs',k1,k2,k3⟩:=w6g j1 q4 j2
    have hin:u'.cells.toList≠[]->off+u'.cells.toList.length<=vs.length:=k3
    by_cases hemp:u'.cells.toList=[]
    ·have hs0:T.size=0:=by grind
     exact absurd hs0 hTI.pos
    ·have hin:=hin hemp
     have hrun:=q6q hTI q3 ow (by rw[<- hsz]; exact hin) j3
     rw[xg2 hrun]
     obtain⟨p1,p2⟩:=qo5 b ty u'.cells.toList off w vs q3 (λ_=>hin)
     refine⟨_,_,m,ρ,k1,Pads.refl _ _,⟨_,rfl⟩,hr.upd hl q1 p2 (λr e=>by rw[<- zaa e]; rfl) ⟨b,_,q1,q2,p1,k2,?_,q6⟩⟩
     grind
   grind
  grind
 ·rename_i g t' i off
  split at h
  ·rename_i e t'' l hm
   obtain⟨hi,h⟩:=h
   obtain⟨rfl,h9⟩:=q03 h
   clear h
   have hb:Nat.beq off 0=true/\Nat.beq t''.size T.size=true/\q94 t'' bv λd=>k AV.any (Eff.upd g (AObj.vec e t'' (l.set i d)) false):=by
    grind
   obtain⟨hb1,hb2,h⟩:=hb
   have hoff:=zab hb1
   have hsz:=zab hb2
   subst hoff
   obtain⟨d,j1,j2⟩:=wa0 h hy hr.hdr
   have ho:=hr.objs g
   have hl:(qa1 s.mem g).live=true:=by rw[hm]; rfl
   rw[hm] at ho
   obtain⟨v,vs,q1,q2,q3,q4⟩:=ho
   obtain⟨b,n,c,r1,r2⟩:=hx
   rw[q1] at r1
   obtain rfl:=zaa r1
   obtain rfl:=(zac r2).1
   rcases q3.2 with⟨q,_⟩ | ⟨g',cap,cur,q,p1,p2,p3,p4,p5,p6⟩
   ·cases q
   ·simp only[Value.slice.injEq,Option.some.injEq,Addr.mk.injEq,and_true] at q
    obtain⟨rfl,rfl,rfl⟩:=q
    have hlen:=Rd.length j1
    have hlt:(i+1)*t''.size<=l.length*t''.size:=zbn _ hi
    rw[zdc] at hlt
    have hcap:l.length*t''.size<=c*t''.size:=zbn _ p3
    have hh:w.heap[b]? = some (.cells cur.toList.toArray e (0,0)):=ow
    have hcl:cur.toList.length=c*t''.size:=ow
    have hin:i*t''.size+u'.cells.toList.length<=cur.toList.length:=ow
    have hrun:=q6q (off:=i*t''.size) hTI hh (by grind) ow (Rd.one j1)
    rw[zbv,xg2 hrun]
    obtain⟨z1,z2⟩:=qo5 b e u'.cells.toList (i*t''.size) w cur.toList hh (λ_=>hin)
    refine⟨_,_,m,ρ,j2,Pads.refl _ _,⟨_,rfl⟩,hr.upd hl q1 z2 (λr e=>by rw[<- zaa e]; rfl) ⟨_,vs.take (i*t''.size)++u'.cells.toList++vs.drop (i*t''.size+t''.size),q1,RdL.set j1 q2 i hi,⟨?_,.inr ⟨b,c,_,by simp,p1,z1,by grind,p4,?_,?_⟩⟩,q4⟩⟩
    ·grind
    ·grind
    ·rw[<- p6,show i*t''.size+t''.size=i*t''.size+u'.cells.toList.length by omega]
     have:=q28 (L:=cur.toList) (us:=u'.cells.toList) (off:=i*t''.size) (N:=l.length*t''.size) ow ow
     grind
  grind
 ·rename_i g j t' i off
  split at h
  ·rename_i eh e t'' rows ix lt hm
   have ho:=hr.objs g
   have hl:(qa1 s.mem g).live=true:=by rw[hm]; rfl
   rw[hm] at ho
   obtain⟨hs,q1,q2,q3⟩:=ho
   obtain⟨hs',b,n,c,r1,r2,r3⟩:=hx
   rw[q1] at r1
   obtain rfl:=qf1 (zaa r1)
   obtain rfl:=(zac r3).1
   have hblk:∀r,some b=some r->Blk (qf7 hs) r:=λr e=>by
    rw[<- zaa e]
    exact qd7.2 ⟨_,zag r2,rfl⟩
   cases j with
   | none=>
    simp only at h
    split at h
    case h_2=>grind
    rename_i h' p'
    cases p' with
    | none=>grind
    | some p=>
    have hb:Nat.beq h' g=true/\Nat.beq off 0=true/\Nat.beq T.size 1=true/\Nat.beq t'.size 1=true/\need (i<qe0 rows.length ix) λ_=>k .any (.upd g (.mat eh e t'' rows (some ((ixL rows.length ix).set i p)) lt) false):=by
     grind
    obtain⟨e0,e1,e2,e3,hi,hk⟩:=hb
    have e0:=zab e0
    have e1:=zab e1
    have e2:=zab e2
    have e3:=zab e3
    subst e0 e1
    obtain⟨hs2,v,y1,⟨y2,y3⟩,y4⟩:=hy
    rw[q1] at y1
    obtain rfl:=qf1 (zaa y1)
    obtain rfl:=(zac y4).1
    have hvc:u'.cells.toList=[u']:=by cases u' <;> first | rfl | cases y3
    obtain⟨cs,k1,k2⟩:=q2.headAt r2
    obtain⟨w',z1,z2,z3⟩:=wj0 (i:=i) hTI k1 e2.symm hi (by rw[hvc]; rfl) (by rw[hvc]; intro x hx; obtain rfl:=zar.1 hx; cases x <;> first | rfl | cases y3)
    rw[zci] at z1
    rw[e3,zci,zbv,xg2 z1]
    have hlen:(ixL rows.length ix).length=qe0 rows.length ix:=x0h _ _
    refine⟨_,_,m,ρ,hk,Pads.refl _ _,⟨_,rfl⟩,hr.upd hl q1 z2 hblk ⟨hs,q1,⟨q2.len,?_,λq hq=>?_,q2.apart,q2.free⟩,q3⟩⟩
    ·refine⟨cs.take (i*1)++u'.cells.toList++cs.drop (i*1+1),?_,λi' p' hp'=>?_⟩
     ·rw[getD_some (show hs[0]? = _ from r2)]
      grind [qe0,ixL,set]
     ·have hcs:cs.length=qe0 rows.length ix:=by have:=k1.1; omega
      replace hp':((ixL rows.length ix).set i p)[i']? = some p':=hp'
      have e:cs.take (i*1)++u'.cells.toList++cs.drop (i*1+1)=cs.set i u':=by
       simp_all [Nat.mul_one,List.set_eq_take_append_cons_drop,if_pos]
      rw[e]
      rw[zbl] at hp' ⊢
      split at hp'
      ·rename_i ee
       subst ee
       rw[zap rfl,zap ow]
       rw[zap ow] at hp'
       obtain rfl:=zaa hp'
       have:=(q2.rowAt y2).1
       exact⟨this,y2.symm⟩
      grind
    ·obtain⟨vs,j1,j2⟩:=q2.row q hq
     refine⟨vs,j1,qo4 j2 λb' hb'=>?_⟩
     have hq1:hs[q+1]? = some (hs.getD (q+1) undef):=by
      have:=q2.len
      grind
     refine z2.block b' (own_blk j2 hb').2.1 λe=>?_
     obtain rfl:=zaa e
     exact q2.apart (q+1) 0 _ _ b' ow hq1 r2 hb' rfl
   | some p=>
    obtain⟨hi,h⟩:=h
    obtain⟨rfl,h9⟩:=q03 h
    clear h
    have hb:Nat.beq off 0=true/\Nat.beq t''.size T.size=true/\q94 t'' bv λd=>k AV.any (Eff.upd g (.mat eh e t'' (rows.set p ((qe5 (.list t'') rows p:List t''.den).set i d)) ix lt) false):=by
     grind
    obtain⟨hb1,hb2,h⟩:=hb
    have hoff:=zab hb1
    have hsz:=zab hb2
    subst hoff
    obtain⟨d,j1,j2⟩:=wa0 h hy hr.hdr
    obtain⟨hp,vs,k1,k2⟩:=q2.rowAt r2
    obtain⟨w',z1,z2,z3⟩:=wj0 (i:=i) hTI k2 hsz hi (Rd.length j1) (Rd.one j1)
    rw[zbv,xg2 z1]
    have hget:∀q,q<hs.length->hs[q]? = some (hs.getD q undef):=λq hq=>by
     grind
    have hoth:∀q u,q≠p+1->hs[q]? = some u->∀b',blk u=some b'->b' < w.heap.size->w'.heap[b']? = w.heap[b']?:=λq u hq hu b' hb' hlt=>by
     refine z2.block b' hlt λe=>?_
     obtain rfl:=zaa e
     exact q2.apart q (p+1) u _ b' hq hu r2 hb' rfl
    refine⟨_,_,m,ρ,j2,Pads.refl _ _,⟨_,rfl⟩,hr.upd hl q1 z2 hblk ⟨hs,q1,⟨by rw[zaz]; exact q2.len,?_,λq hq=>?_,q2.apart,q2.free⟩,q3⟩⟩
    ·obtain⟨cs,x1,x2⟩:=q2.head
     refine⟨cs,?_,λi' p' hp'=>?_⟩
     ·rw[zaz]
      exact qo4 x1 λb' hb'=>hoth 0 _ ow (hget 0 (by grind)) b' hb' (own_blk x1 hb').2.1
     grind
    ·rw[zaz] at hq
     by_cases eq:q=p
     ·subst eq
      have e:qe5 (.list t'') (rows.set q ((qe5 (.list t'') rows q:List t''.den).set i d)) q=(qe5 (.list t'') rows q:List t''.den).set i d:=
       q2x (t:=.list t'') rows q _ hp
      rw[e,getD_some (show hs[q+1]? = _ from r2)]
      grind [RdL.set,List.length_set]
     ·obtain⟨vs',x1,x2⟩:=q2.row q hq
      have e:qe5 (.list t'') (rows.set p ((qe5 (.list t'') rows p:List t''.den).set i d)) q=qe5 (.list t'') rows q:=q6g (t:=.list t'') rows p q _ eq
      rw[e]
      exact⟨vs',x1,qo4 x2 λb' hb'=>hoth (q+1) _ ow (hget (q+1) (by have:=q2.len; omega)) b' hb' (own_blk x2 hb').2.1⟩
  grind
 grind
end
end Eng
set_option linter.unusedVariables false
set_option linter.unusedSimpArgs false
namespace Eng
open Go Go.RowKit
section
variable {P : Program} {w0 : Base} {m0 : View} {s : St} {nm : Nat} {m : View} {ρ : List Value} {a : Act} {w : World} {k : AV -> Eff -> Prop} {o : Oper} {C : Ctx}
theorem AV.tf_ok {m:View} {ρ:List Value} {a:AV} {vs:List Value} (h:a.ok P m ρ vs):a.tf.ok P m ρ vs:=by
 cases a <;> first | exact h | skip
 rename_i v
 cases v <;> first | exact h | skip
 rename_i b
 cases b <;> exact h
theorem x36 (hC:∀t T,find C.tys t=some T->TIok P t T) (hr:Rel P w0 m0 s m ρ a w) {op:BinOp} {t u:Nat} {x y:Operand} {wr:Bool} (ho:o.op=.binOp op t x y u)
  (h:xu6 C wr op t s.mem (qc8 s.ov s.base x) (qc8 s.ov s.base y) λv=>k v .none):Res P (To P w0 m0 s ρ nm a k) ((execOp a.eval o).run P w):=by
 have hvx:=hr.eval x
 have hvy:=hr.eval y
 obtain⟨v,av,h1,h2,h3⟩:∃v av,(do eqGuard op t x y (a.eval x) (a.eval y); binOp op t (a.eval x) (a.eval y):Sem Value).run P w=.ok v w/\k av .none/\av.ok P m ρ [v]:=by
  unfold xu6 at h
  split at h
  ·rename_i hnl
   split at h
   ·rename_i v hy
    rw[hy] at hvy
    obtain⟨u,hu,hn⟩:∃u,qc8 s.ov s.base x=.lit u/\isNil u=true:=by
     revert hnl
     cases qc8 s.ov s.base x <;> first | exact λq=>⟨_,rfl,q⟩ | exact λq=>nomatch q
    obtain rfl:=w0j hn
    rw[hu] at hvx
    have e1:a.eval x=.slice none 0 0:=(zac (show[a.eval x]=[_] from hvx)).1
    have e2:a.eval y=v:=(zac (show[a.eval y]=[v] from hvy)).1
    rw[e1,e2]
    obtain⟨u,av,k1,k2,k3⟩:=q26 (A:=none) (n:=0) (c:=0) (m:=m) (ρ:=ρ) hC h rfl x y w
    exact⟨u,av.tf,k1,k2,AV.tf_ok k3⟩
   ·exact h.elim
  split at h
  ·rename_i g hgx
   rw[hgx] at hvx
   split at h
   ·rename_i v e t' l hy ho
    obtain⟨hl,h⟩:=h
    rw[hy] at hvy
    have hob:=hr.objs g
    rw[ho] at hob
    obtain⟨v1,vs,q1,q2,q3,q4⟩:=hob
    obtain⟨v',⟨r1,_⟩,r2⟩:=hvx
    rw[q1] at r1
    obtain rfl:=zaa r1
    have e1:a.eval x=v1:=(zac r2).1
    have e2:a.eval y=v:=(zac (show[a.eval y]=[v] from hvy)).1
    rw[e1,e2]
    rcases q3.2 with⟨rfl,q⟩ | ⟨g',cap,cur,rfl,_⟩
    ·omega
    ·obtain⟨u,av,k1,k2,k3⟩:=q26 (A:=some ⟨g',0,none⟩) (n:=l.length) (c:=cap) (m:=m) (ρ:=ρ) hC h rfl x y w
     exact⟨u,av.tf,k1,k2,AV.tf_ok k3⟩
   ·exact h.elim
  ·exact x0d hC h hvx hvy x y w
 grind [execOp,pure,eqGuard,binOp,qf4,To.same]
theorem x7a (hr:Rel P w0 m0 s m ρ a w) {op:UnOp} {t:Nat} {x:Operand} {wr:Bool} (ho:o.op=.unOp op t x) (h:unK wr op (qc8 s.ov s.base x) λv=>k v .none) :
  Res P (To P w0 m0 s ρ nm a k) ((execOp a.eval o).run P w):=by
 obtain⟨v,av,h1,h2,h3⟩:=x33 h (hr.eval x) w
 grind [execOp,pure,Op.unary,qf4,To.same]
theorem q0j {ρa:Operand->AV} {ρ':Operand->Value} (he:∀x,(ρa x).ok P m ρ [ρ' x]):∀l:List Operand,(qk1 ρa l).ok P m ρ (l.map ρ')
 | []=>rfl
 | x :: r=>⟨_,_,rfl,he x,q0j he r⟩
theorem wu4 (hr:Rel P w0 m0 s m ρ a w) {fn:Fn} {first caps:Array Operand} (h:match fn,first.toList with
  | .func f,[]=>k (.clo f (qk1 (qc8 s.ov s.base) caps.toList)) .none
  | _,_=>False) (ho:o.op=.makeFunc fn first caps):Res P (To P w0 m0 s ρ nm a k) ((execOp a.eval o).run P w):=by
 have e':execOp a.eval o=(do pure (.value (<- Instr.makeFunc fn (first.map a.eval) (caps.map a.eval)))):=by grind [execOp]
 rw[e']
 split at h
 ·obtain rfl:first=#[]:=by grind
  have hm:caps.map a.eval=(caps.toList.map a.eval).toArray:=by grind
  refine qf4 (v:=.func (.func _) #[] (caps.toList.map a.eval).toArray) (w':=w) (by simp[Instr.makeFunc,hm]) (To.same hr h ⟨_,rfl,q0j hr.eval _⟩)
 grind
theorem w3k (hr:Rel P w0 m0 s m ρ a w) {x:Operand} {i:Nat} (ho:o.op=.extract x i) (h:match qc8 s.ov s.base x with
  | .tup cs=>xf1 cs i λv=>k v .none
  | _=>False):Res P (To P w0 m0 s ρ nm a k) ((execOp a.eval o).run P w):=by
 have e':execOp a.eval o=(do pure (.value (<- Instr.extract (a.eval x) i))):=by grind [execOp]
 rw[e']
 have hx:=hr.eval x
 split at h
 ·rename_i cs hcs
  rw[hcs] at hx
  obtain⟨vs,r1,r2⟩:=hx
  rw[(zac r1).1]
  obtain⟨av,v,q1,q2,q3⟩:=wu1 h r2
  exact qf4 (v:=v) (w':=w) (by simp[Instr.extract,q2]) (To.same hr q1 q3)
 grind
theorem wu5 (hr:Rel P w0 m0 s m ρ a w) {x:Operand} (ho:o.op=.nilCheck x) (h:match qc8 s.ov s.base x with
  | .box g off=>k (.box g off) .none
  | .imm cs off=>k (.imm cs off) .none
  | .clo f caps=>k (.clo f caps) .none
  | _=>False):Res P (To P w0 m0 s ρ nm a k) ((execOp a.eval o).run P w):=by
 have hx:=hr.eval x
 generalize hav:qc8 s.ov s.base x=av at h hx
 have key:∀v,a.eval x=v->(v matches .pointer (some _)\/∃f cs,v=.func (.func f) #[] cs)->execOp a.eval o=pure (.value v):=by
  intro v hv hm
  unfold execOp
  grind
 split at h
 ·obtain⟨b,r1,r2⟩:=id hx
  rw[key _ (zac r2).1 (.inl rfl)]
  exact To.same hr h (by grind)
 ·obtain⟨ad,us,r1,r2⟩:=id hx
  rw[key _ (zac r1).1 (.inl rfl)]
  exact To.same hr h (by grind)
 ·obtain⟨cs,r1,r2⟩:=id hx
  rw[key _ (zac r1).1 (.inr ⟨_,_,rfl⟩)]
  exact To.same hr h (by grind)
 grind
theorem q6s {t:Nat} {T:TI} (hT:TIok P t T) (hk:Nat.beq T.kind 5=true) {f:Nat} {fl:Nat × Nat × Nat} (hf:T.flds[f]? = some fl) :
  ∃fields F j,P.underlying t=some (.struct fields)/\fields[f]? = some F/\F.offset=fl.1/\F.type=fl.2.1/\P.info? F.type=some j/\j.size=fl.2.2/\j.size≠0:=by
 obtain⟨fields,hu,q1,q2⟩:=hT.struct (zab hk)
 have h1:(fields.toList.map λF=>(F.offset,F.type))[f]? = some (fl.1,fl.2.1):=by grind
 grind
theorem wj2 (hC:∀t T,find C.tys t=some T->TIok P t T) (hr:Rel P w0 m0 s m ρ a w) {t f:Nat} {x:Operand} (ho:o.op=.fieldAddr t x f) (h:qd5 C t λT=>match Nat.beq T.kind 5 with
  | false=>False
  | true=>withSome T.flds[f]? λfl=>q6k fl.1 (qc8 s.ov s.base x) λv=>k v .none):Res P (To P w0 m0 s ρ nm a k) ((execOp a.eval o).run P w):=by
 obtain⟨T,hT,h⟩:=withSome_iff.1 h
 cases hk:Nat.beq T.kind 5 <;> rw[hk] at h
 ·grind
 obtain⟨fl,hf,h⟩:=withSome_iff.1 h
 obtain⟨fields,F,j,h1,h2,h3,h4,h5,h6,h7⟩:=q6s (hC t T hT) hk hf
 have e':execOp a.eval o=(do pure (.value (<- Instr.fieldAt t (a.eval x) f))):=by grind [execOp]
 rw[e']
 have hx:=hr.eval x
 generalize qc8 s.ov s.base x=av at h hx
 generalize a.eval x=u at hx
 have hrun:∀ad:Addr,(Instr.fieldAt t (.pointer (some ad)) f).run P w=.ok (.pointer (some (ad.add fl.1))) w:=by
  simp_all [Instr.fieldAt,run_underlying,Instr.sureAddr,fieldPlace,Go.sizeOf,typeInfo]
 unfold q6k at h
 split at h
 ·obtain⟨b,r1,r2⟩:=hx
  rw[(zac r2).1]
  refine qf4 (hrun _) (To.same hr h ⟨b,r1,?_⟩)
  rw[<- Ls.add_zero_lit,Ls.add_add,Ls.add_zero_lit]
 ·obtain⟨h0,ad,cs,r1,r2,r3⟩:=hx
  rw[(zac r1).1]
  refine qf4 (hrun _) (To.same hr h ⟨h0,ad,cs,?_,r2,r3⟩)
  rw[Ls.add_add,zca]
 ·obtain⟨b,n,c,r1,r2⟩:=hx
  rw[(zac r2).1]
  refine qf4 (hrun _) (To.same hr h ⟨b,n,c,r1,?_⟩)
  rw[<- Ls.add_zero_lit,Ls.add_add,Ls.add_zero_lit,zca]
 ·obtain⟨ad,us,r1,r2,r3⟩:=hx
  rw[(zac r1).1]
  refine qf4 (hrun _) (To.same hr h ⟨ad,us,?_,r2,r3⟩)
  rw[Ls.add_add]
 grind
theorem xg8 (hC:∀t T,find C.tys t=some T->TIok P t T) (hr:Rel P w0 m0 s m ρ a w) {t f:Nat} {x:Operand} (ho:o.op=.field t x f) (h:qd5 C t λT=>match Nat.beq T.kind 5 with
  | false=>False
  | true=>withSome T.flds[f]? λfl=>qd5 C fl.2.1 λE=>match qc8 s.ov s.base x with
   | .agg c=>q5n c E.agg fl.1 E.size λv=>k v .none
   | _=>False):Res P (To P w0 m0 s ρ nm a k) ((execOp a.eval o).run P w):=by
 obtain⟨T,hT,h⟩:=withSome_iff.1 h
 cases hk:Nat.beq T.kind 5 <;> rw[hk] at h
 ·grind
 obtain⟨fl,hf,h⟩:=withSome_iff.1 h
 obtain⟨E,hE,h⟩:=withSome_iff.1 h
 obtain⟨fields,F,j,h1,h2,h3,h4,h5,h6,h7⟩:=q6s (hC t T hT) hk hf
 have hEI:=hC _ E hE
 have e':execOp a.eval o=(do pure (.value (<- Instr.field t (a.eval x) f))):=by grind [execOp]
 rw[e']
 have hx:=hr.eval x
 split at h
 ·rename_i c hc
  rw[hc] at hx
  obtain⟨cs,r1,r2⟩:=hx
  rw[(zac r1).1]
  rcases w0i h r2 with⟨e,r,q1,q2,q3⟩ | ⟨e,av,v,q1,q2,q3⟩
  ·refine qf4 (v:=.agg ((cs.drop fl.1).take E.size).toArray) (w':=w) ?_ (To.same hr q1 ⟨_,rfl,q2⟩)
   have hag:=hEI.runAgg w
   have hsz:=hEI.runSize w
   rw[<- h4] at hag hsz
   have hex:cs.toArray.extract fl.1 (fl.1+E.size)=((cs.drop fl.1).take E.size).toArray:=by
    simp
   simp only[Instr.field,Sem.run_bind,run_underlying h1,Result.andThen_ok,h2,asAgg,Sem.run_pure,part,hag,e,if_true,hsz,h3,hex]
  ·refine qf4 (v:=v) (w':=w) ?_ (To.same hr q1 q3)
   clear h
   have hag:=hEI.runAgg w
   simp_all [Instr.field,run_underlying,asAgg,part]
 grind
theorem xg9 (hC:∀t T,find C.tys t=some T->TIok P t T) (hr:Rel P w0 m0 s m ρ a w) {t:Nat} {x y:Operand} (ho:o.op=.indexAddr t x y) (h:qd5 C t λT=>qd5 C T.elem λE=>asInt (qc8 s.ov s.base y) λ_ n=>q2y T E s.mem (qc8 s.ov s.base x) n λv=>k v .none) :
  Res P (To P w0 m0 s ρ nm a k) ((execOp a.eval o).run P w):=by
 obtain⟨T,hT,h⟩:=withSome_iff.1 h
 obtain⟨E,hE,h⟩:=withSome_iff.1 h
 obtain⟨j,n,hy,h⟩:=qj2 h (hr.eval y)
 have hEI:=hC _ E hE
 have e':execOp a.eval o=(do pure (.value (<- Instr.indexAt t (a.eval x) (a.eval y)))):=by grind [execOp]
 rw[e',hy]
 unfold q2y at h
 cases hk:Nat.beq T.kind 1 <;> rw[hk] at h
 ·cases hk4:Nat.beq T.kind 4 <;> rw[hk4] at h
  ·grind
  simp only[x61] at h
  split at h
  case h_2=>grind
  rename_i jn
  obtain⟨fl,hf,h⟩:=withSome_iff.1 h
  obtain⟨cnt,sz,hu,⟨ji,q1,q2⟩,q3,q4⟩:=(hC t T hT).arr (zab hk4)
  obtain⟨e1,e2⟩:=q4 jn fl hf
  have hrun:∀ad:Addr,(Instr.indexAt t (.pointer (some ad)) (.int j (Int.ofNat jn))).run P w=.ok (.pointer (some (ad.add fl.1))) w:=by
   intro ad
   have h7':¬ji.size=0:=ow
   have e3:(jn:Int)<(cnt:Int):=ow
   have e4:fl.1=jn*ji.size:=by grind
   rw[e4]
   simp[Instr.indexAt,asIntOf,run_underlying hu,Instr.sureAddr,Go.sizeOf,typeInfo,q1,h7',e3,go_sem]
   omega
  have hx:=hr.eval x
  generalize qc8 s.ov s.base x=av at h hx
  generalize a.eval x=u at hx
  unfold q6k at h
  split at h
  ·obtain⟨b,r1,r2⟩:=hx
   rw[(zac r2).1]
   refine qf4 (hrun _) (To.same hr h ⟨b,r1,?_⟩)
   rw[<- Ls.add_zero_lit,Ls.add_add,Ls.add_zero_lit]
  ·obtain⟨h0,ad,cs,r1,r2,r3⟩:=hx
   rw[(zac r1).1]
   refine qf4 (hrun _) (To.same hr h ⟨h0,ad,cs,?_,r2,r3⟩)
   rw[Ls.add_add,zca]
  ·obtain⟨b,n,c,r1,r2⟩:=hx
   rw[(zac r2).1]
   refine qf4 (hrun _) (To.same hr h ⟨b,n,c,r1,?_⟩)
   rw[<- Ls.add_zero_lit,Ls.add_add,Ls.add_zero_lit,zca]
  ·obtain⟨ad,us,r1,r2,r3⟩:=hx
   rw[(zac r1).1]
   refine qf4 (hrun _) (To.same hr h ⟨ad,us,?_,r2,r3⟩)
   rw[Ls.add_add]
  grind
 have hu:=(hC t T hT).slice (zab hk)
 have hx:=hr.eval x
 generalize qc8 s.ov s.base x=av at h hx
 generalize a.eval x=u at hx
 have hrun:∀(ad:Addr) (len c:Nat),0<=n->n<len->(Instr.indexAt t (.slice (some ad) len c) (.int j n)).run P w=.ok (.pointer (some (ad.add (n.toNat*E.size)))) w:=by
  intro ad len c h0 h1
  have hsz:=hEI.runSize w
  simp[Instr.indexAt,asIntOf,run_underlying hu,h0,h1,hsz,go_sem]
 simp only at h
 split at h
 ·rename_i t' l
  cases hb:Nat.beq t'.size E.size <;> rw[hb] at h
  ·grind
  have hb:=zab hb
  obtain⟨⟨h0,h1⟩,h⟩:=h
  obtain⟨A,c,r1,r2,r3,r4⟩:=hx
  obtain⟨ad,rfl,r5⟩:=r4 ow
  rw[(zac r1).1]
  obtain⟨cs,q1,q2⟩:=r5 n.toNat ow
  refine qf4 (hrun ad _ _ h0 h1) (To.same hr h ⟨ow,ad,cs,?_,q1,q2⟩)
  grind
 ·rename_i t' l
  cases hb:Nat.beq t'.size E.size <;> rw[hb] at h
  ·grind
  have hb:=zab hb
  obtain⟨⟨h0,h1⟩,h⟩:=h
  obtain⟨⟨A,c,r1,r2,r3,r4⟩,_⟩:=hx
  obtain⟨ad,rfl,r5⟩:=r4 ow
  rw[(zac r1).1]
  obtain⟨cs,q1,q2⟩:=r5 n.toNat ow
  refine qf4 (hrun ad _ _ h0 h1) (To.same hr h ⟨ow,ad,cs,?_,q1,q2⟩)
  grind
 ·rename_i g
  split at h
  ·rename_i e t' l hm
   cases hb:Nat.beq t'.size E.size <;> rw[hb] at h
   ·grind
   have hb:=zab hb
   obtain⟨⟨h0,h1⟩,h⟩:=h
   have ho:=hr.objs g
   rw[hm] at ho
   obtain⟨v,vs,q1,q2,q3,q4⟩:=ho
   obtain⟨v',⟨r1,_⟩,r2⟩:=hx
   rw[q1] at r1
   obtain rfl:=zaa r1
   rw[(zac r2).1]
   rcases q3.2 with⟨_,q⟩ | ⟨g',cap,cur,rfl,p1,p2,p3,p4,p5,p6⟩
   ·omega
   ·refine qf4 (hrun _ _ _ h0 h1) (To.same hr h ⟨g',_,_,q1,?_⟩)
    rw[Ls.add_zero_lit,zbv,hb]
  grind
 ·rename_i g jj
  split at h
  ·rename_i eh e t' rows ix lt hm
   have ho:=hr.objs g
   rw[hm] at ho
   obtain⟨hs,q1,q2,q3⟩:=ho
   obtain⟨hs',v,r1,⟨r2,r3⟩,r4⟩:=hx
   rw[q1] at r1
   obtain rfl:=qf1 (zaa r1)
   rw[(zac r4).1]
   cases jj with
   | none=>
    cases hb:Nat.beq E.size 1 <;> simp only[hb] at h
    have hb:=zab hb
    obtain⟨⟨h0,h1⟩,h⟩:=h
    obtain⟨cs,k1,k2⟩:=q2.headAt r2
    rcases k1.2 with⟨_,q⟩ | ⟨g',cap,cur,rfl,p1,p2,p3,p4,p5,p6⟩
    ·omega
    ·refine qf4 (hrun _ _ _ h0 h1) (To.same hr h ⟨hs,g',_,_,q1,r2,?_⟩)
     rw[Ls.add_zero_lit,zbv,hb]
     rfl
   | some p=>
    cases hb:Nat.beq t'.size E.size <;> simp only[hb] at h
    have hb:=zab hb
    obtain⟨⟨h0,h1⟩,h⟩:=h
    obtain⟨hp,vs,k1,k2⟩:=q2.rowAt r2
    rcases k2.2 with⟨_,q⟩ | ⟨g',cap,cur,rfl,p1,p2,p3,p4,p5,p6⟩
    ·omega
    ·refine qf4 (hrun _ _ _ h0 h1) (To.same hr h ⟨hs,g',_,_,q1,r2,?_⟩)
     rw[Ls.add_zero_lit,zbv,hb]
  grind
 grind
theorem wj3 (hC:∀t T,find C.tys t=some T->TIok P t T) (hr:Rel P w0 m0 s m ρ a w) (hf:Free s ρ nm) {t:Nat} {x y:Operand} (ho:o.op=.makeSlice t x y) (h:qd5 C t λT=>qd5 C T.elem λE=>match Nat.beq T.kind 1,Nat.beq E.ty.size E.size,E.dflt with
  | true,true,true=>asInt (qc8 s.ov s.base x) λ_ n=>asInt (qc8 s.ov s.base y) λ_ m=>need (m=n/\0<=n/\n<=1000000) λ_=>k (.own nm) (.new (.vec T.elem E.ty (List.replicate n.toNat E.ty.dflt)))
  | _,_,_=>False):Res P (To P w0 m0 s ρ nm a k) ((execOp a.eval o).run P w):=by
 obtain⟨T,hT,h⟩:=withSome_iff.1 h
 obtain⟨E,hE,h⟩:=withSome_iff.1 h
 have hb:Nat.beq T.kind 1=true/\Nat.beq E.ty.size E.size=true/\E.dflt=true:=by
  grind
 obtain⟨b1,b2,b3⟩:=hb
 rw[b1,b2,b3] at h
 obtain⟨j,n,hx,h⟩:=qj2 h (hr.eval x)
 obtain⟨j',n',hy,h⟩:=qj2 h (hr.eval y)
 obtain⟨⟨rfl,h0,h1⟩,h⟩:=h
 have hEI:=hC _ E hE
 obtain⟨i,z,i1,i2,i3,i4,i5,i6,i7,i8⟩:=hEI.info
 have e':execOp a.eval o=(do pure (.value (<- Instr.makeSlice t (a.eval x) (a.eval y)))):=by grind [execOp]
 rw[e',hx,hy]
 have hn:((n'.toNat:Nat):Int)=n':=ow
 have hby:i.bytes*n'.toNat<=1000000*1000000:=zbb (by rw[i3]; exact hEI.small) ow
 obtain⟨w',q1,q2,q3⟩:=run_make_full (P:=P) w w.heap.size t T.elem i z E.size ((hC t T hT).slice (zab b1)) i1 i4 i2 j j' n'.toNat ow (by grind [maxLen]) (zad _)
 rw[hn] at q1
 have hb2:=zab b2
 have hcells:RdL m E.ty (List.replicate n'.toNat E.ty.dflt) (madeCells z.cells (n'.toNat*E.size)).toList:=by
  have hz:=i8 b3 m
  have hzl:z.cells.toList.length=E.size:=ow
  generalize n'.toNat=N
  have key:∀N,RdL m E.ty (List.replicate N E.ty.dflt) ((List.replicate N z).flatMap λv=>v.cells.toList):=by
   intro N
   induction N with
   | zero=>rfl
   | succ N ih=>exact⟨z.cells.toList,_,by rfl,hz,ih⟩
  have e:(madeCells z.cells (N*E.size)).toList=(List.replicate N z).flatMap λv=>v.cells.toList:=by
   apply List.ext_getElem?
   intro q
   have hpos:0<E.size:=zdd hEI.pos
   rw[Great.flat_get hpos (List.replicate N z) (λv hv=>by grind) q]
   simp only[madeCells,Array.toList_map,List.getElem?_map]
   by_cases hq:q<N*E.size
   ·have hd:q / E.size<N:=zc5 (by grind)
    grind [Nat.mod_lt,Array.toList_range,List.getElem?_range,List.getElem?_replicate_of_lt]
   grind [Nat.div_lt_iff_lt_mul]
  grind
 refine qf4 q1 (q8y (T:=E.ty) hr hf h hcells (Ls.below_none q3) ?_ rfl)
 grind
theorem q8z {t:Ty} (hρ:∀v∈ρ,Value.oneCell' v=true) (ρ':Operand->Value) (ρa:Operand->AV) (he:∀x,(ρa x).ok P m ρ [ρ' x]) {K:List t.den->Prop}:∀(parts:List (Nat × Operand)) (j:Nat),q0a t (parts.map λp=>(p.1,ρa p.2)) j K ->
  ∃l,K l/\RdL m t l ((parts.map λp=>ρ' p.2).flatMap λv=>v.cells.toList)/\(∀v∈parts.map λp=>ρ' p.2,v.cells.size=t.size)/\(parts.map λp=>(p.1,ρ' p.2))=((parts.map λp=>ρ' p.2).zipIdx j).map λx=>(x.2,x.1)
 | [],j,h=>⟨[],h,rfl,by simp,rfl⟩
 | (i,x) :: r,j,h=>by
  simp only[List.map_cons,q0a] at h
  split at h
  ·rename_i hij
   have hij:=zab hij
   subst hij
   obtain⟨d,h1,h2⟩:=wa0 h (he x) hρ
   obtain⟨l,k1,k2,k3,k4⟩:=q8z hρ ρ' ρa he r (i+1) h2
   refine⟨d :: l,k1,⟨_,_,by simp,h1,k2⟩,λv hv=>?_,by simp[k4]⟩
   rcases zao.1 hv with rfl | hv
   all_goals grind [w6j]
  grind
theorem w0l {t e n:Nat} {E:TI} (hu:P.underlying t=some (.slice e)) (hE:TIok P e E) {parts:Array (Nat × Value)} {vs:List Value} (hvs:∀v∈vs,v.cells.size=E.size) (hn:vs.length=n) (hn2:n<=1000)
  (hp:parts.toList=(vs.zipIdx 0).map λx=>(x.2,x.1)):(Instr.buildSlice t n parts).run P w=.ok (.slice (some ⟨w.heap.size,0,none⟩) n n) (w.alloc (.cells (vs.flatMap λv=>v.cells.toList).toArray e)):=by
 obtain⟨i,z,i1,i2,i3,i4,i5,i6,i7,i8⟩:=hE.info
 have hpos:0<E.size:=zdd hE.pos
 by_cases h0:n=0
 ·subst h0
  obtain rfl:vs=[]:=zay hn
  have hp':parts=#[]:=by simp_all
  subst hp'
  simp[Instr.buildSlice,run_underlying hu,Go.sizeOf,typeInfo,i1,i2,Instr.fill,newRow,go_sem]
 ·have hmul:n*E.size<=1000*10000:=zbb hn2 hE.little
  grind [Nat.mul_eq_zero,run_buildSlice,Great.fill_whole]
theorem wa1 {pool:Bool} (hC:∀t T,find C.tys t=some T->TIok P t T) (hr:Rel P w0 m0 s m ρ a w) (hf:Free s ρ nm) {t n:Nat} {parts:Array (Nat × Operand)} (ho:o.op=.buildSlice t n parts) (h:qd5 C t λT=>qd5 C T.elem λE=>match Nat.beq T.kind 1,Nat.beq E.ty.size E.size,Nat.beq parts.toList.length n,Nat.ble n 1000 with
  | true,true,true,true=>qh5 pool nm T.elem E s.mem (parts.toList.map λp=>(p.1,qc8 s.ov s.base p.2)) k
  | _,_,_,_=>False):Res P (To P w0 m0 s ρ nm a k) ((execOp a.eval o).run P w):=by
 obtain⟨T,hT,h⟩:=withSome_iff.1 h
 obtain⟨E,hE,h⟩:=withSome_iff.1 h
 have hb:Nat.beq T.kind 1=true/\Nat.beq E.ty.size E.size=true/\Nat.beq parts.toList.length n=true/\Nat.ble n 1000=true:=by
  grind
 obtain⟨b1,b2,b3,b4⟩:=hb
 rw[b1,b2,b3,b4] at h
 have b1:=zab b1
 have b2:=zab b2
 have b3:=zab b3
 have b4:=zbh b4
 have hEI:=hC _ E hE
 obtain⟨i,z,i1,i2,i3,i4,i5,i6,i7,i8⟩:=hEI.info
 have e':execOp a.eval o=(do pure (.value (<- Instr.buildSlice t n (parts.map λ(i,x)=>(i,a.eval x))))):=by unfold execOp; rw[ho]
 rw[e']
 have hu:=(hC t T hT).slice b1
 have hparts:(parts.map λ(i,x)=>(i,a.eval x)).toList=parts.toList.map λp=>(p.1,a.eval p.2):=by simp
 have h:qh5 pool nm T.elem E s.mem (parts.toList.map λp=>(p.1,qc8 s.ov s.base p.2)) k:=h
 unfold qh5 at h
 split at h
 ·rename_i hpl
  have hp0:parts.toList=[]:=by simpa using hpl
  have hk:k (.own nm) (.new (.vec T.elem E.ty [])):=h
  have hn0:n=0:=by rw[<- b3,hp0]; rfl
  subst hn0
  have hrun:=w0l (w:=w) (n:=0) (parts:=parts.map λ(i,x)=>(i,a.eval x)) (vs:=[]) hu hEI (λu hu=>by cases hu) rfl b4 (by rw[hparts,hp0]; rfl)
  refine qf4 hrun (q8y hr hf hk (vs:=[]) rfl (Ls.below_alloc w _) ⟨(zeb _).symm,.inr ⟨w.heap.size,0,#[],rfl,zad _,?_,zad _,by unfold maxLen; omega,(zeb _).symm,by simp⟩⟩ rfl)
  ·exact heap_alloc_new w _
 ·rename_i g hpl
  split at h
  ·rename_i ee t' l hm
   have hty:t'.list=E.ty:=by
    grind [qg0]
   replace hty:=hty.symm
   have hl1:∃x,parts.toList=[(0,x)]/\qc8 s.ov s.base x=.own g:=by
    cases hq:parts.toList with
    | nil=>rw[hq] at hpl; cases hpl
    | cons p r=>
     rw[hq] at hpl
     cases r with
     | nil=>
      grind
     | cons p' r'=>simp at hpl
   obtain⟨x,hx1,hx2⟩:=hl1
   have hx:=hr.eval x
   rw[hx2] at hx
   obtain⟨v,⟨q1,hvsl⟩,q2⟩:=hx
   cases pool with
   | true=>
    have hk:k (.msl nm .none) (.eatN g (.mat T.elem ee t' [l] .none .none)):=by
     obtain⟨hty',h⟩:=qg0 h
     have:∀(tt:Ty) (h0:t'.list=tt),∃l':List tt.den,HEq [l] l':=λtt h0=>by subst h0; exact⟨[l],HEq.rfl⟩
     obtain⟨l',hl'⟩:=this E.ty hty'
     exact h l' hl'
    clear h
    have ho:=hr.objs g
    rw[hm] at ho
    obtain⟨v',vs,o1,o2,o3,o4⟩:=ho
    rw[q1] at o1
    obtain rfl:=zaa o1
    have hvc:v.cells=#[v]:=by rcases o3.2 with⟨rfl,_⟩ | ⟨_,_,_,rfl,_⟩ <;> rfl
    have hx3:a.eval x=v:=(zac q2).1
    have hn1:n=1:=by rw[<- b3,hx1]; rfl
    subst hn1
    have hrun:=w0l (w:=w) (n:=1) (parts:=parts.map λ(i,x)=>(i,a.eval x)) (vs:=[v]) hu hEI (λu hu=>by simp at hu; subst hu; rw[hvc,<- b2,hty]; rfl) rfl b4 (by rw[hparts,hx1]; simp[hx3])
    have hfl:([v].flatMap λv=>v.cells.toList)=[v]:=by simp[hvc]
    rw[hfl] at hrun
    have hb:=Ls.below_alloc w (.cells [v].toArray T.elem)
    have hr1:=hr.grow hb (View.le_refl m) (View.on_below hr.view hb) (λ_ _ hb=>.inl hb)
    obtain⟨hr2,hL⟩:=hr1.forget (g:=g) (by rw[hm]; rfl) q1 (by rcases o3.2 with⟨e,_⟩ | ⟨_,_,_,e,_⟩ <;> (rw[e]; rfl))
    have hlen2:(qc7 (qb7 g .any s.mem) g .dead).length=s.mem.length:=by rw[qc9 _ _ _ (by rw[qa9]; exact qd6 (by rw[hm]; rfl)),qa9]
    have hf2:Free ⟨qg8 g .any s.ov,λi=>AV.subst g .any (s.base i),qc7 (qb7 g .any s.mem) g .dead⟩ ρ nm:=by
     grind [Free]
    have hnone:m w.heap.size=none:=by
     cases hm':m w.heap.size with
     | none=>rfl
     | some ob=>have:=View.lt hr.view hm'; omega
    have hgn:nm≠g:=λe=>by
     rcases hf with e' | ⟨_,b,e'⟩
     ·have:=qd6 (m:=s.mem) (g:=g) (by rw[hm]; rfl); omega
     ·rw[e,q1] at e'; have:=zaa e'; subst this; cases hvsl
    have hown:=World.ownsRow_lit (base:=w0.n) (e:=T.elem) (size:=1) w #[v] 1 hr.below.size (by unfold maxLen; omega) rfl
    have hown2:=qo4 (w':=w.alloc (.cells [v].toArray T.elem)) o3 λb hb'=>hb.block b (own_blk o3 hb').2.1
    refine qf4 hrun ⟨_,_,m,nput ρ nm (qf7 [.slice (some ⟨w.heap.size,0,none⟩) 1 1,v]),hk,Pads.nput hr.len hf _,⟨_,_,qh0 hr.len hf _,⟨rfl,rfl⟩,rfl⟩,?_⟩
    refine hr2.addObjG hf2 (o:=.mat T.elem ee t' [l] .none .none) ⟨_,qh0 hr.len hf _,⟨rfl,⟨[v],hown,λi p hip=>?_⟩,λp hp=>?_,λi j u u' b hne hu hu' hb1 hb2=>?_,λu b hu hbu=>?_⟩,λT hT=>by cases hT⟩ (λb hb'=>?_) rfl
    ·simp only[ixL,List.length_cons,List.length_nil] at hip
     grind
    ·have:p=0:=by simpa using hp
     subst this
     exact⟨vs,o2,hown2⟩
    ·have hw:∀b,blk v=some b->b≠w.heap.size:=λb hb' e=>by have:=(own_blk o3 hb').2.1; omega
     match i,j,hu,hu' with
     | 0,0,_,_=>exact hne rfl
     | 0,1,hu,hu'=>
      obtain rfl:=zaa hu
      obtain rfl:=zaa hu'
      grind [blk,Option.some.injEq]
     | 1,0,hu,hu'=>
      obtain rfl:=zaa hu
      obtain rfl:=zaa hu'
      grind [blk,Option.some.injEq]
     | 1,1,_,_=>exact hne rfl
     | 0,j+2,_,hu'=>simp at hu'
     | 1,j+2,_,hu'=>simp at hu'
     | i+2,j,hu,_=>simp at hu
    ·rcases zao.1 hu with rfl | hu
     ·grind [blk,Option.some.injEq]
     ·obtain rfl:=zar.1 hu
      exact o4 b ((qh6 o3).1 hbu)
    ·obtain⟨u,hu,hbu⟩:=qd7.1 hb'
     rcases zao.1 hu with rfl | hu
     ·simp only[blk,Option.some.injEq] at hbu
      subst hbu
      refine⟨hr.below.new (zad _),λg' u' hl' hu' hb2=>?_⟩
      obtain⟨y,y1,y2⟩:=(hr2.objs g').blk_lt hl'
      rw[hu'] at y1; obtain rfl:=zaa y1
      have hl'':(qa1 (qc7 (qb7 g .any s.mem) g .dead) g').live=true:=hl'
      rw[qd1 _ _ _ _ (by rw[qa9]; exact qd6 (by rw[hm]; rfl)),qe7] at hl''
      split at hl''
      ·cases hl''
      ·have hl3:(qa1 s.mem g').live=true:=by cases hq:qa1 s.mem g' <;> rw[hq] at hl'' <;> first | rfl | exact hl''
       have:=hr.blkLt g' u' _ hl3 hu' hb2
       omega
     ·obtain rfl:=zar.1 hu
      have:=hL b (by
       have h1:=(qh6 o3).1 hbu
       exact qg7 h1)
      exact⟨this.1.2.2.1,this.1.2.2.2⟩
   | false=>
   obtain⟨hty9,h⟩:=qg0 h
   obtain⟨m',hm',hr',hrd⟩:=hr.freeze (nm:=nm) hm
   have hv:=hrd v q1
   have hvc:v.cells=#[v]:=by obtain⟨A,c,e,_⟩:=hv; rw[(zac e).1]; rfl
   have hx3:a.eval x=v:=(zac q2).1
   have h2:∀hE2:E.ty=.list t',∃l':List E.ty.den,HEq [l] l'/\RdL m' E.ty l' [v]:=by
    intro hE2
    rw[hE2]
    exact⟨[l],HEq.rfl,[v],[],rfl,hv,rfl⟩
   obtain⟨l',hl',hrl⟩:=h2 hty
   have hlen1:l'.length=1:=by
    have:=RdL.length hrl
    have hs1:E.ty.size=1:=by rw[hty]; rfl
    grind
   have hrun:=w0l (w:=w) (n:=n) (parts:=parts.map λ(i,x)=>(i,a.eval x)) (vs:=[v]) hu hEI (λu hu=>by simp at hu; subst hu; rw[hvc,<- b2,hty]; rfl) (by rw[<- b3,hx1]; rfl) b4 (by rw[hparts,hx1]; simp[hx3])
   obtain⟨m'',k1,k2,k3⟩:=w0k (e:=T.elem) hr' hrl (by grind [maxLen])
   have hn1:n=1:=by rw[<- b3,hx1]; rfl
   refine qf4 hrun ⟨_,_,m'',ρ,h l' hl',Pads.refl _ _,?_,?_⟩
   ·rw[hlen1,hn1] at *; exact k3
   grind
  ·exact h.elim
 ·have h:q0a E.ty (parts.toList.map λp=>(p.1,qc8 s.ov s.base p.2)) 0 λl=>match pool with
    | true=>k (.own nm) (.new (.vec T.elem E.ty l))
    | false=>k (.dat E.ty l) .none:=by cases pool <;> exact h
  obtain⟨l,k1,k2,k3,k4⟩:=q8z hr.hdr a.eval (qc8 s.ov s.base) hr.eval parts.toList 0 h
  have hlen:l.length=n:=by
   have hh:=RdL.length k2
   have:∀(vs:List Value),(∀v∈vs,v.cells.size=E.ty.size)->(vs.flatMap λv=>v.cells.toList).length=vs.length*E.ty.size:=by
    intro vs
    induction vs with
    | nil=>intro _; simp
    | cons v vs ih=>
     grind
   grind [Nat.eq_of_mul_eq_mul_right,Ty.size_pos]
  have hrun:=w0l (w:=w) (n:=n) (parts:=parts.map λ(i,x)=>(i,a.eval x)) (vs:=parts.toList.map λp=>a.eval p.2) hu hEI (λv hv=>by rw[k3 v hv,b2]) (by rw[<- b3]; simp) b4 (by rw[hparts,k4])
  cases pool with
  | true=>
   have hrl:=RdL.length k2
   have hown:=World.ownsRow_lit (base:=w.heap.size) (e:=T.elem) (size:=E.ty.size) w ((parts.toList.map λp=>a.eval p.2).flatMap λv=>v.cells.toList).toArray n (zad _) (by unfold maxLen; omega) (by grind)
   refine qf4 hrun (q8y hr hf k1 k2 (Ls.below_alloc w _) ?_ rfl)
   grind
  | false=>
  obtain⟨m',q1,q2,q3⟩:=w0k (e:=T.elem) hr k2 (by rw[hlen]; unfold maxLen; omega)
  refine qf4 hrun ⟨_,.none,m',ρ,k1,Pads.refl _ _,?_,q2⟩
  rw[hlen] at q3; exact q3
end
end Eng
set_option linter.unusedVariables false
set_option linter.unusedSimpArgs false
namespace Eng
open Go Go.RowKit
section
variable {P : Program} {w0 : Base} {m0 : View} {s : St} {nm : Nat} {m : View} {ρ : List Value} {a : Act} {w : World} {k : AV -> Eff -> Prop} {o : Oper} {C : Ctx}
theorem xv3 {t:Ty} {ad:Addr}:∀(l:List t.den) (X:Nat),(∀i,i<l.length->∃cs:List Value,Rd m t (qe5 t l i) cs/\∀j v,cs[j]? = some v->m.cell (ad.add (X+i*t.size+j))=some v) ->
  ∃news:List Value,RdL m t l news/\∀j v,news[j]? = some v->m.cell (ad.add (X+j))=some v
 | [],X,_=>⟨[],rfl,λj v h=>by grind⟩
 | x :: l,X,h=>by
  obtain⟨cs,h1,h2⟩:=h 0 (by simp)
  obtain⟨news,k1,k2⟩:=xv3 l (X+t.size) (λi hi=>by
   obtain⟨cs,q1,q2⟩:=h (i+1) (by grind)
   refine⟨cs,by grind [qe5],λj v hj=>?_⟩
   have:=q2 j v hj
   rw[show X+(i+1)*t.size+j=X+t.size+i*t.size+j by grind] at this
   exact this)
  refine⟨cs++news,⟨cs,news,rfl,by grind [qe5],k1⟩,λj v hj=>?_⟩
  grind [Rd.length,Nat.lt_or_ge,List.getElem?_append_left,List.getElem?_append_right]
theorem wj4 {t:Ty} {x:AV} {K:List t.den->Prop} {u:Value} (hr:Rel P w0 m0 s m ρ a w) (h:q20 t s.mem x K) (hx:x.ok P m ρ [u]) :
  ∃l A c news,K l/\u=.slice A l.length c/\RdL m t l news/\(0<l.length->∃ad,A=some ad/\∀j v,news[j]? = some v->w.cell? (ad.add j)=some v):=by
 unfold q20 at h
 split at h
 ·rename_i t' l
  obtain⟨rfl,h⟩:=qg0 h
  obtain⟨A,c,r1,r2,r3,r4⟩:=hx
  obtain rfl:=(zac r1).1
  by_cases hl:0<l.length
  ·obtain⟨ad,rfl,r5⟩:=r4 hl
   obtain⟨news,q1,q2⟩:=xv3 (ad:=ad) l 0 (λi hi=>by simpa using r5 i hi)
   exact⟨l,_,c,news,h l HEq.rfl,rfl,q1,λ_=>⟨ad,rfl,λj v hj=>View.cell_on hr.view (by grind)⟩⟩
  ·have:l=[]:=zay ow
   subst this
   exact⟨[],A,c,[],h [] HEq.rfl,rfl,rfl,λhh=>absurd hh (by simp)⟩
 ·rename_i g
  split at h
  ·rename_i e t' l hm
   obtain⟨rfl,h⟩:=qg0 h
   have ho:=hr.objs g
   rw[hm] at ho
   obtain⟨v,vs,q1,q2,q3,q4⟩:=ho
   obtain⟨v',⟨r1,_⟩,r2⟩:=hx
   rw[q1] at r1
   obtain rfl:=zaa r1
   obtain rfl:=(zac r2).1
   rcases q3.2 with⟨rfl,q⟩ | ⟨g',cap,cur,rfl,p1,p2,p3,p4,p5,p6⟩
   ·grind
   ·refine⟨l,_,cap,vs,h l HEq.rfl,rfl,q2,λ_=>⟨_,rfl,λj v hj=>?_⟩⟩
    grind [Ls.add_zero_lit,qu2]
  grind
 ·rename_i g jj
  split at h
  ·rename_i eh e t' rows ix lt p hm
   obtain⟨rfl,h⟩:=qg0 h
   have ho:=hr.objs g
   rw[hm] at ho
   obtain⟨hs,q1,q2,q3⟩:=ho
   obtain⟨hs',v,r1,⟨r2,r3⟩,r4⟩:=hx
   rw[q1] at r1
   obtain rfl:=qf1 (zaa r1)
   obtain rfl:=(zac r4).1
   obtain⟨hp,vs,k1,k2⟩:=q2.rowAt r2
   rcases k2.2 with⟨rfl,q⟩ | ⟨g',cap,cur,rfl,p1,p2,p3,p4,p5,p6⟩
   ·grind
   ·refine⟨_,_,cap,vs,h _ HEq.rfl,rfl,k1,λ_=>⟨_,rfl,λj v hj=>?_⟩⟩
    grind [Ls.add_zero_lit,qu2]
  grind
 ·rename_i v
  cases hn:isNil v <;> rw[hn] at h
  ·grind
  have hv:v=.slice none 0 0:=by
   cases v <;> first | cases hn | skip
   rename_i A n c
   cases A <;> first | cases hn | skip
   cases n <;> cases c <;> first | rfl | cases hn
  subst hv
  obtain rfl:=(zac (show[u]=[_] from hx)).1
  exact⟨[],none,0,[],h,rfl,rfl,λhh=>absurd hh (by simp)⟩
 grind
theorem qu3 {ρa:Operand->AV} {ρ':Operand->Value} (he:∀x,(ρa x).ok P m ρ [ρ' x]) {b:Option Operand} {d:Int} {K:Int->Prop} (h:bound ρa b d K):∃n,K n/\((b=none/\n=d)\/∃x j,b=some x/\ρ' x=.int j n):=by
 unfold bound at h
 split at h
 ·grind
 ·rename_i x
  obtain⟨j,n,h1,h2⟩:=qj2 h (he x)
  grind
theorem q6t {t e:Nat} {E:TI} (hu:P.underlying t=some (.slice e)) (hE:TIok P e E) {A:Option Addr} {n c:Nat} {lo hi:Option Operand} {ρ':Operand->Value} {x y:Int} (hc:n<=c)
  (hlo:(lo=none/\x=0)\/∃q j,lo=some q/\ρ' q=.int j x) (hhi:(hi=none/\y=n)\/∃q j,hi=some q/\ρ' q=.int j y) (h0:0<=x) (h1:x<=y) (h2:y<=n) :
  (Instr.sliceAt t (.slice A n c) (lo.map ρ') (hi.map ρ') none).run P w=.ok (.slice (if c=x.toNat then A else A.map (·.add (x.toNat*E.size))) (y.toNat-x.toNat) (c-x.toNat)) w:=by
 have hsz:=hE.runSize w
 have hyc:y<=c:=ow
 have h0y:0<=y:=ow
 have v1:(lo.map ρ'=none/\x=0)\/∃j,lo.map ρ'=some (.int j x):=by
  grind
 have v2:(hi.map ρ'=none/\y=n)\/∃j,hi.map ρ'=some (.int j y):=by
  grind
 generalize lo.map ρ'=L at v1
 generalize hi.map ρ'=H at v2
 have q1:x<=max y 0:=ow
 have q2:¬max y 0<x:=ow
 have q3:(n:Int).toNat=n:=ow
 rcases v1 with⟨rfl,hx⟩ | ⟨j,rfl⟩ <;> rcases v2 with⟨rfl,hy⟩ | ⟨j',rfl⟩
 ·simp_all [Instr.sliceAt,Instr.slice,Instr.sliceBounds,Instr.sliceBound,asIntOf,run_underlying]
 ·simp_all [Instr.sliceAt,Instr.slice,Instr.sliceBounds,Instr.sliceBound,asIntOf,run_underlying]
 all_goals simp_all [Instr.sliceAt,Instr.slice,Instr.sliceBounds,Instr.sliceBound,asIntOf,run_underlying]
theorem wa2 {t:Nat} (hu:P.underlying t=some .string) {s:ByteArray} {lo hi:Option Operand} {ρ':Operand->Value} {x y:Int}
  (hlo:(lo=none/\x=0)\/∃q j,lo=some q/\ρ' q=.int j x) (hhi:(hi=none/\y=s.size)\/∃q j,hi=some q/\ρ' q=.int j y) (h0:0<=x) (h1:x<=y) (h2:y<=s.size) :
  (Instr.sliceAt t (.string s) (lo.map ρ') (hi.map ρ') none).run P w=.ok (.string (s.extract x.toNat y.toNat)) w:=by
 have h0y:0<=y:=ow
 have v1:(lo.map ρ'=none/\x=0)\/∃j,lo.map ρ'=some (.int j x):=by
  grind
 have v2:(hi.map ρ'=none/\y=s.size)\/∃j,hi.map ρ'=some (.int j y):=by
  grind
 generalize lo.map ρ'=L at v1
 generalize hi.map ρ'=H at v2
 have q1:x<=max y 0:=ow
 have q2:¬max y 0<x:=ow
 rcases v1 with⟨rfl,hx⟩ | ⟨j,rfl⟩ <;> rcases v2 with⟨rfl,hy⟩ | ⟨j',rfl⟩
 all_goals simp_all [Instr.sliceAt,Instr.slice,Instr.sliceBounds,Instr.sliceBound,asIntOf,run_underlying]
theorem wa3 {t:Nat} (hu:P.underlying t=some .string) {s:ByteArray} {j:IntKind} {n:Int} (h0:0<=n) (h1:n<s.size):(Instr.index t (.string s) (.int j n)).run P w=.ok (.int .u8 (byteAt s n.toNat)) w:=by
 simp_all [getElem?_pos,byteAt,Instr.index,asIntOf,run_underlying]
end
end Eng
