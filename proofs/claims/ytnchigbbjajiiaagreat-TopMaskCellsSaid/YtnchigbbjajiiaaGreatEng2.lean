/- One operation over abstract values is one operation over worlds: sixth part. No condition. -/
import Derived.Test.YtnchigbbjajiiaaGreatEng1
import Derived.MapKept
import Derived.Lib.SliceRun
import Derived.OrdersIn
import Derived.Test.YtnchigbbjajiiaaGreatRnd
set_option linter.unusedVariables false
set_option linter.unusedSimpArgs false
namespace Eng
open Go Go.RowKit
section
variable {P : Program} {w0 : Base} {m0 : View} {s : St} {nm : Nat} {m : View} {ρ : List Value} {a : Act} {w : World} {k : AV -> Eff -> Prop} {o : Oper} {C : Ctx}
theorem w6m {t:Ty} {l:List t.den} {A:Option Addr} {c:Nat} {x y:Nat} (h:Rd m (.list t) l [.slice A l.length c]) (h1:x<=y) (h2:y<=l.length) :
  Rd m (.list t) ((l.take y).drop x) [.slice (if c=x then A else A.map (·.add (x*t.size))) (y-x) (c-x)]:=by
 obtain⟨A',c',r1,r2,r3,r4⟩:=h
 have r1:=(zac r1).1
 injection r1 with e1 e2 e3
 subst e1; subst e3
 have hlen:((l.take y).drop x).length=y-x:=by grind
 refine⟨_,_,by rw[hlen],ow,ow,λhl=>?_⟩
 rw[hlen] at hl
 obtain⟨ad,rfl,r5⟩:=r4 ow
 rw[zai ow]
 refine⟨ad.add (x*t.size),rfl,λi hi=>?_⟩
 rw[hlen] at hi
 obtain⟨cs,k1,k2⟩:=r5 (x+i) ow
 have e:qe5 t ((l.take y).drop x) i=qe5 t l (x+i):=by
  unfold qe5
  grind
 grind [Ls.add_add,Nat.add_mul]
theorem w6n (hC:∀t T,find C.tys t=some T->TIok P t T) (hr:Rel P w0 m0 s m ρ a w) {t:Nat} {x:Operand} {lo hi mx:Option Operand} (ho:o.op=.slice t x lo hi mx)
  (h:qd5 C t λT=>qd5 C T.elem λE=>q0b T E (qc8 s.ov s.base) s.mem (qc8 s.ov s.base x) lo hi mx k):Res P (To P w0 m0 s ρ nm a k) ((execOp a.eval o).run P w):=by
 obtain⟨T,hT,h⟩:=withSome_iff.1 h
 obtain⟨E,hE,h⟩:=withSome_iff.1 h
 have hEI:=hC _ E hE
 unfold q0b at h
 cases hk:Nat.beq T.kind 1 <;> rw[hk] at h
 ·grind
 have hu:=(hC t T hT).slice (zab hk)
 cases mx with
 | some q=>exact h.elim
 | none=>
 have h:(match qc8 s.ov s.base x with
  | .dat t l=>match Nat.beq t.size E.size with
   | true=>bound (qc8 s.ov s.base) lo 0 λa=>bound (qc8 s.ov s.base) hi l.length λb=>need (0<=a/\a<=b/\b<=l.length) λ_=>k (.dat t ((l.take b.toNat).drop a.toNat)) .none
   | false=>False
  | .own g=>match qa1 s.mem g with
   | .vec _ t l=>match Nat.beq t.size E.size with
    | true=>bound (qc8 s.ov s.base) lo 0 λa=>bound (qc8 s.ov s.base) hi l.length λb=>need (0<=a/\a<=b/\b<=l.length) λ_=>k (.dat t ((l.take b.toNat).drop a.toNat)) (.freeze g t l)
    | false=>False
   | _=>False
  | .msl g j=>match qa1 s.mem g,j with
   | .mat _ _ _ rows ix _,.none=>match Nat.beq E.size 1 with
    | true=>bound (qc8 s.ov s.base) lo 0 λa=>bound (qc8 s.ov s.base) hi (qe0 rows.length ix) λb=>need (0<=a/\a<=b/\b<=qe0 rows.length ix) λ_=>k (.msub g a.toNat b.toNat) .none
    | false=>False
   | _,_=>False
  | _=>False):=h
 have e':execOp a.eval o=(do pure (.value (<- Instr.sliceAt t (a.eval x) (lo.map a.eval) (hi.map a.eval) none))):=by grind [execOp]
 rw[e']
 have hx:=hr.eval x
 generalize qc8 s.ov s.base x=av at h hx
 generalize a.eval x=u at hx
 split at h
 ·rename_i t' l
  cases hb:Nat.beq t'.size E.size <;> rw[hb] at h
  ·grind
  have hb:=zab hb
  obtain⟨n1,h,b1⟩:=qu3 hr.eval h
  obtain⟨n2,h,b2⟩:=qu3 hr.eval h
  obtain⟨⟨c1,c2,c3⟩,h⟩:=h
  obtain⟨A,c,r1,r2,r3,r4⟩:=id hx
  rw[(zac r1).1]
  rw[(zac r1).1] at hx
  refine qf4 (q6t hu hEI r2 b1 b2 c1 c2 c3) (To.same hr h ?_)
  have:=w6m (x:=n1.toNat) (y:=n2.toNat) hx ow ow
  rw[hb] at this
  exact this
 ·rename_i g
  split at h
  ·rename_i ee t' l hm
   cases hb:Nat.beq t'.size E.size <;> rw[hb] at h
   ·grind
   have hb:=zab hb
   obtain⟨n1,h,b1⟩:=qu3 hr.eval h
   obtain⟨n2,h,b2⟩:=qu3 hr.eval h
   obtain⟨⟨c1,c2,c3⟩,h⟩:=h
   obtain⟨v,⟨q1,_⟩,q2⟩:=hx
   obtain⟨m',hm',hr',hrd⟩:=hr.freeze (nm:=nm) hm
   have hv:=hrd v q1
   obtain⟨A,c,r1,r2,r3,r4⟩:=id hv
   have hvv:=(zac r1).1
   rw[(zac q2).1,hvv]
   rw[hvv] at hv
   refine qf4 (q6t hu hEI r2 b1 b2 c1 c2 c3) ⟨_,_,m',ρ,h,Pads.refl _ _,?_,hr'⟩
   have:=w6m (x:=n1.toNat) (y:=n2.toNat) hv ow ow
   rw[hb] at this
   exact this
  grind
 ·rename_i g jj
  split at h
  ·rename_i eh e t' rows ix lt hm
   cases hb:Nat.beq E.size 1 <;> rw[hb] at h
   ·grind
   have hb:=zab hb
   obtain⟨n1,h,b1⟩:=qu3 hr.eval h
   obtain⟨n2,h,b2⟩:=qu3 hr.eval h
   obtain⟨⟨c1,c2,c3⟩,h⟩:=h
   have ho:=hr.objs g
   rw[hm] at ho
   obtain⟨hs,q1,q2,q3⟩:=ho
   obtain⟨hs',v,r1,⟨r2,r3⟩,r4⟩:=hx
   rw[q1] at r1
   obtain rfl:=qf1 (zaa r1)
   rw[(zac r4).1]
   obtain⟨cs,k1,k2⟩:=q2.headAt r2
   have hform:∃A c,v=.slice A (qe0 rows.length ix) c/\qe0 rows.length ix<=c:=by
    rcases k1.2 with⟨rfl,q⟩ | ⟨g',cap,cur,rfl,_,_,p3,_⟩
    all_goals grind
   obtain⟨A,c,rfl,hc⟩:=hform
   refine qf4 (q6t hu hEI hc b1 b2 c1 c2 c3) (To.same hr h ⟨hs,A,_,c,q1,r2,⟨ow,ow⟩,?_⟩)
   grind
  grind
 grind
theorem xh1 (hC:∀t T,find C.tys t=some T->TIok P t T) (hr:Rel P w0 m0 s m ρ a w) {t:Nat} {x:Operand} {lo hi mx:Option Operand} (ho:o.op=.slice t x lo hi mx)
  (h:qd5 C t λT=>match Nat.beq T.kind 2 with
   | true=>qp9 (qc8 s.ov s.base) (qc8 s.ov s.base x) lo hi mx λv=>k v .none
   | false=>qd5 C T.elem λE=>q0b T E (qc8 s.ov s.base) s.mem (qc8 s.ov s.base x) lo hi mx k):Res P (To P w0 m0 s ρ nm a k) ((execOp a.eval o).run P w):=by
 obtain⟨T,hT,h⟩:=withSome_iff.1 h
 cases hk:Nat.beq T.kind 2 <;> rw[hk] at h
 ·exact w6n hC hr ho (withSome_iff.2 ⟨T,hT,h⟩)
 have hu:=(hC t T hT).str (zab hk)
 cases mx with
 | some q=>exact h.elim
 | none=>
 have e':execOp a.eval o=(do pure (.value (<- Instr.sliceAt t (a.eval x) (lo.map a.eval) (hi.map a.eval) none))):=by grind [execOp]
 rw[e']
 have hx:=hr.eval x
 unfold qp9 w55 at h
 simp only at h
 split at h
 case h_2=>grind
 rename_i u hu2
 rw[hu2] at hx
 split at h
 case h_2=>grind
 rename_i b
 rw[(zac (show[a.eval x]=[_] from hx)).1]
 obtain⟨n1,h,b1⟩:=qu3 hr.eval h
 obtain⟨n2,h,b2⟩:=qu3 hr.eval h
 obtain⟨⟨c1,c2,c3⟩,h⟩:=h
 exact qf4 (wa2 hu b1 b2 c1 c2 c3) (To.same hr h rfl)
theorem xh2 {c:AV}:∀{j:Nat} {n:Int} {K:AV->Prop} {vs:List Value},w57 c j n K->c.ok P m ρ vs->∃(i:Nat) (v:Value) (av:AV),n=(j:Int)+i/\vs[i]? = some v/\K av/\av.ok P m ρ [v]:=by
 induction c with
 | cons a r _ ih=>
  intro j n K vs h hc
  obtain⟨v,rest,rfl,h1,h2⟩:=hc
  unfold w57 at h
  split at h
  ·obtain⟨e,h⟩:=h
   exact⟨0,v,a,ow,rfl,h,h1⟩
  ·obtain⟨k1,k2⟩:=h
   by_cases e:n=(j:Int)
   ·exact⟨0,v,a,ow,rfl,k1 (zbk e),h1⟩
   ·obtain⟨i,v',av,q1,q2,q3,q4⟩:=ih (k2 (zbr e)) h2
    exact⟨i+1,v',av,ow,q2,q3,q4⟩
 | _=>intro j n K vs h; exact h.elim
theorem wj5 (hC:∀t T,find C.tys t=some T->TIok P t T) (hr:Rel P w0 m0 s m ρ a w) {t:Nat} {x i:Operand} (ho:o.op=.index t x i) {T:TI} (hT:find C.tys t=some T)
  (h:qd5 C T.elem λE=>qx0 T E (qc8 s.ov s.base x) (qc8 s.ov s.base i) λv=>k v .none):Res P (To P w0 m0 s ρ nm a k) ((execOp a.eval o).run P w):=by
 obtain⟨E,hE,h⟩:=withSome_iff.1 h
 have h:qx0 T E (qc8 s.ov s.base x) (qc8 s.ov s.base i) (λv=>k v .none):=h
 unfold qx0 at h
 split at h
 case h_2=>grind
 rename_i hk hag hsz
 split at h
 case h_2=>grind
 rename_i c hc
 have hx:=hr.eval x
 rw[hc] at hx
 obtain⟨cs,r1,r2⟩:=hx
 split at h
 case h_2=>grind
 rename_i hlen
 have hlen:=q99 hlen r2
 obtain⟨jk,n,hn,h⟩:=qj2 h (hr.eval i)
 obtain⟨q,v,av,e1,e2,e3,e4⟩:=xh2 h r2
 obtain⟨len,sz,hu,⟨j,hj,hjs⟩,hsz0,hfl⟩:=(hC t T hT).arr (zab hk)
 have hEI:=hC _ E hE
 have hs1:E.size=1:=zab hsz
 obtain⟨ag,he⟩:∃ag,E.agg=ag:=⟨_,rfl⟩
 have hagr:=hEI.runAgg w
 rw[hag] at hagr
 have hszr:=hEI.runSize w
 rw[hs1] at hszr
 have e':execOp a.eval o=(do pure (.value (<- Instr.index t (a.eval x) (a.eval i)))):=by grind [execOp]
 rw[e',(zac r1).1,hn]
 have hq0:q<cs.length:=(zaf.1 e2).1
 have hl:q<len:=(hfl q T.flds[q] (zak ow)).2
 refine qf4 (v:=v) (w':=w) ?_ (To.same hr e3 e4)
 have hn2:n=(q:Int):=ow
 subst hn2
 simp[Instr.index,asIntOf,run_underlying hu,hl,part,hagr,hszr,e2,go_sem]
theorem wj6 (hC:∀t T,find C.tys t=some T->TIok P t T) (hr:Rel P w0 m0 s m ρ a w) {t:Nat} {x i:Operand} (ho:o.op=.index t x i)
  (h:qd5 C t λT=>match Nat.beq T.kind 2 with
   | true=>q0x (qc8 s.ov s.base x) (qc8 s.ov s.base i) λv=>k v .none
   | false=>qd5 C T.elem λE=>qx0 T E (qc8 s.ov s.base x) (qc8 s.ov s.base i) λv=>k v .none):Res P (To P w0 m0 s ρ nm a k) ((execOp a.eval o).run P w):=by
 obtain⟨T,hT,h⟩:=withSome_iff.1 h
 cases hk:Nat.beq T.kind 2 <;> rw[hk] at h
 ·grind [wj5]
 have hu:=(hC t T hT).str (zab hk)
 have e':execOp a.eval o=(do pure (.value (<- Instr.index t (a.eval x) (a.eval i)))):=by grind [execOp]
 rw[e']
 have hx:=hr.eval x
 have h:q0x (qc8 s.ov s.base x) (qc8 s.ov s.base i) (λv=>k v .none):=h
 unfold q0x at h
 split at h
 case h_2=>grind
 rename_i u hu2
 rw[hu2] at hx
 split at h
 case h_2=>grind
 rename_i b
 rw[(zac (show[a.eval x]=[_] from hx)).1]
 obtain⟨j,n,hn,⟨c1,c2⟩,h⟩:=qj2 h (hr.eval i)
 rw[hn]
 exact qf4 (wa3 hu c1 c2) (To.same hr h rfl)
theorem wj7 (hC:∀t T,find C.tys t=some T->TIok P t T) (hr:Rel P w0 m0 s m ρ a w) (hf:Free s ρ nm) {t:Nat} {x:Operand} (ho:o.op=.range t x)
  (h:qd5 C t λT=>match Nat.beq T.kind 2 with
   | true=>q8t nm (qc8 s.ov s.base x) k
   | false=>False):Res P (To P w0 m0 s ρ nm a k) ((execOp a.eval o).run P w):=by
 obtain⟨T,hT,h⟩:=withSome_iff.1 h
 cases hk:Nat.beq T.kind 2 <;> rw[hk] at h
 ·grind
 have hu:=(hC t T hT).str (zab hk)
 have e':execOp a.eval o=(do pure (.value (<- Instr.range t (a.eval x)))):=by grind [execOp]
 rw[e']
 have hx:=hr.eval x
 have h:q8t nm (qc8 s.ov s.base x) k:=h
 unfold q8t at h
 split at h
 case h_2=>grind
 rename_i u hu2
 rw[hu2] at hx
 split at h
 case h_2=>grind
 rename_i b
 rw[(zac (show[a.eval x]=[_] from hx)).1]
 refine qf4 (v:=.pointer (some ⟨w.heap.size,0,none⟩)) (w':=w.alloc (.stringIter b 0)) ?_ ?_
 ·simp_all [Instr.range,run_underlying]
 have hb:=Ls.below_alloc w (.stringIter b 0)
 have hr':=hr.grow hb (View.le_refl m) (View.on_below hr.view hb) (λ_ _ hb=>.inl hb)
 refine⟨_,_,m,nput ρ nm (.pointer (some ⟨w.heap.size,0,none⟩)),h,Pads.nput hr.len hf _,⟨w.heap.size,qh0 hr.len hf _,rfl⟩,?_⟩
 refine hr'.addObj hf hr.blkLt (λb hb=>hr.below.new hb) ⟨w.heap.size,qh0 hr.len hf _,hr.below.size,heap_alloc_new w _,?_⟩ (λb hb=>by grind [Blk,blk]) rfl
 cases hm:m w.heap.size with
 | none=>rfl
 | some o=>have:=View.lt hr.view hm; omega
theorem q29 {r:Nat} {q:ByteArray} {p:Nat} (h:w.heap[r]? = some (.stringIter q p)):(getObj r).run P w=.ok (.stringIter q p) w:=by simp[getObj,Sem.run,h]
theorem wa4 {r:Nat} {q:ByteArray} {p:Nat} (o:Obj) (h:w.heap[r]? = some (.stringIter q p)):(setObj r o).run P w=.ok () (w.putObj r o):=by simp[setObj,Sem.run,h,World.putObj]
theorem wu6 (hr:Rel P w0 m0 s m ρ a w) {x:Operand} {str:Bool} (ho:o.op=.next x str) (h:wi0 s.mem (qc8 s.ov s.base x) str k):Res P (To P w0 m0 s ρ nm a k) ((execOp a.eval o).run P w):=by
 have e':execOp a.eval o=(do pure (.value (<- Instr.next (a.eval x) str o.type))):=by grind [execOp]
 rw[e']
 have hx:=hr.eval x
 unfold wi0 at h
 split at h
 case h_2=>grind
 split at h
 case h_2=>grind
 rename_i g off hg
 rw[hg] at hx
 split at h
 case h_2=>grind
 rename_i q p hmm
 have ho:=hr.objs g
 rw[hmm] at ho
 obtain⟨b,q1,q2,q3,q4⟩:=ho
 obtain⟨b',r1,r2⟩:=hx
 rw[q1] at r1
 obtain rfl:b=b':=by grind
 rw[(zac r2).1]
 obtain⟨h1,h2⟩:=h
 by_cases hp:p<q.size
 ·have h1:=h1 (by grind)
  refine qf4 (v:=.tuple #[.bool true,.int .i64 p,.int .i32 (Utf8.decode q p).1]) (w':=w.putObj b (.stringIter q (p+(Utf8.decode q p).2))) ?_ ?_
  ·simp[Instr.next,q29 q3,wa4 _ q3,hp,go_sem,goInt]
  ·have hne:∀c,c≠b->(w.putObj b (.stringIter q (p+(Utf8.decode q p).2))).heap[c]? = w.heap[c]?:=λc hc=>World.putObj_heap_other hc
   refine⟨_,_,m,ρ,h1,Pads.refl _ _,⟨_,rfl,_,_,rfl,rfl,_,_,rfl,rfl,_,_,rfl,rfl,rfl⟩,?_⟩
   refine hr.updG (by rw[hmm]; rfl) q1 ⟨rfl,rfl,rfl,by simp,λc hc=>hne c λe=>hc.2 (by rw[e]; rfl)⟩ (View.le_refl m) (λc ob hc=>?_) (λ_ _ hc=>.inl hc) ⟨b,q1,q2,World.putObj_heap_same (zal.1 q3).1,q4⟩
   rw[hne c λe=>by grind]
   exact hr.view c ob hc
 ·have h2:=h2 (by grind)
  refine qf4 (v:=.tuple #[.bool false]) (w':=w) ?_ (To.same hr h2 ⟨_,rfl,_,_,rfl,rfl,rfl⟩)
  simp[Instr.next,q29 q3,hp,go_sem]
theorem w0m {v:AV} {K:ByteArray->Prop} {u:Value} (h:wi2 v K) (hv:v.ok P m ρ [u]):∃s,u=.string s/\K s:=by
 unfold wi2 at h
 split at h
 case h_2=>grind
 split at h
 case h_2=>grind
 exact⟨_,(zac (show[u]=[_] from hv)).1,h⟩
theorem q5y {t:Ty} (hc:t.cell1=true) (x:t.den):(xz2 t x).ok P m ρ [qv7 t x]:=by
 cases t <;> first | rfl | exact Bool.noConfusion hc
theorem w0n {t:Ty} (hc:t.cell1=true) {x:t.den} {vs:List Value} (h:Rd m t x vs):vs=[qv7 t x]:=by
 cases t <;> first | exact h | exact Bool.noConfusion hc
theorem wu7 {t:Ty} (s:ByteArray):∀{l:List (Ty.prod .str t).den} {es:List MapEntry} (i:Nat),xz9 t l es ->
  (q33 l s=none/\Instr.findNow .string (.string s) es i=some none/\∀y e,e.key=.string s->e.val=qv7 t y->xz9 t (q5q l s y) (es++[e])) \/
  ∃(j:Nat) (x:t.den) (e:MapEntry),q33 l s=some x/\Instr.findNow .string (.string s) es i=some (some (i+j,qv7 t x))/\es[j]? = some e/\e.key=.string s/\∀y,xz9 t (q5q l s y) (es.modify j λe=>{ e with key:=.string s,val:=qv7 t y })
 | [],es,i,h=>by
  obtain rfl:es=[]:=h
  exact .inl ⟨rfl,rfl,λy e h1 h2=>⟨e,[],rfl,h1,h2,rfl⟩⟩
 | (q,x) :: r,es,i,h=>by
  obtain⟨e,es',rfl,h1,h2,h3⟩:=h
  have hs:Instr.sameNow .string (.string s) e.key=some (s==q):=by rw[h1]; rfl
  cases hq:s==q with
  | true=>
   have e0:q=s:=((MapKept.bytes_beq s q).1 hq).symm
   right
   refine⟨0,x,e,by grind [q33],?_,rfl,by grind,λy=>?_⟩
   ·grind [Instr.findNow]
   ·unfold q5q
    rw[hq,e0]
    exact⟨_,es',rfl,rfl,rfl,h3⟩
  | false=>
   rcases wu7 s (i+1) h3 with⟨k1,k2,k3⟩ | ⟨j,x',e',k1,k2,k3,k4,k5⟩
   ·left
    refine⟨by grind [q33],?_,λy e' g1 g2=>?_⟩
    ·grind [Instr.findNow]
    ·unfold q5q
     rw[hq]
     exact⟨e,_,rfl,h1,h2,k3 y e' g1 g2⟩
   ·right
    refine⟨j+1,x',e',by grind [q33],?_,k3,k4,λy=>?_⟩
    ·grind [Instr.findNow]
    ·unfold q5q
     rw[hq]
     exact⟨e,_,rfl,h1,h2,k5 y⟩
theorem w3m (hC:∀t T,find C.tys t=some T->TIok P t T) (hr:Rel P w0 m0 s m ρ a w) (hf:Free s ρ nm) {t:Nat} {x:Option Operand} (ho:o.op=.makeMap t x)
  (h:match(generalizing:=false) x with
   | .none=>qd5 C t λT=>qd5 C T.elem λE=>q21 nm T E k
   | some _=>False):Res P (To P w0 m0 s ρ nm a k) ((execOp a.eval o).run P w):=by
 cases x with
 | some x=>grind
 | none=>
 obtain⟨T,hT,h⟩:=withSome_iff.1 h
 obtain⟨E,hE,h⟩:=withSome_iff.1 h
 unfold q21 at h
 split at h
 case h_2=>grind
 have e':execOp a.eval o=(do pure (.value (<- Instr.makeMap t none))):=by grind [execOp]
 rw[e']
 refine qf4 (v:=.map (some w.heap.size)) (w':=w.alloc (.map #[] 0)) (by rfl) ?_
 have hb:=Ls.below_alloc w (.map #[] 0)
 have hr':=hr.grow hb (View.le_refl m) (View.on_below hr.view hb) (λ_ _ hb=>.inl hb)
 refine⟨_,_,m,nput ρ nm (.map (some w.heap.size)),h,Pads.nput hr.len hf _,⟨_,⟨qh0 hr.len hf _,rfl⟩,rfl⟩,?_⟩
 refine hr'.addObj hf hr.blkLt (λb hb=>hr.below.new hb) ⟨w.heap.size,#[],0,qh0 hr.len hf _,hr.below.size,heap_alloc_new w _,rfl,?_⟩ (λb hb=>by grind [Blk,blk]) rfl
 cases hm:m w.heap.size with
 | none=>rfl
 | some o=>have:=View.lt hr.view hm; omega
theorem xv4 (hr:Rel P w0 m0 s m ρ a w) {x:Operand} {g:Nat} {t:Ty} {l:List (Ty.prod .str t).den} (hg:qc8 s.ov s.base x=.own g) (hm:qa1 s.mem g=.mp t l) :
  ∃b es cl,a.eval x=.map (some b)/\ρ[g]? = some (.map (some b))/\w0.n<=b/\w.heap[b]? = some (.map es cl)/\xz9 t l es.toList/\m b=none:=by
 have hx:=hr.eval x
 rw[hg] at hx
 have ho:=hr.objs g
 rw[hm] at ho
 obtain⟨b,es,cl,q1,q2,q3,q4,q5⟩:=ho
 obtain⟨v,⟨r1,_⟩,r2⟩:=hx
 grind
theorem w6o (hC:∀t T,find C.tys t=some T->TIok P t T) (hr:Rel P w0 m0 s m ρ a w) {t:Nat} {x i:Operand} {ok:Bool} (ho:o.op=.lookup t x i ok)
  (h:qd5 C t λT=>qd5 C T.elem λE=>qx1 T E s.mem (qc8 s.ov s.base x) (qc8 s.ov s.base i) ok λv=>k v .none):Res P (To P w0 m0 s ρ nm a k) ((execOp a.eval o).run P w):=by
 obtain⟨T,hT,h⟩:=withSome_iff.1 h
 obtain⟨E,hE,h⟩:=withSome_iff.1 h
 have h:qx1 T E s.mem (qc8 s.ov s.base x) (qc8 s.ov s.base i) ok (λv=>k v .none):=h
 unfold qx1 at h
 split at h
 case h_2=>grind
 rename_i g hg
 split at h
 case h_2=>grind
 rename_i ty l hm
 split at h
 case h_2=>grind
 rename_i hmp hdf hc1 hsz
 obtain⟨rfl,h⟩:=q03 h
 obtain⟨sx,e1,h⟩:=w0m h (hr.eval i)
 obtain⟨b,es,cl,e2,q1,q2,q3,q4,q5⟩:=xv4 hr hg hm
 obtain⟨⟨ky,u1,u2⟩,j,z,u3,u4,u5⟩:=(hC t T hT).mp hmp
 have hEI:=hC _ E hE
 obtain⟨j',z',v1,_,_,v4,_,_,_,v8⟩:=hEI.info
 rw[u3] at v1
 obtain rfl:=zaa v1
 rw[u4] at v4
 obtain rfl:=zaa v4
 have hz:z=qv7 E.ty E.ty.dflt:=by
  have:=w0n hc1 (v8 hdf (λ_=>none))
  grind
 have hzr:(zeroValue T.elem).run P w=.ok z w:=by simp_all [zeroValue,typeInfo]
 have e':execOp a.eval o=(do pure (.value (<- Instr.lookup t (a.eval x) (a.eval i) ok))):=by grind [execOp]
 rw[e',e1,e2]
 have hck:(Instr.checkKey es.isEmpty 10000 ky (.string sx)).run P w=.ok () w:=zd2 (k:=.string sx) u2 (by simp[MapKept.IsKey]) _ 9999
 rcases wu7 sx 0 q4 with⟨k1,k2,_⟩ | ⟨jx,xv,ev,k1,k2,k3,_,_⟩
 ·rw[k1] at h
  cases ok with
  | true=>
   refine qf4 (v:=.tuple #[qv7 E.ty E.ty.dflt,.bool false]) (w':=w) ?_ (To.same hr h ⟨_,rfl,_,_,rfl,q5y hc1 _,_,_,rfl,rfl,rfl⟩)
   simp[Instr.lookup,run_underlying u1,MapKept.run_getObj_map q3,hck,MapKept.run_findKey u2 k2,hzr,hz,go_sem]
  | false=>
   refine qf4 (v:=qv7 E.ty E.ty.dflt) (w':=w) ?_ (To.same hr h (q5y hc1 _))
   simp[Instr.lookup,run_underlying u1,MapKept.run_getObj_map q3,hck,MapKept.run_findKey u2 k2,hzr,hz,go_sem]
 ·rw[k1] at h
  cases ok with
  | true=>
   refine qf4 (v:=.tuple #[qv7 E.ty xv,.bool true]) (w':=w) ?_ (To.same hr h ⟨_,rfl,_,_,rfl,q5y hc1 _,_,_,rfl,rfl,rfl⟩)
   simp[Instr.lookup,run_underlying u1,MapKept.run_getObj_map q3,hck,MapKept.run_findKey u2 k2,go_sem]
  | false=>
   refine qf4 (v:=qv7 E.ty xv) (w':=w) ?_ (To.same hr h (q5y hc1 _))
   simp[Instr.lookup,run_underlying u1,MapKept.run_getObj_map q3,hck,MapKept.run_findKey u2 k2,go_sem]
theorem qt1 {c:Call} {b:Builtin} (ho:o.op=.call c) (hc:c.callee=.builtin b):execOp a.eval o=builtin b c.argTypes o.type (c.args.map fun | .const _=>true | _=>false) (c.args.map a.eval):=by
 unfold execOp
 rw[ho]
 simp only[resolve,hc]
 rfl
theorem x37 (hC:∀t T,find C.tys t=some T->TIok P t T) (hr:Rel P w0 m0 s m ρ a w) {c:Call} (ho:o.op=.call c) (hc:c.callee=.builtin .len) {x:Operand} {t:Nat} (hx:c.args.toList=[x]) (ht:c.argTypes.toList=[t])
  (h:qd5 C t λT=>xu5 T s.mem (qc8 s.ov s.base x) λv=>k v .none):Res P (To P w0 m0 s ρ nm a k) ((execOp a.eval o).run P w):=by
 obtain⟨T,hT,h⟩:=withSome_iff.1 h
 have hTI:=hC t T hT
 obtain⟨ca,args,ats⟩:=c
 simp only at hc hx ht
 subst hc
 obtain rfl:args=#[x]:=by grind
 obtain rfl:ats=#[t]:=by grind
 rw[qt1 ho rfl]
 have hv:=hr.eval x
 simp only[List.map_toArray,List.map_cons,List.map_nil]
 generalize qc8 s.ov s.base x=av at h hv
 generalize a.eval x=u at hv
 have e2:builtin .len #[t] o.type (#[match x with | .const _=>true | _=>false]) #[u]=(do pure (.value (<- Builtin.len_ #[t] o.type #[u]))):=rfl
 unfold xu5 at h
 split at h
 ·cases hk:Nat.beq T.kind 1 <;> rw[hk] at h
  ·grind
  have hu:=hTI.slice (zab hk)
  obtain⟨A,c,r1,r2⟩:=hv
  rw[(zac r1).1]
  exact qf4 (by simp[Builtin.len_,run_underlying hu,go_sem]) (To.same hr h rfl)
 ·cases hk:Nat.beq T.kind 1 <;> rw[hk] at h
  ·grind
  have hu:=hTI.slice (zab hk)
  obtain⟨⟨A,c,r1,r2⟩,_⟩:=hv
  rw[(zac r1).1]
  exact qf4 (by simp[Builtin.len_,run_underlying hu,go_sem]) (To.same hr h rfl)
 ·rename_i g
  split at h
  ·rename_i e t' l hm hk
   have hu:=hTI.slice (zab hk)
   have ho:=hr.objs g
   rw[hm] at ho
   obtain⟨v,vs,q1,q2,q3,q4⟩:=ho
   obtain⟨v',⟨r1,_⟩,r2⟩:=hv
   rw[q1] at r1
   obtain rfl:=zaa r1
   rw[(zac r2).1]
   have hform:∃A c,v=.slice A l.length c:=by
    rcases q3.2 with⟨rfl,q⟩ | ⟨g',cap,cur,rfl,_⟩
    all_goals grind
   obtain⟨A,c,rfl⟩:=hform
   exact qf4 (by simp[Builtin.len_,run_underlying hu,go_sem]) (To.same hr h rfl)
  grind
 ·cases hk:Nat.beq T.kind 2 <;> rw[hk] at h
  ·grind
  have hu:=hTI.str (zab hk)
  obtain rfl:=(zac (show[u]=[_] from hv)).1
  exact qf4 (by simp[Builtin.len_,run_underlying hu,go_sem]) (To.same hr h rfl)
 ·cases hk:Nat.beq T.kind 1 <;> rw[hk] at h
  ·grind
  have hu:=hTI.slice (zab hk)
  obtain rfl:=(zac (show[u]=[_] from hv)).1
  exact qf4 (by simp[Builtin.len_,run_underlying hu,go_sem]) (To.same hr h rfl)
 ·rename_i g jj
  split at h
  ·rename_i eh e t' rows ix lt hm hk
   have hu:=hTI.slice (zab hk)
   have ho:=hr.objs g
   rw[hm] at ho
   obtain⟨hs,q1,q2,q3⟩:=ho
   obtain⟨hs',v,r1,⟨r2,r3⟩,r4⟩:=hv
   rw[q1] at r1
   obtain rfl:=qf1 (zaa r1)
   rw[(zac r4).1]
   have form:∀{e size n:Nat} {xs:List Value},w.ownsRow w0.n e size v n xs->∃A c,v=.slice A n c:=λho=>by
    rcases ho.2 with⟨rfl,q⟩ | ⟨g',cap,cur,rfl,_⟩
    all_goals grind
   cases jj with
   | none=>
    obtain⟨cs,k1,k2⟩:=q2.headAt r2
    obtain⟨A,c,rfl⟩:=form k1
    exact qf4 (by simp[Builtin.len_,run_underlying hu,go_sem]) (To.same hr h rfl)
   | some p=>
    obtain⟨hp,vs,k1,k2⟩:=q2.rowAt r2
    obtain⟨A,c,rfl⟩:=form k2
    exact qf4 (by simp[Builtin.len_,run_underlying hu,go_sem]) (To.same hr h rfl)
  grind
 ·cases hk:Nat.beq T.kind 1 <;> rw[hk] at h
  ·grind
  have hu:=hTI.slice (zab hk)
  obtain⟨hs,A,n,c,_,_,_,r4⟩:=hv
  rw[(zac r4).1]
  exact qf4 (by simp[Builtin.len_,run_underlying hu,go_sem]) (To.same hr h rfl)
 grind
theorem w0o {em:Bool} {n:Nat} {p:Prop} (h:xz0 em n p):p:=by
 cases em with
 | true=>exact h
 | false=>exact h.2
theorem q04 (base:Nat) (t ty e:TypeId) (i:TypeInfo) (z:Value) (size bytes:Nat) (ht:P.underlying t=some (.slice e)) (hi:P.info? e=some i) (hz:i.zero=some z) (hsize:i.size=size) (hby:i.bytes=bytes) (hzs:z.cells.size=size) (hsz:0<size)
  (v:Value) (n:Nat) (xs:List Value) (hown:w.ownsRow base e size v n xs) {A:Option Addr} (q c:Nat) (news:List Value) (hl:news.length=q*size) (hcell:0<q->∃ad,A=some ad/\∀j u,news[j]? = some u->w.cell? (ad.add j)=some u) (h1:∀u∈news,u.oneCell'=true)
  (h63:n+q<=maxLen) (hbytes:(n+q)*bytes<=140737488355328) (hbase:base<=w.heap.size) :
  ∃v' w',(Builtin.append_ #[t,t] ty #[v,.slice A q c]).run P w=.ok v' w'/\w'.ownsRow base e size v' (n+q) (xs++news)/\w.grownBy w' v.ownBlock/\(v'.ownBlock=v.ownBlock\/v'.ownBlock=some w.heap.size):=by
 cases A with
 | none=>
  have hq:q=0:=by
   grind
  subst hq
  have hn:news=[]:=zay ow
  subst hn
  refine⟨v,w,?_,by grind,⟨rfl,rfl,rfl,zad _,λ_ _ _=>rfl⟩,.inl rfl⟩
  rcases hown.2 with⟨rfl,rfl⟩ | ⟨g,cap,cur,rfl,_,_,hnc,_⟩
  ·simp[Builtin.append_,run_underlying ht,Go.sizeOf,typeInfo,hi,Builtin.lenOf,Builtin.firstCells]
  ·simp[Builtin.append_,run_underlying ht,Go.sizeOf,typeInfo,hi,Builtin.lenOf,Builtin.firstCells,hnc,storeCells]
 | some ad=>
  have hnews:∀j u,news[j]? = some u->w.cell? (ad.add j)=some u:=by
   grind
  obtain⟨v',w',g1,g2,g3,_,g5⟩:=run_append_own_at (P:=P) w base t ty e i z size bytes ht hi hz hsize hby hzs hsz v n xs hown ad q c news hl hnews h1 h63 hbytes hbase
  grind
theorem w6p {t:Ty}:∀{l:List t.den} {vs:List Value},RdL m t l vs->∀v∈vs,Value.oneCell' v=true
 | [],vs,h,v,hv=>by obtain rfl:vs=[]:=h; grind
 | x :: l,vs,⟨u,r,e,h1,h2⟩,v,hv=>by
  subst e
  rcases zaj.1 hv with hv | hv
  ·grind [Rd.one]
  ·exact w6p h2 v hv
theorem PoolOk.join {w':World} {B eh e:Nat} {t:Ty} {rows rows':List (List t.den)} {hs hs':List Value} {v v':Value} {cs cs':List Value} (h:PoolOk m w B eh e t rows .none hs) (h':PoolOk m w B eh e t rows' .none hs') (hh:hs[0]? = some v)
  (hc:∀p,p<rows.length->cs[p]? = hs[p+1]?) (hc':∀p,p<rows'.length->cs'[p]? = hs'[p+1]?) (hcl:cs.length=rows.length) (hv:w'.ownsRow B eh 1 v' (rows.length+rows'.length) (cs++cs'))
  (hg:w.grownBy w' v.ownBlock) (hb:v'.ownBlock=v.ownBlock\/v'.ownBlock=some w.heap.size) (hx:∀u u' b,u∈hs->u'∈hs'->blk u=some b->blk u'=some b->False) (hm:∀b,v'.ownBlock=some b->m b=.none) :
  PoolOk m w' B eh e t (rows++rows') .none (v' :: (hs.drop 1++hs'.drop 1)):=by
 have hl:=h.len
 have hl':=h'.len
 have d1:(hs.drop 1).length=rows.length:=by grind
 have at1:∀p,p<rows.length->(v' :: (hs.drop 1++hs'.drop 1))[p+1]? = hs[p+1]?:=λp hp=>by
  grind
 have at2:∀p,rows.length<=p->(v' :: (hs.drop 1++hs'.drop 1))[p+1]? = hs'[p-rows.length+1]?:=λp hp=>by
  grind
 have hN:∀p u,(v' :: (hs.drop 1++hs'.drop 1))[p+1]? = some u->(∃e size n xs,w.ownsRow B e size u n xs)/\∀b,blk u=some b->v.ownBlock≠some b/\v'.ownBlock≠some b:=by
  intro p u hu
  have key:(∃e size n xs,w.ownsRow B e size u n xs)/\∀b,blk u=some b->v.ownBlock≠some b:=by
   rcases zav p rows.length with hp | hp
   ·rw[at1 p hp] at hu
    exact⟨h.each (zag hu),λb hb e=>h.apart (p+1) 0 u v b ow hu hh hb (qe9 e)⟩
   ·rw[at2 p hp] at hu
    exact⟨h'.each (zag hu),λb hb e=>hx v u b (zag hh) (zag hu) (qe9 e) hb⟩
  obtain⟨⟨e1,s1,n1,x1,ho⟩,k2⟩:=key
  refine⟨⟨e1,s1,n1,x1,ho⟩,λb hbu=>⟨k2 b hbu,λe=>?_⟩⟩
  rcases hb with k | k
  ·grind
  ·have:=(own_blk ho hbu).2.1
   grind
 have keep:∀{p:Nat} {u:Value} {e size n:Nat} {xs:List Value},(v' :: (hs.drop 1++hs'.drop 1))[p+1]? = some u->w.ownsRow B e size u n xs->w'.ownsRow B e size u n xs:=λhu ho=>qo4 ho λb hb=>hg.block b (own_blk ho hb).2.1 (λe=>((hN _ _ hu).2 b hb).1 e.symm)
 refine⟨by simp; omega,⟨cs++cs',by grind [qe0],λi p hip=>?_⟩,λp hp=>?_,λi j u u' b hne hu hu' hb1 hb2=>?_,λu b hu hbu=>?_⟩
 ·have hip:(List.range (rows++rows').length)[i]? = some p:=hip
  grind
 ·rw[zas] at hp
  rcases zav p rows.length with hlt | hge
  ·have e:qe5 (.list t) (rows++rows') p=qe5 (.list t) rows p:=by
    grind [qe5,List.getElem?_append_left]
   have hu:hs[p+1]? = some (hs.getD (p+1) undef):=by rw[zax,zak ow]; rfl
   obtain⟨vs,k1,k2⟩:=h.row p hlt
   grind
  ·have e:qe5 (.list t) (rows++rows') p=qe5 (.list t) rows' (p-rows.length):=by
    grind [qe5,List.getElem?_append_right]
   have hu:hs'[p-rows.length+1]? = some (hs'.getD (p-rows.length+1) undef):=by rw[zax,zak ow]; rfl
   obtain⟨vs,k1,k2⟩:=h'.row (p-rows.length) ow
   grind
 ·cases i with
  | zero=>
   obtain rfl:=zaa hu
   cases j with
   | zero=>omega
   | succ j=>exact((hN j u' hu').2 b hb2).2 ((qh6 hv).1 hb1)
  | succ i=>
   cases j with
   | zero=>
    obtain rfl:=zaa hu'
    exact((hN i u hu).2 b hb1).2 ((qh6 hv).1 hb2)
   | succ j=>
    rcases zav i rows.length with h1 | h1 <;> rcases zav j rows.length with h2 | h2
    ·rw[at1 i h1] at hu; rw[at1 j h2] at hu'
     exact h.apart (i+1) (j+1) u u' b hne hu hu' hb1 hb2
    ·grind
    ·grind
    ·rw[at2 i h1] at hu; rw[at2 j h2] at hu'
     exact h'.apart (i-rows.length+1) (j-rows.length+1) u u' b ow hu hu' hb1 hb2
 ·rcases zao.1 hu with rfl | hu
  ·grind [qh6]
  ·rcases zaj.1 hu with hu | hu
   ·exact h.free u b (zc6 hu) hbu
   ·exact h'.free u b (zc6 hu) hbu
theorem w6q {em:Bool} (hC:∀t T,find C.tys t=some T->TIok P t T) (hr:Rel P w0 m0 s m ρ a w) (hf:Free s ρ nm) {c:Call} (ho:o.op=.call c) (hc:c.callee=.builtin .append) {x y:Operand} {t:Nat} (hx:c.args.toList=[x,y]) (ht:c.argTypes.toList=[t,t])
  (h:qd5 C t λT=>qd5 C T.elem λE=>q0c em nm s.mem T E (qc8 s.ov s.base x) (qc8 s.ov s.base y) k):Res P (To P w0 m0 s ρ nm a k) ((execOp a.eval o).run P w):=by
 obtain⟨T,hT,h⟩:=withSome_iff.1 h
 obtain⟨E,hE,h⟩:=withSome_iff.1 h
 have hTI:=hC t T hT
 have hEI:=hC _ E hE
 obtain⟨ca,args,ats⟩:=c
 simp only at hc hx ht
 subst hc
 obtain rfl:args=#[x,y]:=by cases args; simp_all
 obtain rfl:ats=#[t,t]:=by cases ats; simp_all
 rw[qt1 ho rfl]
 have hvx:=hr.eval x
 have hvy:=hr.eval y
 simp only[List.map_toArray,List.map_cons,List.map_nil]
 generalize qc8 s.ov s.base x=av at h hvx
 generalize a.eval x=u at hvx
 generalize qc8 s.ov s.base y=bv at h hvy
 generalize a.eval y=u' at hvy
 have e2:builtin .append #[t,t] o.type (#[match x with | .const _=>true | _=>false,match y with | .const _=>true | _=>false]) #[u,u']=(do pure (.value (<- Builtin.append_ #[t,t] o.type #[u,u']))):=rfl
 unfold q0c at h
 have hb:Nat.beq T.kind 1=true/\Nat.beq E.ty.size E.size=true:=by
  grind
 obtain⟨b1,b2⟩:=hb
 rw[b1,b2] at h
 have hu:=hTI.slice (zab b1)
 have b2:=zab b2
 obtain⟨i,z,i1,i2,i3,i4,i5,i6,i7,i8⟩:=hEI.info
 have hpos:0<E.size:=zdd hEI.pos
 have small:=hEI.small
 simp only at h
 split at h
 ·-- a pool
  rename_i g jg
  split at h
  case h_2=>exact h.elim
  rename_i eh e t' rows ix lt hm
  split at h
  case h_2=>exact h.elim
  rename_i h' jh
  split at h
  case h_2=>exact h.elim
  rename_i eh' e' t'' rows' ix' lt' hm'
  split at h
  case h_2=>exact h.elim
  rename_i c1 c2 c3 c4 c5
  obtain⟨hty,h⟩:=qg0 h
  injection hty with hty
  subst hty
  obtain⟨⟨hl0,hl1⟩,h⟩:=h rows' HEq.rfl
  have c1:=zab c1
  have c2:=zab c2
  have c3:=zab c3
  subst c1 c2
  have c5:=zab c5
  have hne:h'≠g:=λe=>by subst e; simp at c4
  have ho:=hr.objs g
  rw[hm] at ho
  obtain⟨hs,q1,q2,q3⟩:=ho
  have ho':=hr.objs h'
  rw[hm'] at ho'
  obtain⟨hs2,p1,p2,p3⟩:=ho'
  obtain⟨hsx,v,r1,⟨r2,r3⟩,r4⟩:=hvx
  rw[q1] at r1
  obtain rfl:=qf1 (zaa r1)
  obtain rfl:=(zac r4).1
  obtain⟨hsy,v2,s1,⟨s2,s3⟩,s4⟩:=hvy
  rw[p1] at s1
  obtain rfl:=qf1 (zaa s1)
  obtain rfl:=(zac s4).1
  obtain⟨cs,k1,k2⟩:=q2.headAt r2
  obtain⟨cs',l1,l2⟩:=p2.headAt s2
  have k1:w.ownsRow w0.n eh' 1 u rows.length cs:=k1
  have l1:w.ownsRow w0.n eh' 1 u' rows'.length cs':=l1
  have hcl:cs.length=rows.length:=by have:=k1.1; omega
  have hcl':cs'.length=rows'.length:=by have:=l1.1; omega
  have hc:∀p,p<rows.length->cs[p]? = hs[p+1]?:=λp hp=>(k2 p p (by simp[ixL,hp])).2
  have hc':∀p,p<rows'.length->cs'[p]? = hs2[p+1]?:=λp hp=>(l2 p p (by simp[ixL,hp])).2
  have hone':∀x∈cs',Value.oneCell' x=true:=λx hx=>by
   obtain⟨p,hp,e⟩:=zbg hx
   have h1:=hc' p ow
   rw[zak hp,e] at h1
   obtain⟨_,_,_,_,ho⟩:=p2.each (zag h1.symm)
   exact q2e ho
  obtain⟨A,cc,rfl,hcell⟩:∃A cc,u'=.slice A rows'.length cc/\(0<rows'.length->∃ad,A=some ad/\∀j x,cs'[j]? = some x->w.cell? (ad.add j)=some x):=by
   rcases l1.2 with⟨rfl,q⟩ | ⟨g',cap,cur,rfl,y1,y2,y3,y4,y5,y6⟩
   ·omega
   ·refine⟨_,_,rfl,λ_=>⟨_,rfl,λj x hj=>?_⟩⟩
    grind [Ls.add_zero_lit,qu2]
  have hby:(rows.length+rows'.length)*i.bytes<=1000000*1000000:=zbb hl1 (by rw[i3]; exact small)
  rw[c3] at hu
  obtain⟨v',w',g1,g2,g3,g5⟩:=q04 w0.n t o.type eh' i z 1 i.bytes hu (by rw[<- c3]; exact i1) i4 (by rw[i2]; exact c5) rfl (by rw[i5]; exact c5) ow u rows.length cs k1 rows'.length cc cs' ow hcell hone' (by unfold maxLen; omega) ow hr.below.size
  have hlt:=qd6 (m:=s.mem) (g:=g) (by rw[hm]; rfl)
  have hlt':=qd6 (m:=s.mem) (g:=h') (by rw[hm']; rfl)
  have hx:∀x x' b,x∈hs->x'∈hs2->blk x=some b->blk x'=some b->False:=λx x' b hx hx' hb hb'=>hr.apart g h' _ _ b (zc9 hne) (by rw[hm]; rfl) (by rw[hm']; rfl) q1 p1 (qd7.2 ⟨x,hx,hb⟩) (qd7.2 ⟨x',hx',hb'⟩)
  have hnone:∀b,v'.ownBlock=some b->m b=none:=by
   intro b hb
   rcases g5 with e5 | e5
   ·exact q2.free u b (zag r2) (qe9 (by rw[<- e5]; exact hb))
   ·rw[e5] at hb
    obtain rfl:=zaa hb
    cases hm':m w.heap.size with
    | none=>rfl
    | some ob=>have:=View.lt hr.view hm'; omega
  have hj:=q2.join p2 r2 hc hc' hcl g2 g3 g5 hx hnone
  obtain⟨hr1,hL⟩:=hr.forget (g:=h') (by rw[hm']; rfl) p1 rfl
  have hm1:qa1 (qc7 (qb7 h' .any s.mem) h' .dead) g=.mat eh' e' _ rows .none .none:=by
   rw[qd1 _ _ _ _ (by rw[qa9]; exact hlt'),zai (zc9 hne),qe7,hm]; rfl
  have hset:(ρ.set g (qf7 (v' :: (hs.drop 1++hs2.drop 1))))[g]? = some (qf7 (v' :: (hs.drop 1++hs2.drop 1))):=by rw[zbl]; simp[hr.len,hlt]
  have hpads:Pads ρ (ρ.set g (qf7 (v' :: (hs.drop 1++hs2.drop 1)))) nm:=λx b _ hx=>by
   rw[zbt (λe=>?_)]
   ·exact hx
   ·subst e; rw[q1] at hx; cases hx
  refine qf4 g1 ⟨.msl g .none,_,m,_,h,hpads,⟨_,v',hset,⟨rfl,q1y g2⟩,rfl⟩,?_⟩
  refine hr1.turnG (g:=g) (d:=.any) (v:=qf7 hs) (by show(qa1 (qc7 (qb7 h' .any s.mem) h' .dead) g).live=true; rw[hm1]; rfl) q1 rfl (qr8 g3 λr hr'=>qd7.2 ⟨u,zag r2,qe9 hr'⟩) (View.le_refl m) (by simp)
   (λx y hne' hy=>by grind) (λx y hne' hy=>by grind) (λ_=>⟨_,rfl⟩) (λ_ _ _ _ _=>⟨_,rfl⟩) (λb ob hb=>.inl hb) (λb ob hb=>?_) (λx hx=>?_)
   ⟨_,hset,hj,λT hT=>by cases hT⟩ (λ_ x b hx hb=>?_)
  ·rw[g3.block b (View.lt hr.view hb) (λe=>by have:=q2.free u b (zag r2) (qe9 e.symm); rw[this] at hb; cases hb)]
   exact hr.view b ob hb
  ·rcases zaw hx with hx | rfl
   ·exact hr.hdr x hx
   ·rfl
  ·rw[hset] at hx
   obtain rfl:=zaa hx
   obtain⟨y,hy,hby⟩:=qd7.1 hb
   rcases zao.1 hy with rfl | hy
   ·rcases g5 with e5 | e5
    ·exact .inl (qd7.2 ⟨u,zag r2,qe9 (by rw[<- e5]; exact(qh6 g2).1 hby)⟩)
    grind [qh6]
   grind [qd7,List.mem_of_mem_drop]
 ·obtain⟨l',A,cc,news,h7,hu',hrl,hcell⟩:=wj4 hr h hvy
  clear h
  subst hu'
  have hnl:news.length=l'.length*E.size:=by rw[RdL.length hrl,b2]
  have hone:=w6p hrl
  split at h7
  ·rename_i g hnp
   split at h7
   ·rename_i e t' l hm
    cases hee:Nat.beq e T.elem <;> rw[hee] at h7
    ·exact h7.elim
    have hee:=zab hee
    subst hee
    obtain⟨hte,h⟩:=qg0 h7
    clear h7
    have hte:=hte.symm
    subst hte
    obtain⟨hl1,h⟩:=h l' HEq.rfl
    have hl1:=w0o hl1
    have ho:=hr.objs g
    rw[hm] at ho
    obtain⟨v,vs,q1,q2,q3,q4⟩:=ho
    obtain⟨v',⟨r1,_⟩,r2⟩:=hvx
    rw[q1] at r1
    obtain rfl:=zaa r1
    obtain rfl:=(zac r2).1
    rw[b2] at q3
    have hby:(l.length+l'.length)*i.bytes<=1000000*1000000:=zbb hl1 (by rw[i3]; exact small)
    obtain⟨v',w',g1,g2,g3,g5⟩:=q04 w0.n t o.type T.elem i z E.size i.bytes hu i1 i4 i2 rfl i5 hpos u l.length vs q3 l'.length cc news hnl hcell hone (by unfold maxLen; omega) ow hr.below.size
    have hlt:=qd6 (m:=s.mem) (g:=g) (by rw[hm]; rfl)
    have hnone:∀b,v'.ownBlock=some b->m b=none:=by
     intro b hb
     rcases g5 with e5 | e5
     ·exact q4 b (by rw[<- e5]; exact hb)
     ·rw[e5] at hb
      obtain rfl:=zaa hb
      cases hm':m w.heap.size with
      | none=>rfl
      | some ob=>have:=View.lt hr.view hm'; omega
    have hset:(ρ.set g v')[g]? = some v':=by grind
    have hrow:w'.ownsRow w0.n T.elem E.ty.size v' (l++l').length (vs++news):=by rw[zas,b2]; exact g2
    have hpads:Pads ρ (ρ.set g v') nm:=λx b _ hx=>by
     rw[zbt (λe=>?_)]
     ·exact hx
     ·subst e
      rw[q1] at hx
      have:=w6f q3
      rw[zaa hx] at this
      cases this
    refine qf4 g1 ⟨.own g,_,m,ρ.set g v',h,hpads,⟨v',⟨hset,q1y g2⟩,rfl⟩,?_⟩
    refine hr.turn (o:=.vec T.elem E.ty (l++l')) (d:=.any) hm q1 g3 (View.le_refl m) (by simp) (λh u hne hu=>by grind) (λh u hne hu=>by grind) ⟨_,rfl⟩
     (λb ob hb=>.inl hb) (λb ob hb=>?_) (λu hu=>?_) ⟨v',_,hset,RdL.append hrl q2,hrow,hnone⟩ (λ_ u b hu hb=>?_)
    ·rw[g3.block b (View.lt hr.view hb) (λe=>by grind)]
     exact hr.view b ob hb
    ·rcases zaw hu with hu | rfl
     ·exact hr.hdr u hu
     ·exact q2e g2
    ·rw[hset] at hu
     obtain rfl:=zaa hu
     grind [qk4]
   ·exact h7.elim
  ·rename_i n c hnp
   have h0:n=0/\c=0:=by
    grind
   obtain⟨rfl,rfl⟩:=h0
   obtain⟨hl1,h⟩:=h7
   have hl1:=w0o hl1
   obtain rfl:=(zac (show[u]=[_] from hvx)).1
   have hby:(0+l'.length)*i.bytes<=1000000*1000000:=zbb ow (by rw[i3]; exact small)
   obtain⟨v',w',g1,g2,g3,g5⟩:=q04 (P:=P) (w:=w) w.heap.size t o.type T.elem i z E.size i.bytes hu i1 i4 i2 rfl i5 hpos (.slice none 0 0) 0 [] (zbp w w.heap.size T.elem E.size) l'.length cc news hnl hcell hone (by unfold maxLen; omega) ow (zad _)
   rw[zb8,List.nil_append,<- b2] at g2
   exact qf4 g1 (q8y hr hf h hrl (Ls.below_none g3) g2 (q2e g2))
  ·rename_i c0 t0 l0 hnp
   cases c0 with
   | false=>exact h7.elim
   | true=>
   obtain⟨l1,A1,c1,olds,⟨⟨hp,hl1⟩,h⟩,hu1,hrl1,hcell1⟩:=wj4 (x:=.dat t0 l0) hr h7 hvx.1
   obtain⟨A2,hu2⟩:=hvx.2
   have hu2:=(zac hu2).1
   have holds:olds.length=l1.length*E.size:=by rw[RdL.length hrl1,b2]
   have hby:(l1.length+l'.length)*i.bytes<=1000000*1000000:=zbb hl1 (by rw[i3]; exact small)
   obtain⟨ad',rfl,hcn⟩:=hcell hp
   subst hu1
   injection hu2 with z1 z2 z3
   have hrow:∀(v:Value) (w':World),w'.ownsRow w.heap.size T.elem E.size v (l1.length+l'.length) (olds++news)->w'.ownsRow w.heap.size T.elem E.ty.size v (l1++l').length (olds++news):=λv w' q=>by rw[zas,b2]; exact q
   cases A1 with
   | none=>
    have hl0:l1=[]:=zay (by
     grind)
    subst hl0
    have hc1:c1=0:=by rw[z3,<- z2]; rfl
    subst hc1
    obtain rfl:olds=[]:=hrl1
    obtain⟨v',w',g1,g2,g3,g5⟩:=q04 (P:=P) (w:=w) w.heap.size t o.type T.elem i z E.size i.bytes hu i1 i4 i2 rfl i5 hpos (.slice none 0 0) 0 [] (zbp w w.heap.size T.elem E.size) l'.length cc news hnl hcell hone (by unfold maxLen; omega) (by simpa using zah hby dc) (zad _)
    exact qf4 g1 (q8y hr hf h (RdL.append hrl (l:=[]) (vs:=[]) rfl) (Ls.below_none g3) (hrow _ _ g2) (q2e g2))
   | some ad=>
    have hc1:c1=l1.length:=by rw[z3,<- z2]
    subst hc1
    have hco:∀j u,olds[j]? = some u->w.cell? (ad.add j)=some u:=λj u hj=>by
     grind
    obtain⟨v',w',g1,g2,g3⟩:=run_append_arg_grows (P:=P) w t o.type T.elem i z E.size i.bytes hu i1 i4 i2 rfl i5 hpos ad l1.length l1.length olds holds hco ad' l'.length cc news hnl hcn ow (by unfold maxLen; omega) (zah hby dc)
    exact qf4 g1 (q8y hr hf h (RdL.append hrl hrl1) (Ls.below_none g3) (hrow _ _ g2) (q2e g2))
  ·exact h7.elim
theorem wj8 (hr:Rel P w0 m0 s m ρ a w) {c:Call} {big:Bool} (ho:o.op=.call c) (hc:c.callee=.builtin (match big with | true=>.max | false=>.min)) (h:q8u big (c.args.toList.map (qc8 s.ov s.base)) λj n=>k (.lit (.int j n)) .none) :
  Res P (To P w0 m0 s ρ nm a k) ((execOp a.eval o).run P w):=by
 obtain⟨ca,args,ats⟩:=c
 simp only at hc h
 subst hc
 have hmx:∀(big:Bool) (a b:Int),(match big with | true=>(if b > a then b else a) | false=>(if b<a then b else a))=max2 big a b:=by
  grind [max2]
 unfold q8u at h
 split at h
 ·rename_i p q hl
  obtain⟨x,y,rfl,rfl,rfl⟩:∃x y,args=#[x,y]/\p=qc8 s.ov s.base x/\q=qc8 s.ov s.base y:=by
   obtain⟨l⟩:=args
   match l,hl with
   | [x,y],hl=>grind
  obtain⟨j,n,h1,h⟩:=qj2 h (hr.eval x)
  obtain⟨j',n',h2,h⟩:=qj2 h (hr.eval y)
  obtain⟨rfl,h⟩:=qq0 h
  rw[<- hmx] at h
  cases big
  ·rw[qt1 ho rfl]
   simp only[List.map_toArray,List.map_cons,List.map_nil,h1,h2]
   exact qf4 (x:=Builtin.min_ _ _ _) (by rfl) (To.same hr h rfl)
  ·rw[qt1 ho rfl]
   simp only[List.map_toArray,List.map_cons,List.map_nil,h1,h2]
   exact qf4 (x:=Builtin.max_ _ _ _) (by rfl) (To.same hr h rfl)
 ·rename_i p q r hl
  obtain⟨x,y,z,rfl,rfl,rfl,rfl⟩:∃x y z,args=#[x,y,z]/\p=qc8 s.ov s.base x/\q=qc8 s.ov s.base y/\r=qc8 s.ov s.base z:=by
   obtain⟨l⟩:=args
   match l,hl with
   | [x,y,z],hl=>grind
  obtain⟨j,n,h1,h⟩:=qj2 h (hr.eval x)
  obtain⟨j',n',h2,h⟩:=qj2 h (hr.eval y)
  obtain⟨j'',n'',h3,h⟩:=qj2 h (hr.eval z)
  obtain⟨rfl,h⟩:=qq0 h
  obtain⟨rfl,h⟩:=qq0 h
  rw[<- hmx,<- hmx] at h
  cases big
  ·rw[qt1 ho rfl]
   simp only[List.map_toArray,List.map_cons,List.map_nil,h1,h2,h3]
   exact qf4 (x:=Builtin.min_ _ _ _) (by rfl) (To.same hr h rfl)
  ·rw[qt1 ho rfl]
   simp only[List.map_toArray,List.map_cons,List.map_nil,h1,h2,h3]
   exact qf4 (x:=Builtin.max_ _ _ _) (by rfl) (To.same hr h rfl)
 grind
end
end Eng
set_option linter.unusedVariables false
set_option linter.unusedSimpArgs false
namespace Eng
open Go Go.RowKit
def w3n (P:Program) (S:qa8) (k:AV->Prop) (B:Nat) (w':World) (m':View) (v:Value):Prop:=match S.own with
 | none=>∃r,k r/\r.ok P m' [] [v]
 | some e=>match S.bx with
  | true=>∃r cs b us,k (.cons r cs)/\B<=b/\w'.heap[b]? = some (.cells (List.toArray us) e (0,0))/\r.ok P m' [.pointer (some ⟨b,0,none⟩)] [v]/\cs.ok P m' [] us/\(∀x∈us,Value.oneCell' x=true)/\m' b=none
  | false=>match S.deep with
  | none=>(∃t l vs,k (.dat t l)/\w'.ownsRow B e t.size v l.length vs/\RdL m' t l vs/\∀b,v.ownBlock=some b->m' b=none)\/(k (.lit (.slice none 0 0))/\v=.slice none 0 0) \/
   ∃t l vs v1 rest z,v=.tuple (v1 :: rest).toArray/\k (.tup (.cons (.dat t l) z))/\z.ok P m' [] rest/\w'.ownsRow B e t.size v1 l.length vs/\RdL m' t l vs/\∀b,v1.ownBlock=some b->m' b=none
  | some e'=>(∃(t:Ty) (l:List (List t.den)) (hs:List Value),k (.dat (.list t) l)/\hs[0]? = some v/\PoolOk m' w' B e e' t l none hs) \/
   ∃(t:Ty) (l:List (List t.den)) (hs:List Value) (v1:Value) (rest:List Value) (z:AV),v=.tuple (v1 :: rest).toArray/\k (.tup (.cons (.dat (.list t) l) z))/\z.ok P m' [] rest/\hs[0]? = some v1/\PoolOk m' w' B e e' t l none hs
def x0j (P:Program) (F:Nat) (cs:Array Value) (m:View) {α:Type} (args:α->View->List Value->Prop) (lent:α->World->List Value->(Nat->Prop)->Prop) (L:List α):Prop:=
 ∀(l:Nat) (J:Nat->(Nat->Prop)->World->Prop) (Jx:(Nat->Prop)->World->Prop) (W0:World) (D0:Nat->Prop),
  (∀k D W W',J k D W->Same D W W'->J k D W')->(∀D W W',Jx D W->Same D W W'->Jx D W')->(∀k D W,J k D W->∀b,D b->b<W.heap.size)->(∀D W,Jx D W->∀b,D b->b<W.heap.size) ->
  (∀k D W d mx vs B,J k D W->L[k]? = some d->mx.on W->(∀b o,mx b=some o->(∃c t f,o=.cells c t f)/\(m b=some o\/(W0.heap.size<=b/\¬D b)))->args d mx vs->lent d W vs B->(∀b,B b->W0.heap.size<=b/\b<W.heap.size/\¬D b/\mx b=none) ->
   YieldAt Fence.wide 0 P l vs.toArray W λe W'=>Kept (λb=>D b\/B b) W W'/\m.on W'/\lent d W' vs B /\
    ((e=.returned (.bool true)/\∃D',(∀b,D' b->D b\/W.heap.size<=b\/mx b≠none)/\J (k+1) D' W')\/(e=.returned (.bool false)/\∃D',(∀b,D' b->D b\/W.heap.size<=b\/mx b≠none\/B b)/\Jx D' W'))) ->
  m.on W0->J 0 D0 W0 ->
  CallsIn Fence.wide 0 P F (#[.func (.yield l) #[] #[]]++cs) W0 λe W'=>(∃v,e=.returned v)/\((∃D,J L.length D W')\/∃D,Jx D W')
def qu7 (e:Nat):(ts:List Ty)->qa3 ts->World->List Value->(Nat->Prop)->Prop
 | [.list t],d,W,vs,B=>∃v xs,vs=[v]/\Ty.flat t=true/\RdL (λ_=>none) t d.1 xs/\W.ownsRow 0 e t.size v d.1.length xs/\∀b,B b↔v.ownBlock=some b
 | _,_,_,_,_=>False
def qh8 (o:Option Nat) (ts:List Ty) (d:qa3 ts) (W:World) (vs:List Value) (B:Nat->Prop):Prop:=match o with
 | .none=>∀b,¬B b
 | some e=>qu7 e ts d W vs B
def qq1 (o:Option Nat) (ts:List Ty) (d:qa3 ts) (mx:View) (vs:List Value):Prop:=match o with
 | .none=>qs9 mx ts d vs
 | some _=>vs.length=ts.length
theorem q5a {o:Option Nat} {ts:List Ty} {d:qa3 ts} {mx:View} {vs:List Value} (h:qq1 o ts d mx vs):vs.length=ts.length:=by
 cases o with
 | none=>exact q8s h
 | some e=>exact h
theorem qx8 {o:Option Nat} {ts:List Ty} {d:qa3 ts} {W W':World} {vs:List Value} {B:Nat->Prop} (h:qh8 o ts d W vs B) (hk:∀b,B b->W'.heap[b]? = W.heap[b]?):qh8 o ts d W' vs B:=by
 cases o with
 | none=>exact h
 | some e=>
  have h:qu7 e ts d W vs B:=h
  show qu7 e ts d W' vs B
  unfold qu7 at h
  split at h
  ·obtain⟨v,xs,h1,h2,h3,h4,h5⟩:=h
   exact⟨v,xs,h1,h2,h3,qo4 h4 λb hb=>hk b ((h5 b).2 ((qh6 h4).1 hb)),h5⟩
  grind
def qv9 (P:Program) (F:Nat) (S:qz6):Prop:=ql2 P F/\∀(m:View) (caps:AV) (cs:List Value) (K:List (qa3 S.ins)->Prop),(∀b o,m b=some o->∃c t f,o=.cells c t f)->caps.ok P m [] cs->S.run caps K ->
 ∃L,K L/\x0j P F cs.toArray m (qq1 S.lend S.ins) (qh8 S.lend S.ins) L
def Meets (P:Program) (f:Nat) (S:qa8):Prop:=ql2 P f/\∀(w:World) (m:View) (args:AV) (vs:List Value) (k:AV->Prop),m.on w->args.ok P m [] vs->S.run args k ->
 Calls P f vs.toArray w λe w'=>∃v m',e=.returned v/\Below w.heap.size w w'/\m'.on w'/\(match S.fresh with
  | true=>∀b o,m' b=some o->w.heap.size<=b
  | false=>m.le m'/\∀b o,m' b=some o->m b=some o\/w.heap.size<=b)/\w3n P S k w.heap.size w' m' v
def MeetsAt (P:Program) (m0:View) (f:Nat) (S:qa8):Prop:=ql2 P f/\∀(w:World) (m:View) (args:AV) (vs:List Value) (k:AV->Prop),m.on w->m0.le m->args.ok P m [] vs->S.run args k ->
 Calls P f vs.toArray w λe w'=>∃v m',e=.returned v/\Below w.heap.size w w'/\m'.on w'/\(match S.fresh with
  | true=>∀b o,m' b=some o->w.heap.size<=b
  | false=>m.le m'/\∀b o,m' b=some o->m b=some o\/w.heap.size<=b)/\w3n P S k w.heap.size w' m' v
theorem Meets.at {P:Program} {f:Nat} {S:qa8} (h:Meets P f S) (m0:View):MeetsAt P m0 f S:=⟨h.1,λw m args vs k hm _ ha hr=>h.2 w m args vs k hm ha hr⟩
theorem MeetsAt.le {P:Program} {m0 m1:View} {f:Nat} {S:qa8} (h:MeetsAt P m0 f S) (hl:m0.le m1):MeetsAt P m1 f S:=⟨h.1,λw m args vs k hm hx ha hr=>h.2 w m args vs k hm (λb o hb=>hx b o (hl b o hb)) ha hr⟩
theorem MeetsAt.all {P:Program} {f:Nat} {S:qa8} (h:MeetsAt P (λ_=>none) f S):Meets P f S:=⟨h.1,λw m args vs k hm ha hr=>h.2 w m args vs k hm (λb o hb=>by grind) ha hr⟩
def ql6 (d:Bool):Option (List Nat):=match d with
 | true=>.none
 | false=>some []
def q14 (d:Bool):Nat:=match d with
 | true=>0
 | false=>1
def MSpec.keep (M:MSpec) (m:View):View:=match Ty.flat M.t with
 | true=>λ_=>none
 | false=>m
def qo6 (P:Program) (f:Nat) (M:MSpec):Prop:=ql2 P f/\∀(w:World) (m:View) (hs:List Value) (rows:List (List M.t.den)) (args:AV) (vs:List Value) (k:AV->List (List M.t.den)->Prop),m.on w->PoolOk m w 0 M.eh M.e M.t rows (ql6 M.deep) hs->args.ok P m [] vs->M.run rows args k->(M.deep=false->rows.length=1) ->
 Calls P f ((hs.getD (q14 M.deep) undef) :: vs).toArray w λe w'=>∃v m' r rows' hs',e=.returned v/\Kept (Blk (qf7 hs)) w w'/\m'.on w'/\(∀b o,m' b=some o->w.heap.size<=b)/\q6p (some ⟨hs⟩) hs'/\PoolOk (M.keep m) w' 0 M.eh M.e M.t rows' (ql6 M.deep) hs'/\k r rows'/\(match M.self with
  | true=>v=hs.getD (q14 M.deep) undef
  | false=>r.ok P m' [] [v])
section
variable {P : Program} {w0 : Base} {m0 : View} {s : St} {m : View} {ρ : List Value} {a : Act} {w : World} {k : AV -> Eff -> Prop} {o : Oper} {C : Ctx}
theorem qu4 {av:AV}:∀{vs:List Value},av.plain=true->av.ok P m ρ vs->av.ok P m [] vs:=by
 induction av with
 | own g=>intro vs h; cases h
 | box g off=>intro vs h; cases h
 | optr g t i off=>intro vs h; cases h
 | msl g j=>intro vs h; cases h
 | mptr g j t i off=>intro vs h; cases h
 | msub g x y=>intro vs h; cases h
 | imm cs off ih=>intro vs h k; obtain⟨ad,us,k1,k2,k3⟩:=k; exact⟨ad,us,k1,ih h k2,k3⟩
 | clo f caps ih=>intro vs h k; obtain⟨cs,k1,k2⟩:=k; exact⟨cs,k1,ih h k2⟩
 | agg l ih=>intro vs h k; obtain⟨cs,k1,k2⟩:=k; exact⟨cs,k1,ih h k2⟩
 | tup l ih=>intro vs h k; obtain⟨cs,k1,k2⟩:=k; exact⟨cs,k1,ih h k2⟩
 | cons a b iha ihb=>
  intro vs h k
  obtain⟨v,rest,k1,k2,k3⟩:=k
  simp only[AV.plain] at h
  split at h
  ·rename_i h1; exact⟨v,rest,k1,iha h1 k2,ihb h k3⟩
  grind
 | _=>intro vs h k; exact k
theorem w0p {M:View} {t:Ty}:∀(l:List t.den) (cs:List Value),cs.length=l.length->(∀(i:Nat) x v,l[i]? = some x->cs[i]? = some v->Rd M t x [v])->RdL M t l cs
 | [],cs,h,_=>by obtain rfl:=zay h; rfl
 | x :: l,[],h,_=>by grind
 | x :: l,v :: cs,h,hk=>⟨[v],cs,rfl,hk 0 x v rfl rfl,w0p l cs (by grind) λi y u h1 h2=>hk (i+1) y u (by grind) (by grind)⟩
theorem wa5 (t:Ty) (rows:List (List t.den)) (ix:Option (List Nat)):(q1u t rows ix).length=qe0 rows.length ix:=by cases ix <;> simp[q1u,qe0]
theorem x0k {t:Ty} {rows:List (List t.den)} {ix:Option (List Nat)} {i:Nat} {x:List t.den} (h:(q1u t rows ix)[i]? = some x):∃p,(ixL rows.length ix)[i]? = some p/\x=qe5 (.list t) rows p:=by
 cases ix with
 | none=>
  have h:rows[i]? = some x:=h
  obtain⟨hi,e⟩:=zaf.1 h
  simp_all [ixL,qo1]
 | some l=>
  have h:(l.map λp=>qe5 (.list t) rows p)[i]? = some x:=h
  rw[za5] at h
  obtain⟨p,h1,h2⟩:=zbj.1 h
  exact⟨p,h1,h2.symm⟩
theorem wu8 {M:View} {B eh e:Nat} {t:Ty} {rows:List (List t.den)} {ix:Option (List Nat)} {hs:List Value} (h:PoolOk m w B eh e t rows ix hs) (hm:m.le M) (hk:∀b,(∃u∈hs,blk u=some b)->M b=w.heap[b]?) :
  (∀v,hs[0]? = some v->Rd M (.list (.list t)) (q1u t rows ix) [v])/\∀p v,hs[p+1]? = some v->Rd M (.list t) (qe5 (.list t) rows p) [v]:=by
 have hrow:∀p v,hs[p+1]? = some v->Rd M (.list t) (qe5 (.list t) rows p) [v]:=λp v hv=>by
  obtain⟨hp,vs,k1,k2⟩:=h.rowAt hv
  exact qm2 k2 (RdL.le hm k1) λb hb=>hk b ⟨v,zag hv,qe9 hb⟩
 refine⟨λv hv=>?_,hrow⟩
 obtain⟨cs,k1,k2⟩:=h.headAt hv
 have hcl:cs.length=qe0 rows.length ix:=by have:=k1.1; omega
 have k1':w.ownsRow B eh (Ty.list t).size v (q1u t rows ix).length cs:=by rw[wa5]; exact k1
 refine qm2 (t:=.list t) k1' (w0p (t:=.list t) _ _ (by grind [wa5]) λi x u hx hu=>?_) λb hb=>hk b ⟨v,zag hv,qe9 hb⟩
 obtain⟨p,h1,rfl⟩:=x0k hx
 grind
theorem qp4 {B B' e size n:Nat} {v:Value} {xs:List Value} (h:w.ownsRow B e size v n xs) (hb:∀b,blk v=some b->B'<=b):w.ownsRow B' e size v n xs:=by
 refine⟨h.1,?_⟩
 rcases h.2 with h0 | ⟨g',cap,cur,rfl,hB,r⟩
 ·grind
 ·exact .inr ⟨g',cap,cur,rfl,hb g' rfl,r⟩
theorem PoolOk.rebase {B B' eh e:Nat} {t:Ty} {rows:List (List t.den)} {ix:Option (List Nat)} {hs:List Value} (h:PoolOk m w B eh e t rows ix hs) (hb:∀u b,u∈hs->blk u=some b->B'<=b):PoolOk m w B' eh e t rows ix hs:=by
 have mem:∀i,i<hs.length->hs.getD i undef∈hs:=λi hi=>by
  grind
 have hl:=h.len
 refine⟨h.len,?_,λp hp=>?_,h.apart,h.free⟩
 ·obtain⟨cs,k1,k2⟩:=h.head
  exact⟨cs,qp4 k1 λb hh=>hb _ b (mem 0 ow) hh,k2⟩
 ·obtain⟨vs,k1,k2⟩:=h.row p hp
  grind [qp4]
theorem PoolOk.base {B B' eh e:Nat} {t:Ty} {rows:List (List t.den)} {ix:Option (List Nat)} {hs:List Value} (h:PoolOk m w B eh e t rows ix hs) (hB:B'<=B):PoolOk m w B' eh e t rows ix hs:=
 h.rebase λu b hu hb=>by
  obtain⟨_,_,_,_,ho⟩:=h.each hu
  exact zah hB (own_blk ho hb).1
theorem PoolOk.view {m':View} {B eh e:Nat} {t:Ty} {rows:List (List t.den)} {ix:Option (List Nat)} {hs:List Value} (h:PoolOk m w B eh e t rows ix hs) (hm:m.cle m') (hf:∀u b,u∈hs->blk u=some b->m' b=none):PoolOk m' w B eh e t rows ix hs:=
 ⟨h.len,h.head,λp hp=>by obtain⟨vs,k1,k2⟩:=h.row p hp; grind [RdL.cle],h.apart,hf⟩
theorem x0l {m m':View}:∀{t:Ty} {x:t.den} {vs:List Value},Ty.flat t=true->Rd m t x vs->Rd m' t x vs:=by
 intro t
 induction t with
 | int k=>intro x vs _ h; exact h
 | bool=>intro x vs _ h; exact h
 | str=>intro x vs _ h; exact h
 | list t _=>intro x vs h; cases h
 | nlist t _=>intro x vs h; cases h
 | prod a b iha ihb=>
  intro x vs h hr
  simp only[Ty.flat] at h
  split at h
  ·rename_i ha
   obtain⟨u,v,e,h1,h2⟩:=hr
   exact⟨u,v,e,iha ha h1,ihb h h2⟩
  grind
theorem qi6 {m m':View} {t:Ty} (ht:Ty.flat t=true):∀{l:List t.den} {vs:List Value},RdL m t l vs->RdL m' t l vs
 | [],_,h=>h
 | _ :: _,_,⟨u,v,h1,h2,h3⟩=>⟨u,v,h1,x0l ht h2,qi6 ht h3⟩
theorem PoolOk.flat {m':View} {B eh e:Nat} {t:Ty} (ht:Ty.flat t=true) {rows:List (List t.den)} {ix:Option (List Nat)} {hs:List Value} (h:PoolOk m w B eh e t rows ix hs) (hf:∀u b,u∈hs->blk u=some b->m' b=none):PoolOk m' w B eh e t rows ix hs:=
 ⟨h.len,h.head,λp hp=>by obtain⟨vs,k1,k2⟩:=h.row p hp; grind [qi6],h.apart,hf⟩
def Seen (s:St) (ρ:List Value) (w:World) (M:View) (g:Nat):Prop:=∀v b,(qa1 s.mem g).live=true->ρ[g]? = some v->Blk v b->M b=w.heap[b]?
theorem w6r (hr:Rel P w0 m0 s m ρ a w) {M:View} (hm:m.le M) {g e:Nat} {t:Ty} {l:List t.den} (hg:qa1 s.mem g=.vec e t l) (hs:Seen s ρ w M g) {v:Value} (hv:ρ[g]? = some v):Rd M (.list t) l [v]:=by
 have ho:=hr.objs g
 rw[hg] at ho
 obtain⟨v',vs,q1,q2,q3,q4⟩:=ho
 rw[hv] at q1
 obtain rfl:=zaa q1
 exact qm2 q3 (RdL.le hm q2) (λb hb=>hs v b (by rw[hg]; rfl) hv (qg7 hb))
theorem q3a (hr:Rel P w0 m0 s m ρ a w) {M:View} (hm:m.le M) {g:Nat} {k:Option Nat} (hs:Seen s ρ w M g) {vs:List Value} (h:(AV.msl g k).ok P m ρ vs):(qz9 s.mem g k).ok P M [] vs:=by
 obtain⟨hs',v,r1,⟨r2,r3⟩,rfl⟩:=h
 unfold qz9
 split
 ·rename_i eh e t rows ix lt hmm
  have ho:=hr.objs g
  rw[hmm] at ho
  obtain⟨hh,q1,q2,_⟩:=ho
  rw[q1] at r1
  obtain rfl:=qf1 (zaa r1)
  obtain⟨x1,x2⟩:=wu8 q2 hm λb hb=>hs _ b (by rw[hmm]; rfl) q1 (qd7.2 hb)
  cases k with
  | none=>exact x1 v r2
  | some p=>exact x2 p v r2
 ·exact⟨v,rfl⟩
theorem q05 (hr:Rel P w0 m0 s m ρ a w) {M:View} (hm:m.le M) {g x y:Nat} (hs:Seen s ρ w M g) {vs:List Value} (h:(AV.msub g x y).ok P m ρ vs):(q19 s.mem g x y).ok P M [] vs:=by
 obtain⟨hs',A,n,c,r1,r2,⟨r3,r4⟩,rfl⟩:=h
 unfold q19
 split
 ·rename_i eh e t rows ix lt hmm
  have ho:=hr.objs g
  rw[hmm] at ho
  obtain⟨hh,q1,q2,_⟩:=ho
  rw[q1] at r1
  obtain rfl:=qf1 (zaa r1)
  obtain⟨x1,x2⟩:=wu8 q2 hm λb hb=>hs _ b (by rw[hmm]; rfl) q1 (qd7.2 hb)
  have h1:=x1 _ r2
  have hn:n=(q1u t rows ix).length:=by
   obtain⟨A',c',e1,_⟩:=h1
   grind
  subst hn
  have:=w6m (x:=x) (y:=y) h1 r3 r4
  simp only[Ty.size,Nat.mul_one] at this
  exact this
 ·exact⟨_,rfl⟩
theorem xh3 (hr:Rel P w0 m0 s m ρ a w) {M:View} (hm:m.le M) {av:AV}:∀{vs:List Value},(∀g,av.msk.testBit g=true->Seen s ρ w M g)->av.ok P m ρ vs->(av.snap s.mem).ok P M [] vs:=by
 induction av with
 | own g=>
  intro vs hg k
  obtain⟨v,⟨k1,_⟩,rfl⟩:=k
  simp only[AV.snap]
  split
  ·rename_i e; exact w6r hr hm e (hg g (by simp[AV.msk,qb4])) k1
  ·exact⟨v,rfl⟩
 | box g off=>intro vs hg k; obtain⟨b,k1,rfl⟩:=k; exact⟨_,rfl⟩
 | optr g t i off=>intro vs hg k; obtain⟨b,n,c,k1,rfl⟩:=k; exact⟨_,rfl⟩
 | msl g j=>intro vs hg k; exact q3a hr hm (hg g (by simp[AV.msk,qb4])) k
 | mptr g j t i off=>intro vs hg k; obtain⟨hs,b,n,c,_,_,rfl⟩:=k; exact⟨_,rfl⟩
 | msub g x y=>intro vs hg k; exact q05 hr hm (hg g (by simp[AV.msk,qb4])) k
 | dat t l=>intro vs hg k; exact Rd.le hm k
 | ndat c t l=>intro vs hg k; exact⟨Rd.le hm k.1,k.2⟩
 | dptr t l i off=>intro vs hg k; obtain⟨h0,ad,cs,k1,k2,k3⟩:=k; exact⟨h0,ad,cs,k1,Rd.le hm k2,λj v hj=>View.cell_le hm (k3 j v hj)⟩
 | imm cs off ih=>intro vs hg k; obtain⟨ad,us,k1,k2,k3⟩:=k; exact⟨ad,us,k1,ih hg k2,λj v hj=>View.cell_le hm (k3 j v hj)⟩
 | fn a r p f=>intro vs hg k; obtain⟨fv,k1,k2⟩:=k; exact⟨fv,k1,k2.le hm.cle⟩
 | clo f caps ih=>intro vs hg k; obtain⟨cs,k1,k2⟩:=k; exact⟨cs,k1,ih hg k2⟩
 | agg l ih=>intro vs hg k; obtain⟨cs,k1,k2⟩:=k; exact⟨cs,k1,ih hg k2⟩
 | tup l ih=>intro vs hg k; obtain⟨cs,k1,k2⟩:=k; exact⟨cs,k1,ih hg k2⟩
 | cons a b iha ihb=>intro vs hg k; obtain⟨v,rest,k1,k2,k3⟩:=k; exact⟨v,rest,k1,iha (λg h=>hg g (by simp[AV.msk,qd0,h])) k2,ihb (λg h=>hg g (by simp[AV.msk,qd0,h])) k3⟩
 | any=>intro vs hg k; exact k
 | lit v=>intro vs hg k; exact k
 | tt=>intro vs hg k; exact k
 | ff=>intro vs hg k; exact k
 | nil=>intro vs hg k; exact k
theorem qn5 {mem:List AObj} {R R':Nat} (hR:∀g,R.testBit g=true->R'.testBit g=true) (g:Nat) (hg:(qf5 mem R).testBit g=true):(qf5 mem R').testBit g=true:=by
 unfold qf5 at *
 rw[qd0,zbx] at *
 rcases hg with hg | hg
 ·grind
 ·refine .inr ?_
  have:∀(l:List AObj) (i:Nat),(qq4 R l i).testBit g=true->(qq4 R' l i).testBit g=true:=by
   intro l
   induction l with
   | nil=>intro i hh; exact hh
   | cons o r ih=>
    intro i hh
    simp only[qq4] at *
    cases hq:R.testBit i with
    | true=>
     rw[hq] at hh
     rw[hR i hq]
     simp only[qd0,Bool.or_eq_true] at *
     grind
    | false=>
     rw[hq] at hh
     have:=ih _ hh
     split
     all_goals simp_all
  grind
theorem w6s (hr:Rel P w0 m0 s m ρ a w) {M:View} (hm:m.le M) {av:AV}:∀{vs:List Value},(∀g,(qf5 s.mem av.msk).testBit g=true->Seen s ρ w M g)->av.ok P m ρ vs->(av.bor s.mem).ok P M [] vs:=by
 induction av with
 | own g=>
  intro vs hg k
  obtain⟨v,⟨k1,_⟩,rfl⟩:=k
  simp only[AV.bor]
  split
  ·rename_i e; exact w6r hr hm e (hg g (qh4 (by simp[AV.msk,qb4]))) k1
  ·exact⟨v,rfl⟩
 | box g off=>
  intro vs hg k
  obtain⟨b,k1,rfl⟩:=k
  simp only[AV.bor]
  split
  ·rename_i ty cs hmm
   have ho:=hr.objs g
   rw[hmm] at ho
   obtain⟨b',vs,q1,q2,q3,q4,q5,q6⟩:=ho
   have hsn:=hg g (qh4 (by simp[AV.msk,qb4]))
   rw[k1] at q1
   obtain rfl:b=b':=by grind
   refine⟨⟨b,0,none⟩,vs,by rw[Ls.add_zero_lit],xh3 hr hm (λx hx=>hg x (q0i (g:=g) (by simp[AV.msk,qb4]) (by rw[hmm]; exact hx))) q4,λj v hj=>?_⟩
   rw[Ls.add_zero_lit,View.cell,hsn _ b (by rw[hmm]; rfl) k1 rfl,q3]
   grind
  ·exact⟨_,rfl⟩
 | optr g t i off=>intro vs hg k; obtain⟨b,n,c,k1,rfl⟩:=k; exact⟨_,rfl⟩
 | msl g j=>intro vs hg k; exact q3a hr hm (hg g (qh4 (by simp[AV.msk,qb4]))) k
 | mptr g j t i off=>intro vs hg k; obtain⟨hs,b,n,c,_,_,rfl⟩:=k; exact⟨_,rfl⟩
 | msub g x y=>intro vs hg k; exact q05 hr hm (hg g (qh4 (by simp[AV.msk,qb4]))) k
 | dat t l=>intro vs hg k; exact Rd.le hm k
 | ndat c t l=>intro vs hg k; exact⟨Rd.le hm k.1,k.2⟩
 | dptr t l i off=>intro vs hg k; obtain⟨h0,ad,cs,k1,k2,k3⟩:=k; exact⟨h0,ad,cs,k1,Rd.le hm k2,λj v hj=>View.cell_le hm (k3 j v hj)⟩
 | imm cs off ih=>intro vs hg k; obtain⟨ad,us,k1,k2,k3⟩:=k; exact⟨ad,us,k1,ih hg k2,λj v hj=>View.cell_le hm (k3 j v hj)⟩
 | fn a r p f=>intro vs hg k; obtain⟨fv,k1,k2⟩:=k; exact⟨fv,k1,k2.le hm.cle⟩
 | clo f caps ih=>intro vs hg k; obtain⟨cs,k1,k2⟩:=k; exact⟨cs,k1,ih hg k2⟩
 | agg l ih=>intro vs hg k; obtain⟨cs,k1,k2⟩:=k; exact⟨cs,k1,ih hg k2⟩
 | tup l ih=>intro vs hg k; obtain⟨cs,k1,k2⟩:=k; exact⟨cs,k1,ih hg k2⟩
 | cons a b iha ihb=>intro vs hg k; obtain⟨v,rest,k1,k2,k3⟩:=k; exact⟨v,rest,k1,iha (λg h=>hg g (qn5 (λx hx=>by grind [AV.msk,qd0]) g h)) k2,ihb (λg h=>hg g (qn5 (λx hx=>by grind [AV.msk,qd0]) g h)) k3⟩
 | any=>intro vs hg k; exact k
 | lit v=>intro vs hg k; exact k
 | tt=>intro vs hg k; exact k
 | ff=>intro vs hg k; exact k
 | nil=>intro vs hg k; exact k
theorem x4a (hr:Rel P w0 m0 s m ρ a w) {av:AV} {vs:List Value} (h:av.ok P m ρ vs):(av.bor s.mem).ok P (λb=>w.heap[b]?) [] vs:=
 w6s (M:=λb=>w.heap[b]?) hr hr.view (λ_ _ _ _ _ _ _=>rfl) h
theorem qk5 {ρ:List Value}:∀(g:Nat) (v:Value),([]:List Value)[g]? = some v->q8n v=false->ρ[g]? = some v:=λg v h=>by grind
theorem x7b {m m':View} {p:Value} {nm:Nat} (hm:m.le m') (hp:ρ[nm]? = some p):∀{av:AV} {vs:List Value},av.ok P m [p] vs->(av.rn nm).ok P m' ρ vs:=by
 intro av
 induction av with
 | own g=>intro vs k; obtain⟨v,_,k⟩:=k; exact⟨v,k⟩
 | box g off=>
  intro vs k
  obtain⟨b,k1,k2⟩:=k
  cases g with
  | zero=>exact⟨b,hp.trans (by grind),k2⟩
  | succ g=>grind
 | optr g t i off=>intro vs k; obtain⟨b,n,c,_,k⟩:=k; exact⟨_,k⟩
 | msl g j=>intro vs k; obtain⟨hs,v,_,_,k⟩:=k; exact⟨_,k⟩
 | mptr g j t i off=>intro vs k; obtain⟨hs,b,n,c,_,_,k⟩:=k; exact⟨_,k⟩
 | msub g x y=>intro vs k; obtain⟨hs,A,n,c,_,_,_,k⟩:=k; exact⟨_,k⟩
 | dat t l=>intro vs k; exact Rd.le hm k
 | ndat c t l=>intro vs k; exact⟨Rd.le hm k.1,k.2⟩
 | dptr t l i off=>intro vs k; obtain⟨h0,ad,cs,k1,k2,k3⟩:=k; exact⟨h0,ad,cs,k1,Rd.le hm k2,λj v hj=>View.cell_le hm (k3 j v hj)⟩
 | imm cs off ih=>intro vs k; obtain⟨ad,us,k1,k2,k3⟩:=k; exact⟨ad,us,k1,ih k2,λj v hj=>View.cell_le hm (k3 j v hj)⟩
 | fn a r p f=>intro vs k; obtain⟨fv,k1,k2⟩:=k; exact⟨fv,k1,k2.le hm.cle⟩
 | clo f caps ih=>intro vs k; obtain⟨cs,k1,k2⟩:=k; exact⟨cs,k1,ih k2⟩
 | agg l ih=>intro vs k; obtain⟨cs,k1,k2⟩:=k; exact⟨cs,k1,ih k2⟩
 | tup l ih=>intro vs k; obtain⟨cs,k1,k2⟩:=k; exact⟨cs,k1,ih k2⟩
 | cons a b iha ihb=>intro vs k; obtain⟨v,rest,k1,k2,k3⟩:=k; exact⟨v,rest,k1,iha k2,ihb k3⟩
 | _=>intro vs k; exact k
theorem w0q {nm:Nat} (hr:Rel P w0 m0 s m ρ a w) (hf:Free s ρ nm) {S:qa8} {w':World} {m':View} {v:Value} {k':AV->Prop} (hk:∀r,k' r->q5p S nm k r)
  (hb:Below w.heap.size w w') (hm':m'.on w') (hnew:(m.le m'/\∀b o,m' b=some o->m b=some o\/w.heap.size<=b)\/∀b o,m' b=some o->w.heap.size<=b) (h:w3n P S k' w.heap.size w' m' v) :
  To P w0 m0 s ρ nm a k v w':=by
 have hmw:m.on w':=View.on_below hr.view hb
 let m1:View:=m.or m'
 have e1:m.le m1:=View.le_or
 have e2:m'.le m1:=View.or_le hmw hm'
 have e3:m1.on w':=View.or_on hmw hm'
 have e4:∀b o,m1 b=some o->m b=some o\/w.heap.size<=b:=by
  grind [View.or]
 have hr1:=hr.grow hb e1 e3 e4
 unfold w3n at h
 cases hown:S.own with
 | none=>
  rw[hown] at h
  obtain⟨r,h1,h2⟩:=h
  have:=hk r h1
  unfold q5p at this
  rw[hown] at this
  exact To.same hr1 this (AV.ok_le e2 qk5 h2)
 | some e=>
  rw[hown] at h
  cases hbx:S.bx with
  | true=>
   rw[hbx] at h
   obtain⟨r,cs,b,us,h1,h2,h3,h4,h5,h6,h7⟩:=h
   have:=hk _ h1
   unfold q5p at this
   rw[hown] at this
   simp only at this
   rw[hbx] at this
   have hz:m1 b=none:=by
    unfold m1 View.or
    cases hmb:m b with
    | none=>omega
    | some o=>have:=View.lt hr.view hmb; omega
   refine⟨_,_,m1,nput ρ nm (.pointer (some ⟨b,0,none⟩)),this,Pads.nput hr.len hf _,x7b e2 (qh0 hr.len hf _) h4,?_⟩
   exact hr1.addObj hf hr.blkLt (λb hb=>hr.below.new hb) ⟨b,us,qh0 hr.len hf _,zah hr.below.size h2,h3,AV.ok_le e2 qk5 h5,h6,hz⟩ (λx hx=>(show b=x by grind [Blk,blk]) ▸ h2) rfl
  | false=>
  rw[hbx] at h
  cases hdp:S.deep with
  | none=>
   rw[hdp] at h
   rcases h with h | h | h
   case inr.inl=>
    obtain⟨h1,rfl⟩:=h
    have:=hk _ h1
    unfold q5p at this
    rw[hown] at this
    simp only at this
    rw[hbx] at this
    simp only at this
    rw[hdp] at this
    exact To.same hr1 this.2 rfl
   case inr.inr=>
    obtain⟨t,l,vs,v1,rest,z,hv,h1,hzo,h2,h3,h4⟩:=h
    have:=hk _ h1
    unfold q5p at this
    rw[hown] at this
    simp only at this
    rw[hbx] at this
    simp only at this
    rw[hdp] at this
    have hz:∀b,v1.ownBlock=some b->m1 b=none:=by
     intro b hbv
     unfold m1 View.or
     cases hmb:m b with
     | none=>grind
     | some o=>have:=View.lt hr.view hmb; have:=(h2.lt b hbv).1; omega
    refine⟨_,_,m1,nput ρ nm v1,this,Pads.nput hr.len hf _,⟨_,by rw[hv],v1,rest,rfl,⟨v1,⟨qh0 hr.len hf _,q1y h2⟩,rfl⟩,AV.ok_le e2 qk5 hzo⟩,?_⟩
    exact hr1.addObj hf hr.blkLt (λb hb=>hr.below.new hb) ⟨v1,vs,qh0 hr.len hf _,RdL.le e2 h3,Ls.own_base h2 hr.below.size,hz⟩ (λb hb=>(h2.lt b ((qk4 h2).1 hb)).1) (q2e h2)
   obtain⟨t,l,vs,h1,h2,h3,h4⟩:=h
   have:=hk _ h1
   unfold q5p at this
   rw[hown] at this
   simp only at this
   rw[hbx] at this
   simp only at this
   rw[hdp] at this
   have hz:∀b,v.ownBlock=some b->m1 b=none:=by
    intro b hbv
    unfold m1 View.or
    cases hmb:m b with
    | none=>grind
    | some o=>have:=View.lt hr.view hmb; have:=(h2.lt b hbv).1; omega
   refine⟨_,_,m1,nput ρ nm v,this,Pads.nput hr.len hf _,⟨v,⟨qh0 hr.len hf _,q1y h2⟩,rfl⟩,?_⟩
   exact hr1.addObj hf hr.blkLt (λb hb=>hr.below.new hb) ⟨v,vs,qh0 hr.len hf _,RdL.le e2 h3,Ls.own_base h2 hr.below.size,hz⟩ (λb hb=>(h2.lt b ((qk4 h2).1 hb)).1) (q2e h2)
  | some e'=>
   rw[hdp] at h
   rcases h with h | h
   case inr=>
    obtain⟨t,l,hs,v1,rest,z,hv,h1,hzo,h2,h3⟩:=h
    have:=hk _ h1
    unfold q5p at this
    rw[hown] at this
    simp only at this
    rw[hbx] at this
    simp only at this
    rw[hdp] at this
    have hlo:∀u b,u∈hs->blk u=some b->w.heap.size<=b/\m1 b=none:=λu b hu hb=>by
     obtain⟨_,_,_,_,ho⟩:=h3.each hu
     have h5:=(own_blk ho hb).1
     refine⟨h5,?_⟩
     unfold m1 View.or
     cases hmb:m b with
     | none=>exact h3.free u b hu hb
     | some o=>have:=View.lt hr.view hmb; omega
    refine⟨_,_,m1,nput ρ nm (qf7 hs),this,Pads.nput hr.len hf _,⟨_,by rw[hv],v1,rest,rfl,⟨hs,v1,qh0 hr.len hf _,⟨h2,?_⟩,rfl⟩,AV.ok_le e2 qk5 hzo⟩,?_⟩
    ·obtain⟨_,_,_,_,ho⟩:=h3.each (zag h2)
     exact q1y ho
    ·refine hr1.addObj hf hr.blkLt (λb hb=>hr.below.new hb) ⟨hs,qh0 hr.len hf _,(h3.base hr.below.size).view e2.cle λu b hu hb=>(hlo u b hu hb).2,λT hT=>by grind⟩ (λb hb=>?_) rfl
     grind [qd7]
   obtain⟨t,l,hs,h1,h2,h3⟩:=h
   have:=hk _ h1
   unfold q5p at this
   rw[hown] at this
   simp only at this
   rw[hbx] at this
   simp only at this
   rw[hdp] at this
   have hlo:∀u b,u∈hs->blk u=some b->w.heap.size<=b/\m1 b=none:=λu b hu hb=>by
    obtain⟨_,_,_,_,ho⟩:=h3.each hu
    have h5:=(own_blk ho hb).1
    refine⟨h5,?_⟩
    unfold m1 View.or
    cases hmb:m b with
    | none=>exact h3.free u b hu hb
    | some o=>have:=View.lt hr.view hmb; omega
   refine⟨_,_,m1,nput ρ nm (qf7 hs),this,Pads.nput hr.len hf _,⟨hs,v,qh0 hr.len hf _,⟨h2,?_⟩,rfl⟩,?_⟩
   ·obtain⟨_,_,_,_,ho⟩:=h3.each (zag h2)
    exact q1y ho
   ·refine hr1.addObj hf hr.blkLt (λb hb=>hr.below.new hb) ⟨hs,qh0 hr.len hf _,(h3.base hr.below.size).view e2.cle λu b hu hb=>(hlo u b hu hb).2,λT hT=>by grind⟩ (λb hb=>?_) rfl
    grind [qd7]
theorem Free.freeze {ρ:List Value} {nm g e:Nat} {t:Ty} {l:List t.den} (h:Free s ρ nm) (hm:qa1 s.mem g=.vec e t l):Free (qr2 s nm (.freeze g t l)) ρ nm:=by
 have hl:(qr2 s nm (.freeze g t l)).mem.length=s.mem.length:=by
  show(qc7 (qb7 g (.dat t l) s.mem) g .dead).length=_
  rw[qc9 _ _ _ (by rw[qa9]; exact qd6 (by rw[hm]; rfl)),qa9]
 grind [Free]
theorem wa6 (hr:Rel P w0 m0 s m ρ a w) {M:View} (hm:m.le M) {g:Nat} (hS:∀g',g'≠g->Seen s ρ w M g') {lp:Option Nat} (hrow:∀p,lp=some p->∀q,q≠p->∀vs,(AV.msl g (some q)).ok P m ρ vs->(qz9 s.mem g (some q)).ok P M [] vs) {rest:AV}:∀{vs:List Value} {K:AV->Prop},q31 s.mem g lp rest K->rest.ok P m ρ vs ->
  ∃r,K r/\r.ok P M [] vs:=by
 induction rest with
 | nil=>intro vs K h k; exact⟨.nil,h,k⟩
 | cons v r _ ih=>
  intro vs K h k
  obtain⟨u,us,rfl,k1,k2⟩:=k
  simp only[q31] at h
  split at h
  ·rename_i ht
   obtain⟨r',h1,h2⟩:=ih h k2
   refine⟨_,h1,u,us,rfl,w6s hr hm (λg' hg'=>hS g' λe=>?_) k1,h2⟩
   grind
  ·split at h
   ·grind
   ·rename_i p
    split at h
    case h_2=>grind
    rename_i h' j
    split at h
    case h_2=>grind
    rename_i q
    split at h
    case h_2=>grind
    rename_i he
    have he:=zab he
    subst he
    obtain⟨hq,h⟩:=h
    obtain⟨r',h1,h2⟩:=ih h k2
    exact⟨_,h1,u,us,rfl,hrow _ rfl q hq _ k1,h2⟩
 | _=>intro vs K h; exact h.elim
def x4b:Value->Nat->Bool
 | .func _ _ a,b=>a.toList.any λu=>decide (blk u=some b)
 | v,b=>decide (blk v=some b)
theorem w0r {v:Value} {b:Nat}:x4b v b=true↔Blk v b:=by
 cases v <;> first | (simp[x4b,Blk]; done) | skip
 simp only[x4b,Blk,List.any_eq_true,decide_eq_true_eq]
def but (w:World) (v:Value):View:=λb=>match x4b v b with
 | true=>none
 | false=>w.heap[b]?
theorem wa7 {v:Value} {b:Nat} (h:Blk v b):but w v b=none:=by grind [but,w0r]
theorem qx9 {v:Value} {b:Nat} (h:¬Blk v b):but w v b=w.heap[b]?:=by
 grind [but,x4b,absurd,w0r]
theorem w6t {v:Value}:(but w v).on w:=λb o h=>by
 grind [but]
theorem w0s {m m':View} {b B:Nat} (h1:m b=none) (h2:∀o,m' b=some o->B<=b) (hb:b<B):(m.or m') b=none:=by
 unfold View.or
 rw[h1]
 cases h:m' b with
 | none=>rfl
 | some o=>grind
theorem qy0 {h:Value} {v:Value} {hs:List Value} (k:q6p (some ⟨[h,v]⟩) hs):hs=[h,v]:=by
 obtain⟨k1,k2,k3⟩:=k _ rfl
 match hs,k2 with
 | [a,b],_=>
  have e1:a=h:=by grind
  subst e1
  have k3:∀u,u∈[a,b]↔u∈[a,v]:=k3
  have h1:=(k3 b).1 (by simp)
  have h2:=(k3 v).2 (by simp)
  grind
theorem q50 {M:View} {B eh e:Nat} {t:Ty} {l:List t.den} {v:Value} {vs:List Value} (h1:RdL M t l vs) (h2:w.ownsRow B e t.size v l.length vs) (hf:∀b,blk v=some b->M b=none):PoolOk M w B eh e t [l] (some []) [.slice none 0 0,v]:=by
 refine⟨rfl,⟨[],zbp _ _ _ _,λi p h=>by grind [ixL]⟩,λp hp=>?_,λi j u u' b hne hu hu' hb1 hb2=>?_,λu b hu hb=>?_⟩
 ·obtain rfl:p=0:=by grind
  exact⟨vs,h1,h2⟩
 ·match i,j,hu,hu' with
  | 0,_,hu,_=>obtain rfl:=zaa hu; cases hb1
  | 1,0,_,hu'=>obtain rfl:=zaa hu'; cases hb2
  | 1,1,_,_=>omega
  | 1,j+2,_,hu'=>grind
  | i+2,_,hu,_=>grind
 ·rcases zao.1 hu with rfl | hu
  ·cases hb
  grind
theorem q51 {M:View} {B eh e:Nat} {t:Ty} {rows:List (List t.den)} {h v:Value} {ix:Option (List Nat)} (k:PoolOk M w B eh e t rows ix [h,v]):rows.length=1/\∃vs,RdL M t (qe5 (.list t) rows 0) vs/\w.ownsRow B e t.size v (qe5 (.list t) rows 0:List t.den).length vs:=by
 have hl:rows.length=1:=by have:=k.len; grind
 exact⟨hl,k.row 0 ow⟩
theorem PoolOk.setRow {w':World} {B eh e:Nat} {t:Ty} {rows:List (List t.den)} {ix:Option (List Nat)} {hs:List Value} (h:PoolOk m w B eh e t rows ix hs) {p:Nat} {v:Value} (hv:hs[p+1]? = some v) {l:List t.den} {vs:List Value} (h1:RdL m t l vs) (h2:w'.ownsRow B e t.size v l.length vs)
  (hk:∀b,b<w.heap.size->blk v≠some b->w'.heap[b]? = w.heap[b]?):PoolOk m w' B eh e t (rows.set p l) ix hs:=by
 have hl:=h.len
 have hp:=(h.rowAt hv).1
 have get:∀i,i<hs.length->hs[i]? = some (hs.getD i undef):=λi hi=>by grind
 have keep:∀i,i<hs.length->i≠p+1->∀{e size n:Nat} {xs:List Value},w.ownsRow B e size (hs.getD i undef) n xs->w'.ownsRow B e size (hs.getD i undef) n xs:=λi hi hne {_ _ _ _} ho=>
  qo4 ho λb hb=>hk b (own_blk ho hb).2.1 λe'=>h.apart i (p+1) _ _ b hne (get i hi) hv hb e'
 refine⟨by grind,?_,λq hq=>?_,h.apart,h.free⟩
 ·obtain⟨cs,k1,k2⟩:=h.head
  grind
 ·rw[zaz] at hq
  by_cases e':q=p
  ·grind [q2x,getD_some]
  ·rw[q6g (t:=.list t) rows p q l e']
   obtain⟨vs',k1,k2⟩:=h.row q hq
   grind
theorem PoolOk.at0 {B eh e:Nat} {t:Ty} {rows:List (List t.den)} {ix:Option (List Nat)} {hs:List Value} (h:PoolOk m w B eh e t rows ix hs):hs[0]? = some (hs.getD 0 undef):=by
 have:=h.len
 grind
theorem x0m {nm:Nat} {f:Nat} {M:MSpec} (hM:qo6 P f M) (hr:Rel P w0 m0 s m ρ a w) {args:AV} {vs:List Value} (hargs:args.ok P m ρ vs) (h:wi1 M s.mem args k) :
  Calls P f vs.toArray w λe w'=>∃v,e=.returned v/\To P w0 m0 s ρ nm a k v w':=by
 unfold wi1 at h
 split at h
 case h_2=>exact h.elim
 rename_i av rest
 obtain⟨u,us,rfl,ha,hrest⟩:=hargs
 -- the view afterwards
 have grow:∀{v0:Value} {w':World} {m':View},Kept (Blk v0) w w'->(∀b,Blk v0 b->m b=none)->m'.on w'->(∀b o,m' b=some o->w.heap.size<=b)->m.le (m.or m')/\m'.le (m.or m')/\(m.or m').on w'/\(∀b o,(m.or m') b=some o->m b=some o\/w.heap.size<=b):=by
  intro v0 w' m' hk hf hon hnew
  have hmw:m.on w':=λb o hb=>by
   rw[hk.block b ⟨View.lt hr.view hb,λe=>by rw[hf b e] at hb; cases hb⟩]
   exact hr.view b o hb
  refine⟨View.le_or,View.or_le hmw hon,View.or_on hmw hon,λb o hbo=>?_⟩
  unfold View.or at hbo
  cases hmb:m b with
  | some o'=>rw[hmb] at hbo; exact .inl hbo
  | none=>rw[hmb] at hbo; exact .inr (hnew b o hbo)
 split at h
 ·-- elements that name what is read
  rename_i hnf
  unfold q6l at h
  split at h
  case h_2=>exact h.elim
  rename_i g
  split at h
  case h_2=>exact h.elim
  rename_i e t l hmm hdp hsf
  split at h
  case h_2=>exact h.elim
  rename_i he hpl0
  have he:=zab he
  obtain⟨ht,h⟩:=qg0 h
  subst ht he
  have h:=h l HEq.rfl
  have ho:=hr.objs g
  rw[hmm] at ho
  obtain⟨v,xs,q1,q2,q3,q4⟩:=ho
  obtain⟨v',⟨r1,r3⟩,r2⟩:=ha
  rw[q1] at r1
  obtain rfl:=zaa r1
  obtain rfl:=(zac r2).1
  have hbl:∀b,Blk (qf7 [.slice none 0 0,u]) b↔Blk u b:=λb=>by
   rw[qd7]
   constructor
   ·rintro⟨x,hx,hb⟩
    rcases zao.1 hx with rfl | hx
    ·cases hb
    ·obtain rfl:=zar.1 hx
     exact(qk4 q3).2 ((qh6 q3).1 hb)
   ·intro hb
    exact⟨u,by simp,(qh6 q3).2 ((qk4 q3).1 hb)⟩
  have hfree:∀b,Blk (qf7 [.slice none 0 0,u]) b->m b=none:=λb hb=>q4 b ((qk4 q3).1 ((hbl b).1 hb))
  have hpl:=q50 (eh:=M.eh) (B:=0) q2 (Ls.own_base q3 (zae _)) (λb hb=>q4 b ((qh6 q3).1 hb))
  have hix:ql6 M.deep=some []:=by rw[hdp]; rfl
  have hat:q14 M.deep=1:=by rw[hdp]; rfl
  have hkp:M.keep m=m:=by unfold MSpec.keep; rw[hnf]
  have:=hM.2 w m _ _ _ _ _ hr.view (by rw[hix]; exact hpl) (qu4 hpl0 hrest) h (λ_=>rfl)
  rw[hat,hkp,hsf] at this
  refine this.mono λe' w' ⟨v2,m',r,rows',hs',e1,e2,e3,e4,e5,e6,e7,e8⟩=>⟨v2,e1,?_⟩
  obtain rfl:=qy0 e5
  obtain⟨hl1,ys,y1,y2⟩:=q51 e6
  obtain⟨g1,g2,g3,g4⟩:=grow e2 hfree e3 e4
  have hon2:∀b,u.ownBlock=some b->(m.or m') b=none:=λb hb=>by
   have hbu:Blk u b:=(qk4 q3).2 hb
   exact w0s (hfree b ((hbl b).2 hbu)) (λo ho=>e4 b o ho) (q3.lt b hb).2
  exact⟨_,_,m.or m',ρ,e7,Pads.refl _ _,AV.ok_le g2 qk5 e8,hr.updG (by rw[hmm]; rfl) q1 (e2.mono λb ⟨x,y⟩=>⟨x,λe=>y ((hbl b).1 e)⟩) g1 g3 g4 ⟨u,ys,q1,RdL.le g1 y1,qp4 y2 λb hb=>(q3.lt b ((qh6 q3).1 hb)).1,hon2⟩⟩
 rename_i hft
 have hkf:∀m:View,M.keep m=λ_=>none:=λm=>by unfold MSpec.keep; rw[hft]
 split at h
 ·-- a slice of the call's own
  rename_i g
  split at h
  case h_2=>exact h.elim
  rename_i e t l hmm hdp
  split at h
  case h_2=>exact h.elim
  rename_i he
  have he:=zab he
  obtain⟨ht,h⟩:=qg0 h
  subst ht he
  have h:=h l HEq.rfl
  have ho:=hr.objs g
  rw[hmm] at ho
  obtain⟨v,xs,q1,q2,q3,q4⟩:=ho
  obtain⟨v',⟨r1,r3⟩,r2⟩:=ha
  rw[q1] at r1
  obtain rfl:=zaa r1
  obtain rfl:=(zac r2).1
  have hbl:∀b,Blk (qf7 [.slice none 0 0,u]) b↔Blk u b:=λb=>by
   rw[qd7]
   constructor
   ·rintro⟨x,hx,hb⟩
    rcases zao.1 hx with rfl | hx
    ·cases hb
    ·obtain rfl:=zar.1 hx
     exact(qk4 q3).2 ((qh6 q3).1 hb)
   ·intro hb
    exact⟨u,by simp,(qh6 q3).2 ((qk4 q3).1 hb)⟩
  have hfree:∀b,Blk (qf7 [.slice none 0 0,u]) b->m b=none:=λb hb=>q4 b ((qk4 q3).1 ((hbl b).1 hb))
  have hle:m.le (but w (qf7 [.slice none 0 0,u])):=λb o hb=>by
   rw[qx9 (λe=>by rw[hfree b e] at hb; cases hb)]
   exact hr.view b o hb
  have hS:∀g',g'≠g->Seen s ρ w (but w (qf7 [.slice none 0 0,u])) g':=λg' hne x b hl hx hb=>qx9 λe=>hr.apart g' g x u b hne hl (by rw[hmm]; rfl) hx q1 hb ((hbl b).1 e)
  obtain⟨rest',h,hrok⟩:=wa6 hr hle hS (λp e=>by cases e) h hrest
  have hpl:=q50 (eh:=M.eh) (B:=0) (RdL.le hle q2) (Ls.own_base q3 (zae _)) (λb hb=>wa7 ((hbl b).2 ((qk4 q3).2 ((qh6 q3).1 hb))))
  have hix:ql6 M.deep=some []:=by rw[hdp]; rfl
  have hat:q14 M.deep=1:=by rw[hdp]; rfl
  have:=hM.2 w _ _ _ _ _ _ w6t (by rw[hix]; exact hpl) hrok h (λ_=>rfl)
  rw[hat,hkf] at this
  refine this.mono λe' w' ⟨v2,m',r,rows',hs',e1,e2,e3,e4,e5,e6,e7,e8⟩=>⟨v2,e1,?_⟩
  obtain rfl:=qy0 e5
  obtain⟨hl1,ys,y1,y2⟩:=q51 e6
  obtain⟨g1,g2,g3,g4⟩:=grow e2 hfree e3 e4
  have hon2:∀b,u.ownBlock=some b->(m.or m') b=none:=λb hb=>by
   have hbu:Blk u b:=(qk4 q3).2 hb
   exact w0s (hfree b ((hbl b).2 hbu)) (λo ho=>e4 b o ho) (q3.lt b hb).2
  refine⟨_,_,m.or m',ρ,e7,Pads.refl _ _,?_,hr.updG (by rw[hmm]; rfl) q1 (e2.mono λb ⟨x,y⟩=>⟨x,λe=>y ((hbl b).1 e)⟩) g1 g3 g4 ⟨u,ys,q1,qi6 hft y1,qp4 y2 λb hb=>(q3.lt b ((qh6 q3).1 hb)).1,hon2⟩⟩
  cases hsf:M.self with
  | true=>
   rw[hsf] at e8
   have e8:v2=u:=e8
   rw[e8]
   exact⟨u,⟨q1,r3⟩,rfl⟩
  | false=>
   rw[hsf] at e8
   exact AV.ok_le g2 qk5 e8
 ·rename_i g j
  split at h
  ·-- a row of a pool
   rename_i eh e t rows ix lt p hmm hdp
   split at h
   case h_2=>exact h.elim
   rename_i he
   have he:=zab he
   obtain⟨ht,h⟩:=qg0 h
   injection ht with ht
   subst ht he
   have h:=h rows HEq.rfl
   have ho:=hr.objs g
   rw[hmm] at ho
   obtain⟨hs,q1,q2,q3⟩:=ho
   obtain⟨hsx,v',r1,⟨r2,r3⟩,r4⟩:=ha
   rw[q1] at r1
   obtain rfl:=qf1 (zaa r1)
   obtain rfl:=(zac r4).1
   have r2:hs[p+1]? = some u:=r2
   obtain⟨hp,xs,x1,x2⟩:=q2.rowAt r2
   have hbl:∀b,Blk (qf7 [.slice none 0 0,u]) b↔blk u=some b:=λb=>by
    rw[qd7]
    constructor
    ·rintro⟨x,hx,hb⟩
     rcases zao.1 hx with rfl | hx
     ·cases hb
     ·obtain rfl:=zar.1 hx; exact hb
    ·intro hb; exact⟨u,by simp,hb⟩
   have hsub:∀b,blk u=some b->Blk (qf7 hs) b:=λb hb=>qd7.2 ⟨u,zag r2,hb⟩
   have hfree:∀b,Blk (qf7 [.slice none 0 0,u]) b->m b=none:=λb hb=>q2.free u b (zag r2) ((hbl b).1 hb)
   have hle:m.le (but w (qf7 [.slice none 0 0,u])):=λb o hb=>by
    rw[qx9 (λe=>by rw[hfree b e] at hb; cases hb)]
    exact hr.view b o hb
   have hS:∀g',g'≠g->Seen s ρ w (but w (qf7 [.slice none 0 0,u])) g':=λg' hne x b hl hx hb=>qx9 λe=>hr.apart g' g x _ b hne hl (by rw[hmm]; rfl) hx q1 hb (hsub b ((hbl b).1 e))
   have hrw:∀p',some p=some p'->∀q,q≠p'->∀vs,(AV.msl g (some q)).ok P m ρ vs->(qz9 s.mem g (some q)).ok P (but w (qf7 [.slice none 0 0,u])) [] vs:=by
    intro p' e' q hq vs hok
    obtain rfl:=zaa e'
    obtain⟨hsy,v',z1,⟨z2,z3⟩,rfl⟩:=hok
    rw[q1] at z1
    obtain rfl:=qf1 (zaa z1)
    have z2:hs[q+1]? = some v':=z2
    unfold qz9
    rw[hmm]
    obtain⟨hq',ws,w1,w2⟩:=q2.rowAt z2
    exact qm2 w2 (RdL.le hle w1) λb hb=>qx9 λe=>q2.apart (q+1) (p+1) v' u b ow z2 r2 (qe9 hb) ((hbl b).1 e)
   obtain⟨rest',h,hrok⟩:=wa6 hr hle hS hrw h hrest
   have hpl:=q50 (eh:=M.eh) (B:=0) (RdL.le hle x1) (Ls.own_base x2 (zae _)) (λb hb=>wa7 ((hbl b).2 hb))
   have hix:ql6 M.deep=some []:=by rw[hdp]; rfl
   have hat:q14 M.deep=1:=by rw[hdp]; rfl
   have:=hM.2 w _ _ _ _ _ _ w6t (by rw[hix]; exact hpl) hrok h (λ_=>rfl)
   rw[hat,hkf] at this
   refine this.mono λe' w' ⟨v2,m',r,rows',hs',e1,e2,e3,e4,e5,e6,e7,e8⟩=>⟨v2,e1,?_⟩
   obtain rfl:=qy0 e5
   obtain⟨hl1,ys,y1,y2⟩:=q51 e6
   obtain⟨g1,g2,g3,g4⟩:=grow e2 hfree e3 e4
   have hset:=q2.setRow r2 (qi6 hft y1) (qp4 y2 λb hb=>(own_blk x2 hb).1) λb hb hne=>e2.block b ⟨hb,λe=>hne ((hbl b).1 e)⟩
   refine⟨_,_,m.or m',ρ,e7,Pads.refl _ _,?_,hr.updG (by rw[hmm]; rfl) q1 (e2.mono λb ⟨x,y⟩=>⟨x,λe=>y (hsub b ((hbl b).1 e))⟩) g1 g3 g4 ⟨hs,q1,hset.view g1.cle λx b hx hb=>?_,q3⟩⟩
   ·cases hsf:M.self with
    | true=>
     rw[hsf] at e8
     have e8:v2=u:=e8
     rw[e8]
     exact⟨hs,u,q1,⟨r2,r3⟩,rfl⟩
    | false=>
     rw[hsf] at e8
     exact AV.ok_le g2 qk5 e8
   ·obtain⟨_,_,_,_,hox⟩:=q2.each hx
    exact w0s (q2.free x b hx hb) (λo ho=>e4 b o ho) (own_blk hox hb).2.1
  ·-- a whole pool
   rename_i eh e t rows ix lt hmm hdp
   split at h
   case h_2=>exact h.elim
   rename_i c1 c2 c3
   have c1:=zab c1
   have c2:=zab c2
   obtain⟨ht,h⟩:=qg0 h
   injection ht with ht
   subst ht c1 c2
   have h:=h rows HEq.rfl
   have ho:=hr.objs g
   rw[hmm] at ho
   obtain⟨hs,q1,q2,q3⟩:=ho
   obtain⟨hsx,v',r1,⟨r2,r3⟩,r4⟩:=ha
   rw[q1] at r1
   obtain rfl:=qf1 (zaa r1)
   obtain rfl:=(zac r4).1
   have r2:hs[0]? = some u:=r2
   have hfree:∀b,Blk (qf7 hs) b->m b=none:=λb hb=>by
    obtain⟨x,hx,hbx⟩:=qd7.1 hb
    exact q2.free x b hx hbx
   have hle:m.le (but w (qf7 hs)):=λb o hb=>by
    rw[qx9 (λe=>by rw[hfree b e] at hb; cases hb)]
    exact hr.view b o hb
   have hS:∀g',g'≠g->Seen s ρ w (but w (qf7 hs)) g':=λg' hne x b hl hx hb=>qx9 λe=>hr.apart g' g x _ b hne hl (by rw[hmm]; rfl) hx q1 hb e
   obtain⟨rest',h,hrok⟩:=wa6 hr hle hS (λp e=>by cases e) h hrest
   have hix:ql6 M.deep=none:=by rw[hdp]; rfl
   have hat:q14 M.deep=0:=by rw[hdp]; rfl
   have hpl:PoolOk (but w (qf7 hs)) w 0 M.eh M.e M.t rows none hs:=(q2.base (zae _)).view hle.cle λx b hx hb=>wa7 (qd7.2 ⟨x,hx,hb⟩)
   have:=hM.2 w _ _ _ _ _ _ w6t (by rw[hix]; exact hpl) hrok h (λe=>by rw[hdp] at e; cases e)
   rw[hat,hkf,getD_some r2] at this
   refine this.mono λe' w' ⟨v2,m',r,rows',hs',e1,e2,e3,e4,e5,e6,e7,e8⟩=>⟨v2,e1,?_⟩
   obtain⟨g1,g2,g3,g4⟩:=grow e2 hfree e3 e4
   rw[hix] at e6
   rw[c3] at e8
   obtain⟨l1,l2,l3⟩:=e5 _ rfl
   have l1:hs'[0]? = hs[0]?:=l1
   have l3:∀x,x∈hs'↔x∈hs:=l3
   have hlt:=qd6 (m:=s.mem) (g:=g) (by rw[hmm]; rfl)
   have hset:(ρ.set g (qf7 hs'))[g]? = some (qf7 hs'):=by rw[zbl]; simp[hr.len,hlt]
   have hpads:Pads ρ (ρ.set g (qf7 hs')) nm:=λx b _ hx=>by
    rw[zbt (λe=>?_)]
    ·exact hx
    ·subst e; rw[q1] at hx; cases hx
   have hro:r.ok P (m.or m') (ρ.set g (qf7 hs')) [v2]:=AV.ok_le g2 qk5 e8
   refine⟨_,_,m.or m',ρ.set g (qf7 hs'),e7,hpads,hro,?_⟩
   refine hr.turnG (g:=g) (d:=.msl g .none) (v:=qf7 hs) (by rw[hmm]; rfl) q1 rfl e2 g1 (by simp)
    (λx y hne' hy=>by rw[zbl,zai (λe=>hne' e.symm)]; exact hy) (λx y hne' hy=>by rw[zbl,zai (λe=>hne' e.symm)] at hy; exact hy) (λhh=>by cases hh) (λhx x e' hx0 hsl=>?_) (λb ob hb=>(g4 b ob hb).imp id .inr) g3 (λx hx=>?_)
    ⟨hs',hset,(e6.rebase λx b hx hb=>?_).flat hft λx b hx hb=>?_,λT hT=>?_⟩ (λ_ x b hx hb=>.inl ?_)
   ·obtain rfl:=qf1 e'
    exact⟨hs',x,hset,⟨l1.trans hx0,hsl⟩,rfl⟩
   ·rcases zaw hx with hx | rfl
    ·exact hr.hdr x hx
    ·rfl
   ·obtain⟨_,_,_,_,hox⟩:=q2.each ((l3 x).1 hx)
    exact(own_blk hox hb).1
   ·have hx':=(l3 x).1 hx
    obtain⟨_,_,_,_,hox⟩:=q2.each hx'
    exact w0s (q2.free x b hx' hb) (λo ho=>e4 b o ho) (own_blk hox hb).2.1
   ·obtain⟨n1,n2,n3⟩:=q3 T hT
    exact⟨l1.trans n1,l2.trans n2,λx=>(l3 x).trans (n3 x)⟩
   ·rw[hset] at hx
    obtain rfl:=zaa hx
    obtain⟨y,hy,hby⟩:=qd7.1 hb
    exact qd7.2 ⟨y,(l3 y).1 hy,hby⟩
  ·exact h.elim
 ·exact h.elim
def w6u (w:World) (b:Nat) (v:Value) (T e:Nat) (q:ByteArray) (w':World):Prop:=
 Kept (Blk (q5w b v)) w w'/\∃v',BldOk (λ_=>none) w' 0 T e b v' q/\∀x,v'.ownBlock=some x->v.ownBlock=some x\/w.heap.size<=x
def q5b (P:Program) (f:Nat) (B:wt6):Prop:=ql2 P f/\∀(w:World) (b:Nat) (v:Value) (q:ByteArray),BldOk (λ_=>none) w 0 B.T B.e b v q->match B.kind with
 | 0=>∀c:Int,0<=c->c<256->q.size+1<=1000000000->Calls P f #[.pointer (some ⟨b,0,none⟩),.int .u8 c] w λe w'=>e=.returned .nilIface/\w6u w b v B.T B.e (q.push c.toNat.toUInt8) w'
 | 1=>∀u:ByteArray,q.size+u.size<=1000000000->Calls P f #[.pointer (some ⟨b,0,none⟩),.string u] w λe w'=>e=.returned (.tuple #[.int .i64 u.size,.nilIface])/\w6u w b v B.T B.e (q++u) w'
 | 2=>Calls P f #[.pointer (some ⟨b,0,none⟩)] w λe w'=>e=.returned (.string q)/\Kept (Blk (q5w b v)) w w'
 | _=>True
theorem BldOk.bare {B T e b:Nat} {v:Value} {q:ByteArray} (h:BldOk m w B T e b v q):BldOk (λ_=>none) w 0 T e b v q:=
 ⟨zae _,h.cell,qp4 h.own λ_ _=>zae _,h.ne,rfl,λ_ _=>rfl⟩
theorem w0t {B T e b:Nat} {v:Value} {q:ByteArray} {w':World} (hm:m.on w) (h:BldOk m w B T e b v q) (hk:Kept (Blk (q5w b v)) w w'):m.on w':=λx o hx=>
 (hk.block x ⟨View.lt hm hx,λhb=>by rw[(h.at hb).2.2.1] at hx; grind⟩).trans (hm x o hx)
theorem w0u {nm:Nat} (hr:Rel P w0 m0 s m ρ a w) {g T e b:Nat} {v:Value} {q q':ByteArray} {w':World} (hm:qa1 s.mem g=.bld T e q) (h1:ρ[g]? = some (q5w b v)) (h2:BldOk m w w0.n T e b v q) (h3:w6u w b v T e q' w') :
  ∃ρ',Pads ρ ρ' nm/\Rel P w0 m0 (qr2 s nm (.perm g (.bld T e q'))) m ρ' a w':=by
 obtain⟨hk,v',h4,h5⟩:=h3
 have hlt:=qd6 (m:=s.mem) (g:=g) (by rw[hm]; rfl)
 have hset:(ρ.set g (q5w b v'))[g]? = some (q5w b v'):=by grind
 have hblk:∀x,Blk (q5w b v') x->Blk (q5w b v) x\/w.heap.size<=x:=λx hx=>by
  rcases h4.blkIs.1 hx with e' | hx
  ·exact .inl (h2.blkIs.2 (.inl e'))
  ·rcases h5 x hx with h6 | h6
   ·exact .inl (h2.blkIs.2 (.inr h6))
   omega
 have hfree:∀x,Blk (q5w b v') x->w0.n<=x/\m x=none:=λx hx=>by
  rcases hblk x hx with h6 | h6
  ·exact⟨(h2.at h6).1,(h2.at h6).2.2.1⟩
  ·refine⟨zah hr.below.size h6,?_⟩
   cases hx':m x with
   | none=>rfl
   | some o=>have:=View.lt hr.view hx'; omega
 refine⟨ρ.set g (q5w b v'),λx c _ hx=>?_,?_⟩
 ·rw[zbt (λe'=>?_)]
  ·omega
  ·subst e'; rw[h1] at hx; cases hx
 refine hr.turnG (g:=g) (d:=.msl g .none) (v:=q5w b v) (by rw[hm]; rfl) h1 rfl hk (View.le_refl m) (by simp)
  (λx y hne' hy=>by grind) (λx y hne' hy=>by grind) (λhh=>by cases hh) (λhx x e' hx0 hsl=>?_) (λx o hx=>.inl hx) (w0t hr.view h2 hk) (λx hx=>?_)
  ⟨b,v',hset,(hfree b (h4.blkIs.2 (.inl rfl))).1,h4.cell,qp4 h4.own λx hx=>(hfree x (q6o.2 (.inr hx))).1,h4.ne,(hfree b (h4.blkIs.2 (.inl rfl))).2,λx hx=>(hfree x (h4.blkIs.2 (.inr hx))).2⟩ (λ_ x y hx hy=>?_)
 ·obtain rfl:=qf1 e'
  exact⟨_,x,hset,⟨hx0,hsl⟩,rfl⟩
 ·rcases zaw hx with hx | rfl
  ·exact hr.hdr x hx
  rfl
 grind
theorem x0n {nm:Nat} (hr:Rel P w0 m0 s m ρ a w) {g T e b:Nat} {v:Value} {q:ByteArray} {w':World} (hm:qa1 s.mem g=.bld T e q) (h1:ρ[g]? = some (q5w b v)) (h2:BldOk m w w0.n T e b v q) (h3:Kept (Blk (q5w b v)) w w') :
  Rel P w0 m0 (qr2 s nm (.upd g .dead true)) m ρ a w':=
 hr.turnG (by rw[hm]; rfl) h1 rfl h3 (View.le_refl m) rfl (λ_ _ _ h=>h) (λ_ _ _ h=>h) (λ_=>⟨_,rfl⟩) (λ_ _ _ _ _=>⟨_,rfl⟩) (λ_ _ hb=>.inl hb) (w0t hr.view h2 h3) hr.hdr trivial (λhl=>by grind)
theorem x4c {nm:Nat} {f:Nat} {B:wt6} (hB:q5b P f B) (hr:Rel P w0 m0 s m ρ a w) {args:AV} {vs:List Value} (hargs:args.ok P m ρ vs) (h:xu8 B s.mem args k) :
  Calls P f vs.toArray w λe w'=>∃v,e=.returned v/\To P w0 m0 s ρ nm a k v w':=by
 unfold xu8 at h
 split at h
 case h_2=>grind
 rename_i av r
 obtain⟨u,us,rfl,ha,hrest⟩:=hargs
 split at h
 case h_2=>grind
 rename_i g j
 split at h
 case h_2=>grind
 rename_i T e q hmm
 split at h
 case h_2=>grind
 rename_i c1 c2
 have c1:=zab c1
 have c2:=zab c2
 subst c1 c2
 have ho:=hr.objs g
 rw[hmm] at ho
 obtain⟨b,v,q1,q2⟩:=ho
 obtain⟨hsx,v',r1,⟨r2,r3⟩,r4⟩:=ha
 rw[q1] at r1
 obtain rfl:=qf1 (zaa r1)
 obtain rfl:=(zac r4).1
 obtain rfl:Value.pointer (some ⟨b,0,none⟩)=u:=zaa r2
 have hM:=hB.2 w b v q q2.bare
 unfold xz1 at h
 split at h
 ·rename_i hk
  rw[hk] at hM
  split at h
  case h_2=>grind
  split at h
  case h_2=>grind
  obtain⟨u2,us2,rfl,h4,h5⟩:=hrest
  obtain rfl:us2=[]:=h5
  obtain⟨jj,n,rfl,h⟩:=qj2 h h4
  obtain⟨rfl,h⟩:=qq0 h
  obtain⟨⟨n1,n2,n3⟩,h⟩:=h
  refine(hM n n1 n2 n3).mono λe' w' ⟨e1,e2⟩=>⟨_,e1,?_⟩
  obtain⟨ρ',k1,k2⟩:=w0u (nm:=nm) hr hmm q1 q2 e2
  exact⟨_,_,m,ρ',h,k1,rfl,k2⟩
 ·rename_i hk
  rw[hk] at hM
  split at h
  case h_2=>grind
  split at h
  case h_2=>grind
  split at h
  case h_2=>grind
  split at h
  case h_2=>grind
  obtain⟨u2,us2,rfl,h4,h5⟩:=hrest
  obtain rfl:us2=[]:=h5
  obtain rfl:u2=_:=(zac h4).1
  obtain⟨n1,h⟩:=h
  refine(hM _ n1).mono λe' w' ⟨e1,e2⟩=>⟨_,e1,?_⟩
  obtain⟨ρ',k1,k2⟩:=w0u (nm:=nm) hr hmm q1 q2 e2
  exact⟨_,_,m,ρ',h,k1,⟨[_,_],rfl,_,_,rfl,rfl,_,_,rfl,rfl,rfl⟩,k2⟩
 ·rename_i hk
  rw[hk] at hM
  split at h
  case h_2=>grind
  obtain rfl:us=[]:=hrest
  refine hM.mono λe' w' ⟨e1,e2⟩=>⟨_,e1,?_⟩
  exact⟨_,_,m,ρ,h,Pads.refl _ _,rfl,x0n hr hmm q1 q2 e2⟩
 grind
def x0o:Nat->Value->List Value->List Value
 | 0,v,l=>v :: l
 | _+1,v,[]=>[v]
 | n+1,v,x :: l=>x :: x0o n v l
def q5c (P:Program) (f:Nat) (B:q3y):Prop:=ql2 P f/\∀(w:World) (m:View) (b:Nat) (cs:AV) (us:List Value) (args:AV) (vs:List Value) (k:AV->AV->Prop),m.on w->m b=none->w.heap[b]? = some (.cells us.toArray B.T (0,0))->(∀v∈us,Value.oneCell' v=true)->cs.ok P m [] us->args.ok P m [] vs->B.run cs args k ->
 Calls P f (x0o B.pos (.pointer (some ⟨b,0,none⟩)) vs).toArray w λe w'=>∃v m' r cs' us',e=.returned v/\Kept (λx=>x=b) w w'/\m.le m'/\m'.on w'/\(∀x o,m' x=some o->m x=some o\/w.heap.size<=x)/\w'.heap[b]? = some (.cells (List.toArray us') B.T (0,0))/\(∀v∈us',Value.oneCell' v=true)/\r.ok P m' [] [v]/\cs'.ok P m' [] us'/\k r cs'
theorem w0v:∀{n:Nat} {args:AV} {K:AV->AV->Prop} {vs:List Value},wt8 n args K->args.ok P m ρ vs->∃av rest u us,K av rest/\vs=x0o n u us/\av.ok P m ρ [u]/\rest.ok P m ρ us
 | 0,args,K,vs,h,k=>by
  cases args <;> first | exact h.elim | skip
  obtain⟨u,us,rfl,k1,k2⟩:=k
  exact⟨_,_,u,us,h,rfl,k1,k2⟩
 | n+1,args,K,vs,h,k=>by
  cases args <;> first | exact h.elim | skip
  rename_i a r
  have h:wt8 n r λx r'=>K x (.cons a r'):=h
  obtain⟨x,xs,rfl,k1,k2⟩:=k
  obtain⟨av,rest,u,us,h1,rfl,h2,h3⟩:=w0v h k2
  exact⟨av,_,u,x :: us,h1,rfl,h2,x,us,rfl,k1,h3⟩
theorem x7c {nm:Nat} {f:Nat} {B:q3y} (hB:q5c P f B) (hr:Rel P w0 m0 s m ρ a w) {args:AV} {vs:List Value} (hargs:args.ok P m ρ vs) (h:bxK B s.mem args k) :
  Calls P f vs.toArray w λe w'=>∃v,e=.returned v/\To P w0 m0 s ρ nm a k v w':=by
 unfold bxK at h
 obtain⟨av,rest,u,us,h,rfl,ha,hrest⟩:=w0v h hargs
 split at h
 case h_2=>grind
 rename_i g off
 split at h
 case h_2=>grind
 rename_i ty cs hmm
 split at h
 case h_2=>grind
 rename_i c1 c2 c3
 have c1:=zab c1
 subst c1
 have ho:=hr.objs g
 rw[hmm] at ho
 obtain⟨b,xs,q1,q2,q3,q4,q5,q6⟩:=ho
 obtain⟨b',r1,r2⟩:=ha
 rw[q1] at r1
 injection (zaa r1) with r1
 injection (zaa r1) with r1
 subst r1
 obtain rfl:=(zac r2).1
 refine(hB.2 w m b cs xs rest us _ hr.view q6 q3 q5 (qu4 c3 q4) (qu4 c2 hrest) h).mono λe w' ⟨v,m',r,cs',us',e1,e2,e3,e4,e5,e6,e7,e8,e9,e10⟩=>⟨v,e1,?_⟩
 have hlt:b<w.heap.size:=(zal.1 q3).1
 have hmb:m' b=none:=by
  cases hx:m' b with
  | none=>rfl
  | some o=>
   grind
 refine⟨r,_,m',ρ,e10,Pads.refl _ _,AV.ok_le (View.le_refl _) qk5 e8,hr.updG (v:=.pointer (some ⟨b,0,none⟩)) (by rw[hmm]; rfl) q1 (e2.mono λx ⟨y,z⟩=>⟨y,λe=>z (by grind [Blk,blk])⟩) e3 e4 e5 ⟨b,us',q1,q2,e6,AV.ok_le (View.le_refl _) qk5 e9,e7,hmb⟩⟩
theorem w6v {nm:Nat} (hS:∀f S,find C.specs f=some S->MeetsAt P m0 f S) (hMs:∀f M,find C.muts f=some M->qo6 P f M) (hBs:∀f B,find C.blds f=some B->q5b P f B) (hXs:∀f B,find C.bxs f=some B->q5c P f B) (hr:Rel P w0 m0 s m ρ a w) (hf:Free s ρ nm) {f:Nat} {args:AV} {vs:List Value} (hargs:args.ok P m ρ vs) (h:callK C nm s.mem f args k) :
  ql2 P f/\Calls P f vs.toArray w λe w'=>∃v,e=.returned v/\To P w0 m0 s ρ nm a k v w':=by
 unfold callK at h
 split at h
 ·rename_i M hfm
  have hMM:=hMs f M hfm
  exact⟨hMM.1,x0m hMM hr hargs h⟩
 rename_i hfm
 split at h
 ·rename_i B hfb
  exact⟨(hBs f B hfb).1,x4c (hBs f B hfb) hr hargs h⟩
 split at h
 ·rename_i B hfb
  exact⟨(hXs f B hfb).1,x7c (hXs f B hfb) hr hargs h⟩
 obtain⟨S,hfs,h⟩:=withSome_iff.1 h
 obtain⟨hc,hM⟩:=hS f S hfs
 refine⟨hc,?_⟩
 cases hp:args.plain with
 | true=>
  rw[hp] at h
  refine(hM w m args vs _ hr.view hr.ext (qu4 hp hargs) h).mono λe w' ⟨v,m',e1,e2,e3,e4,e5⟩=>⟨v,e1,w0q hr hf (λr hr=>hr) e2 e3 ?_ e5⟩
  grind
 | false=>
  rw[hp] at h
  cases hfr':S.fresh with
  | false=>
   rw[hfr'] at h
   cases hown:S.own with
   | some e=>grind
   | none=>
    rw[hown] at h
    have h:q0d s.mem args λargs' g t l=>S.run args' λr=>k r (.freeze g t l):=h
    unfold q0d at h
    split at h
    ·grind
    ·rename_i g hg1
     split at h
     ·rename_i e t l hm
      cases hpl:(AV.subst g (.dat t l) args).plain with
      | false=>grind
      | true=>
       rw[hpl] at h
       obtain⟨m1,hm1,hr1,hrd⟩:=hr.freeze (nm:=nm) hm
       have ho:=hr.objs g
       rw[hm] at ho
       obtain⟨v0,vs0,q1,q2,q3,q4⟩:=ho
       have hargs':(AV.subst g (.dat t l) args).ok P m1 ρ vs:=w0f (d:=.dat t l) (ρ':=ρ) hm1 (λv hv _=>hrd v hv) (λhs v e _ _=>by
        rw[q1] at e
        have e:=zaa e
        subst e
        rcases q3.2 with⟨e,_⟩ | ⟨_,_,_,e,_⟩ <;> cases e) (λ_ _ _ h=>h) (λb hb=>by
        rw[q1] at hb
        have hb:=zaa hb
        subst hb
        rcases q3.2 with⟨e,_⟩ | ⟨_,_,_,e,_⟩ <;> cases e) hargs
       refine(hM w m1 _ vs _ hr1.view hr1.ext (qu4 hpl hargs') h).mono λe w' ⟨v,m',e1,e2,e3,e4,e5⟩=>⟨v,e1,?_⟩
       rw[hfr'] at e4
       obtain⟨av,ef,m2,ρ2,⟨k1,k0⟩,k2,k3,k4⟩:=w0q (k:=λr ef=>k r (.freeze g t l)/\ef=.none) (nm:=nm) hr1 (hf.freeze hm) (λr hr=>by unfold q5p; grind) e2 e3 (.inl e4) e5
       subst k0
       exact⟨av,.freeze g t l,m2,ρ2,k1,k2,k3,k4⟩
     grind
  | true=>
   rw[hfr'] at h
   refine(hM w (λb=>w.heap[b]?) _ vs _ (View.full_on w) (λb o hb=>hr.view b o (hr.ext b o hb)) (x4a hr hargs) h).mono λe w' ⟨v,m',e1,e2,e3,e4,e5⟩=>⟨v,e1,w0q hr hf (λr hr=>hr) e2 e3 ?_ e5⟩
   grind
end
end Eng
set_option linter.unusedVariables false
set_option linter.unusedSimpArgs false
namespace Eng
open Go Go.RowKit
section
variable {P : Program}
theorem q52 {m:View} {ρ:List Value} {t:Ty} {v:AV} {k:t.den->Prop} {u:Value} (h:takeA t v k) (hv:v.ok P m ρ [u]):∃x,RdV m t x u/\k x:=by
 have one:∀{t:Ty} {k:t.den->Prop},qg5 t (.cons v .nil) (λx _=>k x)->t.size=1->∃x,Rd m t x [u]/\k x:=by
  intro t k h hs
  obtain⟨x,r,us,vs,e,k1,k2,k3⟩:=qv4 h (show(AV.cons v .nil).ok P m ρ [u] from⟨u,[],rfl,hv,rfl⟩)
  have hl:=Rd.length k1
  rw[hs] at hl
  obtain⟨z,rfl⟩:=zcz.1 hl
  grind
 cases t with
 | prod a b=>
  simp only[takeA] at h
  split at h
  ·obtain⟨cs,e,h3⟩:=hv
   obtain rfl:=(zac e).1
   obtain⟨x,r,us,vs,e,k1,k2,k3⟩:=qv4 h h3
   cases r <;> first | grind | skip
   obtain rfl:vs=[]:=k2
   rw[zby] at e
   exact⟨x,⟨cs,rfl,by grind⟩,k3⟩
  grind
 | int j=>obtain⟨x,k1,k2⟩:=one h rfl; exact⟨x,by have k1:[u]=[_]:=k1; exact(zac k1).1,k2⟩
 | bool=>obtain⟨x,k1,k2⟩:=one h rfl; exact⟨x,by have k1:[u]=[_]:=k1; exact(zac k1).1,k2⟩
 | str=>obtain⟨x,k1,k2⟩:=one h rfl; exact⟨x,by have k1:[u]=[_]:=k1; exact(zac k1).1,k2⟩
 | list t=>obtain⟨x,k1,k2⟩:=one h rfl; exact⟨x,k1,k2⟩
 | nlist t=>obtain⟨x,k1,k2⟩:=one h rfl; exact⟨x,k1,k2⟩
theorem qj3 {m:View} {ρ:List Value}:∀{ts:List Ty} {c:AV} {k:qa3 ts->Prop} {vs:List Value},qg1 ts c k->c.ok P m ρ vs->∃x,k x/\qs9 m ts x vs
 | [],c,k,vs,h,hc=>by
  simp only[qg1] at h
  split at h
  ·exact⟨(),h,hc⟩
  grind
 | t :: r,c,k,vs,h,hc=>by
  simp only[qg1] at h
  split at h
  ·rename_i v rest
   obtain⟨u,us,rfl,h1,h2⟩:=hc
   obtain⟨x,k1,k2⟩:=q52 h h1
   obtain⟨y,k3,k4⟩:=qj3 k2 h2
   exact⟨(x,y),k3,u,us,rfl,k1,k4⟩
  grind
end
structure Sound (P:Program) (C:Ctx):Prop where
 tys:∀t T,find C.tys t=some T->TIok P t T
 specs:∀f S,find C.specs f=some S->Meets P f S
 mixed:P.follows .mixedOrders=true
 its:∀F S,find C.its F=some S->qv9 P F S
 fixs:∀Y,C.yl=some Y->∀p∈Y.fix,p.2.strip=p.2
 muts:∀f M,find C.muts f=some M->qo6 P f M
 blds:∀f B,find C.blds f=some B->q5b P f B
 bxs:∀f B,find C.bxs f=some B->q5c P f B
structure SoundAt (P:Program) (C:Ctx) (m0:View):Prop where
 tys:∀t T,find C.tys t=some T->TIok P t T
 specs:∀f S,find C.specs f=some S->MeetsAt P m0 f S
 mixed:P.follows .mixedOrders=true
 its:∀F S,find C.its F=some S->qv9 P F S
 fixs:∀Y,C.yl=some Y->∀p∈Y.fix,p.2.strip=p.2
 muts:∀f M,find C.muts f=some M->qo6 P f M
 blds:∀f B,find C.blds f=some B->q5b P f B
 bxs:∀f B,find C.bxs f=some B->q5c P f B
theorem Sound.at {P:Program} {C:Ctx} (h:Sound P C) (m0:View):SoundAt P C m0:=⟨h.tys,λf S hf=>(h.specs f S hf).at m0,h.mixed,h.its,h.fixs,h.muts,h.blds,h.bxs⟩
theorem SoundAt.le {P:Program} {C:Ctx} {m0 m1:View} (h:SoundAt P C m0) (hl:m0.le m1):SoundAt P C m1:=⟨h.tys,λf S hf=>(h.specs f S hf).le hl,h.mixed,h.its,h.fixs,h.muts,h.blds,h.bxs⟩
def fz (r:Option Nat):Fence:={ fn:=λ_=>True,depth:=none,alive:=false,round:=r }
theorem w0w {P:Program} {f:Nat} {args:Array Value} {w:World} {R:Ending->World->Prop} (h:Calls P f args w R) (r:Option Nat) (n:Nat):CallsIn (fz r) n P f args w R:=by
 have h0:CallsIn Fence.wide n P f args w R:=callsIn_wide.2 h
 cases r with
 | none=>exact h0
 | some l=>exact h0
section
variable {P : Program} {w0 : Base} {m0 : View} {s : St} {nm : Nat} {m : View} {ρ : List Value} {a : Act} {w : World} {k : AV -> Eff -> Prop} {o : Oper} {C : Ctx}
theorem w6w {r:Option Nat} {n:Nat} {T:Value->World->Prop} {next:Act->World->Prop} {Q:Exit->Act->World->Prop} (h:Res P T ((execOp a.eval o).run P w)) (hd:∀c,o.op≠.defer c) (hn:∀v w',T v w'->next (a.put o.dst v) w') :
  o.wpIn (fz r) n P a w next Q:=by
 refine⟨λ_ _=>trivial,?_⟩
 rw[zd8 _ _ _ hd]
 unfold Res at h
 split at h
 ·rename_i v w' e; rw[e]; exact hn v w' h
 ·rename_i w' e; rw[e]; exact hn undef w' h
 ·rename_i f args w' e
  rw[e]
  refine⟨λhh=>by grind [fz],(w0w h r (n-1)).mono λe w'' ⟨v,e1,e2⟩=>?_⟩
  grind
 grind
theorem wj9 {f:Nat} (hc:ql2 P f) (args:Array Value) (w:World):(callFunc f args).run P w=.ok (.enter f args) w:=by
 obtain⟨fn,c,h1,h2,h3⟩:=hc
 simp_all [callFunc]
theorem q2f {c:Call} {x:Operand} {f:Nat} {caps:Array Value} (ho:o.op=.call c) (hc:c.callee=.value x) (hx:a.eval x=.func (.func f) #[] caps) (hcl:ql2 P f) :
  (execOp a.eval o).run P w=.ok (.enter f (c.args.map a.eval++caps)) w:=by
 grind [execOp,resolve,Deferred.ofValue,wj9,invoke]
theorem w6x {x:AV}:∀{y:AV} {K:AV->Prop} {us vs:List Value},w54 x y K->x.ok P m ρ us->y.ok P m ρ vs->∃z,K z/\z.ok P m ρ (us++vs):=by
 induction x with
 | nil=>intro y K us vs h hx hy; obtain rfl:us=[]:=hx; exact⟨y,h,hy⟩
 | cons a b _ ih=>
  intro y K us vs h hx hy
  obtain⟨v,rest,rfl,h1,h2⟩:=hx
  obtain⟨z,k1,k2⟩:=ih h h2 hy
  exact⟨_,k1,v,_,rfl,h1,k2⟩
 | _=>intro y K us vs h; exact h.elim
theorem w6y (hC:∀t T,find C.tys t=some T->TIok P t T) (hr:Rel P w0 m0 s m ρ a w) {t:Nat} {x i v:Operand} (ho:o.op=.mapUpdate t x i v)
  (h:qd5 C t λT=>q0e T s.mem (qc8 s.ov s.base x) (qc8 s.ov s.base i) (qc8 s.ov s.base v) k):Res P (To P w0 m0 s ρ nm a k) ((execOp a.eval o).run P w):=by
 obtain⟨T,hT,h⟩:=withSome_iff.1 h
 unfold q0e at h
 split at h
 case h_2=>grind
 rename_i g hg
 split at h
 case h_2=>grind
 rename_i ty l hm
 split at h
 case h_2=>grind
 rename_i hmp hc1
 obtain⟨sx,e1,h⟩:=w0m h (hr.eval i)
 obtain⟨d,hd,h⟩:=q52 h (hr.eval v)
 obtain⟨b,es,cl,e2,q1,q2,q3,q4,q5⟩:=xv4 hr hg hm
 obtain⟨⟨ky,u1,u2⟩,_⟩:=(hC t T hT).mp hmp
 have e':execOp a.eval o=(do Instr.mapUpdate t (a.eval x) (a.eval i) (a.eval v); pure .skip):=by grind [execOp]
 rw[e',e1,e2]
 have hvd:a.eval v=qv7 ty d:=by cases ty <;> first | exact hd | exact Bool.noConfusion hc1
 have hck:(Instr.checkKey false 10000 ky (.string sx)).run P w=.ok () w:=zd2 (k:=.string sx) u2 (by simp[MapKept.IsKey]) _ 9999
 have fin:∀(es':Array MapEntry) (cl':Nat),xz9 ty (q5q l sx d) es'.toList->(Instr.mapUpdate t (.map (some b)) (.string sx) (a.eval v)).run P w=.ok () (w.putObj b (.map es' cl'))->Res P (To P w0 m0 s ρ nm a k) ((do Instr.mapUpdate t (.map (some b)) (.string sx) (a.eval v); pure .skip:Sem Next).run P w):=λes' cl' hes hrun=>by
  have hne:∀c,c≠b->(w.putObj b (.map es' cl')).heap[c]? = w.heap[c]?:=λc hc=>World.putObj_heap_other hc
  have e3:(do Instr.mapUpdate t (.map (some b)) (.string sx) (a.eval v); pure .skip:Sem Next).run P w=.ok .skip (w.putObj b (.map es' cl')):=by simp_all
  rw[e3]
  refine⟨_,_,m,ρ,h,Pads.refl _ _,⟨_,rfl⟩,?_⟩
  refine hr.updG (by rw[hm]; rfl) q1 ⟨rfl,rfl,rfl,by simp,λc hc=>hne c λe=>hc.2 (by rw[e]; rfl)⟩ (View.le_refl m) (λc ob hc=>?_) (λ_ _ hc=>.inl hc) ⟨b,es',cl',q1,q2,World.putObj_heap_same (zal.1 q3).1,hes,q5⟩
  rw[hne c λe=>by grind]
  exact hr.view c ob hc
 rcases wu7 sx 0 q4 with⟨k1,k2,k3⟩ | ⟨jx,xv,ev,k1,k2,k3,k4,k5⟩
 ·refine fin (es.push { key:=.string sx,val:=a.eval v,born:=cl }) (cl+1) ?_ ?_
  ·grind
  ·simp[Instr.mapUpdate,run_underlying u1,MapKept.run_getObj_map q3,hck,MapKept.run_findKey u2 k2,MapKept.run_setObj_map _ q3,Result.andThen,World.putObj]
 ·have hst:(Instr.keyThatStays (.string sx) (.string sx)).run P w=.ok (.string sx) w:=MapKept.run_keyThatStays (d:=.string) (k:=.string sx) trivial
  have hej:es[jx]? = some ev:=by grind
  refine fin (es.modify jx λe=>{ e with key:=.string sx,val:=a.eval v }) cl ?_ ?_
  ·simp_all
  ·simp[Instr.mapUpdate,run_underlying u1,MapKept.run_getObj_map q3,hck,MapKept.run_findKey u2 k2,hej,k4,hst,MapKept.run_setObj_map _ q3,Result.andThen,World.putObj]
theorem xh4 (hC:∀t T,find C.tys t=some T->TIok P t T) (hr:Rel P w0 m0 s m ρ a w) {c:Call} (ho:o.op=.call c) (hc:c.callee=.builtin .clear) {x:Operand} {t:Nat} (hx:c.args.toList=[x]) (ht:c.argTypes.toList=[t])
  (h:qd5 C t λT=>qd5 C T.elem λE=>q46 T E s.mem (qc8 s.ov s.base x) k):Res P (To P w0 m0 s ρ nm a k) ((execOp a.eval o).run P w):=by
 obtain⟨T,hT,h⟩:=withSome_iff.1 h
 obtain⟨E,hE,h⟩:=withSome_iff.1 h
 unfold q46 at h
 split at h
 case h_2=>grind
 rename_i hk hi hd
 split at h
 case h_2=>grind
 rename_i g j hg
 split at h
 case h_2=>grind
 rename_i eh e ty rows ix lt p hm
 obtain⟨rfl,h⟩:=q03 h
 have hEI:=hC _ E hE
 obtain⟨ik,hty,_⟩:=hEI.int hi
 obtain⟨j0,z,u3,u4,u5⟩:=hEI.one hi
 obtain⟨j',z',v1,_,_,v4,_,_,_,v8⟩:=hEI.info
 rw[u3] at v1
 obtain rfl:=zaa v1
 rw[u4] at v4
 obtain rfl:=zaa v4
 have hc1:E.ty.cell1=true:=by rw[hty]; rfl
 have hs1:E.ty.size=1:=by rw[hty]; rfl
 have hrd:∀M:View,Rd M E.ty E.ty.dflt [z]:=λM=>by grind
 have hz:z=qv7 E.ty E.ty.dflt:=(zac (w0n hc1 (hrd (λ_=>none)))).1
 have hz1:z.oneCell'=true:=by grind
 have hu:=(hC t T hT).slice (zab hk)
 have hzr:∀w,(zeroValue T.elem).run P w=.ok z w:=λw=>by simp_all [zeroValue,typeInfo]
 have e':execOp a.eval o=(do pure (.value (<- Builtin.clear_ #[t] o.type #[a.eval x]))):=by
  have h1:c.args.map a.eval=#[a.eval x]:=by apply Array.ext'; simp[hx]
  have h2:c.argTypes=#[t]:=by grind
  rw[qt1 ho hc,h1,h2]
  rfl
 rw[e']
 have hxe:=hr.eval x
 rw[hg] at hxe
 obtain⟨hs,v,q1,⟨q2,q3⟩,q4⟩:=hxe
 have hob:=hr.objs g
 rw[hm] at hob
 obtain⟨hs',r1,r2,r3⟩:=hob
 rw[q1] at r1
 obtain rfl:=qf1 (zaa r1)
 rw[(zac q4).1]
 have hv:hs[p+1]? = some v:=q2
 obtain⟨hp,vs,k1,k2⟩:=r2.rowAt hv
 rw[hs1] at k2
 have hrl:RdL m E.ty (List.replicate (qe5 (.list E.ty) rows p:List E.ty.den).length E.ty.dflt) (List.replicate (qe5 (.list E.ty) rows p:List E.ty.den).length z):=by
  generalize(qe5 (.list E.ty) rows p:List E.ty.den).length=n
  induction n with
  | zero=>rfl
  | succ n ih=>exact⟨[z],_,rfl,hrd m,ih⟩
 rcases k2.2 with⟨rfl,hn⟩ | ⟨g',cap,cur,rfl,hB,hg',hcap,hmax,hsz,htk⟩
 ·refine qf4 (v:=.tuple #[]) (w':=w) ?_ ⟨_,_,m,ρ,h,Pads.refl _ _,⟨_,rfl⟩,?_⟩
  ·have h0:∀c0,(Builtin.clear_ #[t] o.type #[.slice none 0 c0]).run P w=.ok (.tuple #[]) w:=λc0=>by simp[Builtin.clear_,run_underlying hu,go_sem]
   grind
  ·refine hr.upd (by rw[hm]; rfl) q1 (row:=none) ⟨rfl,rfl,rfl,zad _,λ_ _ _=>rfl⟩ (λr e=>by cases e) ⟨hs,q1,r2.setRow hv hrl (by rw[hs1,zbs]; exact⟨by simp,.inl ⟨rfl,hn⟩⟩) (λ_ _ _=>rfl),r3⟩
 ·rw[zci] at hsz htk
  by_cases hn:(qe5 (.list E.ty) rows p:List E.ty.den).length=0
  ·refine qf4 (v:=.tuple #[]) (w':=w) ?_ ⟨_,_,m,ρ,h,Pads.refl _ _,⟨_,rfl⟩,?_⟩
   ·rw[hn]
    simp[Builtin.clear_,run_underlying hu,go_sem]
   ·refine hr.upd (by rw[hm]; rfl) q1 (row:=none) ⟨rfl,rfl,rfl,zad _,λ_ _ _=>rfl⟩ (λr e=>by cases e) ⟨hs,q1,r2.setRow hv hrl (by grind) (λ_ _ _=>rfl),r3⟩
  ·generalize hN:(qe5 (.list E.ty) rows p:List E.ty.den).length=n at *
   have hcell:∀j,j<n->w.cell? ⟨g',0+j,none⟩=some cur[j]!:=λj hj=>by
    rw[zb8]
    show(match w.heap[g']? with | some (.cells c _ _)=>_ | _=>none)=_
    grind
   have hfz:∀j,j<n->w.frozen? ⟨g',0+j,none⟩=false:=λj hj=>by
    grind [World.frozen?]
   obtain⟨z1,z2⟩:=qo5 g' e (List.replicate n z) 0 w cur.toList ow (λ_=>by grind)
   refine qf4 (v:=.tuple #[]) (w':=w.setCells g' 0 (List.replicate n z)) (Lib.run_clear_slice w t T.elem o.type z hu hzr u5 hz1 g' 0 n cap ow (λj hj=>by grind) hfz) ⟨_,_,m,ρ,h,Pads.refl _ _,⟨_,rfl⟩,?_⟩
   refine hr.upd (by rw[hm]; rfl) q1 z2 (λr e=>by obtain rfl:=zaa e; exact qd7.2 ⟨_,zag hv,rfl⟩) ⟨hs,q1,r2.setRow hv hrl ?_ (λb hb hne=>z2.block b hb (λe=>hne (by rw[<- zaa e]; rfl))),r3⟩
   rw[hs1,zbs]
   refine⟨by simp,.inr ⟨g',cap,(List.take 0 cur.toList++List.replicate n z++List.drop (0+(List.replicate n z).length) cur.toList).toArray,rfl,hB,z1,hcap,hmax,?_,?_⟩⟩
   all_goals grind
theorem x0p {d:Nat} (hS:SoundAt P C m0) (hr:Rel P w0 m0 s m ρ a w) (hf:Free s ρ nm) {c:Call} (ho:o.op=.call c) (h:match c.callee with
  | .value (.func f)=>callK C nm s.mem f (qk1 (qc8 s.ov s.base) c.args.toList) k
  | .value x=>match qc8 s.ov s.base x with
   | .clo f caps=>w54 (qk1 (qc8 s.ov s.base) c.args.toList) caps λargs=>callK C nm s.mem f args k
   | .fn a r p f=>qg1 a (qk1 (qc8 s.ov s.base) c.args.toList) λx=>need (p x) λ_=>k (q8k r (f x)) .none
   | _=>False
  | .builtin b=>q0y C d nm s.mem b c.argTypes.toList (c.args.toList.map (qc8 s.ov s.base)) k
  | _=>False):Res P (To P w0 m0 s ρ nm a k) ((execOp a.eval o).run P w):=by
 have hargs:=q0j (P:=P) (m:=m) (ρ:=ρ) hr.eval c.args.toList
 have hal:(c.args.toList.map a.eval).toArray=c.args.map a.eval:=by grind
 split at h
 ·rename_i f hc
  obtain⟨h1,h2⟩:=w6v hS.specs hS.muts hS.blds hS.bxs hr hf hargs h
  rw[q2f ho hc (show a.eval (.func f)=.func (.func f) #[] #[] from rfl) h1]
  grind [Res]
 ·rename_i x hne hc
  have hx:=hr.eval x
  split at h
  ·rename_i f caps hcl
   rw[hcl] at hx
   obtain⟨cs,e1,e2⟩:=hx
   obtain⟨z,h,hz⟩:=w6x h hargs e2
   obtain⟨h1,h2⟩:=w6v hS.specs hS.muts hS.blds hS.bxs hr hf hz h
   rw[q2f ho hc (zac e1).1 h1]
   have:(c.args.toList.map a.eval++cs).toArray=c.args.map a.eval++cs.toArray:=by simp
   rw[this] at h2
   exact h2
  ·rename_i ta tr p f hcl
   rw[hcl] at hx
   obtain⟨fv,e1,q,caps,rfl,hcq,hfn⟩:=hx
   obtain⟨x',⟨hp,hk⟩,k1⟩:=qj3 h hargs
   rw[q2f ho hc (zac e1).1 hcq]
   have hh:=hfn w m x' _ (View.cle_refl m) hr.view hp k1
   rw[hal] at hh
   refine hh.mono λe w' ⟨v,e3,e4,e5⟩=>⟨v,e3,?_⟩
   exact w0q (S:={ fresh:=true,own:=none,run:=λ_ _=>False,one:=λ_ _ h=>h.elim }) (k':=λr=>k r .none) hr hf (λr hr=>hr) e4 (View.from_on w' w.heap.size) (.inr λb o hb=>by
    grind [View.from]) ⟨_,hk,q93 e5⟩
  grind
 ·rename_i b hc
  unfold q0y at h
  split at h
  ·rename_i x hl
   obtain⟨y,hy,rfl⟩:∃y,c.args.toList=[y]/\x=qc8 s.ov s.base y:=by
    match hq:c.args.toList,hl with
    | [y],hl=>grind
   split at h
   ·rename_i t ht
    exact x37 hS.tys hr ho hc hy ht h
   grind
  ·rename_i x y hl
   obtain⟨x',y',hy,rfl,rfl⟩:∃x' y',c.args.toList=[x',y']/\x=qc8 s.ov s.base x'/\y=qc8 s.ov s.base y':=by
    match hq:c.args.toList,hl with
    | [p,q],hl=>grind
   split at h
   ·rename_i t t' ht
    cases hb:Nat.beq t t' <;> rw[hb] at h
    ·grind
    have hb:=zab hb
    subst hb
    exact w6q hS.tys hr hf ho hc hy ht h
   grind
  ·rename_i x hl
   obtain⟨y,hy,rfl⟩:∃y,c.args.toList=[y]/\x=qc8 s.ov s.base y:=by
    match hq:c.args.toList,hl with
    | [y],hl=>grind
   split at h
   ·rename_i t ht
    exact xh4 hS.tys hr ho hc hy ht h
   grind
  ·exact wj8 (big:=true) hr ho hc h
  ·exact wj8 (big:=false) hr ho hc h
  grind
 grind
theorem x0q (hS:SoundAt P C m0) (hr:Rel P w0 m0 s m ρ a w) (hf:Free s ρ nm) {d:Nat} (h:opK C d nm o.op (qc8 s.ov s.base) s.mem k):(∀c,o.op≠.defer c)/\Res P (To P w0 m0 s ρ nm a k) ((execOp a.eval o).run P w):=by
 refine⟨λc hc=>by rw[hc] at h; exact h,?_⟩
 cases ho:o.op with
 | move x=>rw[ho] at h; exact w6k hr (.inl ho) h
 | assign x=>rw[ho] at h; exact w6k hr (.inr ho) h
 | pick c x y=>rw[ho] at h; exact x0e hr ho h
 | alloc e=>rw[ho] at h; exact xg3 hS.tys hr hf ho h
 | box e x=>rw[ho] at h; exact xg4 hr hf ho h
 | build t p=>rw[ho] at h; exact xg6 hS.tys hr ho h
 | buildSlice t n p=>rw[ho] at h; exact wa1 hS.tys hr hf ho h
 | load t x=>rw[ho] at h; exact x0i hS.tys hr ho h
 | store t x y=>rw[ho] at h; exact xg7 hS.tys hr ho h
 | binOp op t x y u=>rw[ho] at h; exact x36 hS.tys hr ho h
 | unOp op t x=>rw[ho] at h; exact x7a hr ho h
 | convert u t x=>rw[ho] at h; exact x0g hS.tys hr ho h
 | makeFunc fn first caps=>rw[ho] at h; exact wu4 hr h ho
 | makeSlice t x y=>rw[ho] at h; exact wj3 hS.tys hr hf ho h
 | slice t x lo hi mx=>rw[ho] at h; exact xh1 hS.tys hr ho h
 | index t x y=>rw[ho] at h; exact wj6 hS.tys hr ho h
 | range t x=>rw[ho] at h; exact wj7 hS.tys hr hf ho h
 | next x b=>rw[ho] at h; exact wu6 hr ho h
 | makeMap t r=>rw[ho] at h; exact w3m hS.tys hr hf ho h
 | lookup t x i b=>rw[ho] at h; exact w6o hS.tys hr ho h
 | mapUpdate t x i v=>rw[ho] at h; exact w6y hS.tys hr ho h
 | fieldAddr t x f=>rw[ho] at h; exact wj2 hS.tys hr ho h
 | field t x f=>rw[ho] at h; exact xg8 hS.tys hr ho h
 | indexAddr t x y=>rw[ho] at h; exact xg9 hS.tys hr ho h
 | extract x i=>rw[ho] at h; exact w3k hr ho h
 | nilCheck x=>rw[ho] at h; exact wu5 hr ho h
 | call c=>rw[ho] at h; exact x0p hS hr hf ho h
 | _=>rw[ho] at h; exact h.elim
end
end Eng
set_option linter.unusedVariables false
set_option linter.unusedSimpArgs false
universe u v
namespace Eng
open Go Go.RowKit
def Det {R:Type u} (h:(R->Prop)->Prop):Prop:=∀k,h k->∃r,k r/\∀k',k' r->h k'
def D2 (h:(AV->Eff->Prop)->Prop):Prop:=∀k,h k->∃v e,k v e/\∀k',k' v e->h k'
theorem qa6 {R:Type u} (r:R):Det (λk=>k r):=λk h=>⟨r,h,λ_ h=>h⟩
theorem qe3 (v:AV) (e:Eff):D2 (λk=>k v e):=λk h=>⟨v,e,h,λ_ h=>h⟩
theorem qa4 {R:Type u}:Det (λ_:R->Prop=>False):=λk h=>h.elim
theorem qa5:D2 (λ_=>False):=λk h=>h.elim
theorem qd3 {R:Type u} {S:Type v} {h:(R->Prop)->Prop} {f:R->(S->Prop)->Prop} (hh:Det h) (hf:∀r,Det (f r)):Det (λk=>h λr=>f r k):=λk H=>by
 obtain⟨r,h1,h2⟩:=hh _ H
 obtain⟨x,h3,h4⟩:=hf r k h1
 grind
theorem qd2 {R:Type u} {h:(R->Prop)->Prop} {f:R->(AV->Eff->Prop)->Prop} (hh:Det h) (hf:∀r,D2 (f r)):D2 (λk=>h λr=>f r k):=λk H=>by
 obtain⟨r,h1,h2⟩:=hh _ H
 obtain⟨v,e,h3,h4⟩:=hf r k h1
 grind
theorem q2g {h:(AV->Prop)->Prop} (hh:Det h) (e:Eff):D2 (λk=>h λv=>k v e):=λk H=>by
 obtain⟨r,h1,h2⟩:=hh _ H
 grind
theorem qg3 {R:Type u} {p:Prop} {f:(R->Prop)->Prop} (hf:Det f):Det (λk=>need p λ_=>f k):=λk H=>by
 obtain⟨x,h3,h4⟩:=hf k H.2
 grind
theorem qn0 {p:Prop} {f:(AV->Eff->Prop)->Prop} (hf:D2 f):D2 (λk=>need p λ_=>f k):=λk H=>by
 obtain⟨v,e,h3,h4⟩:=hf k H.2
 grind
theorem x0r {R:Type u} {p:Prop} {f:(R->Prop)->Prop} (hf:Det f):Det (λk=>p/\f k):=λk H=>by
 obtain⟨x,h3,h4⟩:=hf k H.2
 grind
theorem qe1 {α:Type u} (o:Option α):Det (withSome o):=by
 cases o with
 | none=>exact qa4
 | some a=>exact qa6 a
theorem wa8 {b:Bool} {f g:(AV->Eff->Prop)->Prop} (hf:D2 f) (hg:D2 g):D2 (λk=>split b (λ_=>f k) (λ_=>g k)):=λk H=>by
 cases b with
 | true=>
  obtain⟨v,e,h3,h4⟩:=hf k (H.1 rfl)
  exact⟨v,e,h3,λk' hk=>And.intro (λ_=>h4 k' hk) (λh=>nomatch h)⟩
 | false=>
  obtain⟨v,e,h3,h4⟩:=hg k (H.2 rfl)
  exact⟨v,e,h3,λk' hk=>And.intro (λh=>nomatch h) (λ_=>h4 k' hk)⟩
theorem x0s {v:AV} {f g:(AV->Eff->Prop)->Prop} (hf:D2 f) (hg:D2 g):D2 (λk=>q18 v (λ_=>f k) (λ_=>g k)):=by
 unfold q18
 split
 all_goals simp_all [wa8,qa5]
theorem qh2 {t' t:Ty} (l:List t'.den):Det (qj1 t' t l):=by
 unfold qj1
 split
 ·exact qa6 _
 ·exact qa4
theorem w6z {R:Type u} {t t':Ty} {f:(R->Prop)->Prop} (hf:Det f):Det (λk=>q5o t t' λ_=>f k):=by
 unfold q5o
 split
 all_goals grind [qa4]
theorem wa9 {t t':Ty} {f:(AV->Eff->Prop)->Prop} (hf:D2 f):D2 (λk=>q5o t t' λ_=>f k):=by
 unfold q5o
 split
 all_goals grind [qa5]
theorem qo7 {R:Type u} {t t':IntKind} {f:(R->Prop)->Prop} (hf:Det f):Det (λk=>q1v t t' λ_=>f k):=by
 unfold q1v
 split
 all_goals grind [qa4]
theorem xh5 {t t':IntKind} {f:(AV->Eff->Prop)->Prop} (hf:D2 f):D2 (λk=>q1v t t' λ_=>f k):=by
 unfold q1v
 split
 all_goals grind [qa5]
theorem wu9:∀(i:Nat) (c:AV),Det (xf1 c i)
 | 0,c=>by cases c <;> first | exact qa4 | exact qa6 _
 | i+1,c=>by cases c <;> first | exact qa4 | exact wu9 i _
theorem w0x:∀(i:Nat) (c:AV),Det (w29 c i)
 | 0,c=>by cases c <;> exact qa6 _
 | i+1,c=>by cases c <;> first | exact qa4 | exact w0x i _
theorem w0y:∀(n:Nat) (c:AV),Det (wt7 c n)
 | 0,c=>by cases c <;> exact qa6 _
 | i+1,c=>by cases c <;> first
  | exact qa4
  | (rename_i a b; show Det (λk:AV->Prop=>wt7 b i λr=>k (AV.cons a r)); exact qd3 (w0y i b) λr=>qa6 _)
theorem w60 (v:AV):∀(c:AV) (i:Nat),Det (xf2 c i v):=by
 induction v with
 | nil=>intro c i; cases c <;> cases i <;> exact qa6 _
 | cons x r _ ih=>
  intro c
  induction c with
  | cons a b _ ihb=>
   intro i
   cases i with
   | zero=>show Det (λk:AV->Prop=>xf2 b 0 r λb'=>k (AV.cons x b')); simp_all [qd3,qa6]
   | succ i=>show Det (λk:AV->Prop=>xf2 b i (.cons x r) λb'=>k (AV.cons a b')); simp_all [qd3,qa6]
  | _=>intro i; cases i <;> exact qa4
 | _=>
  intro c
  induction c with
  | cons a b _ ihb=>
   intro i
   cases i with
   | zero=>exact qa4
   | succ i=>exact λk H=>(qd3 (S:=AV) (f:=λb' k=>k (.cons a b')) (ihb i) λ_=>qa6 _) k H
  | _=>intro i; cases i <;> exact qa4
theorem w61 (x:AV):∀(y:AV),Det (w54 x y):=by
 induction x with
 | nil=>intro y; exact qa6 y
 | cons a b _ ih=>intro y; show Det (λk:AV->Prop=>w54 b y λr=>k (AV.cons a r)); simp_all [qd3,qa6]
 | _=>intro y; exact qa4
theorem q3b (v:AV):Det (q1x v):=by
 unfold q1x
 split
 ·split
  ·exact qa6 _
  ·exact qa4
 ·split
  ·exact qa6 _
  ·exact qa4
theorem q06 (c:AV) (ag:Bool) (off size:Nat):Det (q5n c ag off size):=by
 unfold q5n
 split
 ·exact qd3 (w0x off c) λd=>qd3 (w0y size d) λ_=>qa6 _
 ·exact wu9 off c
theorem w3o:∀(t:Ty) (c:AV),Det (λk:t.den × AV->Prop=>qg5 t c λx r=>k (x,r)):=by
 intro t
 induction t with
 | int k=>
  intro c
  simp only[qg5]
  split
  ·split
   all_goals simp_all [qa6,qa4]
  ·exact qa4
 | bool=>intro c; simp only[qg5]; split <;> first | exact qa6 (_,_) | exact qa4
 | str=>intro c; simp only[qg5]; split <;> first | exact qa6 (_,_) | exact qa4
 | list t ih=>
  intro c
  simp only[qg5]
  split
  ·simp_all [qd3,qh2,qa6]
  ·simp_all [qd3,qh2,qa6]
  ·exact λk H=>⟨_,H.2,λk' hk=>⟨H.1,hk⟩⟩
  ·exact qa4
 | nlist t ih=>
  intro c
  simp only[qg5]
  split
  ·rename_i b t' l r
   cases b with
   | true=>exact qa4
   | false=>simp_all [qd3,qh2,qa6]
  ·simp_all [x0r,qd3,qh2,qa6]
  ·exact λk H=>⟨_,H.2,λk' hk=>⟨H.1,hk⟩⟩
  ·exact qa4
 | prod a b iha ihb=>
  intro c k H
  obtain⟨⟨x,r⟩,h1,h2⟩:=iha c (λp=>qg5 b p.2 λy r'=>k ((p.1,y),r')) H
  obtain⟨⟨y,r'⟩,h3,h4⟩:=ihb r (λp=>k ((x,p.1),p.2)) h1
  exact⟨((x,y),r'),h3,λk' hk=>h2 (λp=>qg5 b p.2 λy r'=>k' ((p.1,y),r')) (h4 (λp=>k' ((x,p.1),p.2)) hk)⟩
theorem qj4 {t:Ty} {c:AV} {R:Type} {f:t.den->AV->(R->Prop)->Prop} (hf:∀x r,Det (f x r)):Det (λk=>qg5 t c λx r=>f x r k):=λk H=>by
 obtain⟨⟨x,r⟩,h1,h2⟩:=w3o t c (λp=>f p.1 p.2 k) H
 obtain⟨v,h3,h4⟩:=hf x r k h1
 exact⟨v,h3,λk' hk=>h2 (λp=>f p.1 p.2 k') (h4 k' hk)⟩
theorem q6u (t:Ty) (v:AV):Det (q94 t v):=by
 unfold q94
 refine qd3 (q3b v) λc=>qj4 λx r=>?_
 split
 ·exact qa6 _
 ·exact qa4
theorem q6v (t:Ty) (v:AV):Det (takeA t v):=by
 cases t with
 | prod a b=>
  cases v <;> first
   | exact qa4
   | (
     rename_i cs
     show Det (λk:(Ty.prod a b).den->Prop=>qg5 (.prod a b) cs λx r=>match r with
      | .nil=>k x
      | _=>False)
     refine qj4 λx r=>?_
     split
     all_goals simp_all [qa6,qa4])
 | int j=>show Det (λk:Int->Prop=>qg5 (.int j) (.cons v .nil) λx _=>k x); simp_all [qj4,qa6]
 | bool=>show Det (λk:Bool->Prop=>qg5 .bool (.cons v .nil) λx _=>k x); simp_all [qj4,bool,qa6]
 | str=>show Det (λk:ByteArray->Prop=>qg5 .str (.cons v .nil) λx _=>k x); simp_all [qj4,qa6]
 | list t=>show Det (λk:List t.den->Prop=>qg5 (.list t) (.cons v .nil) λx _=>k x); simp_all [qj4,qa6]
 | nlist t=>show Det (λk:List t.den->Prop=>qg5 (.nlist t) (.cons v .nil) λx _=>k x); simp_all [qj4,qa6]
theorem qn6:∀(ts:List Ty) (c:AV),Det (qg1 ts c)
 | [],c=>by cases c <;> first | exact qa4 | exact qa6 ()
 | t :: r,c=>by
  cases c <;> first
   | exact qa4
   | exact λk H=>(qd3 (q6v t _) λx=>qd3 (qn6 r _) λy=>qa6 (x,y)) k H
theorem q3c {v:AV} {f:IntKind->Int->(AV->Eff->Prop)->Prop} (hf:∀x r,D2 (f x r)):D2 (λk=>asInt v λj n=>f j n k):=by
 unfold asInt
 split
 all_goals grind [qa5]
theorem qj8 {R:Type u} {v:AV} {f:IntKind->Int->(R->Prop)->Prop} (hf:∀x r,Det (f x r)):Det (λk=>asInt v λj n=>f j n k):=by
 unfold asInt
 split
 all_goals grind [qa4]
theorem q81 (v:AV):Det (asBool v):=by
 unfold asBool
 split <;> first | exact qa6 _ | exact qa4
theorem q0k (w:Bool) (j:IntKind) (n:Int):Det (q6h w j n):=by
 unfold q6h
 split
 all_goals simp_all [qa6,qg3]
theorem w3p (w:Bool) (op:BinOp) (j:IntKind) (a b:Int):Det (w0a w op j a b):=by
 unfold w0a
 split <;> first | grind [q0k] | exact qa6 _ | exact qg3 (q0k _ _ _) | exact qg3 (qa6 _) | exact qa4
theorem wb0 {R:Type} {v:AV} {f:IntKind->Int->IntKind->Int->(R->Prop)->Prop} (hf:∀j a i b,Det (f j a i b)):Det (λk=>xy9 v λj a i b=>f j a i b k):=by
 unfold xy9
 split
 ·split
  ·split
   all_goals simp_all [qj8,qa4]
  ·exact qa4
 ·exact qa4
theorem w0z {R:Type} {v:AV} {f:IntKind->Int->IntKind->Int->IntKind->Int->(R->Prop)->Prop} (hf:∀j a i b l c,Det (f j a i b l c)):Det (λk=>x3e v λj a i b l c=>f j a i b l c k):=by
 unfold x3e
 split
 all_goals simp_all [qj8,wb0,qa4]
theorem q07 (C:Ctx) (op:BinOp) (t:Nat) (v:Value) (e:Bool):Det (q44 C op t v e):=by
 unfold q44
 refine qd3 (qe1 _) λT=>?_
 split
 ·split <;> first | exact qa6 _ | exact qa4
 ·exact qa4
theorem x0t (C:Ctx) (w:Bool) (op:BinOp) (t:Nat) (x y:AV):Det (x3p C w op t x y):=by
 unfold x3p
 split
 ·split
  all_goals simp_all [qg3,qa6,q0k,qo7,w3p]
 ·unfold w0b
  split
  ·exact qg3 (qa6 _)
  ·exact qa6 _
  ·exact qa6 _
  ·exact qa4
 ·refine qd3 (qe1 _) λT=>?_
  split
  ·split
   ·exact qa4
   ·refine w0z λj a i b l e=>w0z λj' a' i' b' l' e'=>qo7 (qo7 (qo7 ?_))
    split <;> first | exact qa6 _ | exact qa4
  ·refine wb0 λj a i b=>wb0 λj' c i' d=>qo7 (qo7 ?_)
   split <;> first | exact qa6 _ | exact qa4
 ·split
  all_goals grind [q07,qa4]
 ·simp_all [qg3,q07]
 ·refine qd3 (qe1 _) λT=>?_
  split
  ·exact qa4
  ·refine qd3 (q81 _) λa=>qd3 (q81 _) λb=>?_
   split <;> first | exact qa6 _ | exact qa4
theorem xh6 (C:Ctx) (w:Bool) (op:BinOp) (t:Nat) (mem:List AObj) (x y:AV):Det (xu6 C w op t mem x y):=by
 unfold xu6
 split
 ·split
  ·exact qd3 (q07 _ _ _ _ _) λa=>qa6 a.tf
  ·exact qa4
 ·split
  ·split
   ·exact qg3 (qd3 (q07 _ _ _ _ _) λa=>qa6 a.tf)
   ·exact qa4
  ·exact x0t _ _ _ _ _ _
theorem x4d (w:Bool) (op:UnOp) (x:AV):Det (unK w op x):=by
 unfold unK
 split <;> first | grind [q0k] | exact qa6 _ | exact qa4
theorem w00 (flds:List (Nat × Nat × Nat)):∀(l:List (Nat × AV)) (c:AV),Det (q6i flds l c)
 | [],c=>qa6 c
 | (i,v) :: r,c=>by
  show Det (λk:AV->Prop=>withSome flds[i]? λf=>q1x v λx=>match x.lenIs f.2.2 with
   | true=>xf2 c f.1 x λc'=>q6i flds r c' k
   | false=>False)
  refine qd3 (qe1 _) λf=>qd3 (q3b _) λx=>?_
  split
  ·exact qd3 (w60 _ _ _) λc'=>w00 flds r c'
  ·exact qa4
theorem q6w (t:Ty):∀(l:List (Nat × AV)) (j:Nat),Det (q0a t l j)
 | [],j=>qa6 []
 | (i,v) :: r,j=>by
  show Det (λk:List t.den->Prop=>match Nat.beq i j with
   | true=>q94 t v λx=>q0a t r (j+1) λl=>k (x :: l)
   | false=>False)
  split
  ·exact qd3 (q6u t v) λx=>qd3 (q6w t r (j+1)) λl=>qa6 _
  ·exact qa4
theorem x0u (T:TI) (mem:List AObj) (v:AV):Det (xu5 T mem v):=by
 unfold xu5
 split
 ·split <;> first | exact qa6 _ | exact qa4
 ·split <;> first | exact qa6 _ | exact qa4
 ·split <;> first | exact qa6 _ | exact qa4
 ·split <;> first | exact qa6 _ | exact qa4
 ·split <;> first | exact qa6 _ | exact qa4
 ·split
  ·split <;> exact qa6 _
  ·exact qa4
 ·split <;> first | exact qa6 _ | exact qa4
 ·exact qa4
theorem xh7 (T:TI) (mem:List AObj) (v:AV):Det (q6j T mem v):=by
 unfold q6j
 split
 ·split
  all_goals grind [q06,qa4]
 ·grind [q06]
 ·split
  all_goals simp_all [qg3,qd3,qh2,q06,qa4]
 ·split
  ·split
   ·split
    all_goals simp_all [qg3,qa6,qa4]
   simp_all [qg3,qd3,qh2,q06]
  ·exact qa4
 all_goals grind [q06,qa4]
theorem xh8 (T:TI) (mem:List AObj) (v x:AV):D2 (q45 T mem v x):=by
 unfold q45
 split
 ·split
  ·refine qd2 (q3b _) λc=>?_
   split
   all_goals simp_all [qd2,w60,qe3,qa5]
  ·exact qa5
 ·split
  ·refine qn0 (wa9 ?_)
   split
   all_goals simp_all [qd2,q6u,qe3,qa5]
  ·exact qa5
 ·split
  ·split
   ·split
    ·split
     ·split
      all_goals simp_all [qn0,qe3,qa5]
     ·exact qa5
    ·exact qa5
   ·refine qn0 (wa9 ?_)
    split
    all_goals simp_all [qd2,q6u,qe3,qa5]
  ·exact qa5
 ·exact qa5
theorem wk0 (off:Nat) (v:AV):Det (q6k off v):=by
 unfold q6k
 split <;> first | exact qa6 _ | exact qa4
theorem w62 (T E:TI) (mem:List AObj) (v:AV) (i:Int):Det (q2y T E mem v i):=by
 unfold q2y
 split
 ·split
  ·unfold x61
   split
   all_goals simp_all [qd3,qe1,wk0,qa4]
  ·exact qa4
 ·split
  ·split
   all_goals simp_all [qg3,qa6,qa4]
  ·split
   all_goals simp_all [qg3,qa6,qa4]
  ·split
   ·split
    all_goals simp_all [qg3,qa6,qa4]
   ·exact qa4
  ·split
   ·split
    ·split
     all_goals simp_all [qg3,qa6,qa4]
    ·split
     all_goals simp_all [qg3,qa6,qa4]
   ·exact qa4
  ·exact qa4
theorem q08 {ρ:Operand->AV} {o:Option Operand} {d:Int} {f:Int->(AV->Eff->Prop)->Prop} (hf:∀n,D2 (f n)):D2 (λk=>bound ρ o d λn=>f n k):=by
 unfold bound
 split
 all_goals simp_all [q3c]
theorem wk1 {ρ:Operand->AV} {o:Option Operand} {d:Int} {R:Type} {f:Int->(R->Prop)->Prop} (hf:∀n,Det (f n)):Det (λk=>bound ρ o d λn=>f n k):=by
 unfold bound
 split
 all_goals simp_all [qj8]
theorem wk2 (ρ:Operand->AV) (v:AV) (lo hi mx:Option Operand):Det (qp9 ρ v lo hi mx):=by
 unfold qp9 w55
 split
 ·split
  ·split
   ·exact wk1 λa=>wk1 λb=>qg3 (qa6 _)
   ·exact qa4
  ·exact qa4
 ·exact qa4
theorem wk3 (x i:AV):Det (q0x x i):=by
 unfold q0x
 split
 ·split
  all_goals simp_all [qj8,qg3,qa6,qa4]
 ·exact qa4
theorem xh9 (nm:Nat) (x:AV):D2 (q8t nm x):=by
 unfold q8t
 split
 ·split
  all_goals simp_all [qe3,qa5]
 ·exact qa5
theorem x0v (mem:List AObj) (x:AV) (str:Bool):D2 (wi0 mem x str):=by
 unfold wi0
 split
 ·split
  ·split
   all_goals simp_all [wa8,qe3,qa5]
  ·exact qa5
 ·exact qa5
theorem w3q {R:Type u} {b:Bool} {f g:(R->Prop)->Prop} (hf:Det f) (hg:Det g):Det (λk=>split b (λ_=>f k) (λ_=>g k)):=λk H=>by
 cases b with
 | true=>
  obtain⟨v,h3,h4⟩:=hf k (H.1 rfl)
  exact⟨v,h3,λk' hk=>And.intro (λ_=>h4 k' hk) (λh=>nomatch h)⟩
 | false=>
  obtain⟨v,h3,h4⟩:=hg k (H.2 rfl)
  exact⟨v,h3,λk' hk=>And.intro (λh=>nomatch h) (λ_=>h4 k' hk)⟩
theorem w63 (c:AV):∀(j:Nat) (n:Int),Det (w57 c j n):=by
 induction c with
 | cons a r _ ih=>
  intro j n
  cases r <;> first | exact qg3 (qa6 _) | exact w3q (qa6 _) (ih _ _)
 | _=>intro j n; exact qa4
theorem wk4 (T E:TI) (x i:AV):Det (qx0 T E x i):=by
 unfold qx0
 split
 ·split
  ·split
   all_goals simp_all [qj8,w63,qa4]
  ·exact qa4
 ·exact qa4
theorem w3r {R:Type u} {v:AV} {f:ByteArray->(R->Prop)->Prop} (hf:∀s,Det (f s)):Det (λk=>wi2 v λs=>f s k):=by
 unfold wi2
 split
 ·split
  all_goals grind [qa4]
 ·exact qa4
theorem xi0 {v:AV} {f:ByteArray->(AV->Eff->Prop)->Prop} (hf:∀s,D2 (f s)):D2 (λk=>wi2 v λs=>f s k):=by
 unfold wi2
 split
 ·split
  all_goals grind [qa5]
 ·exact qa5
theorem w3s (nm:Nat) (T E:TI):D2 (q21 nm T E):=by
 unfold q21
 split
 ·exact qe3 _ _
 ·exact qa5
theorem w3t (T E:TI) (mem:List AObj) (x i:AV) (ok:Bool):Det (qx1 T E mem x i ok):=by
 unfold qx1
 split
 ·split
  ·split
   ·refine w6z (w3r λs=>?_)
    split <;> exact qa6 _
   ·exact qa4
  ·exact qa4
 ·exact qa4
theorem w64 (T:TI) (mem:List AObj) (x i v:AV):D2 (q0e T mem x i v):=by
 unfold q0e
 split
 ·split
  ·split
   all_goals simp_all [xi0,qd2,q6v,qe3,qa5]
  ·exact qa5
 ·exact qa5
theorem xi1 (T E:TI) (ρ:Operand->AV) (mem:List AObj) (v:AV) (lo hi mx:Option Operand):D2 (q0b T E ρ mem v lo hi mx):=by
 unfold q0b w55
 split
 ·exact qa5
 ·split
  ·split
   ·split
    ·exact q08 λa=>q08 λb=>qn0 (qe3 _ _)
    ·exact qa5
   ·split
    ·split
     ·exact q08 λa=>q08 λb=>qn0 (qe3 _ _)
     ·exact qa5
    ·exact qa5
   ·split
    ·split
     ·exact q08 λa=>q08 λb=>qn0 (qe3 _ _)
     ·exact qa5
    ·exact qa5
   ·exact qa5
  ·exact qa5
theorem wk5 (t:Ty) (mem:List AObj) (x:AV):Det (q20 t mem x):=by
 unfold q20
 split
 ·exact qh2 _
 ·split
  all_goals grind [qh2,qa4]
 ·split
  all_goals grind [qh2,qa4]
 ·split
  ·exact qa6 _
  ·exact qa4
 ·exact qa4
theorem w65 (em:Bool) (nm:Nat) (mem:List AObj) (T E:TI) (s x:AV):D2 (q0c em nm mem T E s x):=by
 unfold q0c
 split
 ·split
  ·split
   ·split
    ·split
     ·split
      ·exact qd2 (qh2 _) λl''=>qn0 (qe3 _ _)
      ·exact qa5
     ·exact qa5
    ·exact qa5
   ·exact qa5
  ·refine qd2 (wk5 _ _ _) λl'=>?_
   split
   ·split
    ·split
     all_goals simp_all [qd2,qh2,qn0,qe3,qa5]
    ·exact qa5
   ·split
    all_goals simp_all [qn0,qe3,qa5]
   ·split
    all_goals simp_all [qd2,wk5,qn0,qe3,qa5]
   ·exact qa5
 ·exact qa5
theorem q82 (big:Bool) (l:List AV):Det (λk:IntKind × Int->Prop=>q8u big l λj n=>k (j,n)):=by
 unfold q8u
 split
 ·exact qj8 λj a=>qj8 λj' b=>qo7 (qa6 (_,_))
 ·exact qj8 λj a=>qj8 λj' b=>qj8 λj'' c=>qo7 (qo7 (qa6 (_,_)))
 ·exact qa4
theorem wb1 (pool:Bool) (nm e:Nat) (E:TI) (mem:List AObj) (parts:List (Nat × AV)):D2 (qh5 pool nm e E mem parts):=by
 unfold qh5
 split
 ·exact qe3 _ _
 ·split
  ·split
   all_goals simp_all [qd2,qh2,qe3]
  ·exact qa5
 ·split
  all_goals simp_all [qd2,q6w,qe3,q2g,qd3,qa6]
def Ctx.one (C:Ctx):Prop:=∀f S,find C.specs f=some S->∀args,Det (S.run args)
theorem Ctx.one_all (C:Ctx):C.one:=λ_ S _ args k h=>S.one args k h
theorem w66 {mem:List AObj} {args:AV} {F:AV->Nat->(t:Ty)->List t.den->(AV->Eff->Prop)->Prop} (hF:∀x g t l,D2 (F x g t l)):D2 (λk=>q0d mem args λx g t l=>F x g t l k):=by
 unfold q0d
 split
 ·exact qa5
 ·split
  ·split
   all_goals grind [qa5]
  ·exact qa5
theorem q6x (mem:List AObj) (g:Nat) (p:Option Nat) (v:AV):Det (q31 mem g p v):=by
 induction v with
 | nil=>exact qa6 _
 | cons v r _ ih=>
  show Det (λk:AV->Prop=>q31 mem g p (.cons v r) k)
  simp only[q31]
  split
  ·simp_all [qd3,qa6]
  ·split
   ·exact qa4
   ·split
    ·split
     ·split
      all_goals simp_all [qg3,qd3,qa6,qa4]
     ·exact qa4
    ·exact qa4
 | _=>exact qa4
theorem w01 {M:MSpec} (rows:List (List M.t.den)) (args:AV) {f:AV->List (List M.t.den)->(AV->Eff->Prop)->Prop} (hf:∀r l,D2 (f r l)):D2 (λk=>M.run rows args λr l=>f r l k):=λk H=>by
 obtain⟨r,l,h1,h2⟩:=M.one rows args _ H
 obtain⟨v,e,h3,h4⟩:=hf r l k h1
 grind
theorem w67 (M:MSpec) (mem:List AObj) (a rest:AV):D2 (q6l M mem a rest):=by
 unfold q6l
 split
 ·split
  ·split
   ·exact qd2 (qh2 _) λl=>w01 _ _ λr rows'=>qe3 _ _
   ·exact qa5
  ·exact qa5
 ·exact qa5
theorem x0w (M:MSpec) (mem:List AObj) (args:AV):D2 (wi1 M mem args):=by
 unfold wi1
 split
 ·split
  ·exact w67 _ _ _ _
  ·split
   ·split
    ·split
     ·exact qd2 (qh2 _) λl=>qd2 (q6x _ _ _ _) λrest'=>w01 _ _ λr rows'=>qe3 _ _
     ·exact qa5
    ·exact qa5
   ·split
    ·split
     ·exact qd2 (qh2 _) λl=>qd2 (q6x _ _ _ _) λrest'=>w01 _ _ λr rows'=>qe3 _ _
     ·exact qa5
    ·split
     ·exact qd2 (qh2 _) λl=>qd2 (q6x _ _ _ _) λrest'=>w01 _ _ λr rows'=>qe3 _ _
     ·exact qa5
    ·exact qa5
   ·exact qa5
 ·exact qa5
theorem w68 (S:qa8) (nm:Nat) (r:AV):D2 (λk=>q5p S nm k r):=by
 unfold q5p
 split
 ·exact qe3 _ _
 split
 ·split
  all_goals simp_all [qe3,qa5]
 ·split
  ·split
   ·exact qe3 _ _
   ·split
    all_goals simp_all [qe3,qa5]
  ·split
   ·split
    all_goals simp_all [qe3,qa5]
   ·split
    ·split
     all_goals simp_all [qe3,qa5]
    ·exact qa5
   ·exact qa5
  ·split
   all_goals simp_all [qn0,qe3,qa5]
  ·exact qa5
theorem x4e (B:wt6) (mem:List AObj) (args:AV):D2 (xu8 B mem args):=by
 unfold xu8
 split
 case h_2=>exact qa5
 split
 case h_2=>exact qa5
 split
 case h_2=>exact qa5
 split
 case h_2=>exact qa5
 unfold xz1
 split
 ·split
  case h_2=>exact qa5
  split
  case h_2=>exact qa5
  exact q3c λj n=>xh5 (qn0 (qe3 _ _))
 ·split
  case h_2=>exact qa5
  split
  case h_2=>exact qa5
  split
  case h_2=>exact qa5
  split
  all_goals simp_all [qa5,qn0,qe3]
 ·split
  all_goals simp_all [qa5,qe3]
 ·exact qa5
theorem w69:∀(n:Nat) (c:AV) {f:AV->AV->(AV->Eff->Prop)->Prop},(∀a r,D2 (f a r))->D2 (λk=>wt8 n c λa r=>f a r k)
 | 0,c,f,hf=>by cases c <;> first | exact qa5 | exact hf _ _
 | n+1,c,f,hf=>by
  cases c <;> first
   | exact qa5
   | exact w69 n _ λa r=>hf _ _
theorem x7d (B:q3y) (mem:List AObj) (args:AV):D2 (bxK B mem args):=by
 unfold bxK
 refine w69 _ _ λa r=>?_
 split
 case h_2=>exact qa5
 split
 case h_2=>exact qa5
 split
 case h_2=>exact qa5
 intro k H
 obtain⟨r',c',h1,h2⟩:=B.one _ _ _ H
 grind
theorem xi2 (nm e:Nat) (T:TI):D2 (q8v nm e T):=by
 unfold q8v
 split <;> exact qe3 _ _
theorem xi3 (w:Bool) (T:TI) (x:AV):Det (w56 w T x):=by
 unfold w56
 split
 case h_2=>exact qa4
 split
 ·split
  ·split
   all_goals grind [q0k,qa4]
  ·split
   all_goals simp_all [qa6,qa4]
 ·split
  ·exact qa6 _
  ·exact qa4
 ·exact qa4
theorem w7a {C:Ctx} (hC:C.one) (nm:Nat) (mem:List AObj) (f:Nat) (args:AV):D2 (callK C nm mem f args):=by
 unfold callK
 split
 ·grind [x0w]
 split
 ·grind [x4e]
 split
 ·grind [x7d]
 cases hf:find C.specs f with
 | none=>exact qa5
 | some S=>
  have hd:=hC f S hf
  show D2 (λk=>match args.plain with | true=>_ | false=>_)
  split
  ·simp_all [qd2,w68]
  ·split
   ·simp_all [qd2,w68]
   ·split
    all_goals simp_all [w66,qd2,qe3,qa5]
theorem xi4 (T E:TI) (mem:List AObj) (x:AV):D2 (q46 T E mem x):=by
 unfold q46
 split
 ·split
  ·split
   all_goals simp_all [wa9,qe3,qa5]
  ·exact qa5
 ·exact qa5
theorem w3u (C:Ctx) (dst nm:Nat) (mem:List AObj) (b:Builtin) (tys:List Nat) (args:List AV):D2 (q0y C dst nm mem b tys args):=by
 unfold q0y
 split
 ·split
  ·exact qd2 (qe1 _) λT=>q2g (x0u _ _ _) .none
  ·exact qa5
 ·split
  ·split
   ·exact qd2 (qe1 _) λT=>qd2 (qe1 _) λE=>w65 _ _ _ _ _ _ _
   ·exact qa5
  ·exact qa5
 ·split
  ·exact qd2 (qe1 _) λT=>qd2 (qe1 _) λE=>xi4 _ _ _ _
  ·exact qa5
 ·intro k H
  obtain⟨⟨j,n⟩,h1,h2⟩:=q82 true _ (λp=>k (.lit (.int p.1 p.2)) .none) H
  exact⟨_,_,h1,λk' hk=>h2 (λp=>k' (.lit (.int p.1 p.2)) .none) hk⟩
 ·intro k H
  obtain⟨⟨j,n⟩,h1,h2⟩:=q82 false _ (λp=>k (.lit (.int p.1 p.2)) .none) H
  exact⟨_,_,h1,λk' hk=>h2 (λp=>k' (.lit (.int p.1 p.2)) .none) hk⟩
 ·exact qa5
theorem x7e {C:Ctx} (hC:C.one) (dst nm:Nat) (op:Op) (ρ:Operand->AV) (mem:List AObj):D2 (opK C dst nm op ρ mem):=by
 unfold opK
 split
 ·exact qe3 _ _
 ·exact qe3 _ _
 ·exact x0s (qe3 _ _) (qe3 _ _)
 ·exact qd2 (qe1 _) λT=>xi2 _ _ _
 ·exact qd2 (q3b _) λT=>qe3 _ _
 ·refine qd2 (qe1 _) λT=>?_
  split
  ·exact qa5
  ·exact q2g (qd3 (w00 _ _ _) λc=>qa6 _) .none
 ·refine qd2 (qe1 _) λT=>qd2 (qe1 _) λE=>?_
  split
  ·exact wb1 _ _ _ _ _ _
  ·exact qa5
 ·exact qd2 (qe1 _) λT=>q2g (xh7 _ _ _) .none
 ·exact qd2 (qe1 _) λT=>xh8 _ _ _ _
 ·exact q2g (xh6 _ _ _ _ _ _ _) .none
 ·exact q2g (x4d _ _ _) .none
 ·exact qd2 (qe1 _) λ_=>qd2 (qe1 _) λT=>q2g (xi3 _ _ _) .none
 ·split
  ·exact qe3 _ _
  ·exact qa5
 ·refine qd2 (qe1 _) λT=>qd2 (qe1 _) λE=>?_
  split
  ·exact q3c λ_ n=>q3c λ_ m=>qn0 (qe3 _ _)
  ·exact qa5
 ·refine qd2 (qe1 _) λT=>?_
  split
  ·exact q2g (wk2 _ _ _ _ _) .none
  ·exact qd2 (qe1 _) λE=>xi1 _ _ _ _ _ _ _ _
 ·refine qd2 (qe1 _) λT=>?_
  split
  ·exact q2g (wk3 _ _) .none
  ·exact qd2 (qe1 _) λE=>q2g (wk4 _ _ _ _) .none
 ·refine qd2 (qe1 _) λT=>?_
  split
  ·exact xh9 _ _
  ·exact qa5
 ·exact x0v _ _ _
 ·split
  ·exact qd2 (qe1 _) λT=>qd2 (qe1 _) λE=>w3s _ _ _
  ·exact qa5
 ·exact qd2 (qe1 _) λT=>qd2 (qe1 _) λE=>q2g (w3t _ _ _ _ _ _) .none
 ·exact qd2 (qe1 _) λT=>w64 _ _ _ _ _
 ·refine qd2 (qe1 _) λT=>?_
  split
  ·exact qa5
  ·exact qd2 (qe1 _) λfl=>q2g (wk0 _ _) .none
 ·refine qd2 (qe1 _) λT=>?_
  split
  ·exact qa5
  ·refine qd2 (qe1 _) λfl=>qd2 (qe1 _) λE=>?_
   split
   ·exact q2g (q06 _ _ _ _) .none
   ·exact qa5
 ·exact qd2 (qe1 _) λT=>qd2 (qe1 _) λE=>q3c λ_ n=>q2g (w62 _ _ _ _ _) .none
 ·split
  ·exact q2g (wu9 _ _) .none
  ·exact qa5
 ·split <;> first | exact qe3 _ _ | exact qa5
 ·split
  ·exact w7a hC _ _ _ _
  ·split
   ·exact qd2 (w61 _ _) λargs=>w7a hC _ _ _ _
   ·exact qd2 (qn6 _ _) λx=>qn0 (qe3 _ _)
   ·exact qa5
  ·exact w3u _ _ _ _ _ _ _
  ·exact qa5
 ·exact qa5
end Eng
set_option linter.unusedVariables false
set_option linter.unusedSimpArgs false
namespace Eng
open Go Go.RowKit
theorem qj5 {ρ:Operand->AV} {x:Operand} {g:Nat}:∀{xs:List Operand},x∈xs->(ρ x).msk.testBit g=true->(qi1 ρ xs).testBit g=true
 | [],h,_=>by cases h
 | y :: r,h,hg=>by
  simp only[qi1,qd0,Bool.or_eq_true]
  rcases zao.1 h with rfl | h
  ·grind
  ·exact .inr (qj5 h hg)
def q6y (mem mem':List AObj) (v:AV):Prop:=∀g,v.msk.testBit g=true->qa1 mem g=qa1 mem' g
def Sees2 (mem mem':List AObj) (v:AV):Prop:=∀g,(qf5 mem v.msk).testBit g=true->qa1 mem g=qa1 mem' g
theorem Sees2.one {mem mem':List AObj} {v:AV} (h:Sees2 mem mem' v):q6y mem mem' v:=λg hg=>h g (qh4 hg)
theorem q2h {mem mem':List AObj} {g:Nat} {k:Option Nat} (h:qa1 mem g=qa1 mem' g):qz9 mem g k=qz9 mem' g k:=by grind [qz9]
theorem q5d {mem mem':List AObj} {g a b:Nat} (h:qa1 mem g=qa1 mem' g):q19 mem g a b=q19 mem' g a b:=by grind [q19]
theorem q2i {R x:Nat}:∀{l:List AObj} {i:Nat},(qq4 R l i).testBit x=true->∃g,R.testBit (i+g)=true/\(qa1 l g).msk.testBit x=true
 | [],i,h=>by grind [qq4]
 | o :: r,i,h=>by
  simp only[qq4] at h
  split at h
  ·rename_i hi
   rw[qd0,zbx] at h
   rcases h with h | h
   ·exact⟨0,ow,h⟩
   ·obtain⟨g,h1,h2⟩:=q2i h
    exact⟨g+1,by grind,h2⟩
  ·obtain⟨g,h1,h2⟩:=q2i h
   exact⟨g+1,by grind,h2⟩
theorem w3v {mem mem':List AObj} {R:Nat} (h:∀g,R.testBit g=true->qa1 mem g=qa1 mem' g) (x:Nat):(qf5 mem R).testBit x=(qf5 mem' R).testBit x:=by
 have one:∀{mem mem':List AObj},(∀g,R.testBit g=true->qa1 mem g=qa1 mem' g)->(qf5 mem R).testBit x=true->(qf5 mem' R).testBit x=true:=by
  intro mem mem' h hx
  unfold qf5 at hx
  rw[qd0,zbx] at hx
  rcases hx with hx | hx
  ·exact qh4 hx
  ·obtain⟨g,h1,h2⟩:=q2i hx
   rw[zb8] at h1
   grind [q0i]
 grind
theorem w7b {mem mem':List AObj} {v:AV} (h:q6y mem mem' v):v.snap mem=v.snap mem':=by
 induction v with
 | own g=>simp only[AV.snap]; rw[h g (by simp[AV.msk,qb4])]
 | msl g k=>exact q2h (h g (by simp[AV.msk,qb4]))
 | msub g a b=>exact q5d (h g (by simp[AV.msk,qb4]))
 | imm cs off ih=>simp only[AV.snap]; rw[ih h]
 | clo f c ih=>simp only[AV.snap]; rw[ih h]
 | agg c ih=>simp only[AV.snap]; rw[ih h]
 | tup c ih=>simp only[AV.snap]; rw[ih h]
 | cons a b iha ihb=>
  simp only[AV.snap]
  rw[iha (λg hg=>h g (by grind [AV.msk,qd0])),ihb (λg hg=>h g (by grind [AV.msk,qd0]))]
 | _=>rfl
theorem w02 {mem mem':List AObj} {v:AV} (h:Sees2 mem mem' v):v.bor mem=v.bor mem':=by
 have sub:∀{R R':Nat},(∀g,R.testBit g=true->R'.testBit g=true)->∀g,(qf5 mem R).testBit g=true->(qf5 mem R').testBit g=true:=by
  intro R R' hR g hg
  unfold qf5 at *
  rw[qd0,zbx] at *
  rcases hg with hg | hg
  ·grind
  ·refine .inr ?_
   have:∀(l:List AObj) (i:Nat),(qq4 R l i).testBit g=true->(qq4 R' l i).testBit g=true:=by
    intro l
    induction l with
    | nil=>intro i hh; exact hh
    | cons o r ih=>
     intro i hh
     simp only[qq4] at *
     cases hq:R.testBit i with
     | true=>
      rw[hq] at hh
      rw[hR i hq]
      simp only[qd0,Bool.or_eq_true] at *
      grind
     | false=>
      rw[hq] at hh
      have:=ih _ hh
      split
      all_goals simp_all
   grind
 induction v with
 | own g=>simp only[AV.bor]; rw[h.one g (by simp[AV.msk,qb4])]
 | msl g k=>exact q2h (h.one g (by simp[AV.msk,qb4]))
 | msub g a b=>exact q5d (h.one g (by simp[AV.msk,qb4]))
 | box g off=>
  simp only[AV.bor]
  have e:=h.one g (by simp[AV.msk,qb4])
  rw[<- e]
  split
  ·rename_i ty cs hm
   rw[w7b (mem':=mem') λx hx=>h x (q0i (g:=g) (by simp[AV.msk,qb4]) (by rw[hm]; exact hx))]
  rfl
 | imm cs off ih=>simp only[AV.bor]; rw[ih h]
 | clo f c ih=>simp only[AV.bor]; rw[ih h]
 | agg c ih=>simp only[AV.bor]; rw[ih h]
 | tup c ih=>simp only[AV.bor]; rw[ih h]
 | cons a b iha ihb=>
  simp only[AV.bor]
  rw[iha (λg hg=>h g (sub (λx hx=>by grind [AV.msk,qd0]) g hg)),ihb (λg hg=>h g (sub (λx hx=>by grind [AV.msk,qd0]) g hg))]
 | _=>rfl
theorem w7c {T:TI} {mem mem':List AObj} {v:AV} (h:q6y mem mem' v):q6j T mem v=q6j T mem' v:=by
 funext k
 cases v <;> simp only[q6j]
 case box g off=>rw[h g (by simp[AV.msk,qb4])]
 case optr g t i off=>rw[h g (by simp[AV.msk,qb4])]
 case mptr g j t i off=>rw[h g (by simp[AV.msk,qb4])]
theorem w7d {C:Ctx} {w:Bool} {op:BinOp} {t:Nat} {mem mem':List AObj} {x y:AV} (h:q6y mem mem' x):xu6 C w op t mem x y=xu6 C w op t mem' x y:=by
 funext k
 cases x <;> simp only[xu6]
 case own g=>rw[h g (by simp[AV.msk,qb4])]
theorem w3w {T:TI} {mem mem':List AObj} {v x:AV} (h:q6y mem mem' v):q45 T mem v x=q45 T mem' v x:=by
 funext k
 cases v <;> simp only[q45]
 case box g off=>rw[h g (by simp[AV.msk,qb4])]
 case optr g t i off=>rw[h g (by simp[AV.msk,qb4])]
 case mptr g j t i off=>rw[h g (by simp[AV.msk,qb4])]
theorem xi5 {T:TI} {mem mem':List AObj} {v:AV} (h:q6y mem mem' v):xu5 T mem v=xu5 T mem' v:=by
 funext k
 cases v <;> simp only[xu5]
 case own g=>rw[h g (by simp[AV.msk,qb4])]
 case msl g j=>rw[h g (by simp[AV.msk,qb4])]
 grind
theorem w3x {T E:TI} {mem mem':List AObj} {v:AV} (h:q6y mem mem' v):q46 T E mem v=q46 T E mem' v:=by
 funext k
 cases v <;> simp only[q46]
 case msl g j=>rw[h g (by simp[AV.msk,qb4])]
theorem w3y {T E:TI} {mem mem':List AObj} {v:AV} {i:Int} (h:q6y mem mem' v):q2y T E mem v i=q2y T E mem' v i:=by
 funext k
 cases v <;> simp only[q2y]
 case own g=>rw[h g (by simp[AV.msk,qb4])]
 case msl g j=>rw[h g (by simp[AV.msk,qb4])]
theorem q09 {ρ ρ':Operand->AV} {o:Option Operand} {d:Int} (h:∀x,o=some x->ρ x=ρ' x):bound ρ o d=bound ρ' o d:=by
 funext k
 cases o with
 | none=>rfl
 | some x=>simp only[bound,h x rfl]
theorem w7e {mem mem':List AObj} {v:AV} {b:Bool} (h:q6y mem mem' v):wi0 mem v b=wi0 mem' v b:=by
 funext k
 cases b
 ·rfl
 ·cases v <;> simp only[wi0]
  case box g off=>rw[h g (by simp[AV.msk,qb4])]
theorem wv0 {T E:TI} {mem mem':List AObj} {v i:AV} {b:Bool} (h:q6y mem mem' v):qx1 T E mem v i b=qx1 T E mem' v i b:=by
 funext k
 cases v <;> simp only[qx1]
 case own g=>rw[h g (by simp[AV.msk,qb4])]
theorem wv3 {T:TI} {mem mem':List AObj} {v i x:AV} (h:q6y mem mem' v):q0e T mem v i x=q0e T mem' v i x:=by
 funext k
 cases v <;> simp only[q0e]
 case own g=>rw[h g (by simp[AV.msk,qb4])]
theorem wb2 {ρ ρ':Operand->AV} {v:AV} {lo hi mx:Option Operand} (h1:∀x,lo=some x->ρ x=ρ' x) (h2:∀x,hi=some x->ρ x=ρ' x):qp9 ρ v lo hi mx=qp9 ρ' v lo hi mx:=by
 funext k
 simp only[qp9,q09 h1,q09 h2]
theorem w3z {T E:TI} {ρ ρ':Operand->AV} {mem mem':List AObj} {v:AV} {lo hi mx:Option Operand} (h:q6y mem mem' v) (h1:∀x,lo=some x->ρ x=ρ' x) (h2:∀x,hi=some x->ρ x=ρ' x) :
  q0b T E ρ mem v lo hi mx=q0b T E ρ' mem' v lo hi mx:=by
 funext k
 simp only[q0b,q09 h1,q09 h2]
 cases v <;> simp only[]
 case own g=>rw[h g (by simp[AV.msk,qb4])]
 case msl g j=>rw[h g (by simp[AV.msk,qb4])]
theorem w30 {t:Ty} {mem mem':List AObj} {v:AV} (h:q6y mem mem' v):q20 t mem v=q20 t mem' v:=by
 funext k
 cases v <;> simp only[q20]
 case own g=>rw[h g (by simp[AV.msk,qb4])]
 case msl g j=>rw[h g (by simp[AV.msk,qb4])]
theorem wv4 {em:Bool} {nm:Nat} {T E:TI} {mem mem':List AObj} {s x:AV} (h:q6y mem mem' s) (h':q6y mem mem' x):q0c em nm mem T E s x=q0c em nm mem' T E s x:=by
 funext k
 unfold q0c
 rw[w30 h']
 cases s <;> first | rfl | skip
 case own g=>
  have e:=h g (by simp[AV.msk,qb4])
  grind
 case msl g j=>
  have e:=h g (by simp[AV.msk,qb4])
  simp only[e]
  cases x <;> first | rfl | skip
  rename_i g' j'
  have e':=h' g' (by simp[AV.msk,qb4])
  grind
 grind
theorem q60 {pool:Bool} {nm e:Nat} {E:TI} {mem mem':List AObj} {parts:List (Nat × AV)} (h:∀p∈parts,q6y mem mem' p.2):qh5 pool nm e E mem parts=qh5 pool nm e E mem' parts:=by
 funext k
 unfold qh5
 split
 ·rfl
 ·rename_i g
  rw[h (0,.own g) (by simp) g (by simp[AV.msk,qb4])]
 rfl
theorem xi6 {v:AV}:∀{g:Nat},v.own1=some g->v.msk.testBit g=true:=by
 induction v with
 | own h=>intro g e; have e:some h=some g:=e; grind [Option.some.inj,AV.msk,qb4]
 | agg c ih=>intro g e; exact ih e
 | tup c ih=>intro g e; exact ih e
 | clo f c ih=>intro g e; exact ih e
 | cons x y ihx ihy=>
  grind [AV.own1,AV.msk,qd0,Option.some.inj]
 | _=>intro g e; cases e
theorem wv5 {mem mem':List AObj} {args:AV} (h:q6y mem mem' args):q0d mem args=q0d mem' args:=by
 funext k
 unfold q0d
 split
 ·rfl
 ·rename_i g hg
  rw[h g (xi6 hg)]
theorem w31 {mem mem':List AObj} {g:Nat} {p:Option Nat} {v:AV} (h:Sees2 mem mem' v):q31 mem g p v=q31 mem' g p v:=by
 induction v with
 | cons v r _ ih=>
  have hv:Sees2 mem mem' v:=λx hx=>h x (qn5 (λy hy=>by grind [AV.msk,qd0]) x hx)
  have hr:Sees2 mem mem' r:=λx hx=>h x (qn5 (λy hy=>by grind [AV.msk,qd0]) x hx)
  funext k
  simp only[q31]
  rw[w3v (λx hx=>hv.one x hx) g,w02 hv,ih hr]
  cases hb:(qf5 mem' v.msk).testBit g
  ·rfl
  ·cases p <;> first | rfl | skip
   cases v <;> first | rfl | skip
   rename_i g' j _
   have e:=q2h (k:=j) (hv.one g' (by simp[AV.msk,qb4]))
   cases j <;> first | rfl | skip
   simp_all
 | _=>rfl
theorem w7f {M:MSpec} {mem mem':List AObj} {args:AV} (h:Sees2 mem mem' args):wi1 M mem args=wi1 M mem' args:=by
 funext k
 cases args <;> first | rfl | skip
 rename_i a rest
 have hr:Sees2 mem mem' rest:=λx hx=>h x (qn5 (λy hy=>by grind [AV.msk,qd0]) x hx)
 have ha:q6y mem mem' a:=λx hx=>h.one x (by grind [AV.msk,qd0])
 simp only[wi1,q6l,w31 hr]
 cases a <;> first | rfl | skip
 case own g=>have e:=ha g (by simp[AV.msk,qb4]); grind
 case msl g j=>have e:=ha g (by simp[AV.msk,qb4]); grind
theorem xi7 {B:wt6} {mem mem':List AObj} {args:AV} (h:q6y mem mem' args):xu8 B mem args=xu8 B mem' args:=by
 funext k
 cases args <;> first | rfl | skip
 rename_i a rest
 have ha:q6y mem mem' a:=λx hx=>h x (by grind [AV.msk,qd0])
 simp only[xu8]
 cases a <;> first | rfl | skip
 case msl g j=>have e:=ha g (by simp[AV.msk,qb4]); grind
theorem wk6 {mem mem':List AObj}:∀(n:Nat) (c:AV) (f f':AV->AV->Prop),(∀a r,(∀x,a.msk.testBit x=true->c.msk.testBit x=true)->f a r=f' a r)->wt8 n c f=wt8 n c f'
 | 0,c,f,f',h=>by
  cases c <;> first | rfl | skip
  rename_i a r
  exact h a r λx hx=>by grind [AV.msk,qd0]
 | n+1,c,f,f',h=>by
  cases c <;> first | rfl | skip
  rename_i a r
  exact wk6 (mem:=mem) (mem':=mem') n r _ _ λa' r' h'=>h a' _ λx hx=>by grind [AV.msk,qd0]
theorem x0x {B:q3y} {mem mem':List AObj} {args:AV} (h:q6y mem mem' args):bxK B mem args=bxK B mem' args:=by
 funext k
 unfold bxK
 refine wk6 (mem:=mem) (mem':=mem') _ _ _ _ λa r ha=>?_
 cases a <;> first | rfl | skip
 case box g o=>have e:=h g (ha g (by simp[AV.msk,qb4])); grind
theorem wk7 {C:Ctx} {nm f:Nat} {mem mem':List AObj} {args:AV} (h:Sees2 mem mem' args):callK C nm mem f args=callK C nm mem' f args:=by
 funext k
 simp only[callK,w02 h,wv5 h.one,w7f h,xi7 h.one,x0x h.one]
theorem wv6 (ρ:Operand->AV):∀xs:List Operand,(qk1 ρ xs).msk=qi1 ρ xs
 | []=>rfl
 | x :: r=>by simp only[qk1,AV.msk,qi1,wv6 ρ r]
theorem q61 {ρ ρ':Operand->AV}:∀{xs:List Operand},(∀x∈xs,ρ x=ρ' x)->qk1 ρ xs=qk1 ρ' xs
 | [],_=>rfl
 | x :: r,h=>by simp only[qk1]; rw[h x za0,q61 λy hy=>h y (zau _ hy)]
theorem x4f (x:AV):∀(y:AV) (k:AV->Prop),w54 x y k->∃z,k z/\z.msk=Nat.lor x.msk y.msk:=by
 induction x with
 | nil=>intro y k h; exact⟨y,h,by simp[AV.msk,show Nat.lor 0 y.msk=y.msk from Nat.zero_or _]⟩
 | cons a b _ ih=>
  intro y k h
  obtain⟨z,h1,h2⟩:=ih y _ h
  exact⟨_,h1,by simp_all [AV.msk,Nat.or_assoc]⟩
 | _=>intro y k h; exact h.elim
theorem w7g {C:Ctx} {dst nm:Nat} {op:Op} {ρ ρ':Operand->AV} {mem mem':List AObj} {k:AV->Eff->Prop} (h1:∀x∈op.operands.toList,ρ x=ρ' x)
  (h2:∀g,(qf5 mem (qi1 ρ op.operands.toList)).testBit g=true->qa1 mem g=qa1 mem' g) (h:opK C dst nm op ρ mem k):opK C dst nm op ρ' mem' k:=by
 have hs:∀x∈op.operands.toList,q6y mem mem' (ρ x):=λx hx g hg=>h2 g (qh4 (qj5 hx hg))
 cases op with
 | move x=>simp only[opK] at *; rw[<- h1 x (by simp[Op.operands])]; exact h
 | assign x=>simp only[opK] at *; rw[<- h1 x (by simp[Op.operands])]; exact h
 | pick c a b=>simp only[opK] at *; rw[<- h1 c (by simp[Op.operands]),<- h1 a (by simp[Op.operands]),<- h1 b (by simp[Op.operands])]; exact h
 | alloc e=>exact h
 | box e x=>simp only[opK] at *; rw[<- h1 x (by simp[Op.operands])]; exact h
 | build t parts=>
  simp only[opK] at *
  have e:(parts.toList.map λp=>(p.1,ρ' p.2))=parts.toList.map λp=>(p.1,ρ p.2):=zbz λp hp=>by rw[h1 p.2 (by simp[Op.operands]; exact⟨p.1,by simpa using hp⟩)]
  rw[e]; exact h
 | buildSlice t n parts=>
  simp only[opK] at *
  have e:(parts.toList.map λp=>(p.1,ρ' p.2))=parts.toList.map λp=>(p.1,ρ p.2):=zbz λp hp=>by rw[h1 p.2 (by simp[Op.operands]; exact⟨p.1,by simpa using hp⟩)]
  rw[e]
  have e2:∀(pool:Bool) (e:Nat) (E:TI),qh5 pool nm e E mem (parts.toList.map λp=>(p.1,ρ p.2))=qh5 pool nm e E mem' (parts.toList.map λp=>(p.1,ρ p.2)):=λpool e E=>q60 λp hp=>by
   obtain⟨q,hq,rfl⟩:=za4.1 hp
   exact hs q.2 (by simp[Op.operands]; exact⟨q.1,by simpa using hq⟩)
  simp only[e2] at h
  exact h
 | load t x=>simp only[opK] at *; rw[<- h1 x (by simp[Op.operands])]; simp only[w7c (hs x (by simp[Op.operands]))] at h; exact h
 | store t x y=>simp only[opK] at *; rw[<- h1 x (by simp[Op.operands]),<- h1 y (by simp[Op.operands])]; simp only[w3w (hs x (by simp[Op.operands]))] at h; exact h
 | binOp op t x y u=>simp only[opK] at *; rw[<- h1 x (by simp[Op.operands]),<- h1 y (by simp[Op.operands])]; simp only[w7d (hs x (by simp[Op.operands]))] at h; exact h
 | unOp op t x=>simp only[opK] at *; rw[<- h1 x (by simp[Op.operands])]; exact h
 | convert u t x=>simp only[opK] at *; rw[<- h1 x (by simp[Op.operands])]; exact h
 | makeFunc fn first caps=>
  simp only[opK] at *
  rw[<- q61 (ρ:=ρ) λx hx=>h1 x (by simp[Op.operands]; exact .inr (by simpa using hx))]
  exact h
 | makeSlice t x y=>simp only[opK] at *; rw[<- h1 x (by simp[Op.operands]),<- h1 y (by simp[Op.operands])]; exact h
 | slice t x lo hi mx=>
  simp only[opK] at *
  rw[<- h1 x (by simp[Op.operands])]
  have e:∀T E:TI,q0b T E ρ mem (ρ x) lo hi mx=q0b T E ρ' mem' (ρ x) lo hi mx:=λT E=>w3z (hs x (by simp[Op.operands])) (λy hy=>h1 y (by simp[Op.operands,hy])) (λy hy=>h1 y (by simp[Op.operands,hy]))
  have e2:qp9 ρ (ρ x) lo hi mx=qp9 ρ' (ρ x) lo hi mx:=wb2 (λy hy=>h1 y (by simp[Op.operands,hy])) (λy hy=>h1 y (by simp[Op.operands,hy]))
  simp only[e,e2] at h
  exact h
 | index t x y=>simp only[opK] at *; rw[<- h1 x (by simp[Op.operands]),<- h1 y (by simp[Op.operands])]; exact h
 | range t x=>simp only[opK] at *; rw[<- h1 x (by simp[Op.operands])]; exact h
 | next x b=>simp only[opK] at *; rw[<- h1 x (by simp[Op.operands])]; rw[<- w7e (hs x (by simp[Op.operands]))]; exact h
 | makeMap t r=>cases r <;> exact h
 | lookup t x i b=>simp only[opK] at *; rw[<- h1 x (by simp[Op.operands]),<- h1 i (by simp[Op.operands])]; simp only[wv0 (hs x (by simp[Op.operands]))] at h; exact h
 | mapUpdate t x i v=>simp only[opK] at *; rw[<- h1 x (by simp[Op.operands]),<- h1 i (by simp[Op.operands]),<- h1 v (by simp[Op.operands])]; simp only[wv3 (hs x (by simp[Op.operands]))] at h; exact h
 | fieldAddr t x f=>simp only[opK] at *; rw[<- h1 x (by simp[Op.operands])]; exact h
 | field t x f=>simp only[opK] at *; rw[<- h1 x (by simp[Op.operands])]; exact h
 | indexAddr t x y=>simp only[opK] at *; rw[<- h1 x (by simp[Op.operands]),<- h1 y (by simp[Op.operands])]; simp only[w3y (hs x (by simp[Op.operands]))] at h; exact h
 | extract x i=>simp only[opK] at *; rw[<- h1 x (by simp[Op.operands])]; exact h
 | nilCheck x=>simp only[opK] at *; rw[<- h1 x (by simp[Op.operands])]; exact h
 | call c=>
  obtain⟨ca,args,ats⟩:=c
  have ha:∀x∈args.toList,ρ x=ρ' x:=λx hx=>h1 x (by simp[Op.operands,Call.operands]; exact .inr (by simpa using hx))
  have hA:∀x,x∈args.toList->x∈(Op.call ⟨ca,args,ats⟩).operands.toList:=λx hx=>by simp[Op.operands,Call.operands]; exact .inr (by simpa using hx)
  have hargs:∀g,(qi1 ρ args.toList).testBit g=true->(qi1 ρ (Op.call ⟨ca,args,ats⟩).operands.toList).testBit g=true:=by
   intro g hg
   have:∀xs:List Operand,(∀x∈xs,x∈(Op.call ⟨ca,args,ats⟩).operands.toList)->(qi1 ρ xs).testBit g=true->(qi1 ρ (Op.call ⟨ca,args,ats⟩).operands.toList).testBit g=true:=by
    intro xs
    induction xs with
    | nil=>intro _ hh; simp[qi1] at hh
    | cons x r ih=>
     intro hx hh
     simp only[qi1,qd0,Bool.or_eq_true] at hh
     rcases hh with hh | hh
     ·exact qj5 (hx x za0) hh
     ·exact ih (λy hy=>hx y (zau _ hy)) hh
   exact this _ hA hg
  have hs2:Sees2 mem mem' (qk1 ρ args.toList):=λg hg=>h2 g (qn5 (by rw[wv6]; exact hargs) g hg)
  simp only[opK] at *
  rw[<- q61 ha]
  cases ca with
  | value x=>
   have hx:ρ x=ρ' x:=h1 x (by simp[Op.operands,Call.operands])
   have hxm:∀g,(ρ x).msk.testBit g=true->(qi1 ρ (Op.call ⟨.value x,args,ats⟩).operands.toList).testBit g=true:=λg hg=>qj5 (x:=x) (by simp[Op.operands,Call.operands]) hg
   have clo:∀{f:Nat} {caps:AV},ρ x=.clo f caps->(w54 (qk1 ρ args.toList) caps λargs=>callK C nm mem f args k)->w54 (qk1 ρ args.toList) caps λargs=>callK C nm mem' f args k:=by
    intro f caps e hh
    obtain⟨z,k1,k2⟩:=x4f _ _ (λz=>callK C nm mem f z k/\∀q:AV->Prop,q z->w54 (qk1 ρ args.toList) caps q) (by
     obtain⟨z,k1,k2⟩:=w61 _ _ _ hh
     exact k2 _ ⟨k1,k2⟩)
    refine k1.2 _ ?_
    have hz:Sees2 mem mem' z:=λg hg=>h2 g (qn5 (λg hg=>by
     rw[k2,qd0,zbx] at hg
     rcases hg with hg | hg
     ·rw[wv6] at hg; exact hargs g hg
     ·exact hxm g (by rw[e]; exact hg)) g hg)
    rw[<- wk7 hz]
    exact k1.1
   cases x with
   | func f=>simp only at h ⊢; rw[<- wk7 hs2]; exact h
   | _=>
    simp only at h ⊢
    rw[<- hx]
    split at h
    ·rename_i f caps e; exact clo e h
    ·exact h
    ·exact h.elim
  | builtin b=>
   simp only at h ⊢
   have e:args.toList.map ρ'=args.toList.map ρ:=zbz λx hx=>(ha x hx).symm
   rw[e]
   have hsa:∀y∈args.toList.map ρ,q6y mem mem' y:=λy hy=>by
    obtain⟨x,hx,rfl⟩:=za4.1 hy
    exact hs x (hA x hx)
   generalize args.toList.map ρ=l at h hsa ⊢
   unfold q0y at *
   split at h
   ·rename_i x
    simp only[xi5 (hsa x (by simp))] at h
    exact h
   ·rename_i x y
    simp only[wv4 (hsa x (by simp)) (hsa y (by simp))] at h
    exact h
   ·rename_i x
    simp only[w3x (hsa x (by simp))] at h
    exact h
   ·exact h
   ·exact h
   ·exact h.elim
  | _=>exact h.elim
 | _=>exact h.elim
end Eng
set_option linter.unusedVariables false
set_option linter.unusedSimpArgs false
namespace Eng
open Go Go.RowKit
theorem q38 {a b:Bool} (h:(a || b)=false):a=false:=by grind
theorem q39 {a b:Bool} (h:(a || b)=false):b=false:=by grind
theorem w03 {g:Nat} {d:AV} {v:AV} (h:v.msk.testBit g=false):AV.subst g d v=v:=by
 induction v with
 | own x=>
  simp only[AV.msk,qb4,decide_eq_false_iff_not] at h
  grind [AV.subst,Nat.beq,absurd,Nat.eq_of_beq_eq_true]
 | optr x t i off=>
  simp only[AV.msk,qb4,decide_eq_false_iff_not] at h
  grind [AV.subst,Nat.beq,absurd,Nat.eq_of_beq_eq_true]
 | msl x k=>
  simp only[AV.msk,qb4,decide_eq_false_iff_not] at h
  simp only[AV.subst]
  grind [Nat.beq,absurd,Nat.eq_of_beq_eq_true]
 | mptr x k t i off=>
  simp only[AV.msk,qb4,decide_eq_false_iff_not] at h
  grind [AV.subst,Nat.beq,absurd,Nat.eq_of_beq_eq_true]
 | msub x a b=>
  simp only[AV.msk,qb4,decide_eq_false_iff_not] at h
  grind [AV.subst,Nat.beq,absurd,Nat.eq_of_beq_eq_true]
 | imm cs off ih=>simp only[AV.subst]; rw[ih h]
 | clo f c ih=>simp only[AV.subst]; rw[ih h]
 | agg c ih=>simp only[AV.subst]; rw[ih h]
 | tup c ih=>simp only[AV.subst]; rw[ih h]
 | cons a b iha ihb=>
  grind [AV.msk,qd0,AV.subst,q38,q39]
 | _=>rfl
theorem wv7 {g:Nat} {d:AV} {o:AObj} (h:o.msk.testBit g=false):qo2 g d o=o:=by
 cases o <;> simp only[qo2]
 case box ty cs=>rw[w03 h]
theorem w33 {g g':Nat} {d d':AV} (hne:g≠g') (hd:AV.subst g' d' d=d) (hd':AV.subst g d d'=d') (v:AV):AV.subst g d (AV.subst g' d' v)=AV.subst g' d' (AV.subst g d v):=by
 have key:∀x:Nat,(Nat.beq x g=true->Nat.beq x g'=false):=λx h=>by
  grind [Nat.beq,absurd,Nat.eq_of_beq_eq_true]
 induction v with
 | own x=>
  grind [AV.subst,Nat.beq]
 | optr x t i off=>
  grind [AV.subst,Nat.beq]
 | msl x k=>
  simp only[AV.subst]
  grind [Nat.beq,AV.subst]
 | mptr x k t i off=>
  grind [AV.subst,Nat.beq]
 | msub x a b=>
  grind [AV.subst,Nat.beq]
 | imm cs off ih=>grind [AV.subst]
 | clo f c ih=>grind [AV.subst]
 | agg c ih=>grind [AV.subst]
 | tup c ih=>grind [AV.subst]
 | cons a b iha ihb=>grind [AV.subst]
 | _=>rfl
structure FS where
 g:Nat->AV
 m:Nat->AObj
def fs (s:St):FS:=⟨s.get,qa1 s.mem⟩
def Eff.prs:Eff->List (Nat × AV)
 | .upd g _ k=>match k with
  | true=>[(g,.any)]
  | false=>[]
 | .freeze g t l=>[(g,.dat t l)]
 | .perm g _=>[(g,.msl g .none)]
 | .eat h g _=>[(h,.any),(g,.any)]
 | .eatN h _=>[(h,.any)]
 | _=>[]
def q62:List (Nat × AV)->AV->AV
 | [],v=>v
 | (g,d) :: r,v=>q62 r (AV.subst g d v)
def q1w:List (Nat × AV)->AObj->AObj
 | [],v=>v
 | (g,d) :: r,v=>q1w r (qo2 g d v)
def Eff.sub (e:Eff) (v:AV):AV:=q62 e.prs v
def Eff.subO (e:Eff) (v:AObj):AObj:=q1w e.prs v
def Eff.wO (nm:Nat) (j:Nat):Eff->Option AObj
 | .none=>Option.none
 | .new o=>if j=nm then some o else Option.none
 | .upd g o _=>if j=g then some o else Option.none
 | .freeze g _ _=>if j=g then some .dead else Option.none
 | .perm g o=>if j=g then some o else Option.none
 | .eat h g o=>if j=g then some o else if j=h then some .dead else Option.none
 | .eatN h o=>if j=nm then some o else if j=h then some .dead else Option.none
def step (d:Option Nat) (nm:Nat) (v:AV) (e:Eff) (f:FS):FS:=⟨λi=>if d=some i then v else e.sub (f.g i),λj=>match e.wO nm j with
 | some o=>o
 | none=>e.subO (f.m j)⟩
def Info.app (I:Info) (f:FS):FS:=step I.o.dst I.nm I.v I.e f
theorem Eff.wO_wr {e:Eff} {nm j:Nat} {o:AObj} (h:e.wO nm j=some o):(e.wr nm).testBit j=true/\(∀g,e.om.testBit g=false->o.msk.testBit g=false):=by
 cases e with
 | none=>cases h
 | new o'=>
  simp only[Eff.wO] at h
  split at h
  ·rename_i e; subst e; obtain rfl:=zaa h; exact⟨by simp[Eff.wr,qb4],λ_ h=>h⟩
  grind
 | upd g o' k=>
  simp only[Eff.wO] at h
  split at h
  ·rename_i e; subst e; obtain rfl:=zaa h; exact⟨by simp[Eff.wr,qb4],λ_ h=>h⟩
  grind
 | freeze g t l=>
  simp only[Eff.wO] at h
  split at h
  ·rename_i e; subst e; obtain rfl:=zaa h; grind [Eff.wr,qb4,AObj.msk]
  grind
 | perm g o'=>
  simp only[Eff.wO] at h
  split at h
  ·rename_i e; subst e; obtain rfl:=zaa h; exact⟨by simp[Eff.wr,qb4],λ_ h=>h⟩
  grind
 | eat x g o'=>
  simp only[Eff.wO] at h
  split at h
  ·rename_i e; subst e; obtain rfl:=zaa h; exact⟨by simp[Eff.wr,qd0,qb4],λ_ h=>h⟩
  ·split at h
   ·rename_i e; subst e; obtain rfl:=zaa h; grind [Eff.wr,qd0,qb4,AObj.msk]
   grind
 | eatN x o'=>
  simp only[Eff.wO] at h
  split at h
  ·rename_i e; subst e; obtain rfl:=zaa h; exact⟨by simp[Eff.wr,qd0,qb4],λ_ h=>h⟩
  ·split at h
   ·rename_i e; subst e; obtain rfl:=zaa h; grind [Eff.wr,qd0,qb4,AObj.msk]
   grind
theorem Eff.prs_wr {e:Eff} {p:Nat × AV} (h:p∈e.prs) (nm:Nat):e.ks=true/\(e.wr nm).testBit p.1=true/\∀x y,x≠p.1->AV.subst x y p.2=p.2:=by
 cases e with
 | none=>cases h
 | new o=>cases h
 | upd x o k=>
  cases k with
  | false=>cases h
  | true=>obtain rfl:=zar.1 h; exact⟨rfl,by simp[Eff.wr,qb4],λ_ _ _=>rfl⟩
 | freeze x t l=>obtain rfl:=zar.1 h; exact⟨rfl,by simp[Eff.wr,qb4],λ_ _ _=>rfl⟩
 | perm x o=>
  obtain rfl:=zar.1 h
  refine⟨rfl,by simp[Eff.wr,qb4],λy z hne=>?_⟩
  grind [Nat.beq,absurd,Nat.eq_of_beq_eq_true,AV.subst]
 | eat x g o=>
  have h:p∈[(x,AV.any),(g,AV.any)]:=h
  rcases zao.1 h with rfl | h
  ·exact⟨rfl,by simp[Eff.wr,qd0,qb4],λ_ _ _=>rfl⟩
  ·obtain rfl:=zar.1 h; exact⟨rfl,by simp[Eff.wr,qd0,qb4],λ_ _ _=>rfl⟩
 | eatN x o=>obtain rfl:=zar.1 h; exact⟨rfl,by simp[Eff.wr,qd0,qb4],λ_ _ _=>rfl⟩
theorem w7h:∀{l:List (Nat × AV)} {v:AV},(∀p∈l,v.msk.testBit p.1=false)->q62 l v=v
 | [],v,_=>rfl
 | (g,d) :: r,v,h=>by
  simp only[q62]
  rw[w03 (h (g,d) za0)]
  exact w7h λp hp=>h p (zau _ hp)
theorem w04:∀{l:List (Nat × AV)} {v:AObj},(∀p∈l,v.msk.testBit p.1=false)->q1w l v=v
 | [],v,_=>rfl
 | (g,d) :: r,v,h=>by
  simp only[q1w]
  rw[wv7 (h (g,d) za0)]
  exact w04 λp hp=>h p (zau _ hp)
theorem qk6 (l:List (Nat × AV)) (ty:Nat) (c:AV):q1w l (.box ty c)=.box ty (q62 l c):=by
 induction l generalizing c with
 | nil=>rfl
 | cons p r ih=>grind [q1w,q62,qo2]
theorem q83 (l:List (Nat × AV)) {v:AObj} (h:∀ty c,v≠.box ty c):q1w l v=v:=by
 induction l with
 | nil=>rfl
 | cons p r ih=>
  obtain⟨g,d⟩:=p
  simp only[q1w]
  have:qo2 g d v=v:=by cases v <;> first | rfl | grind
  grind
theorem q84 {g:Nat} {d:AV}:∀{l:List (Nat × AV)},(∀p∈l,g≠p.1/\AV.subst p.1 p.2 d=d/\AV.subst g d p.2=p.2)->∀v,AV.subst g d (q62 l v)=q62 l (AV.subst g d v)
 | [],_,v=>rfl
 | (x,y) :: r,h,v=>by
  obtain⟨h1,h2,h3⟩:=h (x,y) za0
  simp only[q62]
  rw[q84 (λp hp=>h p (zau _ hp)),w33 h1 h2 h3]
theorem wk8:∀{l l':List (Nat × AV)},(∀p∈l,∀q∈l',p.1≠q.1/\AV.subst q.1 q.2 p.2=p.2/\AV.subst p.1 p.2 q.2=q.2)->∀v,q62 l (q62 l' v)=q62 l' (q62 l v)
 | [],l',_,v=>rfl
 | (g,d) :: r,l',h,v=>by
  simp only[q62]
  rw[q84 (λq hq=>h (g,d) za0 q hq)]
  exact wk8 (λp hp q hq=>h p (zau _ hp) q hq) _
theorem Eff.sub_id {e:Eff} {nm:Nat} {v:AV} (h:e.ks=true->∀g,(e.wr nm).testBit g=true->v.msk.testBit g=false):e.sub v=v:=
 w7h λp hp=>by obtain⟨h1,h2,_⟩:=Eff.prs_wr hp nm; grind
theorem Eff.subO_id {e:Eff} {nm:Nat} {v:AObj} (h:e.ks=true->∀g,(e.wr nm).testBit g=true->v.msk.testBit g=false):e.subO v=v:=
 w04 λp hp=>by obtain⟨h1,h2,_⟩:=Eff.prs_wr hp nm; grind
theorem Eff.sub_comm {e e':Eff} {nm nm':Nat} (h:∀g,(e.wr nm).testBit g=true->(e'.wr nm').testBit g=false) (v:AV):e.sub (e'.sub v)=e'.sub (e.sub v):=
 wk8 (λp hp q hq=>by
  obtain⟨_,a1,a2⟩:=Eff.prs_wr hp nm
  obtain⟨_,b1,b2⟩:=Eff.prs_wr hq nm'
  grind) v
theorem Eff.subO_comm {e e':Eff} {nm nm':Nat} (h:∀g,(e.wr nm).testBit g=true->(e'.wr nm').testBit g=false) (v:AObj):e.subO (e'.subO v)=e'.subO (e.subO v):=by
 unfold Eff.subO
 have box:∀l,(∃ty c,v=.box ty c)\/q1w l v=v:=λl=>by
  cases v with
  | box ty c=>simp
  | _=>grind [q83]
 rcases box e.prs with⟨ty,c,rfl⟩ | h1
 ·rw[qk6,qk6,qk6,qk6]
  exact za9 _ (Eff.sub_comm h c)
 ·rcases box e'.prs with⟨ty,c,rfl⟩ | h2
  ·rw[qk6,qk6,qk6,qk6]
   exact za9 _ (Eff.sub_comm h c)
  grind
theorem xi8 {I J:Info} (hd:∀i,I.o.dst=some i->J.o.dst≠some i) (hW:∀g,I.W.testBit g=true->J.W.testBit g=false) (h1:I.e.ks=true->∀g,I.W.testBit g=true->J.V.testBit g=false) (h2:J.e.ks=true->∀g,J.W.testBit g=true->I.V.testBit g=false) (f:FS) :
  I.app (J.app f)=J.app (I.app f):=by
 have h1v:I.e.ks=true->∀g,I.W.testBit g=true->J.v.msk.testBit g=false:=λhk g hg=>by grind [Info.V,qd0,q38]
 have h1o:I.e.ks=true->∀g,I.W.testBit g=true->J.e.om.testBit g=false:=λhk g hg=>by grind [Info.V,qd0,q39]
 have h2v:J.e.ks=true->∀g,J.W.testBit g=true->I.v.msk.testBit g=false:=λhk g hg=>by grind [Info.V,qd0,q38]
 have h2o:J.e.ks=true->∀g,J.W.testBit g=true->I.e.om.testBit g=false:=λhk g hg=>by grind [Info.V,qd0,q39]
 unfold Info.app step
 refine congr (za9 FS.mk (funext λi=>?_)) (funext λj=>?_)
 ·simp only
  by_cases hi:I.o.dst=some i
  ·have hj:=hd i hi
   rw[zap hi,zai hj,zap hi]
   exact(Eff.sub_id (nm:=J.nm) λhk g hg=>h2v hk g hg).symm
  ·rw[zai hi]
   by_cases hj:J.o.dst=some i
   ·rw[zap hj,zap hj]
    exact Eff.sub_id (nm:=I.nm) λhk g hg=>h1v hk g hg
   ·rw[zai hj,zai hj,zai hi]
    exact Eff.sub_comm (nm:=I.nm) (nm':=J.nm) hW _
 ·simp only
  cases hi:I.e.wO I.nm j with
  | some o=>
   obtain⟨a1,a2⟩:=Eff.wO_wr hi
   cases hj:J.e.wO J.nm j with
   | some o'=>
    grind [Eff.wO_wr,Info.W]
   | none=>exact(Eff.subO_id (nm:=J.nm) λhk g hg=>a2 g (h2o hk g hg)).symm
  | none=>
   cases hj:J.e.wO J.nm j with
   | some o'=>
    obtain⟨b1,b2⟩:=Eff.wO_wr hj
    exact Eff.subO_id (nm:=I.nm) λhk g hg=>b2 g (h1o hk g hg)
   | none=>exact Eff.subO_comm (nm:=I.nm) (nm':=J.nm) hW _
theorem w7i {s:St} {d:Option Nat} {v:AV} {nm:Nat} {e:Eff} (h:e.inb nm s.mem.length=true):fs (qv5 d v (qr2 s nm e))=step d nm v e (fs s)/\(qv5 d v (qr2 s nm e)).mem.length=s.mem.length:=by
 have hput:∀s':St,fs (qv5 d v s')=⟨λi=>if d=some i then v else s'.get i,qa1 s'.mem⟩/\(qv5 d v s').mem.length=s'.mem.length:=by
  intro s'
  obtain⟨ov,base,mem⟩:=s'
  cases d with
  | none=>exact⟨by rfl,rfl⟩
  | some t=>
   refine⟨?_,rfl⟩
   unfold fs qv5
   refine congr (za9 FS.mk (funext λi=>?_)) rfl
   simp only[St.get,look,Option.some.injEq]
   by_cases hi:t=i
   ·simp_all
   ·have:Nat.beq t i=false:=by grind [Nat.beq,absurd,Nat.eq_of_beq_eq_true]
    grind
 obtain⟨e1,e2⟩:=hput (qr2 s nm e)
 rw[e1,e2]
 have lt:∀{a b:Nat},Nat.blt a b=true->a<b:=λ{a b} h=>Nat.lt_of_succ_le (by simp_all [Nat.blt])
 cases e with
 | none=>exact⟨rfl,rfl⟩
 | new o=>
  replace h:nm<s.mem.length:=lt h
  refine⟨?_,qc9 _ _ _ h⟩
  refine congr (za9 FS.mk rfl) (funext λj=>?_)
  simp only[qr2,qd1 _ _ _ _ h,Eff.wO,Eff.subO,Eff.prs,q1w,fs]
  grind
 | upd g o k=>
  replace h:g<s.mem.length:=lt h
  cases k with
  | false=>
   refine⟨?_,qc9 _ _ _ h⟩
   refine congr (za9 FS.mk rfl) (funext λj=>?_)
   simp only[qr2,qd1 _ _ _ _ h,Eff.wO,Eff.subO,Eff.prs,q1w,fs]
   grind
  | true=>
   have h':g<(qb7 g .any s.mem).length:=by grind [qa9]
   refine⟨?_,by grind [qr2,qc9,qa9]⟩
   refine congr (za9 FS.mk (funext λi=>?_)) (funext λj=>?_)
   ·simp only[qr2,St.get,qi7,Eff.sub,Eff.prs,q62,fs]
   ·simp only[qr2,qd1 _ _ _ _ h',qe7,Eff.wO,Eff.subO,Eff.prs,q1w,fs]
    grind
 | freeze g t l=>
  replace h:g<s.mem.length:=lt h
  have h':g<(qb7 g (.dat t l) s.mem).length:=by grind [qa9]
  refine⟨?_,by grind [qr2,qc9,qa9]⟩
  refine congr (za9 FS.mk (funext λi=>?_)) (funext λj=>?_)
  ·simp only[qr2,St.get,qi7,Eff.sub,Eff.prs,q62,fs]
  ·simp only[qr2,qd1 _ _ _ _ h',qe7,Eff.wO,Eff.subO,Eff.prs,q1w,fs]
   grind
 | perm g o=>
  replace h:g<s.mem.length:=lt h
  have h':g<(qb7 g (.msl g .none) s.mem).length:=by grind [qa9]
  refine⟨?_,by grind [qr2,qc9,qa9]⟩
  refine congr (za9 FS.mk (funext λi=>?_)) (funext λj=>?_)
  ·simp only[qr2,St.get,qi7,Eff.sub,Eff.prs,q62,fs]
  ·simp only[qr2,qd1 _ _ _ _ h',qe7,Eff.wO,Eff.subO,Eff.prs,q1w,fs]
   grind
 | eat x g o=>
  have hh:x<s.mem.length/\g<s.mem.length:=by
   grind [Eff.inb]
  obtain⟨hx,hg⟩:=hh
  have h1:x<(qb7 x .any s.mem).length:=by grind [qa9]
  have h2:g<(qb7 g .any (qc7 (qb7 x .any s.mem) x .dead)).length:=by grind [qa9,qc9]
  refine⟨?_,by grind [qr2,qc9,qa9]⟩
  refine congr (za9 FS.mk (funext λi=>?_)) (funext λj=>?_)
  ·simp only[qr2,St.get,qi7,Eff.sub,Eff.prs,q62,fs]
  ·simp only[qr2,qd1 _ _ _ _ h2,qe7,qd1 _ _ _ _ h1,Eff.wO,Eff.subO,Eff.prs,q1w,fs]
   grind [qo2]
 | eatN x o=>
  have hh:x<s.mem.length/\nm<s.mem.length:=by
   grind [Eff.inb]
  obtain⟨hx,hg⟩:=hh
  have h1:x<(qb7 x .any s.mem).length:=by grind [qa9]
  have h2:nm<(qc7 (qb7 x .any s.mem) x .dead).length:=by grind [qc9,qa9]
  refine⟨?_,by grind [qr2,qc9,qa9]⟩
  refine congr (za9 FS.mk (funext λi=>?_)) (funext λj=>?_)
  ·simp only[qr2,St.get,qi7,Eff.sub,Eff.prs,q62,fs]
  ·simp only[qr2,qd1 _ _ _ _ h2,qe7,qd1 _ _ _ _ h1,Eff.wO,Eff.subO,Eff.prs,q1w,fs]
   grind
end Eng
set_option linter.unusedVariables false
set_option linter.unusedSimpArgs false
namespace Eng
open Go Go.RowKit
def LikeM (a b:AObj):Prop:=∃eh e t rows ix lt eh' e' rows' ix' lt',a=.mat eh e t rows ix lt/\b=.mat eh' e' t rows' ix' lt'/\qe0 rows.length ix=qe0 rows'.length ix'
theorem LikeM.trans {a b c:AObj} (h:LikeM a b) (k:LikeM b c):LikeM a c:=by
 obtain⟨e1,e2,t,r,i,l,e1',e2',r',i',l',rfl,rfl,h3⟩:=h
 obtain⟨f1,f2,t',q,j,m,f1',f2',q',j',m',h1,rfl,k3⟩:=k
 injection h1 with x1 x2 x3 x4 x5 x6
 subst x3
 obtain rfl:=zdm x4
 subst x5
 exact⟨_,_,_,_,_,_,_,_,_,_,_,rfl,rfl,h3.trans k3⟩
theorem LikeM.symm {a b:AObj} (h:LikeM a b):LikeM b a:=by
 obtain⟨e1,e2,t,r,i,l,e1',e2',r',i',l',rfl,rfl,h3⟩:=h
 exact⟨_,_,_,_,_,_,_,_,_,_,_,rfl,rfl,h3.symm⟩
def HeadAt (j:Info) (g:Nat):Prop:=∃t x y,j.o.op=.indexAddr t x y/\qc8 j.s.ov j.s.base x=.msl g .none
def w34 (j:Info):Prop:=(∃x,j.o.op=.move x)\/(∃x,j.o.op=.assign x)\/∃t x f,j.o.op=.fieldAddr t x f
def CellAt (j:Info) (h i:Nat):Prop:=∃t x,j.o.op=.load t x/\qc8 j.s.ov j.s.base x=.box h i/\∀c,j.v≠.agg c
theorem CellAt.eq {j:Info} {h i h' i':Nat} (k:CellAt j h i) (k':CellAt j h' i'):h=h'/\i=i':=by
 obtain⟨t,x,e1,e2,_⟩:=k
 obtain⟨t',x',e1',e2',_⟩:=k'
 grind
theorem CellAt.head {j:Info} {h i g:Nat} (k:CellAt j h i) (k':HeadAt j g):False:=by
 obtain⟨t,x,e1,_⟩:=k
 obtain⟨t',x',y,e1',_⟩:=k'
 grind
theorem xi9 (c:AV) (i:Nat) (k:AV->Prop):xf1 c i k↔∃a,qj9 c i=some a/\k a:=by
 induction i generalizing c with
 | zero=>cases c <;> simp[xf1,qj9]
 | succ i ih=>cases c <;> simp[xf1,qj9,ih]
theorem w05 {k:AV->Prop}:∀(i:Nat) (c:AV),w29 c i k->∃d,k d
 | 0,c,h=>⟨c,by cases c <;> exact h⟩
 | i+1,c,h=>by
  cases c with
  | cons a b=>exact w05 i b h
  | _=>exact(show False from h).elim
theorem take_any:∀(n:Nat) (c:AV) {k:AV->Prop},wt7 c n k->∃d,k d
 | 0,c,k,h=>⟨.nil,by cases c <;> exact h⟩
 | n+1,c,k,h=>by
  cases c with
  | cons a b=>
   obtain⟨d,hd⟩:=take_any n b h
   grind
  | _=>exact(show False from h).elim
theorem w35 {c:AV} {i n:Nat} {g:Bool} {w:AV} {q:Prop} (hag:∀c,w≠.agg c) (h:w29 c i λd=>wt7 d n λr=>splitB g (.agg r) λv=>v=w/\q):False:=by
 obtain⟨d,hd⟩:=w05 _ _ h
 obtain⟨r,hr⟩:=take_any _ _ hd
 cases g with
 | false=>exact hag r hr.1.symm
 | true=>exact hag r hr.1.symm
def SlotEq (i:Nat) (a b:AObj):Prop:=a=b\/∃ty c ty' c',a=.box ty c/\b=.box ty' c'/\qj9 c i=qj9 c' i
theorem SlotEq.trans {i:Nat} {a b c:AObj} (h:SlotEq i a b) (k:SlotEq i b c):SlotEq i a c:=by
 rcases h with rfl | ⟨t,x,t',y,rfl,rfl,h⟩
 ·exact k
 ·rcases k with rfl | ⟨s,u,s',v,k1,rfl,k⟩
  ·exact .inr ⟨_,_,_,_,rfl,rfl,h⟩
  ·injection k1 with _ k2
   subst k2
   exact .inr ⟨_,_,_,_,rfl,rfl,h.trans k⟩
theorem SlotEq.symm {i:Nat} {a b:AObj} (h:SlotEq i a b):SlotEq i b a:=by
 rcases h with rfl | ⟨t,x,t',y,rfl,rfl,h⟩
 ·exact .inl rfl
 ·exact .inr ⟨_,_,_,_,rfl,rfl,h.symm⟩
theorem q3d {g:Nat} {d:AV} (hd:∀a b,d≠.cons a b):∀(c:AV) (i:Nat),qj9 (AV.subst g d c) i=(qj9 c i).map (AV.subst g d)
 | .cons a b,0=>rfl
 | .cons a b,i+1=>q3d hd b i
 | .own h,i=>by
  have hn:qj9 d i=none:=by
   cases d with
   | cons a b=>grind
   | _=>rfl
  simp only[AV.subst]
  split
  ·rw[hn]; rfl
  rfl
 | .msl h k,i=>by
  have hn:qj9 d i=none:=by
   cases d with
   | cons a b=>grind
   | _=>rfl
  simp only[AV.subst]
  split
  ·split
   ·rw[hn]; rfl
   rfl
  rfl
 | .optr _ _ _ _,i=>by simp only[AV.subst]; split <;> rfl
 | .mptr _ _ _ _ _,i=>by simp only[AV.subst]; split <;> rfl
 | .msub _ _ _,i=>by simp only[AV.subst]; split <;> rfl
 | .box _ _,i=>rfl
 | .imm _ _,i=>rfl
 | .clo _ _,i=>rfl
 | .agg _,i=>rfl
 | .tup _,i=>rfl
 | .nil,i=>rfl
 | .any,i=>rfl
 | .tt,i=>rfl
 | .ff,i=>rfl
 | .lit _,i=>rfl
 | .dat _ _,i=>rfl
 | .ndat _ _ _,i=>rfl
 | .dptr _ _ _ _,i=>rfl
 | .fn _ _ _ _,i=>rfl
theorem qu5:∀{l:List (Nat × AV)},(∀p∈l,∀a b,p.2≠.cons a b)->∀(c:AV) (i:Nat),qj9 (q62 l c) i=(qj9 c i).map (q62 l)
 | [],_,c,i=>by
  show qj9 c i=(qj9 c i).map λv=>v
  simp
 | (g,d) :: r,h,c,i=>by
  show qj9 (q62 r (AV.subst g d c)) i=_
  rw[qu5 (λp hp=>h p (zau _ hp)),q3d (h (g,d) za0),Option.map_map]
  rfl
theorem Eff.prs_flat {e:Eff}:∀p∈e.prs,∀a b,p.2≠.cons a b:=by
 intro p hp a b
 cases e with
 | none=>cases hp
 | new o=>cases hp
 | upd x o k=>
  cases k with
  | false=>cases hp
  | true=>obtain rfl:=zar.1 hp; simp
 | freeze x t l=>obtain rfl:=zar.1 hp; simp
 | perm x o=>obtain rfl:=zar.1 hp; simp
 | eat x g o=>
  have hp:p∈[(x,AV.any),(g,AV.any)]:=hp
  grind
 | eatN x o=>obtain rfl:=zar.1 hp; simp
theorem SlotEq.sub {i:Nat} {a b:AObj} (e:Eff) (h:SlotEq i a b):SlotEq i (e.subO a) (e.subO b):=by
 rcases h with rfl | ⟨t,x,t',y,rfl,rfl,h⟩
 ·exact .inl rfl
 ·unfold Eff.subO
  rw[qk6,qk6]
  exact .inr ⟨_,_,_,_,rfl,rfl,by rw[qu5 Eff.prs_flat,qu5 Eff.prs_flat,h]⟩
theorem q5e {o:AObj} {i nm:Nat} {e:Eff} (h:qx3 o i (e.wr nm)=true):SlotEq i o (e.subO o):=by
 cases o with
 | box ty c=>
  unfold Eff.subO
  rw[qk6]
  refine .inr ⟨_,_,_,_,rfl,rfl,?_⟩
  rw[qu5 Eff.prs_flat]
  have h:(match qj9 c i with
   | some a=>off (e.wr nm) a.msk
   | .none=>true)=true:=h
  cases hc:qj9 c i with
  | none=>rfl
  | some a=>
   rw[hc] at h
   show some a=some (q62 e.prs a)
   congr 1
   exact(Eff.sub_id (nm:=nm) λ_ g hg=>qh7 h g hg).symm
 | _=>exact .inl (q83 _ (λ_ _ k=>by cases k)).symm
structure Cel (all:List Oper) (n j:Info):Prop where
 ns:∀g,n.W.testBit g=true->(qi1 (qc8 n.s.ov n.s.base) (q0g all j.o)).testBit g=false
 js:∀g,n.W.testBit g=true->(qi1 (qc8 j.s.ov j.s.base) (q0g all j.o)).testBit g=false
 at_:w34 j\/∃h i,CellAt j h i/\n.W.testBit h=false/\qx3 (qa1 n.s.mem h) i n.W=true/\qx3 (qa1 j.s.mem h) i n.W=true
def Lax (n j:Info) (g:Nat):Prop:=n.e.ks=false/\(w34 j\/HeadAt j g/\∃o,n.e=.upd g o false/\LikeM (qa1 n.s.mem g) o/\LikeM (qa1 j.s.mem g) o)
structure POk (all:List Oper) (lt:Bool) (n j:Info):Prop where
 T:∀i,n.D.testBit i=true->(j.T all).testBit i=false
 D:∀i,n.D.testBit i=true->j.D.testBit i=false
 X:Cel all n j\/∀g,n.W.testBit g=true->(j.X all).testBit g=false\/Lax n j g
 W:∀g,n.W.testBit g=true->j.W.testBit g=false
 V:n.e.ks=true->∀g,n.W.testBit g=true->j.V.testBit g=false
 C:Cel all n j\/(lt=true->n.e.ks=true->∀g,n.W.testBit g=true->(xf3 all j.o n.s).testBit g=false/\(qq4 (j.R all) n.s.mem 0).testBit g=false)
theorem w7j {all:List Oper} {lt:Bool} {n j:Info} (h:w6a all lt n j=true):POk all lt n j:=by
 unfold w6a at h
 split at h
 ·rename_i h1 h2 h3
  have z:∀g,n.W.testBit g=true->False:=λg hg=>by
   grind
  exact⟨qh7 h1,qh7 h2,.inr λg hg=>(z g hg).elim,λg hg=>(z g hg).elim,λ_ g hg=>(z g hg).elim,.inr λ_ _ g hg=>(z g hg).elim⟩
 ·rename_i w h1 h2 h3
  have h3:n.W=w+1:=h3
  rw[<- h3] at h
  split at h
  ·rename_i k1 k2 k3
   refine⟨qh7 h1,qh7 h2,.inr λg hg=>.inl (qh7 k1 g hg),qh7 k2,λ_=>qh7 k3,.inr λhl hk g hg=>?_⟩
   grind [qh7]
  grind
 grind
theorem x0y {all:List Oper} {lt:Bool} {n j:Info} {k:Unit->Prop} (h:x63 all n j k):POk all lt n j/\k ():=by
 unfold x63 at h
 split at h
 case h_2=>grind
 rename_i h1 h2 h3
 have h3:=zab h3
 have cel:(w34 j\/∃h i,CellAt j h i/\n.W.testBit h=false/\qx3 (qa1 n.s.mem h) i n.W=true/\qx3 (qa1 j.s.mem h) i n.W=true)->x6u all n j k->POk all lt n j/\k ():=λhB hh=>by
  unfold x6u at hh
  split at hh
  case h_2=>grind
  rename_i q1 q2 q3
  have hC:Cel all n j:=⟨qh7 q1,qh7 q2,hB⟩
  exact⟨⟨qh7 h1,qh7 h2,.inl hC,λg _=>by grind,λ_=>qh7 q3,.inl hC⟩,hh⟩
 have blind:w34 j->x3u all n j k->POk all lt n j/\k ():=λhB hh=>by
  unfold x3u at hh
  cases hks:n.e.ks with
  | true=>grind
  | false=>
   rw[hks] at hh
   exact⟨⟨qh7 h1,qh7 h2,.inr λg _=>.inr ⟨hks,.inl hB⟩,λg _=>by grind,(λhk=>by grind),.inr (λ_ hk=>by grind)⟩,hh⟩
 split at h
 case h_1 x hop=>exact blind (.inl ⟨x,hop⟩) h
 case h_2 x hop=>exact blind (.inr (.inl ⟨x,hop⟩)) h
 case h_3 t x f hop=>exact blind (.inr (.inr ⟨t,x,f,hop⟩)) h
 case h_4 t x hop=>
  split at h
  case h_1=>grind
  case h_3=>grind
  rename_i hks hag
  split at h
  case h_2=>grind
  rename_i hh i hx
  split at h
  case h_2=>grind
  rename_i q1 q2 q3
  exact cel (.inr ⟨hh,i,⟨t,x,hop,hx,λc e=>hag c e⟩,q1,q2,q3⟩) h
 case h_6=>grind
 rename_i t x y hop
 split at h
 case h_2=>grind
 rename_i g q hx
 split at h
 case h_2=>grind
 split at h
 case h_2=>grind
 rename_i g' o kill hne
 split at h
 case h_2=>grind
 rename_i hg
 have hg:=zab hg
 subst hg
 unfold x3t at h
 split at h
 case h_2=>grind
 rename_i a1 a2 t1 r1 i1 l1 e1
 split at h
 case h_2=>grind
 rename_i b1 b2 t2 r2 i2 l2
 split at h
 case h_2=>grind
 rename_i c1 c2 t3 r3 i3 l3 e3
 obtain⟨ht1,hA⟩:=q03 h
 obtain⟨ht3,⟨⟨q1,q2⟩,hK⟩⟩:=q03 hA
 clear hA h
 subst ht1
 subst ht3
 have hW:∀g,n.W.testBit g=true->g=g':=λg hgw=>by
  simp_all [Info.W,Eff.wr,qb4,decide_eq_true_eq]
 have hks:n.e.ks=false:=by rw[hne]; rfl
 refine⟨⟨qh7 h1,qh7 h2,.inr λg hgw=>?_,λg _=>by grind,(λhk=>by grind),.inr (λ_ hk=>by grind)⟩,hK⟩
 obtain rfl:=hW g hgw
 exact .inr ⟨hks,.inr ⟨⟨t,x,y,hop,hx⟩,_,hne,by rw[e1]; exact⟨_,_,_,_,_,_,_,_,_,_,_,rfl,rfl,q1⟩,by rw[e3]; exact⟨_,_,_,_,_,_,_,_,_,_,_,rfl,rfl,q2⟩⟩⟩
theorem xj0 {all:List Oper} {lt:Bool} {n j:Info} {k:Unit->Prop} (h:xf5 all lt n j k):POk all lt n j/\k ():=by
 grind [xf5,w7j,x0y]
theorem w06 {all:List Oper} {A:Nat} {j:Info} {k:Unit->Prop}:∀{l:List Info} {i:Nat},rowOk all A j l i k->k ()/\∀q n,l[q]? = some n->A.testBit (i+q)=true\/(POk all true n j/\POk all false j n)
 | [],_,h=>⟨h,λq n hq=>by grind⟩
 | x :: r,i,h=>by
  simp only[rowOk] at h
  have key:∀(hx:A.testBit i=true\/(POk all true x j/\POk all false j x)) (h:rowOk all A j r (i+1) k),k ()/\∀q n,(x :: r)[q]? = some n->A.testBit (i+q)=true\/(POk all true n j/\POk all false j n):=λhx h=>by
   obtain⟨h1,h2⟩:=w06 h
   grind
  grind [xj0]
theorem wk9 {all:List Oper} {T:List Nat} {K:Unit->Prop}:∀{r pre:List Info},wi6 all T pre r pre.length K->K ()/\∀j J,r[j]? = some J->J.e.inb J.nm J.s.mem.length=true /\
  ∀k n,k<pre.length+j->(pre++r)[k]? = some n->(T.getD (pre.length+j) 0).testBit k=true\/(POk all true n J/\POk all false J n)
 | [],_,h=>⟨h,λj J hj=>by grind⟩
 | x :: r,pre,h=>by
  simp only[wi6] at h
  split at h
  ·rename_i h2
   obtain⟨h,h1⟩:=w06 h
   have h':wi6 all T (pre++[x]) r (pre++[x]).length K:=by grind
   obtain⟨hK,hr⟩:=wk9 h'
   refine⟨hK,λj J hj=>?_⟩
   cases j with
   | zero=>
    grind
   | succ j=>
    obtain⟨a1,a2⟩:=hr j J (by grind)
    grind
  grind
def Chk (all:List Oper) (Tr:List Info):Prop:=backOk all 0=true/\∀j J,Tr[j]? = some J->J.e.inb J.nm J.s.mem.length=true /\
  ∀k n,k<j->Tr[k]? = some n->((xf4 [] all).getD j 0).testBit k=true\/(POk all true n J/\POk all false J n)
theorem x4g {all:List Oper} {Tr:List Info} {K:Unit->Prop} (h:chk all Tr K):Chk all Tr/\K ():=by
 unfold chk at h
 split at h
 ·rename_i hb
  obtain⟨h1,h2⟩:=wk9 (pre:=[]) h
  refine⟨⟨hb,λj J hj=>?_⟩,h1⟩
  have:=h2 j J hj
  grind
 grind
def Down (all:List Oper) (L:Nat->Bool):Prop:=∀j o,all[j]? = some o->L j=true->∀e∈o.after.toList,Region.binds .any e=true->L e.on=true
theorem q4a {T:List Nat} {i:Nat}:∀{l:List Edge},(q2b T l).testBit i=true->∃e∈l,Region.binds .any e=true/\(i=e.on\/(T.getD e.on 0).testBit i=true)
 | [],h=>by grind [q2b]
 | e :: r,h=>by
  simp only[q2b] at h
  split at h
  ·rename_i hb
   simp only[qd0,Bool.or_eq_true] at h
   rcases h with(h | h) | h
   ·simp_all [qb4,List.mem_cons_self,of_decide_eq_true]
   ·grind
   ·obtain⟨e',h1,h2⟩:=q4a h; grind
  ·obtain⟨e',h1,h2⟩:=q4a h; grind
theorem wv8 {all:List Oper} {L:Nat->Bool} (hL:Down all L):∀{r:List Oper} {T:List Nat},(∀j o,r[j]? = some o->all[T.length+j]? = some o)->(∀j i,L j=true->(T.getD j 0).testBit i=true->L i=true) ->
  ∀j i,L j=true->((xf4 T r).getD j 0).testBit i=true->L i=true
 | [],T,_,hT,j,i,hj,h=>hT j i hj h
 | o :: r,T,hr,hT,j,i,hj,h=>by
  simp only[xf4] at h
  refine wv8 hL (T:=T++[q2b T o.after.toList]) (λk o' hk=>?_) (λk i' hk hi=>?_) j i hj h
  ·have:=hr (k+1) o' (by grind)
   grind
  ·rcases zav k T.length with hlt | hge
   ·rw[zax,zb5 hlt,<- zax] at hi
    grind
   ·rcases Nat.eq_or_lt_of_le hge with he | hgt
    ·subst he
     rw[zax,zb0 (zad _)] at hi
     simp only[Nat.sub_self,List.getElem?_cons_zero,Option.getD_some] at hi
     obtain⟨e,h1,h2,h3⟩:=q4a hi
     have ho:=hr 0 o rfl
     have hp:=hL _ o ho hk e h1 h2
     grind
    grind
theorem q3e {all:List Oper}:∀{r:List Oper} {i:Nat},backOk r i=true->∀j o,r[j]? = some o->∀e∈o.after.toList,Region.binds .any e=true->e.on<i+j
 | [],_,_,j,o,hj=>by grind
 | x :: r,i,h,j,o,hj=>by
  simp only[backOk] at h
  split at h
  ·rename_i h1
   cases j with
   | zero=>
    simp only[List.getElem?_cons_zero,Option.some.injEq] at hj
    subst hj
    intro e he hb
    have:=zaq.1 h1 e he
    simp_all
   | succ j=>
    intro e he hb
    have:=q3e (all:=all) h j o (by grind) e he hb
    omega
  grind
def stF (Tr:List Info) (L:Nat->Bool) (f:FS):Nat->FS
 | 0=>f
 | n+1=>match Tr[n]? with
  | some I=>match L n with
   | true=>I.app (stF Tr L f n)
   | false=>stF Tr L f n
  | none=>stF Tr L f n
section
variable {all : List Oper} {Tr : List Info} {f : FS}
def Apart (all:List Oper) (Tr:List Info) (i j:Nat):Prop:=∀I J,Tr[i]? = some I->Tr[j]? = some J->POk all true I J/\POk all false J I
theorem Apart.comm {i j:Nat} (h:Apart all Tr i j) {I J:Info} (hi:Tr[i]? = some I) (hj:Tr[j]? = some J) (f:FS):I.app (J.app f)=J.app (I.app f):=by
 obtain⟨h1,h2⟩:=h I J hi hj
 refine xi8 (λx hx hy=>?_) h1.W h1.V h2.V f
 have:=h1.D x (by grind [Info.D,wi5,qb4])
 grind [Info.D,wi5,qb4]
def ins (L:Nat->Bool) (j:Nat):Nat->Bool:=λn=>if n=j then true else L n
theorem wb3 {L L':Nat->Bool}:∀{n:Nat},(∀k,k<n->L k=L' k)->stF Tr L f n=stF Tr L' f n
 | 0,_=>rfl
 | n+1,h=>by
  simp only[stF,wb3 (n:=n) λk hk=>h k ow,h n ow]
theorem w7k {L:Nat->Bool} {j:Nat} {J:Info} (hj:Tr[j]? = some J) (hL:L j=false) (hap:∀n,j<n->L n=true->Apart all Tr j n):∀n,j<n->stF Tr (ins L j) f n=J.app (stF Tr L f n)
 | 0,h=>by omega
 | n+1,h=>by
  rcases Nat.eq_or_lt_of_le (Nat.le_of_lt_succ h) with rfl | hlt
  ·grind [stF,ins,wb3]
  ·have ih:=w7k hj hL hap n hlt
   grind [ins,stF,Apart.comm]
theorem qp5 {x:Nat}:∀{l:List Operand},.tmp x∈l->(q47 l).testBit x=true
 | [],h=>by cases h
 | .tmp t :: r,h=>by
  simp only[q47,qd0,Bool.or_eq_true]
  rcases zao.1 h with h | h
  ·grind [qb4]
  ·exact .inr (qp5 h)
 | .const _ :: r,h=>by
  simp only[q47]; rcases zao.1 h with h | h
  ·cases h
  ·exact qp5 h
 | .global _ :: r,h=>by
  simp only[q47]; rcases zao.1 h with h | h
  ·cases h
  ·exact qp5 h
 | .func _ :: r,h=>by
  simp only[q47]; rcases zao.1 h with h | h
  ·cases h
  ·exact qp5 h
theorem wl0 {s:St} {o:Oper} {x:Nat} {g:Nat} (hx:.tmp x∈q0g all o) (hg:(s.get x).msk.testBit g=true):(xf3 all o s).testBit g=true:=by
 obtain⟨ov,base,mem⟩:=s
 exact qh4 (qj5 hx hg)
theorem q63 {e:Eff} {a b:AObj} (h:LikeM a b):e.subO a=a:=by
 obtain⟨e1,e2,t,r,i,l,_,_,_,_,_,rfl,_,_⟩:=h
 unfold Eff.subO
 generalize e.prs=ps
 induction ps with
 | nil=>rfl
 | cons p ps ih=>exact ih
def Lk (J:Info) (h:Nat) (a b:AObj):Prop:=w34 J\/a=b\/(HeadAt J h/\LikeM a b)\/∃h' i,CellAt J h' i/\(h=h'->SlotEq i a b)
theorem Lk.trans {J:Info} {h:Nat} {a b c:AObj} (k1:Lk J h a b) (k2:Lk J h b c):Lk J h a c:=by
 rcases k1 with k1 | rfl | ⟨k1,k1'⟩ | ⟨h',i,k1,k1'⟩
 ·exact .inl k1
 ·omega
 ·rcases k2 with k2 | rfl | ⟨_,k2'⟩ | ⟨h',i,k2,_⟩
  ·exact .inl k2
  ·exact .inr (.inr (.inl ⟨k1,k1'⟩))
  ·exact .inr (.inr (.inl ⟨k1,k1'.trans k2'⟩))
  ·exact(k2.head k1).elim
 ·rcases k2 with k2 | rfl | ⟨k2,_⟩ | ⟨h2,i2,k2,k2'⟩
  ·exact .inl k2
  ·exact .inr (.inr (.inr ⟨h',i,k1,k1'⟩))
  ·exact(k1.head k2).elim
  ·obtain⟨rfl,rfl⟩:=k1.eq k2
   exact .inr (.inr (.inr ⟨_,_,k1,λe=>(k1' e).trans (k2' e)⟩))
theorem q85 {ov:List (Nat × AV)} {base:Nat->AV} {mem:List AObj} {x g:Nat} {xs:List Operand} (hx:.tmp x∈xs) (hg:((⟨ov,base,mem⟩:St).get x).msk.testBit g=true):(qi1 (qc8 ov base) xs).testBit g=true:=qj5 hx hg
theorem agree {L:Nat->Bool} {j:Nat} {J:Info} {σ:Nat->St} (hj:Tr[j]? = some J) (hL:L j=false) (h1:∀n,n<j->L n=false->Apart all Tr n j) (h2:∀n,j<n->L n=true->Apart all Tr j n)
  (hσ:∀n,n<=Tr.length->fs (σ n)=stF Tr (λ_=>true) f n) (hσs:∀n I,Tr[n]? = some I->I.s=σ n) :
  ∀n,n<=Tr.length->(∀x,.tmp x∈q0g all J.o->(stF Tr L f n).g x=(stF Tr (λ_=>true) f (min n j)).g x)/\(∀h,(J.R all).testBit h=true->Lk J h ((stF Tr L f n).m h) ((stF Tr (λ_=>true) f (min n j)).m h))
 | 0,_=>by
  refine⟨λ_ _=>?_,λ_ _=>.inr (.inl ?_)⟩ <;> simp[stF]
 | n+1,hn=>by
  obtain⟨ih1,ih2⟩:=agree hj hL h1 h2 hσ hσs n ow
  obtain⟨I,hI⟩:∃I,Tr[n]? = some I:=⟨Tr[n],zak ow⟩
  have hjl:j<Tr.length:=(zaf.1 hj).1
  rcases zcn n j with hlt | rfl | hgt
  ·have e1:min (n+1) j=n+1:=ow
   have e2:min n j=n:=ow
   rw[e2] at ih1 ih2
   rw[e1]
   simp only[stF,hI]
   cases hl:L n with
   | true=>
    refine⟨λx hx=>?_,λh hh=>?_⟩
    ·grind [Info.app,step]
    ·simp only[Info.app,step]
     cases I.e.wO I.nm h with
     | some o=>exact .inr (.inl rfl)
     | none=>
      rcases ih2 h hh with k0 | e | ⟨k1,k2⟩ | ⟨h',i,k1,k2⟩
      ·exact .inl k0
      ·rw[e]; exact .inr (.inl rfl)
      ·exact .inr (.inr (.inl ⟨k1,by rw[q63 k2,q63 k2.symm]; omega⟩))
      ·exact .inr (.inr (.inr ⟨h',i,k1,λe=>(k2 e).sub I.e⟩))
   | false=>
    obtain⟨p,_⟩:=h1 n hlt hl I J hI hj
    have hs:fs I.s=stF Tr (λ_=>true) f n:=by grind
    refine⟨λx hx=>?_,λh hh=>?_⟩
    ·rw[ih1 x hx]
     simp only[Info.app,step]
     have hnd:I.o.dst≠some x:=λe=>by
      have:=p.T x (by grind [Info.D,wi5,qb4])
      have h2:(J.T all).testBit x=true:=qp5 hx
      grind
     rw[zai hnd]
     refine(Eff.sub_id (nm:=I.nm) λhk g hg=>?_).symm
     cases hb:((stF Tr (λ_=>true) f n).g x).msk.testBit g with
     | false=>rfl
     | true=>
      rw[<- hs] at hb
      rcases p.C with hC | hC
      ·have:=hC.ns g hg
       have h3:(qi1 (qc8 I.s.ov I.s.base) (q0g all J.o)).testBit g=true:=q85 (mem:=I.s.mem) hx hb
       grind
      ·have hq:=(hC rfl hk g hg).1
       rw[wl0 (s:=I.s) hx hb] at hq; omega
    ·refine(ih2 h hh).trans ?_
     simp only[Info.app,step]
     cases hno:I.e.wO I.nm h with
     | some o=>
      rcases p.X with hC | hX
      ·rcases hC.at_ with k0 | ⟨h',i,k1,k2,_⟩
       ·exact .inl k0
       ·refine .inr (.inr (.inr ⟨h',i,k1,λe=>?_⟩))
        have h3:I.W.testBit h=true:=(Eff.wO_wr hno).1
        grind
      ·rcases hX h (Eff.wO_wr hno).1 with this | ⟨_,k0 | ⟨k1,o',k2,k3,_⟩⟩
       ·have h2:(J.X all).testBit h=true:=qh4 hh
        grind
       ·exact .inl k0
       ·rw[k2] at hno
        simp only[Eff.wO,if_true,Option.some.injEq] at hno
        subst hno
        refine .inr (.inr (.inl ⟨k1,?_⟩))
        rw[<- hs]; exact k3
     | none=>
     rcases p.C with hC | hC
     ·rcases hC.at_ with k0 | ⟨h',i,k1,k2,k3,_⟩
      ·exact .inl k0
      ·refine .inr (.inr (.inr ⟨h',i,k1,λe=>?_⟩))
       subst e
       rw[<- hs]
       exact q5e (nm:=I.nm) k3
     refine .inr (.inl ?_)
     refine(Eff.subO_id (nm:=I.nm) λhk g hg=>?_).symm
     have hq:=(hC rfl hk g hg).2
     cases hb:((stF Tr (λ_=>true) f n).m h).msk.testBit g with
     | false=>rfl
     | true=>
      rw[<- hs] at hb
      rw[q2d (i:=0) (g:=h) (by grind) hb] at hq; omega
  ·grind [min,stF]
  ·have e1:min (n+1) j=j:=ow
   have e2:min n j=j:=ow
   rw[e2] at ih1 ih2
   rw[e1]
   simp only[stF,hI]
   cases hl:L n with
   | false=>grind
   | true=>
    obtain⟨_,p⟩:=h2 n hgt hl J I hj hI
    have hs:fs J.s=stF Tr (λ_=>true) f j:=by grind
    refine⟨λx hx=>?_,λh hh=>?_⟩
    ·simp only[Info.app,step]
     have hnd:I.o.dst≠some x:=λe=>by
      have:=p.T x (by grind [Info.D,wi5,qb4])
      have h2:(J.T all).testBit x=true:=qp5 hx
      grind
     rw[zai hnd,ih1 x hx]
     refine Eff.sub_id (nm:=I.nm) λhk g hg=>?_
     cases hb:((stF Tr (λ_=>true) f j).g x).msk.testBit g with
     | false=>rfl
     | true=>
      rw[<- hs] at hb
      rcases p.X with hC | hX
      ·have:=hC.js g hg
       have h3:(qi1 (qc8 J.s.ov J.s.base) (q0g all J.o)).testBit g=true:=q85 (mem:=J.s.mem) hx hb
       grind
      ·have hq:=(hX g hg).resolve_right λ⟨k2,_⟩=>by grind
       have h2:(J.X all).testBit g=true:=qh4 (wl0 (s:=J.s) hx hb)
       grind
    ·simp only[Info.app,step]
     cases hno:I.e.wO I.nm h with
     | some o=>
      rcases p.X with hC | hX
      ·rcases hC.at_ with k0 | ⟨h',i,k1,k2,_⟩
       ·exact .inl k0
       ·refine .inr (.inr (.inr ⟨h',i,k1,λe=>?_⟩))
        have h3:I.W.testBit h=true:=(Eff.wO_wr hno).1
        grind
      ·rcases hX h (Eff.wO_wr hno).1 with this | ⟨_,k0 | ⟨k1,o',k2,_,k3⟩⟩
       ·have h2:(J.X all).testBit h=true:=qh4 hh
        grind
       ·exact .inl k0
       ·rw[k2] at hno
        simp only[Eff.wO,if_true,Option.some.injEq] at hno
        subst hno
        refine .inr (.inr (.inl ⟨k1,?_⟩))
        rw[<- hs]; exact k3.symm
     | none=>
     simp only
     rcases p.X with hC | hX
     ·rcases hC.at_ with k0 | ⟨h',i,k1,k2,_,k3⟩
      ·exact .inl k0
      ·refine .inr (.inr (.inr ⟨h',i,k1,λe=>?_⟩))
       subst e
       have hb:=q5e (nm:=I.nm) k3
       rw[show qa1 J.s.mem h=(stF Tr (λ_=>true) f j).m h from congrFun (za9 FS.m hs) h] at hb
       rcases ih2 h hh with q0 | q | ⟨q1,_⟩ | ⟨h2,i2,q1,q2⟩
       ·rcases q0 with⟨x,q⟩ | ⟨x,q⟩ | ⟨x,y,z,q⟩ <;> (obtain⟨t,u,e1,_⟩:=k1; grind)
       ·rw[q]; exact hb.symm
       ·exact(k1.head q1).elim
       ·obtain⟨rfl,rfl⟩:=k1.eq q1
        exact((q2 rfl).sub I.e).trans hb.symm
     rcases ih2 h hh with k0 | e | ⟨k1,k2⟩ | ⟨h',i,k1,k2⟩
     ·exact .inl k0
     ·refine .inr (.inl ?_)
      rw[e]
      refine Eff.subO_id (nm:=I.nm) λhk g hg=>?_
      have hq:=(hX g hg).resolve_right λ⟨k2,_⟩=>by grind
      cases hb:((stF Tr (λ_=>true) f j).m h).msk.testBit g with
      | false=>rfl
      | true=>
       rw[<- hs] at hb
       have h2:(J.X all).testBit g=true:=q0i hh hb
       grind
     ·grind [q63]
     ·refine .inr (.inr (.inr ⟨h',i,k1,λe=>?_⟩))
      refine((k2 e).sub I.e).trans (.inl ?_)
      refine Eff.subO_id (nm:=I.nm) λhk g hg=>?_
      have hq:=(hX g hg).resolve_right λ⟨k2,_⟩=>by grind
      cases hb:((stF Tr (λ_=>true) f j).m h).msk.testBit g with
      | false=>rfl
      | true=>
       rw[<- hs] at hb
       have h2:(J.X all).testBit g=true:=q0i hh hb
       grind
end
end Eng
set_option linter.unusedVariables false
set_option linter.unusedSimpArgs false
namespace Eng
open Go Go.RowKit
theorem xj1 {h:(AV->Eff->Prop)->Prop} {f:AV->Eff->(AV->Eff->Prop)->Prop} (hh:D2 h) (hf:∀v e,D2 (f v e)):D2 (λk=>h λv e=>f v e k):=λk H=>by
 obtain⟨v,e,h1,h2⟩:=hh _ H
 obtain⟨v',e',h3,h4⟩:=hf v e k h1
 grind
theorem w7l (g:Bool) (v:AV) (e:Eff):D2 (λk=>splitB g v λv'=>k v' e):=by
 unfold splitB
 split
 ·exact qe3 _ _
 ·split
  all_goals simp_all [wa8,qe3]
theorem w7m {P:Program} {m:View} {ρ:List Value} {g:Bool} {v:AV} {k:AV->Prop} {vs:List Value} (h:splitB g v k) (hv:v.ok P m ρ vs):∃v',k v'/\v'.ok P m ρ vs:=by
 unfold splitB at h
 split at h
 ·grind
 ·split at h
  ·rename_i b
   obtain rfl:vs=[.bool b]:=hv
   cases b with
   | true=>exact⟨_,h.1 rfl,rfl⟩
   | false=>exact⟨_,h.2 rfl,rfl⟩
  grind
def BoolIs (v:AV) (b:Bool):Prop:=v=.lit (.bool b)\/(v=.tt/\b=true)\/(v=.ff/\b=false)
theorem BoolIs.ok {P:Program} {m:View} {ρ:List Value} {v:AV} {b:Bool} {u:Value} (h:BoolIs v b) (hv:v.ok P m ρ [u]):u=.bool b:=by
 rcases h with rfl | ⟨rfl,rfl⟩ | ⟨rfl,rfl⟩
 ·exact(zac hv).1
 ·exact(zac hv).1
 ·exact(zac hv).1
theorem qw0 {P:Program} {m:View} {ρ:List Value} {av:AV} {v:Value} (h:av.skipped=true) (hv:av.ok P m ρ [v]):v=undef:=by
 unfold AV.skipped at h
 split at h
 ·split at h
  ·obtain⟨cs,k1,k2⟩:=hv
   obtain rfl:cs=[]:=k2
   exact(zac k1).1
  grind
 grind
theorem qy1 {all:Array Oper} {a:Act} {j d:Nat} {og:Oper} (h1:all[j]? = some og) (h2:og.dst=some d) (h:a.tmps.getD d undef=undef):yielded all a.tmps j=none:=by
 unfold yielded
 rw[h1]
 simp only[Option.bind_some,h2]
 rw[za8] at h
 grind [undef]
def Gd (all:List Oper) (s:St) (o:Oper) (run:Bool):Prop:=match o.guard with
 | none=>run=true
 | some (j,want)=>∃g d,all[j]? = some g/\g.dst=some d/\((∃b,BoolIs (s.get d) b/\run=(b==want))\/((s.get d).skipped=true/\run=false))
def Stp (C:Ctx) (all:List Oper) (n0 k:Nat) (I:Info):Prop:=all[k]? = some I.o/\I.nm=n0+k /\
 ((Gd all I.s I.o true/\∀k':AV->Eff->Prop,k' I.v I.e->opK C (I.o.dst.getD 0) I.nm I.o.op (qc8 I.s.ov I.s.base) I.s.mem λv e=>splitB (isG all k) v λv=>k' v e) \/
  (Gd all I.s I.o false/\I.v=.tup .nil/\I.e=.none))
def Info.next (I:Info):St:=qv5 I.o.dst I.v (qr2 I.s I.nm I.e)
def Chain (s0:St) (Tr:List Info) (s:St):Prop:=∃σ:Nat->St,σ 0=s0/\σ Tr.length=s/\∀n I,Tr[n]? = some I->I.s=σ n/\σ (n+1)=I.next
theorem Chain.snoc {s0 s:St} {tr:List Info} {I:Info} (h:Chain s0 tr s) (hs:I.s=s):Chain s0 (tr++[I]) I.next:=by
 obtain⟨σ,h1,h2,h3⟩:=h
 refine⟨λn=>if n<=tr.length then σ n else I.next,by grind,by grind,λn J hJ=>?_⟩
 grind
theorem w07 {v:AV} {x y:Unit->Prop} (h:q18 v x y):(BoolIs v true/\x ())\/(BoolIs v false/\y ()):=by
 unfold q18 at h
 split at h
 ·exact .inl ⟨.inr (.inl ⟨rfl,rfl⟩),h⟩
 ·exact .inr ⟨.inr (.inr ⟨rfl,rfl⟩),h⟩
 ·rename_i b
  cases b with
  | true=>exact .inl ⟨.inl rfl,h.1 rfl⟩
  | false=>exact .inr ⟨.inl rfl,h.2 rfl⟩
 grind
theorem wb4 {C:Ctx} {all:List Oper} {n0:Nat} {K:St->Prop} {s0:St}:∀(r:List Oper) (i:Nat) (s:St) (tr:List Info),q2c C all n0 i r s tr K->tr.length=i->Chain s0 tr s->(∀k I,tr[k]? = some I->Stp C all n0 k I) ->
  (∀k o,r[k]? = some o->all[i+k]? = some o)->i+r.length=all.length ->
  ∃Tr s',Tr.length=all.length/\Chk all Tr/\Chain s0 Tr s'/\(∀k I,Tr[k]? = some I->Stp C all n0 k I)/\K s'
 | [],i,s,tr,h,hl,hc,hst,hr,hn=>by
  grind [q2c,x4g]
 | o :: r,i,s,tr,h,hl,hc,hst,hr,hn=>by
  obtain⟨ov,base,mem⟩:=s
  have ho:all[i]? = some o:=by simpa using hr 0 o rfl
  have hr':∀k o',r[k]? = some o'->all[i+1+k]? = some o':=λk o' hk=>by
   have:=hr (k+1) o' (by grind)
   grind
  have hn':i+1+r.length=all.length:=by grind
  have more:∀I:Info,I.s=⟨ov,base,mem⟩->Stp C all n0 i I->q2c C all n0 (i+1) r I.next (tr++[I]) K->∃Tr s',Tr.length=all.length/\Chk all Tr/\Chain s0 Tr s'/\(∀k I,Tr[k]? = some I->Stp C all n0 k I)/\K s':=by
   intro I hs hI hd
   refine wb4 r (i+1) _ _ hd (by grind) (hc.snoc hs) (λk J hJ=>?_) hr' hn'
   grind
  have run:Gd all ⟨ov,base,mem⟩ o true->(q2a (n0+i) lits λnm=>opK C (o.dst.getD 0) nm o.op (qc8 ov base) mem λv e=>splitB (isG all i) v λv=>w58 C o.dst v λv=>q95 ov base mem nm e λs'=>q2c C all n0 (i+1) r (qv5 o.dst v s') (tr++[⟨o,nm,v,e,⟨ov,base,mem⟩⟩]) K) ->
    ∃Tr s',Tr.length=all.length/\Chk all Tr/\Chain s0 Tr s'/\(∀k I,Tr[k]? = some I->Stp C all n0 k I)/\K s':=by
   intro hg h
   rw[qm9] at h
   obtain⟨v,e,k1,k2⟩:=xj1 (x7e C.one_all (o.dst.getD 0) (n0+i) o.op (qc8 ov base) mem) (λv e=>w7l (isG all i) v e) (λv e=>w58 C o.dst v λv=>q95 ov base mem (n0+i) e λs'=>q2c C all n0 (i+1) r (qv5 o.dst v s') (tr++[⟨o,n0+i,v,e,⟨ov,base,mem⟩⟩]) K) h
   rw[wt9] at k1
   have k1:=(q34 ⟨ov,base,mem⟩ _ _ _).mp k1
   exact more ⟨o,n0+i,v,e,⟨ov,base,mem⟩⟩ rfl ⟨ho,rfl,.inl ⟨hg,k2⟩⟩ k1
  have skip:Gd all ⟨ov,base,mem⟩ o false->q2c C all n0 (i+1) r (qv5 o.dst (.tup .nil) ⟨ov,base,mem⟩) (tr++[⟨o,n0+i,.tup .nil,.none,⟨ov,base,mem⟩⟩]) K ->
    ∃Tr s',Tr.length=all.length/\Chk all Tr/\Chain s0 Tr s'/\(∀k I,Tr[k]? = some I->Stp C all n0 k I)/\K s':=
   λhg h=>more ⟨o,n0+i,.tup .nil,.none,⟨ov,base,mem⟩⟩ rfl ⟨ho,rfl,.inr ⟨hg,rfl,rfl⟩⟩ h
  simp only[q2c] at h
  cases hgd:o.guard with
  | none=>
   grind [Gd]
  | some jw=>
   obtain⟨j,want⟩:=jw
   rw[hgd] at h
   obtain⟨og,h1,h⟩:=withSome_iff.1 h
   obtain⟨d,h2,h⟩:=withSome_iff.1 h
   have gd:∀b,BoolIs (look ov d (base d)) b->Gd all ⟨ov,base,mem⟩ o (b==want):=λb hb=>by
    unfold Gd; rw[hgd]; exact⟨og,d,h1,h2,.inl ⟨b,hb,rfl⟩⟩
   have gs:(look ov d (base d)).skipped=true->Gd all ⟨ov,base,mem⟩ o false:=λhb=>by
    unfold Gd; rw[hgd]; exact⟨og,d,h1,h2,.inr ⟨hb,rfl⟩⟩
   cases want with
   | true=>
    cases hsk:(look ov d (base d)).skipped with
    | true=>grind
    | false=>
    rw[hsk] at h
    rcases w07 h with⟨a1,a2⟩ | ⟨a1,a2⟩
    all_goals grind
   | false=>
    cases hsk:(look ov d (base d)).skipped with
    | true=>grind
    | false=>
    rw[hsk] at h
    rcases w07 h with⟨a1,a2⟩ | ⟨a1,a2⟩
    all_goals grind
theorem Rel.of_fs {P:Program} {w0:Base} {m0:View} {s s':St} {m:View} {ρ:List Value} {a:Act} {w:World} (h:Rel P w0 m0 s m ρ a w) (he:fs s=fs s') (hl:s.mem.length=s'.mem.length):Rel P w0 m0 s' m ρ a w:=by
 have hg:s.get=s'.get:=za9 FS.g he
 have hm:qa1 s.mem=qa1 s'.mem:=za9 FS.m he
 refine⟨λi=>?_,h.len.trans hl,h.hdr,h.defers,λg=>?_,λg g' v v' b=>?_,h.view,h.ext,h.new,h.below,λg v b=>?_,h.pins⟩
 ·rw[<- hg]; exact h.slots i
 ·rw[<- hm]; exact h.objs g
 ·rw[<- hm]; exact h.apart g g' v v' b
 ·rw[<- hm]; exact h.zone g v b
theorem qt2:∀(l:List Oper) (mem:List AObj),padMem mem l=mem++List.replicate l.length .dead
 | [],mem=>by simp[padMem]
 | _ :: r,mem=>by simp[padMem,qt2 r,List.replicate_succ]
theorem q4b (mem:List AObj) (n g:Nat):qa1 (mem++List.replicate n .dead) g=qa1 mem g:=by
 induction n generalizing mem with
 | zero=>simp
 | succ n ih=>
  have e:mem++List.replicate (n+1) AObj.dead=(mem++[.dead])++List.replicate n .dead:=by grind
  rw[e,ih,qx4]
  simp_all [q0h,Nat.le_refl]
theorem Rel.pad {P:Program} {w0:Base} {m0:View} {s:St} {m:View} {ρ:List Value} {a:Act} {w:World} (h:Rel P w0 m0 s m ρ a w) (l:List Oper):Rel P w0 m0 ⟨s.ov,s.base,padMem s.mem l⟩ m (ρ++List.replicate l.length (.bool false)) a w:=by
 have hρ:∀(g:Nat) (u:Value),ρ[g]? = some u->q8n u=false->(ρ++List.replicate l.length (.bool false))[g]? = some u:=λg u hg _=>by
  grind
 have hback:∀g u,(qa1 s.mem g).live=true->(ρ++List.replicate l.length (.bool false))[g]? = some u->ρ[g]? = some u:=λg u hl hg=>by
  rwa [zb5 (by rw[h.len]; exact qd6 hl)] at hg
 refine⟨λi=>AV.ok_le (View.le_refl m) hρ (h.slots i),by simp[qt2,h.len],λv hv=>?_,h.defers,λg=>?_,λg g' v v' b hne hl hl' hv hv'=>?_,h.view,h.ext,h.new,h.below,λg v b hl hv=>?_,λg p hp hv=>hρ _ _ (h.pins g p hp hv) (w6e hv)⟩
 ·rcases zaj.1 hv with hv | hv
  ·exact h.hdr v hv
  ·rw[(zde.1 hv).2]; rfl
 ·simp only[qt2,q4b]
  cases hl:(qa1 s.mem g).live with
  | false=>exact qv8 hl
  | true=>
   refine(h.objs g).grow (View.le_refl m) hρ (λu b hu hbu=>⟨rfl,?_⟩)
   obtain⟨v',k1,k2⟩:=(h.objs g).blk_lt hl
   grind
 ·simp only[qt2,q4b] at hl hl'
  exact h.apart g g' v v' b hne hl hl' (hback g v hl hv) (hback g' v' hl' hv')
 ·simp only[qt2,q4b] at hl
  exact h.zone g v b hl (hback g v hl hv)
structure Frm where
 size:Nat
 fix:List (Nat × Value)
def Frm.has (N:Frm) (a:Act):Prop:=a.tmps.size=N.size/\∀p∈N.fix,a.tmps.getD p.1 undef=p.2
def Frm.may (N:Frm) (d:Nat):Prop:=d<N.size/\∀p∈N.fix,p.1≠d
theorem Frm.put {N:Frm} {a:Act} (h:N.has a) {d:Option Nat} {v:Value} (hd:∀i,d=some i->N.may i):N.has (a.put d v):=by
 cases d with
 | none=>exact h
 | some i=>
  refine⟨by simp[Act.put,h.1],λp hp=>?_⟩
  have hne:=(hd i rfl).2 p hp
  have h2:(a.put (some i) v).tmps.getD p.1 undef=a.tmps.getD p.1 undef:=by simp[Act.put,Array.getD_eq_getD_getElem?,Array.getElem?_setIfInBounds,Ne.symm hne]
  rw[h2]; exact h.2 p hp
section
variable {P : Program} {w0 : Base} {m0 : View} {C : Ctx} {N : Frm}
theorem q53 {s0 s:St} {Tr:List Info} {σ:Nat->St} (h1:σ 0=s0) (h3:∀(n:Nat) (I:Info),Tr[n]? = some I->I.s=σ n/\σ (n+1)=I.next) (hb:∀(n:Nat) (I:Info),Tr[n]? = some I->I.e.inb I.nm I.s.mem.length=true) :
  ∀n,n<=Tr.length->fs (σ n)=stF Tr (λ_=>true) (fs s0) n/\(σ n).mem.length=s0.mem.length
 | 0,_=>by rw[h1]; exact⟨rfl,rfl⟩
 | n+1,hn=>by
  obtain⟨ih1,ih2⟩:=q53 (s:=s) h1 h3 hb n ow
  have hI:Tr[n]? = some Tr[n]:=zak ow
  obtain⟨a1,a2⟩:=h3 n _ hI
  obtain⟨b1,b2⟩:=w7i (d:=(Tr[n]).o.dst) (v:=(Tr[n]).v) (hb n _ hI)
  rw[a2]
  refine⟨?_,?_⟩
  ·show fs (qv5 _ _ _)=_
   rw[b1]
   simp only[stF,hI]
   rw[<- ih1,<- a1]; rfl
  ·show(qv5 _ _ _).mem.length=_
   grind
structure x0z (P:Program) (w0:Base) (m0:View) (N:Frm) (all:Array Oper) (Tr:List Info) (s0:St) (n0:Nat) (l:Array Bool) (a:Act) (w:World):Prop where
 good:∃s m ρ,fs s=stF Tr (λi=>l.getD i false) (fs s0) Tr.length/\s.mem.length=s0.mem.length/\N.has a/\Rel P w0 m0 s m ρ a w/\∀i,i<Tr.length->l.getD i false=false->∃b,ρ[n0+i]? = some (.bool b)
 down:Down all.toList λi=>l.getD i false
theorem qy2 {l:Array Bool} {i:Nat} (hi:i<l.size):(λk=>(l.setIfInBounds i true).getD k false)=ins (λk=>l.getD k false) i:=by
 funext k
 simp only[ins,Array.getD_eq_getD_getElem?,Array.getElem?_setIfInBounds]
 grind
theorem wl1 (hS:SoundAt P C m0) {all:Array Oper} {r:Option Nat} {n:Nat} {Q:Exit->Act->World->Prop} (hall:∀o∈all.toList,∀d,o.dst=some d->N.may d) {Tr:List Info} {s0 s':St} {n0:Nat} (hlen:Tr.length=all.toList.length) (hchk:Chk all.toList Tr)
  (hch:Chain s0 Tr s') (hst:∀k I,Tr[k]? = some I->Stp C all.toList n0 k I) (hM:n0+Tr.length<=s0.mem.length) {l:Array Bool} {a:Act} {w:World} {i:Nat} (hl:l.size=all.size) (hI:x0z P w0 m0 N all Tr s0 n0 l a w) (hi:i∈Region.ready .any all l) :
  wpOpIn (fz r) n P all Q i (x0z P w0 m0 N all Tr s0 n0 (l.setIfInBounds i true)) a w:=by
 obtain⟨hir,hun,hpre⟩:=Ls.ready_of hi
 have hiT:i<Tr.length:=by rw[hlen]; simpa using hir
 obtain⟨⟨s,m,ρ,hfs,hsl,haN,hr,hpads⟩,hdown⟩:=hI
 have hLi:l.getD i false=false:=by
  grind
 -- the check
 obtain⟨hbk,hrows⟩:=hchk
 have hinb:∀(k:Nat) (J:Info),Tr[k]? = some J->J.e.inb J.nm J.s.mem.length=true:=λk J hJ=>(hrows k J hJ).1
 obtain⟨σ,c1,c2,c3⟩:=hch
 have hσ:=q53 (s:=s') c1 c3 hinb
 obtain⟨J,hJ⟩:∃J,Tr[i]? = some J:=⟨Tr[i],zak hiT⟩
 obtain⟨ho,hnm,hout⟩:=hst i J hJ
 have hoi:all[i]? = some J.o:=by simpa using ho
 -- who is apart
 let L:Nat->Bool:=λk=>l.getD k false
 have hdown':Down all.toList (ins L i):=by
  intro j o hj hLj e he hb
  by_cases hji:j=i
  ·subst hji
   have:o=J.o:=by rw[ho] at hj; exact(zaa hj).symm
   subst this
   have:=hpre J.o hoi e (by simpa using he) hb
   show(if e.on=j then true else L e.on)=true
   split
   ·rfl
   ·exact this
  ·have h2:L j=true:=by simpa[ins,hji] using hLj
   have:=hdown j o hj h2 e he hb
   show(if e.on=i then true else L e.on)=true
   split
   ·rfl
   ·exact this
 have hanc:∀{L':Nat->Bool},Down all.toList L'->∀j k,L' j=true->((xf4 [] all.toList).getD j 0).testBit k=true->L' k=true:=λhd=>wv8 hd (T:=[]) (λj o h=>by simpa using h) (λj k _ h=>by simp at h)
 have h1:∀k,k<i->L k=false->Apart all.toList Tr k i:=by
  intro k hk hLk A B hA hB
  rw[hJ] at hB; obtain rfl:=zaa hB
  rcases(hrows i J hJ).2 k A hk hA with h | h
  ·have:=hanc hdown' i k (by simp[ins]) h
   have h2:ins L i k=L k:=by simp[ins]; intro e; omega
   rw[h2,hLk] at this; cases this
  ·exact h
 have h2:∀k,i<k->L k=true->Apart all.toList Tr i k:=by
  intro k hk hLk A B hA hB
  grind
 have hag:=agree (f:=fs s0) hJ (L:=L) hLi h1 h2 (λk hk=>(hσ k hk).1) (λk I hI=>(c3 k I hI).1) Tr.length (zad _)
 have hmin:min Tr.length i=i:=ow
 rw[hmin] at hag
 have hJs:fs J.s=stF Tr (λ_=>true) (fs s0) i:=by rw[(c3 i J hJ).1]; exact(hσ i ow).1
 rw[<- hJs,show stF Tr L (fs s0) Tr.length=fs s from hfs.symm] at hag
 obtain⟨hg,hm⟩:=hag
 have hg:∀x,.tmp x∈q0g all.toList J.o->s.get x=J.s.get x:=hg
 have hm:∀h,(J.R all.toList).testBit h=true->Lk J h (qa1 s.mem h) (qa1 J.s.mem h):=hm
 have hJl:J.s.mem.length=s.mem.length:=by rw[(c3 i J hJ).1,(hσ i ow).2,hsl]
 have hops:∀x∈J.o.op.operands.toList,x∈q0g all.toList J.o:=by
  intro x hx
  unfold q0g
  split
  ·exact hx
  ·split
   ·split
    ·exact zau _ hx
    ·exact hx
   ·exact hx
 -- the state behind it
 have fin:∀{m':View} {ρ':List Value} {v:Value} {w':World},Pads ρ ρ' J.nm->J.v.ok P m' ρ' [v]->Rel P w0 m0 (qr2 s J.nm J.e) m' ρ' a w'->x0z P w0 m0 N all Tr s0 n0 (l.setIfInBounds i true) (a.put J.o.dst v) w':=by
  intro m' ρ' v w' hp hv hr'
  obtain⟨f1,f2⟩:=w7i (s:=s) (d:=J.o.dst) (v:=J.v) (nm:=J.nm) (e:=J.e) (by rw[<- hJl]; exact hinb i J hJ)
  refine⟨⟨qv5 J.o.dst J.v (qr2 s J.nm J.e),m',ρ',?_,f2.trans hsl,?_,?_,?_⟩,?_⟩
  ·rw[f1,qy2 ow,w7k hJ hLi h2 _ hiT,hfs]; rfl
  ·exact Frm.put haN (λd hd=>hall J.o (zag ho) d hd)
  ·exact hr'.put hv (λd hd=>by rw[haN.1]; exact(hall J.o (zag ho) d hd).1)
  ·intro k hk hLk
   have e:=congrFun (qy2 (l:=l) (i:=i) ow) k
   rw[e] at hLk
   have hki:k≠i:=λe=>by subst e; simp[ins] at hLk
   have hLk':l.getD k false=false:=by simpa[ins,hki] using hLk
   obtain⟨b,hb⟩:=hpads k hk hLk'
   exact⟨b,hp _ b (by rw[hnm]; omega) hb⟩
  ·rw[qy2 ow]; exact hdown'
 -- the guard
 have hwant:∀b,Gd all.toList J.s J.o b->Region.wanted J.o (yielded all a.tmps)=b:=by
  intro b hgd
  unfold Gd at hgd
  cases hq:J.o.guard with
  | none=>rw[hq] at hgd; rw[hgd]; simp[Region.wanted,hq]
  | some jw=>
   obtain⟨j,want⟩:=jw
   rw[hq] at hgd
   obtain⟨og,d,g1,g2,g5⟩:=hgd
   have hx:.tmp d∈q0g all.toList J.o:=by unfold q0g; simp only[hq,g1,g2]; exact za0
   have h1':all[j]? = some og:=by simpa using g1
   rcases g5 with⟨c,g3,g4⟩ | ⟨g3,g4⟩
   ·rw[<- hg d hx] at g3
    have hv:=g3.ok (hr.slots d)
    have hy:yielded all a.tmps j=some c:=by
     have h3:a.tmps[d]? = some (.bool c):=by
      rw[za8] at hv
      cases hq:a.tmps[d]? with
      | none=>rw[hq] at hv; simp[undef] at hv
      | some v=>rw[hq] at hv; simp at hv; rw[hv]
     simp[yielded,h1',g2,h3]
    rw[g4]
    simp[Region.wanted,hq,hy]
   ·rw[<- hg d hx] at g3
    have hu:=qy1 h1' g2 (qw0 g3 (hr.slots d))
    rw[g4]
    simp[Region.wanted,hq,hu]
 unfold wpOpIn
 rw[hoi]
 simp only
 rcases hout with⟨hgd,hop⟩ | ⟨hgd,e1,e2⟩
 ·rw[hwant true hgd,zap rfl]
  have hop:=hop (λv e=>v=J.v/\e=J.e) ⟨rfl,rfl⟩
  have hev:∀x∈J.o.op.operands.toList,qc8 J.s.ov J.s.base x=qc8 s.ov s.base x:=λx hx=>by
   cases x with
   | tmp t=>exact(hg t (hops _ hx)).symm
   | _=>rfl
  have hsee:∀g,(qf5 J.s.mem (qi1 (qc8 J.s.ov J.s.base) J.o.op.operands.toList)).testBit g=true->Lk J g (qa1 s.mem g) (qa1 J.s.mem g):=λg hgm=>hm g (by
    obtain⟨o',nm',v',e',⟨ov,base,mem⟩⟩:=J
    exact qn5 (λx hx=>by
     have:∀xs:List Operand,(∀y∈xs,y∈q0g all.toList o')->(qi1 (qc8 ov base) xs).testBit x=true->(qi1 (qc8 ov base) (q0g all.toList o')).testBit x=true:=by
      intro xs
      induction xs with
      | nil=>intro _ hh; simp[qi1] at hh
      | cons y ys ih=>
       intro hy hh
       simp only[qi1,qd0,Bool.or_eq_true] at hh
       grind [qj5,List.mem_cons_self,List.mem_cons_of_mem]
     exact this _ hops hx) g hgm)
  have hop':opK C (J.o.dst.getD 0) J.nm J.o.op (qc8 s.ov s.base) s.mem (λv e=>splitB (isG all.toList i) v λv=>v=J.v/\e=J.e):=by
   by_cases hB:w34 J
   ·rcases hB with⟨x,e⟩ | ⟨x,e⟩ | ⟨t,x,y,e⟩
    all_goals simp_all [Op.operands,opK]
   by_cases hCl:∃h i,CellAt J h i
   ·obtain⟨h,i',hc⟩:=hCl
    obtain⟨t,x,e,hx,hag⟩:=id hc
    have hx2:=hev x (by rw[e]; simp[Op.operands])
    have hmem:(qf5 J.s.mem (qi1 (qc8 J.s.ov J.s.base) J.o.op.operands.toList)).testBit h=true:=qh4 (qj5 (x:=x) (by rw[e]; simp[Op.operands]) (by rw[hx]; simp[AV.msk,qb4]))
    have hs:SlotEq i' (qa1 s.mem h) (qa1 J.s.mem h):=by
     rcases hsee h hmem with q | q | ⟨q,_⟩ | ⟨h',i2,q1,q2⟩
     ·exact absurd q hB
     ·exact .inl q
     ·exact(hc.head q).elim
     ·obtain⟨rfl,rfl⟩:=hc.eq q1
      exact q2 rfl
    rw[e] at hop ⊢
    simp only[opK] at hop ⊢
    rw[<- hx2]
    rw[hx] at hop ⊢
    unfold qd5 at hop ⊢
    obtain⟨T,hTf,hop⟩:=withSome_iff.1 hop
    refine withSome_iff.2 ⟨T,hTf,?_⟩
    simp only[q6j] at hop ⊢
    rcases hs with q | ⟨ty,c,ty',c',q1,q2,q3⟩
    ·rw[q]; exact hop
    ·rw[q1]
     rw[q2] at hop
     simp only at hop ⊢
     unfold q5n at hop ⊢
     cases hT:T.agg with
     | true=>
      exfalso
      rw[hT] at hop
      simp only at hop
      exact w35 hag hop
     | false=>
      rw[hT] at hop
      simp only at hop ⊢
      rw[xi9] at hop ⊢
      rw[q3]; exact hop
   have hsee:∀g,(qf5 J.s.mem (qi1 (qc8 J.s.ov J.s.base) J.o.op.operands.toList)).testBit g=true->(qa1 s.mem g=qa1 J.s.mem g\/(HeadAt J g/\LikeM (qa1 s.mem g) (qa1 J.s.mem g))):=λg hg=>by
    rcases hsee g hg with q | q | q | ⟨h',i2,q1,q2⟩
    ·exact absurd q hB
    ·exact .inl q
    ·exact .inr q
    ·exact absurd ⟨h',i2,q1⟩ hCl
   by_cases hH:∃g,HeadAt J g
   ·obtain⟨g,t,x,y,ho',hx⟩:=hH
    have hmem:(qf5 J.s.mem (qi1 (qc8 J.s.ov J.s.base) J.o.op.operands.toList)).testBit g=true:=qh4 (qj5 (x:=x) (by rw[ho']; simp[Op.operands]) (by rw[hx]; simp[AV.msk,qb4]))
    rcases hsee g hmem with e | ⟨_,hlk⟩
    ·refine w7g hev (λg' hg'=>?_) hop
     rcases hsee g' hg' with e' | ⟨hh,_⟩
     ·exact e'.symm
     ·obtain⟨t2,x2,y2,e2,e3⟩:=hh
      grind
    ·have hx2:=hev x (by rw[ho']; simp[Op.operands])
     have hy2:=hev y (by rw[ho']; simp[Op.operands])
     rw[ho'] at hop ⊢
     simp only[opK] at hop ⊢
     rw[<- hx2,<- hy2]
     rw[hx] at hop ⊢
     obtain⟨e1,e2,t',r,ix,l,f1,f2,r',ix',l',m1,m2,m3⟩:=hlk
     simp only[q2y,m1,m2,m3] at hop ⊢
     exact hop
   ·refine w7g hev (λg' hg'=>?_) hop
    rcases hsee g' hg' with e' | ⟨hh,_⟩
    ·exact e'.symm
    ·exact absurd ⟨_,hh⟩ hH
  have hfree:Free s ρ J.nm:=by
   obtain⟨b,hb⟩:=hpads i hiT hLi
   refine .inr ⟨?_,b,?_⟩
   ·rw[hnm,hsl]; omega
   ·rw[hnm]; exact hb
  obtain⟨hd,hres⟩:=x0q hS hr hfree hop'
  refine w6w hres hd λv w' ⟨av,e,m',ρ',k1,k2,k3,k4⟩=>?_
  grind [w7m]
 ·rw[hwant false hgd]
  rw[zai (by simp)]
  refine⟨λ_ _=>trivial,?_⟩
  refine fin (m':=m) (ρ':=ρ) (Pads.refl _ _) ?_ ?_
  ·rw[e1]; exact⟨[],rfl,rfl⟩
  ·rw[e2]; exact hr
end
end Eng
set_option linter.unusedVariables false
set_option linter.unusedSimpArgs false
namespace Eng
open Go Go.RowKit
def x7g (N:Nat) (D B:Nat->Prop) (lent:World->Prop) (m mx:View) (W W2:World) (I:(Nat->Prop)->World->Prop) (Ix:Code->(Nat->Prop)->World->Prop) (e:Exit) (W3:World):Prop:=
 Same (λb=>b<W.heap.size/\¬(D b\/B b)) W2 W3/\lent W3/\W3.heap[N]? = W2.heap[N]?/\W3.heap[N+1]? = W2.heap[N+1]?/\m.on W3/\match e with
  | .normal=>∃D',(∀b,D' b->D b\/W.heap.size<=b\/mx b≠none)/\I D' W3
  | .ret=>∃D',(∀b,D' b->D b\/W.heap.size<=b\/mx b≠none\/B b)/\Ix .ret D' W3
  | .exit id=>∃D',(∀b,D' b->D b\/W.heap.size<=b\/mx b≠none\/B b)/\Ix (.exit id) D' W3
  | _=>False
theorem wv9 {P:Program} {w:World} {l₀:Nat} {r₀:Loop} (h:w.heap[l₀]? = some (.loop r₀)) (fn:FuncId) (tmps:Array Value) (ps:Array Tmp) (assign body:Code) :
  (Instr.enterLoop fn tmps ps assign body (some l₀)).run P w=.ok (w.heap.size,[]) (w.alloc (.loop { state:=.ready,pending:=none,fn,tmps,params:=ps,assign,body,defers:=r₀.defers })):=by
 simp_all [Instr.enterLoop,Sem.run_bind,run_getLoop,run_newObj_alloc,Result.andThen,Sem.run_pure]
def x4h (N R:Nat) (D B:Nat->Prop) (lent:World->Prop) (m mx:View) (W W2:World) (I:(Nat->Prop)->World->Prop) (Ix:Code->(Nat->Prop)->World->Prop) (e:Exit) (W3:World):Prop:=
 Same (λb=>b<W.heap.size/\¬(D b\/B b)) W2 W3/\lent W3/\(∀b,N<=b->b<=R->W3.heap[b]? = W2.heap[b]?)/\m.on W3/\match e with
  | .normal=>∃D',(∀b,D' b->D b\/W.heap.size<=b\/mx b≠none)/\I D' W3
  | .ret=>∃D',(∀b,D' b->D b\/W.heap.size<=b\/mx b≠none\/B b)/\Ix .ret D' W3
  | .exit id=>∃D',(∀b,D' b->D b\/W.heap.size<=b\/mx b≠none\/B b)/\Ix (.exit id) D' W3
  | _=>False
def RLoc (r:Option Nat) (R:Nat) (w:World):Prop:=match r with
 | none=>R=w.heap.size+1
 | some l=>R=w.heap.size/\∃o,w.heap[l]? = some (.loop o)
def mkD (r:Option Nat) (N:Nat):List Deferred:=match r with
 | none=>[{ target:=.collected N,args:=#[] }]
 | some _=>[]
def MkAt (r:Option Nat) (N:Nat) (W:World):Prop:=match r with
 | none=>W.heap[N]? = some (.deferred (some []))
 | some _=>True
theorem MkAt.to {r:Option Nat} {N:Nat} {W W':World} (h:MkAt r N W) (e:r=none->W'.heap[N]? = W.heap[N]?):MkAt r N W':=by
 cases r with
 | none=>exact(e rfl).trans h
 | some l=>trivial
theorem RLoc.le {r:Option Nat} {R:Nat} {w:World} (h:RLoc r R w):w.heap.size<=R/\R<=w.heap.size+1/\(r=none->R=w.heap.size+1):=by
 cases r with
 | none=>have h:R=w.heap.size+1:=h; omega
 | some l=>have h:R=w.heap.size:=h.1; grind
theorem q86 {r:Option Nat} {R:Nat} {P:Program} {gf:Nat} {lb:Array Value} {m:View} {α:Type} {args:α->View->List Value->Prop} {lent:α->World->List Value->(Nat->Prop)->Prop} {L:List α} {g:Operand} {ps:Array Tmp} {assign body:Code} {Q:Exit->Act->World->Prop} {a:Act} {w:World} {n:Nat}
  (hRL:RLoc r R w) (hg:a.eval g=.func (.func gf) #[] lb) (hcall:ql2 P gf) (hsay:x0j P gf lb m args lent L) (hls:∀d W W' vs B,lent d W vs B->(∀b,B b->W'.heap[b]? = W.heap[b]?)->lent d W' vs B) (hlen:∀d mx vs,args d mx vs->vs.length=ps.size)
  (I:Nat->(Nat->Prop)->World->Prop) (Ix:Code->(Nat->Prop)->World->Prop)
  (hIs:∀k D W W',I k D W->Same D W W'->I k D W') (hIxs:∀c D W W',Ix c D W->Same D W W'->Ix c D W') (hIb:∀k D W,I k D W->(∀b,D b->b<W.heap.size)/\∀b,w.heap.size<=b->b<=R->¬D b) (hIxb:∀c D W,Ix c D W->(∀b,D b->b<W.heap.size)/\∀b,w.heap.size<=b->b<=R->¬D b)
  (hm:m.on w) (D0:Nat->Prop) (h0:I 0 D0 w)
  (hround:∀(k:Nat) (D:Nat->Prop) (W:World) (d:α) (mx:View) (vs:List Value) (B:Nat->Prop),I k D W->R<W.heap.size->(∃o,W.heap[R]? = some (.loop o))->MkAt r w.heap.size W->L[k]? = some d->mx.on W->(∀b o,mx b=some o->(∃c t f,o=.cells c t f)/\(m b=some o\/(w.heap.size<=b/\¬D b)))->args d mx vs->lent d W vs B->(∀b,B b->R<b/\b<W.heap.size/\¬D b/\mx b=none) ->
   assign.wpIn (fz (some R)) 0 P (Exit.then (λa1 W1=>Kept (λb=>D b\/B b) W W1/\(∀b,w.heap.size<=b->b<=R->W1.heap[b]? = W.heap[b]?) /\
    ∀o,body.wpIn (fz (some R)) 0 P (λe _ W3=>x4h w.heap.size R D B (λW=>lent d W vs B) m mx W (W1.putObj R (.loop o)) (I (k+1)) Ix e W3) a1 (W1.putObj R (.loop o))) (λ_ _ _=>False))
    {tmps:=(ps.zip vs.toArray).foldl (λt (p,v)=>t.setIfInBounds p v) a.tmps,defers:=[] } W)
  (hdone:∀D W,I L.length D W->MkAt r w.heap.size W->Q .normal { a with defers:=mkD r w.heap.size++a.defers } W)
  (hstop:∀c D W,Ix c D W->MkAt r w.heap.size W->c.wpIn (fz r) n P Q { a with defers:=mkD r w.heap.size++a.defers } W) :
  (Code.rangeFunc g ps assign body).wpIn (fz r) n P Q a w:=by
 refine wpIn_rangeFunc ?_
 intro fn hfn
 obtain⟨r1,r2,r3⟩:=hRL.le
 obtain⟨δ,W1,rec,hrec,hrun,hL1,hK1,hB1,hsz⟩:∃(δ:Nat) (W1:World) (rec:LoopState->Option Code->Loop),(rec=λst pe=>{ state:=st,pending:=pe,fn,tmps:=a.tmps,params:=ps,assign,body,defers:=δ }) /\
   (Instr.enterLoop fn a.tmps ps assign body r).run P w=.ok (R,mkD r w.heap.size) W1/\W1.heap[R]? = some (.loop (rec .ready none))/\MkAt r w.heap.size W1/\Below w.heap.size w W1/\W1.heap.size=R+1:=by
  cases r with
  | none=>
   obtain rfl:R=w.heap.size+1:=hRL
   refine⟨w.heap.size,(w.alloc (.deferred (some []))).alloc (.loop { state:=.ready,pending:=none,fn,tmps:=a.tmps,params:=ps,assign,body,defers:=w.heap.size }),_,rfl,run_enterLoop_outer _ _ _ _ _,?_,?_,?_,by simp⟩
   ·grind [World.alloc_heap_new,World.size_alloc]
   ·exact(Below.heap_alloc _ _ _ (by simp)).trans (World.alloc_heap_new w _)
   ·exact((zc0 _ w).alloc (zad _) _).alloc (by simp) _
  | some l=>
   obtain⟨rfl,o,ho⟩:=hRL
   exact⟨o.defers,w.alloc (.loop { state:=.ready,pending:=none,fn,tmps:=a.tmps,params:=ps,assign,body,defers:=o.defers }),_,rfl,wv9 ho _ _ _ _ _,World.alloc_heap_new w _,trivial,(zc0 _ w).alloc (zad _) _,by simp⟩
 have hS1:Same D0 w W1:=⟨hB1.os,hB1.tape,hB1.output,hB1.size,λb hb=>hB1.block b ((hIb _ _ _ h0).1 b hb)⟩
 -- what the function is told of its caller
 let Dl:(Nat->Prop)->Nat->Prop:=λD b=>D b\/(w.heap.size<=b/\b<=R)
 let J:Nat->(Nat->Prop)->World->Prop:=λk E W=>∃D,(∀b,E b↔Dl D b)/\I k D W/\W.heap[R]? = some (.loop (rec .ready none))/\MkAt r w.heap.size W
 let Jx:(Nat->Prop)->World->Prop:=λE W=>∃D c,(∀b,E b↔Dl D b)/\Ix c D W/\W.heap[R]? = some (.loop (rec .done (some c)))/\MkAt r w.heap.size W
 have lt1:∀{W:World} {o:Obj},W.heap[R]? = some o->R<W.heap.size:=λh=>(zal.1 h).1
 refine⟨R,mkD r w.heap.size,W1,{ target:=.fn (.func gf) lb,args:=#[.func (.yield R) #[] #[]] },W1,gf,
  #[.func (.yield R) #[] #[]]++lb,W1,?_,?_,(λ_ _=>trivial),?_,(λh=>by cases h),?_⟩
 ·exact hrun
 ·simp only[resolve,hg]
  simp[go_sem]
 ·grind [wj9,invoke]
 ·have hc:=hsay R J Jx W1 (Dl D0) ?_ ?_ ?_ ?_ ?_ (View.on_below hm hB1) ⟨D0,λ_=>zd5,hIs _ _ _ _ h0 hS1,hL1,hK1⟩
  ·have hc2:CallsIn (fz none) (n-1) P gf (#[.func (.yield R) #[] #[]]++lb) W1 _:=w0w (callsIn_wide.1 hc) none (n-1)
   refine hc2.mono ?_
   rintro e W2 ⟨⟨v,rfl⟩,(⟨E,D,hE,hi,hl,hk⟩ | ⟨E,D,c,hE,hi,hl,hk⟩)⟩
   ·refine⟨none,_,by have:=run_endLoop (P:=P) hl (by rw[hrec]; simp); rw[hrec] at this; exact this,hdone D _ (hIs _ _ _ _ hi ?_) (hk.to λe=>World.putObj_heap_other (by grind))⟩
    exact Same.of_grown (grownBy_putObj' _ _ _) (hIb _ _ _ hi).1 (λr e=>by grind)
   ·refine⟨some c,_,by have:=run_endLoop (P:=P) hl (by rw[hrec]; simp); rw[hrec] at this; exact this,hstop c D _ (hIxs _ _ _ _ hi ?_) (hk.to λe=>World.putObj_heap_other (by have:=r3 e; omega))⟩
    refine⟨rfl,rfl,rfl,by simp,λb hb=>World.putObj_heap_other (λe=>?_)⟩
    grind
  ·rintro k E W W' ⟨D,hE,hi,hl,hk⟩ hs
   exact⟨D,hE,hIs _ _ _ _ hi (hs.mono λb hb=>(hE b).2 (.inl hb)),(hs.block _ ((hE _).2 (.inr ⟨r1,zad _⟩))).trans hl,hk.to λ_=>hs.block _ ((hE _).2 (.inr ⟨zad _,r1⟩))⟩
  ·rintro E W W' ⟨D,c,hE,hi,hl,hk⟩ hs
   exact⟨D,c,hE,hIxs _ _ _ _ hi (hs.mono λb hb=>(hE b).2 (.inl hb)),(hs.block _ ((hE _).2 (.inr ⟨r1,zad _⟩))).trans hl,hk.to λ_=>hs.block _ ((hE _).2 (.inr ⟨zad _,r1⟩))⟩
  ·rintro k E W ⟨D,hE,hi,hl,hk⟩ b hb
   have:=lt1 hl
   rcases(hE b).1 hb with h | h
   ·exact(hIb _ _ _ hi).1 b h
   ·omega
  ·rintro E W ⟨D,c,hE,hi,hl,hk⟩ b hb
   have:=lt1 hl
   rcases(hE b).1 hb with h | h
   ·exact(hIxb _ _ _ hi).1 b h
   ·omega
  ·-- one round
   rintro k E W d mx vs B ⟨D,hE,hi,hl,hk⟩ hd hmx hmd hargs hlent hB
   have hB0:∀b,B b->R<b/\b<W.heap.size/\¬D b/\mx b=none:=λb hb=>by
    grind
   have hlt:=lt1 hl
   have hy:=run_yield (P:=P) (args:=vs.toArray) hl (by grind)
   rw[hrec] at hy
   refine⟨fn,_,assign,body,hy,roundIn_of_wpIn (F:=Fence.wide) (n:=0) trivial ?_⟩
   have hr:=hround k D W d mx vs B hi hlt ⟨_,hl⟩ hk hd hmx (λb o hb=>⟨(hmd b o hb).1,(hmd b o hb).2.imp id λ⟨q1,q2⟩=>⟨ow,λq=>q2 ((hE b).2 (.inl q))⟩⟩) hargs hlent hB0
   refine wpIn_mono hr ?_
   intro e a1 W2 hp
   cases e with
   | normal=>
    obtain⟨hkp,hd2,hbody⟩:=hp
    have hl2':=(hd2 R r1 (zad _)).trans hl
    refine⟨_,run_beginRound hl2' (by rw[hrec]),wpIn_mono (hbody { rec .ready none with state:=.busy }) ?_⟩
    rintro e a3 W3 ⟨q1,q6,q2,q4,q5⟩
    have hlt2:=lt1 hl2'
    have hb3:W3.heap[R]? = some (.loop { rec .ready none with state:=.busy }):=(q2 R r1 (zad _)).trans (World.putObj_heap_same hlt2)
    have hd3:MkAt r w.heap.size W3:=hk.to λe=>(q2 _ (zad _) r1).trans ((World.putObj_heap_other (by have:=r3 e; omega)).trans (hd2 _ (zad _) r1))
    have hall:Kept (λb=>E b\/B b) W W3:=by
     have k1:Same (λb=>b<W.heap.size/\¬(E b\/B b)) W W2:=hkp.mono λb ⟨x,y⟩=>⟨x,λhh=>y (hh.imp (λhh=>(hE b).2 (.inl hh)) id)⟩
     refine⟨(q1.os).trans k1.os,q1.tape.trans k1.tape,q1.output.trans k1.output,zah k1.size (by have:=q1.size; grind [World.putObj]),λb hb=>?_⟩
     have hb1:=k1.block b hb
     obtain⟨x,y⟩:=hb
     have hne:b≠R:=λe=>y (.inl ((hE b).2 (.inr ⟨ow,ow⟩)))
     have hb2:(W2.putObj R (.loop { rec .ready none with state:=.busy })).heap[b]? = W.heap[b]?:=(World.putObj_heap_other hne).trans hb1
     exact(q1.block b ⟨x,λhh=>y (hh.imp (λhh=>(hE b).2 (.inl hh)) id)⟩).trans hb2
    have fin:∀(jump:Option Code),(Instr.endRound R jump).run P W3=.ok (.bool jump.isNone) (W3.putObj R (.loop (rec (if jump.isNone then .ready else .done) jump))):=λjump=>by
     have:=run_endRound (P:=P) jump hb3
     grind
    have hlt3:=lt1 hb3
    have lnt:∀o,lent d (W3.putObj R o) vs B:=λo=>hls _ _ _ _ _ q6 λb hb=>World.putObj_heap_other (by grind)
    have kp:∀o,Kept (λb=>E b\/B b) W (W3.putObj R o):=λo=>⟨hall.os,hall.tape,hall.output,by have:=hall.size; grind [World.putObj],λb hb=>by
     have hne:b≠R:=λe=>hb.2 (.inl ((hE b).2 (.inr ⟨ow,ow⟩)))
     exact(World.putObj_heap_other hne).trans (hall.block b hb)⟩
    have mon:∀o,m.on (W3.putObj R o):=λo b ob hb=>by
     have h1:=View.on_below hm hB1 b ob hb
     have hne:b≠R:=λe=>by
      grind [View.lt]
     exact(World.putObj_heap_other hne).trans (q4 b ob hb)
    have sm:∀(D':Nat->Prop) o,¬D' R->Same D' W3 (W3.putObj R o):=λD' o hD=>⟨rfl,rfl,rfl,by simp,λb hb=>World.putObj_heap_other (λe=>hD (e ▸ hb))⟩
    have dd:∀o,MkAt r w.heap.size (W3.putObj R o):=λo=>hd3.to λe=>World.putObj_heap_other (by have:=r3 e; omega)
    have up:∀D':Nat->Prop,(∀b,D' b->D b\/W.heap.size<=b\/mx b≠none)->∀b,Dl D' b->E b\/W.heap.size<=b\/mx b≠none:=λD' hD' b hb=>by
     grind
    have upx:∀D':Nat->Prop,(∀b,D' b->D b\/W.heap.size<=b\/mx b≠none\/B b)->∀b,Dl D' b->E b\/W.heap.size<=b\/mx b≠none\/B b:=λD' hD' b hb=>by
     rcases hb with h | h
     ·rcases hD' b h with h | h
      ·exact .inl ((hE b).2 (.inl h))
      ·exact .inr h
     ·exact .inl ((hE b).2 (.inr h))
    cases e with
    | normal=>
     obtain⟨D',hD',hi'⟩:=q5
     exact⟨_,_,fin none,kp _,mon _,lnt _,.inl ⟨rfl,Dl D',up D' hD',D',λ_=>zd5,hIs _ _ _ _ hi' (sm D' _ ((hIb _ _ _ hi').2 R r1 (zad _))),World.putObj_heap_same hlt3,dd _⟩⟩
    | ret=>
     obtain⟨D',hD',hi'⟩:=q5
     exact⟨_,_,fin (some .ret),kp _,mon _,lnt _,.inr ⟨rfl,Dl D',upx D' hD',D',.ret,λ_=>zd5,hIxs _ _ _ _ hi' (sm D' _ ((hIxb _ _ _ hi').2 R r1 (zad _))),World.putObj_heap_same hlt3,dd _⟩⟩
    | exit id=>
     obtain⟨D',hD',hi'⟩:=q5
     exact⟨_,_,fin (some (.exit id)),kp _,mon _,lnt _,.inr ⟨rfl,Dl D',upx D' hD',D',.exit id,λ_=>zd5,hIxs _ _ _ _ hi' (sm D' _ ((hIxb _ _ _ hi').2 R r1 (zad _))),World.putObj_heap_same hlt3,dd _⟩⟩
    | goto t=>exact q5.elim
    | panic ch=>exact q5.elim
    | outgrown=>exact q5.elim
   | _=>exact hp.elim
theorem w7n {P:Program} {gf:Nat} {lb:Array Value} {m:View} {α:Type} {args:α->View->List Value->Prop} {lent:α->World->List Value->(Nat->Prop)->Prop} {L:List α} {g:Operand} {ps:Array Tmp} {assign body:Code} {Q:Exit->Act->World->Prop} {a:Act} {w:World} {n:Nat}
  (hg:a.eval g=.func (.func gf) #[] lb) (hcall:ql2 P gf) (hsay:x0j P gf lb m args lent L) (hls:∀d W W' vs B,lent d W vs B->(∀b,B b->W'.heap[b]? = W.heap[b]?)->lent d W' vs B) (hlen:∀d mx vs,args d mx vs->vs.length=ps.size)
  (I:Nat->(Nat->Prop)->World->Prop) (Ix:Code->(Nat->Prop)->World->Prop)
  (hIs:∀k D W W',I k D W->Same D W W'->I k D W') (hIxs:∀c D W W',Ix c D W->Same D W W'->Ix c D W') (hIb:∀k D W,I k D W->(∀b,D b->b<W.heap.size)/\¬D w.heap.size/\¬D (w.heap.size+1)) (hIxb:∀c D W,Ix c D W->(∀b,D b->b<W.heap.size)/\¬D w.heap.size/\¬D (w.heap.size+1))
  (hm:m.on w) (D0:Nat->Prop) (h0:I 0 D0 w)
  (hround:∀(k:Nat) (D:Nat->Prop) (W:World) (d:α) (mx:View) (vs:List Value) (B:Nat->Prop),I k D W->w.heap.size+1<W.heap.size->(∃r,W.heap[w.heap.size+1]? = some (.loop r))->W.heap[w.heap.size]? = some (.deferred (some []))->L[k]? = some d->mx.on W->(∀b o,mx b=some o->(∃c t f,o=.cells c t f)/\(m b=some o\/(w.heap.size<=b/\¬D b)))->args d mx vs->lent d W vs B->(∀b,B b->w.heap.size+1<b/\b<W.heap.size/\¬D b/\mx b=none) ->
   assign.wpIn (fz (some (w.heap.size+1))) 0 P (Exit.then (λa1 W1=>Kept (λb=>D b\/B b) W W1/\W1.heap[w.heap.size]? = W.heap[w.heap.size]?/\W1.heap[w.heap.size+1]? = W.heap[w.heap.size+1]? /\
    ∀o,body.wpIn (fz (some (w.heap.size+1))) 0 P (λe _ W3=>x7g w.heap.size D B (λW=>lent d W vs B) m mx W (W1.putObj (w.heap.size+1) (.loop o)) (I (k+1)) Ix e W3) a1 (W1.putObj (w.heap.size+1) (.loop o))) (λ_ _ _=>False))
    {tmps:=(ps.zip vs.toArray).foldl (λt (p,v)=>t.setIfInBounds p v) a.tmps,defers:=[] } W)
  (hdone:∀D W,I L.length D W->W.heap[w.heap.size]? = some (.deferred (some []))->Q .normal { a with defers:={ target:=.collected w.heap.size,args:=#[] } :: a.defers } W)
  (hstop:∀c D W,Ix c D W->W.heap[w.heap.size]? = some (.deferred (some []))->c.wpIn (fz none) n P Q { a with defers:={ target:=.collected w.heap.size,args:=#[] } :: a.defers } W) :
  (Code.rangeFunc g ps assign body).wpIn (fz none) n P Q a w:=by
 refine q86 (r:=none) (R:=w.heap.size+1) rfl hg hcall hsay hls hlen I Ix hIs hIxs (λk D W h=>⟨(hIb k D W h).1,λb h1 h2 hD=>?_⟩) (λc D W h=>⟨(hIxb c D W h).1,λb h1 h2 hD=>?_⟩) hm D0 h0 ?_ hdone hstop
 ·grind
 ·grind
 ·intro k D W d mx vs B h1 h2 h3 h4 h5 h6 h7 h8 h9 h10
  have two:∀{X Y:World},X.heap[w.heap.size]? = Y.heap[w.heap.size]?->X.heap[w.heap.size+1]? = Y.heap[w.heap.size+1]?->∀b,w.heap.size<=b->b<=w.heap.size+1->X.heap[b]? = Y.heap[b]?:=λ{X Y} e1 e2 b q1 q2=>by
   grind
  refine wpIn_mono (hround k D W d mx vs B h1 h2 h3 h4 h5 h6 h7 h8 h9 h10) ?_
  intro e a1 W1 hp
  cases e with
  | normal=>
   obtain⟨k1,k2,k3,k4⟩:=hp
   refine⟨k1,two k2 k3,λo=>wpIn_mono (k4 o) ?_⟩
   rintro e a3 W3 ⟨q1,q2,q3,q4,q5,q6⟩
   exact⟨q1,q2,two q3 q4,q5,q6⟩
  | _=>exact hp
end Eng
set_option linter.unusedVariables false
set_option linter.unusedSimpArgs false
namespace Eng
open Go Go.RowKit
def Cells (m:View):Prop:=∀b o,m b=some o->∃c t f,o=.cells c t f
theorem Cells.of {m:View}:Cells m.cells:=λb o h=>View.cells_is h
theorem Cells.nil:Cells (λ_=>none):=λb o h=>by cases h
theorem Cells.le_cells {m0 m:View} (h:Cells m0) (hl:m0.le m):m0.le m.cells:=λb o hb=>by
 obtain⟨c,t,f,e⟩:=h b o hb
 have h2:=hl b o hb
 grind [View.cells]
theorem Cells.eq {m:View} (h:Cells m):m.cells=m:=by
 funext b
 unfold View.cells
 cases hb:m b with
 | none=>rfl
 | some o=>obtain⟨c,t,f,rfl⟩:=h b o hb; rfl
def Own (mem:List AObj) (ρ:List Value) (b:Nat):Prop:=∃g v,(qa1 mem g).live=true/\ρ[g]? = some v/\Blk v b
def qh3 (ds:List Deferred) (b:Nat):Prop:=∃d∈ds,d.target=.collected b
def w08 (w0:Base) (m:View) (mem:List AObj) (ρ:List Value) (ds:List Deferred) (b:Nat):Prop:=m b≠none\/w0.F b\/Own mem ρ b\/qh3 ds b
section
variable {P : Program} {w0 : Base} {m0 : View} {s : St} {m : View} {ρ : List Value} {a : Act} {w : World}
theorem Marks.get {Z:Base} {W:World} {ds:List Deferred} (h:Marks Z W ds) {b:Nat} (hb:qh3 ds b):Z.n<=b/\¬Z.F b/\W.heap[b]? = some (.deferred (some [])):=by
 induction ds with
 | nil=>obtain⟨d,hd,_⟩:=hb; grind
 | cons e ds ih=>
  obtain⟨⟨D,h1,h2,h3,h4,_⟩,h5⟩:=h
  obtain⟨d,hd,hb⟩:=hb
  rcases zao.1 hd with rfl | hd
  ·grind
  ·exact ih h5 ⟨d,hd,hb⟩
theorem Rel.own (h:Rel P w0 m0 s m ρ a w) {b:Nat} (hb:Own s.mem ρ b):w0.n<=b/\b<w.heap.size/\m b=none/\¬w0.F b/\∃o,w.heap[b]? = some o/\x6w o:=by
 obtain⟨g,v,h1,h2,h3⟩:=hb
 obtain⟨u,j1,j2⟩:=(h.objs g).blk_lt h1
 rw[h2] at j1; obtain rfl:=zaa j1
 obtain⟨u,i1,i2⟩:=(h.objs g).blk_cells h1
 rw[h2] at i1; obtain rfl:=zaa i1
 exact⟨(j2 b h3).1,(j2 b h3).2.1,(j2 b h3).2.2,h.zone g v b h1 h2 h3,i2 b h3⟩
theorem Rel.deps (h:Rel P w0 m0 s m ρ a w) {b:Nat} (hb:w08 w0 m s.mem ρ a.defers b):b<w.heap.size:=by
 rcases hb with hb | hb | hb | hb
 ·cases hm:m b with
  | none=>grind
  | some o=>exact View.lt h.view hm
 ·exact za7 (h.below.kept b hb).1 h.below.grows
 ·exact(h.own hb).2.1
 ·exact(zal.1 (h.defers.get hb).2.2).1
theorem Rel.same {D:Nat->Prop} {w':World} (h:Rel P w0 m0 s m ρ a w) (hs:Same D w w') (hd:∀b,w08 w0 m s.mem ρ a.defers b->D b):Rel P w0 m0 s m ρ a w':=by
 have blkD:∀b,w08 w0 m s.mem ρ a.defers b->w'.heap[b]? = w.heap[b]?:=λb hb=>hs.block b (hd b hb)
 refine⟨h.slots,h.len,h.hdr,h.defers.turn λD hD e=>(blkD D (.inr (.inr (.inr hD)))).trans e,λg=>?_,h.apart,λb o hb=>(blkD b (.inl (by grind))).trans (h.view b o hb),h.ext,h.new,?_,h.zone,h.pins⟩
 ·cases hl:(qa1 s.mem g).live with
  | false=>exact qv8 hl
  | true=>
   refine(h.objs g).grow (View.le_refl m) (λ_ _ h _=>h) λu b hu hb=>?_
   have ho:Own s.mem ρ b:=⟨g,u,hl,hu,hb⟩
   exact⟨blkD b (.inr (.inr (.inl ho))),(h.own ho).2.2.1⟩
 ·exact⟨hs.os.trans h.below.os,hs.tape.trans h.below.tape,hs.output.trans h.below.output,zah h.below.grows hs.size,λb hb=>⟨(h.below.kept b hb).1,(blkD b (.inr (.inl hb))).trans (h.below.kept b hb).2⟩⟩
theorem Rel.act (h:Rel P w0 m0 s m ρ a w) {ov:List (Nat × AV)} {base:Nat->AV} {a':Act} (hsl:∀i,(St.get ⟨ov,base,s.mem⟩ i).ok P m ρ [a'.tmps.getD i undef]) (hds:Marks w0 w a'.defers):Rel P w0 m0 ⟨ov,base,s.mem⟩ m ρ a' w:=
 ⟨hsl,h.len,h.hdr,hds,h.objs,h.apart,h.view,h.ext,h.new,h.below,h.zone,h.pins⟩
theorem q87 {m m':View} {ρ ρ':List Value} (hm:m.le m') (hp:∀(g:Nat) p,ρ[g]? = some (Value.pointer p)->ρ'[g]? = some (Value.pointer p)) {av:AV}:∀{vs:List Value},av.strip.ok P m ρ vs->av.strip.ok P m' ρ' vs:=by
 induction av with
 | any=>intro vs k; exact k
 | lit v=>intro vs k; exact k
 | tt=>intro vs k; exact k
 | ff=>intro vs k; exact k
 | dat t l=>intro vs k; exact Rd.le hm k
 | ndat c t l=>intro vs k; exact⟨Rd.le hm k.1,k.2⟩
 | own h=>intro vs k; exact k
 | box h off=>intro vs k; obtain⟨b,k1,k2⟩:=k; exact⟨b,hp _ _ k1,k2⟩
 | dptr t l i off=>intro vs k; obtain⟨h0,ad,cs,k1,k2,k3⟩:=k; exact⟨h0,ad,cs,k1,Rd.le hm k2,λj v hj=>View.cell_le hm (k3 j v hj)⟩
 | optr h t i off=>intro vs k; exact k
 | msl g j=>intro vs k; exact k
 | mptr g j t i off=>intro vs k; exact k
 | msub g x y=>intro vs k; exact k
 | imm cs off ih=>intro vs k; obtain⟨ad,us,k1,k2,k3⟩:=k; exact⟨ad,us,k1,ih k2,λj v hj=>View.cell_le hm (k3 j v hj)⟩
 | fn a r p f=>intro vs k; obtain⟨fv,k1,k2⟩:=k; exact⟨fv,k1,k2.le hm.cle⟩
 | clo f caps ih=>intro vs k; obtain⟨cs,k1,k2⟩:=k; exact⟨cs,k1,ih k2⟩
 | agg l ih=>intro vs k; obtain⟨cs,k1,k2⟩:=k; exact⟨cs,k1,ih k2⟩
 | tup l ih=>intro vs k; obtain⟨cs,k1,k2⟩:=k; exact⟨cs,k1,ih k2⟩
 | nil=>intro vs k; exact k
 | cons a b iha ihb=>intro vs k; obtain⟨v,rest,k1,k2,k3⟩:=k; exact⟨v,rest,k1,iha k2,ihb k3⟩
def wl2 (n:Nat) (W:World) (mem:List AObj) (ρ:List Value) (ds:List Deferred) (R:List Value) (h:n<=W.heap.size):Base:=⟨n,W,λb=>b<W.heap.size/\¬Own mem ρ b/\¬qh3 ds b,h,R⟩
theorem Rel.enter (h:Rel P w0 m0 s m ρ a w) {m1:View} {w':World} (hg:w.heap.size<=w'.heap.size) (hle:m.le m1) (hon:m1.on w') (hown:∀b,Own s.mem ρ b->m1 b=none) {a':Act} (ht:a'.tmps=a.tmps) (hds:∀b,qh3 a'.defers b->qh3 a.defers b) (hmk:Marks w0 w a'.defers)
  (hw:∀b,Own s.mem ρ b\/qh3 a'.defers b->w'.heap[b]? = w.heap[b]?) (R:List Value) (hR:∀(g:Nat) v,R[g]? = some v->w5z v=true->ρ[g]? = some v) :
  Rel P (wl2 w0.n w' s.mem ρ a'.defers R (zah h.below.size hg)) m1 s m1 ρ a' w':=by
 refine⟨λi=>AV.ok_le hle (λ_ _ h _=>h) (by rw[ht]; exact h.slots i),h.len,h.hdr,?_,λg=>?_,h.apart,hon,View.le_refl m1,λb o hb=>.inl hb,⟨rfl,rfl,rfl,zad _,λb hb=>⟨hb.1,rfl⟩⟩,λg v b h1 h2 h3 hF=>hF.2.1 ⟨g,v,h1,h2,h3⟩,hR⟩
 ·have key:∀ds:List Deferred,(∀b,qh3 ds b->qh3 a'.defers b)->Marks w0 w ds->Marks (wl2 w0.n w' s.mem ρ a'.defers R (zah h.below.size hg)) w' ds:=by
   intro ds
   induction ds with
   | nil=>intro _ _; trivial
   | cons d ds ih=>
    rintro hsub ⟨⟨D,h1,h2,h3,h4,h5⟩,h6⟩
    have hD:qh3 a'.defers D:=hsub D ⟨d,by simp,h1⟩
    exact⟨⟨D,h1,h2,λhF=>hF.2.2 hD,(hw D (.inr hD)).trans h4,h5⟩,ih (λb ⟨e,he,hb⟩=>hsub b ⟨e,by grind,hb⟩) h6⟩
  grind
 ·cases hl:(qa1 s.mem g).live with
  | false=>exact qv8 hl
  | true=>
   refine(h.objs g).grow hle (λ_ _ h _=>h) λu b hu hb=>?_
   grind [Own]
theorem Rel.leave {Z:Base} {m2 m3:View} {s3:St} {ρ3:List Value} {W3:World} {L:Nat->Prop} (h:Rel P w0 m0 s m ρ a w) (h3:Rel P Z m2 s3 m3 ρ3 { a with defers:=[] } W3) (hz:Z.n=w0.n) (nF:∀b,¬Z.F b->¬w0.F b)
  (hm2:∀b o,m2 b=some o->m b=some o\/(w0.n<=b/\¬w0.F b)) (hext:m.le m2) (hS:Same (λb=>b<w.heap.size/\¬Own s.mem ρ b/\¬L b) w W3) (hL:∀b,L b->¬w08 w0 m s.mem ρ a.defers b) (hpin:Z.ρ=ρ):Rel P w0 m0 s3 m3 ρ3 a W3:=by
 refine⟨h3.slots,h3.len,h3.hdr,h.defers.turn λD hD e=>?_,λg=>by rw[<- hz]; exact h3.objs g,h3.apart,h3.view,View.le_trans h.ext (View.le_trans hext h3.ext),λb o hb=>?_,?_,λg v b h1 h2 h4=>nF b (h3.zone g v b h1 h2 h4),λg p hp hv=>h3.pins g p (by rw[hpin]; exact h.pins g p hp hv) hv⟩
 ·refine(hS.block D ⟨(zal.1 e).1,λho=>?_,λe=>hL D e (.inr (.inr (.inr hD)))⟩).trans e
  obtain⟨o',hc,ho'⟩:=(h.own ho).2.2.2.2
  rw[e] at hc; obtain rfl:=zaa hc; exact ho'
 ·rcases h3.new b o hb with k | ⟨k1,k2⟩
  ·rcases hm2 b o k with k | k
   ·exact h.new b o k
   grind
  grind
 ·refine⟨hS.os.trans h.below.os,hS.tape.trans h.below.tape,hS.output.trans h.below.output,zah h.below.grows hS.size,λb hb=>⟨(h.below.kept b hb).1,(hS.block b ⟨?_,λho=>?_,λe=>?_⟩).trans (h.below.kept b hb).2⟩⟩
  ·exact za7 (h.below.kept b hb).1 h.below.grows
  ·exact(h.own ho).2.2.2.1 hb
  ·exact hL b e (.inr (.inl hb))
theorem Rel.rebase {Z Z':Base} (h:Rel P Z m0 s m ρ a w) (hn:Z'.n=Z.n) (hρ:Z'.ρ=Z.ρ) (hok:Z'.ok w) (hF:∀b,Z'.F b->Z.F b\/(m b=none/\¬Own s.mem ρ b/\¬qh3 a.defers b)):Rel P Z' m0 s m ρ a w:=by
 have hmk:∀ds:List Deferred,(∀b,qh3 ds b->qh3 a.defers b)->Marks Z w ds->Marks Z' w ds:=by
  intro ds
  induction ds with
  | nil=>intro _ _; trivial
  | cons d ds ih=>
   rintro hsub ⟨⟨D,h1,h2,h3,h4,h5⟩,h6⟩
   exact⟨⟨D,h1,ow,λhf=>(hF D hf).elim h3 λq=>q.2.2 (hsub D ⟨d,by simp,h1⟩),h4,h5⟩,ih (λb ⟨e,he,hb⟩=>hsub b ⟨e,by grind,hb⟩) h6⟩
 refine⟨h.slots,h.len,h.hdr,hmk _ (λ_ h=>h) h.defers,λg=>by rw[hn]; exact h.objs g,h.apart,h.view,h.ext,λb o hb=>?_,hok,λg v b h1 h2 h3 hf=>?_,λg v hv hp=>h.pins g v (by grind) hp⟩
 ·rcases h.new b o hb with k | ⟨k1,k2⟩
  all_goals grind
 ·exact(hF b hf).elim (h.zone g v b h1 h2 h3) λq=>q.2.1 ⟨g,v,h1,h2,h3⟩
theorem wb5 {N:Frm} {K:St->Prop}:∀(ps:List Nat) (v:AV) (vs:List Value) (s:St) (a:Act),N.has a->(∀p∈ps,N.may p)->w3e ps v s K->Rel P w0 m0 s m ρ a w->v.ok P m ρ vs->∃s',K s'/\s'.mem=s.mem/\vs.length=ps.length /\
  ∃t,t=(ps.zip vs).foldl (λt (p,v)=>t.setIfInBounds p v) a.tmps/\N.has { a with tmps:=t }/\Rel P w0 m0 s' m ρ { a with tmps:=t } w
 | [],v,vs,s,a,hN,hp,h,hr,hv=>by
  simp only[w3e] at h
  split at h
  ·obtain rfl:vs=[]:=hv
   exact⟨s,h,rfl,rfl,_,rfl,hN,hr⟩
  grind
 | p :: ps,v,vs,s,a,hN,hp,h,hr,hv=>by
  simp only[w3e] at h
  split at h
  ·rename_i x xs
   obtain⟨u,us,rfl,h1,h2⟩:=hv
   obtain⟨ov,base,mem⟩:=s
   simp only[qv6] at h
   have hr2:Rel P w0 m0 ⟨(p,x) :: ov,base,mem⟩ m ρ (a.put (some p) u) w:=hr.put (d:=some p) h1 (λi e=>by cases e; rw[hN.1]; exact(hp p (by simp)).1)
   obtain⟨s',k1,k2,k3,t,k4,k5,k6⟩:=wb5 ps xs us ⟨(p,x) :: ov,base,mem⟩ (a.put (some p) u) (Frm.put hN λi e=>by grind) (λq hq=>hp q (by grind)) h hr2 h2
   exact⟨s',k1,k2,by grind,t,k4,k5,k6⟩
  grind
theorem same_eq {a b:Nat} {p:Prop} (h:same a b p):a=b/\p:=by
 grind [same,Nat.eq_of_beq_eq_true]
def Lnt (o:Option Nat) (T:q2v) (vs:List Value):Prop:=match o with
 | .none=>True
 | some _=>∃v,vs=[v]/\T.hs=[.slice none 0 0,v]
theorem w7o {Z:Base} {N:Frm} {K:q2v->St->Prop} {o:Option Nat} {ts:List Ty} {d:qa3 ts} {ps:List Nat} {vs:List Value} {B:Nat->Prop} (hr:Rel P Z m0 s m ρ a w) (hN:N.has a) (hp:∀p∈ps,N.may p) (h:w3f o ps (qg2 ts d) s K)
  (hargs:qq1 o ts d m vs) (hl:qh8 o ts d w vs B) (hB:∀b,B b->Z.n<=b/\¬Z.F b/\m b=none/\¬Own s.mem ρ b) :
  ∃T s' ρ',K T s'/\Lnt o T vs/\vs.length=ps.length/\(∀(g:Nat) (v:Value),ρ[g]? = some v->ρ'[g]? = some v)/\(∀b,Own s'.mem ρ' b->Own s.mem ρ b\/B b) /\
   ∃t,t=(ps.zip vs).foldl (λt (p,v)=>t.setIfInBounds p v) a.tmps/\N.has { a with tmps:=t }/\Rel P Z m0 s' m ρ' { a with tmps:=t } w:=by
 cases o with
 | none=>
  obtain⟨s',k1,k2,k3,t,k4,k5,k6⟩:=wb5 ps (qg2 ts d) vs s a hN hp h hr (qz8 hargs).1
  exact⟨_,s',ρ,k1,trivial,k3,λ_ _ h=>h,λb hb=>.inl (by grind),t,k4,k5,k6⟩
 | some e=>
  have hl:qu7 e ts d _ vs B:=hl
  unfold qu7 at hl
  split at hl
  case h_2=>grind
  rename_i t d' _
  obtain⟨v,xs,rfl,hf,hrd,ho,hb⟩:=hl
  obtain⟨ov,base,mem⟩:=s
  simp only[w3f,qg2,q8k] at h
  split at h
  case h_2=>grind
  rename_i p x z he
  obtain⟨hx,hz⟩:=AV.cons.inj he
  subst hx hz
  simp only[hf,qm9,qo3] at h
  have hT:=h ⟨[.slice none 0 0,v]⟩
  have hlen:ρ.length=mem.length:=hr.len
  have hat:=qh0 (s:=⟨ov,base,mem⟩) (nm:=mem.length) hr.len (.inl rfl) (qf7 [.slice none 0 0,v])
  have ho':w.ownsRow Z.n e t.size v d'.1.length xs:=by
   refine⟨ho.1,?_⟩
   rcases ho.2 with q | ⟨g',cap,cur,rfl,x2,x3⟩
   ·grind
   ·exact .inr ⟨g',cap,cur,rfl,(hB g' ((hb g').2 rfl)).1,x3⟩
  have hblk:∀b,Blk (qf7 [.slice none 0 0,v]) b->B b:=λb hbb=>by
   obtain⟨u,hu,hub⟩:=qd7.1 hbb
   simp only[List.mem_cons,List.not_mem_nil,or_false] at hu
   rcases hu with rfl | rfl
   all_goals grind [blk,qh6]
  have hpool:PoolOk m w Z.n e e t [d'.1] (some []) [.slice none 0 0,v]:=by
   refine⟨rfl,⟨[],⟨rfl,.inl ⟨rfl,rfl⟩⟩,λi p hip=>by grind [ixL]⟩,λp hp=>?_,λi j u u' b hij hi hj hbi hbj=>?_,λu b hu hbb=>?_⟩
   ·have hp:p<1:=hp
    obtain rfl:p=0:=ow
    exact⟨xs,qi6 hf hrd,ho'⟩
   all_goals grind [blk,trans,qd7]
  have hr2:=hr.addObjG (nm:=mem.length) (o:=.mat e e t [d'.1] (some []) (some ⟨[.slice none 0 0,v]⟩)) (v:=qf7 [.slice none 0 0,v]) (.inl rfl) ⟨_,hat,hpool,λT e=>by grind⟩
   (λb hbb=>⟨(hB b (hblk b hbb)).2.1,λg u h1 h2 h3=>(hB b (hblk b hbb)).2.2.2 ⟨g,u,h1,h2,h3⟩⟩) rfl
  obtain⟨s',k1,k2,k3,t',k4,k5,k6⟩:=wb5 [p] (.cons (.msl mem.length (some 0)) .nil) [v] _ a hN hp (K:=K ⟨[.slice none 0 0,v]⟩) (by simp only[w3e,fAV]; exact hT) hr2 ⟨v,[],rfl,⟨_,v,hat,⟨rfl,q1y ho⟩,rfl⟩,rfl⟩
  have hold:∀(g:Nat) (u:Value),ρ[g]? = some u->(nput ρ mem.length (qf7 [.slice none 0 0,v]))[g]? = some u:=λg u hg=>by
   have h1:=(zaf.1 hg).1
   rw[qx5 (s:=⟨ov,base,mem⟩) hr.len (.inl rfl) _ (by grind)]
   omega
  refine⟨_,s',_,k1,⟨v,rfl,rfl⟩,k3,hold,λb hbo=>?_,t',k4,k5,k6⟩
  rw[k2] at hbo
  obtain⟨g,u,h1,h2,h3⟩:=hbo
  have h1:(qa1 (qc7 mem mem.length _) g).live=true:=h1
  rw[qx6 _ _ _ _ (zad _)] at h1
  split at h1
  ·grind
  ·rename_i hne
   rw[qx5 (s:=⟨ov,base,mem⟩) hr.len (.inl rfl) _ hne] at h2
   exact .inl ⟨g,u,h1,h2,h3⟩
theorem w7p {Z:Base} {K:St->Prop} {o:Option Nat} {n:Nat} {T:q2v} {ts:List Ty} {d:qa3 ts} {vs:List Value} {B:Nat->Prop} {W:World} (hr:Rel P Z m0 s m ρ a w) (h:wi7 o n T (qg2 ts d) s K) (hT:Lnt o T vs) (hl:qh8 o ts d W vs B) :
  ∃s',K s'/\Rel P Z m0 s' m ρ a w/\qh8 o ts d w vs B/\∀b,B b->m b=none/\¬Own s'.mem ρ b/\¬qh3 a.defers b:=by
 cases o with
 | none=>exact⟨s,h,hr,hl,λb hb=>absurd hb (hl b)⟩
 | some e=>
  have hl:qu7 e ts d _ vs B:=hl
  unfold qu7 at hl
  split at hl
  case h_2=>grind
  rename_i t d' _
  obtain⟨v,xs,rfl,hf,hrd,ho,hb⟩:=hl
  obtain⟨v',hv',hTs⟩:=hT
  obtain rfl:=(zac hv').1
  obtain⟨ov,base,mem⟩:=s
  simp only[wi7,qg2,q8k] at h
  split at h
  case h_2=>grind
  rename_i eh e' t' rows ix lt hm
  split at h
  case h_2=>grind
  rename_i T'
  obtain⟨he,h2⟩:=same_eq h
  subst he
  obtain⟨ht,h3⟩:=qg0 h2
  injection ht with ht
  subst ht
  clear h h2
  obtain⟨hrows,hTT,hix,h⟩:=h3 rows HEq.rfl
  clear h3
  subst hTT
  have hix:ix=some []:=by
   unfold x3y at hix
   grind [q6n]
  subst hix hrows
  rw[q34 ⟨ov,base,mem⟩] at h
  have hob:=hr.objs n
  rw[show qa1 (St.mem ⟨ov,base,mem⟩) n=_ from hm] at hob
  obtain⟨hs,q1,q2,q3⟩:=hob
  have q3':q6p (some ⟨[.slice none 0 0,v]⟩) hs:=by
   have e1:T'=⟨[.slice none 0 0,v]⟩:=by cases T'; grind
   grind
  obtain rfl:=qy0 q3'
  obtain⟨ys,y1,y2⟩:=q2.row 0 (by simp)
  have y2:w.ownsRow Z.n e' t'.size v d'.1.length ys:=y2
  obtain⟨hr2,hloose⟩:=hr.forget (g:=n) (v:=qf7 [.slice none 0 0,v]) (by rw[show qa1 (St.mem ⟨ov,base,mem⟩) n=_ from hm]; rfl) q1 rfl
  refine⟨_,h,hr2,⟨v,ys,rfl,hf,qi6 hf y1,?_,hb⟩,λb hbb=>?_⟩
  ·refine⟨y2.1,?_⟩
   rcases y2.2 with q | ⟨g',cap,cur,x1,x2,x3⟩
   all_goals grind
  ·have hbv:=(hb b).1 hbb
   obtain⟨⟨l1,l2,l3,l4⟩,l5⟩:=hloose b (qd7.2 ⟨v,by simp,qe9 hbv⟩)
   refine⟨l5,λ⟨g,u,h1,h2,h3⟩=>l4 g u h1 h2 h3,λhmk=>?_⟩
   obtain⟨_,_,hd⟩:=hr.defers.get hmk
   grind [own_blk,qe9]
theorem x00 {n:Nat} {t:Ty} {l:List t.den} {hs:List Value} {M:View} (hle:m.le M) (hn:ρ[n]? = some (qf7 hs)) (hd:∀v,hs[1]? = some v->Rd M (.list t) l [v]) {av:AV}:∀{vs:List Value},av.ok P m ρ vs->(x3g n t l av).ok P M ρ vs:=by
 induction av with
 | msl g j=>
  intro vs k
  simp only[x3g]
  split
  ·rename_i hb
   obtain rfl:=zab hb
   obtain⟨hs',v,k1,k2,rfl⟩:=k
   rw[hn] at k1
   obtain rfl:=qf1 (zaa k1)
   exact hd v k2.1
  ·exact AV.ok_le hle (λ_ _ h _=>h) k
 | cons a b iha ihb=>intro vs k; obtain⟨v,rest,k1,k2,k3⟩:=k; exact⟨v,rest,k1,iha k2,ihb k3⟩
 | _=>intro vs k; exact AV.ok_le hle (λ_ _ h _=>h) k
theorem qy3 (n:Nat) (t:Ty) (l:List t.den):∀mem,(w6d n t l mem).length=mem.length
 | []=>rfl
 | o :: r=>by simp[w6d,qy3 n t l r]
theorem wb6 (n:Nat) (t:Ty) (l:List t.den):∀(mem:List AObj) (g:Nat),(∃ty cs,qa1 mem g=.box ty cs/\qa1 (w6d n t l mem) g=.box ty (x3g n t l cs))\/((∀ty cs,qa1 mem g≠.box ty cs)/\qa1 (w6d n t l mem) g=qa1 mem g)
 | [],g=>.inr ⟨λ_ _ e=>(by cases e),rfl⟩
 | o :: r,0=>by
  cases o with
  | box ty cs=>exact .inl ⟨ty,cs,rfl,rfl⟩
  | _=>exact .inr ⟨λ_ _ e=>(by cases e),rfl⟩
 | o :: r,g+1=>wb6 n t l r g
theorem x01 {Z:Base} {K:St->Prop} {e n:Nat} {T:q2v} {ts:List Ty} {d:qa3 ts} {vs:List Value} {B:Nat->Prop} {W:World} (hr:Rel P Z m0 s m ρ a w) (h:xz6 (some e) n T (qg2 ts d) s K) (hT:Lnt (some e) T vs) (hl:qh8 (some e) ts d W vs B) :
  ∃s' M,K s'/\m.le M/\Rel P Z m0 s' M ρ a w/\qh8 (some e) ts d w vs B/\(∀b,B b->m b=none)/\∀b o,M b=some o->m b=some o\/B b:=by
 have hl:qu7 e ts d _ vs B:=hl
 unfold qu7 at hl
 split at hl
 case h_2=>exact hl.elim
 rename_i t d' _
 obtain⟨v,xs,rfl,hf,hrd,ho,hb⟩:=hl
 obtain⟨v',hv',hTs⟩:=hT
 obtain rfl:=(zac hv').1
 obtain⟨ov,base,mem⟩:=s
 simp only[xz6,qg2,q8k] at h
 split at h
 case h_2=>exact h.elim
 rename_i eh e' t' rows ix lt hm
 split at h
 case h_2=>exact h.elim
 rename_i T'
 obtain⟨he,h2⟩:=same_eq h
 subst he
 obtain⟨ht,h3⟩:=qg0 h2
 injection ht with ht
 subst ht
 clear h h2
 obtain⟨hrows,hTT,h⟩:=h3 rows HEq.rfl
 clear h3
 subst hTT hrows
 rw[qo3] at h
 have hob:=hr.objs n
 have hm:qa1 (St.mem ⟨ov,base,mem⟩) n=_:=hm
 rw[hm] at hob
 obtain⟨hs,q1,q2,q3⟩:=hob
 have q3':q6p (some ⟨[.slice none 0 0,v]⟩) hs:=by
  have e1:T'=⟨[.slice none 0 0,v]⟩:=by cases T'; rw[<- hTs]
  rw[<- e1]; exact q3
 obtain rfl:=qy0 q3'
 obtain⟨ys,y1,y2⟩:=q2.row 0 (by simp)
 have y2:w.ownsRow Z.n e' t'.size v d'.1.length ys:=y2
 have hlv:(qa1 (St.mem ⟨ov,base,mem⟩) n).live=true:=by rw[hm]; rfl
 have hnl:n<mem.length:=qd6 hlv
 have hBk:∀b,B b↔Blk (qf7 [.slice none 0 0,v]) b:=λb=>by
  rw[hb b]
  refine⟨λh=>qd7.2 ⟨v,by simp,qe9 h⟩,λh=>?_⟩
  obtain⟨u,hu,hub⟩:=qd7.1 h
  simp only[List.mem_cons,List.not_mem_nil,or_false] at hu
  rcases hu with rfl | rfl
  ·simp[blk] at hub
  ·exact(qh6 ho).1 hub
 have hBo:∀b,B b->Own mem ρ b:=λb h=>⟨n,_,hlv,q1,(hBk b).1 h⟩
 let M:View:=λb=>match m b with
  | some o=>some o
  | none=>if v.ownBlock=some b then w.heap[b]? else none
 have hle:m.le M:=λb o h=>by
  show(match m b with | some o=>some o | none=>if v.ownBlock=some b then w.heap[b]? else none)=_
  rw[h]
 have hM:∀b o,M b=some o->m b=some o\/(B b/\w.heap[b]? = some o):=λb o h=>by
  change(match m b with | some o=>some o | none=>if v.ownBlock=some b then w.heap[b]? else none)=some o at h
  split at h
  ·rename_i h1; exact .inl (h1.trans h)
  ·split at h
   ·rename_i h1; exact .inr ⟨(hb b).2 h1,h⟩
   ·cases h
 have hm0:∀b,B b->m b=none:=λb h=>(hr.own (hBo b h)).2.2.1
 have hMn:∀b,v.ownBlock=some b->M b=w.heap[b]?:=λb h=>by
  show(match m b with | some o=>some o | none=>if v.ownBlock=some b then w.heap[b]? else none)=_
  rw[hm0 b ((hb b).2 h)]
  exact zap h
 have hd:∀u,([.slice none 0 0,v]:List Value)[1]? = some u->Rd M (.list t') d'.1 [u]:=λu hu=>by
  obtain rfl:=zaa (show some v=some u from hu)
  exact qm2 y2 (qi6 hf y1) hMn
 have hnone:∀g u b,g≠n->(qa1 mem g).live=true->ρ[g]? = some u->Blk u b->M b=none:=λg u b hg h1 h2 h3=>by
  cases hMb:M b with
  | none=>rfl
  | some o=>
   rcases hM b o hMb with q | ⟨q,_⟩
   ·have:=(hr.own ⟨g,u,h1,h2,h3⟩).2.2.1
    rw[this] at q; cases q
   ·exact(hr.apart g n u _ b hg h1 hlv h2 q1 h3 ((hBk b).1 q)).elim
 have hnth:∀g,qa1 (qc7 (w6d n t' d'.1 mem) n .dead) g=if g=n then .dead else qa1 (w6d n t' d'.1 mem) g:=λg=>qd1 _ _ _ _ (by rw[qy3]; exact hnl)
 have hlive:∀g,(qa1 (qc7 (w6d n t' d'.1 mem) n .dead) g).live=true->g≠n/\(qa1 mem g).live=true:=λg h=>by
  rw[hnth] at h
  split at h
  ·cases h
  ·rename_i hg
   refine⟨hg,?_⟩
   rcases wb6 n t' d'.1 mem g with⟨ty,cs,k1,k2⟩ | ⟨_,k2⟩
   ·rw[k1]; rfl
   ·rw[k2] at h; exact h
 refine⟨_,M,h,hle,⟨λi=>AV.ok_le hle (λ_ _ h _=>h) (hr.slots i),?_,hr.hdr,hr.defers,λg=>?_,λg g' u u' b hne l1 l2=>hr.apart g g' u u' b hne (hlive g l1).2 (hlive g' l2).2,λb o hbo=>?_,View.le_trans hr.ext hle,λb o hbo=>?_,hr.below,λg u b l1=>hr.zone g u b (hlive g l1).2,hr.pins⟩,⟨v,ys,rfl,hf,qi6 hf y1,?_,hb⟩,hm0,λb o hbo=>(hM b o hbo).imp id zed⟩
 ·show ρ.length=(qc7 (w6d n t' d'.1 mem) n .dead).length
  rw[qc9 _ _ _ (by rw[qy3]; exact hnl),qy3]
  exact hr.len
 ·show ObjOk P M ρ w Z.n g (qa1 (qc7 (w6d n t' d'.1 mem) n .dead) g)
  rw[hnth]
  split
  ·trivial
  ·rename_i hg
   have hog:=hr.objs g
   rcases wb6 n t' d'.1 mem g with⟨ty,cs,k1,k2⟩ | ⟨_,k2⟩
   ·rw[k2]
    rw[show qa1 (St.mem ⟨ov,base,mem⟩) g=_ from k1] at hog
    obtain⟨bb,us,j1,j2,j3,j4,j5,j6⟩:=hog
    exact⟨bb,us,j1,j2,j3,x00 hle q1 hd j4,j5,hnone g _ bb hg (by rw[k1]; rfl) j1 rfl⟩
   ·rw[k2]
    cases hlg:(qa1 mem g).live with
    | false=>exact qv8 hlg
    | true=>exact hog.grow hle (λ_ _ h _=>h) λu b hu hbu=>⟨rfl,hnone g u b hg hlg hu hbu⟩
 ·rcases hM b o hbo with q | ⟨_,q⟩
  ·exact hr.view b o q
  ·exact q
 ·rcases hM b o hbo with q | ⟨q,_⟩
  ·exact hr.new b o q
  ·have:=hr.own (hBo b q)
   exact .inr ⟨this.1,this.2.2.2.1⟩
 ·refine⟨y2.1,?_⟩
  rcases y2.2 with q | ⟨g',cap,cur,x1,x2,x3⟩
  ·exact .inl q
  ·exact .inr ⟨g',cap,cur,x1,zae _,x3⟩
end
end Eng
set_option linter.unusedVariables false
set_option linter.unusedSimpArgs false
namespace Eng
open Go Go.RowKit
def Good (P:Program) (w0:Base) (m0:View) (N:Frm) (s:St) (a:Act) (w:World):Prop:=N.has a/\∃m ρ,Rel P w0 m0 s m ρ a w
theorem qy4 (g:Nat) (d:AV) (v:AV):AV.subst g d v.strip=v.strip:=by
 induction v with
 | imm cs off ih=>grind [AV.strip,AV.subst]
 | clo f c ih=>grind [AV.strip,AV.subst]
 | agg c ih=>grind [AV.strip,AV.subst]
 | tup c ih=>grind [AV.strip,AV.subst]
 | cons a b iha ihb=>grind [AV.strip,AV.subst]
 | _=>rfl
theorem q64 (v:AV):v.strip.strip=v.strip:=by
 induction v with
 | imm cs off ih=>grind [AV.strip]
 | clo f c ih=>grind [AV.strip]
 | agg c ih=>grind [AV.strip]
 | tup c ih=>grind [AV.strip]
 | cons a b iha ihb=>grind [AV.strip]
 | _=>rfl
theorem q65 (v:AV):v.strip.hav.strip=v.strip.hav:=by
 induction v with
 | agg c ih=>grind [AV.strip,AV.hav]
 | tup c ih=>grind [AV.strip,AV.hav]
 | cons a b iha ihb=>grind [AV.strip,AV.hav]
 | _=>rfl
theorem q5r (v:AV):v.strip.hav.strip.hav=v.strip.hav:=by
 induction v with
 | agg c ih=>grind [AV.strip,AV.hav]
 | tup c ih=>grind [AV.strip,AV.hav]
 | cons a b iha ihb=>grind [AV.strip,AV.hav]
 | _=>rfl
theorem qr9 {i:Nat} {d:AV}:∀{l:List (Nat × AV)},(look l i d=d/\∀p∈l,p.1≠i)\/(i,look l i d)∈l
 | []=>.inl ⟨rfl,λp hp=>by grind⟩
 | (j,v) :: r=>by
  simp only[look]
  split
  ·simp_all
  ·rename_i e
   rcases qr9 (i:=i) (d:=d) (l:=r) with⟨h1,h2⟩ | h
   ·refine .inl ⟨h1,λp hp=>?_⟩
    rcases zao.1 hp with rfl | hp
    ·intro e'
     simp_all
    grind
   grind
theorem w09 {i:Nat} {d d':AV}:∀{l:List (Nat × AV)},(∃p∈l,p.1=i)->look l i d=look l i d'
 | [],h=>by grind
 | (j,v) :: r,h=>by
  simp only[look]
  cases hb:Nat.beq j i with
  | true=>rfl
  | false=>
   obtain⟨p,hp,e⟩:=h
   rcases zao.1 hp with rfl | hp
   ·simp_all
   ·exact w09 ⟨p,hp,e⟩
def wl3 (y:Option qg6):Prop:=∀Y,y=some Y->∀p∈Y.fix,p.2.strip=p.2
theorem q3f {y:Option qg6} (hf:wl3 y) (i:Nat) (v:AV):(kpK y i v).strip=kpK y i v:=by
 cases y with
 | none=>exact q64 v
 | some Y=>
  show(look Y.fix i v.strip.hav).strip=look Y.fix i v.strip.hav
  rcases qr9 (i:=i) (d:=v.strip.hav) (l:=Y.fix) with⟨e,_⟩ | h
  ·grind [q65]
  ·exact hf Y rfl _ h
theorem x4i {y:Option qg6} (i:Nat) (v:AV):kpK y i (kpK y i v)=kpK y i v:=by
 cases y with
 | none=>exact q64 v
 | some Y=>
  show look Y.fix i (look Y.fix i v.strip.hav).strip.hav=look Y.fix i v.strip.hav
  rcases qr9 (i:=i) (d:=v.strip.hav) (l:=Y.fix) with⟨e,hn⟩ | h
  ·grind [q5r]
  ·exact w09 ⟨_,h,rfl⟩
def FR (y:Option qg6) (D:Nat->Prop) (s s':St):Prop:=∀i,¬D i->kpK y i (s.get i)=s.get i->s'.get i=s.get i
theorem FR.refl (y:Option qg6) (D:Nat->Prop) (s:St):FR y D s s:=λ_ _ _=>rfl
theorem FR.trans {y:Option qg6} {D:Nat->Prop} {a b c:St} (h:FR y D a b) (k:FR y D b c):FR y D a c:=λi hi hs=>by
 have h1:=h i hi hs
 rw[k i hi (by grind),h1]
theorem FR.mono {y:Option qg6} {D D':Nat->Prop} {a b:St} (h:FR y D a b) (hd:∀i,D i->D' i):FR y D' a b:=λi hi hs=>h i (λhh=>hi (hd i hh)) hs
theorem FR.put {y:Option qg6} {D:Nat->Prop} (s:St) {d:Option Nat} {v:AV} (hd:∀i,d=some i->D i):FR y D s (qv5 d v s):=by
 intro i hi _
 cases d with
 | none=>rfl
 | some j=>
  obtain⟨ov,base,mem⟩:=s
  have hne:j≠i:=λe=>hi (by grind)
  have:Nat.beq j i=false:=by grind [Nat.beq,absurd,Nat.eq_of_beq_eq_true]
  simp_all [qv5,St.get,look]
theorem FR.eff {y:Option qg6} (hf:wl3 y) {D:Nat->Prop} (s:St) (nm:Nat) (e:Eff):FR y D s (qr2 s nm e):=by
 intro i hi hs
 have key:∀g d,look (qg8 g d s.ov) i (AV.subst g d (s.base i))=s.get i:=λg d=>by
  rw[qi7]
  show AV.subst g d (s.get i)=s.get i
  grind [q3f,qy4]
 cases e with
 | none=>rfl
 | new o=>rfl
 | upd g o kill=>
  cases kill with
  | false=>rfl
  | true=>exact key g .any
 | freeze g t l=>exact key g _
 | perm g o=>exact key g _
 | eatN h o=>exact key h _
 | eat h g o=>
  show look (qg8 g .any (qg8 h .any s.ov)) i (AV.subst g .any (AV.subst h .any (s.base i)))=s.get i
  grind [qi7,AV.subst,q3f,qy4]
section
variable {P : Program} {w0 : Base} {m0 : View} {C : Ctx} {N : Frm}
theorem Good.put {s:St} {a:Act} {w:World} {m:View} {ρ:List Value} (hN:N.has a) (h:Rel P w0 m0 s m ρ a w) {d:Option Nat} {av:AV} {v:Value} (hv:av.ok P m ρ [v]) (hd:∀i,d=some i->N.may i) :
  Good P w0 m0 N (qv5 d av s) (a.put d v) w:=by
 exact⟨Frm.put hN hd,m,ρ,h.put hv (λi hi=>by rw[hN.1]; exact(hd i hi).1)⟩
theorem Rel.know {s:St} {a:Act} {w:World} {m:View} {ρ:List Value} (h:Rel P w0 m0 s m ρ a w) {d:Nat} {av:AV} (hv:av.ok P m ρ [a.tmps.getD d undef]):Rel P w0 m0 ⟨(d,av) :: s.ov,s.base,s.mem⟩ m ρ a w:=by
 refine⟨λi=>?_,h.len,h.hdr,h.defers,h.objs,h.apart,h.view,h.ext,h.new,h.below,h.zone,h.pins⟩
 simp only[St.get,look]
 split
 ·simp_all
 ·exact h.slots i
theorem w1a {a:Act} {d:Nat} {b:Bool} (h:a.tmps.getD d undef=.bool b):a.tmps[d]? = some (.bool b):=by
 rw[za8] at h
 grind [undef]
theorem w1b (hS:SoundAt P C m0) {all:Array Oper} {r:Option Nat} {n:Nat} {Q:Exit->Act->World->Prop} {D:Nat->Prop} (hall:∀o∈all.toList,∀d,o.dst=some d->D d/\N.may d):∀(l:List Oper) (s:St) (K:St->Prop) (a:Act) (w:World),
  (∀o∈l,o∈all.toList)->Good P w0 m0 N s a w->w3b C all.toList l s K->(∀s' a' w',K s'->FR C.yl D s s'->Good P w0 m0 N s' a' w'->Q .normal a' w')->wpListIn (fz r) n P all Q l a w
 | [],s,K,a,w,_,hg,h,hQ=>hQ s a w h (FR.refl _ _ _) hg
 | o :: rest,s,K,a,w,hl,hg,h,hQ=>by
  have ho:=hl o za0
  have hrest:∀o'∈rest,o'∈all.toList:=λo' h'=>hl o' (zau _ h')
  obtain⟨hN,m,ρ,hr⟩:=hg
  -- the operation itself,from a state 's1' that knows as much
  have go:∀s1:St,Rel P w0 m0 s1 m ρ a w->FR C.yl D s s1->s1.mem=s.mem->(q2a s.mem.length lits λnm=>opK C (o.dst.getD 0) nm o.op (qc8 s1.ov s1.base) s1.mem λv e=>w58 C o.dst v λv=>q95 s1.ov s1.base s1.mem nm e λs'=>w3b C all.toList rest (qv5 o.dst v s') K) ->
    o.wpIn (fz r) n P a w (wpListIn (fz r) n P all Q rest) Q:=by
   intro s1 hr1 hf1 hm1 h1
   rw[qm9,<- hm1] at h1
   obtain⟨hd,hres⟩:=x0q (k:=λv e=>w58 C o.dst v λv=>q95 s1.ov s1.base s1.mem s1.mem.length e λs'=>w3b C all.toList rest (qv5 o.dst v s') K) (nm:=s1.mem.length) hS hr1 (.inl rfl) h1
   refine w6w hres hd λv w' ⟨av,e,m',ρ',k1,_,k2,k3⟩=>?_
   simp only[wt9,q34] at k1
   refine w1b hS hall rest _ K _ w' hrest (Good.put hN k3 k2 (λi hi=>(hall o ho i hi).2)) k1 λs' a' w'' q1 q2 q3=>hQ s' a' w'' q1 ?_ q3
   exact hf1.trans ((FR.eff hS.fixs s1 _ e).trans ((FR.put _ (λi hi=>(hall o ho i hi).1)).trans q2))
  obtain⟨ov,base,mem⟩:=s
  simp only[w3b] at h
  cases hgd:o.guard with
  | none=>
   rw[hgd] at h
   unfold wpListIn
   rw[zap (by grind [Region.wanted])]
   exact go ⟨ov,base,mem⟩ hr (FR.refl _ _ _) rfl h
  | some jw=>
   obtain⟨j,want⟩:=jw
   rw[hgd] at h
   obtain⟨og,h1,h⟩:=withSome_iff.1 h
   obtain⟨d,h2,h⟩:=withSome_iff.1 h
   have hog:og∈all.toList:=zag h1
   have hd:=hall og hog d h2
   have hfr:∀av:AV,FR C.yl D ⟨ov,base,mem⟩ ⟨(d,av) :: ov,base,mem⟩:=λav=>FR.put (d:=some d) (v:=av) ⟨ov,base,mem⟩ (λi hi=>by grind)
   have hy:∀b,a.tmps.getD d undef=.bool b->yielded all a.tmps j=some b:=by
    grind [yielded,w1a]
   have hy2:a.tmps.getD d undef=undef->yielded all a.tmps j=none:=by
    grind [qy1]
   have skip:∀av:AV,av.ok P m ρ [a.tmps.getD d undef]->Region.wanted o (yielded all a.tmps)=false->w3b C all.toList rest (qv5 o.dst (.tup .nil) ⟨(d,av) :: ov,base,mem⟩) K->wpListIn (fz r) n P all Q (o :: rest) a w:=by
    intro av hav hw hk
    unfold wpListIn
    rw[zai (by grind)]
    refine⟨λ_ _=>trivial,?_⟩
    refine w1b hS hall rest _ K _ w hrest (Good.put hN (hr.know hav) (av:=.tup .nil) ⟨[],rfl,rfl⟩ (λi hi=>(hall o ho i hi).2)) hk λs' a' w'' q1 q2 q3=>hQ s' a' w'' q1 ?_ q3
    exact(hfr av).trans ((FR.put _ (λi hi=>(hall o ho i hi).1)).trans q2)
   have run:∀av:AV,av.ok P m ρ [a.tmps.getD d undef]->Region.wanted o (yielded all a.tmps)=true->(q2a mem.length lits λnm=>opK C (o.dst.getD 0) nm o.op (qc8 ((d,av) :: ov) base) mem λv e=>w58 C o.dst v λv=>q95 ((d,av) :: ov) base mem nm e λs'=>w3b C all.toList rest (qv5 o.dst v s') K)->wpListIn (fz r) n P all Q (o :: rest) a w:=by
    intro av hav hw hk
    unfold wpListIn
    rw[zap hw]
    exact go ⟨(d,av) :: ov,base,mem⟩ (hr.know hav) (hfr av) rfl hk
   have hslot:=hr.slots d
   cases want with
   | true=>
    cases hsk:(look ov d (base d)).skipped with
    | true=>
     rw[hsk] at h
     have hu:=qw0 hsk hslot
     exact skip (.tup .nil) (by rw[hu]; exact⟨[],rfl,rfl⟩) (by grind [Region.wanted]) h
    | false=>
    rw[hsk] at h
    obtain⟨b,hb,c1,c2⟩:=q02 h hslot
    cases b with
    | true=>exact run .tt (by rw[hb]; rfl) (by grind [Region.wanted]) (c1 rfl)
    | false=>exact skip .ff (by rw[hb]; rfl) (by grind [Region.wanted]) (c2 rfl)
   | false=>
    cases hsk:(look ov d (base d)).skipped with
    | true=>
     rw[hsk] at h
     have hu:=qw0 hsk hslot
     exact skip (.tup .nil) (by rw[hu]; exact⟨[],rfl,rfl⟩) (by grind [Region.wanted]) h
    | false=>
    rw[hsk] at h
    obtain⟨b,hb,c1,c2⟩:=q02 h hslot
    cases b with
    | true=>exact skip .tt (by rw[hb]; rfl) (by grind [Region.wanted]) (c1 rfl)
    | false=>exact run .ff (by rw[hb]; rfl) (by grind [Region.wanted]) (c2 rfl)
theorem q54 (Tr:List Info) (f:FS) {L:Nat->Bool} (hL:∀k,L k=false):∀n,stF Tr L f n=f
 | 0=>rfl
 | n+1=>by
  simp only[stF]
  split
  ·rw[hL n]; exact q54 Tr f hL n
  ·exact q54 Tr f hL n
theorem xv5 {all:Array Oper} {l:Array Bool} (hb:backOk all.toList 0=true) (hl:l.size=all.size) (hr:Region.ready .any all l=[]):∀i,i<all.size->l.getD i false=true:=by
 intro i
 induction i using Nat.strongRecOn with
 | ind i ih=>
  intro hi
  cases hq:l.getD i true with
  | true=>
   grind
  | false=>
   exfalso
   have ho:all[i]? = some all[i]:=zb6 hi
   have:i∈Region.ready .any all l:=mem_ready.2 ⟨hq,all[i],ho,λe he hbd=>by
    have hlt:=q3e (all:=all.toList) hb i all[i] (by simp) e (by grind) hbd
    grind⟩
   grind
theorem x02 (hS:SoundAt P C m0) {all:Array Oper} {id:Nat} {r:Option Nat} {n:Nat} {Q:Exit->Act->World->Prop} {D:Nat->Prop} (hall:∀o∈all.toList,∀d,o.dst=some d->D d/\N.may d) {s:St} {K:St->Prop} {a:Act} {w:World}
  (hg:Good P w0 m0 N s a w) (h:q2c C all.toList s.mem.length 0 all.toList ⟨s.ov,s.base,padMem s.mem all.toList⟩ [] K) (hQ:∀s' a' w',K s'->FR C.yl D s s'->Good P w0 m0 N s' a' w'->Q .normal a' w'):(Code.region id all true).wpIn (fz r) n P Q a w:=by
 obtain⟨hN,m,ρ,hr⟩:=hg
 refine wpIn_region_any hS.mixed ?_
 obtain⟨Tr,s',hlen,hchk,hch,hst,hK⟩:=wb4 (s0:=⟨s.ov,s.base,padMem s.mem all.toList⟩) all.toList 0 _ [] h rfl ⟨λ_=>⟨s.ov,s.base,padMem s.mem all.toList⟩,rfl,rfl,λn I h=>by grind⟩ (λk I h=>by grind) (λk o h=>by grind) (by simp)
 have hM:s.mem.length+Tr.length<=(⟨s.ov,s.base,padMem s.mem all.toList⟩:St).mem.length:=by grind [qt2]
 have hbk:backOk all.toList 0=true:=hchk.1
 have hrows:=hchk.2
 refine Ls.wpAnyIn_inv (x0z P w0 m0 N all Tr ⟨s.ov,s.base,padMem s.mem all.toList⟩ s.mem.length) (λl a w i hl hI hi=>wl1 hS (λo ho d hd=>(hall o ho d hd).2) hlen hchk hch hst hM hl hI hi) (λl a w hl hI hready=>?_) all.size _ a _ (by simp) ?_ ?_
 ·obtain⟨⟨s2,m2,ρ2,f1,f2,f3,f4,_⟩,_⟩:=hI
  obtain⟨σ,c1,c2,c3⟩:=hch
  have hσ:=q53 (s:=s') c1 c3 (λk J hJ=>(hrows k J hJ).1) Tr.length (zad _)
  rw[c2] at hσ
  have hup:=xv5 hbk hl hready
  have e:stF Tr (λi=>l.getD i false) (fs ⟨s.ov,s.base,padMem s.mem all.toList⟩) Tr.length=stF Tr (λ_=>true) (fs ⟨s.ov,s.base,padMem s.mem all.toList⟩) Tr.length:=wb3 λk hk=>hup k (by grind)
  refine hQ s' a w hK ?_ ⟨f3,m2,ρ2,f4.of_fs (f1.trans (e.trans hσ.1.symm)) (f2.trans hσ.2.symm)⟩
  have hfr:∀k,k<=Tr.length->FR C.yl D ⟨s.ov,s.base,padMem s.mem all.toList⟩ (σ k):=by
   intro k
   induction k with
   | zero=>grind [FR.refl]
   | succ k ih=>
    intro hk
    have hJ:Tr[k]? = some Tr[k]:=zak ow
    obtain⟨a1,a2⟩:=c3 k _ hJ
    have hkk:=ih ow
    rw[<- a1] at hkk
    rw[a2]
    exact hkk.trans ((FR.eff hS.fixs _ _ _).trans (FR.put _ λi hi=>(hall _ (zag (hst k _ hJ).1) i hi).1))
  have:=hfr Tr.length (zad _)
  rw[c2] at this
  exact this
 ·grind [Ls.pend,List.count_le_length,Array.replicate]
 ·have hL:∀k,(Array.replicate all.size false).getD k false=false:=λk=>by
   simp[Array.getD]
  refine⟨⟨⟨s.ov,s.base,padMem s.mem all.toList⟩,m,ρ++List.replicate all.toList.length (.bool false),(q54 Tr _ hL _).symm,rfl,hN,(hr.pad all.toList).drew,λi hi _=>⟨false,?_⟩⟩,λj o _ hj=>by grind⟩
  rw[<- hr.len,zb0 ow]
  grind
end
end Eng
