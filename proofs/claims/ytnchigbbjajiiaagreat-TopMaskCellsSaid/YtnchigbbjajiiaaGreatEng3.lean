/- A function that hands over: its operations over abstract values. No condition. -/
import Derived.Test.YtnchigbbjajiiaaGreatEng2
import Derived.Sort.Grow
set_option linter.unusedVariables false
set_option linter.unusedSimpArgs false
namespace Eng
open Go Go.RowKit
theorem w1c {P:Program} {m m':View} {ρ ρ':List Value} (h0:ρ'=ρ\/∀b,ρ[0]?≠some (.pointer b)) (hρ:∀(g:Nat) (v:Value),g≠0->ρ[g]? = some v->ρ'[g]? = some v) {av:AV}:∀{vs:List Value},av.ok P m ρ vs->av.hav.ok P m' ρ' vs:=by
 induction av with
 | any=>intro vs k; exact k
 | lit v=>intro vs k; exact k
 | tt=>intro vs k; exact k
 | ff=>intro vs k; exact k
 | dat t l=>intro vs k; obtain⟨A,c,rfl,_⟩:=k; exact⟨_,rfl⟩
 | ndat c t l=>intro vs k; obtain⟨⟨A,c,rfl,_⟩,_⟩:=k; exact⟨_,rfl⟩
 | own g=>
  intro vs k
  obtain⟨v,k1,k2⟩:=k
  cases g with
  | zero=>exact⟨v,k2⟩
  | succ g=>exact⟨v,⟨hρ _ _ ow k1.1,k1.2⟩,k2⟩
 | box g off=>
  intro vs k
  obtain⟨b,k1,k2⟩:=k
  rcases h0 with rfl | h0
  ·exact⟨b,k1,k2⟩
  ·exact⟨b,hρ _ _ (λe=>by grind) k1,k2⟩
 | dptr t l i off=>intro vs k; obtain⟨_,ad,cs,rfl,_⟩:=k; exact⟨_,rfl⟩
 | optr g t i off=>intro vs k; obtain⟨b,n,c,_,rfl⟩:=k; exact⟨_,rfl⟩
 | msl g j=>intro vs k; obtain⟨hs,v,_,_,rfl⟩:=k; exact⟨_,rfl⟩
 | mptr g j t i off=>intro vs k; obtain⟨hs,b,n,c,_,_,rfl⟩:=k; exact⟨_,rfl⟩
 | msub g x y=>intro vs k; obtain⟨hs,A,n,c,_,_,_,rfl⟩:=k; exact⟨_,rfl⟩
 | imm cs off ih=>intro vs k; obtain⟨ad,us,rfl,_⟩:=k; exact⟨_,rfl⟩
 | fn a r p f=>intro vs k; obtain⟨fv,rfl,_⟩:=k; exact⟨_,rfl⟩
 | clo f caps ih=>intro vs k; obtain⟨cs,rfl,_⟩:=k; exact⟨_,rfl⟩
 | agg l ih=>intro vs k; obtain⟨cs,k1,k2⟩:=k; exact⟨cs,k1,ih k2⟩
 | tup l ih=>intro vs k; obtain⟨cs,k1,k2⟩:=k; exact⟨cs,k1,ih k2⟩
 | nil=>intro vs k; exact k
 | cons a b iha ihb=>intro vs k; obtain⟨v,rest,k1,k2,k3⟩:=k; exact⟨v,rest,k1,iha k2,ihb k3⟩
theorem w1d (i:Nat) (d:AV):∀(l r:List (Nat × AV)),look (w3d l r) i d=look l i (look r i d)
 | [],r=>rfl
 | (j,v) :: l,r=>by
  simp only[w3d,look]
  split
  ·rfl
  ·exact w1d i d l r
theorem w1e (i:Nat) (d:AV):∀(l:List (Nat × AV)),look (w3c l) i d.hav=(look l i d).hav
 | []=>rfl
 | (j,v) :: l=>by
  simp only[w3c,look]
  split
  ·rfl
  ·exact w1e i d l
theorem qo8:∀m:List AObj,(ql5 m).length=m.length
 | []=>rfl
 | o :: r=>by simp[ql5,qo8 r]
theorem qw1:∀(m:List AObj) (g:Nat),qa1 (ql5 m) g=(qa1 m g).hav
 | [],_=>rfl
 | o :: r,0=>rfl
 | o :: r,g+1=>qw1 r g
theorem wb7 {o:AObj} (h:o.hav.live=true):o.live=true:=by
 cases o <;> first | rfl | cases h
structure YOk (P:Program) (T:Base->Prop) (m0:View) (N:Frm) (Y:qg6) (RR:List Value):Prop where
 fix:∀p∈Y.fix,∀a,N.has a->p.2.ok P m0 [] [a.tmps.getD p.1 undef]
 cls:∀Z,T Z->∃k,Z.ρ=.int .i64 (code k) :: RR
 mov:∀(Z:Base) (W':World) (F':Nat->Prop) (h:Z.n<=W'.heap.size),T Z->Z.ok W'->(∀b,Z.F b->F' b)->T ⟨Z.n,W',F',h,Z.ρ⟩
 yld:∀Z k W mx d vs B,T Z->Z.ρ=.int .i64 (code (some k)) :: RR->Z.ok W->mx.on W->Cells mx->(∀b o,mx b=some o->m0 b=some o\/(Z.n<=b/\¬Z.F b))->Y.L[k]? = some d->qq1 Y.lend Y.ins d mx vs->qh8 Y.lend Y.ins d W vs B->(∀b,B b->Z.n<=b/\b<W.heap.size/\¬Z.F b/\mx b=none) ->
  YieldAt Fence.wide 0 P Y.l vs.toArray W λe W'=>(W'.os=W.os/\W'.tape=W.tape/\W'.output=W.output)/\m0.on W'/\W.heap.size<=W'.heap.size/\qh8 Y.lend Y.ins d W' vs B/\(∀b,b<W.heap.size->¬Z.F b->mx b=none->¬B b->W'.heap[b]? = W.heap[b]?) /\
   ∃c:Bool,e=.returned (.bool c)/\∀(O:Nat->Prop) (h:Z.n<=W'.heap.size),(∀b,O b->b<W.heap.size/\¬Z.F b/\mx b=none/\(c=false->¬B b))->T ⟨Z.n,W',λb=>b<W'.heap.size/\¬O b,h,.int .i64 (code (if c then some (k+1) else none)) :: RR⟩
section
variable {P : Program} {T : Base -> Prop} {Z : Base} {m0 : View} {N : Frm} {C : Ctx} {Y : qg6} {RR : List Value} {rr : Option Nat} {nn : Nat}
theorem wl4 {l:Nat} {o:Oper} {c:Call} {x:Operand} {a:Act} {w:World} (ho:o.op=.call c) (hc:c.callee=.value x) (hx:a.eval x=.func (.yield l) #[] #[]):(execOp a.eval o).run P w=(Instr.yield l (c.args.map a.eval)).run P w:=by
 grind [execOp,resolve,Deferred.ofValue,invoke]
theorem ww0 {s:St} {m:View} {ρ:List Value} {a:Act} {w:World} {args:AV} {vs:List Value} {o:Option Nat} {ts:List Ty} {k:qa3 ts->Prop} (hr:Rel P Z m0 s m ρ a w) (h:q96 o ts s.mem args k) (hargs:args.ok P m ρ vs) :
  ∃d B,k d/\qq1 o ts d m vs/\qh8 o ts d w vs B/\(((∀b,¬B b)/\w6c o args s.mem=s.mem)\/∃g e t v l,qa1 s.mem g=.vec e t l/\ρ[g]? = some v/\Ty.flat t=true/\(∀b,B b↔v.ownBlock=some b)/\(∀W',qh8 o ts d W' vs B->∃xs,RdL (λ_=>none) t l xs/\W'.ownsRow 0 e t.size v l.length xs)/\w6c o args s.mem=qc7 s.mem g .dead):=by
 unfold q96 at h
 cases o with
 | none=>
  simp only at h
  split at h
  case h_2=>grind
  rename_i hp
  obtain⟨d,h1,h2⟩:=qj3 h (qu4 hp hargs)
  exact⟨d,λ_=>False,h1,h2,λ_ h=>h,.inl ⟨λ_ h=>h,rfl⟩⟩
 | some e=>
  simp only at h
  unfold w0d at h
  split at h
  case h_2=>grind
  rename_i t k
  split at h
  case h_2=>grind
  rename_i av z
  split at h
  case h_2=>grind
  rename_i g
  split at h
  case h_2=>grind
  rename_i e' t' l hm
  split at h
  case h_2=>grind
  rename_i he hf
  obtain rfl:=zab he
  obtain⟨rfl,h⟩:=qg0 h
  have h:=h l HEq.rfl
  obtain⟨u,us,rfl,⟨v,⟨h1,h2⟩,h3⟩,h4⟩:=hargs
  obtain rfl:=(zac h3).1
  obtain rfl:us=[]:=h4
  have ho:=hr.objs g
  rw[hm] at ho
  obtain⟨v',xs,q1,q2,q3,q4⟩:=ho
  rw[h1] at q1
  obtain rfl:=zaa q1
  have q3':w.ownsRow 0 e' t'.size u l.length xs:=by
   refine⟨q3.1,?_⟩
   rcases q3.2 with q | ⟨g',cap,cur,x1,x2,x3⟩
   all_goals grind
  refine⟨(l,()),λb=>u.ownBlock=some b,h,rfl,⟨u,xs,rfl,hf,qi6 hf q2,q3',λ_=>zd5⟩,.inr ⟨g,e',t',u,l,hm,h1,hf,λ_=>zd5,?_,rfl⟩⟩
  rintro W' ⟨v,ys,hv,_,x1,x2,_⟩
  grind
theorem w1f {l:Nat} {f:FuncId} {tmps:Array Value} {assign body:Code} {w:World} {Q:Ending->World->Prop} (h:RoundIn Fence.wide 0 P l f tmps assign body w Q) (r:Option Nat) (n:Nat):RoundIn (fz r) n P l f tmps assign body w Q:=
 ⟨h.1,λc cs _=>h.2 c cs (room_wide _)⟩
theorem ok0 {P:Program} {m:View} {ρ ρ':List Value} (hρ:∀(g:Nat) (v:Value),(∀i n,v≠.int i n)->ρ[g]? = some v->ρ'[g]? = some v):∀{av:AV} {vs:List Value},av.ok P m ρ vs->av.ok P m ρ' vs:=by
 intro av
 induction av with
 | any=>intro vs k; exact k
 | lit v=>intro vs k; exact k
 | tt=>intro vs k; exact k
 | ff=>intro vs k; exact k
 | dat t l=>intro vs k; exact k
 | ndat c t l=>intro vs k; exact k
 | own g=>intro vs k; obtain⟨v,k1,k2⟩:=k; exact⟨v,⟨hρ _ _ (λi n e=>by subst e; cases k1.2) k1.1,k1.2⟩,k2⟩
 | box g off=>intro vs k; obtain⟨v,k1,k2⟩:=k; exact⟨v,hρ _ _ (λi n e=>by cases e) k1,k2⟩
 | dptr t l i off=>intro vs k; exact k
 | optr g t i off=>intro vs k; obtain⟨b,n,c,k1,k2⟩:=k; exact⟨b,n,c,hρ _ _ (λi n e=>by cases e) k1,k2⟩
 | imm cs off ih=>intro vs k; obtain⟨ad,us,k1,k2,k3⟩:=k; exact⟨ad,us,k1,ih k2,k3⟩
 | fn a r p f=>intro vs k; exact k
 | msl g j=>intro vs k; obtain⟨hs,v,k1,k2⟩:=k; exact⟨hs,v,hρ _ _ (λi n e=>by cases e) k1,k2⟩
 | mptr g j t i off=>intro vs k; obtain⟨hs,b,n,c,k1,k2⟩:=k; exact⟨hs,b,n,c,hρ _ _ (λi n e=>by cases e) k1,k2⟩
 | msub g x y=>intro vs k; obtain⟨hs,A,n,c,k1,k2⟩:=k; exact⟨hs,A,n,c,hρ _ _ (λi n e=>by cases e) k1,k2⟩
 | clo f caps ih=>intro vs k; obtain⟨cs,k1,k2⟩:=k; exact⟨cs,k1,ih k2⟩
 | agg l ih=>intro vs k; obtain⟨cs,k1,k2⟩:=k; exact⟨cs,k1,ih k2⟩
 | tup l ih=>intro vs k; obtain⟨cs,k1,k2⟩:=k; exact⟨cs,k1,ih k2⟩
 | nil=>intro vs k; exact k
 | cons a b iha ihb=>intro vs k; obtain⟨v,rest,k1,k2,k3⟩:=k; exact⟨v,rest,k1,iha k2,ihb k3⟩
theorem x4j {P:Program} {m:View} {ρ ρ':List Value} {w w':World} {B g:Nat} {o:AObj} (h:ObjOk P m ρ w B g o) (hρ:∀(g:Nat) (v:Value),(∀i n,v≠.int i n)->ρ[g]? = some v->ρ'[g]? = some v) (hg:∀v,ρ[g]? = some v->ρ'[g]? = some v)
  (hw:∀v b,ρ[g]? = some v->Blk v b->w'.heap[b]? = w.heap[b]?/\m b=none):ObjOk P m ρ' w' B g o:=by
 cases o with
 | dead=>trivial
 | box ty cs=>
  obtain⟨b,vs,h1,h2,h3,h4,h5,h6⟩:=h
  obtain⟨k1,k2⟩:=hw _ b h1 rfl
  exact⟨b,vs,hg _ h1,h2,k1.trans h3,ok0 hρ h4,h5,k2⟩
 | vec e t l=>
  obtain⟨v,vs,h1,h2,h3,h4⟩:=h
  refine⟨v,vs,hg _ h1,h2,?_,λb hb=>?_⟩
  ·refine⟨h3.1,?_⟩
   rcases h3.2 with h0 | ⟨g',cap,cur,rfl,hB,hg',r⟩
   ·grind
   ·exact .inr ⟨g',cap,cur,rfl,hB,(hw _ g' h1 rfl).1.trans hg',r⟩
  grind
 | sit s p=>
  obtain⟨b,h1,h2,h3,h4⟩:=h
  obtain⟨k1,k2⟩:=hw _ b h1 rfl
  exact⟨b,hg _ h1,h2,k1.trans h3,k2⟩
 | mp t l=>
  obtain⟨b,es,cl,h1,h2,h3,h4,h5⟩:=h
  obtain⟨k1,k2⟩:=hw _ b h1 rfl
  exact⟨b,es,cl,hg _ h1,h2,k1.trans h3,h4,k2⟩
 | cnt k=>exact hg _ h
 | bld T e s=>
  obtain⟨b,v,h1,h2⟩:=h
  exact⟨b,v,hg _ h1,h2.grow λx hx=>hw _ x h1 hx⟩
 | mat eh e t rows ix lt=>
  obtain⟨hs,h1,h2,h3⟩:=h
  exact⟨hs,hg _ h1,h2.grow (View.cle_refl m) λb hb=>hw _ b h1 (qd7.2 hb),h3⟩
theorem x03 {P:Program} {m m':View} {ρ ρ':List Value}:∀{av:AV} {vs:List Value},x3w av=true->av.ok P m ρ vs->av.ok P m' ρ' vs:=by
 intro av
 induction av with
 | nil=>intro vs _ k; exact k
 | cons a b _ ihb=>
  intro vs h k
  obtain⟨v,rest,k1,k2,k3⟩:=k
  simp only[x3w] at h
  split at h
  ·exact⟨v,rest,k1,k2,ihb h k3⟩
  grind
 | _=>intro vs h; cases h
theorem x04 {P:Program} {m m':View} {ρ ρ':List Value} {g:Nat} {t:Ty} {l:List t.den} (hd:∀v,ρ[g]? = some v->Rd m' (.list t) l [v]):∀{av av':AV} {vs:List Value},x3f g t l av=some av'->av.ok P m ρ vs->av'.ok P m' ρ' vs:=by
 intro av
 induction av with
 | nil=>intro av' vs h k; simp only[x3f,Option.some.injEq] at h; subst h; exact k
 | cons a b _ ihb=>
  intro av' vs h k
  obtain⟨v,rest,k1,k2,k3⟩:=k
  simp only[x3f] at h
  split at h
  ·cases h
  rename_i r' hr'
  have ih:=ihb hr' k3
  split at h
  ·injection h with h; subst h; exact⟨v,rest,k1,k2,ih⟩
  ·split at h
   ·rename_i e
    have e:=zab e
    subst e
    injection h with h; subst h
    obtain⟨u,k4,k5⟩:=k2
    obtain rfl:=(zac k5).1
    exact⟨v,rest,k1,hd v k4.1,ih⟩
   grind
  grind
 | _=>grind [x3f]
theorem w7q (hY:YOk P T m0 N Y RR) (hT:T Z) (hc0:Cells m0) {s:St} {m:View} {ρ:List Value} {a:Act} {w:World} {o:Oper} {c:Call} {x:Operand} {next:Act->World->Prop} {Q:Exit->Act->World->Prop} {k:Bool->St->Prop} (hN:N.has a) (hr2:Rel P Z m0 s m ρ a w)
  (ho:o.op=.call c) (hcc:c.callee=.value x) (hx:a.eval x=.func (.yield Y.l) #[] #[]) (hln:Y.lend=.none) {kn:Nat} (hmem:qa1 s.mem 0=.cnt (some kn)) {mx:View} {mem1:List AObj} {args':AV} (hl1:mem1.length=s.mem.length) (hm1:∀g,qa1 mem1 g=qa1 s.mem g\/(g≠0/\qa1 mem1 g=.dead))
  (hx0:mx.on w) (hxc:Cells mx) (hxn:∀b o,mx b=some o->(Z.n<=b/\¬Z.F b)/\m b=none) (hxo:∀g v b,(qa1 mem1 g).live=true->ρ[g]? = some v->Blk v b->mx b=none)
  (hargs:args'.ok P mx [] (c.args.toList.map a.eval)) (h:x6v Y args' s.ov s.base mem1 kn k) (hd:∀i,o.dst=some i->N.may i)
  (hQ:∀(b:Bool) s' Z' a' w',k b s'->T Z'->Good P Z' m0 N (qv5 o.dst (if b then .tt else .ff) s') a' w'->FR (some Y) (λ_=>False) s s'->next a' w'):o.wpIn (fz rr) nn P a w next Q:=by
 unfold x6v at h
 obtain⟨d,⟨hd1,h⟩,hrd⟩:=qj3 h hargs
 simp only[qo3] at h
 have hρ0:ρ[0]? = some (.int .i64 (code (some kn))):=by have:=hr2.objs 0; rw[hmem] at this; exact this
 obtain⟨kz,hkz⟩:=hY.cls Z hT
 have hkz2:Z.ρ=.int .i64 (code (some kn)) :: RR:=by
  have h1:=hr2.pins 0 (.int .i64 (code kz)) (by rw[hkz]; rfl) rfl
  grind
 have hlt:0<s.mem.length:=by
  grind [Nat.eq_zero_or_pos,q0h]
 obtain⟨fn,tmps,assign,body,hy,hR⟩:=hY.yld Z kn w mx d _ (λ_=>False) hT hkz2 hr2.below hx0 hxc (λb o hb=>.inr (hxn b o hb).1) hd1 (by rw[hln]; exact hrd) (by rw[hln]; exact λb hb=>hb) λb hb=>hb.elim
 have hsem:(o.semAt (fz rr).round a.eval).run P w=.ok (.round Y.l fn tmps assign body) w:=by
  rw[zd8 _ _ _ (λc' e=>by rw[ho] at e; cases e),wl4 ho hcc hx]
  have e:(List.map a.eval c.args.toList).toArray=c.args.map a.eval:=by grind
  rw[e] at hy
  exact hy
 refine⟨λ_ _=>trivial,?_⟩
 rw[hsem]
 refine⟨λhh=>by simp[fz] at hh,zdf (w1f hR rr (nn-1)) ?_⟩
 rintro e w' ⟨-,q1,q2,hld',q3,b,rfl,q4⟩
 have hlv1:∀g,(qa1 mem1 g).live=true->(qa1 s.mem g).live=true:=λg hl=>by
  rcases hm1 g with e | ⟨_,e⟩
  ·rw[<- e]; exact hl
  ·rw[e] at hl; cases hl
 let O:Nat->Prop:=λb=>(Own mem1 ρ b\/qh3 a.defers b)\/(m b≠none/\m0 b=none)
 have hown1:∀b,Own mem1 ρ b->Own s.mem ρ b:=λb ⟨g,v,h1,h2,h3⟩=>⟨g,v,hlv1 g h1,h2,h3⟩
 have hO:∀b,O b->b<w.heap.size/\¬Z.F b/\mx b=none:=by
  rintro b ((hb | hb) | ⟨hb,hb0⟩)
  ·obtain⟨_,h2,h3,h4,_⟩:=hr2.own (hown1 b hb)
   obtain⟨g,v,h5,h6,h7⟩:=hb
   grind
  ·obtain⟨_,h2,h3⟩:=hr2.defers.get hb
   refine⟨(zal.1 h3).1,h2,?_⟩
   cases hm:mx b with
   | none=>rfl
   | some ob=>
    obtain⟨c',t,f,rfl⟩:=hxc b ob hm
    have:=hx0 _ _ hm
    rw[h3] at this; cases this
  ·cases hm:m b with
   | none=>exact absurd hm hb
   | some ob=>
    refine⟨View.lt hr2.view hm,?_,?_⟩
    ·rcases hr2.new b ob hm with h8 | h8
     all_goals grind
    ·cases hm':mx b with
     | none=>rfl
     | some ob'=>grind
 have hn:Z.n<=w'.heap.size:=zah hr2.below.size q2
 obtain⟨k',hk'⟩:∃k',k'=(if b then some (kn+1) else none):=⟨_,rfl⟩
 have hTZ:=q4 O hn λb hb=>⟨(hO b hb).1,(hO b hb).2.1,(hO b hb).2.2,λ_ h=>h⟩
 rw[<- hk'] at hTZ
 have hkp0:∀b,O b->w'.heap[b]? = w.heap[b]?:=λb hb=>q3 b (hO b hb).1 (hO b hb).2.1 (hO b hb).2.2 (λh=>h)
 have hρl:0<ρ.length:=by rw[hr2.len]; exact hlt
 have hρn:∀(g:Nat) (v:Value),g≠0->ρ[g]? = some v->(ρ.set 0 (.int .i64 (code k')))[g]? = some v:=λg v hg hv=>by grind
 have hρb:∀(g:Nat) (v:Value),g≠0->(ρ.set 0 (.int .i64 (code k')))[g]? = some v->ρ[g]? = some v:=λg v hg hv=>by grind
 have hρ00:(ρ.set 0 (.int .i64 (code k')))[0]? = some (.int .i64 (code k')):=by simp[hρl]
 have hρi:∀(g:Nat) (v:Value),(∀i n,v≠.int i n)->ρ[g]? = some v->(ρ.set 0 (.int .i64 (code k')))[g]? = some v:=λg v hi hv=>by
  grind
 obtain⟨s',hs'⟩:∃s':St,s'=⟨s.ov,s.base,qc7 mem1 0 (.cnt k')⟩:=⟨_,rfl⟩
 have hget:∀i,s'.get i=s.get i:=λi=>by rw[hs']; rfl
 have hkk:k b s':=by
  grind
 have hm2:∀g,qa1 s'.mem g=if g=0 then .cnt k' else qa1 mem1 g:=λg=>by
  grind [qa1,qc7,qd1]
 have hlv:∀g u bb,(qa1 s'.mem g).live=true->(ρ.set 0 (.int .i64 (code k')))[g]? = some u->Blk u bb->g≠0/\(qa1 mem1 g).live=true/\ρ[g]? = some u:=λg u bb hl hu hb=>by
  have hg:g≠0:=λe=>by
   subst e
   rw[hρ00] at hu
   obtain rfl:=zaa hu
   cases hb
  grind
 have hview:m.on w':=λb ob hb=>by
  cases h0:m0 b with
  | some ob'=>
   have:=hr2.ext b ob' h0
   rw[hb] at this
   rw[zaa this]
   exact q1 b ob' h0
  | none=>exact(hkp0 b (.inr ⟨(by rw[hb]; simp),h0⟩)).trans (hr2.view b ob hb)
 have hrel:Rel P ⟨Z.n,w',λb=>b<w'.heap.size/\¬O b,hn,.int .i64 (code k') :: RR⟩ m0 s' m (ρ.set 0 (.int .i64 (code k'))) a w':=by
  refine⟨λi=>?_,?_,λv hv=>?_,?_,λg=>?_,λg g' v v' bb hne l1 l2 u1 u2 b1 b2=>?_,hview,hr2.ext,λbb ob hb=>?_,⟨rfl,rfl,rfl,zad _,λb hb=>⟨hb.1,rfl⟩⟩,λg v bb l1 u1 b1 hF=>?_,λg v hv hp=>?_⟩
  ·rw[hget]; exact ok0 hρi (hr2.slots i)
  ·rw[hs']
   show _=(qc7 mem1 0 (.cnt k')).length
   rw[qc9 _ _ _ (by rw[hl1]; exact hlt),hl1,zaz,hr2.len]
  ·rcases zaw hv with hv | rfl
   ·exact hr2.hdr v hv
   ·rfl
  ·have key:∀ds:List Deferred,(∀b,qh3 ds b->qh3 a.defers b)->Marks Z w ds->Marks ⟨Z.n,w',λb=>b<w'.heap.size/\¬O b,hn,.int .i64 (code k') :: RR⟩ w' ds:=by
    intro ds
    induction ds with
    | nil=>intro _ _; trivial
    | cons d ds ih=>
     rintro hsub ⟨⟨D,h1,h2,h3,h4,h5⟩,h6⟩
     have hD:qh3 a.defers D:=hsub D ⟨d,by simp,h1⟩
     exact⟨⟨D,h1,h2,λhF=>hF.2 (.inl (.inr hD)),(hkp0 D (.inl (.inr hD))).trans h4,h5⟩,ih (λb ⟨e,he,hb⟩=>hsub b ⟨e,by simp[he],hb⟩) h6⟩
   exact key _ (λ_ h=>h) hr2.defers
  ·rw[hm2]
   split
   ·rename_i e; subst e; exact hρ00
   ·rename_i hg
    rcases hm1 g with e | ⟨_,e⟩
    ·have hob:=hr2.objs g
     rw[<- e] at hob
     by_cases hl:(qa1 mem1 g).live=true
     ·refine x4j hob hρi (λv hv=>hρn g v hg hv) λv bb hv hb=>?_
      have ho:Own mem1 ρ bb:=⟨g,v,hl,hv,hb⟩
      exact⟨hkp0 bb (.inl (.inl ho)),(hr2.own (hown1 bb ho)).2.2.1⟩
     ·cases hq:qa1 mem1 g <;> rw[hq] at hl <;> first | exact absurd rfl hl | trivial
    ·rw[e]; trivial
  ·obtain⟨_,x2,x3⟩:=hlv g v bb l1 u1 b1
   obtain⟨_,y2,y3⟩:=hlv g' v' bb l2 u2 b2
   exact hr2.apart g g' v v' bb hne (hlv1 g x2) (hlv1 g' y2) x3 y3 b1 b2
  ·cases h0:m0 bb with
   | some ob'=>
    have:=hr2.ext bb ob' h0
    grind
   | none=>
    rcases hr2.new bb ob hb with h8 | h8
    all_goals grind
  ·obtain⟨_,x2,x3⟩:=hlv g v bb l1 u1 b1
   exact hF.2 (.inl (.inl ⟨g,v,x2,x3,b1⟩))
  ·cases g with
   | zero=>grind
   | succ g=>exact hρn _ _ ow (hr2.pins (g+1) v (by rw[hkz2]; exact hv) hp)
 exact hQ b s' _ _ _ hkk hTZ (Good.put hN hrel (v:=.bool b) (by cases b <;> rfl) hd) λi _ _=>hget i
theorem x05 (hY:YOk P T m0 N Y RR) (hT:T Z) (hc0:Cells m0) {s:St} {m:View} {ρ:List Value} {a:Act} {w:World} {o:Oper} {c:Call} {x:Operand} {next:Act->World->Prop} {Q:Exit->Act->World->Prop} {k:Bool->St->Prop} (hN:N.has a) (hr2:Rel P Z m0 s m ρ a w)
  (ho:o.op=.call c) (hcc:c.callee=.value x) (hx:a.eval x=.func (.yield Y.l) #[] #[]) {kn:Nat} (hmem:qa1 s.mem 0=.cnt (some kn)) (h:x64 Y (qk1 (qc8 s.ov s.base) c.args.toList) s.ov s.base s.mem kn k) (hd:∀i,o.dst=some i->N.may i)
  (hQ:∀(b:Bool) s' Z' a' w',k b s'->T Z'->Good P Z' m0 N (qv5 o.dst (if b then .tt else .ff) s') a' w'->FR (some Y) (λ_=>False) s s'->next a' w'):o.wpIn (fz rr) nn P a w next Q:=by
 have hargs:=q0j (P:=P) (m:=m) (ρ:=ρ) hr2.eval c.args.toList
 unfold x64 at h
 split at h
 ·grind
 rename_i hln
 split at h
 ·rename_i hl
  exact w7q hY hT hc0 hN hr2 ho hcc hx hln hmem (mx:=λ_=>none) (mem1:=s.mem) rfl (λg=>.inl rfl) (λb o hb=>by grind) (λb o hb=>by grind) (λb o hb=>by grind) (λ_ _ _ _ _ _=>rfl) (x03 hl hargs) h hd hQ
 split at h
 case h_2=>grind
 rename_i g _
 split at h
 case h_2=>grind
 rename_i e t l hm
 split at h
 case h_2=>grind
 rename_i hg0 hfl
 have hg0:g≠0:=λe=>by grind
 obtain⟨args',hf,h⟩:=withSome_iff.1 h
 have hk:=hr2.objs g
 rw[hm] at hk
 obtain⟨v,vs,h1,h2,h3,h4⟩:=hk
 have hlive:(qa1 s.mem g).live=true:=by rw[hm]; rfl
 have hlt:g<s.mem.length:=qd6 hlive
 let mx:View:=λb=>if v.ownBlock=some b then w.heap[b]? else none
 have hmx:∀b o,mx b=some o->v.ownBlock=some b/\w.heap[b]? = some o:=λb o hb=>by
  grind
 have hrd:∀u,ρ[g]? = some u->Rd mx (.list t) l [u]:=λu hu=>by
  rw[h1] at hu
  obtain rfl:=zaa hu
  exact qm2 h3 (qi6 hfl h2) λb hb=>by grind
 have hl2:(qc7 s.mem g AObj.dead).length=s.mem.length:=qc9 _ _ _ hlt
 have hms:∀g',qa1 (qc7 s.mem g AObj.dead) g'=if g'=g then .dead else qa1 s.mem g':=λg'=>qd1 _ _ _ _ hlt
 refine w7q hY hT hc0 hN hr2 ho hcc hx hln hmem (mx:=mx) (mem1:=qc7 s.mem g .dead) hl2 (λg'=>?_) (λb o hb=>(hmx b o hb).2) (λb o hb=>?_) (λb o hb=>?_) (λg' u b hl hu hb=>?_) (x04 hrd hf hargs) h hd hQ
 ·grind
 ·obtain⟨h5,h6⟩:=hmx b o hb
  obtain⟨c',t',f',h7⟩:=(own_blk h3 ((qh6 h3).2 h5)).2.2
  grind
 ·obtain⟨h5,h6⟩:=hmx b o hb
  have ho:Own s.mem ρ b:=⟨g,v,hlive,h1,(qk4 h3).2 h5⟩
  obtain⟨o1,o2,o3,o4,_⟩:=hr2.own ho
  grind
 ·rw[hms] at hl
  split at hl
  ·cases hl
  ·rename_i hne
   cases hb':mx b with
   | none=>rfl
   | some ob=>
    have h5:=(hmx b ob hb').1
    exact(hr2.apart g' g u v b hne hl hlive hu h1 hb ((qk4 h3).2 h5)).elim
theorem x4k (hY:YOk P T m0 N Y RR) (hT:T Z) (hc0:Cells m0) {s:St} {m:View} {ρ:List Value} {a:Act} {w:World} {o:Oper} {c:Call} {x:Operand} {next:Act->World->Prop} {Q:Exit->Act->World->Prop} {k:Bool->St->Prop} (hN:N.has a) (hr:Rel P Z m0 s m ρ a w)
  (ho:o.op=.call c) (hcc:c.callee=.value x) (hx:a.eval x=.func (.yield Y.l) #[] #[]) (h:x65 Y (qk1 (qc8 s.ov s.base) c.args.toList) s.ov s.base s.mem k) (hd:∀i,o.dst=some i->N.may i) (hfx:wl3 (some Y))
  (hQ:∀(b:Bool) s' Z' a' w',k b s'->T Z'->Good P Z' m0 N (qv5 o.dst (if b then .tt else .ff) s') a' w'->FR (some Y) (λ_=>False) s s'->next a' w'):o.wpIn (fz rr) nn P a w next Q:=by
 unfold x65 at h
 split at h
 case h_2=>exact h.elim
 rename_i kn hmem
 have hr2:=hr.cells
 rw[hc0.eq] at hr2
 split at h
 ·exact x05 hY hT hc0 hN hr2 ho hcc hx hmem h hd hQ
 have hargs:=q0j (P:=P) (m:=m.cells) (ρ:=ρ) hr2.eval c.args.toList
 obtain⟨d,B,⟨hd1,h⟩,hrd,hld,hcase⟩:=ww0 hr2 h hargs
 have hBo:∀b,B b->∃g v,(∃e t l,qa1 s.mem g=.vec e t l)/\ρ[g]? = some v/\Blk v b:=λb hb=>by
  rcases hcase with⟨q,_⟩ | ⟨g,e,t,v,l,q1,q2,q3,q4,q5,_⟩
  ·exact absurd hb (q b)
  ·exact⟨g,v,⟨e,t,l,q1⟩,q2,qg7 ((q4 b).1 hb)⟩
 have hBown:∀b,B b->Own s.mem ρ b:=λb hb=>by
  obtain⟨g,v,⟨e,t,l,q1⟩,q2,q3⟩:=hBo b hb
  exact⟨g,v,by rw[q1]; rfl,q2,q3⟩
 simp only[q49,qo3] at h
 -- how often
 have hρ0:ρ[0]? = some (.int .i64 (code (some kn))):=by have:=hr.objs 0; rw[hmem] at this; exact this
 obtain⟨kz,hkz⟩:=hY.cls Z hT
 have hkz2:Z.ρ=.int .i64 (code (some kn)) :: RR:=by
  have h1:=hr.pins 0 (.int .i64 (code kz)) (by rw[hkz]; rfl) rfl
  rw[hρ0] at h1
  injection h1 with h1
  injection h1 with _ h1
  rw[hkz,h1]
 have hlt:0<s.mem.length:=by
  rcases zb2 s.mem.length with h0 | h0
  ·rw[q0h _ _ ow] at hmem; cases hmem
  ·exact h0
 obtain⟨fn,tmps,assign,body,hy,hR⟩:=hY.yld Z kn w m.cells d _ B hT hkz2 hr2.below hr2.view Cells.of hr2.new hd1 hrd hld λb hb=>by
  obtain⟨o1,o2,o3,o4,_⟩:=hr2.own (hBown b hb)
  exact⟨o1,o2,o4,o3⟩
 have hsem:(o.semAt (fz rr).round a.eval).run P w=.ok (.round Y.l fn tmps assign body) w:=by
  rw[zd8 _ _ _ (λc' e=>by rw[ho] at e; cases e),wl4 ho hcc hx]
  have e:(List.map a.eval c.args.toList).toArray=c.args.map a.eval:=by rw[<- Array.toList_map,zd1]
  rw[e] at hy
  exact hy
 refine⟨λ_ _=>trivial,?_⟩
 rw[hsem]
 refine⟨λhh=>by simp[fz] at hh,zdf (w1f hR rr (nn-1)) ?_⟩
 rintro e w' ⟨-,q1,q2,hld',q3,b,rfl,q4⟩
 obtain⟨mK,hmKe⟩:∃mK,mK=(if b then s.mem else w6c Y.lend (qk1 (qc8 s.ov s.base) c.args.toList) s.mem):=⟨_,rfl⟩
 obtain⟨hlK,hmK,hBK⟩:mK.length=s.mem.length/\(∀g,qa1 mK g=qa1 s.mem g\/(g≠0/\qa1 mK g=.dead))/\(b=false->∀bb,B bb->¬Own mK ρ bb):=by
  cases b with
  | true=>rw[hmKe]; exact⟨rfl,λg=>.inl rfl,λe=>by cases e⟩
  | false=>
   have hmKe:mK=w6c Y.lend (qk1 (qc8 s.ov s.base) c.args.toList) s.mem:=hmKe
   rcases hcase with⟨q,e⟩ | ⟨g,e,t,v,l,y1,y2,y3,y4,y5,y6⟩
   ·rw[hmKe,e]; exact⟨rfl,λg=>.inl rfl,λ_ bb hb=>absurd hb (q bb)⟩
   ·have hl:(qa1 s.mem g).live=true:=by rw[y1]; rfl
    have hg:=qd6 hl
    have hms:∀g',qa1 mK g'=if g'=g then .dead else qa1 s.mem g':=λg'=>by rw[hmKe,y6]; exact qd1 _ _ _ _ hg
    refine⟨by rw[hmKe,y6]; exact qc9 _ _ _ hg,λg'=>?_,λ_ bb hb ⟨g',v',x1,x2,x3⟩=>?_⟩
    ·rw[hms]
     split
     ·rename_i e'; subst e'
      exact .inr ⟨λe'=>(by subst e'; rw[hmem] at y1; cases y1),rfl⟩
     ·exact .inl rfl
    ·rw[hms] at x1
     split at x1
     ·cases x1
     ·rename_i hne
      exact hr2.apart g' g v' v bb hne x1 hl x2 y2 x3 (qg7 ((y4 bb).1 hb))
 have hlvK:∀g,(qa1 mK g).live=true->(qa1 s.mem g).live=true:=λg hl=>by
  rcases hmK g with e | ⟨_,e⟩
  ·rw[<- e]; exact hl
  ·rw[e] at hl; cases hl
 have hownK:∀b,Own mK ρ b->Own s.mem ρ b:=λb ⟨g,v,h1,h2,h3⟩=>⟨g,v,hlvK g h1,h2,h3⟩
 let O:Nat->Prop:=λb=>Own mK ρ b\/qh3 a.defers b
 have hO:∀bb,O bb->bb<w.heap.size/\¬Z.F bb/\m.cells bb=none/\(b=false->¬B bb):=by
  rintro bb (hb | hb)
  ·obtain⟨_,h2,h3,h4,_⟩:=hr2.own (hownK bb hb)
   exact⟨h2,h4,h3,λe hB=>hBK e bb hB hb⟩
  ·obtain⟨_,h2,h3⟩:=hr2.defers.get hb
   refine⟨(zal.1 h3).1,h2,?_,λ_ hB=>by
    obtain⟨_,_,_,_,o,q5,q6⟩:=hr2.own (hBown bb hB)
    rw[h3] at q5; obtain rfl:=zaa q5; exact q6⟩
   cases hm:m.cells bb with
   | none=>rfl
   | some ob=>
    obtain⟨c',t,f,rfl⟩:=View.cells_is hm
    have:=hr2.view _ _ hm
    rw[h3] at this; cases this
 have hn:Z.n<=w'.heap.size:=zah hr.below.size q2
 obtain⟨k',hk'⟩:∃k',k'=(if b then some (kn+1) else none):=⟨_,rfl⟩
 have hTZ:=q4 O hn hO
 rw[<- hk'] at hTZ
 have hkp0:∀b,O b->¬B b->w'.heap[b]? = w.heap[b]?:=λb hb hnb=>q3 b (hO b hb).1 (hO b hb).2.1 (hO b hb).2.2.1 hnb
 have hkp:∀g v b,(qa1 mK g).live=true->(∀e t l,qa1 mK g≠.vec e t l)->ρ[g]? = some v->Blk v b->w'.heap[b]? = w.heap[b]?:=λg v b hl hnv hv hb=>hkp0 b (.inl ⟨g,v,hl,hv,hb⟩) λhB=>by
  obtain⟨g',v',⟨e,t,l,k1⟩,k2,k3⟩:=hBo b hB
  by_cases hg:g=g'
  ·subst hg
   rcases hmK g with e' | ⟨_,e'⟩
   ·exact hnv e t l (e'.trans k1)
   ·rw[e'] at hl; cases hl
  ·exact hr2.apart g g' v v' b hg (hlvK g hl) (by rw[k1]; rfl) hv k2 hb k3
 have hm0n:∀b,Own mK ρ b->m0 b=none:=λb hb=>by
  have h1:=(hr2.own (hownK b hb)).2.2.1
  cases h2:m0 b with
  | none=>rfl
  | some ob=>have:=hr2.ext b ob h2; rw[h1] at this; cases this
 have h0p:∀b,ρ[0]?≠some (.pointer b):=λb hb=>by rw[hρ0] at hb; cases hb
 have hρl:0<ρ.length:=by rw[hr.len]; exact hlt
 have hρn:∀(g:Nat) (v:Value),g≠0->ρ[g]? = some v->(ρ.set 0 (.int .i64 (code k')))[g]? = some v:=λg v hg hv=>by rw[zbt (zc9 hg)]; exact hv
 have hρb:∀(g:Nat) (v:Value),g≠0->(ρ.set 0 (.int .i64 (code k')))[g]? = some v->ρ[g]? = some v:=λg v hg hv=>by rw[zbt (zc9 hg)] at hv; exact hv
 have hρ00:(ρ.set 0 (.int .i64 (code k')))[0]? = some (.int .i64 (code k')):=by simp[hρl]
 obtain⟨s',hs'⟩:∃s':St,s'=⟨w3d Y.fix (w3c s.ov),λi=>(s.base i).hav,qc7 (ql5 mK) 0 (.cnt k')⟩:=⟨_,rfl⟩
 have hget:∀i,s'.get i=look Y.fix i (s.get i).hav:=λi=>by
  rw[hs']
  show look (w3d Y.fix (w3c s.ov)) i (s.base i).hav=_
  rw[w1d,w1e]
  rfl
 have hkk:k b s':=by
  rw[hs',hk',hmKe]
  cases b with
  | true=>exact h.1
  | false=>exact h.2
 have hm1:∀g,qa1 s'.mem g=if g=0 then .cnt k' else(qa1 mK g).hav:=λg=>by
  rw[hs']
  show qa1 (qc7 (ql5 mK) 0 (.cnt k')) g=_
  rw[qd1 _ _ _ _ (by rw[qo8,hlK]; exact hlt),qw1]
 have hlv:∀g u bb,(qa1 s'.mem g).live=true->(ρ.set 0 (.int .i64 (code k')))[g]? = some u->Blk u bb->g≠0/\(qa1 mK g).live=true/\ρ[g]? = some u:=λg u bb hl hu hb=>by
  have hg:g≠0:=λe=>by
   subst e
   rw[hρ00] at hu
   obtain rfl:=zaa hu
   cases hb
  rw[hm1,zai hg] at hl
  exact⟨hg,wb7 hl,hρb g u hg hu⟩
 have hrel:Rel P ⟨Z.n,w',λb=>b<w'.heap.size/\¬O b,hn,.int .i64 (code k') :: RR⟩ m0 s' m0 (ρ.set 0 (.int .i64 (code k'))) a w':=by
  refine⟨λi=>?_,?_,λv hv=>?_,?_,λg=>?_,λg g' v v' bb hne l1 l2 u1 u2 b1 b2=>?_,q1,View.le_refl m0,λ_ _ hb=>.inl hb,⟨rfl,rfl,rfl,zad _,λb hb=>⟨hb.1,rfl⟩⟩,λg v bb l1 u1 b1 hF=>?_,λg v hv hp=>?_⟩
  ·rw[hget]
   rcases qr9 (i:=i) (d:=(s.get i).hav) (l:=Y.fix) with⟨e,_⟩ | e
   ·rw[e]; exact w1c (.inr h0p) hρn (hr.slots i)
   ·exact AV.ok_le (View.le_refl m0) qk5 (hY.fix _ e a hN)
  ·rw[hs']
   show _=(qc7 (ql5 mK) 0 (.cnt k')).length
   rw[qc9 _ _ _ (by rw[qo8,hlK]; exact hlt),qo8,hlK,zaz,hr.len]
  ·rcases zaw hv with hv | rfl
   ·exact hr.hdr v hv
   ·rfl
  ·have key:∀ds:List Deferred,(∀b,qh3 ds b->qh3 a.defers b)->Marks Z w ds->Marks ⟨Z.n,w',λb=>b<w'.heap.size/\¬O b,hn,.int .i64 (code k') :: RR⟩ w' ds:=by
    intro ds
    induction ds with
    | nil=>intro _ _; trivial
    | cons d ds ih=>
     rintro hsub ⟨⟨D,h1,h2,h3,h4,h5⟩,h6⟩
     have hD:qh3 a.defers D:=hsub D ⟨d,by simp,h1⟩
     exact⟨⟨D,h1,h2,λhF=>hF.2 (.inr hD),(hkp0 D (.inr hD) λhB=>by
      obtain⟨_,_,_,_,o,q5,q6⟩:=hr2.own (hBown D hB)
      rw[h4] at q5; obtain rfl:=zaa q5; exact q6).trans h4,h5⟩,ih (λb ⟨e,he,hb⟩=>hsub b ⟨e,by simp[he],hb⟩) h6⟩
   exact key _ (λ_ h=>h) hr.defers
  ·rw[hm1]
   split
   ·rename_i e; subst e; exact hρ00
   ·rename_i hg
    rcases hmK g with eK | ⟨_,eK⟩
    ·have hob:=hr.objs g
     rw[<- eK] at hob
     cases hq:qa1 mK g with
     | dead=>trivial
     | cnt n=>rw[hq] at hob; exact hρn _ _ hg hob
     | box ty cs=>
      rw[hq] at hob
      obtain⟨bb,vs,k1,k2,k3,k4,k5,k6⟩:=hob
      have ho:Own mK ρ bb:=⟨g,_,by rw[hq]; rfl,k1,rfl⟩
      exact⟨bb,vs,hρn _ _ hg k1,k2,(hkp g _ bb (by rw[hq]; rfl) (by rw[hq]; intro _ _ _ h; cases h) k1 rfl).trans k3,w1c (.inr h0p) hρn k4,k5,hm0n _ ho⟩
     | vec e t l=>
      rw[hq] at hob
      obtain⟨v,vs,k1,k2,k3,k4⟩:=hob
      simp only[AObj.hav]
      split
      ·rename_i hfl
       have hkb:∀bb,v.ownBlock=some bb->Own mK ρ bb:=λbb hb=>⟨g,v,by rw[hq]; rfl,k1,qg7 hb⟩
       by_cases hlt':∃bb,v.ownBlock=some bb/\B bb
       ·obtain⟨bb,hb1,hb2⟩:=hlt'
        rcases hcase with⟨q,_⟩ | ⟨g',e',t',v',l',p1,p2,p3,p4,p5,_⟩
        ·exact absurd hb2 (q bb)
        obtain rfl:g=g':=zan λhne=>hr2.apart g g' v v' bb hne (hlvK g (by rw[hq]; rfl)) (by rw[p1]; rfl) k1 p2 (qg7 hb1) (qg7 ((p4 bb).1 hb2))
        rw[<- eK,hq] at p1
        rw[k1] at p2
        obtain rfl:=zaa p2
        injection p1 with p1 p1' p1''
        subst p1 p1'
        obtain rfl:=zdm p1''
        obtain⟨xs,y1,y2⟩:=p5 w' hld'
        refine⟨v,xs,hρn _ _ hg k1,qi6 hfl y1,⟨y2.1,?_⟩,λbb hb=>hm0n _ (hkb bb hb)⟩
        rcases y2.2 with h0 | ⟨g',cap,cur,rfl,hB,hg',r⟩
        ·exact .inl h0
        ·rcases k3.2 with⟨h0,_⟩ | ⟨_,_,_,h0,hB',_⟩
         ·cases h0
         ·injection h0 with h0
          injection h0 with h0
          injection h0 with h0
          subst h0
          exact .inr ⟨_,cap,cur,rfl,hB',hg',r⟩
       ·refine⟨v,vs,hρn _ _ hg k1,qi6 hfl k2,⟨k3.1,?_⟩,λbb hb=>hm0n _ (hkb bb hb)⟩
        rcases k3.2 with h0 | ⟨g',cap,cur,rfl,hB,hg',r⟩
        ·exact .inl h0
        ·exact .inr ⟨g',cap,cur,rfl,hB,(hkp0 g' (.inl (hkb g' rfl)) λhB=>hlt' ⟨g',rfl,hB⟩).trans hg',r⟩
      ·trivial
     | bld T e q=>
      rw[hq] at hob
      obtain⟨bb,v,k1,k2⟩:=hob
      have hkb:∀x,Blk (q5w bb v) x->Own mK ρ x:=λx hx=>⟨g,_,by rw[hq]; rfl,k1,hx⟩
      exact⟨bb,v,hρn _ _ hg k1,k2.grow λx hx=>⟨hkp g _ x (by rw[hq]; rfl) (by rw[hq]; intro _ _ _ h; cases h) k1 hx,hm0n _ (hkb x hx)⟩⟩
     | sit q p=>
      rw[hq] at hob
      obtain⟨bb,k1,k2,k3,k4⟩:=hob
      have ho:Own mK ρ bb:=⟨g,_,by rw[hq]; rfl,k1,rfl⟩
      exact⟨bb,hρn _ _ hg k1,k2,(hkp g _ bb (by rw[hq]; rfl) (by rw[hq]; intro _ _ _ h; cases h) k1 rfl).trans k3,hm0n _ ho⟩
     | mp t l=>
      rw[hq] at hob
      obtain⟨bb,es,cl,k1,k2,k3,k4,k5⟩:=hob
      have ho:Own mK ρ bb:=⟨g,_,by rw[hq]; rfl,k1,rfl⟩
      exact⟨bb,es,cl,hρn _ _ hg k1,k2,(hkp g _ bb (by rw[hq]; rfl) (by rw[hq]; intro _ _ _ h; cases h) k1 rfl).trans k3,k4,hm0n _ ho⟩
     | mat eh e t rows ix lt=>
      rw[hq] at hob
      obtain⟨hs,k1,k2,k3⟩:=hob
      simp only[AObj.hav]
      split
      ·rename_i hfl
       have hkb:∀u bb,u∈hs->blk u=some bb->Own mK ρ bb:=λu bb hu hb=>⟨g,_,by rw[hq]; rfl,k1,qd7.2 ⟨u,hu,hb⟩⟩
       refine⟨hs,hρn _ _ hg k1,?_,k3⟩
       have k4:PoolOk m0 w Z.n eh e t rows ix hs:=k2.flat hfl λu bb hu hb=>hm0n _ (hkb u bb hu hb)
       exact k4.grow (View.cle_refl m0) λbb ⟨u,hu,hb⟩=>⟨hkp g _ bb (by rw[hq]; rfl) (by rw[hq]; intro _ _ _ h; cases h) k1 (qd7.2 ⟨u,hu,hb⟩),hm0n _ (hkb u bb hu hb)⟩
      ·trivial
    ·rw[eK]; trivial
  ·obtain⟨_,x2,x3⟩:=hlv g v bb l1 u1 b1
   obtain⟨_,y2,y3⟩:=hlv g' v' bb l2 u2 b2
   exact hr.apart g g' v v' bb hne (hlvK g x2) (hlvK g' y2) x3 y3 b1 b2
  ·obtain⟨_,x2,x3⟩:=hlv g v bb l1 u1 b1
   exact hF.2 (.inl ⟨g,v,x2,x3,b1⟩)
  ·cases g with
   | zero=>simp only[List.getElem?_cons_zero,Option.some.injEq] at hv; subst hv; exact hρ00
   | succ g=>exact hρn _ _ ow (hr.pins (g+1) v (by rw[hkz2]; exact hv) hp)
 refine hQ b s' _ _ _ hkk hTZ (Good.put hN hrel (v:=.bool b) (by cases b <;> rfl) hd) λi _ hst=>?_
 rw[hget]
 have h1:look Y.fix i (s.get i).strip.hav=s.get i:=hst
 have h2:(s.get i).strip=s.get i:=by
  have:=q3f hfx i (s.get i)
  rw[hst] at this
  exact this
 rw[h2] at h1
 exact h1
theorem Rel.havs {s:St} {m:View} {ρ:List Value} {a:Act} {w:World} (hr:Rel P Z m0 s m ρ a w) {ov':List (Nat × AV)} {base':Nat->AV} (hsl:∀i,(St.get ⟨ov',base',ql5 s.mem⟩ i).ok P m0 ρ [a.tmps.getD i undef]):Rel P Z m0 ⟨ov',base',ql5 s.mem⟩ m0 ρ a w:=by
 have hm0n:∀b,Own s.mem ρ b->m0 b=none:=λb hb=>by
  have h1:=(hr.own hb).2.2.1
  cases h2:m0 b with
  | none=>rfl
  | some ob=>have:=hr.ext b ob h2; grind
 have hlv:∀g,(qa1 (ql5 s.mem) g).live=true->(qa1 s.mem g).live=true:=λg h=>by grind [qw1,wb7]
 refine⟨hsl,by rw[hr.len]; grind [qo8],hr.hdr,hr.defers,λg=>?_,λg g' v v' bb hne l1 l2 u1 u2 b1 b2=>hr.apart g g' v v' bb hne (hlv g l1) (hlv g' l2) u1 u2 b1 b2,λb o hb=>hr.view b o (hr.ext b o hb),View.le_refl m0,λ_ _ hb=>.inl hb,hr.below,λg v b l1 u1 b1=>hr.zone g v b (hlv g l1) u1 b1,hr.pins⟩
 show ObjOk P m0 ρ w Z.n g (qa1 (ql5 s.mem) g)
 rw[qw1]
 have hob:=hr.objs g
 cases hq:qa1 s.mem g with
 | dead=>trivial
 | cnt n=>rw[hq] at hob; exact hob
 | box ty cs=>
  rw[hq] at hob
  obtain⟨bb,vs,k1,k2,k3,k4,k5,k6⟩:=hob
  exact⟨bb,vs,k1,k2,k3,w1c (.inl rfl) (λ_ _ _ h=>h) k4,k5,hm0n _ ⟨g,_,by rw[hq]; rfl,k1,rfl⟩⟩
 | vec e t l=>
  rw[hq] at hob
  obtain⟨v,vs,k1,k2,k3,k4⟩:=hob
  simp only[AObj.hav]
  split
  ·rename_i hfl
   exact⟨v,vs,k1,qi6 hfl k2,k3,λbb hb=>hm0n _ ⟨g,v,by rw[hq]; rfl,k1,qg7 hb⟩⟩
  ·trivial
 | bld T e q=>
  rw[hq] at hob
  obtain⟨bb,v,k1,k2⟩:=hob
  exact⟨bb,v,k1,k2.grow λx hx=>⟨rfl,hm0n _ ⟨g,_,by rw[hq]; rfl,k1,hx⟩⟩⟩
 | sit q p=>
  rw[hq] at hob
  obtain⟨bb,k1,k2,k3,k4⟩:=hob
  exact⟨bb,k1,k2,k3,hm0n _ ⟨g,_,by rw[hq]; rfl,k1,rfl⟩⟩
 | mp t l=>
  rw[hq] at hob
  obtain⟨bb,es,cl,k1,k2,k3,k4,k5⟩:=hob
  exact⟨bb,es,cl,k1,k2,k3,k4,hm0n _ ⟨g,_,by rw[hq]; rfl,k1,rfl⟩⟩
 | mat eh e t rows ix lt=>
  rw[hq] at hob
  obtain⟨hs,k1,k2,k3⟩:=hob
  simp only[AObj.hav]
  split
  ·rename_i hfl
   exact⟨hs,k1,k2.flat hfl λu bb hu hb=>hm0n _ ⟨g,_,by rw[hq]; rfl,k1,qd7.2 ⟨u,hu,hb⟩⟩,k3⟩
  ·trivial
theorem w1g (hS:SoundAt P C m0) (hCy:C.yl=some Y) (hY:YOk P T m0 N Y RR) (hc0:Cells m0) {D:Nat->Prop} {all:Array Oper} (hall:∀o∈all.toList,∀d,o.dst=some d->D d/\N.may d) {o:Oper} (ho:o∈all.toList) {s:St} {K:St->Prop} {a:Act} {w:World} (hT:T Z) (hg:Good P Z m0 N s a w)
  (h:xz3 C Y all.toList o s K) {next:Act->World->Prop} {Q:Exit->Act->World->Prop} (hQ:∀s' Z' a' w',K s'->T Z'->FR C.yl D s s'->Good P Z' m0 N s' a' w'->next a' w') :
  if Region.wanted o (yielded all a.tmps) then o.wpIn (fz rr) nn P a w next Q else(∀f,o.about P w a.eval=some f->(fz rr).fn f)/\next (a.put o.dst undef) w:=by
 have hfx:wl3 C.yl:=hS.fixs
 obtain⟨hN,m,ρ,hr⟩:=hg
 have go:∀s1:St,Rel P Z m0 s1 m ρ a w->FR C.yl D s s1->s1.mem=s.mem->(q2a s.mem.length lits λnm=>opY C Y o nm s1.ov s1.base s1.mem λv s'=>K (qv5 o.dst v s'))->o.wpIn (fz rr) nn P a w next Q:=by
  intro s1 hr1 hf1 hm1 h1
  rw[qm9,<- hm1] at h1
  unfold opY at h1
  split at h1
  ·obtain⟨hd,hres⟩:=x0q (k:=λv e=>w58 C o.dst v λv=>q95 s1.ov s1.base s1.mem s1.mem.length e λs'=>K (qv5 o.dst v s')) (nm:=s1.mem.length) hS hr1 (.inl rfl) h1
   refine w6w hres hd λv w' ⟨av,e,m',ρ',k1,_,k2,k3⟩=>?_
   simp only[wt9,q34] at k1
   exact hQ _ Z _ _ k1 hT (hf1.trans ((FR.eff hfx s1 _ e).trans (FR.put _ (λi hi=>(hall o ho i hi).1)))) (Good.put hN k3 k2 (λi hi=>(hall o ho i hi).2))
  ·split at h1
   case h_2=>grind
   rename_i c hoc
   split at h1
   case h_2=>grind
   rename_i x hx
   have hxe:=hr1.eval x
   simp only[x3x] at h1
   split at h1
   case h_2=>grind
   rename_i lv hlv
   obtain⟨rfl,h1⟩:=h1
   rw[hlv] at hxe
   refine x4k hY hT hc0 (s:=s1) hN hr1 hoc hx (zac hxe).1 h1 (λi hi=>(hall o ho i hi).2) (by grind) λb s' Z' a' w' k1 k2 k3 k4=>?_
   refine hQ (qv5 o.dst (if b then .tt else .ff) s') Z' a' w' (by grind) k2 (hf1.trans (FR.trans ?_ (FR.put _ (λi hi=>(hall o ho i hi).1)))) k3
   rw[hCy]
   exact k4.mono λ_ hh=>hh.elim
 obtain⟨ov,base,mem⟩:=s
 simp only[xz3] at h
 cases hgd:o.guard with
 | none=>
  rw[hgd] at h
  rw[zap (by grind [Region.wanted])]
  exact go ⟨ov,base,mem⟩ hr (FR.refl _ _ _) rfl h
 | some jw=>
  obtain⟨j,want⟩:=jw
  rw[hgd] at h
  obtain⟨og,h1,h⟩:=withSome_iff.1 h
  obtain⟨d,h2,h⟩:=withSome_iff.1 h
  have hog:og∈all.toList:=zag h1
  have hd:=hall og hog d h2
  have hfr:∀av:AV,FR C.yl D ⟨ov,base,mem⟩ ⟨(d,av) :: ov,base,mem⟩:=λav=>FR.put (d:=some d) (v:=av) ⟨ov,base,mem⟩ (λi hi=>by grind)
  have hy:∀b,a.tmps.getD d undef=.bool b->yielded all a.tmps j=some b:=by
   grind [yielded,w1a]
  have hy2:a.tmps.getD d undef=undef->yielded all a.tmps j=none:=by
   grind [qy1]
  have skip:∀av:AV,av.ok P m ρ [a.tmps.getD d undef]->Region.wanted o (yielded all a.tmps)=false->K (qv5 o.dst (.tup .nil) ⟨(d,av) :: ov,base,mem⟩) ->
    if Region.wanted o (yielded all a.tmps) then o.wpIn (fz rr) nn P a w next Q else(∀f,o.about P w a.eval=some f->(fz rr).fn f)/\next (a.put o.dst undef) w:=by
   intro av hav hw hk
   rw[zai (by grind)]
   exact⟨λ_ _=>trivial,hQ _ Z _ _ hk hT ((hfr av).trans (FR.put _ (λi hi=>(hall o ho i hi).1))) (Good.put hN (hr.know hav) (av:=.tup .nil) ⟨[],rfl,rfl⟩ (λi hi=>(hall o ho i hi).2))⟩
  have run:∀av:AV,av.ok P m ρ [a.tmps.getD d undef]->Region.wanted o (yielded all a.tmps)=true->(q2a mem.length lits λnm=>opY C Y o nm ((d,av) :: ov) base mem λv s'=>K (qv5 o.dst v s')) ->
    if Region.wanted o (yielded all a.tmps) then o.wpIn (fz rr) nn P a w next Q else(∀f,o.about P w a.eval=some f->(fz rr).fn f)/\next (a.put o.dst undef) w:=by
   intro av hav hw hk
   rw[zap hw]
   exact go ⟨(d,av) :: ov,base,mem⟩ (hr.know hav) (hfr av) rfl hk
  have hslot:=hr.slots d
  cases want with
  | true=>
   cases hsk:(look ov d (base d)).skipped with
   | true=>
    rw[hsk] at h
    have hu:=qw0 hsk hslot
    exact skip (.tup .nil) (by rw[hu]; exact⟨[],rfl,rfl⟩) (by grind [Region.wanted]) h
   | false=>
   rw[hsk] at h
   obtain⟨b,hb,c1,c2⟩:=q02 h hslot
   cases b with
   | true=>exact run .tt (by rw[hb]; rfl) (by grind [Region.wanted]) (c1 rfl)
   | false=>exact skip .ff (by rw[hb]; rfl) (by grind [Region.wanted]) (c2 rfl)
  | false=>
   cases hsk:(look ov d (base d)).skipped with
   | true=>
    rw[hsk] at h
    have hu:=qw0 hsk hslot
    exact skip (.tup .nil) (by rw[hu]; exact⟨[],rfl,rfl⟩) (by grind [Region.wanted]) h
   | false=>
   rw[hsk] at h
   obtain⟨b,hb,c1,c2⟩:=q02 h hslot
   cases b with
   | true=>exact skip .tt (by rw[hb]; rfl) (by grind [Region.wanted]) (c1 rfl)
   | false=>exact run .ff (by rw[hb]; rfl) (by grind [Region.wanted]) (c2 rfl)
theorem w7r (hS:SoundAt P C m0) (hCy:C.yl=some Y) (hY:YOk P T m0 N Y RR) (hc0:Cells m0) {D:Nat->Prop} {all:Array Oper} (hall:∀o∈all.toList,∀d,o.dst=some d->D d/\N.may d) {Q:Exit->Act->World->Prop}:∀(l:List Oper) (Z:Base) (s:St) (K:St->Prop) (a:Act) (w:World),
  (∀o∈l,o∈all.toList)->T Z->Good P Z m0 N s a w->xz4 C Y all.toList l s K->(∀s' Z' a' w',K s'->T Z'->FR C.yl D s s'->Good P Z' m0 N s' a' w'->Q .normal a' w')->wpListIn (fz rr) nn P all Q l a w
 | [],Z,s,K,a,w,_,hT,hg,h,hQ=>hQ s Z a w h hT (FR.refl _ _ _) hg
 | o :: rest,Z,s,K,a,w,hl,hT,hg,h,hQ=>by
  unfold wpListIn
  exact w1g hS hCy hY hc0 hall (hl o za0) hT hg h λs' Z' a' w' k1 k2 k3 k4=>
   w7r hS hCy hY hc0 hall rest Z' s' K a' w' (λo' h'=>hl o' (zau _ h')) k2 k4 k1 λs'' Z'' a'' w'' j1 j2 j3 j4=>hQ s'' Z'' a'' w'' j1 j2 (k3.trans j3) j4
theorem q88 {A:Nat}:∀{i:Nat},q97 A i=true->∀k,k<i->A.testBit k=true
 | 0,_,k,hk=>by omega
 | i+1,h,k,hk=>by
  simp only[q97] at h
  split at h
  ·rename_i h1
   by_cases e:k=i
   ·grind
   ·exact q88 h k ow
  grind
theorem q89 {T:List Nat} {n:Nat}:∀{f i:Nat},q6m T n i f=true->∀j,i<=j->j<i+f->j<n->∀k,k<j->(T.getD j 0).testBit k=true
 | 0,i,_,j,h1,h2,_,_,_=>by omega
 | f+1,i,h,j,h1,h2,h3,k,hk=>by
  simp only[q6m] at h
  split at h
  ·grind [Nat.blt,Nat.ble_eq]
  ·split at h
   ·rename_i hb
    by_cases e:j=i
    ·grind [q88]
    ·exact q89 h j ow ow h3 k hk
   grind
theorem wl5:∀{l:List Oper} {i:Nat},q48 l i=true->∀(j:Nat) (o:Oper),l[j]? = some o->∀q,o.guard=some q->q.1<i+j
 | [],_,_,j,o,hj,_,_=>by grind
 | x :: r,i,h,j,o,hj,q,hq=>by
  simp only[q48] at h
  cases j with
  | zero=>
   grind [List.getElem?_cons_zero,Option.some.injEq,Nat.blt,Nat.ble_eq]
  | succ j=>
   have hr:q48 r (i+1)=true:=by
    grind
   have:=wl5 hr j o (by grind) q hq
   omega
theorem xj2 (hS:SoundAt P C m0) (hCy:C.yl=some Y) (hY:YOk P T m0 N Y RR) (hc0:Cells m0) {D:Nat->Prop} {all:Array Oper} {id:Nat} (hall:∀o∈all.toList,∀d,o.dst=some d->D d/\N.may d) {Q:Exit->Act->World->Prop} {y:Nat} (hy:yOk all.toList y=true) (hya:y<=all.size) {s:St} {K:St->Prop} {a:Act} {w:World} (hT:T Z) (hg:Good P Z m0 N s a w)
  (h:q2c C (all.toList.take y) s.mem.length 0 (all.toList.take y) ⟨s.ov,s.base,padMem s.mem (all.toList.take y)⟩ [] λs1=>xz4 C Y all.toList (all.toList.drop y) s1 K) (hQ:∀s' Z' a' w',K s'->T Z'->FR C.yl D s s'->Good P Z' m0 N s' a' w'->Q .normal a' w'):(Code.region id all true).wpIn (fz rr) nn P Q a w:=by
 obtain⟨hN,m,ρ,hr⟩:=hg
 refine wpIn_region_any hS.mixed ?_
 unfold yOk at hy
 have hy3:backOk all.toList 0=true/\q48 all.toList 0=true/\q6m (xf4 [] all.toList) all.toList.length y all.toList.length=true:=by
  revert hy
  cases backOk all.toList 0 <;> cases q48 all.toList 0 <;> intro hy <;> first | cases hy | exact⟨rfl,rfl,hy⟩
 obtain⟨hbk,hgb,hsq⟩:=hy3
 obtain⟨pre,hpre⟩:∃pre:Array Oper,pre=(all.toList.take y).toArray:=⟨_,rfl⟩
 have hpl:pre.toList=all.toList.take y:=by rw[hpre]
 have hps:pre.size=y:=by rw[hpre]; simp; omega
 have hpat:∀i,i<y->pre[i]? = all[i]?:=λi hi=>by rw[hpre]; simp[List.getElem?_take,hi]
 rw[<- hpl] at h
 obtain⟨Tr,s',hlen,hchk,hch,hst,hK⟩:=wb4 (s0:=⟨s.ov,s.base,padMem s.mem pre.toList⟩) pre.toList 0 _ [] h rfl ⟨λ_=>⟨s.ov,s.base,padMem s.mem pre.toList⟩,rfl,rfl,λn I h=>by simp at h⟩ (λk I h=>by simp at h) (λk o h=>by rw[zb8]; exact h) (by simp)
 have hM:s.mem.length+Tr.length<=(⟨s.ov,s.base,padMem s.mem pre.toList⟩:St).mem.length:=by simp[qt2,hlen]
 have hrows:=hchk.2
 have hprem:∀o∈pre.toList,o∈all.toList:=λo ho=>by rw[hpl] at ho; exact zd3 ho
 have hanc:∀{L':Nat->Bool},Down all.toList L'->∀j k,L' j=true->((xf4 [] all.toList).getD j 0).testBit k=true->L' k=true:=λhd=>wv8 hd (T:=[]) (λj o h=>by simpa using h) (λj k _ h=>by simp at h)
 -- the first part is over
 have finA:∀(pl:Array Bool) (a:Act) (w:World),(∀k,k<y->pl.getD k false=true)->x0z P Z m0 N pre Tr ⟨s.ov,s.base,padMem s.mem pre.toList⟩ s.mem.length pl a w->∃s1,xz4 C Y all.toList (all.toList.drop y) s1 K/\Good P Z m0 N s1 a w/\FR C.yl D s s1:=by
  intro pl a w hup hI
  obtain⟨⟨s2,m2,ρ2,f1,f2,f3,f4,_⟩,_⟩:=hI
  obtain⟨σ,c1,c2,c3⟩:=hch
  have hσ:=q53 (s:=s') c1 c3 (λk J hJ=>(hrows k J hJ).1) Tr.length (zad _)
  rw[c2] at hσ
  have e:stF Tr (λi=>pl.getD i false) (fs ⟨s.ov,s.base,padMem s.mem pre.toList⟩) Tr.length=stF Tr (λ_=>true) (fs ⟨s.ov,s.base,padMem s.mem pre.toList⟩) Tr.length:=wb3 λk hk=>hup k (by rw[hlen] at hk; simp at hk; omega)
  refine⟨s',hK,⟨f3,m2,ρ2,f4.of_fs (f1.trans (e.trans hσ.1.symm)) (f2.trans hσ.2.symm)⟩,?_⟩
  have hfr:∀k,k<=Tr.length->FR C.yl D ⟨s.ov,s.base,padMem s.mem pre.toList⟩ (σ k):=by
   intro k
   induction k with
   | zero=>intro _; rw[c1]; exact FR.refl _ _ _
   | succ k ih=>
    intro hk
    have hJ:Tr[k]? = some Tr[k]:=zak ow
    obtain⟨a1,a2⟩:=c3 k _ hJ
    have hkk:=ih ow
    rw[<- a1] at hkk
    rw[a2]
    exact hkk.trans ((FR.eff hS.fixs _ _ _).trans (FR.put _ λi hi=>(hall _ (hprem _ (zag (hst k _ hJ).1)) i hi).1))
  have:=hfr Tr.length (zad _)
  rw[c2] at this
  exact this
 let IA:Array Bool->Act->World->Prop:=λl a w=>∃pl:Array Bool,pl.size=y/\(∀k,k<y->l.getD k false=pl.getD k false)/\(∀k,y<=k->l.getD k false=false)/\x0z P Z m0 N pre Tr ⟨s.ov,s.base,padMem s.mem pre.toList⟩ s.mem.length pl a w
 let IB:Array Bool->Act->World->Prop:=λl a w=>∃i,y<=i/\i<=all.size/\(∀k,k<i->l.getD k false=true)/\(∀k,i<=k->l.getD k false=false)/\∃Z1 s1,T Z1/\xz4 C Y all.toList (all.toList.drop i) s1 K/\Good P Z1 m0 N s1 a w/\FR C.yl D s s1
 have toB:∀l a w,IA l a w->(∀k,k<y->l.getD k false=true)->IB l a w:=by
  grind
 -- a step of the second part
 have stepB:∀l a w i,l.size=all.size->IB l a w->i∈Region.ready .any all l->(∀k,k<i->l.getD k false=true)->wpOpIn (fz rr) nn P all Q i (λa w=>IA (l.setIfInBounds i true) a w\/IB (l.setIfInBounds i true) a w) a w:=by
  rintro l a w i hl ⟨i0,b1,b2,b3,b4,Z1,s1,b5,b6,b7,b8⟩ hi hall2
  obtain⟨hir,hun,hpr⟩:=Ls.ready_of hi
  have hLi:l.getD i false=false:=by
   have e:l.getD i true=l.getD i false:=by simp[Array.getD,show i<l.size by omega]
   rw[<- e]; exact hun
  have h1:i0<=i:=by
   grind
  have h2:i=i0:=by
   rcases zav i0 i with h | h
   all_goals grind
  subst h2
  have ho:all[i]? = some all[i]:=zb6 hir
  have hdrop:all.toList.drop i=all[i] :: all.toList.drop (i+1):=by
   grind [List.drop_eq_getElem_cons]
  rw[hdrop] at b6
  unfold wpOpIn
  rw[ho]
  refine w1g hS hCy hY hc0 hall (by simp) b5 b7 b6 λs2 Z2 a2 w2 k1 k2 k3 k4=>.inr ?_
  have hins:=congrFun (qy2 (l:=l) (i:=i) ow)
  refine⟨i+1,ow,ow,λk hk=>?_,λk hk=>?_,Z2,s2,k2,k1,k4,b8.trans k3⟩
  ·grind [ins]
  ·have:=hins k
   simp only[ins] at this
   rw[this,zai ow]
   exact b4 k ow
 have downOf:∀l i,l.size=all.size->i∈Region.ready .any all l->Down all.toList (λk=>l.getD k false)->∀k,y<=i->k<i->l.getD k false=true:=by
  intro l i hl hi hdn k hyi hki
  obtain⟨hir,hun,hpr⟩:=Ls.ready_of hi
  have hd:Down all.toList (ins (λk=>l.getD k false) i):=by
   intro j o hj hLj e he hb
   by_cases hji:j=i
   ·subst hji
    have:=hpr o (by simpa using hj) e (by simpa using he) hb
    show(if e.on=j then true else l.getD e.on false)=true
    split
    ·rfl
    ·exact this
   ·have h2:l.getD j false=true:=by simpa[ins,hji] using hLj
    have:=hdn j o hj h2 e he hb
    show(if e.on=i then true else l.getD e.on false)=true
    split
    ·rfl
    ·exact this
  have hbit:=q89 hsq i hyi (by simp; omega) (by simpa using hir) k hki
  have:=hanc hd i k (by simp[ins]) hbit
  simpa[ins,show k≠i by omega] using this
 have downA:∀l a w,IA l a w->Down all.toList (λk=>l.getD k false):=by
  rintro l a w ⟨pl,p1,p2,p3,p4⟩ j o hj hLj e he hb
  have hjy:j<y:=by
   rcases zav j y with h | h
   ·exact h
   ·have hLj:l.getD j false=true:=hLj
    rw[p3 j h] at hLj; cases hLj
  have hlt:=q3e (all:=all.toList) hbk j o hj e he hb
  have h1:pl.getD j false=true:=by rw[<- p2 j hjy]; exact hLj
  have:=p4.down j o (by grind) h1 e he hb
  show l.getD e.on false=true
  rw[p2 e.on ow]
  exact this
 have downB:∀l a w,IB l a w->Down all.toList (λk=>l.getD k false):=by
  rintro l a w ⟨i0,b1,b2,b3,b4,_⟩ j o hj hLj e he hb
  have hji:j<i0:=by
   grind
  have hlt:=q3e (all:=all.toList) hbk j o hj e he hb
  exact b3 e.on ow
 refine Ls.wpAnyIn_inv (λl a w=>IA l a w\/IB l a w) (λl a w i hl hI hi=>?_) (λl a w hl hI hready=>?_) all.size _ a _ (by simp) ?_ (.inl ?_)
 ·rcases hI with hA | hB
  ·rcases zav i y with hiy | hiy
   ·have hA':=hA
    obtain⟨pl,p1,p2,p3,p4⟩:=hA
    obtain⟨hir,hun,hpr⟩:=Ls.ready_of hi
    have hrdy:i∈Region.ready .any pre pl:=by
     refine mem_ready.2 ⟨?_,all[i],by rw[hpat i hiy]; exact zb6 hir,λe he hb=>?_⟩
     all_goals grind
    have hstep:=wl1 (r:=rr) (n:=nn) (Q:=Q) hS (λo ho d hd=>(hall o (hprem o ho) d hd).2) hlen hchk hch hst hM (by rw[p1,hps]) p4 hrdy
    have hw:wpOpIn (fz rr) nn P all Q i (x0z P Z m0 N pre Tr ⟨s.ov,s.base,padMem s.mem pre.toList⟩ s.mem.length (pl.setIfInBounds i true)) a w:=by
     unfold wpOpIn at hstep ⊢
     rw[hpat i hiy] at hstep
     have ho:all[i]? = some all[i]:=zb6 hir
     rw[ho] at hstep ⊢
     simp only at hstep ⊢
     have e:Region.wanted all[i] (yielded all a.tmps)=Region.wanted all[i] (yielded pre a.tmps):=by
      unfold Region.wanted
      cases hgd:all[i].guard with
      | none=>rfl
      | some q=>
       have hq:=wl5 hgb i all[i] (by simp[hir]) q hgd
       grind [yielded]
     rw[e]
     exact hstep
    refine wpOpIn_mono (λa2 w2 hD=>.inl ⟨pl.setIfInBounds i true,by simp[p1],λk hk=>?_,λk hk=>?_,hD⟩) hw
    ·rw[congrFun (qy2 (l:=l) (i:=i) ow) k,congrFun (qy2 (l:=pl) (i:=i) ow) k]
     simp only[ins,p2 k hk]
    ·rw[congrFun (qy2 (l:=l) (i:=i) ow) k]
     simp only[ins]
     rw[zai ow]
     exact p3 k hk
   ·have hup:=downOf l i hl hi (downA l a w hA)
    exact stepB l a w i hl (toB l a w hA λk hk=>hup k hiy ow) hi λk hk=>hup k hiy hk
  ·have hB':=hB
   obtain⟨i0,b1,b2,b3,b4,_⟩:=hB
   obtain⟨hir,hun,hpr⟩:=Ls.ready_of hi
   have hLi:l.getD i false=false:=by
    have e:l.getD i true=l.getD i false:=by simp[Array.getD,show i<l.size by omega]
    rw[<- e]; exact hun
   have hiy:y<=i:=by
    rcases zav i i0 with h | h
    ·rw[b3 i h] at hLi; cases hLi
    ·omega
   exact stepB l a w i hl hB' hi λk hk=>downOf l i hl hi (downB l a w hB') k hiy hk
 ·have hup:=xv5 hbk hl hready
  have hB:IB l a w:=by
   rcases hI with hA | hB
   ·exact toB l a w hA λk hk=>hup k ow
   ·exact hB
  obtain⟨i0,b1,b2,b3,b4,Z1,s1,b5,b6,b7,b8⟩:=hB
  have:i0=all.size:=by
   rcases zav i0 all.size with h | h
   ·have:=hup i0 h; rw[b4 i0 (zad _)] at this; cases this
   ·omega
  subst this
  rw[zdx (by simp)] at b6
  exact hQ s1 Z1 a w b6 b5 b8 b7
 ·unfold Ls.pend
  have:=List.count_le_length (a:=false) (l:=(Array.replicate all.size false).toList)
  simp
 ·have hL:∀(n k:Nat),(Array.replicate n false).getD k false=false:=λn k=>by simp[Array.getD]
  refine⟨Array.replicate y false,by simp,λk _=>by rw[hL,hL],λk _=>hL _ k,⟨⟨s.ov,s.base,padMem s.mem pre.toList⟩,m,ρ++List.replicate pre.toList.length (.bool false),(q54 Tr _ (hL _) _).symm,rfl,hN,(hr.pad pre.toList).drew,λi hi _=>⟨false,?_⟩⟩,λj o _ hj=>by have hj:(Array.replicate y false).getD j false=true:=hj; rw[hL] at hj; cases hj⟩
  rw[<- hr.len,zb0 ow]
  grind
end
end Eng
set_option linter.unusedVariables false
set_option linter.unusedSimpArgs false
namespace Eng
open Go Go.RowKit
section
variable {P : Program} {w0 : Base} {m0 : View} {C : Ctx} {N : Frm}
theorem least {p:Nat->Prop} (h:∃n,p n):∃n,p n/\∀m,p m->n<=m:=by
 obtain⟨n,hn⟩:=h
 induction n using Nat.strongRecOn with
 | _ n ih=>
  grind
def LoopR (F:Fence) (n:Nat) (P:Program) (c:Code) (Q:Exit->Act->World->Prop) (a:Act) (w:World):Prop:=
 ∃(I:Act->World->Prop) (μ:Act->World->Nat),I a w/\∀a w,I a w->c.wpIn F n P (Exit.then (λa' w'=>I a' w'/\μ a' w' < μ a w) Q) a w
theorem LoopR.wp {F:Fence} {n:Nat} {c:Code} {Q:Exit->Act->World->Prop} {a:Act} {w:World} (h:LoopR F n P c Q a w):(Code.loop c).wpIn F n P Q a w:=by
 obtain⟨I,μ,h0,hr⟩:=h
 exact wpIn_loop I μ h0 hr
theorem LoopR.peel {F:Fence} {n:Nat} {c:Code} {Q:Exit->Act->World->Prop} {a:Act} {w:World} (h:c.wpIn F n P (Exit.then (λa' w'=>LoopR F n P c Q a' w') Q) a w):(Code.loop c).wpIn F n P Q a w:=by
 intro b k cs hro hb hr
 obtain⟨e,a₁,w₁,hq,harr⟩:=h b (.inLoop c :: k) cs hro hb hr
 cases e with
 | normal=>
  obtain⟨I,μ,hI0,round⟩:=hq
  have key:∀j a w,μ a w=j->I a w ->
    ∃e a' w',Q e a' w'/\ArrivesIn (Machine.fenced P F) P (lone (b.atR a (.code c :: .inLoop c :: k)) cs w) b k cs e a' w':=by
   intro j
   induction j using Nat.strongRecOn with
   | _ j ih=>
    intro a w hn hI
    obtain⟨e,a₁,w₁,hq,harr⟩:=round a w hI b (.inLoop c :: k) cs hro hb hr
    cases e with
    | normal=>
     obtain⟨hI₁,hlt⟩:=hq
     obtain⟨e₂,a₂,w₂,hq₂,harr₂⟩:=ih (μ a₁ w₁) (hn ▸ hlt) a₁ w₁ rfl hI₁
     exact⟨e₂,a₂,w₂,hq₂,.of_steps (zd9 harr (.one (fenced_calm hb hr rfl) stepR_inLoop)) harr₂⟩
    | exit id=>exact⟨_,a₁,w₁,hq,.pass (x:=.inLoop c) rfl (λ_ _=>.inl (by simp)) harr⟩
    | goto l=>exact⟨_,a₁,w₁,hq,.pass (x:=.inLoop c) rfl (λ_ _=>.inl (by simp)) harr⟩
    | ret=>exact⟨_,a₁,w₁,hq,.pass (x:=.inLoop c) rfl (λ_ _=>.inl (by simp)) harr⟩
    | panic ch=>exact⟨_,a₁,w₁,hq,.pass (x:=.inLoop c) rfl (λ_ _=>.inl (by simp)) harr⟩
    | outgrown=>exact⟨_,a₁,w₁,hq,.pass (x:=.inLoop c) rfl (λ_ _=>.inl (by simp)) harr⟩
  obtain⟨e₂,a₂,w₂,hq₂,harr₂⟩:=key _ a₁ w₁ rfl hI0
  exact⟨e₂,a₂,w₂,hq₂,.of_steps (.one (fenced_calm hb hr rfl) stepR_loop) (.of_steps (zd9 harr (.one (fenced_calm hb hr rfl) stepR_inLoop)) harr₂)⟩
 | exit id=>exact⟨_,a₁,w₁,hq,.of_steps (.one (fenced_calm hb hr rfl) stepR_loop) (.pass (x:=.inLoop c) rfl (λ_ _=>.inl (by simp)) harr)⟩
 | goto l=>exact⟨_,a₁,w₁,hq,.of_steps (.one (fenced_calm hb hr rfl) stepR_loop) (.pass (x:=.inLoop c) rfl (λ_ _=>.inl (by simp)) harr)⟩
 | ret=>exact⟨_,a₁,w₁,hq,.of_steps (.one (fenced_calm hb hr rfl) stepR_loop) (.pass (x:=.inLoop c) rfl (λ_ _=>.inl (by simp)) harr)⟩
 | panic ch=>exact⟨_,a₁,w₁,hq,.of_steps (.one (fenced_calm hb hr rfl) stepR_loop) (.pass (x:=.inLoop c) rfl (λ_ _=>.inl (by simp)) harr)⟩
 | outgrown=>exact⟨_,a₁,w₁,hq,.of_steps (.one (fenced_calm hb hr rfl) stepR_loop) (.pass (x:=.inLoop c) rfl (λ_ _=>.inl (by simp)) harr)⟩
theorem w36 {S:Type} {F:Fence} {n:Nat} {c:Code} {Q:Exit->Act->World->Prop} {a:Act} {w:World} (G:S->Act->World->Prop) (μ:S->Nat) (x0:S) (h0:G x0 a w)
  (round:∀x a w,G x a w->c.wpIn F n P (Exit.then (λa' w'=>∃x',μ x' < μ x/\G x' a' w') Q) a w):LoopR F n P c Q a w:=by
 classical
 let p:Act->World->Nat->Prop:=λa w k=>∃x,μ x=k/\G x a w
 let M:Act->World->Nat:=λa w=>if h:∃k,p a w k then Classical.choose (least h) else 0
 refine⟨λa w=>∃x,G x a w,M,⟨x0,h0⟩,λa w hI=>?_⟩
 have hex:∃k,p a w k:=by grind
 have hM:M a w=Classical.choose (least hex):=by grind
 obtain⟨hp,hmin⟩:=zdz (least hex)
 obtain⟨x,hx1,hx2⟩:=hp
 refine wpIn_mono (round x a w hx2) λe a' w' hq=>?_
 cases e with
 | normal=>
  obtain⟨x',k1,k2⟩:=hq
  refine⟨⟨x',k2⟩,?_⟩
  have hex':∃k,p a' w' k:=⟨μ x',x',rfl,k2⟩
  have hM':M a' w'=Classical.choose (least hex'):=by grind
  have:=(zdz (least hex')).2 (μ x') ⟨x',rfl,k2⟩
  omega
 | _=>exact hq
def qn1 (y:Option qg6) (sl:List (Nat × AV)) (mem:List AObj) (ds:List Nat) (s0:St):St:=⟨sl,λi=>match ds.elem i with
 | true=>.any
 | false=>kpK y i (s0.get i),mem⟩
theorem wb8 (y:Option qg6) (sl:List (Nat × AV)) (mem:List AObj) (ds:List Nat) (s0:St) (k:St->Prop):wi4 y sl mem ds s0 k=k (qn1 y sl mem ds s0):=by
 simp only[wi4,q49,qo3]; rfl
theorem q55 {m:View} {ρ:List Value} {av:AV}:∀{vs:List Value},av.ok P m ρ vs->av.strip.ok P m ρ vs:=by
 induction av with
 | own g=>intro vs k; obtain⟨v,_,k2⟩:=k; exact⟨v,k2⟩
 | optr g t i off=>intro vs k; obtain⟨b,n,c,_,k2⟩:=k; exact⟨_,k2⟩
 | msl g j=>intro vs k; obtain⟨hs,v,_,_,k2⟩:=k; exact⟨_,k2⟩
 | mptr g j t i off=>intro vs k; obtain⟨hs,b,n,c,_,_,k2⟩:=k; exact⟨_,k2⟩
 | msub g x y=>intro vs k; obtain⟨hs,A,n,c,_,_,_,k2⟩:=k; exact⟨_,k2⟩
 | imm cs off ih=>intro vs k; obtain⟨ad,us,k1,k2,k3⟩:=k; exact⟨ad,us,k1,ih k2,k3⟩
 | clo f caps ih=>intro vs k; obtain⟨cs,k1,k2⟩:=k; exact⟨cs,k1,ih k2⟩
 | agg l ih=>intro vs k; obtain⟨cs,k1,k2⟩:=k; exact⟨cs,k1,ih k2⟩
 | tup l ih=>intro vs k; obtain⟨cs,k1,k2⟩:=k; exact⟨cs,k1,ih k2⟩
 | cons a b iha ihb=>intro vs k; obtain⟨v,rest,k1,k2,k3⟩:=k; exact⟨v,rest,k1,iha k2,ihb k3⟩
 | _=>intro vs k; exact k
theorem w7s {m:View} {ρ:List Value} {n:Nat} {av:AV}:∀{vs:List Value},av.bnd n=true->av.ok P m ρ vs->av.ok P m (ρ.take n) vs:=by
 have tk:∀(g:Nat) (v:Value),Nat.blt g n=true->ρ[g]? = some v->(ρ.take n)[g]? = some v:=λg v hg hv=>by
  simp_all
 induction av with
 | own g=>intro vs h k; obtain⟨v,⟨k1,k3⟩,k2⟩:=k; exact⟨v,⟨tk g v h k1,k3⟩,k2⟩
 | box g off=>intro vs h k; obtain⟨b,k1,k2⟩:=k; exact⟨b,tk g _ h k1,k2⟩
 | optr g t i off=>intro vs h k; obtain⟨b,nn,c,k1,k2⟩:=k; exact⟨b,nn,c,tk g _ h k1,k2⟩
 | msl g j=>intro vs h k; obtain⟨hs,v,k1,k2⟩:=k; exact⟨hs,v,tk g _ h k1,k2⟩
 | mptr g j t i off=>intro vs h k; obtain⟨hs,b,nn,c,k1,k2⟩:=k; exact⟨hs,b,nn,c,tk g _ h k1,k2⟩
 | msub g x y=>intro vs h k; obtain⟨hs,A,nn,c,k1,k2⟩:=k; exact⟨hs,A,nn,c,tk g _ h k1,k2⟩
 | imm cs off ih=>intro vs h k; obtain⟨ad,us,k1,k2,k3⟩:=k; exact⟨ad,us,k1,ih h k2,k3⟩
 | clo f caps ih=>intro vs h k; obtain⟨cs,k1,k2⟩:=k; exact⟨cs,k1,ih h k2⟩
 | agg l ih=>intro vs h k; obtain⟨cs,k1,k2⟩:=k; exact⟨cs,k1,ih h k2⟩
 | tup l ih=>intro vs h k; obtain⟨cs,k1,k2⟩:=k; exact⟨cs,k1,ih h k2⟩
 | cons a b iha ihb=>
  intro vs h k
  obtain⟨v,rest,k1,k2,k3⟩:=k
  simp only[AV.bnd] at h
  split at h
  ·rename_i h1; exact⟨v,rest,k1,iha h1 k2,ihb h k3⟩
  grind
 | _=>intro vs h k; exact k
theorem w1h {m:View} {ρ:List Value} {av:AV}:∀{vs:List Value},av.ok P m ρ vs->av.bnd ρ.length=true:=by
 have lt:∀(g:Nat) (v:Value),ρ[g]? = some v->Nat.blt g ρ.length=true:=λg v hv=>by
  have:=(zaf.1 hv).1; simp_all
 induction av with
 | own g=>intro vs k; obtain⟨v,⟨k1,_⟩,_⟩:=k; exact lt g v k1
 | box g off=>intro vs k; obtain⟨b,k1,_⟩:=k; exact lt g _ k1
 | optr g t i off=>intro vs k; obtain⟨b,nn,c,k1,_⟩:=k; exact lt g _ k1
 | msl g j=>intro vs k; obtain⟨hs,v,k1,_⟩:=k; exact lt g _ k1
 | mptr g j t i off=>intro vs k; obtain⟨hs,b,nn,c,k1,_⟩:=k; exact lt g _ k1
 | msub g x y=>intro vs k; obtain⟨hs,A,nn,c,k1,_⟩:=k; exact lt g _ k1
 | imm cs off ih=>intro vs k; obtain⟨ad,us,k1,k2,k3⟩:=k; exact ih k2
 | clo f caps ih=>intro vs k; obtain⟨cs,k1,k2⟩:=k; exact ih k2
 | agg l ih=>intro vs k; obtain⟨cs,k1,k2⟩:=k; exact ih k2
 | tup l ih=>intro vs k; obtain⟨cs,k1,k2⟩:=k; exact ih k2
 | cons a b iha ihb=>
  intro vs k
  obtain⟨v,rest,k1,k2,k3⟩:=k
  grind [AV.bnd]
 | _=>intro vs k; rfl
theorem q66 {n:Nat} {av:AV} (h:av.bnd n=true):av.strip.bnd n=true:=by
 induction av with
 | imm cs off ih=>exact ih h
 | clo f c ih=>exact ih h
 | agg c ih=>exact ih h
 | tup c ih=>exact ih h
 | cons a b iha ihb=>
  grind [AV.bnd,AV.strip]
 | own g=>rfl
 | optr g t i off=>rfl
 | msl g j=>rfl
 | mptr g j t i off=>rfl
 | msub g x y=>rfl
 | _=>exact h
theorem wb9 {v u:Value} (h:w59 v u):v=u:=by
 unfold w59 at h
 grind
theorem xj3 {a b:Option Nat} (h:x3r a b):a=b:=by
 cases a with
 | none=>cases b with
  | none=>rfl
  | some b=>exact h
 | some a=>exact h
theorem qp6 {a b:Nat} {p:Prop} (h:same a b p):a=b/\p:=by
 grind [same,Nat.eq_of_beq_eq_true]
theorem q56 {v:Value} {p:Prop} (h:w3a v p):v=.slice none 0 0/\p:=by
 unfold w3a at h
 split at h
 ·rename_i e
  refine⟨?_,h⟩
  unfold isNil at e
  grind
 grind
def Born (ρ:List Value) (b:Option Nat):Prop:=∀N,b=some N->∀g,(Nat.testBit N (2*g)=true->ρ[g]? = some (.slice none 0 0))/\(Nat.testBit N (2*g+1)=true->ρ[g]? = some (qf7 [.slice none 0 0]))
theorem Born.none {ρ:List Value}:Born ρ none:=λ_ h=>by cases h
theorem w1i {n:Nat} {a b:AV} (h:(AV.cons a b).bnd n=true):a.bnd n=true/\b.bnd n=true:=by
 grind [AV.bnd]
theorem q4c {m:View} {ρ:List Value} {b:Option Nat} {v:AV}:∀{v':AV} {vs:List Value},Born ρ b->AV.le b v v'->v.ok P m ρ vs->v'.ok P m ρ vs:=by
 induction v with
 | nil=>intro v' vs hB h k; cases v' <;> first | exact h.elim | exact k
 | cons a b iha ihb=>
  intro v' vs hB h k
  cases v' <;> first | exact h.elim | skip
  obtain⟨v,rest,k1,k2,k3⟩:=k
  exact⟨v,rest,k1,iha hB h.1 k2,ihb hB h.2 k3⟩
 | any=>intro v' vs hB h k; cases v' <;> first | exact h.elim | exact k
 | lit x=>
  intro v' vs hB h k
  obtain rfl:vs=[x]:=k
  cases v' <;> first | exact h.elim | exact⟨_,rfl⟩ | skip
  ·exact za9 (λy=>[y]) (wb9 h)
  ·obtain⟨rfl,hl⟩:=q56 h
   subst hl
   exact⟨none,0,rfl,zad _,by simp,λhh=>absurd hh (by simp)⟩
  ·obtain⟨rfl,hl⟩:=q56 h
   subst hl
   rename_i c _
   exact⟨⟨none,0,rfl,zad _,by simp,λhh=>absurd hh (by simp)⟩,by cases c <;> first | exact λ_=>rfl | exact⟨none,rfl⟩⟩
  ·rename_i g
   cases b with
   | none=>exact h.elim
   | some b0=>
    simp only[AV.le] at h
    split at h
    ·rename_i hle
     obtain⟨rfl,-⟩:=q56 h
     exact⟨_,⟨(hB b0 rfl g).1 hle,rfl⟩,rfl⟩
    grind
  ·rename_i g j
   cases b with
   | none=>exact h.elim
   | some b0=>
    cases j with
    | some j=>exact h.elim
    | none=>
     simp only[AV.le] at h
     split at h
     ·rename_i hle
      obtain⟨rfl,-⟩:=q56 h
      exact⟨_,_,(hB b0 rfl g).2 hle,⟨rfl,rfl⟩,rfl⟩
     grind
 | tt=>
  intro v' vs hB h k
  obtain rfl:vs=[_]:=k
  cases v' <;> first | exact h.elim | exact⟨_,rfl⟩ | exact rfl | exact za9 (λy=>[y]) (wb9 h)
 | ff=>
  intro v' vs hB h k
  obtain rfl:vs=[_]:=k
  cases v' <;> first | exact h.elim | exact⟨_,rfl⟩ | exact rfl | exact za9 (λy=>[y]) (wb9 h)
 | dat t l=>
  intro v' vs hB h k
  cases v' <;> first | exact h.elim | skip
  ·obtain⟨A,c,rfl,_⟩:=k; exact⟨_,rfl⟩
  ·simp only[AV.le,qm6] at h
   obtain⟨rfl,hl⟩:=h
   grind
  ·rename_i c _ _
   cases c <;> first | exact h.elim | skip
   simp only[AV.le,qm6] at h
   obtain⟨rfl,hl⟩:=h
   obtain⟨rfl,hl⟩:=hl l HEq.rfl
   exact⟨k,λe=>by omega⟩
 | ndat c t l=>
  intro v' vs hB h k
  cases v' <;> first | exact h.elim | skip
  ·obtain⟨⟨A,c,rfl,_⟩,_⟩:=k; exact⟨_,rfl⟩
  ·simp only[AV.le,qm6] at h
   obtain⟨rfl,hl⟩:=h
   obtain rfl:=hl l HEq.rfl
   exact k.1
  ·rename_i c' _ _
   cases c <;> cases c' <;> first | exact h.elim | skip
   all_goals
    simp only[AV.le,qm6] at h
    obtain⟨rfl,hl⟩:=h
    grind
 | own g=>
  intro v' vs hB h k
  cases v' <;> first | exact h.elim | skip
  ·obtain⟨u,_,rfl⟩:=k; exact⟨_,rfl⟩
  ·obtain⟨rfl,-⟩:=qp6 h; exact k
 | box g o=>
  intro v' vs hB h k
  cases v' <;> first | exact h.elim | skip
  ·obtain⟨u,_,rfl⟩:=k; exact⟨_,rfl⟩
  ·obtain⟨rfl,h2⟩:=qp6 h; obtain⟨rfl,-⟩:=qp6 h2; exact k
 | dptr t l i o=>
  intro v' vs hB h k
  cases v' <;> first | exact h.elim | skip
  ·obtain⟨_,ad,cs,rfl,_⟩:=k; exact⟨_,rfl⟩
  ·simp only[AV.le,qm6] at h
   obtain⟨rfl,hl⟩:=h
   grind
 | optr g t i o=>
  intro v' vs hB h k
  cases v' <;> first | exact h.elim | skip
  obtain⟨b,n,c,_,rfl⟩:=k; exact⟨_,rfl⟩
 | msl g j=>
  intro v' vs hB h k
  cases v' <;> first | exact h.elim | skip
  ·obtain⟨hs,v,_,_,rfl⟩:=k; exact⟨_,rfl⟩
  ·obtain⟨rfl,h2⟩:=qp6 h
   obtain rfl:=xj3 h2
   exact k
 | mptr g j t i o=>
  intro v' vs hB h k
  cases v' <;> first | exact h.elim | skip
  obtain⟨hs,b,n,c,_,_,rfl⟩:=k; exact⟨_,rfl⟩
 | msub g x y=>
  intro v' vs hB h k
  cases v' <;> first | exact h.elim | skip
  obtain⟨hs,A,n,c,_,_,_,rfl⟩:=k; exact⟨_,rfl⟩
 | imm c o ih=>
  intro v' vs hB h k
  cases v' <;> first | exact h.elim | skip
  ·obtain⟨ad,us,rfl,_⟩:=k; exact⟨_,rfl⟩
  ·obtain⟨h1,rfl⟩:=h
   obtain⟨ad,us,k1,k2,k3⟩:=k
   exact⟨ad,us,k1,ih hB h1 k2,k3⟩
 | fn a r p f=>
  intro v' vs hB h k
  cases v' <;> first | exact h.elim | skip
  ·obtain⟨u,rfl,_⟩:=k; exact⟨_,rfl⟩
  ·obtain⟨rfl,rfl,h1,h2⟩:=h
   grind
 | clo f c ih=>
  intro v' vs hB h k
  cases v' <;> first | exact h.elim | skip
  ·obtain⟨u,rfl,_⟩:=k; exact⟨_,rfl⟩
  ·obtain⟨rfl,h1⟩:=qp6 h
   obtain⟨cs,k1,k2⟩:=k
   exact⟨cs,k1,ih hB h1 k2⟩
 | agg c ih=>
  intro v' vs hB h k
  cases v' <;> first | exact h.elim | skip
  ·obtain⟨u,rfl,_⟩:=k; exact⟨_,rfl⟩
  ·obtain⟨cs,k1,k2⟩:=k
   exact⟨cs,k1,ih hB h k2⟩
 | tup c ih=>
  intro v' vs hB h k
  cases v' <;> first | exact h.elim | skip
  ·obtain⟨u,rfl,_⟩:=k; exact⟨_,rfl⟩
  ·obtain⟨cs,k1,k2⟩:=k
   exact⟨cs,k1,ih hB h k2⟩
theorem q9a {b:Option Nat} {s':St} {n:Nat} {i:Nat} {d:AV}:∀{sl:List (Nat × AV)},q0f b s' sl->qu1 n sl=true->(look sl i d=d/\∀p∈sl,p.1≠i)\/(AV.le b (s'.get i) (look sl i d)/\(look sl i d).bnd n=true)
 | [],_,_=>.inl ⟨rfl,λp hp=>by grind⟩
 | (j,v) :: r,h,hb=>by
  simp only[qu1] at hb
  split at hb
  ·rename_i hv
   simp only[look]
   split
   ·rename_i e; have e:=zab e; subst e; exact .inr ⟨h.1,hv⟩
   ·rename_i e
    rcases q9a (i:=i) (d:=d) h.2 hb with⟨h1,h2⟩ | h1
    ·refine .inl ⟨h1,λp hp=>?_⟩
     rcases zao.1 hp with rfl | hp
     ·intro e'
      simp_all
     grind
    grind
  grind
def x7h (o:AObj):Prop:=(∃e t,o=.vec e t [])\/∃eh e t,o=.mat eh e t [] none none
theorem qm3 {b:Option Nat}:∀{m m':List AObj},qx2 b m m'->∀g,AObj.le b (qa1 m g) (qa1 m' g)\/(b≠none/\m.length<=g/\x7h (qa1 m' g))
 | m,[],_,g=>.inl (by cases qa1 m g <;> trivial)
 | o :: r,o' :: r',h,0=>.inl h.1
 | o :: r,o' :: r',h,g+1=>by
  rcases qm3 h.2 g with k | ⟨k1,k2,k3⟩
  ·exact .inl k
  ·exact .inr ⟨k1,by grind,k3⟩
 | [],o' :: r',h,g=>by
  cases b with
  | none=>exact h.elim
  | some b0=>
   have rcs:qx2 (some b0) [] r'->x7h o'->AObj.le (some b0) (qa1 [] g) (qa1 (o' :: r') g)\/(some b0≠none/\([]:List AObj).length<=g/\x7h (qa1 (o' :: r') g)):=λh2 h1=>by
    cases g with
    | zero=>exact Or.inr ⟨by simp,by simp,h1⟩
    | succ g=>
     rcases qm3 h2 g with k | ⟨k1,k2,k3⟩
     ·exact .inl k
     ·exact .inr ⟨k1,by simp,k3⟩
   cases o' with
   | vec e t l=>
    obtain⟨h1,h2⟩:=h
    exact rcs h2 (.inl ⟨e,t,by rw[h1]⟩)
   | mat eh e t l ix lt=>
    cases ix <;> cases lt <;> first | exact h.elim | skip
    obtain⟨h1,h2⟩:=h
    exact rcs h2 (.inr ⟨eh,e,t,by rw[h1]⟩)
   | _=>exact h.elim
theorem ql3 {n:Nat}:∀{m:List AObj},qr7 n m=true->∀g ty c,qa1 m g=.box ty c->c.bnd n=true
 | [],_,g,ty,c,h=>by cases h
 | .box t d :: r,hb,0,ty,c,h=>by
  grind [qr7,qa1,AObj.box.injEq]
 | .box t d :: r,hb,g+1,ty,c,h=>by
  simp only[qr7] at hb
  split at hb
  ·exact ql3 hb g ty c h
  grind
 | .bld _ _ _ :: r,hb,0,ty,c,h=>by cases h
 | .bld _ _ _ :: r,hb,g+1,ty,c,h=>ql3 (m:=r) hb g ty c h
 | .sit _ _ :: r,hb,0,ty,c,h=>by cases h
 | .sit _ _ :: r,hb,g+1,ty,c,h=>ql3 (m:=r) hb g ty c h
 | .mp _ _ :: r,hb,0,ty,c,h=>by cases h
 | .mp _ _ :: r,hb,g+1,ty,c,h=>ql3 (m:=r) hb g ty c h
 | .dead :: r,hb,0,ty,c,h=>by cases h
 | .dead :: r,hb,g+1,ty,c,h=>ql3 (m:=r) hb g ty c h
 | .cnt _ :: r,hb,0,ty,c,h=>by cases h
 | .cnt _ :: r,hb,g+1,ty,c,h=>ql3 (m:=r) hb g ty c h
 | .mat _ _ _ _ _ _ :: r,hb,0,ty,c,h=>by cases h
 | .mat _ _ _ _ _ _ :: r,hb,g+1,ty,c,h=>ql3 (m:=r) hb g ty c h
 | .vec _ _ _ :: r,hb,0,ty,c,h=>by cases h
 | .vec _ _ _ :: r,hb,g+1,ty,c,h=>ql3 (m:=r) hb g ty c h
def wl6:AObj->Value
 | .mat _ _ _ _ _ _=>qf7 [.slice none 0 0]
 | _=>.slice none 0 0
def w7t (ρ:List Value) (mem:List AObj):List Value:=ρ++(mem.drop ρ.length).map wl6
def headρ (ρ:List Value) (mem:List AObj):List Value:=(w7t ρ mem).take mem.length
theorem q9b:∀(l:List AObj) (i:Nat),i<l.length->l[i]? = some (qa1 l i)
 | [],i,h=>absurd h (by simp)
 | o :: r,0,_=>rfl
 | o :: r,i+1,h=>by simpa[qa1] using q9b r i (by grind)
theorem w1j {ρ:List Value} {mem:List AObj} {g:Nat} {v:Value} (h:ρ[g]? = some v):(w7t ρ mem)[g]? = some v:=by
 grind [w7t,List.getElem?_append_left,List.getElem?_eq_some_iff]
theorem wc0 {ρ:List Value} {mem:List AObj} {g:Nat} (hg:g<mem.length) (h:ρ.length<=g):(w7t ρ mem)[g]? = some (wl6 (qa1 mem g)):=by
 grind [w7t,List.getElem?_append_right,q9b]
theorem headρ_old {ρ:List Value} {mem:List AObj} {g:Nat} {v:Value} (hg:g<mem.length) (h:ρ[g]? = some v):(headρ ρ mem)[g]? = some v:=by
 simp_all [headρ,List.getElem?_take,if_pos,w1j]
theorem headρ_new {ρ:List Value} {mem:List AObj} {g:Nat} (hg:g<mem.length) (h:ρ.length<=g):(headρ ρ mem)[g]? = some (wl6 (qa1 mem g)):=by
 simp_all [headρ,List.getElem?_take,if_pos,wc0]
theorem xj4 {ρ:List Value} {mem:List AObj} {v:Value} (h:v∈w7t ρ mem):v∈ρ\/∃o,v=wl6 o:=by
 unfold w7t at h
 grind
theorem headρ_back {ρ:List Value} {mem:List AObj} {g:Nat} {v:Value} (h:(headρ ρ mem)[g]? = some v):ρ[g]? = some v\/∃o,v=wl6 o:=by
 unfold headρ at h
 rw[zdg] at h
 split at h
 ·unfold w7t at h
  grind
 grind
theorem w7u {o:AObj} {b:Nat} (h:Blk (wl6 o) b):False:=by
 cases o <;> first | (cases h; done) | skip
 all_goals first
  | (obtain⟨u,hu,hb⟩:=qd7.1 (show Blk (qf7 [.slice none 0 0]) b from h); obtain rfl:=zar.1 hu; cases hb)
  | (exact absurd h (by simp[wl6,Blk,blk]))
theorem q0l {b0:Nat}:∀{l:List AObj} {i x:Nat},(qm8 b0 l i).testBit x=true->∃j,j<l.length/\b0<=i+j/\((x=2*(i+j)/\∃e t l',qa1 l j=.vec e t l')\/(x=2*(i+j)+1/\∃eh e t r ix lt,qa1 l j=.mat eh e t r ix lt))
 | [],i,x,h=>by grind [qm8]
 | o :: r,i,x,h=>by
  have next:(qm8 b0 r (i+1)).testBit x=true->∃j,j<(o :: r).length/\b0<=i+j/\((x=2*(i+j)/\∃e t l',qa1 (o :: r) j=.vec e t l')\/(x=2*(i+j)+1/\∃eh e t rr ix lt,qa1 (o :: r) j=.mat eh e t rr ix lt)):=λh=>by
   obtain⟨j,h1,h2,h3⟩:=q0l h
   refine⟨j+1,by grind,ow,?_⟩
   rw[show i+(j+1)=i+1+j by omega]
   exact h3
  simp only[qm8] at h
  split at h
  ·rename_i hb
   have hb:=zbh hb
   split at h
   ·rw[qd0,zbx] at h
    rcases h with h | h
    ·rw[qb4] at h
     have h:=zbe h
     exact⟨0,by simp,ow,.inl ⟨ow,_,_,_,rfl⟩⟩
    simp_all
   ·rw[qd0,zbx] at h
    rcases h with h | h
    ·rw[qb4] at h
     have h:=zbe h
     exact⟨0,by simp,ow,.inr ⟨ow,_,_,_,_,_,_,rfl⟩⟩
    simp_all
   simp_all
  simp_all
theorem xj5 {m:View} {ρ:List Value} {av:AV}:∀{vs:List Value},av.ok P m ρ vs->av.hav.ok P m ρ vs:=by
 induction av with
 | any=>intro vs k; exact k
 | lit v=>intro vs k; exact k
 | tt=>intro vs k; exact k
 | ff=>intro vs k; exact k
 | dat t l=>intro vs k; obtain⟨A,c,rfl,_⟩:=k; exact⟨_,rfl⟩
 | ndat c t l=>intro vs k; obtain⟨⟨A,c,rfl,_⟩,_⟩:=k; exact⟨_,rfl⟩
 | own g=>
  intro vs k
  cases g with
  | zero=>obtain⟨v,k1,k2⟩:=k; exact⟨v,k2⟩
  | succ g=>exact k
 | box g off=>intro vs k; exact k
 | dptr t l i off=>intro vs k; obtain⟨_,ad,cs,rfl,_⟩:=k; exact⟨_,rfl⟩
 | optr g t i off=>intro vs k; obtain⟨b,n,c,_,rfl⟩:=k; exact⟨_,rfl⟩
 | msl g j=>intro vs k; obtain⟨hs,v,_,_,rfl⟩:=k; exact⟨_,rfl⟩
 | mptr g j t i off=>intro vs k; obtain⟨hs,b,n,c,_,_,rfl⟩:=k; exact⟨_,rfl⟩
 | msub g x y=>intro vs k; obtain⟨hs,A,n,c,_,_,_,rfl⟩:=k; exact⟨_,rfl⟩
 | imm cs off ih=>intro vs k; obtain⟨ad,us,rfl,_⟩:=k; exact⟨_,rfl⟩
 | fn a r p f=>intro vs k; obtain⟨fv,rfl,_⟩:=k; exact⟨_,rfl⟩
 | clo f caps ih=>intro vs k; obtain⟨cs,rfl,_⟩:=k; exact⟨_,rfl⟩
 | agg l ih=>intro vs k; obtain⟨cs,k1,k2⟩:=k; exact⟨cs,k1,ih k2⟩
 | tup l ih=>intro vs k; obtain⟨cs,k1,k2⟩:=k; exact⟨cs,k1,ih k2⟩
 | nil=>intro vs k; exact k
 | cons a b iha ihb=>intro vs k; obtain⟨v,rest,k1,k2,k3⟩:=k; exact⟨v,rest,k1,iha k2,ihb k3⟩
theorem x06 {n:Nat} {av:AV} (h:av.bnd n=true):av.hav.bnd n=true:=by
 induction av with
 | own g=>cases g with
  | zero=>rfl
  | succ g=>exact h
 | box g off=>exact h
 | agg c ih=>exact ih h
 | tup c ih=>exact ih h
 | cons a b iha ihb=>
  obtain⟨h1,h2⟩:=w1i h
  grind [AV.hav,AV.bnd]
 | _=>rfl
theorem w7v {v:AV} {k k':Nat} (hk:k<=k'):v.bnd k=true->v.bnd k'=true:=by
 have lt:∀g:Nat,Nat.blt g k=true->Nat.blt g k'=true:=λg hg=>by
  have:g<k:=Nat.lt_of_succ_le (by simp_all [Nat.blt])
  have h2:g+1<=k':=ow
  simp_all [Nat.blt]
 induction v with
 | own g=>exact lt g
 | box g off=>exact lt g
 | optr g t i off=>exact lt g
 | msl g j=>exact lt g
 | mptr g j t i off=>exact lt g
 | msub g x y=>exact lt g
 | imm cs off ih=>exact ih
 | clo f c ih=>exact ih
 | agg c ih=>exact ih
 | tup c ih=>exact ih
 | cons a b iha ihb=>
  grind [w1i,AV.bnd]
 | _=>exact λhh=>hh
theorem x7i {y:Option qg6} {m:View} {ρ:List Value} {n:Nat} {i:Nat} {v:AV} {u:Value} (hf:∀Y,y=some Y->∀p∈Y.fix,p.1=i->p.2.ok P m [] [u]) (hv:v.ok P m ρ [u]) (hb:v.bnd n=true):(kpK y i v).ok P m ρ [u]/\(kpK y i v).bnd n=true:=by
 cases y with
 | none=>exact⟨q55 hv,q66 hb⟩
 | some Y=>
  show(look Y.fix i v.strip.hav).ok P m ρ [u]/\(look Y.fix i v.strip.hav).bnd n=true
  rcases qr9 (i:=i) (d:=v.strip.hav) (l:=Y.fix) with⟨e,_⟩ | h
  ·grind [xj5,q55,x06,q66]
  ·have h1:=hf Y rfl _ h rfl
   exact⟨AV.ok_le (View.le_refl m) qk5 h1,w7v (zae n) (w1h (ρ:=[]) h1)⟩
theorem w7w {a b:Option (List Nat)} (h:xu9 a b):a=b:=by
 cases a with
 | none=>cases b with
  | none=>rfl
  | some b=>exact h.elim
 | some a=>cases b with
  | none=>exact h.elim
  | some b=>cases b with
   | nil=>exact za9 some (q6n h)
   | cons x b=>exact za9 some h
theorem w7x {a b:Option q2v} (h:xv0 a b):a=b:=by
 cases a <;> cases b <;> first | rfl | exact h.elim | exact za9 some h
theorem q1a {y:Option qg6} {m:View} {ρ:List Value} {b:Option Nat} {s' s0:St} {a:Act} {w:World} {sl:List (Nat × AV)} {mem:List AObj} {ds:List Nat} (h:Rel P w0 m0 s' m ρ a w) (h1:q0f b s' sl) (h2:qx2 b s'.mem mem) (h3:qu1 mem.length sl=true) (h4:qr7 mem.length mem=true)
  (hpin:∀(g:Nat) v,w0.ρ[g]? = some v->w5z v=true->g<mem.length) (h5:∀N,b=some N->N=qm8 s'.mem.length mem 0) (hbase:∀i,ds.elem i=false->(∀p∈sl,p.1≠i)->(kpK y i (s0.get i)).ok P m ρ [a.tmps.getD i undef]/\(kpK y i (s0.get i)).bnd mem.length=true):Rel P w0 m0 (qn1 y sl mem ds s0) m (headρ ρ mem) a w:=by
 have big:∀{v:AV} {vs:List Value},v.ok P m ρ vs->v.ok P m (w7t ρ mem) vs:=λhv=>AV.ok_le (View.le_refl m) (λg u hg _=>w1j hg) hv
 have hB:Born (w7t ρ mem) b:=λN e g=>by
  have e2:=h5 N e
  subst e2
  refine⟨λht=>?_,λht=>?_⟩
  ·obtain⟨j,h1,h2,h3⟩:=q0l ht
   rcases h3 with⟨h3,e',t,l,h4⟩ | ⟨h3,_⟩
   ·have hj:j=g:=ow
    subst hj
    rw[wc0 h1 (by rw[h.len]; omega),h4]; rfl
   omega
  ·obtain⟨j,h1,h2,h3⟩:=q0l ht
   rcases h3 with⟨h3,_⟩ | ⟨h3,eh,e',t,r,ix,lt,h4⟩
   ·omega
   ·have hj:j=g:=ow
    subst hj
    rw[wc0 h1 (by rw[h.len]; omega),h4]; rfl
 have live:∀g u bb,(qa1 mem g).live=true->(headρ ρ mem)[g]? = some u->Blk u bb->(qa1 s'.mem g).live=true/\ρ[g]? = some u:=by
  intro g u bb hl hu hbb
  have hρ:ρ[g]? = some u:=by
   rcases headρ_back hu with h | ⟨o,rfl⟩
   all_goals grind [w7u]
  refine⟨?_,hρ⟩
  rcases qm3 h2 g with k | ⟨_,k2,_⟩
  ·cases hq:qa1 s'.mem g <;> cases hq':qa1 mem g <;> rw[hq,hq'] at k <;> first | rfl | exact k.elim | grind
  ·have:=(zaf.1 hρ).1; rw[h.len] at this; omega
 refine⟨λi=>?_,?_,λv hv=>?_,h.defers,λg=>?_,λg g' v v' bb hne l1 l2 q1 q2 b1 b2=>?_,h.view,h.ext,h.new,h.below,λg u bb hl hu hb=>h.zone g u bb (live g u bb hl hu hb).1 (live g u bb hl hu hb).2 hb,λg p hp hv=>headρ_old (hpin g p hp hv) (h.pins g p hp hv)⟩
 ·show(look sl i (match ds.elem i with | true=>.any | false=>kpK y i (s0.get i))).ok P m _ _
  rcases q9a (i:=i) (d:=match ds.elem i with | true=>.any | false=>kpK y i (s0.get i)) h1 h3 with⟨e,hno⟩ | ⟨e1,e2⟩
  ·rw[e]
   cases hd:ds.elem i with
   | true=>exact⟨_,rfl⟩
   | false=>obtain⟨k1,k2⟩:=hbase i hd hno; exact w7s k2 (big k1)
  ·exact w7s e2 (q4c hB e1 (big (h.slots i)))
 ·show(headρ ρ mem).length=mem.length
  grind [headρ,w7t,List.length_take,List.length_append,List.length_map,List.length_drop]
 ·unfold headρ at hv
  rcases xj4 (zd3 hv) with hv | ⟨o,rfl⟩
  ·exact h.hdr v hv
  ·cases o <;> rfl
 ·show ObjOk P m _ w _ g (qa1 mem g)
  have ho:=h.objs g
  cases hq':qa1 mem g with
  | dead=>trivial
  | cnt k=>
   have hg:g<mem.length:=qd6 (by rw[hq']; rfl)
   rcases qm3 h2 g with hle | ⟨_,_,hle⟩
   ·cases hq:qa1 s'.mem g <;> rw[hq,hq'] at hle <;> first | exact hle.elim | skip
    rw[hq] at ho
    obtain rfl:_=k:=hle
    exact headρ_old hg ho
   ·rw[hq'] at hle; rcases hle with⟨_,_,hle⟩ | ⟨_,_,_,hle⟩ <;> cases hle
  | bld T e q=>
   have hg:g<mem.length:=qd6 (by rw[hq']; rfl)
   rcases qm3 h2 g with hle | ⟨_,_,hle⟩
   ·cases hq:qa1 s'.mem g <;> rw[hq,hq'] at hle <;> first | exact hle.elim | skip
    rw[hq] at ho
    obtain⟨b,v,k1,k2⟩:=ho
    obtain⟨h6,hle⟩:=qp6 hle
    obtain⟨h7,h8⟩:=qp6 hle
    subst h6 h7 h8
    exact⟨b,v,headρ_old hg k1,k2⟩
   ·rw[hq'] at hle; rcases hle with⟨_,_,hle⟩ | ⟨_,_,_,hle⟩ <;> cases hle
  | sit q p=>
   have hg:g<mem.length:=qd6 (by rw[hq']; rfl)
   rcases qm3 h2 g with hle | ⟨_,_,hle⟩
   ·cases hq:qa1 s'.mem g <;> rw[hq,hq'] at hle <;> first | exact hle.elim | skip
    rw[hq] at ho
    obtain⟨b,k1,k2,k3,k4⟩:=ho
    obtain⟨h6,h7⟩:_=q/\_=p:=hle
    subst h6 h7
    exact⟨b,headρ_old hg k1,k2,k3,k4⟩
   ·rw[hq'] at hle; rcases hle with⟨_,_,hle⟩ | ⟨_,_,_,hle⟩ <;> cases hle
  | mp t l=>
   have hg:g<mem.length:=qd6 (by rw[hq']; rfl)
   rcases qm3 h2 g with hle | ⟨_,_,hle⟩
   ·cases hq:qa1 s'.mem g <;> rw[hq,hq'] at hle <;> first | exact hle.elim | skip
    rw[hq] at ho
    obtain⟨b,es,cl,k1,k2,k3,k4,k5⟩:=ho
    have hle2:qj1 (.prod .str _) (.prod .str t) _ (λl2=>l2=l):=hle
    obtain⟨h6,h7⟩:=qg0 hle2
    injection h6 with _ h6
    subst h6
    have h7:=h7 _ HEq.rfl
    subst h7
    exact⟨b,es,cl,headρ_old hg k1,k2,k3,k4,k5⟩
   ·rw[hq'] at hle; rcases hle with⟨_,_,hle⟩ | ⟨_,_,_,hle⟩ <;> cases hle
  | box ty c=>
   have hg:g<mem.length:=qd6 (by rw[hq']; rfl)
   rcases qm3 h2 g with hle | ⟨_,_,hle⟩
   ·cases hq:qa1 s'.mem g <;> rw[hq,hq'] at hle <;> first | exact hle.elim | skip
    rw[hq] at ho
    obtain⟨b,vs,k1,k2,k3,k4,k5,k6⟩:=ho
    obtain⟨rfl,hc⟩:=qp6 hle
    have hbn:=ql3 h4 g _ _ hq'
    exact⟨b,vs,headρ_old hg k1,k2,k3,w7s hbn (q4c hB hc (big k4)),k5,k6⟩
   ·rw[hq'] at hle; rcases hle with⟨_,_,hle⟩ | ⟨_,_,_,hle⟩ <;> cases hle
  | vec e t l=>
   have hg:g<mem.length:=qd6 (by rw[hq']; rfl)
   rcases qm3 h2 g with hle | ⟨_,hlen,hle⟩
   ·cases hq:qa1 s'.mem g <;> rw[hq,hq'] at hle <;> first | exact hle.elim | skip
    rw[hq] at ho
    obtain⟨rfl,hle2⟩:=qp6 hle
    obtain⟨rfl,hl⟩:=qg0 hle2
    obtain rfl:=hl _ HEq.rfl
    obtain⟨v,vs,k1,k2,k3,k4⟩:=ho
    exact⟨v,vs,headρ_old hg k1,k2,k3,k4⟩
   ·have hn:=headρ_new hg (by rw[h.len]; omega)
    rw[hq'] at hle hn
    rcases hle with⟨e',t',hle⟩ | ⟨_,_,_,hle⟩
    ·injection hle with e1 e2 e3
     subst e1 e2
     obtain rfl:=zdm e3
     exact⟨_,[],hn,rfl,⟨by simp,.inl ⟨rfl,rfl⟩⟩,λb hb=>by grind [wl6,Value.ownBlock]⟩
    grind
  | mat eh e t rows ix lt=>
   have hg:g<mem.length:=qd6 (by rw[hq']; rfl)
   rcases qm3 h2 g with hle | ⟨_,hlen,hle⟩
   ·cases hq:qa1 s'.mem g <;> rw[hq,hq'] at hle <;> first | exact hle.elim | skip
    rw[hq] at ho
    obtain⟨rfl,hle2⟩:=qp6 hle
    obtain⟨rfl,hle3⟩:=qp6 hle2
    obtain⟨ht,hl⟩:=qg0 hle3
    injection ht with ht
    subst ht
    obtain⟨rfl,h6,h7⟩:=hl _ HEq.rfl
    have h6:_=ix:=w7w h6
    have h7:_=lt:=w7x h7
    subst h6 h7
    obtain⟨hs,k1,k2,k3⟩:=ho
    exact⟨hs,headρ_old hg k1,k2,k3⟩
   ·have hn:=headρ_new hg (by rw[h.len]; omega)
    rw[hq'] at hle hn
    rcases hle with⟨_,_,hle⟩ | ⟨_,_,_,hle⟩
    ·grind
    ·injection hle with e1 e2 e3 e4 e5 e6
     subst e1 e2 e3 e5 e6
     obtain rfl:=zdm e4
     refine⟨_,hn,⟨rfl,⟨[],zbp _ _ _ _,λi p h=>by grind [ixL]⟩,λp hp=>absurd hp (by simp),λi j u u' b hne hu hu' hb1 hb2=>?_,λu b hu hb=>?_⟩,λT hT=>by grind⟩
     ·grind
     ·obtain rfl:=zar.1 hu
      cases hb
 ·obtain⟨x1,x2⟩:=live g v bb l1 q1 b1
  obtain⟨y1,y2⟩:=live g' v' bb l2 q2 b2
  exact h.apart g g' v v' bb hne x1 y1 x2 y2 b1 b2
def AObj.row:AObj->Bool
 | .vec _ _ _=>true
 | .mat _ _ _ _ _ _=>true
 | _=>false
theorem x07:∀(n:Nat) (l:List Nat),l.Nodup->l.length=n->(∀p∈l,p<n)->∀q,q<n->q∈l:=by
 have le:∀(n:Nat) (l:List Nat),l.Nodup->(∀p∈l,p<n)->l.length<=n:=by
  intro n
  induction n with
  | zero=>
   intro l _ h
   cases l with
   | nil=>simp
   | cons a r=>exact absurd (h a (by simp)) ow
  | succ n ih=>
   intro l hn h
   by_cases hp:n∈l
   ·have h1:=ih (l.erase n) (hn.erase _) λj hj=>by
     grind
    grind
   grind
 intro n l hn hl h q hq
 apply zan
 intro hq'
 have:=le n (q :: l) (List.nodup_cons.2 ⟨hq',hn⟩) (λj hj=>by
  grind)
 grind
theorem Rel.canon {s:St} {m:View} {ρ:List Value} {a:Act} {w:World} (h:Rel P w0 m0 s m ρ a w) {g eh e:Nat} {t:Ty} {rows:List (List t.den)} {l:List Nat} {lt:Option q2v} {nm:Nat} (hg:qa1 s.mem g=.mat eh e t rows (some l) lt) (hn:l.Nodup) (hl:l.length=rows.length) :
  ∃ρ',Rel P w0 m0 (qr2 s nm (.perm g (.mat eh e t (q1u t rows (some l)) .none lt))) m ρ' a w:=by
 have ho:=h.objs g
 have hlv:(qa1 s.mem g).live=true:=by rw[hg]; rfl
 rw[hg] at ho
 obtain⟨hs,q1,q2,q3⟩:=ho
 have hlen:=q2.len
 have hlt:=qd6 hlv
 obtain⟨cs,k1,k2⟩:=q2.head
 have k1:w.ownsRow w0.n eh 1 (hs.getD 0 undef) l.length cs:=k1
 have k2:∀(i p:Nat),l[i]? = some p->p<rows.length/\cs[i]? = hs[p+1]?:=k2
 have hbd:∀p∈l,p<rows.length:=λp hp=>by
  obtain⟨i,hi,e⟩:=zbg hp
  exact(k2 i p (by rw[zak hi,e])).1
 have hall:=x07 rows.length l hn hl hbd
 have get:∀p,p<rows.length->hs[p+1]? = some (hs.getD (p+1) undef):=λp hp=>by grind
 obtain⟨hs',hhs⟩:∃hs',hs'=hs.getD 0 undef :: l.map λp=>hs.getD (p+1) undef:=⟨_,rfl⟩
 have at0:hs'[0]? = hs[0]?:=by rw[hhs,q2.at0]; rfl
 have atS:∀i p,l[i]? = some p->hs'[i+1]? = hs[p+1]?:=λi p hi=>by
  rw[hhs,List.getElem?_cons_succ,za5,hi]
  exact(get p (hbd p (zag hi))).symm
 have hmem:∀u,u∈hs'↔u∈hs:=λu=>by
  constructor
  ·intro hu
   rw[hhs] at hu
   rcases zao.1 hu with rfl | hu
   ·exact zag q2.at0
   ·obtain⟨p,hp,rfl⟩:=za4.1 hu
    exact zag (get p (hbd p hp))
  ·intro hu
   obtain⟨i,hi,e1⟩:=zbg hu
   rw[hhs]
   cases i with
   | zero=>refine zao.2 (.inl ?_); rw[zax,zak hi,e1]; rfl
   | succ i=>
    refine zau _ (za4.2 ⟨i,hall i ow,?_⟩)
    grind
 have hlen':hs'.length=rows.length+1:=by rw[hhs]; simp[hl]
 have hml:(q1u t rows (some l)).length=l.length:=wa5 t rows (some l)
 have hset:(ρ.set g (qf7 hs'))[g]? = some (qf7 hs'):=by grind
 have hpool:PoolOk m w w0.n eh e t (q1u t rows (some l)) .none hs':=by
  refine⟨by rw[hml,hlen',hl],⟨cs,?_,λi p hip=>?_⟩,λp hp=>?_,λi j u u' b hne hu hu' hb1 hb2=>?_,λu b hu hb=>q2.free u b ((hmem u).1 hu) hb⟩
  ·rw[show hs'.getD 0 undef=hs.getD 0 undef by rw[hhs]; rfl,qe0,hml]; exact k1
  ·have hip:(List.range (q1u t rows (some l)).length)[i]? = some p:=hip
   have hi:=(zaf.1 hip).1
   have e1:i=p:=by rw[zak hi] at hip; simpa using hip
   subst e1
   rw[List.length_range,hml] at hi
   refine⟨by rw[hml]; exact hi,?_⟩
   have hi2:=zak hi
   rw[(k2 i _ hi2).2,atS i _ hi2]
  ·rw[hml] at hp
   have hi2:=zak hp
   have e1:qe5 (.list t) (q1u t rows (some l)) p=qe5 (.list t) rows l[p]:=by
    show(List.map (λp=>qe5 (.list t) rows p) l).getD p []=_
    rw[zax,za5,hi2]; rfl
   have hpl:=hbd _ (zbd hp)
   have e2:hs'.getD (p+1) undef=hs.getD (l[p]+1) undef:=by rw[zax,atS p _ hi2,get _ hpl]; rfl
   rw[e1,e2]
   exact q2.row _ hpl
  ·have back:∀i u,hs'[i]? = some u->∃i',hs[i']? = some u/\((i=0/\i'=0)\/∃p,l[i-1]? = some p/\0<i/\i'=p+1):=by
    intro i u hu
    cases i with
    | zero=>exact⟨0,by rw[<- at0]; exact hu,.inl ⟨rfl,rfl⟩⟩
    | succ i=>
     have hi:i<l.length:=by have:=(zaf.1 hu).1; omega
     have hi2:=zak hi
     exact⟨l[i]+1,by rw[<- atS i _ hi2]; exact hu,.inr ⟨l[i],hi2,ow,rfl⟩⟩
   obtain⟨i',hi',ci⟩:=back i u hu
   obtain⟨j',hj',cj⟩:=back j u' hu'
   refine q2.apart i' j' u u' b ?_ hi' hj' hb1 hb2
   rcases ci with⟨rfl,rfl⟩ | ⟨p,p1,p2,rfl⟩ <;> rcases cj with⟨rfl,rfl⟩ | ⟨q,r1,r2,rfl⟩
   ·exact λ_=>hne rfl
   all_goals grind [List.getElem?_eq_some_iff,List.pairwise_iff_getElem,Nat.lt_trichotomy]
 refine⟨ρ.set g (qf7 hs'),?_⟩
 refine h.turnG (g:=g) (d:=.msl g .none) (v:=qf7 hs) hlv q1 rfl (Same.refl _ _) (View.le_refl m) (by simp)
  (λx y hne' hy=>by rw[zbl,zai (λe=>hne' e.symm)]; exact hy) (λx y hne' hy=>by rw[zbl,zai (λe=>hne' e.symm)] at hy; exact hy) (λhh=>by cases hh) (λhx x e' hx0 hsl=>?_) (λb ob hb=>.inl hb) h.view (λx hx=>?_)
  ⟨hs',hset,hpool,λT hT=>?_⟩ (λ_ x b hx hb=>.inl ?_)
 ·obtain rfl:=qf1 e'
  exact⟨hs',x,hset,⟨at0.trans hx0,hsl⟩,rfl⟩
 ·rcases zaw hx with hx | rfl
  ·exact h.hdr x hx
  ·rfl
 ·obtain⟨n1,n2,n3⟩:=q3 T hT
  exact⟨at0.trans n1,by rw[<- n2,hlen',hlen],λx=>(hmem x).trans (n3 x)⟩
 ·rw[hset] at hx
  obtain rfl:=zaa hx
  grind [qd7]
theorem q4d {y:Option qg6} (hf:wl3 y) {D:Nat->Prop} {mem':List AObj} {a:Act} {w:World} {K:St->Prop}:∀(r:List AObj) (i:Nat) (s:St) (m:View) (ρ:List Value),(∀j o,r[j]? = some o->o.row=true->qa1 s.mem (i+j)=o)->Rel P w0 m0 s m ρ a w->q8x mem' i r s K->∃s1 m1 ρ1,K s1/\m.le m1/\Rel P w0 m0 s1 m1 ρ1 a w/\FR y D s s1/\s1.mem.length=s.mem.length
 | [],i,s,m,ρ,_,hg,h=>⟨s,m,ρ,h,View.le_refl m,hg,FR.refl _ _ _,rfl⟩
 | o :: r,i,s,m,ρ,hr,hg,h=>by
  have skip:q8x mem' (i+1) r s K->∃s1 m1 ρ1,K s1/\m.le m1/\Rel P w0 m0 s1 m1 ρ1 a w/\FR y D s s1/\s1.mem.length=s.mem.length:=λh=>q4d hf r (i+1) s m ρ (λj o hj ho=>by rw[show i+1+j=i+(j+1) by omega]; simp_all) hg h
  have sub:∀(d:AV) (o:AObj),o.row=true->qo2 i d o=o:=λd o ho=>by cases o <;> first | rfl | cases ho
  cases o with
  | vec e t l=>
   simp only[q8x] at h
   split at h
   ·obtain⟨ov,base,mem⟩:=s
    rw[q34 ⟨ov,base,mem⟩] at h
    have hm:qa1 mem i=.vec e t l:=hr 0 _ rfl rfl
    obtain⟨m',h1,h2,h3⟩:=hg.freeze (nm:=0) hm
    have hlen:(qr2 ⟨ov,base,mem⟩ 0 (.freeze i t l)).mem.length=mem.length:=by
     show(qc7 (qb7 i (.dat t l) mem) i .dead).length=_
     rw[qc9 _ _ _ (by rw[qa9]; exact qd6 (by rw[hm]; rfl)),qa9]
    obtain⟨s1,m1,ρ1,k1,k0,k2,k3,k4⟩:=q4d hf r (i+1) (qr2 ⟨ov,base,mem⟩ 0 (.freeze i t l)) m' ρ (λj o hj ho=>by
     show qa1 (qc7 (qb7 i (.dat t l) mem) i .dead) _=_
     rw[qd1 _ _ _ _ (by rw[qa9]; exact qd6 (by rw[hm]; rfl)),zai ow,qe7]
     rw[show i+1+j=i+(j+1) by omega,hr (j+1) o hj ho]
     grind) h2 h
    exact⟨s1,m1,ρ1,k1,View.le_trans h1 k0,k2,(FR.eff hf _ _ _).trans k3,k4.trans hlen⟩
   grind
  | mat eh e t rows ix lt=>
   simp only[q8x] at h
   split at h
   ·grind
   ·rename_i l
    split at h
    ·split at h
     ·obtain⟨ov,base,mem⟩:=s
      obtain⟨⟨hn,hl⟩,h⟩:=h
      rw[q34 ⟨ov,base,mem⟩] at h
      have hm:qa1 mem i=.mat eh e t rows (some l) lt:=hr 0 _ rfl rfl
      obtain⟨ρ',h2⟩:=hg.canon (nm:=0) hm hn hl
      have hlen:(qr2 ⟨ov,base,mem⟩ 0 (.perm i (.mat eh e t (q1u t rows (some l)) .none lt))).mem.length=mem.length:=by
       show(qc7 (qb7 i _ mem) i _).length=_
       rw[qc9 _ _ _ (by rw[qa9]; exact qd6 (by rw[hm]; rfl)),qa9]
      obtain⟨s1,m1,ρ1,k1,k0,k2,k3,k4⟩:=q4d hf r (i+1) (qr2 ⟨ov,base,mem⟩ 0 (.perm i (.mat eh e t (q1u t rows (some l)) .none lt))) m ρ' (λj o hj ho=>by
       show qa1 (qc7 (qb7 i _ mem) i _) _=_
       rw[qd1 _ _ _ _ (by rw[qa9]; exact qd6 (by rw[hm]; rfl)),zai ow,qe7]
       rw[show i+1+j=i+(j+1) by omega,hr (j+1) o hj ho]
       grind) h2 h
      exact⟨s1,m1,ρ1,k1,k0,k2,(FR.eff hf _ _ _).trans k3,k4.trans hlen⟩
     grind
    grind
  | dead=>exact skip h
  | cnt k=>exact skip h
  | box ty c=>exact skip h
  | sit q p=>exact skip h
  | mp t l=>exact skip h
  | bld T e q=>exact skip h
theorem x4l {y:Option qg6} (hf:wl3 y) {D:Nat->Prop} {l:List (Nat × Nat)} {s:St} {m:View} {ρ:List Value} {a:Act} {w:World} {K:St->Prop} (h:Rel P w0 m0 s m ρ a w) (hk:mvK l s K):∃s1 m1 ρ1,K s1/\m.le m1/\Rel P w0 m0 s1 m1 ρ1 a w/\FR y D s s1/\s1.mem.length=s.mem.length:=by
 have skip:K s->∃s1 m1 ρ1,K s1/\m.le m1/\Rel P w0 m0 s1 m1 ρ1 a w/\FR y D s s1/\s1.mem.length=s.mem.length:=λhk=>⟨s,m,ρ,hk,View.le_refl m,h,FR.refl _ _ _,rfl⟩
 obtain⟨ov,base,mem⟩:=s
 cases l with
 | nil=>exact skip hk
 | cons q r=>
  obtain⟨g,j⟩:=q
  simp only[mvK] at hk
  split at hk
  ·exact skip hk
  rename_i hgj
  have hne:g≠j:=λe=>by subst e; rw[Nat.beq_refl] at hgj; cases hgj
  split at hk
  case h_2=>exact skip hk
  rename_i ej tj lj hj
  split at hk
  case h_2=>exact skip hk
  rename_i e t l hg
  rw[q49,qo3] at hk
  have oj:=h.objs j
  rw[show qa1 (St.mk ov base mem).mem j=.vec ej tj lj from hj] at oj
  obtain⟨vj,vsj,j1,j2,j3,j4⟩:=oj
  have og:=h.objs g
  rw[show qa1 (St.mk ov base mem).mem g=.vec e t l from hg] at og
  obtain⟨v,vs,g1,g2,g3,g4⟩:=og
  have hjl:j<ρ.length:=(zaf.1 j1).1
  have hlen:ρ.length=mem.length:=h.len
  have hsl:w53 v=true:=by rcases g3.2 with⟨rfl,_⟩ | ⟨_,_,_,rfl,_⟩ <;> rfl
  have hj1:(ρ.set j v)[j]? = some v:=by rw[zbl]; simp[hjl]
  have hset:∀(x:Nat) (u:Value),x≠j->((ρ.set j v)[x]? = some u↔ρ[x]? = some u):=λx u hx=>by rw[zbl,zai λe=>hx e.symm]
  have hA:=h.turn (w':=w) (m':=m) (ρ':=ρ.set j v) (o:=.dead) (d:=.any) (v:=vj) (show qa1 (St.mk ov base mem).mem j=.vec ej tj lj from hj) j1 ⟨rfl,rfl,rfl,zad _,λ_ _ _=>rfl⟩ (View.le_refl m) (by simp) (λx u hx hu=>(hset x u hx).2 hu) (λx u hx hu=>(hset x u hx).1 hu) ⟨_,rfl⟩ (λb ob hb=>.inl hb) h.view
   (λx hx=>by rcases zaw hx with hx | rfl; exact h.hdr x hx; exact h.hdr _ (zag g1)) trivial (λhl=>by cases hl)
  have hlen1:(qc7 (qb7 j .any mem) j .dead).length=mem.length:=by rw[qc9 _ _ _ (by rw[qa9]; omega),qa9]
  have hg':qa1 (qc7 (qb7 j .any mem) j .dead) g=.vec e t l:=by
   rw[qd1 _ _ _ _ (by rw[qa9]; omega),zai hne,qe7,hg]; rfl
  have hg1':(ρ.set j v)[g]? = some v:=(hset g v hne).2 g1
  have hB:=hA.turn (w':=w) (m':=m) (ρ':=ρ.set j v) (o:=.dead) (d:=.own j) (v:=v) hg' hg1' ⟨rfl,rfl,rfl,zad _,λ_ _ _=>rfl⟩ (View.le_refl m) rfl (λx u _ hu=>hu) (λx u _ hu=>hu) ⟨v,⟨hj1,hsl⟩,rfl⟩ (λb ob hb=>.inl hb) hA.view hA.hdr trivial (λhl=>by cases hl)
  have hlg:g<mem.length:=by have:=(zaf.1 g1).1; omega
  have hlen2:(qc7 (qb7 g (.own j) (qc7 (qb7 j .any mem) j .dead)) g .dead).length=mem.length:=by rw[qc9 _ _ _ (by rw[qa9,hlen1]; exact hlg),qa9,hlen1]
  have hmem:∀x,qa1 (qc7 (qc7 (qb7 g (.own j) (qc7 (qb7 j .any mem) j .dead)) g .dead) j (.vec e t l)) x=if x=j then .vec e t l else qa1 (qc7 (qb7 g (.own j) (qc7 (qb7 j .any mem) j .dead)) g .dead) x:=λx=>qd1 _ _ _ _ (by rw[hlen2]; omega)
  have hsub:∀(i:Nat) (d:AV) (o:AObj),(qo2 i d o).live=o.live:=λi d o=>by cases o <;> rfl
  have hliv:∀x,x≠j->(qa1 (qc7 (qb7 g (.own j) (qc7 (qb7 j .any mem) j .dead)) g .dead) x).live=true->x≠g/\(qa1 mem x).live=true:=λx hx hl=>by
   rw[qd1 _ _ _ _ (by rw[qa9,hlen1]; exact hlg)] at hl
   split at hl
   ·cases hl
   ·rename_i hxg
    rw[qe7,hsub,qd1 _ _ _ _ (by rw[qa9]; omega),zai hx,qe7,hsub] at hl
    exact⟨hxg,hl⟩
  have hap:∀x u b,x≠j->(qa1 (qc7 (qb7 g (.own j) (qc7 (qb7 j .any mem) j .dead)) g .dead) x).live=true->(ρ.set j v)[x]? = some u->Blk u b->Blk v b->False:=λx u b hx hl hu hb hb'=>by
   obtain⟨k1,k2⟩:=hliv x hx hl
   exact h.apart x g u v b k1 k2 (by rw[show qa1 (St.mk ov base mem).mem g=.vec e t l from hg]; rfl) ((hset x u hx).1 hu) g1 hb hb'
  refine⟨_,m,ρ.set j v,hk,View.le_refl m,⟨hB.slots,?_,hB.hdr,hB.defers,λx=>?_,λx x' u u' b hxx hl hl' hu hu' hb hb'=>?_,hB.view,hB.ext,hB.new,hB.below,λx u b hl hu hb=>?_,hB.pins⟩,λi hi hs=>?_,?_⟩
  ·show(ρ.set j v).length=(qc7 (qc7 _ g .dead) j (.vec e t l)).length
   rw[qc9 _ _ _ (by rw[hlen2]; omega),hlen2,zaz]; exact hlen
  ·rw[hmem]
   split
   ·rename_i e'; subst e'; exact⟨v,vs,hj1,g2,g3,g4⟩
   ·exact hB.objs x
  ·simp only[hmem] at hl hl'
   by_cases e1:x=j
   ·subst e1
    rw[zai λe=>hxx e.symm] at hl'
    rw[hj1] at hu; obtain rfl:=zaa hu
    exact hap x' u' b (λe=>hxx e.symm) hl' hu' hb' hb
   ·rw[zai e1] at hl
    by_cases e2:x'=j
    ·subst e2
     rw[hj1] at hu'; obtain rfl:=zaa hu'
     exact hap x u b e1 hl hu hb hb'
    ·rw[zai e2] at hl'
     exact hB.apart x x' u u' b hxx hl hl' hu hu' hb hb'
  ·simp only[hmem] at hl
   by_cases e1:x=j
   ·subst e1
    rw[hj1] at hu; obtain rfl:=zaa hu
    exact h.zone g v b (by rw[show qa1 (St.mk ov base mem).mem g=.vec e t l from hg]; rfl) g1 hb
   ·rw[zai e1] at hl
    exact hB.zone x u b hl hu hb
  ·show look (qg8 g (.own j) (qg8 j .any ov)) i (AV.subst g (.own j) (AV.subst j .any (base i)))=_
   rw[qi7,qi7]
   show AV.subst g (.own j) (AV.subst j .any ((St.mk ov base mem).get i))=_
   rw[<- hs,<- q3f hf,qy4,qy4]
  ·show(qc7 (qc7 _ g .dead) j (.vec e t l)).length=mem.length
   rw[qc9 _ _ _ (by rw[hlen2]; omega),hlen2]
theorem q3g:∀(l:List AObj) (j:Nat) (o:AObj),l[j]? = some o->qa1 l (0+j)=o
 | [],j,o,h=>by grind
 | x :: r,0,o,h=>by grind [qa1]
 | x :: r,j+1,o,h=>by
  have:=q3g r j o (by grind)
  rw[zb8] at this ⊢
  exact this
theorem w1k {y:Option qg6} (hf:wl3 y) {D:Nat->Prop} {l:List (Nat × Nat)} {mem':List AObj} {s:St} {m:View} {ρ:List Value} {a:Act} {w:World} {K:St->Prop} (h:Rel P w0 m0 s m ρ a w) (hk:mvK l s λs=>q8x mem' 0 s.mem s K):∃s1 m1 ρ1,K s1/\m.le m1/\Rel P w0 m0 s1 m1 ρ1 a w/\FR y D s s1/\s1.mem.length=s.mem.length:=by
 obtain⟨s1,m1,ρ1,k1,k2,k3,k4,k5⟩:=x4l hf (D:=D) h hk
 obtain⟨s2,m2,ρ2,q1,q2,q3,q4,q5⟩:=q4d hf (D:=D) s1.mem 0 s1 m1 ρ1 (λj o hj _=>q3g _ _ _ hj) k3 k1
 exact⟨s2,m2,ρ2,q1,View.le_trans k2 q2,q3,k4.trans q4,q5.trans k5⟩
theorem qy5:∀{sl:List (Nat × AV)} {l:List Nat},qt0 sl l=true->∀p∈sl,p.1∈l
 | [],[],_,p,hp=>by grind
 | (i,v) :: r,j :: l,h,p,hp=>by
  simp only[qt0] at h
  split at h
  ·rename_i e
   have e:=zab e
   rcases zao.1 hp with rfl | hp
   ·grind
   ·exact zau _ (qy5 h p hp)
  grind
 | [],_ :: _,h,p,hp=>by cases h
 | _ :: _,[],h,p,hp=>by cases h
def XK.out:XK->Exit
 | .normal=>.normal
 | .exit id=>.exit id
 | .ret=>.ret
def q67 (P:Program) (T:Base->Prop) (m0:View) (N:Frm) (s:St) (a:Act) (w:World):Prop:=∃Z,T Z/\Good P Z m0 N s a w
structure Cls (P:Program) (C:Ctx) (T:Base->Prop) (m0:View) (N:Frm) (r:Option Nat) (n:Nat):Prop where
 pins:∀Z Z',T Z->T Z'->∀(g:Nat) v,Z.ρ[g]? = some v->w5z v=true->∃v',Z'.ρ[g]? = some v'/\w5z v'=true
 yl:∀Y,C.yl=some Y->∃RR,YOk P T m0 N Y RR
theorem Cls.one (h:C.yl=none) (Z:Base) (r:Option Nat) (n:Nat):Cls P C (λZ'=>Z'=Z) m0 N r n:=
 ⟨λZ1 Z2 e1 e2 g v h1 h2=>by grind,λY e=>by grind⟩
theorem xv6 {sl:List Nat}:∀{l:List Oper} {i y:Nat},yIx sl l i=some y->y<=i+l.length
 | [],i,y,h=>by cases h
 | o :: r,i,y,h=>by
  simp only[yIx] at h
  split at h
  ·grind
  ·have:=xv6 h; grind
theorem qp7 {b:Frame} {a:Act} {k:List Item} {cs:List Frame} {w:World} {c:Code}:Go.step P (lone (b.atR a (.code (.scope c) :: k)) cs w)=.next (lone (b.atR a (.code c :: .inScope c :: k)) cs w):=
 step_lone_go (by rfl)
theorem wc1 {b:Frame} {a:Act} {k:List Item} {cs:List Frame} {w:World} {c:Code}:Go.step P (lone (b.atR a (.inScope c :: k)) cs w)=.next (lone (b.atR a k) cs w):=
 step_lone_go (by rfl)
def noGoto (Q:Exit->Act->World->Prop):Exit->Act->World->Prop
 | .goto _,_,_=>False
 | e,a,w=>Q e a w
theorem w37 {F:Fence} {n:Nat} {Q:Exit->Act->World->Prop} {a:Act} {w:World} {c:Code} (h:c.wpIn F n P (noGoto Q) a w):(Code.scope c).wpIn F n P Q a w:=by
 intro b k cs hro hb hr
 have h0:(lone (b.atR a (.code (.scope c) :: k)) cs w).fenced P F:=fenced_calm hb hr rfl
 obtain⟨e,a₁,w₁,hq,harr⟩:=h b (.inScope c :: k) cs hro hb hr
 cases e with
 | normal=>exact⟨.normal,a₁,w₁,hq,.head h0 qp7 (zd9 harr (.one (fenced_calm hb hr rfl) wc1))⟩
 | exit id=>
  have hx:exitTo id (.inScope c :: k)=exitTo id k:=by rfl
  exact⟨.exit id,a₁,w₁,hq,λk' hk=>.head h0 qp7 (harr.1 k' (by grind)),
   λhr' hk=>let ⟨k₁,h1,h2⟩:=harr.2 hr' (by grind); ⟨k₁,h1,.head h0 qp7 h2⟩⟩
 | goto l=>exact hq.elim
 | ret=>exact⟨_,a₁,w₁,hq,.of_steps (.one h0 qp7) harr⟩
 | panic ch=>exact⟨_,a₁,w₁,hq,.of_steps (.one h0 qp7) harr⟩
 | outgrown=>exact⟨_,a₁,w₁,hq,.of_steps (.one h0 qp7) harr⟩
def w38 (C:Ctx) (T:Base->Prop) (r:Option Nat):Prop:=r=none\/(C.yl=none/\∃l,r=some l/\∀Z,T Z->Z.F l/\∃o,Z.W.heap[l]? = some (.loop o))
def Mc (P:Program) (N:Frm) (iv:Nat->Option Inv) (c:Code):Prop:=∀(C:Ctx) (T:Base->Prop) (m0:View) (hS:SoundAt P C m0) (r:Option Nat) (n:Nat) (hC:Cls P C T m0 N r n) (hmc:m0.cells=m0) (hrr:qi2 c=true\/w38 C T r) (i:Nat) (K:XK->St->Prop) (s:St) (a:Act) (w:World) (Q:Exit->Act->World->Prop),(∀d∈qm7 iv c i,N.may d)->q67 P T m0 N s a w->vc C iv c i K s ->
  (∀e s' a' w',K e s'->FR C.yl (λj=>j∈qm7 iv c i) s s'->q67 P T m0 N s' a' w'->Q e.out a' w')->c.wpIn (fz r) n P Q a w
def Mt (P:Program) (N:Frm) (iv:Nat->Option Inv) (c:Code):Prop:=Mc P N iv c/\(∀x y,c=.seq x y->Mc P N iv x/\Mc P N iv y)/\∀id x y,c=.block id (.seq x y)->Mc P N iv x/\Mc P N iv y
theorem SoundAt.quiet {m0:View} (hS:SoundAt P C m0):SoundAt P C.quiet m0:=⟨hS.tys,hS.specs,hS.mixed,hS.its,(λY e=>by cases e),hS.muts,hS.blds,hS.bxs⟩
theorem x08 {id:Nat} {e:XK}:(blkX id e=.normal/\(e=.normal\/e=.exit id))\/(blkX id e=e/\e≠.normal/\e≠.exit id):=by
 cases e with
 | normal=>exact .inl ⟨rfl,.inl rfl⟩
 | ret=>exact .inr ⟨rfl,by simp,by simp⟩
 | exit j=>
  simp only[blkX]
  cases hb:Nat.beq j id with
  | true=>simp_all
  | false=>exact .inr ⟨rfl,by simp,λe=>by simp_all⟩
def TIn (T:Base->Prop) (RR:List Value) (W:World) (n:Nat) (F0 X:Nat->Prop) (R:List Value) (Wr:World) (Z:Base):Prop:=
 ∃(F:Nat->Prop) (k:Option Nat),T ⟨Z.n,Z.W,F,Z.low,.int .i64 (code k) :: RR⟩/\Z.ρ=.int .i64 (code k) :: R/\Z.n=n/\(∀b,F b->Z.F b)/\(∀b,X b->Z.F b/\¬F b)/\(∀b,F b->b<W.heap.size->F0 b) /\
  (Z.W.os=Wr.os/\Z.W.tape=Wr.tape/\Z.W.output=Wr.output)/\Wr.heap.size<=Z.W.heap.size/\∀b,X b->Z.W.heap[b]? = Wr.heap[b]?
theorem TIn.yok {T:Base->Prop} {RR:List Value} {W:World} {n:Nat} {F0 X:Nat->Prop} {R:List Value} {Wr:World} {Y:qg6} (hY:YOk P T m0 N Y RR) (hX:∀b,X b->b<W.heap.size/\m0 b=none) (hXD:∀b,b<W.heap.size->¬X b->F0 b) (hWr:W.heap.size<=Wr.heap.size):YOk P (TIn T RR W n F0 X R Wr) m0 N Y R:=by
 refine⟨hY.fix,λZ ⟨F,k,h1,h2,_⟩=>⟨k,h2⟩,?_,?_⟩
 ·rintro Z W' F' h ⟨F,k,h1,h2,h3,h4,h5,h6,h7,h8,h9⟩ hok hF'
  refine⟨F,k,hY.mov ⟨Z.n,Z.W,F,Z.low,_⟩ W' F h h1 ⟨hok.os,hok.tape,hok.output,hok.grows,λb hb=>hok.kept b (h4 b hb)⟩ λ_ h=>h,h2,h3,λb hb=>hF' b (h4 b hb),λb hb=>⟨hF' b (h5 b hb).1,(h5 b hb).2⟩,h6,⟨hok.os.trans h7.1,hok.tape.trans h7.2.1,hok.output.trans h7.2.2⟩,zah h8 hok.grows,λb hb=>((hok.kept b (h5 b hb).1).2).trans (h9 b hb)⟩
 ·rintro Z k V mx d vs B ⟨F,k',h1,h2,h3,h4,h5,h6,h7,h8,h9⟩ hk hok hmx hcx hmd hd hargs hlent hB
  obtain rfl:k'=some k:=by
   rw[h2] at hk
   injection hk with e
   injection e with _ e
   exact code_inj e
  have hok':Base.ok ⟨Z.n,Z.W,F,Z.low,.int .i64 (code (some k)) :: RR⟩ V:=⟨hok.os,hok.tape,hok.output,hok.grows,λb hb=>hok.kept b (h4 b hb)⟩
  have hXm:∀b,X b->mx b=none:=λb hb=>by
   cases hm:mx b with
   | none=>rfl
   | some o=>
    rcases hmd b o hm with q | q
    ·rw[(hX b hb).2] at q; cases q
    ·exact absurd (h5 b hb).1 q.2
  have hXV:∀b,X b->b<V.heap.size:=λb hb=>by
   have h1:=(hX b hb).1
   have h2:=hok.grows
   omega
  obtain⟨fn,t,as1,bd,y1,y2⟩:=hY.yld ⟨Z.n,Z.W,F,Z.low,_⟩ k V mx d vs B h1 rfl hok' hmx hcx (λb o hb=>(hmd b o hb).imp id λ⟨q1,q2⟩=>⟨q1,λq=>q2 (h4 b q)⟩) hd hargs hlent λb hb=>⟨(hB b hb).1,(hB b hb).2.1,λq=>(hB b hb).2.2.1 (h4 b q),(hB b hb).2.2.2⟩
  refine⟨fn,t,as1,bd,y1,zdf y2 ?_⟩
  rintro e V' ⟨q0,q1,q2,q3,q4,c,rfl,q5⟩
  refine⟨q0,q1,q2,q3,λb h1 h2 h3 h4'=>q4 b h1 (λq=>h2 (h4 b q)) h3 h4',c,rfl,λO h hO=>?_⟩
  have hT:=q5 (λb=>O b\/X b) h λb hb=>by
   rcases hb with hb | hb
   ·exact⟨(hO b hb).1,λq=>(hO b hb).2.1 (h4 b q),(hO b hb).2.2⟩
   ·exact⟨hXV b hb,(h5 b hb).2,hXm b hb,λ_ q=>(hB b q).2.2.1 (h5 b hb).1⟩
  refine⟨_,_,hT,rfl,h3,λb hb=>⟨hb.1,λq=>hb.2 (.inl q)⟩,λb hb=>⟨⟨za7 (hXV b hb) q2,λq=>(hO b q).2.1 (h5 b hb).1⟩,λq=>q.2 (.inr hb)⟩,λb hb hlt=>?_,⟨q0.1.trans (hok.os.trans h7.1),q0.2.1.trans (hok.tape.trans h7.2.1),q0.2.2.trans (hok.output.trans h7.2.2)⟩,zah h8 (zah hok.grows q2),λb hb=>?_⟩
  ·exact hXD b hlt λq=>hb.2 (.inr q)
  ·exact(q4 b (hXV b hb) (h5 b hb).2 (hXm b hb) (λq=>(hB b q).2.2.1 (h5 b hb).1)).trans (((hok.kept b (h5 b hb).1).2).trans (h9 b hb))
theorem Marks.move {Z Z':Base} {W W':World} (hn:Z'.n=Z.n):∀{ds:List Deferred},Marks Z W ds->(∀b,qh3 ds b->¬Z'.F b/\W'.heap[b]? = W.heap[b]?)->Marks Z' W' ds
 | [],_,_=>trivial
 | d :: ds,⟨⟨D,h1,h2,h3,h4,h5⟩,h6⟩,h=>by
  obtain⟨k1,k2⟩:=h D ⟨d,by simp,h1⟩
  exact⟨⟨D,h1,ow,k1,k2.trans h4,h5⟩,Marks.move hn h6 λb ⟨e,he,hb⟩=>h b ⟨e,by grind,hb⟩⟩
theorem Rel.loose {Z:Base} {m0 m2 m:View} {s:St} {ρ:List Value} {a:Act} {w:World} (h:Rel P Z m2 s m ρ a w) (h1:m0.le m2) (h2:∀b o,m2 b=some o->m0 b=some o\/(Z.n<=b/\¬Z.F b)):Rel P Z m0 s m ρ a w:=
 ⟨h.slots,h.len,h.hdr,h.defers,h.objs,h.apart,h.view,View.le_trans h1 h.ext,λb o hb=>(h.new b o hb).elim (h2 b o) .inr,h.below,h.zone,h.pins⟩
set_option maxHeartbeats 4000000 in
theorem w7y {iv:Nat->Option Inv} {g:Operand} {ps:Array Tmp} {ag c:Code} (ihag:Mc P N iv ag) (ihc:Mt P N iv c) {Y:qg6} (hyl:C.yl=some Y) (T:Base->Prop) (m0:View) (hS:SoundAt P C m0) (n:Nat) (hC:Cls P C T m0 N none n) (hmc:m0.cells=m0) (i:Nat) (K:XK->St->Prop) (s:St) (a:Act) (w:World) (Q:Exit->Act->World->Prop) (hd:∀d∈qm7 iv (.rangeFunc g ps ag c) i,N.may d) (hg:q67 P T m0 N s a w) (h:vc C iv (.rangeFunc g ps ag c) i K s)
  (hQ:∀e s' a' w',K e s'->FR C.yl (λj=>j∈qm7 iv (.rangeFunc g ps ag c) i) s s'->q67 P T m0 N s' a' w'->Q e.out a' w'):(Code.rangeFunc g ps ag c).wpIn (fz none) n P Q a w:=by
 obtain⟨ov,base,mem⟩:=s
 simp only[vc,hyl] at h
 split at h
 case h_2=>grind
 rename_i F caps heq
 split at h
 ·grind
 case h_3=>grind
 rename_i Y' hpl hna hnb hye
 obtain rfl:Y=Y':=by grind
 clear hye
 split at h
 case h_2=>grind
 rename_i id cc
 split at h
 case h_2=>grind
 rename_i c1 c2
 obtain⟨ih1,ih2⟩:=ihc.2.2 id c1 c2 rfl
 clear ihc
 obtain⟨S,hS1,h⟩:=withSome_iff.1 h
 obtain⟨eL,hlend,h⟩:=withSome_iff.1 h
 rw[qm9] at h
 obtain⟨V,hV,h⟩:=withSome_iff.1 h
 obtain⟨hlen,h⟩:=qp6 h
 obtain⟨w0,hT,hN,mA,ρA,hrA⟩:=hg
 obtain⟨RR,hYO⟩:=hC.yl Y hyl
 have hc0:Cells m0:=by grind [Cells.of]
 have hfx:wl3 (some Y):=by rw[<- hyl]; exact hS.fixs
 have hr0:=hrA.cells
 rw[hmc] at hr0
 obtain⟨mE,hmE⟩:∃mE,mE=mA.cells:=⟨_,rfl⟩
 have hcE:Cells mE:=by grind [Cells.of]
 rw[<- hmE] at hr0
 clear hrA hmE
 have hev:=hr0.eval g
 simp only at hev
 rw[heq] at hev
 obtain⟨cs,e1,hcs⟩:=hev
 have e1:=(zac e1).1
 obtain⟨hcl,hIM⟩:=hS.its F S hS1
 obtain⟨L,⟨p,x0,hI0,hmu0,hmem0,hround⟩,hsay⟩:=hIM mE caps cs _ hcE (qu4 hpl hcs) h
 obtain⟨s0,hs0⟩:∃s0:St,s0=⟨ov,base,mem⟩:=⟨_,rfl⟩
 have hms0:s0.mem=mem:=by grind
 rw[<- hs0] at hr0 hround hQ
 have chk:∀y,V.I p y->(qr7 V.size (V.mem p y)=true/\(V.mem p y).length=V.size/\mem.length=V.size)/\((∀d:qa3 S.ins,L[V.μ p y]? = some d->w3f S.lend ps.toList (qg2 S.ins d) (qn1 (some Y) [] (V.mem p y) [] s0) λT s2=>vc C.quiet iv ag (i+1) (λe s3=>match e with
          | .normal=>vc C.quiet iv c1 (i+1+loops ag) (λe s4=>match e with
           | .normal=>q2a V.size lits λnv=>wi7 S.lend nv T (qg2 S.ins d) s4 λs5=>vc C iv c2 (i+1+loops ag+loops c1) (λe s6=>match blkX id e with
            | .normal=>∃x':V.S,V.I p x'/\V.μ p x'=V.μ p y+1/\qx2 .none (ql5 s6.mem) (V.mem p x')
            | e=>K e (qn1 (some Y) [] (ql5 s6.mem) [] s0)) s5
           | _=>False) s3
          | _=>False) s2)/\(V.μ p y=L.length->K .normal (qn1 (some Y) [] (V.mem p y) [] s0))):=by
  intro y hy
  have:=hround y hy
  revert this
  cases qr7 V.size (V.mem p y) <;> cases h2:Nat.beq (V.mem p y).length V.size <;> cases h3:Nat.beq mem.length V.size <;> intro this <;> first | grind | skip
  simp only[wb8] at this
  exact⟨⟨rfl,zab h2,zab h3⟩,this⟩
 clear hround
 obtain⟨NN,hNN⟩:∃NN,NN=w.heap.size:=⟨_,rfl⟩
 -- how often
 obtain⟨kz,hkz⟩:=hYO.cls w0 hT
 have hρA0:ρA[0]? = some (.int .i64 (code kz)):=hr0.pins 0 _ (by grind) rfl
 have hAp:∀b,ρA[0]?≠some (.pointer b):=λb hb=>by grind
 -- the slots
 have slotA:∀j,(kpK (some Y) j (s0.get j)).ok P m0 ρA [a.tmps.getD j undef]:=λj=>by
  show(look Y.fix j ((s0.get j).strip.hav)).ok P m0 ρA _
  rcases qr9 (i:=j) (d:=(s0.get j).strip.hav) (l:=Y.fix) with⟨e,_⟩ | e
  ·rw[e]; exact w1c (.inl rfl) (λ_ _ _ h=>h) (q55 (hr0.slots j))
  ·exact AV.ok_le (View.le_refl m0) qk5 (hYO.fix _ e a hN)
 have slotK:∀ρ':List Value,(∀(g:Nat) q,ρA[g]? = some (Value.pointer q)->ρ'[g]? = some (Value.pointer q))->∀j,(kpK (some Y) j (s0.get j)).ok P m0 ρ' [a.tmps.getD j undef]:=fun ρ' hp j=>by
  have:=slotA j
  rw[<- q3f hfx j (s0.get j)] at this ⊢
  exact q87 (View.le_refl m0) hp this
 have slotB:∀j,(kpK (some Y) j (s0.get j)).bnd V.size=true:=λj=>by
  obtain⟨⟨_,_,c3⟩,_⟩:=chk x0 hI0
  have:=w1h (slotA j)
  rw[hr0.len,hms0,c3] at this
  omega
 have headG:∀(mem':List AObj) j,(qn1 (some Y) [] mem' [] s0).get j=kpK (some Y) j (s0.get j):=λ_ _=>rfl
 -- what holds between rounds
 let G:List AObj->(Nat->Prop)->World->Prop:=λmem' D W=>(¬D NN/\¬D (NN+1)/\∀b,D b->b<W.heap.size)/\mE.on W/\∃(Z:Base) (ρ:List Value) (F:Nat->Prop),T ⟨Z.n,Z.W,F,Z.low,Z.ρ⟩/\Z.n=w0.n/\(∀b,F b->Z.F b)/\(∀b,mE b≠none->m0 b=none->Z.F b/\¬F b)/\(∀(g:Nat) q,ρA[g]? = some (Value.pointer q)->ρ[g]? = some (Value.pointer q))/\(∀b,w08 Z m0 mem' ρ a.defers b->D b)/\Rel P Z m0 (qn1 (some Y) [] mem' [] s0) m0 ρ a W
 have mED:∀{Z:Base} {F:Nat->Prop} {D:Nat->Prop} {mem':List AObj} {ρ:List Value},(∀b,mE b≠none->m0 b=none->Z.F b/\¬F b)->(∀b,w08 Z m0 mem' ρ a.defers b->D b)->∀b,mE b≠none->D b:=λh1 h2 b hb=>by
  cases hm:m0 b with
  | none=>exact h2 b (.inr (.inl (h1 b hb hm).1))
  | some o=>exact h2 b (.inl (by grind))
 have hGs:∀mem' D W W',G mem' D W->Same D W W'->G mem' D W':=by
  rintro mem' D W W' ⟨⟨g1,g2,g3⟩,gE,Z,ρ,F,q1,q2,q3,q4,q5,q6,q7⟩ hs
  exact⟨⟨g1,g2,λb hb=>za7 (g3 b hb) hs.size⟩,λb o hb=>(hs.block b (mED q4 q6 b (by grind))).trans (gE b o hb),Z,ρ,F,q1,q2,q3,q4,q5,q6,q7.same hs q6⟩
 have hnN:w0.n<=NN:=by rw[hNN]; exact hr0.below.size
 have hfin:∀mem' D W,G mem' D W->W.heap[NN]? = some (.deferred (some []))->FR C.yl (λj=>j∈qm7 iv (.rangeFunc g ps ag (.block id (.seq c1 c2))) i) s0 (qn1 (some Y) [] mem' [] s0)/\q67 P T m0 N (qn1 (some Y) [] mem' [] s0) { a with defers:={ target:=.collected NN,args:=#[] } :: a.defers } W:=by
  rintro mem' D W ⟨⟨g1,g2,g3⟩,gE,Z,ρ,F,q1,q2,q3,q4,q5,q6,q7⟩ hW
  refine⟨λj _ hst=>?_,⟨Z.n,Z.W,F,Z.low,Z.ρ⟩,q1,hN,m0,ρ,?_⟩
  ·grind
  ·have h1:=q7.rebase (Z':=⟨Z.n,Z.W,F,Z.low,Z.ρ⟩) rfl rfl ⟨q7.below.os,q7.below.tape,q7.below.output,q7.below.grows,λb hb=>q7.below.kept b (q3 b hb)⟩ λb hb=>.inl (q3 b hb)
   exact h1.act (ov:=[]) (base:=λi=>kpK (some Y) i (s0.get i)) (λi=>h1.slots i) ⟨⟨NN,rfl,by grind,λhF=>g1 (q6 _ (.inr (.inl (q3 _ hF)))),hW,λe he ht=>g1 (q6 _ (.inr (.inr (.inr ⟨e,he,ht⟩))))⟩,h1.defers⟩
 -- as the loop finds it
 obtain⟨Zs,hZs⟩:∃Zs:Base,Zs=⟨w0.n,w,λb=>w0.F b\/(mE b≠none/\m0 b=none),hr0.below.size,w0.ρ⟩:=⟨_,rfl⟩
 obtain⟨ρs,hρs⟩:∃ρs,ρs=headρ ρA (V.mem p x0):=⟨_,rfl⟩
 have hstart:Rel P Zs m0 (qn1 (some Y) [] (V.mem p x0) [] s0) m0 ρs a w:=by
  obtain⟨⟨c1',c2',c3'⟩,_⟩:=chk x0 hI0
  have hown:∀b,Own s0.mem ρA b->mE b=none:=λb hb=>(hr0.own hb).2.2.1
  have h1:=hr0.havs (ov':=[]) (base':=λi=>kpK (some Y) i (s0.get i)) slotA
  have h2:=h1.rebase (Z':=⟨w0.n,w,λb=>w0.F b\/(mE b≠none/\m0 b=none),hr0.below.size,w0.ρ⟩) rfl rfl ⟨rfl,rfl,rfl,zad _,λb hb=>⟨?_,rfl⟩⟩ λb hb=>?_
  ·have h3:=q1a (y:=some Y) (b:=none) (sl:=[]) (mem:=V.mem p x0) (ds:=[]) (s0:=s0) h2 trivial (by grind) rfl (by grind) (λg v hv hp=>by
    have h1:=(zaf.1 (hr0.pins g v hv hp)).1
    rw[hr0.len,hms0] at h1
    omega) (λN e=>by cases e) λj _ _=>⟨slotA j,by grind⟩
   grind
  ·rcases hb with hb | ⟨hb,_⟩
   ·exact za7 (hr0.below.kept b hb).1 hr0.below.grows
   ·cases hm:mE b with
    | none=>grind
    | some o=>exact View.lt hr0.view hm
  ·rcases hb with hb | ⟨hb,hb'⟩
   ·grind
   ·refine .inr ⟨hb',λ⟨g,v,l1,l2,l3⟩=>hb (hown b ⟨g,v,?_,l2,l3⟩),λhmk=>?_⟩
    ·grind [qa1,ql5,qw1,wb7]
    ·have h5:=(hr0.defers.get hmk).2.2
     cases hm:mE b with
     | none=>grind
     | some o=>
      obtain⟨c,t,f,rfl⟩:=hcE b o hm
      have:=hr0.view b _ hm
      grind
 have hZn:Zs.n=w0.n:=by grind
 have hstartG:G (V.mem p x0) (w08 Zs m0 (V.mem p x0) ρs a.defers) w:=by
  refine⟨⟨λhD=>?_,λhD=>?_,λb hb=>hstart.deps hb⟩,hr0.view,Zs,ρs,w0.F,?_,hZn,λb hb=>by rw[hZs]; grind,λb h1 h2=>⟨by rw[hZs]; grind,λhF=>?_⟩,λg q hq=>?_,λb hb=>hb,hstart⟩
  ·have:=hstart.deps hD; omega
  ·have:=hstart.deps hD; omega
  ·have h1:=hYO.mov w0 w w0.F hr0.below.size hT hr0.below λ_ h=>h
   grind
  ·cases hm:mE b with
   | none=>grind
   | some o=>
    rcases hr0.new b o hm with q | q
    all_goals grind
  ·rw[hρs]
   obtain⟨⟨_,c2',c3'⟩,_⟩:=chk x0 hI0
   refine headρ_old ?_ hq
   have h1:=(zaf.1 hq).1
   rw[hr0.len,hms0] at h1
   omega
 refine w7n (m:=mE) (args:=qq1 S.lend S.ins) (lent:=qh8 S.lend S.ins) (L:=L) e1 hcl hsay (λ_ _ _ _ _ h1 h2=>qx8 h1 h2) ?_ (λk D W=>∃x,V.I p x/\V.μ p x=k/\G (V.mem p x) D W) (λc D W=>∃e mem',(c=.ret/\e=XK.ret\/∃id,c=.exit id/\e=XK.exit id)/\K e (qn1 (some Y) [] mem' [] s0)/\G mem' D W) ?_ ?_ ?_ ?_ hr0.view (w08 Zs m0 (V.mem p x0) ρs a.defers) ?_ ?_ ?_ ?_
 ·grind [q5a]
 ·rintro k D W W' ⟨x,q1,q2,q3⟩ hs; exact⟨x,q1,q2,hGs _ _ _ _ q3 hs⟩
 ·rintro c D W W' ⟨e,mem',q1,q2,q3⟩ hs; exact⟨e,mem',q1,q2,hGs _ _ _ _ q3 hs⟩
 ·grind
 ·grind
 ·grind
 ·-- a round
  rintro k D W d mx vs B ⟨x,hIx,hmu,⟨dN,dN1,dlt⟩,hEW,Z,ρ,F0,hTF,hZn0,hFZ,hEF,hptr,hdep,hR⟩ hlt ⟨rc,hl⟩ hk hd0 hmx hmd hargs hlent hB
  rw[<- hNN] at hlt hl hk hmd hB ⊢
  obtain⟨⟨c1',c2',c3'⟩,hstep,-⟩:=chk x hIx
  have hb:=hstep d (by grind)
  have hown:∀b,Own (V.mem p x) ρ b->m0 b=none:=λb hb=>(hR.own hb).2.2.1
  have ownD:∀b,Own (V.mem p x) ρ b->D b:=λb hb=>hdep b (.inr (.inr (.inl hb)))
  have hin:=hR.enter (zad _) (View.le_refl m0) hR.view hown (a':={ a with defers:=[] }) rfl (λb ⟨d,hd,_⟩=>by grind) trivial (λ_ _=>rfl) ρ (λ_ _ h _=>h)
  have hmB:∀b,B b->m0 b=none:=λb hb=>by
   cases hm:m0 b with
   | none=>rfl
   | some o=>exact absurd (hdep b (.inl (by grind))) (hB b hb).2.2.1
  have hoB:∀b,B b->¬Own (V.mem p x) ρ b:=λb hb ho=>(hB b hb).2.2.1 (ownD b ho)
  obtain⟨Z1,hZ1⟩:∃Z1:Base,Z1=⟨Z.n,W,λb=>b<W.heap.size/\¬Own (V.mem p x) ρ b/\¬B b,hR.below.size,ρ⟩:=⟨_,rfl⟩
  have hinZ:=hin.rebase (Z':=Z1) (by rw[hZ1]; rfl) (by rw[hZ1]; rfl) (by rw[hZ1]; exact⟨rfl,rfl,rfl,zad _,λb hb=>⟨hb.1,rfl⟩⟩) (λb hb=>by rw[hZ1] at hb; exact .inl ⟨hb.1,hb.2.1,λ⟨d,hd,_⟩=>by grind⟩)
  have hargs2:qq1 S.lend S.ins d m0 vs:=by
   rw[hlend] at hargs ⊢
   exact hargs
  obtain⟨TL,s2,ρ1,hvc,hTL,hl2,hρ1,hown2,t,ht,htN,hin2⟩:=w7o hinZ hN (λq hq=>hd q (zaj.2 (.inl hq))) hb hargs2 hlent λb hb=>⟨by grind,by rw[hZ1]; grind,hmB b hb,hoB b hb⟩
  have hfold:(ps.zip vs.toArray).foldl (λt (p,v)=>t.setIfInBounds p v) a.tmps=t:=by
   rw[ht,<- zdb]
   simp
  rw[hfold]
  have hnb2:qi2 c1=true/\qi2 c2=true:=by
   grind [w0c,qi2]
  have hdb:∀q,q∈qm7 iv c1 (i+1+loops ag)\/q∈qm7 iv c2 (i+1+loops ag+loops c1)->N.may q:=λq hq=>hd q (zaj.2 (.inr (zaj.2 (.inr (zaj.2 hq)))))
  refine ihag C.quiet _ m0 hS.quiet (some (NN+1)) 0 (Cls.one rfl _ _ _) hmc (.inl hna) (i+1) _ s2 _ W _ (λq hq=>hd q (zaj.2 (.inr (zaj.2 (.inl hq))))) ⟨_,rfl,htN,_,ρ1,hin2⟩ hvc ?_
  rintro e s3 a1 W1 hK - ⟨Zx,hZx,hN1,m2',ρ2,hr2'⟩
  rw[hZx] at hr2'
  have hr2:=hr2'.cells
  rw[hmc] at hr2
  obtain⟨m2,hm2e⟩:∃m2,m2=m2'.cells:=⟨_,rfl⟩
  have hc2:Cells m2:=by grind [Cells.of]
  rw[<- hm2e] at hr2
  clear hr2' hm2e
  have notZ1:∀b,¬Z1.F b->W.heap.size<=b\/Own (V.mem p x) ρ b\/B b:=λb hb=>by
   rw[hZ1] at hb
   grind
  have Z1n:Z1.n=Z.n:=by grind
  have Z1W:Z1.W=W:=by grind
  have Z1ρ:Z1.ρ=ρ:=by grind
  have kept1:∀b,b<W.heap.size->¬Own (V.mem p x) ρ b->¬B b->W1.heap[b]? = W.heap[b]?:=λb h1 h2 h3=>by
   have:=(hr2.below.kept b (by grind)).2
   grind
  have hgr1:W.heap.size<=W1.heap.size:=by have:=hr2.below.grows; grind
  have hBN:∀b,b<=NN+1->¬B b:=λb hb h=>by grind
  have hos1:W1.os=W.os/\W1.tape=W.tape/\W1.output=W.output:=by have h1:=hr2.below.os; have h2:=hr2.below.tape; have h3:=hr2.below.output; grind
  have hN1':W1.heap[NN]? = W.heap[NN]?:=kept1 NN ow (λh=>dN (ownD _ h)) (hBN _ ow)
  have hN2':W1.heap[NN+1]? = W.heap[NN+1]?:=kept1 (NN+1) ow (λh=>dN1 (ownD _ h)) (hBN _ ow)
  cases e with
  | exit id=>grind
  | ret=>grind
  | normal=>
  refine⟨⟨hos1.1,hos1.2.1,hos1.2.2,hgr1,λb hb=>kept1 b hb.1 (λh=>hb.2 (.inl (ownD b h))) λh=>hb.2 (.inr h)⟩,hN1',hN2',λo=>?_⟩
  obtain⟨W2,hW2⟩:∃W2,W2=W1.putObj (NN+1) (.loop o):=⟨_,rfl⟩
  have hsz2:W2.heap.size=W1.heap.size:=by grind [World.putObj]
  have hput:∀b,b≠NN+1->W2.heap[b]? = W1.heap[b]?:=λb hb=>by grind [World.putObj_heap_other]
  have hL1:W1.heap[NN+1]? = some (.loop rc):=hN2'.trans hl
  rw[<- hW2]
  have hin3:=hr2.enter (w':=W2) ow (View.le_refl m2) (λb ob hb=>by
    rw[hput b λe=>?_]
    ·exact hr2.view b ob hb
    ·subst e
     have h1:=hr2.view _ ob hb
     rw[hL1] at h1
     obtain⟨c,t,f,h2⟩:=hc2 _ ob hb
     grind) (λb hb=>(hr2.own hb).2.2.1) (a':=a1) rfl (λ_ h=>h) hr2.defers (λb hb=>hput b λe=>by
    subst e
    rcases hb with hb | hb
    ·obtain⟨o',h1,ho'⟩:=(hr2.own hb).2.2.2.2
     rw[hL1] at h1; obtain rfl:=zaa h1; exact ho'
    ·have h1:=(hr2.defers.get hb).2.2
     grind) ρ (λg q hq hv=>hr2.pins g q (by grind) hv)
  refine wpIn_block (wpIn_seq (ih1 C.quiet _ m2 (hS.quiet.le hr2.ext) (some (NN+1)) 0 (Cls.one rfl _ _ _) hc2.eq (.inl hnb2.1) (i+1+loops ag) _ s3 a1 W2 _ (λq hq=>hdb q (.inl hq)) ⟨_,rfl,hN1,m2,ρ2,hin3⟩ hK ?_))
  rintro e s40 a3 W3 hK30 - ⟨_,rfl,hN3,m3,ρ3,hr30⟩
  cases e with
  | exit id=>grind
  | ret=>grind
  | normal=>
  simp only at hK30
  rw[qm9] at hK30
  obtain⟨s4,hK3,hr3',hl3,hB3⟩:=w7p hr30 hK30 hTL hlent
  have notZ20:∀b,¬(b<W2.heap.size/\¬Own s3.mem ρ2 b/\¬qh3 a1.defers b)->W.heap.size<=b\/Own (V.mem p x) ρ b\/B b:=λb hb=>by
   by_cases h1:b<W2.heap.size
   ·by_cases h2:Own s3.mem ρ2 b
    ·exact notZ1 b (hr2.own h2).2.2.2.1
    ·by_cases h3:qh3 a1.defers b
     ·exact notZ1 b (hr2.defers.get h3).2.1
     grind
   omega
  have kept2:∀b,b<W.heap.size->¬Own (V.mem p x) ρ b->¬B b->W3.heap[b]? = W2.heap[b]?:=λb h1 h2 h4=>(hr3'.below.kept b (zan λhz=>by
   rcases notZ20 b hz with h3 | h3 | h3
   ·omega
   all_goals grind)).2
  have hgr3:W2.heap.size<=W3.heap.size:=hr3'.below.grows
  have hos3:W3.os=W2.os/\W3.tape=W2.tape/\W3.output=W2.output:=⟨hr3'.below.os,hr3'.below.tape,hr3'.below.output⟩
  have hm2:∀b ob,m2 b=some ob->m0 b=some ob\/W.heap.size<=b\/Own (V.mem p x) ρ b:=λb ob hb=>by
   rcases hr2.new b ob hb with h1 | ⟨_,h1⟩
   ·grind
   ·rcases notZ1 b h1 with h2 | h2 | h2
    ·omega
    ·grind
    ·have h3:=hr3'.ext b ob hb
     grind
  obtain⟨Zb,hZb⟩:∃Zb:Base,Zb=⟨Z.n,W3,λb=>b<W.heap.size/\¬Own (V.mem p x) ρ b,zah hR.below.size ow,ρ⟩:=⟨_,rfl⟩
  have hr3:Rel P Zb m0 s4 m3 ρ3 a3 W3:=by
   have h1:=hr3'.rebase (Z':=Zb) (by rw[hZb]; exact Z1n.symm) (by rw[hZb]; rfl) (by rw[hZb]; exact⟨rfl,rfl,rfl,zad _,λb hb=>⟨by grind,rfl⟩⟩) λb hb=>by
    rw[hZb] at hb
    refine zan λhz=>?_
    rcases notZ20 b λq=>hz (.inl q) with q | q | q
    ·omega
    all_goals grind
   refine h1.loose hr2.ext λb ob hb=>?_
   rcases hm2 b ob hb with q | q | q
   ·grind
   ·exact .inr ⟨by grind,by rw[hZb]; omega⟩
   ·exact .inr ⟨by rw[hZb]; exact(hR.own q).1,by rw[hZb]; grind⟩
  have hW2s:W2.os=W1.os/\W2.tape=W1.tape/\W2.output=W1.output:=by rw[hW2]; exact⟨rfl,rfl,rfl⟩
  have keptA:∀b,b<W.heap.size->¬Own (V.mem p x) ρ b->¬B b->b≠NN+1->W3.heap[b]? = W.heap[b]?:=λb h1 h2 h3 h4=>(kept2 b h1 h2 h3).trans ((hput b h4).trans (kept1 b h1 h2 h3))
  -- from here on what comes may hand over
  obtain⟨k0,hk0⟩:∃k0,Z.ρ=.int .i64 (code k0) :: RR:=hYO.cls ⟨Z.n,Z.W,F0,Z.low,Z.ρ⟩ hTF
  have hρ0:ρ[0]? = some (.int .i64 (code k0)):=hR.pins 0 _ (by grind) rfl
  obtain⟨R,hRt⟩:∃R,ρ=.int .i64 (code k0) :: R:=by
   cases ρ with
   | nil=>grind
   | cons v R=>grind
  obtain⟨X,hXe⟩:∃X:Nat->Prop,X=λb=>b<W.heap.size/\¬Own (V.mem p x) ρ b/\¬F0 b/\m0 b=none:=⟨_,rfl⟩
  have hX:∀b,X b↔b<W.heap.size/\¬Own (V.mem p x) ρ b/\¬F0 b/\m0 b=none:=λb=>by grind
  clear hXe
  have hXD:∀b,b<W.heap.size->¬X b->D b:=λb hb hn=>by
   by_cases h1:Own (V.mem p x) ρ b
   ·grind
   ·by_cases h2:F0 b
    ·exact hdep b (.inr (.inl (hFZ b h2)))
    ·cases h3:m0 b with
     | none=>grind
     | some o=>exact hdep b (.inl (by grind))
  have hDX:∀b,b<W.heap.size->¬D b->X b:=λb hb hn=>zan λh=>hn (hXD b hb h)
  have hF0B:∀b,F0 b->b<W.heap.size/\¬Own (V.mem p x) ρ b/\¬B b/\b≠NN+1:=λb hb=>by
   have h1:=hdep b (.inr (.inl (hFZ b hb)))
   exact⟨dlt b h1,λh=>(hR.own h).2.2.2.1 (hFZ b hb),λh=>(hB b h).2.2.1 h1,λe=>dN1 (e ▸ h1)⟩
  have hlow3:Z.n<=W3.heap.size:=zah hR.below.size ow
  have hos0:=hR.below
  have hTb:TIn T RR W Z.n D X R W3 Zb:=by
   rw[hZb]
   refine⟨F0,k0,?_,hRt,rfl,λb hb=>⟨(hF0B b hb).1,(hF0B b hb).2.1⟩,λb hb=>⟨⟨((hX b).1 hb).1,((hX b).1 hb).2.1⟩,((hX b).1 hb).2.2.1⟩,λb hb _=>hdep b (.inr (.inl (hFZ b hb))),⟨rfl,rfl,rfl⟩,zad _,λ_ _=>rfl⟩
   have h1:=hYO.mov ⟨Z.n,Z.W,F0,Z.low,Z.ρ⟩ W3 F0 hlow3 hTF ⟨(hos3.1.trans (hW2s.1.trans hos1.1)).trans hos0.os,(hos3.2.1.trans (hW2s.2.1.trans hos1.2.1)).trans hos0.tape,(hos3.2.2.trans (hW2s.2.2.trans hos1.2.2)).trans hos0.output,zah hos0.grows ow,λb hb=>⟨(hos0.kept b (hFZ b hb)).1,?_⟩⟩ λ_ h=>h
   ·grind
   ·obtain⟨f1,f2,f3,f4⟩:=hF0B b hb
    exact(keptA b f1 f2 f3 f4).trans (hos0.kept b (hFZ b hb)).2
  have hCls:Cls P C (TIn T RR W Z.n D X R W3) m0 N (some (NN+1)) 0:=by
   refine⟨?_,λY' e=>⟨R,?_⟩⟩
   ·rintro Za Zc ⟨_,_,_,qa,_⟩ ⟨_,kc,_,qc,_⟩ g v hv hp
    rw[qa] at hv
    rw[qc]
    cases g with
    | zero=>exact⟨_,rfl,rfl⟩
    | succ g=>grind
   ·rw[hyl] at e
    injection e with e
    subst e
    exact TIn.yok hYO (λb hb=>⟨((hX b).1 hb).1,((hX b).1 hb).2.2.2⟩) hXD ow
  refine ih2 C _ m0 hS (some (NN+1)) 0 hCls hmc (.inl hnb2.2) (i+1+loops ag+loops c1) _ s4 a3 W3 _ (λq hq=>hdb q (.inr hq)) ⟨Zb,hTb,hN3,m3,ρ3,hr3⟩ hK3 ?_
  rintro e s6 a4 W4 hK6 - ⟨Z4,⟨F4,k4,h41,h42,h43,h44,h45,h46,h47,h48,h49⟩,hN4,m4,ρ4,hr4⟩
  have ok4:=hr4.below
  have kept4:∀b,X b->W4.heap[b]? = W3.heap[b]?:=λb hb=>((ok4.kept b (h45 b hb).1).2).trans (h49 b hb)
  have hgr4:W3.heap.size<=W4.heap.size:=zah h48 ok4.grows
  have hos4:W4.os=W3.os/\W4.tape=W3.tape/\W4.output=W3.output:=⟨ok4.os.trans h47.1,ok4.tape.trans h47.2.1,ok4.output.trans h47.2.2⟩
  have hEX:∀b,mE b≠none->m0 b=none->X b/\¬B b/\b≠NN+1/\D b:=λb h1 h2=>by
   obtain⟨q1,q2⟩:=hEF b h1 h2
   have hDb:=hdep b (.inr (.inl q1))
   exact⟨(hX b).2 ⟨dlt b hDb,λh=>(hR.own h).2.2.2.1 q1,q2,h2⟩,λh=>(hB b h).2.2.1 hDb,λe=>dN1 (e ▸ hDb),hDb⟩
  have preS:Same (λb=>b<W.heap.size/\¬(D b\/B b)) W2 W4:=
   ⟨hos4.1.trans hos3.1,hos4.2.1.trans hos3.2.1,hos4.2.2.trans hos3.2.2,ow,λb hb=>(kept4 b (hDX b hb.1 λh=>hb.2 (.inl h))).trans (kept2 b hb.1 (λh=>hb.2 (.inl (ownD b h))) λh=>hb.2 (.inr h))⟩
  have preL:qh8 S.lend S.ins d W4 vs B:=qx8 hl3 λb hb=>kept4 b (hDX b (hB b hb).2.1 (hB b hb).2.2.1)
  have preN:W4.heap[NN]? = W2.heap[NN]?:=(kept4 NN (hDX NN ow dN)).trans (kept2 NN ow (λh=>dN (ownD _ h)) (hBN _ ow))
  have preN1:W4.heap[NN+1]? = W2.heap[NN+1]?:=(kept4 (NN+1) (hDX (NN+1) ow dN1)).trans (kept2 (NN+1) ow (λh=>dN1 (ownD _ h)) (hBN _ ow))
  have preE:mE.on W4:=λb ob hb=>by
   cases hm:m0 b with
   | some o'=>
    have h1:=hr0.ext b o' hm
    rw[hb] at h1
    obtain rfl:=zaa h1
    exact hr4.view b _ (hr4.ext b _ hm)
   | none=>
    obtain⟨q1,q2,q3,q4⟩:=hEX b (by grind) hm
    exact(kept4 b q1).trans ((keptA b ((hX b).1 q1).1 ((hX b).1 q1).2.1 q2 q3).trans (hEW b ob hb))
  -- the world behind the round,as the next one finds it
  have hR1:∀g v,ρ[g+1]? = some v->R[g]? = some v:=λg v h=>by grind
  have endG:∀(mem':List AObj) (ρ':List Value),(∀(g:Nat) q,ρA[g]? = some (Value.pointer q)->ρ'[g]? = some (Value.pointer q))->Rel P Z4 m0 (qn1 (some Y) [] mem' [] s0) m0 ρ' { a with defers:=[] } W4->∃D',(∀b,D' b->D b\/W.heap.size<=b\/mx b≠none)/\G mem' D' W4:=by
   intro mem' ρ' hp' h4
   obtain⟨Zf,hZf⟩:∃Zf:Base,Zf=⟨Z4.n,W4,λb=>F4 b\/(mE b≠none/\m0 b=none),ok4.size,.int .i64 (code k4) :: RR⟩:=⟨_,rfl⟩
   have hmk:∀b,qh3 a.defers b->X b/\¬B b/\b≠NN+1/\mE b=none:=λb hb=>by
    obtain⟨g1,g2,g3⟩:=hR.defers.get hb
    have hDb:=hdep b (.inr (.inr (.inr hb)))
    refine⟨(hX b).2 ⟨dlt b hDb,λho=>?_,λh=>g2 (hFZ b h),?_⟩,λh=>(hB b h).2.2.1 hDb,λe=>dN1 (e ▸ hDb),?_⟩
    ·obtain⟨o',hc,ho'⟩:=(hR.own ho).2.2.2.2
     rw[g3] at hc; obtain rfl:=zaa hc; exact ho'
    ·cases hm:m0 b with
     | none=>rfl
     | some ob=>
      obtain⟨c',t',f',rfl⟩:=hc0 b ob hm
      have:=hR.view b _ hm
      grind
    ·cases hm:mE b with
     | none=>rfl
     | some ob=>
      obtain⟨c',t',f',rfl⟩:=hcE b ob hm
      have:=hEW b _ hm
      grind
   have hmv:Marks Zf W4 a.defers:=Marks.move (Z:=Z) (Z':=Zf) (W:=W) (W':=W4) (by grind) hR.defers λb hb=>by
    obtain⟨q1,q2,q3,q4⟩:=hmk b hb
    refine⟨λhF=>?_,(kept4 b q1).trans (keptA b ((hX b).1 q1).1 ((hX b).1 q1).2.1 q2 q3)⟩
    rw[hZf] at hF
    grind
   have hrf:Rel P Zf m0 (qn1 (some Y) [] mem' [] s0) m0 ρ' a W4:=by
    rw[hZf] at hmv ⊢
    refine⟨λi=>h4.slots i,h4.len,h4.hdr,hmv,h4.objs,h4.apart,h4.view,h4.ext,λb o hb=>.inl hb,⟨rfl,rfl,rfl,zad _,λb hb=>⟨?_,rfl⟩⟩,λg v b l1 l2 l3 hF=>?_,λg v hv hp=>?_⟩
    ·rcases hb with hb | hb
     ·exact za7 (ok4.kept b (h44 b hb)).1 ok4.grows
     grind
    ·have hz:=h4.zone g v b l1 l2 l3
     grind
    ·cases g with
     | zero=>
      simp only[List.getElem?_cons_zero,Option.some.injEq] at hv
      subst hv
      exact h4.pins 0 _ (by grind) rfl
     | succ g=>
      refine h4.pins (g+1) v ?_ hp
      rw[h42]
      exact hR1 g v (hR.pins (g+1) v (by grind) hp)
   have sub:∀b,w08 Zf m0 mem' ρ' a.defers b->D b\/W.heap.size<=b:=by
    rintro b (hb | hb | hb | hb)
    ·grind
    ·rw[hZf] at hb
     grind
    ·obtain⟨g',v,j1,j2,j3⟩:=hb
     have hz:=h4.zone g' v b j1 j2 j3
     grind
    ·exact .inl (hdep b (.inr (.inr (.inr hb))))
   refine⟨w08 Zf m0 mem' ρ' a.defers,λb hb=>(sub b hb).imp (λh=>h) .inl,⟨λhD=>?_,λhD=>?_,λb hb=>hrf.deps hb⟩,preE,Zf,ρ',F4,?_,?_,λb hb=>by rw[hZf]; grind,λb h1 h2=>⟨by rw[hZf]; grind,(h45 b (hEX b h1 h2).1).2⟩,hp',λb hb=>hb,hrf⟩
   ·grind
   ·grind
   ·rw[hZf]
    exact hYO.mov ⟨Z4.n,Z4.W,F4,Z4.low,_⟩ W4 F4 ok4.size h41 ⟨ok4.os,ok4.tape,ok4.output,ok4.grows,λb hb=>ok4.kept b (h44 b hb)⟩ λ_ h=>h
   grind
  have hp4:∀(g:Nat) q,ρA[g]? = some (Value.pointer q)->ρ4[g]? = some (Value.pointer q):=λg q hq=>by
   have h1:=hptr g q hq
   cases g with
   | zero=>grind
   | succ g=>exact hr4.pins (g+1) _ (by grind) rfl
  have hA4:∀b,ρ4[0]?≠some (.pointer b):=λb hb=>by
   rw[hr4.pins 0 (.int .i64 (code k4)) (by grind) rfl] at hb
   grind
  have hr5:Rel P Z4 m0 (qn1 (some Y) [] (ql5 s6.mem) [] s0) m0 ρ4 { a with defers:=[] } W4:=by
   have h1:=hr4.havs (ov':=[]) (base':=λ_=>.any) λi=>⟨_,rfl⟩
   exact h1.act (ov:=[]) (base:=λi=>kpK (some Y) i (s0.get i)) (a':={ a with defers:=[] }) (slotK ρ4 hp4) trivial
  have post:∀{e:Exit} {q:Prop},q->q:=λh=>h
  have HN:(∃x':V.S,V.I p x'/\V.μ p x'=V.μ p x+1/\qx2 .none (ql5 s6.mem) (V.mem p x'))->∃D',(∀b,D' b->D b\/W.heap.size<=b\/mx b≠none)/\∃x',V.I p x'/\V.μ p x'=k+1/\G (V.mem p x') D' W4:=by
   rintro⟨x',hIx',hmu',hle'⟩
   obtain⟨⟨d1,d2,d3⟩,_⟩:=chk x' hIx'
   have hρl:ρ.length=V.size:=by rw[hR.len]; exact c2'
   have hh:=q1a (y:=some Y) (b:=none) (sl:=[]) (mem:=V.mem p x') (ds:=[]) (s0:=s0) hr5 trivial hle' rfl (by grind) (λg q hq _=>by
    grind) (λN e=>by cases e) (λj _ _=>⟨slotK ρ4 hp4 j,by grind⟩)
   obtain⟨D',k1,k2⟩:=endG _ _ (λg q hq=>by
    grind [headρ_old,List.getElem?_eq_some_iff]) hh
   exact⟨D',k1,x',hIx',ow,k2⟩
  have HX:∀e,K e (qn1 (some Y) [] (ql5 s6.mem) [] s0)->∀c,(c=Code.ret/\e=XK.ret\/∃id,c=.exit id/\e=XK.exit id)->∃D',(∀b,D' b->D b\/W.heap.size<=b\/mx b≠none\/B b)/\∃e mem',(c=.ret/\e=XK.ret\/∃id,c=.exit id/\e=XK.exit id)/\K e (qn1 (some Y) [] mem' [] s0)/\G mem' D' W4:=λe hKe c hce=>by
   obtain⟨D',k1,k2⟩:=endG _ _ hp4 hr5
   exact⟨D',λb hb=>(k1 b hb).imp (λh=>h) (Or.imp (λh=>h) .inl),e,_,hce,hKe,k2⟩
  rcases x08 (id:=id) (e:=e) with⟨hb1,hb2⟩ | ⟨hb1,hb2,hb3⟩
  ·rw[hb1] at hK6
   have H:=HN hK6
   rcases hb2 with rfl | rfl
   ·exact⟨preS,preL,preN,preN1,preE,H⟩
   ·show(if id=id then _ else _)
    rw[zap rfl]
    exact⟨preS,preL,preN,preN1,preE,H⟩
  ·rw[hb1] at hK6
   cases e with
   | normal=>grind
   | ret=>exact⟨preS,preL,preN,preN1,preE,HX _ hK6 _ (.inl ⟨rfl,rfl⟩)⟩
   | exit j=>
    show(if j=id then _ else _)
    rw[zai (λe=>hb3 (by rw[e]))]
    exact⟨preS,preL,preN,preN1,preE,HX _ hK6 _ (.inr ⟨j,rfl,rfl⟩)⟩
 ·rintro D W ⟨x,q1,q2,q3⟩ hW
  rw[<- hNN] at hW ⊢
  obtain⟨h1,h2⟩:=hfin _ _ _ q3 hW
  exact hQ .normal _ _ _ ((chk x q1).2.2 q2) h1 h2
 ·rintro c D W ⟨e,mem',q1,q2,q3⟩ hW
  rw[<- hNN] at hW ⊢
  obtain⟨h1,h2⟩:=hfin _ _ _ q3 hW
  rcases q1 with⟨rfl,rfl⟩ | ⟨id,rfl,rfl⟩
  ·exact wpIn_ret (hQ .ret _ _ _ q2 h1 h2)
  ·exact wpIn_exit (hQ (.exit id) _ _ _ q2 h1 h2)
theorem x4m {iv:Nat->Option Inv}:∀c:Code,Mt P N iv c:=by
 intro c
 induction c with
 | skip=>
  refine⟨?_,(by intro _ _ h; cases h),(by intro _ _ _ h; cases h)⟩
  intro C T m0 hS r n hC hmc hrr i K s a w Q hd hg h hQ; exact wpIn_skip (hQ .normal s a w h (FR.refl _ _ _) hg)
 | region id ops draw=>
  refine⟨?_,(by intro _ _ h; cases h),(by intro _ _ _ h; cases h)⟩
  intro C T m0 hS r n hC hmc hrr i K s a w Q hd hg h hQ
  have hall:∀o∈ops.toList,∀d,o.dst=some d->d∈qm7 iv (.region id ops draw) i/\N.may d:=λo ho d hod=>by
   have hm:d∈qm7 iv (.region id ops draw) i:=zcw.2 ⟨o,ho,hod⟩
   exact⟨hm,hd d hm⟩
  obtain⟨w0,hT,hg⟩:=hg
  have drawn:(match s with
    | ⟨ov,base,mem⟩=>q8l (padMem mem ops.toList) λmem'=>q2a mem.length lits λn0=>q2c C ops.toList n0 0 ops.toList ⟨ov,base,mem'⟩ [] (K .normal))->(Code.region id ops true).wpIn (fz r) n P Q a w:=by
   intro h
   obtain⟨ov,base,mem⟩:=s
   simp only at h
   rw[qo3,qm9] at h
   exact x02 (D:=λj=>j∈qm7 iv (.region id ops draw) i) hS hall hg h λs' a' w' q1 q2 q3=>hQ .normal s' a' w' q1 q2 ⟨w0,hT,q3⟩
  cases hyl:C.yl with
  | none=>
   simp only[vc,hyl] at h
   cases draw with
   | true=>exact drawn h
   | false=>exact wpIn_region_list (w1b (D:=λj=>j∈qm7 iv (.region id ops false) i) hS hall ops.toList s (K .normal) a w (λo ho=>ho) hg h λs' a' w' q1 q2 q3=>hQ .normal s' a' w' q1 q2 ⟨w0,hT,q3⟩)
  | some Y=>
   simp only[vc,hyl] at h
   obtain⟨RR,hYO⟩:=hC.yl Y hyl
   have hc0:Cells m0:=by rw[<- hmc]; exact Cells.of
   cases draw with
   | false=>exact wpIn_region_list (w7r (D:=λj=>j∈qm7 iv (.region id ops false) i) hS hyl hYO hc0 hall ops.toList w0 s (K .normal) a w (λo ho=>ho) hT hg h λs' Z' a' w' q1 q2 q3 q4=>hQ .normal s' a' w' q1 q3 ⟨Z',q2,q4⟩)
   | true=>
    cases hyx:yIx Y.slots ops.toList 0 with
    | none=>rw[hyx] at h; exact drawn h
    | some y=>
     rw[hyx] at h
     simp only at h
     cases hyk:yOk ops.toList y with
     | false=>rw[hyk] at h; exact h.elim
     | true=>
      rw[hyk] at h
      obtain⟨ov,base,mem⟩:=s
      simp only at h
      rw[qo3,qm9] at h
      exact xj2 (D:=λj=>j∈qm7 iv (.region id ops true) i) hS hyl hYO hc0 hall hyk (by have:=xv6 hyx; simpa using this) hT hg h λs' Z' a' w' q1 q2 q3 q4=>hQ .normal s' a' w' q1 q3 ⟨Z',q2,q4⟩
 | seq x y ihx ihy=>
  refine⟨?_,(by intro _ _ h; cases h; exact⟨ihx.1,ihy.1⟩),(by intro _ _ _ h; cases h)⟩
  replace ihx:=ihx.1
  replace ihy:=ihy.1
  intro C T m0 hS r n hC hmc hrr i K s a w Q hd hg h hQ
  have hx:∀d∈qm7 iv x i,d∈qm7 iv (.seq x y) i:=λd h=>zaj.2 (.inl h)
  have hy:∀d∈qm7 iv y (i+loops x),d∈qm7 iv (.seq x y) i:=λd h=>zaj.2 (.inr h)
  have hrr2:(qi2 x=true\/w38 C T r)/\(qi2 y=true\/w38 C T r):=by
   rcases hrr with h | h
   ·simp only[qi2] at h; split at h <;> simp_all
   ·exact⟨.inr h,.inr h⟩
  refine wpIn_seq (ihx C T m0 hS r n hC hmc hrr2.1 i _ s a w _ (λd h=>hd d (hx d h)) hg h λe s' a' w' q1 q2 q3=>?_)
  have q2':=q2.mono hx
  cases e with
  | normal=>exact ihy C T m0 hS r n hC hmc hrr2.2 (i+loops x) K s' a' w' Q (λd h=>hd d (hy d h)) q3 q1 λe s'' a'' w'' p1 p2 p3=>hQ e s'' a'' w'' p1 (q2'.trans (p2.mono hy)) p3
  | exit id=>exact hQ (.exit id) s' a' w' q1 q2' q3
  | ret=>exact hQ .ret s' a' w' q1 q2' q3
 | cond x y z ihy ihz=>
  refine⟨?_,(by intro _ _ h; cases h),(by intro _ _ _ h; cases h)⟩
  replace ihy:=ihy.1
  replace ihz:=ihz.1
  intro C T m0 hS r n hC hmc hrr i K s a w Q hd hg h hQ
  obtain⟨ov,base,mem⟩:=s
  obtain⟨w0,hT,hN,m,ρ,hr⟩:=hg
  simp only[vc] at h
  obtain⟨b,hb,h1,h2⟩:=q02 h (hr.eval x)
  have hy:∀d∈qm7 iv y i,d∈qm7 iv (.cond x y z) i:=λd h=>zaj.2 (.inl h)
  have hz:∀d∈qm7 iv z (i+loops y),d∈qm7 iv (.cond x y z) i:=λd h=>zaj.2 (.inr h)
  have hrr2:(qi2 y=true\/w38 C T r)/\(qi2 z=true\/w38 C T r):=by
   rcases hrr with h | h
   ·simp only[qi2] at h; split at h <;> simp_all
   ·exact⟨.inr h,.inr h⟩
  refine wpIn_cond hb ?_
  cases b with
  | true=>exact ihy C T m0 hS r n hC hmc hrr2.1 i K _ a w Q (λd h=>hd d (hy d h)) ⟨w0,hT,hN,m,ρ,hr⟩ (h1 rfl) λe s' a' w' q1 q2 q3=>hQ e s' a' w' q1 (q2.mono hy) q3
  | false=>exact ihz C T m0 hS r n hC hmc hrr2.2 (i+loops y) K _ a w Q (λd h=>hd d (hz d h)) ⟨w0,hT,hN,m,ρ,hr⟩ (h2 rfl) λe s' a' w' q1 q2 q3=>hQ e s' a' w' q1 (q2.mono hz) q3
 | block id x ih=>
  refine⟨?_,(by intro _ _ h; cases h),(by intro _ _ _ h; cases h; exact ih.2.1 _ _ rfl)⟩
  replace ih:=ih.1
  intro C T m0 hS r n hC hmc hrr i K s a w Q hd hg h hQ
  refine wpIn_block (ih C T m0 hS r n hC hmc hrr i _ s a w _ hd hg h λe s' a' w' q1 q2 q3=>?_)
  cases e with
  | normal=>exact hQ .normal s' a' w' q1 q2 q3
  | ret=>exact hQ .ret s' a' w' q1 q2 q3
  | exit j=>
   simp only at q1
   show(if j=id then Q .normal a' w' else Q (.exit j) a' w')
   cases hb:Nat.beq j id <;> rw[hb] at q1
   ·rw[zai (λe=>by subst e; simp at hb)]
    exact hQ (.exit j) s' a' w' q1 q2 q3
   ·rw[zap (zab hb)]
    exact hQ .normal s' a' w' q1 q2 q3
 | scope x ih=>
  refine⟨?_,(by intro _ _ h; cases h),(by intro _ _ _ h; cases h)⟩
  replace ih:=ih.1
  intro C T m0 hS r n hC hmc hrr i K s a w Q hd hg h hQ
  exact w37 (ih C T m0 hS r n hC hmc hrr i K s a w _ hd hg h λe s' a' w' q1 q2 q3=>by
   have:=hQ e s' a' w' q1 q2 q3
   cases e <;> exact this)
 | label l=>
  refine⟨?_,(by intro _ _ h; cases h),(by intro _ _ _ h; cases h)⟩
  intro C T m0 hS r n hC hmc hrr i K s a w Q hd hg h hQ; exact wpIn_label (hQ .normal s a w h (FR.refl _ _ _) hg)
 | loop x ih=>
  refine⟨?_,(by intro _ _ h; cases h),(by intro _ _ _ h; cases h)⟩
  replace ih:=ih.1
  intro C T m0 hS r n hC hmc hrr i K s a w Q hd hg h hQ
  simp only[vc] at h
  suffices core:∀(s:St) (a:Act) (w:World),q67 P T m0 N s a w->xz5 C iv x i K (vc C iv x (i+1)) s->(∀e s' a' w',K e s'->FR C.yl (λj=>j∈qm7 iv (.loop x) i) s s'->q67 P T m0 N s' a' w'->Q e.out a' w')->LoopR (fz r) n P x Q a w by
   unfold x3z at h
   split at h
   ·exact(core s a w hg h hQ).wp
   ·have hsub:∀d∈qm7 iv x (i+1),d∈qm7 iv (.loop x) i:=by
     intro d hd
     simp only[qm7]
     split
     ·exact zaj.2 (.inr hd)
     ·exact hd
    refine LoopR.peel (ih C T m0 hS r n hC hmc hrr (i+1) _ s a w _ (λd h=>hd d (hsub d h)) hg h λe s' a' w' q1 q2 q3=>?_)
    have q2':=q2.mono hsub
    cases e with
    | normal=>exact core s' a' w' q3 q1 λe s'' a'' w'' p1 p2 p3=>hQ e s'' a'' w'' p1 (q2'.trans p2) p3
    | exit id=>exact hQ (.exit id) s' a' w' q1 q2' q3
    | ret=>exact hQ .ret s' a' w' q1 q2' q3
  clear h hQ hg
  intro s a w hg h hQ
  unfold xz5 at h
  obtain⟨V0,hV0,h⟩:=withSome_iff.1 h
  rw[qm9] at h
  obtain⟨V,hV,h⟩:=withSome_iff.1 h
  obtain⟨p,x0,hI0,hdie⟩:=h
  obtain⟨w0,hT,hNg,mg,ρg,hrg⟩:=hg
  obtain⟨s1,mg1,ρg1,hcond,-,hrg1,hfr1,-⟩:=w1k hS.fixs (D:=λj=>j∈qm7 iv (.loop x) i) hrg hdie
  have hg1:Good P w0 m0 N s1 a w:=⟨hNg,mg1,ρg1,hrg1⟩
  suffices main:∀s:St,Good P w0 m0 N s a w->((q2a s.mem.length lits λb0=>q0f (some (qm8 b0 (V.mem p x0) 0)) s (V.slots p x0)/\qx2 (some (qm8 b0 (V.mem p x0) 0)) s.mem (V.mem p x0))/\∀y:V.S,V.I p y ->
   match qu1 V.size (V.slots p y),qr7 V.size (V.mem p y),Nat.beq (V.mem p y).length V.size,qt0 (V.slots p y) V0.names,Nat.ble s.mem.length V.size with
   | true,true,true,true,true=>wi4 C.yl (V.slots p y) (V.mem p y) (qm7 iv (.loop x) i) s (vc C iv x (i+1) (λe s'=>match e with
    | .normal=>∃x':V.S,V.I p x'/\V.μ p x' < V.μ p y/\mvK (xf7 s' (V.slots p x') (V.mem p x')) s' λs'=>q8x (V.mem p x') 0 s'.mem s' λs'=>q0f .none s' (V.slots p x')/\qx2 .none s'.mem (V.mem p x')
    | e=>K e s'))
   | _,_,_,_,_=>False)->(∀e s' a' w',K e s'->FR C.yl (λj=>j∈qm7 iv (.loop x) i) s s'->q67 P T m0 N s' a' w'->Q e.out a' w')->LoopR (fz r) n P x Q a w from
   main s1 hg1 hcond λe s' a' w' q1 q2 q3=>hQ e s' a' w' q1 (hfr1.trans q2) q3
  clear hcond hg1 hfr1 hdie hQ hrg1 hrg s1
  intro s hg h hQ
  obtain⟨hsm,hround⟩:=h
  rw[qm9] at hsm
  obtain⟨hs0,hm0⟩:=hsm
  obtain⟨hN,m,ρ,hr⟩:=hg
  have hds:qm7 iv (.loop x) i=V0.names++qm7 iv x (i+1):=by simp only[qm7,hV0]
  have chk:∀y,V.I p y->(qu1 V.size (V.slots p y)=true/\qr7 V.size (V.mem p y)=true/\Nat.beq (V.mem p y).length V.size=true/\qt0 (V.slots p y) V0.names=true/\Nat.ble s.mem.length V.size=true)/\vc C iv x (i+1) (λe s'=>match e with
    | .normal=>∃x':V.S,V.I p x'/\V.μ p x' < V.μ p y/\mvK (xf7 s' (V.slots p x') (V.mem p x')) s' λs'=>q8x (V.mem p x') 0 s'.mem s' λs'=>q0f none s' (V.slots p x')/\qx2 none s'.mem (V.mem p x')
    | e=>K e s') (qn1 C.yl (V.slots p y) (V.mem p y) (qm7 iv (.loop x) i) s):=by
   intro y hy
   have:=hround y hy
   revert this
   cases qu1 V.size (V.slots p y) <;> cases qr7 V.size (V.mem p y) <;> cases Nat.beq (V.mem p y).length V.size <;> cases qt0 (V.slots p y) V0.names <;> cases Nat.ble s.mem.length V.size <;> intro this <;> first | exact False.elim this | skip
   simp only[wb8] at this
   exact⟨⟨rfl,rfl,rfl,rfl,rfl⟩,this⟩
  let ds:=qm7 iv (.loop x) i
  have hpin0:∀(g:Nat) v,w0.ρ[g]? = some v->w5z v=true->g<V.size:=λg v hv hp=>by
   have h1:=(zaf.1 (hr.pins g v hv hp)).1
   rw[hr.len] at h1
   obtain⟨⟨_,_,_,_,c5⟩,_⟩:=chk x0 hI0
   exact za7 h1 (zbh c5)
  have hpin:∀Z,T Z->∀(g:Nat) v,Z.ρ[g]? = some v->w5z v=true->g<V.size:=λZ hZ g v hv hp=>by
   obtain⟨v',h1,h2⟩:=hC.pins Z w0 hZ hT g v hv hp
   exact hpin0 g v' h1 h2
  have hbase0:∀j,(kpK C.yl j (s.get j)).ok P m ρ [a.tmps.getD j undef]/\(kpK C.yl j (s.get j)).bnd s.mem.length=true:=λj=>x7i (λY hy p hp e=>by
   obtain⟨_,hYO⟩:=hC.yl Y hy
   have h1:=hYO.fix p hp a hN
   rw[e] at h1
   exact AV.ok_le hr.ext (λ_ _ h _=>h) h1) (hr.slots j) (by rw[<- hr.len]; exact w1h (hr.slots j))
  refine w36 (λ(y:V.S) a' w'=>V.I p y/\q67 P T m0 N (qn1 C.yl (V.slots p y) (V.mem p y) ds s) a' w') (V.μ p) x0 ?_ ?_
  ·obtain⟨⟨c1,c2,c3,c4,c5⟩,_⟩:=chk x0 hI0
   have c3:=zab c3
   refine⟨hI0,w0,hT,hN,m,headρ ρ (V.mem p x0),q1a hr hs0 hm0 (by rw[c3]; exact c1) (by rw[c3]; exact c2) (λg v hv hp=>by rw[c3]; exact hpin0 g v hv hp) (λN e=>(zaa e).symm) λj _ _=>?_⟩
   rw[c3]; exact⟨(hbase0 j).1,w7v (zbh c5) (hbase0 j).2⟩
  ·rintro y a' w' ⟨hy,hgy⟩
   obtain⟨⟨c1,c2,c3,c4,c5⟩,hb⟩:=chk y hy
   refine ih C T m0 hS r n hC hmc hrr (i+1) _ _ a' w' _ (λd h=>hd d (by rw[hds]; exact zaj.2 (.inr h))) hgy hb λe s' a'' w'' q1 q2 q3=>?_
   have hfr:FR C.yl (λj=>j∈qm7 iv (.loop x) i) s s':=by
    intro j hj hst
    have hnj:j∉V0.names/\j∉qm7 iv x (i+1):=by rw[hds] at hj; exact⟨λh=>hj (zaj.2 (.inl h)),λh=>hj (zaj.2 (.inr h))⟩
    have hhead:(qn1 C.yl (V.slots p y) (V.mem p y) ds s).get j=kpK C.yl j (s.get j):=by
     show look (V.slots p y) j (match ds.elem j with | true=>.any | false=>kpK C.yl j (s.get j))=_
     have hel:ds.elem j=false:=by
      cases hq:ds.elem j with
      | false=>rfl
      | true=>exact absurd (by simpa using hq) hj
     rw[hel]
     have:∀(sl:List (Nat × AV)) (d:AV),(∀p∈sl,p.1≠j)->look sl j d=d:=by
      intro sl
      induction sl with
      | nil=>intro d _; rfl
      | cons p sl ihs=>
       intro d hp
       obtain⟨q,v⟩:=p
       have hne:=hp (q,v) za0
       have:Nat.beq q j=false:=by cases hb:Nat.beq q j with | false=>rfl | true=>exact absurd (zab hb) hne
       simp only[look,this]
       exact ihs d λp' h'=>hp p' (zau _ h')
     exact this _ _ λp hp e=>hnj.1 (by rw[<- e]; exact qy5 c4 p hp)
    have:=q2 j hnj.2 (by rw[hhead,x4i])
    rw[this,hhead,hst]
   cases e with
   | normal=>
    obtain⟨y',hy',hμ,hdie'⟩:=q1
    obtain⟨Z',hTZ,hN',mg,ρ',hrg⟩:=q3
    obtain⟨s2,m',ρ2,⟨hs',hm'⟩,-,hr',hfr2,-⟩:=w1k hS.fixs (D:=λj=>j∈qm7 iv x (i+1)) hrg hdie'
    have q2:=q2.trans hfr2
    clear hdie' hfr hfr2
    obtain⟨⟨d1,d2,d3,d4,d5⟩,_⟩:=chk y' hy'
    have d3:=zab d3
    refine⟨y',hμ,hy',Z',hTZ,hN',m',headρ ρ2 (V.mem p y'),q1a hr' hs' hm' (by rw[d3]; exact d1) (by rw[d3]; exact d2) (λg v hv hp=>by rw[d3]; exact hpin Z' hTZ g v hv hp) (λN e=>by cases e) λj hj hno=>?_⟩
    have hjn:j∉qm7 iv (.loop x) i:=λh=>by
     have:ds.elem j=true:=by simpa using h
     rw[this] at hj; cases hj
    have hnj:j∉qm7 iv x (i+1):=λh=>hjn (by rw[hds]; exact zaj.2 (.inr h))
    have hnn:j∉V0.names:=λh=>hjn (by rw[hds]; exact zaj.2 (.inl h))
    -- the slot as the round found it
    have hhead:(qn1 C.yl (V.slots p y) (V.mem p y) ds s).get j=kpK C.yl j (s.get j):=by
     show look (V.slots p y) j (match ds.elem j with | true=>.any | false=>kpK C.yl j (s.get j))=_
     rw[hj]
     have:∀(sl:List (Nat × AV)) (d:AV),(∀p∈sl,p.1≠j)->look sl j d=d:=by
      intro sl
      induction sl with
      | nil=>intro d _; rfl
      | cons p sl ihs=>
       intro d hp
       obtain⟨q,v⟩:=p
       have hne:=hp (q,v) za0
       have:Nat.beq q j=false:=by cases hb:Nat.beq q j with | false=>rfl | true=>exact absurd (zab hb) hne
       simp only[look,this]
       exact ihs d λp' h'=>hp p' (zau _ h')
     exact this _ _ λp hp e=>hnn (by rw[<- e]; exact qy5 c4 p hp)
    have hge:=q2 j hnj (by rw[hhead,x4i])
    rw[hhead] at hge
    refine⟨by rw[<- hge]; exact hr'.slots j,?_⟩
    rw[d3]; exact w7v (zbh d5) (hbase0 j).2
   | exit id=>exact hQ (.exit id) s' a'' w'' q1 hfr q3
   | ret=>exact hQ .ret s' a'' w'' q1 hfr q3
 | rangeFunc g ps ag body ihag ihbody=>
  refine⟨?_,(by intro _ _ h; cases h),(by intro _ _ _ h; cases h)⟩
  intro C T m0 hS r n hC hmc hrr i K s a w Q hd hg h hQ
  have hrc:w38 C T r:=by
   rcases hrr with h | h
   ·simp[qi2] at h
   ·exact h
  cases hyl:C.yl with
  | some Y=>
   obtain rfl:r=none:=by
    rcases hrc with h | ⟨h,_⟩
    ·exact h
    ·rw[hyl] at h; cases h
   exact w7y ihag.1 ihbody hyl T m0 hS n hC hmc i K s a w Q hd hg h (by rw[hyl]; rw[hyl] at hQ; exact hQ)
  | none=>
  replace ihag:=ihag.1
  replace ihbody:=ihbody.1
  obtain⟨ov,base,mem⟩:=s
  simp only[vc] at h
  split at h
  case h_2=>exact h.elim
  rename_i F caps heq
  split at h
  case h_2=>rename_i hq; rw[hyl] at hq; cases hq
  case h_3=>exact h.elim
  rename_i hpl hna hnb _
  obtain⟨S,hS1,h⟩:=withSome_iff.1 h
  rw[qm9] at h
  obtain⟨V,hV,h⟩:=withSome_iff.1 h
  obtain⟨hlen,h⟩:=qp6 h
  obtain⟨w0,hT,hN,mA,ρA,hrA⟩:=hg
  have hr0:=hrA.cells
  rw[hmc] at hr0
  obtain⟨mE,hmE⟩:∃mE,mE=mA.cells:=⟨_,rfl⟩
  have hcE:Cells mE:=by rw[hmE]; exact Cells.of
  rw[<- hmE] at hr0
  have hev:=hr0.eval g
  simp only at hev
  rw[heq] at hev
  obtain⟨cs,e1,hcs⟩:=hev
  have e1:=(zac e1).1
  obtain⟨hcl,hIM⟩:=hS.its F S hS1
  obtain⟨L,⟨p,x0,hI0,hmu0,hdie⟩,hsay⟩:=hIM mE caps cs _ hcE (qu4 hpl hcs) h
  obtain⟨s1,mB,ρB,⟨hb0,hround⟩,hleB,hrB,hfr1,hlen1⟩:=q4d hS.fixs (D:=λ_=>False) mem 0 ⟨ov,base,mem⟩ mE ρA (λj o hj _=>q3g _ _ _ hj) hr0 hdie
  have hr1:=hrB.cells
  rw[hmc] at hr1
  have hleE:mE.le mB.cells:=λb o hb=>by
   obtain⟨c,t,f,e⟩:=hcE b o hb
   have:=hleB b o hb
   unfold View.cells
   rw[this,e]
  rw[qm9] at hb0
  have chk:∀y,V.I p y->(qr7 V.size (V.mem p y)=true/\(V.mem p y).length=V.size/\s1.mem.length<=V.size)/\((∀d:qa3 S.ins,L[V.μ p y]? = some d->w3f S.lend ps.toList (qg2 S.ins d) (qn1 none [] (V.mem p y) [] s1) λT s2=>vc C iv ag (i+1) (λe s3=>match e with
        | .normal=>vc C iv body (i+1+loops ag) (λe s4=>q2a V.size lits λnv=>match e with
         | .normal=>wi7 S.lend nv T (qg2 S.ins d) s4 λs4=>∃x':V.S,V.I p x'/\V.μ p x'=V.μ p y+1/\q8x (V.mem p x') 0 s4.mem s4 λs5=>qx2 .none s5.mem (V.mem p x')
         | e=>xf9 (xf8 iv i S.lend) S.lend nv T (qg2 S.ins d) s4 λs4=>K e (qn1 none [] s4.mem [] s1)) s3
        | _=>False) s2)/\(V.μ p y=L.length->K .normal (qn1 none [] (V.mem p y) [] s1))):=by
   intro y hy
   have:=hround y hy
   revert this
   cases qr7 V.size (V.mem p y) <;> cases h2:Nat.beq (V.mem p y).length V.size <;> cases h3:Nat.ble s1.mem.length V.size <;> intro this <;> first | exact False.elim this | skip
   simp only[wb8,hyl] at this
   exact⟨⟨rfl,zab h2,zbh h3⟩,this⟩
  have hbase0:∀j,((s1.get j).strip).bnd s1.mem.length=true:=λj=>q66 (by rw[<- hr1.len]; exact w1h (hr1.slots j))
  obtain⟨NN,hNN⟩:∃NN,NN=w.heap.size:=⟨_,rfl⟩
  obtain⟨R,hRL⟩:∃R,RLoc r R w:=by
   rcases hrc with rfl | ⟨_,l,rfl,h⟩
   ·exact⟨_,rfl⟩
   ·obtain⟨h1,o,h2⟩:=h w0 hT
    exact⟨_,rfl,o,(hrA.below.kept l h1).2.trans h2⟩
  obtain⟨r1,r2,r3⟩:=hRL.le
  rw[<- hNN] at r1 r2 r3
  -- what holds between rounds
  let G:List AObj->(Nat->Prop)->World->Prop:=λmem' D W=>((∀b,NN<=b->b<=R->¬D b)/\∀b,D b->b<W.heap.size)/\∃m ρ,Cells m/\mE.le m/\(∀b,w08 w0 m mem' ρ a.defers b->D b)/\Rel P w0 m0 (qn1 none [] mem' [] s1) m ρ a W
  have hGs:∀mem' D W W',G mem' D W->Same D W W'->G mem' D W':=by
   rintro mem' D W W' ⟨⟨g1,g3⟩,m,ρ,g4,g5,g6,g7⟩ hs
   exact⟨⟨g1,λb hb=>za7 (g3 b hb) hs.size⟩,m,ρ,g4,g5,g6,g7.same hs g6⟩
  have hnN:w0.n<=NN:=by rw[hNN]; exact hr1.below.size
  -- what is known at the end of the loop
  have hfin:∀mem' D W,G mem' D W->MkAt r NN W->FR C.yl (λj=>j∈qm7 iv (.rangeFunc g ps ag body) i) ⟨ov,base,mem⟩ (qn1 none [] mem' [] s1)/\Good P w0 m0 N (qn1 none [] mem' [] s1) { a with defers:=mkD r NN++a.defers } W:=by
   rintro mem' D W ⟨⟨g1,g3⟩,m,ρ,g4,g5,g6,g7⟩ hW
   refine⟨λj _ hst=>?_,hN,m,ρ,?_⟩
   ·have h1:s1.get j=St.get ⟨ov,base,mem⟩ j:=hfr1 j (λh=>h) hst
    rw[hyl] at hst
    have hst:(St.get ⟨ov,base,mem⟩ j).strip=St.get ⟨ov,base,mem⟩ j:=hst
    show(s1.get j).strip=_
    rw[h1,hst]
   ·refine g7.act (ov:=[]) (base:=λi=>(s1.get i).strip) (λi=>g7.slots i) ?_
    cases r with
    | none=>exact⟨⟨NN,rfl,hnN,λhF=>g1 NN (zad _) r1 (g6 _ (.inr (.inl hF))),hW,λe he ht=>g1 NN (zad _) r1 (g6 _ (.inr (.inr (.inr ⟨e,he,ht⟩))))⟩,g7.defers⟩
    | some l=>exact g7.defers
  refine q86 (r:=r) (R:=R) (m:=mE) (args:=qq1 S.lend S.ins) (lent:=qh8 S.lend S.ins) (L:=L) hRL e1 hcl hsay (λ_ _ _ _ _ h1 h2=>qx8 h1 h2) ?_ (λk D W=>∃x,V.I p x/\V.μ p x=k/\G (V.mem p x) D W) (λc D W=>∃e mem',(c=.ret/\e=XK.ret\/∃id,c=.exit id/\e=XK.exit id)/\K e (qn1 none [] mem' [] s1)/\G mem' D W) ?_ ?_ ?_ ?_ hr0.view (w08 w0 mB.cells (V.mem p x0) (headρ ρB (V.mem p x0)) a.defers) ?_ ?_ ?_ ?_
  ·intro d mx vs hv
   rw[q5a hv,<- hlen]
   simp
  ·rintro k D W W' ⟨x,q1,q2,q3⟩ hs; exact⟨x,q1,q2,hGs _ _ _ _ q3 hs⟩
  ·rintro c D W W' ⟨e,mem',q1,q2,q3⟩ hs; exact⟨e,mem',q1,q2,hGs _ _ _ _ q3 hs⟩
  ·rintro k D W ⟨x,q1,q2,q3⟩; rw[<- hNN]; exact⟨q3.1.2,q3.1.1⟩
  ·rintro c D W ⟨e,mem',q1,q2,q3⟩; rw[<- hNN]; exact⟨q3.1.2,q3.1.1⟩
  ·obtain⟨⟨c1,c2,c3⟩,_⟩:=chk x0 hI0
   have hh:=q1a (y:=none) (b:=some (qm8 s1.mem.length (V.mem p x0) 0)) (sl:=[]) (mem:=V.mem p x0) (ds:=[]) (s0:=s1) hr1 trivial hb0 rfl (by rw[c2]; exact c1) (λg p hp hv=>by
    have h1:=(zaf.1 (hr1.pins g p hp hv)).1
    rw[hr1.len] at h1
    omega) (λN e=>(zaa e).symm) (λj _ _=>⟨q55 (hr1.slots j),w7v ow (hbase0 j)⟩)
   refine⟨x0,hI0,hmu0,⟨λb q1 q2 hD=>?_,λb hb=>hh.deps hb⟩,mB.cells,_,Cells.of,hleE,λb hb=>hb,hh⟩
   have:=hh.deps hD; omega
  ·-- a round
   rintro k D W d mx vs B ⟨x,hIx,hmu,⟨dN,dlt⟩,m,ρ,hc,hle,hdep,hR⟩ hlt ⟨rc,hl⟩ hk hd0 hmx hmd hargs hlent hB
   rw[<- hNN] at hk hmd ⊢
   obtain⟨⟨c1,c2,c3⟩,hstep,-⟩:=chk x hIx
   have hb:=hstep d (by rw[hmu]; exact hd0)
   have hcr:Cells (m.or mx):=λb o hbo=>by
    unfold View.or at hbo
    cases hmb:m b with
    | some o'=>rw[hmb] at hbo; exact hc b o (by rw[hmb]; exact hbo)
    | none=>rw[hmb] at hbo; exact(hmd b o hbo).1
   have hor:∀b o,(m.or mx) b=some o->m b=some o\/mx b=some o:=λb o hbo=>by
    unfold View.or at hbo
    cases hmb:m b with
    | some o'=>rw[hmb] at hbo; exact .inl hbo
    | none=>rw[hmb] at hbo; exact .inr hbo
   have hmxD:∀b o,mx b=some o->m b=some o\/(NN<=b/\¬D b):=λb o hbo=>(hmd b o hbo).2.imp (hle b o) id
   have hown:∀b,Own (V.mem p x) ρ b->(m.or mx) b=none:=λb hb=>by
    have h1:=(hR.own hb).2.2.1
    cases hbo:(m.or mx) b with
    | none=>rfl
    | some o=>
     rcases hor b o hbo with h2 | h2
     ·rw[h1] at h2; cases h2
     ·rcases hmxD b o h2 with h3 | h3
      ·rw[h1] at h3; cases h3
      ·exact absurd (hdep b (.inr (.inr (.inl hb)))) h3.2
   have hin:=hR.enter (zad _) View.le_or (View.or_on hR.view hmx) hown (a':={ a with defers:=[] }) rfl (λb ⟨d,hd,_⟩=>by cases hd) trivial (λ_ _=>rfl) ρ (λ_ _ h _=>h)
   have hmB:∀b,B b->(m.or mx) b=none:=λb hb=>by
    cases hbo:(m.or mx) b with
    | none=>rfl
    | some o=>
     rcases hor b o hbo with h2 | h2
     ·exact absurd (hdep b (.inl (by rw[h2]; simp))) (hB b hb).2.2.1
     ·rw[(hB b hb).2.2.2] at h2; cases h2
   have hoB:∀b,B b->¬Own (V.mem p x) ρ b:=λb hb ho=>(hB b hb).2.2.1 (hdep b (.inr (.inr (.inl ho))))
   obtain⟨Z1,hZ1⟩:∃Z1:Base,Z1=⟨w0.n,W,λb=>b<W.heap.size/\¬Own (V.mem p x) ρ b/\¬B b,hR.below.size,ρ⟩:=⟨_,rfl⟩
   have hinZ:=hin.rebase (Z':=Z1) (by rw[hZ1]; rfl) (by rw[hZ1]; rfl) (by rw[hZ1]; exact⟨rfl,rfl,rfl,zad _,λb hb=>⟨hb.1,rfl⟩⟩) (λb hb=>by rw[hZ1] at hb; exact .inl ⟨hb.1,hb.2.1,λ⟨d,hd,_⟩=>by cases hd⟩)
   have hargs2:qq1 S.lend S.ins d (m.or mx) vs:=by
    revert hargs
    unfold qq1
    split
    ·exact wh8 (View.or_le hR.view hmx)
    ·exact id
   obtain⟨TL,s2,ρ1,hvc,hTL,hl2,hρ1,hown2,t,ht,htN,hin2⟩:=w7o hinZ hN (λq hq=>hd q (zaj.2 (.inl hq))) hb hargs2 hlent λb hb=>⟨by rw[hZ1]; have:=(hB b hb).1; show w0.n<=b; omega,by rw[hZ1]; exact λq=>q.2.2 hb,hmB b hb,hoB b hb⟩
   have hfold:(ps.zip vs.toArray).foldl (λt (p,v)=>t.setIfInBounds p v) a.tmps=t:=by
    rw[ht,<- zdb]
    simp
   rw[hfold]
   refine ihag C _ (m.or mx) (hS.le (View.le_trans hR.ext View.le_or)) (some R) 0 (Cls.one hyl _ _ _) hcr.eq (.inl hna) (i+1) _ s2 _ W _ (λq hq=>hd q (zaj.2 (.inr (zaj.2 (.inl hq))))) ⟨_,rfl,htN,_,ρ1,hin2⟩ hvc ?_
   rintro e s3 a1 W1 hK - ⟨Zx,hZx,hN1,m2',ρ2,hr2'⟩
   rw[hZx] at hr2'
   have hr2:=hr2'.cells
   rw[hcr.eq] at hr2
   obtain⟨m2,hm2e⟩:∃m2,m2=m2'.cells:=⟨_,rfl⟩
   have hc2:Cells m2:=by rw[hm2e]; exact Cells.of
   rw[<- hm2e] at hr2
   clear hr2' hm2e
   have notZ1:∀b,¬Z1.F b->W.heap.size<=b\/Own (V.mem p x) ρ b\/B b:=λb hb=>by
    rw[hZ1] at hb
    by_cases h1:b<W.heap.size
    ·by_cases h2:Own (V.mem p x) ρ b
     ·exact .inr (.inl h2)
     ·by_cases h3:B b
      ·exact .inr (.inr h3)
      ·exact absurd ⟨h1,h2,h3⟩ hb
    ·exact .inl ow
   have Z1n:Z1.n=w0.n:=by rw[hZ1]
   have Z1W:Z1.W=W:=by rw[hZ1]
   have Z1ρ:Z1.ρ=ρ:=by rw[hZ1]
   have kept1:∀b,b<W.heap.size->¬Own (V.mem p x) ρ b->¬B b->W1.heap[b]? = W.heap[b]?:=λb h1 h2 h3=>by
    have:=(hr2.below.kept b (by rw[hZ1]; exact⟨h1,h2,h3⟩)).2
    rw[Z1W] at this; exact this
   have ownD:∀b,Own (V.mem p x) ρ b->D b:=λb hb=>hdep b (.inr (.inr (.inl hb)))
   have hgr1:W.heap.size<=W1.heap.size:=by have:=hr2.below.grows; rw[Z1W] at this; exact this
   have hBN:∀b,b<=R->¬B b:=λb hb h=>by have:=(hB b h).1; omega
   have hos1:W1.os=W.os/\W1.tape=W.tape/\W1.output=W.output:=by have h1:=hr2.below.os; have h2:=hr2.below.tape; have h3:=hr2.below.output; rw[Z1W] at h1 h2 h3; exact⟨h1,h2,h3⟩
   have hNR:∀b,NN<=b->b<=R->W1.heap[b]? = W.heap[b]?:=λb q1 q2=>kept1 b ow (λh=>dN b q1 q2 (ownD _ h)) (hBN _ q2)
   have hN2':=hNR R r1 (zad _)
   cases e with
   | exit id=>exact hK.elim
   | ret=>exact hK.elim
   | normal=>
    refine⟨⟨hos1.1,hos1.2.1,hos1.2.2,hgr1,λb hb=>kept1 b hb.1 (λh=>hb.2 (.inl (ownD b h))) λh=>hb.2 (.inr h)⟩,hNR,λo=>?_⟩
    obtain⟨W2,hW2⟩:∃W2,W2=W1.putObj R (.loop o):=⟨_,rfl⟩
    have hsz2:W2.heap.size=W1.heap.size:=by rw[hW2]; simp[World.putObj]
    have hput:∀b,b≠R->W2.heap[b]? = W1.heap[b]?:=λb hb=>by rw[hW2]; exact World.putObj_heap_other hb
    have hL1:W1.heap[R]? = some (.loop rc):=hN2'.trans hl
    rw[<- hW2]
    have hnO:¬Own s3.mem ρ2 R:=λhb=>by
     obtain⟨o',h1,ho'⟩:=(hr2.own hb).2.2.2.2
     rw[hL1] at h1; obtain rfl:=zaa h1; cases ho'
    have hnM:¬qh3 a1.defers R:=λhb=>by
     have h1:=(hr2.defers.get hb).2.2
     rw[hL1] at h1; cases h1
    have hin3:=hr2.enter (w':=W2) ow (View.le_refl m2) (λb ob hb=>by
      rw[hput b λe=>?_]
      ·exact hr2.view b ob hb
      ·subst e
       have h1:=hr2.view _ ob hb
       rw[hL1] at h1
       obtain⟨c,t,f,h2⟩:=hc2 _ ob hb
       subst h2
       cases h1) (λb hb=>(hr2.own hb).2.2.1) (a':=a1) rfl (λ_ h=>h) hr2.defers (λb hb=>hput b λe=>by
      subst e
      rcases hb with hb | hb
      ·obtain⟨o',h1,ho'⟩:=(hr2.own hb).2.2.2.2
       rw[hL1] at h1; obtain rfl:=zaa h1; exact ho'
      ·have h1:=(hr2.defers.get hb).2.2
       rw[hL1] at h1; cases h1) ρ (λg q hq hv=>hr2.pins g q (by rw[Z1ρ]; exact hq) hv)
    rw[show wl2 Z1.n W2 s3.mem ρ2 a1.defers ρ (zah hr2.below.size ow)=wl2 w0.n W2 s3.mem ρ2 a1.defers ρ (zah (by rw[<- Z1n]; exact hr2.below.size) ow) from by unfold wl2; congr 1] at hin3
    refine ihbody C _ m2 (hS.le (View.le_trans hR.ext (View.le_trans View.le_or hr2.ext))) (some R) 0 (Cls.one hyl _ _ _) hc2.eq (.inr (.inr ⟨hyl,R,rfl,λZ hZ=>by rw[hZ]; exact⟨⟨by rw[hsz2]; exact(zal.1 hL1).1,hnO,hnM⟩,o,show W2.heap[R]? = some (.loop o) by rw[hW2]; exact World.putObj_heap_same (zal.1 hL1).1⟩⟩)) (i+1+loops ag) _ s3 a1 W2 _ (λq hq=>hd q (zaj.2 (.inr (zaj.2 (.inr hq))))) ⟨_,rfl,hN1,m2,ρ2,hin3⟩ hK ?_
    rintro e s40 a3 W3 hK30 - ⟨_,rfl,hN3,m3,ρ3,hr30⟩
    rw[qm9] at hK30
    obtain⟨s4,m3',X,hX,hK3,hr3',hl3,hB3,hBm⟩:∃(s4:St) (m3':View) (X:Nat->Prop),(∀b,X b->B b)/\(match e with
      | .normal=>(∃x':V.S,V.I p x'/\V.μ p x'=V.μ p x+1/\q8x (V.mem p x') 0 s4.mem s4 λs5=>qx2 .none s5.mem (V.mem p x'))/\∀b,¬X b
      | e=>K e (qn1 none [] s4.mem [] s1))/\Rel P (wl2 w0.n W2 s3.mem ρ2 a1.defers ρ (zah (by rw[<- Z1n]; exact hr2.below.size) ow)) m2 s4 m3' ρ3 a3 W3/\qh8 S.lend S.ins d W3 vs B/\(∀b,B b->X b\/(m3' b=none/\¬Own s4.mem ρ3 b/\¬qh3 a3.defers b))/\∀b,B b->m2 b=none:=by
     have bk:∀{K':St->Prop},wi7 S.lend V.size TL (qg2 S.ins d) s40 K'->∃s4,K' s4/\Rel P (wl2 w0.n W2 s3.mem ρ2 a1.defers ρ (zah (by rw[<- Z1n]; exact hr2.below.size) ow)) m2 s4 m3 ρ3 a3 W3/\qh8 S.lend S.ins d W3 vs B/\(∀b,B b->m3 b=none/\¬Own s4.mem ρ3 b/\¬qh3 a3.defers b)/\∀b,B b->m2 b=none:=λh=>by
      obtain⟨s4,j1,j2,j3,j4⟩:=w7p hr30 h hTL hlent
      refine⟨s4,j1,j2,j3,j4,λb hb=>?_⟩
      cases hm:m2 b with
      | none=>rfl
      | some o=>have:=hr30.ext b o hm; rw[(j4 b hb).1] at this; cases this
     have en:∀{K':St->Prop},xf9 (xf8 iv i S.lend) S.lend V.size TL (qg2 S.ins d) s40 K'->∃(s4:St) (m3':View) (X:Nat->Prop),(∀b,X b->B b)/\K' s4/\Rel P (wl2 w0.n W2 s3.mem ρ2 a1.defers ρ (zah (by rw[<- Z1n]; exact hr2.below.size) ow)) m2 s4 m3' ρ3 a3 W3/\qh8 S.lend S.ins d W3 vs B/\(∀b,B b->X b\/(m3' b=none/\¬Own s4.mem ρ3 b/\¬qh3 a3.defers b))/\∀b,B b->m2 b=none:=λh=>by
      unfold xf9 at h
      split at h
      ·rename_i hsl
       obtain⟨el,hel⟩:∃el,S.lend=some el:=by
        unfold xf8 at hsl
        cases hl:S.lend with
        | none=>rw[hl] at hsl; cases hsl
        | some el=>exact⟨el,rfl⟩
       rw[hel] at h hTL hlent ⊢
       obtain⟨s4,M,j1,j2,j3,j4,j5,j6⟩:=x01 hr30 h hTL hlent
       refine⟨s4,M,B,λ_ h=>h,j1,j3,j4,λb hb=>.inl hb,λb hb=>?_⟩
       cases hm:m2 b with
       | none=>rfl
       | some o=>have:=hr30.ext b o hm; rw[j5 b hb] at this; cases this
      ·obtain⟨s4,j1,j2,j3,j4,j5⟩:=bk h
       exact⟨s4,m3,λ_=>False,λ_ h=>h.elim,j1,j2,j3,λb hb=>.inr (j4 b hb),j5⟩
     cases e with
     | normal=>
      obtain⟨s4,j1,j2,j3,j4,j5⟩:=bk hK30
      exact⟨s4,m3,λ_=>False,λ_ h=>h.elim,⟨j1,λ_ h=>h⟩,j2,j3,λb hb=>.inr (j4 b hb),j5⟩
     | ret=>exact en hK30
     | exit id=>exact en hK30
    have notZ20:∀b,¬(b<W2.heap.size/\¬Own s3.mem ρ2 b/\¬qh3 a1.defers b)->W.heap.size<=b\/Own (V.mem p x) ρ b\/B b:=λb hb=>by
     by_cases h1:b<W2.heap.size
     ·by_cases h2:Own s3.mem ρ2 b
      ·exact notZ1 b (hr2.own h2).2.2.2.1
      ·by_cases h3:qh3 a1.defers b
       ·exact notZ1 b (hr2.defers.get h3).2.1
       ·exact absurd ⟨h1,h2,h3⟩ hb
     ·exact .inl ow
    have kept2:∀b,b<W.heap.size->¬Own (V.mem p x) ρ b->¬B b->W3.heap[b]? = W2.heap[b]?:=λb h1 h2 h4=>(hr3'.below.kept b (zan λhz=>by
     rcases notZ20 b hz with h3 | h3 | h3
     ·omega
     ·exact h2 h3
     ·exact h4 h3)).2
    have hgr3:W2.heap.size<=W3.heap.size:=hr3'.below.grows
    have hos3:W3.os=W2.os/\W3.tape=W2.tape/\W3.output=W2.output:=⟨hr3'.below.os,hr3'.below.tape,hr3'.below.output⟩
    have hBW:∀b,B b->b<W3.heap.size:=λb hb=>by have:=(hB b hb).2.1; omega
    obtain⟨Z3,hZ3⟩:∃Z3:Base,Z3=⟨w0.n,W3,λb=>(b<W2.heap.size/\¬Own s3.mem ρ2 b/\¬qh3 a1.defers b)\/(B b/\¬X b),zah hR.below.size ow,ρ⟩:=⟨_,rfl⟩
    have hr3:=hr3'.rebase (Z':=Z3) (by rw[hZ3]; rfl) (by rw[hZ3]; rfl) (by
     rw[hZ3]
     refine⟨rfl,rfl,rfl,zad _,λb hb=>⟨?_,rfl⟩⟩
     rcases hb with hb | hb
     ·have:=hb.1; show b<W3.heap.size; omega
     ·exact hBW b hb.1) (λb hb=>by
     rw[hZ3] at hb
     rcases hb with hb | hb
     ·exact .inl hb
     ·exact .inr ((hB3 b hb.1).resolve_left hb.2))
    have Z3n:Z3.n=w0.n:=by rw[hZ3]
    have Z3ρ:Z3.ρ=ρ:=by rw[hZ3]
    have notZ2:∀b,¬Z3.F b->W.heap.size<=b\/Own (V.mem p x) ρ b\/X b:=λb hb=>by
     rw[hZ3] at hb
     rcases notZ20 b λq=>hb (.inl q) with q | q | q
     ·exact .inl q
     ·exact .inr (.inl q)
     ·exact .inr (.inr (zan λhx=>hb (.inr ⟨q,hx⟩)))
    have hW2s:W2.os=W1.os/\W2.tape=W1.tape/\W2.output=W1.output:=by rw[hW2]; exact⟨rfl,rfl,rfl⟩
    have sameW:Same (λb=>b<W.heap.size/\¬Own (V.mem p x) ρ b/\¬(b=R\/B b)) W W3:=
     ⟨hos3.1.trans (hW2s.1.trans hos1.1),hos3.2.1.trans (hW2s.2.1.trans hos1.2.1),hos3.2.2.trans (hW2s.2.2.trans hos1.2.2),ow,λb hb=>(kept2 b hb.1 hb.2.1 λh=>hb.2.2 (.inr h)).trans ((hput b λh=>hb.2.2 (.inl h)).trans (kept1 b hb.1 hb.2.1 λh=>hb.2.2 (.inr h)))⟩
    have hm2:∀b ob,m2 b=some ob->m b=some ob\/mx b=some ob\/W.heap.size<=b\/Own (V.mem p x) ρ b:=λb ob hb=>by
     rcases hr2.new b ob hb with h1 | ⟨_,h1⟩
     ·rcases hor b ob h1 with h2 | h2
      ·exact .inl h2
      ·exact .inr (.inl h2)
     ·rcases notZ1 b h1 with h2 | h2 | h2
      ·exact .inr (.inr (.inl h2))
      ·exact .inr (.inr (.inr h2))
      ·rw[hBm b h2] at hb; cases hb
    have wnF:∀b,W.heap.size<=b\/Own (V.mem p x) ρ b->w0.n<=b/\¬w0.F b:=λb hb=>by
     rcases hb with hb | hb
     ·exact⟨ow,hR.below.new hb⟩
     ·exact⟨(hR.own hb).1,(hR.own hb).2.2.2.1⟩
    have nF3:∀b,¬Z3.F b->¬w0.F b:=λb hb hF=>by
     rcases notZ2 b hb with q | q | q
     ·exact(wnF b (.inl q)).2 hF
     ·exact(wnF b (.inr q)).2 hF
     ·exact(hB b (hX b q)).2.2.1 (hdep b (.inr (.inl hF)))
    have fin:∀(mem':List AObj) (m4:View) (ρ4:List Value),Cells m4->Rel P Z3 m2 (qn1 none [] mem' [] s1) m4 ρ4 { a with defers:=[] } W3 ->
      ∃D',(∀b,D' b->D b\/W.heap.size<=b\/mx b≠none\/X b)/\G mem' D' W3:=by
     intro mem' m4 ρ4 hc4 h4
     have hlv:=hR.leave (L:=λb=>b=R\/B b) h4 Z3n nF3 (λb ob hb=>by
      rcases hm2 b ob hb with h1 | h1 | h1
      ·exact .inl h1
      ·rcases hmxD b ob h1 with h2 | h2
       ·exact .inl h2
       ·exact .inr ⟨ow,λhF=>h2.2 (hdep b (.inr (.inl hF)))⟩
      ·exact .inr (wnF b h1)) (View.le_trans View.le_or hr2.ext) sameW (λb hb hD=>hb.elim (λe=>dN R r1 (zad _) (hdep _ (e ▸ hD))) λh=>(hB b h).2.2.1 (hdep _ hD)) Z3ρ
     have sub:∀b,w08 w0 m4 mem' ρ4 a.defers b->D b\/W.heap.size<=b\/mx b≠none\/X b:=by
      have own:∀b,W.heap.size<=b\/Own (V.mem p x) ρ b\/X b->D b\/W.heap.size<=b\/mx b≠none\/X b:=λb hb=>by
       rcases hb with hb | hb | hb
       ·exact .inr (.inl hb)
       ·exact .inl (ownD b hb)
       ·exact .inr (.inr (.inr hb))
      rintro b (hb | hb | hb | hb)
      ·cases hbo:m4 b with
       | none=>exact absurd hbo hb
       | some ob=>
        rcases h4.new b ob hbo with h1 | ⟨_,h1⟩
        ·rcases hm2 b ob h1 with h2 | h2 | h2
         ·exact .inl (hdep b (.inl (by rw[h2]; simp)))
         ·exact .inr (.inr (.inl (by rw[h2]; simp)))
         ·exact own b (h2.imp (λh=>h) .inl)
        ·exact own b (notZ2 b h1)
      ·exact .inl (hdep b (.inr (.inl hb)))
      ·obtain⟨g',v,j1,j2,j3⟩:=hb
       exact own b (notZ2 b (h4.zone g' v b j1 j2 j3))
      ·exact .inl (hdep b (.inr (.inr (.inr hb))))
     refine⟨w08 w0 m4 mem' ρ4 a.defers,sub,⟨λb g1 g2 hD=>?_,λb hb=>hlv.deps hb⟩,m4,ρ4,hc4,View.le_trans hle (View.le_trans View.le_or (View.le_trans hr2.ext h4.ext)),λb hb=>hb,hlv⟩
     rcases sub _ hD with h1 | h1 | h1 | h1
     ·exact dN b g1 g2 h1
     ·omega
     rotate_left
     ·have:=(hB b (hX b h1)).1; omega
     ·cases hbo:mx b with
      | none=>exact h1 hbo
      | some ob=>
       obtain⟨c,t,f,e⟩:=(hmd _ _ hbo).1
       have h3:=hmx _ _ hbo
       by_cases hbR:b=R
       ·rw[hbR,hl,e] at h3; cases h3
       ·cases hr0:r with
        | none=>
         rw[hr0] at hk
         obtain rfl:b=NN:=by have:=r3 hr0; omega
         rw[show W.heap[b]? = some (.deferred (some [])) from hk,e] at h3; cases h3
        | some l=>
         rw[hr0] at hRL
         have h4:R=w.heap.size:=hRL.1
         omega
    have slot:∀(m4:View) (ρ4:List Value),m2.le m4->(∀(g:Nat) q,ρ[g]? = some (Value.pointer q)->ρ4[g]? = some (Value.pointer q))->∀j,((s1.get j).strip).ok P m4 ρ4 [a.tmps.getD j undef]:=λm4 ρ4 h1 h2 j=>
     q87 (View.le_trans View.le_or (View.le_trans hr2.ext h1)) h2 (hR.slots j)
    have hr3c:=hr3.cells
    rw[hc2.eq] at hr3c
    have pre:Same (λb=>b<W.heap.size/\¬(D b\/B b)) W2 W3/\(∀b,NN<=b->b<=R->W3.heap[b]? = W2.heap[b]?)/\mE.on W3:=
     ⟨⟨hos3.1,hos3.2.1,hos3.2.2,hgr3,λb hb=>kept2 b hb.1 (λh=>hb.2 (.inl (ownD b h))) λh=>hb.2 (.inr h)⟩,λb q1 q2=>kept2 b ow (λh=>dN b q1 q2 (ownD _ h)) (hBN _ q2),
      λb ob hb=>hr3.view b ob (hr3.ext b ob (hr2.ext b ob (View.le_or b ob (hle b ob hb))))⟩
    have jump:∀e,K e (qn1 none [] s4.mem [] s1)->∀c,(c=Code.ret/\e=XK.ret\/∃id,c=.exit id/\e=XK.exit id)->∃D',(∀b,D' b->D b\/W.heap.size<=b\/mx b≠none\/B b)/\∃e mem',(c=.ret/\e=XK.ret\/∃id,c=.exit id/\e=XK.exit id)/\K e (qn1 none [] mem' [] s1)/\G mem' D' W3:=by
     intro e hKe c hce
     have h4:=hr3c.act (ov:=[]) (base:=λi=>(s1.get i).strip) (a':={ a with defers:=[] }) (slot _ ρ3 hr3c.ext (λg q hq=>hr3c.pins g _ (by rw[Z3ρ]; exact hq) rfl)) trivial
     obtain⟨D',k1,k2⟩:=fin s4.mem _ ρ3 Cells.of h4
     exact⟨D',λb hb=>(k1 b hb).imp (λh=>h) (Or.imp (λh=>h) (Or.imp (λh=>h) (hX b))),e,s4.mem,hce,hKe,k2⟩
    refine⟨pre.1,hl3,pre.2.1,pre.2.2,?_⟩
    cases e with
    | ret=>exact jump _ hK3 _ (.inl ⟨rfl,rfl⟩)
    | exit id=>exact jump _ hK3 _ (.inr ⟨id,rfl,rfl⟩)
    | normal=>
     obtain⟨⟨x',hIx',hmu',hdie'⟩,hXn⟩:=hK3
     obtain⟨s5,m5,ρ5,hle5,hm35,hr5,-,-⟩:=q4d hS.fixs (D:=λ_=>False) s4.mem 0 s4 _ ρ3 (λj o hj _=>q3g _ _ _ hj) hr3c hdie'
     have hr5c:=hr5.cells
     rw[hc2.eq] at hr5c
     obtain⟨⟨d1,d2,d3⟩,_⟩:=chk x' hIx'
     have sl5:=slot _ ρ5 hr5c.ext (λg q hq=>hr5c.pins g _ (by rw[Z3ρ]; exact hq) rfl)
     have h4:=hr5c.act (ov:=[]) (base:=λi=>(s1.get i).strip) (a':={ a with defers:=[] }) sl5 trivial
     have hh:=q1a (y:=none) (b:=none) (sl:=[]) (mem:=V.mem p x') (ds:=[]) (s0:=s1) h4 trivial hle5 rfl (by rw[d2]; exact d1) (λg q hq _=>by
      rw[Z3ρ] at hq
      have h1:=(zaf.1 hq).1
      have h1:g<ρ.length:=h1
      have h2:ρ.length=(V.mem p x).length:=hR.len
      omega) (λN e=>by cases e) (λj _ _=>⟨sl5 j,w7v ow (hbase0 j)⟩)
     obtain⟨D',k1,k2⟩:=fin _ _ _ Cells.of hh
     exact⟨D',λb hb=>(k1 b hb).imp (λh=>h) (Or.imp (λh=>h) λh=>h.resolve_right (hXn b)),x',hIx',ow,k2⟩
  ·rintro D W ⟨x,q1,q2,q3⟩ hW
   rw[<- hNN] at hW ⊢
   obtain⟨h1,h2⟩:=hfin _ _ _ q3 hW
   exact hQ .normal _ _ _ ((chk x q1).2.2 q2) h1 ⟨w0,hT,h2⟩
  ·rintro c D W ⟨e,mem',q1,q2,q3⟩ hW
   rw[<- hNN] at hW ⊢
   obtain⟨h1,h2⟩:=hfin _ _ _ q3 hW
   rcases q1 with⟨rfl,rfl⟩ | ⟨id,rfl,rfl⟩
   ·exact wpIn_ret (hQ .ret _ _ _ q2 h1 ⟨w0,hT,h2⟩)
   ·exact wpIn_exit (hQ (.exit id) _ _ _ q2 h1 ⟨w0,hT,h2⟩)
 | exit id=>
  refine⟨?_,(by intro _ _ h; cases h),(by intro _ _ _ h; cases h)⟩
  intro C T m0 hS r n hC hmc hrr i K s a w Q hd hg h hQ; exact wpIn_exit (hQ (.exit id) s a w h (FR.refl _ _ _) hg)
 | ret=>
  refine⟨?_,(by intro _ _ h; cases h),(by intro _ _ _ h; cases h)⟩
  intro C T m0 hS r n hC hmc hrr i K s a w Q hd hg h hQ; exact wpIn_ret (hQ .ret s a w h (FR.refl _ _ _) hg)
 | _=>
  refine⟨?_,(by intro _ _ h; cases h),(by intro _ _ _ h; cases h)⟩
  intro C T m0 hS r n hC hmc hrr i K s a w Q hd hg h hQ; exact h.elim
theorem w7z {iv:Nat->Option Inv}:∀(c:Code) (T:Base->Prop) (m0:View) (hS:SoundAt P C m0) (r:Option Nat) (n:Nat) (hC:Cls P C T m0 N r n) (hmc:m0.cells=m0) (hrr:qi2 c=true\/r=none) (i:Nat) (K:XK->St->Prop) (s:St) (a:Act) (w:World) (Q:Exit->Act->World->Prop),(∀d∈qm7 iv c i,N.may d)->q67 P T m0 N s a w->vc C iv c i K s ->
  (∀e s' a' w',K e s'->FR C.yl (λj=>j∈qm7 iv c i) s s'->q67 P T m0 N s' a' w'->Q e.out a' w')->c.wpIn (fz r) n P Q a w:=
 λc T m0 hS r n hC hmc hrr=>(x4m c).1 C T m0 hS r n hC hmc (hrr.imp id .inl)
end
end Eng
set_option linter.unusedVariables false
set_option linter.unusedSimpArgs false
namespace Eng
open Go Go.RowKit
def qm4:AV->AV
 | .cons v .nil=>v
 | l=>.tup l
def xj6:(ts:List Ty)->qa3 ts->Nat->AV
 | [],_,_=>.any
 | t :: _,(x,_),0=>q8k t x
 | _ :: r,(_,y),i+1=>xj6 r y i
def q68 (fresh:Bool) (own:Option Nat) (ins:List Ty) (pre:qa3 ins->Prop) (f:qa3 ins->AV):qa8:=
 {fresh:=fresh,own:=own,run:=λargs k=>qg1 ins args λx=>need (pre x) λ_=>k (f x),one:=λargs k h=>(qd3 (qn6 ins args) λx=>qg3 (qa6 (f x))) k h }
def qe4 (fresh:Bool) (own:Option Nat) (ins outs:List Ty) (pre:qa3 ins->Prop) (f:qa3 ins->qa3 outs):qa8:=
 {fresh:=fresh,own:=own,run:=λargs k=>qg1 ins args λx=>need (pre x) λ_=>k (qm4 (qg2 outs (f x))),one:=λargs k h=>(qd3 (qn6 ins args) λx=>qg3 (qa6 (qm4 (qg2 outs (f x))))) k h }
def xj7 (C:Ctx) (s:St):List ResultVar->(AV->Prop)->Prop
 | [],k=>k .nil
 | .tmp t :: r,k=>xj7 C s r λrest=>k (.cons (s.get t) rest)
 | .cell x t :: r,k=>qd5 C t λT=>q6j T s.mem (s.get x) λv=>xj7 C s r λrest=>k (.cons v rest)
def AV.scalar:AV->Bool
 | .lit _=>true
 | .tt=>true
 | .ff=>true
 | .nil=>true
 | .cons a b=>match a.scalar with
  | true=>b.scalar
  | false=>false
 | .agg c=>c.scalar
 | .tup c=>c.scalar
 | _=>false
def w70 (mem:List AObj):AV->(AV->Prop)->Prop
 | .own g,k=>match qa1 mem g with
  | .vec _ t l=>match Ty.flat t with
   | true=>k (.dat t l)
   | false=>False
  | _=>False
 | .msl g j,k=>match qa1 mem g,j with
  | .mat _ _ t rows ix _,.none=>match Ty.flat t with
   | true=>k (.dat (.list t) (q1u t rows ix))
   | false=>False
  | _,_=>False
 | .cons a b,k=>w70 mem a λa=>w70 mem b λb=>k (.cons a b)
 | .agg c,k=>w70 mem c λc=>k (.agg c)
 | .tup c,k=>w70 mem c λc=>k (.tup c)
 | .lit v,k=>k (.lit v)
 | .tt,k=>k .tt
 | .ff,k=>k .ff
 | .nil,k=>k .nil
 | _,_=>False
def w71 (fresh:Bool) (t:Ty):Bool:=match fresh with
 | true=>Ty.flat t
 | false=>true
def x7j (fresh:Bool) (own deep:Option Nat) (mem:List AObj) (want:AV) (r:AV):Prop:=match own with
 | .none=>match fresh with
  | true=>match r.scalar with
   | true=>fAV r λr=>AV.le .none r want
   | false=>w70 mem r λr=>fAV r λr=>AV.le .none r want
  | false=>fAV (r.bor mem) λr=>AV.le .none r want
 | some e=>match deep with
   | .none=>match r with
    | .own g=>match qa1 mem g with
     | .vec e' t l=>match Nat.beq e' e,w71 fresh t with
      | true,true=>match want with
       | .dat t' l'=>qj1 t t' l λl2=>l2=l'
       | _=>False
      | _,_=>False
     | _=>False
    | .tup c=>match c,want with
     | .cons a z,.tup c'=>match a,c',z.scalar with
      | .own g,.cons a' z',true=>match qa1 mem g,a' with
       | .vec e' t l,.dat t' l'=>match Nat.beq e' e,w71 fresh t with
        | true,true=>(qj1 t t' l λl2=>l2=l')/\fAV z λz=>AV.le .none z z'
        | _,_=>False
       | _,_=>False
      | .lit v,.cons a' z',true=>match isNil v,a' with
       | true,.dat t' l'=>l'=[]/\fAV z λz=>AV.le .none z z'
       | _,_=>False
      | _,_,_=>False
     | _,_=>False
    | _=>False
   | some e2=>match r with
    | .msl g j=>match qa1 mem g,j with
     | .mat eh e' t rows ix lt,.none=>match Nat.beq eh e,Nat.beq e' e2,w71 fresh t,ix,lt with
      | true,true,true,.none,.none=>match want with
       | .dat t' l'=>qj1 (.list t) t' rows λl2=>l2=l'
       | _=>False
      | _,_,_,_,_=>False
     | _,_=>False
    | .tup c=>match fresh,c,want with
     | true,.cons a z,.tup c'=>match a,c',z.scalar with
      | .msl g j,.cons a' z',true=>match qa1 mem g,j,a' with
       | .mat eh e' t rows ix lt,.none,.dat t' l'=>match Nat.beq eh e,Nat.beq e' e2,Ty.flat t,ix,lt with
        | true,true,true,.none,.none=>(qj1 (.list t) t' rows λl2=>l2=l')/\fAV z λz=>AV.le .none z z'
        | _,_,_,_,_=>False
       | _,_,_=>False
      | .lit v,.cons a' z',true=>match isNil v,a' with
       | true,.dat t' l'=>match t',l' with
        | .list t,l'=>l'=[]/\fAV z λz=>AV.le .none z z'
        | _,_=>False
       | _,_=>False
      | _,_,_=>False
     | _,_,_=>False
    | _=>False
def yf1 (C:Ctx) (fresh:Bool) (own deep:Option Nat) (res:List ResultVar) (want:AV) (e:XK) (s:St):Prop:=match e with
 | .exit _=>False
 | _=>xj7 C s res λl=>x7j fresh own deep s.mem want (qm4 l)
structure ArgK where
 X:Type
 take:AV->(X->Prop)->Prop
 init:X->Nat->AV
 n:Nat
 one:∀c,Det (take c)
structure ArgK.Ok (P:Program) (A:ArgK):Prop where
 ok:∀{m:View} {c:AV} {k:A.X->Prop} {vs:List Value},A.take c k->c.ok P m [] vs->∃x,k x/\vs.length=A.n/\∀i,(A.init x i).ok P m [] [vs.getD i undef]
def q0m (ins:List Ty):ArgK:=⟨qa3 ins,qg1 ins,xj6 ins,ins.length,qn6 ins⟩
def q8o (A:ArgK) (fresh:Bool) (own deep:Option Nat) (pre:A.X->Prop) (f:A.X->AV):qa8:=
 {fresh:=fresh,own:=own,deep:=deep,run:=λargs k=>A.take args λx=>need (pre x) λ_=>k (f x),one:=λargs k h=>(qd3 (A.one args) λx=>qg3 (qa6 (f x))) k h }
def q4e (A:ArgK) (deep self:Bool) (eh e:Nat) (t:Ty) (pre:List (List t.den)->A.X->Prop) (r:List (List t.den)->A.X->AV) (f:List (List t.den)->A.X->List (List t.den)):MSpec:=
 {deep:=deep,self:=self,eh:=eh,e:=e,t:=t,run:=λrows args k=>A.take args λx=>need (pre rows x) λ_=>k (r rows x) (f rows x),
  one:=λrows args k h=>by
   obtain⟨x,h1,h2⟩:=A.one args _ h
   exact⟨r rows x,f rows x,h1.2,λk' hk=>h2 (λx=>need (pre rows x) λ_=>k' (r rows x) (f rows x)) ⟨h1.1,hk⟩⟩ }
def xVC (C:Ctx) (iv:Nat->Option Inv) (A:ArgK) (fresh:Bool) (own deep:Option Nat) (c:Code) (res:List ResultVar) (x:A.X) (y:AV):Prop:=
 vc C iv c 0 (yf1 C fresh own deep res y) ⟨[],A.init x,[]⟩
def yj9 (C:Ctx) (iv:Nat->Option Inv) (fresh:Bool) (own:Option Nat) (ins:List Ty) (c:Code) (res:List ResultVar) (x:qa3 ins) (y:AV):Prop:=
 xVC C iv (q0m ins) fresh own .none c res x y
def x7k (C:Ctx) (iv:Nat->Option Inv) (fresh:Bool) (own:Option Nat) (ins outs:List Ty) (c:Code) (res:List ResultVar) (x:qa3 ins) (y:qa3 outs):Prop:=
 xVC C iv (q0m ins) fresh own .none c res x (qm4 (qg2 outs y))
def x7l (deep:Bool):Option Nat:=match deep with
 | true=>.none
 | false=>some 0
def xj8 (A:ArgK) (deep:Bool) (x:A.X):Nat->AV
 | 0=>.msl 0 (x7l deep)
 | i+1=>A.init x i
def x4n (deep:Bool) (ix:Option (List Nat)):Prop:=match deep with
 | true=>match ix with
  | .none=>True
  | some _=>False
 | false=>match ix with
  | .none=>False
  | some l=>wi3 l
def yk0 (C:Ctx) (deep self:Bool) (eh e:Nat) (t:Ty) (T:q2v) (res:List ResultVar) (want:AV) (rows:List (List t.den)) (x:XK) (s:St):Prop:=match x with
 | .exit _=>False
 | _=>xj7 C s res λl=>match qa1 s.mem 0 with
  | .mat eh' e' t' rows' ix lt=>match Nat.beq eh' eh,Nat.beq e' e,lt with
   | true,true,some T'=>qj1 (.list t') (.list t) rows' λrows2=>rows2=rows/\T'=T/\x4n deep ix/\(match self with
    | true=>match qm4 l with
     | .msl g j=>match Nat.beq g 0,j with
      | true,some p=>match deep with
       | true=>False
       | false=>p=0
      | _,_=>False
     | _=>False
    | false=>match(qm4 l).msk with
     | 0=>w70 s.mem (qm4 l) λr=>fAV r λr=>AV.le .none r want
     | _+1=>match Nat.testBit (qm4 l).msk 0 with
      | true=>False
      | false=>w70 s.mem (qm4 l) λr=>fAV r λr=>AV.le .none r want)
   | _,_,_=>False
  | _=>False
def mVC (C:Ctx) (iv:Nat->Option Inv) (A:ArgK) (deep self:Bool) (eh e:Nat) (t:Ty) (T:q2v) (c:Code) (res:List ResultVar) (rows:List (List t.den)) (x:A.X) (y:AV) (rows':List (List t.den)):Prop:=
 vc C iv c 0 (yk0 C deep self eh e t T res y rows') ⟨[],xj8 A deep x,[.mat eh e t rows (ql6 deep) (some T)]⟩
section
variable {P : Program} {C : Ctx}
theorem q69 {m:View}:∀{ts:List Ty} {c:AV} {k:qa3 ts->Prop} {vs:List Value},qg1 ts c k->c.ok P m [] vs->∃x,k x/\vs.length=ts.length/\∀i,(xj6 ts x i).ok P m [] [vs.getD i undef]
 | [],c,k,vs,h,hc=>by
  simp only[qg1] at h
  split at h
  ·obtain rfl:vs=[]:=hc
   exact⟨(),h,rfl,λi=>⟨_,rfl⟩⟩
  grind
 | t :: r,c,k,vs,h,hc=>by
  simp only[qg1] at h
  split at h
  ·rename_i v rest
   obtain⟨u,us,rfl,h1,h2⟩:=hc
   obtain⟨x,k1,k2⟩:=q52 h h1
   obtain⟨y,k3,k4,k5⟩:=q69 k2 h2
   refine⟨(x,y),k3,by grind,λi=>?_⟩
   cases i with
   | zero=>exact q93 k1
   | succ i=>grind [xj6]
  grind
def w39 (tmps:Array Value):ResultVar->Sem Value
 | .tmp t=>pure (tmps.getD t undef)
 | .cell x t=>do loadVar t (<- asAddr (tmps.getD x undef))
theorem w4a (fn:Func) (tmps:Array Value):results fn tmps=(do
  let vs <- fn.results.mapM (w39 tmps)
  pure (if h:vs.size=1 then vs[0] else .tuple vs)):=by
 rfl
theorem q7a {mS:View} (hS:SoundAt P C mS) {w0:Base} {m0 m:View} {s:St} {ρ:List Value} {a:Act} {w:World} (hr:Rel P w0 m0 s m ρ a w):∀(res:List ResultVar) (k:AV->Prop),xj7 C s res k ->
  ∃vs l,(res.mapM (w39 a.tmps)).run P w=.ok vs w/\k l/\l.ok P m ρ vs/\l.lenIs res.length=true
 | [],k,h=>⟨[],.nil,rfl,h,rfl,rfl⟩
 | .tmp t :: r,k,h=>by
  obtain⟨vs,l,h1,h2,h3,h4⟩:=q7a hS hr r _ h
  refine⟨a.tmps.getD t undef :: vs,_,?_,h2,⟨_,_,rfl,hr.slots t,h3⟩,h4⟩
  rw[List.mapM_cons]
  have e:(w39 a.tmps (.tmp t)).run P w=.ok (a.tmps.getD t undef) w:=rfl
  simp_all
 | .cell x t :: r,k,h=>by
  obtain⟨T,hT,h⟩:=withSome_iff.1 h
  obtain⟨⟨ad,e⟩,v,av,q1,q2,q3⟩:=wj1 (hS.tys t T hT) hr h (hr.slots x)
  obtain⟨vs,l,h1,h2,h3,h4⟩:=q7a hS hr r _ q2
  refine⟨v :: vs,_,?_,h2,⟨_,_,rfl,q3,h3⟩,h4⟩
  rw[e] at q1
  simp only[Instr.loadAt,Instr.sureAddr,pure_bind] at q1
  have e2:(w39 a.tmps (.cell x t)).run P w=.ok v w:=by
   grind [w39,asAddr]
  simp_all
def pack (vs:List Value):Value:=match vs with
 | [v]=>v
 | l=>.tuple l.toArray
theorem qt3 {fn:Func} {tmps:Array Value} {w:World} {vs:List Value} (h:(fn.results.toList.mapM (w39 tmps)).run P w=.ok vs w):(results fn tmps).run P w=.ok (pack vs) w:=by
 rw[w4a,Array.mapM_eq_mapM_toList]
 simp only[Sem.run_bind,Sem.run_map,h,Result.andThen_ok,Sem.run_pure]
 match vs with
 | []=>rfl
 | [v]=>rfl
 | a :: b :: r=>rfl
theorem wc2 {m:View} {ρ:List Value} {l:AV} {vs:List Value} (h:l.ok P m ρ vs) (hl:(∃n,l.lenIs n=true)):(qm4 l).ok P m ρ [pack vs]:=by
 cases l with
 | nil=>obtain rfl:vs=[]:=h; exact⟨[],rfl,rfl⟩
 | cons a b=>
  obtain⟨v,rest,rfl,h1,h2⟩:=h
  cases b with
  | nil=>obtain rfl:rest=[]:=h2; exact h1
  | cons c d=>
   obtain⟨v',rest',rfl,h3,h4⟩:=h2
   exact⟨v :: v' :: rest',rfl,v,_,rfl,h1,v',_,rfl,h3,h4⟩
  | _=>
   obtain⟨n,hn⟩:=hl
   cases n with
   | zero=>cases hn
   | succ n=>cases n <;> cases hn
 | _=>obtain⟨n,hn⟩:=hl; cases n <;> cases hn
theorem qw2 {m m':View} {ρ ρ':List Value} {av:AV}:∀{vs:List Value},av.scalar=true->av.ok P m ρ vs->av.ok P m' ρ' vs:=by
 induction av with
 | cons a b iha ihb=>
  intro vs h k
  obtain⟨v,rest,k1,k2,k3⟩:=k
  simp only[AV.scalar] at h
  split at h
  ·rename_i h1; exact⟨v,rest,k1,iha h1 k2,ihb h k3⟩
  grind
 | agg l ih=>intro vs h k; obtain⟨cs,k1,k2⟩:=k; exact⟨cs,k1,ih h k2⟩
 | tup l ih=>intro vs h k; obtain⟨cs,k1,k2⟩:=k; exact⟨cs,k1,ih h k2⟩
 | nil=>intro vs h k; exact k
 | lit v=>intro vs h k; exact k
 | tt=>intro vs h k; exact k
 | ff=>intro vs h k; exact k
 | _=>intro vs h; cases h
theorem xj9 {w0:Base} {m0 m:View} {s:St} {ρ:List Value} {a:Act} {w:World} (hr:Rel P w0 m0 s m ρ a w) :
  ∃M:View,M.on w/\m0.le M/\(∀b o,M b=some o->m0 b=some o\/w0.n<=b)/\∀{av:AV} {vs:List Value},av.ok P m ρ vs->(av.bor s.mem).ok P M [] vs:=by
 let M:View:=λb=>if w0.n<=b then w.heap[b]? else m0 b
 have hm0:m0.on w:=λb o hb=>hr.view b o (hr.ext b o hb)
 have hmM:m.le M:=λb o hb=>by
  show(if w0.n<=b then w.heap[b]? else m0 b)=some o
  split
  ·exact hr.view b o hb
  ·rename_i hlt
   rcases hr.new b o hb with h | h
   all_goals omega
 have hsee:∀g,Seen s ρ w M g:=λg v b hl hv hb=>by
  obtain⟨u,j1,j2⟩:=(hr.objs g).blk_lt hl
  grind
 have hsn:∀{av:AV} {vs:List Value},av.ok P m ρ vs->(av.snap s.mem).ok P M [] vs:=by
  intro av
  induction av with
  | own g=>
   intro vs k
   obtain⟨v,⟨k1,_⟩,rfl⟩:=k
   simp only[AV.snap]
   split
   ·rename_i e t l hm
    have ho:=hr.objs g
    rw[hm] at ho
    obtain⟨v',vs,q1,q2,q3,q4⟩:=ho
    rw[k1] at q1
    obtain rfl:=zaa q1
    exact qm2 q3 (RdL.le hmM q2) (λb hb=>by
     show(if w0.n<=b then w.heap[b]? else m0 b)=_
     rw[zap (q3.lt b hb).1])
   ·exact⟨v,rfl⟩
  | box g off=>intro vs k; obtain⟨b,k1,rfl⟩:=k; exact⟨_,rfl⟩
  | optr g t i off=>intro vs k; obtain⟨b,n,c,k1,rfl⟩:=k; exact⟨_,rfl⟩
  | msl g j=>intro vs k; exact q3a hr hmM (hsee g) k
  | mptr g j t i off=>intro vs k; obtain⟨hs,b,n,c,_,_,rfl⟩:=k; exact⟨_,rfl⟩
  | msub g x y=>intro vs k; exact q05 hr hmM (hsee g) k
  | dat t l=>intro vs k; exact Rd.le hmM k
  | ndat c t l=>intro vs k; exact⟨Rd.le hmM k.1,k.2⟩
  | dptr t l i off=>intro vs k; obtain⟨h0,ad,cs,k1,k2,k3⟩:=k; exact⟨h0,ad,cs,k1,Rd.le hmM k2,λj v hj=>View.cell_le hmM (k3 j v hj)⟩
  | imm cs off ih=>intro vs k; obtain⟨ad,us,k1,k2,k3⟩:=k; exact⟨ad,us,k1,ih k2,λj v hj=>View.cell_le hmM (k3 j v hj)⟩
  | fn a r p f=>intro vs k; obtain⟨fv,k1,k2⟩:=k; exact⟨fv,k1,k2.le hmM.cle⟩
  | clo f caps ih=>intro vs k; obtain⟨cs,k1,k2⟩:=k; exact⟨cs,k1,ih k2⟩
  | agg l ih=>intro vs k; obtain⟨cs,k1,k2⟩:=k; exact⟨cs,k1,ih k2⟩
  | tup l ih=>intro vs k; obtain⟨cs,k1,k2⟩:=k; exact⟨cs,k1,ih k2⟩
  | cons a b iha ihb=>intro vs k; obtain⟨v,rest,k1,k2,k3⟩:=k; exact⟨v,rest,k1,iha k2,ihb k3⟩
  | _=>intro vs k; exact k
 refine⟨M,λb o hb=>?_,View.le_trans hr.ext hmM,λb o hb=>?_,?_⟩
 ·change(if w0.n<=b then w.heap[b]? else m0 b)=some o at hb
  split at hb
  ·omega
  ·exact hm0 b o hb
 ·grind
 ·intro av
  induction av with
  | own g=>
   intro vs k
   obtain⟨v,⟨k1,_⟩,rfl⟩:=k
   simp only[AV.bor]
   split
   ·rename_i e t l hm
    have ho:=hr.objs g
    rw[hm] at ho
    obtain⟨v',vs,q1,q2,q3,q4⟩:=ho
    rw[k1] at q1
    obtain rfl:=zaa q1
    exact qm2 q3 (RdL.le hmM q2) (λb hb=>by
     show(if w0.n<=b then w.heap[b]? else m0 b)=_
     rw[zap (q3.lt b hb).1])
   ·exact⟨v,rfl⟩
  | box g off=>
   intro vs k
   obtain⟨b,k1,rfl⟩:=k
   simp only[AV.bor]
   split
   ·rename_i ty cs hm
    have ho:=hr.objs g
    rw[hm] at ho
    obtain⟨b',vs,q1,q2,q3,q4,q5,q6⟩:=ho
    rw[k1] at q1
    obtain rfl:b=b':=by grind
    refine⟨⟨b,0,none⟩,vs,by rw[Ls.add_zero_lit],hsn q4,λj v hj=>?_⟩
    rw[Ls.add_zero_lit,View.cell,show M b=some (.cells vs.toArray ty (0,0)) from by
     grind]
    grind
   ·exact⟨_,rfl⟩
  | optr g t i off=>intro vs k; obtain⟨b,n,c,k1,rfl⟩:=k; exact⟨_,rfl⟩
  | msl g j=>intro vs k; exact q3a hr hmM (hsee g) k
  | mptr g j t i off=>intro vs k; obtain⟨hs,b,n,c,_,_,rfl⟩:=k; exact⟨_,rfl⟩
  | msub g x y=>intro vs k; exact q05 hr hmM (hsee g) k
  | dat t l=>intro vs k; exact Rd.le hmM k
  | ndat c t l=>intro vs k; exact⟨Rd.le hmM k.1,k.2⟩
  | dptr t l i off=>intro vs k; obtain⟨h0,ad,cs,k1,k2,k3⟩:=k; exact⟨h0,ad,cs,k1,Rd.le hmM k2,λj v hj=>View.cell_le hmM (k3 j v hj)⟩
  | imm cs off ih=>intro vs k; obtain⟨ad,us,k1,k2,k3⟩:=k; exact⟨ad,us,k1,ih k2,λj v hj=>View.cell_le hmM (k3 j v hj)⟩
  | fn a r p f=>intro vs k; obtain⟨fv,k1,k2⟩:=k; exact⟨fv,k1,k2.le hmM.cle⟩
  | clo f caps ih=>intro vs k; obtain⟨cs,k1,k2⟩:=k; exact⟨cs,k1,ih k2⟩
  | agg l ih=>intro vs k; obtain⟨cs,k1,k2⟩:=k; exact⟨cs,k1,ih k2⟩
  | tup l ih=>intro vs k; obtain⟨cs,k1,k2⟩:=k; exact⟨cs,k1,ih k2⟩
  | cons a b iha ihb=>intro vs k; obtain⟨v,rest,k1,k2,k3⟩:=k; exact⟨v,rest,k1,iha k2,ihb k3⟩
  | _=>intro vs k; exact k
theorem w72 {w0:Base} {m0 m:View} {s:St} {ρ:List Value} {a:Act} {w:World} (hr:Rel P w0 m0 s m ρ a w) {av:AV}:∀{K:AV->Prop} {vs:List Value},w70 s.mem av K->av.ok P m ρ vs ->
  ∃r,K r/\∀{B:Nat},(∀g v b,av.msk.testBit g=true->(qa1 s.mem g).live=true->ρ[g]? = some v->Blk v b->B<=b)->r.ok P (View.from w B) [] vs:=by
 have frm:∀{B b:Nat},B<=b->View.from w B b=w.heap[b]?:=λh=>by simp_all [View.from,if_pos]
 induction av with
 | own g=>
  intro K vs h k
  simp only[w70] at h
  split at h
  ·rename_i e t l hm
   split at h
   ·rename_i hf
    have ho:=hr.objs g
    rw[hm] at ho
    obtain⟨v,us,q1,q2,q3,q4⟩:=ho
    obtain⟨v',⟨r1,_⟩,rfl⟩:=k
    rw[q1] at r1
    obtain rfl:=zaa r1
    exact⟨_,h,λhB=>qm2 q3 (qi6 hf q2) λb hb=>frm (hB g v b (by simp[AV.msk,qb4]) (by rw[hm]; rfl) q1 (qg7 hb))⟩
   grind
  grind
 | msl g j=>
  intro K vs h k
  simp only[w70] at h
  split at h
  ·rename_i eh e t rows ix lt hm
   split at h
   ·rename_i hf
    have ho:=hr.objs g
    rw[hm] at ho
    obtain⟨hs,q1,q2,_⟩:=ho
    obtain⟨hsx,v',r1,⟨r2,r3⟩,rfl⟩:=k
    rw[q1] at r1
    obtain rfl:=qf1 (zaa r1)
    refine⟨_,h,λ{B} hB=>?_⟩
    have q2':PoolOk (λ_=>none) w w0.n eh e t rows ix hs:=q2.flat hf λ_ _ _ _=>rfl
    exact(wu8 (M:=View.from w B) q2' (λb o hb=>by grind) λb hb=>frm (hB g _ b (by simp[AV.msk,qb4]) (by rw[hm]; rfl) q1 (qd7.2 hb))).1 v' r2
   grind
  grind
 | cons x y ihx ihy=>
  intro K vs h k
  obtain⟨v,rest,rfl,k2,k3⟩:=k
  obtain⟨r1,h1,h2⟩:=ihx h k2
  obtain⟨r2,h3,h4⟩:=ihy h1 k3
  exact⟨_,h3,λhB=>⟨v,rest,rfl,h2 λg v b hm=>hB g v b (by grind [AV.msk,qd0]),h4 λg v b hm=>hB g v b (by grind [AV.msk,qd0])⟩⟩
 | agg c ih=>
  intro K vs h k
  obtain⟨cs,k1,k2⟩:=k
  obtain⟨r1,h1,h2⟩:=ih h k2
  exact⟨_,h1,λhB=>⟨cs,k1,h2 hB⟩⟩
 | tup c ih=>
  intro K vs h k
  obtain⟨cs,k1,k2⟩:=k
  obtain⟨r1,h1,h2⟩:=ih h k2
  exact⟨_,h1,λhB=>⟨cs,k1,h2 hB⟩⟩
 | lit v=>intro K vs h k; exact⟨_,h,λ_=>k⟩
 | tt=>intro K vs h k; exact⟨_,h,λ_=>k⟩
 | ff=>intro K vs h k; exact⟨_,h,λ_=>k⟩
 | nil=>intro K vs h k; exact⟨_,h,λ_=>k⟩
 | _=>intro K vs h; exact h.elim
def Left (P:Program) (S:qa8) (k:AV->Prop) (m:View) (w:World) (e:Ending) (w':World):Prop:=∃v m',e=.returned v/\Below w.heap.size w w'/\m'.on w'/\(match S.fresh with
   | true=>∀b o,m' b=some o->w.heap.size<=b
   | false=>m.le m'/\∀b o,m' b=some o->m b=some o\/w.heap.size<=b)/\w3n P S k w.heap.size w' m' v
theorem x1a {fn:Func} {c:Code} {iv:Nat->Option Inv} {i:Nat} {A:ArgK} {fresh:Bool} {own deep:Option Nat} {pre:A.X->Prop} {g:A.X->AV} {x:A.X} {k:AV->Prop} {w w1:World} {m m0:View} {ρ:List Value} {s:St} {a:Act} (hS:SoundAt P C m.cells) (hyl:C.yl=none) (hk:k (g x)) (hm:m.on w)
  (hd:(qm7 iv c i).all (λd=>Nat.blt d fn.ntmps)=true) (hN:a.tmps.size=fn.ntmps) (hr0:Rel P (base0 w) m.cells s m0 ρ a w1) (hvc:vc C iv c i (yf1 C fresh own deep fn.results.toList (g x)) s):c.wpIn (fz none) 0 P (bodyPostM (fz none) 0 P fn (Left P (q8o A fresh own deep pre g) k m w)) a w1:=by
 let R:Ending->World->Prop:=Left P (q8o A fresh own deep pre g) k m w
 refine w7z (N:=⟨fn.ntmps,[]⟩) c (λZ=>Z=base0 w) m.cells hS none 0 (Cls.one hyl _ _ _) (Cells.of).eq (.inr rfl) i _ s a w1 _ (λd hdd=>⟨?_,by simp⟩) ⟨_,rfl,⟨hN,by simp⟩,m0,ρ,hr0⟩ hvc ?_
 ·simp_all
 intro e s' a' w' hend _ hg
 obtain⟨_,rfl,_,m1,ρ1,hr1⟩:=hg
 have hend':xj7 C s' fn.results.toList λl=>x7j fresh own deep s'.mem (g x) (qm4 l):=by
  cases e <;> first | exact hend | exact hend.elim
 have post:LeavesInM (fz none) 0 P fn a'.tmps R a'.defers .returning w':=by
  refine qn4 (Z:=base0 w) (λW=>∃m' ρ',Rel P (base0 w) m.cells s' m' ρ' ⟨a'.tmps,[]⟩ W/\∀b o,m' b=some o->∃c t f,o=.cells c t f) (λW D ⟨m',ρ',hr,hc⟩ hD1 hD2 hD3=>?_) (λW ⟨m',ρ',hr,hc⟩=>?_) a'.defers w' hr1.defers ⟨m1.cells,ρ1,?_,λb o hb=>View.cells_is hb⟩
  ·refine⟨m',ρ',hr.shake hc (grownBy_putObj' W D _) (λr e=>?_) trivial,hc⟩
   obtain rfl:=zaa e
   exact⟨λo ho h=>(by rw[hD3] at h; obtain rfl:=zaa h; exact ho),hD2⟩
  ·obtain⟨vs',l,h1,h2,h3,h4⟩:=q7a hS hr _ _ hend'
   have hp:=wc2 h3 ⟨_,h4⟩
   have hres:=qt3 h1
   have hbel:=q5x.1 hr.below
   have hmW:m.on W:=View.on_below hm hbel
   refine⟨pack vs',hres,pack vs',?_⟩
   generalize qm4 l=rv at h2 hp
   generalize pack vs'=v at hp
   unfold x7j at h2
   have hfin:∀M:View,M.on W->m.cells.le M->(∀b o,M b=some o->m.cells b=some o\/w.heap.size<=b)->(m.or M).on W/\M.le (m.or M)/\m.le (m.or M)/\∀b o,(m.or M) b=some o->m b=some o\/w.heap.size<=b:=λM q1 q2 q3=>by
    refine⟨View.or_on hmW q1,View.or_le hmW q1,View.le_or,λb o hb=>?_⟩
    unfold View.or at hb
    cases hmb:m b with
    | some o'=>rw[hmb] at hb; exact .inl hb
    | none=>
     rw[hmb] at hb
     rcases q3 b o hb with k | k
     ·have:=View.cells_le m b o k; rw[hmb] at this; cases this
     ·exact .inr k
   cases own with
   | none=>
    cases fresh with
    | true=>
     simp only at h2
     cases hsc:rv.scalar <;> rw[hsc] at h2
     ·obtain⟨M,M2,M3⟩:=w72 hr h2 hp
      simp only[qv6] at M2
      exact⟨View.from W w.heap.size,rfl,hbel,View.from_on _ _,(λb o hb=>by grind [View.from]),_,hk,q4c Born.none M2 (M3 λg v b _ hl hv hb=>by
       obtain⟨u,j1,j2⟩:=(hr.objs g).blk_lt hl
       rw[hv] at j1; obtain rfl:=zaa j1
       exact(j2 b hb).1)⟩
     simp only[qv6] at h2
     refine⟨λ_=>none,rfl,hbel,(λb o hb=>by cases hb),(λb o hb=>by cases hb),_,hk,q4c Born.none h2 (qw2 hsc hp)⟩
    | false=>
     simp only[qv6] at h2
     obtain⟨M,M1,M2,M3,M4⟩:=xj9 hr
     obtain⟨q1,q2,q3,q4⟩:=hfin M M1 M2 M3
     exact⟨m.or M,rfl,hbel,q1,⟨q3,q4⟩,_,hk,AV.ok_le q2 (λ_ _ h _=>h) (q4c Born.none h2 (M4 hp))⟩
   | some ee=>
     cases deep with
     | some e2=>
      simp only at h2
      split at h2
      ·rename_i gg jj
       split at h2
       ·rename_i eh e' t rows ix lt hm'
        split at h2
        ·rename_i c1 c2 c3
         have c1:=zab c1
         have c2:=zab c2
         subst c1 c2
         have ho:=hr.objs gg
         rw[hm'] at ho
         obtain⟨hs,q1,q2,_⟩:=ho
         obtain⟨hsx,v',r1,⟨r2,r3⟩,r4⟩:=hp
         rw[q1] at r1
         obtain rfl:=qf1 (zaa r1)
         obtain rfl:=(zac r4).1
         obtain⟨z1,z2,z3,z4⟩:=hfin m' hr.view hr.ext (λb o hb=>(hr.new b o hb).imp id zed)
         have hwant:g x=.dat (.list t) rows:=by
          revert h2
          generalize g x=wv
          intro h2
          cases wv <;> first | exact h2.elim | skip
          obtain⟨rfl,hl⟩:=qg0 h2
          rw[hl _ HEq.rfl]
         cases fresh with
         | true=>exact⟨λ_=>none,rfl,hbel,(λb o hb=>by cases hb),(λb o hb=>by cases hb),.inl ⟨t,rows,hs,by rw[<- hwant]; exact hk,r2,q2.flat c3 λ_ _ _ _=>rfl⟩⟩
         | false=>
         refine⟨m.or m',rfl,hbel,z1,⟨z3,z4⟩,?_⟩
         refine .inl ⟨t,rows,hs,by rw[<- hwant]; exact hk,r2,q2.view z2.cle λu b hu hb=>?_⟩
         have hmb:m b=none:=by
          cases hmb:m b with
          | none=>rfl
          | some o=>
           exfalso
           have k1:=hmW b o hmb
           obtain⟨_,_,_,_,hou⟩:=q2.each hu
           obtain⟨c,t,f,k2⟩:=(own_blk hou hb).2.2
           rw[k1] at k2
           obtain rfl:=zaa k2
           have k3:=hr.ext b (.cells c t f) (by unfold View.cells; rw[hmb])
           rw[q2.free u b hu hb] at k3
           cases k3
         show(m.or m') b=none
         unfold View.or
         rw[hmb]
         exact q2.free u b hu hb
        ·exact h2.elim
       ·exact h2.elim
      ·rename_i c
       split at h2
       case h_2=>exact h2.elim
       rename_i aa zz c' hgx
       have nilv:∀{u:Value},isNil u=true->u=.slice none 0 0:=λ{u} hn=>by
        revert hn
        unfold isNil
        grind
       split at h2
       case h_3=>exact h2.elim
       case h_2=>
        rename_i u a' z' hsc
        split at h2
        case h_2=>exact h2.elim
        rename_i t' l' hnil
        split at h2
        case h_2=>exact h2.elim
        rename_i t l'
        obtain⟨hl',hzl⟩:=h2
        subst hl'
        simp only[qv6] at hzl
        obtain⟨cs,cv,u1,rest,ce,r2,r3⟩:=hp
        have hu1:u1=.slice none 0 0:=by rw[(zac (show[u1]=[u] from r2)).1]; exact nilv hnil
        subst hu1
        have hv:v=.tuple (.slice none 0 0 :: rest).toArray:=by
         grind
        have hzo:∀M:View,z'.ok P M [] rest:=λM=>AV.ok_le (m:=λ_=>none) (λb o hb=>by cases hb) (λ_ _ h _=>h) (q4c Born.none hzl (qw2 hsc r3))
        have hw:g x=.tup (.cons (.dat (.list t) []) z'):=hgx
        have hap:∀(i j:Nat) (u v:Value) (b:Nat),i≠j->([Value.slice none 0 0]:List Value)[i]? = some u->([Value.slice none 0 0]:List Value)[j]? = some v->blk u=some b->blk v=some b->False:=λi j u v b hij hi hj hb _=>by
         grind
        have hpo:PoolOk (λ_=>none) W w.heap.size ee e2 t [] none [.slice none 0 0]:=⟨rfl,⟨[],zbp W w.heap.size ee 1,λi p hp=>by simp[ixL] at hp⟩,λp hp=>absurd hp (zat _),hap,λ_ _ _ _=>rfl⟩
        exact⟨λ_=>none,rfl,hbel,(λb o hb=>by cases hb),(λb o hb=>by cases hb),.inr ⟨t,[],[.slice none 0 0],_,rest,z',hv,by rw[<- hw]; exact hk,hzo _,rfl,hpo⟩⟩
       rename_i gg jj a' z' hsc
       split at h2
       case h_2=>exact h2.elim
       rename_i eh e' t rows ix lt t' l' hm'
       split at h2
       case h_2=>exact h2.elim
       rename_i c1 c2 c3
       have c1:=zab c1
       have c2:=zab c2
       subst c1 c2
       obtain⟨h2,hzl⟩:=h2
       simp only[qv6] at hzl
       have ho:=hr.objs gg
       rw[hm'] at ho
       obtain⟨hs,q1,q2,_⟩:=ho
       obtain⟨cs,cv,u1,rest,ce,⟨hsx,v',r1,⟨r2,r3⟩,r4⟩,r5⟩:=hp
       rw[q1] at r1
       obtain rfl:=qf1 (zaa r1)
       obtain rfl:=(zac r4).1
       obtain⟨rfl,hl⟩:=qg0 h2
       have hl:=hl _ HEq.rfl
       subst hl
       have hv:v=.tuple (u1 :: rest).toArray:=by
        grind
       have hzo:∀M:View,z'.ok P M [] rest:=λM=>AV.ok_le (m:=λ_=>none) (λb o hb=>by cases hb) (λ_ _ h _=>h) (q4c Born.none hzl (qw2 hsc r5))
       have hw:g x=.tup (.cons (.dat (.list t) rows) z'):=hgx
       exact⟨λ_=>none,rfl,hbel,(λb o hb=>by cases hb),(λb o hb=>by cases hb),.inr ⟨t,rows,hs,u1,rest,z',hv,by rw[<- hw]; exact hk,hzo _,r2,q2.flat c3 λ_ _ _ _=>rfl⟩⟩
      ·exact h2.elim
     | none=>
     simp only at h2
     split at h2
     ·rename_i gg
      split at h2
      ·rename_i e' t l' hm'
       split at h2
       case h_2=>exact h2.elim
       rename_i hee c3
       have hee:=zab hee
       subst hee
       have ho:=hr.objs gg
       rw[hm'] at ho
       obtain⟨v',us,q1,q2,q3,q4⟩:=ho
       obtain⟨v'',⟨r1,_⟩,r2⟩:=hp
       rw[q1] at r1
       obtain rfl:=zaa r1
       obtain rfl:=(zac r2).1
       obtain⟨z1,z2,z3,z4⟩:=hfin m' hr.view hr.ext (λb o hb=>(hr.new b o hb).imp id zed)
       have hwant:g x=.dat t l':=by
        revert h2
        generalize g x=wv
        intro h2
        cases wv <;> first | exact h2.elim | skip
        obtain⟨rfl,hl⟩:=qg0 h2
        rw[hl _ HEq.rfl]
       cases fresh with
       | true=>exact⟨λ_=>none,rfl,hbel,(λb o hb=>by cases hb),(λb o hb=>by cases hb),.inl ⟨t,l',us,by rw[<- hwant]; exact hk,q3,qi6 c3 q2,λ_ _=>rfl⟩⟩
       | false=>
       refine⟨m.or m',rfl,hbel,z1,⟨z3,z4⟩,?_⟩
       refine .inl ⟨t,l',us,by rw[<- hwant]; exact hk,q3,RdL.le z2 q2,λb hb=>?_⟩
       have hmb:m b=none:=by
        cases hmb:m b with
        | none=>rfl
        | some o=>
         exfalso
         have k1:=hmW b o hmb
         have k2:∃c t f,W.heap[b]? = some (.cells c t f):=by
          rcases q3.2 with⟨rfl,_⟩ | ⟨g',cap,cur,rfl,_,hg,_⟩
          all_goals grind [Value.ownBlock,Option.some.injEq]
         obtain⟨c,t,f,k2⟩:=k2
         rw[k1] at k2
         obtain rfl:=zaa k2
         have k3:=hr.ext b (.cells c t f) (by unfold View.cells; rw[hmb])
         grind
       grind [View.or]
      ·exact h2.elim
     ·rename_i c
      split at h2
      case h_2=>exact h2.elim
      rename_i aa zz c' hgx
      split at h2
      case h_3=>exact h2.elim
      case h_2=>
       rename_i u a' z' hsc
       split at h2
       case h_2=>exact h2.elim
       rename_i t l' hnil
       obtain⟨hl',hzl⟩:=h2
       subst hl'
       simp only[qv6] at hzl
       obtain⟨cs,cv,u1,rest,ce,r2,r3⟩:=hp
       have hu:u1=u:=(zac r2).1
       have hu1:u1=.slice none 0 0:=by
        rw[hu]
        revert hnil
        unfold isNil
        grind
       subst hu1
       obtain⟨z1,z2,z3,z4⟩:=hfin m' hr.view hr.ext (λb o hb=>(hr.new b o hb).imp id zed)
       have hv:v=.tuple (.slice none 0 0 :: rest).toArray:=by
        grind
       have hzo:∀M:View,z'.ok P M [] rest:=λM=>AV.ok_le (m:=λ_=>none) (λb o hb=>by cases hb) (λ_ _ h _=>h) (q4c Born.none hzl (qw2 hsc r3))
       have ho:=zbp W w.heap.size ee t.size
       have hw:g x=.tup (.cons (.dat t []) z'):=hgx
       cases fresh with
       | true=>exact⟨λ_=>none,rfl,hbel,(λb o hb=>by cases hb),(λb o hb=>by cases hb),.inr (.inr ⟨t,[],[],_,rest,z',hv,by rw[<- hw]; exact hk,hzo _,ho,by simp[RdL],λ_ _=>rfl⟩)⟩
       | false=>exact⟨m.or m',rfl,hbel,z1,⟨z3,z4⟩,.inr (.inr ⟨t,[],[],_,rest,z',hv,by rw[<- hw]; exact hk,hzo _,ho,by simp[RdL],λb hb=>by cases hb⟩)⟩
      rename_i gg a' z' hsc
      split at h2
      case h_2=>exact h2.elim
      rename_i e' t l' t2 l2 hm'
      split at h2
      case h_2=>exact h2.elim
      rename_i hee c3
      have hee:=zab hee
      subst hee
      obtain⟨h2,hzl⟩:=h2
      simp only[qv6] at hzl
      have ho:=hr.objs gg
      rw[hm'] at ho
      obtain⟨v',us,q1,q2,q3,q4⟩:=ho
      obtain⟨cs,cv,u1,rest,ce,⟨v'',⟨r1,_⟩,r2⟩,r3⟩:=hp
      rw[q1] at r1
      obtain rfl:=zaa r1
      obtain rfl:=(zac r2).1
      obtain⟨z1,z2,z3,z4⟩:=hfin m' hr.view hr.ext (λb o hb=>(hr.new b o hb).imp id zed)
      obtain⟨rfl,hl⟩:=qg0 h2
      have hl:=hl _ HEq.rfl
      subst hl
      have hwant:g x=.tup (.cons (.dat t l') z'):=hgx
      have hv:v=.tuple (u1 :: rest).toArray:=by
       grind
      have hzo:∀M:View,z'.ok P M [] rest:=λM=>AV.ok_le (m:=λ_=>none) (λb o hb=>by cases hb) (λ_ _ h _=>h) (q4c Born.none hzl (qw2 hsc r3))
      cases fresh with
      | true=>exact⟨λ_=>none,rfl,hbel,(λb o hb=>by cases hb),(λb o hb=>by cases hb),.inr (.inr ⟨t,l',us,u1,rest,z',hv,by rw[<- hwant]; exact hk,hzo _,q3,qi6 c3 q2,λ_ _=>rfl⟩)⟩
      | false=>
      refine⟨m.or m',rfl,hbel,z1,⟨z3,z4⟩,?_⟩
      refine .inr (.inr ⟨t,l',us,u1,rest,z',hv,by rw[<- hwant]; exact hk,hzo _,q3,RdL.le z2 q2,λb hb=>?_⟩)
      have hmb:m b=none:=by
       cases hmb:m b with
       | none=>rfl
       | some o=>
        exfalso
        have k1:=hmW b o hmb
        have k2:∃c t f,W.heap[b]? = some (.cells c t f):=by
         rcases q3.2 with⟨rfl,_⟩ | ⟨g',cap,cur,rfl,_,hg,_⟩
         all_goals grind [Value.ownBlock,Option.some.injEq]
        obtain⟨c,t,f,k2⟩:=k2
        rw[k1] at k2
        obtain rfl:=zaa k2
        have k3:=hr.ext b (.cells c t f) (by unfold View.cells; rw[hmb])
        grind
      grind [View.or]
     ·exact h2.elim
  ·have hr1:=hr1.cells
   rw[(Cells.of).eq] at hr1
   exact hr1.shake (λb o hb=>View.cells_is hb) (row:=none) ⟨rfl,rfl,rfl,zad _,λ_ _ _=>rfl⟩ (λr e=>by cases e) trivial
 cases e <;> first | exact post | exact hend.elim
theorem xk0 {mS : View} (hS : SoundAt P C mS) (hcS : Cells mS) {f : Nat} {fn : Func} {c : Code} (hf : P.funcs[f]? = some fn) (hname : (fn.name == "runtime.NumGoroutine") = false) (hb : fn.body = some c) {A : ArgK} (hA : A.Ok P) {fresh : Bool} {own deep : Option Nat} {pre : A.X -> Prop} {g : A.X -> AV} (iv : A.X -> Nat -> Option Inv)
  (hd:∀x,(qm7 (iv x) c 0).all (λd=>Nat.blt d fn.ntmps)=true) (hn:A.n<=fn.ntmps) (h:∀x,pre x->xVC C (iv x) A fresh own deep c fn.results.toList x (g x)) (hyl:C.yl=none:=by rfl):MeetsAt P mS f (q8o A fresh own deep pre g):=by
 refine⟨⟨fn,c,hf,hname,hb⟩,λw m args vs k hm hle hargs hrun=>?_⟩
 obtain⟨x,⟨hp,hk⟩,hlen,hslots⟩:=hA.ok hrun hargs
 have hvc:=h x hp
 let R:Ending->World->Prop:=Left P (q8o A fresh own deep pre g) k m w
 have hwp:c.wpIn (fz none) 0 P (bodyPostM (fz none) 0 P fn R) { tmps:=vs.toArray++Array.replicate (fn.ntmps-vs.toArray.size) undef,defers:=[] } w:=by
  have hN:(vs.toArray++Array.replicate (fn.ntmps-vs.toArray.size) undef).size=fn.ntmps:=by grind
  refine x1a (ρ:=[]) (hS.le (hcS.le_cells hle)) hyl hk hm (hd x) hN (Rel.cells (m0:=m) (m:=m) ?_) hvc
  refine⟨λi=>?_,rfl,by simp,trivial,λg=>trivial,(λg g' v v' b _ hl=>by simp),hm,View.le_refl m,λb o hb=>Or.inl hb,q5x.2 (zc0 _ _),(λg v b hl=>by simp),(λg p hp=>by grind [base0])⟩
  show(A.init x i).ok P m [] _
  have:(vs.toArray++Array.replicate (fn.ntmps-vs.toArray.size) undef).getD i undef=vs.getD i undef:=by
   rw[za8,zax]
   grind
  grind
 have:=callsIn_of_wp_marks (F:=Fence.wide) (n:=0) hf hb trivial hwp
 exact callsIn_wide.1 this
theorem q9c (hS : Sound P C) {f : Nat} {fn : Func} {c : Code} (hf : P.funcs[f]? = some fn) (hname : (fn.name == "runtime.NumGoroutine") = false) (hb : fn.body = some c) {A : ArgK} (hA : A.Ok P) {fresh : Bool} {own deep : Option Nat} {pre : A.X -> Prop} {g : A.X -> AV} (iv : A.X -> Nat -> Option Inv)
  (hd:∀x,(qm7 (iv x) c 0).all (λd=>Nat.blt d fn.ntmps)=true) (hn:A.n<=fn.ntmps) (h:∀x,pre x->xVC C (iv x) A fresh own deep c fn.results.toList x (g x)) (hyl:C.yl=none:=by rfl):Meets P f (q8o A fresh own deep pre g):=
 (xk0 (hS.at _) Cells.nil hf hname hb hA iv hd hn h hyl).all
theorem ql4 (ins:List Ty):(q0m ins).Ok P:=⟨λh hc=>q69 h hc⟩
theorem q0o (hS : Sound P C) {f : Nat} {fn : Func} {c : Code} (hf : P.funcs[f]? = some fn) (hname : (fn.name == "runtime.NumGoroutine") = false) (hb : fn.body = some c) {fresh : Bool} {own : Option Nat} {ins : List Ty} {pre : qa3 ins -> Prop} {g : qa3 ins -> AV} (iv : qa3 ins -> Nat -> Option Inv)
  (hd:∀x,(qm7 (iv x) c 0).all (λd=>Nat.blt d fn.ntmps)=true) (hn:ins.length<=fn.ntmps) (h:∀x,pre x->yj9 C (iv x) fresh own ins c fn.results.toList x (g x)) (hyl:C.yl=none:=by rfl):Meets P f (q68 fresh own ins pre g):=
 q9c (A:=q0m ins) hS hf hname hb (ql4 ins) iv hd hn h hyl
theorem meets (hS : Sound P C) {f : Nat} {fn : Func} {c : Code} (hf : P.funcs[f]? = some fn) (hname : (fn.name == "runtime.NumGoroutine") = false) (hb : fn.body = some c) {fresh : Bool} {own : Option Nat} {ins outs : List Ty} {pre : qa3 ins -> Prop} {g : qa3 ins -> qa3 outs} (iv : qa3 ins -> Nat -> Option Inv)
  (hd:∀x,(qm7 (iv x) c 0).all (λd=>Nat.blt d fn.ntmps)=true) (hn:ins.length<=fn.ntmps) (h:∀x,pre x->x7k C (iv x) fresh own ins outs c fn.results.toList x (g x)) (hyl:C.yl=none:=by rfl):Meets P f (qe4 fresh own ins outs pre g):=
 q0o hS hf hname hb iv hd hn h hyl
end
end Eng
namespace Eng
open Go Go.RowKit
def SpecsOk (P:Program) (specs:List (Nat × qa8)):Prop:=∀f S,find specs f=some S->Meets P f S
theorem SpecsOk.nil (P:Program):SpecsOk P []:=λf S h=>by cases h
theorem SpecsOk.cons {P:Program} {f:Nat} {S:qa8} {l:List (Nat × qa8)} (h:Meets P f S) (k:SpecsOk P l):SpecsOk P ((f,S) :: l):=by
 intro g T hg
 simp only[find] at hg
 split at hg
 ·simp_all
 ·exact k g T hg
theorem SpecsOk.sound {P:Program} {C:Ctx} (h:SpecsOk P C.specs) (ht:∀t T,find C.tys t=some T->TIok P t T) (hm:P.follows .mixedOrders=true) (hi:∀F S,find C.its F=some S->qv9 P F S:=by(intro _ _ h; cases h)) (hy:∀Y,C.yl=some Y->∀p∈Y.fix,p.2.strip=p.2:=by(intro _ h; cases h)) (hmu:∀f M,find C.muts f=some M->qo6 P f M:=by(intro _ _ h; cases h)) (hbl:∀f B,find C.blds f=some B->q5b P f B:=by(intro _ _ h; cases h)) (hbx:∀f B,find C.bxs f=some B->q5c P f B:=by(intro _ _ h; cases h)):Sound P C:=⟨ht,h,hm,hi,hy,hmu,hbl,hbx⟩
theorem qa7 {x:Int} (h1:-9223372036854775808<=x:=by omega) (h2:x<=9223372036854775807:=by omega):fits .i64 x:=by
 grind [fits,IntKind.wrap,IntKind.signed,IntKind.bits]
theorem yk1 {A B:Prop} (e:A=B) (h:B):A:=e ▸ h
end Eng
set_option linter.unusedVariables false
set_option linter.unusedSimpArgs false
namespace Eng
open Go Go.RowKit
def q3h:(ts:List Ty)->AV->(qa3 ts->Prop)->Prop
 | [],c,k=>match c with
  | .nil=>k ()
  | _=>False
 | t :: r,c,k=>match c with
  | .cons a rest=>match a with
   | .imm cs off=>match off with
    | 0=>qg5 t cs λx z=>match z with
     | .nil=>q3h r rest λy=>k (x,y)
     | _=>False
    | _+1=>False
   | _=>False
  | _=>False
def q2j:(ts:List Ty)->qa3 ts->Nat->List (Nat × AV)
 | [],_,_=>[]
 | t :: r,x,i=>(i,.imm (qi3 t x.1 .nil) 0) :: q2j r x.2 (i+1)
def wl7 (caps outs:List Ty) (pre:qa3 caps->Prop) (gen:qa3 caps->List (qa3 outs)) (lend:Option Nat:=.none):qz6:=⟨outs,λc K=>q3h caps c λx=>need (pre x) λ_=>K (gen x),lend⟩
def qt9 (caps outs:List Ty) (slots:List Nat) (x:qa3 caps) (L:List (qa3 outs)) (l:Nat) (lend:Option Nat:=.none):qg6:=⟨outs,L,l,slots,(0,.lit (.func (.yield l) #[] #[])) :: q2j caps x 1,lend⟩
def Ctx.say (C:Ctx) (Y:qg6):Ctx:={ specs:=C.specs,tys:=C.tys,wr:=C.wr,nm:=C.nm,its:=C.its,yl:=some Y,muts:=C.muts,mats:=C.mats,em:=C.em,blds:=C.blds,bxs:=C.bxs }
def yf2 (Y:qg6) (e:XK) (s:St):Prop:=match e with
 | .exit _=>False
 | _=>match qa1 s.mem 0 with
  | .cnt k=>match k with
   | some k=>k=Y.L.length
   | .none=>True
  | _=>False
def yVC (C:Ctx) (iv:Nat->Option Inv) (c:Code) (Y:qg6):Prop:=vc (C.say Y) iv c 0 (yf2 Y) ⟨Y.fix,λ_=>.any,[.cnt (some 0)]⟩
section
variable {P : Program} {C : Ctx}
theorem q0p:∀(t:Ty) (x:t.den) (r:AV),r.strip=r->(qi3 t x r).strip=qi3 t x r
 | .int _,_,r,h=>by grind [qi3,AV.strip]
 | .bool,_,r,h=>by grind [qi3,AV.strip]
 | .str,_,r,h=>by grind [qi3,AV.strip]
 | .list _,_,r,h=>by grind [qi3,AV.strip]
 | .nlist _,_,r,h=>by grind [qi3,AV.strip]
 | .prod a b,x,r,h=>q0p a x.1 _ (q0p b x.2 r h)
theorem qy6:∀(ts:List Ty) (x:qa3 ts) (i:Nat),∀p∈q2j ts x i,p.2.strip=p.2
 | [],_,_,p,hp=>by cases hp
 | t :: r,x,i,p,hp=>by
  rcases zao.1 hp with rfl | hp
  ·show AV.imm (qi3 t x.1 .nil).strip 0=AV.imm (qi3 t x.1 .nil) 0
   rw[q0p t x.1 .nil rfl]
  ·exact qy6 r x.2 (i+1) p hp
theorem q2k {m:View}:∀{ts:List Ty} {c:AV} {k:qa3 ts->Prop} {cs:List Value},q3h ts c k->c.ok P m [] cs->∃x,k x/\cs.length=ts.length/\∀i,∀p∈q2j ts x i,i<=p.1/\∃v,cs[p.1-i]? = some v/\p.2.ok P m [] [v]
 | [],c,k,cs,h,hc=>by
  simp only[q3h] at h
  split at h
  ·obtain rfl:cs=[]:=hc
   exact⟨(),h,rfl,λi p hp=>by cases hp⟩
  grind
 | t :: r,c,k,cs,h,hc=>by
  simp only[q3h] at h
  split at h
  case h_2=>grind
  rename_i a rest
  obtain⟨u,us,rfl,h1,h2⟩:=hc
  split at h
  case h_2=>grind
  rename_i cells off
  split at h
  case h_2=>grind
  obtain⟨ad,vs,e1,e2,e3⟩:=h1
  obtain⟨x,z,u1,v1,e4,e5,e6,e7⟩:=qv4 h e2
  split at e7
  case h_2=>grind
  obtain rfl:v1=[]:=e6
  rw[zby] at e4
  subst e4
  obtain⟨y,k1,k2,k3⟩:=q2k e7 h2
  refine⟨(x,y),k1,by grind,λi p hp=>?_⟩
  rcases zao.1 hp with rfl | hp
  ·refine⟨zad _,u,by simp,ad,vs,e1,?_,e3⟩
   have:=qv3 (P:=P) (ρ:=[]) (r:=.nil) (v:=[]) e5 rfl
   grind
  grind
theorem says (hS : Sound P C) {F : Nat} {fn : Func} {c : Code} (hf : P.funcs[F]? = some fn) (hname : (fn.name == "runtime.NumGoroutine") = false) (hb : fn.body = some c) (hres : fn.results = #[]) {caps outs : List Ty} {pre : qa3 caps -> Prop} {gen : qa3 caps -> List (qa3 outs)} {lend : Option Nat} (slots : List Nat) (iv : qa3 caps -> Nat -> Option Inv)
  (hd:∀x,(qm7 (iv x) c 0).all (λd=>match Nat.blt d fn.ntmps with
   | true=>Nat.blt caps.length d
   | false=>false)=true) (hn:caps.length+1<=fn.ntmps) (h:∀x l,pre x->yVC C (iv x) c (qt9 caps outs slots x (gen x) l lend)):qv9 P F (wl7 caps outs pre gen lend):=by
 refine⟨⟨fn,c,hf,hname,hb⟩,λm cp cs K hcm hok hrun=>?_⟩
 have hcm:Cells m:=hcm
 obtain⟨x,⟨hp,hK⟩,hclen,hfix⟩:=q2k hrun hok
 refine⟨gen x,hK,?_⟩
 intro l J Jx W0 D0 hJs hJxs hJb hJxb hY hm h0
 have hvc:=h x l hp
 obtain⟨Y,hYe⟩:∃Y,Y=qt9 caps outs slots x (gen x) l lend:=⟨_,rfl⟩
 rw[<- hYe] at hvc
 have hSY:Sound P (C.say Y):=⟨hS.tys,hS.specs,hS.mixed,hS.its,λY' e p hp=>by
  injection e with e
  subst e
  rw[hYe] at hp
  rcases zao.1 hp with rfl | hp
  ·rfl
  ·exact qy6 _ _ _ p hp,hS.muts,hS.blds,hS.bxs⟩
 let args:List Value:=.func (.yield l) #[] #[] :: cs
 let NF:Frm:=⟨fn.ntmps,args.zipIdx.map λp=>(p.2,p.1)⟩
 let T:Base->Prop:=λZ=>∃k D,Z.ρ=[.int .i64 (code k)]/\Z.n=W0.heap.size/\(∀b,D b->Z.F b)/\match k with
  | some k=>J k D Z.W
  | none=>Jx D Z.W
 let R:Ending->World->Prop:=λe W'=>(∃v,e=.returned v)/\((∃D,J (gen x).length D W')\/∃D,Jx D W')
 have hsame:∀{Z:Base} {D:Nat->Prop} {W:World},(∀b,D b->Z.F b)->Z.ok W->Same D Z.W W:=λhD hZ=>⟨hZ.os,hZ.tape,hZ.output,hZ.grows,λb hb=>(hZ.kept b (hD b hb)).2⟩
 have hYO:YOk P T m NF Y []:=by
  refine⟨λp hp a ha=>?_,λZ ⟨k,D,h1,_⟩=>⟨k,h1⟩,?_,?_⟩
  ·have hget:∀i v,args[i]? = some v->a.tmps.getD i undef=v:=λi v hv=>ha.2 (i,v) (za4.2 ⟨(v,i),zba.2 hv,rfl⟩)
   rw[hYe] at hp
   rcases zao.1 hp with rfl | hp
   ·rw[hget 0 _ rfl]; rfl
   ·obtain⟨j1,v,j2,j3⟩:=hfix 1 p hp
    rw[hget p.1 v (by rw[show p.1=(p.1-1)+1 by omega]; simpa[args] using j2)]
    exact j3
  ·rintro Z W' F' h ⟨k,D,h1,h2,h3,h4⟩ hok hF
   refine⟨k,D,h1,h2,λb hb=>hF b (h3 b hb),?_⟩
   cases k with
   | some k=>exact hJs _ _ _ _ h4 (hsame h3 hok)
   | none=>exact hJxs _ _ _ h4 (hsame h3 hok)
  ·rintro Z k W mx d vs B ⟨k',D,hk',hZn,hDF,hJ⟩ hk hZ hmx hcx hmd hd' hargs hlent hB
   obtain rfl:k'=some k:=by
    rw[hk] at hk'
    injection hk' with e
    injection e with _ e
    exact(code_inj e).symm
   have hJ:J k D Z.W:=hJ
   have hJW:=hJs _ _ _ _ hJ (hsame hDF hZ)
   subst hYe
   obtain⟨fn1,t1,as1,bd1,y1,y2⟩:=(hY k D W d mx vs B hJW hd' hmx (λb o hb=>⟨hcx b o hb,(hmd b o hb).imp id λ⟨q1,q2⟩=>⟨by rw[<- hZn]; exact q1,λq=>q2 (hDF b q)⟩⟩) hargs hlent λb hb=>⟨by rw[<- hZn]; exact(hB b hb).1,(hB b hb).2.1,λq=>(hB b hb).2.2.1 (hDF b q),(hB b hb).2.2.2⟩)
   refine⟨fn1,t1,as1,bd1,y1,zdf y2 ?_⟩
   rintro e W' ⟨hkp,hmW,hlw,hcase⟩
   refine⟨⟨hkp.os,hkp.tape,hkp.output⟩,hmW,hkp.size,hlw,λb hb hF _ hnB=>hkp.block b ⟨hb,λq=>q.elim (λq=>hF (hDF b q)) hnB⟩,?_⟩
   rcases hcase with⟨rfl,D',hD',hJ'⟩ | ⟨rfl,D',hD',hJ'⟩
   ·refine⟨true,rfl,λO hn' hO=>⟨some (k+1),D',rfl,hZn,λb hb=>⟨hJb _ _ _ hJ' b hb,λho=>?_⟩,hJ'⟩⟩
    obtain⟨o1,o2,o3,_⟩:=hO b ho
    rcases hD' b hb with q | q | q
    ·exact o2 (hDF b q)
    ·omega
    ·exact q o3
   ·refine⟨false,rfl,λO hn' hO=>⟨none,D',rfl,hZn,λb hb=>⟨hJxb _ _ hJ' b hb,λho=>?_⟩,hJ'⟩⟩
    obtain⟨o1,o2,o3,o4⟩:=hO b ho
    rcases hD' b hb with q | q | q | q
    ·exact o2 (hDF b q)
    ·omega
    ·exact q o3
    ·exact o4 rfl q
 have hCls:Cls P (C.say Y) T m NF none 0:=⟨λZ Z' ⟨k,D,h1,_⟩ ⟨k',D',h1',_⟩ g v hv hp=>by
  rw[h1] at hv
  cases g with
  | zero=>exact⟨_,by rw[h1']; rfl,rfl⟩
  | succ g=>simp at hv,λY' e=>by injection e with e; subst e; exact⟨[],hYO⟩⟩
 have hlen:args.toArray.size=caps.length+1:=by simp[args,hclen]
 have hwp:c.wpIn (fz none) 0 P (bodyPostM (fz none) 0 P fn R) { tmps:=args.toArray++Array.replicate (fn.ntmps-args.toArray.size) undef,defers:=[] } W0:=by
  have hN:NF.has { tmps:=args.toArray++Array.replicate (fn.ntmps-args.toArray.size) undef,defers:=[] }:=by
   refine⟨by simp only[Array.size_append,Array.size_replicate]; show _=fn.ntmps; omega,λp hp=>?_⟩
   obtain⟨⟨v,i⟩,hq,rfl⟩:=za4.1 hp
   have hv:=zba.1 hq
   show(args.toArray++_).getD i undef=v
   have hi:i<args.length:=(zaf.1 hv).1
   rw[za8,zb1 (by simpa using hi)]
   simp[hv]
  let Z0:Base:=⟨W0.heap.size,W0,λb=>b<W0.heap.size,zad _,[.int .i64 (code (some 0))]⟩
  have hT0:T Z0:=⟨some 0,D0,rfl,rfl,λb hb=>hJb _ _ _ h0 b hb,h0⟩
  refine w7z (N:=NF) c T m (hSY.at _) none 0 hCls hcm.eq (.inr rfl) 0 _ ⟨Y.fix,λ_=>.any,[.cnt (some 0)]⟩ _ W0 _ (λd hdd=>?_) ⟨Z0,hT0,hN,m,[.int .i64 (code (some 0))],?_⟩ hvc ?_
  ·have:=zaq.1 (hd x) d hdd
   split at this
   ·rename_i hb1
    refine⟨?_,λp hp e=>?_⟩
    ·simp only[Nat.blt,Nat.ble_eq] at hb1; exact hb1
    ·simp only[Nat.blt,Nat.ble_eq] at this
     obtain⟨⟨v,i⟩,hq,rfl⟩:=za4.1 hp
     have hv:=zba.1 hq
     have hi:i<args.length:=(zaf.1 hv).1
     have e:i=d:=e
     simp[args,hclen] at hi
     omega
   ·cases this
  ·refine⟨λi=>?_,rfl,by simp[Value.oneCell'],trivial,λg=>?_,λg g' v v' b hne l1 l2 u1 u2 b1 b2=>?_,hm,View.le_refl m,λb o hb=>.inl hb,⟨rfl,rfl,rfl,zad _,λb hb=>⟨hb,rfl⟩⟩,λg v b l1 u1 b1=>?_,λg v hv _=>hv⟩
   ·show(look Y.fix i .any).ok P m _ _
    rcases qr9 (i:=i) (d:=.any) (l:=Y.fix) with⟨e,_⟩ | e
    ·rw[e]; exact⟨_,rfl⟩
    ·exact AV.ok_le (View.le_refl m) qk5 (hYO.fix _ e _ hN)
   ·cases g with
    | zero=>rfl
    | succ g=>cases g <;> trivial
   ·cases g with
    | zero=>simp only[List.getElem?_cons_zero,Option.some.injEq] at u1; subst u1; cases b1
    | succ g=>simp at u1
   ·cases g with
    | zero=>simp only[List.getElem?_cons_zero,Option.some.injEq] at u1; subst u1; cases b1
    | succ g=>simp at u1
  ·rintro e s' a' w' hend _ ⟨Z,⟨k,D,hk,hZn,hDF,hJ⟩,_,m1,ρ1,hr1⟩
   have hr1:=hr1.cells
   rw[hcm.eq] at hr1
   have hend':match qa1 s'.mem 0 with
     | .cnt k=>match k with
      | some k=>k=Y.L.length
      | .none=>True
     | _=>False:=by cases e <;> first | exact hend | exact hend.elim
   have hout:∀W,Z.ok W->R (.returned (pack [])) W:=by
    intro W hW
    refine⟨⟨_,rfl⟩,?_⟩
    have ho:=hr1.objs 0
    revert hend' ho
    cases qa1 s'.mem 0 <;> intro hend' ho <;> first | exact hend'.elim | skip
    rename_i ko
    have hp:=hr1.pins 0 (.int .i64 (code k)) (by rw[hk]; rfl) rfl
    have ho:ρ1[0]? = some (.int .i64 (code ko)):=ho
    rw[hp] at ho
    injection ho with ho
    injection ho with _ ho
    obtain rfl:=code_inj ho
    cases k with
    | none=>exact .inr ⟨D,hJxs _ _ _ hJ (hsame hDF hW)⟩
    | some k=>
     have hkl:k=Y.L.length:=hend'
     subst hYe
     exact .inl ⟨D,by have:=hJs _ _ _ _ hJ (hsame hDF hW); rw[hkl] at this; exact this⟩
   have post:LeavesInM (fz none) 0 P fn a'.tmps R a'.defers .returning w':=by
    refine qn4 (Z:=Z) (λW=>∃m' ρ',Rel P Z m s' m' ρ' ⟨a'.tmps,[]⟩ W/\Cells m') (λW Dm ⟨m',ρ',hr,hc⟩ hD1 hD2 hD3=>?_) (λW ⟨m',ρ',hr,hc⟩=>?_) a'.defers w' hr1.defers ⟨m1.cells,ρ1,?_,Cells.of⟩
    ·refine⟨m',ρ',hr.shake hc (grownBy_putObj' W Dm _) (λr e=>?_) trivial,hc⟩
     obtain rfl:=zaa e
     exact⟨λo ho h=>(by rw[hD3] at h; obtain rfl:=zaa h; exact ho),hD2⟩
    ·exact⟨pack [],qt3 (vs:=[]) (by rw[hres]; rfl),hout W hr.below⟩
    ·exact hr1.shake Cells.of (row:=none) ⟨rfl,rfl,rfl,zad _,λ_ _ _=>rfl⟩ (λr e=>by cases e) trivial
   cases e <;> first | exact post | exact hend.elim
 have:=callsIn_of_wp_marks (F:=Fence.wide) (n:=0) hf hb trivial hwp
 have e:args.toArray=#[Value.func (.yield l) #[] #[]]++cs.toArray:=by simp[args]
 rw[<- e]
 exact this
end
end Eng
set_option linter.unusedVariables false
set_option linter.unusedSimpArgs false
namespace Eng
open Go Go.RowKit
section
variable {P : Program} {C : Ctx}
theorem ww1 {m:View} {ρ:List Value}:∀{t:Ty} {x:t.den} {r:AV} {vs:List Value},(qi3 t x r).ok P m ρ vs->∃u v,vs=u++v/\Rd m t x u/\r.ok P m ρ v:=by
 intro t
 induction t with
 | int k=>intro x r vs h; obtain⟨v,rest,rfl,h1,h2⟩:=h; exact⟨[v],rest,rfl,h1,h2⟩
 | bool=>intro x r vs h; obtain⟨v,rest,rfl,h1,h2⟩:=h; exact⟨[v],rest,rfl,h1,h2⟩
 | str=>intro x r vs h; obtain⟨v,rest,rfl,h1,h2⟩:=h; exact⟨[v],rest,rfl,h1,h2⟩
 | list t _=>intro x r vs h; obtain⟨v,rest,rfl,h1,h2⟩:=h; exact⟨[v],rest,rfl,h1,h2⟩
 | nlist t _=>intro x r vs h; obtain⟨v,rest,rfl,h1,h2⟩:=h; exact⟨[v],rest,rfl,h1,h2⟩
 | prod a b iha ihb=>
  intro x r vs h
  obtain⟨u,v,rfl,h1,h2⟩:=iha h
  obtain⟨u',v',rfl,h3,h4⟩:=ihb h2
  exact⟨u++u',v',by simp,⟨u,u',rfl,h1,h3⟩,h4⟩
theorem w73 {m:View} {ρ:List Value} {t:Ty} {x:t.den} {v:Value} (h:(q8k t x).ok P m ρ [v]):RdV m t x v:=by
 cases t with
 | int k=>exact(zac (show[v]=[_] from h)).1
 | bool=>exact(zac (show[v]=[_] from h)).1
 | str=>exact(zac (show[v]=[_] from h)).1
 | list t=>exact h
 | nlist t=>exact h
 | prod a b=>
  obtain⟨cs,e,h1⟩:=h
  obtain⟨u,w,rfl,h2,h3⟩:=ww1 (t:=.prod a b) h1
  obtain rfl:w=[]:=h3
  exact⟨u,by grind,h2⟩
def fnK (fs:List (Nat × qa8)) (ats:List Ty) (r:Ty) (v:AV) (p:qa3 ats->Prop) (f:qa3 ats->r.den):Prop:=match v with
 | .fn ats' r' p' f'=>ats'=ats/\r'=r/\HEq p' p/\HEq f' f
 | .clo F caps=>withSome (find fs F) λS=>match S.fresh,S.own with
  | true,.none=>∀x,p x->w54 (qg2 ats x) caps λargs=>S.run args λy=>AV.le .none y (q8k r (f x))
  | _,_=>False
 | _=>False
theorem w74 {fs:List (Nat × qa8)} (hfs:SpecsOk P fs) {ats:List Ty} {r:Ty} {v:AV} {p:qa3 ats->Prop} {f:qa3 ats->r.den} {m:View} {fv:Value} (h:fnK fs ats r v p f) (hv:v.ok P m [] [fv]):IsFn P m ats r p f fv:=by
 unfold fnK at h
 split at h
 ·obtain⟨rfl,rfl,h1,h2⟩:=h
  obtain rfl:=zdm h1
  obtain rfl:=zdm h2
  obtain⟨fv',e,k⟩:=hv
  grind
 ·rename_i F caps
  obtain⟨S,hS,h⟩:=withSome_iff.1 h
  split at h
  case h_2=>grind
  rename_i hfr hown
  obtain⟨cs,e,hcs⟩:=hv
  obtain⟨hcl,hM⟩:=hfs F S hS
  refine⟨F,cs.toArray,(zac e).1,hcl,λw m' x vs hmm hon hp hx=>?_⟩
  obtain⟨z,k1,k2⟩:=w6x (h x hp) (qz8 hx).1 (AV.ok_cle hmm (λ_ _ h _=>h) hcs)
  have:=hM w m' z _ _ hon k2 k1
  rw[hfr] at this
  have e2:(vs++cs).toArray=vs.toArray++cs.toArray:=by simp
  rw[e2] at this
  refine this.mono λe w' ⟨u,m2,e1,e2,e3,e4,e5⟩=>⟨u,e1,e2,?_⟩
  unfold w3n at e5
  rw[hown] at e5
  obtain⟨y,y1,y2⟩:=e5
  have h3:=w73 (q4c Born.none y1 y2)
  refine xu4 (λb o hb=>?_) h3
  unfold View.from
  rw[zap (e4 b o hb)]
  exact e3 b o hb
 grind
inductive PTy where
 | d (t:Ty)
 | cap (t:Ty)
 | fn (ats:List Ty) (r:Ty)
 | capfn (ats:List Ty) (r:Ty)
@[reducible] def PTy.den:PTy->Type
 | .d t=>t.den
 | .cap t=>t.den
 | .fn ats r=>(qa3 ats->Prop) × (qa3 ats->r.den)
 | .capfn ats r=>(qa3 ats->Prop) × (qa3 ats->r.den)
@[reducible] def q8p:List PTy->Type
 | []=>Unit
 | q :: r=>q.den × q8p r
def w4b (v:AV) (k:AV->Prop):Prop:=match v with
 | .imm cs off=>match off with
  | 0=>k cs
  | _+1=>False
 | _=>False
def oneCell (v:AV) (k:AV->Prop):Prop:=match v with
 | .cons a r=>match r with
  | .nil=>k a
  | _=>False
 | _=>False
def x1b (fs:List (Nat × qa8)):(q:PTy)->AV->(q.den->Prop)->Prop
 | .d t,v,k=>takeA t v k
 | .cap t,v,k=>w4b v λcs=>qg5 t cs λx z=>match z with
  | .nil=>k x
  | _=>False
 | .fn ats r,v,k=>∃p f,fnK fs ats r v p f/\k (p,f)
 | .capfn ats r,v,k=>w4b v λcs=>oneCell cs λa=>∃p f,fnK fs ats r a p f/\k (p,f)
def q9d (fs:List (Nat × qa8)):(qs:List PTy)->AV->(q8p qs->Prop)->Prop
 | [],c,k=>match c with
  | .nil=>k ()
  | _=>False
 | q :: r,c,k=>match c with
  | .cons v rest=>x1b fs q v λx=>q9d fs r rest λy=>k (x,y)
  | _=>False
def x4o:(q:PTy)->q.den->AV
 | .d t,x=>q8k t x
 | .cap t,x=>.imm (qi3 t x .nil) 0
 | .fn ats r,x=>.fn ats r x.1 x.2
 | .capfn ats r,x=>.imm (.cons (.fn ats r x.1 x.2) .nil) 0
def w1l:(qs:List PTy)->q8p qs->Nat->AV
 | [],_,_=>.any
 | q :: _,x,0=>x4o q x.1
 | _ :: r,x,i+1=>w1l r x.2 i
theorem wl8 (v:AV):Det (w4b v):=by
 unfold w4b
 split
 ·split
  ·exact qa6 _
  ·exact qa4
 ·exact qa4
theorem ww2 (v:AV):Det (oneCell v):=by
 unfold oneCell
 split
 ·split
  ·exact qa6 _
  ·exact qa4
 ·exact qa4
theorem w75 (fs:List (Nat × qa8)) (q:PTy) (v:AV):Det (x1b fs q v):=by
 cases q with
 | d t=>exact q6v t v
 | cap t=>
  refine λk H=>(qd3 (wl8 v) λcs=>qj4 (f:=λx z k=>match z with
   | .nil=>k x
   | _=>False) λx z=>?_) k H
  split
  ·exact qa6 x
  ·exact qa4
 | fn ats r=>exact λk ⟨p,f,h1,h2⟩=>⟨(p,f),h2,λk' hk=>⟨p,f,h1,hk⟩⟩
 | capfn ats r=>
  exact λk H=>(qd3 (wl8 v) λcs=>qd3 (ww2 cs) λa=>λk ⟨p,f,h1,h2⟩=>⟨(p,f),h2,λk' hk=>⟨p,f,h1,hk⟩⟩) k H
theorem q9e (fs:List (Nat × qa8)):∀(qs:List PTy) (c:AV),Det (q9d fs qs c)
 | [],c=>by cases c <;> first | exact qa4 | exact qa6 ()
 | q :: r,c=>by
  cases c <;> first
   | exact qa4
   | exact λk H=>(qd3 (w75 fs q _) λx=>qd3 (q9e fs r _) λy=>qa6 (x,y)) k H
def wl9 (fs:List (Nat × qa8)) (qs:List PTy):ArgK:=⟨q8p qs,q9d fs qs,w1l qs,qs.length,q9e fs qs⟩
theorem w1m {m:View} {v:AV} {k:AV->Prop} {u:Value} (h:w4b v k) (hv:v.ok P m [] [u]):∃(cs:AV) (ad:Addr) (us:List Value),k cs/\u=.pointer (some ad)/\cs.ok P m [] us/\∀j x,us[j]? = some x->m.cell (ad.add j)=some x:=by
 unfold w4b at h
 split at h
 ·rename_i cs off
  split at h
  ·obtain⟨ad,us,k1,k2,k3⟩:=hv
   refine⟨cs,ad,us,h,?_,k2,k3⟩
   rw[(zac k1).1]
   rfl
  grind
 grind
theorem xk1 {fs:List (Nat × qa8)} (hfs:SpecsOk P fs) {m:View} {q:PTy} {v:AV} {k:q.den->Prop} {u:Value} (h:x1b fs q v k) (hv:v.ok P m [] [u]):∃x,k x/\(x4o q x).ok P m [] [u]:=by
 have box:∀{ad:Addr} {us:List Value} {cs:AV},u=.pointer (some ad)->cs.ok P m [] us->(∀j x,us[j]? = some x->m.cell (ad.add j)=some x)->(AV.imm cs 0).ok P m [] [u]:=λ{ad us cs} e h1 h2=>by
  refine⟨ad,us,?_,h1,h2⟩
  rw[e]
  rfl
 cases q with
 | d t=>
  obtain⟨x,k1,k2⟩:=q52 h hv
  exact⟨x,k2,q93 k1⟩
 | cap t=>
  obtain⟨cs,ad,us,h1,e,h2,h3⟩:=w1m h hv
  obtain⟨x,z,us1,vs1,e1,k1,k2,k3⟩:=qv4 h1 h2
  cases z <;> first | grind | skip
  obtain rfl:vs1=[]:=k2
  have hfl:=qv3 (P:=P) (ρ:=[]) (r:=.nil) (v:=[]) k1 rfl
  rw[<- e1] at hfl
  exact⟨x,k3,box e hfl h3⟩
 | fn ats r=>
  obtain⟨p,f,h1,h2⟩:=h
  exact⟨(p,f),h2,u,rfl,w74 hfs h1 hv⟩
 | capfn ats r=>
  obtain⟨cs,ad,us,h1,e,h2,h3⟩:=w1m h hv
  unfold oneCell at h1
  split at h1
  ·rename_i a z
   split at h1
   ·obtain⟨p,f,h4,h5⟩:=h1
    obtain⟨y,rest,rfl,j1,j2⟩:=h2
    obtain rfl:rest=[]:=j2
    exact⟨(p,f),h5,box e (cs:=.cons (.fn ats r p f) .nil) ⟨y,[],rfl,⟨y,rfl,w74 hfs h4 j1⟩,rfl⟩ h3⟩
   grind
  grind
theorem wm0 {fs:List (Nat × qa8)} (hfs:SpecsOk P fs) {m:View}:∀{qs:List PTy} {c:AV} {k:q8p qs->Prop} {vs:List Value},q9d fs qs c k->c.ok P m [] vs->∃x,k x/\vs.length=qs.length/\∀i,(w1l qs x i).ok P m [] [vs.getD i undef]
 | [],c,k,vs,h,hc=>by
  simp only[q9d] at h
  split at h
  ·obtain rfl:vs=[]:=hc
   exact⟨(),h,rfl,λi=>⟨_,rfl⟩⟩
  grind
 | q :: r,c,k,vs,h,hc=>by
  simp only[q9d] at h
  split at h
  ·rename_i v rest
   obtain⟨u,us,rfl,h1,h2⟩:=hc
   obtain⟨x,k1,k2⟩:=xk1 hfs h h1
   obtain⟨y,k3,k4,k5⟩:=wm0 hfs k1 h2
   refine⟨(x,y),k3,by grind,λi=>?_⟩
   cases i with
   | zero=>exact k2
   | succ i=>grind [w1l]
  grind
theorem q3i {fs:List (Nat × qa8)} (hfs:SpecsOk P fs) (qs:List PTy):(wl9 fs qs).Ok P:=⟨λh hc=>wm0 hfs h hc⟩
def hspec (fs:List (Nat × qa8)) (fresh:Bool) (own:Option Nat) (ins:List PTy) (outs:List Ty) (pre:q8p ins->Prop) (f:q8p ins->qa3 outs):qa8:=q8o (wl9 fs ins) fresh own .none pre λx=>qm4 (qg2 outs (f x))
theorem qi4 {fs : List (Nat × qa8)} (hfs : SpecsOk P fs) (hS : Sound P C) {f : Nat} {fn : Func} {c : Code} (hf : P.funcs[f]? = some fn) (hname : (fn.name == "runtime.NumGoroutine") = false) (hb : fn.body = some c) {fresh : Bool} {own : Option Nat} {ins : List PTy} {outs : List Ty} {pre : q8p ins -> Prop} {g : q8p ins -> qa3 outs} (iv : q8p ins -> Nat -> Option Inv)
  (hd:∀x,(qm7 (iv x) c 0).all (λd=>Nat.blt d fn.ntmps)=true) (hn:ins.length<=fn.ntmps) (h:∀x,pre x->xVC C (iv x) (wl9 fs ins) fresh own .none c fn.results.toList x (qm4 (qg2 outs (g x)))) (hyl:C.yl=none:=by rfl):Meets P f (hspec fs fresh own ins outs pre g):=
 q9c (A:=wl9 fs ins) hS hf hname hb (q3i hfs ins) iv hd hn h hyl
theorem q0q (hS : Sound P C) {f : Nat} {fn : Func} {c : Code} (hf : P.funcs[f]? = some fn) (hname : (fn.name == "runtime.NumGoroutine") = false) (hb : fn.body = some c) {A : ArgK} (hA : A.Ok P) {deep self : Bool} {eh e : Nat} {t : Ty} {pre : List (List t.den) -> A.X -> Prop} {r : List (List t.den) -> A.X -> AV} {g : List (List t.den) -> A.X -> List (List t.den)}
  (iv:q2v->List (List t.den)->A.X->Nat->Option Inv) (hd:∀T rows x,(qm7 (iv T rows x) c 0).all (λd=>Nat.blt d fn.ntmps)=true) (hn:A.n+1<=fn.ntmps)
  (h:∀T rows x,pre rows x->(deep=false->rows.length=1)->mVC C (iv T rows x) A deep self eh e t T c fn.results.toList rows x (r rows x) (g rows x)) (hft:Ty.flat t=true) (hyl:C.yl=none:=by rfl):qo6 P f (q4e A deep self eh e t pre r g):=by
 refine⟨⟨fn,c,hf,hname,hb⟩,λw m hs rows args vs k hm hpool hargs hrun hone=>?_⟩
 obtain⟨x,⟨hp,hk⟩,hlen,hslots⟩:=hA.ok hrun hargs
 have hone:deep=false->@List.length (List t.den) rows=1:=hone
 have hvc:=h ⟨hs⟩ rows x hp hone
 have hpool:PoolOk m w 0 eh e t rows (ql6 deep) hs:=hpool
 have hlt:q14 deep<hs.length:=by
  have h1:=hpool.len
  cases deep with
  | true=>show 0<_; omega
  | false=>have:=hone rfl; show 1<_; omega
 obtain⟨u0,hu0⟩:∃u0,hs.getD (q14 deep) undef=u0:=⟨_,rfl⟩
 have hat:hs[q14 deep]? = some u0:=by
  grind
 have hkp:(q4e A deep self eh e t pre r g).keep m=λ_=>none:=by unfold MSpec.keep; show(match Ty.flat t with | true=>λ_=>none | false=>m)=_; rw[hft]
 rw[hkp]
 show Calls P f ((hs.getD (q14 deep) undef) :: vs).toArray w _
 rw[hu0]
 have hu0sl:w53 u0=true:=by
  obtain⟨_,_,_,_,ho⟩:=hpool.each (zag hat)
  exact q1y ho
 obtain⟨us,hus⟩:∃us,us=u0 :: vs:=⟨_,rfl⟩
 rw[<- hus]
 have hul:us.length=A.n+1:=by grind
 let R:Ending->World->Prop:=λe' w'=>∃v m' r' rows' hs',e'=.returned v/\Kept (Blk (qf7 hs)) w w'/\m'.on w'/\(∀b o,m' b=some o->w.heap.size<=b)/\q6p (some ⟨hs⟩) hs'/\PoolOk (λ_=>none) w' 0 eh e t rows' (ql6 deep) hs'/\k r' rows'/\(match self with
  | true=>v=u0
  | false=>r'.ok P m' [] [v])
 let Z:Base:=⟨0,w,λb=>b<w.heap.size/\¬Blk (qf7 hs) b,zae _,[]⟩
 have hZk:∀W,Z.ok W->Kept (Blk (qf7 hs)) w W:=λW hW=>⟨hW.os,hW.tape,hW.output,hW.grows,λb hb=>(hW.kept b hb).2⟩
 have hwp:c.wpIn (fz none) 0 P (bodyPostM (fz none) 0 P fn R) { tmps:=us.toArray++Array.replicate (fn.ntmps-us.toArray.size) undef,defers:=[] } w:=by
  have hN:(us.toArray++Array.replicate (fn.ntmps-us.toArray.size) undef).size=fn.ntmps:=by
   grind
  refine w7z (N:=⟨fn.ntmps,[]⟩) c (λZ'=>Z'=Z) m.cells (hS.at _) none 0 (Cls.one hyl _ _ _) (Cells.of).eq (.inr rfl) 0 _ ⟨[],xj8 A deep x,[.mat eh e t rows (ql6 deep) (some ⟨hs⟩)]⟩ _ w _ (λd hdd=>⟨?_,by simp⟩) ⟨_,rfl,⟨hN,by simp⟩,m.cells,[qf7 hs],Rel.cells (m0:=m) (m:=m) ?_⟩ hvc ?_
  ·have:=zaq.1 (hd ⟨hs⟩ rows x) d hdd
   simp_all
  ·refine⟨λi=>?_,rfl,?_,trivial,λg=>?_,(λg g' v v' b hne hl hl' _ _ _ _=>?_),hm,View.le_refl m,λb o hb=>Or.inl hb,⟨rfl,rfl,rfl,zad _,λb hb=>⟨hb.1,rfl⟩⟩,(λg v b hl hv hb=>?_),(λg p hp=>by grind)⟩
   ·show(xj8 A deep x i).ok P m [qf7 hs] _
    have:(us.toArray++Array.replicate (fn.ntmps-us.toArray.size) undef).getD i undef=us.getD i undef:=by
     rw[za8,zax]
     grind
    show(xj8 A deep x i).ok P m [qf7 hs] [(us.toArray++Array.replicate (fn.ntmps-us.toArray.size) undef).getD i undef]
    rw[this,hus]
    cases i with
    | zero=>
     refine⟨hs,u0,rfl,⟨?_,hu0sl⟩,rfl⟩
     cases deep <;> exact hat
    | succ i=>exact AV.ok_le (View.le_refl m) qk5 (hslots i)
   ·intro v hv
    obtain rfl:=zar.1 hv
    rfl
   ·cases g with
    | zero=>exact⟨hs,rfl,hpool,λT e=>by grind⟩
    | succ g=>trivial
   all_goals grind
  ·intro e1 s' a' w' hend _ hg
   obtain⟨_,rfl,_,m1,ρ1,hr1⟩:=hg
   have hend':=show xj7 C s' fn.results.toList _ from by
    cases e1 <;> first | exact hend | exact hend.elim
   have post:LeavesInM (fz none) 0 P fn a'.tmps R a'.defers .returning w':=by
    refine qn4 (Z:=Z) (λW=>∃m' ρ',Rel P Z m.cells s' m' ρ' ⟨a'.tmps,[]⟩ W/\∀b o,m' b=some o->∃c t f,o=.cells c t f) (λW D ⟨m',ρ',hr,hc⟩ hD1 hD2 hD3=>?_) (λW ⟨m',ρ',hr,hc⟩=>?_) a'.defers w' hr1.defers ⟨m1.cells,ρ1,?_,λb o hb=>View.cells_is hb⟩
    ·refine⟨m',ρ',hr.shake hc (grownBy_putObj' W D _) (λr e=>?_) trivial,hc⟩
     obtain rfl:=zaa e
     exact⟨λo ho h=>(by rw[hD3] at h; obtain rfl:=zaa h; exact ho),hD2⟩
    ·obtain⟨vs',l,h1,h2,h3,h4⟩:=q7a (hS.at (λ_=>none)) hr _ _ hend'
     have hpk:=wc2 h3 ⟨_,h4⟩
     have hres:=qt3 h1
     refine⟨pack vs',hres,?_⟩
     generalize qm4 l=rv at h2 hpk
     generalize pack vs'=v at hpk
     split at h2
     case h_2=>grind
     rename_i eh' e' t' rows' ix lt hmm
     split at h2
     case h_2=>grind
     rename_i T' c1 c2
     have c1:=zab c1
     have c2:=zab c2
     subst c1 c2
     obtain⟨ht,h3⟩:=qg0 h2
     clear h2
     injection ht with ht
     subst ht
     have h2':=h3 rows' HEq.rfl
     clear h3
     obtain⟨hrows,hT,hix,h2⟩:=h2'
     subst hT
     have hix:ix=ql6 deep:=by
      unfold x4n at hix
      cases deep <;> cases ix <;> first | rfl | grind | (exact za9 some (q6n hix))
     subst hix
     have ho:=hr.objs 0
     rw[hmm] at ho
     obtain⟨hs',q1,q2,q3⟩:=ho
     have q3':=q3 _ rfl
     have hp2:PoolOk (λ_=>none) W 0 eh' e' t' rows' (ql6 deep) hs':=q2.flat hft λ_ _ _ _=>rfl
     have hbl:∀b,Blk (qf7 hs') b↔Blk (qf7 hs) b:=λb=>by
      grind [qd7]
     cases self with
     | true=>
      simp only at h2
      split at h2
      case h_2=>grind
      rename_i g' j
      split at h2
      case h_2=>grind
      rename_i p hg0
      have hg0:=zab hg0
      subst hg0
      split at h2
      ·grind
      ·subst h2
       obtain⟨hsx,v',r1,⟨r2,r3⟩,r4⟩:=hpk
       rw[q1] at r1
       obtain rfl:=qf1 (zaa r1)
       obtain rfl:=(zac r4).1
       refine⟨v,λ_=>none,r rows x,rows',hs',rfl,hZk W hr.below,(λb o hb=>by grind),(λb o hb=>by grind),q3,hp2,by grind,?_⟩
       show v=u0
       have h1:=hone rfl
       have h3:=hpool.len
       rw[h1] at h3
       obtain⟨z,y,rfl⟩:∃z y,hs=[z,y]:=by
        match hs,h3 with
        | [z,y],_=>simp
       obtain rfl:=qy0 q3
       have e1:some v=some y:=r2.symm.trans rfl
       have e2:some y=some u0:=hat
       grind
     | false=>
      simp only at h2
      have big:rv.msk.testBit 0=false->∀g v b,rv.msk.testBit g=true->(qa1 s'.mem g).live=true->ρ'[g]? = some v->Blk v b->w.heap.size<=b:=by
       intro h0 g v b hg hl hv hb
       have hz:=hr.zone g v b hl hv hb
       have hne:g≠0:=λe=>by grind
       rcases zav b w.heap.size with hlt | hge
       ·exfalso
        refine hz ⟨hlt,λhbl'=>?_⟩
        exact hr.apart g 0 v _ b hne hl (by rw[hmm]; rfl) hv q1 hb ((hbl b).2 hbl')
       omega
      have fin:rv.msk.testBit 0=false->(w70 s'.mem rv λr'=>fAV r' λr'=>AV.le .none r' (r rows x))->∃v_1 m' r' rows' hs',Ending.returned v=.returned v_1/\Kept (Blk (qf7 hs)) w W/\m'.on W/\(∀b o,m' b=some o->w.heap.size<=b)/\q6p (some ⟨hs⟩) hs'/\PoolOk (λ_=>none) W 0 eh' e' t' rows' (ql6 deep) hs'/\k r' rows'/\r'.ok P m' [] [v_1]:=λh0 h2=>by
       obtain⟨M,M2,M3⟩:=w72 hr h2 hpk
       simp only[qv6] at M2
       exact⟨v,View.from W w.heap.size,r rows x,rows',hs',rfl,hZk W hr.below,View.from_on _ _,(λb o hb=>by grind [View.from]),q3,hp2,by grind,q4c Born.none M2 (M3 λg v b h1 hl hv hb=>big h0 g v b h1 hl hv hb)⟩
      grind
    ·have hr1:=hr1.cells
     rw[(Cells.of).eq] at hr1
     exact hr1.shake (λb o hb=>View.cells_is hb) (row:=none) ⟨rfl,rfl,rfl,zad _,λ_ _ _=>rfl⟩ (λr e=>by cases e) trivial
   cases e1 <;> first | exact post | exact hend.elim
 have:=callsIn_of_wp_marks (F:=Fence.wide) (n:=0) hf hb trivial hwp
 subst hu0
 exact callsIn_wide.1 this
end
end Eng
set_option linter.unusedVariables false
set_option linter.unusedSimpArgs false
namespace Eng
open Go Go.RowKit Go.Sort
abbrev wc3:Int->Value:=Value.int .i64
theorem rdL_ints {m:View}:∀{zs:List Int} {vs:List Value},RdL m (.int .i64) zs vs↔vs=zs.map wc3
 | [],vs=>zd5
 | z :: zs,vs=>by
  constructor
  ·rintro⟨u,v,rfl,h1,h2⟩
   have h1:u=[.int .i64 z]:=h1
   rw[h1,(rdL_ints (m:=m)).1 h2]; rfl
  ·rintro rfl
   exact⟨[.int .i64 z],zs.map wc3,rfl,rfl,(rdL_ints (m:=m)).2 rfl⟩
section
variable {P : Program}
end
end Eng
set_option linter.unusedVariables false
set_option linter.unusedSimpArgs false
namespace Eng
open Go Go.RowKit
def x7m (m:View) (ts:List Ty) (y:qa3 ts) (v:Value):Prop:=∃vs,v=pack vs/\qs9 m ts y vs
theorem q9f:∀{ts:List Ty} {y:qa3 ts},(qg2 ts y).lenIs ts.length=true
 | [],_=>rfl
 | _ :: r,(_,_)=>q9f (ts:=r)
section
variable {P : Program}
theorem w1n {f:Nat} {ins outs:List Ty} {pre:qa3 ins->Prop} {g:qa3 ins->qa3 outs} (hc:ql2 P f)
  (h:∀(w:World) (m:View) (x:qa3 ins) (vs:List Value),m.on w->pre x->qs9 m ins x vs->Calls P f vs.toArray w λe w'=>∃v,e=.returned v/\Below w.heap.size w w'/\x7m (View.from w' w.heap.size) outs (g x) v):Meets P f (qe4 true none ins outs pre g):=by
 refine⟨hc,λw m args vs k hm hargs hrun=>?_⟩
 obtain⟨x,⟨hp,hk⟩,hx⟩:=qj3 hrun hargs
 refine(h w m x vs hm hp hx).mono λe w' ⟨v,e1,e2,us,e3,e4⟩=>⟨v,View.from w' w.heap.size,e1,e2,View.from_on _ _,λb o hb=>?_,?_⟩
 ·grind [View.from]
 ·obtain⟨k1,k2⟩:=qz8 (P:=P) (m:=_) e4
  exact⟨_,hk,by rw[e3]; exact wc2 k1 ⟨_,q9f⟩⟩
theorem wm1 {m:View}:∀{ts:List Ty} {y:qa3 ts} {vs:List Value} {k:qa3 ts->Prop},qs9 m ts y vs->k y->qg1 ts (qg2 ts y) k
 | [],y,vs,k,h,hk=>hk
 | t :: r,(x,y),vs,k,⟨u,us,e,h1,h2⟩,hk=>by
  have hrest:qg1 r (qg2 r y) λy'=>k (x,y'):=wm1 h2 hk
  have tk:∀(t:Ty) (x:t.den) (z:AV) (K:t.den->AV->Prop),K x z->qg5 t (qi3 t x z) K:=by
   intro t
   induction t with
   | prod a b iha ihb=>grind [qi3,qg5]
   | int j=>grind [qg5,qi3]
   | bool=>grind [qg5,qi3]
   | str=>grind [qg5,qi3]
   | list t _=>intro x z K hk; exact(qm6 t t x (λl'=>K l' z)).mpr ⟨rfl,λl' e=>by grind⟩
   | nlist t _=>intro x z K hk; exact(qm6 t t x (λl'=>K l' z)).mpr ⟨rfl,λl' e=>by grind⟩
  have ht:takeA t (q8k t x) λx'=>qg1 r (qg2 r y) λy'=>k (x',y'):=by
   cases t with
   | prod a b=>exact tk (.prod a b) x .nil (λx' z=>match z with
     | .nil=>qg1 r (qg2 r y) λy'=>k (x',y')
     | _=>False) hrest
   | int j=>exact tk (.int j) x .nil (λx' _=>qg1 r (qg2 r y) λy'=>k (x',y')) hrest
   | bool=>exact tk .bool x .nil (λx' _=>qg1 r (qg2 r y) λy'=>k (x',y')) hrest
   | str=>exact tk .str x .nil (λx' _=>qg1 r (qg2 r y) λy'=>k (x',y')) hrest
   | list t=>exact tk (.list t) x .nil (λx' _=>qg1 r (qg2 r y) λy'=>k (x',y')) hrest
   | nlist t=>exact tk (.nlist t) x .nil (λx' _=>qg1 r (qg2 r y) λy'=>k (x',y')) hrest
  exact ht
theorem w1o {f:Nat} {fresh:Bool} {ins outs:List Ty} {pre:qa3 ins->Prop} {g:qa3 ins->qa3 outs} (h:Meets P f (qe4 fresh none ins outs pre g)) {w:World} {m:View} {x:qa3 ins} {vs:List Value} (hm:m.on w) (hp:pre x) (hx:qs9 m ins x vs) :
  Calls P f vs.toArray w λe w'=>∃v m',e=.returned v/\Below w.heap.size w w'/\m'.on w'/\(match fresh with
   | true=>∀b o,m' b=some o->w.heap.size<=b
   | false=>m.le m'/\∀b o,m' b=some o->m b=some o\/w.heap.size<=b)/\(qm4 (qg2 outs (g x))).ok P m' [] [v]:=by
 have:=h.2 w m (qg2 ins x) vs (λr=>r=qm4 (qg2 outs (g x))) hm (qz8 hx).1 (wm1 hx ⟨hp,rfl⟩)
 refine this.mono λe w' ⟨v,m',e1,e2,e3,e4,r,e5,e6⟩=>⟨v,m',e1,e2,e3,e4,?_⟩
 grind
theorem w76 {f:Nat} {ins:List Ty} {pre:qa3 ins->Prop} {x:qa3 ins} {w:World} {vs:List Value} (h:Meets P f (qe4 true none ins [.bool] pre (λ_=>(true,())))) (hp:pre x) (hx:qs9 (λb=>w.heap[b]?) ins x vs) :
  Calls P f vs.toArray w λe w'=>e=.returned (.bool true)/\Below w.heap.size w w':=
 (w1o h (View.full_on w) hp hx).mono λe w' ⟨v,m',e1,e2,_,_,e5⟩=>⟨by have e5:[v]=[.bool true]:=e5; grind,e2⟩
end
theorem xk2 {m:View} {w:World} (hm:m.on w) {l:List Int} {v:Value} (h:Rd m (.list (.int .i64)) l [v]):∃A c,v=.slice A l.length c/\Ls.SI w A l.length c l:=by
 obtain⟨A,c,e,h2,h3,h4⟩:=h
 refine⟨A,c,(zac e).1,rfl,h2,h3,λhn=>?_⟩
 obtain⟨ad,e2,h5⟩:=h4 hn
 refine⟨ad,e2,λk hk=>?_⟩
 obtain⟨cs,k1,k2⟩:=h5 k hk
 have k1:cs=[.int .i64 (qe5 (.int .i64) l k)]:=k1
 have:=View.cell_on hm (k2 0 (.int .i64 (qe5 (.int .i64) l k)) (by grind))
 simp only[Ty.size,Nat.mul_one,Nat.add_zero] at this
 exact this
theorem x1c {w:World} {B:Nat} {A:Option Addr} {n c:Nat} {l:List Int} (h:Ls.SI w A n c l) (hB:∀ad,A=some ad->B<=ad.block):Rd (View.from w B) (.list (.int .i64)) l [.slice A n c]:=by
 obtain⟨h1,h2,h3,h4⟩:=h
 refine⟨A,c,by rw[h1],ow,h3,λhl=>?_⟩
 obtain⟨ad,e,h5⟩:=h4 ow
 refine⟨ad,e,λi hi=>⟨[.int .i64 (qe5 (.int .i64) l i)],rfl,λj v hj=>?_⟩⟩
 cases j with
 | succ j=>grind
 | zero=>
  simp only[List.getElem?_cons_zero,Option.some.injEq] at hj
  subst hj
  have h6:=h5 i ow
  simp only[Ty.size,Nat.mul_one,Nat.add_zero]
  have h7:(View.from w B).cell (ad.add i)=View.cell (λb=>w.heap[b]?) (ad.add i):=by
   simp_all [View.cell,View.from,Ls.block_add,if_pos]
  rw[h7]
  exact h6
theorem xv7 {w:World} {A:Option Addr} {n c:Nat} {l:List Int} (h:Ls.SI w A n c l):Rd (λb=>w.heap[b]?) (.list (.int .i64)) l [.slice A n c]:=
 Rd.le (λb o hb=>by grind [View.from]) (x1c (B:=0) h λ_ _=>zae _)
theorem x4p {w:World} {A:Option Addr} {n c:Nat} {l:List (List Int)} (h:Ls.SM w A n c l):Rd (λb=>w.heap[b]?) (.list (.list (.int .i64))) l [.slice A n c]:=by
 obtain⟨h1,h2,h3,h4⟩:=h
 refine⟨A,c,by rw[h1],ow,h3,λhl=>?_⟩
 obtain⟨ad,e,h5⟩:=h4 ow
 refine⟨ad,e,λi hi=>?_⟩
 obtain⟨a,d,k1,k2⟩:=h5 i ow
 refine⟨[.slice a (Ls.nthL l i).length d],xv7 k2,λj v hj=>?_⟩
 cases j with
 | succ j=>grind
 | zero=>
  simp only[List.getElem?_cons_zero,Option.some.injEq] at hj
  subst hj
  simp only[Ty.size,Nat.mul_one,Nat.add_zero]
  exact k1
end Eng
