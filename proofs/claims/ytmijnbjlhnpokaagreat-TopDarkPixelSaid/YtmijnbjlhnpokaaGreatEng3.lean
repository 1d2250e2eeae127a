/- A function that hands over: its operations over abstract values. No condition. -/
import Derived.Test.YtmijnbjlhnpokaaGreatEng2
import Derived.Sort.Grow
set_option linter.unusedVariables false
set_option linter.unusedSimpArgs false
namespace Eng
open Go Go.RowKit
theorem w1s {P:Program} {m m':View} {ρ ρ':List Value} (h0:∀b,ρ[0]?≠some (.pointer b)) (hρ:∀(g:Nat) (v:Value),g≠0->ρ[g]? = some v->ρ'[g]? = some v) {av:AV}:∀{vs:List Value},av.ok P m ρ vs->av.hav.ok P m' ρ' vs:=by
 induction av with
 | any=>intro vs k; exact k
 | lit v=>intro vs k; exact k
 | tt=>intro vs k; exact k
 | ff=>intro vs k; exact k
 | dat t l=>intro vs k; obtain⟨A,c,rfl,_⟩:=k; exact⟨_,rfl⟩
 | ndat c t l=>intro vs k; obtain⟨⟨A,c,rfl,_⟩,_⟩:=k; exact⟨_,rfl⟩
 | own g=>
  intro vs k
  obtain⟨v,k1,k2⟩:=k
  cases g with
  | zero=>exact⟨v,k2⟩
  | succ g=>exact⟨v,⟨hρ _ _ (by omega) k1.1,k1.2⟩,k2⟩
 | box g off=>intro vs k; obtain⟨b,k1,k2⟩:=k; exact⟨b,hρ _ _ (λe=>by subst e; exact h0 _ k1) k1,k2⟩
 | dptr t l i off=>intro vs k; obtain⟨_,ad,cs,rfl,_⟩:=k; exact⟨_,rfl⟩
 | optr g t i off=>intro vs k; obtain⟨b,n,c,_,rfl⟩:=k; exact⟨_,rfl⟩
 | msl g j=>intro vs k; obtain⟨hs,v,_,_,rfl⟩:=k; exact⟨_,rfl⟩
 | mptr g j t i off=>intro vs k; obtain⟨hs,b,n,c,_,_,rfl⟩:=k; exact⟨_,rfl⟩
 | msub g x y=>intro vs k; obtain⟨hs,A,n,c,_,_,_,rfl⟩:=k; exact⟨_,rfl⟩
 | imm cs off ih=>intro vs k; obtain⟨ad,us,rfl,_⟩:=k; exact⟨_,rfl⟩
 | fn a r p f=>intro vs k; obtain⟨fv,rfl,_⟩:=k; exact⟨_,rfl⟩
 | clo f caps ih=>intro vs k; obtain⟨cs,rfl,_⟩:=k; exact⟨_,rfl⟩
 | agg l ih=>intro vs k; obtain⟨cs,k1,k2⟩:=k; exact⟨cs,k1,ih k2⟩
 | tup l ih=>intro vs k; obtain⟨cs,k1,k2⟩:=k; exact⟨cs,k1,ih k2⟩
 | nil=>intro vs k; exact k
 | cons a b iha ihb=>intro vs k; obtain⟨v,rest,k1,k2,k3⟩:=k; exact⟨v,rest,k1,iha k2,ihb k3⟩
theorem w1t (i:Nat) (d:AV):∀(l r:List (Nat × AV)),look (w31 l r) i d=look l i (look r i d)
 | [],r=>rfl
 | (j,v) :: l,r=>by
  simp only[w31,look]
  split
  ·rfl
  ·exact w1t i d l r
theorem w1u (i:Nat) (d:AV):∀(l:List (Nat × AV)),look (w30 l) i d.hav=(look l i d).hav
 | []=>rfl
 | (j,v) :: l=>by
  simp only[w30,look]
  split
  ·rfl
  ·exact w1u i d l
theorem qp3:∀m:List AObj,(qm6 m).length=m.length
 | []=>rfl
 | o :: r=>by simp[qm6,qp3 r]
theorem qw7:∀(m:List AObj) (g:Nat),qa3 (qm6 m) g=(qa3 m g).hav
 | [],_=>rfl
 | o :: r,0=>rfl
 | o :: r,g+1=>qw7 r g
theorem wd8 {o:AObj} (h:o.hav.live=true):o.live=true:=by
 cases o <;> first | rfl | cases h
structure YOk (P:Program) (T:Base->Prop) (m0:View) (N:Frm) (Y:qh2) (RR:List Value):Prop where
 fix:∀p∈Y.fix,∀a,N.has a->p.2.ok P m0 [] [a.tmps.getD p.1 undef]
 cls:∀Z,T Z->∃k,Z.ρ=.int .i64 (code k) :: RR
 mov:∀(Z:Base) (W':World) (F':Nat->Prop) (h:Z.n<=W'.heap.size),T Z->Z.ok W'->(∀b,Z.F b->F' b)->T ⟨Z.n,W',F',h,Z.ρ⟩
 yld:∀Z k W mx d vs B,T Z->Z.ρ=.int .i64 (code (some k)) :: RR->Z.ok W->mx.on W->Cells mx->(∀b o,mx b=some o->m0 b=some o\/(Z.n<=b/\¬Z.F b))->Y.L[k]? = some d->qr2 Y.lend Y.ins d mx vs->qm2 Y.lend Y.ins d W vs B->(∀b,B b->Z.n<=b/\b<W.heap.size/\¬Z.F b/\mx b=none) ->
  YieldAt Fence.wide 0 P Y.l vs.toArray W λe W'=>(W'.os=W.os/\W'.tape=W.tape/\W'.output=W.output)/\m0.on W'/\W.heap.size<=W'.heap.size/\qm2 Y.lend Y.ins d W' vs B/\(∀b,b<W.heap.size->¬Z.F b->mx b=none->¬B b->W'.heap[b]? = W.heap[b]?) /\
   ∃c:Bool,e=.returned (.bool c)/\∀(O:Nat->Prop) (h:Z.n<=W'.heap.size),(∀b,O b->b<W.heap.size/\¬Z.F b/\mx b=none)->T ⟨Z.n,W',λb=>b<W'.heap.size/\¬O b,h,.int .i64 (code (if c then some (k+1) else none)) :: RR⟩
section
variable {P : Program} {T : Base -> Prop} {Z : Base} {m0 : View} {N : Frm} {C : Ctx} {Y : qh2} {RR : List Value} {rr : Option Nat} {nn : Nat}
theorem wn3 {l:Nat} {o:Oper} {c:Call} {x:Operand} {a:Act} {w:World} (ho:o.op=.call c) (hc:c.callee=.value x) (hx:a.eval x=.func (.yield l) #[] #[]):(execOp a.eval o).run P w=(Instr.yield l (c.args.map a.eval)).run P w:=by
 unfold execOp
 rw[ho]
 simp only[resolve,hc,hx,Deferred.ofValue]
 simp[invoke,go_sem]
theorem wx6 {s:St} {m:View} {ρ:List Value} {a:Act} {w:World} {args:AV} {vs:List Value} {o:Option Nat} {ts:List Ty} {k:qa4 ts->Prop} (hr:Rel P Z m0 s m ρ a w) (h:wb3 o ts s.mem args k) (hargs:args.ok P m ρ vs) :
  ∃d B,k d/\qr2 o ts d m vs/\qm2 o ts d w vs B/\((∀b,¬B b)\/∃g e t v l,qa3 s.mem g=.vec e t l/\ρ[g]? = some v/\Ty.flat t=true/\(∀b,B b↔v.ownBlock=some b)/\∀W',qm2 o ts d W' vs B->∃xs,RdL (λ_=>none) t l xs/\W'.ownsRow 0 e t.size v l.length xs):=by
 unfold wb3 at h
 cases o with
 | none=>
  simp only at h
  split at h
  case h_2=>exact h.elim
  rename_i hp
  obtain⟨d,h1,h2⟩:=qk0 h (qy9 hp hargs)
  exact⟨d,λ_=>False,h1,h2,λ_ h=>h,.inl λ_ h=>h⟩
 | some e=>
  simp only at h
  unfold w0v at h
  split at h
  case h_2=>exact h.elim
  rename_i t k
  split at h
  case h_2=>exact h.elim
  rename_i av z
  split at h
  case h_2=>exact h.elim
  rename_i g
  split at h
  case h_2=>exact h.elim
  rename_i e' t' l hm
  split at h
  case h_2=>exact h.elim
  rename_i he hf
  obtain rfl:=Nat.eq_of_beq_eq_true he
  obtain⟨rfl,h⟩:=qg6 h
  have h:=h l HEq.rfl
  obtain⟨u,us,rfl,⟨v,⟨h1,h2⟩,h3⟩,h4⟩:=hargs
  obtain rfl:=(List.cons.inj h3).1
  obtain rfl:us=[]:=h4
  have ho:=hr.objs g
  rw[hm] at ho
  obtain⟨v',xs,q1,q2,q3,q4⟩:=ho
  rw[h1] at q1
  obtain rfl:=Option.some.inj q1
  have q3':w.ownsRow 0 e' t'.size u l.length xs:=by
   refine⟨q3.1,?_⟩
   rcases q3.2 with q | ⟨g',cap,cur,x1,x2,x3⟩
   ·exact .inl q
   ·exact .inr ⟨g',cap,cur,x1,Nat.zero_le _,x3⟩
  refine⟨(l,()),λb=>u.ownBlock=some b,h,rfl,⟨u,xs,rfl,hf,ql0 hf q2,q3',λ_=>Iff.rfl⟩,.inr ⟨g,e',t',u,l,hm,h1,hf,λ_=>Iff.rfl,?_⟩⟩
  rintro W' ⟨v,ys,hv,_,x1,x2,_⟩
  obtain rfl:=(List.cons.inj hv).1
  exact⟨ys,x1,x2⟩
theorem w1w {l:Nat} {f:FuncId} {tmps:Array Value} {assign body:Code} {w:World} {Q:Ending->World->Prop} (h:RoundIn Fence.wide 0 P l f tmps assign body w Q) (r:Option Nat) (n:Nat):RoundIn (fz r) n P l f tmps assign body w Q:=
 ⟨h.1,λc cs _=>h.2 c cs (room_wide _)⟩
theorem ok0 {P:Program} {m:View} {ρ ρ':List Value} (hρ:∀(g:Nat) (v:Value),(∀i n,v≠.int i n)->ρ[g]? = some v->ρ'[g]? = some v):∀{av:AV} {vs:List Value},av.ok P m ρ vs->av.ok P m ρ' vs:=by
 intro av
 induction av with
 | any=>intro vs k; exact k
 | lit v=>intro vs k; exact k
 | tt=>intro vs k; exact k
 | ff=>intro vs k; exact k
 | dat t l=>intro vs k; exact k
 | ndat c t l=>intro vs k; exact k
 | own g=>intro vs k; obtain⟨v,k1,k2⟩:=k; exact⟨v,⟨hρ _ _ (λi n e=>by subst e; cases k1.2) k1.1,k1.2⟩,k2⟩
 | box g off=>intro vs k; obtain⟨v,k1,k2⟩:=k; exact⟨v,hρ _ _ (λi n e=>by cases e) k1,k2⟩
 | dptr t l i off=>intro vs k; exact k
 | optr g t i off=>intro vs k; obtain⟨b,n,c,k1,k2⟩:=k; exact⟨b,n,c,hρ _ _ (λi n e=>by cases e) k1,k2⟩
 | imm cs off ih=>intro vs k; obtain⟨ad,us,k1,k2,k3⟩:=k; exact⟨ad,us,k1,ih k2,k3⟩
 | fn a r p f=>intro vs k; exact k
 | msl g j=>intro vs k; obtain⟨hs,v,k1,k2⟩:=k; exact⟨hs,v,hρ _ _ (λi n e=>by cases e) k1,k2⟩
 | mptr g j t i off=>intro vs k; obtain⟨hs,b,n,c,k1,k2⟩:=k; exact⟨hs,b,n,c,hρ _ _ (λi n e=>by cases e) k1,k2⟩
 | msub g x y=>intro vs k; obtain⟨hs,A,n,c,k1,k2⟩:=k; exact⟨hs,A,n,c,hρ _ _ (λi n e=>by cases e) k1,k2⟩
 | clo f caps ih=>intro vs k; obtain⟨cs,k1,k2⟩:=k; exact⟨cs,k1,ih k2⟩
 | agg l ih=>intro vs k; obtain⟨cs,k1,k2⟩:=k; exact⟨cs,k1,ih k2⟩
 | tup l ih=>intro vs k; obtain⟨cs,k1,k2⟩:=k; exact⟨cs,k1,ih k2⟩
 | nil=>intro vs k; exact k
 | cons a b iha ihb=>intro vs k; obtain⟨v,rest,k1,k2,k3⟩:=k; exact⟨v,rest,k1,iha k2,ihb k3⟩
theorem x3e {P:Program} {m:View} {ρ ρ':List Value} {w w':World} {B g:Nat} {o:AObj} (h:ObjOk P m ρ w B g o) (hρ:∀(g:Nat) (v:Value),(∀i n,v≠.int i n)->ρ[g]? = some v->ρ'[g]? = some v) (hg:∀v,ρ[g]? = some v->ρ'[g]? = some v)
  (hw:∀v b,ρ[g]? = some v->Blk v b->w'.heap[b]? = w.heap[b]?/\m b=none):ObjOk P m ρ' w' B g o:=by
 cases o with
 | dead=>trivial
 | box ty cs=>
  obtain⟨b,vs,h1,h2,h3,h4,h5,h6⟩:=h
  obtain⟨k1,k2⟩:=hw _ b h1 rfl
  exact⟨b,vs,hg _ h1,h2,k1.trans h3,ok0 hρ h4,h5,k2⟩
 | vec e t l=>
  obtain⟨v,vs,h1,h2,h3,h4⟩:=h
  refine⟨v,vs,hg _ h1,h2,?_,λb hb=>?_⟩
  ·refine⟨h3.1,?_⟩
   rcases h3.2 with h0 | ⟨g',cap,cur,rfl,hB,hg',r⟩
   ·exact .inl h0
   ·exact .inr ⟨g',cap,cur,rfl,hB,(hw _ g' h1 rfl).1.trans hg',r⟩
  ·exact(hw _ b h1 ((qo8 h3).2 hb)).2
 | sit s p=>
  obtain⟨b,h1,h2,h3,h4⟩:=h
  obtain⟨k1,k2⟩:=hw _ b h1 rfl
  exact⟨b,hg _ h1,h2,k1.trans h3,k2⟩
 | mp t l=>
  obtain⟨b,es,cl,h1,h2,h3,h4,h5⟩:=h
  obtain⟨k1,k2⟩:=hw _ b h1 rfl
  exact⟨b,es,cl,hg _ h1,h2,k1.trans h3,h4,k2⟩
 | cnt k=>exact hg _ h
 | bld T e s=>
  obtain⟨b,v,h1,h2⟩:=h
  exact⟨b,v,hg _ h1,h2.grow λx hx=>hw _ x h1 hx⟩
 | mat eh e t rows ix lt=>
  obtain⟨hs,h1,h2,h3⟩:=h
  exact⟨hs,hg _ h1,h2.grow (View.cle_refl m) λb hb=>hw _ b h1 (qe0.2 hb),h3⟩
theorem xz2 {P:Program} {m m':View} {ρ ρ':List Value}:∀{av:AV} {vs:List Value},x2r av=true->av.ok P m ρ vs->av.ok P m' ρ' vs:=by
 intro av
 induction av with
 | nil=>intro vs _ k; exact k
 | cons a b _ ihb=>
  intro vs h k
  obtain⟨v,rest,k1,k2,k3⟩:=k
  simp only[x2r] at h
  split at h
  ·exact⟨v,rest,k1,k2,ihb h k3⟩
  ·cases h
 | _=>intro vs h; cases h
theorem xz3 {P:Program} {m m':View} {ρ ρ':List Value} {g:Nat} {t:Ty} {l:List t.den} (hd:∀v,ρ[g]? = some v->Rd m' (.list t) l [v]):∀{av av':AV} {vs:List Value},x2e g t l av=some av'->av.ok P m ρ vs->av'.ok P m' ρ' vs:=by
 intro av
 induction av with
 | nil=>intro av' vs h k; simp only[x2e,Option.some.injEq] at h; subst h; exact k
 | cons a b _ ihb=>
  intro av' vs h k
  obtain⟨v,rest,k1,k2,k3⟩:=k
  simp only[x2e] at h
  split at h
  ·cases h
  rename_i r' hr'
  have ih:=ihb hr' k3
  split at h
  ·injection h with h; subst h; exact⟨v,rest,k1,k2,ih⟩
  ·split at h
   ·rename_i e
    have e:=Nat.eq_of_beq_eq_true e
    subst e
    injection h with h; subst h
    obtain⟨u,k4,k5⟩:=k2
    obtain rfl:=(List.cons.inj k5).1
    exact⟨v,rest,k1,hd v k4.1,ih⟩
   ·cases h
  ·cases h
 | _=>intro av' vs h; simp[x2e] at h
theorem w71 (hY:YOk P T m0 N Y RR) (hT:T Z) (hc0:Cells m0) {s:St} {m:View} {ρ:List Value} {a:Act} {w:World} {o:Oper} {c:Call} {x:Operand} {next:Act->World->Prop} {Q:Exit->Act->World->Prop} {k:Bool->St->Prop} (hN:N.has a) (hr2:Rel P Z m0 s m ρ a w)
  (ho:o.op=.call c) (hcc:c.callee=.value x) (hx:a.eval x=.func (.yield Y.l) #[] #[]) (hln:Y.lend=.none) {kn:Nat} (hmem:qa3 s.mem 0=.cnt (some kn)) {mx:View} {mem1:List AObj} {args':AV} (hl1:mem1.length=s.mem.length) (hm1:∀g,qa3 mem1 g=qa3 s.mem g\/(g≠0/\qa3 mem1 g=.dead))
  (hx0:mx.on w) (hxc:Cells mx) (hxn:∀b o,mx b=some o->(Z.n<=b/\¬Z.F b)/\m b=none) (hxo:∀g v b,(qa3 mem1 g).live=true->ρ[g]? = some v->Blk v b->mx b=none)
  (hargs:args'.ok P mx [] (c.args.toList.map a.eval)) (h:x5x Y args' s.ov s.base mem1 kn k) (hd:∀i,o.dst=some i->N.may i)
  (hQ:∀(b:Bool) s' Z' a' w',k b s'->T Z'->Good P Z' m0 N (qw1 o.dst (if b then .tt else .ff) s') a' w'->FR (some Y) (λ_=>False) s s'->next a' w'):o.wpIn (fz rr) nn P a w next Q:=by
 unfold x5x at h
 obtain⟨d,⟨hd1,h⟩,hrd⟩:=qk0 h hargs
 simp only[qs0] at h
 have hρ0:ρ[0]? = some (.int .i64 (code (some kn))):=by have:=hr2.objs 0; rw[hmem] at this; exact this
 obtain⟨kz,hkz⟩:=hY.cls Z hT
 have hkz2:Z.ρ=.int .i64 (code (some kn)) :: RR:=by
  have h1:=hr2.pins 0 (.int .i64 (code kz)) (by rw[hkz]; rfl) rfl
  rw[hρ0] at h1
  injection h1 with h1
  injection h1 with _ h1
  rw[hkz,h1]
 have hlt:0<s.mem.length:=by
  rcases Nat.eq_zero_or_pos s.mem.length with h0 | h0
  ·rw[q0s _ _ (by omega)] at hmem; cases hmem
  ·exact h0
 obtain⟨fn,tmps,assign,body,hy,hR⟩:=hY.yld Z kn w mx d _ (λ_=>False) hT hkz2 hr2.below hx0 hxc (λb o hb=>.inr (hxn b o hb).1) hd1 (by rw[hln]; exact hrd) (by rw[hln]; exact λb hb=>hb) λb hb=>hb.elim
 have hsem:(o.semAt (fz rr).round a.eval).run P w=.ok (.round Y.l fn tmps assign body) w:=by
  rw[Oper.semAt_eq _ _ _ (λc' e=>by rw[ho] at e; cases e),wn3 ho hcc hx]
  have e:(List.map a.eval c.args.toList).toArray=c.args.map a.eval:=by rw[<- Array.toList_map,Array.toArray_toList]
  rw[e] at hy
  exact hy
 refine⟨λ_ _=>trivial,?_⟩
 rw[hsem]
 refine⟨λhh=>by simp[fz] at hh,RoundIn.mono (w1w hR rr (nn-1)) ?_⟩
 rintro e w' ⟨-,q1,q2,hld',q3,b,rfl,q4⟩
 have hlv1:∀g,(qa3 mem1 g).live=true->(qa3 s.mem g).live=true:=λg hl=>by
  rcases hm1 g with e | ⟨_,e⟩
  ·rw[<- e]; exact hl
  ·rw[e] at hl; cases hl
 let O:Nat->Prop:=λb=>(Own mem1 ρ b\/qj0 a.defers b)\/(m b≠none/\m0 b=none)
 have hown1:∀b,Own mem1 ρ b->Own s.mem ρ b:=λb ⟨g,v,h1,h2,h3⟩=>⟨g,v,hlv1 g h1,h2,h3⟩
 have hO:∀b,O b->b<w.heap.size/\¬Z.F b/\mx b=none:=by
  rintro b ((hb | hb) | ⟨hb,hb0⟩)
  ·obtain⟨_,h2,h3,h4,_⟩:=hr2.own (hown1 b hb)
   obtain⟨g,v,h5,h6,h7⟩:=hb
   exact⟨h2,h4,hxo g v b h5 h6 h7⟩
  ·obtain⟨_,h2,h3⟩:=hr2.defers.get hb
   refine⟨(Array.getElem?_eq_some_iff.1 h3).1,h2,?_⟩
   cases hm:mx b with
   | none=>rfl
   | some ob=>
    obtain⟨c',t,f,rfl⟩:=hxc b ob hm
    have:=hx0 _ _ hm
    rw[h3] at this; cases this
  ·cases hm:m b with
   | none=>exact absurd hm hb
   | some ob=>
    refine⟨View.lt hr2.view hm,?_,?_⟩
    ·rcases hr2.new b ob hm with h8 | h8
     ·rw[hb0] at h8; cases h8
     ·exact h8.2
    ·cases hm':mx b with
     | none=>rfl
     | some ob'=>have:=(hxn b ob' hm').2; rw[hm] at this; cases this
 have hn:Z.n<=w'.heap.size:=Nat.le_trans hr2.below.size q2
 obtain⟨k',hk'⟩:∃k',k'=(if b then some (kn+1) else none):=⟨_,rfl⟩
 have hTZ:=q4 O hn hO
 rw[<- hk'] at hTZ
 have hkp0:∀b,O b->w'.heap[b]? = w.heap[b]?:=λb hb=>q3 b (hO b hb).1 (hO b hb).2.1 (hO b hb).2.2 (λh=>h)
 have hρl:0<ρ.length:=by rw[hr2.len]; exact hlt
 have hρn:∀(g:Nat) (v:Value),g≠0->ρ[g]? = some v->(ρ.set 0 (.int .i64 (code k')))[g]? = some v:=λg v hg hv=>by rw[List.getElem?_set_ne (Ne.symm hg)]; exact hv
 have hρb:∀(g:Nat) (v:Value),g≠0->(ρ.set 0 (.int .i64 (code k')))[g]? = some v->ρ[g]? = some v:=λg v hg hv=>by rw[List.getElem?_set_ne (Ne.symm hg)] at hv; exact hv
 have hρ00:(ρ.set 0 (.int .i64 (code k')))[0]? = some (.int .i64 (code k')):=by simp[hρl]
 have hρi:∀(g:Nat) (v:Value),(∀i n,v≠.int i n)->ρ[g]? = some v->(ρ.set 0 (.int .i64 (code k')))[g]? = some v:=λg v hi hv=>by
  by_cases hg:g=0
  ·subst hg; rw[hρ0] at hv; exact absurd (Option.some.inj hv).symm (hi _ _)
  ·exact hρn g v hg hv
 obtain⟨s',hs'⟩:∃s':St,s'=⟨s.ov,s.base,qd9 mem1 0 (.cnt k')⟩:=⟨_,rfl⟩
 have hget:∀i,s'.get i=s.get i:=λi=>by rw[hs']; rfl
 have hkk:k b s':=by
  rw[hs',hk']
  cases b with
  | true=>exact h.1
  | false=>exact h.2
 have hm2:∀g,qa3 s'.mem g=if g=0 then .cnt k' else qa3 mem1 g:=λg=>by
  rw[hs']
  show qa3 (qd9 mem1 0 (.cnt k')) g=_
  rw[qe2 _ _ _ _ (by rw[hl1]; exact hlt)]
 have hlv:∀g u bb,(qa3 s'.mem g).live=true->(ρ.set 0 (.int .i64 (code k')))[g]? = some u->Blk u bb->g≠0/\(qa3 mem1 g).live=true/\ρ[g]? = some u:=λg u bb hl hu hb=>by
  have hg:g≠0:=λe=>by
   subst e
   rw[hρ00] at hu
   obtain rfl:=Option.some.inj hu
   cases hb
  rw[hm2,if_neg hg] at hl
  exact⟨hg,hl,hρb g u hg hu⟩
 have hview:m.on w':=λb ob hb=>by
  cases h0:m0 b with
  | some ob'=>
   have:=hr2.ext b ob' h0
   rw[hb] at this
   rw[Option.some.inj this]
   exact q1 b ob' h0
  | none=>exact(hkp0 b (.inr ⟨(by rw[hb]; simp),h0⟩)).trans (hr2.view b ob hb)
 have hrel:Rel P ⟨Z.n,w',λb=>b<w'.heap.size/\¬O b,hn,.int .i64 (code k') :: RR⟩ m0 s' m (ρ.set 0 (.int .i64 (code k'))) a w':=by
  refine⟨λi=>?_,?_,λv hv=>?_,?_,λg=>?_,λg g' v v' bb hne l1 l2 u1 u2 b1 b2=>?_,hview,hr2.ext,λbb ob hb=>?_,⟨rfl,rfl,rfl,Nat.le_refl _,λb hb=>⟨hb.1,rfl⟩⟩,λg v bb l1 u1 b1 hF=>?_,λg v hv hp=>?_⟩
  ·rw[hget]; exact ok0 hρi (hr2.slots i)
  ·rw[hs']
   show _=(qd9 mem1 0 (.cnt k')).length
   rw[qd3 _ _ _ (by rw[hl1]; exact hlt),hl1,List.length_set,hr2.len]
  ·rcases List.mem_or_eq_of_mem_set hv with hv | rfl
   ·exact hr2.hdr v hv
   ·rfl
  ·have key:∀ds:List Deferred,(∀b,qj0 ds b->qj0 a.defers b)->Marks Z w ds->Marks ⟨Z.n,w',λb=>b<w'.heap.size/\¬O b,hn,.int .i64 (code k') :: RR⟩ w' ds:=by
    intro ds
    induction ds with
    | nil=>intro _ _; trivial
    | cons d ds ih=>
     rintro hsub ⟨⟨D,h1,h2,h3,h4,h5⟩,h6⟩
     have hD:qj0 a.defers D:=hsub D ⟨d,by simp,h1⟩
     exact⟨⟨D,h1,h2,λhF=>hF.2 (.inl (.inr hD)),(hkp0 D (.inl (.inr hD))).trans h4,h5⟩,ih (λb ⟨e,he,hb⟩=>hsub b ⟨e,by simp[he],hb⟩) h6⟩
   exact key _ (λ_ h=>h) hr2.defers
  ·rw[hm2]
   split
   ·rename_i e; subst e; exact hρ00
   ·rename_i hg
    rcases hm1 g with e | ⟨_,e⟩
    ·have hob:=hr2.objs g
     rw[<- e] at hob
     by_cases hl:(qa3 mem1 g).live=true
     ·refine x3e hob hρi (λv hv=>hρn g v hg hv) λv bb hv hb=>?_
      have ho:Own mem1 ρ bb:=⟨g,v,hl,hv,hb⟩
      exact⟨hkp0 bb (.inl (.inl ho)),(hr2.own (hown1 bb ho)).2.2.1⟩
     ·cases hq:qa3 mem1 g <;> rw[hq] at hl <;> first | exact absurd rfl hl | trivial
    ·rw[e]; trivial
  ·obtain⟨_,x2,x3⟩:=hlv g v bb l1 u1 b1
   obtain⟨_,y2,y3⟩:=hlv g' v' bb l2 u2 b2
   exact hr2.apart g g' v v' bb hne (hlv1 g x2) (hlv1 g' y2) x3 y3 b1 b2
  ·cases h0:m0 bb with
   | some ob'=>
    have:=hr2.ext bb ob' h0
    rw[hb] at this
    exact .inl this.symm
   | none=>
    rcases hr2.new bb ob hb with h8 | h8
    ·rw[h0] at h8; cases h8
    ·exact .inr ⟨h8.1,λhF=>hF.2 (.inr ⟨(by rw[hb]; simp),h0⟩)⟩
  ·obtain⟨_,x2,x3⟩:=hlv g v bb l1 u1 b1
   exact hF.2 (.inl (.inl ⟨g,v,x2,x3,b1⟩))
  ·cases g with
   | zero=>simp only[List.getElem?_cons_zero,Option.some.injEq] at hv; subst hv; exact hρ00
   | succ g=>exact hρn _ _ (by omega) (hr2.pins (g+1) v (by rw[hkz2]; exact hv) hp)
 exact hQ b s' _ _ _ hkk hTZ (Good.put hN hrel (v:=.bool b) (by cases b <;> rfl) hd) λi _ _=>hget i
theorem xz4 (hY:YOk P T m0 N Y RR) (hT:T Z) (hc0:Cells m0) {s:St} {m:View} {ρ:List Value} {a:Act} {w:World} {o:Oper} {c:Call} {x:Operand} {next:Act->World->Prop} {Q:Exit->Act->World->Prop} {k:Bool->St->Prop} (hN:N.has a) (hr2:Rel P Z m0 s m ρ a w)
  (ho:o.op=.call c) (hcc:c.callee=.value x) (hx:a.eval x=.func (.yield Y.l) #[] #[]) {kn:Nat} (hmem:qa3 s.mem 0=.cnt (some kn)) (h:x58 Y (qm5 (qc9 s.ov s.base) c.args.toList) s.ov s.base s.mem kn k) (hd:∀i,o.dst=some i->N.may i)
  (hQ:∀(b:Bool) s' Z' a' w',k b s'->T Z'->Good P Z' m0 N (qw1 o.dst (if b then .tt else .ff) s') a' w'->FR (some Y) (λ_=>False) s s'->next a' w'):o.wpIn (fz rr) nn P a w next Q:=by
 have hargs:=q0u (P:=P) (m:=m) (ρ:=ρ) hr2.eval c.args.toList
 unfold x58 at h
 split at h
 ·exact h.elim
 rename_i hln
 split at h
 ·rename_i hl
  exact w71 hY hT hc0 hN hr2 ho hcc hx hln hmem (mx:=λ_=>none) (mem1:=s.mem) rfl (λg=>.inl rfl) (λb o hb=>by cases hb) (λb o hb=>by cases hb) (λb o hb=>by cases hb) (λ_ _ _ _ _ _=>rfl) (xz2 hl hargs) h hd hQ
 split at h
 case h_2=>exact h.elim
 rename_i g _
 split at h
 case h_2=>exact h.elim
 rename_i e t l hm
 split at h
 case h_2=>exact h.elim
 rename_i hg0 hfl
 have hg0:g≠0:=λe=>by subst e; cases hg0
 obtain⟨args',hf,h⟩:=withSome_iff.1 h
 have hk:=hr2.objs g
 rw[hm] at hk
 obtain⟨v,vs,h1,h2,h3,h4⟩:=hk
 have hlive:(qa3 s.mem g).live=true:=by rw[hm]; rfl
 have hlt:g<s.mem.length:=qe6 hlive
 let mx:View:=λb=>if v.ownBlock=some b then w.heap[b]? else none
 have hmx:∀b o,mx b=some o->v.ownBlock=some b/\w.heap[b]? = some o:=λb o hb=>by
  change(if v.ownBlock=some b then w.heap[b]? else none)=some o at hb
  split at hb
  ·exact⟨‹_›,hb⟩
  ·cases hb
 have hrd:∀u,ρ[g]? = some u->Rd mx (.list t) l [u]:=λu hu=>by
  rw[h1] at hu
  obtain rfl:=Option.some.inj hu
  exact qp0 h3 (ql0 hfl h2) λb hb=>by show(if v.ownBlock=some b then w.heap[b]? else none)=_; rw[if_pos hb]
 have hl2:(qd9 s.mem g AObj.dead).length=s.mem.length:=qd3 _ _ _ hlt
 have hms:∀g',qa3 (qd9 s.mem g AObj.dead) g'=if g'=g then .dead else qa3 s.mem g':=λg'=>qe2 _ _ _ _ hlt
 refine w71 hY hT hc0 hN hr2 ho hcc hx hln hmem (mx:=mx) (mem1:=qd9 s.mem g .dead) hl2 (λg'=>?_) (λb o hb=>(hmx b o hb).2) (λb o hb=>?_) (λb o hb=>?_) (λg' u b hl hu hb=>?_) (xz3 hrd hf hargs) h hd hQ
 ·rw[hms]
  split
  ·rename_i e; exact .inr ⟨by rw[e]; exact hg0,rfl⟩
  ·exact .inl rfl
 ·obtain⟨h5,h6⟩:=hmx b o hb
  obtain⟨c',t',f',h7⟩:=(own_blk h3 ((qk7 h3).2 h5)).2.2
  rw[h7] at h6
  exact⟨_,_,_,(Option.some.inj h6).symm⟩
 ·obtain⟨h5,h6⟩:=hmx b o hb
  have ho:Own s.mem ρ b:=⟨g,v,hlive,h1,(qo8 h3).2 h5⟩
  obtain⟨o1,o2,o3,o4,_⟩:=hr2.own ho
  exact⟨⟨o1,o4⟩,o3⟩
 ·rw[hms] at hl
  split at hl
  ·cases hl
  ·rename_i hne
   cases hb':mx b with
   | none=>rfl
   | some ob=>
    have h5:=(hmx b ob hb').1
    exact(hr2.apart g' g u v b hne hl hlive hu h1 hb ((qo8 h3).2 h5)).elim
theorem x3f (hY:YOk P T m0 N Y RR) (hT:T Z) (hc0:Cells m0) {s:St} {m:View} {ρ:List Value} {a:Act} {w:World} {o:Oper} {c:Call} {x:Operand} {next:Act->World->Prop} {Q:Exit->Act->World->Prop} {k:Bool->St->Prop} (hN:N.has a) (hr:Rel P Z m0 s m ρ a w)
  (ho:o.op=.call c) (hcc:c.callee=.value x) (hx:a.eval x=.func (.yield Y.l) #[] #[]) (h:x59 Y (qm5 (qc9 s.ov s.base) c.args.toList) s.ov s.base s.mem k) (hd:∀i,o.dst=some i->N.may i) (hfx:w4v (some Y))
  (hQ:∀(b:Bool) s' Z' a' w',k b s'->T Z'->Good P Z' m0 N (qw1 o.dst (if b then .tt else .ff) s') a' w'->FR (some Y) (λ_=>False) s s'->next a' w'):o.wpIn (fz rr) nn P a w next Q:=by
 unfold x59 at h
 split at h
 case h_2=>exact h.elim
 rename_i kn hmem
 have hr2:=hr.cells
 rw[hc0.eq] at hr2
 split at h
 ·exact xz4 hY hT hc0 hN hr2 ho hcc hx hmem h hd hQ
 have hargs:=q0u (P:=P) (m:=m.cells) (ρ:=ρ) hr2.eval c.args.toList
 obtain⟨d,B,⟨hd1,h⟩,hrd,hld,hcase⟩:=wx6 hr2 h hargs
 have hBo:∀b,B b->∃g v,(∃e t l,qa3 s.mem g=.vec e t l)/\ρ[g]? = some v/\Blk v b:=λb hb=>by
  rcases hcase with q | ⟨g,e,t,v,l,q1,q2,q3,q4,q5⟩
  ·exact absurd hb (q b)
  ·exact⟨g,v,⟨e,t,l,q1⟩,q2,qh4 ((q4 b).1 hb)⟩
 have hBown:∀b,B b->Own s.mem ρ b:=λb hb=>by
  obtain⟨g,v,⟨e,t,l,q1⟩,q2,q3⟩:=hBo b hb
  exact⟨g,v,by rw[q1]; rfl,q2,q3⟩
 simp only[q6m,qs0] at h
 -- how often
 have hρ0:ρ[0]? = some (.int .i64 (code (some kn))):=by have:=hr.objs 0; rw[hmem] at this; exact this
 obtain⟨kz,hkz⟩:=hY.cls Z hT
 have hkz2:Z.ρ=.int .i64 (code (some kn)) :: RR:=by
  have h1:=hr.pins 0 (.int .i64 (code kz)) (by rw[hkz]; rfl) rfl
  rw[hρ0] at h1
  injection h1 with h1
  injection h1 with _ h1
  rw[hkz,h1]
 have hlt:0<s.mem.length:=by
  rcases Nat.eq_zero_or_pos s.mem.length with h0 | h0
  ·rw[q0s _ _ (by omega)] at hmem; cases hmem
  ·exact h0
 obtain⟨fn,tmps,assign,body,hy,hR⟩:=hY.yld Z kn w m.cells d _ B hT hkz2 hr2.below hr2.view Cells.of hr2.new hd1 hrd hld λb hb=>by
  obtain⟨o1,o2,o3,o4,_⟩:=hr2.own (hBown b hb)
  exact⟨o1,o2,o4,o3⟩
 have hsem:(o.semAt (fz rr).round a.eval).run P w=.ok (.round Y.l fn tmps assign body) w:=by
  rw[Oper.semAt_eq _ _ _ (λc' e=>by rw[ho] at e; cases e),wn3 ho hcc hx]
  have e:(List.map a.eval c.args.toList).toArray=c.args.map a.eval:=by rw[<- Array.toList_map,Array.toArray_toList]
  rw[e] at hy
  exact hy
 refine⟨λ_ _=>trivial,?_⟩
 rw[hsem]
 refine⟨λhh=>by simp[fz] at hh,RoundIn.mono (w1w hR rr (nn-1)) ?_⟩
 rintro e w' ⟨-,q1,q2,hld',q3,b,rfl,q4⟩
 let O:Nat->Prop:=λb=>Own s.mem ρ b\/qj0 a.defers b
 have hO:∀b,O b->b<w.heap.size/\¬Z.F b/\m.cells b=none:=by
  rintro b (hb | hb)
  ·obtain⟨_,h2,h3,h4,_⟩:=hr2.own hb
   exact⟨h2,h4,h3⟩
  ·obtain⟨_,h2,h3⟩:=hr2.defers.get hb
   refine⟨(Array.getElem?_eq_some_iff.1 h3).1,h2,?_⟩
   cases hm:m.cells b with
   | none=>rfl
   | some ob=>
    obtain⟨c',t,f,rfl⟩:=View.cells_is hm
    have:=hr2.view _ _ hm
    rw[h3] at this; cases this
 have hn:Z.n<=w'.heap.size:=Nat.le_trans hr.below.size q2
 obtain⟨k',hk'⟩:∃k',k'=(if b then some (kn+1) else none):=⟨_,rfl⟩
 have hTZ:=q4 O hn hO
 rw[<- hk'] at hTZ
 have hkp0:∀b,O b->¬B b->w'.heap[b]? = w.heap[b]?:=λb hb hnb=>q3 b (hO b hb).1 (hO b hb).2.1 (hO b hb).2.2 hnb
 have hkp:∀g v b,(qa3 s.mem g).live=true->(∀e t l,qa3 s.mem g≠.vec e t l)->ρ[g]? = some v->Blk v b->w'.heap[b]? = w.heap[b]?:=λg v b hl hnv hv hb=>hkp0 b (.inl ⟨g,v,hl,hv,hb⟩) λhB=>by
  obtain⟨g',v',⟨e,t,l,k1⟩,k2,k3⟩:=hBo b hB
  by_cases hg:g=g'
  ·subst hg; exact hnv e t l k1
  ·exact hr2.apart g g' v v' b hg hl (by rw[k1]; rfl) hv k2 hb k3
 have hm0n:∀b,Own s.mem ρ b->m0 b=none:=λb hb=>by
  have h1:=(hr2.own hb).2.2.1
  cases h2:m0 b with
  | none=>rfl
  | some ob=>have:=hr2.ext b ob h2; rw[h1] at this; cases this
 have h0p:∀b,ρ[0]?≠some (.pointer b):=λb hb=>by rw[hρ0] at hb; cases hb
 have hρl:0<ρ.length:=by rw[hr.len]; exact hlt
 have hρn:∀(g:Nat) (v:Value),g≠0->ρ[g]? = some v->(ρ.set 0 (.int .i64 (code k')))[g]? = some v:=λg v hg hv=>by rw[List.getElem?_set_ne (Ne.symm hg)]; exact hv
 have hρb:∀(g:Nat) (v:Value),g≠0->(ρ.set 0 (.int .i64 (code k')))[g]? = some v->ρ[g]? = some v:=λg v hg hv=>by rw[List.getElem?_set_ne (Ne.symm hg)] at hv; exact hv
 have hρ00:(ρ.set 0 (.int .i64 (code k')))[0]? = some (.int .i64 (code k')):=by simp[hρl]
 obtain⟨s',hs'⟩:∃s':St,s'=⟨w31 Y.fix (w30 s.ov),λi=>(s.base i).hav,qd9 (qm6 s.mem) 0 (.cnt k')⟩:=⟨_,rfl⟩
 have hget:∀i,s'.get i=look Y.fix i (s.get i).hav:=λi=>by
  rw[hs']
  show look (w31 Y.fix (w30 s.ov)) i (s.base i).hav=_
  rw[w1t,w1u]
  rfl
 have hkk:k b s':=by
  rw[hs',hk']
  cases b with
  | true=>exact h.1
  | false=>exact h.2
 have hm1:∀g,qa3 s'.mem g=if g=0 then .cnt k' else(qa3 s.mem g).hav:=λg=>by
  rw[hs']
  show qa3 (qd9 (qm6 s.mem) 0 (.cnt k')) g=_
  rw[qe2 _ _ _ _ (by rw[qp3]; exact hlt),qw7]
 have hlv:∀g u bb,(qa3 s'.mem g).live=true->(ρ.set 0 (.int .i64 (code k')))[g]? = some u->Blk u bb->g≠0/\(qa3 s.mem g).live=true/\ρ[g]? = some u:=λg u bb hl hu hb=>by
  have hg:g≠0:=λe=>by
   subst e
   rw[hρ00] at hu
   obtain rfl:=Option.some.inj hu
   cases hb
  rw[hm1,if_neg hg] at hl
  exact⟨hg,wd8 hl,hρb g u hg hu⟩
 have hrel:Rel P ⟨Z.n,w',λb=>b<w'.heap.size/\¬O b,hn,.int .i64 (code k') :: RR⟩ m0 s' m0 (ρ.set 0 (.int .i64 (code k'))) a w':=by
  refine⟨λi=>?_,?_,λv hv=>?_,?_,λg=>?_,λg g' v v' bb hne l1 l2 u1 u2 b1 b2=>?_,q1,View.le_refl m0,λ_ _ hb=>.inl hb,⟨rfl,rfl,rfl,Nat.le_refl _,λb hb=>⟨hb.1,rfl⟩⟩,λg v bb l1 u1 b1 hF=>?_,λg v hv hp=>?_⟩
  ·rw[hget]
   rcases qs8 (i:=i) (d:=(s.get i).hav) (l:=Y.fix) with⟨e,_⟩ | e
   ·rw[e]; exact w1s h0p hρn (hr.slots i)
   ·exact AV.ok_le (View.le_refl m0) qm9 (hY.fix _ e a hN)
  ·rw[hs']
   show _=(qd9 (qm6 s.mem) 0 (.cnt k')).length
   rw[qd3 _ _ _ (by rw[qp3]; exact hlt),qp3,List.length_set,hr.len]
  ·rcases List.mem_or_eq_of_mem_set hv with hv | rfl
   ·exact hr.hdr v hv
   ·rfl
  ·have key:∀ds:List Deferred,(∀b,qj0 ds b->qj0 a.defers b)->Marks Z w ds->Marks ⟨Z.n,w',λb=>b<w'.heap.size/\¬O b,hn,.int .i64 (code k') :: RR⟩ w' ds:=by
    intro ds
    induction ds with
    | nil=>intro _ _; trivial
    | cons d ds ih=>
     rintro hsub ⟨⟨D,h1,h2,h3,h4,h5⟩,h6⟩
     have hD:qj0 a.defers D:=hsub D ⟨d,by simp,h1⟩
     exact⟨⟨D,h1,h2,λhF=>hF.2 (.inr hD),(hkp0 D (.inr hD) λhB=>by
      obtain⟨_,_,_,_,o,q5,q6⟩:=hr2.own (hBown D hB)
      rw[h4] at q5; obtain rfl:=Option.some.inj q5; exact q6).trans h4,h5⟩,ih (λb ⟨e,he,hb⟩=>hsub b ⟨e,by simp[he],hb⟩) h6⟩
   exact key _ (λ_ h=>h) hr.defers
  ·rw[hm1]
   split
   ·rename_i e; subst e; exact hρ00
   ·rename_i hg
    have hob:=hr.objs g
    cases hq:qa3 s.mem g with
    | dead=>trivial
    | cnt n=>rw[hq] at hob; exact hρn _ _ hg hob
    | box ty cs=>
     rw[hq] at hob
     obtain⟨bb,vs,k1,k2,k3,k4,k5,k6⟩:=hob
     have ho:Own s.mem ρ bb:=⟨g,_,by rw[hq]; rfl,k1,rfl⟩
     exact⟨bb,vs,hρn _ _ hg k1,k2,(hkp g _ bb (by rw[hq]; rfl) (by rw[hq]; intro _ _ _ h; cases h) k1 rfl).trans k3,w1s h0p hρn k4,k5,hm0n _ ho⟩
    | vec e t l=>
     rw[hq] at hob
     obtain⟨v,vs,k1,k2,k3,k4⟩:=hob
     simp only[AObj.hav]
     split
     ·rename_i hfl
      have hkb:∀bb,v.ownBlock=some bb->Own s.mem ρ bb:=λbb hb=>⟨g,v,by rw[hq]; rfl,k1,qh4 hb⟩
      by_cases hlt':∃bb,v.ownBlock=some bb/\B bb
      ·obtain⟨bb,hb1,hb2⟩:=hlt'
       rcases hcase with q | ⟨g',e',t',v',l',p1,p2,p3,p4,p5⟩
       ·exact absurd hb2 (q bb)
       obtain rfl:g=g':=Classical.byContradiction λhne=>hr2.apart g g' v v' bb hne (by rw[hq]; rfl) (by rw[p1]; rfl) k1 p2 (qh4 hb1) (qh4 ((p4 bb).1 hb2))
       rw[hq] at p1
       rw[k1] at p2
       obtain rfl:=Option.some.inj p2
       injection p1 with p1 p1' p1''
       subst p1 p1'
       obtain rfl:=eq_of_heq p1''
       obtain⟨xs,y1,y2⟩:=p5 w' hld'
       refine⟨v,xs,hρn _ _ hg k1,ql0 hfl y1,⟨y2.1,?_⟩,λbb hb=>hm0n _ (hkb bb hb)⟩
       rcases y2.2 with h0 | ⟨g',cap,cur,rfl,hB,hg',r⟩
       ·exact .inl h0
       ·rcases k3.2 with⟨h0,_⟩ | ⟨_,_,_,h0,hB',_⟩
        ·cases h0
        ·injection h0 with h0
         injection h0 with h0
         injection h0 with h0
         subst h0
         exact .inr ⟨_,cap,cur,rfl,hB',hg',r⟩
      ·refine⟨v,vs,hρn _ _ hg k1,ql0 hfl k2,⟨k3.1,?_⟩,λbb hb=>hm0n _ (hkb bb hb)⟩
       rcases k3.2 with h0 | ⟨g',cap,cur,rfl,hB,hg',r⟩
       ·exact .inl h0
       ·exact .inr ⟨g',cap,cur,rfl,hB,(hkp0 g' (.inl (hkb g' rfl)) λhB=>hlt' ⟨g',rfl,hB⟩).trans hg',r⟩
     ·trivial
    | bld T e q=>
     rw[hq] at hob
     obtain⟨bb,v,k1,k2⟩:=hob
     have hkb:∀x,Blk (q5t bb v) x->Own s.mem ρ x:=λx hx=>⟨g,_,by rw[hq]; rfl,k1,hx⟩
     exact⟨bb,v,hρn _ _ hg k1,k2.grow λx hx=>⟨hkp g _ x (by rw[hq]; rfl) (by rw[hq]; intro _ _ _ h; cases h) k1 hx,hm0n _ (hkb x hx)⟩⟩
    | sit q p=>
     rw[hq] at hob
     obtain⟨bb,k1,k2,k3,k4⟩:=hob
     have ho:Own s.mem ρ bb:=⟨g,_,by rw[hq]; rfl,k1,rfl⟩
     exact⟨bb,hρn _ _ hg k1,k2,(hkp g _ bb (by rw[hq]; rfl) (by rw[hq]; intro _ _ _ h; cases h) k1 rfl).trans k3,hm0n _ ho⟩
    | mp t l=>
     rw[hq] at hob
     obtain⟨bb,es,cl,k1,k2,k3,k4,k5⟩:=hob
     have ho:Own s.mem ρ bb:=⟨g,_,by rw[hq]; rfl,k1,rfl⟩
     exact⟨bb,es,cl,hρn _ _ hg k1,k2,(hkp g _ bb (by rw[hq]; rfl) (by rw[hq]; intro _ _ _ h; cases h) k1 rfl).trans k3,k4,hm0n _ ho⟩
    | mat eh e t rows ix lt=>
     rw[hq] at hob
     obtain⟨hs,k1,k2,k3⟩:=hob
     simp only[AObj.hav]
     split
     ·rename_i hfl
      have hkb:∀u bb,u∈hs->blk u=some bb->Own s.mem ρ bb:=λu bb hu hb=>⟨g,_,by rw[hq]; rfl,k1,qe0.2 ⟨u,hu,hb⟩⟩
      refine⟨hs,hρn _ _ hg k1,?_,k3⟩
      have k4:PoolOk m0 w Z.n eh e t rows ix hs:=k2.flat hfl λu bb hu hb=>hm0n _ (hkb u bb hu hb)
      exact k4.grow (View.cle_refl m0) λbb ⟨u,hu,hb⟩=>⟨hkp g _ bb (by rw[hq]; rfl) (by rw[hq]; intro _ _ _ h; cases h) k1 (qe0.2 ⟨u,hu,hb⟩),hm0n _ (hkb u bb hu hb)⟩
     ·trivial
  ·obtain⟨_,x2,x3⟩:=hlv g v bb l1 u1 b1
   obtain⟨_,y2,y3⟩:=hlv g' v' bb l2 u2 b2
   exact hr.apart g g' v v' bb hne x2 y2 x3 y3 b1 b2
  ·obtain⟨_,x2,x3⟩:=hlv g v bb l1 u1 b1
   exact hF.2 (.inl ⟨g,v,x2,x3,b1⟩)
  ·cases g with
   | zero=>simp only[List.getElem?_cons_zero,Option.some.injEq] at hv; subst hv; exact hρ00
   | succ g=>exact hρn _ _ (by omega) (hr.pins (g+1) v (by rw[hkz2]; exact hv) hp)
 refine hQ b s' _ _ _ hkk hTZ (Good.put hN hrel (v:=.bool b) (by cases b <;> rfl) hd) λi _ hst=>?_
 rw[hget]
 have h1:look Y.fix i (s.get i).strip.hav=s.get i:=hst
 have h2:(s.get i).strip=s.get i:=by
  have:=q5y hfx i (s.get i)
  rw[hst] at this
  exact this
 rw[h2] at h1
 exact h1
theorem Rel.havs {s:St} {m:View} {ρ:List Value} {a:Act} {w:World} (hr:Rel P Z m0 s m ρ a w) (h0p:∀b,ρ[0]?≠some (.pointer b)) {ov':List (Nat × AV)} {base':Nat->AV} (hsl:∀i,(St.get ⟨ov',base',qm6 s.mem⟩ i).ok P m0 ρ [a.tmps.getD i undef]):Rel P Z m0 ⟨ov',base',qm6 s.mem⟩ m0 ρ a w:=by
 have hm0n:∀b,Own s.mem ρ b->m0 b=none:=λb hb=>by
  have h1:=(hr.own hb).2.2.1
  cases h2:m0 b with
  | none=>rfl
  | some ob=>have:=hr.ext b ob h2; rw[h1] at this; cases this
 have hlv:∀g,(qa3 (qm6 s.mem) g).live=true->(qa3 s.mem g).live=true:=λg h=>by rw[qw7] at h; exact wd8 h
 refine⟨hsl,by rw[hr.len]; exact(qp3 _).symm,hr.hdr,hr.defers,λg=>?_,λg g' v v' bb hne l1 l2 u1 u2 b1 b2=>hr.apart g g' v v' bb hne (hlv g l1) (hlv g' l2) u1 u2 b1 b2,λb o hb=>hr.view b o (hr.ext b o hb),View.le_refl m0,λ_ _ hb=>.inl hb,hr.below,λg v b l1 u1 b1=>hr.zone g v b (hlv g l1) u1 b1,hr.pins⟩
 show ObjOk P m0 ρ w Z.n g (qa3 (qm6 s.mem) g)
 rw[qw7]
 have hob:=hr.objs g
 cases hq:qa3 s.mem g with
 | dead=>trivial
 | cnt n=>rw[hq] at hob; exact hob
 | box ty cs=>
  rw[hq] at hob
  obtain⟨bb,vs,k1,k2,k3,k4,k5,k6⟩:=hob
  exact⟨bb,vs,k1,k2,k3,w1s h0p (λ_ _ _ h=>h) k4,k5,hm0n _ ⟨g,_,by rw[hq]; rfl,k1,rfl⟩⟩
 | vec e t l=>
  rw[hq] at hob
  obtain⟨v,vs,k1,k2,k3,k4⟩:=hob
  simp only[AObj.hav]
  split
  ·rename_i hfl
   exact⟨v,vs,k1,ql0 hfl k2,k3,λbb hb=>hm0n _ ⟨g,v,by rw[hq]; rfl,k1,qh4 hb⟩⟩
  ·trivial
 | bld T e q=>
  rw[hq] at hob
  obtain⟨bb,v,k1,k2⟩:=hob
  exact⟨bb,v,k1,k2.grow λx hx=>⟨rfl,hm0n _ ⟨g,_,by rw[hq]; rfl,k1,hx⟩⟩⟩
 | sit q p=>
  rw[hq] at hob
  obtain⟨bb,k1,k2,k3,k4⟩:=hob
  exact⟨bb,k1,k2,k3,hm0n _ ⟨g,_,by rw[hq]; rfl,k1,rfl⟩⟩
 | mp t l=>
  rw[hq] at hob
  obtain⟨bb,es,cl,k1,k2,k3,k4,k5⟩:=hob
  exact⟨bb,es,cl,k1,k2,k3,k4,hm0n _ ⟨g,_,by rw[hq]; rfl,k1,rfl⟩⟩
 | mat eh e t rows ix lt=>
  rw[hq] at hob
  obtain⟨hs,k1,k2,k3⟩:=hob
  simp only[AObj.hav]
  split
  ·rename_i hfl
   exact⟨hs,k1,k2.flat hfl λu bb hu hb=>hm0n _ ⟨g,_,by rw[hq]; rfl,k1,qe0.2 ⟨u,hu,hb⟩⟩,k3⟩
  ·trivial
theorem w1x (hS:SoundAt P C m0) (hCy:C.yl=some Y) (hY:YOk P T m0 N Y RR) (hc0:Cells m0) {D:Nat->Prop} {all:Array Oper} (hall:∀o∈all.toList,∀d,o.dst=some d->D d/\N.may d) {o:Oper} (ho:o∈all.toList) {s:St} {K:St->Prop} {a:Act} {w:World} (hT:T Z) (hg:Good P Z m0 N s a w)
  (h:xw0 C Y all.toList o s K) {next:Act->World->Prop} {Q:Exit->Act->World->Prop} (hQ:∀s' Z' a' w',K s'->T Z'->FR C.yl D s s'->Good P Z' m0 N s' a' w'->next a' w') :
  if Region.wanted o (yielded all a.tmps) then o.wpIn (fz rr) nn P a w next Q else(∀f,o.about P w a.eval=some f->(fz rr).fn f)/\next (a.put o.dst undef) w:=by
 have hfx:w4v C.yl:=hS.fixs
 obtain⟨hN,m,ρ,hr⟩:=hg
 have go:∀s1:St,Rel P Z m0 s1 m ρ a w->FR C.yl D s s1->s1.mem=s.mem->(q2h s.mem.length lits λnm=>opY C Y o nm s1.ov s1.base s1.mem λv s'=>K (qw1 o.dst v s'))->o.wpIn (fz rr) nn P a w next Q:=by
  intro s1 hr1 hf1 hm1 h1
  rw[qn7,<- hm1] at h1
  unfold opY at h1
  split at h1
  ·obtain⟨hd,hres⟩:=xy1 (k:=λv e=>w6l C o.dst v λv=>wb2 s1.ov s1.base s1.mem s1.mem.length e λs'=>K (qw1 o.dst v s')) (nm:=s1.mem.length) hS hr1 (.inl rfl) h1
   refine w67 hres hd λv w' ⟨av,e,m',ρ',k1,_,k2,k3⟩=>?_
   simp only[wv8,q4h] at k1
   exact hQ _ Z _ _ k1 hT (hf1.trans ((FR.eff hfx s1 _ e).trans (FR.put _ (λi hi=>(hall o ho i hi).1)))) (Good.put hN k3 k2 (λi hi=>(hall o ho i hi).2))
  ·split at h1
   case h_2=>exact h1.elim
   rename_i c hoc
   split at h1
   case h_2=>exact h1.elim
   rename_i x hx
   have hxe:=hr1.eval x
   simp only[x2s] at h1
   split at h1
   case h_2=>exact h1.elim
   rename_i lv hlv
   obtain⟨rfl,h1⟩:=h1
   rw[hlv] at hxe
   refine x3f hY hT hc0 (s:=s1) hN hr1 hoc hx (List.cons.inj hxe).1 h1 (λi hi=>(hall o ho i hi).2) (by rw[<- hCy]; exact hfx) λb s' Z' a' w' k1 k2 k3 k4=>?_
   refine hQ (qw1 o.dst (if b then .tt else .ff) s') Z' a' w' (by cases b <;> exact k1) k2 (hf1.trans (FR.trans ?_ (FR.put _ (λi hi=>(hall o ho i hi).1)))) k3
   rw[hCy]
   exact k4.mono λ_ hh=>hh.elim
 obtain⟨ov,base,mem⟩:=s
 simp only[xw0] at h
 cases hgd:o.guard with
 | none=>
  rw[hgd] at h
  rw[if_pos (by simp[Region.wanted,hgd])]
  exact go ⟨ov,base,mem⟩ hr (FR.refl _ _ _) rfl h
 | some jw=>
  obtain⟨j,want⟩:=jw
  rw[hgd] at h
  obtain⟨og,h1,h⟩:=withSome_iff.1 h
  obtain⟨d,h2,h⟩:=withSome_iff.1 h
  have hog:og∈all.toList:=List.mem_of_getElem? h1
  have hd:=hall og hog d h2
  have hfr:∀av:AV,FR C.yl D ⟨ov,base,mem⟩ ⟨(d,av) :: ov,base,mem⟩:=λav=>FR.put (d:=some d) (v:=av) ⟨ov,base,mem⟩ (λi hi=>by injection hi with hi; rw[<- hi]; exact hd.1)
  have hy:∀b,a.tmps.getD d undef=.bool b->yielded all a.tmps j=some b:=by
   intro b hb
   have h1':all[j]? = some og:=by simpa using h1
   simp[yielded,h1',h2,w1q hb]
  have hy2:a.tmps.getD d undef=undef->yielded all a.tmps j=none:=by
   intro hb
   have h1':all[j]? = some og:=by simpa using h1
   exact qz1 h1' h2 hb
  have skip:∀av:AV,av.ok P m ρ [a.tmps.getD d undef]->Region.wanted o (yielded all a.tmps)=false->K (qw1 o.dst (.tup .nil) ⟨(d,av) :: ov,base,mem⟩) ->
    if Region.wanted o (yielded all a.tmps) then o.wpIn (fz rr) nn P a w next Q else(∀f,o.about P w a.eval=some f->(fz rr).fn f)/\next (a.put o.dst undef) w:=by
   intro av hav hw hk
   rw[if_neg (by simp[hw])]
   exact⟨λ_ _=>trivial,hQ _ Z _ _ hk hT ((hfr av).trans (FR.put _ (λi hi=>(hall o ho i hi).1))) (Good.put hN (hr.know hav) (av:=.tup .nil) ⟨[],rfl,rfl⟩ (λi hi=>(hall o ho i hi).2))⟩
  have run:∀av:AV,av.ok P m ρ [a.tmps.getD d undef]->Region.wanted o (yielded all a.tmps)=true->(q2h mem.length lits λnm=>opY C Y o nm ((d,av) :: ov) base mem λv s'=>K (qw1 o.dst v s')) ->
    if Region.wanted o (yielded all a.tmps) then o.wpIn (fz rr) nn P a w next Q else(∀f,o.about P w a.eval=some f->(fz rr).fn f)/\next (a.put o.dst undef) w:=by
   intro av hav hw hk
   rw[if_pos hw]
   exact go ⟨(d,av) :: ov,base,mem⟩ (hr.know hav) (hfr av) rfl hk
  have hslot:=hr.slots d
  cases want with
  | true=>
   cases hsk:(look ov d (base d)).skipped with
   | true=>
    rw[hsk] at h
    have hu:=qw6 hsk hslot
    exact skip (.tup .nil) (by rw[hu]; exact⟨[],rfl,rfl⟩) (by simp[Region.wanted,hgd,hy2 hu]) h
   | false=>
   rw[hsk] at h
   obtain⟨b,hb,c1,c2⟩:=q1g h hslot
   cases b with
   | true=>exact run .tt (by rw[hb]; rfl) (by simp[Region.wanted,hgd,hy _ hb]) (c1 rfl)
   | false=>exact skip .ff (by rw[hb]; rfl) (by simp[Region.wanted,hgd,hy _ hb]) (c2 rfl)
  | false=>
   cases hsk:(look ov d (base d)).skipped with
   | true=>
    rw[hsk] at h
    have hu:=qw6 hsk hslot
    exact skip (.tup .nil) (by rw[hu]; exact⟨[],rfl,rfl⟩) (by simp[Region.wanted,hgd,hy2 hu]) h
   | false=>
   rw[hsk] at h
   obtain⟨b,hb,c1,c2⟩:=q1g h hslot
   cases b with
   | true=>exact skip .tt (by rw[hb]; rfl) (by simp[Region.wanted,hgd,hy _ hb]) (c1 rfl)
   | false=>exact run .ff (by rw[hb]; rfl) (by simp[Region.wanted,hgd,hy _ hb]) (c2 rfl)
theorem w72 (hS:SoundAt P C m0) (hCy:C.yl=some Y) (hY:YOk P T m0 N Y RR) (hc0:Cells m0) {D:Nat->Prop} {all:Array Oper} (hall:∀o∈all.toList,∀d,o.dst=some d->D d/\N.may d) {Q:Exit->Act->World->Prop}:∀(l:List Oper) (Z:Base) (s:St) (K:St->Prop) (a:Act) (w:World),
  (∀o∈l,o∈all.toList)->T Z->Good P Z m0 N s a w->xw1 C Y all.toList l s K->(∀s' Z' a' w',K s'->T Z'->FR C.yl D s s'->Good P Z' m0 N s' a' w'->Q .normal a' w')->wpListIn (fz rr) nn P all Q l a w
 | [],Z,s,K,a,w,_,hT,hg,h,hQ=>hQ s Z a w h hT (FR.refl _ _ _) hg
 | o :: rest,Z,s,K,a,w,hl,hT,hg,h,hQ=>by
  unfold wpListIn
  exact w1x hS hCy hY hc0 hall (hl o List.mem_cons_self) hT hg h λs' Z' a' w' k1 k2 k3 k4=>
   w72 hS hCy hY hc0 hall rest Z' s' K a' w' (λo' h'=>hl o' (List.mem_cons_of_mem _ h')) k2 k4 k1 λs'' Z'' a'' w'' j1 j2 j3 j4=>hQ s'' Z'' a'' w'' j1 j2 (k3.trans j3) j4
theorem q9g {A:Nat}:∀{i:Nat},wb4 A i=true->∀k,k<i->A.testBit k=true
 | 0,_,k,hk=>by omega
 | i+1,h,k,hk=>by
  simp only[wb4] at h
  split at h
  ·rename_i h1
   by_cases e:k=i
   ·subst e; exact h1
   ·exact q9g h k (by omega)
  ·cases h
theorem q9h {T:List Nat} {n:Nat}:∀{f i:Nat},q6k T n i f=true->∀j,i<=j->j<i+f->j<n->∀k,k<j->(T.getD j 0).testBit k=true
 | 0,i,_,j,h1,h2,_,_,_=>by omega
 | f+1,i,h,j,h1,h2,h3,k,hk=>by
  simp only[q6k] at h
  split at h
  ·rename_i hb
   have:¬i<n:=λhh=>by
    have:Nat.blt i n=true:=by
     simp only[Nat.blt,Nat.ble_eq]
     exact hh
    rw[this] at hb; cases hb
   omega
  ·split at h
   ·rename_i hb
    by_cases e:j=i
    ·subst e; exact q9g hb k hk
    ·exact q9h h j (by omega) (by omega) h3 k hk
   ·cases h
theorem wn4:∀{l:List Oper} {i:Nat},q5b l i=true->∀(j:Nat) (o:Oper),l[j]? = some o->∀q,o.guard=some q->q.1<i+j
 | [],_,_,j,o,hj,_,_=>by simp at hj
 | x :: r,i,h,j,o,hj,q,hq=>by
  simp only[q5b] at h
  cases j with
  | zero=>
   simp only[List.getElem?_cons_zero,Option.some.injEq] at hj
   subst hj
   obtain⟨g,wnt⟩:=q
   rw[hq] at h
   simp only at h
   split at h
   ·rename_i hb
    simp only[Nat.blt,Nat.ble_eq] at hb
    show g<i+0
    omega
   ·cases h
  | succ j=>
   have hr:q5b r (i+1)=true:=by
    split at h
    ·split at h
     ·exact h
     ·cases h
    ·exact h
   have:=wn4 hr j o (by simpa using hj) q hq
   omega
theorem xj0 (hS:SoundAt P C m0) (hCy:C.yl=some Y) (hY:YOk P T m0 N Y RR) (hc0:Cells m0) {D:Nat->Prop} {all:Array Oper} {id:Nat} (hall:∀o∈all.toList,∀d,o.dst=some d->D d/\N.may d) {Q:Exit->Act->World->Prop} {y:Nat} (hy:yOk all.toList y=true) (hya:y<=all.size) {s:St} {K:St->Prop} {a:Act} {w:World} (hT:T Z) (hg:Good P Z m0 N s a w)
  (h:q2i C (all.toList.take y) s.mem.length 0 (all.toList.take y) ⟨s.ov,s.base,padMem s.mem (all.toList.take y)⟩ [] λs1=>xw1 C Y all.toList (all.toList.drop y) s1 K) (hQ:∀s' Z' a' w',K s'->T Z'->FR C.yl D s s'->Good P Z' m0 N s' a' w'->Q .normal a' w'):(Code.region id all true).wpIn (fz rr) nn P Q a w:=by
 obtain⟨hN,m,ρ,hr⟩:=hg
 refine wpIn_region_any hS.mixed ?_
 unfold yOk at hy
 have hy3:backOk all.toList 0=true/\q5b all.toList 0=true/\q6k (xf8 [] all.toList) all.toList.length y all.toList.length=true:=by
  revert hy
  cases backOk all.toList 0 <;> cases q5b all.toList 0 <;> intro hy <;> first | cases hy | exact⟨rfl,rfl,hy⟩
 obtain⟨hbk,hgb,hsq⟩:=hy3
 obtain⟨pre,hpre⟩:∃pre:Array Oper,pre=(all.toList.take y).toArray:=⟨_,rfl⟩
 have hpl:pre.toList=all.toList.take y:=by rw[hpre]
 have hps:pre.size=y:=by rw[hpre]; simp; omega
 have hpat:∀i,i<y->pre[i]? = all[i]?:=λi hi=>by rw[hpre]; simp[List.getElem?_take,hi]
 rw[<- hpl] at h
 obtain⟨Tr,s',hlen,hchk,hch,hst,hK⟩:=wd6 (s0:=⟨s.ov,s.base,padMem s.mem pre.toList⟩) pre.toList 0 _ [] h rfl ⟨λ_=>⟨s.ov,s.base,padMem s.mem pre.toList⟩,rfl,rfl,λn I h=>by simp at h⟩ (λk I h=>by simp at h) (λk o h=>by rw[Nat.zero_add]; exact h) (by simp)
 have hM:s.mem.length+Tr.length<=(⟨s.ov,s.base,padMem s.mem pre.toList⟩:St).mem.length:=by simp[qu1,hlen]
 have hrows:=hchk.2
 have hprem:∀o∈pre.toList,o∈all.toList:=λo ho=>by rw[hpl] at ho; exact List.mem_of_mem_take ho
 have hanc:∀{L':Nat->Bool},Down all.toList L'->∀j k,L' j=true->((xf8 [] all.toList).getD j 0).testBit k=true->L' k=true:=λhd=>wx4 hd (T:=[]) (λj o h=>by simpa using h) (λj k _ h=>by simp at h)
 -- the first part is over
 have finA:∀(pl:Array Bool) (a:Act) (w:World),(∀k,k<y->pl.getD k false=true)->xz0 P Z m0 N pre Tr ⟨s.ov,s.base,padMem s.mem pre.toList⟩ s.mem.length pl a w->∃s1,xw1 C Y all.toList (all.toList.drop y) s1 K/\Good P Z m0 N s1 a w/\FR C.yl D s s1:=by
  intro pl a w hup hI
  obtain⟨⟨s2,m2,ρ2,f1,f2,f3,f4,_⟩,_⟩:=hI
  obtain⟨σ,c1,c2,c3⟩:=hch
  have hσ:=q5x (s:=s') c1 c3 (λk J hJ=>(hrows k J hJ).1) Tr.length (Nat.le_refl _)
  rw[c2] at hσ
  have e:stF Tr (λi=>pl.getD i false) (fs ⟨s.ov,s.base,padMem s.mem pre.toList⟩) Tr.length=stF Tr (λ_=>true) (fs ⟨s.ov,s.base,padMem s.mem pre.toList⟩) Tr.length:=wd5 λk hk=>hup k (by rw[hlen] at hk; simp at hk; omega)
  refine⟨s',hK,⟨f3,m2,ρ2,f4.of_fs (f1.trans (e.trans hσ.1.symm)) (f2.trans hσ.2.symm)⟩,?_⟩
  have hfr:∀k,k<=Tr.length->FR C.yl D ⟨s.ov,s.base,padMem s.mem pre.toList⟩ (σ k):=by
   intro k
   induction k with
   | zero=>intro _; rw[c1]; exact FR.refl _ _ _
   | succ k ih=>
    intro hk
    have hJ:Tr[k]? = some Tr[k]:=List.getElem?_eq_getElem (by omega)
    obtain⟨a1,a2⟩:=c3 k _ hJ
    have hkk:=ih (by omega)
    rw[<- a1] at hkk
    rw[a2]
    exact hkk.trans ((FR.eff hS.fixs _ _ _).trans (FR.put _ λi hi=>(hall _ (hprem _ (List.mem_of_getElem? (hst k _ hJ).1)) i hi).1))
  have:=hfr Tr.length (Nat.le_refl _)
  rw[c2] at this
  exact this
 let IA:Array Bool->Act->World->Prop:=λl a w=>∃pl:Array Bool,pl.size=y/\(∀k,k<y->l.getD k false=pl.getD k false)/\(∀k,y<=k->l.getD k false=false)/\xz0 P Z m0 N pre Tr ⟨s.ov,s.base,padMem s.mem pre.toList⟩ s.mem.length pl a w
 let IB:Array Bool->Act->World->Prop:=λl a w=>∃i,y<=i/\i<=all.size/\(∀k,k<i->l.getD k false=true)/\(∀k,i<=k->l.getD k false=false)/\∃Z1 s1,T Z1/\xw1 C Y all.toList (all.toList.drop i) s1 K/\Good P Z1 m0 N s1 a w/\FR C.yl D s s1
 have toB:∀l a w,IA l a w->(∀k,k<y->l.getD k false=true)->IB l a w:=by
  rintro l a w ⟨pl,p1,p2,p3,p4⟩ hup
  obtain⟨s1,q1,q2,q3⟩:=finA pl a w (λk hk=>by rw[<- p2 k hk]; exact hup k hk) p4
  exact⟨y,Nat.le_refl _,hya,hup,p3,Z,s1,hT,q1,q2,q3⟩
 -- a step of the second part
 have stepB:∀l a w i,l.size=all.size->IB l a w->i∈Region.ready .any all l->(∀k,k<i->l.getD k false=true)->wpOpIn (fz rr) nn P all Q i (λa w=>IA (l.setIfInBounds i true) a w\/IB (l.setIfInBounds i true) a w) a w:=by
  rintro l a w i hl ⟨i0,b1,b2,b3,b4,Z1,s1,b5,b6,b7,b8⟩ hi hall2
  obtain⟨hir,hun,hpr⟩:=Ls.ready_of hi
  have hLi:l.getD i false=false:=by
   have e:l.getD i true=l.getD i false:=by simp[Array.getD,show i<l.size by omega]
   rw[<- e]; exact hun
  have h1:i0<=i:=by
   rcases Nat.lt_or_ge i i0 with h | h
   ·rw[b3 i h] at hLi; cases hLi
   ·exact h
  have h2:i=i0:=by
   rcases Nat.lt_or_ge i0 i with h | h
   ·have:=hall2 i0 h
    rw[b4 i0 (Nat.le_refl _)] at this; cases this
   ·omega
  subst h2
  have ho:all[i]? = some all[i]:=Array.getElem?_eq_getElem hir
  have hdrop:all.toList.drop i=all[i] :: all.toList.drop (i+1):=by
   rw[List.drop_eq_getElem_cons (by simpa using hir)]
   simp
  rw[hdrop] at b6
  unfold wpOpIn
  rw[ho]
  refine w1x hS hCy hY hc0 hall (by simp) b5 b7 b6 λs2 Z2 a2 w2 k1 k2 k3 k4=>.inr ?_
  have hins:=congrFun (qz2 (l:=l) (i:=i) (by omega))
  refine⟨i+1,by omega,by omega,λk hk=>?_,λk hk=>?_,Z2,s2,k2,k1,k4,b8.trans k3⟩
  ·have:=hins k
   simp only[ins] at this
   rw[this]
   split
   ·rfl
   ·exact b3 k (by omega)
  ·have:=hins k
   simp only[ins] at this
   rw[this,if_neg (by omega)]
   exact b4 k (by omega)
 have downOf:∀l i,l.size=all.size->i∈Region.ready .any all l->Down all.toList (λk=>l.getD k false)->∀k,y<=i->k<i->l.getD k false=true:=by
  intro l i hl hi hdn k hyi hki
  obtain⟨hir,hun,hpr⟩:=Ls.ready_of hi
  have hd:Down all.toList (ins (λk=>l.getD k false) i):=by
   intro j o hj hLj e he hb
   by_cases hji:j=i
   ·subst hji
    have:=hpr o (by simpa using hj) e (by simpa using he) hb
    show(if e.on=j then true else l.getD e.on false)=true
    split
    ·rfl
    ·exact this
   ·have h2:l.getD j false=true:=by simpa[ins,hji] using hLj
    have:=hdn j o hj h2 e he hb
    show(if e.on=i then true else l.getD e.on false)=true
    split
    ·rfl
    ·exact this
  have hbit:=q9h hsq i hyi (by simp; omega) (by simpa using hir) k hki
  have:=hanc hd i k (by simp[ins]) hbit
  simpa[ins,show k≠i by omega] using this
 have downA:∀l a w,IA l a w->Down all.toList (λk=>l.getD k false):=by
  rintro l a w ⟨pl,p1,p2,p3,p4⟩ j o hj hLj e he hb
  have hjy:j<y:=by
   rcases Nat.lt_or_ge j y with h | h
   ·exact h
   ·have hLj:l.getD j false=true:=hLj
    rw[p3 j h] at hLj; cases hLj
  have hlt:=q0x (all:=all.toList) hbk j o hj e he hb
  have h1:pl.getD j false=true:=by rw[<- p2 j hjy]; exact hLj
  have:=p4.down j o (by rw[hpl,List.getElem?_take,if_pos hjy]; exact hj) h1 e he hb
  show l.getD e.on false=true
  rw[p2 e.on (by omega)]
  exact this
 have downB:∀l a w,IB l a w->Down all.toList (λk=>l.getD k false):=by
  rintro l a w ⟨i0,b1,b2,b3,b4,_⟩ j o hj hLj e he hb
  have hji:j<i0:=by
   rcases Nat.lt_or_ge j i0 with h | h
   ·exact h
   ·have hLj:l.getD j false=true:=hLj
    rw[b4 j h] at hLj; cases hLj
  have hlt:=q0x (all:=all.toList) hbk j o hj e he hb
  exact b3 e.on (by omega)
 refine Ls.wpAnyIn_inv (λl a w=>IA l a w\/IB l a w) (λl a w i hl hI hi=>?_) (λl a w hl hI hready=>?_) all.size _ a _ (by simp) ?_ (.inl ?_)
 ·rcases hI with hA | hB
  ·rcases Nat.lt_or_ge i y with hiy | hiy
   ·have hA':=hA
    obtain⟨pl,p1,p2,p3,p4⟩:=hA
    obtain⟨hir,hun,hpr⟩:=Ls.ready_of hi
    have hrdy:i∈Region.ready .any pre pl:=by
     refine mem_ready.2 ⟨?_,all[i],by rw[hpat i hiy]; exact Array.getElem?_eq_getElem hir,λe he hb=>?_⟩
     ·have e1:l.getD i true=l.getD i false:=by simp[Array.getD,show i<l.size by omega]
      have e2:pl.getD i true=pl.getD i false:=by simp[Array.getD,show i<pl.size by omega]
      rw[e2,<- p2 i hiy,<- e1]; exact hun
     ·have hlt:=q0x (all:=all.toList) hbk i all[i] (by simp[hir]) e (by simpa using he) hb
      rw[<- p2 e.on (by omega)]
      exact hpr all[i] (Array.getElem?_eq_getElem hir) e he hb
    have hstep:=wn1 (r:=rr) (n:=nn) (Q:=Q) hS (λo ho d hd=>(hall o (hprem o ho) d hd).2) hlen hchk hch hst hM (by rw[p1,hps]) p4 hrdy
    have hw:wpOpIn (fz rr) nn P all Q i (xz0 P Z m0 N pre Tr ⟨s.ov,s.base,padMem s.mem pre.toList⟩ s.mem.length (pl.setIfInBounds i true)) a w:=by
     unfold wpOpIn at hstep ⊢
     rw[hpat i hiy] at hstep
     have ho:all[i]? = some all[i]:=Array.getElem?_eq_getElem hir
     rw[ho] at hstep ⊢
     simp only at hstep ⊢
     have e:Region.wanted all[i] (yielded all a.tmps)=Region.wanted all[i] (yielded pre a.tmps):=by
      unfold Region.wanted
      cases hgd:all[i].guard with
      | none=>rfl
      | some q=>
       have hq:=wn4 hgb i all[i] (by simp[hir]) q hgd
       obtain⟨j,wnt⟩:=q
       simp only
       have:yielded all a.tmps j=yielded pre a.tmps j:=by unfold yielded; rw[hpat j (by simp at hq; omega)]
       rw[this]
     rw[e]
     exact hstep
    refine wpOpIn_mono (λa2 w2 hD=>.inl ⟨pl.setIfInBounds i true,by simp[p1],λk hk=>?_,λk hk=>?_,hD⟩) hw
    ·rw[congrFun (qz2 (l:=l) (i:=i) (by omega)) k,congrFun (qz2 (l:=pl) (i:=i) (by omega)) k]
     simp only[ins,p2 k hk]
    ·rw[congrFun (qz2 (l:=l) (i:=i) (by omega)) k]
     simp only[ins]
     rw[if_neg (by omega)]
     exact p3 k hk
   ·have hup:=downOf l i hl hi (downA l a w hA)
    exact stepB l a w i hl (toB l a w hA λk hk=>hup k hiy (by omega)) hi λk hk=>hup k hiy hk
  ·have hB':=hB
   obtain⟨i0,b1,b2,b3,b4,_⟩:=hB
   obtain⟨hir,hun,hpr⟩:=Ls.ready_of hi
   have hLi:l.getD i false=false:=by
    have e:l.getD i true=l.getD i false:=by simp[Array.getD,show i<l.size by omega]
    rw[<- e]; exact hun
   have hiy:y<=i:=by
    rcases Nat.lt_or_ge i i0 with h | h
    ·rw[b3 i h] at hLi; cases hLi
    ·omega
   exact stepB l a w i hl hB' hi λk hk=>downOf l i hl hi (downB l a w hB') k hiy hk
 ·have hup:=all_up hbk hl hready
  have hB:IB l a w:=by
   rcases hI with hA | hB
   ·exact toB l a w hA λk hk=>hup k (by omega)
   ·exact hB
  obtain⟨i0,b1,b2,b3,b4,Z1,s1,b5,b6,b7,b8⟩:=hB
  have:i0=all.size:=by
   rcases Nat.lt_or_ge i0 all.size with h | h
   ·have:=hup i0 h; rw[b4 i0 (Nat.le_refl _)] at this; cases this
   ·omega
  subst this
  rw[List.drop_eq_nil_of_le (by simp)] at b6
  exact hQ s1 Z1 a w b6 b5 b8 b7
 ·unfold Ls.pend
  have:=List.count_le_length (a:=false) (l:=(Array.replicate all.size false).toList)
  simp
 ·have hL:∀(n k:Nat),(Array.replicate n false).getD k false=false:=λn k=>by simp[Array.getD]
  refine⟨Array.replicate y false,by simp,λk _=>by rw[hL,hL],λk _=>hL _ k,⟨⟨s.ov,s.base,padMem s.mem pre.toList⟩,m,ρ++List.replicate pre.toList.length (.bool false),(q50 Tr _ (hL _) _).symm,rfl,hN,(hr.pad pre.toList).drew,λi hi _=>⟨false,?_⟩⟩,λj o _ hj=>by have hj:(Array.replicate y false).getD j false=true:=hj; rw[hL] at hj; cases hj⟩
  rw[<- hr.len,List.getElem?_append_right (by omega)]
  rw[hlen] at hi
  simp only[Nat.add_sub_cancel_left]
  rw[List.getElem?_replicate]
  simp only[Array.length_toList] at hi ⊢
  rw[if_pos hi]
end
end Eng
set_option linter.unusedVariables false
set_option linter.unusedSimpArgs false
namespace Eng
open Go Go.RowKit
section
variable {P : Program} {w0 : Base} {m0 : View} {C : Ctx} {N : Frm}
theorem least {p:Nat->Prop} (h:∃n,p n):∃n,p n/\∀m,p m->n<=m:=by
 obtain⟨n,hn⟩:=h
 induction n using Nat.strongRecOn with
 | _ n ih=>
  by_cases hq:∃k,k<n/\p k
  ·obtain⟨k,hk,hp⟩:=hq; exact ih k hk hp
  ·exact⟨n,hn,λm hm=>Nat.le_of_not_lt λhlt=>hq ⟨m,hlt,hm⟩⟩
theorem w4w {S:Type} {F:Fence} {n:Nat} {c:Code} {Q:Exit->Act->World->Prop} {a:Act} {w:World} (G:S->Act->World->Prop) (μ:S->Nat) (x0:S) (h0:G x0 a w)
  (round:∀x a w,G x a w->c.wpIn F n P (Exit.then (λa' w'=>∃x',μ x' < μ x/\G x' a' w') Q) a w):(Code.loop c).wpIn F n P Q a w:=by
 classical
 let p:Act->World->Nat->Prop:=λa w k=>∃x,μ x=k/\G x a w
 let M:Act->World->Nat:=λa w=>if h:∃k,p a w k then Classical.choose (least h) else 0
 refine wpIn_loop (λa w=>∃x,G x a w) M ⟨x0,h0⟩ λa w hI=>?_
 have hex:∃k,p a w k:=by obtain⟨x,hx⟩:=hI; exact⟨μ x,x,rfl,hx⟩
 have hM:M a w=Classical.choose (least hex):=by simp only[M]; rw[dif_pos hex]
 obtain⟨hp,hmin⟩:=Classical.choose_spec (least hex)
 obtain⟨x,hx1,hx2⟩:=hp
 refine wpIn_mono (round x a w hx2) λe a' w' hq=>?_
 cases e with
 | normal=>
  obtain⟨x',k1,k2⟩:=hq
  refine⟨⟨x',k2⟩,?_⟩
  have hex':∃k,p a' w' k:=⟨μ x',x',rfl,k2⟩
  have hM':M a' w'=Classical.choose (least hex'):=by simp only[M]; rw[dif_pos hex']
  have:=(Classical.choose_spec (least hex')).2 (μ x') ⟨x',rfl,k2⟩
  rw[hM,hM',<- hx1] at *
  omega
 | _=>exact hq
def qo5 (y:Option qh2) (sl:List (Nat × AV)) (mem:List AObj) (ds:List Nat) (s0:St):St:=⟨sl,λi=>match ds.elem i with
 | true=>.any
 | false=>kpK y i (s0.get i),mem⟩
theorem wd9 (y:Option qh2) (sl:List (Nat × AV)) (mem:List AObj) (ds:List Nat) (s0:St) (k:St->Prop):wk4 y sl mem ds s0 k=k (qo5 y sl mem ds s0):=by
 simp only[wk4,q6m,qs0]; rfl
theorem q51 {m:View} {ρ:List Value} {av:AV}:∀{vs:List Value},av.ok P m ρ vs->av.strip.ok P m ρ vs:=by
 induction av with
 | own g=>intro vs k; obtain⟨v,_,k2⟩:=k; exact⟨v,k2⟩
 | optr g t i off=>intro vs k; obtain⟨b,n,c,_,k2⟩:=k; exact⟨_,k2⟩
 | msl g j=>intro vs k; obtain⟨hs,v,_,_,k2⟩:=k; exact⟨_,k2⟩
 | mptr g j t i off=>intro vs k; obtain⟨hs,b,n,c,_,_,k2⟩:=k; exact⟨_,k2⟩
 | msub g x y=>intro vs k; obtain⟨hs,A,n,c,_,_,_,k2⟩:=k; exact⟨_,k2⟩
 | imm cs off ih=>intro vs k; obtain⟨ad,us,k1,k2,k3⟩:=k; exact⟨ad,us,k1,ih k2,k3⟩
 | clo f caps ih=>intro vs k; obtain⟨cs,k1,k2⟩:=k; exact⟨cs,k1,ih k2⟩
 | agg l ih=>intro vs k; obtain⟨cs,k1,k2⟩:=k; exact⟨cs,k1,ih k2⟩
 | tup l ih=>intro vs k; obtain⟨cs,k1,k2⟩:=k; exact⟨cs,k1,ih k2⟩
 | cons a b iha ihb=>intro vs k; obtain⟨v,rest,k1,k2,k3⟩:=k; exact⟨v,rest,k1,iha k2,ihb k3⟩
 | _=>intro vs k; exact k
theorem w73 {m:View} {ρ:List Value} {n:Nat} {av:AV}:∀{vs:List Value},av.bnd n=true->av.ok P m ρ vs->av.ok P m (ρ.take n) vs:=by
 have tk:∀(g:Nat) (v:Value),Nat.blt g n=true->ρ[g]? = some v->(ρ.take n)[g]? = some v:=λg v hg hv=>by
  have hg':g<n:=by simp[Nat.blt] at hg; omega
  rw[List.getElem?_take,if_pos hg']; exact hv
 induction av with
 | own g=>intro vs h k; obtain⟨v,⟨k1,k3⟩,k2⟩:=k; exact⟨v,⟨tk g v h k1,k3⟩,k2⟩
 | box g off=>intro vs h k; obtain⟨b,k1,k2⟩:=k; exact⟨b,tk g _ h k1,k2⟩
 | optr g t i off=>intro vs h k; obtain⟨b,nn,c,k1,k2⟩:=k; exact⟨b,nn,c,tk g _ h k1,k2⟩
 | msl g j=>intro vs h k; obtain⟨hs,v,k1,k2⟩:=k; exact⟨hs,v,tk g _ h k1,k2⟩
 | mptr g j t i off=>intro vs h k; obtain⟨hs,b,nn,c,k1,k2⟩:=k; exact⟨hs,b,nn,c,tk g _ h k1,k2⟩
 | msub g x y=>intro vs h k; obtain⟨hs,A,nn,c,k1,k2⟩:=k; exact⟨hs,A,nn,c,tk g _ h k1,k2⟩
 | imm cs off ih=>intro vs h k; obtain⟨ad,us,k1,k2,k3⟩:=k; exact⟨ad,us,k1,ih h k2,k3⟩
 | clo f caps ih=>intro vs h k; obtain⟨cs,k1,k2⟩:=k; exact⟨cs,k1,ih h k2⟩
 | agg l ih=>intro vs h k; obtain⟨cs,k1,k2⟩:=k; exact⟨cs,k1,ih h k2⟩
 | tup l ih=>intro vs h k; obtain⟨cs,k1,k2⟩:=k; exact⟨cs,k1,ih h k2⟩
 | cons a b iha ihb=>
  intro vs h k
  obtain⟨v,rest,k1,k2,k3⟩:=k
  simp only[AV.bnd] at h
  split at h
  ·rename_i h1; exact⟨v,rest,k1,iha h1 k2,ihb h k3⟩
  ·cases h
 | _=>intro vs h k; exact k
theorem w1y {m:View} {ρ:List Value} {av:AV}:∀{vs:List Value},av.ok P m ρ vs->av.bnd ρ.length=true:=by
 have lt:∀(g:Nat) (v:Value),ρ[g]? = some v->Nat.blt g ρ.length=true:=λg v hv=>by
  have:=(List.getElem?_eq_some_iff.1 hv).1; simp[Nat.blt]; omega
 induction av with
 | own g=>intro vs k; obtain⟨v,⟨k1,_⟩,_⟩:=k; exact lt g v k1
 | box g off=>intro vs k; obtain⟨b,k1,_⟩:=k; exact lt g _ k1
 | optr g t i off=>intro vs k; obtain⟨b,nn,c,k1,_⟩:=k; exact lt g _ k1
 | msl g j=>intro vs k; obtain⟨hs,v,k1,_⟩:=k; exact lt g _ k1
 | mptr g j t i off=>intro vs k; obtain⟨hs,b,nn,c,k1,_⟩:=k; exact lt g _ k1
 | msub g x y=>intro vs k; obtain⟨hs,A,nn,c,k1,_⟩:=k; exact lt g _ k1
 | imm cs off ih=>intro vs k; obtain⟨ad,us,k1,k2,k3⟩:=k; exact ih k2
 | clo f caps ih=>intro vs k; obtain⟨cs,k1,k2⟩:=k; exact ih k2
 | agg l ih=>intro vs k; obtain⟨cs,k1,k2⟩:=k; exact ih k2
 | tup l ih=>intro vs k; obtain⟨cs,k1,k2⟩:=k; exact ih k2
 | cons a b iha ihb=>
  intro vs k
  obtain⟨v,rest,k1,k2,k3⟩:=k
  simp only[AV.bnd,iha k2,ihb k3]
 | _=>intro vs k; rfl
theorem q63 {n:Nat} {av:AV} (h:av.bnd n=true):av.strip.bnd n=true:=by
 induction av with
 | imm cs off ih=>exact ih h
 | clo f c ih=>exact ih h
 | agg c ih=>exact ih h
 | tup c ih=>exact ih h
 | cons a b iha ihb=>
  simp only[AV.bnd] at h
  split at h
  ·rename_i h1; simp only[AV.strip,AV.bnd,iha h1,ihb h]
  ·cases h
 | own g=>rfl
 | optr g t i off=>rfl
 | msl g j=>rfl
 | mptr g j t i off=>rfl
 | msub g x y=>rfl
 | _=>exact h
theorem we0 {v u:Value} (h:w6m v u):v=u:=by
 unfold w6m at h
 split at h
 ·split at h
  ·split at h
   ·rename_i hk; have hk:=of_decide_eq_true hk; subst hk; subst h; rfl
   ·exact h.elim
  ·exact h
 ·split at h
  ·rw[h]
  ·exact h
 ·exact h
theorem xj1 {a b:Option Nat} (h:x2n a b):a=b:=by
 cases a with
 | none=>cases b with
  | none=>rfl
  | some b=>exact h
 | some a=>exact h
theorem qq6 {a b:Nat} {p:Prop} (h:same a b p):a=b/\p:=by
 unfold same at h
 split at h
 ·rename_i e; exact⟨Nat.eq_of_beq_eq_true e,h⟩
 ·exact h.elim
theorem q52 {v:Value} {p:Prop} (h:w3y v p):v=.slice none 0 0/\p:=by
 unfold w3y at h
 split at h
 ·rename_i e
  refine⟨?_,h⟩
  unfold isNil at e
  split at e
  ·split at e
   ·split at e
    ·rfl
    ·cases e
   ·cases e
  ·cases e
 ·exact h.elim
def Born (ρ:List Value) (b:Option Nat):Prop:=∀N,b=some N->∀g,(Nat.testBit N (2*g)=true->ρ[g]? = some (.slice none 0 0))/\(Nat.testBit N (2*g+1)=true->ρ[g]? = some (qg4 [.slice none 0 0]))
theorem Born.none {ρ:List Value}:Born ρ none:=λ_ h=>by cases h
theorem w1z {n:Nat} {a b:AV} (h:(AV.cons a b).bnd n=true):a.bnd n=true/\b.bnd n=true:=by
 simp only[AV.bnd] at h
 split at h
 ·rename_i h1; exact⟨h1,h⟩
 ·cases h
theorem q4n {m:View} {ρ:List Value} {b:Option Nat} {v:AV}:∀{v':AV} {vs:List Value},Born ρ b->AV.le b v v'->v.ok P m ρ vs->v'.ok P m ρ vs:=by
 induction v with
 | nil=>intro v' vs hB h k; cases v' <;> first | exact h.elim | exact k
 | cons a b iha ihb=>
  intro v' vs hB h k
  cases v' <;> first | exact h.elim | skip
  obtain⟨v,rest,k1,k2,k3⟩:=k
  exact⟨v,rest,k1,iha hB h.1 k2,ihb hB h.2 k3⟩
 | any=>intro v' vs hB h k; cases v' <;> first | exact h.elim | exact k
 | lit x=>
  intro v' vs hB h k
  obtain rfl:vs=[x]:=k
  cases v' <;> first | exact h.elim | exact⟨_,rfl⟩ | skip
  ·exact congrArg (λy=>[y]) (we0 h)
  ·obtain⟨rfl,hl⟩:=q52 h
   subst hl
   exact⟨none,0,rfl,Nat.le_refl _,by unfold maxLen; simp,λhh=>absurd hh (by simp)⟩
  ·obtain⟨rfl,hl⟩:=q52 h
   subst hl
   rename_i c _
   exact⟨⟨none,0,rfl,Nat.le_refl _,by unfold maxLen; simp,λhh=>absurd hh (by simp)⟩,by cases c <;> first | exact λ_=>rfl | exact⟨none,rfl⟩⟩
  ·rename_i g
   cases b with
   | none=>exact h.elim
   | some b0=>
    simp only[AV.le] at h
    split at h
    ·rename_i hle
     obtain⟨rfl,-⟩:=q52 h
     exact⟨_,⟨(hB b0 rfl g).1 hle,rfl⟩,rfl⟩
    ·exact h.elim
  ·rename_i g j
   cases b with
   | none=>exact h.elim
   | some b0=>
    cases j with
    | some j=>exact h.elim
    | none=>
     simp only[AV.le] at h
     split at h
     ·rename_i hle
      obtain⟨rfl,-⟩:=q52 h
      exact⟨_,_,(hB b0 rfl g).2 hle,⟨rfl,rfl⟩,rfl⟩
     ·exact h.elim
 | tt=>
  intro v' vs hB h k
  obtain rfl:vs=[_]:=k
  cases v' <;> first | exact h.elim | exact⟨_,rfl⟩ | exact rfl | exact congrArg (λy=>[y]) (we0 h)
 | ff=>
  intro v' vs hB h k
  obtain rfl:vs=[_]:=k
  cases v' <;> first | exact h.elim | exact⟨_,rfl⟩ | exact rfl | exact congrArg (λy=>[y]) (we0 h)
 | dat t l=>
  intro v' vs hB h k
  cases v' <;> first | exact h.elim | skip
  ·obtain⟨A,c,rfl,_⟩:=k; exact⟨_,rfl⟩
  ·simp only[AV.le,qn5] at h
   obtain⟨rfl,hl⟩:=h
   obtain rfl:=hl l HEq.rfl
   exact k
  ·rename_i c _ _
   cases c <;> first | exact h.elim | skip
   simp only[AV.le,qn5] at h
   obtain⟨rfl,hl⟩:=h
   obtain⟨rfl,hl⟩:=hl l HEq.rfl
   exact⟨k,λe=>by omega⟩
 | ndat c t l=>
  intro v' vs hB h k
  cases v' <;> first | exact h.elim | skip
  ·obtain⟨⟨A,c,rfl,_⟩,_⟩:=k; exact⟨_,rfl⟩
  ·simp only[AV.le,qn5] at h
   obtain⟨rfl,hl⟩:=h
   obtain rfl:=hl l HEq.rfl
   exact k.1
  ·rename_i c' _ _
   cases c <;> cases c' <;> first | exact h.elim | skip
   all_goals
    simp only[AV.le,qn5] at h
    obtain⟨rfl,hl⟩:=h
    obtain rfl:=hl l HEq.rfl
    exact k
 | own g=>
  intro v' vs hB h k
  cases v' <;> first | exact h.elim | skip
  ·obtain⟨u,_,rfl⟩:=k; exact⟨_,rfl⟩
  ·obtain⟨rfl,-⟩:=qq6 h; exact k
 | box g o=>
  intro v' vs hB h k
  cases v' <;> first | exact h.elim | skip
  ·obtain⟨u,_,rfl⟩:=k; exact⟨_,rfl⟩
  ·obtain⟨rfl,h2⟩:=qq6 h; obtain⟨rfl,-⟩:=qq6 h2; exact k
 | dptr t l i o=>
  intro v' vs hB h k
  cases v' <;> first | exact h.elim | skip
  ·obtain⟨_,ad,cs,rfl,_⟩:=k; exact⟨_,rfl⟩
  ·simp only[AV.le,qn5] at h
   obtain⟨rfl,hl⟩:=h
   obtain⟨rfl,rfl,rfl⟩:=hl l HEq.rfl
   exact k
 | optr g t i o=>
  intro v' vs hB h k
  cases v' <;> first | exact h.elim | skip
  obtain⟨b,n,c,_,rfl⟩:=k; exact⟨_,rfl⟩
 | msl g j=>
  intro v' vs hB h k
  cases v' <;> first | exact h.elim | skip
  ·obtain⟨hs,v,_,_,rfl⟩:=k; exact⟨_,rfl⟩
  ·obtain⟨rfl,h2⟩:=qq6 h
   obtain rfl:=xj1 h2
   exact k
 | mptr g j t i o=>
  intro v' vs hB h k
  cases v' <;> first | exact h.elim | skip
  obtain⟨hs,b,n,c,_,_,rfl⟩:=k; exact⟨_,rfl⟩
 | msub g x y=>
  intro v' vs hB h k
  cases v' <;> first | exact h.elim | skip
  obtain⟨hs,A,n,c,_,_,_,rfl⟩:=k; exact⟨_,rfl⟩
 | imm c o ih=>
  intro v' vs hB h k
  cases v' <;> first | exact h.elim | skip
  ·obtain⟨ad,us,rfl,_⟩:=k; exact⟨_,rfl⟩
  ·obtain⟨h1,rfl⟩:=h
   obtain⟨ad,us,k1,k2,k3⟩:=k
   exact⟨ad,us,k1,ih hB h1 k2,k3⟩
 | fn a r p f=>
  intro v' vs hB h k
  cases v' <;> first | exact h.elim | skip
  ·obtain⟨u,rfl,_⟩:=k; exact⟨_,rfl⟩
  ·obtain⟨rfl,rfl,h1,h2⟩:=h
   obtain rfl:=eq_of_heq h1
   obtain rfl:=eq_of_heq h2
   exact k
 | clo f c ih=>
  intro v' vs hB h k
  cases v' <;> first | exact h.elim | skip
  ·obtain⟨u,rfl,_⟩:=k; exact⟨_,rfl⟩
  ·obtain⟨rfl,h1⟩:=qq6 h
   obtain⟨cs,k1,k2⟩:=k
   exact⟨cs,k1,ih hB h1 k2⟩
 | agg c ih=>
  intro v' vs hB h k
  cases v' <;> first | exact h.elim | skip
  ·obtain⟨u,rfl,_⟩:=k; exact⟨_,rfl⟩
  ·obtain⟨cs,k1,k2⟩:=k
   exact⟨cs,k1,ih hB h k2⟩
 | tup c ih=>
  intro v' vs hB h k
  cases v' <;> first | exact h.elim | skip
  ·obtain⟨u,rfl,_⟩:=k; exact⟨_,rfl⟩
  ·obtain⟨cs,k1,k2⟩:=k
   exact⟨cs,k1,ih hB h k2⟩
theorem q9i {b:Option Nat} {s':St} {n:Nat} {i:Nat} {d:AV}:∀{sl:List (Nat × AV)},q0p b s' sl->qu4 n sl=true->(look sl i d=d/\∀p∈sl,p.1≠i)\/(AV.le b (s'.get i) (look sl i d)/\(look sl i d).bnd n=true)
 | [],_,_=>.inl ⟨rfl,λp hp=>by cases hp⟩
 | (j,v) :: r,h,hb=>by
  simp only[qu4] at hb
  split at hb
  ·rename_i hv
   simp only[look]
   split
   ·rename_i e; have e:=Nat.eq_of_beq_eq_true e; subst e; exact .inr ⟨h.1,hv⟩
   ·rename_i e
    rcases q9i (i:=i) (d:=d) h.2 hb with⟨h1,h2⟩ | h1
    ·refine .inl ⟨h1,λp hp=>?_⟩
     rcases List.mem_cons.1 hp with rfl | hp
     ·intro e'
      have e':j=i:=e'
      subst e'
      simp at e
     ·exact h2 p hp
    ·exact .inr h1
  ·cases hb
def x6j (o:AObj):Prop:=(∃e t,o=.vec e t [])\/∃eh e t,o=.mat eh e t [] none none
theorem qn2 {b:Option Nat}:∀{m m':List AObj},q0c b m m'->∀g,AObj.le b (qa3 m g) (qa3 m' g)\/(b≠none/\m.length<=g/\x6j (qa3 m' g))
 | m,[],_,g=>.inl (by cases qa3 m g <;> trivial)
 | o :: r,o' :: r',h,0=>.inl h.1
 | o :: r,o' :: r',h,g+1=>by
  rcases qn2 h.2 g with k | ⟨k1,k2,k3⟩
  ·exact .inl k
  ·exact .inr ⟨k1,by simpa using k2,k3⟩
 | [],o' :: r',h,g=>by
  cases b with
  | none=>exact h.elim
  | some b0=>
   have rcs:q0c (some b0) [] r'->x6j o'->AObj.le (some b0) (qa3 [] g) (qa3 (o' :: r') g)\/(some b0≠none/\([]:List AObj).length<=g/\x6j (qa3 (o' :: r') g)):=λh2 h1=>by
    cases g with
    | zero=>exact Or.inr ⟨by simp,by simp,h1⟩
    | succ g=>
     rcases qn2 h2 g with k | ⟨k1,k2,k3⟩
     ·exact .inl k
     ·exact .inr ⟨k1,by simp,k3⟩
   cases o' with
   | vec e t l=>
    obtain⟨h1,h2⟩:=h
    exact rcs h2 (.inl ⟨e,t,by rw[h1]⟩)
   | mat eh e t l ix lt=>
    cases ix <;> cases lt <;> first | exact h.elim | skip
    obtain⟨h1,h2⟩:=h
    exact rcs h2 (.inr ⟨eh,e,t,by rw[h1]⟩)
   | _=>exact h.elim
theorem qm3 {n:Nat}:∀{m:List AObj},qs5 n m=true->∀g ty c,qa3 m g=.box ty c->c.bnd n=true
 | [],_,g,ty,c,h=>by cases h
 | .box t d :: r,hb,0,ty,c,h=>by
  simp only[qs5] at hb
  split at hb
  ·rename_i hd; simp only[qa3,AObj.box.injEq] at h; rw[<- h.2]; exact hd
  ·cases hb
 | .box t d :: r,hb,g+1,ty,c,h=>by
  simp only[qs5] at hb
  split at hb
  ·exact qm3 hb g ty c h
  ·cases hb
 | .bld _ _ _ :: r,hb,0,ty,c,h=>by cases h
 | .bld _ _ _ :: r,hb,g+1,ty,c,h=>qm3 (m:=r) hb g ty c h
 | .sit _ _ :: r,hb,0,ty,c,h=>by cases h
 | .sit _ _ :: r,hb,g+1,ty,c,h=>qm3 (m:=r) hb g ty c h
 | .mp _ _ :: r,hb,0,ty,c,h=>by cases h
 | .mp _ _ :: r,hb,g+1,ty,c,h=>qm3 (m:=r) hb g ty c h
 | .dead :: r,hb,0,ty,c,h=>by cases h
 | .dead :: r,hb,g+1,ty,c,h=>qm3 (m:=r) hb g ty c h
 | .cnt _ :: r,hb,0,ty,c,h=>by cases h
 | .cnt _ :: r,hb,g+1,ty,c,h=>qm3 (m:=r) hb g ty c h
 | .mat _ _ _ _ _ _ :: r,hb,0,ty,c,h=>by cases h
 | .mat _ _ _ _ _ _ :: r,hb,g+1,ty,c,h=>qm3 (m:=r) hb g ty c h
 | .vec _ _ _ :: r,hb,0,ty,c,h=>by cases h
 | .vec _ _ _ :: r,hb,g+1,ty,c,h=>qm3 (m:=r) hb g ty c h
def wn5:AObj->Value
 | .mat _ _ _ _ _ _=>qg4 [.slice none 0 0]
 | _=>.slice none 0 0
def w74 (ρ:List Value) (mem:List AObj):List Value:=ρ++(mem.drop ρ.length).map wn5
def headρ (ρ:List Value) (mem:List AObj):List Value:=(w74 ρ mem).take mem.length
theorem q9j:∀(l:List AObj) (i:Nat),i<l.length->l[i]? = some (qa3 l i)
 | [],i,h=>absurd h (by simp)
 | o :: r,0,_=>rfl
 | o :: r,i+1,h=>by simpa[qa3] using q9j r i (by simpa using h)
theorem w11 {ρ:List Value} {mem:List AObj} {g:Nat} {v:Value} (h:ρ[g]? = some v):(w74 ρ mem)[g]? = some v:=by
 unfold w74
 rw[List.getElem?_append_left (List.getElem?_eq_some_iff.1 h).1]; exact h
theorem we3 {ρ:List Value} {mem:List AObj} {g:Nat} (hg:g<mem.length) (h:ρ.length<=g):(w74 ρ mem)[g]? = some (wn5 (qa3 mem g)):=by
 unfold w74
 rw[List.getElem?_append_right h,List.getElem?_map,List.getElem?_drop,show ρ.length+(g-ρ.length)=g by omega,q9j mem g hg]
 rfl
theorem headρ_old {ρ:List Value} {mem:List AObj} {g:Nat} {v:Value} (hg:g<mem.length) (h:ρ[g]? = some v):(headρ ρ mem)[g]? = some v:=by
 unfold headρ
 rw[List.getElem?_take,if_pos hg]; exact w11 h
theorem headρ_new {ρ:List Value} {mem:List AObj} {g:Nat} (hg:g<mem.length) (h:ρ.length<=g):(headρ ρ mem)[g]? = some (wn5 (qa3 mem g)):=by
 unfold headρ
 rw[List.getElem?_take,if_pos hg]; exact we3 hg h
theorem xj2 {ρ:List Value} {mem:List AObj} {v:Value} (h:v∈w74 ρ mem):v∈ρ\/∃o,v=wn5 o:=by
 unfold w74 at h
 rcases List.mem_append.1 h with h | h
 ·exact .inl h
 ·obtain⟨o,_,rfl⟩:=List.mem_map.1 h; exact .inr ⟨o,rfl⟩
theorem headρ_back {ρ:List Value} {mem:List AObj} {g:Nat} {v:Value} (h:(headρ ρ mem)[g]? = some v):ρ[g]? = some v\/∃o,v=wn5 o:=by
 unfold headρ at h
 rw[List.getElem?_take] at h
 split at h
 ·unfold w74 at h
  rcases Nat.lt_or_ge g ρ.length with hl | hl
  ·rw[List.getElem?_append_left hl] at h; exact .inl h
  ·rw[List.getElem?_append_right hl,List.getElem?_map] at h
   obtain⟨o,_,rfl⟩:=Option.map_eq_some_iff.1 h
   exact .inr ⟨o,rfl⟩
 ·cases h
theorem w75 {o:AObj} {b:Nat} (h:Blk (wn5 o) b):False:=by
 cases o <;> first | (cases h; done) | skip
 all_goals first
  | (obtain⟨u,hu,hb⟩:=qe0.1 (show Blk (qg4 [.slice none 0 0]) b from h); obtain rfl:=List.mem_singleton.1 hu; cases hb)
  | (exact absurd h (by simp[wn5,Blk,blk]))
theorem q0y {b0:Nat}:∀{l:List AObj} {i x:Nat},(qn6 b0 l i).testBit x=true->∃j,j<l.length/\b0<=i+j/\((x=2*(i+j)/\∃e t l',qa3 l j=.vec e t l')\/(x=2*(i+j)+1/\∃eh e t r ix lt,qa3 l j=.mat eh e t r ix lt))
 | [],i,x,h=>by simp[qn6] at h
 | o :: r,i,x,h=>by
  have next:(qn6 b0 r (i+1)).testBit x=true->∃j,j<(o :: r).length/\b0<=i+j/\((x=2*(i+j)/\∃e t l',qa3 (o :: r) j=.vec e t l')\/(x=2*(i+j)+1/\∃eh e t rr ix lt,qa3 (o :: r) j=.mat eh e t rr ix lt)):=λh=>by
   obtain⟨j,h1,h2,h3⟩:=q0y h
   refine⟨j+1,by simp; omega,by omega,?_⟩
   rw[show i+(j+1)=i+1+j by omega]
   exact h3
  simp only[qn6] at h
  split at h
  ·rename_i hb
   have hb:=Nat.le_of_ble_eq_true hb
   split at h
   ·rw[qd0,Bool.or_eq_true] at h
    rcases h with h | h
    ·rw[qb6] at h
     have h:=of_decide_eq_true h
     exact⟨0,by simp,by omega,.inl ⟨by omega,_,_,_,rfl⟩⟩
    ·exact next h
   ·rw[qd0,Bool.or_eq_true] at h
    rcases h with h | h
    ·rw[qb6] at h
     have h:=of_decide_eq_true h
     exact⟨0,by simp,by omega,.inr ⟨by omega,_,_,_,_,_,_,rfl⟩⟩
    ·exact next h
   ·exact next h
  ·exact next h
theorem xj3 {m:View} {ρ:List Value} {av:AV}:∀{vs:List Value},av.ok P m ρ vs->av.hav.ok P m ρ vs:=by
 induction av with
 | any=>intro vs k; exact k
 | lit v=>intro vs k; exact k
 | tt=>intro vs k; exact k
 | ff=>intro vs k; exact k
 | dat t l=>intro vs k; obtain⟨A,c,rfl,_⟩:=k; exact⟨_,rfl⟩
 | ndat c t l=>intro vs k; obtain⟨⟨A,c,rfl,_⟩,_⟩:=k; exact⟨_,rfl⟩
 | own g=>
  intro vs k
  cases g with
  | zero=>obtain⟨v,k1,k2⟩:=k; exact⟨v,k2⟩
  | succ g=>exact k
 | box g off=>intro vs k; exact k
 | dptr t l i off=>intro vs k; obtain⟨_,ad,cs,rfl,_⟩:=k; exact⟨_,rfl⟩
 | optr g t i off=>intro vs k; obtain⟨b,n,c,_,rfl⟩:=k; exact⟨_,rfl⟩
 | msl g j=>intro vs k; obtain⟨hs,v,_,_,rfl⟩:=k; exact⟨_,rfl⟩
 | mptr g j t i off=>intro vs k; obtain⟨hs,b,n,c,_,_,rfl⟩:=k; exact⟨_,rfl⟩
 | msub g x y=>intro vs k; obtain⟨hs,A,n,c,_,_,_,rfl⟩:=k; exact⟨_,rfl⟩
 | imm cs off ih=>intro vs k; obtain⟨ad,us,rfl,_⟩:=k; exact⟨_,rfl⟩
 | fn a r p f=>intro vs k; obtain⟨fv,rfl,_⟩:=k; exact⟨_,rfl⟩
 | clo f caps ih=>intro vs k; obtain⟨cs,rfl,_⟩:=k; exact⟨_,rfl⟩
 | agg l ih=>intro vs k; obtain⟨cs,k1,k2⟩:=k; exact⟨cs,k1,ih k2⟩
 | tup l ih=>intro vs k; obtain⟨cs,k1,k2⟩:=k; exact⟨cs,k1,ih k2⟩
 | nil=>intro vs k; exact k
 | cons a b iha ihb=>intro vs k; obtain⟨v,rest,k1,k2,k3⟩:=k; exact⟨v,rest,k1,iha k2,ihb k3⟩
theorem xz5 {n:Nat} {av:AV} (h:av.bnd n=true):av.hav.bnd n=true:=by
 induction av with
 | own g=>cases g with
  | zero=>rfl
  | succ g=>exact h
 | box g off=>exact h
 | agg c ih=>exact ih h
 | tup c ih=>exact ih h
 | cons a b iha ihb=>
  obtain⟨h1,h2⟩:=w1z h
  simp only[AV.hav,AV.bnd,iha h1,ihb h2]
 | _=>rfl
theorem w76 {v:AV} {k k':Nat} (hk:k<=k'):v.bnd k=true->v.bnd k'=true:=by
 have lt:∀g:Nat,Nat.blt g k=true->Nat.blt g k'=true:=λg hg=>by
  have:g<k:=Nat.lt_of_succ_le (by simpa[Nat.blt] using hg)
  have h2:g+1<=k':=by omega
  simpa[Nat.blt] using h2
 induction v with
 | own g=>exact lt g
 | box g off=>exact lt g
 | optr g t i off=>exact lt g
 | msl g j=>exact lt g
 | mptr g j t i off=>exact lt g
 | msub g x y=>exact lt g
 | imm cs off ih=>exact ih
 | clo f c ih=>exact ih
 | agg c ih=>exact ih
 | tup c ih=>exact ih
 | cons a b iha ihb=>
  intro hh
  obtain⟨q1,q2⟩:=w1z hh
  simp only[AV.bnd,iha q1,ihb q2]
 | _=>exact λhh=>hh
theorem x6k {y:Option qh2} {m:View} {ρ:List Value} {n:Nat} {i:Nat} {v:AV} {u:Value} (hf:∀Y,y=some Y->∀p∈Y.fix,p.1=i->p.2.ok P m [] [u]) (hv:v.ok P m ρ [u]) (hb:v.bnd n=true):(kpK y i v).ok P m ρ [u]/\(kpK y i v).bnd n=true:=by
 cases y with
 | none=>exact⟨q51 hv,q63 hb⟩
 | some Y=>
  show(look Y.fix i v.strip.hav).ok P m ρ [u]/\(look Y.fix i v.strip.hav).bnd n=true
  rcases qs8 (i:=i) (d:=v.strip.hav) (l:=Y.fix) with⟨e,_⟩ | h
  ·rw[e]; exact⟨xj3 (q51 hv),xz5 (q63 hb)⟩
  ·have h1:=hf Y rfl _ h rfl
   exact⟨AV.ok_le (View.le_refl m) qm9 h1,w76 (Nat.zero_le n) (w1y (ρ:=[]) h1)⟩
theorem w77 {a b:Option (List Nat)} (h:xs4 a b):a=b:=by
 cases a with
 | none=>cases b with
  | none=>rfl
  | some b=>exact h.elim
 | some a=>cases b with
  | none=>exact h.elim
  | some b=>cases b with
   | nil=>exact congrArg some (q6l h)
   | cons x b=>exact congrArg some h
theorem w78 {a b:Option q5k} (h:xs5 a b):a=b:=by
 cases a <;> cases b <;> first | rfl | exact h.elim | exact congrArg some h
theorem q1o {y:Option qh2} {m:View} {ρ:List Value} {b:Option Nat} {s' s0:St} {a:Act} {w:World} {sl:List (Nat × AV)} {mem:List AObj} {ds:List Nat} (h:Rel P w0 m0 s' m ρ a w) (h1:q0p b s' sl) (h2:q0c b s'.mem mem) (h3:qu4 mem.length sl=true) (h4:qs5 mem.length mem=true)
  (hpin:∀(g:Nat) v,w0.ρ[g]? = some v->w6d v=true->g<mem.length) (h5:∀N,b=some N->N=qn6 s'.mem.length mem 0) (hbase:∀i,ds.elem i=false->(∀p∈sl,p.1≠i)->(kpK y i (s0.get i)).ok P m ρ [a.tmps.getD i undef]/\(kpK y i (s0.get i)).bnd mem.length=true):Rel P w0 m0 (qo5 y sl mem ds s0) m (headρ ρ mem) a w:=by
 have big:∀{v:AV} {vs:List Value},v.ok P m ρ vs->v.ok P m (w74 ρ mem) vs:=λhv=>AV.ok_le (View.le_refl m) (λg u hg _=>w11 hg) hv
 have hB:Born (w74 ρ mem) b:=λN e g=>by
  have e2:=h5 N e
  subst e2
  refine⟨λht=>?_,λht=>?_⟩
  ·obtain⟨j,h1,h2,h3⟩:=q0y ht
   rcases h3 with⟨h3,e',t,l,h4⟩ | ⟨h3,_⟩
   ·have hj:j=g:=by omega
    subst hj
    rw[we3 h1 (by rw[h.len]; omega),h4]; rfl
   ·omega
  ·obtain⟨j,h1,h2,h3⟩:=q0y ht
   rcases h3 with⟨h3,_⟩ | ⟨h3,eh,e',t,r,ix,lt,h4⟩
   ·omega
   ·have hj:j=g:=by omega
    subst hj
    rw[we3 h1 (by rw[h.len]; omega),h4]; rfl
 have live:∀g u bb,(qa3 mem g).live=true->(headρ ρ mem)[g]? = some u->Blk u bb->(qa3 s'.mem g).live=true/\ρ[g]? = some u:=by
  intro g u bb hl hu hbb
  have hρ:ρ[g]? = some u:=by
   rcases headρ_back hu with h | ⟨o,rfl⟩
   ·exact h
   ·exact(w75 hbb).elim
  refine⟨?_,hρ⟩
  rcases qn2 h2 g with k | ⟨_,k2,_⟩
  ·cases hq:qa3 s'.mem g <;> cases hq':qa3 mem g <;> rw[hq,hq'] at k <;> first | rfl | exact k.elim | (rw[hq'] at hl; cases hl)
  ·have:=(List.getElem?_eq_some_iff.1 hρ).1; rw[h.len] at this; omega
 refine⟨λi=>?_,?_,λv hv=>?_,h.defers,λg=>?_,λg g' v v' bb hne l1 l2 q1 q2 b1 b2=>?_,h.view,h.ext,h.new,h.below,λg u bb hl hu hb=>h.zone g u bb (live g u bb hl hu hb).1 (live g u bb hl hu hb).2 hb,λg p hp hv=>headρ_old (hpin g p hp hv) (h.pins g p hp hv)⟩
 ·show(look sl i (match ds.elem i with | true=>.any | false=>kpK y i (s0.get i))).ok P m _ _
  rcases q9i (i:=i) (d:=match ds.elem i with | true=>.any | false=>kpK y i (s0.get i)) h1 h3 with⟨e,hno⟩ | ⟨e1,e2⟩
  ·rw[e]
   cases hd:ds.elem i with
   | true=>exact⟨_,rfl⟩
   | false=>obtain⟨k1,k2⟩:=hbase i hd hno; exact w73 k2 (big k1)
  ·exact w73 e2 (q4n hB e1 (big (h.slots i)))
 ·show(headρ ρ mem).length=mem.length
  unfold headρ w74
  rw[List.length_take,List.length_append,List.length_map,List.length_drop]; omega
 ·unfold headρ at hv
  rcases xj2 (List.mem_of_mem_take hv) with hv | ⟨o,rfl⟩
  ·exact h.hdr v hv
  ·cases o <;> rfl
 ·show ObjOk P m _ w _ g (qa3 mem g)
  have ho:=h.objs g
  cases hq':qa3 mem g with
  | dead=>trivial
  | cnt k=>
   have hg:g<mem.length:=qe6 (by rw[hq']; rfl)
   rcases qn2 h2 g with hle | ⟨_,_,hle⟩
   ·cases hq:qa3 s'.mem g <;> rw[hq,hq'] at hle <;> first | exact hle.elim | skip
    rw[hq] at ho
    obtain rfl:_=k:=hle
    exact headρ_old hg ho
   ·rw[hq'] at hle; rcases hle with⟨_,_,hle⟩ | ⟨_,_,_,hle⟩ <;> cases hle
  | bld T e q=>
   have hg:g<mem.length:=qe6 (by rw[hq']; rfl)
   rcases qn2 h2 g with hle | ⟨_,_,hle⟩
   ·cases hq:qa3 s'.mem g <;> rw[hq,hq'] at hle <;> first | exact hle.elim | skip
    rw[hq] at ho
    obtain⟨b,v,k1,k2⟩:=ho
    obtain⟨h6,hle⟩:=qq6 hle
    obtain⟨h7,h8⟩:=qq6 hle
    subst h6 h7 h8
    exact⟨b,v,headρ_old hg k1,k2⟩
   ·rw[hq'] at hle; rcases hle with⟨_,_,hle⟩ | ⟨_,_,_,hle⟩ <;> cases hle
  | sit q p=>
   have hg:g<mem.length:=qe6 (by rw[hq']; rfl)
   rcases qn2 h2 g with hle | ⟨_,_,hle⟩
   ·cases hq:qa3 s'.mem g <;> rw[hq,hq'] at hle <;> first | exact hle.elim | skip
    rw[hq] at ho
    obtain⟨b,k1,k2,k3,k4⟩:=ho
    obtain⟨h6,h7⟩:_=q/\_=p:=hle
    subst h6 h7
    exact⟨b,headρ_old hg k1,k2,k3,k4⟩
   ·rw[hq'] at hle; rcases hle with⟨_,_,hle⟩ | ⟨_,_,_,hle⟩ <;> cases hle
  | mp t l=>
   have hg:g<mem.length:=qe6 (by rw[hq']; rfl)
   rcases qn2 h2 g with hle | ⟨_,_,hle⟩
   ·cases hq:qa3 s'.mem g <;> rw[hq,hq'] at hle <;> first | exact hle.elim | skip
    rw[hq] at ho
    obtain⟨b,es,cl,k1,k2,k3,k4,k5⟩:=ho
    have hle2:qk4 (.prod .str _) (.prod .str t) _ (λl2=>l2=l):=hle
    obtain⟨h6,h7⟩:=qg6 hle2
    injection h6 with _ h6
    subst h6
    have h7:=h7 _ HEq.rfl
    subst h7
    exact⟨b,es,cl,headρ_old hg k1,k2,k3,k4,k5⟩
   ·rw[hq'] at hle; rcases hle with⟨_,_,hle⟩ | ⟨_,_,_,hle⟩ <;> cases hle
  | box ty c=>
   have hg:g<mem.length:=qe6 (by rw[hq']; rfl)
   rcases qn2 h2 g with hle | ⟨_,_,hle⟩
   ·cases hq:qa3 s'.mem g <;> rw[hq,hq'] at hle <;> first | exact hle.elim | skip
    rw[hq] at ho
    obtain⟨b,vs,k1,k2,k3,k4,k5,k6⟩:=ho
    obtain⟨rfl,hc⟩:=qq6 hle
    have hbn:=qm3 h4 g _ _ hq'
    exact⟨b,vs,headρ_old hg k1,k2,k3,w73 hbn (q4n hB hc (big k4)),k5,k6⟩
   ·rw[hq'] at hle; rcases hle with⟨_,_,hle⟩ | ⟨_,_,_,hle⟩ <;> cases hle
  | vec e t l=>
   have hg:g<mem.length:=qe6 (by rw[hq']; rfl)
   rcases qn2 h2 g with hle | ⟨_,hlen,hle⟩
   ·cases hq:qa3 s'.mem g <;> rw[hq,hq'] at hle <;> first | exact hle.elim | skip
    rw[hq] at ho
    obtain⟨rfl,hle2⟩:=qq6 hle
    obtain⟨rfl,hl⟩:=qg6 hle2
    obtain rfl:=hl _ HEq.rfl
    obtain⟨v,vs,k1,k2,k3,k4⟩:=ho
    exact⟨v,vs,headρ_old hg k1,k2,k3,k4⟩
   ·have hn:=headρ_new hg (by rw[h.len]; exact hlen)
    rw[hq'] at hle hn
    rcases hle with⟨e',t',hle⟩ | ⟨_,_,_,hle⟩
    ·injection hle with e1 e2 e3
     subst e1 e2
     obtain rfl:=eq_of_heq e3
     exact⟨_,[],hn,rfl,⟨by simp,.inl ⟨rfl,rfl⟩⟩,λb hb=>by simp[wn5,Value.ownBlock] at hb⟩
    ·cases hle
  | mat eh e t rows ix lt=>
   have hg:g<mem.length:=qe6 (by rw[hq']; rfl)
   rcases qn2 h2 g with hle | ⟨_,hlen,hle⟩
   ·cases hq:qa3 s'.mem g <;> rw[hq,hq'] at hle <;> first | exact hle.elim | skip
    rw[hq] at ho
    obtain⟨rfl,hle2⟩:=qq6 hle
    obtain⟨rfl,hle3⟩:=qq6 hle2
    obtain⟨ht,hl⟩:=qg6 hle3
    injection ht with ht
    subst ht
    obtain⟨rfl,h6,h7⟩:=hl _ HEq.rfl
    have h6:_=ix:=w77 h6
    have h7:_=lt:=w78 h7
    subst h6 h7
    obtain⟨hs,k1,k2,k3⟩:=ho
    exact⟨hs,headρ_old hg k1,k2,k3⟩
   ·have hn:=headρ_new hg (by rw[h.len]; exact hlen)
    rw[hq'] at hle hn
    rcases hle with⟨_,_,hle⟩ | ⟨_,_,_,hle⟩
    ·cases hle
    ·injection hle with e1 e2 e3 e4 e5 e6
     subst e1 e2 e3 e5 e6
     obtain rfl:=eq_of_heq e4
     refine⟨_,hn,⟨rfl,⟨[],World.ownsRow_nil _ _ _ _,λi p h=>by simp[ixL] at h⟩,λp hp=>absurd hp (by simp),λi j u u' b hne hu hu' hb1 hb2=>?_,λu b hu hb=>?_⟩,λT hT=>by cases hT⟩
     ·have:=List.mem_of_getElem? hu
      obtain rfl:=List.mem_singleton.1 this
      cases hb1
     ·obtain rfl:=List.mem_singleton.1 hu
      cases hb
 ·obtain⟨x1,x2⟩:=live g v bb l1 q1 b1
  obtain⟨y1,y2⟩:=live g' v' bb l2 q2 b2
  exact h.apart g g' v v' bb hne x1 y1 x2 y2 b1 b2
def AObj.row:AObj->Bool
 | .vec _ _ _=>true
 | .mat _ _ _ _ _ _=>true
 | _=>false
theorem xz6:∀(n:Nat) (l:List Nat),l.Nodup->l.length=n->(∀p∈l,p<n)->∀q,q<n->q∈l:=by
 have le:∀(n:Nat) (l:List Nat),l.Nodup->(∀p∈l,p<n)->l.length<=n:=by
  intro n
  induction n with
  | zero=>
   intro l _ h
   cases l with
   | nil=>simp
   | cons a r=>exact absurd (h a (by simp)) (by omega)
  | succ n ih=>
   intro l hn h
   by_cases hp:n∈l
   ·have h1:=ih (l.erase n) (hn.erase _) λj hj=>by
     have h2:=h j (List.mem_of_mem_erase hj)
     have h3:j≠n:=λe=>by subst e; exact(List.Nodup.not_mem_erase hn) hj
     omega
    rw[List.length_erase_of_mem hp] at h1
    omega
   ·have:=ih l hn λj hj=>by
     have h2:=h j hj
     have h3:j≠n:=λe=>by subst e; exact hp hj
     omega
    omega
 intro n l hn hl h q hq
 apply Classical.byContradiction
 intro hq'
 have:=le n (q :: l) (List.nodup_cons.2 ⟨hq',hn⟩) (λj hj=>by
  rcases List.mem_cons.1 hj with rfl | hj
  ·exact hq
  ·exact h j hj)
 simp at this
 omega
theorem Rel.canon {s:St} {m:View} {ρ:List Value} {a:Act} {w:World} (h:Rel P w0 m0 s m ρ a w) {g eh e:Nat} {t:Ty} {rows:List (List t.den)} {l:List Nat} {lt:Option q5k} {nm:Nat} (hg:qa3 s.mem g=.mat eh e t rows (some l) lt) (hn:l.Nodup) (hl:l.length=rows.length) :
  ∃ρ',Rel P w0 m0 (qr9 s nm (.perm g (.mat eh e t (q15 t rows (some l)) .none lt))) m ρ' a w:=by
 have ho:=h.objs g
 have hlv:(qa3 s.mem g).live=true:=by rw[hg]; rfl
 rw[hg] at ho
 obtain⟨hs,q1,q2,q3⟩:=ho
 have hlen:=q2.len
 have hlt:=qe6 hlv
 obtain⟨cs,k1,k2⟩:=q2.head
 have k1:w.ownsRow w0.n eh 1 (hs.getD 0 undef) l.length cs:=k1
 have k2:∀(i p:Nat),l[i]? = some p->p<rows.length/\cs[i]? = hs[p+1]?:=k2
 have hbd:∀p∈l,p<rows.length:=λp hp=>by
  obtain⟨i,hi,e⟩:=List.getElem_of_mem hp
  exact(k2 i p (by rw[List.getElem?_eq_getElem hi,e])).1
 have hall:=xz6 rows.length l hn hl hbd
 have get:∀p,p<rows.length->hs[p+1]? = some (hs.getD (p+1) undef):=λp hp=>by rw[List.getD_eq_getElem?_getD,List.getElem?_eq_getElem (by omega)]; rfl
 obtain⟨hs',hhs⟩:∃hs',hs'=hs.getD 0 undef :: l.map λp=>hs.getD (p+1) undef:=⟨_,rfl⟩
 have at0:hs'[0]? = hs[0]?:=by rw[hhs,q2.at0]; rfl
 have atS:∀i p,l[i]? = some p->hs'[i+1]? = hs[p+1]?:=λi p hi=>by
  rw[hhs,List.getElem?_cons_succ,List.getElem?_map,hi]
  exact(get p (hbd p (List.mem_of_getElem? hi))).symm
 have hmem:∀u,u∈hs'↔u∈hs:=λu=>by
  constructor
  ·intro hu
   rw[hhs] at hu
   rcases List.mem_cons.1 hu with rfl | hu
   ·exact List.mem_of_getElem? q2.at0
   ·obtain⟨p,hp,rfl⟩:=List.mem_map.1 hu
    exact List.mem_of_getElem? (get p (hbd p hp))
  ·intro hu
   obtain⟨i,hi,e1⟩:=List.getElem_of_mem hu
   rw[hhs]
   cases i with
   | zero=>refine List.mem_cons.2 (.inl ?_); rw[List.getD_eq_getElem?_getD,List.getElem?_eq_getElem hi,e1]; rfl
   | succ i=>
    refine List.mem_cons_of_mem _ (List.mem_map.2 ⟨i,hall i (by omega),?_⟩)
    rw[List.getD_eq_getElem?_getD,List.getElem?_eq_getElem hi,e1]; rfl
 have hlen':hs'.length=rows.length+1:=by rw[hhs]; simp[hl]
 have hml:(q15 t rows (some l)).length=l.length:=wc2 t rows (some l)
 have hset:(ρ.set g (qg4 hs'))[g]? = some (qg4 hs'):=by rw[List.getElem?_set]; simp[h.len,hlt]
 have hpool:PoolOk m w w0.n eh e t (q15 t rows (some l)) .none hs':=by
  refine⟨by rw[hml,hlen',hl],⟨cs,?_,λi p hip=>?_⟩,λp hp=>?_,λi j u u' b hne hu hu' hb1 hb2=>?_,λu b hu hb=>q2.free u b ((hmem u).1 hu) hb⟩
  ·rw[show hs'.getD 0 undef=hs.getD 0 undef by rw[hhs]; rfl,qe3,hml]; exact k1
  ·have hip:(List.range (q15 t rows (some l)).length)[i]? = some p:=hip
   have hi:=(List.getElem?_eq_some_iff.1 hip).1
   have e1:i=p:=by rw[List.getElem?_eq_getElem hi] at hip; simpa using hip
   subst e1
   rw[List.length_range,hml] at hi
   refine⟨by rw[hml]; exact hi,?_⟩
   have hi2:=List.getElem?_eq_getElem hi
   rw[(k2 i _ hi2).2,atS i _ hi2]
  ·rw[hml] at hp
   have hi2:=List.getElem?_eq_getElem hp
   have e1:qf2 (.list t) (q15 t rows (some l)) p=qf2 (.list t) rows l[p]:=by
    show(List.map (λp=>qf2 (.list t) rows p) l).getD p []=_
    rw[List.getD_eq_getElem?_getD,List.getElem?_map,hi2]; rfl
   have hpl:=hbd _ (List.getElem_mem hp)
   have e2:hs'.getD (p+1) undef=hs.getD (l[p]+1) undef:=by rw[List.getD_eq_getElem?_getD,atS p _ hi2,get _ hpl]; rfl
   rw[e1,e2]
   exact q2.row _ hpl
  ·have back:∀i u,hs'[i]? = some u->∃i',hs[i']? = some u/\((i=0/\i'=0)\/∃p,l[i-1]? = some p/\0<i/\i'=p+1):=by
    intro i u hu
    cases i with
    | zero=>exact⟨0,by rw[<- at0]; exact hu,.inl ⟨rfl,rfl⟩⟩
    | succ i=>
     have hi:i<l.length:=by have:=(List.getElem?_eq_some_iff.1 hu).1; omega
     have hi2:=List.getElem?_eq_getElem hi
     exact⟨l[i]+1,by rw[<- atS i _ hi2]; exact hu,.inr ⟨l[i],hi2,by omega,rfl⟩⟩
   obtain⟨i',hi',ci⟩:=back i u hu
   obtain⟨j',hj',cj⟩:=back j u' hu'
   refine q2.apart i' j' u u' b ?_ hi' hj' hb1 hb2
   rcases ci with⟨rfl,rfl⟩ | ⟨p,p1,p2,rfl⟩ <;> rcases cj with⟨rfl,rfl⟩ | ⟨q,r1,r2,rfl⟩
   ·exact λ_=>hne rfl
   ·omega
   ·omega
   ·intro e1
    have e1:p=q:=by omega
    subst e1
    obtain⟨x1,x2⟩:=List.getElem?_eq_some_iff.1 p1
    obtain⟨y1,y2⟩:=List.getElem?_eq_some_iff.1 r1
    have:=(List.nodup_iff_pairwise_ne.1 hn)
    rw[List.pairwise_iff_getElem] at this
    rcases Nat.lt_trichotomy (i-1) (j-1) with k | k | k
    ·exact this _ _ x1 y1 k (x2.trans y2.symm)
    ·omega
    ·exact this _ _ y1 x1 k (y2.trans x2.symm)
 refine⟨ρ.set g (qg4 hs'),?_⟩
 refine h.turnG (g:=g) (d:=.msl g .none) (v:=qg4 hs) hlv q1 rfl (Same.refl _ _) (View.le_refl m) (by simp)
  (λx y hne' hy=>by rw[List.getElem?_set,if_neg (λe=>hne' e.symm)]; exact hy) (λx y hne' hy=>by rw[List.getElem?_set,if_neg (λe=>hne' e.symm)] at hy; exact hy) (λhh=>by cases hh) (λhx x e' hx0 hsl=>?_) (λb ob hb=>.inl hb) h.view (λx hx=>?_)
  ⟨hs',hset,hpool,λT hT=>?_⟩ (λ_ x b hx hb=>.inl ?_)
 ·obtain rfl:=qf6 e'
  exact⟨hs',x,hset,⟨at0.trans hx0,hsl⟩,rfl⟩
 ·rcases List.mem_or_eq_of_mem_set hx with hx | rfl
  ·exact h.hdr x hx
  ·rfl
 ·obtain⟨n1,n2,n3⟩:=q3 T hT
  exact⟨at0.trans n1,by rw[<- n2,hlen',hlen],λx=>(hmem x).trans (n3 x)⟩
 ·rw[hset] at hx
  obtain rfl:=Option.some.inj hx
  obtain⟨y,hy,hby⟩:=qe0.1 hb
  exact qe0.2 ⟨y,(hmem y).1 hy,hby⟩
theorem q2q {y:Option qh2} (hf:w4v y) {D:Nat->Prop} {mem':List AObj} {a:Act} {w:World} {K:St->Prop}:∀(r:List AObj) (i:Nat) (s:St) (m:View) (ρ:List Value),(∀j o,r[j]? = some o->o.row=true->qa3 s.mem (i+j)=o)->Rel P w0 m0 s m ρ a w->wj2 mem' i r s K->∃s1 m1 ρ1,K s1/\m.le m1/\Rel P w0 m0 s1 m1 ρ1 a w/\FR y D s s1/\s1.mem.length=s.mem.length
 | [],i,s,m,ρ,_,hg,h=>⟨s,m,ρ,h,View.le_refl m,hg,FR.refl _ _ _,rfl⟩
 | o :: r,i,s,m,ρ,hr,hg,h=>by
  have skip:wj2 mem' (i+1) r s K->∃s1 m1 ρ1,K s1/\m.le m1/\Rel P w0 m0 s1 m1 ρ1 a w/\FR y D s s1/\s1.mem.length=s.mem.length:=λh=>q2q hf r (i+1) s m ρ (λj o hj ho=>by rw[show i+1+j=i+(j+1) by omega]; exact hr (j+1) o hj ho) hg h
  have sub:∀(d:AV) (o:AObj),o.row=true->qr0 i d o=o:=λd o ho=>by cases o <;> first | rfl | cases ho
  cases o with
  | vec e t l=>
   simp only[wj2] at h
   split at h
   ·obtain⟨ov,base,mem⟩:=s
    rw[q4h ⟨ov,base,mem⟩] at h
    have hm:qa3 mem i=.vec e t l:=hr 0 _ rfl rfl
    obtain⟨m',h1,h2,h3⟩:=hg.freeze (nm:=0) hm
    have hlen:(qr9 ⟨ov,base,mem⟩ 0 (.freeze i t l)).mem.length=mem.length:=by
     show(qd9 (qd2 i (.dat t l) mem) i .dead).length=_
     rw[qd3 _ _ _ (by rw[qb9]; exact qe6 (by rw[hm]; rfl)),qb9]
    obtain⟨s1,m1,ρ1,k1,k0,k2,k3,k4⟩:=q2q hf r (i+1) (qr9 ⟨ov,base,mem⟩ 0 (.freeze i t l)) m' ρ (λj o hj ho=>by
     show qa3 (qd9 (qd2 i (.dat t l) mem) i .dead) _=_
     rw[qe2 _ _ _ _ (by rw[qb9]; exact qe6 (by rw[hm]; rfl)),if_neg (by omega),qg1]
     rw[show i+1+j=i+(j+1) by omega,hr (j+1) o hj ho]
     exact sub _ o ho) h2 h
    exact⟨s1,m1,ρ1,k1,View.le_trans h1 k0,k2,(FR.eff hf _ _ _).trans k3,k4.trans hlen⟩
   ·exact skip h
  | mat eh e t rows ix lt=>
   simp only[wj2] at h
   split at h
   ·exact skip h
   ·rename_i l
    split at h
    ·split at h
     ·obtain⟨ov,base,mem⟩:=s
      obtain⟨⟨hn,hl⟩,h⟩:=h
      rw[q4h ⟨ov,base,mem⟩] at h
      have hm:qa3 mem i=.mat eh e t rows (some l) lt:=hr 0 _ rfl rfl
      obtain⟨ρ',h2⟩:=hg.canon (nm:=0) hm hn hl
      have hlen:(qr9 ⟨ov,base,mem⟩ 0 (.perm i (.mat eh e t (q15 t rows (some l)) .none lt))).mem.length=mem.length:=by
       show(qd9 (qd2 i _ mem) i _).length=_
       rw[qd3 _ _ _ (by rw[qb9]; exact qe6 (by rw[hm]; rfl)),qb9]
      obtain⟨s1,m1,ρ1,k1,k0,k2,k3,k4⟩:=q2q hf r (i+1) (qr9 ⟨ov,base,mem⟩ 0 (.perm i (.mat eh e t (q15 t rows (some l)) .none lt))) m ρ' (λj o hj ho=>by
       show qa3 (qd9 (qd2 i _ mem) i _) _=_
       rw[qe2 _ _ _ _ (by rw[qb9]; exact qe6 (by rw[hm]; rfl)),if_neg (by omega),qg1]
       rw[show i+1+j=i+(j+1) by omega,hr (j+1) o hj ho]
       exact sub _ o ho) h2 h
      exact⟨s1,m1,ρ1,k1,k0,k2,(FR.eff hf _ _ _).trans k3,k4.trans hlen⟩
     ·exact skip h
    ·exact skip h
  | dead=>exact skip h
  | cnt k=>exact skip h
  | box ty c=>exact skip h
  | sit q p=>exact skip h
  | mp t l=>exact skip h
  | bld T e q=>exact skip h
theorem q00:∀(l:List AObj) (j:Nat) (o:AObj),l[j]? = some o->qa3 l (0+j)=o
 | [],j,o,h=>by simp at h
 | x :: r,0,o,h=>by simpa[qa3] using h
 | x :: r,j+1,o,h=>by
  have:=q00 r j o (by simpa using h)
  rw[Nat.zero_add] at this ⊢
  exact this
theorem qz3:∀{sl:List (Nat × AV)} {l:List Nat},qt8 sl l=true->∀p∈sl,p.1∈l
 | [],[],_,p,hp=>by cases hp
 | (i,v) :: r,j :: l,h,p,hp=>by
  simp only[qt8] at h
  split at h
  ·rename_i e
   have e:=Nat.eq_of_beq_eq_true e
   rcases List.mem_cons.1 hp with rfl | hp
   ·exact List.mem_cons.2 (.inl e)
   ·exact List.mem_cons_of_mem _ (qz3 h p hp)
  ·cases h
 | [],_ :: _,h,p,hp=>by cases h
 | _ :: _,[],h,p,hp=>by cases h
def XK.out:XK->Exit
 | .normal=>.normal
 | .exit id=>.exit id
 | .ret=>.ret
def we4 (P:Program) (T:Base->Prop) (m0:View) (N:Frm) (s:St) (a:Act) (w:World):Prop:=∃Z,T Z/\Good P Z m0 N s a w
structure Cls (P:Program) (C:Ctx) (T:Base->Prop) (m0:View) (N:Frm) (r:Option Nat) (n:Nat):Prop where
 pins:∀Z Z',T Z->T Z'->∀(g:Nat) v,Z.ρ[g]? = some v->w6d v=true->∃v',Z'.ρ[g]? = some v'/\w6d v'=true
 yl:∀Y,C.yl=some Y->∃RR,YOk P T m0 N Y RR
theorem Cls.one (h:C.yl=none) (Z:Base) (r:Option Nat) (n:Nat):Cls P C (λZ'=>Z'=Z) m0 N r n:=
 ⟨λZ1 Z2 e1 e2 g v h1 h2=>by subst e1; subst e2; exact⟨v,h1,h2⟩,λY e=>by rw[h] at e; cases e⟩
theorem xt0 {sl:List Nat}:∀{l:List Oper} {i y:Nat},yIx sl l i=some y->y<=i+l.length
 | [],i,y,h=>by cases h
 | o :: r,i,y,h=>by
  simp only[yIx] at h
  split at h
  ·injection h with h; simp; omega
  ·have:=xt0 h; simp; omega
theorem qq7 {b:Frame} {a:Act} {k:List Item} {cs:List Frame} {w:World} {c:Code}:Go.step P (lone (b.atR a (.code (.scope c) :: k)) cs w)=.next (lone (b.atR a (.code c :: .inScope c :: k)) cs w):=
 step_lone_go (by simp[stepG,stepG.exec,Frame.atR])
theorem we5 {b:Frame} {a:Act} {k:List Item} {cs:List Frame} {w:World} {c:Code}:Go.step P (lone (b.atR a (.inScope c :: k)) cs w)=.next (lone (b.atR a k) cs w):=
 step_lone_go (by simp[stepG,stepG.exec,Frame.atR])
def noGoto (Q:Exit->Act->World->Prop):Exit->Act->World->Prop
 | .goto _,_,_=>False
 | e,a,w=>Q e a w
theorem w4x {F:Fence} {n:Nat} {Q:Exit->Act->World->Prop} {a:Act} {w:World} {c:Code} (h:c.wpIn F n P (noGoto Q) a w):(Code.scope c).wpIn F n P Q a w:=by
 intro b k cs hro hb hr
 have h0:(lone (b.atR a (.code (.scope c) :: k)) cs w).fenced P F:=fenced_calm hb hr rfl
 obtain⟨e,a₁,w₁,hq,harr⟩:=h b (.inScope c :: k) cs hro hb hr
 cases e with
 | normal=>exact⟨.normal,a₁,w₁,hq,.head h0 qq7 (StepsIn.trans harr (.one (fenced_calm hb hr rfl) we5))⟩
 | exit id=>
  have hx:exitTo id (.inScope c :: k)=exitTo id k:=by simp[exitTo]
  exact⟨.exit id,a₁,w₁,hq,λk' hk=>.head h0 qq7 (harr.1 k' (by rw[hx]; exact hk)),
   λhr' hk=>let ⟨k₁,h1,h2⟩:=harr.2 hr' (by rw[hx]; exact hk); ⟨k₁,h1,.head h0 qq7 h2⟩⟩
 | goto l=>exact hq.elim
 | ret=>exact⟨_,a₁,w₁,hq,.of_steps (.one h0 qq7) harr⟩
 | panic ch=>exact⟨_,a₁,w₁,hq,.of_steps (.one h0 qq7) harr⟩
 | outgrown=>exact⟨_,a₁,w₁,hq,.of_steps (.one h0 qq7) harr⟩
def w4y (C:Ctx) (T:Base->Prop) (r:Option Nat):Prop:=r=none\/(C.yl=none/\∃l,r=some l/\∀Z,T Z->Z.F l/\∃o,Z.W.heap[l]? = some (.loop o))
def Mc (P:Program) (N:Frm) (iv:Nat->Option Inv) (c:Code):Prop:=∀(C:Ctx) (T:Base->Prop) (m0:View) (hS:SoundAt P C m0) (r:Option Nat) (n:Nat) (hC:Cls P C T m0 N r n) (hmc:m0.cells=m0) (hrr:qj3 c=true\/w4y C T r) (i:Nat) (K:XK->St->Prop) (s:St) (a:Act) (w:World) (Q:Exit->Act->World->Prop),(∀d∈qq1 iv c i,N.may d)->we4 P T m0 N s a w->vc C iv c i K s ->
  (∀e s' a' w',K e s'->FR C.yl (λj=>j∈qq1 iv c i) s s'->we4 P T m0 N s' a' w'->Q e.out a' w')->c.wpIn (fz r) n P Q a w
def Mt (P:Program) (N:Frm) (iv:Nat->Option Inv) (c:Code):Prop:=Mc P N iv c/\(∀x y,c=.seq x y->Mc P N iv x/\Mc P N iv y)/\∀id x y,c=.block id (.seq x y)->Mc P N iv x/\Mc P N iv y
theorem SoundAt.quiet {m0:View} (hS:SoundAt P C m0):SoundAt P C.quiet m0:=⟨hS.tys,hS.specs,hS.mixed,hS.its,(λY e=>by cases e),hS.muts,hS.blds,hS.bxs⟩
theorem xz7 {id:Nat} {e:XK}:(blkX id e=.normal/\(e=.normal\/e=.exit id))\/(blkX id e=e/\e≠.normal/\e≠.exit id):=by
 cases e with
 | normal=>exact .inl ⟨rfl,.inl rfl⟩
 | ret=>exact .inr ⟨rfl,by simp,by simp⟩
 | exit j=>
  simp only[blkX]
  cases hb:Nat.beq j id with
  | true=>obtain rfl:=Nat.eq_of_beq_eq_true hb; exact .inl ⟨rfl,.inr rfl⟩
  | false=>exact .inr ⟨rfl,by simp,λe=>by injection e with e; subst e; simp at hb⟩
def TIn (T:Base->Prop) (RR:List Value) (W:World) (n:Nat) (F0 X:Nat->Prop) (R:List Value) (Wr:World) (Z:Base):Prop:=
 ∃(F:Nat->Prop) (k:Option Nat),T ⟨Z.n,Z.W,F,Z.low,.int .i64 (code k) :: RR⟩/\Z.ρ=.int .i64 (code k) :: R/\Z.n=n/\(∀b,F b->Z.F b)/\(∀b,X b->Z.F b/\¬F b)/\(∀b,F b->b<W.heap.size->F0 b) /\
  (Z.W.os=Wr.os/\Z.W.tape=Wr.tape/\Z.W.output=Wr.output)/\Wr.heap.size<=Z.W.heap.size/\∀b,X b->Z.W.heap[b]? = Wr.heap[b]?
theorem TIn.yok {T:Base->Prop} {RR:List Value} {W:World} {n:Nat} {F0 X:Nat->Prop} {R:List Value} {Wr:World} {Y:qh2} (hY:YOk P T m0 N Y RR) (hX:∀b,X b->b<W.heap.size/\m0 b=none) (hXD:∀b,b<W.heap.size->¬X b->F0 b) (hWr:W.heap.size<=Wr.heap.size):YOk P (TIn T RR W n F0 X R Wr) m0 N Y R:=by
 refine⟨hY.fix,λZ ⟨F,k,h1,h2,_⟩=>⟨k,h2⟩,?_,?_⟩
 ·rintro Z W' F' h ⟨F,k,h1,h2,h3,h4,h5,h6,h7,h8,h9⟩ hok hF'
  refine⟨F,k,hY.mov ⟨Z.n,Z.W,F,Z.low,_⟩ W' F h h1 ⟨hok.os,hok.tape,hok.output,hok.grows,λb hb=>hok.kept b (h4 b hb)⟩ λ_ h=>h,h2,h3,λb hb=>hF' b (h4 b hb),λb hb=>⟨hF' b (h5 b hb).1,(h5 b hb).2⟩,h6,⟨hok.os.trans h7.1,hok.tape.trans h7.2.1,hok.output.trans h7.2.2⟩,Nat.le_trans h8 hok.grows,λb hb=>((hok.kept b (h5 b hb).1).2).trans (h9 b hb)⟩
 ·rintro Z k V mx d vs B ⟨F,k',h1,h2,h3,h4,h5,h6,h7,h8,h9⟩ hk hok hmx hcx hmd hd hargs hlent hB
  obtain rfl:k'=some k:=by
   rw[h2] at hk
   injection hk with e
   injection e with _ e
   exact code_inj e
  have hok':Base.ok ⟨Z.n,Z.W,F,Z.low,.int .i64 (code (some k)) :: RR⟩ V:=⟨hok.os,hok.tape,hok.output,hok.grows,λb hb=>hok.kept b (h4 b hb)⟩
  have hXm:∀b,X b->mx b=none:=λb hb=>by
   cases hm:mx b with
   | none=>rfl
   | some o=>
    rcases hmd b o hm with q | q
    ·rw[(hX b hb).2] at q; cases q
    ·exact absurd (h5 b hb).1 q.2
  have hXV:∀b,X b->b<V.heap.size:=λb hb=>by
   have h1:=(hX b hb).1
   have h2:=hok.grows
   omega
  obtain⟨fn,t,as1,bd,y1,y2⟩:=hY.yld ⟨Z.n,Z.W,F,Z.low,_⟩ k V mx d vs B h1 rfl hok' hmx hcx (λb o hb=>(hmd b o hb).imp id λ⟨q1,q2⟩=>⟨q1,λq=>q2 (h4 b q)⟩) hd hargs hlent λb hb=>⟨(hB b hb).1,(hB b hb).2.1,λq=>(hB b hb).2.2.1 (h4 b q),(hB b hb).2.2.2⟩
  refine⟨fn,t,as1,bd,y1,RoundIn.mono y2 ?_⟩
  rintro e V' ⟨q0,q1,q2,q3,q4,c,rfl,q5⟩
  refine⟨q0,q1,q2,q3,λb h1 h2 h3 h4'=>q4 b h1 (λq=>h2 (h4 b q)) h3 h4',c,rfl,λO h hO=>?_⟩
  have hT:=q5 (λb=>O b\/X b) h λb hb=>by
   rcases hb with hb | hb
   ·exact⟨(hO b hb).1,λq=>(hO b hb).2.1 (h4 b q),(hO b hb).2.2⟩
   ·exact⟨hXV b hb,(h5 b hb).2,hXm b hb⟩
  refine⟨_,_,hT,rfl,h3,λb hb=>⟨hb.1,λq=>hb.2 (.inl q)⟩,λb hb=>⟨⟨Nat.lt_of_lt_of_le (hXV b hb) q2,λq=>(hO b q).2.1 (h5 b hb).1⟩,λq=>q.2 (.inr hb)⟩,λb hb hlt=>?_,⟨q0.1.trans (hok.os.trans h7.1),q0.2.1.trans (hok.tape.trans h7.2.1),q0.2.2.trans (hok.output.trans h7.2.2)⟩,Nat.le_trans h8 (Nat.le_trans hok.grows q2),λb hb=>?_⟩
  ·exact hXD b hlt λq=>hb.2 (.inr q)
  ·exact(q4 b (hXV b hb) (h5 b hb).2 (hXm b hb) (λq=>(hB b q).2.2.1 (h5 b hb).1)).trans (((hok.kept b (h5 b hb).1).2).trans (h9 b hb))
theorem Marks.move {Z Z':Base} {W W':World} (hn:Z'.n=Z.n):∀{ds:List Deferred},Marks Z W ds->(∀b,qj0 ds b->¬Z'.F b/\W'.heap[b]? = W.heap[b]?)->Marks Z' W' ds
 | [],_,_=>trivial
 | d :: ds,⟨⟨D,h1,h2,h3,h4,h5⟩,h6⟩,h=>by
  obtain⟨k1,k2⟩:=h D ⟨d,by simp,h1⟩
  exact⟨⟨D,h1,by rw[hn]; exact h2,k1,k2.trans h4,h5⟩,Marks.move hn h6 λb ⟨e,he,hb⟩=>h b ⟨e,by simp[he],hb⟩⟩
theorem Rel.loose {Z:Base} {m0 m2 m:View} {s:St} {ρ:List Value} {a:Act} {w:World} (h:Rel P Z m2 s m ρ a w) (h1:m0.le m2) (h2:∀b o,m2 b=some o->m0 b=some o\/(Z.n<=b/\¬Z.F b)):Rel P Z m0 s m ρ a w:=
 ⟨h.slots,h.len,h.hdr,h.defers,h.objs,h.apart,h.view,View.le_trans h1 h.ext,λb o hb=>(h.new b o hb).elim (h2 b o) .inr,h.below,h.zone,h.pins⟩
set_option maxHeartbeats 4000000 in
theorem w79 {iv:Nat->Option Inv} {g:Operand} {ps:Array Tmp} {ag c:Code} (ihag:Mc P N iv ag) (ihc:Mt P N iv c) {Y:qh2} (hyl:C.yl=some Y) (T:Base->Prop) (m0:View) (hS:SoundAt P C m0) (n:Nat) (hC:Cls P C T m0 N none n) (hmc:m0.cells=m0) (i:Nat) (K:XK->St->Prop) (s:St) (a:Act) (w:World) (Q:Exit->Act->World->Prop) (hd:∀d∈qq1 iv (.rangeFunc g ps ag c) i,N.may d) (hg:we4 P T m0 N s a w) (h:vc C iv (.rangeFunc g ps ag c) i K s)
  (hQ:∀e s' a' w',K e s'->FR C.yl (λj=>j∈qq1 iv (.rangeFunc g ps ag c) i) s s'->we4 P T m0 N s' a' w'->Q e.out a' w'):(Code.rangeFunc g ps ag c).wpIn (fz none) n P Q a w:=by
 obtain⟨ov,base,mem⟩:=s
 simp only[vc,hyl] at h
 split at h
 case h_2=>exact h.elim
 rename_i F caps heq
 split at h
 ·rename_i hno; cases hno
 case h_3=>exact h.elim
 rename_i Y' hpl hna hnb hye
 obtain rfl:Y=Y':=by injection hye
 clear hye
 split at h
 case h_2=>exact h.elim
 rename_i id cc
 split at h
 case h_2=>exact h.elim
 rename_i c1 c2
 obtain⟨ih1,ih2⟩:=ihc.2.2 id c1 c2 rfl
 clear ihc
 obtain⟨S,hS1,h⟩:=withSome_iff.1 h
 obtain⟨eL,hlend,h⟩:=withSome_iff.1 h
 rw[qn7] at h
 obtain⟨V,hV,h⟩:=withSome_iff.1 h
 obtain⟨hlen,h⟩:=qq6 h
 obtain⟨w0,hT,hN,mA,ρA,hrA⟩:=hg
 obtain⟨RR,hYO⟩:=hC.yl Y hyl
 have hc0:Cells m0:=by rw[<- hmc]; exact Cells.of
 have hfx:w4v (some Y):=by rw[<- hyl]; exact hS.fixs
 have hr0:=hrA.cells
 rw[hmc] at hr0
 obtain⟨mE,hmE⟩:∃mE,mE=mA.cells:=⟨_,rfl⟩
 have hcE:Cells mE:=by rw[hmE]; exact Cells.of
 rw[<- hmE] at hr0
 clear hrA hmE
 have hev:=hr0.eval g
 simp only at hev
 rw[heq] at hev
 obtain⟨cs,e1,hcs⟩:=hev
 have e1:=(List.cons.inj e1).1
 obtain⟨hcl,hIM⟩:=hS.its F S hS1
 obtain⟨L,⟨p,x0,hI0,hmu0,hmem0,hround⟩,hsay⟩:=hIM mE caps cs _ hcE (qy9 hpl hcs) h
 obtain⟨s0,hs0⟩:∃s0:St,s0=⟨ov,base,mem⟩:=⟨_,rfl⟩
 have hms0:s0.mem=mem:=by rw[hs0]
 rw[<- hs0] at hr0 hround hQ
 have chk:∀y,V.I p y->(qs5 V.size (V.mem p y)=true/\(V.mem p y).length=V.size/\mem.length=V.size)/\((∀d:qa4 S.ins,L[V.μ p y]? = some d->w34 S.lend ps.toList (qh1 S.ins d) (qo5 (some Y) [] (V.mem p y) [] s0) λT s2=>vc C.quiet iv ag (i+1) (λe s3=>match e with
          | .normal=>vc C.quiet iv c1 (i+1+loops ag) (λe s4=>match e with
           | .normal=>q2h V.size lits λnv=>w35 S.lend nv T (qh1 S.ins d) s4 λs5=>vc C iv c2 (i+1+loops ag+loops c1) (λe s6=>match blkX id e with
            | .normal=>∃x':V.S,V.I p x'/\V.μ p x'=V.μ p y+1/\q0c .none (qm6 s6.mem) (V.mem p x')
            | e=>K e (qo5 (some Y) [] (qm6 s6.mem) [] s0)) s5
           | _=>False) s3
          | _=>False) s2)/\(V.μ p y=L.length->K .normal (qo5 (some Y) [] (V.mem p y) [] s0))):=by
  intro y hy
  have:=hround y hy
  revert this
  cases qs5 V.size (V.mem p y) <;> cases h2:Nat.beq (V.mem p y).length V.size <;> cases h3:Nat.beq mem.length V.size <;> intro this <;> first | exact False.elim this | skip
  simp only[wd9] at this
  exact⟨⟨rfl,Nat.eq_of_beq_eq_true h2,Nat.eq_of_beq_eq_true h3⟩,this⟩
 clear hround
 obtain⟨NN,hNN⟩:∃NN,NN=w.heap.size:=⟨_,rfl⟩
 -- how often
 obtain⟨kz,hkz⟩:=hYO.cls w0 hT
 have hρA0:ρA[0]? = some (.int .i64 (code kz)):=hr0.pins 0 _ (by rw[hkz]; rfl) rfl
 have hAp:∀b,ρA[0]?≠some (.pointer b):=λb hb=>by rw[hρA0] at hb; cases hb
 -- the slots
 have slotA:∀j,(kpK (some Y) j (s0.get j)).ok P m0 ρA [a.tmps.getD j undef]:=λj=>by
  show(look Y.fix j ((s0.get j).strip.hav)).ok P m0 ρA _
  rcases qs8 (i:=j) (d:=(s0.get j).strip.hav) (l:=Y.fix) with⟨e,_⟩ | e
  ·rw[e]; exact w1s hAp (λ_ _ _ h=>h) (q51 (hr0.slots j))
  ·exact AV.ok_le (View.le_refl m0) qm9 (hYO.fix _ e a hN)
 have slotK:∀ρ':List Value,(∀(g:Nat) q,ρA[g]? = some (Value.pointer q)->ρ'[g]? = some (Value.pointer q))->∀j,(kpK (some Y) j (s0.get j)).ok P m0 ρ' [a.tmps.getD j undef]:=fun ρ' hp j=>by
  have:=slotA j
  rw[<- q5y hfx j (s0.get j)] at this ⊢
  exact q9f (View.le_refl m0) hp this
 have slotB:∀j,(kpK (some Y) j (s0.get j)).bnd V.size=true:=λj=>by
  obtain⟨⟨_,_,c3⟩,_⟩:=chk x0 hI0
  have:=w1y (slotA j)
  rw[hr0.len,hms0,c3] at this
  exact this
 have headG:∀(mem':List AObj) j,(qo5 (some Y) [] mem' [] s0).get j=kpK (some Y) j (s0.get j):=λ_ _=>rfl
 -- what holds between rounds
 let G:List AObj->(Nat->Prop)->World->Prop:=λmem' D W=>(¬D NN/\¬D (NN+1)/\∀b,D b->b<W.heap.size)/\mE.on W/\∃(Z:Base) (ρ:List Value) (F:Nat->Prop),T ⟨Z.n,Z.W,F,Z.low,Z.ρ⟩/\Z.n=w0.n/\(∀b,F b->Z.F b)/\(∀b,mE b≠none->m0 b=none->Z.F b/\¬F b)/\(∀(g:Nat) q,ρA[g]? = some (Value.pointer q)->ρ[g]? = some (Value.pointer q))/\(∀b,w1o Z m0 mem' ρ a.defers b->D b)/\Rel P Z m0 (qo5 (some Y) [] mem' [] s0) m0 ρ a W
 have mED:∀{Z:Base} {F:Nat->Prop} {D:Nat->Prop} {mem':List AObj} {ρ:List Value},(∀b,mE b≠none->m0 b=none->Z.F b/\¬F b)->(∀b,w1o Z m0 mem' ρ a.defers b->D b)->∀b,mE b≠none->D b:=λh1 h2 b hb=>by
  cases hm:m0 b with
  | none=>exact h2 b (.inr (.inl (h1 b hb hm).1))
  | some o=>exact h2 b (.inl (by rw[hm]; simp))
 have hGs:∀mem' D W W',G mem' D W->Same D W W'->G mem' D W':=by
  rintro mem' D W W' ⟨⟨g1,g2,g3⟩,gE,Z,ρ,F,q1,q2,q3,q4,q5,q6,q7⟩ hs
  exact⟨⟨g1,g2,λb hb=>Nat.lt_of_lt_of_le (g3 b hb) hs.size⟩,λb o hb=>(hs.block b (mED q4 q6 b (by rw[hb]; simp))).trans (gE b o hb),Z,ρ,F,q1,q2,q3,q4,q5,q6,q7.same hs q6⟩
 have hnN:w0.n<=NN:=by rw[hNN]; exact hr0.below.size
 have hfin:∀mem' D W,G mem' D W->W.heap[NN]? = some (.deferred (some []))->FR C.yl (λj=>j∈qq1 iv (.rangeFunc g ps ag (.block id (.seq c1 c2))) i) s0 (qo5 (some Y) [] mem' [] s0)/\we4 P T m0 N (qo5 (some Y) [] mem' [] s0) { a with defers:={ target:=.collected NN,args:=#[] } :: a.defers } W:=by
  rintro mem' D W ⟨⟨g1,g2,g3⟩,gE,Z,ρ,F,q1,q2,q3,q4,q5,q6,q7⟩ hW
  refine⟨λj _ hst=>?_,⟨Z.n,Z.W,F,Z.low,Z.ρ⟩,q1,hN,m0,ρ,?_⟩
  ·rw[hyl] at hst
   exact hst
  ·have h1:=q7.rebase (Z':=⟨Z.n,Z.W,F,Z.low,Z.ρ⟩) rfl rfl ⟨q7.below.os,q7.below.tape,q7.below.output,q7.below.grows,λb hb=>q7.below.kept b (q3 b hb)⟩ λb hb=>.inl (q3 b hb)
   exact h1.act (ov:=[]) (base:=λi=>kpK (some Y) i (s0.get i)) (λi=>h1.slots i) ⟨⟨NN,rfl,by show Z.n<=NN; omega,λhF=>g1 (q6 _ (.inr (.inl (q3 _ hF)))),hW,λe he ht=>g1 (q6 _ (.inr (.inr (.inr ⟨e,he,ht⟩))))⟩,h1.defers⟩
 -- as the loop finds it
 obtain⟨Zs,hZs⟩:∃Zs:Base,Zs=⟨w0.n,w,λb=>w0.F b\/(mE b≠none/\m0 b=none),hr0.below.size,w0.ρ⟩:=⟨_,rfl⟩
 obtain⟨ρs,hρs⟩:∃ρs,ρs=headρ ρA (V.mem p x0):=⟨_,rfl⟩
 have hstart:Rel P Zs m0 (qo5 (some Y) [] (V.mem p x0) [] s0) m0 ρs a w:=by
  obtain⟨⟨c1',c2',c3'⟩,_⟩:=chk x0 hI0
  have hown:∀b,Own s0.mem ρA b->mE b=none:=λb hb=>(hr0.own hb).2.2.1
  have h1:=hr0.havs hAp (ov':=[]) (base':=λi=>kpK (some Y) i (s0.get i)) slotA
  have h2:=h1.rebase (Z':=⟨w0.n,w,λb=>w0.F b\/(mE b≠none/\m0 b=none),hr0.below.size,w0.ρ⟩) rfl rfl ⟨rfl,rfl,rfl,Nat.le_refl _,λb hb=>⟨?_,rfl⟩⟩ λb hb=>?_
  ·have h3:=q1o (y:=some Y) (b:=none) (sl:=[]) (mem:=V.mem p x0) (ds:=[]) (s0:=s0) h2 trivial (by rw[hms0]; exact hmem0) rfl (by rw[c2']; exact c1') (λg v hv hp=>by
    have h1:=(List.getElem?_eq_some_iff.1 (hr0.pins g v hv hp)).1
    rw[hr0.len,hms0] at h1
    omega) (λN e=>by cases e) λj _ _=>⟨slotA j,by rw[c2']; exact slotB j⟩
   rw[hZs,hρs]
   exact h3
  ·rcases hb with hb | ⟨hb,_⟩
   ·exact Nat.lt_of_lt_of_le (hr0.below.kept b hb).1 hr0.below.grows
   ·cases hm:mE b with
    | none=>exact absurd hm hb
    | some o=>exact View.lt hr0.view hm
  ·rcases hb with hb | ⟨hb,hb'⟩
   ·exact .inl hb
   ·refine .inr ⟨hb',λ⟨g,v,l1,l2,l3⟩=>hb (hown b ⟨g,v,?_,l2,l3⟩),λhmk=>?_⟩
    ·have l1:(qa3 (qm6 s0.mem) g).live=true:=l1
     rw[qw7] at l1
     exact wd8 l1
    ·have h5:=(hr0.defers.get hmk).2.2
     cases hm:mE b with
     | none=>exact hb hm
     | some o=>
      obtain⟨c,t,f,rfl⟩:=hcE b o hm
      have:=hr0.view b _ hm
      rw[h5] at this
      cases this
 have hZn:Zs.n=w0.n:=by rw[hZs]
 have hstartG:G (V.mem p x0) (w1o Zs m0 (V.mem p x0) ρs a.defers) w:=by
  refine⟨⟨λhD=>?_,λhD=>?_,λb hb=>hstart.deps hb⟩,hr0.view,Zs,ρs,w0.F,?_,hZn,λb hb=>by rw[hZs]; exact .inl hb,λb h1 h2=>⟨by rw[hZs]; exact .inr ⟨h1,h2⟩,λhF=>?_⟩,λg q hq=>?_,λb hb=>hb,hstart⟩
  ·have:=hstart.deps hD; omega
  ·have:=hstart.deps hD; omega
  ·have h1:=hYO.mov w0 w w0.F hr0.below.size hT hr0.below λ_ h=>h
   rw[hZs]
   exact h1
  ·cases hm:mE b with
   | none=>exact h1 hm
   | some o=>
    rcases hr0.new b o hm with q | q
    ·rw[h2] at q; cases q
    ·exact q.2 hF
  ·rw[hρs]
   obtain⟨⟨_,c2',c3'⟩,_⟩:=chk x0 hI0
   refine headρ_old ?_ hq
   have h1:=(List.getElem?_eq_some_iff.1 hq).1
   rw[hr0.len,hms0] at h1
   omega
 refine w7x (m:=mE) (args:=qr2 S.lend S.ins) (lent:=qm2 S.lend S.ins) (L:=L) e1 hcl hsay (λ_ _ _ _ _ h1 h2=>qy8 h1 h2) ?_ (λk D W=>∃x,V.I p x/\V.μ p x=k/\G (V.mem p x) D W) (λc D W=>∃e mem',(c=.ret/\e=XK.ret\/∃id,c=.exit id/\e=XK.exit id)/\K e (qo5 (some Y) [] mem' [] s0)/\G mem' D W) ?_ ?_ ?_ ?_ hr0.view (w1o Zs m0 (V.mem p x0) ρs a.defers) ?_ ?_ ?_ ?_
 ·intro d mx vs hv
  rw[q5c hv,<- hlen]
  simp
 ·rintro k D W W' ⟨x,q1,q2,q3⟩ hs; exact⟨x,q1,q2,hGs _ _ _ _ q3 hs⟩
 ·rintro c D W W' ⟨e,mem',q1,q2,q3⟩ hs; exact⟨e,mem',q1,q2,hGs _ _ _ _ q3 hs⟩
 ·rintro k D W ⟨x,q1,q2,q3⟩; rw[<- hNN]; exact⟨q3.1.2.2,q3.1.1,q3.1.2.1⟩
 ·rintro c D W ⟨e,mem',q1,q2,q3⟩; rw[<- hNN]; exact⟨q3.1.2.2,q3.1.1,q3.1.2.1⟩
 ·exact⟨x0,hI0,hmu0,hstartG⟩
 ·-- a round
  rintro k D W d mx vs B ⟨x,hIx,hmu,⟨dN,dN1,dlt⟩,hEW,Z,ρ,F0,hTF,hZn0,hFZ,hEF,hptr,hdep,hR⟩ hlt ⟨rc,hl⟩ hk hd0 hmx hmd hargs hlent hB
  rw[<- hNN] at hlt hl hk hmd hB ⊢
  obtain⟨⟨c1',c2',c3'⟩,hstep,-⟩:=chk x hIx
  have hb:=hstep d (by rw[hmu]; exact hd0)
  have hown:∀b,Own (V.mem p x) ρ b->m0 b=none:=λb hb=>(hR.own hb).2.2.1
  have ownD:∀b,Own (V.mem p x) ρ b->D b:=λb hb=>hdep b (.inr (.inr (.inl hb)))
  have hin:=hR.enter (Nat.le_refl _) (View.le_refl m0) hR.view hown (a':={ a with defers:=[] }) rfl (λb ⟨d,hd,_⟩=>by cases hd) trivial (λ_ _=>rfl) ρ (λ_ _ h _=>h)
  have hmB:∀b,B b->m0 b=none:=λb hb=>by
   cases hm:m0 b with
   | none=>rfl
   | some o=>exact absurd (hdep b (.inl (by rw[hm]; simp))) (hB b hb).2.2.1
  have hoB:∀b,B b->¬Own (V.mem p x) ρ b:=λb hb ho=>(hB b hb).2.2.1 (ownD b ho)
  obtain⟨Z1,hZ1⟩:∃Z1:Base,Z1=⟨Z.n,W,λb=>b<W.heap.size/\¬Own (V.mem p x) ρ b/\¬B b,hR.below.size,ρ⟩:=⟨_,rfl⟩
  have hinZ:=hin.rebase (Z':=Z1) (by rw[hZ1]; rfl) (by rw[hZ1]; rfl) (by rw[hZ1]; exact⟨rfl,rfl,rfl,Nat.le_refl _,λb hb=>⟨hb.1,rfl⟩⟩) (λb hb=>by rw[hZ1] at hb; exact .inl ⟨hb.1,hb.2.1,λ⟨d,hd,_⟩=>by cases hd⟩)
  have hargs2:qr2 S.lend S.ins d m0 vs:=by
   rw[hlend] at hargs ⊢
   exact hargs
  obtain⟨TL,s2,ρ1,hvc,hTL,hl2,hρ1,hown2,t,ht,htN,hin2⟩:=w7z hinZ hN (λq hq=>hd q (List.mem_append.2 (.inl hq))) hb hargs2 hlent λb hb=>⟨by rw[hZ1]; have:=(hB b hb).1; show Z.n<=b; omega,by rw[hZ1]; exact λq=>q.2.2 hb,hmB b hb,hoB b hb⟩
  have hfold:(ps.zip vs.toArray).foldl (λt (p,v)=>t.setIfInBounds p v) a.tmps=t:=by
   rw[ht,<- Array.foldl_toList]
   simp
  rw[hfold]
  have hnb2:qj3 c1=true/\qj3 c2=true:=by
   simp only[w0u,qj3] at hnb
   split at hnb <;> simp_all
  have hdb:∀q,q∈qq1 iv c1 (i+1+loops ag)\/q∈qq1 iv c2 (i+1+loops ag+loops c1)->N.may q:=λq hq=>hd q (List.mem_append.2 (.inr (List.mem_append.2 (.inr (List.mem_append.2 hq)))))
  refine ihag C.quiet _ m0 hS.quiet (some (NN+1)) 0 (Cls.one rfl _ _ _) hmc (.inl hna) (i+1) _ s2 _ W _ (λq hq=>hd q (List.mem_append.2 (.inr (List.mem_append.2 (.inl hq))))) ⟨_,rfl,htN,_,ρ1,hin2⟩ hvc ?_
  rintro e s3 a1 W1 hK - ⟨Zx,hZx,hN1,m2',ρ2,hr2'⟩
  rw[hZx] at hr2'
  have hr2:=hr2'.cells
  rw[hmc] at hr2
  obtain⟨m2,hm2e⟩:∃m2,m2=m2'.cells:=⟨_,rfl⟩
  have hc2:Cells m2:=by rw[hm2e]; exact Cells.of
  rw[<- hm2e] at hr2
  clear hr2' hm2e
  have notZ1:∀b,¬Z1.F b->W.heap.size<=b\/Own (V.mem p x) ρ b\/B b:=λb hb=>by
   rw[hZ1] at hb
   by_cases h1:b<W.heap.size
   ·by_cases h2:Own (V.mem p x) ρ b
    ·exact .inr (.inl h2)
    ·by_cases h3:B b
     ·exact .inr (.inr h3)
     ·exact absurd ⟨h1,h2,h3⟩ hb
   ·exact .inl (by omega)
  have Z1n:Z1.n=Z.n:=by rw[hZ1]
  have Z1W:Z1.W=W:=by rw[hZ1]
  have Z1ρ:Z1.ρ=ρ:=by rw[hZ1]
  have kept1:∀b,b<W.heap.size->¬Own (V.mem p x) ρ b->¬B b->W1.heap[b]? = W.heap[b]?:=λb h1 h2 h3=>by
   have:=(hr2.below.kept b (by rw[hZ1]; exact⟨h1,h2,h3⟩)).2
   rw[Z1W] at this; exact this
  have hgr1:W.heap.size<=W1.heap.size:=by have:=hr2.below.grows; rw[Z1W] at this; exact this
  have hBN:∀b,b<=NN+1->¬B b:=λb hb h=>by have:=(hB b h).1; omega
  have hos1:W1.os=W.os/\W1.tape=W.tape/\W1.output=W.output:=by have h1:=hr2.below.os; have h2:=hr2.below.tape; have h3:=hr2.below.output; rw[Z1W] at h1 h2 h3; exact⟨h1,h2,h3⟩
  have hN1':W1.heap[NN]? = W.heap[NN]?:=kept1 NN (by omega) (λh=>dN (ownD _ h)) (hBN _ (by omega))
  have hN2':W1.heap[NN+1]? = W.heap[NN+1]?:=kept1 (NN+1) (by omega) (λh=>dN1 (ownD _ h)) (hBN _ (by omega))
  cases e with
  | exit id=>exact hK.elim
  | ret=>exact hK.elim
  | normal=>
  refine⟨⟨hos1.1,hos1.2.1,hos1.2.2,hgr1,λb hb=>kept1 b hb.1 (λh=>hb.2 (.inl (ownD b h))) λh=>hb.2 (.inr h)⟩,hN1',hN2',λo=>?_⟩
  obtain⟨W2,hW2⟩:∃W2,W2=W1.putObj (NN+1) (.loop o):=⟨_,rfl⟩
  have hsz2:W2.heap.size=W1.heap.size:=by rw[hW2]; simp[World.putObj]
  have hput:∀b,b≠NN+1->W2.heap[b]? = W1.heap[b]?:=λb hb=>by rw[hW2]; exact World.putObj_heap_other hb
  have hL1:W1.heap[NN+1]? = some (.loop rc):=hN2'.trans hl
  rw[<- hW2]
  have hin3:=hr2.enter (w':=W2) (by omega) (View.le_refl m2) (λb ob hb=>by
    rw[hput b λe=>?_]
    ·exact hr2.view b ob hb
    ·subst e
     have h1:=hr2.view _ ob hb
     rw[hL1] at h1
     obtain⟨c,t,f,h2⟩:=hc2 _ ob hb
     subst h2
     cases h1) (λb hb=>(hr2.own hb).2.2.1) (a':=a1) rfl (λ_ h=>h) hr2.defers (λb hb=>hput b λe=>by
    subst e
    rcases hb with hb | hb
    ·obtain⟨o',h1,ho'⟩:=(hr2.own hb).2.2.2.2
     rw[hL1] at h1; obtain rfl:=Option.some.inj h1; exact ho'
    ·have h1:=(hr2.defers.get hb).2.2
     rw[hL1] at h1; cases h1) ρ (λg q hq hv=>hr2.pins g q (by rw[Z1ρ]; exact hq) hv)
  refine wpIn_block (wpIn_seq (ih1 C.quiet _ m2 (hS.quiet.le hr2.ext) (some (NN+1)) 0 (Cls.one rfl _ _ _) hc2.eq (.inl hnb2.1) (i+1+loops ag) _ s3 a1 W2 _ (λq hq=>hdb q (.inl hq)) ⟨_,rfl,hN1,m2,ρ2,hin3⟩ hK ?_))
  rintro e s40 a3 W3 hK30 - ⟨_,rfl,hN3,m3,ρ3,hr30⟩
  cases e with
  | exit id=>exact hK30.elim
  | ret=>exact hK30.elim
  | normal=>
  simp only at hK30
  rw[qn7] at hK30
  obtain⟨s4,hK3,hr3',hl3,hB3⟩:=w70 hr30 hK30 hTL hlent
  have notZ20:∀b,¬(b<W2.heap.size/\¬Own s3.mem ρ2 b/\¬qj0 a1.defers b)->W.heap.size<=b\/Own (V.mem p x) ρ b\/B b:=λb hb=>by
   by_cases h1:b<W2.heap.size
   ·by_cases h2:Own s3.mem ρ2 b
    ·exact notZ1 b (hr2.own h2).2.2.2.1
    ·by_cases h3:qj0 a1.defers b
     ·exact notZ1 b (hr2.defers.get h3).2.1
     ·exact absurd ⟨h1,h2,h3⟩ hb
   ·exact .inl (by omega)
  have kept2:∀b,b<W.heap.size->¬Own (V.mem p x) ρ b->¬B b->W3.heap[b]? = W2.heap[b]?:=λb h1 h2 h4=>(hr3'.below.kept b (Classical.byContradiction λhz=>by
   rcases notZ20 b hz with h3 | h3 | h3
   ·omega
   ·exact h2 h3
   ·exact h4 h3)).2
  have hgr3:W2.heap.size<=W3.heap.size:=hr3'.below.grows
  have hos3:W3.os=W2.os/\W3.tape=W2.tape/\W3.output=W2.output:=⟨hr3'.below.os,hr3'.below.tape,hr3'.below.output⟩
  have hm2:∀b ob,m2 b=some ob->m0 b=some ob\/W.heap.size<=b\/Own (V.mem p x) ρ b:=λb ob hb=>by
   rcases hr2.new b ob hb with h1 | ⟨_,h1⟩
   ·exact .inl h1
   ·rcases notZ1 b h1 with h2 | h2 | h2
    ·exact .inr (.inl h2)
    ·exact .inr (.inr h2)
    ·have h3:=hr3'.ext b ob hb
     rw[(hB3 b h2).1] at h3; cases h3
  obtain⟨Zb,hZb⟩:∃Zb:Base,Zb=⟨Z.n,W3,λb=>b<W.heap.size/\¬Own (V.mem p x) ρ b,Nat.le_trans hR.below.size (by omega),ρ⟩:=⟨_,rfl⟩
  have hr3:Rel P Zb m0 s4 m3 ρ3 a3 W3:=by
   have h1:=hr3'.rebase (Z':=Zb) (by rw[hZb]; exact Z1n.symm) (by rw[hZb]; rfl) (by rw[hZb]; exact⟨rfl,rfl,rfl,Nat.le_refl _,λb hb=>⟨by have:=hb.1; show b<W3.heap.size; omega,rfl⟩⟩) λb hb=>by
    rw[hZb] at hb
    refine Classical.byContradiction λhz=>?_
    rcases notZ20 b λq=>hz (.inl q) with q | q | q
    ·have:=hb.1; omega
    ·exact hb.2 q
    ·exact hz (.inr (hB3 b q))
   refine h1.loose hr2.ext λb ob hb=>?_
   rcases hm2 b ob hb with q | q | q
   ·exact .inl q
   ·exact .inr ⟨by rw[hZb]; show Z.n<=b; omega,by rw[hZb]; exact λq2=>by have:=q2.1; omega⟩
   ·exact .inr ⟨by rw[hZb]; exact(hR.own q).1,by rw[hZb]; exact λq2=>q2.2 q⟩
  have hW2s:W2.os=W1.os/\W2.tape=W1.tape/\W2.output=W1.output:=by rw[hW2]; exact⟨rfl,rfl,rfl⟩
  have keptA:∀b,b<W.heap.size->¬Own (V.mem p x) ρ b->¬B b->b≠NN+1->W3.heap[b]? = W.heap[b]?:=λb h1 h2 h3 h4=>(kept2 b h1 h2 h3).trans ((hput b h4).trans (kept1 b h1 h2 h3))
  -- from here on what comes may hand over
  obtain⟨k0,hk0⟩:∃k0,Z.ρ=.int .i64 (code k0) :: RR:=hYO.cls ⟨Z.n,Z.W,F0,Z.low,Z.ρ⟩ hTF
  have hρ0:ρ[0]? = some (.int .i64 (code k0)):=hR.pins 0 _ (by rw[hk0]; rfl) rfl
  obtain⟨R,hRt⟩:∃R,ρ=.int .i64 (code k0) :: R:=by
   cases ρ with
   | nil=>cases hρ0
   | cons v R=>simp only[List.getElem?_cons_zero,Option.some.injEq] at hρ0; exact⟨R,by rw[hρ0]⟩
  obtain⟨X,hXe⟩:∃X:Nat->Prop,X=λb=>b<W.heap.size/\¬Own (V.mem p x) ρ b/\¬F0 b/\m0 b=none:=⟨_,rfl⟩
  have hX:∀b,X b↔b<W.heap.size/\¬Own (V.mem p x) ρ b/\¬F0 b/\m0 b=none:=λb=>by rw[hXe]
  clear hXe
  have hXD:∀b,b<W.heap.size->¬X b->D b:=λb hb hn=>by
   by_cases h1:Own (V.mem p x) ρ b
   ·exact ownD b h1
   ·by_cases h2:F0 b
    ·exact hdep b (.inr (.inl (hFZ b h2)))
    ·cases h3:m0 b with
     | none=>exact absurd ((hX b).2 ⟨hb,h1,h2,h3⟩) hn
     | some o=>exact hdep b (.inl (by rw[h3]; simp))
  have hDX:∀b,b<W.heap.size->¬D b->X b:=λb hb hn=>Classical.byContradiction λh=>hn (hXD b hb h)
  have hF0B:∀b,F0 b->b<W.heap.size/\¬Own (V.mem p x) ρ b/\¬B b/\b≠NN+1:=λb hb=>by
   have h1:=hdep b (.inr (.inl (hFZ b hb)))
   exact⟨dlt b h1,λh=>(hR.own h).2.2.2.1 (hFZ b hb),λh=>(hB b h).2.2.1 h1,λe=>dN1 (e ▸ h1)⟩
  have hlow3:Z.n<=W3.heap.size:=Nat.le_trans hR.below.size (by omega)
  have hos0:=hR.below
  have hTb:TIn T RR W Z.n D X R W3 Zb:=by
   rw[hZb]
   refine⟨F0,k0,?_,hRt,rfl,λb hb=>⟨(hF0B b hb).1,(hF0B b hb).2.1⟩,λb hb=>⟨⟨((hX b).1 hb).1,((hX b).1 hb).2.1⟩,((hX b).1 hb).2.2.1⟩,λb hb _=>hdep b (.inr (.inl (hFZ b hb))),⟨rfl,rfl,rfl⟩,Nat.le_refl _,λ_ _=>rfl⟩
   have h1:=hYO.mov ⟨Z.n,Z.W,F0,Z.low,Z.ρ⟩ W3 F0 hlow3 hTF ⟨(hos3.1.trans (hW2s.1.trans hos1.1)).trans hos0.os,(hos3.2.1.trans (hW2s.2.1.trans hos1.2.1)).trans hos0.tape,(hos3.2.2.trans (hW2s.2.2.trans hos1.2.2)).trans hos0.output,Nat.le_trans hos0.grows (by omega),λb hb=>⟨(hos0.kept b (hFZ b hb)).1,?_⟩⟩ λ_ h=>h
   ·rw[<- hk0]; exact h1
   ·obtain⟨f1,f2,f3,f4⟩:=hF0B b hb
    exact(keptA b f1 f2 f3 f4).trans (hos0.kept b (hFZ b hb)).2
  have hCls:Cls P C (TIn T RR W Z.n D X R W3) m0 N (some (NN+1)) 0:=by
   refine⟨?_,λY' e=>⟨R,?_⟩⟩
   ·rintro Za Zc ⟨_,_,_,qa,_⟩ ⟨_,kc,_,qc,_⟩ g v hv hp
    rw[qa] at hv
    rw[qc]
    cases g with
    | zero=>exact⟨_,rfl,rfl⟩
    | succ g=>exact⟨v,hv,hp⟩
   ·rw[hyl] at e
    injection e with e
    subst e
    exact TIn.yok hYO (λb hb=>⟨((hX b).1 hb).1,((hX b).1 hb).2.2.2⟩) hXD (by omega)
  refine ih2 C _ m0 hS (some (NN+1)) 0 hCls hmc (.inl hnb2.2) (i+1+loops ag+loops c1) _ s4 a3 W3 _ (λq hq=>hdb q (.inr hq)) ⟨Zb,hTb,hN3,m3,ρ3,hr3⟩ hK3 ?_
  rintro e s6 a4 W4 hK6 - ⟨Z4,⟨F4,k4,h41,h42,h43,h44,h45,h46,h47,h48,h49⟩,hN4,m4,ρ4,hr4⟩
  have ok4:=hr4.below
  have kept4:∀b,X b->W4.heap[b]? = W3.heap[b]?:=λb hb=>((ok4.kept b (h45 b hb).1).2).trans (h49 b hb)
  have hgr4:W3.heap.size<=W4.heap.size:=Nat.le_trans h48 ok4.grows
  have hos4:W4.os=W3.os/\W4.tape=W3.tape/\W4.output=W3.output:=⟨ok4.os.trans h47.1,ok4.tape.trans h47.2.1,ok4.output.trans h47.2.2⟩
  have hEX:∀b,mE b≠none->m0 b=none->X b/\¬B b/\b≠NN+1/\D b:=λb h1 h2=>by
   obtain⟨q1,q2⟩:=hEF b h1 h2
   have hDb:=hdep b (.inr (.inl q1))
   exact⟨(hX b).2 ⟨dlt b hDb,λh=>(hR.own h).2.2.2.1 q1,q2,h2⟩,λh=>(hB b h).2.2.1 hDb,λe=>dN1 (e ▸ hDb),hDb⟩
  have preS:Same (λb=>b<W.heap.size/\¬(D b\/B b)) W2 W4:=
   ⟨hos4.1.trans hos3.1,hos4.2.1.trans hos3.2.1,hos4.2.2.trans hos3.2.2,by omega,λb hb=>(kept4 b (hDX b hb.1 λh=>hb.2 (.inl h))).trans (kept2 b hb.1 (λh=>hb.2 (.inl (ownD b h))) λh=>hb.2 (.inr h))⟩
  have preL:qm2 S.lend S.ins d W4 vs B:=qy8 hl3 λb hb=>kept4 b (hDX b (hB b hb).2.1 (hB b hb).2.2.1)
  have preN:W4.heap[NN]? = W2.heap[NN]?:=(kept4 NN (hDX NN (by omega) dN)).trans (kept2 NN (by omega) (λh=>dN (ownD _ h)) (hBN _ (by omega)))
  have preN1:W4.heap[NN+1]? = W2.heap[NN+1]?:=(kept4 (NN+1) (hDX (NN+1) (by omega) dN1)).trans (kept2 (NN+1) (by omega) (λh=>dN1 (ownD _ h)) (hBN _ (by omega)))
  have preE:mE.on W4:=λb ob hb=>by
   cases hm:m0 b with
   | some o'=>
    have h1:=hr0.ext b o' hm
    rw[hb] at h1
    obtain rfl:=Option.some.inj h1
    exact hr4.view b _ (hr4.ext b _ hm)
   | none=>
    obtain⟨q1,q2,q3,q4⟩:=hEX b (by rw[hb]; simp) hm
    exact(kept4 b q1).trans ((keptA b ((hX b).1 q1).1 ((hX b).1 q1).2.1 q2 q3).trans (hEW b ob hb))
  -- the world behind the round,as the next one finds it
  have hR1:∀g v,ρ[g+1]? = some v->R[g]? = some v:=λg v h=>by rw[hRt] at h; simpa using h
  have endG:∀(mem':List AObj) (ρ':List Value),(∀(g:Nat) q,ρA[g]? = some (Value.pointer q)->ρ'[g]? = some (Value.pointer q))->Rel P Z4 m0 (qo5 (some Y) [] mem' [] s0) m0 ρ' { a with defers:=[] } W4->∃D',(∀b,D' b->D b\/W.heap.size<=b\/mx b≠none)/\G mem' D' W4:=by
   intro mem' ρ' hp' h4
   obtain⟨Zf,hZf⟩:∃Zf:Base,Zf=⟨Z4.n,W4,λb=>F4 b\/(mE b≠none/\m0 b=none),ok4.size,.int .i64 (code k4) :: RR⟩:=⟨_,rfl⟩
   have hmk:∀b,qj0 a.defers b->X b/\¬B b/\b≠NN+1/\mE b=none:=λb hb=>by
    obtain⟨g1,g2,g3⟩:=hR.defers.get hb
    have hDb:=hdep b (.inr (.inr (.inr hb)))
    refine⟨(hX b).2 ⟨dlt b hDb,λho=>?_,λh=>g2 (hFZ b h),?_⟩,λh=>(hB b h).2.2.1 hDb,λe=>dN1 (e ▸ hDb),?_⟩
    ·obtain⟨o',hc,ho'⟩:=(hR.own ho).2.2.2.2
     rw[g3] at hc; obtain rfl:=Option.some.inj hc; exact ho'
    ·cases hm:m0 b with
     | none=>rfl
     | some ob=>
      obtain⟨c',t',f',rfl⟩:=hc0 b ob hm
      have:=hR.view b _ hm
      rw[g3] at this; cases this
    ·cases hm:mE b with
     | none=>rfl
     | some ob=>
      obtain⟨c',t',f',rfl⟩:=hcE b ob hm
      have:=hEW b _ hm
      rw[g3] at this; cases this
   have hmv:Marks Zf W4 a.defers:=Marks.move (Z:=Z) (Z':=Zf) (W:=W) (W':=W4) (by rw[hZf]; exact h43) hR.defers λb hb=>by
    obtain⟨q1,q2,q3,q4⟩:=hmk b hb
    refine⟨λhF=>?_,(kept4 b q1).trans (keptA b ((hX b).1 q1).1 ((hX b).1 q1).2.1 q2 q3)⟩
    rw[hZf] at hF
    rcases hF with hF | hF
    ·exact(h45 b q1).2 hF
    ·exact hF.1 q4
   have hrf:Rel P Zf m0 (qo5 (some Y) [] mem' [] s0) m0 ρ' a W4:=by
    rw[hZf] at hmv ⊢
    refine⟨λi=>h4.slots i,h4.len,h4.hdr,hmv,h4.objs,h4.apart,h4.view,h4.ext,λb o hb=>.inl hb,⟨rfl,rfl,rfl,Nat.le_refl _,λb hb=>⟨?_,rfl⟩⟩,λg v b l1 l2 l3 hF=>?_,λg v hv hp=>?_⟩
    ·rcases hb with hb | hb
     ·exact Nat.lt_of_lt_of_le (ok4.kept b (h44 b hb)).1 ok4.grows
     ·have:=((hX b).1 (hEX b hb.1 hb.2).1).1
      show b<W4.heap.size
      omega
    ·have hz:=h4.zone g v b l1 l2 l3
     rcases hF with hF | hF
     ·exact hz (h44 b hF)
     ·exact hz (h45 b (hEX b hF.1 hF.2).1).1
    ·cases g with
     | zero=>
      simp only[List.getElem?_cons_zero,Option.some.injEq] at hv
      subst hv
      exact h4.pins 0 _ (by rw[h42]; rfl) rfl
     | succ g=>
      refine h4.pins (g+1) v ?_ hp
      rw[h42]
      exact hR1 g v (hR.pins (g+1) v (by rw[hk0]; exact hv) hp)
   have sub:∀b,w1o Zf m0 mem' ρ' a.defers b->D b\/W.heap.size<=b:=by
    rintro b (hb | hb | hb | hb)
    ·exact .inl (hdep b (.inl hb))
    ·rw[hZf] at hb
     rcases hb with hb | hb
     ·by_cases hw:b<W.heap.size
      ·exact .inl (h46 b hb hw)
      ·exact .inr (by omega)
     ·exact .inl (hEX b hb.1 hb.2).2.2.2
    ·obtain⟨g',v,j1,j2,j3⟩:=hb
     have hz:=h4.zone g' v b j1 j2 j3
     by_cases hw:b<W.heap.size
     ·exact .inl (hXD b hw λhx=>hz (h45 b hx).1)
     ·exact .inr (by omega)
    ·exact .inl (hdep b (.inr (.inr (.inr hb))))
   refine⟨w1o Zf m0 mem' ρ' a.defers,λb hb=>(sub b hb).imp (λh=>h) .inl,⟨λhD=>?_,λhD=>?_,λb hb=>hrf.deps hb⟩,preE,Zf,ρ',F4,?_,?_,λb hb=>by rw[hZf]; exact .inl hb,λb h1 h2=>⟨by rw[hZf]; exact .inr ⟨h1,h2⟩,(h45 b (hEX b h1 h2).1).2⟩,hp',λb hb=>hb,hrf⟩
   ·rcases sub _ hD with q | q
    ·exact dN q
    ·omega
   ·rcases sub _ hD with q | q
    ·exact dN1 q
    ·omega
   ·rw[hZf]
    exact hYO.mov ⟨Z4.n,Z4.W,F4,Z4.low,_⟩ W4 F4 ok4.size h41 ⟨ok4.os,ok4.tape,ok4.output,ok4.grows,λb hb=>ok4.kept b (h44 b hb)⟩ λ_ h=>h
   ·rw[hZf]; exact h43.trans hZn0
  have hp4:∀(g:Nat) q,ρA[g]? = some (Value.pointer q)->ρ4[g]? = some (Value.pointer q):=λg q hq=>by
   have h1:=hptr g q hq
   cases g with
   | zero=>rw[hρ0] at h1; cases h1
   | succ g=>exact hr4.pins (g+1) _ (by rw[h42]; exact hR1 g _ h1) rfl
  have hA4:∀b,ρ4[0]?≠some (.pointer b):=λb hb=>by
   rw[hr4.pins 0 (.int .i64 (code k4)) (by rw[h42]; rfl) rfl] at hb
   cases hb
  have hr5:Rel P Z4 m0 (qo5 (some Y) [] (qm6 s6.mem) [] s0) m0 ρ4 { a with defers:=[] } W4:=by
   have h1:=hr4.havs hA4 (ov':=[]) (base':=λ_=>.any) λi=>⟨_,rfl⟩
   exact h1.act (ov:=[]) (base:=λi=>kpK (some Y) i (s0.get i)) (a':={ a with defers:=[] }) (slotK ρ4 hp4) trivial
  have post:∀{e:Exit} {q:Prop},q->q:=λh=>h
  have HN:(∃x':V.S,V.I p x'/\V.μ p x'=V.μ p x+1/\q0c .none (qm6 s6.mem) (V.mem p x'))->∃D',(∀b,D' b->D b\/W.heap.size<=b\/mx b≠none)/\∃x',V.I p x'/\V.μ p x'=k+1/\G (V.mem p x') D' W4:=by
   rintro⟨x',hIx',hmu',hle'⟩
   obtain⟨⟨d1,d2,d3⟩,_⟩:=chk x' hIx'
   have hρl:ρ.length=V.size:=by rw[hR.len]; exact c2'
   have hh:=q1o (y:=some Y) (b:=none) (sl:=[]) (mem:=V.mem p x') (ds:=[]) (s0:=s0) hr5 trivial hle' rfl (by rw[d2]; exact d1) (λg q hq _=>by
    rw[h42] at hq
    have h1:=(List.getElem?_eq_some_iff.1 hq).1
    rw[hRt] at hρl
    simp only[List.length_cons] at h1 hρl
    omega) (λN e=>by cases e) (λj _ _=>⟨slotK ρ4 hp4 j,by rw[d2]; exact slotB j⟩)
   obtain⟨D',k1,k2⟩:=endG _ _ (λg q hq=>by
    refine headρ_old ?_ (hp4 g q hq)
    have h1:=(List.getElem?_eq_some_iff.1 hq).1
    rw[hr0.len,hms0] at h1
    omega) hh
   exact⟨D',k1,x',hIx',by omega,k2⟩
  have HX:∀e,K e (qo5 (some Y) [] (qm6 s6.mem) [] s0)->∀c,(c=Code.ret/\e=XK.ret\/∃id,c=.exit id/\e=XK.exit id)->∃D',(∀b,D' b->D b\/W.heap.size<=b\/mx b≠none)/\∃e mem',(c=.ret/\e=XK.ret\/∃id,c=.exit id/\e=XK.exit id)/\K e (qo5 (some Y) [] mem' [] s0)/\G mem' D' W4:=λe hKe c hce=>by
   obtain⟨D',k1,k2⟩:=endG _ _ hp4 hr5
   exact⟨D',k1,e,_,hce,hKe,k2⟩
  rcases xz7 (id:=id) (e:=e) with⟨hb1,hb2⟩ | ⟨hb1,hb2,hb3⟩
  ·rw[hb1] at hK6
   have H:=HN hK6
   rcases hb2 with rfl | rfl
   ·exact⟨preS,preL,preN,preN1,preE,H⟩
   ·show(if id=id then _ else _)
    rw[if_pos rfl]
    exact⟨preS,preL,preN,preN1,preE,H⟩
  ·rw[hb1] at hK6
   cases e with
   | normal=>exact absurd rfl hb2
   | ret=>exact⟨preS,preL,preN,preN1,preE,HX _ hK6 _ (.inl ⟨rfl,rfl⟩)⟩
   | exit j=>
    show(if j=id then _ else _)
    rw[if_neg (λe=>hb3 (by rw[e]))]
    exact⟨preS,preL,preN,preN1,preE,HX _ hK6 _ (.inr ⟨j,rfl,rfl⟩)⟩
 ·rintro D W ⟨x,q1,q2,q3⟩ hW
  rw[<- hNN] at hW ⊢
  obtain⟨h1,h2⟩:=hfin _ _ _ q3 hW
  exact hQ .normal _ _ _ ((chk x q1).2.2 q2) h1 h2
 ·rintro c D W ⟨e,mem',q1,q2,q3⟩ hW
  rw[<- hNN] at hW ⊢
  obtain⟨h1,h2⟩:=hfin _ _ _ q3 hW
  rcases q1 with⟨rfl,rfl⟩ | ⟨id,rfl,rfl⟩
  ·exact wpIn_ret (hQ .ret _ _ _ q2 h1 h2)
  ·exact wpIn_exit (hQ (.exit id) _ _ _ q2 h1 h2)
theorem x3g {iv:Nat->Option Inv}:∀c:Code,Mt P N iv c:=by
 intro c
 induction c with
 | skip=>
  refine⟨?_,(by intro _ _ h; cases h),(by intro _ _ _ h; cases h)⟩
  intro C T m0 hS r n hC hmc hrr i K s a w Q hd hg h hQ; exact wpIn_skip (hQ .normal s a w h (FR.refl _ _ _) hg)
 | region id ops draw=>
  refine⟨?_,(by intro _ _ h; cases h),(by intro _ _ _ h; cases h)⟩
  intro C T m0 hS r n hC hmc hrr i K s a w Q hd hg h hQ
  have hall:∀o∈ops.toList,∀d,o.dst=some d->d∈qq1 iv (.region id ops draw) i/\N.may d:=λo ho d hod=>by
   have hm:d∈qq1 iv (.region id ops draw) i:=List.mem_filterMap.2 ⟨o,ho,hod⟩
   exact⟨hm,hd d hm⟩
  obtain⟨w0,hT,hg⟩:=hg
  have drawn:(match s with
    | ⟨ov,base,mem⟩=>q82 (padMem mem ops.toList) λmem'=>q2h mem.length lits λn0=>q2i C ops.toList n0 0 ops.toList ⟨ov,base,mem'⟩ [] (K .normal))->(Code.region id ops true).wpIn (fz r) n P Q a w:=by
   intro h
   obtain⟨ov,base,mem⟩:=s
   simp only at h
   rw[qs0,qn7] at h
   exact xz1 (D:=λj=>j∈qq1 iv (.region id ops draw) i) hS hall hg h λs' a' w' q1 q2 q3=>hQ .normal s' a' w' q1 q2 ⟨w0,hT,q3⟩
  cases hyl:C.yl with
  | none=>
   simp only[vc,hyl] at h
   cases draw with
   | true=>exact drawn h
   | false=>exact wpIn_region_list (w1r (D:=λj=>j∈qq1 iv (.region id ops false) i) hS hall ops.toList s (K .normal) a w (λo ho=>ho) hg h λs' a' w' q1 q2 q3=>hQ .normal s' a' w' q1 q2 ⟨w0,hT,q3⟩)
  | some Y=>
   simp only[vc,hyl] at h
   obtain⟨RR,hYO⟩:=hC.yl Y hyl
   have hc0:Cells m0:=by rw[<- hmc]; exact Cells.of
   cases draw with
   | false=>exact wpIn_region_list (w72 (D:=λj=>j∈qq1 iv (.region id ops false) i) hS hyl hYO hc0 hall ops.toList w0 s (K .normal) a w (λo ho=>ho) hT hg h λs' Z' a' w' q1 q2 q3 q4=>hQ .normal s' a' w' q1 q3 ⟨Z',q2,q4⟩)
   | true=>
    cases hyx:yIx Y.slots ops.toList 0 with
    | none=>rw[hyx] at h; exact drawn h
    | some y=>
     rw[hyx] at h
     simp only at h
     cases hyk:yOk ops.toList y with
     | false=>rw[hyk] at h; exact h.elim
     | true=>
      rw[hyk] at h
      obtain⟨ov,base,mem⟩:=s
      simp only at h
      rw[qs0,qn7] at h
      exact xj0 (D:=λj=>j∈qq1 iv (.region id ops true) i) hS hyl hYO hc0 hall hyk (by have:=xt0 hyx; simpa using this) hT hg h λs' Z' a' w' q1 q2 q3 q4=>hQ .normal s' a' w' q1 q3 ⟨Z',q2,q4⟩
 | seq x y ihx ihy=>
  refine⟨?_,(by intro _ _ h; cases h; exact⟨ihx.1,ihy.1⟩),(by intro _ _ _ h; cases h)⟩
  replace ihx:=ihx.1
  replace ihy:=ihy.1
  intro C T m0 hS r n hC hmc hrr i K s a w Q hd hg h hQ
  have hx:∀d∈qq1 iv x i,d∈qq1 iv (.seq x y) i:=λd h=>List.mem_append.2 (.inl h)
  have hy:∀d∈qq1 iv y (i+loops x),d∈qq1 iv (.seq x y) i:=λd h=>List.mem_append.2 (.inr h)
  have hrr2:(qj3 x=true\/w4y C T r)/\(qj3 y=true\/w4y C T r):=by
   rcases hrr with h | h
   ·simp only[qj3] at h; split at h <;> simp_all
   ·exact⟨.inr h,.inr h⟩
  refine wpIn_seq (ihx C T m0 hS r n hC hmc hrr2.1 i _ s a w _ (λd h=>hd d (hx d h)) hg h λe s' a' w' q1 q2 q3=>?_)
  have q2':=q2.mono hx
  cases e with
  | normal=>exact ihy C T m0 hS r n hC hmc hrr2.2 (i+loops x) K s' a' w' Q (λd h=>hd d (hy d h)) q3 q1 λe s'' a'' w'' p1 p2 p3=>hQ e s'' a'' w'' p1 (q2'.trans (p2.mono hy)) p3
  | exit id=>exact hQ (.exit id) s' a' w' q1 q2' q3
  | ret=>exact hQ .ret s' a' w' q1 q2' q3
 | cond x y z ihy ihz=>
  refine⟨?_,(by intro _ _ h; cases h),(by intro _ _ _ h; cases h)⟩
  replace ihy:=ihy.1
  replace ihz:=ihz.1
  intro C T m0 hS r n hC hmc hrr i K s a w Q hd hg h hQ
  obtain⟨ov,base,mem⟩:=s
  obtain⟨w0,hT,hN,m,ρ,hr⟩:=hg
  simp only[vc] at h
  obtain⟨b,hb,h1,h2⟩:=q1g h (hr.eval x)
  have hy:∀d∈qq1 iv y i,d∈qq1 iv (.cond x y z) i:=λd h=>List.mem_append.2 (.inl h)
  have hz:∀d∈qq1 iv z (i+loops y),d∈qq1 iv (.cond x y z) i:=λd h=>List.mem_append.2 (.inr h)
  have hrr2:(qj3 y=true\/w4y C T r)/\(qj3 z=true\/w4y C T r):=by
   rcases hrr with h | h
   ·simp only[qj3] at h; split at h <;> simp_all
   ·exact⟨.inr h,.inr h⟩
  refine wpIn_cond hb ?_
  cases b with
  | true=>exact ihy C T m0 hS r n hC hmc hrr2.1 i K _ a w Q (λd h=>hd d (hy d h)) ⟨w0,hT,hN,m,ρ,hr⟩ (h1 rfl) λe s' a' w' q1 q2 q3=>hQ e s' a' w' q1 (q2.mono hy) q3
  | false=>exact ihz C T m0 hS r n hC hmc hrr2.2 (i+loops y) K _ a w Q (λd h=>hd d (hz d h)) ⟨w0,hT,hN,m,ρ,hr⟩ (h2 rfl) λe s' a' w' q1 q2 q3=>hQ e s' a' w' q1 (q2.mono hz) q3
 | block id x ih=>
  refine⟨?_,(by intro _ _ h; cases h),(by intro _ _ _ h; cases h; exact ih.2.1 _ _ rfl)⟩
  replace ih:=ih.1
  intro C T m0 hS r n hC hmc hrr i K s a w Q hd hg h hQ
  refine wpIn_block (ih C T m0 hS r n hC hmc hrr i _ s a w _ hd hg h λe s' a' w' q1 q2 q3=>?_)
  cases e with
  | normal=>exact hQ .normal s' a' w' q1 q2 q3
  | ret=>exact hQ .ret s' a' w' q1 q2 q3
  | exit j=>
   simp only at q1
   show(if j=id then Q .normal a' w' else Q (.exit j) a' w')
   cases hb:Nat.beq j id <;> rw[hb] at q1
   ·rw[if_neg (λe=>by subst e; simp at hb)]
    exact hQ (.exit j) s' a' w' q1 q2 q3
   ·rw[if_pos (Nat.eq_of_beq_eq_true hb)]
    exact hQ .normal s' a' w' q1 q2 q3
 | scope x ih=>
  refine⟨?_,(by intro _ _ h; cases h),(by intro _ _ _ h; cases h)⟩
  replace ih:=ih.1
  intro C T m0 hS r n hC hmc hrr i K s a w Q hd hg h hQ
  exact w4x (ih C T m0 hS r n hC hmc hrr i K s a w _ hd hg h λe s' a' w' q1 q2 q3=>by
   have:=hQ e s' a' w' q1 q2 q3
   cases e <;> exact this)
 | label l=>
  refine⟨?_,(by intro _ _ h; cases h),(by intro _ _ _ h; cases h)⟩
  intro C T m0 hS r n hC hmc hrr i K s a w Q hd hg h hQ; exact wpIn_label (hQ .normal s a w h (FR.refl _ _ _) hg)
 | loop x ih=>
  refine⟨?_,(by intro _ _ h; cases h),(by intro _ _ _ h; cases h)⟩
  replace ih:=ih.1
  intro C T m0 hS r n hC hmc hrr i K s a w Q hd hg h hQ
  simp only[vc] at h
  obtain⟨V0,hV0,h⟩:=withSome_iff.1 h
  rw[qn7] at h
  obtain⟨V,hV,h⟩:=withSome_iff.1 h
  obtain⟨p,x0,hI0,hdie⟩:=h
  obtain⟨w0,hT,hNg,mg,ρg,hrg⟩:=hg
  obtain⟨s1,mg1,ρg1,hcond,-,hrg1,hfr1,-⟩:=q2q hS.fixs (D:=λj=>j∈qq1 iv (.loop x) i) s.mem 0 s mg ρg (λj o hj _=>q00 _ _ _ hj) hrg hdie
  have hg1:Good P w0 m0 N s1 a w:=⟨hNg,mg1,ρg1,hrg1⟩
  suffices main:∀s:St,Good P w0 m0 N s a w->((q2h s.mem.length lits λb0=>q0p (some (qn6 b0 (V.mem p x0) 0)) s (V.slots p x0)/\q0c (some (qn6 b0 (V.mem p x0) 0)) s.mem (V.mem p x0))/\∀y:V.S,V.I p y ->
   match qu4 V.size (V.slots p y),qs5 V.size (V.mem p y),Nat.beq (V.mem p y).length V.size,qt8 (V.slots p y) V0.names,Nat.ble s.mem.length V.size with
   | true,true,true,true,true=>wk4 C.yl (V.slots p y) (V.mem p y) (qq1 iv (.loop x) i) s (vc C iv x (i+1) (λe s'=>match e with
    | .normal=>∃x':V.S,V.I p x'/\V.μ p x' < V.μ p y/\wj2 (V.mem p x') 0 s'.mem s' λs'=>q0p .none s' (V.slots p x')/\q0c .none s'.mem (V.mem p x')
    | e=>K e s'))
   | _,_,_,_,_=>False)->(∀e s' a' w',K e s'->FR C.yl (λj=>j∈qq1 iv (.loop x) i) s s'->we4 P T m0 N s' a' w'->Q e.out a' w')->(Code.loop x).wpIn (fz r) n P Q a w from
   main s1 hg1 hcond λe s' a' w' q1 q2 q3=>hQ e s' a' w' q1 (hfr1.trans q2) q3
  clear hcond hg1 hfr1 hdie hQ hrg1 hrg s1
  intro s hg h hQ
  obtain⟨hsm,hround⟩:=h
  rw[qn7] at hsm
  obtain⟨hs0,hm0⟩:=hsm
  obtain⟨hN,m,ρ,hr⟩:=hg
  have hds:qq1 iv (.loop x) i=V0.names++qq1 iv x (i+1):=by simp only[qq1,hV0]
  have chk:∀y,V.I p y->(qu4 V.size (V.slots p y)=true/\qs5 V.size (V.mem p y)=true/\Nat.beq (V.mem p y).length V.size=true/\qt8 (V.slots p y) V0.names=true/\Nat.ble s.mem.length V.size=true)/\vc C iv x (i+1) (λe s'=>match e with
    | .normal=>∃x':V.S,V.I p x'/\V.μ p x' < V.μ p y/\wj2 (V.mem p x') 0 s'.mem s' λs'=>q0p none s' (V.slots p x')/\q0c none s'.mem (V.mem p x')
    | e=>K e s') (qo5 C.yl (V.slots p y) (V.mem p y) (qq1 iv (.loop x) i) s):=by
   intro y hy
   have:=hround y hy
   revert this
   cases qu4 V.size (V.slots p y) <;> cases qs5 V.size (V.mem p y) <;> cases Nat.beq (V.mem p y).length V.size <;> cases qt8 (V.slots p y) V0.names <;> cases Nat.ble s.mem.length V.size <;> intro this <;> first | exact False.elim this | skip
   simp only[wd9] at this
   exact⟨⟨rfl,rfl,rfl,rfl,rfl⟩,this⟩
  let ds:=qq1 iv (.loop x) i
  have hpin0:∀(g:Nat) v,w0.ρ[g]? = some v->w6d v=true->g<V.size:=λg v hv hp=>by
   have h1:=(List.getElem?_eq_some_iff.1 (hr.pins g v hv hp)).1
   rw[hr.len] at h1
   obtain⟨⟨_,_,_,_,c5⟩,_⟩:=chk x0 hI0
   exact Nat.lt_of_lt_of_le h1 (Nat.le_of_ble_eq_true c5)
  have hpin:∀Z,T Z->∀(g:Nat) v,Z.ρ[g]? = some v->w6d v=true->g<V.size:=λZ hZ g v hv hp=>by
   obtain⟨v',h1,h2⟩:=hC.pins Z w0 hZ hT g v hv hp
   exact hpin0 g v' h1 h2
  have hbase0:∀j,(kpK C.yl j (s.get j)).ok P m ρ [a.tmps.getD j undef]/\(kpK C.yl j (s.get j)).bnd s.mem.length=true:=λj=>x6k (λY hy p hp e=>by
   obtain⟨_,hYO⟩:=hC.yl Y hy
   have h1:=hYO.fix p hp a hN
   rw[e] at h1
   exact AV.ok_le hr.ext (λ_ _ h _=>h) h1) (hr.slots j) (by rw[<- hr.len]; exact w1y (hr.slots j))
  refine w4w (λ(y:V.S) a' w'=>V.I p y/\we4 P T m0 N (qo5 C.yl (V.slots p y) (V.mem p y) ds s) a' w') (V.μ p) x0 ?_ ?_
  ·obtain⟨⟨c1,c2,c3,c4,c5⟩,_⟩:=chk x0 hI0
   have c3:=Nat.eq_of_beq_eq_true c3
   refine⟨hI0,w0,hT,hN,m,headρ ρ (V.mem p x0),q1o hr hs0 hm0 (by rw[c3]; exact c1) (by rw[c3]; exact c2) (λg v hv hp=>by rw[c3]; exact hpin0 g v hv hp) (λN e=>(Option.some.inj e).symm) λj _ _=>?_⟩
   rw[c3]; exact⟨(hbase0 j).1,w76 (Nat.le_of_ble_eq_true c5) (hbase0 j).2⟩
  ·rintro y a' w' ⟨hy,hgy⟩
   obtain⟨⟨c1,c2,c3,c4,c5⟩,hb⟩:=chk y hy
   refine ih C T m0 hS r n hC hmc hrr (i+1) _ _ a' w' _ (λd h=>hd d (by rw[hds]; exact List.mem_append.2 (.inr h))) hgy hb λe s' a'' w'' q1 q2 q3=>?_
   have hfr:FR C.yl (λj=>j∈qq1 iv (.loop x) i) s s':=by
    intro j hj hst
    have hnj:j∉V0.names/\j∉qq1 iv x (i+1):=by rw[hds] at hj; exact⟨λh=>hj (List.mem_append.2 (.inl h)),λh=>hj (List.mem_append.2 (.inr h))⟩
    have hhead:(qo5 C.yl (V.slots p y) (V.mem p y) ds s).get j=kpK C.yl j (s.get j):=by
     show look (V.slots p y) j (match ds.elem j with | true=>.any | false=>kpK C.yl j (s.get j))=_
     have hel:ds.elem j=false:=by
      cases hq:ds.elem j with
      | false=>rfl
      | true=>exact absurd (by simpa using hq) hj
     rw[hel]
     have:∀(sl:List (Nat × AV)) (d:AV),(∀p∈sl,p.1≠j)->look sl j d=d:=by
      intro sl
      induction sl with
      | nil=>intro d _; rfl
      | cons p sl ihs=>
       intro d hp
       obtain⟨q,v⟩:=p
       have hne:=hp (q,v) List.mem_cons_self
       have:Nat.beq q j=false:=by cases hb:Nat.beq q j with | false=>rfl | true=>exact absurd (Nat.eq_of_beq_eq_true hb) hne
       simp only[look,this]
       exact ihs d λp' h'=>hp p' (List.mem_cons_of_mem _ h')
     exact this _ _ λp hp e=>hnj.1 (by rw[<- e]; exact qz3 c4 p hp)
    have:=q2 j hnj.2 (by rw[hhead,x3d])
    rw[this,hhead,hst]
   cases e with
   | normal=>
    obtain⟨y',hy',hμ,hdie'⟩:=q1
    obtain⟨Z',hTZ,hN',mg,ρ',hrg⟩:=q3
    obtain⟨s2,m',ρ2,⟨hs',hm'⟩,-,hr',hfr2,-⟩:=q2q hS.fixs (D:=λj=>j∈qq1 iv x (i+1)) s'.mem 0 s' mg ρ' (λj o hj _=>q00 _ _ _ hj) hrg hdie'
    have q2:=q2.trans hfr2
    clear hdie' hfr hfr2
    obtain⟨⟨d1,d2,d3,d4,d5⟩,_⟩:=chk y' hy'
    have d3:=Nat.eq_of_beq_eq_true d3
    refine⟨y',hμ,hy',Z',hTZ,hN',m',headρ ρ2 (V.mem p y'),q1o hr' hs' hm' (by rw[d3]; exact d1) (by rw[d3]; exact d2) (λg v hv hp=>by rw[d3]; exact hpin Z' hTZ g v hv hp) (λN e=>by cases e) λj hj hno=>?_⟩
    have hjn:j∉qq1 iv (.loop x) i:=λh=>by
     have:ds.elem j=true:=by simpa using h
     rw[this] at hj; cases hj
    have hnj:j∉qq1 iv x (i+1):=λh=>hjn (by rw[hds]; exact List.mem_append.2 (.inr h))
    have hnn:j∉V0.names:=λh=>hjn (by rw[hds]; exact List.mem_append.2 (.inl h))
    -- the slot as the round found it
    have hhead:(qo5 C.yl (V.slots p y) (V.mem p y) ds s).get j=kpK C.yl j (s.get j):=by
     show look (V.slots p y) j (match ds.elem j with | true=>.any | false=>kpK C.yl j (s.get j))=_
     rw[hj]
     have:∀(sl:List (Nat × AV)) (d:AV),(∀p∈sl,p.1≠j)->look sl j d=d:=by
      intro sl
      induction sl with
      | nil=>intro d _; rfl
      | cons p sl ihs=>
       intro d hp
       obtain⟨q,v⟩:=p
       have hne:=hp (q,v) List.mem_cons_self
       have:Nat.beq q j=false:=by cases hb:Nat.beq q j with | false=>rfl | true=>exact absurd (Nat.eq_of_beq_eq_true hb) hne
       simp only[look,this]
       exact ihs d λp' h'=>hp p' (List.mem_cons_of_mem _ h')
     exact this _ _ λp hp e=>hnn (by rw[<- e]; exact qz3 c4 p hp)
    have hge:=q2 j hnj (by rw[hhead,x3d])
    rw[hhead] at hge
    refine⟨by rw[<- hge]; exact hr'.slots j,?_⟩
    rw[d3]; exact w76 (Nat.le_of_ble_eq_true d5) (hbase0 j).2
   | exit id=>exact hQ (.exit id) s' a'' w'' q1 hfr q3
   | ret=>exact hQ .ret s' a'' w'' q1 hfr q3
 | rangeFunc g ps ag body ihag ihbody=>
  refine⟨?_,(by intro _ _ h; cases h),(by intro _ _ _ h; cases h)⟩
  intro C T m0 hS r n hC hmc hrr i K s a w Q hd hg h hQ
  have hrc:w4y C T r:=by
   rcases hrr with h | h
   ·simp[qj3] at h
   ·exact h
  cases hyl:C.yl with
  | some Y=>
   obtain rfl:r=none:=by
    rcases hrc with h | ⟨h,_⟩
    ·exact h
    ·rw[hyl] at h; cases h
   exact w79 ihag.1 ihbody hyl T m0 hS n hC hmc i K s a w Q hd hg h (by rw[hyl]; rw[hyl] at hQ; exact hQ)
  | none=>
  replace ihag:=ihag.1
  replace ihbody:=ihbody.1
  obtain⟨ov,base,mem⟩:=s
  simp only[vc] at h
  split at h
  case h_2=>exact h.elim
  rename_i F caps heq
  split at h
  case h_2=>rename_i hq; rw[hyl] at hq; cases hq
  case h_3=>exact h.elim
  rename_i hpl hna hnb _
  obtain⟨S,hS1,h⟩:=withSome_iff.1 h
  rw[qn7] at h
  obtain⟨V,hV,h⟩:=withSome_iff.1 h
  obtain⟨hlen,h⟩:=qq6 h
  obtain⟨w0,hT,hN,mA,ρA,hrA⟩:=hg
  have hr0:=hrA.cells
  rw[hmc] at hr0
  obtain⟨mE,hmE⟩:∃mE,mE=mA.cells:=⟨_,rfl⟩
  have hcE:Cells mE:=by rw[hmE]; exact Cells.of
  rw[<- hmE] at hr0
  have hev:=hr0.eval g
  simp only at hev
  rw[heq] at hev
  obtain⟨cs,e1,hcs⟩:=hev
  have e1:=(List.cons.inj e1).1
  obtain⟨hcl,hIM⟩:=hS.its F S hS1
  obtain⟨L,⟨p,x0,hI0,hmu0,hdie⟩,hsay⟩:=hIM mE caps cs _ hcE (qy9 hpl hcs) h
  obtain⟨s1,mB,ρB,⟨hb0,hround⟩,hleB,hrB,hfr1,hlen1⟩:=q2q hS.fixs (D:=λ_=>False) mem 0 ⟨ov,base,mem⟩ mE ρA (λj o hj _=>q00 _ _ _ hj) hr0 hdie
  have hr1:=hrB.cells
  rw[hmc] at hr1
  have hleE:mE.le mB.cells:=λb o hb=>by
   obtain⟨c,t,f,e⟩:=hcE b o hb
   have:=hleB b o hb
   unfold View.cells
   rw[this,e]
  rw[qn7] at hb0
  have chk:∀y,V.I p y->(qs5 V.size (V.mem p y)=true/\(V.mem p y).length=V.size/\s1.mem.length<=V.size)/\((∀d:qa4 S.ins,L[V.μ p y]? = some d->w34 S.lend ps.toList (qh1 S.ins d) (qo5 none [] (V.mem p y) [] s1) λT s2=>vc C iv ag (i+1) (λe s3=>match e with
        | .normal=>vc C iv body (i+1+loops ag) (λe s4=>q2h V.size lits λnv=>w35 S.lend nv T (qh1 S.ins d) s4 λs4=>match e with
         | .normal=>∃x':V.S,V.I p x'/\V.μ p x'=V.μ p y+1/\wj2 (V.mem p x') 0 s4.mem s4 λs5=>q0c .none s5.mem (V.mem p x')
         | e=>K e (qo5 none [] s4.mem [] s1)) s3
        | _=>False) s2)/\(V.μ p y=L.length->K .normal (qo5 none [] (V.mem p y) [] s1))):=by
   intro y hy
   have:=hround y hy
   revert this
   cases qs5 V.size (V.mem p y) <;> cases h2:Nat.beq (V.mem p y).length V.size <;> cases h3:Nat.ble s1.mem.length V.size <;> intro this <;> first | exact False.elim this | skip
   simp only[wd9,hyl] at this
   exact⟨⟨rfl,Nat.eq_of_beq_eq_true h2,Nat.le_of_ble_eq_true h3⟩,this⟩
  have hbase0:∀j,((s1.get j).strip).bnd s1.mem.length=true:=λj=>q63 (by rw[<- hr1.len]; exact w1y (hr1.slots j))
  obtain⟨NN,hNN⟩:∃NN,NN=w.heap.size:=⟨_,rfl⟩
  obtain⟨R,hRL⟩:∃R,RLoc r R w:=by
   rcases hrc with rfl | ⟨_,l,rfl,h⟩
   ·exact⟨_,rfl⟩
   ·obtain⟨h1,o,h2⟩:=h w0 hT
    exact⟨_,rfl,o,(hrA.below.kept l h1).2.trans h2⟩
  obtain⟨r1,r2,r3⟩:=hRL.le
  rw[<- hNN] at r1 r2 r3
  -- what holds between rounds
  let G:List AObj->(Nat->Prop)->World->Prop:=λmem' D W=>((∀b,NN<=b->b<=R->¬D b)/\∀b,D b->b<W.heap.size)/\∃m ρ,Cells m/\mE.le m/\(∀b,w1o w0 m mem' ρ a.defers b->D b)/\Rel P w0 m0 (qo5 none [] mem' [] s1) m ρ a W
  have hGs:∀mem' D W W',G mem' D W->Same D W W'->G mem' D W':=by
   rintro mem' D W W' ⟨⟨g1,g3⟩,m,ρ,g4,g5,g6,g7⟩ hs
   exact⟨⟨g1,λb hb=>Nat.lt_of_lt_of_le (g3 b hb) hs.size⟩,m,ρ,g4,g5,g6,g7.same hs g6⟩
  have hnN:w0.n<=NN:=by rw[hNN]; exact hr1.below.size
  -- what is known at the end of the loop
  have hfin:∀mem' D W,G mem' D W->MkAt r NN W->FR C.yl (λj=>j∈qq1 iv (.rangeFunc g ps ag body) i) ⟨ov,base,mem⟩ (qo5 none [] mem' [] s1)/\Good P w0 m0 N (qo5 none [] mem' [] s1) { a with defers:=mkD r NN++a.defers } W:=by
   rintro mem' D W ⟨⟨g1,g3⟩,m,ρ,g4,g5,g6,g7⟩ hW
   refine⟨λj _ hst=>?_,hN,m,ρ,?_⟩
   ·have h1:s1.get j=St.get ⟨ov,base,mem⟩ j:=hfr1 j (λh=>h) hst
    rw[hyl] at hst
    have hst:(St.get ⟨ov,base,mem⟩ j).strip=St.get ⟨ov,base,mem⟩ j:=hst
    show(s1.get j).strip=_
    rw[h1,hst]
   ·refine g7.act (ov:=[]) (base:=λi=>(s1.get i).strip) (λi=>g7.slots i) ?_
    cases r with
    | none=>exact⟨⟨NN,rfl,hnN,λhF=>g1 NN (Nat.le_refl _) r1 (g6 _ (.inr (.inl hF))),hW,λe he ht=>g1 NN (Nat.le_refl _) r1 (g6 _ (.inr (.inr (.inr ⟨e,he,ht⟩))))⟩,g7.defers⟩
    | some l=>exact g7.defers
  refine q9e (r:=r) (R:=R) (m:=mE) (args:=qr2 S.lend S.ins) (lent:=qm2 S.lend S.ins) (L:=L) hRL e1 hcl hsay (λ_ _ _ _ _ h1 h2=>qy8 h1 h2) ?_ (λk D W=>∃x,V.I p x/\V.μ p x=k/\G (V.mem p x) D W) (λc D W=>∃e mem',(c=.ret/\e=XK.ret\/∃id,c=.exit id/\e=XK.exit id)/\K e (qo5 none [] mem' [] s1)/\G mem' D W) ?_ ?_ ?_ ?_ hr0.view (w1o w0 mB.cells (V.mem p x0) (headρ ρB (V.mem p x0)) a.defers) ?_ ?_ ?_ ?_
  ·intro d mx vs hv
   rw[q5c hv,<- hlen]
   simp
  ·rintro k D W W' ⟨x,q1,q2,q3⟩ hs; exact⟨x,q1,q2,hGs _ _ _ _ q3 hs⟩
  ·rintro c D W W' ⟨e,mem',q1,q2,q3⟩ hs; exact⟨e,mem',q1,q2,hGs _ _ _ _ q3 hs⟩
  ·rintro k D W ⟨x,q1,q2,q3⟩; rw[<- hNN]; exact⟨q3.1.2,q3.1.1⟩
  ·rintro c D W ⟨e,mem',q1,q2,q3⟩; rw[<- hNN]; exact⟨q3.1.2,q3.1.1⟩
  ·obtain⟨⟨c1,c2,c3⟩,_⟩:=chk x0 hI0
   have hh:=q1o (y:=none) (b:=some (qn6 s1.mem.length (V.mem p x0) 0)) (sl:=[]) (mem:=V.mem p x0) (ds:=[]) (s0:=s1) hr1 trivial hb0 rfl (by rw[c2]; exact c1) (λg p hp hv=>by
    have h1:=(List.getElem?_eq_some_iff.1 (hr1.pins g p hp hv)).1
    rw[hr1.len] at h1
    omega) (λN e=>(Option.some.inj e).symm) (λj _ _=>⟨q51 (hr1.slots j),w76 (by omega) (hbase0 j)⟩)
   refine⟨x0,hI0,hmu0,⟨λb q1 q2 hD=>?_,λb hb=>hh.deps hb⟩,mB.cells,_,Cells.of,hleE,λb hb=>hb,hh⟩
   have:=hh.deps hD; omega
  ·-- a round
   rintro k D W d mx vs B ⟨x,hIx,hmu,⟨dN,dlt⟩,m,ρ,hc,hle,hdep,hR⟩ hlt ⟨rc,hl⟩ hk hd0 hmx hmd hargs hlent hB
   rw[<- hNN] at hk hmd ⊢
   obtain⟨⟨c1,c2,c3⟩,hstep,-⟩:=chk x hIx
   have hb:=hstep d (by rw[hmu]; exact hd0)
   have hcr:Cells (m.or mx):=λb o hbo=>by
    unfold View.or at hbo
    cases hmb:m b with
    | some o'=>rw[hmb] at hbo; exact hc b o (by rw[hmb]; exact hbo)
    | none=>rw[hmb] at hbo; exact(hmd b o hbo).1
   have hor:∀b o,(m.or mx) b=some o->m b=some o\/mx b=some o:=λb o hbo=>by
    unfold View.or at hbo
    cases hmb:m b with
    | some o'=>rw[hmb] at hbo; exact .inl hbo
    | none=>rw[hmb] at hbo; exact .inr hbo
   have hmxD:∀b o,mx b=some o->m b=some o\/(NN<=b/\¬D b):=λb o hbo=>(hmd b o hbo).2.imp (hle b o) id
   have hown:∀b,Own (V.mem p x) ρ b->(m.or mx) b=none:=λb hb=>by
    have h1:=(hR.own hb).2.2.1
    cases hbo:(m.or mx) b with
    | none=>rfl
    | some o=>
     rcases hor b o hbo with h2 | h2
     ·rw[h1] at h2; cases h2
     ·rcases hmxD b o h2 with h3 | h3
      ·rw[h1] at h3; cases h3
      ·exact absurd (hdep b (.inr (.inr (.inl hb)))) h3.2
   have hin:=hR.enter (Nat.le_refl _) View.le_or (View.or_on hR.view hmx) hown (a':={ a with defers:=[] }) rfl (λb ⟨d,hd,_⟩=>by cases hd) trivial (λ_ _=>rfl) ρ (λ_ _ h _=>h)
   have hmB:∀b,B b->(m.or mx) b=none:=λb hb=>by
    cases hbo:(m.or mx) b with
    | none=>rfl
    | some o=>
     rcases hor b o hbo with h2 | h2
     ·exact absurd (hdep b (.inl (by rw[h2]; simp))) (hB b hb).2.2.1
     ·rw[(hB b hb).2.2.2] at h2; cases h2
   have hoB:∀b,B b->¬Own (V.mem p x) ρ b:=λb hb ho=>(hB b hb).2.2.1 (hdep b (.inr (.inr (.inl ho))))
   obtain⟨Z1,hZ1⟩:∃Z1:Base,Z1=⟨w0.n,W,λb=>b<W.heap.size/\¬Own (V.mem p x) ρ b/\¬B b,hR.below.size,ρ⟩:=⟨_,rfl⟩
   have hinZ:=hin.rebase (Z':=Z1) (by rw[hZ1]; rfl) (by rw[hZ1]; rfl) (by rw[hZ1]; exact⟨rfl,rfl,rfl,Nat.le_refl _,λb hb=>⟨hb.1,rfl⟩⟩) (λb hb=>by rw[hZ1] at hb; exact .inl ⟨hb.1,hb.2.1,λ⟨d,hd,_⟩=>by cases hd⟩)
   have hargs2:qr2 S.lend S.ins d (m.or mx) vs:=by
    revert hargs
    unfold qr2
    split
    ·exact wj9 (View.or_le hR.view hmx)
    ·exact id
   obtain⟨TL,s2,ρ1,hvc,hTL,hl2,hρ1,hown2,t,ht,htN,hin2⟩:=w7z hinZ hN (λq hq=>hd q (List.mem_append.2 (.inl hq))) hb hargs2 hlent λb hb=>⟨by rw[hZ1]; have:=(hB b hb).1; show w0.n<=b; omega,by rw[hZ1]; exact λq=>q.2.2 hb,hmB b hb,hoB b hb⟩
   have hfold:(ps.zip vs.toArray).foldl (λt (p,v)=>t.setIfInBounds p v) a.tmps=t:=by
    rw[ht,<- Array.foldl_toList]
    simp
   rw[hfold]
   refine ihag C _ (m.or mx) (hS.le (View.le_trans hR.ext View.le_or)) (some R) 0 (Cls.one hyl _ _ _) hcr.eq (.inl hna) (i+1) _ s2 _ W _ (λq hq=>hd q (List.mem_append.2 (.inr (List.mem_append.2 (.inl hq))))) ⟨_,rfl,htN,_,ρ1,hin2⟩ hvc ?_
   rintro e s3 a1 W1 hK - ⟨Zx,hZx,hN1,m2',ρ2,hr2'⟩
   rw[hZx] at hr2'
   have hr2:=hr2'.cells
   rw[hcr.eq] at hr2
   obtain⟨m2,hm2e⟩:∃m2,m2=m2'.cells:=⟨_,rfl⟩
   have hc2:Cells m2:=by rw[hm2e]; exact Cells.of
   rw[<- hm2e] at hr2
   clear hr2' hm2e
   have notZ1:∀b,¬Z1.F b->W.heap.size<=b\/Own (V.mem p x) ρ b\/B b:=λb hb=>by
    rw[hZ1] at hb
    by_cases h1:b<W.heap.size
    ·by_cases h2:Own (V.mem p x) ρ b
     ·exact .inr (.inl h2)
     ·by_cases h3:B b
      ·exact .inr (.inr h3)
      ·exact absurd ⟨h1,h2,h3⟩ hb
    ·exact .inl (by omega)
   have Z1n:Z1.n=w0.n:=by rw[hZ1]
   have Z1W:Z1.W=W:=by rw[hZ1]
   have Z1ρ:Z1.ρ=ρ:=by rw[hZ1]
   have kept1:∀b,b<W.heap.size->¬Own (V.mem p x) ρ b->¬B b->W1.heap[b]? = W.heap[b]?:=λb h1 h2 h3=>by
    have:=(hr2.below.kept b (by rw[hZ1]; exact⟨h1,h2,h3⟩)).2
    rw[Z1W] at this; exact this
   have ownD:∀b,Own (V.mem p x) ρ b->D b:=λb hb=>hdep b (.inr (.inr (.inl hb)))
   have hgr1:W.heap.size<=W1.heap.size:=by have:=hr2.below.grows; rw[Z1W] at this; exact this
   have hBN:∀b,b<=R->¬B b:=λb hb h=>by have:=(hB b h).1; omega
   have hos1:W1.os=W.os/\W1.tape=W.tape/\W1.output=W.output:=by have h1:=hr2.below.os; have h2:=hr2.below.tape; have h3:=hr2.below.output; rw[Z1W] at h1 h2 h3; exact⟨h1,h2,h3⟩
   have hNR:∀b,NN<=b->b<=R->W1.heap[b]? = W.heap[b]?:=λb q1 q2=>kept1 b (by omega) (λh=>dN b q1 q2 (ownD _ h)) (hBN _ q2)
   have hN2':=hNR R r1 (Nat.le_refl _)
   cases e with
   | exit id=>exact hK.elim
   | ret=>exact hK.elim
   | normal=>
    refine⟨⟨hos1.1,hos1.2.1,hos1.2.2,hgr1,λb hb=>kept1 b hb.1 (λh=>hb.2 (.inl (ownD b h))) λh=>hb.2 (.inr h)⟩,hNR,λo=>?_⟩
    obtain⟨W2,hW2⟩:∃W2,W2=W1.putObj R (.loop o):=⟨_,rfl⟩
    have hsz2:W2.heap.size=W1.heap.size:=by rw[hW2]; simp[World.putObj]
    have hput:∀b,b≠R->W2.heap[b]? = W1.heap[b]?:=λb hb=>by rw[hW2]; exact World.putObj_heap_other hb
    have hL1:W1.heap[R]? = some (.loop rc):=hN2'.trans hl
    rw[<- hW2]
    have hnO:¬Own s3.mem ρ2 R:=λhb=>by
     obtain⟨o',h1,ho'⟩:=(hr2.own hb).2.2.2.2
     rw[hL1] at h1; obtain rfl:=Option.some.inj h1; cases ho'
    have hnM:¬qj0 a1.defers R:=λhb=>by
     have h1:=(hr2.defers.get hb).2.2
     rw[hL1] at h1; cases h1
    have hin3:=hr2.enter (w':=W2) (by omega) (View.le_refl m2) (λb ob hb=>by
      rw[hput b λe=>?_]
      ·exact hr2.view b ob hb
      ·subst e
       have h1:=hr2.view _ ob hb
       rw[hL1] at h1
       obtain⟨c,t,f,h2⟩:=hc2 _ ob hb
       subst h2
       cases h1) (λb hb=>(hr2.own hb).2.2.1) (a':=a1) rfl (λ_ h=>h) hr2.defers (λb hb=>hput b λe=>by
      subst e
      rcases hb with hb | hb
      ·obtain⟨o',h1,ho'⟩:=(hr2.own hb).2.2.2.2
       rw[hL1] at h1; obtain rfl:=Option.some.inj h1; exact ho'
      ·have h1:=(hr2.defers.get hb).2.2
       rw[hL1] at h1; cases h1) ρ (λg q hq hv=>hr2.pins g q (by rw[Z1ρ]; exact hq) hv)
    rw[show w7y Z1.n W2 s3.mem ρ2 a1.defers ρ (Nat.le_trans hr2.below.size (by omega))=w7y w0.n W2 s3.mem ρ2 a1.defers ρ (Nat.le_trans (by rw[<- Z1n]; exact hr2.below.size) (by omega)) from by unfold w7y; congr 1] at hin3
    refine ihbody C _ m2 (hS.le (View.le_trans hR.ext (View.le_trans View.le_or hr2.ext))) (some R) 0 (Cls.one hyl _ _ _) hc2.eq (.inr (.inr ⟨hyl,R,rfl,λZ hZ=>by rw[hZ]; exact⟨⟨by rw[hsz2]; exact(Array.getElem?_eq_some_iff.1 hL1).1,hnO,hnM⟩,o,show W2.heap[R]? = some (.loop o) by rw[hW2]; exact World.putObj_heap_same (Array.getElem?_eq_some_iff.1 hL1).1⟩⟩)) (i+1+loops ag) _ s3 a1 W2 _ (λq hq=>hd q (List.mem_append.2 (.inr (List.mem_append.2 (.inr hq))))) ⟨_,rfl,hN1,m2,ρ2,hin3⟩ hK ?_
    rintro e s40 a3 W3 hK30 - ⟨_,rfl,hN3,m3,ρ3,hr30⟩
    rw[qn7] at hK30
    obtain⟨s4,hK3,hr3',hl3,hB3⟩:=w70 hr30 hK30 hTL hlent
    have notZ20:∀b,¬(b<W2.heap.size/\¬Own s3.mem ρ2 b/\¬qj0 a1.defers b)->W.heap.size<=b\/Own (V.mem p x) ρ b\/B b:=λb hb=>by
     by_cases h1:b<W2.heap.size
     ·by_cases h2:Own s3.mem ρ2 b
      ·exact notZ1 b (hr2.own h2).2.2.2.1
      ·by_cases h3:qj0 a1.defers b
       ·exact notZ1 b (hr2.defers.get h3).2.1
       ·exact absurd ⟨h1,h2,h3⟩ hb
     ·exact .inl (by omega)
    have kept2:∀b,b<W.heap.size->¬Own (V.mem p x) ρ b->¬B b->W3.heap[b]? = W2.heap[b]?:=λb h1 h2 h4=>(hr3'.below.kept b (Classical.byContradiction λhz=>by
     rcases notZ20 b hz with h3 | h3 | h3
     ·omega
     ·exact h2 h3
     ·exact h4 h3)).2
    have hgr3:W2.heap.size<=W3.heap.size:=hr3'.below.grows
    have hos3:W3.os=W2.os/\W3.tape=W2.tape/\W3.output=W2.output:=⟨hr3'.below.os,hr3'.below.tape,hr3'.below.output⟩
    have hBW:∀b,B b->b<W3.heap.size:=λb hb=>by have:=(hB b hb).2.1; omega
    obtain⟨Z3,hZ3⟩:∃Z3:Base,Z3=⟨w0.n,W3,λb=>(b<W2.heap.size/\¬Own s3.mem ρ2 b/\¬qj0 a1.defers b)\/B b,Nat.le_trans hR.below.size (by omega),ρ⟩:=⟨_,rfl⟩
    have hr3:=hr3'.rebase (Z':=Z3) (by rw[hZ3]; rfl) (by rw[hZ3]; rfl) (by
     rw[hZ3]
     refine⟨rfl,rfl,rfl,Nat.le_refl _,λb hb=>⟨?_,rfl⟩⟩
     rcases hb with hb | hb
     ·have:=hb.1; show b<W3.heap.size; omega
     ·exact hBW b hb) (λb hb=>by
     rw[hZ3] at hb
     rcases hb with hb | hb
     ·exact .inl hb
     ·exact .inr (hB3 b hb))
    have Z3n:Z3.n=w0.n:=by rw[hZ3]
    have Z3ρ:Z3.ρ=ρ:=by rw[hZ3]
    have notZ2:∀b,¬Z3.F b->W.heap.size<=b\/Own (V.mem p x) ρ b:=λb hb=>by
     rw[hZ3] at hb
     rcases notZ20 b λq=>hb (.inl q) with q | q | q
     ·exact .inl q
     ·exact .inr q
     ·exact absurd (.inr q) hb
    have hW2s:W2.os=W1.os/\W2.tape=W1.tape/\W2.output=W1.output:=by rw[hW2]; exact⟨rfl,rfl,rfl⟩
    have sameW:Same (λb=>b<W.heap.size/\¬Own (V.mem p x) ρ b/\¬(b=R\/B b)) W W3:=
     ⟨hos3.1.trans (hW2s.1.trans hos1.1),hos3.2.1.trans (hW2s.2.1.trans hos1.2.1),hos3.2.2.trans (hW2s.2.2.trans hos1.2.2),by omega,λb hb=>(kept2 b hb.1 hb.2.1 λh=>hb.2.2 (.inr h)).trans ((hput b λh=>hb.2.2 (.inl h)).trans (kept1 b hb.1 hb.2.1 λh=>hb.2.2 (.inr h)))⟩
    have hm2:∀b ob,m2 b=some ob->m b=some ob\/mx b=some ob\/W.heap.size<=b\/Own (V.mem p x) ρ b:=λb ob hb=>by
     rcases hr2.new b ob hb with h1 | ⟨_,h1⟩
     ·rcases hor b ob h1 with h2 | h2
      ·exact .inl h2
      ·exact .inr (.inl h2)
     ·rcases notZ1 b h1 with h2 | h2 | h2
      ·exact .inr (.inr (.inl h2))
      ·exact .inr (.inr (.inr h2))
      ·have h3:=hr3'.ext b ob hb
       rw[(hB3 b h2).1] at h3; cases h3
    have wnF:∀b,W.heap.size<=b\/Own (V.mem p x) ρ b->w0.n<=b/\¬w0.F b:=λb hb=>by
     rcases hb with hb | hb
     ·exact⟨by omega,hR.below.new hb⟩
     ·exact⟨(hR.own hb).1,(hR.own hb).2.2.2.1⟩
    have fin:∀(mem':List AObj) (m4:View) (ρ4:List Value),Cells m4->Rel P Z3 m2 (qo5 none [] mem' [] s1) m4 ρ4 { a with defers:=[] } W3 ->
      ∃D',(∀b,D' b->D b\/W.heap.size<=b\/mx b≠none)/\G mem' D' W3:=by
     intro mem' m4 ρ4 hc4 h4
     have hlv:=hR.leave (L:=λb=>b=R\/B b) h4 Z3n notZ2 (λb ob hb=>by
      rcases hm2 b ob hb with h1 | h1 | h1
      ·exact .inl h1
      ·rcases hmxD b ob h1 with h2 | h2
       ·exact .inl h2
       ·exact .inr ⟨by omega,λhF=>h2.2 (hdep b (.inr (.inl hF)))⟩
      ·exact .inr (wnF b h1)) (View.le_trans View.le_or hr2.ext) sameW (λb hb hD=>hb.elim (λe=>dN R r1 (Nat.le_refl _) (hdep _ (e ▸ hD))) λh=>(hB b h).2.2.1 (hdep _ hD)) Z3ρ
     have sub:∀b,w1o w0 m4 mem' ρ4 a.defers b->D b\/W.heap.size<=b\/mx b≠none:=by
      have own:∀b,W.heap.size<=b\/Own (V.mem p x) ρ b->D b\/W.heap.size<=b\/mx b≠none:=λb hb=>by
       rcases hb with hb | hb
       ·exact .inr (.inl hb)
       ·exact .inl (ownD b hb)
      rintro b (hb | hb | hb | hb)
      ·cases hbo:m4 b with
       | none=>exact absurd hbo hb
       | some ob=>
        rcases h4.new b ob hbo with h1 | ⟨_,h1⟩
        ·rcases hm2 b ob h1 with h2 | h2 | h2
         ·exact .inl (hdep b (.inl (by rw[h2]; simp)))
         ·exact .inr (.inr (by rw[h2]; simp))
         ·exact own b h2
        ·exact own b (notZ2 b h1)
      ·exact .inl (hdep b (.inr (.inl hb)))
      ·obtain⟨g',v,j1,j2,j3⟩:=hb
       exact own b (notZ2 b (h4.zone g' v b j1 j2 j3))
      ·exact .inl (hdep b (.inr (.inr (.inr hb))))
     refine⟨w1o w0 m4 mem' ρ4 a.defers,sub,⟨λb g1 g2 hD=>?_,λb hb=>hlv.deps hb⟩,m4,ρ4,hc4,View.le_trans hle (View.le_trans View.le_or (View.le_trans hr2.ext h4.ext)),λb hb=>hb,hlv⟩
     rcases sub _ hD with h1 | h1 | h1
     ·exact dN b g1 g2 h1
     ·omega
     ·cases hbo:mx b with
      | none=>exact h1 hbo
      | some ob=>
       obtain⟨c,t,f,e⟩:=(hmd _ _ hbo).1
       have h3:=hmx _ _ hbo
       by_cases hbR:b=R
       ·rw[hbR,hl,e] at h3; cases h3
       ·cases hr0:r with
        | none=>
         rw[hr0] at hk
         obtain rfl:b=NN:=by have:=r3 hr0; omega
         rw[show W.heap[b]? = some (.deferred (some [])) from hk,e] at h3; cases h3
        | some l=>
         rw[hr0] at hRL
         have h4:R=w.heap.size:=hRL.1
         omega
    have slot:∀(m4:View) (ρ4:List Value),m2.le m4->(∀(g:Nat) q,ρ[g]? = some (Value.pointer q)->ρ4[g]? = some (Value.pointer q))->∀j,((s1.get j).strip).ok P m4 ρ4 [a.tmps.getD j undef]:=λm4 ρ4 h1 h2 j=>
     q9f (View.le_trans View.le_or (View.le_trans hr2.ext h1)) h2 (hR.slots j)
    have hr3c:=hr3.cells
    rw[hc2.eq] at hr3c
    have pre:Same (λb=>b<W.heap.size/\¬(D b\/B b)) W2 W3/\(∀b,NN<=b->b<=R->W3.heap[b]? = W2.heap[b]?)/\mE.on W3:=
     ⟨⟨hos3.1,hos3.2.1,hos3.2.2,hgr3,λb hb=>kept2 b hb.1 (λh=>hb.2 (.inl (ownD b h))) λh=>hb.2 (.inr h)⟩,λb q1 q2=>kept2 b (by omega) (λh=>dN b q1 q2 (ownD _ h)) (hBN _ q2),
      λb ob hb=>hr3.view b ob (hr3.ext b ob (hr2.ext b ob (View.le_or b ob (hle b ob hb))))⟩
    have jump:∀e,K e (qo5 none [] s4.mem [] s1)->∀c,(c=Code.ret/\e=XK.ret\/∃id,c=.exit id/\e=XK.exit id)->∃D',(∀b,D' b->D b\/W.heap.size<=b\/mx b≠none)/\∃e mem',(c=.ret/\e=XK.ret\/∃id,c=.exit id/\e=XK.exit id)/\K e (qo5 none [] mem' [] s1)/\G mem' D' W3:=by
     intro e hKe c hce
     have h4:=hr3c.act (ov:=[]) (base:=λi=>(s1.get i).strip) (a':={ a with defers:=[] }) (slot _ ρ3 hr3c.ext (λg q hq=>hr3c.pins g _ (by rw[Z3ρ]; exact hq) rfl)) trivial
     obtain⟨D',k1,k2⟩:=fin s4.mem _ ρ3 Cells.of h4
     exact⟨D',k1,e,s4.mem,hce,hKe,k2⟩
    refine⟨pre.1,hl3,pre.2.1,pre.2.2,?_⟩
    cases e with
    | ret=>exact jump _ hK3 _ (.inl ⟨rfl,rfl⟩)
    | exit id=>exact jump _ hK3 _ (.inr ⟨id,rfl,rfl⟩)
    | normal=>
     obtain⟨x',hIx',hmu',hdie'⟩:=hK3
     obtain⟨s5,m5,ρ5,hle5,hm35,hr5,-,-⟩:=q2q hS.fixs (D:=λ_=>False) s4.mem 0 s4 _ ρ3 (λj o hj _=>q00 _ _ _ hj) hr3c hdie'
     have hr5c:=hr5.cells
     rw[hc2.eq] at hr5c
     obtain⟨⟨d1,d2,d3⟩,_⟩:=chk x' hIx'
     have sl5:=slot _ ρ5 hr5c.ext (λg q hq=>hr5c.pins g _ (by rw[Z3ρ]; exact hq) rfl)
     have h4:=hr5c.act (ov:=[]) (base:=λi=>(s1.get i).strip) (a':={ a with defers:=[] }) sl5 trivial
     have hh:=q1o (y:=none) (b:=none) (sl:=[]) (mem:=V.mem p x') (ds:=[]) (s0:=s1) h4 trivial hle5 rfl (by rw[d2]; exact d1) (λg q hq _=>by
      rw[Z3ρ] at hq
      have h1:=(List.getElem?_eq_some_iff.1 hq).1
      have h1:g<ρ.length:=h1
      have h2:ρ.length=(V.mem p x).length:=hR.len
      omega) (λN e=>by cases e) (λj _ _=>⟨sl5 j,w76 (by omega) (hbase0 j)⟩)
     obtain⟨D',k1,k2⟩:=fin _ _ _ Cells.of hh
     exact⟨D',k1,x',hIx',by omega,k2⟩
  ·rintro D W ⟨x,q1,q2,q3⟩ hW
   rw[<- hNN] at hW ⊢
   obtain⟨h1,h2⟩:=hfin _ _ _ q3 hW
   exact hQ .normal _ _ _ ((chk x q1).2.2 q2) h1 ⟨w0,hT,h2⟩
  ·rintro c D W ⟨e,mem',q1,q2,q3⟩ hW
   rw[<- hNN] at hW ⊢
   obtain⟨h1,h2⟩:=hfin _ _ _ q3 hW
   rcases q1 with⟨rfl,rfl⟩ | ⟨id,rfl,rfl⟩
   ·exact wpIn_ret (hQ .ret _ _ _ q2 h1 ⟨w0,hT,h2⟩)
   ·exact wpIn_exit (hQ (.exit id) _ _ _ q2 h1 ⟨w0,hT,h2⟩)
 | exit id=>
  refine⟨?_,(by intro _ _ h; cases h),(by intro _ _ _ h; cases h)⟩
  intro C T m0 hS r n hC hmc hrr i K s a w Q hd hg h hQ; exact wpIn_exit (hQ (.exit id) s a w h (FR.refl _ _ _) hg)
 | ret=>
  refine⟨?_,(by intro _ _ h; cases h),(by intro _ _ _ h; cases h)⟩
  intro C T m0 hS r n hC hmc hrr i K s a w Q hd hg h hQ; exact wpIn_ret (hQ .ret s a w h (FR.refl _ _ _) hg)
 | _=>
  refine⟨?_,(by intro _ _ h; cases h),(by intro _ _ _ h; cases h)⟩
  intro C T m0 hS r n hC hmc hrr i K s a w Q hd hg h hQ; exact h.elim
theorem w8a {iv:Nat->Option Inv}:∀(c:Code) (T:Base->Prop) (m0:View) (hS:SoundAt P C m0) (r:Option Nat) (n:Nat) (hC:Cls P C T m0 N r n) (hmc:m0.cells=m0) (hrr:qj3 c=true\/r=none) (i:Nat) (K:XK->St->Prop) (s:St) (a:Act) (w:World) (Q:Exit->Act->World->Prop),(∀d∈qq1 iv c i,N.may d)->we4 P T m0 N s a w->vc C iv c i K s ->
  (∀e s' a' w',K e s'->FR C.yl (λj=>j∈qq1 iv c i) s s'->we4 P T m0 N s' a' w'->Q e.out a' w')->c.wpIn (fz r) n P Q a w:=
 λc T m0 hS r n hC hmc hrr=>(x3g c).1 C T m0 hS r n hC hmc (hrr.imp id .inl)
end
end Eng
set_option linter.unusedVariables false
set_option linter.unusedSimpArgs false
namespace Eng
open Go Go.RowKit
def qn3:AV->AV
 | .cons v .nil=>v
 | l=>.tup l
def xj4:(ts:List Ty)->qa4 ts->Nat->AV
 | [],_,_=>.any
 | t :: _,(x,_),0=>q8q t x
 | _ :: r,(_,y),i+1=>xj4 r y i
def we6 (fresh:Bool) (own:Option Nat) (ins:List Ty) (pre:qa4 ins->Prop) (f:qa4 ins->AV):qb7:=
 {fresh:=fresh,own:=own,run:=λargs k=>qg3 ins args λx=>need (pre x) λ_=>k (f x),one:=λargs k h=>(qd7 (qo2 ins args) λx=>qg7 (qb3 (f x))) k h }
def qf1 (fresh:Bool) (own:Option Nat) (ins outs:List Ty) (pre:qa4 ins->Prop) (f:qa4 ins->qa4 outs):qb7:=
 {fresh:=fresh,own:=own,run:=λargs k=>qg3 ins args λx=>need (pre x) λ_=>k (qn3 (qh1 outs (f x))),one:=λargs k h=>(qd7 (qo2 ins args) λx=>qg7 (qb3 (qn3 (qh1 outs (f x))))) k h }
def xj5 (C:Ctx) (s:St):List ResultVar->(AV->Prop)->Prop
 | [],k=>k .nil
 | .tmp t :: r,k=>xj5 C s r λrest=>k (.cons (s.get t) rest)
 | .cell x t :: r,k=>qd6 C t λT=>q6i T s.mem (s.get x) λv=>xj5 C s r λrest=>k (.cons v rest)
def AV.scalar:AV->Bool
 | .lit _=>true
 | .tt=>true
 | .ff=>true
 | .nil=>true
 | .cons a b=>match a.scalar with
  | true=>b.scalar
  | false=>false
 | .agg c=>c.scalar
 | .tup c=>c.scalar
 | _=>false
def w8b (mem:List AObj):AV->(AV->Prop)->Prop
 | .own g,k=>match qa3 mem g with
  | .vec _ t l=>match Ty.flat t with
   | true=>k (.dat t l)
   | false=>False
  | _=>False
 | .msl g j,k=>match qa3 mem g,j with
  | .mat _ _ t rows ix _,.none=>match Ty.flat t with
   | true=>k (.dat (.list t) (q15 t rows ix))
   | false=>False
  | _,_=>False
 | .cons a b,k=>w8b mem a λa=>w8b mem b λb=>k (.cons a b)
 | .agg c,k=>w8b mem c λc=>k (.agg c)
 | .tup c,k=>w8b mem c λc=>k (.tup c)
 | .lit v,k=>k (.lit v)
 | .tt,k=>k .tt
 | .ff,k=>k .ff
 | .nil,k=>k .nil
 | _,_=>False
def w8c (fresh:Bool) (t:Ty):Bool:=match fresh with
 | true=>Ty.flat t
 | false=>true
def x6l (fresh:Bool) (own deep:Option Nat) (mem:List AObj) (want:AV) (r:AV):Prop:=match own with
 | .none=>match fresh with
  | true=>match r.scalar with
   | true=>fAV r λr=>AV.le .none r want
   | false=>w8b mem r λr=>fAV r λr=>AV.le .none r want
  | false=>fAV (r.bor mem) λr=>AV.le .none r want
 | some e=>match deep with
   | .none=>match r with
    | .own g=>match qa3 mem g with
     | .vec e' t l=>match Nat.beq e' e,w8c fresh t with
      | true,true=>match want with
       | .dat t' l'=>qk4 t t' l λl2=>l2=l'
       | _=>False
      | _,_=>False
     | _=>False
    | .tup c=>match c,want with
     | .cons a z,.tup c'=>match a,c',z.scalar with
      | .own g,.cons a' z',true=>match qa3 mem g,a' with
       | .vec e' t l,.dat t' l'=>match Nat.beq e' e,w8c fresh t with
        | true,true=>(qk4 t t' l λl2=>l2=l')/\fAV z λz=>AV.le .none z z'
        | _,_=>False
       | _,_=>False
      | .lit v,.cons a' z',true=>match isNil v,a' with
       | true,.dat t' l'=>l'=[]/\fAV z λz=>AV.le .none z z'
       | _,_=>False
      | _,_,_=>False
     | _,_=>False
    | _=>False
   | some e2=>match r with
    | .msl g j=>match qa3 mem g,j with
     | .mat eh e' t rows ix lt,.none=>match Nat.beq eh e,Nat.beq e' e2,w8c fresh t,ix,lt with
      | true,true,true,.none,.none=>match want with
       | .dat t' l'=>qk4 (.list t) t' rows λl2=>l2=l'
       | _=>False
      | _,_,_,_,_=>False
     | _,_=>False
    | .tup c=>match fresh,c,want with
     | true,.cons a z,.tup c'=>match a,c',z.scalar with
      | .msl g j,.cons a' z',true=>match qa3 mem g,j,a' with
       | .mat eh e' t rows ix lt,.none,.dat t' l'=>match Nat.beq eh e,Nat.beq e' e2,Ty.flat t,ix,lt with
        | true,true,true,.none,.none=>(qk4 (.list t) t' rows λl2=>l2=l')/\fAV z λz=>AV.le .none z z'
        | _,_,_,_,_=>False
       | _,_,_=>False
      | .lit v,.cons a' z',true=>match isNil v,a' with
       | true,.dat t' l'=>match t',l' with
        | .list t,l'=>l'=[]/\fAV z λz=>AV.le .none z z'
        | _,_=>False
       | _,_=>False
      | _,_,_=>False
     | _,_,_=>False
    | _=>False
def yb6 (C:Ctx) (fresh:Bool) (own deep:Option Nat) (res:List ResultVar) (want:AV) (e:XK) (s:St):Prop:=match e with
 | .exit _=>False
 | _=>xj5 C s res λl=>x6l fresh own deep s.mem want (qn3 l)
structure ArgK where
 X:Type
 take:AV->(X->Prop)->Prop
 init:X->Nat->AV
 n:Nat
 one:∀c,Det (take c)
structure ArgK.Ok (P:Program) (A:ArgK):Prop where
 ok:∀{m:View} {c:AV} {k:A.X->Prop} {vs:List Value},A.take c k->c.ok P m [] vs->∃x,k x/\vs.length=A.n/\∀i,(A.init x i).ok P m [] [vs.getD i undef]
def q02 (ins:List Ty):ArgK:=⟨qa4 ins,qg3 ins,xj4 ins,ins.length,qo2 ins⟩
def q8r (A:ArgK) (fresh:Bool) (own deep:Option Nat) (pre:A.X->Prop) (f:A.X->AV):qb7:=
 {fresh:=fresh,own:=own,deep:=deep,run:=λargs k=>A.take args λx=>need (pre x) λ_=>k (f x),one:=λargs k h=>(qd7 (A.one args) λx=>qg7 (qb3 (f x))) k h }
def q5q (A:ArgK) (deep self:Bool) (eh e:Nat) (t:Ty) (pre:List (List t.den)->A.X->Prop) (r:List (List t.den)->A.X->AV) (f:List (List t.den)->A.X->List (List t.den)):qm0:=
 {deep:=deep,self:=self,eh:=eh,e:=e,t:=t,run:=λrows args k=>A.take args λx=>need (pre rows x) λ_=>k (r rows x) (f rows x),
  one:=λrows args k h=>by
   obtain⟨x,h1,h2⟩:=A.one args _ h
   exact⟨r rows x,f rows x,h1.2,λk' hk=>h2 (λx=>need (pre rows x) λ_=>k' (r rows x) (f rows x)) ⟨h1.1,hk⟩⟩ }
def xVC (C:Ctx) (iv:Nat->Option Inv) (A:ArgK) (fresh:Bool) (own deep:Option Nat) (c:Code) (res:List ResultVar) (x:A.X) (y:AV):Prop:=
 vc C iv c 0 (yb6 C fresh own deep res y) ⟨[],A.init x,[]⟩
def yg6 (C:Ctx) (iv:Nat->Option Inv) (fresh:Bool) (own:Option Nat) (ins:List Ty) (c:Code) (res:List ResultVar) (x:qa4 ins) (y:AV):Prop:=
 xVC C iv (q02 ins) fresh own .none c res x y
def yg7 (C:Ctx) (iv:Nat->Option Inv) (fresh:Bool) (own:Option Nat) (ins outs:List Ty) (c:Code) (res:List ResultVar) (x:qa4 ins) (y:qa4 outs):Prop:=
 xVC C iv (q02 ins) fresh own .none c res x (qn3 (qh1 outs y))
def x6m (deep:Bool):Option Nat:=match deep with
 | true=>.none
 | false=>some 0
def xj6 (A:ArgK) (deep:Bool) (x:A.X):Nat->AV
 | 0=>.msl 0 (x6m deep)
 | i+1=>A.init x i
def x3h (deep:Bool) (ix:Option (List Nat)):Prop:=match deep with
 | true=>match ix with
  | .none=>True
  | some _=>False
 | false=>match ix with
  | .none=>False
  | some l=>wk3 l
def yg8 (C:Ctx) (deep self:Bool) (eh e:Nat) (t:Ty) (T:q5k) (res:List ResultVar) (want:AV) (rows:List (List t.den)) (x:XK) (s:St):Prop:=match x with
 | .exit _=>False
 | _=>xj5 C s res λl=>match qa3 s.mem 0 with
  | .mat eh' e' t' rows' ix lt=>match Nat.beq eh' eh,Nat.beq e' e,lt with
   | true,true,some T'=>qk4 (.list t') (.list t) rows' λrows2=>rows2=rows/\T'=T/\x3h deep ix/\(match self with
    | true=>match qn3 l with
     | .msl g j=>match Nat.beq g 0,j with
      | true,some p=>match deep with
       | true=>False
       | false=>p=0
      | _,_=>False
     | _=>False
    | false=>match(qn3 l).msk with
     | 0=>w8b s.mem (qn3 l) λr=>fAV r λr=>AV.le .none r want
     | _+1=>match Nat.testBit (qn3 l).msk 0 with
      | true=>False
      | false=>w8b s.mem (qn3 l) λr=>fAV r λr=>AV.le .none r want)
   | _,_,_=>False
  | _=>False
def mVC (C:Ctx) (iv:Nat->Option Inv) (A:ArgK) (deep self:Bool) (eh e:Nat) (t:Ty) (T:q5k) (c:Code) (res:List ResultVar) (rows:List (List t.den)) (x:A.X) (y:AV) (rows':List (List t.den)):Prop:=
 vc C iv c 0 (yg8 C deep self eh e t T res y rows') ⟨[],xj6 A deep x,[.mat eh e t rows (qn1 deep) (some T)]⟩
section
variable {P : Program} {C : Ctx}
theorem q64 {m:View}:∀{ts:List Ty} {c:AV} {k:qa4 ts->Prop} {vs:List Value},qg3 ts c k->c.ok P m [] vs->∃x,k x/\vs.length=ts.length/\∀i,(xj4 ts x i).ok P m [] [vs.getD i undef]
 | [],c,k,vs,h,hc=>by
  simp only[qg3] at h
  split at h
  ·obtain rfl:vs=[]:=hc
   exact⟨(),h,rfl,λi=>⟨_,rfl⟩⟩
  ·exact h.elim
 | t :: r,c,k,vs,h,hc=>by
  simp only[qg3] at h
  split at h
  ·rename_i v rest
   obtain⟨u,us,rfl,h1,h2⟩:=hc
   obtain⟨x,k1,k2⟩:=q5w h h1
   obtain⟨y,k3,k4,k5⟩:=q64 k2 h2
   refine⟨(x,y),k3,by simp[k4],λi=>?_⟩
   cases i with
   | zero=>exact wb0 k1
   | succ i=>simpa[xj4] using k5 i
  ·exact h.elim
def w4z (tmps:Array Value):ResultVar->Sem Value
 | .tmp t=>pure (tmps.getD t undef)
 | .cell x t=>do loadVar t (<- asAddr (tmps.getD x undef))
theorem w40 (fn:Func) (tmps:Array Value):results fn tmps=(do
  let vs <- fn.results.mapM (w4z tmps)
  pure (if h:vs.size=1 then vs[0] else .tuple vs)):=by
 rfl
theorem q65 {mS:View} (hS:SoundAt P C mS) {w0:Base} {m0 m:View} {s:St} {ρ:List Value} {a:Act} {w:World} (hr:Rel P w0 m0 s m ρ a w):∀(res:List ResultVar) (k:AV->Prop),xj5 C s res k ->
  ∃vs l,(res.mapM (w4z a.tmps)).run P w=.ok vs w/\k l/\l.ok P m ρ vs/\l.lenIs res.length=true
 | [],k,h=>⟨[],.nil,rfl,h,rfl,rfl⟩
 | .tmp t :: r,k,h=>by
  obtain⟨vs,l,h1,h2,h3,h4⟩:=q65 hS hr r _ h
  refine⟨a.tmps.getD t undef :: vs,_,?_,h2,⟨_,_,rfl,hr.slots t,h3⟩,h4⟩
  rw[List.mapM_cons]
  have e:(w4z a.tmps (.tmp t)).run P w=.ok (a.tmps.getD t undef) w:=rfl
  simp only[Sem.run_bind,Sem.run_pure,Result.andThen_ok,h1,e]
 | .cell x t :: r,k,h=>by
  obtain⟨T,hT,h⟩:=withSome_iff.1 h
  obtain⟨⟨ad,e⟩,v,av,q1,q2,q3⟩:=wl1 (hS.tys t T hT) hr h (hr.slots x)
  obtain⟨vs,l,h1,h2,h3,h4⟩:=q65 hS hr r _ q2
  refine⟨v :: vs,_,?_,h2,⟨_,_,rfl,q3,h3⟩,h4⟩
  rw[e] at q1
  simp only[Instr.loadAt,Instr.sureAddr,pure_bind] at q1
  have e2:(w4z a.tmps (.cell x t)).run P w=.ok v w:=by
   simp only[w4z,e,asAddr,pure_bind,q1]
  rw[List.mapM_cons]
  simp only[Sem.run_bind,e2,Sem.run_pure,Result.andThen_ok,h1]
def pack (vs:List Value):Value:=match vs with
 | [v]=>v
 | l=>.tuple l.toArray
theorem qu2 {fn:Func} {tmps:Array Value} {w:World} {vs:List Value} (h:(fn.results.toList.mapM (w4z tmps)).run P w=.ok vs w):(results fn tmps).run P w=.ok (pack vs) w:=by
 rw[w40,Array.mapM_eq_mapM_toList]
 simp only[Sem.run_bind,Sem.run_map,h,Result.andThen_ok,Sem.run_pure]
 match vs with
 | []=>rfl
 | [v]=>rfl
 | a :: b :: r=>simp[pack]
theorem we7 {m:View} {ρ:List Value} {l:AV} {vs:List Value} (h:l.ok P m ρ vs) (hl:(∃n,l.lenIs n=true)):(qn3 l).ok P m ρ [pack vs]:=by
 cases l with
 | nil=>obtain rfl:vs=[]:=h; exact⟨[],rfl,rfl⟩
 | cons a b=>
  obtain⟨v,rest,rfl,h1,h2⟩:=h
  cases b with
  | nil=>obtain rfl:rest=[]:=h2; exact h1
  | cons c d=>
   obtain⟨v',rest',rfl,h3,h4⟩:=h2
   exact⟨v :: v' :: rest',rfl,v,_,rfl,h1,v',_,rfl,h3,h4⟩
  | _=>
   obtain⟨n,hn⟩:=hl
   cases n with
   | zero=>cases hn
   | succ n=>cases n <;> cases hn
 | _=>obtain⟨n,hn⟩:=hl; cases n <;> cases hn
theorem qw8 {m m':View} {ρ ρ':List Value} {av:AV}:∀{vs:List Value},av.scalar=true->av.ok P m ρ vs->av.ok P m' ρ' vs:=by
 induction av with
 | cons a b iha ihb=>
  intro vs h k
  obtain⟨v,rest,k1,k2,k3⟩:=k
  simp only[AV.scalar] at h
  split at h
  ·rename_i h1; exact⟨v,rest,k1,iha h1 k2,ihb h k3⟩
  ·cases h
 | agg l ih=>intro vs h k; obtain⟨cs,k1,k2⟩:=k; exact⟨cs,k1,ih h k2⟩
 | tup l ih=>intro vs h k; obtain⟨cs,k1,k2⟩:=k; exact⟨cs,k1,ih h k2⟩
 | nil=>intro vs h k; exact k
 | lit v=>intro vs h k; exact k
 | tt=>intro vs h k; exact k
 | ff=>intro vs h k; exact k
 | _=>intro vs h; cases h
theorem xj7 {w0:Base} {m0 m:View} {s:St} {ρ:List Value} {a:Act} {w:World} (hr:Rel P w0 m0 s m ρ a w) :
  ∃M:View,M.on w/\m0.le M/\(∀b o,M b=some o->m0 b=some o\/w0.n<=b)/\∀{av:AV} {vs:List Value},av.ok P m ρ vs->(av.bor s.mem).ok P M [] vs:=by
 let M:View:=λb=>if w0.n<=b then w.heap[b]? else m0 b
 have hm0:m0.on w:=λb o hb=>hr.view b o (hr.ext b o hb)
 have hmM:m.le M:=λb o hb=>by
  show(if w0.n<=b then w.heap[b]? else m0 b)=some o
  split
  ·exact hr.view b o hb
  ·rename_i hlt
   rcases hr.new b o hb with h | h
   ·exact h
   ·exact absurd h.1 hlt
 have hsee:∀g,Seen s ρ w M g:=λg v b hl hv hb=>by
  obtain⟨u,j1,j2⟩:=(hr.objs g).blk_lt hl
  rw[hv] at j1; obtain rfl:=Option.some.inj j1
  show(if w0.n<=b then w.heap[b]? else m0 b)=_
  rw[if_pos (j2 b hb).1]
 have hsn:∀{av:AV} {vs:List Value},av.ok P m ρ vs->(av.snap s.mem).ok P M [] vs:=by
  intro av
  induction av with
  | own g=>
   intro vs k
   obtain⟨v,⟨k1,_⟩,rfl⟩:=k
   simp only[AV.snap]
   split
   ·rename_i e t l hm
    have ho:=hr.objs g
    rw[hm] at ho
    obtain⟨v',vs,q1,q2,q3,q4⟩:=ho
    rw[k1] at q1
    obtain rfl:=Option.some.inj q1
    exact qp0 q3 (RdL.le hmM q2) (λb hb=>by
     show(if w0.n<=b then w.heap[b]? else m0 b)=_
     rw[if_pos (q3.lt b hb).1])
   ·exact⟨v,rfl⟩
  | box g off=>intro vs k; obtain⟨b,k1,rfl⟩:=k; exact⟨_,rfl⟩
  | optr g t i off=>intro vs k; obtain⟨b,n,c,k1,rfl⟩:=k; exact⟨_,rfl⟩
  | msl g j=>intro vs k; exact q3d hr hmM (hsee g) k
  | mptr g j t i off=>intro vs k; obtain⟨hs,b,n,c,_,_,rfl⟩:=k; exact⟨_,rfl⟩
  | msub g x y=>intro vs k; exact q1j hr hmM (hsee g) k
  | dat t l=>intro vs k; exact Rd.le hmM k
  | ndat c t l=>intro vs k; exact⟨Rd.le hmM k.1,k.2⟩
  | dptr t l i off=>intro vs k; obtain⟨h0,ad,cs,k1,k2,k3⟩:=k; exact⟨h0,ad,cs,k1,Rd.le hmM k2,λj v hj=>View.cell_le hmM (k3 j v hj)⟩
  | imm cs off ih=>intro vs k; obtain⟨ad,us,k1,k2,k3⟩:=k; exact⟨ad,us,k1,ih k2,λj v hj=>View.cell_le hmM (k3 j v hj)⟩
  | fn a r p f=>intro vs k; obtain⟨fv,k1,k2⟩:=k; exact⟨fv,k1,k2.le hmM.cle⟩
  | clo f caps ih=>intro vs k; obtain⟨cs,k1,k2⟩:=k; exact⟨cs,k1,ih k2⟩
  | agg l ih=>intro vs k; obtain⟨cs,k1,k2⟩:=k; exact⟨cs,k1,ih k2⟩
  | tup l ih=>intro vs k; obtain⟨cs,k1,k2⟩:=k; exact⟨cs,k1,ih k2⟩
  | cons a b iha ihb=>intro vs k; obtain⟨v,rest,k1,k2,k3⟩:=k; exact⟨v,rest,k1,iha k2,ihb k3⟩
  | _=>intro vs k; exact k
 refine⟨M,λb o hb=>?_,View.le_trans hr.ext hmM,λb o hb=>?_,?_⟩
 ·change(if w0.n<=b then w.heap[b]? else m0 b)=some o at hb
  split at hb
  ·exact hb
  ·exact hm0 b o hb
 ·change(if w0.n<=b then w.heap[b]? else m0 b)=some o at hb
  split at hb
  ·rename_i h; exact .inr h
  ·exact .inl hb
 ·intro av
  induction av with
  | own g=>
   intro vs k
   obtain⟨v,⟨k1,_⟩,rfl⟩:=k
   simp only[AV.bor]
   split
   ·rename_i e t l hm
    have ho:=hr.objs g
    rw[hm] at ho
    obtain⟨v',vs,q1,q2,q3,q4⟩:=ho
    rw[k1] at q1
    obtain rfl:=Option.some.inj q1
    exact qp0 q3 (RdL.le hmM q2) (λb hb=>by
     show(if w0.n<=b then w.heap[b]? else m0 b)=_
     rw[if_pos (q3.lt b hb).1])
   ·exact⟨v,rfl⟩
  | box g off=>
   intro vs k
   obtain⟨b,k1,rfl⟩:=k
   simp only[AV.bor]
   split
   ·rename_i ty cs hm
    have ho:=hr.objs g
    rw[hm] at ho
    obtain⟨b',vs,q1,q2,q3,q4,q5,q6⟩:=ho
    rw[k1] at q1
    obtain rfl:b=b':=by injection q1 with r1; injection r1 with r1; injection r1 with r1; injection r1
    refine⟨⟨b,0,none⟩,vs,by rw[Ls.add_zero_lit],hsn q4,λj v hj=>?_⟩
    rw[Ls.add_zero_lit,View.cell,show M b=some (.cells vs.toArray ty (0,0)) from by
     show(if w0.n<=b then w.heap[b]? else m0 b)=_
     rw[if_pos q2,q3]]
    simpa using hj
   ·exact⟨_,rfl⟩
  | optr g t i off=>intro vs k; obtain⟨b,n,c,k1,rfl⟩:=k; exact⟨_,rfl⟩
  | msl g j=>intro vs k; exact q3d hr hmM (hsee g) k
  | mptr g j t i off=>intro vs k; obtain⟨hs,b,n,c,_,_,rfl⟩:=k; exact⟨_,rfl⟩
  | msub g x y=>intro vs k; exact q1j hr hmM (hsee g) k
  | dat t l=>intro vs k; exact Rd.le hmM k
  | ndat c t l=>intro vs k; exact⟨Rd.le hmM k.1,k.2⟩
  | dptr t l i off=>intro vs k; obtain⟨h0,ad,cs,k1,k2,k3⟩:=k; exact⟨h0,ad,cs,k1,Rd.le hmM k2,λj v hj=>View.cell_le hmM (k3 j v hj)⟩
  | imm cs off ih=>intro vs k; obtain⟨ad,us,k1,k2,k3⟩:=k; exact⟨ad,us,k1,ih k2,λj v hj=>View.cell_le hmM (k3 j v hj)⟩
  | fn a r p f=>intro vs k; obtain⟨fv,k1,k2⟩:=k; exact⟨fv,k1,k2.le hmM.cle⟩
  | clo f caps ih=>intro vs k; obtain⟨cs,k1,k2⟩:=k; exact⟨cs,k1,ih k2⟩
  | agg l ih=>intro vs k; obtain⟨cs,k1,k2⟩:=k; exact⟨cs,k1,ih k2⟩
  | tup l ih=>intro vs k; obtain⟨cs,k1,k2⟩:=k; exact⟨cs,k1,ih k2⟩
  | cons a b iha ihb=>intro vs k; obtain⟨v,rest,k1,k2,k3⟩:=k; exact⟨v,rest,k1,iha k2,ihb k3⟩
  | _=>intro vs k; exact k
theorem w8d {w0:Base} {m0 m:View} {s:St} {ρ:List Value} {a:Act} {w:World} (hr:Rel P w0 m0 s m ρ a w) {av:AV}:∀{K:AV->Prop} {vs:List Value},w8b s.mem av K->av.ok P m ρ vs ->
  ∃r,K r/\∀{B:Nat},(∀g v b,av.msk.testBit g=true->(qa3 s.mem g).live=true->ρ[g]? = some v->Blk v b->B<=b)->r.ok P (View.from w B) [] vs:=by
 have frm:∀{B b:Nat},B<=b->View.from w B b=w.heap[b]?:=λh=>by unfold View.from; rw[if_pos h]
 induction av with
 | own g=>
  intro K vs h k
  simp only[w8b] at h
  split at h
  ·rename_i e t l hm
   split at h
   ·rename_i hf
    have ho:=hr.objs g
    rw[hm] at ho
    obtain⟨v,us,q1,q2,q3,q4⟩:=ho
    obtain⟨v',⟨r1,_⟩,rfl⟩:=k
    rw[q1] at r1
    obtain rfl:=Option.some.inj r1
    exact⟨_,h,λhB=>qp0 q3 (ql0 hf q2) λb hb=>frm (hB g v b (by simp[AV.msk,qb6]) (by rw[hm]; rfl) q1 (qh4 hb))⟩
   ·exact h.elim
  ·exact h.elim
 | msl g j=>
  intro K vs h k
  simp only[w8b] at h
  split at h
  ·rename_i eh e t rows ix lt hm
   split at h
   ·rename_i hf
    have ho:=hr.objs g
    rw[hm] at ho
    obtain⟨hs,q1,q2,_⟩:=ho
    obtain⟨hsx,v',r1,⟨r2,r3⟩,rfl⟩:=k
    rw[q1] at r1
    obtain rfl:=qf6 (Option.some.inj r1)
    refine⟨_,h,λ{B} hB=>?_⟩
    have q2':PoolOk (λ_=>none) w w0.n eh e t rows ix hs:=q2.flat hf λ_ _ _ _=>rfl
    exact(ww6 (M:=View.from w B) q2' (λb o hb=>by cases hb) λb hb=>frm (hB g _ b (by simp[AV.msk,qb6]) (by rw[hm]; rfl) q1 (qe0.2 hb))).1 v' r2
   ·exact h.elim
  ·exact h.elim
 | cons x y ihx ihy=>
  intro K vs h k
  obtain⟨v,rest,rfl,k2,k3⟩:=k
  obtain⟨r1,h1,h2⟩:=ihx h k2
  obtain⟨r2,h3,h4⟩:=ihy h1 k3
  exact⟨_,h3,λhB=>⟨v,rest,rfl,h2 λg v b hm=>hB g v b (by simp[AV.msk,qd0,hm]),h4 λg v b hm=>hB g v b (by simp[AV.msk,qd0,hm])⟩⟩
 | agg c ih=>
  intro K vs h k
  obtain⟨cs,k1,k2⟩:=k
  obtain⟨r1,h1,h2⟩:=ih h k2
  exact⟨_,h1,λhB=>⟨cs,k1,h2 hB⟩⟩
 | tup c ih=>
  intro K vs h k
  obtain⟨cs,k1,k2⟩:=k
  obtain⟨r1,h1,h2⟩:=ih h k2
  exact⟨_,h1,λhB=>⟨cs,k1,h2 hB⟩⟩
 | lit v=>intro K vs h k; exact⟨_,h,λ_=>k⟩
 | tt=>intro K vs h k; exact⟨_,h,λ_=>k⟩
 | ff=>intro K vs h k; exact⟨_,h,λ_=>k⟩
 | nil=>intro K vs h k; exact⟨_,h,λ_=>k⟩
 | _=>intro K vs h; exact h.elim
def Left (P:Program) (S:qb7) (k:AV->Prop) (m:View) (w:World) (e:Ending) (w':World):Prop:=∃v m',e=.returned v/\Below w.heap.size w w'/\m'.on w'/\(match S.fresh with
   | true=>∀b o,m' b=some o->w.heap.size<=b
   | false=>m.le m'/\∀b o,m' b=some o->m b=some o\/w.heap.size<=b)/\w4d P S k w.heap.size w' m' v
theorem xz8 {fn:Func} {c:Code} {iv:Nat->Option Inv} {i:Nat} {A:ArgK} {fresh:Bool} {own deep:Option Nat} {pre:A.X->Prop} {g:A.X->AV} {x:A.X} {k:AV->Prop} {w w1:World} {m m0:View} {ρ:List Value} {s:St} {a:Act} (hS:SoundAt P C m.cells) (hyl:C.yl=none) (hk:k (g x)) (hm:m.on w)
  (hd:(qq1 iv c i).all (λd=>Nat.blt d fn.ntmps)=true) (hN:a.tmps.size=fn.ntmps) (hr0:Rel P (base0 w) m.cells s m0 ρ a w1) (hvc:vc C iv c i (yb6 C fresh own deep fn.results.toList (g x)) s):c.wpIn (fz none) 0 P (bodyPostM (fz none) 0 P fn (Left P (q8r A fresh own deep pre g) k m w)) a w1:=by
 let R:Ending->World->Prop:=Left P (q8r A fresh own deep pre g) k m w
 refine w8a (N:=⟨fn.ntmps,[]⟩) c (λZ=>Z=base0 w) m.cells hS none 0 (Cls.one hyl _ _ _) (Cells.of).eq (.inr rfl) i _ s a w1 _ (λd hdd=>⟨?_,by simp⟩) ⟨_,rfl,⟨hN,by simp⟩,m0,ρ,hr0⟩ hvc ?_
 ·have:=List.all_eq_true.1 hd d hdd
  simp[Nat.blt] at this
  show d<fn.ntmps
  omega
 intro e s' a' w' hend _ hg
 obtain⟨_,rfl,_,m1,ρ1,hr1⟩:=hg
 have hend':xj5 C s' fn.results.toList λl=>x6l fresh own deep s'.mem (g x) (qn3 l):=by
  cases e <;> first | exact hend | exact hend.elim
 have post:LeavesInM (fz none) 0 P fn a'.tmps R a'.defers .returning w':=by
  refine qn9 (Z:=base0 w) (λW=>∃m' ρ',Rel P (base0 w) m.cells s' m' ρ' ⟨a'.tmps,[]⟩ W/\∀b o,m' b=some o->∃c t f,o=.cells c t f) (λW D ⟨m',ρ',hr,hc⟩ hD1 hD2 hD3=>?_) (λW ⟨m',ρ',hr,hc⟩=>?_) a'.defers w' hr1.defers ⟨m1.cells,ρ1,?_,λb o hb=>View.cells_is hb⟩
  ·refine⟨m',ρ',hr.shake hc (grownBy_putObj' W D _) (λr e=>?_) trivial,hc⟩
   obtain rfl:=Option.some.inj e
   exact⟨λo ho h=>(by rw[hD3] at h; obtain rfl:=Option.some.inj h; exact ho),hD2⟩
  ·obtain⟨vs',l,h1,h2,h3,h4⟩:=q65 hS hr _ _ hend'
   have hp:=we7 h3 ⟨_,h4⟩
   have hres:=qu2 h1
   have hbel:=q5u.1 hr.below
   have hmW:m.on W:=View.on_below hm hbel
   refine⟨pack vs',hres,pack vs',?_⟩
   generalize qn3 l=rv at h2 hp
   generalize pack vs'=v at hp
   unfold x6l at h2
   have hfin:∀M:View,M.on W->m.cells.le M->(∀b o,M b=some o->m.cells b=some o\/w.heap.size<=b)->(m.or M).on W/\M.le (m.or M)/\m.le (m.or M)/\∀b o,(m.or M) b=some o->m b=some o\/w.heap.size<=b:=λM q1 q2 q3=>by
    refine⟨View.or_on hmW q1,View.or_le hmW q1,View.le_or,λb o hb=>?_⟩
    unfold View.or at hb
    cases hmb:m b with
    | some o'=>rw[hmb] at hb; exact .inl hb
    | none=>
     rw[hmb] at hb
     rcases q3 b o hb with k | k
     ·have:=View.cells_le m b o k; rw[hmb] at this; cases this
     ·exact .inr k
   cases own with
   | none=>
    cases fresh with
    | true=>
     simp only at h2
     cases hsc:rv.scalar <;> rw[hsc] at h2
     ·obtain⟨M,M2,M3⟩:=w8d hr h2 hp
      simp only[qu5] at M2
      exact⟨View.from W w.heap.size,rfl,hbel,View.from_on _ _,(λb o hb=>by unfold View.from at hb; split at hb <;> first | assumption | cases hb),_,hk,q4n Born.none M2 (M3 λg v b _ hl hv hb=>by
       obtain⟨u,j1,j2⟩:=(hr.objs g).blk_lt hl
       rw[hv] at j1; obtain rfl:=Option.some.inj j1
       exact(j2 b hb).1)⟩
     simp only[qu5] at h2
     refine⟨λ_=>none,rfl,hbel,(λb o hb=>by cases hb),(λb o hb=>by cases hb),_,hk,q4n Born.none h2 (qw8 hsc hp)⟩
    | false=>
     simp only[qu5] at h2
     obtain⟨M,M1,M2,M3,M4⟩:=xj7 hr
     obtain⟨q1,q2,q3,q4⟩:=hfin M M1 M2 M3
     exact⟨m.or M,rfl,hbel,q1,⟨q3,q4⟩,_,hk,AV.ok_le q2 (λ_ _ h _=>h) (q4n Born.none h2 (M4 hp))⟩
   | some ee=>
     cases deep with
     | some e2=>
      simp only at h2
      split at h2
      ·rename_i gg jj
       split at h2
       ·rename_i eh e' t rows ix lt hm'
        split at h2
        ·rename_i c1 c2 c3
         have c1:=Nat.eq_of_beq_eq_true c1
         have c2:=Nat.eq_of_beq_eq_true c2
         subst c1 c2
         have ho:=hr.objs gg
         rw[hm'] at ho
         obtain⟨hs,q1,q2,_⟩:=ho
         obtain⟨hsx,v',r1,⟨r2,r3⟩,r4⟩:=hp
         rw[q1] at r1
         obtain rfl:=qf6 (Option.some.inj r1)
         obtain rfl:=(List.cons.inj r4).1
         obtain⟨z1,z2,z3,z4⟩:=hfin m' hr.view hr.ext (λb o hb=>(hr.new b o hb).imp id And.left)
         have hwant:g x=.dat (.list t) rows:=by
          revert h2
          generalize g x=wv
          intro h2
          cases wv <;> first | exact h2.elim | skip
          obtain⟨rfl,hl⟩:=qg6 h2
          rw[hl _ HEq.rfl]
         cases fresh with
         | true=>exact⟨λ_=>none,rfl,hbel,(λb o hb=>by cases hb),(λb o hb=>by cases hb),.inl ⟨t,rows,hs,by rw[<- hwant]; exact hk,r2,q2.flat c3 λ_ _ _ _=>rfl⟩⟩
         | false=>
         refine⟨m.or m',rfl,hbel,z1,⟨z3,z4⟩,?_⟩
         refine .inl ⟨t,rows,hs,by rw[<- hwant]; exact hk,r2,q2.view z2.cle λu b hu hb=>?_⟩
         have hmb:m b=none:=by
          cases hmb:m b with
          | none=>rfl
          | some o=>
           exfalso
           have k1:=hmW b o hmb
           obtain⟨_,_,_,_,hou⟩:=q2.each hu
           obtain⟨c,t,f,k2⟩:=(own_blk hou hb).2.2
           rw[k1] at k2
           obtain rfl:=Option.some.inj k2
           have k3:=hr.ext b (.cells c t f) (by unfold View.cells; rw[hmb])
           rw[q2.free u b hu hb] at k3
           cases k3
         show(m.or m') b=none
         unfold View.or
         rw[hmb]
         exact q2.free u b hu hb
        ·exact h2.elim
       ·exact h2.elim
      ·rename_i c
       split at h2
       case h_2=>exact h2.elim
       rename_i aa zz c' hgx
       have nilv:∀{u:Value},isNil u=true->u=.slice none 0 0:=λ{u} hn=>by
        revert hn
        unfold isNil
        split
        ·split
         ·split
          ·intro _; rfl
          ·intro q; cases q
         ·intro q; cases q
        ·intro q; cases q
       split at h2
       case h_3=>exact h2.elim
       case h_2=>
        rename_i u a' z' hsc
        split at h2
        case h_2=>exact h2.elim
        rename_i t' l' hnil
        split at h2
        case h_2=>exact h2.elim
        rename_i t l'
        obtain⟨hl',hzl⟩:=h2
        subst hl'
        simp only[qu5] at hzl
        obtain⟨cs,cv,u1,rest,ce,r2,r3⟩:=hp
        have hu1:u1=.slice none 0 0:=by rw[(List.cons.inj (show[u1]=[u] from r2)).1]; exact nilv hnil
        subst hu1
        have hv:v=.tuple (.slice none 0 0 :: rest).toArray:=by
         have:=(List.cons.inj cv).1
         rw[this,<- ce]
        have hzo:∀M:View,z'.ok P M [] rest:=λM=>AV.ok_le (m:=λ_=>none) (λb o hb=>by cases hb) (λ_ _ h _=>h) (q4n Born.none hzl (qw8 hsc r3))
        have hw:g x=.tup (.cons (.dat (.list t) []) z'):=hgx
        have hap:∀(i j:Nat) (u v:Value) (b:Nat),i≠j->([Value.slice none 0 0]:List Value)[i]? = some u->([Value.slice none 0 0]:List Value)[j]? = some v->blk u=some b->blk v=some b->False:=λi j u v b hij hi hj hb _=>by
         have hu0:u=.slice none 0 0:=by
          cases i with
          | zero=>exact(Option.some.inj hi).symm
          | succ i=>cases hi
         rw[hu0] at hb
         cases hb
        have hpo:PoolOk (λ_=>none) W w.heap.size ee e2 t [] none [.slice none 0 0]:=⟨rfl,⟨[],World.ownsRow_nil W w.heap.size ee 1,λi p hp=>by simp[ixL] at hp⟩,λp hp=>absurd hp (Nat.not_lt_zero _),hap,λ_ _ _ _=>rfl⟩
        exact⟨λ_=>none,rfl,hbel,(λb o hb=>by cases hb),(λb o hb=>by cases hb),.inr ⟨t,[],[.slice none 0 0],_,rest,z',hv,by rw[<- hw]; exact hk,hzo _,rfl,hpo⟩⟩
       rename_i gg jj a' z' hsc
       split at h2
       case h_2=>exact h2.elim
       rename_i eh e' t rows ix lt t' l' hm'
       split at h2
       case h_2=>exact h2.elim
       rename_i c1 c2 c3
       have c1:=Nat.eq_of_beq_eq_true c1
       have c2:=Nat.eq_of_beq_eq_true c2
       subst c1 c2
       obtain⟨h2,hzl⟩:=h2
       simp only[qu5] at hzl
       have ho:=hr.objs gg
       rw[hm'] at ho
       obtain⟨hs,q1,q2,_⟩:=ho
       obtain⟨cs,cv,u1,rest,ce,⟨hsx,v',r1,⟨r2,r3⟩,r4⟩,r5⟩:=hp
       rw[q1] at r1
       obtain rfl:=qf6 (Option.some.inj r1)
       obtain rfl:=(List.cons.inj r4).1
       obtain⟨rfl,hl⟩:=qg6 h2
       have hl:=hl _ HEq.rfl
       subst hl
       have hv:v=.tuple (u1 :: rest).toArray:=by
        have:=(List.cons.inj cv).1
        rw[this,<- ce]
       have hzo:∀M:View,z'.ok P M [] rest:=λM=>AV.ok_le (m:=λ_=>none) (λb o hb=>by cases hb) (λ_ _ h _=>h) (q4n Born.none hzl (qw8 hsc r5))
       have hw:g x=.tup (.cons (.dat (.list t) rows) z'):=hgx
       exact⟨λ_=>none,rfl,hbel,(λb o hb=>by cases hb),(λb o hb=>by cases hb),.inr ⟨t,rows,hs,u1,rest,z',hv,by rw[<- hw]; exact hk,hzo _,r2,q2.flat c3 λ_ _ _ _=>rfl⟩⟩
      ·exact h2.elim
     | none=>
     simp only at h2
     split at h2
     ·rename_i gg
      split at h2
      ·rename_i e' t l' hm'
       split at h2
       case h_2=>exact h2.elim
       rename_i hee c3
       have hee:=Nat.eq_of_beq_eq_true hee
       subst hee
       have ho:=hr.objs gg
       rw[hm'] at ho
       obtain⟨v',us,q1,q2,q3,q4⟩:=ho
       obtain⟨v'',⟨r1,_⟩,r2⟩:=hp
       rw[q1] at r1
       obtain rfl:=Option.some.inj r1
       obtain rfl:=(List.cons.inj r2).1
       obtain⟨z1,z2,z3,z4⟩:=hfin m' hr.view hr.ext (λb o hb=>(hr.new b o hb).imp id And.left)
       have hwant:g x=.dat t l':=by
        revert h2
        generalize g x=wv
        intro h2
        cases wv <;> first | exact h2.elim | skip
        obtain⟨rfl,hl⟩:=qg6 h2
        rw[hl _ HEq.rfl]
       cases fresh with
       | true=>exact⟨λ_=>none,rfl,hbel,(λb o hb=>by cases hb),(λb o hb=>by cases hb),.inl ⟨t,l',us,by rw[<- hwant]; exact hk,q3,ql0 c3 q2,λ_ _=>rfl⟩⟩
       | false=>
       refine⟨m.or m',rfl,hbel,z1,⟨z3,z4⟩,?_⟩
       refine .inl ⟨t,l',us,by rw[<- hwant]; exact hk,q3,RdL.le z2 q2,λb hb=>?_⟩
       have hmb:m b=none:=by
        cases hmb:m b with
        | none=>rfl
        | some o=>
         exfalso
         have k1:=hmW b o hmb
         have k2:∃c t f,W.heap[b]? = some (.cells c t f):=by
          rcases q3.2 with⟨rfl,_⟩ | ⟨g',cap,cur,rfl,_,hg,_⟩
          ·simp[Value.ownBlock] at hb
          ·simp only[Value.ownBlock,Option.some.injEq] at hb; subst hb; exact⟨_,_,_,hg⟩
         obtain⟨c,t,f,k2⟩:=k2
         rw[k1] at k2
         obtain rfl:=Option.some.inj k2
         have k3:=hr.ext b (.cells c t f) (by unfold View.cells; rw[hmb])
         rw[q4 b hb] at k3
         cases k3
       show(m.or m') b=none
       unfold View.or
       rw[hmb]
       exact q4 b hb
      ·exact h2.elim
     ·rename_i c
      split at h2
      case h_2=>exact h2.elim
      rename_i aa zz c' hgx
      split at h2
      case h_3=>exact h2.elim
      case h_2=>
       rename_i u a' z' hsc
       split at h2
       case h_2=>exact h2.elim
       rename_i t l' hnil
       obtain⟨hl',hzl⟩:=h2
       subst hl'
       simp only[qu5] at hzl
       obtain⟨cs,cv,u1,rest,ce,r2,r3⟩:=hp
       have hu:u1=u:=(List.cons.inj r2).1
       have hu1:u1=.slice none 0 0:=by
        rw[hu]
        revert hnil
        unfold isNil
        split
        ·split
         ·split
          ·intro _; rfl
          ·intro q; cases q
         ·intro q; cases q
        ·intro q; cases q
       subst hu1
       obtain⟨z1,z2,z3,z4⟩:=hfin m' hr.view hr.ext (λb o hb=>(hr.new b o hb).imp id And.left)
       have hv:v=.tuple (.slice none 0 0 :: rest).toArray:=by
        have:=(List.cons.inj cv).1
        rw[this,<- ce]
       have hzo:∀M:View,z'.ok P M [] rest:=λM=>AV.ok_le (m:=λ_=>none) (λb o hb=>by cases hb) (λ_ _ h _=>h) (q4n Born.none hzl (qw8 hsc r3))
       have ho:=World.ownsRow_nil W w.heap.size ee t.size
       have hw:g x=.tup (.cons (.dat t []) z'):=hgx
       cases fresh with
       | true=>exact⟨λ_=>none,rfl,hbel,(λb o hb=>by cases hb),(λb o hb=>by cases hb),.inr (.inr ⟨t,[],[],_,rest,z',hv,by rw[<- hw]; exact hk,hzo _,ho,by simp[RdL],λ_ _=>rfl⟩)⟩
       | false=>exact⟨m.or m',rfl,hbel,z1,⟨z3,z4⟩,.inr (.inr ⟨t,[],[],_,rest,z',hv,by rw[<- hw]; exact hk,hzo _,ho,by simp[RdL],λb hb=>by cases hb⟩)⟩
      rename_i gg a' z' hsc
      split at h2
      case h_2=>exact h2.elim
      rename_i e' t l' t2 l2 hm'
      split at h2
      case h_2=>exact h2.elim
      rename_i hee c3
      have hee:=Nat.eq_of_beq_eq_true hee
      subst hee
      obtain⟨h2,hzl⟩:=h2
      simp only[qu5] at hzl
      have ho:=hr.objs gg
      rw[hm'] at ho
      obtain⟨v',us,q1,q2,q3,q4⟩:=ho
      obtain⟨cs,cv,u1,rest,ce,⟨v'',⟨r1,_⟩,r2⟩,r3⟩:=hp
      rw[q1] at r1
      obtain rfl:=Option.some.inj r1
      obtain rfl:=(List.cons.inj r2).1
      obtain⟨z1,z2,z3,z4⟩:=hfin m' hr.view hr.ext (λb o hb=>(hr.new b o hb).imp id And.left)
      obtain⟨rfl,hl⟩:=qg6 h2
      have hl:=hl _ HEq.rfl
      subst hl
      have hwant:g x=.tup (.cons (.dat t l') z'):=hgx
      have hv:v=.tuple (u1 :: rest).toArray:=by
       have:=(List.cons.inj cv).1
       rw[this,<- ce]
      have hzo:∀M:View,z'.ok P M [] rest:=λM=>AV.ok_le (m:=λ_=>none) (λb o hb=>by cases hb) (λ_ _ h _=>h) (q4n Born.none hzl (qw8 hsc r3))
      cases fresh with
      | true=>exact⟨λ_=>none,rfl,hbel,(λb o hb=>by cases hb),(λb o hb=>by cases hb),.inr (.inr ⟨t,l',us,u1,rest,z',hv,by rw[<- hwant]; exact hk,hzo _,q3,ql0 c3 q2,λ_ _=>rfl⟩)⟩
      | false=>
      refine⟨m.or m',rfl,hbel,z1,⟨z3,z4⟩,?_⟩
      refine .inr (.inr ⟨t,l',us,u1,rest,z',hv,by rw[<- hwant]; exact hk,hzo _,q3,RdL.le z2 q2,λb hb=>?_⟩)
      have hmb:m b=none:=by
       cases hmb:m b with
       | none=>rfl
       | some o=>
        exfalso
        have k1:=hmW b o hmb
        have k2:∃c t f,W.heap[b]? = some (.cells c t f):=by
         rcases q3.2 with⟨rfl,_⟩ | ⟨g',cap,cur,rfl,_,hg,_⟩
         ·simp[Value.ownBlock] at hb
         ·simp only[Value.ownBlock,Option.some.injEq] at hb; subst hb; exact⟨_,_,_,hg⟩
        obtain⟨c,t,f,k2⟩:=k2
        rw[k1] at k2
        obtain rfl:=Option.some.inj k2
        have k3:=hr.ext b (.cells c t f) (by unfold View.cells; rw[hmb])
        rw[q4 b hb] at k3
        cases k3
      show(m.or m') b=none
      unfold View.or
      rw[hmb]
      exact q4 b hb
     ·exact h2.elim
  ·have hr1:=hr1.cells
   rw[(Cells.of).eq] at hr1
   exact hr1.shake (λb o hb=>View.cells_is hb) (row:=none) ⟨rfl,rfl,rfl,Nat.le_refl _,λ_ _ _=>rfl⟩ (λr e=>by cases e) trivial
 cases e <;> first | exact post | exact hend.elim
theorem xj8 {mS : View} (hS : SoundAt P C mS) (hcS : Cells mS) {f : Nat} {fn : Func} {c : Code} (hf : P.funcs[f]? = some fn) (hname : (fn.name == "runtime.NumGoroutine") = false) (hb : fn.body = some c) {A : ArgK} (hA : A.Ok P) {fresh : Bool} {own deep : Option Nat} {pre : A.X -> Prop} {g : A.X -> AV} (iv : A.X -> Nat -> Option Inv)
  (hd:∀x,(qq1 (iv x) c 0).all (λd=>Nat.blt d fn.ntmps)=true) (hn:A.n<=fn.ntmps) (h:∀x,pre x->xVC C (iv x) A fresh own deep c fn.results.toList x (g x)) (hyl:C.yl=none:=by rfl):MeetsAt P mS f (q8r A fresh own deep pre g):=by
 refine⟨⟨fn,c,hf,hname,hb⟩,λw m args vs k hm hle hargs hrun=>?_⟩
 obtain⟨x,⟨hp,hk⟩,hlen,hslots⟩:=hA.ok hrun hargs
 have hvc:=h x hp
 let R:Ending->World->Prop:=Left P (q8r A fresh own deep pre g) k m w
 have hwp:c.wpIn (fz none) 0 P (bodyPostM (fz none) 0 P fn R) { tmps:=vs.toArray++Array.replicate (fn.ntmps-vs.toArray.size) undef,defers:=[] } w:=by
  have hN:(vs.toArray++Array.replicate (fn.ntmps-vs.toArray.size) undef).size=fn.ntmps:=by simp[hlen]; omega
  refine xz8 (ρ:=[]) (hS.le (hcS.le_cells hle)) hyl hk hm (hd x) hN (Rel.cells (m0:=m) (m:=m) ?_) hvc
  refine⟨λi=>?_,rfl,by simp,trivial,λg=>trivial,(λg g' v v' b _ hl=>by cases hl),hm,View.le_refl m,λb o hb=>Or.inl hb,q5u.2 (Below.refl _ _),(λg v b hl=>by cases hl),(λg p hp=>by simp[base0] at hp)⟩
  show(A.init x i).ok P m [] _
  have:(vs.toArray++Array.replicate (fn.ntmps-vs.toArray.size) undef).getD i undef=vs.getD i undef:=by
   rw[Array.getD_eq_getD_getElem?,List.getD_eq_getElem?_getD]
   rcases Nat.lt_or_ge i vs.length with hlt | hge
   ·simp[Array.getElem?_append,hlt]
   ·rw[Array.getElem?_append_right (by simpa using hge),List.getElem?_eq_none hge]
    simp[Array.getElem?_replicate]
    split <;> rfl
  rw[this]
  exact hslots i
 have:=callsIn_of_wp_marks (F:=Fence.wide) (n:=0) hf hb trivial hwp
 exact callsIn_wide.1 this
theorem q9k (hS : Sound P C) {f : Nat} {fn : Func} {c : Code} (hf : P.funcs[f]? = some fn) (hname : (fn.name == "runtime.NumGoroutine") = false) (hb : fn.body = some c) {A : ArgK} (hA : A.Ok P) {fresh : Bool} {own deep : Option Nat} {pre : A.X -> Prop} {g : A.X -> AV} (iv : A.X -> Nat -> Option Inv)
  (hd:∀x,(qq1 (iv x) c 0).all (λd=>Nat.blt d fn.ntmps)=true) (hn:A.n<=fn.ntmps) (h:∀x,pre x->xVC C (iv x) A fresh own deep c fn.results.toList x (g x)) (hyl:C.yl=none:=by rfl):Meets P f (q8r A fresh own deep pre g):=
 (xj8 (hS.at _) Cells.nil hf hname hb hA iv hd hn h hyl).all
theorem qm4 (ins:List Ty):(q02 ins).Ok P:=⟨λh hc=>q64 h hc⟩
theorem q3k (hS : Sound P C) {f : Nat} {fn : Func} {c : Code} (hf : P.funcs[f]? = some fn) (hname : (fn.name == "runtime.NumGoroutine") = false) (hb : fn.body = some c) {fresh : Bool} {own : Option Nat} {ins : List Ty} {pre : qa4 ins -> Prop} {g : qa4 ins -> AV} (iv : qa4 ins -> Nat -> Option Inv)
  (hd:∀x,(qq1 (iv x) c 0).all (λd=>Nat.blt d fn.ntmps)=true) (hn:ins.length<=fn.ntmps) (h:∀x,pre x->yg6 C (iv x) fresh own ins c fn.results.toList x (g x)) (hyl:C.yl=none:=by rfl):Meets P f (we6 fresh own ins pre g):=
 q9k (A:=q02 ins) hS hf hname hb (qm4 ins) iv hd hn h hyl
theorem meets (hS : Sound P C) {f : Nat} {fn : Func} {c : Code} (hf : P.funcs[f]? = some fn) (hname : (fn.name == "runtime.NumGoroutine") = false) (hb : fn.body = some c) {fresh : Bool} {own : Option Nat} {ins outs : List Ty} {pre : qa4 ins -> Prop} {g : qa4 ins -> qa4 outs} (iv : qa4 ins -> Nat -> Option Inv)
  (hd:∀x,(qq1 (iv x) c 0).all (λd=>Nat.blt d fn.ntmps)=true) (hn:ins.length<=fn.ntmps) (h:∀x,pre x->yg7 C (iv x) fresh own ins outs c fn.results.toList x (g x)) (hyl:C.yl=none:=by rfl):Meets P f (qf1 fresh own ins outs pre g):=
 q3k hS hf hname hb iv hd hn h hyl
end
end Eng
namespace Eng
open Go Go.RowKit
def SpecsOk (P:Program) (specs:List (Nat × qb7)):Prop:=∀f S,find specs f=some S->Meets P f S
theorem SpecsOk.nil (P:Program):SpecsOk P []:=λf S h=>by cases h
theorem SpecsOk.cons {P:Program} {f:Nat} {S:qb7} {l:List (Nat × qb7)} (h:Meets P f S) (k:SpecsOk P l):SpecsOk P ((f,S) :: l):=by
 intro g T hg
 simp only[find] at hg
 split at hg
 ·rename_i e; obtain rfl:=Nat.eq_of_beq_eq_true e; injection hg with hg; rw[<- hg]; exact h
 ·exact k g T hg
theorem SpecsOk.sound {P:Program} {C:Ctx} (h:SpecsOk P C.specs) (ht:∀t T,find C.tys t=some T->TIok P t T) (hm:P.follows .mixedOrders=true) (hi:∀F S,find C.its F=some S->qu0 P F S:=by(intro _ _ h; cases h)) (hy:∀Y,C.yl=some Y->∀p∈Y.fix,p.2.strip=p.2:=by(intro _ h; cases h)) (hmu:∀f M,find C.muts f=some M->qo0 P f M:=by(intro _ _ h; cases h)) (hbl:∀f B,find C.blds f=some B->q3f P f B:=by(intro _ _ h; cases h)) (hbx:∀f B,find C.bxs f=some B->q3g P f B:=by(intro _ _ h; cases h)):Sound P C:=⟨ht,h,hm,hi,hy,hmu,hbl,hbx⟩
def SpecsAt (P:Program) (m0:View) (specs:List (Nat × qb7)):Prop:=∀f S,find specs f=some S->MeetsAt P m0 f S
theorem SpecsAt.nil (P:Program) (m0:View):SpecsAt P m0 []:=λf S h=>by cases h
theorem SpecsAt.cons {P:Program} {m0:View} {f:Nat} {S:qb7} {l:List (Nat × qb7)} (h:MeetsAt P m0 f S) (k:SpecsAt P m0 l):SpecsAt P m0 ((f,S) :: l):=by
 intro g T hg
 simp only[find] at hg
 split at hg
 ·rename_i e; obtain rfl:=Nat.eq_of_beq_eq_true e; injection hg with hg; rw[<- hg]; exact h
 ·exact k g T hg
theorem SpecsAt.sound {P:Program} {C:Ctx} {m0:View} (h:SpecsAt P m0 C.specs) (ht:∀t T,find C.tys t=some T->TIok P t T) (hm:P.follows .mixedOrders=true) (hi:∀F S,find C.its F=some S->qu0 P F S:=by(intro _ _ h; cases h)) (hy:∀Y,C.yl=some Y->∀p∈Y.fix,p.2.strip=p.2:=by(intro _ h; cases h)) (hmu:∀f M,find C.muts f=some M->qo0 P f M:=by(intro _ _ h; cases h)) (hbl:∀f B,find C.blds f=some B->q3f P f B:=by(intro _ _ h; cases h)) (hbx:∀f B,find C.bxs f=some B->q3g P f B:=by(intro _ _ h; cases h)):SoundAt P C m0:=⟨ht,h,hm,hi,hy,hmu,hbl,hbx⟩
theorem qb5 {x:Int} (h1:-9223372036854775808<=x) (h2:x<=9223372036854775807):fits .i64 x:=by
 unfold fits IntKind.wrap
 simp[IntKind.signed,IntKind.bits]
 omega
theorem qd1 {A B:Prop} (e:A=B) (h:B):A:=e ▸ h
end Eng
set_option linter.unusedVariables false
set_option linter.unusedSimpArgs false
namespace Eng
open Go Go.RowKit
def q3l:(ts:List Ty)->AV->(qa4 ts->Prop)->Prop
 | [],c,k=>match c with
  | .nil=>k ()
  | _=>False
 | t :: r,c,k=>match c with
  | .cons a rest=>match a with
   | .imm cs off=>match off with
    | 0=>qg8 t cs λx z=>match z with
     | .nil=>q3l r rest λy=>k (x,y)
     | _=>False
    | _+1=>False
   | _=>False
  | _=>False
def q2r:(ts:List Ty)->qa4 ts->Nat->List (Nat × AV)
 | [],_,_=>[]
 | t :: r,x,i=>(i,.imm (qj5 t x.1 .nil) 0) :: q2r r x.2 (i+1)
def wx7 (caps outs:List Ty) (pre:qa4 caps->Prop) (gen:qa4 caps->List (qa4 outs)) (lend:Option Nat:=.none):qw4:=⟨outs,λc K=>q3l caps c λx=>need (pre x) λ_=>K (gen x),lend⟩
def q0d (caps outs:List Ty) (slots:List Nat) (x:qa4 caps) (L:List (qa4 outs)) (l:Nat) (lend:Option Nat:=.none):qh2:=⟨outs,L,l,slots,(0,.lit (.func (.yield l) #[] #[])) :: q2r caps x 1,lend⟩
def Ctx.say (C:Ctx) (Y:qh2):Ctx:={ specs:=C.specs,tys:=C.tys,wr:=C.wr,nm:=C.nm,its:=C.its,yl:=some Y,muts:=C.muts,mats:=C.mats,em:=C.em,blds:=C.blds,bxs:=C.bxs }
def yb7 (Y:qh2) (e:XK) (s:St):Prop:=match e with
 | .exit _=>False
 | _=>match qa3 s.mem 0 with
  | .cnt k=>match k with
   | some k=>k=Y.L.length
   | .none=>True
  | _=>False
def yVC (C:Ctx) (iv:Nat->Option Inv) (c:Code) (Y:qh2):Prop:=vc (C.say Y) iv c 0 (yb7 Y) ⟨Y.fix,λ_=>.any,[.cnt (some 0)]⟩
section
variable {P : Program} {C : Ctx}
theorem q03:∀(t:Ty) (x:t.den) (r:AV),r.strip=r->(qj5 t x r).strip=qj5 t x r
 | .int _,_,r,h=>by simp only[qj5,AV.strip,h]
 | .bool,_,r,h=>by simp only[qj5,AV.strip,h]
 | .str,_,r,h=>by simp only[qj5,AV.strip,h]
 | .list _,_,r,h=>by simp only[qj5,AV.strip,h]
 | .nlist _,_,r,h=>by simp only[qj5,AV.strip,h]
 | .prod a b,x,r,h=>q03 a x.1 _ (q03 b x.2 r h)
theorem qz4:∀(ts:List Ty) (x:qa4 ts) (i:Nat),∀p∈q2r ts x i,p.2.strip=p.2
 | [],_,_,p,hp=>by cases hp
 | t :: r,x,i,p,hp=>by
  rcases List.mem_cons.1 hp with rfl | hp
  ·show AV.imm (qj5 t x.1 .nil).strip 0=AV.imm (qj5 t x.1 .nil) 0
   rw[q03 t x.1 .nil rfl]
  ·exact qz4 r x.2 (i+1) p hp
theorem q2s {m:View}:∀{ts:List Ty} {c:AV} {k:qa4 ts->Prop} {cs:List Value},q3l ts c k->c.ok P m [] cs->∃x,k x/\cs.length=ts.length/\∀i,∀p∈q2r ts x i,i<=p.1/\∃v,cs[p.1-i]? = some v/\p.2.ok P m [] [v]
 | [],c,k,cs,h,hc=>by
  simp only[q3l] at h
  split at h
  ·obtain rfl:cs=[]:=hc
   exact⟨(),h,rfl,λi p hp=>by cases hp⟩
  ·exact h.elim
 | t :: r,c,k,cs,h,hc=>by
  simp only[q3l] at h
  split at h
  case h_2=>exact h.elim
  rename_i a rest
  obtain⟨u,us,rfl,h1,h2⟩:=hc
  split at h
  case h_2=>exact h.elim
  rename_i cells off
  split at h
  case h_2=>exact h.elim
  obtain⟨ad,vs,e1,e2,e3⟩:=h1
  obtain⟨x,z,u1,v1,e4,e5,e6,e7⟩:=qw3 h e2
  split at e7
  case h_2=>exact e7.elim
  obtain rfl:v1=[]:=e6
  rw[List.append_nil] at e4
  subst e4
  obtain⟨y,k1,k2,k3⟩:=q2s e7 h2
  refine⟨(x,y),k1,by simp[k2],λi p hp=>?_⟩
  rcases List.mem_cons.1 hp with rfl | hp
  ·refine⟨Nat.le_refl _,u,by simp,ad,vs,e1,?_,e3⟩
   have:=qw2 (P:=P) (ρ:=[]) (r:=.nil) (v:=[]) e5 rfl
   rw[List.append_nil] at this
   exact this
  ·obtain⟨j1,v,j2,j3⟩:=k3 (i+1) p hp
   refine⟨by omega,v,?_,j3⟩
   rw[show p.1-i=(p.1-(i+1))+1 by omega]
   simpa using j2
theorem says (hS : Sound P C) {F : Nat} {fn : Func} {c : Code} (hf : P.funcs[F]? = some fn) (hname : (fn.name == "runtime.NumGoroutine") = false) (hb : fn.body = some c) (hres : fn.results = #[]) {caps outs : List Ty} {pre : qa4 caps -> Prop} {gen : qa4 caps -> List (qa4 outs)} {lend : Option Nat} (slots : List Nat) (iv : qa4 caps -> Nat -> Option Inv)
  (hd:∀x,(qq1 (iv x) c 0).all (λd=>match Nat.blt d fn.ntmps with
   | true=>Nat.blt caps.length d
   | false=>false)=true) (hn:caps.length+1<=fn.ntmps) (h:∀x l,pre x->yVC C (iv x) c (q0d caps outs slots x (gen x) l lend)):qu0 P F (wx7 caps outs pre gen lend):=by
 refine⟨⟨fn,c,hf,hname,hb⟩,λm cp cs K hcm hok hrun=>?_⟩
 have hcm:Cells m:=hcm
 obtain⟨x,⟨hp,hK⟩,hclen,hfix⟩:=q2s hrun hok
 refine⟨gen x,hK,?_⟩
 intro l J Jx W0 D0 hJs hJxs hJb hJxb hY hm h0
 have hvc:=h x l hp
 obtain⟨Y,hYe⟩:∃Y,Y=q0d caps outs slots x (gen x) l lend:=⟨_,rfl⟩
 rw[<- hYe] at hvc
 have hSY:Sound P (C.say Y):=⟨hS.tys,hS.specs,hS.mixed,hS.its,λY' e p hp=>by
  injection e with e
  subst e
  rw[hYe] at hp
  rcases List.mem_cons.1 hp with rfl | hp
  ·rfl
  ·exact qz4 _ _ _ p hp,hS.muts,hS.blds,hS.bxs⟩
 let args:List Value:=.func (.yield l) #[] #[] :: cs
 let NF:Frm:=⟨fn.ntmps,args.zipIdx.map λp=>(p.2,p.1)⟩
 let T:Base->Prop:=λZ=>∃k D,Z.ρ=[.int .i64 (code k)]/\Z.n=W0.heap.size/\(∀b,D b->Z.F b)/\match k with
  | some k=>J k D Z.W
  | none=>Jx D Z.W
 let R:Ending->World->Prop:=λe W'=>(∃v,e=.returned v)/\((∃D,J (gen x).length D W')\/∃D,Jx D W')
 have hsame:∀{Z:Base} {D:Nat->Prop} {W:World},(∀b,D b->Z.F b)->Z.ok W->Same D Z.W W:=λhD hZ=>⟨hZ.os,hZ.tape,hZ.output,hZ.grows,λb hb=>(hZ.kept b (hD b hb)).2⟩
 have hYO:YOk P T m NF Y []:=by
  refine⟨λp hp a ha=>?_,λZ ⟨k,D,h1,_⟩=>⟨k,h1⟩,?_,?_⟩
  ·have hget:∀i v,args[i]? = some v->a.tmps.getD i undef=v:=λi v hv=>ha.2 (i,v) (List.mem_map.2 ⟨(v,i),List.mk_mem_zipIdx_iff_getElem?.2 hv,rfl⟩)
   rw[hYe] at hp
   rcases List.mem_cons.1 hp with rfl | hp
   ·rw[hget 0 _ rfl]; rfl
   ·obtain⟨j1,v,j2,j3⟩:=hfix 1 p hp
    rw[hget p.1 v (by rw[show p.1=(p.1-1)+1 by omega]; simpa[args] using j2)]
    exact j3
  ·rintro Z W' F' h ⟨k,D,h1,h2,h3,h4⟩ hok hF
   refine⟨k,D,h1,h2,λb hb=>hF b (h3 b hb),?_⟩
   cases k with
   | some k=>exact hJs _ _ _ _ h4 (hsame h3 hok)
   | none=>exact hJxs _ _ _ h4 (hsame h3 hok)
  ·rintro Z k W mx d vs B ⟨k',D,hk',hZn,hDF,hJ⟩ hk hZ hmx hcx hmd hd' hargs hlent hB
   obtain rfl:k'=some k:=by
    rw[hk] at hk'
    injection hk' with e
    injection e with _ e
    exact(code_inj e).symm
   have hJ:J k D Z.W:=hJ
   have hJW:=hJs _ _ _ _ hJ (hsame hDF hZ)
   subst hYe
   obtain⟨fn1,t1,as1,bd1,y1,y2⟩:=(hY k D W d mx vs B hJW hd' hmx (λb o hb=>⟨hcx b o hb,(hmd b o hb).imp id λ⟨q1,q2⟩=>⟨by rw[<- hZn]; exact q1,λq=>q2 (hDF b q)⟩⟩) hargs hlent λb hb=>⟨by rw[<- hZn]; exact(hB b hb).1,(hB b hb).2.1,λq=>(hB b hb).2.2.1 (hDF b q),(hB b hb).2.2.2⟩)
   refine⟨fn1,t1,as1,bd1,y1,RoundIn.mono y2 ?_⟩
   rintro e W' ⟨hkp,hmW,hlw,hcase⟩
   refine⟨⟨hkp.os,hkp.tape,hkp.output⟩,hmW,hkp.size,hlw,λb hb hF _ hnB=>hkp.block b ⟨hb,λq=>q.elim (λq=>hF (hDF b q)) hnB⟩,?_⟩
   rcases hcase with⟨rfl,D',hD',hJ'⟩ | ⟨rfl,D',hD',hJ'⟩
   ·refine⟨true,rfl,λO hn' hO=>⟨some (k+1),D',rfl,hZn,λb hb=>⟨hJb _ _ _ hJ' b hb,λho=>?_⟩,hJ'⟩⟩
    obtain⟨o1,o2,o3⟩:=hO b ho
    rcases hD' b hb with q | q | q
    ·exact o2 (hDF b q)
    ·omega
    ·exact q o3
   ·refine⟨false,rfl,λO hn' hO=>⟨none,D',rfl,hZn,λb hb=>⟨hJxb _ _ hJ' b hb,λho=>?_⟩,hJ'⟩⟩
    obtain⟨o1,o2,o3⟩:=hO b ho
    rcases hD' b hb with q | q | q
    ·exact o2 (hDF b q)
    ·omega
    ·exact q o3
 have hCls:Cls P (C.say Y) T m NF none 0:=⟨λZ Z' ⟨k,D,h1,_⟩ ⟨k',D',h1',_⟩ g v hv hp=>by
  rw[h1] at hv
  cases g with
  | zero=>exact⟨_,by rw[h1']; rfl,rfl⟩
  | succ g=>simp at hv,λY' e=>by injection e with e; subst e; exact⟨[],hYO⟩⟩
 have hlen:args.toArray.size=caps.length+1:=by simp[args,hclen]
 have hwp:c.wpIn (fz none) 0 P (bodyPostM (fz none) 0 P fn R) { tmps:=args.toArray++Array.replicate (fn.ntmps-args.toArray.size) undef,defers:=[] } W0:=by
  have hN:NF.has { tmps:=args.toArray++Array.replicate (fn.ntmps-args.toArray.size) undef,defers:=[] }:=by
   refine⟨by simp only[Array.size_append,Array.size_replicate]; show _=fn.ntmps; omega,λp hp=>?_⟩
   obtain⟨⟨v,i⟩,hq,rfl⟩:=List.mem_map.1 hp
   have hv:=List.mk_mem_zipIdx_iff_getElem?.1 hq
   show(args.toArray++_).getD i undef=v
   have hi:i<args.length:=(List.getElem?_eq_some_iff.1 hv).1
   rw[Array.getD_eq_getD_getElem?,Array.getElem?_append_left (by simpa using hi)]
   simp[hv]
  let Z0:Base:=⟨W0.heap.size,W0,λb=>b<W0.heap.size,Nat.le_refl _,[.int .i64 (code (some 0))]⟩
  have hT0:T Z0:=⟨some 0,D0,rfl,rfl,λb hb=>hJb _ _ _ h0 b hb,h0⟩
  refine w8a (N:=NF) c T m (hSY.at _) none 0 hCls hcm.eq (.inr rfl) 0 _ ⟨Y.fix,λ_=>.any,[.cnt (some 0)]⟩ _ W0 _ (λd hdd=>?_) ⟨Z0,hT0,hN,m,[.int .i64 (code (some 0))],?_⟩ hvc ?_
  ·have:=List.all_eq_true.1 (hd x) d hdd
   split at this
   ·rename_i hb1
    refine⟨?_,λp hp e=>?_⟩
    ·simp only[Nat.blt,Nat.ble_eq] at hb1; exact hb1
    ·simp only[Nat.blt,Nat.ble_eq] at this
     obtain⟨⟨v,i⟩,hq,rfl⟩:=List.mem_map.1 hp
     have hv:=List.mk_mem_zipIdx_iff_getElem?.1 hq
     have hi:i<args.length:=(List.getElem?_eq_some_iff.1 hv).1
     have e:i=d:=e
     simp[args,hclen] at hi
     omega
   ·cases this
  ·refine⟨λi=>?_,rfl,by simp[Value.oneCell'],trivial,λg=>?_,λg g' v v' b hne l1 l2 u1 u2 b1 b2=>?_,hm,View.le_refl m,λb o hb=>.inl hb,⟨rfl,rfl,rfl,Nat.le_refl _,λb hb=>⟨hb,rfl⟩⟩,λg v b l1 u1 b1=>?_,λg v hv _=>hv⟩
   ·show(look Y.fix i .any).ok P m _ _
    rcases qs8 (i:=i) (d:=.any) (l:=Y.fix) with⟨e,_⟩ | e
    ·rw[e]; exact⟨_,rfl⟩
    ·exact AV.ok_le (View.le_refl m) qm9 (hYO.fix _ e _ hN)
   ·cases g with
    | zero=>rfl
    | succ g=>cases g <;> trivial
   ·cases g with
    | zero=>simp only[List.getElem?_cons_zero,Option.some.injEq] at u1; subst u1; cases b1
    | succ g=>simp at u1
   ·cases g with
    | zero=>simp only[List.getElem?_cons_zero,Option.some.injEq] at u1; subst u1; cases b1
    | succ g=>simp at u1
  ·rintro e s' a' w' hend _ ⟨Z,⟨k,D,hk,hZn,hDF,hJ⟩,_,m1,ρ1,hr1⟩
   have hr1:=hr1.cells
   rw[hcm.eq] at hr1
   have hend':match qa3 s'.mem 0 with
     | .cnt k=>match k with
      | some k=>k=Y.L.length
      | .none=>True
     | _=>False:=by cases e <;> first | exact hend | exact hend.elim
   have hout:∀W,Z.ok W->R (.returned (pack [])) W:=by
    intro W hW
    refine⟨⟨_,rfl⟩,?_⟩
    have ho:=hr1.objs 0
    revert hend' ho
    cases qa3 s'.mem 0 <;> intro hend' ho <;> first | exact hend'.elim | skip
    rename_i ko
    have hp:=hr1.pins 0 (.int .i64 (code k)) (by rw[hk]; rfl) rfl
    have ho:ρ1[0]? = some (.int .i64 (code ko)):=ho
    rw[hp] at ho
    injection ho with ho
    injection ho with _ ho
    obtain rfl:=code_inj ho
    cases k with
    | none=>exact .inr ⟨D,hJxs _ _ _ hJ (hsame hDF hW)⟩
    | some k=>
     have hkl:k=Y.L.length:=hend'
     subst hYe
     exact .inl ⟨D,by have:=hJs _ _ _ _ hJ (hsame hDF hW); rw[hkl] at this; exact this⟩
   have post:LeavesInM (fz none) 0 P fn a'.tmps R a'.defers .returning w':=by
    refine qn9 (Z:=Z) (λW=>∃m' ρ',Rel P Z m s' m' ρ' ⟨a'.tmps,[]⟩ W/\Cells m') (λW Dm ⟨m',ρ',hr,hc⟩ hD1 hD2 hD3=>?_) (λW ⟨m',ρ',hr,hc⟩=>?_) a'.defers w' hr1.defers ⟨m1.cells,ρ1,?_,Cells.of⟩
    ·refine⟨m',ρ',hr.shake hc (grownBy_putObj' W Dm _) (λr e=>?_) trivial,hc⟩
     obtain rfl:=Option.some.inj e
     exact⟨λo ho h=>(by rw[hD3] at h; obtain rfl:=Option.some.inj h; exact ho),hD2⟩
    ·exact⟨pack [],qu2 (vs:=[]) (by rw[hres]; rfl),hout W hr.below⟩
    ·exact hr1.shake Cells.of (row:=none) ⟨rfl,rfl,rfl,Nat.le_refl _,λ_ _ _=>rfl⟩ (λr e=>by cases e) trivial
   cases e <;> first | exact post | exact hend.elim
 have:=callsIn_of_wp_marks (F:=Fence.wide) (n:=0) hf hb trivial hwp
 have e:args.toArray=#[Value.func (.yield l) #[] #[]]++cs.toArray:=by simp[args]
 rw[<- e]
 exact this
end
def ItsOk (P:Program) (its:List (Nat × qw4)):Prop:=∀F S,find its F=some S->qu0 P F S
theorem ItsOk.nil (P:Program):ItsOk P []:=λf S h=>by cases h
theorem ItsOk.cons {P:Program} {f:Nat} {S:qw4} {l:List (Nat × qw4)} (h:qu0 P f S) (k:ItsOk P l):ItsOk P ((f,S) :: l):=by
 intro f' S' e
 simp only[find] at e
 split at e
 ·rename_i hb
  have hb:=Nat.eq_of_beq_eq_true hb
  subst hb
  obtain rfl:=Option.some.inj e
  exact h
 ·exact k f' S' e
end Eng
set_option linter.unusedVariables false
set_option linter.unusedSimpArgs false
namespace Eng
open Go Go.RowKit
section
variable {P : Program} {C : Ctx}
theorem wx8 {m:View} {ρ:List Value}:∀{t:Ty} {x:t.den} {r:AV} {vs:List Value},(qj5 t x r).ok P m ρ vs->∃u v,vs=u++v/\Rd m t x u/\r.ok P m ρ v:=by
 intro t
 induction t with
 | int k=>intro x r vs h; obtain⟨v,rest,rfl,h1,h2⟩:=h; exact⟨[v],rest,rfl,h1,h2⟩
 | bool=>intro x r vs h; obtain⟨v,rest,rfl,h1,h2⟩:=h; exact⟨[v],rest,rfl,h1,h2⟩
 | str=>intro x r vs h; obtain⟨v,rest,rfl,h1,h2⟩:=h; exact⟨[v],rest,rfl,h1,h2⟩
 | list t _=>intro x r vs h; obtain⟨v,rest,rfl,h1,h2⟩:=h; exact⟨[v],rest,rfl,h1,h2⟩
 | nlist t _=>intro x r vs h; obtain⟨v,rest,rfl,h1,h2⟩:=h; exact⟨[v],rest,rfl,h1,h2⟩
 | prod a b iha ihb=>
  intro x r vs h
  obtain⟨u,v,rfl,h1,h2⟩:=iha h
  obtain⟨u',v',rfl,h3,h4⟩:=ihb h2
  exact⟨u++u',v',by simp,⟨u,u',rfl,h1,h3⟩,h4⟩
theorem w8e {m:View} {ρ:List Value} {t:Ty} {x:t.den} {v:Value} (h:(q8q t x).ok P m ρ [v]):RdV m t x v:=by
 cases t with
 | int k=>exact(List.cons.inj (show[v]=[_] from h)).1
 | bool=>exact(List.cons.inj (show[v]=[_] from h)).1
 | str=>exact(List.cons.inj (show[v]=[_] from h)).1
 | list t=>exact h
 | nlist t=>exact h
 | prod a b=>
  obtain⟨cs,e,h1⟩:=h
  obtain⟨u,w,rfl,h2,h3⟩:=wx8 (t:=.prod a b) h1
  obtain rfl:w=[]:=h3
  exact⟨u,by rw[(List.cons.inj e).1]; simp,h2⟩
def fnK (fs:List (Nat × qb7)) (ats:List Ty) (r:Ty) (v:AV) (p:qa4 ats->Prop) (f:qa4 ats->r.den):Prop:=match v with
 | .fn ats' r' p' f'=>ats'=ats/\r'=r/\HEq p' p/\HEq f' f
 | .clo F caps=>withSome (find fs F) λS=>match S.fresh,S.own with
  | true,.none=>∀x,p x->w6h (qh1 ats x) caps λargs=>S.run args λy=>AV.le .none y (q8q r (f x))
  | _,_=>False
 | _=>False
theorem w8f {fs:List (Nat × qb7)} (hfs:SpecsOk P fs) {ats:List Ty} {r:Ty} {v:AV} {p:qa4 ats->Prop} {f:qa4 ats->r.den} {m:View} {fv:Value} (h:fnK fs ats r v p f) (hv:v.ok P m [] [fv]):IsFn P m ats r p f fv:=by
 unfold fnK at h
 split at h
 ·obtain⟨rfl,rfl,h1,h2⟩:=h
  obtain rfl:=eq_of_heq h1
  obtain rfl:=eq_of_heq h2
  obtain⟨fv',e,k⟩:=hv
  rw[(List.cons.inj e).1]; exact k
 ·rename_i F caps
  obtain⟨S,hS,h⟩:=withSome_iff.1 h
  split at h
  case h_2=>exact h.elim
  rename_i hfr hown
  obtain⟨cs,e,hcs⟩:=hv
  obtain⟨hcl,hM⟩:=hfs F S hS
  refine⟨F,cs.toArray,(List.cons.inj e).1,hcl,λw m' x vs hmm hon hp hx=>?_⟩
  obtain⟨z,k1,k2⟩:=w68 (h x hp) (q0h hx).1 (AV.ok_cle hmm (λ_ _ h _=>h) hcs)
  have:=hM w m' z _ _ hon k2 k1
  rw[hfr] at this
  have e2:(vs++cs).toArray=vs.toArray++cs.toArray:=by simp
  rw[e2] at this
  refine this.mono λe w' ⟨u,m2,e1,e2,e3,e4,e5⟩=>⟨u,e1,e2,?_⟩
  unfold w4d at e5
  rw[hown] at e5
  obtain⟨y,y1,y2⟩:=e5
  have h3:=w8e (q4n Born.none y1 y2)
  refine xs0 (λb o hb=>?_) h3
  unfold View.from
  rw[if_pos (e4 b o hb)]
  exact e3 b o hb
 ·exact h.elim
inductive PTy where
 | d (t:Ty)
 | cap (t:Ty)
 | fn (ats:List Ty) (r:Ty)
 | capfn (ats:List Ty) (r:Ty)
@[reducible] def PTy.den:PTy->Type
 | .d t=>t.den
 | .cap t=>t.den
 | .fn ats r=>(qa4 ats->Prop) × (qa4 ats->r.den)
 | .capfn ats r=>(qa4 ats->Prop) × (qa4 ats->r.den)
@[reducible] def q8s:List PTy->Type
 | []=>Unit
 | q :: r=>q.den × q8s r
def w41 (v:AV) (k:AV->Prop):Prop:=match v with
 | .imm cs off=>match off with
  | 0=>k cs
  | _+1=>False
 | _=>False
def oneCell (v:AV) (k:AV->Prop):Prop:=match v with
 | .cons a r=>match r with
  | .nil=>k a
  | _=>False
 | _=>False
def xz9 (fs:List (Nat × qb7)):(q:PTy)->AV->(q.den->Prop)->Prop
 | .d t,v,k=>takeA t v k
 | .cap t,v,k=>w41 v λcs=>qg8 t cs λx z=>match z with
  | .nil=>k x
  | _=>False
 | .fn ats r,v,k=>∃p f,fnK fs ats r v p f/\k (p,f)
 | .capfn ats r,v,k=>w41 v λcs=>oneCell cs λa=>∃p f,fnK fs ats r a p f/\k (p,f)
def q9l (fs:List (Nat × qb7)):(qs:List PTy)->AV->(q8s qs->Prop)->Prop
 | [],c,k=>match c with
  | .nil=>k ()
  | _=>False
 | q :: r,c,k=>match c with
  | .cons v rest=>xz9 fs q v λx=>q9l fs r rest λy=>k (x,y)
  | _=>False
def x3i:(q:PTy)->q.den->AV
 | .d t,x=>q8q t x
 | .cap t,x=>.imm (qj5 t x .nil) 0
 | .fn ats r,x=>.fn ats r x.1 x.2
 | .capfn ats r,x=>.imm (.cons (.fn ats r x.1 x.2) .nil) 0
def w13:(qs:List PTy)->q8s qs->Nat->AV
 | [],_,_=>.any
 | q :: _,x,0=>x3i q x.1
 | _ :: r,x,i+1=>w13 r x.2 i
theorem wn6 (v:AV):Det (w41 v):=by
 unfold w41
 split
 ·split
  ·exact qb3 _
  ·exact qa5
 ·exact qa5
theorem wx9 (v:AV):Det (oneCell v):=by
 unfold oneCell
 split
 ·split
  ·exact qb3 _
  ·exact qa5
 ·exact qa5
theorem w8g (fs:List (Nat × qb7)) (q:PTy) (v:AV):Det (xz9 fs q v):=by
 cases q with
 | d t=>exact q6t t v
 | cap t=>
  refine λk H=>(qd7 (wn6 v) λcs=>qk1 (f:=λx z k=>match z with
   | .nil=>k x
   | _=>False) λx z=>?_) k H
  split
  ·exact qb3 x
  ·exact qa5
 | fn ats r=>exact λk ⟨p,f,h1,h2⟩=>⟨(p,f),h2,λk' hk=>⟨p,f,h1,hk⟩⟩
 | capfn ats r=>
  exact λk H=>(qd7 (wn6 v) λcs=>qd7 (wx9 cs) λa=>λk ⟨p,f,h1,h2⟩=>⟨(p,f),h2,λk' hk=>⟨p,f,h1,hk⟩⟩) k H
theorem q9m (fs:List (Nat × qb7)):∀(qs:List PTy) (c:AV),Det (q9l fs qs c)
 | [],c=>by cases c <;> first | exact qa5 | exact qb3 ()
 | q :: r,c=>by
  cases c <;> first
   | exact qa5
   | exact λk H=>(qd7 (w8g fs q _) λx=>qd7 (q9m fs r _) λy=>qb3 (x,y)) k H
def wn7 (fs:List (Nat × qb7)) (qs:List PTy):ArgK:=⟨q8s qs,q9l fs qs,w13 qs,qs.length,q9m fs qs⟩
theorem w14 {m:View} {v:AV} {k:AV->Prop} {u:Value} (h:w41 v k) (hv:v.ok P m [] [u]):∃(cs:AV) (ad:Addr) (us:List Value),k cs/\u=.pointer (some ad)/\cs.ok P m [] us/\∀j x,us[j]? = some x->m.cell (ad.add j)=some x:=by
 unfold w41 at h
 split at h
 ·rename_i cs off
  split at h
  ·obtain⟨ad,us,k1,k2,k3⟩:=hv
   refine⟨cs,ad,us,h,?_,k2,k3⟩
   rw[(List.cons.inj k1).1]
   congr 2
  ·exact h.elim
 ·exact h.elim
theorem xj9 {fs:List (Nat × qb7)} (hfs:SpecsOk P fs) {m:View} {q:PTy} {v:AV} {k:q.den->Prop} {u:Value} (h:xz9 fs q v k) (hv:v.ok P m [] [u]):∃x,k x/\(x3i q x).ok P m [] [u]:=by
 have box:∀{ad:Addr} {us:List Value} {cs:AV},u=.pointer (some ad)->cs.ok P m [] us->(∀j x,us[j]? = some x->m.cell (ad.add j)=some x)->(AV.imm cs 0).ok P m [] [u]:=λ{ad us cs} e h1 h2=>by
  refine⟨ad,us,?_,h1,h2⟩
  rw[e]
  congr 3
 cases q with
 | d t=>
  obtain⟨x,k1,k2⟩:=q5w h hv
  exact⟨x,k2,wb0 k1⟩
 | cap t=>
  obtain⟨cs,ad,us,h1,e,h2,h3⟩:=w14 h hv
  obtain⟨x,z,us1,vs1,e1,k1,k2,k3⟩:=qw3 h1 h2
  cases z <;> first | exact k3.elim | skip
  obtain rfl:vs1=[]:=k2
  have hfl:=qw2 (P:=P) (ρ:=[]) (r:=.nil) (v:=[]) k1 rfl
  rw[<- e1] at hfl
  exact⟨x,k3,box e hfl h3⟩
 | fn ats r=>
  obtain⟨p,f,h1,h2⟩:=h
  exact⟨(p,f),h2,u,rfl,w8f hfs h1 hv⟩
 | capfn ats r=>
  obtain⟨cs,ad,us,h1,e,h2,h3⟩:=w14 h hv
  unfold oneCell at h1
  split at h1
  ·rename_i a z
   split at h1
   ·obtain⟨p,f,h4,h5⟩:=h1
    obtain⟨y,rest,rfl,j1,j2⟩:=h2
    obtain rfl:rest=[]:=j2
    exact⟨(p,f),h5,box e (cs:=.cons (.fn ats r p f) .nil) ⟨y,[],rfl,⟨y,rfl,w8f hfs h4 j1⟩,rfl⟩ h3⟩
   ·exact h1.elim
  ·exact h1.elim
theorem wn8 {fs:List (Nat × qb7)} (hfs:SpecsOk P fs) {m:View}:∀{qs:List PTy} {c:AV} {k:q8s qs->Prop} {vs:List Value},q9l fs qs c k->c.ok P m [] vs->∃x,k x/\vs.length=qs.length/\∀i,(w13 qs x i).ok P m [] [vs.getD i undef]
 | [],c,k,vs,h,hc=>by
  simp only[q9l] at h
  split at h
  ·obtain rfl:vs=[]:=hc
   exact⟨(),h,rfl,λi=>⟨_,rfl⟩⟩
  ·exact h.elim
 | q :: r,c,k,vs,h,hc=>by
  simp only[q9l] at h
  split at h
  ·rename_i v rest
   obtain⟨u,us,rfl,h1,h2⟩:=hc
   obtain⟨x,k1,k2⟩:=xj9 hfs h h1
   obtain⟨y,k3,k4,k5⟩:=wn8 hfs k1 h2
   refine⟨(x,y),k3,by simp[k4],λi=>?_⟩
   cases i with
   | zero=>exact k2
   | succ i=>simpa[w13] using k5 i
  ·exact h.elim
theorem q3m {fs:List (Nat × qb7)} (hfs:SpecsOk P fs) (qs:List PTy):(wn7 fs qs).Ok P:=⟨λh hc=>wn8 hfs h hc⟩
def hspec (fs:List (Nat × qb7)) (fresh:Bool) (own:Option Nat) (ins:List PTy) (outs:List Ty) (pre:q8s ins->Prop) (f:q8s ins->qa4 outs):qb7:=q8r (wn7 fs ins) fresh own .none pre λx=>qn3 (qh1 outs (f x))
theorem qm7 {fs : List (Nat × qb7)} (hfs : SpecsOk P fs) (hS : Sound P C) {f : Nat} {fn : Func} {c : Code} (hf : P.funcs[f]? = some fn) (hname : (fn.name == "runtime.NumGoroutine") = false) (hb : fn.body = some c) {fresh : Bool} {own : Option Nat} {ins : List PTy} {outs : List Ty} {pre : q8s ins -> Prop} {g : q8s ins -> qa4 outs} (iv : q8s ins -> Nat -> Option Inv)
  (hd:∀x,(qq1 (iv x) c 0).all (λd=>Nat.blt d fn.ntmps)=true) (hn:ins.length<=fn.ntmps) (h:∀x,pre x->xVC C (iv x) (wn7 fs ins) fresh own .none c fn.results.toList x (qn3 (qh1 outs (g x)))) (hyl:C.yl=none:=by rfl):Meets P f (hspec fs fresh own ins outs pre g):=
 q9k (A:=wn7 fs ins) hS hf hname hb (q3m hfs ins) iv hd hn h hyl
theorem q04 (hS : Sound P C) {f : Nat} {fn : Func} {c : Code} (hf : P.funcs[f]? = some fn) (hname : (fn.name == "runtime.NumGoroutine") = false) (hb : fn.body = some c) {A : ArgK} (hA : A.Ok P) {deep self : Bool} {eh e : Nat} {t : Ty} {pre : List (List t.den) -> A.X -> Prop} {r : List (List t.den) -> A.X -> AV} {g : List (List t.den) -> A.X -> List (List t.den)}
  (iv:q5k->List (List t.den)->A.X->Nat->Option Inv) (hd:∀T rows x,(qq1 (iv T rows x) c 0).all (λd=>Nat.blt d fn.ntmps)=true) (hn:A.n+1<=fn.ntmps)
  (h:∀T rows x,pre rows x->(deep=false->rows.length=1)->mVC C (iv T rows x) A deep self eh e t T c fn.results.toList rows x (r rows x) (g rows x)) (hft:Ty.flat t=true) (hyl:C.yl=none:=by rfl):qo0 P f (q5q A deep self eh e t pre r g):=by
 refine⟨⟨fn,c,hf,hname,hb⟩,λw m hs rows args vs k hm hpool hargs hrun hone=>?_⟩
 obtain⟨x,⟨hp,hk⟩,hlen,hslots⟩:=hA.ok hrun hargs
 have hone:deep=false->@List.length (List t.den) rows=1:=hone
 have hvc:=h ⟨hs⟩ rows x hp hone
 have hpool:PoolOk m w 0 eh e t rows (qn1 deep) hs:=hpool
 have hlt:q3c deep<hs.length:=by
  have h1:=hpool.len
  cases deep with
  | true=>show 0<_; omega
  | false=>have:=hone rfl; show 1<_; omega
 obtain⟨u0,hu0⟩:∃u0,hs.getD (q3c deep) undef=u0:=⟨_,rfl⟩
 have hat:hs[q3c deep]? = some u0:=by
  rw[<- hu0,List.getD_eq_getElem?_getD,List.getElem?_eq_getElem hlt]; rfl
 show Calls P f ((hs.getD (q3c deep) undef) :: vs).toArray w _
 rw[hu0]
 have hu0sl:xe7 u0=true:=by
  obtain⟨_,_,_,_,ho⟩:=hpool.each (List.mem_of_getElem? hat)
  exact q2c ho
 obtain⟨us,hus⟩:∃us,us=u0 :: vs:=⟨_,rfl⟩
 rw[<- hus]
 have hul:us.length=A.n+1:=by rw[hus]; simp[hlen]
 let R:Ending->World->Prop:=λe' w'=>∃v m' r' rows' hs',e'=.returned v/\Kept (Blk (qg4 hs)) w w'/\m'.on w'/\(∀b o,m' b=some o->w.heap.size<=b)/\q83 (some ⟨hs⟩) hs'/\PoolOk (λ_=>none) w' 0 eh e t rows' (qn1 deep) hs'/\k r' rows'/\(match self with
  | true=>v=u0
  | false=>r'.ok P m' [] [v])
 let Z:Base:=⟨0,w,λb=>b<w.heap.size/\¬Blk (qg4 hs) b,Nat.zero_le _,[]⟩
 have hZk:∀W,Z.ok W->Kept (Blk (qg4 hs)) w W:=λW hW=>⟨hW.os,hW.tape,hW.output,hW.grows,λb hb=>(hW.kept b hb).2⟩
 have hwp:c.wpIn (fz none) 0 P (bodyPostM (fz none) 0 P fn R) { tmps:=us.toArray++Array.replicate (fn.ntmps-us.toArray.size) undef,defers:=[] } w:=by
  have hN:(us.toArray++Array.replicate (fn.ntmps-us.toArray.size) undef).size=fn.ntmps:=by
   have h1:us.toArray.size=A.n+1:=by simpa using hul
   rw[Array.size_append,Array.size_replicate,h1]
   omega
  refine w8a (N:=⟨fn.ntmps,[]⟩) c (λZ'=>Z'=Z) m.cells (hS.at _) none 0 (Cls.one hyl _ _ _) (Cells.of).eq (.inr rfl) 0 _ ⟨[],xj6 A deep x,[.mat eh e t rows (qn1 deep) (some ⟨hs⟩)]⟩ _ w _ (λd hdd=>⟨?_,by simp⟩) ⟨_,rfl,⟨hN,by simp⟩,m.cells,[qg4 hs],Rel.cells (m0:=m) (m:=m) ?_⟩ hvc ?_
  ·have:=List.all_eq_true.1 (hd ⟨hs⟩ rows x) d hdd
   simp[Nat.blt] at this
   show d<fn.ntmps
   omega
  ·refine⟨λi=>?_,rfl,?_,trivial,λg=>?_,(λg g' v v' b hne hl hl' _ _ _ _=>?_),hm,View.le_refl m,λb o hb=>Or.inl hb,⟨rfl,rfl,rfl,Nat.le_refl _,λb hb=>⟨hb.1,rfl⟩⟩,(λg v b hl hv hb=>?_),(λg p hp=>by cases hp)⟩
   ·show(xj6 A deep x i).ok P m [qg4 hs] _
    have:(us.toArray++Array.replicate (fn.ntmps-us.toArray.size) undef).getD i undef=us.getD i undef:=by
     rw[Array.getD_eq_getD_getElem?,List.getD_eq_getElem?_getD]
     rcases Nat.lt_or_ge i us.length with hlt | hge
     ·simp[Array.getElem?_append,hlt]
     ·rw[Array.getElem?_append_right (by simpa using hge),List.getElem?_eq_none hge]
      simp[Array.getElem?_replicate]
      split <;> rfl
    show(xj6 A deep x i).ok P m [qg4 hs] [(us.toArray++Array.replicate (fn.ntmps-us.toArray.size) undef).getD i undef]
    rw[this,hus]
    cases i with
    | zero=>
     refine⟨hs,u0,rfl,⟨?_,hu0sl⟩,rfl⟩
     cases deep <;> exact hat
    | succ i=>exact AV.ok_le (View.le_refl m) qm9 (hslots i)
   ·intro v hv
    obtain rfl:=List.mem_singleton.1 hv
    rfl
   ·cases g with
    | zero=>exact⟨hs,rfl,hpool,λT e=>by cases e; exact⟨rfl,rfl,λ_=>Iff.rfl⟩⟩
    | succ g=>trivial
   ·cases g with
    | zero=>cases g' with
     | zero=>exact hne rfl
     | succ g'=>cases hl'
    | succ g=>cases hl
   ·cases g with
    | zero=>
     obtain rfl:qg4 hs=v:=Option.some.inj hv
     exact λhF=>hF.2 hb
    | succ g=>cases hl
  ·intro e1 s' a' w' hend _ hg
   obtain⟨_,rfl,_,m1,ρ1,hr1⟩:=hg
   have hend':=show xj5 C s' fn.results.toList _ from by
    cases e1 <;> first | exact hend | exact hend.elim
   have post:LeavesInM (fz none) 0 P fn a'.tmps R a'.defers .returning w':=by
    refine qn9 (Z:=Z) (λW=>∃m' ρ',Rel P Z m.cells s' m' ρ' ⟨a'.tmps,[]⟩ W/\∀b o,m' b=some o->∃c t f,o=.cells c t f) (λW D ⟨m',ρ',hr,hc⟩ hD1 hD2 hD3=>?_) (λW ⟨m',ρ',hr,hc⟩=>?_) a'.defers w' hr1.defers ⟨m1.cells,ρ1,?_,λb o hb=>View.cells_is hb⟩
    ·refine⟨m',ρ',hr.shake hc (grownBy_putObj' W D _) (λr e=>?_) trivial,hc⟩
     obtain rfl:=Option.some.inj e
     exact⟨λo ho h=>(by rw[hD3] at h; obtain rfl:=Option.some.inj h; exact ho),hD2⟩
    ·obtain⟨vs',l,h1,h2,h3,h4⟩:=q65 (hS.at (λ_=>none)) hr _ _ hend'
     have hpk:=we7 h3 ⟨_,h4⟩
     have hres:=qu2 h1
     refine⟨pack vs',hres,?_⟩
     generalize qn3 l=rv at h2 hpk
     generalize pack vs'=v at hpk
     split at h2
     case h_2=>exact h2.elim
     rename_i eh' e' t' rows' ix lt hmm
     split at h2
     case h_2=>exact h2.elim
     rename_i T' c1 c2
     have c1:=Nat.eq_of_beq_eq_true c1
     have c2:=Nat.eq_of_beq_eq_true c2
     subst c1 c2
     obtain⟨ht,h3⟩:=qg6 h2
     clear h2
     injection ht with ht
     subst ht
     have h2':=h3 rows' HEq.rfl
     clear h3
     obtain⟨hrows,hT,hix,h2⟩:=h2'
     subst hT
     have hix:ix=qn1 deep:=by
      unfold x3h at hix
      cases deep <;> cases ix <;> first | rfl | exact hix.elim | (exact congrArg some (q6l hix))
     subst hix
     have ho:=hr.objs 0
     rw[hmm] at ho
     obtain⟨hs',q1,q2,q3⟩:=ho
     have q3':=q3 _ rfl
     have hp2:PoolOk (λ_=>none) W 0 eh' e' t' rows' (qn1 deep) hs':=q2.flat hft λ_ _ _ _=>rfl
     have hbl:∀b,Blk (qg4 hs') b↔Blk (qg4 hs) b:=λb=>by
      rw[qe0,qe0]
      exact⟨λ⟨u,h1,h2⟩=>⟨u,(q3'.2.2 u).1 h1,h2⟩,λ⟨u,h1,h2⟩=>⟨u,(q3'.2.2 u).2 h1,h2⟩⟩
     cases self with
     | true=>
      simp only at h2
      split at h2
      case h_2=>exact h2.elim
      rename_i g' j
      split at h2
      case h_2=>exact h2.elim
      rename_i p hg0
      have hg0:=Nat.eq_of_beq_eq_true hg0
      subst hg0
      split at h2
      ·exact h2.elim
      ·subst h2
       obtain⟨hsx,v',r1,⟨r2,r3⟩,r4⟩:=hpk
       rw[q1] at r1
       obtain rfl:=qf6 (Option.some.inj r1)
       obtain rfl:=(List.cons.inj r4).1
       refine⟨v,λ_=>none,r rows x,rows',hs',rfl,hZk W hr.below,(λb o hb=>by cases hb),(λb o hb=>by cases hb),q3,hp2,by rw[hrows]; exact hk,?_⟩
       show v=u0
       have h1:=hone rfl
       have h3:=hpool.len
       rw[h1] at h3
       obtain⟨z,y,rfl⟩:∃z y,hs=[z,y]:=by
        match hs,h3 with
        | [z,y],_=>exact⟨z,y,rfl⟩
       obtain rfl:=q3e q3
       have e1:some v=some y:=r2.symm.trans rfl
       have e2:some y=some u0:=hat
       exact Option.some.inj (e1.trans e2)
     | false=>
      simp only at h2
      have big:rv.msk.testBit 0=false->∀g v b,rv.msk.testBit g=true->(qa3 s'.mem g).live=true->ρ'[g]? = some v->Blk v b->w.heap.size<=b:=by
       intro h0 g v b hg hl hv hb
       have hz:=hr.zone g v b hl hv hb
       have hne:g≠0:=λe=>by rw[e,h0] at hg; cases hg
       rcases Nat.lt_or_ge b w.heap.size with hlt | hge
       ·exfalso
        refine hz ⟨hlt,λhbl'=>?_⟩
        exact hr.apart g 0 v _ b hne hl (by rw[hmm]; rfl) hv q1 hb ((hbl b).2 hbl')
       ·exact hge
      have fin:rv.msk.testBit 0=false->(w8b s'.mem rv λr'=>fAV r' λr'=>AV.le .none r' (r rows x))->∃v_1 m' r' rows' hs',Ending.returned v=.returned v_1/\Kept (Blk (qg4 hs)) w W/\m'.on W/\(∀b o,m' b=some o->w.heap.size<=b)/\q83 (some ⟨hs⟩) hs'/\PoolOk (λ_=>none) W 0 eh' e' t' rows' (qn1 deep) hs'/\k r' rows'/\r'.ok P m' [] [v_1]:=λh0 h2=>by
       obtain⟨M,M2,M3⟩:=w8d hr h2 hpk
       simp only[qu5] at M2
       exact⟨v,View.from W w.heap.size,r rows x,rows',hs',rfl,hZk W hr.below,View.from_on _ _,(λb o hb=>by unfold View.from at hb; split at hb <;> first | assumption | cases hb),q3,hp2,by rw[hrows]; exact hk,q4n Born.none M2 (M3 λg v b h1 hl hv hb=>big h0 g v b h1 hl hv hb)⟩
      split at h2
      ·rename_i h0
       exact fin (by rw[h0]; exact Nat.zero_testBit 0) h2
      ·split at h2
       ·exact h2.elim
       ·rename_i h0
        exact fin h0 h2
    ·have hr1:=hr1.cells
     rw[(Cells.of).eq] at hr1
     exact hr1.shake (λb o hb=>View.cells_is hb) (row:=none) ⟨rfl,rfl,rfl,Nat.le_refl _,λ_ _ _=>rfl⟩ (λr e=>by cases e) trivial
   cases e1 <;> first | exact post | exact hend.elim
 have:=callsIn_of_wp_marks (F:=Fence.wide) (n:=0) hf hb trivial hwp
 subst hu0
 exact callsIn_wide.1 this
end
end Eng
set_option linter.unusedVariables false
set_option linter.unusedSimpArgs false
namespace Eng
open Go Go.RowKit Go.Sort
abbrev q9n:Int->Value:=Value.int .i64
theorem rdL_ints {m:View}:∀{zs:List Int} {vs:List Value},RdL m (.int .i64) zs vs↔vs=zs.map q9n
 | [],vs=>Iff.rfl
 | z :: zs,vs=>by
  constructor
  ·rintro⟨u,v,rfl,h1,h2⟩
   have h1:u=[.int .i64 z]:=h1
   rw[h1,(rdL_ints (m:=m)).1 h2]; rfl
  ·rintro rfl
   exact⟨[.int .i64 z],zs.map q9n,rfl,rfl,(rdL_ints (m:=m)).2 rfl⟩
section
variable {P : Program}
end
end Eng
set_option linter.unusedVariables false
set_option linter.unusedSimpArgs false
namespace Eng
open Go Go.RowKit
def x6n (m:View) (ts:List Ty) (y:qa4 ts) (v:Value):Prop:=∃vs,v=pack vs/\qt7 m ts y vs
theorem q9o:∀{ts:List Ty} {y:qa4 ts},(qh1 ts y).lenIs ts.length=true
 | [],_=>rfl
 | _ :: r,(_,_)=>q9o (ts:=r)
section
variable {P : Program}
theorem w15 {f:Nat} {ins outs:List Ty} {pre:qa4 ins->Prop} {g:qa4 ins->qa4 outs} (hc:ql9 P f)
  (h:∀(w:World) (m:View) (x:qa4 ins) (vs:List Value),m.on w->pre x->qt7 m ins x vs->Calls P f vs.toArray w λe w'=>∃v,e=.returned v/\Below w.heap.size w w'/\x6n (View.from w' w.heap.size) outs (g x) v):Meets P f (qf1 true none ins outs pre g):=by
 refine⟨hc,λw m args vs k hm hargs hrun=>?_⟩
 obtain⟨x,⟨hp,hk⟩,hx⟩:=qk0 hrun hargs
 refine(h w m x vs hm hp hx).mono λe w' ⟨v,e1,e2,us,e3,e4⟩=>⟨v,View.from w' w.heap.size,e1,e2,View.from_on _ _,λb o hb=>?_,?_⟩
 ·unfold View.from at hb
  split at hb
  ·assumption
  ·cases hb
 ·obtain⟨k1,k2⟩:=q0h (P:=P) (m:=_) e4
  exact⟨_,hk,by rw[e3]; exact we7 k1 ⟨_,q9o⟩⟩
theorem wn9 {m:View}:∀{ts:List Ty} {y:qa4 ts} {vs:List Value} {k:qa4 ts->Prop},qt7 m ts y vs->k y->qg3 ts (qh1 ts y) k
 | [],y,vs,k,h,hk=>hk
 | t :: r,(x,y),vs,k,⟨u,us,e,h1,h2⟩,hk=>by
  have hrest:qg3 r (qh1 r y) λy'=>k (x,y'):=wn9 h2 hk
  have tk:∀(t:Ty) (x:t.den) (z:AV) (K:t.den->AV->Prop),K x z->qg8 t (qj5 t x z) K:=by
   intro t
   induction t with
   | prod a b iha ihb=>intro x z K hk; exact iha x.1 (qj5 b x.2 z) (λx' r=>qg8 b r λy r'=>K (x',y) r') (ihb x.2 z (λy r=>K (x.1,y) r) hk)
   | int j=>intro x z K hk; simpa[qg8,qj5] using hk
   | bool=>intro x z K hk; simpa[qg8,qj5] using hk
   | str=>intro x z K hk; simpa[qg8,qj5] using hk
   | list t _=>intro x z K hk; exact(qn5 t t x (λl'=>K l' z)).mpr ⟨rfl,λl' e=>by obtain rfl:=eq_of_heq e; exact hk⟩
   | nlist t _=>intro x z K hk; exact(qn5 t t x (λl'=>K l' z)).mpr ⟨rfl,λl' e=>by obtain rfl:=eq_of_heq e; exact hk⟩
  have ht:takeA t (q8q t x) λx'=>qg3 r (qh1 r y) λy'=>k (x',y'):=by
   cases t with
   | prod a b=>exact tk (.prod a b) x .nil (λx' z=>match z with
     | .nil=>qg3 r (qh1 r y) λy'=>k (x',y')
     | _=>False) hrest
   | int j=>exact tk (.int j) x .nil (λx' _=>qg3 r (qh1 r y) λy'=>k (x',y')) hrest
   | bool=>exact tk .bool x .nil (λx' _=>qg3 r (qh1 r y) λy'=>k (x',y')) hrest
   | str=>exact tk .str x .nil (λx' _=>qg3 r (qh1 r y) λy'=>k (x',y')) hrest
   | list t=>exact tk (.list t) x .nil (λx' _=>qg3 r (qh1 r y) λy'=>k (x',y')) hrest
   | nlist t=>exact tk (.nlist t) x .nil (λx' _=>qg3 r (qh1 r y) λy'=>k (x',y')) hrest
  exact ht
theorem w17 {f:Nat} {fresh:Bool} {ins outs:List Ty} {pre:qa4 ins->Prop} {g:qa4 ins->qa4 outs} (h:Meets P f (qf1 fresh none ins outs pre g)) {w:World} {m:View} {x:qa4 ins} {vs:List Value} (hm:m.on w) (hp:pre x) (hx:qt7 m ins x vs) :
  Calls P f vs.toArray w λe w'=>∃v m',e=.returned v/\Below w.heap.size w w'/\m'.on w'/\(match fresh with
   | true=>∀b o,m' b=some o->w.heap.size<=b
   | false=>m.le m'/\∀b o,m' b=some o->m b=some o\/w.heap.size<=b)/\(qn3 (qh1 outs (g x))).ok P m' [] [v]:=by
 have:=h.2 w m (qh1 ins x) vs (λr=>r=qn3 (qh1 outs (g x))) hm (q0h hx).1 (wn9 hx ⟨hp,rfl⟩)
 refine this.mono λe w' ⟨v,m',e1,e2,e3,e4,r,e5,e6⟩=>⟨v,m',e1,e2,e3,e4,?_⟩
 subst e5
 exact e6
theorem w8h {f:Nat} {ins:List Ty} {pre:qa4 ins->Prop} {x:qa4 ins} {w:World} {vs:List Value} (h:Meets P f (qf1 true none ins [.bool] pre (λ_=>(true,())))) (hp:pre x) (hx:qt7 (λb=>w.heap[b]?) ins x vs) :
  Calls P f vs.toArray w λe w'=>e=.returned (.bool true)/\Below w.heap.size w w':=
 (w17 h (View.full_on w) hp hx).mono λe w' ⟨v,m',e1,e2,_,_,e5⟩=>⟨by have e5:[v]=[.bool true]:=e5; rw[e1,(List.cons.inj e5).1],e2⟩
end
theorem xk0 {m:View} {w:World} (hm:m.on w) {l:List Int} {v:Value} (h:Rd m (.list (.int .i64)) l [v]):∃A c,v=.slice A l.length c/\Ls.SI w A l.length c l:=by
 obtain⟨A,c,e,h2,h3,h4⟩:=h
 refine⟨A,c,(List.cons.inj e).1,rfl,h2,h3,λhn=>?_⟩
 obtain⟨ad,e2,h5⟩:=h4 hn
 refine⟨ad,e2,λk hk=>?_⟩
 obtain⟨cs,k1,k2⟩:=h5 k hk
 have k1:cs=[.int .i64 (qf2 (.int .i64) l k)]:=k1
 have:=View.cell_on hm (k2 0 (.int .i64 (qf2 (.int .i64) l k)) (by rw[k1]; rfl))
 simp only[Ty.size,Nat.mul_one,Nat.add_zero] at this
 exact this
theorem x0b {w:World} {B:Nat} {A:Option Addr} {n c:Nat} {l:List Int} (h:Ls.SI w A n c l) (hB:∀ad,A=some ad->B<=ad.block):Rd (View.from w B) (.list (.int .i64)) l [.slice A n c]:=by
 obtain⟨h1,h2,h3,h4⟩:=h
 refine⟨A,c,by rw[h1],by rw[h1]; exact h2,h3,λhl=>?_⟩
 obtain⟨ad,e,h5⟩:=h4 (by rw[<- h1]; exact hl)
 refine⟨ad,e,λi hi=>⟨[.int .i64 (qf2 (.int .i64) l i)],rfl,λj v hj=>?_⟩⟩
 cases j with
 | succ j=>simp at hj
 | zero=>
  simp only[List.getElem?_cons_zero,Option.some.injEq] at hj
  subst hj
  have h6:=h5 i (by rw[<- h1]; exact hi)
  simp only[Ty.size,Nat.mul_one,Nat.add_zero]
  have h7:(View.from w B).cell (ad.add i)=View.cell (λb=>w.heap[b]?) (ad.add i):=by
   unfold View.cell View.from
   rw[Ls.block_add,if_pos (hB ad e)]
  rw[h7]
  exact h6
theorem x3j {w:World} {A:Option Addr} {n c:Nat} {l:List Int} (h:Ls.SI w A n c l):Rd (λb=>w.heap[b]?) (.list (.int .i64)) l [.slice A n c]:=
 Rd.le (λb o hb=>by unfold View.from at hb; split at hb <;> first | exact hb | cases hb) (x0b (B:=0) h λ_ _=>Nat.zero_le _)
theorem x3k {w:World} {A:Option Addr} {n c:Nat} {l:List (List Int)} (h:Ls.SM w A n c l):Rd (λb=>w.heap[b]?) (.list (.list (.int .i64))) l [.slice A n c]:=by
 obtain⟨h1,h2,h3,h4⟩:=h
 refine⟨A,c,by rw[h1],by rw[h1]; exact h2,h3,λhl=>?_⟩
 obtain⟨ad,e,h5⟩:=h4 (by rw[<- h1]; exact hl)
 refine⟨ad,e,λi hi=>?_⟩
 obtain⟨a,d,k1,k2⟩:=h5 i (by rw[<- h1]; exact hi)
 refine⟨[.slice a (Ls.nthL l i).length d],x3j k2,λj v hj=>?_⟩
 cases j with
 | succ j=>simp at hj
 | zero=>
  simp only[List.getElem?_cons_zero,Option.some.injEq] at hj
  subst hj
  simp only[Ty.size,Nat.mul_one,Nat.add_zero]
  exact k1
end Eng
