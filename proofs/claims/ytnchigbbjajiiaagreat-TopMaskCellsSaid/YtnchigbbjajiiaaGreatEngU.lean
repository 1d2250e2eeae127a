/- Functions that write into a box, or make one: contracts out of conditions. No condition. -/
import Derived.Test.YtnchigbbjajiiaaGreatEng3
set_option linter.unusedVariables false
set_option linter.unusedSimpArgs false
namespace Eng
open Go Go.RowKit
section
variable {P : Program} {C : Ctx}
def q8f (bt:Ty) (cs:AV) (k:bt.den->Prop):Prop:=qg5 bt cs λx z=>match z with
 | .nil=>k x
 | _=>False
theorem wh0 (bt:Ty) (cs:AV):Det (q8f bt cs):=λk H=>qj4 (f:=λx z k=>match z with
 | .nil=>k x
 | _=>False) (λx z=>by
  split
  ·exact qa6 x
  ·exact qa4) k H
theorem ws5 {m:View} {ρ:List Value} {bt:Ty} {cs:AV} {k:bt.den->Prop} {us:List Value} (h:q8f bt cs k) (hc:cs.ok P m ρ us):∃x,k x/\Rd m bt x us:=by
 obtain⟨x,z,u,v,rfl,h1,h2,h3⟩:=qv4 h hc
 cases z <;> first | exact h3.elim | skip
 obtain rfl:v=[]:=h2
 exact⟨x,h3,by rw[zby]; exact h1⟩
def x6f (A:ArgK) (T pos:Nat) (bt:Ty) (pre:bt.den->A.X->Prop) (r:bt.den->A.X->AV) (g:bt.den->A.X->bt.den):q3y:=
 {T:=T,pos:=pos,run:=λcs args k=>q8f bt cs λx=>A.take args λy=>need (pre x y) λ_=>k (r x y) (qi3 bt (g x y) .nil),
  one:=λcs args k h=>by
   obtain⟨x,h1,h2⟩:=wh0 bt cs _ h
   obtain⟨y,h3,h4⟩:=A.one args _ h1
   exact⟨_,_,h3.2,λk' hk=>h2 _ (h4 _ ⟨h3.1,hk⟩)⟩ }
def AV.box1:AV->Option Nat
 | .box g _=>some g
 | .agg cs=>cs.box1
 | .tup cs=>cs.box1
 | .clo _ cs=>cs.box1
 | .cons a b=>match a.box1 with
  | some g=>some g
  | .none=>b.box1
 | _=>.none
def ws6 (g:Nat):AV->(AV->Prop)->Prop
 | .box h o,k=>match Nat.beq h g with
  | true=>k (.box 0 o)
  | false=>False
 | .lit v,k=>k (.lit v)
 | .tt,k=>k .tt
 | .ff,k=>k .ff
 | .nil,k=>k .nil
 | .clo f c,k=>ws6 g c λc=>k (.clo f c)
 | .agg c,k=>ws6 g c λc=>k (.agg c)
 | .tup c,k=>ws6 g c λc=>k (.tup c)
 | .cons a b,k=>ws6 g a λa=>ws6 g b λb=>k (.cons a b)
 | _,_=>False
theorem x2v {m m':View} {ρ:List Value} {g:Nat} {p:Value} (hp:ρ[g]? = some p) {av:AV}:∀{K:AV->Prop} {vs:List Value},ws6 g av K->av.ok P m ρ vs->∃r,K r/\r.ok P m' [p] vs:=by
 induction av with
 | box h o=>
  intro K vs h k
  simp only[ws6] at h
  split at h
  ·rename_i e
   have e:=zab e
   subst e
   obtain⟨b,k1,k2⟩:=k
   rw[hp] at k1
   exact⟨_,h,b,k1,k2⟩
  ·exact h.elim
 | lit v=>intro K vs h k; exact⟨_,h,k⟩
 | tt=>intro K vs h k; exact⟨_,h,k⟩
 | ff=>intro K vs h k; exact⟨_,h,k⟩
 | nil=>intro K vs h k; exact⟨_,h,k⟩
 | clo f c ih=>
  intro K vs h k
  obtain⟨cs,k1,k2⟩:=k
  obtain⟨r,h1,h2⟩:=ih h k2
  exact⟨_,h1,cs,k1,h2⟩
 | agg c ih=>
  intro K vs h k
  obtain⟨cs,k1,k2⟩:=k
  obtain⟨r,h1,h2⟩:=ih h k2
  exact⟨_,h1,cs,k1,h2⟩
 | tup c ih=>
  intro K vs h k
  obtain⟨cs,k1,k2⟩:=k
  obtain⟨r,h1,h2⟩:=ih h k2
  exact⟨_,h1,cs,k1,h2⟩
 | cons a b iha ihb=>
  intro K vs h k
  obtain⟨v,rest,rfl,k2,k3⟩:=k
  obtain⟨r1,h1,h2⟩:=iha h k2
  obtain⟨r2,h3,h4⟩:=ihb h1 k3
  exact⟨_,h3,v,rest,rfl,h2,h4⟩
 | _=>intro K vs h; exact h.elim
def xc9 (A:ArgK) (T:Nat) (pre:A.X->Prop) (r c:A.X->AV):qa8:=
 {fresh:=true,own:=some T,bx:=true,run:=λargs k=>A.take args λx=>need (pre x) λ_=>k (.cons (r x) (c x)),one:=λargs k h=>(qd3 (A.one args) λx=>qg3 (qa6 (.cons (r x) (c x)))) k h }
def ys4 (C:Ctx) (T:Nat) (res:List ResultVar) (r c:AV) (e:XK) (s:St):Prop:=match e with
 | .exit _=>False
 | _=>xj7 C s res λl=>withSome (qm4 l).box1 λg=>match qa1 s.mem g with
  | .box T' cs=>match Nat.beq T' T,cs.scalar with
   | true,true=>ws6 g (qm4 l) λr'=>(fAV r' λr'=>AV.le .none r' r)/\fAV cs λc'=>AV.le .none c' c
   | _,_=>False
  | _=>False
theorem x6g (hS : Sound P C) {f : Nat} {fn : Func} {c : Code} (hf : P.funcs[f]? = some fn) (hname : (fn.name == "runtime.NumGoroutine") = false) (hb : fn.body = some c) {A : ArgK} (hA : A.Ok P) {T : Nat} {pre : A.X -> Prop} {r g : A.X -> AV} (iv : A.X -> Nat -> Option Inv)
  (hd:∀x,(qm7 (iv x) c 0).all (λd=>Nat.blt d fn.ntmps)=true) (hn:A.n<=fn.ntmps) (h:∀x,pre x->vc C (iv x) c 0 (ys4 C T fn.results.toList (r x) (g x)) ⟨[],A.init x,[]⟩) (hyl:C.yl=none:=by rfl):Meets P f (xc9 A T pre r g):=by
 refine⟨⟨fn,c,hf,hname,hb⟩,λw m args vs k hm hargs hrun=>?_⟩
 obtain⟨x,⟨hp,hk⟩,hlen,hslots⟩:=hA.ok hrun hargs
 have hvc:=h x hp
 let R:Ending->World->Prop:=Left P (xc9 A T pre r g) k m w
 have hwp:c.wpIn (fz none) 0 P (bodyPostM (fz none) 0 P fn R) { tmps:=vs.toArray++Array.replicate (fn.ntmps-vs.toArray.size) undef,defers:=[] } w:=by
  have hN:(vs.toArray++Array.replicate (fn.ntmps-vs.toArray.size) undef).size=fn.ntmps:=by simp[hlen]; omega
  refine w7z (N:=⟨fn.ntmps,[]⟩) c (λZ=>Z=base0 w) m.cells (hS.at _) none 0 (Cls.one hyl _ _ _) (Cells.of).eq (.inr rfl) 0 _ ⟨[],A.init x,[]⟩ _ w _ (λd hdd=>⟨?_,by simp⟩) ⟨_,rfl,⟨hN,by simp⟩,m.cells,[],Rel.cells (m0:=m) (m:=m) ?_⟩ hvc ?_
  ·have:=zaq.1 (hd x) d hdd
   simp[Nat.blt] at this
   show d<fn.ntmps
   omega
  ·refine⟨λi=>?_,rfl,by simp,trivial,λg=>trivial,(λg g' v v' b _ hl=>by cases hl),hm,View.le_refl m,λb o hb=>Or.inl hb,q5x.2 (zc0 _ _),(λg v b hl=>by cases hl),(λg p hp=>by simp[base0] at hp)⟩
   show(A.init x i).ok P m [] _
   have:(vs.toArray++Array.replicate (fn.ntmps-vs.toArray.size) undef).getD i undef=vs.getD i undef:=by
    rw[za8,zax]
    rcases zav i vs.length with hlt | hge
    ·simp[Array.getElem?_append,hlt]
    ·rw[Array.getElem?_append_right (by simpa using hge),zc3 hge]
     simp[Array.getElem?_replicate]
     split <;> rfl
   rw[this]
   exact hslots i
  ·intro e1 s' a' w' hend _ hg
   obtain⟨_,rfl,_,m1,ρ1,hr1⟩:=hg
   have hend':=show xj7 C s' fn.results.toList _ from by
    cases e1 <;> first | exact hend | exact hend.elim
   have post:LeavesInM (fz none) 0 P fn a'.tmps R a'.defers .returning w':=by
    refine qn4 (Z:=base0 w) (λW=>∃m' ρ',Rel P (base0 w) m.cells s' m' ρ' ⟨a'.tmps,[]⟩ W/\∀b o,m' b=some o->∃c t f,o=.cells c t f) (λW D ⟨m',ρ',hr,hc⟩ hD1 hD2 hD3=>?_) (λW ⟨m',ρ',hr,hc⟩=>?_) a'.defers w' hr1.defers ⟨m1.cells,ρ1,?_,λb o hb=>View.cells_is hb⟩
    ·refine⟨m',ρ',hr.shake hc (grownBy_putObj' W D _) (λr e=>?_) trivial,hc⟩
     obtain rfl:=zaa e
     exact⟨λo ho h=>(by rw[hD3] at h; obtain rfl:=zaa h; exact ho),hD2⟩
    ·obtain⟨vs',l,h1,h2,h3,h4⟩:=q7a (hS.at (λ_=>none)) hr _ _ hend'
     have hpk:=wc2 h3 ⟨_,h4⟩
     have hres:=qt3 h1
     refine⟨pack vs',hres,?_⟩
     generalize qm4 l=rv at h2 hpk
     generalize pack vs'=v at hpk
     obtain⟨gg,_,h5⟩:=withSome_iff.1 h2
     clear h2
     split at h5
     case h_2=>exact h5.elim
     rename_i T' cs' hmm
     split at h5
     case h_2=>exact h5.elim
     rename_i c1 c2
     have c1:=zab c1
     subst c1
     have ho:=hr.objs gg
     rw[hmm] at ho
     obtain⟨b',us',q1,q2,q3,q4,q5,q6⟩:=ho
     obtain⟨r',⟨l1,l2⟩,o1⟩:=x2v (m':=λ_=>none) q1 h5 hpk
     simp only[qv6] at l1 l2
     exact⟨v,λ_=>none,rfl,q5x.1 hr.below,(λb o hb=>by cases hb),(λb o hb=>by cases hb),_,_,b',us',hk,q2,q3,q4c Born.none l1 o1,q4c Born.none l2 (qw2 c2 q4),q5,rfl⟩
    ·have hr1:=hr1.cells
     rw[(Cells.of).eq] at hr1
     exact hr1.shake (λb o hb=>View.cells_is hb) (row:=none) ⟨rfl,rfl,rfl,zad _,λ_ _ _=>rfl⟩ (λr e=>by cases e) trivial
   cases e1 <;> first | exact post | exact hend.elim
 have:=callsIn_of_wp_marks (F:=Fence.wide) (n:=0) hf hb trivial hwp
 exact callsIn_wide.1 this
end
end Eng
