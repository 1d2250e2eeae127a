/- Functions that hand over what a list that they close over holds: a copy of the list's header lasts. No condition. -/
import Derived.Test.YtnchigbbjajiiaaGreatEng3
set_option linter.unusedVariables false
set_option linter.unusedSimpArgs false
namespace Eng
open Go Go.RowKit
section
variable {P : Program} {C : Ctx}
def preS (caps:List Ty) (x:qa3 caps) (l:Nat) (u:Value):St:=⟨(0,.lit (.func (.yield l) #[] #[])) :: (1,.imm (.cons (.lit u) .nil) 0) :: (q2j caps x 1).drop 1,λ_=>.any,[.cnt (some 0)]⟩
def wz4 (s:St):List (Nat × AV)->Prop
 | []=>True
 | (i,v) :: r=>s.get i=v/\wz4 s r
theorem q8h {s:St}:∀{l:List (Nat × AV)},wz4 s l->∀p∈l,s.get p.1=p.2
 | (i,v) :: r,h,p,hp=>by
  rcases zao.1 hp with rfl | hp
  ·exact h.1
  ·exact q8h h.2 p hp
def q8i (t:Ty) (rest outs:List Ty) (slots:List Nat) (sl:Nat) (x:qa3 (.list t :: rest)) (L:List (qa3 outs)) (l:Nat) (lend:Option Nat:=.none):qg6:=⟨outs,L,l,slots,(0,.lit (.func (.yield l) #[] #[])) :: (sl,.dat t x.1) :: q2j (.list t :: rest) x 1,lend⟩
theorem yd9 (hS : Sound P C) (hCy : C.yl = none) {F : Nat} {fn : Func} {id : Nat} {ops : Array Oper} {c : Code} (hf : P.funcs[F]? = some fn) (hname : (fn.name == "runtime.NumGoroutine") = false) (hb : fn.body = some (.seq (.region id ops false) c)) (hres : fn.results = #[]) {t : Ty} {rest outs : List Ty} {pre : qa3 (.list t :: rest) -> Prop} {gen : qa3 (.list t :: rest) -> List (qa3 outs)} {lend : Option Nat} (slots : List Nat) (sl : Nat) (ex : qa3 (.list t :: rest) -> List (Nat × AV)) (iv : qa3 (.list t :: rest) -> Nat -> Option Inv)
  (hd0:(ops.toList.filterMap (·.dst)).all (λd=>match Nat.blt d fn.ntmps with
   | true=>Nat.blt (rest.length+1) d
   | false=>false)=true)
  (hsl:Nat.blt (rest.length+1) sl=true)
  (hd:∀x,(qm7 (iv x) c 0).all (λd=>match Nat.blt d fn.ntmps,Nat.beq d sl with
   | true,false=>Nat.blt (rest.length+1) d
   | _,_=>false)=true) (hn:rest.length+2<=fn.ntmps)
  (hpre:∀(x:qa3 (.list t :: rest)) (l:Nat) (A:Option Addr) (cp:Nat),w3b C ops.toList ops.toList (preS (.list t :: rest) x l (.slice A (x.1:List t.den).length cp)) λs=>s.get sl=.lit (.slice A (x.1:List t.den).length cp)/\s.mem=[.cnt (some 0)]/\wz4 s (ex x))
  (h:∀x l,pre x->vc (C.say (q8i t rest outs slots sl x (gen x) l lend)) (iv x) c 0 (yf2 (q8i t rest outs slots sl x (gen x) l lend)) ⟨(q8i t rest outs slots sl x (gen x) l lend).fix++ex x,λ_=>.any,[.cnt (some 0)]⟩):qv9 P F (wl7 (.list t :: rest) outs pre gen lend):=by
 refine⟨⟨fn,_,hf,hname,hb⟩,λm cp cs K hcm hok hrun=>?_⟩
 have hcm:Cells m:=hcm
 obtain⟨x,⟨hp,hK⟩,hclen,hfix⟩:=q2k hrun hok
 refine⟨gen x,hK,?_⟩
 intro l J Jx W0 D0 hJs hJxs hJb hJxb hY hm h0
 have hvc:=h x l hp
 -- the box of the list
 obtain⟨_,vb,hvb,adb,usb,hb1,hb2,hb3⟩:=hfix 1 (1,.imm (qi3 (.list t) x.1 .nil) 0) (za0)
 obtain⟨u0,ub,rfl,hu0,hub⟩:=hb2
 obtain rfl:ub=[]:=hub
 have hu0:Rd m (.list t) x.1 [u0]:=hu0
 have hu0c:=hu0
 obtain⟨A,cpp,hu0e,_⟩:=hu0c
 obtain rfl:u0=.slice A (x.1:List t.den).length cpp:=(zac hu0e).1
 generalize hu:(Value.slice A (x.1:List t.den).length cpp)=u0 at *
 have hpre0:=hpre x l A cpp
 rw[hu] at hpre0
 obtain⟨Y,hYe⟩:∃Y,Y=q8i t rest outs slots sl x (gen x) l lend:=⟨_,rfl⟩
 rw[<- hYe] at hvc
 have hSY:Sound P (C.say Y):=⟨hS.tys,hS.specs,hS.mixed,hS.its,λY' e p hp=>by
  injection e with e
  subst e
  rw[hYe] at hp
  rcases zao.1 hp with rfl | hp
  ·rfl
  rcases zao.1 hp with rfl | hp
  ·rfl
  ·exact qy6 _ _ _ p hp,hS.muts,hS.blds,hS.bxs⟩
 let args:List Value:=.func (.yield l) #[] #[] :: cs
 have hlen:args.toArray.size=rest.length+2:=by simp[args,hclen]
 let NF0:Frm:=⟨fn.ntmps,args.zipIdx.map λp=>(p.2,p.1)⟩
 let NF:Frm:=⟨fn.ntmps,(args.zipIdx.map λp=>(p.2,p.1))++[(sl,u0)]⟩
 have hgetA:∀{a:Act} {i:Nat} {v:Value},(∀p∈(args.zipIdx.map λp=>(p.2,p.1)),a.tmps.getD p.1 undef=p.2)->args[i]? = some v->a.tmps.getD i undef=v:=λha hv=>ha (_,_) (za4.2 ⟨(_,_),zba.2 hv,rfl⟩)
 have hargIx:∀{p:Nat × Value},p∈(args.zipIdx.map λp=>(p.2,p.1))->p.1<rest.length+2:=λ{p} hp=>by
  obtain⟨⟨v,i⟩,hq,rfl⟩:=za4.1 hp
  have hv:=zba.1 hq
  have hi:i<args.length:=(zaf.1 hv).1
  have:args.length=rest.length+2:=by simpa using hlen
  show i<_
  omega
 let T:Base->Prop:=λZ=>∃k D,Z.ρ=[.int .i64 (code k)]/\Z.n=W0.heap.size/\(∀b,D b->Z.F b)/\match k with
  | some k=>J k D Z.W
  | none=>Jx D Z.W
 let R:Ending->World->Prop:=λe W'=>(∃v,e=.returned v)/\((∃D,J (gen x).length D W')\/∃D,Jx D W')
 have hsame:∀{Z:Base} {D:Nat->Prop} {W:World},(∀b,D b->Z.F b)->Z.ok W->Same D Z.W W:=λhD hZ=>⟨hZ.os,hZ.tape,hZ.output,hZ.grows,λb hb=>(hZ.kept b (hD b hb)).2⟩
 have capfix:∀p∈q2j (.list t :: rest) x 1,∀a:Act,(∀q∈(args.zipIdx.map λp=>(p.2,p.1)),a.tmps.getD q.1 undef=q.2)->p.2.ok P m [] [a.tmps.getD p.1 undef]:=λp hp a ha=>by
  obtain⟨j1,v,j2,j3⟩:=hfix 1 p hp
  rw[hgetA ha (show args[p.1]? = some v by rw[show p.1=(p.1-1)+1 by omega]; simpa[args] using j2)]
  exact j3
 have hYO:YOk P T m NF Y []:=by
  refine⟨λp hp a ha=>?_,λZ ⟨k,D,h1,_⟩=>⟨k,h1⟩,?_,?_⟩
  ·have ha1:∀q∈(args.zipIdx.map λp=>(p.2,p.1)),a.tmps.getD q.1 undef=q.2:=λq hq=>ha.2 q (zaj.2 (.inl hq))
   rw[hYe] at hp
   rcases zao.1 hp with rfl | hp
   ·rw[hgetA ha1 (i:=0) rfl]; rfl
   rcases zao.1 hp with rfl | hp
   ·show Rd m (.list t) x.1 [a.tmps.getD sl undef]
    rw[ha.2 (sl,u0) (zaj.2 (.inr (by simp)))]
    exact hu0
   ·exact capfix p hp a ha1
  ·rintro Z W' F' h ⟨k,D,h1,h2,h3,h4⟩ hok hF
   refine⟨k,D,h1,h2,λb hb=>hF b (h3 b hb),?_⟩
   cases k with
   | some k=>exact hJs _ _ _ _ h4 (hsame h3 hok)
   | none=>exact hJxs _ _ _ h4 (hsame h3 hok)
  ·rintro Z k W mx d vs B ⟨k',D,hk',hZn,hDF,hJ⟩ hk hZ hmx hcx hmd hd' hargs hlent hB
   obtain rfl:k'=some k:=by
    rw[hk] at hk'
    injection hk' with e
    injection e with _ e
    exact(code_inj e).symm
   have hJ:J k D Z.W:=hJ
   have hJW:=hJs _ _ _ _ hJ (hsame hDF hZ)
   subst hYe
   obtain⟨fn1,t1,as1,bd1,y1,y2⟩:=(hY k D W d mx vs B hJW hd' hmx (λb o hb=>⟨hcx b o hb,(hmd b o hb).imp (λq=>q) λ⟨q1,q2⟩=>⟨by rw[<- hZn]; exact q1,λq=>q2 (hDF b q)⟩⟩) hargs hlent λb hb=>⟨by rw[<- hZn]; exact(hB b hb).1,(hB b hb).2.1,λq=>(hB b hb).2.2.1 (hDF b q),(hB b hb).2.2.2⟩)
   refine⟨fn1,t1,as1,bd1,y1,zdf y2 ?_⟩
   rintro e W' ⟨hkp,hmW,hlw,hcase⟩
   refine⟨⟨hkp.os,hkp.tape,hkp.output⟩,hmW,hkp.size,hlw,λb hb hF _ hnB=>hkp.block b ⟨hb,λq=>q.elim (λq=>hF (hDF b q)) hnB⟩,?_⟩
   rcases hcase with⟨rfl,D',hD',hJ'⟩ | ⟨rfl,D',hD',hJ'⟩
   ·refine⟨true,rfl,λO hn' hO=>⟨some (k+1),D',rfl,hZn,λb hb=>⟨hJb _ _ _ hJ' b hb,λho=>?_⟩,hJ'⟩⟩
    obtain⟨o1,o2,o3,_⟩:=hO b ho
    rcases hD' b hb with q | q | q
    ·exact o2 (hDF b q)
    ·omega
    ·exact q o3
   ·refine⟨false,rfl,λO hn' hO=>⟨none,D',rfl,hZn,λb hb=>⟨hJxb _ _ hJ' b hb,λho=>?_⟩,hJ'⟩⟩
    obtain⟨o1,o2,o3,o4⟩:=hO b ho
    rcases hD' b hb with q | q | q | q
    ·exact o2 (hDF b q)
    ·omega
    ·exact q o3
    ·exact o4 rfl q
 have hCls:Cls P (C.say Y) T m NF none 0:=⟨λZ Z' ⟨k,D,h1,_⟩ ⟨k',D',h1',_⟩ g v hv hp=>by
  rw[h1] at hv
  cases g with
  | zero=>exact⟨_,by rw[h1']; rfl,rfl⟩
  | succ g=>simp at hv,λY' e=>by injection e with e; subst e; exact⟨[],hYO⟩⟩
 have hwp:(Code.seq (.region id ops false) c).wpIn (fz none) 0 P (bodyPostM (fz none) 0 P fn R) { tmps:=args.toArray++Array.replicate (fn.ntmps-args.toArray.size) undef,defers:=[] } W0:=by
  have hN:NF0.has { tmps:=args.toArray++Array.replicate (fn.ntmps-args.toArray.size) undef,defers:=[] }:=by
   refine⟨by simp only[Array.size_append,Array.size_replicate]; show _=fn.ntmps; omega,λp hp=>?_⟩
   obtain⟨⟨v,i⟩,hq,rfl⟩:=za4.1 hp
   have hv:=zba.1 hq
   show(args.toArray++_).getD i undef=v
   have hi:i<args.length:=(zaf.1 hv).1
   rw[za8,zb1 (by simpa using hi)]
   simp[hv]
  let Z0:Base:=⟨W0.heap.size,W0,λb=>b<W0.heap.size,zad _,[.int .i64 (code (some 0))]⟩
  have hT0:T Z0:=⟨some 0,D0,rfl,rfl,λb hb=>hJb _ _ _ h0 b hb,h0⟩
  have objs0:∀(m':View) (W:World) (g:Nat),ObjOk P m' [.int .i64 (code (some 0))] W W0.heap.size g (qa1 [.cnt (some 0)] g):=λm' W g=>by
   cases g with
   | zero=>rfl
   | succ g=>trivial
  have apart0:∀(g g':Nat) (v v':Value) (b:Nat),g≠g'->(qa1 [AObj.cnt (some 0)] g).live=true->(qa1 [AObj.cnt (some 0)] g').live=true->[Value.int .i64 (code (some 0))][g]? = some v->[Value.int .i64 (code (some 0))][g']? = some v'->Blk v b->Blk v' b->False:=λg g' v v' b hne l1 l2 u1 u2 b1 b2=>by
   cases g with
   | zero=>simp only[List.getElem?_cons_zero,Option.some.injEq] at u1; subst u1; cases b1
   | succ g=>simp at u1
  have zone0:∀(g:Nat) (v:Value) (b:Nat),(qa1 [AObj.cnt (some 0)] g).live=true->[Value.int .i64 (code (some 0))][g]? = some v->Blk v b->¬Z0.F b:=λg v b l1 u1 b1=>by
   cases g with
   | zero=>simp only[List.getElem?_cons_zero,Option.some.injEq] at u1; subst u1; cases b1
   | succ g=>simp at u1
  refine wpIn_seq (wpIn_region_list (w1b (w0:=Z0) (m0:=m) (N:=NF0) (D:=λj=>True) (hS.at _) (λo ho d hod=>⟨trivial,?_⟩) ops.toList (preS (.list t :: rest) x l u0) _ _ W0 (λo ho=>ho) ⟨hN,m,[.int .i64 (code (some 0))],?_⟩ hpre0 ?_))
  ·have:=zaq.1 hd0 d (zcw.2 ⟨o,ho,hod⟩)
   split at this
   ·rename_i hb1
    refine⟨?_,λp hp e=>?_⟩
    ·simp only[Nat.blt,Nat.ble_eq] at hb1; exact hb1
    ·simp only[Nat.blt,Nat.ble_eq] at this
     have:=hargIx hp
     omega
   ·cases this
  ·refine⟨λi=>?_,rfl,by simp[Value.oneCell'],trivial,λg=>objs0 _ _ g,apart0,hm,View.le_refl m,λb o hb=>.inl hb,⟨rfl,rfl,rfl,zad _,λb hb=>⟨hb,rfl⟩⟩,zone0,λg v hv _=>hv⟩
   show(look (preS (.list t :: rest) x l u0).ov i .any).ok P m _ _
   rcases qr9 (i:=i) (d:=.any) (l:=(preS (.list t :: rest) x l u0).ov) with⟨e,_⟩ | e
   ·rw[e]; exact⟨_,rfl⟩
   ·generalize look (preS (.list t :: rest) x l u0).ov i .any=av at e ⊢
    rcases zao.1 e with e | e
    ·obtain⟨rfl,rfl⟩:=Prod.mk.inj e
     rw[hgetA hN.2 (i:=0) rfl]; rfl
    rcases zao.1 e with e | e
    ·obtain⟨rfl,rfl⟩:=Prod.mk.inj e
     rw[hgetA hN.2 (i:=1) (show args[1]? = some vb by simpa[args] using hvb)]
     exact⟨adb,[u0],hb1,⟨u0,[],rfl,rfl,rfl⟩,hb3⟩
    ·exact AV.ok_le (View.le_refl m) qk5 (capfix (i,av) (zc6 e) _ hN.2)
  ·rintro s1 a1 w1 ⟨k1,k2,k3⟩ _ ⟨hN1,m1,ρ1,hr1⟩
   have hu1:a1.tmps.getD sl undef=u0:=by
    have:=hr1.slots sl
    rw[k1] at this
    exact(zac this).1
   have hN2:NF.has a1:=⟨hN1.1,λp hp=>by
    rcases zaj.1 hp with hp | hp
    ·exact hN1.2 p hp
    ·obtain rfl:=zar.1 hp; exact hu1⟩
   have hρ:ρ1=[.int .i64 (code (some 0))]:=by
    have hl:=hr1.len
    rw[k2] at hl
    have hp:=hr1.pins 0 (.int .i64 (code (some 0))) rfl rfl
    match ρ1,hl,hp with
    | [v],_,hp=>simpa using hp
   subst hρ
   have hobj:s1.mem=[.cnt (some 0)]:=k2
   have hr2:Rel P Z0 m ⟨Y.fix++ex x,λ_=>.any,[.cnt (some 0)]⟩ m1 [.int .i64 (code (some 0))] a1 w1:=by
    refine⟨λi=>?_,rfl,by simp[Value.oneCell'],hr1.defers,λg=>objs0 _ _ g,apart0,hr1.view,hr1.ext,hr1.new,hr1.below,zone0,λg v hv _=>hv⟩
    show(look (Y.fix++ex x) i .any).ok P m1 _ _
    rcases qr9 (i:=i) (d:=.any) (l:=Y.fix++ex x) with⟨e,_⟩ | e
    ·rw[e]; exact⟨_,rfl⟩
    ·generalize look (Y.fix++ex x) i .any=av at e ⊢
     rcases zaj.1 e with e | e
     ·exact AV.ok_le hr1.ext qk5 (hYO.fix (i,av) e a1 hN2)
     ·have:=hr1.slots i
      rw[q8h k3 (i,av) e] at this
      exact this
   refine w7z (N:=NF) c T m (hSY.at _) none 0 hCls hcm.eq (.inr rfl) 0 _ ⟨Y.fix++ex x,λ_=>.any,[.cnt (some 0)]⟩ _ w1 _ (λd hdd=>?_) ⟨Z0,hT0,hN2,m1,[.int .i64 (code (some 0))],hr2⟩ hvc ?_
   ·have:=zaq.1 (hd x) d hdd
    split at this
    ·rename_i hb1 hb2
     refine⟨?_,λp hp e=>?_⟩
     ·simp only[Nat.blt,Nat.ble_eq] at hb1; exact hb1
     ·simp only[Nat.blt,Nat.ble_eq] at this
      rcases zaj.1 hp with hp | hp
      ·have:=hargIx hp
       omega
      ·obtain rfl:=zar.1 hp
       have e:sl=d:=e
       subst e
       rw[show Nat.beq sl sl=true from Nat.beq_refl sl] at hb2
       cases hb2
    ·cases this
   ·rintro e s' a' w' hend _ ⟨Z,⟨k,D,hk,hZn,hDF,hJ⟩,_,m1,ρ1,hr1⟩
    have hr1:=hr1.cells
    rw[hcm.eq] at hr1
    have hend':match qa1 s'.mem 0 with
      | .cnt k=>match k with
       | some k=>k=Y.L.length
       | .none=>True
      | _=>False:=by cases e <;> first | exact hend | exact hend.elim
    have hout:∀W,Z.ok W->R (.returned (pack [])) W:=by
     intro W hW
     refine⟨⟨_,rfl⟩,?_⟩
     have ho:=hr1.objs 0
     revert hend' ho
     cases qa1 s'.mem 0 <;> intro hend' ho <;> first | exact hend'.elim | skip
     rename_i ko
     have hp:=hr1.pins 0 (.int .i64 (code k)) (by rw[hk]; rfl) rfl
     have ho:ρ1[0]? = some (.int .i64 (code ko)):=ho
     rw[hp] at ho
     injection ho with ho
     injection ho with _ ho
     obtain rfl:=code_inj ho
     cases k with
     | none=>exact .inr ⟨D,hJxs _ _ _ hJ (hsame hDF hW)⟩
     | some k=>
      have hkl:k=Y.L.length:=hend'
      subst hYe
      exact .inl ⟨D,by have:=hJs _ _ _ _ hJ (hsame hDF hW); rw[hkl] at this; exact this⟩
    have post:LeavesInM (fz none) 0 P fn a'.tmps R a'.defers .returning w':=by
     refine qn4 (Z:=Z) (λW=>∃m' ρ',Rel P Z m s' m' ρ' ⟨a'.tmps,[]⟩ W/\Cells m') (λW Dm ⟨m',ρ',hr,hc⟩ hD1 hD2 hD3=>?_) (λW ⟨m',ρ',hr,hc⟩=>?_) a'.defers w' hr1.defers ⟨m1.cells,ρ1,?_,Cells.of⟩
     ·refine⟨m',ρ',hr.shake hc (grownBy_putObj' W Dm _) (λr e=>?_) trivial,hc⟩
      obtain rfl:=zaa e
      exact⟨λo ho h=>(by rw[hD3] at h; obtain rfl:=zaa h; exact ho),hD2⟩
     ·exact⟨pack [],qt3 (vs:=[]) (by rw[hres]; rfl),hout W hr.below⟩
     ·exact hr1.shake Cells.of (row:=none) ⟨rfl,rfl,rfl,zad _,λ_ _ _=>rfl⟩ (λr e=>by cases e) trivial
    cases e <;> first | exact post | exact hend.elim
 have:=callsIn_of_wp_marks (F:=Fence.wide) (n:=0) hf hb trivial hwp
 have e:args.toArray=#[Value.func (.yield l) #[] #[]]++cs.toArray:=by simp[args]
 rw[<- e]
 exact this
end
end Eng
