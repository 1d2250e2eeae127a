/- What the table of this seat says of its types, for the engine. Printed by program (gentys.py). No condition. -/
import Derived.Test.YtnchigbbjajiiaaGreatEng3
import Derived.Test.YtnchigbbjajiiaaGreatProg
set_option linter.unusedVariables false
set_option linter.unusedSimpArgs false
namespace Go.Proofs.YtnchigbbjajiiaaGreat
open Go Go.RowKit Eng
theorem q98 {P:Program} {t:Nat} {T:TI} {z:Value} {d:TypeDesc} (h1:(P.info? t).map (λi=>(i.size,i.bytes,i.zero))=some (T.size,T.bytes,some z)) (hz:z.cells.size=T.size) (h2:z.cells.toList.all (·.oneCell')=true)
  (h3:∀m ρ,T.zero.ok P m ρ z.cells.toList) (h4:T.dflt=true->∀m,Rd m T.ty T.ty.dflt z.cells.toList) (h5:T.bytes<=1000000) (h6:T.size≠0) (h7:T.size<=10000) (h8:(match d with | .struct _ | .array _ _=>true | _=>false)=T.agg) (hu:P.underlying t=some d)
  (h9:T.kind=1->P.underlying t=some (.slice T.elem)) (h10:T.kind=2->P.underlying t=some .string) (h11:T.kind=3->P.underlying t=some .bool)
  (h12:T.kind=4->∃n sz,P.underlying t=some (.array n T.elem)/\(∃j,P.info? T.elem=some j/\j.size=sz)/\sz≠0/\∀(f:Nat) (fl:Nat × Nat × Nat),T.flds[f]? = some fl->fl=(f*sz,T.elem,sz)/\f<n)
  (h13:T.kind=5->∃fields,P.underlying t=some (.struct fields)/\fields.toList.map (λF=>(F.offset,F.type))=T.flds.map (λf=>(f.1,f.2.1))/\∀f∈T.flds,(∃j,P.info? f.2.1=some j/\j.size=f.2.2)/\f.2.2≠0) (h14:T.kind<=5) (h15:T.eq2=true->Eq2 P t:=by(intro h; cases h)) (h16:T.isInt=true->∃k,T.ty=.int k/\P.underlying t=some (.int k):=by(intro h; cases h))
  (h17:∀eb,T.bld=some eb->∃i,P.info? t=some i/\i.zero=some (.agg #[.pointer none,.slice none 0 0]):=by(intro eb h; cases h)) (h18:T.mp=true->(∃k,P.underlying t=some (.map k T.elem)/\P.underlying k=some .string)/\∃j z,P.info? T.elem=some j/\j.zero=some z/\z.cells=#[z]:=by(intro h; cases h)) (h19:T.eq3=true->Eq3 P t:=by(intro h; cases h)) (h20:T.isInt=true->z.cells=#[z]:=by(intro h; cases h)):TIok P t T:=by
 refine⟨?_,h5,h6,h7,⟨d,hu,h8⟩,h9,h10,h11,h12,h13,h14,h15,h19,h16,λhi=>?_,h18,h17⟩
 rotate_left
 ·cases hq:P.info? t with
  | none=>rw[hq] at h1; cases h1
  | some i=>rw[hq] at h1; simp only[Option.map_some,Option.some.injEq,Prod.mk.injEq] at h1; exact⟨i,z,rfl,h1.2.2,h20 hi⟩
 cases hi:P.info? t with
 | none=>rw[hi] at h1; cases h1
 | some i=>
  rw[hi] at h1
  simp only[Option.map_some,Option.some.injEq,Prod.mk.injEq] at h1
  exact⟨i,z,rfl,h1.1,h1.2.1,h1.2.2,hz,h2,h3,h4⟩
def tiI (k:IntKind) (b:Nat):TI:={ agg:=false,size:=1,bytes:=b,ty:=.int k,zero:=.cons (.lit (.int k 0)) .nil,kind:=0,dflt:=true,elem:=0,flds:=[],isInt:=true }
def tiS (b e:Nat) (y:Ty):TI:={ agg:=false,size:=1,bytes:=b,ty:=.list y,zero:=.cons (.lit (.slice none 0 0)) .nil,kind:=1,dflt:=true,elem:=e,flds:=[] }
def tiZ (z:Value) (b:Nat):TI:={ agg:=false,size:=1,bytes:=b,ty:=.bool,zero:=.cons (.lit z) .nil,kind:=0,dflt:=false,elem:=0,flds:=[] }
theorem k_ne {a b:Nat} {p:Prop} (h:a=b) (hn:Nat.beq a b=false):p:=absurd h (Nat.ne_of_beq_eq_false hn)
theorem wt6 {P:Program} {t:Nat} {k:IntKind} {b:Nat} (h1:(P.info? t).map (λi=>(i.size,i.bytes,i.zero))=some (1,b,some (.int k 0))) (hu:P.underlying t=some (.int k)) (hb:b<=1000000):TIok P t (tiI k b):=
 q98 (z:=.int k 0) h1 rfl rfl (λm ρ=>⟨_,_,rfl,rfl,rfl⟩) (λ_ m=>rfl) hb (zde 0) (show 1<=10000 by decide) rfl hu (λh=>k_ne h rfl) (λh=>k_ne h rfl) (λh=>k_ne h rfl) (λh=>k_ne h rfl) (λh=>k_ne h rfl) (zae 5) (h16:=λ_=>⟨k,rfl,hu⟩) (h20:=λ_=>rfl)
theorem q71 {P:Program} {t b e:Nat} {y:Ty} (h1:(P.info? t).map (λi=>(i.size,i.bytes,i.zero))=some (1,b,some (.slice none 0 0))) (hu:P.underlying t=some (.slice e)) (hb:b<=1000000):TIok P t (tiS b e y):=
 q98 (z:=.slice none 0 0) h1 rfl rfl (λm ρ=>⟨_,_,rfl,rfl,rfl⟩) (λ_ m=>⟨none,0,rfl,zab _,by unfold maxLen; exact zae _,λh=>absurd h (zbw 0)⟩) hb (zde 0) (show 1<=10000 by decide) rfl hu (λ_=>hu) (λh=>k_ne h rfl) (λh=>k_ne h rfl) (λh=>k_ne h rfl) (λh=>k_ne h rfl) (show 1<=5 by decide)
theorem qu1 {P:Program} {t b:Nat} {z:Value} {d:TypeDesc} (hz:z.cells=#[z]) (ho:z.oneCell'=true) (h1:(P.info? t).map (λi=>(i.size,i.bytes,i.zero))=some (1,b,some z)) (hu:P.underlying t=some d) (h8:(match(generalizing:=false) d with | .struct _ | .array _ _=>true | _=>false)=false) (hb:b<=1000000):TIok P t (tiZ z b):=
 q98 (z:=z) h1 (by rw[hz]; rfl) (by rw[hz]; show(z.oneCell' && true)=true; rw[ho]; rfl) (λm ρ=>by rw[hz]; exact⟨_,_,rfl,rfl,rfl⟩) (λh=>by cases h) hb (zde 0) (show 1<=10000 by decide) h8 hu (λh=>k_ne h rfl) (λh=>k_ne h rfl) (λh=>k_ne h rfl) (λh=>k_ne h rfl) (λh=>k_ne h rfl) (zae 5)
def tiB (b:Nat):TI:={ agg:=false,size:=1,bytes:=b,ty:=.bool,zero:=.cons .ff .nil,kind:=3,dflt:=true,elem:=0,flds:=[] }
theorem x76 {P:Program} {t b:Nat} (h1:(P.info? t).map (λi=>(i.size,i.bytes,i.zero))=some (1,b,some (.bool false))) (hu:P.underlying t=some .bool) (hb:b<=1000000):TIok P t (tiB b):=
 q98 (z:=.bool false) h1 rfl rfl (λm ρ=>⟨_,_,rfl,rfl,rfl⟩) (λ_ m=>rfl) hb (zde 0) (show 1<=10000 by decide) rfl hu (λh=>k_ne h rfl) (λh=>k_ne h rfl) (λ_=>hu) (λh=>k_ne h rfl) (λh=>k_ne h rfl) (show 3<=5 by decide)
theorem q6f {P:Program} {t:Nat} {T:TI} (h:TIok P t T):∃j,P.info? t=some j/\j.size=T.size:=by
 obtain⟨i,z,h1,h2,_⟩:=h.info
 exact⟨i,h1,h2⟩
def T2:TI:=tiI .i64 8
theorem ti2:TIok Tryz.prog 2 T2:=wt6 kq Tryz.underlying2 dc
def T3:TI:=tiI .i64 8
theorem ti3:TIok Tryz.prog 3 T3:=wt6 kq Tryz.underlying3 dc
def T4:TI:=tiB 1
theorem ti4:TIok Tryz.prog 4 T4:=x76 kq Tryz.underlying4 dc
def T22:TI:=tiS 24 24 (.list (.int .i64))
theorem yv0:TIok Tryz.prog 22 T22:=q71 kq Tryz.underlying22 dc
def T23:TI:=tiS 24 24 (.list (.int .i64))
theorem yr6:TIok Tryz.prog 23 T23:=q71 kq Tryz.underlying23 dc
def T24:TI:=tiS 24 3 (.int .i64)
theorem yh0:TIok Tryz.prog 24 T24:=q71 kq Tryz.underlying24 dc
def T33:TI:=tiI .i64 8
theorem yv1:TIok Tryz.prog 33 T33:=wt6 kq Tryz.underlying33 dc
def T41:TI:=tiZ (.nilFunc) 8
theorem yv2:TIok Tryz.prog 41 T41:=qu1 rfl rfl kq Tryz.underlying41 rfl dc
def T43:TI:={ agg:=true,size:=2,bytes:=16,ty:=.prod (.int .i64) (.int .i64),zero:=.cons (.lit (.int .i64 0)) (.cons (.lit (.int .i64 0)) .nil),kind:=5,dflt:=true,elem:=0,flds:=[(0,3,1),(1,3,1)],eq2:=true }
theorem yr7:TIok Tryz.prog 43 T43:=q98 (z:=.agg #[.int .i64 0,.int .i64 0]) kq rfl rfl (λm ρ=>⟨_,_,rfl,rfl,⟨_,_,rfl,rfl,rfl⟩⟩) (λ_ m=>⟨[.int .i64 0],[.int .i64 0],rfl,rfl,rfl⟩) dc dc dc rfl Tryz.underlying43 (λh=>by cases h) (λh=>by cases h) (λh=>by cases h)
 (λh=>by cases h)
 (λ_=>⟨_,Tryz.underlying43,rfl,λf hf=>by
  simp only[T43,List.mem_cons,List.not_mem_nil,or_false] at hf
  rcases hf with rfl | rfl
  ·exact⟨q6f ti3,dc⟩
  ·exact⟨q6f ti3,dc⟩⟩) dc (λ_=>wa8 Tryz.underlying43 dc dc rfl rfl Tryz.underlying3 Tryz.underlying3 kq kq)
def T53:TI:=tiS 24 43 (.prod (.int .i64) (.int .i64))
theorem yr8:TIok Tryz.prog 53 T53:=q71 kq Tryz.underlying53 dc
def T55:TI:={ agg:=true,size:=2,bytes:=48,ty:=.prod (.list (.int .i64)) (.list (.prod (.int .i64) (.int .i64))),zero:=.cons (.lit (.slice none 0 0)) (.cons (.lit (.slice none 0 0)) .nil),kind:=5,dflt:=true,elem:=0,flds:=[(0,24,1),(1,53,1)] }
theorem yv3:TIok Tryz.prog 55 T55:=q98 (z:=.agg #[.slice none 0 0,.slice none 0 0]) kq rfl rfl (λm ρ=>⟨_,_,rfl,rfl,⟨_,_,rfl,rfl,rfl⟩⟩) (λ_ m=>⟨[.slice none 0 0],[.slice none 0 0],rfl,⟨none,0,rfl,zab _,by unfold maxLen; exact zae _,λh=>absurd h (zbw 0)⟩,⟨none,0,rfl,zab _,by unfold maxLen; exact zae _,λh=>absurd h (zbw 0)⟩⟩) dc dc dc rfl Tryz.underlying55 (λh=>by cases h) (λh=>by cases h) (λh=>by cases h)
 (λh=>by cases h)
 (λ_=>⟨_,Tryz.underlying55,rfl,λf hf=>by
  simp only[T55,List.mem_cons,List.not_mem_nil,or_false] at hf
  rcases hf with rfl | rfl
  ·exact⟨q6f yh0,dc⟩
  ·exact⟨q6f yr8,dc⟩⟩) dc
def T69:TI:=tiZ (.nilFunc) 8
theorem yv4:TIok Tryz.prog 69 T69:=qu1 rfl rfl kq Tryz.underlying69 rfl dc
def T74:TI:=tiZ (.nilFunc) 8
theorem yv5:TIok Tryz.prog 74 T74:=qu1 rfl rfl kq Tryz.underlying74 rfl dc
def T82:TI:=tiZ (.nilFunc) 8
theorem yv6:TIok Tryz.prog 82 T82:=qu1 rfl rfl kq Tryz.underlying82 rfl dc
def T99:TI:=tiZ (.nilFunc) 8
theorem yv7:TIok Tryz.prog 99 T99:=qu1 rfl rfl kq Tryz.underlying99 rfl dc
def yr9:TI:=tiS 24 53 (.list (.prod (.int .i64) (.int .i64)))
theorem yh1:TIok Tryz.prog 101 yr9:=q71 kq Tryz.underlying101 dc
def ys1:TI:=tiS 24 55 (.prod (.list (.int .i64)) (.list (.prod (.int .i64) (.int .i64))))
theorem yh2:TIok Tryz.prog 104 ys1:=q71 kq Tryz.underlying104 dc
def ys2:TI:=tiZ (.nilFunc) 8
theorem yh3:TIok Tryz.prog 119 ys2:=qu1 rfl rfl kq Tryz.underlying119 rfl dc
def ys3:TI:=tiZ (.nilFunc) 8
theorem yh4:TIok Tryz.prog 121 ys3:=qu1 rfl rfl kq Tryz.underlying121 rfl dc
def ys4:TI:=tiZ (.nilFunc) 8
theorem yh5:TIok Tryz.prog 130 ys4:=qu1 rfl rfl kq Tryz.underlying130 rfl dc
def ys5:TI:=tiZ (.nilFunc) 8
theorem yh6:TIok Tryz.prog 137 ys5:=qu1 rfl rfl kq Tryz.underlying137 rfl dc
def yh7:TI:={ agg:=true,size:=2,bytes:=48,ty:=.prod (.list (.list (.int .i64))) (.list (.int .i64)),zero:=.cons (.lit (.slice none 0 0)) (.cons (.lit (.slice none 0 0)) .nil),kind:=5,dflt:=true,elem:=0,flds:=[(0,23,1),(1,24,1)] }
theorem yh8:TIok Tryz.prog 143 yh7:=q98 (z:=.agg #[.slice none 0 0,.slice none 0 0]) kq rfl rfl (λm ρ=>⟨_,_,rfl,rfl,⟨_,_,rfl,rfl,rfl⟩⟩) (λ_ m=>⟨[.slice none 0 0],[.slice none 0 0],rfl,⟨none,0,rfl,zab _,by unfold maxLen; exact zae _,λh=>absurd h (zbw 0)⟩,⟨none,0,rfl,zab _,by unfold maxLen; exact zae _,λh=>absurd h (zbw 0)⟩⟩) dc dc dc rfl Tryz.underlying143 (λh=>by cases h) (λh=>by cases h) (λh=>by cases h)
 (λh=>by cases h)
 (λ_=>⟨_,Tryz.underlying143,rfl,λf hf=>by
  simp only[yh7,List.mem_cons,List.not_mem_nil,or_false] at hf
  rcases hf with rfl | rfl
  ·exact⟨q6f yr6,dc⟩
  ·exact⟨q6f yh0,dc⟩⟩) dc
def ys6:TI:=tiI .u64 8
theorem x77:TIok Tryz.prog 147 ys6:=wt6 kq Tryz.underlying147 dc
def yh9:TI:={ agg:=true,size:=2,bytes:=16,ty:=.prod (.int .i64) (.int .u64),zero:=.cons (.lit (.int .i64 0)) (.cons (.lit (.int .u64 0)) .nil),kind:=5,dflt:=true,elem:=0,flds:=[(0,2,1),(1,147,1)],eq2:=true }
theorem yi0:TIok Tryz.prog 149 yh9:=q98 (z:=.agg #[.int .i64 0,.int .u64 0]) kq rfl rfl (λm ρ=>⟨_,_,rfl,rfl,⟨_,_,rfl,rfl,rfl⟩⟩) (λ_ m=>⟨[.int .i64 0],[.int .u64 0],rfl,rfl,rfl⟩) dc dc dc rfl Tryz.underlying149 (λh=>by cases h) (λh=>by cases h) (λh=>by cases h)
 (λh=>by cases h)
 (λ_=>⟨_,Tryz.underlying149,rfl,λf hf=>by
  simp only[yh9,List.mem_cons,List.not_mem_nil,or_false] at hf
  rcases hf with rfl | rfl
  ·exact⟨q6f ti2,dc⟩
  ·exact⟨q6f x77,dc⟩⟩) dc (λ_=>wa8 Tryz.underlying149 dc dc rfl rfl Tryz.underlying2 Tryz.underlying147 kq kq)
def ys7:TI:=tiZ (.nilFunc) 8
theorem yi1:TIok Tryz.prog 161 ys7:=qu1 rfl rfl kq Tryz.underlying161 rfl dc
def ys8:TI:=tiZ (.nilFunc) 8
theorem yi2:TIok Tryz.prog 163 ys8:=qu1 rfl rfl kq Tryz.underlying163 rfl dc
def ys9:TI:=tiZ (.nilFunc) 8
theorem yi3:TIok Tryz.prog 178 ys9:=qu1 rfl rfl kq Tryz.underlying178 rfl dc
def yt0:TI:=tiZ (.nilFunc) 8
theorem yi4:TIok Tryz.prog 189 yt0:=qu1 rfl rfl kq Tryz.underlying189 rfl dc
def yt1:TI:=tiZ (.nilFunc) 8
theorem yi5:TIok Tryz.prog 193 yt1:=qu1 rfl rfl kq Tryz.underlying193 rfl dc
def yt2:TI:=tiZ (.nilFunc) 8
theorem yi6:TIok Tryz.prog 195 yt2:=qu1 rfl rfl kq Tryz.underlying195 rfl dc
def yt3:TI:=tiI .u64 8
theorem yi7:TIok Tryz.prog 199 yt3:=wt6 kq Tryz.underlying199 dc
def yt4:TI:=tiZ (.nilFunc) 8
theorem yi8:TIok Tryz.prog 203 yt4:=qu1 rfl rfl kq Tryz.underlying203 rfl dc
def yi9:TI:={ agg:=true,size:=2,bytes:=16,ty:=.prod (.int .i64) (.int .i64),zero:=.cons (.lit (.int .i64 0)) (.cons (.lit (.int .i64 0)) .nil),kind:=5,dflt:=true,elem:=0,flds:=[(0,43,2)] }
theorem yj0:TIok Tryz.prog 220 yi9:=q98 (z:=.agg #[.int .i64 0,.int .i64 0]) kq rfl rfl (λm ρ=>⟨_,_,rfl,rfl,⟨_,_,rfl,rfl,rfl⟩⟩) (λ_ m=>⟨[.int .i64 0],[.int .i64 0],rfl,rfl,rfl⟩) dc dc dc rfl Tryz.underlying220 (λh=>by cases h) (λh=>by cases h) (λh=>by cases h)
 (λh=>by cases h)
 (λ_=>⟨_,Tryz.underlying220,rfl,λf hf=>by
  simp only[yi9,List.mem_cons,List.not_mem_nil,or_false] at hf
  rcases hf with rfl
  ·exact⟨q6f yr7,dc⟩⟩) dc
def yt5:TI:=tiS 24 3 (.int .i64)
theorem x4f:TIok Tryz.prog 226 yt5:=q71 kq Tryz.underlying226 dc
def yj1:TI:={ agg:=true,size:=3,bytes:=56,ty:=.prod (.bool) (.prod (.list (.int .i64)) (.list (.int .i64))),zero:=.cons (.ff) (.cons (.lit (.slice none 0 0)) (.cons (.lit (.slice none 0 0)) .nil)),kind:=5,dflt:=true,elem:=0,flds:=[(0,4,1),(1,226,1),(2,226,1)] }
theorem yj2:TIok Tryz.prog 228 yj1:=q98 (z:=.agg #[.bool false,.slice none 0 0,.slice none 0 0]) kq rfl rfl (λm ρ=>⟨_,_,rfl,rfl,⟨_,_,rfl,rfl,⟨_,_,rfl,rfl,rfl⟩⟩⟩) (λ_ m=>⟨[.bool false],[.slice none 0 0,.slice none 0 0],rfl,rfl,⟨[.slice none 0 0],[.slice none 0 0],rfl,⟨none,0,rfl,zab _,by unfold maxLen; exact zae _,λh=>absurd h (zbw 0)⟩,⟨none,0,rfl,zab _,by unfold maxLen; exact zae _,λh=>absurd h (zbw 0)⟩⟩⟩) dc dc dc rfl Tryz.underlying228 (λh=>by cases h) (λh=>by cases h) (λh=>by cases h)
 (λh=>by cases h)
 (λ_=>⟨_,Tryz.underlying228,rfl,λf hf=>by
  simp only[yj1,List.mem_cons,List.not_mem_nil,or_false] at hf
  rcases hf with rfl | rfl | rfl
  ·exact⟨q6f ti4,dc⟩
  ·exact⟨q6f x4f,dc⟩
  ·exact⟨q6f x4f,dc⟩⟩) dc
def tys:List (Nat × TI):=[(2,T2),(3,T3),(4,T4),(22,T22),(23,T23),(24,T24),(33,T33),(41,T41),(43,T43),(53,T53),(55,T55),(69,T69),(74,T74),(82,T82),(99,T99),(101,yr9),(104,ys1),(119,ys2),(121,ys3),(130,ys4),(137,ys5),(143,yh7),(147,ys6),(149,yh9),(161,ys7),(163,ys8),(178,ys9),(189,yt0),(193,yt1),(195,yt2),(199,yt3),(203,yt4),(220,yi9),(226,yt5),(228,yj1)]
theorem xb8 {α:Type} {i j:Nat} {v w:α} {l:List (Nat × α)} (h:find ((j,v) :: l) i=some w):(i=j/\w=v)\/find l i=some w:=by
 simp only[find] at h
 split at h
 ·rename_i e; exact .inl ⟨(zac e).symm,by injection h with h; exact h.symm⟩
 ·exact .inr h
theorem x4g {P:Program}:∀t T,find ([]:List (Nat × TI)) t=some T->TIok P t T:=λ_ _ h=>by cases h
theorem qe9 {P:Program} {j:Nat} {U:TI} {l:List (Nat × TI)} (h:TIok P j U) (r:∀t T,find l t=some T->TIok P t T):∀t T,find ((j,U) :: l) t=some T->TIok P t T:=λt T e=>by
 rcases xb8 e with⟨rfl,rfl⟩ | e
 ·exact h
 ·exact r t T e
set_option maxRecDepth 100000 in
theorem q4f:∀t T,find tys t=some T->TIok Tryz.prog t T:=by
 unfold tys
 exact qe9 ti2 <| qe9 ti3 <| qe9 ti4 <| qe9 yv0 <| qe9 yr6 <| qe9 yh0 <| qe9 yv1 <| qe9 yv2 <| qe9 yr7 <| qe9 yr8 <| qe9 yv3 <| qe9 yv4 <| qe9 yv5 <| qe9 yv6 <| qe9 yv7 <| qe9 yh1 <| qe9 yh2 <| qe9 yh3 <| qe9 yh4 <| qe9 yh5 <| qe9 yh6 <| qe9 yh8 <| qe9 x77 <| qe9 yi0 <| qe9 yi1 <| qe9 yi2 <| qe9 yi3 <| qe9 yi4 <| qe9 yi5 <| qe9 yi6 <| qe9 yi7 <| qe9 yi8 <| qe9 yj0 <| qe9 x4f <| qe9 yj2 <| x4g
end Go.Proofs.YtnchigbbjajiiaaGreat
