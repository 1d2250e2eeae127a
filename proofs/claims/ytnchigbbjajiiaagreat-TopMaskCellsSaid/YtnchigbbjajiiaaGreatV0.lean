/- Types and contexts for the engine at this seat. No condition. -/
import Derived.Test.YtnchigbbjajiiaaGreatTys
set_option linter.unusedSimpArgs false
set_option linter.unusedVariables false
namespace Go.Proofs.YtnchigbbjajiiaaGreat
open Go Go.RowKit Eng
abbrev qb9:Ty:=.int .i64
abbrev qd4:Ty:=.list (.int .i64)
set_option linter.defProp false
def z0:=@ne_eq
def z1:=@true_and
def z2:=@and_true
def z3:=@eq_self
def z4:=@Bool.not_eq_true'
def z5:=@Bool.not_eq_false'
def z6:=@decide_eq_true_eq
def z7:=@decide_eq_false_iff_not
def z8:=@Nat.le_eq
def z9:=@Int.not_lt
def z10:=@Int.not_le
def z11:=@not_false_eq_true
def z12:=@Bool.not_eq_eq_eq_not
def z13:=@Bool.not_true
def z14:=@Bool.not_false
def z15:=@Int.ofNat_lt
def z16:=@Int.ofNat_le
def z17:=@Int.toNat_natCast
def z18:=@Int.natCast_nonneg
def z19:=@beq_iff_eq
def z20:=@bne_iff_ne
def z21:=@beq_eq_false_iff_ne
def z22:=@bne_eq_false_iff_eq
def z23:=@Classical.not_not
def z24:=@List.length_cons
def z25:=@List.length_nil
def z26:=@Nat.zero_add
def z27:=@List.nil_append
def z28:=@true_implies
def z29:=@Nat.lt_add_one
def z30:=@Nat.zero_lt_succ
def z31:=@List.set_cons_zero
def z32:=@List.cons.injEq
def z33:=@implies_true
def z34:=@dite_eq_ite
abbrev qf8:Ty:=.list (.list (.int .i64))
abbrev qy8:Ty:=.prod (.int .i64) (.int .i64)
abbrev x8u:Ty:=.list (.prod (.int .i64) (.int .i64))
abbrev x1e:Ty:=.prod (.list (.int .i64)) (.list (.prod (.int .i64) (.int .i64)))
def nI (l:List Int) (i:Nat):Int:=qe5 (.int .i64) l i
def nL (m:List (List Int)) (i:Nat):List Int:=qe5 (.list (.int .i64)) m i
theorem ww3 (l:List Int) (i:Nat):qe5 (.int .i64) l i=nI l i:=rfl
theorem ww4 (m:List (List Int)) (i:Nat):qe5 (.list (.int .i64)) m i=nL m i:=rfl
theorem qf2 (l:List Int) (i:Nat) (h:i<l.length):nI l i=l[i]:=qo1 (t:=.int .i64) l i h
theorem qk3 (m:List (List Int)) (i:Nat) (h:i<m.length):nL m i=m[i]:=qo1 (t:=.list (.int .i64)) m i h
theorem wm2 (l:List Int):nL [l] 0=l:=rfl
def ctx (specs:List (Nat × qa8)):Ctx:={ specs:=specs,tys:=tys,wr:=[] }
theorem snd {specs:List (Nat × qa8)} (h:SpecsOk Tryz.prog specs):Sound Tryz.prog (ctx specs):=SpecsOk.sound h qz5 kr
def ym1 (wr:List Nat) (specs:List (Nat × qa8)):Ctx:={ specs:=specs,tys:=tys,wr:=wr }
theorem yi7 (wr:List Nat) {specs:List (Nat × qa8)} (h:SpecsOk Tryz.prog specs):Sound Tryz.prog (ym1 wr specs):=SpecsOk.sound h qz5 kr
def x4z (mats em:List Nat) (specs:List (Nat × qa8)):Ctx:={ specs:=specs,tys:=tys,wr:=[],mats:=mats,em:=em }
theorem x8v (mats em:List Nat) {specs:List (Nat × qa8)} (h:SpecsOk Tryz.prog specs):Sound Tryz.prog (x4z mats em specs):=SpecsOk.sound h qz5 kr
theorem ym2 (mats:List Nat) {specs:List (Nat × qa8)} (h:SpecsOk Tryz.prog specs):Sound Tryz.prog (x4z mats [] specs):=SpecsOk.sound h qz5 kr
def MutsOk (muts:List (Nat × MSpec)):Prop:=∀f M,find muts f=some M->qo6 Tryz.prog f M
theorem MutsOk.nil:MutsOk []:=λf M h=>by cases h
theorem MutsOk.cons {f:Nat} {M:MSpec} {l:List (Nat × MSpec)} (h:qo6 Tryz.prog f M) (k:MutsOk l):MutsOk ((f,M) :: l):=by
 intro g S hg
 simp only[find] at hg
 split at hg
 ·simp_all
 ·exact k g S hg
def ym3 (specs:List (Nat × qa8)) (muts:List (Nat × MSpec)):Ctx:={ specs:=specs,tys:=tys,wr:=[],muts:=muts }
theorem x42 {specs:List (Nat × qa8)} {muts:List (Nat × MSpec)} (h:SpecsOk Tryz.prog specs) (hm:MutsOk muts):Sound Tryz.prog (ym3 specs muts):=SpecsOk.sound h qz5 kr (hmu:=hm)
def x8w (nm:List Nat) (specs:List (Nat × qa8)) (muts:List (Nat × MSpec)):Ctx:={ specs:=specs,tys:=tys,wr:=[],muts:=muts,nm:=nm }
theorem x8y (nm:List Nat) {specs:List (Nat × qa8)} {muts:List (Nat × MSpec)} (h:SpecsOk Tryz.prog specs) (hm:MutsOk muts):Sound Tryz.prog (x8w nm specs muts):=SpecsOk.sound h qz5 kr (hmu:=hm)
def ItsOk (its:List (Nat × qz6)):Prop:=∀F S,find its F=some S->qv9 Tryz.prog F S
theorem ItsOk.nil:ItsOk []:=λf M h=>by cases h
theorem ItsOk.cons {f:Nat} {M:qz6} {l:List (Nat × qz6)} (h:qv9 Tryz.prog f M) (k:ItsOk l):ItsOk ((f,M) :: l):=by
 intro g S hg
 simp only[find] at hg
 split at hg
 ·simp_all
 ·exact k g S hg
def ym4 (specs:List (Nat × qa8)) (its:List (Nat × qz6)):Ctx:={ specs:=specs,tys:=tys,wr:=[],its:=its }
theorem x6x {specs:List (Nat × qa8)} {its:List (Nat × qz6)} (h:SpecsOk Tryz.prog specs) (hi:ItsOk its):Sound Tryz.prog (ym4 specs its):=SpecsOk.sound h qz5 kr hi
def ovr (t:Ty) (g:Nat->t.den) (l:List t.den) (k:Nat):List t.den:=(List.range l.length).map λi=>if i<k then g i else qe5 t l i
theorem qy9 (t:Ty) (g:Nat->t.den) (l:List t.den) (k:Nat):(ovr t g l k).length=l.length:=by simp[ovr]
theorem q3j (t:Ty) (g:Nat->t.den) (l:List t.den):ovr t g l 0=l:=by
 apply zbo (qy9 t g l 0)
 simp_all [ovr,List.getElem_map,List.getElem_range,Nat.not_lt_zero,if_false,qo1]
theorem q7c (t:Ty) (g:Nat->t.den) (l:List t.den) (k:Nat) (hk:l.length<=k):ovr t g l k=(List.range l.length).map g:=by
 unfold ovr
 apply zbz
 grind
theorem q9h (t:Ty) (g:Nat->t.den) (l:List t.den) (k i:Nat) (hi:i<l.length):qe5 t (ovr t g l k) i=if i<k then g i else qe5 t l i:=by
 grind [qo1,qy9,ovr]
theorem q1b (t:Ty) (g:Nat->t.den) (l:List t.den) (k:Nat):(ovr t g l k).set k (g k)=ovr t g l (k+1):=by
 apply zbo (by grind [List.length_set,qy9])
 intro i h1 h2
 rw[zcc]
 simp only[ovr,List.getElem_map,List.getElem_range]
 grind
theorem vcr {A C:Prop} (B:Prop) (c:C) (s:B=C:=by rfl) (e:A=B:=by kernel_rfl):A:=e ▸ s ▸ c
theorem vcs {A C:Prop} (B:Prop) (c:C) (s:B=C:=by(conv=>lhs; (try simp only[z0,z1,z2,z3,z4,z5,z6,z7,z8,z9,z10,Int.reduceEq,z11,z12,z13,z14,z15,z16,z17,z18,z19,z20,z21,z22,z23,z24,z25,z26,z27,z28,z29,z30,Int.reduceLE,Int.reduceLT,z31,z32,z33,z34,q8w]); (try simp only[ww3,ww4,wm2,z31,z32,z2,z1])); try rfl) (e:A=B:=by kernel_rfl):A:=e ▸ s ▸ c
theorem vct {A:Prop} (B:Prop) (s:B:=by(try simp only[z0,z1,z2,z3,z4,z5,z6,z7,z8,z9,z10,Int.reduceEq,z11,z12,z13,z14,z15,z16,z17,z18,z19,z20,z21,z22,z23,z24,z25,z26,z27,z28,z29,z30,Int.reduceLE,Int.reduceLT,z31,z32,z33,z34,q8w]); (try simp only[ww3,ww4,wm2,z31,z32,z2,z1]); try trivial) (e:A=B:=by kernel_rfl):A:=e ▸ s
theorem mts {S : List (Nat × qa8)} (h : SpecsOk Tryz.prog S) {f : Nat} {fn : Func} {c : Code} (hf : Tryz.prog.funcs[f]? = some fn) {fresh : Bool} {own : Option Nat} {ins outs : List Ty} {pre : qa3 ins -> Prop} {g : qa3 ins -> qa3 outs} (iv : qa3 ins -> Nat -> Option Inv) (k : ∀ x, pre x -> x7k (ctx S) (iv x) fresh own ins outs c fn.results.toList x (g x)) (hb : fn.body = some c := by rfl) (hn : (fn.name == "runtime.NumGoroutine") = false := by rfl) (hd : ∀ x, (qm7 (iv x) c 0).all (fun d => Nat.blt d fn.ntmps) = true := by exact fun _ => by kernel_rfl) (hl : ins.length <= fn.ntmps := by decide) : Meets Tryz.prog f (qe4 fresh own ins outs pre g) := meets (snd h) hf hn hb iv hd hl k
theorem mt0 {S : List (Nat × qa8)} (h : SpecsOk Tryz.prog S) {f : Nat} {fn : Func} {c : Code} (hf : Tryz.prog.funcs[f]? = some fn) {fresh : Bool} {own : Option Nat} {ins outs : List Ty} {pre : qa3 ins -> Prop} {g : qa3 ins -> qa3 outs} (k : ∀ x, pre x -> x7k (ctx S) (fun _ => none) fresh own ins outs c fn.results.toList x (g x)) (hb : fn.body = some c := by rfl) (hn : (fn.name == "runtime.NumGoroutine") = false := by rfl) (hd : (qm7 (fun _ => none) c 0).all (fun d => Nat.blt d fn.ntmps) = true := by kernel_rfl) (hl : ins.length <= fn.ntmps := by decide) : Meets Tryz.prog f (qe4 fresh own ins outs pre g) := mts h hf (fun _ _ => none) k hb hn (fun _ => hd) hl
end Go.Proofs.YtnchigbbjajiiaaGreat
