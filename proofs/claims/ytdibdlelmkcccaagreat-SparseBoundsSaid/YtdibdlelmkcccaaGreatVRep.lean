/- slices.Repeat of one fraction, and what it asks of math/bits. No condition. -/
import Derived.Test.YtdibdlelmkcccaaGreatV15
set_option linter.unusedVariables false
set_option linter.unusedSimpArgs false
namespace Go.Proofs.YtdibdlelmkcccaaGreat
open Go Go.RowKit Eng Ls
abbrev tU:Ty:=.int .u64
theorem ww6 {a:Int} (h0:0<=a) (h1:a<4294967296):IntKind.u64.wrap ((BitVec.ofInt 64 a &&& BitVec.ofInt 64 4294967295).toNat:Int)=a:=by
 have e1:(BitVec.ofInt 64 a).toNat=a.toNat:=by
  rw[BitVec.toNat_ofInt]
  omega
 have e2:(BitVec.ofInt 64 4294967295).toNat=2 ^ 32-1:=by decide
 rw[BitVec.toNat_and,e1,e2,Nat.and_two_pow_sub_one_eq_mod]
 have e3:a.toNat % 2 ^ 32=a.toNat:=Nat.mod_eq_of_lt (by omega)
 rw[e3]
 have e4:((a.toNat:Nat):Int)=a:=by omega
 rw[e4]
 exact Go.IntWalk.u64_in a (by omega)
theorem wf6 {a:Int} (h0:0<=a) (h1:a<4294967296):a.fdiv 4294967296=0:=by
 rw[Int.fdiv_eq_ediv_of_nonneg _ (by decide)]
 omega
theorem x2d {x:Int} (h0:0<=x) (h1:x<=18446744073709551615):fits IntKind.u64 x:=by
 first
  | exact⟨h0,h1⟩
  | (unfold fits; simp[IntKind.lo,IntKind.hi]; omega)
  | (unfold fits; exact Go.IntWalk.u64_in x ⟨h0,h1⟩)
abbrev x2e:qc0:=qf8 true none [tU,tU] [tU,tU] (λx=>x.1=1/\0<=x.2.1/\x.2.1<=1000000) (λx=>(0,x.2.1,()))
theorem ww7:qd3 Tryz.prog 150 x2e:=by
 refine meets (snd (SpecsOk.nil _)) Tryz.func150 rfl rfl (λ_ _=>none) (λ_=>by kernel_rfl) (by decide) ?_
 rintro⟨x,y,⟨⟩⟩ h
 revert x y
 intro(x:Int) (y:Int) (h:x=1/\0<=y/\y<=1000000)
 refine @qd8 _ ((0:Int)<=(32:Int)/\(0:Int)<=(32:Int)/\fits IntKind.u64 (IntKind.wrap IntKind.u64 (↑(BitVec.toNat (BitVec.ofInt (64:Nat) x &&& BitVec.ofInt (64:Nat) (4294967295:Int))):Int)*IntKind.wrap IntKind.u64 (↑(BitVec.toNat (BitVec.ofInt (64:Nat) y &&& BitVec.ofInt (64:Nat) (4294967295:Int))):Int))/\fits IntKind.u64 (Int.fdiv x (4294967296:Int)*IntKind.wrap IntKind.u64 (↑(BitVec.toNat (BitVec.ofInt (64:Nat) y &&& BitVec.ofInt (64:Nat) (4294967295:Int))):Int))/\(0:Int)<=(32:Int)/\fits IntKind.u64 (Int.fdiv x (4294967296:Int)*IntKind.wrap IntKind.u64 (↑(BitVec.toNat (BitVec.ofInt (64:Nat) y &&& BitVec.ofInt (64:Nat) (4294967295:Int))):Int)+Int.fdiv (IntKind.wrap IntKind.u64 (↑(BitVec.toNat (BitVec.ofInt (64:Nat) x &&& BitVec.ofInt (64:Nat) (4294967295:Int))):Int)*IntKind.wrap IntKind.u64 (↑(BitVec.toNat (BitVec.ofInt (64:Nat) y &&& BitVec.ofInt (64:Nat) (4294967295:Int))):Int)) (4294967296:Int))/\(0:Int)<=(32:Int)/\fits IntKind.u64 (IntKind.wrap IntKind.u64 (↑(BitVec.toNat (BitVec.ofInt (64:Nat) x &&& BitVec.ofInt (64:Nat) (4294967295:Int))):Int)*Int.fdiv y (4294967296:Int))/\fits IntKind.u64 (IntKind.wrap IntKind.u64 (↑(BitVec.toNat (BitVec.ofInt (64:Nat) (Int.fdiv x (4294967296:Int)*IntKind.wrap IntKind.u64 (↑(BitVec.toNat (BitVec.ofInt (64:Nat) y &&& BitVec.ofInt (64:Nat) (4294967295:Int))):Int)+Int.fdiv (IntKind.wrap IntKind.u64 (↑(BitVec.toNat (BitVec.ofInt (64:Nat) x &&& BitVec.ofInt (64:Nat) (4294967295:Int))):Int)*IntKind.wrap IntKind.u64 (↑(BitVec.toNat (BitVec.ofInt (64:Nat) y &&& BitVec.ofInt (64:Nat) (4294967295:Int))):Int)) (4294967296:Int)) &&& BitVec.ofInt (64:Nat) (4294967295:Int))):Int)+IntKind.wrap IntKind.u64 (↑(BitVec.toNat (BitVec.ofInt (64:Nat) x &&& BitVec.ofInt (64:Nat) (4294967295:Int))):Int)*Int.fdiv y (4294967296:Int))/\fits IntKind.u64 (Int.fdiv x (4294967296:Int)*Int.fdiv y (4294967296:Int))/\fits IntKind.u64 (Int.fdiv x (4294967296:Int)*Int.fdiv y (4294967296:Int)+Int.fdiv (Int.fdiv x (4294967296:Int)*IntKind.wrap IntKind.u64 (↑(BitVec.toNat (BitVec.ofInt (64:Nat) y &&& BitVec.ofInt (64:Nat) (4294967295:Int))):Int)+Int.fdiv (IntKind.wrap IntKind.u64 (↑(BitVec.toNat (BitVec.ofInt (64:Nat) x &&& BitVec.ofInt (64:Nat) (4294967295:Int))):Int)*IntKind.wrap IntKind.u64 (↑(BitVec.toNat (BitVec.ofInt (64:Nat) y &&& BitVec.ofInt (64:Nat) (4294967295:Int))):Int)) (4294967296:Int)) (4294967296:Int))/\(0:Int)<=(32:Int)/\fits IntKind.u64 (Int.fdiv x (4294967296:Int)*Int.fdiv y (4294967296:Int)+Int.fdiv (Int.fdiv x (4294967296:Int)*IntKind.wrap IntKind.u64 (↑(BitVec.toNat (BitVec.ofInt (64:Nat) y &&& BitVec.ofInt (64:Nat) (4294967295:Int))):Int)+Int.fdiv (IntKind.wrap IntKind.u64 (↑(BitVec.toNat (BitVec.ofInt (64:Nat) x &&& BitVec.ofInt (64:Nat) (4294967295:Int))):Int)*IntKind.wrap IntKind.u64 (↑(BitVec.toNat (BitVec.ofInt (64:Nat) y &&& BitVec.ofInt (64:Nat) (4294967295:Int))):Int)) (4294967296:Int)) (4294967296:Int)+Int.fdiv (IntKind.wrap IntKind.u64 (↑(BitVec.toNat (BitVec.ofInt (64:Nat) (Int.fdiv x (4294967296:Int)*IntKind.wrap IntKind.u64 (↑(BitVec.toNat (BitVec.ofInt (64:Nat) y &&& BitVec.ofInt (64:Nat) (4294967295:Int))):Int)+Int.fdiv (IntKind.wrap IntKind.u64 (↑(BitVec.toNat (BitVec.ofInt (64:Nat) x &&& BitVec.ofInt (64:Nat) (4294967295:Int))):Int)*IntKind.wrap IntKind.u64 (↑(BitVec.toNat (BitVec.ofInt (64:Nat) y &&& BitVec.ofInt (64:Nat) (4294967295:Int))):Int)) (4294967296:Int)) &&& BitVec.ofInt (64:Nat) (4294967295:Int))):Int)+IntKind.wrap IntKind.u64 (↑(BitVec.toNat (BitVec.ofInt (64:Nat) x &&& BitVec.ofInt (64:Nat) (4294967295:Int))):Int)*Int.fdiv y (4294967296:Int)) (4294967296:Int))/\fits IntKind.u64 (x*y)/\Int.fdiv x (4294967296:Int)*Int.fdiv y (4294967296:Int)+Int.fdiv (Int.fdiv x (4294967296:Int)*IntKind.wrap IntKind.u64 (↑(BitVec.toNat (BitVec.ofInt (64:Nat) y &&& BitVec.ofInt (64:Nat) (4294967295:Int))):Int)+Int.fdiv (IntKind.wrap IntKind.u64 (↑(BitVec.toNat (BitVec.ofInt (64:Nat) x &&& BitVec.ofInt (64:Nat) (4294967295:Int))):Int)*IntKind.wrap IntKind.u64 (↑(BitVec.toNat (BitVec.ofInt (64:Nat) y &&& BitVec.ofInt (64:Nat) (4294967295:Int))):Int)) (4294967296:Int)) (4294967296:Int)+Int.fdiv (IntKind.wrap IntKind.u64 (↑(BitVec.toNat (BitVec.ofInt (64:Nat) (Int.fdiv x (4294967296:Int)*IntKind.wrap IntKind.u64 (↑(BitVec.toNat (BitVec.ofInt (64:Nat) y &&& BitVec.ofInt (64:Nat) (4294967295:Int))):Int)+Int.fdiv (IntKind.wrap IntKind.u64 (↑(BitVec.toNat (BitVec.ofInt (64:Nat) x &&& BitVec.ofInt (64:Nat) (4294967295:Int))):Int)*IntKind.wrap IntKind.u64 (↑(BitVec.toNat (BitVec.ofInt (64:Nat) y &&& BitVec.ofInt (64:Nat) (4294967295:Int))):Int)) (4294967296:Int)) &&& BitVec.ofInt (64:Nat) (4294967295:Int))):Int)+IntKind.wrap IntKind.u64 (↑(BitVec.toNat (BitVec.ofInt (64:Nat) x &&& BitVec.ofInt (64:Nat) (4294967295:Int))):Int)*Int.fdiv y (4294967296:Int)) (4294967296:Int)=(0:Ty.den tU)/\x*y=y/\True) (by kernel_rfl) ?_
 try simp only[z0,z1,z2,z3,z4,z5,z6,z7,z8,z9,z10,Int.reduceEq,z11,z12,z13,z14,z15,z16,z17,z18,z19,z20,z21,z22,z23,z24,z25,z26,z27,z28,z29,z30,Int.reduceLE,Int.reduceLT,z31,z32,z33,z34,qa4]
 try simp only[qb6,qb7,qc8,List.set_cons_zero,List.cons.injEq,and_true,true_and]
 obtain⟨rfl,h0,h1⟩:=h
 have e1:=ww6 (a:=1) (by decide) (by decide)
 have e2:=ww6 (a:=y) h0 (by omega)
 have e0:=ww6 (a:=0) (by decide) (by decide)
 have d1:=wf6 (a:=1) (by decide) (by decide)
 have d2:=wf6 (a:=y) h0 (by omega)
 have d0:=wf6 (a:=0) (by decide) (by decide)
 simp only[e1,e2,d1,d2,Int.zero_mul,Int.mul_zero,Int.one_mul,Int.zero_add,Int.add_zero,e0,d0]
 have f0:fits IntKind.u64 0:=x2d (by decide) (by decide)
 have f1:fits IntKind.u64 y:=x2d h0 (by omega)
 exact⟨f1,f0,f0,f0,f0,f0,f0,f0,f1,trivial,trivial⟩
theorem w81:qd3 Tryz.prog 138 x2e:=by
 refine meets (snd (SpecsOk.cons ww7 (SpecsOk.nil _))) Tryz.func138 rfl rfl (λ_ _=>none) (λ_=>by kernel_rfl) (by decide) ?_
 rintro⟨x,y,⟨⟩⟩ h
 revert x y
 intro(x:Int) (y:Int) (h:x=1/\0<=y/\y<=1000000)
 refine @qd8 _ ((x=(1:Ty.den tU)/\(0:Ty.den tU)<=y/\y<=(1000000:Ty.den tU))/\(0:Ty.den tU)=(0:Ty.den tU)/\y=y/\True) (by kernel_rfl) ?_
 try simp only[z0,z1,z2,z3,z4,z5,z6,z7,z8,z9,z10,Int.reduceEq,z11,z12,z13,z14,z15,z16,z17,z18,z19,z20,z21,z22,z23,z24,z25,z26,z27,z28,z29,z30,Int.reduceLE,Int.reduceLT,z31,z32,z33,z34,qa4]
 try simp only[qb6,qb7,qc8,List.set_cons_zero,List.cons.injEq,and_true,true_and]
 exact h
theorem ww8 {P:Program} (w:World) (dT sT ty elem:TypeId) (sz g o dLen dCap:Nat) (a:Addr) (sLen sCap:Nat) (cur:Array Value) (t:TypeId) (cs:List Value)
  (hu:P.underlying dT=some (.slice elem)) (hs:(P.info? elem).map (·.size)=some sz)
  (hg:w.heap[g]? = some (.cells cur t (0,0))) (hn:cs.length=Nat.min sLen dLen*sz)
  (hsrc:∀j v,cs[j]? = some v->w.cell? (a.add j)=some v) (hfit:o+cs.length<=cur.size) (h1:∀v∈cs,v.oneCell'=true) :
  (Builtin.copy_ #[dT,sT] ty #[.slice (some ⟨g,o,none⟩) dLen dCap,.slice (some a) sLen sCap]).run P w =
   .ok (goInt (Nat.min sLen dLen)) (w.setRow g (cur.toList.take o++cs++cur.toList.drop (o+cs.length)).toArray):=by
 have hl:=run_loadCells_list (P:=P) w a cs hsrc
 have hst:=run_storeCells_at P g o t cs 0 cur w hg (by simpa using hfit) h1
 cases hq:P.info? elem with
 | none=>simp[hq] at hs
 | some i=>
  have hi:i.size=sz:=by simpa[hq] using hs
  simp[Builtin.copy_,run_underlying hu,Builtin.lenOf,Builtin.firstCells,sizeOf,typeInfo,hq,hi,<- hn,hl,hst]
theorem w82 (n:Nat) (hn:n<=1000000) (w:World):Calls Tryz.prog 138 #[.int .u64 1,.int .u64 n] w λe w'=>e=.returned (.tuple #[.int .u64 0,.int .u64 n])/\Below w.heap.size w w':=by
 have hx:qt4 (λb=>w.heap[b]?) [tU,tU] ((1:Int),(n:Int),()) [.int .u64 1,.int .u64 n]:=⟨_,_,rfl,rfl,_,_,rfl,rfl,rfl⟩
 refine(w08 (x:=(((1:Int),(n:Int),()):qa5 [tU,tU])) w81 (View.full_on w) ⟨rfl,Int.natCast_nonneg _,Int.ofNat_le.2 hn⟩ hx).mono λe w' ⟨v,m',e1,e2,_,_,e5⟩=>⟨?_,e2⟩
 obtain⟨cs,e6,e7⟩:=e5
 obtain⟨v1,r1,rfl,e8,e9⟩:=e7
 obtain⟨v2,r2,rfl,e10,e11⟩:=e9
 have e11:r2=[]:=e11
 have e8:[v1]=[.int .u64 0]:=e8
 have e10:[v2]=[.int .u64 n]:=e10
 rw[e1,(List.cons.inj e6).1,(List.cons.inj e8).1,(List.cons.inj e10).1,e11]
def rp (n:Nat) (a b:Int):List Value:=(List.replicate n [Value.int .i64 a,.int .i64 b]).flatten
theorem ya9:Elt Tryz.prog 25 42 (.agg #[.int .i64 0,.int .i64 0]) 2 16:=⟨Tryz.underlying25,by kernel_rfl⟩
theorem xv9 {P:Program} (w:World) {t e:TypeId} {z:Value} {sz bytes:Nat} (E:Elt P t e z sz bytes) (n:Nat) (hb:n<=1000000) (hby:bytes<=1000000) :
  ∃w' cur,(Instr.makeSlice t (.int .i64 (n:Int)) (.int .i64 (n:Int))).run P w=.ok (.slice (some ⟨w.heap.size,0,none⟩) n n) w'/\w'.heap[w.heap.size]? = some (.cells cur e (0,0))/\cur.size=n*sz/\Below w.heap.size w w':=by
 obtain⟨i,hi,hz0,hz1,hz2⟩:=info_parts E.info
 have hbb:bytes*n<=1000000*1000000:=Nat.mul_le_mul hby hb
 obtain⟨w',hrun,h1,h2⟩:=run_make_full (P:=P) w w.heap.size t e i z sz E.under hi hz0 hz1 .i64 .i64 n (by rw[hz2]; omega) (by unfold maxLen; omega) (Nat.le_refl _)
 rcases h1.2 with⟨e1,_⟩ | ⟨g,cap,cur,e1,_,hg,_,_,hs,_⟩
 ·cases e1
 ·injection e1 with e2 e3 e4
  injection e2 with e2
  injection e2 with e2
  refine⟨w',cur,hrun,by rw[e2]; exact hg,by rw[hs,<- e4],below_none h2⟩
theorem xm7 (n:Nat) (a b:Int):(rp n a b).length=n*2:=by simp[rp]
theorem xm8 (m n:Nat) (a b:Int):rp m a b++rp n a b=rp (m+n) a b:=by
 unfold rp
 rw[<- List.replicate_append_replicate,List.flatten_append]
theorem x2f (n:Nat) (a b:Int):∀v∈rp n a b,v.oneCell'=true:=by
 intro v hv
 unfold rp at hv
 obtain⟨l,hl,hv⟩:=List.mem_flatten.1 hv
 obtain⟨_,rfl⟩:=List.mem_replicate.1 hl
 simp at hv
 rcases hv with rfl | rfl <;> rfl
def xy3 (w:World) (g n k:Nat) (a b:Int):Prop:=∃cur:Array Value,w.heap[g]? = some (.cells cur 42 (0,0))/\cur.size=n*2/\cur.toList.take (k*2)=rp k a b
theorem w83 {w:World} {g n k m:Nat} {a b:Int} (h:xy3 w g n k a b) (hk:k+m<=n) (a0:Addr) (sLen sCap dCap:Nat) (hmin:Nat.min sLen (n-k)=m) (hsrc:∀j v,(rp m a b)[j]? = some v->w.cell? (a0.add j)=some v) :
  ∃w',(Builtin.copy_ #[25,25] 3 #[.slice (some ⟨g,k*2,none⟩) (n-k) dCap,.slice (some a0) sLen sCap]).run Tryz.prog w=.ok (.int .i64 (m:Int)) w'/\xy3 w' g n (k+m) a b/\∀B w0,B<=g->Below B w0 w->Below B w0 w':=by
 obtain⟨cur,hg,hs,ht⟩:=h
 have hl:=xm7 m a b
 have hr:=ww8 (P:=Tryz.prog) w 25 25 3 42 2 g (k*2) (n-k) dCap a0 sLen sCap cur 42 (rp m a b) Tryz.underlying25 (by kernel_rfl) hg (by rw[hl,hmin]) hsrc (by rw[hl,hs]; omega) (x2f m a b)
 rw[hmin] at hr
 refine⟨_,hr,⟨_,setRow_heap w g cur _ _ _ hg,?_,?_⟩,λB w0 hB hb=>⟨hb.os,hb.tape,hb.output,by rw[setRow_size]; exact hb.size,λx hx=>(setRow_other w g x _ (by omega)).trans (hb.block x hx)⟩⟩
 ·simp only[List.size_toArray,List.length_append,List.length_take,List.length_drop,Array.length_toList]
  omega
 ·have e1:(cur.toList.take (k*2)).length=k*2:=by simp; omega
  rw[<- xm8 k m a b,<- ht]
  show List.take ((k+m)*2) (cur.toList.take (k*2)++rp m a b++cur.toList.drop (k*2+(rp m a b).length))=_
  rw[List.take_append_of_le_length (by rw[List.length_append,e1,hl]; omega),List.take_of_length_le (by rw[List.length_append,e1,hl]; omega)]
theorem xw0 {w:World} {g n k m:Nat} {a b:Int} (h:xy3 w g n k a b) (hm:m<=k):∀j v,(rp m a b)[j]? = some v->w.cell? ((⟨g,0,none⟩:Addr).add j)=some v:=by
 obtain⟨cur,hg,hs,ht⟩:=h
 intro j v hj
 have hj2:(rp k a b)[j]? = some v:=by
  have e:=xm8 m (k-m) a b
  rw[show m+(k-m)=k by omega] at e
  rw[<- e,List.getElem?_append_left (List.getElem?_eq_some_iff.1 hj).1]
  exact hj
 rw[<- ht,List.getElem?_take] at hj2
 split at hj2
 ·have hadd:(⟨g,0,none⟩:Addr).add j=⟨g,j,none⟩:=by unfold Addr.add; split <;> simp_all
  rw[hadd]
  simp only[World.cell?,hg]
  simpa using hj2
 ·cases hj2
set_option maxRecDepth 100000 in
set_option maxHeartbeats 1000000 in
theorem w4h (ad:Addr) (d:Nat) (a b:Int) (n:Nat) (hn:1<=n) (hn2:n<=1000) (w:World) (h0:w.cell? ad=some (.int .i64 a)) (h1:w.cell? (ad.add 1)=some (.int .i64 b)) :
  Calls Tryz.prog 93 #[.slice (some ad) 1 d,.int .i64 n] w λe w'=>∃b' c',e=.returned (.slice (some ⟨b',0,none⟩) n c')/\w'.ownsRow w.heap.size 42 2 (.slice (some ⟨b',0,none⟩) n c') n (rp n a b)/\Below w.heap.size w w':=by
 have first:∀w1,Below w.heap.size w w1->∃w2 w3,(Instr.makeSlice 25 (.int .i64 (n:Int)) (.int .i64 (n:Int))).run Tryz.prog w1=.ok (.slice (some ⟨w1.heap.size,0,none⟩) n n) w2 /\
   (Builtin.copy_ #[25,25] 3 #[.slice (some ⟨w1.heap.size,0,none⟩) n n,.slice (some ad) 1 d]).run Tryz.prog w2=.ok (.int .i64 1) w3/\xy3 w3 w1.heap.size n 1 a b/\Below w.heap.size w w3:=λw1 hb1=>by
  obtain⟨w2,cur,hmk,hg,hsz,hb2⟩:=xv9 w1 ya9 n (by omega) (by decide)
  have hB:Below w.heap.size w w2:=Ls.step_trans hb1 hb2
  have c0:=Below.cell_of hB h0
  have c1:=Below.cell_of hB h1
  have hadd:ad.add 0=ad:=by unfold Addr.add; split <;> simp_all
  obtain⟨w3,e1,e2,e3⟩:=w83 (w:=w2) (g:=w1.heap.size) (n:=n) (k:=0) (m:=1) (a:=a) (b:=b) ⟨cur,hg,hsz,by simp[rp]⟩ (by omega) ad 1 d n (by show Nat.min 1 (n-0)=1; exact Nat.min_eq_left (by omega)) (λj v hj=>by
   match j,hj with
   | 0,hj=>
    rw[hadd]
    simp[rp] at hj
    rw[c0,hj]
   | 1,hj=>
    simp[rp] at hj
    rw[c1,hj]
   | j+2,hj=>simp[rp] at hj)
  exact⟨w2,w3,hmk,e1,e2,e3 _ _ hb1.size hB⟩
 go_enter Tryz.func93,Tryz.ntmps93
 go_wp2_with (first
  | (go_at_call 138; refine(w82 n (by omega) _).mono ?_; rintro e w1 ⟨rfl,hb1⟩; obtain⟨w2,w3,hmk,hcp,hR,hB⟩:=first w1 hb1)
  | (at_builtin; refine Hid.out ?_))
 go_loopw [8] (λs wr=>∃k:Nat,1<=k/\k<=n/\s=.int .i64 k/\xy3 wr w1.heap.size n k a b/\Below w.heap.size w wr) (λs _=>n-(intOf s).toNat)
 case atStart=>exact⟨1,Nat.le_refl _,hn,rfl,hR,hB⟩
 case round=>
  obtain⟨k,hk1,hk,rfl,hr,hb⟩:=hrel
  by_cases hlt:k<n
  ·have k0:(0:Int)<=(k:Int):=Int.natCast_nonneg k
   have k1:(k:Int)<=(n:Int):=Int.ofNat_le.2 hk
   have k2:(k:Int)<(n:Int):=Int.ofNat_lt.2 hlt
   obtain⟨m,hm⟩:∃m,Nat.min k (n-k)=m:=⟨_,rfl⟩
   have hm1:1<=m:=by have:m=Nat.min k (n-k):=hm.symm; rw[this]; exact Nat.le_min.2 ⟨hk1,by omega⟩
   have hm2:m<=k:=by rw[<- hm]; exact Nat.min_le_left _ _
   have hm4:m<=n-k:=by rw[<- hm]; exact Nat.min_le_right _ _
   have hm3:k+m<=n:=by omega
   have hrd:xy3 wr.drew w1.heap.size n k a b:=hr
   obtain⟨w5,hcp5,hR5,hB5⟩:=w83 hrd hm3 ⟨w1.heap.size,0,none⟩ k n (n-k) hm (xw0 hrd hm2)
   have hB5':=hB5 _ _ hb1.size hb.drew
   go_wp2_with fail
   have hbd:Below w.heap.size w wr.drew:=hb.drew
   have hwk:IntKind.i64.wrap ((k:Int)+(m:Int))=(k:Int)+(m:Int):=Go.IntWalk.i64_in _ (by omega)
   go_region_held3 (λw'=>Below w.heap.size w w') (first | exact hbd | exact hB5' | exact hbd.drew | exact hB5'.drew) (first | (at_builtin; refine Hid.out ?_))
   go_roundw
   case rel=>
    repeat apply Exists.intro
    exact⟨⟨k+m,by omega,hm3,congrArg (Value.int .i64) (Int.natCast_add k m).symm,hR5,hB5'⟩,rfl⟩
   case measure=>simp[intOf]; omega
  ·have hkk:k=n:=by omega
   subst hkk
   go_wp2
   go_ret
   obtain⟨cur,hg,hsz,hpre⟩:=hr
   exact⟨_,_,rfl,⟨xm7 _ _ _,.inr ⟨_,_,cur,rfl,hb1.size,hg,Nat.le_refl _,by unfold maxLen; omega,hsz,hpre⟩⟩,hb⟩
abbrev yb0:qc0:=qf8 true (some 42) [.list (.prod (.int .i64) (.int .i64)),.int .i64] [.list (.prod (.int .i64) (.int .i64))] (λx=>x.1.length=1/\1<=x.2.1/\x.2.1<=1000) (λx=>(List.replicate x.2.1.toNat (qa1 (.prod (.int .i64) (.int .i64)) x.1 0),()))
theorem xm9 (m:View) (a b:Int):∀n:Nat,RdL m (.prod (.int .i64) (.int .i64)) (List.replicate n ((a,b):Int × Int)) (rp n a b)
 | 0=>rfl
 | n+1=>⟨[.int .i64 a,.int .i64 b],rp n a b,rfl,⟨[.int .i64 a],[.int .i64 b],rfl,rfl,rfl⟩,xm9 m a b n⟩
theorem wp5:qd3 Tryz.prog 93 yb0:=by
 refine⟨⟨_,_,Tryz.func93,rfl,rfl⟩,λw m args vs k hm hargs hrun=>?_⟩
 obtain⟨⟨l,n,⟨⟩⟩,⟨hp,hk⟩,hx⟩:=qp4 hrun hargs
 revert l n
 intro(l:List (Int × Int)) (n:Int) hx hp hk
 have hp:l.length=1/\1<=n/\n<=1000:=hp
 obtain⟨u,us,rfl,h1,h2⟩:=hx
 obtain⟨u2,us2,rfl,h3,h4⟩:=h2
 obtain rfl:us2=[]:=h4
 obtain rfl:u2=.int .i64 n:=h3
 obtain⟨A,c,e,_,_,h5⟩:=h1
 obtain rfl:u=.slice A l.length c:=(List.cons.inj e).1
 obtain⟨ad,rfl,h6⟩:=h5 (by rw[hp.1]; decide)
 obtain⟨cs,k1,k2⟩:=h6 0 (by rw[hp.1]; decide)
 obtain⟨p,q,rfl,k3,k4⟩:=k1
 obtain rfl:p=[.int .i64 (qa1 (.prod (.int .i64) (.int .i64)) l 0).1]:=k3
 obtain rfl:q=[.int .i64 (qa1 (.prod (.int .i64) (.int .i64)) l 0).2]:=k4
 have c0:=View.cell_on hm (k2 0 (.int .i64 (qa1 (.prod (.int .i64) (.int .i64)) l 0).1) rfl)
 have c1:=View.cell_on hm (k2 1 (.int .i64 (qa1 (.prod (.int .i64) (.int .i64)) l 0).2) rfl)
 have hadd:ad.add (0*Ty.size (.prod (.int .i64) (.int .i64))+0)=ad:=by
  rw[Nat.zero_mul,Nat.zero_add]
  unfold Addr.add; split <;> simp_all
 have hadd1:ad.add (0*Ty.size (.prod (.int .i64) (.int .i64))+1)=ad.add 1:=by rw[Nat.zero_mul,Nat.zero_add]
 rw[hadd] at c0
 rw[hadd1] at c1
 obtain⟨nn,rfl⟩:∃nn:Nat,n=(nn:Int):=⟨n.toNat,by omega⟩
 rw[hp.1]
 refine(w4h ad c _ _ nn (by omega) (by omega) w c0 c1).mono λe w' ⟨b',c',e1,e2,e3⟩=>?_
 refine⟨_,λ_=>none,e1,e3,(λb o h=>by cases h),(λb o h=>by cases h),.inl ⟨.prod (.int .i64) (.int .i64),List.replicate nn (qa1 (.prod (.int .i64) (.int .i64)) l 0),_,hk,?_,xm9 _ _ _ nn,λ_ _=>rfl⟩⟩
 rw[List.length_replicate]
 exact e2
end Go.Proofs.YtdibdlelmkcccaaGreat
