/- Products of 128 bits: contracts by the engine. No condition. -/
import Derived.Test.YtmijnbjlhnpokaaGreatV1
import Derived.Test.YtmijnbjlhnpokaaGreatZ5
import Derived.Test.YtmijnbjlhnpokaaGreatV26
set_option linter.unusedVariables false
set_option linter.unusedSimpArgs false
namespace Go.Proofs.YtmijnbjlhnpokaaGreat
open Go Go.RowKit Eng
abbrev tU64:Ty:=.int .u64
abbrev w8q:Ty:=.prod (.int .i64) (.int .u64)
theorem xh5 {x:Int} (h0:0<=x) (h1:x<=18446744073709551615):fits IntKind.u64 x:=by
 unfold fits
 exact Go.IntWalk.u64_in x ⟨h0,h1⟩
def w9p (a b:Int × Int):Int:=if a.1=b.1/\a.2=b.2 then 0 else if a.1<b.1\/a.1=b.1/\a.2<b.2 then -1 else 1
abbrev x5w:qc9:=qg4 true none [w8q,w8q] [qg0] (λ_=>True) (λx=>(w9p x.1 x.2.1,()))
theorem w39:Meets Tryz.prog 197 x5w:=by
 refine meets (snd (SpecsOk.nil _)) Tryz.func197 rfl rfl (λ_ _=>none) (λ_=>by kernel_rfl) (by decide) ?_
 rintro⟨⟨a,b⟩,⟨c,d⟩,⟨⟩⟩ -
 revert a b c d
 intro(a:Int) (b:Int) (c:Int) (d:Int)
 refine @qe1 _ (((a==c && b==d)=true->(0:Int)=w9p (a,b) (c,d))/\((a==c && b==d)=false->(decide (a<c)=true->(-1:Int)=w9p (a,b) (c,d))/\(decide (a<c)=false->((a==c)=true->(decide (b<d)=true->(-1:Int)=w9p (a,b) (c,d))/\(decide (b<d)=false->(1:Int)=w9p (a,b) (c,d)))/\((a==c)=false->(1:Int)=w9p (a,b) (c,d))))) (by kernel_rfl) ?_
 try simp only[z0,z1,z2,z3,z4,z5,z6,z7,z8,z9,z10,Int.reduceEq,z11,z12,z13,z14,z15,z16,z17,z18,z19,z20,z21,z22,z23,z24,z25,z26,z27,z28,z29,z30,Int.reduceLE,Int.reduceLT,z31,z32,z33,z34,qa1]
 try simp only[qb5,qb6,qd2,z31,z32,z2,z1]
 rw[Bool.and_eq_true,beq_iff_eq,beq_iff_eq,Bool.eq_false_iff,ne_eq,Bool.and_eq_true,beq_iff_eq,beq_iff_eq]
 unfold w9p
 dsimp only
 refine⟨λh=>(if_pos h).symm,λh=>?_⟩
 rw[if_neg h]
 refine⟨λh1=>(if_pos (.inl h1)).symm,λh1=>⟨λh2=>⟨λh3=>(if_pos (.inr ⟨h2,h3⟩)).symm,λh3=>(if_neg (by omega)).symm⟩,λh2=>(if_neg (by omega)).symm⟩⟩
theorem x5x {a:Int} (h0:0<=a) (h1:a<18446744073709551616):IntKind.u64.wrap ((BitVec.ofInt 64 a &&& BitVec.ofInt 64 4294967295).toNat:Int)=a % 4294967296:=by
 have e1:(BitVec.ofInt 64 a).toNat=a.toNat:=by
  rw[BitVec.toNat_ofInt]
  omega
 have e2:(BitVec.ofInt 64 4294967295).toNat=2 ^ 32-1:=by decide
 rw[BitVec.toNat_and,e1,e2,Nat.and_two_pow_sub_one_eq_mod]
 have e4:((a.toNat % 2 ^ 32:Nat):Int)=a % 4294967296:=by omega
 rw[e4]
 exact Go.IntWalk.u64_in _ (by omega)
theorem w8r {a:Int} (h0:0<=a):a.fdiv 4294967296=a / 4294967296:=Int.fdiv_eq_ediv_of_nonneg _ (by decide)
theorem xu5 (n:Int):IntKind.u64.wrap n=n % 18446744073709551616:=rfl
def hiU (n:Int):Int:=n / 18446744073709551616
def loU (n:Int):Int:=n % 18446744073709551616
def spl (n:Int):Int × Int:=(hiU n,loU n)
abbrev x5y:qc9:=qg4 true none [tU64,tU64] [tU64,tU64] (λx=>(0<=x.1/\x.1<18446744073709551616)/\0<=x.2.1/\x.2.1<18446744073709551616) (λx=>((spl (x.1*x.2.1)).1,(spl (x.1*x.2.1)).2,()))
theorem q9x:Meets Tryz.prog 198 x5y:=by
 refine meets (x7o [50] (SpecsOk.nil _)) Tryz.func198 rfl rfl (λ_ _=>none) (λ_=>by kernel_rfl) (by decide) ?_
 rintro⟨x,y,⟨⟩⟩ h
 revert x y
 intro(x:Int) (y:Int) (h:(0<=x/\x<18446744073709551616)/\0<=y/\y<18446744073709551616)
 refine @qe1 _ ((0:Int)<=(32:Int)/\(0:Int)<=(32:Int)/\fits IntKind.u64 (IntKind.wrap IntKind.u64 (↑(BitVec.toNat (BitVec.ofInt (64:Nat) x &&& BitVec.ofInt (64:Nat) (4294967295:Int))):Int)*IntKind.wrap IntKind.u64 (↑(BitVec.toNat (BitVec.ofInt (64:Nat) y &&& BitVec.ofInt (64:Nat) (4294967295:Int))):Int))/\fits IntKind.u64 (Int.fdiv x (4294967296:Int)*IntKind.wrap IntKind.u64 (↑(BitVec.toNat (BitVec.ofInt (64:Nat) y &&& BitVec.ofInt (64:Nat) (4294967295:Int))):Int))/\(0:Int)<=(32:Int)/\fits IntKind.u64 (Int.fdiv x (4294967296:Int)*IntKind.wrap IntKind.u64 (↑(BitVec.toNat (BitVec.ofInt (64:Nat) y &&& BitVec.ofInt (64:Nat) (4294967295:Int))):Int)+Int.fdiv (IntKind.wrap IntKind.u64 (↑(BitVec.toNat (BitVec.ofInt (64:Nat) x &&& BitVec.ofInt (64:Nat) (4294967295:Int))):Int)*IntKind.wrap IntKind.u64 (↑(BitVec.toNat (BitVec.ofInt (64:Nat) y &&& BitVec.ofInt (64:Nat) (4294967295:Int))):Int)) (4294967296:Int))/\(0:Int)<=(32:Int)/\fits IntKind.u64 (IntKind.wrap IntKind.u64 (↑(BitVec.toNat (BitVec.ofInt (64:Nat) x &&& BitVec.ofInt (64:Nat) (4294967295:Int))):Int)*Int.fdiv y (4294967296:Int))/\fits IntKind.u64 (IntKind.wrap IntKind.u64 (↑(BitVec.toNat (BitVec.ofInt (64:Nat) (Int.fdiv x (4294967296:Int)*IntKind.wrap IntKind.u64 (↑(BitVec.toNat (BitVec.ofInt (64:Nat) y &&& BitVec.ofInt (64:Nat) (4294967295:Int))):Int)+Int.fdiv (IntKind.wrap IntKind.u64 (↑(BitVec.toNat (BitVec.ofInt (64:Nat) x &&& BitVec.ofInt (64:Nat) (4294967295:Int))):Int)*IntKind.wrap IntKind.u64 (↑(BitVec.toNat (BitVec.ofInt (64:Nat) y &&& BitVec.ofInt (64:Nat) (4294967295:Int))):Int)) (4294967296:Int)) &&& BitVec.ofInt (64:Nat) (4294967295:Int))):Int)+IntKind.wrap IntKind.u64 (↑(BitVec.toNat (BitVec.ofInt (64:Nat) x &&& BitVec.ofInt (64:Nat) (4294967295:Int))):Int)*Int.fdiv y (4294967296:Int))/\fits IntKind.u64 (Int.fdiv x (4294967296:Int)*Int.fdiv y (4294967296:Int))/\fits IntKind.u64 (Int.fdiv x (4294967296:Int)*Int.fdiv y (4294967296:Int)+Int.fdiv (Int.fdiv x (4294967296:Int)*IntKind.wrap IntKind.u64 (↑(BitVec.toNat (BitVec.ofInt (64:Nat) y &&& BitVec.ofInt (64:Nat) (4294967295:Int))):Int)+Int.fdiv (IntKind.wrap IntKind.u64 (↑(BitVec.toNat (BitVec.ofInt (64:Nat) x &&& BitVec.ofInt (64:Nat) (4294967295:Int))):Int)*IntKind.wrap IntKind.u64 (↑(BitVec.toNat (BitVec.ofInt (64:Nat) y &&& BitVec.ofInt (64:Nat) (4294967295:Int))):Int)) (4294967296:Int)) (4294967296:Int))/\(0:Int)<=(32:Int)/\fits IntKind.u64 (Int.fdiv x (4294967296:Int)*Int.fdiv y (4294967296:Int)+Int.fdiv (Int.fdiv x (4294967296:Int)*IntKind.wrap IntKind.u64 (↑(BitVec.toNat (BitVec.ofInt (64:Nat) y &&& BitVec.ofInt (64:Nat) (4294967295:Int))):Int)+Int.fdiv (IntKind.wrap IntKind.u64 (↑(BitVec.toNat (BitVec.ofInt (64:Nat) x &&& BitVec.ofInt (64:Nat) (4294967295:Int))):Int)*IntKind.wrap IntKind.u64 (↑(BitVec.toNat (BitVec.ofInt (64:Nat) y &&& BitVec.ofInt (64:Nat) (4294967295:Int))):Int)) (4294967296:Int)) (4294967296:Int)+Int.fdiv (IntKind.wrap IntKind.u64 (↑(BitVec.toNat (BitVec.ofInt (64:Nat) (Int.fdiv x (4294967296:Int)*IntKind.wrap IntKind.u64 (↑(BitVec.toNat (BitVec.ofInt (64:Nat) y &&& BitVec.ofInt (64:Nat) (4294967295:Int))):Int)+Int.fdiv (IntKind.wrap IntKind.u64 (↑(BitVec.toNat (BitVec.ofInt (64:Nat) x &&& BitVec.ofInt (64:Nat) (4294967295:Int))):Int)*IntKind.wrap IntKind.u64 (↑(BitVec.toNat (BitVec.ofInt (64:Nat) y &&& BitVec.ofInt (64:Nat) (4294967295:Int))):Int)) (4294967296:Int)) &&& BitVec.ofInt (64:Nat) (4294967295:Int))):Int)+IntKind.wrap IntKind.u64 (↑(BitVec.toNat (BitVec.ofInt (64:Nat) x &&& BitVec.ofInt (64:Nat) (4294967295:Int))):Int)*Int.fdiv y (4294967296:Int)) (4294967296:Int))/\Int.fdiv x (4294967296:Int)*Int.fdiv y (4294967296:Int)+Int.fdiv (Int.fdiv x (4294967296:Int)*IntKind.wrap IntKind.u64 (↑(BitVec.toNat (BitVec.ofInt (64:Nat) y &&& BitVec.ofInt (64:Nat) (4294967295:Int))):Int)+Int.fdiv (IntKind.wrap IntKind.u64 (↑(BitVec.toNat (BitVec.ofInt (64:Nat) x &&& BitVec.ofInt (64:Nat) (4294967295:Int))):Int)*IntKind.wrap IntKind.u64 (↑(BitVec.toNat (BitVec.ofInt (64:Nat) y &&& BitVec.ofInt (64:Nat) (4294967295:Int))):Int)) (4294967296:Int)) (4294967296:Int)+Int.fdiv (IntKind.wrap IntKind.u64 (↑(BitVec.toNat (BitVec.ofInt (64:Nat) (Int.fdiv x (4294967296:Int)*IntKind.wrap IntKind.u64 (↑(BitVec.toNat (BitVec.ofInt (64:Nat) y &&& BitVec.ofInt (64:Nat) (4294967295:Int))):Int)+Int.fdiv (IntKind.wrap IntKind.u64 (↑(BitVec.toNat (BitVec.ofInt (64:Nat) x &&& BitVec.ofInt (64:Nat) (4294967295:Int))):Int)*IntKind.wrap IntKind.u64 (↑(BitVec.toNat (BitVec.ofInt (64:Nat) y &&& BitVec.ofInt (64:Nat) (4294967295:Int))):Int)) (4294967296:Int)) &&& BitVec.ofInt (64:Nat) (4294967295:Int))):Int)+IntKind.wrap IntKind.u64 (↑(BitVec.toNat (BitVec.ofInt (64:Nat) x &&& BitVec.ofInt (64:Nat) (4294967295:Int))):Int)*Int.fdiv y (4294967296:Int)) (4294967296:Int)=(spl (x*y)).1/\IntKind.wrap IntKind.u64 (x*y)=(spl (x*y)).2/\True) (by kernel_rfl) ?_
 try simp only[z0,z1,z2,z3,z4,z5,z6,z7,z8,z9,z10,Int.reduceEq,z11,z12,z13,z14,z15,z16,z17,z18,z19,z20,z21,z22,z23,z24,z25,z26,z27,z28,z29,z30,Int.reduceLE,Int.reduceLT,z31,z32,z33,z34,qa1]
 try simp only[qb5,qb6,qd2,z31,z32,z2,z1]
 obtain⟨⟨x0,x1⟩,y0,y1⟩:=h
 simp only[x5x x0 x1,x5x y0 y1,w8r x0,w8r y0]
 have hmul:∀u v:Int,0<=u->u<=4294967295->0<=v->v<=4294967295->0<=u*v/\u*v<=18446744065119617025:=λu v a1 a2 a3 a4=>⟨Int.mul_nonneg a1 a3,Int.le_trans (Int.mul_le_mul a2 a4 a3 (by decide)) (by decide)⟩
 have P:=hmul (x % 4294967296) (y % 4294967296) (by omega) (by omega) (by omega) (by omega)
 have Q:=hmul (x / 4294967296) (y % 4294967296) (by omega) (by omega) (by omega) (by omega)
 have R:=hmul (x % 4294967296) (y / 4294967296) (by omega) (by omega) (by omega) (by omega)
 have S:=hmul (x / 4294967296) (y / 4294967296) (by omega) (by omega) (by omega) (by omega)
 have hxy:x*y=(x / 4294967296)*(y / 4294967296)*18446744073709551616+((x / 4294967296)*(y % 4294967296)+(x % 4294967296)*(y / 4294967296))*4294967296+(x % 4294967296)*(y % 4294967296):=by
  have e1:x=4294967296*(x / 4294967296)+x % 4294967296:=by omega
  have e2:y=4294967296*(y / 4294967296)+y % 4294967296:=by omega
  generalize x / 4294967296=a at e1 ⊢
  generalize x % 4294967296=b at e1 ⊢
  generalize y / 4294967296=c at e2 ⊢
  generalize y % 4294967296=d at e2 ⊢
  rw[e1,e2]
  grind
 rw[xu5 (x*y)]
 unfold spl hiU loU
 generalize x*y=xy at hxy ⊢
 generalize x % 4294967296*(y % 4294967296)=p at P hxy ⊢
 generalize x / 4294967296*(y % 4294967296)=q at Q hxy ⊢
 generalize x % 4294967296*(y / 4294967296)=r at R hxy ⊢
 generalize x / 4294967296*(y / 4294967296)=s at S hxy ⊢
 have t0:0<=q+p / 4294967296:=by omega
 have t1:q+p / 4294967296<18446744073709551616:=by omega
 simp only[w8r P.1,x5x t0 t1,w8r t0]
 have u0:0<=(q+p / 4294967296) % 4294967296+r:=by omega
 simp only[w8r u0]
 refine⟨xh5 (by omega) (by omega),xh5 (by omega) (by omega),xh5 (by omega) (by omega),xh5 (by omega) (by omega),xh5 (by omega) (by omega),xh5 (by omega) (by omega),xh5 (by omega) (by omega),xh5 (by omega) (by omega),?_,trivial⟩
 (try dsimp only); omega
abbrev x5z:qc9:=qg4 true none [qg0] [tU64] (λx=>qc8 BIG x.1) (λx=>((x.1.natAbs:Int),()))
theorem q9y:Meets Tryz.prog 230 x5z:=by
 refine meets (x7o [6,7] (SpecsOk.nil _)) Tryz.func230 rfl rfl (λ_ _=>none) (λ_=>by kernel_rfl) (by decide) ?_
 rintro⟨x,⟨⟩⟩ h
 revert x
 intro(x:Int) (h:qc8 BIG x)
 refine @qe1 _ ((decide (x<(0:Int))=true->IntKind.wrap IntKind.u64 ((0:Int)-IntKind.wrap IntKind.u64 x)=(↑(Int.natAbs x):Int))/\(decide (x<(0:Int))=false->fits IntKind.u64 x/\x=(↑(Int.natAbs x):Int))) (by kernel_rfl) ?_
 try simp only[z0,z1,z2,z3,z4,z5,z6,z7,z8,z9,z10,Int.reduceEq,z11,z12,z13,z14,z15,z16,z17,z18,z19,z20,z21,z22,z23,z24,z25,z26,z27,z28,z29,z30,Int.reduceLE,Int.reduceLT,z31,z32,z33,z34,qa1]
 try simp only[qb5,qb6,qd2,z31,z32,z2,z1]
 have hB:BIG=4000000000000000000:=rfl
 unfold qc8 at h
 refine⟨λhl=>?_,λhl=>⟨xh5 (by omega) (by omega),by omega⟩⟩
 rw[xu5,xu5]; omega
structure wp1 (a b:Int):Prop where
 fa:qc8 BIG a
 fb:qc8 BIG b
 sg:decide (a<0)=decide (b<0)
abbrev x50:qc9:=qg4 true none [qg0,qg0] [w8q] (λx=>wp1 x.1 x.2.1) (λx=>(spl (x.1*x.2.1),()))
theorem w4a:Meets Tryz.prog 195 x50:=by
 refine meets (snd (SpecsOk.cons q9x (SpecsOk.cons q9y (SpecsOk.nil _)))) Tryz.func195 rfl rfl (λ_ _=>none) (λ_=>by kernel_rfl) (by decide) ?_
 rintro⟨x,y,⟨⟩⟩ h
 revert x y
 intro(x:Int) (y:Int) (h:wp1 x y)
 refine @qe1 _ (let Q0:=Int.natAbs y; let Q1:=Int.natAbs x; qc8 BIG x/\qc8 BIG y/\(((0:Ty.den tU64)<=(↑Q1:Int)/\(↑Q1:Int)<(18446744073709551616:Ty.den tU64))/\(0:Ty.den tU64)<=(↑Q0:Int)/\(↑Q0:Int)<(18446744073709551616:Ty.den tU64))/\fits .i64 (spl ((↑Q1:Int)*(↑Q0:Int))).1/\((decide (x<(0:Int)) != decide (y<(0:Int)))=true->False)/\((decide (x<(0:Int)) != decide (y<(0:Int)))=false->(spl ((↑Q1:Int)*(↑Q0:Int))).1=(spl (x*y)).1/\(spl ((↑Q1:Int)*(↑Q0:Int))).2=(spl (x*y)).2/\True)) (by kernel_rfl) ?_
 try simp only[z0,z1,z2,z3,z4,z5,z6,z7,z8,z9,z10,Int.reduceEq,z11,z12,z13,z14,z15,z16,z17,z18,z19,z20,z21,z22,z23,z24,z25,z26,z27,z28,z29,z30,Int.reduceLE,Int.reduceLT,z31,z32,z33,z34,qa1]
 try simp only[qb5,qb6,qd2,z31,z32,z2,z1]
 have hB:BIG=4000000000000000000:=rfl
 obtain⟨hx,hy,hs⟩:=h
 have e:(x.natAbs:Int)*(y.natAbs:Int)=x*y:=by
  rw[decide_eq_decide] at hs
  rcases Int.lt_or_le x 0 with q | q
  ·rw[show((x.natAbs:Nat):Int)=-x by omega,show((y.natAbs:Nat):Int)=-y by omega,Int.neg_mul_neg]
  ·rw[show((x.natAbs:Nat):Int)=x by omega,show((y.natAbs:Nat):Int)=y by omega]
 have hb:0<=x*y/\x*y<=16000000000000000000000000000000000000:=by
  unfold qc8 at hx hy
  rw[<- e]
  exact⟨Int.mul_nonneg (by omega) (by omega),Int.le_trans (Int.mul_le_mul (show(x.natAbs:Int)<=4000000000000000000 by omega) (show(y.natAbs:Int)<=4000000000000000000 by omega) (by omega) (by decide)) (by decide)⟩
 rw[e]
 unfold spl hiU loU
 refine⟨hx,hy,?_,qa7 (by(try dsimp only); omega) (by(try dsimp only); omega),λq=>absurd hs q,λ_=>⟨rfl,rfl⟩⟩
 unfold qc8 at hx hy
 omega
structure wp2 (w:Int × Int) (n:Int):Prop where
 h0:0<=w.1
 h1:w.1<=1000000000000000
 l0:0<=w.2
 l1:w.2<18446744073709551616
 n0:0<=n
 n1:n<=1000
def w8s (w:Int × Int) (n:Int):Int × Int:=(w.1*n+(spl (w.2*n)).1,(spl (w.2*n)).2)
abbrev x51:qc9:=qg4 true none [w8q,qg0] [w8q] (λx=>wp2 x.1 x.2.1) (λx=>(w8s x.1 x.2.1,()))
theorem w4b:Meets Tryz.prog 196 x51:=by
 refine meets (snd (SpecsOk.cons q9x (SpecsOk.cons q9y (SpecsOk.nil _)))) Tryz.func196 rfl rfl (λ_ _=>none) (λ_=>by kernel_rfl) (by decide) ?_
 rintro⟨w,n,⟨⟩⟩ h
 revert w n
 intro(w:Int × Int) (n:Int) (h:wp2 w n)
 refine @qe1 _ (let Q0:=Int.natAbs n; (decide (w.1<(0:Int))=true->False)/\(decide (w.1<(0:Int))=false->qc8 BIG n/\(((0:Ty.den tU64)<=w.2/\w.2<(18446744073709551616:Ty.den tU64))/\(0:Ty.den tU64)<=(↑Q0:Int)/\(↑Q0:Int)<(18446744073709551616:Ty.den tU64))/\qc8 BIG n/\fits .i64 (↑Q0:Int)/\fits .i64 (w.1*(↑Q0:Int))/\fits .i64 (spl (w.2*(↑Q0:Int))).1/\fits .i64 (w.1*(↑Q0:Int)+(spl (w.2*(↑Q0:Int))).1)/\(decide (n<(0:Int))=true->False)/\(decide (n<(0:Int))=false->w.1*(↑Q0:Int)+(spl (w.2*(↑Q0:Int))).1=(w8s w n).1/\(spl (w.2*(↑Q0:Int))).2=(w8s w n).2/\True))) (by kernel_rfl) ?_
 try simp only[z0,z1,z2,z3,z4,z5,z6,z7,z8,z9,z10,Int.reduceEq,z11,z12,z13,z14,z15,z16,z17,z18,z19,z20,z21,z22,z23,z24,z25,z26,z27,z28,z29,z30,Int.reduceLE,Int.reduceLT,z31,z32,z33,z34,qa1]
 try simp only[qb5,qb6,qd2,z31,z32,z2,z1]
 have hB:BIG=4000000000000000000:=rfl
 obtain⟨h0,h1,l0,l1,n0,n1⟩:=h
 have en:((n.natAbs:Nat):Int)=n:=by omega
 have hn:qc8 BIG n:=by unfold qc8; omega
 have hb1:0<=w.1*n/\w.1*n<=1000000000000000000:=⟨Int.mul_nonneg h0 n0,Int.le_trans (Int.mul_le_mul h1 n1 n0 (by decide)) (by decide)⟩
 have hb2:0<=w.2*n/\w.2*n<=18446744073709551616000:=⟨Int.mul_nonneg l0 n0,Int.le_trans (Int.mul_le_mul (show w.2<=18446744073709551616 by omega) n1 n0 (by decide)) (by decide)⟩
 rw[en]
 refine⟨λq=>absurd q (by omega),λ_=>⟨hn,⟨⟨l0,l1⟩,by omega⟩,hn,qa7 (by omega) (by omega),qa7 (by omega) (by omega),?_,?_,λq=>absurd q (by omega),λ_=>⟨rfl,rfl⟩⟩⟩
 ·unfold spl hiU loU; exact qa7 (by(try dsimp only); omega) (by(try dsimp only); omega)
 ·unfold spl hiU loU; exact qa7 (by(try dsimp only); omega) (by(try dsimp only); omega)
theorem x1t (u v:Int):((spl v).1<(spl u).1\/(spl u).1=(spl v).1/\(spl v).2<(spl u).2)↔v<u:=by
 unfold spl hiU loU; dsimp only; omega
abbrev q0l:Ty:=.prod (.int .i64) (.prod (.int .i64) (.int .i64))
structure qq8 (c:Int × Int × Int):Prop where
 p:qc8 1000000000000000 c.2.1
 l0:0<=c.2.2
 l1:c.2.2<=1000
def w9q (a b:Int × Int × Int):Bool:=decide (b.2.1*b.2.1*a.2.2<a.2.1*a.2.1*b.2.2)
theorem w8t {u n:Int}:w8s (spl u) n=spl (u*n):=by
 have e:u*n=(u / 18446744073709551616)*n*18446744073709551616+(u % 18446744073709551616)*n:=by
  have:u=18446744073709551616*(u / 18446744073709551616)+u % 18446744073709551616:=by omega
  generalize u / 18446744073709551616=a at this ⊢
  generalize u % 18446744073709551616=b at this ⊢
  rw[this]; grind
 unfold w8s spl hiU loU
 dsimp only
 rw[e]
 generalize(u / 18446744073709551616)*n=a
 generalize(u % 18446744073709551616)*n=b
 refine Prod.ext ?_ ?_ <;> (dsimp only; omega)
theorem x1u {p:Int} (h:qc8 1000000000000000 p):0<=p*p/\p*p<=1000000000000000000000000000000:=by
 unfold qc8 at h
 have e:p*p=(p.natAbs:Int)*(p.natAbs:Int):=by
  rcases Int.lt_or_le p 0 with q | q
  ·rw[show((p.natAbs:Nat):Int)=-p by omega,Int.neg_mul_neg]
  ·rw[show((p.natAbs:Nat):Int)=p by omega]
 rw[e]
 exact⟨Int.mul_nonneg (by omega) (by omega),Int.le_trans (Int.mul_le_mul (show(p.natAbs:Int)<=1000000000000000 by omega) (show(p.natAbs:Int)<=1000000000000000 by omega) (by omega) (by decide)) (by decide)⟩
abbrev x1v:qc9:=qg4 true none [q0l,q0l] [.bool] (λx=>qq8 x.1/\qq8 x.2.1) (λx=>(w9q x.1 x.2.1,()))
set_option maxHeartbeats 4000000 in
theorem q9z:Meets Tryz.prog 146 x1v:=by
 refine meets (snd (SpecsOk.cons w4a (SpecsOk.cons w4b (SpecsOk.cons w39 (SpecsOk.nil _))))) Tryz.func146 rfl rfl (λ_ _=>none) (λ_=>by kernel_rfl) (by decide) ?_
 rintro⟨a,b,⟨⟩⟩ h
 revert a b
 intro(a:Int × Int × Int) (b:Int × Int × Int) (h:qq8 a/\qq8 b)
 refine @qe1 _ (let Q0:=((spl (b.2.1*b.2.1)).1,(spl (b.2.1*b.2.1)).2); let Q1:=((spl (a.2.1*a.2.1)).1,(spl (a.2.1*a.2.1)).2); wp1 a.2.1 a.2.1/\wp2 Q1 b.2.2/\wp1 b.2.1 b.2.1/\wp2 Q0 a.2.2/\True/\decide ((0:Int)<w9p ((w8s Q1 b.2.2).1,(w8s Q1 b.2.2).2) ((w8s Q0 a.2.2).1,(w8s Q0 a.2.2).2))=w9q a b) (by kernel_rfl) ?_
 try simp only[z0,z1,z2,z3,z4,z5,z6,z7,z8,z9,z10,Int.reduceEq,z11,z12,z13,z14,z15,z16,z17,z18,z19,z20,z21,z22,z23,z24,z25,z26,z27,z28,z29,z30,Int.reduceLE,Int.reduceLT,z31,z32,z33,z34,qa1]
 try simp only[qb5,qb6,qd2,z31,z32,z2,z1]
 obtain⟨⟨ap,al0,al1⟩,bp,bl0,bl1⟩:=h
 have sa:=x1u ap
 have sb:=x1u bp
 have hB:BIG=4000000000000000000:=rfl
 have hpp:∀p:Int,qc8 1000000000000000 p->wp1 p p:=λp h=>⟨by unfold qc8 at *; omega,by unfold qc8 at *; omega,rfl⟩
 have htp:∀u n:Int,(0<=u/\u<=1000000000000000000000000000000)->0<=n->n<=1000->wp2 (spl u) n:=λu n h h0 h1=>by
  unfold spl hiU loU
  exact⟨by(try dsimp only); omega,by(try dsimp only); omega,by(try dsimp only); omega,by(try dsimp only); omega,h0,h1⟩
 refine⟨hpp _ ap,htp _ _ sa bl0 bl1,hpp _ bp,htp _ _ sb al0 al1,?_⟩
 change decide (0<w9p (w8s (spl (a.2.1*a.2.1)) b.2.2) (w8s (spl (b.2.1*b.2.1)) a.2.2))=w9q a b
 rw[w8t,w8t]
 unfold w9q
 rw[decide_eq_decide,<- x1t (a.2.1*a.2.1*b.2.2) (b.2.1*b.2.1*a.2.2)]
 unfold w9p
 generalize spl (a.2.1*a.2.1*b.2.2)=u
 generalize spl (b.2.1*b.2.1*a.2.2)=v
 split
 ·omega
 ·split <;> omega
end Go.Proofs.YtmijnbjlhnpokaaGreat
