/- The contract of math/bits' OnesCount at small numbers. No condition. -/
import Derived.Test.YtmijnbjlhnpokaaDoorProg
import Derived.Test.YtmijnbjlhnpokaaDoorCore
namespace Go.Proofs.YtmijnbjlhnpokaaDoor
open Go.RowKit Ls
def ones1 (x : Int) : Int := IntKind.u64.wrap (bits BinOp.and IntKind.u64 (x / 2) 6148914691236517205 + bits BinOp.and IntKind.u64 x 6148914691236517205)
def ones2 (x : Int) : Int := IntKind.u64.wrap (bits BinOp.and IntKind.u64 (x / 4) 3689348814741910323 + bits BinOp.and IntKind.u64 x 3689348814741910323)
def ones3 (x : Int) : Int := bits BinOp.and IntKind.u64 (IntKind.u64.wrap (x / 16 + x)) 1085102592571150095
def ones4 (x : Int) : Int := IntKind.u64.wrap (x + x / 256)
def ones5 (x : Int) : Int := IntKind.u64.wrap (x + x / 65536)
def ones6 (x : Int) : Int := IntKind.u64.wrap (x + x / 4294967296)
def ones7 (x : Int) : Int := bits BinOp.and IntKind.i64 (wrap64 x) 127
def onesI (x : Int) : Int := ones7 (ones6 (ones5 (ones4 (ones3 (ones2 (ones1 x))))))
def popc : Nat -> Nat -> Nat
  | 0, _ => 0
  | k + 1, n => n % 2 + popc k (n / 2)
theorem onesI_small : ∀ n : Nat, n < 300 -> onesI n = popc 9 n := by decide +kernel
set_option maxRecDepth 100000 in
theorem ones64_any (x : Int) (w : World) (_h0 : 0 <= x) :
    Calls Tryd.prog 76 #[.int .u64 x] w fun e w' => e = .returned (.int .i64 (onesI x)) /\ w = w' := by
  go_enter Tryd.func76, Tryd.ntmps76
  go_wp2
  go_ret
  exact ⟨by simp [onesI, ones1, ones2, ones3, ones4, ones5, ones6, ones7], rfl⟩
theorem ones_any (n : Nat) (w : World) (hn : n < 300) :
    Calls Tryd.prog 58 #[.int .u64 n] w fun e w' => e = .returned (.int .i64 (popc 9 n)) /\ w = w' := by
  rw [<- onesI_small n hn]
  have h0 : (0:Int) <= n := by omega
  go_enter Tryd.func58, Tryd.ntmps58
  go_wp2_with fail
  refine (ones64_any n w h0).mono ?_
  rintro e w1 ⟨rfl, rfl⟩
  go_wp2
  go_ret
  exact ⟨rfl, rfl⟩
end Go.Proofs.YtmijnbjlhnpokaaDoor
