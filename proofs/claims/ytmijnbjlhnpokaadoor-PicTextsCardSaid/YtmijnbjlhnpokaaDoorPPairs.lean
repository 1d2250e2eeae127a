/- The contract of pic's iterator pairs: the pairs of indexes of a list's butterflies at a distance. No condition. -/
import Derived.RangeFuncNested
import Derived.RangeFuncBound
import Derived.RangeFuncCalls
import Derived.RangeFuncLeaves
import Derived.Shelf.Abstract
import Derived.Shelf.RegionOpen
import Derived.WalkKit
import Derived.OwnWalkIn
import Derived.TacticsInMore
import Derived.LoopNIn
import Derived.LoopIn
import Derived.Test.YtmijnbjlhnpokaaDoorProg
import Derived.Test.YtmijnbjlhnpokaaDoorCore
namespace Go.Proofs.YtmijnbjlhnpokaaDoor
open Go.RowKit Go.Shelf Ls
attribute [local go_sem] Oper.semAt_some
def pairsTo (d : Nat) : Nat -> List (Nat × Nat)
  | 0 => []
  | k + 1 => if k &&& d = 0 then pairsTo d k ++ [(k, k ||| d)] else pairsTo d k
def Pow (d : Nat) : Prop := d = 1 \/ d = 2 \/ d = 4 \/ d = 8 \/ d = 16 \/ d = 32 \/ d = 64 \/ d = 128
def andOk (d : Nat) : Bool := (List.range 256).all fun i => decide (bits BinOp.and IntKind.i64 i d = ((i &&& d : Nat) : Int)) && decide (bits BinOp.or IntKind.i64 i d = ((i ||| d : Nat) : Int))
theorem andOk_all : ([1, 2, 4, 8, 16, 32, 64, 128].all andOk) = true := by decide +kernel
theorem and_or {i d : Nat} (hi : i < 256) (hd : Pow d) : bits BinOp.and IntKind.i64 i d = ((i &&& d : Nat) : Int) /\ bits BinOp.or IntKind.i64 i d = ((i ||| d : Nat) : Int) := by
  have h := List.all_eq_true.1 andOk_all d (by unfold Pow at hd; simpa using hd)
  unfold andOk at h
  have h2 := List.all_eq_true.1 h i (List.mem_range.2 hi)
  rw [Bool.and_eq_true, decide_eq_true_iff, decide_eq_true_iff] at h2
  exact h2
theorem pairsTo_len (d k : Nat) : (pairsTo d k).length <= k := by
  induction k with
  | zero => exact Nat.le_refl _
  | succ k ih =>
    rw [pairsTo]
    split
    · simp; omega
    · omega
def KpB (Bn Bd : Nat) (W W' : World) : Prop := W'.cell? ⟨Bn, 0, none⟩ = W.cell? ⟨Bn, 0, none⟩ /\ W'.cell? ⟨Bd, 0, none⟩ = W.cell? ⟨Bd, 0, none⟩
abbrev P2 (n : Nat) := { x : Nat × Nat // x.1 < n /\ x.2 < n }
set_option maxRecDepth 100000 in
set_option maxHeartbeats 2000000 in
theorem pairs1_in (F : Fence) (nF : Nat) (h7 : F.fn 59) (hro : F.round = none) (_hn : 1 <= nF) (l Bn Bd n d : Nat) (hn : n <= 256) (hd : Pow d) (hor : ∀ k, k < n -> k ||| d < n) (J Jx : List (P2 n) -> World -> Prop)
    (hY : ∀ pre x W, J pre W -> pre.length < n -> YieldAt F (nF - 1) Tryd.prog l #[.int .i64 (x.1.1 : Int), .int .i64 (x.1.2 : Int)] W fun e W' =>
      (e = .returned (.bool true) /\ J (pre ++ [x]) W' /\ KpB Bn Bd W W') \/ (e = .returned (.bool false) /\ Jx (pre ++ [x]) W'))
    (W : World) (hBn : W.cell? ⟨Bn, 0, none⟩ = some (.int .i64 n)) (hBd : W.cell? ⟨Bd, 0, none⟩ = some (.int .i64 d)) (h0 : J [] W) :
    CallsIn F nF Tryd.prog 59 #[.func (.yield l) #[] #[], .pointer (some ⟨Bn, 0, none⟩), .pointer (some ⟨Bd, 0, none⟩)] W fun e W' => (∃ v, e = .returned v) /\
      ((∃ ys : List (P2 n), ys.map (·.1) = pairsTo d n /\ J ys W') \/ (∃ pre, True /\ Jx pre W')) := by
  have Hor := hidx hor
  clear hor
  refine callsIn_of_wp Tryd.func59 rfl h7 ?_ hro
  simp only [Tryd.ntmps59, List.size_toArray, List.length_cons, List.length_nil, Nat.reduceAdd, Nat.reduceSub, Array.replicate_succ, Array.replicate_zero, List.push_toArray, List.append_toArray, List.nil_append, List.cons_append]
  gi_wp2
  gi_loopw [4, 6] (fun _ i wr => ∃ (k : Nat) (pre : List (P2 n)), k <= n /\ i = .int .i64 k /\ Hid (pre.map (·.1) = pairsTo d k) /\ J pre wr /\ KpB Bn Bd W wr) (fun _ i _ => n - (intOf i).toNat)
  case atStart => exact ⟨0, [], Nat.zero_le _, rfl, rfl, h0, rfl, rfl⟩
  case round =>
    obtain ⟨k, pre, hk, rfl, hpre, hJs, hk1, hk2⟩ := hrel
    have hc := hk2.trans hBd
    by_cases hlt : k < n
    · obtain ⟨ha, ho⟩ := and_or (i := k) (by omega) hd
      have hlen : pre.length <= k := by
        have h1 := pairsTo_len d k
        rw [<- hpre.out] at h1
        simpa using h1
      by_cases hz : k &&& d = 0
      · have hp : pairsTo d (k + 1) = pairsTo d k ++ [(k, k ||| d)] := by rw [pairsTo, if_pos hz]
        have HP := hidx hp
        rw [hz] at ha
        obtain ⟨fn, tmps, assign, body, hy, hR⟩ := hY _ ⟨(k, k ||| d), hlt, Hor.out k hlt⟩ wr hJs (Nat.lt_of_le_of_lt hlen hlt)
        dsimp only at hy
        clear hp
        gi_wp2
        refine hR.mono ?_
        rintro e W3 (⟨rfl, hJ3, hk3, hk4⟩ | ⟨rfl, hJx3⟩)
        · gi_wp2
          go_roundw
          case rel => exact ⟨k + 1, _, by omega, by simp, hidx (by rw [HP.out, <- hpre.out]; simp), hJ3, hk3.trans hk1, hk4.trans hk2⟩
          case measure => simp [intOf]; omega
        · gi_wp2
          refine bodyPost_ret (results_none rfl _ _ _) rfl ?_
          exact ⟨⟨_, rfl⟩, .inr ⟨_, trivial, hJx3⟩⟩
      · have hp : pairsTo d (k + 1) = pairsTo d k := by rw [pairsTo, if_neg hz]
        have HP := hidx hp
        have hz2 : (((k &&& d : Nat) : Int) == 0) = false := by rw [beq_eq_false_iff_ne]; omega
        clear hp hz
        gi_wp2
        refine ⟨fun _ h => (by cases h), ?_⟩
        gi_wp2
        go_roundw
        case rel => exact ⟨k + 1, pre, by omega, by simp, hidx (by rw [HP.out]; exact hpre.out), hJs, hk1, hk2⟩
        case measure => simp [intOf]; omega
    · obtain rfl : k = n := by omega
      gi_wp2
      go_end0
      exact ⟨⟨_, rfl⟩, .inl ⟨pre, hpre.out, hJs⟩⟩
set_option maxHeartbeats 1000000 in
theorem pairs_in (F : Fence) (nF : Nat) (h5 : F.fn 42) (hro : F.round = none) (n d : Int) (w : World) :
    CallsIn F nF Tryd.prog 42 #[.int .i64 n, .int .i64 d] w fun e w' => e = .returned (.func (.func 59) #[] #[.pointer (some ⟨w.heap.size, 0, none⟩), .pointer (some ⟨w.heap.size + 1, 0, none⟩)]) /\
      w' = (w.alloc (.cells #[.int .i64 n] 3)).alloc (.cells #[.int .i64 d] 3) := by
  refine callsIn_of_wp Tryd.func42 rfl h5 ?_ hro
  simp only [Tryd.ntmps42, List.size_toArray, List.length_cons, List.length_nil, Nat.reduceAdd, Nat.reduceSub, Array.replicate_succ, Array.replicate_zero, List.push_toArray, List.append_toArray, List.nil_append, List.cons_append]
  gi_wp2
  go_ret
  exact ⟨rfl, rfl⟩
theorem pairs_stops (F : Fence) (nF : Nat) (h7 : F.fn 59) (hro : F.round = none) (hn1 : 1 <= nF) (Bn Bd n d : Nat) (hn : n <= 256) (hd : Pow d) (hor : ∀ k, k < n -> k ||| d < n) (w : World) (hBn : w.cell? ⟨Bn, 0, none⟩ = some (.int .i64 n)) (hBd : w.cell? ⟨Bd, 0, none⟩ = some (.int .i64 d)) :
    SeqStopsK F nF Tryd.prog 59 #[.pointer (some ⟨Bn, 0, none⟩), .pointer (some ⟨Bd, 0, none⟩)] (fun x : P2 n => #[Value.int .i64 (x.1.1 : Int), Value.int .i64 (x.1.2 : Int)]) (KpB Bn Bd) (fun ys => ys.map (·.1) = pairsTo d n)
      (fun _ => True) n w := fun l J Jx W hW _ _ hY h0 =>
  pairs1_in F nF h7 hro hn1 l Bn Bd n d hn hd hor J Jx hY W (Below.cell_of hW hBn) (Below.cell_of hW hBd) h0
theorem kpB_t {Bn Bd : Nat} {A B C : World} (h : KpB Bn Bd A B) (k : KpB Bn Bd B C) : KpB Bn Bd A C := ⟨k.1.trans h.1, k.2.trans h.2⟩
theorem kpB_b {Bn Bd : Nat} {w : World} (h1 : Bn < w.heap.size) (h2 : Bd < w.heap.size) (W : World) (l : Nat) (o o' : Obj) (hl : w.heap.size <= l) (_h : W.heap[l]? = some o) (_ : o.isCells = false) (_ : o.isWalk = false) : KpB Bn Bd W (W.putObj l o') := by
  have hg := grownBy_putObj' W l o'
  refine ⟨?_, ?_⟩
  · by_cases hlt : Bn < W.heap.size
    · exact World.cell?_of_block (hg.block _ hlt (by intro e; have e2 : Bn = l := Option.some.inj e; omega))
    · have e1 : W.cell? ⟨Bn, 0, none⟩ = none := by simp [World.cell?, Array.getElem?_eq_none (Nat.le_of_not_lt hlt)]
      have e2 : (W.putObj l o').cell? ⟨Bn, 0, none⟩ = none := by
        have : (W.putObj l o').heap.size = W.heap.size := by simp [World.putObj]
        simp [World.cell?, Array.getElem?_eq_none (show (W.putObj l o').heap.size <= Bn by omega)]
      rw [e1, e2]
  · by_cases hlt : Bd < W.heap.size
    · exact World.cell?_of_block (hg.block _ hlt (by intro e; have e2 : Bd = l := Option.some.inj e; omega))
    · have e1 : W.cell? ⟨Bd, 0, none⟩ = none := by simp [World.cell?, Array.getElem?_eq_none (Nat.le_of_not_lt hlt)]
      have e2 : (W.putObj l o').cell? ⟨Bd, 0, none⟩ = none := by
        have : (W.putObj l o').heap.size = W.heap.size := by simp [World.putObj]
        simp [World.cell?, Array.getElem?_eq_none (show (W.putObj l o').heap.size <= Bd by omega)]
      rw [e1, e2]
end Go.Proofs.YtmijnbjlhnpokaaDoor
