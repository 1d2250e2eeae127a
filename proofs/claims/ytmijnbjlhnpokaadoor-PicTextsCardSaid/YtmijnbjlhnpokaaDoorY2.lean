/- The text of a picture: the reference's Words, Format and Parse, by the engine. No condition. -/
import Derived.Test.YtmijnbjlhnpokaaDoorYP
set_option linter.unusedVariables false
set_option linter.unusedSimpArgs false
namespace Go.Proofs.YtmijnbjlhnpokaaDoor
open Go Go.RowKit Eng Ls
theorem two_arms {A B C D X Y : Prop} (h1 : A \/ C -> X) (h2 : B -> D -> Y) : (A -> X) /\ (B -> (C -> X) /\ (D -> Y)) := ⟨fun a => h1 (.inl a), fun b => ⟨fun c => h1 (.inr c), h2 b⟩⟩
def pAV (W H : Int) (v : AV) : AV := .cons (.lit (.int .i64 W)) (.cons (.lit (.int .i64 H)) (.cons v .nil))
structure I64L (l : List Int) : Prop where
  le : l.length <= 70000
  bd : ∀ n ∈ l, -9223372036854775808 <= n /\ n <= 9223372036854775807
def sWor : FSpec := tspec true none [tInts] [.str] (fun x => I64L x.1) (fun x => (worB x.1, ()))
def ivWor (l : List Int) : Nat -> Option Inv
  | 0 => some (Inv.of [3, 8] 1 (fun k : Nat => [(3, .own 0), (8, .lit (.int .i64 k))]) (fun k => [.vec 9 .str ((l.take k).map itB)]) (fun k => k <= l.length) (fun k => l.length - k))
  | _ => none
theorem words_at {m0 : View} (hT : Tab m0) : MeetsAt Tryd.prog m0 21 sWor := by
  refine meetsAt (sndAt (SpecsAt.cons (itoa_at hT) (SpecsAt.cons (join_meets.at m0) (SpecsAt.nil _ _)))) hT.cells Tryd.func21 rfl rfl (fun x => ivWor x.1) (fun _ => by kernel_rfl) (by decide) ?_
  rintro ⟨l, ⟨⟩⟩ h
  revert l
  intro (l : List Int) (h : I64L l)
  refine @by_vc _ (∃ (v0:Unit),∃ (v1:Nat),Nat.le v1 (List.length l)/\((True/\(0:Int)=(↑v1:Int)/\True)/\List.map itB (List.take v1 l)=[]/\True)/\∀ (v2:Nat),Nat.le v2 (List.length l)->(decide ((↑v2:Int) < (↑(List.length l):Int))=true->((0:Int) <= (↑v2:Int)/\(↑v2:Int) < (↑(List.length l):Int))/\((-9223372036854775808:Int) <= nthD (Ty.int .i64) l (Int.toNat (↑v2:Int))/\nthD (Ty.int .i64) l (Int.toNat (↑v2:Int)) <= (9223372036854775807 : Ty.den tInt))/\((0:Nat) < List.length [itB (nthD (Ty.int .i64) l (Int.toNat (↑v2:Int)))]/\Nat.le (List.length (List.map itB (List.take v2 l)) + List.length [itB (nthD (Ty.int .i64) l (Int.toNat (↑v2:Int)))]) (1000000:Nat))/\fits .i64 ((↑v2:Int) + (1:Int))/\∃ (v5:Nat),Nat.le v5 (List.length l)/\List.length l - v5 < List.length l - v2/\(True/\(↑v2:Int) + (1:Int)=(↑v5:Int)/\True)/\List.map itB (List.take v2 l) ++ [itB (nthD (Ty.int .i64) l (Int.toNat (↑v2:Int)))]=List.map itB (List.take v5 l)/\True)/\(decide ((↑v2:Int) < (↑(List.length l):Int))=false->(List.length (List.map itB (List.take v2 l)) <= (1000000:Nat)/\ByteArray.size (joiB (List.map itB (List.take v2 l)) { data := #[(32 : UInt8)] }) <= (1000000000:Nat))/\Value.string (joiB (List.map itB (List.take v2 l)) { data := #[(32 : UInt8)] })=Value.string (worB l))) (by kernel_rfl) ?_
  simp only [ne_eq, true_and, and_true, eq_self, Bool.not_eq_true', Bool.not_eq_false', decide_eq_true_eq, decide_eq_false_iff_not, Nat.le_eq, Int.not_lt, Int.not_le, Int.reduceEq, not_false_eq_true, Bool.not_eq_eq_eq_not, Bool.not_true, Bool.not_false, Int.ofNat_lt, Int.ofNat_le, Int.toNat_natCast, Int.natCast_nonneg, nthD_nth, beq_iff_eq, bne_iff_ne, beq_eq_false_iff_ne, bne_eq_false_iff_eq, Classical.not_not, List.length_cons, List.length_nil, Nat.zero_add, List.nil_append, true_implies, Nat.lt_add_one, Nat.zero_lt_succ, Int.reduceLE, Int.reduceLT]
  refine ⟨(), 0, Nat.zero_le _, ⟨rfl, rfl⟩, fun k hk => ⟨fun hlt => ?_, fun hge => ?_⟩⟩
  · have hle := h.le
    have e1 : nth l k = l[k] := by simp [nth, hlt]
    refine ⟨hlt, h.bd _ (by rw [e1]; exact List.getElem_mem _), by rw [List.length_map, List.length_take]; omega, fits64 (by omega) (by omega), k + 1, hlt, by omega, by omega, ?_⟩
    rw [List.take_succ_eq_append_getElem hlt, List.map_append, e1]
    rfl
  · obtain rfl : k = l.length := by omega
    have hz := worB_size h.bd
    have hle := h.le
    rw [List.take_length]
    refine ⟨⟨by rw [List.length_map]; omega, ?_⟩, rfl⟩
    have : joiB (l.map itB) { data := #[32] } = worB l := rfl
    rw [this]
    omega
def sFmtP : FSpec := tspec true none [tPic] [.str] (fun _ => True) (fun x => (fmtB x.1.1 x.1.2.1 x.1.2.2, ()))
def ivRFm (W H : Int) (l : List Int) : Nat -> Option Inv
  | 0 => some (Inv.of [3, 10] 1 (fun k : Nat => [(3, .lit (.string (fmtR W.toNat l k))), (10, .lit (.int .i64 k))]) (fun k => [.box 24 (pAV W H (.dat tInt l))]) (fun k => k <= H.toNat) (fun k => H.toNat - k))
  | _ => none
theorem rformat_at {m0 : View} (hT : Tab m0) : MeetsAt Tryd.prog m0 9 sFmtP := by
  refine meetsAt (sndAt (SpecsAt.cons (words_at hT) (SpecsAt.cons (rvalid_meets.at m0) (SpecsAt.nil _ _)))) hT.cells Tryd.func9 rfl rfl (fun x => ivRFm x.1.1 x.1.2.1 x.1.2.2) (fun _ => by kernel_rfl) (by decide) ?_
  rintro ⟨⟨W, H, l⟩, ⟨⟩⟩ -
  revert W H l
  intro (W : Int) (H : Int) (l : List Int)
  refine @by_vc _ (True/\((!validP W H l)=true->Value.string { data := #[] }=Value.string (fmtB W H l))/\((!validP W H l)=false->∃ (v1:Unit),∃ (v2:Nat),Nat.le v2 (Int.toNat H)/\((Value.string { data := #[] }=Value.string (fmtR (Int.toNat W) l v2)/\(0:Int)=(↑v2:Int)/\True)/\(W=W/\H=H/\l=l/\True)/\True)/\∀ (v3:Nat),Nat.le v3 (Int.toNat H)->(decide ((↑v3:Int) < H)=true->fits .i64 (W * (↑v3:Int))/\fits .i64 ((↑v3:Int) + (1:Int))/\fits .i64 (W * ((↑v3:Int) + (1:Int)))/\((0:Int) <= W * (↑v3:Int)/\W * (↑v3:Int) <= W * ((↑v3:Int) + (1:Int))/\W * ((↑v3:Int) + (1:Int)) <= (↑(List.length l):Int))/\I64L (List.drop (Int.toNat (W * (↑v3:Int))) (List.take (Int.toNat (W * ((↑v3:Int) + (1:Int)))) l))/\ByteArray.size (worB (List.drop (Int.toNat (W * (↑v3:Int))) (List.take (Int.toNat (W * ((↑v3:Int) + (1:Int)))) l))) + (1:Nat) <= (9223372036854775807:Nat)/\ByteArray.size (fmtR (Int.toNat W) l v3) + ByteArray.size (worB (List.drop (Int.toNat (W * (↑v3:Int))) (List.take (Int.toNat (W * ((↑v3:Int) + (1:Int)))) l)) ++ { data := #[(10 : UInt8)] }) <= (9223372036854775807:Nat)/\fits .i64 ((↑v3:Int) + (1:Int))/\∃ (v6:Nat),Nat.le v6 (Int.toNat H)/\Int.toNat H - v6 < Int.toNat H - v3/\(Value.string (fmtR (Int.toNat W) l v3 ++ (worB (List.drop (Int.toNat (W * (↑v3:Int))) (List.take (Int.toNat (W * ((↑v3:Int) + (1:Int)))) l)) ++ { data := #[(10 : UInt8)] }))=Value.string (fmtR (Int.toNat W) l v6)/\(↑v3:Int) + (1:Int)=(↑v6:Int)/\True)/\(W=W/\H=H/\l=l/\True)/\True)/\(decide ((↑v3:Int) < H)=false->Value.string (fmtR (Int.toNat W) l v3)=Value.string (fmtB W H l)))) (by kernel_rfl) ?_
  simp only [ne_eq, true_and, and_true, eq_self, Bool.not_eq_true', Bool.not_eq_false', decide_eq_true_eq, decide_eq_false_iff_not, Nat.le_eq, Int.not_lt, Int.not_le, Int.reduceEq, not_false_eq_true, Bool.not_eq_eq_eq_not, Bool.not_true, Bool.not_false, Int.ofNat_lt, Int.ofNat_le, Int.toNat_natCast, Int.natCast_nonneg, nthD_nth, beq_iff_eq, bne_iff_ne, beq_eq_false_iff_ne, bne_eq_false_iff_eq, Classical.not_not, List.length_cons, List.length_nil, Nat.zero_add, List.nil_append, true_implies, Nat.lt_add_one, Nat.zero_lt_succ, Int.reduceLE, Int.reduceLT]
  refine ⟨fun h => by simp [fmtB, h], fun hv => ?_⟩
  have hb0 : bndB 1000000 l = true := (validP_iff.1 hv).2.2.2
  obtain ⟨a, b, hp⟩ := IsPic.of hv
  obtain ⟨rfl, rfl, ha1, ha2, hb1, hb2, hn, hn2, hbd⟩ := hp
  have hsm : ∀ i, -1000000 <= nth l i /\ nth l i <= 1000000 := fun i => by
    by_cases hi : i < l.length
    · exact hbd i hi
    · have : nth l i = 0 := by simp [nth, List.getElem?_eq_none (Nat.le_of_not_lt hi)]
      rw [this]; omega
  have hmem : ∀ n ∈ l, -1000000 <= n /\ n <= 1000000 := fun n hn => by
    have := List.all_eq_true.1 hb0 n hn
    rwa [inB_iff] at this
  simp only [Int.toNat_natCast]
  have hab : a * b <= 16 * 16 := Nat.mul_le_mul ha2 hb2
  refine ⟨(), 0, Nat.zero_le _, ⟨rfl, rfl⟩, fun y hy => ⟨fun hlt => ?_, fun hge => ?_⟩⟩
  · have hy1 : a * (y + 1) <= a * b := Nat.mul_le_mul_left a (by omega)
    have e1 : (a : Int) * (y : Int) = ((a * y : Nat) : Int) := by push_cast; rfl
    have e2 : (a : Int) * ((y : Int) + 1) = ((a * (y + 1) : Nat) : Int) := by push_cast; rfl
    have e3 : a * (y + 1) = a * y + a := Nat.mul_succ a y
    have hrow : List.drop (a * y) (List.take (a * (y + 1)) l) = rowOf a l y := by
      unfold rowOf
      rw [List.drop_take, show a * (y + 1) - a * y = a by omega]
    rw [e1, e2]
    simp only [Int.toNat_natCast]
    rw [hrow]
    have hrl : (rowOf a l y).length <= 256 := by unfold rowOf; rw [List.length_take, List.length_drop]; omega
    have hbd2 : ∀ n ∈ rowOf a l y, -9223372036854775808 <= n /\ n <= 9223372036854775807 := fun n hn => by
      have := hmem n (List.mem_of_mem_drop (List.mem_of_mem_take hn))
      omega
    have hws := worB_size hbd2
    have hfs : (fmtR a l y).size <= 22 * (a * y) := by
      rw [<- fmt_row ha1 y (by omega)]
      exact fmtTo_size a hsm (a * y)
    have s1 : (⟨#[10]⟩ : ByteArray).size = 1 := rfl
    refine ⟨fits64 (by omega) (by omega), fits64 (by omega) (by omega), fits64 (by omega) (by omega), ⟨by omega, by omega, by omega⟩, ⟨by omega, hbd2⟩, by omega, ?_, fits64 (by omega) (by omega), y + 1, by omega, by omega, rfl, by omega⟩
    rw [ByteArray.size_append, s1]
    omega
  · obtain rfl : y = b := by omega
    unfold fmtB
    rw [if_pos hv, hn, <- fmt_row ha1 y (by omega), Int.toNat_natCast]
def sPrsP : FSpec := tspec true none [.str] [tPic, tInt, tInt] (fun _ => True) (fun x => ((parR x.1).1, (parR x.1).2.1, (parR x.1).2.2, ()))
def widA (s : ByteArray) (j : Nat) : Int := if j = 0 then 0 else wideAt s
def ivRPp (s : ByteArray) : Nat -> Option Inv
  | 0 => some (Inv.of [0, 2, 5] 2 (fun j : Nat => [(0, .lit (.string (restAt s j))), (2, .box 0 0), (5, .lit (.int .i64 j))]) (fun j => [.box 24 (pAV (widA s j) j (.own 1)), .vec 3 tInt (pixAt s j)]) (fun j => ParI s j) (fun j => 17 - j))
  | 1 => some ⟨Nat, Nat, [2, 7, 39], 3, fun j t => [(2, .box 0 0), (7, .own 2), (39, .lit (.int .i64 t))], fun j t => [.box 24 (pAV (widA s j) j (.own 1)), .vec 3 tInt (pixAt s j), .vec 3 tInt ((wrdAt s j).take t |>.map numB)], fun j t => t <= (wrdAt s j).length, fun j t => (wrdAt s j).length - t⟩
  | _ => none
def sRAll : FSpec := tspec true none [tInts, tInt] [.bool] (fun x => 0 <= x.2.1 /\ x.2.1 <= 1000000000) (fun x => (bndB x.2.1 x.1, ()))
theorem rall_meets : Meets Tryd.prog 22 sRAll := meets_of ⟨_, _, Tryd.func22, rfl, rfl⟩ fun w m x vs hm hp hx => by
  obtain ⟨u, us, rfl, h1, u', us', rfl, h2, h3⟩ := hx
  obtain rfl : us' = [] := h3
  obtain ⟨A, c, rfl, hs⟩ := rd_SI hm h1
  obtain rfl : u' = .int .i64 x.2.1 := h2
  exact (rall_any A _ c _ _ w hs hp.1 hp.2).mono fun e w' ⟨h1, h2⟩ => ⟨_, h1, by subst h2; exact Below.refl _ _, [_], rfl, _, _, rfl, rfl, rfl⟩
theorem rparse_at {m0 : View} (hT : Tab m0) : MeetsAt Tryd.prog m0 7 sPrsP := by
  refine meetsAt (sndAt (SpecsAt.cons (indexByte_meets.at m0) (SpecsAt.cons (split_at hT) (SpecsAt.cons (atoi_at hT) (SpecsAt.cons (words_at hT) (SpecsAt.cons (rall_meets.at m0) (SpecsAt.nil _ _))))))) hT.cells Tryd.func7 rfl rfl (fun x => ivRPp x.1) (fun _ => by kernel_rfl) (by decide) ?_
  rintro ⟨s, ⟨⟩⟩ -
  revert s
  intro (s : ByteArray)
  refine @by_vc _ ((decide ((65536:Int) < (↑(ByteArray.size s):Int))=true->((0:Int)=Prod.fst (Prod.fst (parR s))/\(0:Int)=Prod.fst (Prod.snd (Prod.fst (parR s)))/\Prod.snd (Prod.snd (Prod.fst (parR s)))=[]/\True)/\(0:Int)=Prod.fst (Prod.snd (parR s))/\(3:Int)=Prod.snd (Prod.snd (parR s))/\True)/\(decide ((65536:Int) < (↑(ByteArray.size s):Int))=false->∃ (v1:Unit),∃ (v2:Nat),ParI s v2/\((Value.string s=Value.string (restAt s v2)/\True/\(0:Int)=(↑v2:Int)/\True)/\((0:Int)=widA s v2/\(0:Int)=(↑v2:Int)/\True/\True)/\pixAt s v2=[]/\True)/\∀ (v3:Nat),ParI s v3->(((↑v3:Int) == (0:Int))=true->True/\(decide (ixB (restAt s v3) (10:Int) < (0:Int))=true->((0:Int)=Prod.fst (Prod.fst (parR s))/\(0:Int)=Prod.fst (Prod.snd (Prod.fst (parR s)))/\Prod.snd (Prod.snd (Prod.fst (parR s)))=[]/\True)/\(↑v3:Int)=Prod.fst (Prod.snd (parR s))/\(2:Int)=Prod.snd (Prod.snd (parR s))/\True)/\(decide (ixB (restAt s v3) (10:Int) < (0:Int))=false->(((↑v3:Int) == (16:Int))=true->((0:Int)=Prod.fst (Prod.fst (parR s))/\(0:Int)=Prod.fst (Prod.snd (Prod.fst (parR s)))/\Prod.snd (Prod.snd (Prod.fst (parR s)))=[]/\True)/\(↑v3:Int)=Prod.fst (Prod.snd (parR s))/\(2:Int)=Prod.snd (Prod.snd (parR s))/\True)/\(((↑v3:Int) == (16:Int))=false->((0:Int) <= (0:Int)/\(0:Int) <= ixB (restAt s v3) (10:Int)/\ixB (restAt s v3) (10:Int) <= (↑(ByteArray.size (restAt s v3)):Int))/\(ByteArray.size (ByteArray.extract (restAt s v3) (0:Nat) (Int.toNat (ixB (restAt s v3) (10:Int)))) <= (1000000:Nat)/\{ data := #[(32 : UInt8)] }=blB)/\∃ (v8:Nat),∃ (v9:Nat),Nat.le v9 (List.length (wrdAt s v8))/\((True/\True/\(0:Int)=(↑v9:Int)/\True)/\(widA s v3=widA s v8/\(↑v3:Int)=(↑v8:Int)/\True/\True)/\pixAt s v3=pixAt s v8/\List.map numB (List.take v9 (wrdAt s v8))=[]/\True)/\∀ (v10:Nat),Nat.le v10 (List.length (wrdAt s v8))->(decide ((↑v10:Int) < (↑(List.length (splB (ByteArray.extract (restAt s v3) (0:Nat) (Int.toNat (ixB (restAt s v3) (10:Int)))))):Int))=true->((0:Int) <= (↑v10:Int)/\(↑v10:Int) < (↑(List.length (splB (ByteArray.extract (restAt s v3) (0:Nat) (Int.toNat (ixB (restAt s v3) (10:Int)))))):Int))/\ByteArray.size (nthD Ty.str (splB (ByteArray.extract (restAt s v3) (0:Nat) (Int.toNat (ixB (restAt s v3) (10:Int))))) (Int.toNat (↑v10:Int))) <= (1000000:Nat)/\((0:Nat) < List.length [numB (nthD Ty.str (splB (ByteArray.extract (restAt s v3) (0:Nat) (Int.toNat (ixB (restAt s v3) (10:Int))))) (Int.toNat (↑v10:Int)))]/\Nat.le (List.length (List.map numB (List.take v10 (wrdAt s v8))) + List.length [numB (nthD Ty.str (splB (ByteArray.extract (restAt s v3) (0:Nat) (Int.toNat (ixB (restAt s v3) (10:Int))))) (Int.toNat (↑v10:Int)))]) (1000000:Nat))/\fits .i64 ((↑v10:Int) + (1:Int))/\∃ (v13:Nat),Nat.le v13 (List.length (wrdAt s v8))/\List.length (wrdAt s v8) - v13 < List.length (wrdAt s v8) - v10/\(True/\True/\(↑v10:Int) + (1:Int)=(↑v13:Int)/\True)/\(widA s v8=widA s v8/\(↑v8:Int)=(↑v8:Int)/\True/\True)/\pixAt s v8=pixAt s v8/\List.map numB (List.take v10 (wrdAt s v8)) ++ [numB (nthD Ty.str (splB (ByteArray.extract (restAt s v3) (0:Nat) (Int.toNat (ixB (restAt s v3) (10:Int))))) (Int.toNat (↑v10:Int)))]=List.map numB (List.take v13 (wrdAt s v8))/\True)/\(decide ((↑v10:Int) < (↑(List.length (splB (ByteArray.extract (restAt s v3) (0:Nat) (Int.toNat (ixB (restAt s v3) (10:Int)))))):Int))=false->I64L (List.map numB (List.take v10 (wrdAt s v8)))/\((0:Int) <= (0:Int)/\(0:Int) <= ixB (restAt s v3) (10:Int)/\ixB (restAt s v3) (10:Int) <= (↑(ByteArray.size (restAt s v3)):Int))/\((!decide (worB (List.map numB (List.take v10 (wrdAt s v8)))=ByteArray.extract (restAt s v3) (0:Nat) (Int.toNat (ixB (restAt s v3) (10:Int)))))=true->((0:Int)=Prod.fst (Prod.fst (parR s))/\(0:Int)=Prod.fst (Prod.snd (Prod.fst (parR s)))/\Prod.snd (Prod.snd (Prod.fst (parR s)))=[]/\True)/\(↑v3:Int)=Prod.fst (Prod.snd (parR s))/\(2:Int)=Prod.snd (Prod.snd (parR s))/\True)/\((!decide (worB (List.map numB (List.take v10 (wrdAt s v8)))=ByteArray.extract (restAt s v3) (0:Nat) (Int.toNat (ixB (restAt s v3) (10:Int)))))=false->(decide ((16:Int) < (↑(List.length (List.map numB (List.take v10 (wrdAt s v8)))):Int))=true->((0:Int)=Prod.fst (Prod.fst (parR s))/\(0:Int)=Prod.fst (Prod.snd (Prod.fst (parR s)))/\Prod.snd (Prod.snd (Prod.fst (parR s)))=[]/\True)/\(↑v3:Int)=Prod.fst (Prod.snd (parR s))/\(2:Int)=Prod.snd (Prod.snd (parR s))/\True)/\(decide ((16:Int) < (↑(List.length (List.map numB (List.take v10 (wrdAt s v8)))):Int))=false->(decide ((0:Int) < (↑v3:Int))=true->(((↑(List.length (List.map numB (List.take v10 (wrdAt s v8)))):Int) != widA s v8)=true->((0:Int)=Prod.fst (Prod.fst (parR s))/\(0:Int)=Prod.fst (Prod.snd (Prod.fst (parR s)))/\Prod.snd (Prod.snd (Prod.fst (parR s)))=[]/\True)/\(↑v3:Int)=Prod.fst (Prod.snd (parR s))/\(2:Int)=Prod.snd (Prod.snd (parR s))/\True)/\(((↑(List.length (List.map numB (List.take v10 (wrdAt s v8)))):Int) != widA s v8)=false->((0 : Ty.den tInt) <= (1000000:Int)/\(1000000:Int) <= (1000000000 : Ty.den tInt))/\((!bndB (1000000:Int) (List.map numB (List.take v10 (wrdAt s v8))))=true->((0:Int)=Prod.fst (Prod.fst (parR s))/\(0:Int)=Prod.fst (Prod.snd (Prod.fst (parR s)))/\Prod.snd (Prod.snd (Prod.fst (parR s)))=[]/\True)/\(↑v3:Int)=Prod.fst (Prod.snd (parR s))/\(2:Int)=Prod.snd (Prod.snd (parR s))/\True)/\((!bndB (1000000:Int) (List.map numB (List.take v10 (wrdAt s v8))))=false->fits .i64 ((↑v3:Int) + (1:Int))/\((0:Nat) < List.length (List.map numB (List.take v10 (wrdAt s v8)))/\Nat.le (List.length (pixAt s v8) + List.length (List.map numB (List.take v10 (wrdAt s v8)))) (1000000:Nat))/\fits .i64 (ixB (restAt s v3) (10:Int) + (1:Int))/\((0:Int) <= ixB (restAt s v3) (10:Int) + (1:Int)/\ixB (restAt s v3) (10:Int) + (1:Int) <= (↑(ByteArray.size (restAt s v3)):Int)/\(↑(ByteArray.size (restAt s v3)):Int) <= (↑(ByteArray.size (restAt s v3)):Int))/\fits .i64 ((↑v3:Int) + (1:Int))/\∃ (v18:Nat),ParI s v18/\(17:Nat) - v18 < (17:Nat) - v3/\(Value.string (ByteArray.extract (restAt s v3) (Int.toNat (ixB (restAt s v3) (10:Int) + (1:Int))) (Int.toNat (↑(ByteArray.size (restAt s v3)):Int)))=Value.string (restAt s v18)/\True/\(↑v3:Int) + (1:Int)=(↑v18:Int)/\True)/\((↑(List.length (List.map numB (List.take v10 (wrdAt s v8)))):Int)=widA s v18/\(↑v3:Int) + (1:Int)=(↑v18:Int)/\True/\True)/\pixAt s v8 ++ List.map numB (List.take v10 (wrdAt s v8))=pixAt s v18/\True)))/\(decide ((0:Int) < (↑v3:Int))=false->((0 : Ty.den tInt) <= (1000000:Int)/\(1000000:Int) <= (1000000000 : Ty.den tInt))/\((!bndB (1000000:Int) (List.map numB (List.take v10 (wrdAt s v8))))=true->((0:Int)=Prod.fst (Prod.fst (parR s))/\(0:Int)=Prod.fst (Prod.snd (Prod.fst (parR s)))/\Prod.snd (Prod.snd (Prod.fst (parR s)))=[]/\True)/\(↑v3:Int)=Prod.fst (Prod.snd (parR s))/\(2:Int)=Prod.snd (Prod.snd (parR s))/\True)/\((!bndB (1000000:Int) (List.map numB (List.take v10 (wrdAt s v8))))=false->fits .i64 ((↑v3:Int) + (1:Int))/\((0:Nat) < List.length (List.map numB (List.take v10 (wrdAt s v8)))/\Nat.le (List.length (pixAt s v8) + List.length (List.map numB (List.take v10 (wrdAt s v8)))) (1000000:Nat))/\fits .i64 (ixB (restAt s v3) (10:Int) + (1:Int))/\((0:Int) <= ixB (restAt s v3) (10:Int) + (1:Int)/\ixB (restAt s v3) (10:Int) + (1:Int) <= (↑(ByteArray.size (restAt s v3)):Int)/\(↑(ByteArray.size (restAt s v3)):Int) <= (↑(ByteArray.size (restAt s v3)):Int))/\fits .i64 ((↑v3:Int) + (1:Int))/\∃ (v17:Nat),ParI s v17/\(17:Nat) - v17 < (17:Nat) - v3/\(Value.string (ByteArray.extract (restAt s v3) (Int.toNat (ixB (restAt s v3) (10:Int) + (1:Int))) (Int.toNat (↑(ByteArray.size (restAt s v3)):Int)))=Value.string (restAt s v17)/\True/\(↑v3:Int) + (1:Int)=(↑v17:Int)/\True)/\((↑(List.length (List.map numB (List.take v10 (wrdAt s v8)))):Int)=widA s v17/\(↑v3:Int) + (1:Int)=(↑v17:Int)/\True/\True)/\pixAt s v8 ++ List.map numB (List.take v10 (wrdAt s v8))=pixAt s v17/\True))))))))/\(((↑v3:Int) == (0:Int))=false->((!decide (restAt s v3={ data := #[] }))=true->True/\(decide (ixB (restAt s v3) (10:Int) < (0:Int))=true->((0:Int)=Prod.fst (Prod.fst (parR s))/\(0:Int)=Prod.fst (Prod.snd (Prod.fst (parR s)))/\Prod.snd (Prod.snd (Prod.fst (parR s)))=[]/\True)/\(↑v3:Int)=Prod.fst (Prod.snd (parR s))/\(2:Int)=Prod.snd (Prod.snd (parR s))/\True)/\(decide (ixB (restAt s v3) (10:Int) < (0:Int))=false->(((↑v3:Int) == (16:Int))=true->((0:Int)=Prod.fst (Prod.fst (parR s))/\(0:Int)=Prod.fst (Prod.snd (Prod.fst (parR s)))/\Prod.snd (Prod.snd (Prod.fst (parR s)))=[]/\True)/\(↑v3:Int)=Prod.fst (Prod.snd (parR s))/\(2:Int)=Prod.snd (Prod.snd (parR s))/\True)/\(((↑v3:Int) == (16:Int))=false->((0:Int) <= (0:Int)/\(0:Int) <= ixB (restAt s v3) (10:Int)/\ixB (restAt s v3) (10:Int) <= (↑(ByteArray.size (restAt s v3)):Int))/\(ByteArray.size (ByteArray.extract (restAt s v3) (0:Nat) (Int.toNat (ixB (restAt s v3) (10:Int)))) <= (1000000:Nat)/\{ data := #[(32 : UInt8)] }=blB)/\∃ (v9:Nat),∃ (v10:Nat),Nat.le v10 (List.length (wrdAt s v9))/\((True/\True/\(0:Int)=(↑v10:Int)/\True)/\(widA s v3=widA s v9/\(↑v3:Int)=(↑v9:Int)/\True/\True)/\pixAt s v3=pixAt s v9/\List.map numB (List.take v10 (wrdAt s v9))=[]/\True)/\∀ (v11:Nat),Nat.le v11 (List.length (wrdAt s v9))->(decide ((↑v11:Int) < (↑(List.length (splB (ByteArray.extract (restAt s v3) (0:Nat) (Int.toNat (ixB (restAt s v3) (10:Int)))))):Int))=true->((0:Int) <= (↑v11:Int)/\(↑v11:Int) < (↑(List.length (splB (ByteArray.extract (restAt s v3) (0:Nat) (Int.toNat (ixB (restAt s v3) (10:Int)))))):Int))/\ByteArray.size (nthD Ty.str (splB (ByteArray.extract (restAt s v3) (0:Nat) (Int.toNat (ixB (restAt s v3) (10:Int))))) (Int.toNat (↑v11:Int))) <= (1000000:Nat)/\((0:Nat) < List.length [numB (nthD Ty.str (splB (ByteArray.extract (restAt s v3) (0:Nat) (Int.toNat (ixB (restAt s v3) (10:Int))))) (Int.toNat (↑v11:Int)))]/\Nat.le (List.length (List.map numB (List.take v11 (wrdAt s v9))) + List.length [numB (nthD Ty.str (splB (ByteArray.extract (restAt s v3) (0:Nat) (Int.toNat (ixB (restAt s v3) (10:Int))))) (Int.toNat (↑v11:Int)))]) (1000000:Nat))/\fits .i64 ((↑v11:Int) + (1:Int))/\∃ (v14:Nat),Nat.le v14 (List.length (wrdAt s v9))/\List.length (wrdAt s v9) - v14 < List.length (wrdAt s v9) - v11/\(True/\True/\(↑v11:Int) + (1:Int)=(↑v14:Int)/\True)/\(widA s v9=widA s v9/\(↑v9:Int)=(↑v9:Int)/\True/\True)/\pixAt s v9=pixAt s v9/\List.map numB (List.take v11 (wrdAt s v9)) ++ [numB (nthD Ty.str (splB (ByteArray.extract (restAt s v3) (0:Nat) (Int.toNat (ixB (restAt s v3) (10:Int))))) (Int.toNat (↑v11:Int)))]=List.map numB (List.take v14 (wrdAt s v9))/\True)/\(decide ((↑v11:Int) < (↑(List.length (splB (ByteArray.extract (restAt s v3) (0:Nat) (Int.toNat (ixB (restAt s v3) (10:Int)))))):Int))=false->I64L (List.map numB (List.take v11 (wrdAt s v9)))/\((0:Int) <= (0:Int)/\(0:Int) <= ixB (restAt s v3) (10:Int)/\ixB (restAt s v3) (10:Int) <= (↑(ByteArray.size (restAt s v3)):Int))/\((!decide (worB (List.map numB (List.take v11 (wrdAt s v9)))=ByteArray.extract (restAt s v3) (0:Nat) (Int.toNat (ixB (restAt s v3) (10:Int)))))=true->((0:Int)=Prod.fst (Prod.fst (parR s))/\(0:Int)=Prod.fst (Prod.snd (Prod.fst (parR s)))/\Prod.snd (Prod.snd (Prod.fst (parR s)))=[]/\True)/\(↑v3:Int)=Prod.fst (Prod.snd (parR s))/\(2:Int)=Prod.snd (Prod.snd (parR s))/\True)/\((!decide (worB (List.map numB (List.take v11 (wrdAt s v9)))=ByteArray.extract (restAt s v3) (0:Nat) (Int.toNat (ixB (restAt s v3) (10:Int)))))=false->(decide ((16:Int) < (↑(List.length (List.map numB (List.take v11 (wrdAt s v9)))):Int))=true->((0:Int)=Prod.fst (Prod.fst (parR s))/\(0:Int)=Prod.fst (Prod.snd (Prod.fst (parR s)))/\Prod.snd (Prod.snd (Prod.fst (parR s)))=[]/\True)/\(↑v3:Int)=Prod.fst (Prod.snd (parR s))/\(2:Int)=Prod.snd (Prod.snd (parR s))/\True)/\(decide ((16:Int) < (↑(List.length (List.map numB (List.take v11 (wrdAt s v9)))):Int))=false->(decide ((0:Int) < (↑v3:Int))=true->(((↑(List.length (List.map numB (List.take v11 (wrdAt s v9)))):Int) != widA s v9)=true->((0:Int)=Prod.fst (Prod.fst (parR s))/\(0:Int)=Prod.fst (Prod.snd (Prod.fst (parR s)))/\Prod.snd (Prod.snd (Prod.fst (parR s)))=[]/\True)/\(↑v3:Int)=Prod.fst (Prod.snd (parR s))/\(2:Int)=Prod.snd (Prod.snd (parR s))/\True)/\(((↑(List.length (List.map numB (List.take v11 (wrdAt s v9)))):Int) != widA s v9)=false->((0 : Ty.den tInt) <= (1000000:Int)/\(1000000:Int) <= (1000000000 : Ty.den tInt))/\((!bndB (1000000:Int) (List.map numB (List.take v11 (wrdAt s v9))))=true->((0:Int)=Prod.fst (Prod.fst (parR s))/\(0:Int)=Prod.fst (Prod.snd (Prod.fst (parR s)))/\Prod.snd (Prod.snd (Prod.fst (parR s)))=[]/\True)/\(↑v3:Int)=Prod.fst (Prod.snd (parR s))/\(2:Int)=Prod.snd (Prod.snd (parR s))/\True)/\((!bndB (1000000:Int) (List.map numB (List.take v11 (wrdAt s v9))))=false->fits .i64 ((↑v3:Int) + (1:Int))/\((0:Nat) < List.length (List.map numB (List.take v11 (wrdAt s v9)))/\Nat.le (List.length (pixAt s v9) + List.length (List.map numB (List.take v11 (wrdAt s v9)))) (1000000:Nat))/\fits .i64 (ixB (restAt s v3) (10:Int) + (1:Int))/\((0:Int) <= ixB (restAt s v3) (10:Int) + (1:Int)/\ixB (restAt s v3) (10:Int) + (1:Int) <= (↑(ByteArray.size (restAt s v3)):Int)/\(↑(ByteArray.size (restAt s v3)):Int) <= (↑(ByteArray.size (restAt s v3)):Int))/\fits .i64 ((↑v3:Int) + (1:Int))/\∃ (v19:Nat),ParI s v19/\(17:Nat) - v19 < (17:Nat) - v3/\(Value.string (ByteArray.extract (restAt s v3) (Int.toNat (ixB (restAt s v3) (10:Int) + (1:Int))) (Int.toNat (↑(ByteArray.size (restAt s v3)):Int)))=Value.string (restAt s v19)/\True/\(↑v3:Int) + (1:Int)=(↑v19:Int)/\True)/\((↑(List.length (List.map numB (List.take v11 (wrdAt s v9)))):Int)=widA s v19/\(↑v3:Int) + (1:Int)=(↑v19:Int)/\True/\True)/\pixAt s v9 ++ List.map numB (List.take v11 (wrdAt s v9))=pixAt s v19/\True)))/\(decide ((0:Int) < (↑v3:Int))=false->((0 : Ty.den tInt) <= (1000000:Int)/\(1000000:Int) <= (1000000000 : Ty.den tInt))/\((!bndB (1000000:Int) (List.map numB (List.take v11 (wrdAt s v9))))=true->((0:Int)=Prod.fst (Prod.fst (parR s))/\(0:Int)=Prod.fst (Prod.snd (Prod.fst (parR s)))/\Prod.snd (Prod.snd (Prod.fst (parR s)))=[]/\True)/\(↑v3:Int)=Prod.fst (Prod.snd (parR s))/\(2:Int)=Prod.snd (Prod.snd (parR s))/\True)/\((!bndB (1000000:Int) (List.map numB (List.take v11 (wrdAt s v9))))=false->fits .i64 ((↑v3:Int) + (1:Int))/\((0:Nat) < List.length (List.map numB (List.take v11 (wrdAt s v9)))/\Nat.le (List.length (pixAt s v9) + List.length (List.map numB (List.take v11 (wrdAt s v9)))) (1000000:Nat))/\fits .i64 (ixB (restAt s v3) (10:Int) + (1:Int))/\((0:Int) <= ixB (restAt s v3) (10:Int) + (1:Int)/\ixB (restAt s v3) (10:Int) + (1:Int) <= (↑(ByteArray.size (restAt s v3)):Int)/\(↑(ByteArray.size (restAt s v3)):Int) <= (↑(ByteArray.size (restAt s v3)):Int))/\fits .i64 ((↑v3:Int) + (1:Int))/\∃ (v18:Nat),ParI s v18/\(17:Nat) - v18 < (17:Nat) - v3/\(Value.string (ByteArray.extract (restAt s v3) (Int.toNat (ixB (restAt s v3) (10:Int) + (1:Int))) (Int.toNat (↑(ByteArray.size (restAt s v3)):Int)))=Value.string (restAt s v18)/\True/\(↑v3:Int) + (1:Int)=(↑v18:Int)/\True)/\((↑(List.length (List.map numB (List.take v11 (wrdAt s v9)))):Int)=widA s v18/\(↑v3:Int) + (1:Int)=(↑v18:Int)/\True/\True)/\pixAt s v9 ++ List.map numB (List.take v11 (wrdAt s v9))=pixAt s v18/\True))))))))/\((!decide (restAt s v3={ data := #[] }))=false->(widA s v3=Prod.fst (Prod.fst (parR s))/\(↑v3:Int)=Prod.fst (Prod.snd (Prod.fst (parR s)))/\pixAt s v3=Prod.snd (Prod.snd (Prod.fst (parR s)))/\True)/\(0:Int)=Prod.fst (Prod.snd (parR s))/\(0:Int)=Prod.snd (Prod.snd (parR s))/\True)))) (by kernel_rfl) ?_
  simp only [ne_eq, true_and, and_true, eq_self, Bool.not_eq_true', Bool.not_eq_false', decide_eq_true_eq, decide_eq_false_iff_not, Nat.le_eq, Int.not_lt, Int.not_le, Int.reduceEq, not_false_eq_true, Bool.not_eq_eq_eq_not, Bool.not_true, Bool.not_false, Int.ofNat_lt, Int.ofNat_le, Int.toNat_natCast, Int.natCast_nonneg, nthD_nth, beq_iff_eq, bne_iff_ne, beq_eq_false_iff_ne, bne_eq_false_iff_eq, Classical.not_not, List.length_cons, List.length_nil, Nat.zero_add, List.nil_append, true_implies, Nat.lt_add_one, Nat.zero_lt_succ, Int.reduceLE, Int.reduceLT]
  refine ⟨fun h => ?_, fun hs => ?_⟩
  · have e : parR s = ((0, 0, []), 0, 3) := by unfold parR; rw [if_pos (by omega)]
    rw [e]
    exact ⟨⟨rfl, rfl, rfl⟩, rfl, rfl⟩
  have hs' : ¬ 65536 < s.size := by omega
  refine ⟨(), 0, ParI.zero s, ⟨⟨rfl, rfl⟩, ⟨rfl, rfl⟩, rfl⟩, fun j hj => two_arms (fun hc => ?_) (fun h0 hem => ?_)⟩
  · have hc' : j = 0 \/ restAt s j ≠ ⟨#[]⟩ := hc.imp (fun h => by omega) id
    have hle := hj.le
    have hfail : okAt s j = false -> (0 = (parR s).1.1 /\ 0 = (parR s).1.2.1 /\ (parR s).1.2.2 = []) /\ (j : Int) = (parR s).2.1 /\ 2 = (parR s).2.2 := fun ho => by
      rw [hj.fail hs' hc' ho]
      exact ⟨⟨rfl, rfl, rfl⟩, rfl, rfl⟩
    have hR := okAt_ref hj
    have hno : ∀ {p : Prop}, (okAt s j = true -> p) -> ¬ p -> okAt s j = false := fun h1 h2 => by
      cases ho : okAt s j with
      | false => rfl
      | true => exact absurd (h1 ho) h2
    have hb := ixB_bd (restAt s j) 10
    have hz := restAt_size s j
    have hend : endAt s j = decide (0 <= ixB (restAt s j) 10) := by
      unfold endAt cutR
      split
      · rename_i h; exact (decide_eq_true h).symm
      · rename_i h; exact (decide_eq_false h).symm
    refine ⟨fun h1 => hfail (hno (fun h => (hR.1 h).1) (by rw [hend]; simp; omega)), fun h1 => ⟨fun h2 => hfail (hno (fun h => (hR.1 h).2.1) (by omega)), fun h2 => ?_⟩⟩
    have he : (restAt s j).extract 0 (ixB (restAt s j) 10).toNat = lineAt s j := by unfold lineAt cutR; rw [if_pos h1]
    have he2 : splB (lineAt s j) = wrdAt s j := rfl
    rw [he, he2]
    have hl := wrdAt_le s j
    refine ⟨⟨h1, by omega⟩, ⟨Nat.le_trans (lineAt_size s j) (by omega), rfl⟩, j, 0, Nat.zero_le _, ⟨rfl, ⟨rfl, rfl⟩, rfl, rfl⟩, fun t ht => ⟨fun hlt => ?_, fun hge => ?_⟩⟩
    · have e1 : nthD .str (wrdAt s j) t = (wrdAt s j)[t] := nthD_at _ _ hlt
      have hsz : ((wrdAt s j)[t] : ByteArray).size <= (lineAt s j).size := splB_mem (List.getElem_mem _)
      have hls := lineAt_size s j
      refine ⟨hlt, by rw [e1]; omega, by rw [List.length_map, List.length_take]; omega, fits64 (by omega) (by omega), t + 1, hlt, by omega, by omega, ?_⟩
      rw [List.take_succ_eq_append_getElem hlt, List.map_append, e1]
      rfl
    · have e3 : List.map numB (List.take t (wrdAt s j)) = numAt s j := by rw [List.take_of_length_le (by omega)]; rfl
      rw [e3]
      have hnl := numAt_len s j
      have hpx := hj.pix
      have hgood : okAt s j = true -> fits .i64 ((j : Int) + 1) /\ (0 < (numAt s j).length /\ (pixAt s j).length + (numAt s j).length <= 1000000) /\ fits .i64 (ixB (restAt s j) 10 + 1) /\ (0 <= ixB (restAt s j) 10 + 1 /\ ixB (restAt s j) 10 + 1 <= ((restAt s j).size : Int) /\ (restAt s j).size <= (restAt s j).size) /\ fits .i64 ((j : Int) + 1) /\ ∃ v : Nat, ParI s v /\ 17 - v < 17 - j /\ (Value.string ((restAt s j).extract (ixB (restAt s j) 10 + 1).toNat (restAt s j).size) = Value.string (restAt s v) /\ (j : Int) + 1 = (v : Int)) /\ (((numAt s j).length : Int) = widA s v /\ (j : Int) + 1 = (v : Int)) /\ pixAt s j ++ numAt s j = pixAt s v := fun ho => by
        refine ⟨fits64 (by omega) (by omega), ⟨by omega, by omega⟩, fits64 (by omega) (by omega), ⟨by omega, by omega, Nat.le_refl _⟩, fits64 (by omega) (by omega), j + 1, hj.next hc' ho, by omega, ⟨?_, by omega⟩, ⟨?_, by omega⟩, rfl⟩
        · rw [restAt]
          unfold cutR
          rw [if_pos h1, show (ixB (restAt s j) 10 + 1).toNat = (ixB (restAt s j) 10).toNat + 1 by omega]
        · unfold widA
          rw [if_neg (by omega)]
          unfold okAt at ho
          simp only [Bool.and_eq_true, decide_eq_true_iff] at ho
          rw [hnl]
          exact ho.1.1.2
      have hE : endAt s j = true := by rw [hend]; exact decide_eq_true h1
      refine ⟨⟨by omega, fun n hn => ?_⟩, ⟨h1, by omega⟩, fun h3 => hfail (hno (fun h => (hR.1 h).2.2.1) h3), fun h3 => ⟨fun h4 => hfail (hno (fun h => (hR.1 h).2.2.2.1) (by omega)), fun h4 => ⟨fun h5 => ⟨fun h6 => hfail (hno (fun h => (hR.1 h).2.2.2.2.1 (by omega)) ?_), fun h6 => ⟨fun h7 => hfail (hno (fun h => (hR.1 h).2.2.2.2.2) (by rw [h7]; decide)), fun h7 => hgood (hR.2 ⟨hE, by omega, h3, by omega, fun _ => ?_, h7⟩)⟩⟩, fun h5 => ⟨fun h7 => hfail (hno (fun h => (hR.1 h).2.2.2.2.2) (by rw [h7]; decide)), fun h7 => hgood (hR.2 ⟨hE, by omega, h3, by omega, fun h => absurd h (by omega), h7⟩)⟩⟩⟩⟩
      · obtain ⟨w, _, rfl⟩ := List.mem_map.1 hn
        exact numB_bd w
      · unfold widA at h6
        rwa [if_neg (by omega)] at h6
      · unfold widA at h6
        rwa [if_neg (by omega)] at h6
  · have hj0 : j ≠ 0 := by omega
    rw [hj.done hs' hj0 hem]
    unfold widA
    rw [if_neg hj0]
    exact ⟨⟨rfl, rfl, rfl⟩, rfl, rfl⟩
end Go.Proofs.YtmijnbjlhnpokaaDoor
