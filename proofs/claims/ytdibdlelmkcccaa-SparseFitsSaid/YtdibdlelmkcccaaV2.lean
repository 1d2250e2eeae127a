/- A row cleared by another one: contract by the engine. No condition. -/
import Derived.Test.YtdibdlelmkcccaaV1
set_option linter.unusedVariables false
set_option linter.unusedSimpArgs false
namespace Go.Proofs.Ytdibdlelmkcccaa
open Go Go.RowKit Eng
def xf7 : Int := 2000000000000000000
def q1 (r b : List Int) (c : Nat) : Int := (nI b c).tdiv (qf4 (nI r c) (nI b c))
def q2 (r b : List Int) (c : Nat) : Int := (nI r c).tdiv (qf4 (nI r c) (nI b c))
def w9l (r b : List Int) (c i : Nat) : Int := (nI r i) * q1 r b c - (nI b i) * q2 r b c
def q3u (r b : List Int) (c : Nat) : List Int := (List.range r.length).map (w9l r b c)
def qu6 (r b : List Int) (c : Nat) : List Int := qe2 (q3u r b c)
structure wb6 (r b : List Int) (c : Nat) : Prop where
  at_ : c < r.length
  len : b.length = r.length
  max : r.length <= 1000
  ne : (nI b c) ≠ (0 : Int)
  bdr : qh4 BIG (nI r c)
  bdb : qh4 BIG (nI b c)
  one : ∀ i, i < r.length -> qh4 xf7 ((nI r i) * q1 r b c)
  two : ∀ i, i < r.length -> qh4 xf7 ((nI b i) * q2 r b c)
def q5n : ql3 := w2w (q34 [qe1, qf9]) false false 0 3 (.int .i64) (fun rows x => 0 <= x.2.1 /\ wb6 (nL rows 0) x.1 x.2.1.toNat) (fun _ _ => .tup .nil) (fun rows x => [qu6 (nL rows 0) x.1 x.2.1.toNat])
def clK (r b : List Int) (c k : Nat) : List Int := ovr (.int .i64) (w9l r b c) r k
def w9m (T : q6p) (r b : List Int) (c : Nat) : Nat -> Option Inv
  | 0 => some (Inv.of [0, 23] 11 (fun s : Nat × List Int => [(0, .msl 0 (some 0)), (23, .lit (.int .i64 s.1))]) (fun s => [.mat 0 3 (.int .i64) [s.2] (some []) (some T), .dead, .dead, .dead, .dead, .dead, .dead, .dead, .dead, .dead, .dead]) (fun s => s.1 <= r.length /\ s.2 = clK r b c s.1) (fun s => r.length - s.1))
  | _ => none
theorem q0m (r b : List Int) (c : Nat) : (q3u r b c).length = r.length := by simp [q3u]
theorem w9n (r b : List Int) (c k : Nat) : (clK r b c k).length = r.length := qo5 (.int .i64) _ r k
theorem xf8 (r b : List Int) (c k : Nat) (hk : k < r.length) : nI (clK r b c k) k = nI r k := (q2n (.int .i64) _ r k k hk).trans (if_neg (Nat.lt_irrefl k))
theorem w6q (r b : List Int) (c k : Nat) : (clK r b c k).set k (w9l r b c k) = clK r b c (k + 1) := qp2 (.int .i64) _ r k
theorem w9o (r b : List Int) (c : Nat) : clK r b c r.length = q3u r b c := qw8 (.int .i64) _ r _ (Nat.le_refl _)
theorem wx6 {r b : List Int} {c : Nat} (h : wb6 r b c) : q5l (q3u r b c) := by
  refine ⟨by rw [q0m]; exact h.max, fun x hx => ?_⟩
  unfold q3u at hx
  obtain ⟨i, hi, rfl⟩ := List.mem_map.1 hx
  have hi := List.mem_range.1 hi
  have h1 := h.one i hi
  have h2 := h.two i hi
  unfold w9l
  unfold xf7 at h1 h2
  unfold BIG
  omega
theorem wi6 : qy7 Try.prog 144 q5n := by
  refine wq3 (xv1 (SpecsOk.cons qn2 (SpecsOk.nil _)) (MutsOk.cons q1j MutsOk.nil)) Try.func144 rfl rfl (qw7 [qe1, qf9]) (fun T rows x => w9m T (nL rows 0) x.1 x.2.1.toNat) (fun _ _ _ => by kernel_rfl) (by decide) ?_ rfl
  rintro T rows ⟨b, c, ⟨⟩⟩ h hone
  revert b c
  intro (b : List Int) (c : Int) h
  obtain ⟨r, rfl⟩ : ∃ l : List Int, rows = [l] := by
    have h1 := hone rfl
    match rows, h1 with
    | [l], _ => exact ⟨l, rfl⟩
  have h : 0 <= c /\ wb6 r b c.toNat := h
  obtain ⟨j, rfl⟩ : ∃ j : Nat, c = j := ⟨c.toNat, by omega⟩
  refine qd7 (B := ((0:Int) <= (↑j:Int)/\(↑j:Int) < (↑(List.length (qa1 (Ty.list (Ty.int .i64)) [r] (0:Nat))):Int))/\Int.toNat (↑j:Int) < List.length (qa1 (Ty.list (Ty.int .i64)) [r] (0:Nat))/\((0:Int) <= (↑j:Int)/\(↑j:Int) < (↑(List.length b):Int))/\(((-4000000000000000000:Int) <= qa1 (Ty.int .i64) (qa1 (Ty.list (Ty.int .i64)) [r] (0:Nat)) (Int.toNat (↑j:Int))/\qa1 (Ty.int .i64) (qa1 (Ty.list (Ty.int .i64)) [r] (0:Nat)) (Int.toNat (↑j:Int)) <= BIG)/\(-4000000000000000000:Int) <= qa1 (Ty.int .i64) b (Int.toNat (↑j:Int))/\qa1 (Ty.int .i64) b (Int.toNat (↑j:Int)) <= BIG)/\∃ (v0:Unit),∃ (v1 : Nat × List Int),(Prod.fst v1 <= List.length (nL [r] (0:Nat))/\Prod.snd v1=clK (nL [r] (0:Nat)) b (Int.toNat (↑j:Int)) (Prod.fst v1))/\((some (0:Nat)=some (0:Nat)/\(0:Int)=(↑(Prod.fst v1):Int)/\True)/\([r]=[Prod.snd v1]/\True/\T=T)/\True/\True/\True/\True/\True/\True/\True/\True/\True/\True/\True)/\∀ (v2 : Nat × List Int),Prod.fst v2 <= List.length (nL [r] (0:Nat))/\Prod.snd v2=clK (nL [r] (0:Nat)) b (Int.toNat (↑j:Int)) (Prod.fst v2)->(decide ((↑(Prod.fst v2):Int) < (↑(List.length (qa1 (Ty.list (Ty.int .i64)) [r] (0:Nat))):Int))=true->((0:Int) <= (↑(Prod.fst v2):Int)/\(↑(Prod.fst v2):Int) < (↑(List.length (qa1 (Ty.list (Ty.int .i64)) [Prod.snd v2] (0:Nat))):Int))/\Int.toNat (↑(Prod.fst v2):Int) < List.length (qa1 (Ty.list (Ty.int .i64)) [Prod.snd v2] (0:Nat))/\qf4 (qa1 (Ty.int .i64) (qa1 (Ty.list (Ty.int .i64)) [r] (0:Nat)) (Int.toNat (↑j:Int))) (qa1 (Ty.int .i64) b (Int.toNat (↑j:Int))) ≠ (0:Int)/\fits .i64 (Int.tdiv (qa1 (Ty.int .i64) b (Int.toNat (↑j:Int))) (qf4 (qa1 (Ty.int .i64) (qa1 (Ty.list (Ty.int .i64)) [r] (0:Nat)) (Int.toNat (↑j:Int))) (qa1 (Ty.int .i64) b (Int.toNat (↑j:Int)))))/\fits .i64 (qa1 (Ty.int .i64) (qa1 (Ty.list (Ty.int .i64)) [Prod.snd v2] (0:Nat)) (Int.toNat (↑(Prod.fst v2):Int)) * Int.tdiv (qa1 (Ty.int .i64) b (Int.toNat (↑j:Int))) (qf4 (qa1 (Ty.int .i64) (qa1 (Ty.list (Ty.int .i64)) [r] (0:Nat)) (Int.toNat (↑j:Int))) (qa1 (Ty.int .i64) b (Int.toNat (↑j:Int)))))/\((0:Int) <= (↑(Prod.fst v2):Int)/\(↑(Prod.fst v2):Int) < (↑(List.length b):Int))/\qf4 (qa1 (Ty.int .i64) (qa1 (Ty.list (Ty.int .i64)) [r] (0:Nat)) (Int.toNat (↑j:Int))) (qa1 (Ty.int .i64) b (Int.toNat (↑j:Int))) ≠ (0:Int)/\fits .i64 (Int.tdiv (qa1 (Ty.int .i64) (qa1 (Ty.list (Ty.int .i64)) [r] (0:Nat)) (Int.toNat (↑j:Int))) (qf4 (qa1 (Ty.int .i64) (qa1 (Ty.list (Ty.int .i64)) [r] (0:Nat)) (Int.toNat (↑j:Int))) (qa1 (Ty.int .i64) b (Int.toNat (↑j:Int)))))/\fits .i64 (qa1 (Ty.int .i64) b (Int.toNat (↑(Prod.fst v2):Int)) * Int.tdiv (qa1 (Ty.int .i64) (qa1 (Ty.list (Ty.int .i64)) [r] (0:Nat)) (Int.toNat (↑j:Int))) (qf4 (qa1 (Ty.int .i64) (qa1 (Ty.list (Ty.int .i64)) [r] (0:Nat)) (Int.toNat (↑j:Int))) (qa1 (Ty.int .i64) b (Int.toNat (↑j:Int)))))/\fits .i64 (qa1 (Ty.int .i64) (qa1 (Ty.list (Ty.int .i64)) [Prod.snd v2] (0:Nat)) (Int.toNat (↑(Prod.fst v2):Int)) * Int.tdiv (qa1 (Ty.int .i64) b (Int.toNat (↑j:Int))) (qf4 (qa1 (Ty.int .i64) (qa1 (Ty.list (Ty.int .i64)) [r] (0:Nat)) (Int.toNat (↑j:Int))) (qa1 (Ty.int .i64) b (Int.toNat (↑j:Int)))) - qa1 (Ty.int .i64) b (Int.toNat (↑(Prod.fst v2):Int)) * Int.tdiv (qa1 (Ty.int .i64) (qa1 (Ty.list (Ty.int .i64)) [r] (0:Nat)) (Int.toNat (↑j:Int))) (qf4 (qa1 (Ty.int .i64) (qa1 (Ty.list (Ty.int .i64)) [r] (0:Nat)) (Int.toNat (↑j:Int))) (qa1 (Ty.int .i64) b (Int.toNat (↑j:Int)))))/\((0:Int) <= (↑(Prod.fst v2):Int)/\(↑(Prod.fst v2):Int) < (↑(List.length (qa1 (Ty.list (Ty.int .i64)) [Prod.snd v2] (0:Nat))):Int))/\Int.toNat (↑(Prod.fst v2):Int) < List.length (qa1 (Ty.list (Ty.int .i64)) [Prod.snd v2] (0:Nat))/\fits .i64 ((↑(Prod.fst v2):Int) + (1:Int))/\∃ (v5 : Nat × List Int),(Prod.fst v5 <= List.length (nL [r] (0:Nat))/\Prod.snd v5=clK (nL [r] (0:Nat)) b (Int.toNat (↑j:Int)) (Prod.fst v5))/\List.length (nL [r] (0:Nat)) - Prod.fst v5 < List.length (nL [r] (0:Nat)) - Prod.fst v2/\(some (0:Nat)=some (0:Nat)/\(↑(Prod.fst v2):Int) + (1:Int)=(↑(Prod.fst v5):Int)/\True)/\(List.set [Prod.snd v2] (0:Nat) (List.set (qa1 (Ty.list (Ty.int .i64)) [Prod.snd v2] (0:Nat)) (Int.toNat (↑(Prod.fst v2):Int)) (qa1 (Ty.int .i64) (qa1 (Ty.list (Ty.int .i64)) [Prod.snd v2] (0:Nat)) (Int.toNat (↑(Prod.fst v2):Int)) * Int.tdiv (qa1 (Ty.int .i64) b (Int.toNat (↑j:Int))) (qf4 (qa1 (Ty.int .i64) (qa1 (Ty.list (Ty.int .i64)) [r] (0:Nat)) (Int.toNat (↑j:Int))) (qa1 (Ty.int .i64) b (Int.toNat (↑j:Int)))) - qa1 (Ty.int .i64) b (Int.toNat (↑(Prod.fst v2):Int)) * Int.tdiv (qa1 (Ty.int .i64) (qa1 (Ty.list (Ty.int .i64)) [r] (0:Nat)) (Int.toNat (↑j:Int))) (qf4 (qa1 (Ty.int .i64) (qa1 (Ty.list (Ty.int .i64)) [r] (0:Nat)) (Int.toNat (↑j:Int))) (qa1 (Ty.int .i64) b (Int.toNat (↑j:Int))))))=[Prod.snd v5]/\True/\T=T)/\True/\True/\True/\True/\True/\True/\True/\True/\True/\True/\True)/\(decide ((↑(Prod.fst v2):Int) < (↑(List.length (qa1 (Ty.list (Ty.int .i64)) [r] (0:Nat))):Int))=false->q5l (qa1 (Ty.list (Ty.int .i64)) [qa1 (Ty.list (ql3.t wq5)) [Prod.snd v2] (0:Nat)] (0:Nat))/\List.set [Prod.snd v2] (0:Nat) (qa1 (Ty.list (ql3.t wq5)) [qe2 (qa1 (Ty.list (Ty.int .i64)) [qa1 (Ty.list (ql3.t wq5)) [Prod.snd v2] (0:Nat)] (0:Nat))] (0:Nat))=[qu6 (nL [r] (0:Nat)) b (Int.toNat (↑j:Int))]/\T=T/\True/\True)) (by kernel_rfl) ?_
  try simp only [z0,z1,z2,z3,z4,z5,z6,z7,z8,z9,z10,Int.reduceEq,z11,z12,z13,z14,z15,z16,z17,z18,z19,z20,z21,z22,z23,z24,z25,z26,z27,z28,z29,z30,Int.reduceLE,Int.reduceLT,z31,z32,z33,z34,qa3]
  try simp only [qb4, qb5, qc9, List.set_cons_zero, List.cons.injEq, and_true, true_and]
  obtain ⟨_, h⟩ := h
  rw [Int.toNat_natCast] at h
  have hB : BIG = 4000000000000000000 := rfl
  have hB2 : xf7 = 2000000000000000000 := rfl
  have hl := h.len
  have hj := h.at_
  have hmx := h.max
  refine ⟨hj, hj, by omega, ⟨by rw [<- hB]; exact h.bdr, by rw [<- hB]; exact h.bdb⟩, (), (0, r), ⟨Nat.zero_le _, (qq8 (.int .i64) _ r).symm⟩, ⟨rfl, rfl⟩, ?_⟩
  rintro ⟨k, l⟩ ⟨h1, h2⟩
  dsimp only at h1 h2 ⊢
  subst h2
  have hkl := w9n r b j k
  refine ⟨fun hlt => ?_, fun hge => ?_⟩
  · have hg := qq9 (a := nI r j) (b := nI b j) (.inr h.ne)
    have k1 := ql0 (g := qf4 (nI r j) (nI b j)) h.bdr
    have k2 := ql0 (g := qf4 (nI r j) (nI b j)) h.bdb
    have k3 := h.one k hlt
    have k4 := h.two k hlt
    rw [xf8 r b j k hlt]
    unfold q1 at k3
    unfold q2 at k4
    exact ⟨by omega, by omega, by omega, qa8 (by omega) (by omega), qa8 (by omega) (by omega), by omega, by omega, qa8 (by omega) (by omega), qa8 (by omega) (by omega), qa8 (by omega) (by omega), by omega, by omega, qa8 (by omega) (by omega), (k + 1, clK r b j (k + 1)), ⟨by dsimp only; omega, rfl⟩, by dsimp only; omega, by dsimp only; omega, w6q r b j k⟩
  · obtain rfl : k = r.length := by omega
    rw [w9o]
    exact ⟨wx6 h, rfl⟩
end Go.Proofs.Ytdibdlelmkcccaa
