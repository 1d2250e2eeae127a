/- Fits collected, the sparsest ones, whole ones: contracts by the engine. No condition. -/
import Derived.Test.YtdibdlelmkcccaaV24
set_option linter.unusedVariables false
set_option linter.unusedSimpArgs false
namespace Go.Proofs.Ytdibdlelmkcccaa
open Go Go.RowKit Eng
abbrev Fit := List Int × List (Int × Int)
def qg4 (m : List (List Int)) (y : List Int) (s : List (List Int)) : List Fit := s.filterMap fun pix => if (qq3 m y pix).2 = true then some (qq3 m y pix).1 else none
def qi0 (m : List (List Int)) (y : List Int) : Nat -> List Fit
  | 0 => []
  | k + 1 => qi0 m y k ++ qg4 m y (qe8 (nL m 0).length k)
def fitsN (m : List (List Int)) (k : Int) : Nat := (min (min k (nL m 0).length) m.length + 1).toNat
def qg7 (m : List (List Int)) (y : List Int) (k : Int) : List Fit := qi0 m y (fitsN m k)
structure q6b (m : List (List Int)) (y : List Int) (k : Int) : Prop where
  k0 : 0 <= k
  k1 : k <= 1000
  one : 0 < m.length
  rows : m.length <= 1000
  pix : (nL m 0).length <= 1000
  sets : ∀ j : Nat, j < fitsN m k -> ∀ s ∈ qe8 (nL m 0).length j, qp9 m s y /\ s.length <= 100000
abbrev xi3 : q06 := w9f [qf9, tQ] [q2m] (fun x => q6b x.2.1.1 x.2.1.2 x.1) (fun x => (qg7 x.2.1.1 x.2.1.2 x.1).map fun f => (f, ()))
def xi4 : List AObj := [.dead, .dead, .dead, .dead, .dead, .dead, .dead, .dead, .dead]
def xi5 (m : List (List Int)) (y : List Int) (k : Int) : Nat -> Option Inv
  | 0 => some (Eng.Inv.mk Nat Nat [16] 11 (fun _ s => [(16, .lit (.int .i64 s))]) (fun l s => .cnt (some (qi0 m y s).length) :: .box 79 (.cons (.lit (.func (.yield l) #[] #[])) .nil) :: xi4) (fun _ s => s <= fitsN m k) (fun _ s => fitsN m k - s))
  | 1 => some (Eng.Inv.mk (Nat × Nat) Nat [] 11 (fun _ _ => []) (fun q c => .cnt (some ((qi0 m y q.2).length + (qg4 m y ((qe8 (nL m 0).length q.2).take c)).length)) :: .box 79 (.cons (.lit (.func (.yield q.1) #[] #[])) .nil) :: xi4) (fun q c => c <= (qe8 (nL m 0).length q.2).length) (fun _ c => c))
  | _ => none
theorem q7u (m : List (List Int)) (y : List Int) (a : Nat) : ∀ j, ∃ t, qi0 m y (a + j) = qi0 m y a ++ t
  | 0 => ⟨[], by simp⟩
  | j + 1 => by
    obtain ⟨t, ht⟩ := q7u m y a j
    exact ⟨t ++ qg4 m y (qe8 (nL m 0).length (a + j : Nat)), by rw [<- Nat.add_assoc, qi0, ht, List.append_assoc]⟩
theorem qz8 (m : List (List Int)) (y : List Int) {s : List (List Int)} {c : Nat} {p : List Int} (h : s[c]? = some p) : qg4 m y (s.take (c + 1)) = qg4 m y (s.take c) ++ if (qq3 m y p).2 = true then [(qq3 m y p).1] else [] := by
  rw [List.take_add_one, h]
  unfold qg4
  rw [List.filterMap_append]
  congr 1
  simp only [Option.toList_some, List.filterMap_cons, List.filterMap_nil]
  by_cases hf : (qq3 m y p).2 = true
  · rw [if_pos hf, if_pos hf]
  · rw [if_neg hf, if_neg hf]
theorem w0k (m : List (List Int)) (y : List Int) {s : List (List Int)} {c : Nat} {p : List Int} (h : s[c]? = some p) (hf : (qq3 m y p).2 = true) : ∃ t, qg4 m y s = qg4 m y (s.take c) ++ (qq3 m y p).1 :: t := by
  have e : s = s.take (c + 1) ++ s.drop (c + 1) := (List.take_append_drop _ _).symm
  have h1 : qg4 m y s = qg4 m y (s.take (c + 1)) ++ qg4 m y (s.drop (c + 1)) := by
    unfold qg4
    rw [<- List.filterMap_append, List.take_append_drop]
  rw [h1, qz8 m y h, if_pos hf]
  exact ⟨qg4 m y (s.drop (c + 1)), by simp⟩
theorem q7v : q2d Try.prog 75 xi3 := by
  refine says (xo5 (SpecsOk.cons w0b (SpecsOk.cons q51 (SpecsOk.cons q7o (SpecsOk.nil _)))) (ItsOk.cons q7n ItsOk.nil)) Try.func75 rfl rfl rfl [32] (fun x => xi5 x.2.1.1 x.2.1.2 x.1) (fun _ => by kernel_rfl) (by decide) ?_
  rintro ⟨k, q, ⟨⟩⟩ l h
  revert k q
  intro (k : Int) (q : List (List Int) × List Int) (h : q6b q.1 q.2 k)
  refine qd7 (B := (0:Nat) < List.length (Prod.fst q)/\fits .i64 (max2 false (max2 false k (↑(List.length (nL (Prod.fst q) (0:Nat))):Int)) (↑(List.length (Prod.fst q)):Int) + (1:Int))/\∃ (v0:Nat),∃ (v1:Nat),Nat.le v1 (fitsN (Prod.fst q) k)/\(((0:Int)=(↑v1:Int)/\True)/\some (0:Nat)=some (List.length (qi0 (Prod.fst q) (Prod.snd q) v1))/\(Value.func (Fn.yield l) #[] #[]=Value.func (Fn.yield v0) #[] #[]/\True)/\True/\True/\True/\True/\True/\True/\True/\True/\True/\True)/\∀ (v2:Nat),Nat.le v2 (fitsN (Prod.fst q) k)->(decide ((↑v2:Int) < max2 false (max2 false k (↑(List.length (nL (Prod.fst q) (0:Nat))):Int)) (↑(List.length (Prod.fst q)):Int) + (1:Int))=true->(0:Nat) < List.length (Prod.fst q)/\True/\(((0 : Ty.den qf9) <= (↑v2:Int)/\(↑v2:Int) <= (1000 : Ty.den qf9))/\(0 : Ty.den qf9) <= (↑(List.length (nL (Prod.fst q) (0:Nat))):Int)/\(↑(List.length (nL (Prod.fst q) (0:Nat))):Int) <= (1000 : Ty.den qf9))/\∃ (v5 : Nat × Nat),∃ (v6:Nat),Nat.le v6 (List.length (qe8 (↑(List.length (nL (Prod.fst q) (0:Nat))):Int) (↑(Prod.snd v5):Int)))/\v6=(0:Nat)/\(some (List.length (qi0 (Prod.fst q) (Prod.snd q) v2))=some (List.length (qi0 (Prod.fst q) (Prod.snd q) (Prod.snd v5)) + List.length (qg4 (Prod.fst q) (Prod.snd q) (List.take v6 (qe8 (↑(List.length (nL (Prod.fst q) (0:Nat))):Int) (↑(Prod.snd v5):Int)))))/\(Value.func (Fn.yield v0) #[] #[]=Value.func (Fn.yield (Prod.fst v5)) #[] #[]/\True)/\True/\True/\True/\True/\True/\True/\True/\True/\True/\True)/\∀ (v7:Nat),Nat.le v7 (List.length (qe8 (↑(List.length (nL (Prod.fst q) (0:Nat))):Int) (↑(Prod.snd v5):Int)))->(∀ (v9 : List Int × qa6._f [] PUnit.unit),(List.map (fun (v11 : List Int) => (v11,())) (qe8 (↑(List.length (nL (Prod.fst q) (0:Nat))):Int) (↑v2:Int)))[v7]?=some v9->∀ (v11 : q6p),(qp9 (Prod.fst q) (qa1 (Ty.list (Ty.int .i64)) [Prod.fst v9] (0:Nat)) (Prod.snd q)/\List.length (qa1 (Ty.list (Ty.int .i64)) [Prod.fst v9] (0:Nat)) <= (100000:Nat))/\[Prod.fst v9]=[Prod.fst v9]/\v11=v11/\True/\(Prod.snd (qq3 (Prod.fst q) (Prod.snd q) (qa1 (Ty.list (Ty.int .i64)) [Prod.fst v9] (0:Nat)))=true->Value.func (Fn.yield (Prod.fst v5)) #[] #[]=Value.func (Fn.yield (qj4.l (q6v [qf9,tQ] [q2m] [(32:Nat)] (k,q,PUnit.unit) (List.map (fun (v13 : List Int × List (Int × Int)) => (v13,())) (qg7 (Prod.fst q) (Prod.snd q) k)) l))) #[] #[]/\(qj4.L (q6v [qf9,tQ] [q2m] [(32:Nat)] (k,q,PUnit.unit) (List.map (fun (v13 : List Int × List (Int × Int)) => (v13,())) (qg7 (Prod.fst q) (Prod.snd q) k)) l))[List.length (qi0 (Prod.fst q) (Prod.snd q) (Prod.snd v5)) + List.length (qg4 (Prod.fst q) (Prod.snd q) (List.take v7 (qe8 (↑(List.length (nL (Prod.fst q) (0:Nat))):Int) (↑(Prod.snd v5):Int))))]?=some ((Prod.fst (Prod.fst (qq3 (Prod.fst q) (Prod.snd q) (qa1 (Ty.list (Ty.int .i64)) [Prod.fst v9] (0:Nat)))),Prod.snd (Prod.fst (qq3 (Prod.fst q) (Prod.snd q) (qa1 (Ty.list (Ty.int .i64)) [Prod.fst v9] (0:Nat))))),())/\(∃ (v13:Nat),Nat.le v13 (List.length (qe8 (↑(List.length (nL (Prod.fst q) (0:Nat))):Int) (↑(Prod.snd v5):Int)))/\v13=v7 + (1:Nat)/\some (List.length (qi0 (Prod.fst q) (Prod.snd q) (Prod.snd v5)) + List.length (qg4 (Prod.fst q) (Prod.snd q) (List.take v7 (qe8 (↑(List.length (nL (Prod.fst q) (0:Nat))):Int) (↑(Prod.snd v5):Int)))) + (1:Nat))=some (List.length (qi0 (Prod.fst q) (Prod.snd q) (Prod.snd v5)) + List.length (qg4 (Prod.fst q) (Prod.snd q) (List.take v13 (qe8 (↑(List.length (nL (Prod.fst q) (0:Nat))):Int) (↑(Prod.snd v5):Int)))))/\(Value.func (Fn.yield (Prod.fst v5)) #[] #[]=Value.func (Fn.yield (Prod.fst v5)) #[] #[]/\True)/\True/\True/\True/\True/\True/\True/\True/\True/\True/\True)/\True)/\(Prod.snd (qq3 (Prod.fst q) (Prod.snd q) (qa1 (Ty.list (Ty.int .i64)) [Prod.fst v9] (0:Nat)))=false->∃ (v13:Nat),Nat.le v13 (List.length (qe8 (↑(List.length (nL (Prod.fst q) (0:Nat))):Int) (↑(Prod.snd v5):Int)))/\v13=v7 + (1:Nat)/\some (List.length (qi0 (Prod.fst q) (Prod.snd q) (Prod.snd v5)) + List.length (qg4 (Prod.fst q) (Prod.snd q) (List.take v7 (qe8 (↑(List.length (nL (Prod.fst q) (0:Nat))):Int) (↑(Prod.snd v5):Int)))))=some (List.length (qi0 (Prod.fst q) (Prod.snd q) (Prod.snd v5)) + List.length (qg4 (Prod.fst q) (Prod.snd q) (List.take v13 (qe8 (↑(List.length (nL (Prod.fst q) (0:Nat))):Int) (↑(Prod.snd v5):Int)))))/\(Value.func (Fn.yield (Prod.fst v5)) #[] #[]=Value.func (Fn.yield (Prod.fst v5)) #[] #[]/\True)/\True/\True/\True/\True/\True/\True/\True/\True/\True/\True))/\(v7=List.length (List.map (fun (v10 : List Int) => (v10,())) (qe8 (↑(List.length (nL (Prod.fst q) (0:Nat))):Int) (↑v2:Int)))->fits .i64 ((↑v2:Int) + (1:Int))/\∃ (v10:Nat),Nat.le v10 (fitsN (Prod.fst q) k)/\fitsN (Prod.fst q) k - v10 < fitsN (Prod.fst q) k - v2/\((↑v2:Int) + (1:Int)=(↑v10:Int)/\True)/\some (List.length (qi0 (Prod.fst q) (Prod.snd q) (Prod.snd v5)) + List.length (qg4 (Prod.fst q) (Prod.snd q) (List.take v7 (qe8 (↑(List.length (nL (Prod.fst q) (0:Nat))):Int) (↑(Prod.snd v5):Int)))))=some (List.length (qi0 (Prod.fst q) (Prod.snd q) v10))/\(Value.func (Fn.yield (Prod.fst v5)) #[] #[]=Value.func (Fn.yield v0) #[] #[]/\True)/\True/\True/\True/\True/\True/\True/\True/\True/\True/\True))/\(decide ((↑v2:Int) < max2 false (max2 false k (↑(List.length (nL (Prod.fst q) (0:Nat))):Int)) (↑(List.length (Prod.fst q)):Int) + (1:Int))=false->List.length (qi0 (Prod.fst q) (Prod.snd q) v2)=List.length (qj4.L (q6v [qf9,tQ] [q2m] [(32:Nat)] (k,q,PUnit.unit) (List.map (fun (v5 : List Int × List (Int × Int)) => (v5,())) (qg7 (Prod.fst q) (Prod.snd q) k)) l)))) (by kernel_rfl) ?_
  try simp only [z0,z1,z2,z3,z4,z5,z6,z7,z8,z9,z10,Int.reduceEq,z11,z12,z13,z14,z15,z16,z17,z18,z19,z20,z21,z22,z23,z24,z25,z26,z27,z28,z29,z30,Int.reduceLE,Int.reduceLT,z31,z32,z33,z34,qa3]
  try simp only [qb4, qb5, qc9, List.set_cons_zero, List.cons.injEq, and_true, true_and]
  have hk0 := h.k0
  have hk1 := h.k1
  have hone := h.one
  have hrows := h.rows
  have hpix := h.pix
  have hN : (fitsN q.1 k : Int) = min (min k (nL q.1 0).length) q.1.length + 1 := by unfold fitsN; omega
  have hM : max2 false (max2 false k ((nL q.1 0).length : Int)) (q.1.length : Int) = min (min k (nL q.1 0).length) q.1.length := rfl
  rw [hM]
  refine ⟨hone, qa8 (by omega) (by omega), l, 0, Nat.zero_le _, ⟨rfl, rfl, rfl⟩, fun s hs => ⟨fun hlt => ?_, fun hge => ?_⟩⟩
  · have hsN : s < fitsN q.1 k := by omega
    refine ⟨hone, by omega, (l, s), 0, Nat.zero_le _, rfl, ⟨by simp [qg4], rfl⟩, fun c hc => ⟨?_, fun hfin => ?_⟩⟩
    · rintro ⟨p, ⟨⟩⟩ hp -
      have hp2 : (qe8 (nL q.1 0).length s)[c]? = some p := by
        rw [List.getElem?_map] at hp
        obtain ⟨p', h1, h2⟩ := Option.map_eq_some_iff.1 hp
        rw [h1]
        exact congrArg some (congrArg Prod.fst h2)
      have hcl := (List.getElem?_eq_some_iff.1 hp2).1
      dsimp only
      refine ⟨h.sets s hsN p (List.mem_of_getElem? hp2), fun hf => ⟨rfl, ?_, c + 1, hcl, rfl, ?_⟩, fun hf => ⟨c + 1, hcl, rfl, ?_⟩⟩
      · show ((qg7 q.1 q.2 k).map fun f => ((f, ()) : qa6 [q2m]))[(qi0 q.1 q.2 s).length + (qg4 q.1 q.2 ((qe8 (nL q.1 0).length s).take c)).length]? = some ((qq3 q.1 q.2 p).1, ())
        obtain ⟨t, ht⟩ := q7u q.1 q.2 (s + 1) (fitsN q.1 k - (s + 1))
        rw [show s + 1 + (fitsN q.1 k - (s + 1)) = fitsN q.1 k by omega, qi0] at ht
        obtain ⟨t2, ht2⟩ := w0k q.1 q.2 hp2 hf
        rw [List.getElem?_map]
        unfold qg7
        rw [ht, ht2, List.append_assoc, List.append_assoc, List.getElem?_append_right (by omega), Nat.add_sub_cancel_left, List.getElem?_append_right (Nat.le_refl _), Nat.sub_self]
        rfl
      · rw [qz8 q.1 q.2 hp2, if_pos hf, List.length_append]
        rfl
      · rw [qz8 q.1 q.2 hp2, if_neg (by rw [hf]; decide), List.append_nil]
    · rw [List.length_map] at hfin
      refine ⟨qa8 (by omega) (by omega), s + 1, hsN, by omega, by omega, ?_, rfl⟩
      dsimp only
      rw [hfin, List.take_length, qi0, List.length_append]
  · have e : s = fitsN q.1 k := by omega
    show (qi0 q.1 q.2 s).length = ((qg7 q.1 q.2 k).map fun f => ((f, ()) : qa6 [q2m])).length
    rw [List.length_map, e]
    rfl
end Go.Proofs.Ytdibdlelmkcccaa
set_option linter.unusedVariables false
set_option linter.unusedSimpArgs false
namespace Go.Proofs.Ytdibdlelmkcccaa
open Go Go.RowKit Eng
def wd6 : (ts : List Ty) -> qa6 ts -> AV
  | [], _ => .nil
  | t :: r, x => .cons (.imm (qj5 t x.1 .nil) 0) (wd6 r x.2)
theorem q3x : ∀ (ts : List Ty) (c : AV), Det (qn1 ts c)
  | [], c => by cases c <;> first | exact qa5 | exact qb6 ()
  | t :: r, c => by
    cases c <;> first | exact qa5 | skip
    rename_i a rest
    cases a <;> first | exact qa5 | skip
    rename_i cs off
    cases off with
    | succ n => exact qa5
    | zero =>
      refine fun k H => (qj8 (f := fun x z k => match z with
        | .nil => qn1 r rest fun y => k (x, y)
        | _ => False) fun x z => ?_) k H
      split
      · exact qe0 (q3x r rest) fun y => qb6 (x, y)
      · exact qa5
theorem q6c {P : Program} {m : View} : ∀ {ts : List Ty} {c : AV} {k : qa6 ts -> Prop} {cs : List Value}, qn1 ts c k -> c.ok P m [] cs -> ∃ x, k x /\ (wd6 ts x).ok P m [] cs
  | [], c, k, cs, h, hc => by
    simp only [qn1] at h
    split at h
    · exact ⟨(), h, hc⟩
    · exact h.elim
  | t :: r, c, k, cs, h, hc => by
    simp only [qn1] at h
    split at h
    case h_2 => exact h.elim
    rename_i a rest
    obtain ⟨u, us, rfl, h1, h2⟩ := hc
    split at h
    case h_2 => exact h.elim
    rename_i cells off
    split at h
    case h_2 => exact h.elim
    obtain ⟨ad, vs, e1, e2, e3⟩ := h1
    obtain ⟨x, z, u1, v1, e4, e5, e6, e7⟩ := qu2 h e2
    split at e7
    case h_2 => exact e7.elim
    obtain rfl : v1 = [] := e6
    rw [List.append_nil] at e4
    subst e4
    obtain ⟨y, k1, k2⟩ := q6c e7 h2
    refine ⟨(x, y), k1, u, us, rfl, ⟨ad, vs, e1, ?_, e3⟩, k2⟩
    have := qr5 (P := P) (ρ := []) (r := .nil) (v := []) e5 rfl
    rw [List.append_nil] at this
    exact this
def q6d (F : Nat) (ts : List Ty) (v : AV) (k : qa6 ts -> Prop) : Prop := match v with
  | .clo G caps => match Nat.beq G F with
    | true => qn1 ts caps k
    | false => False
  | _ => False
theorem wk1 (F : Nat) (ts : List Ty) (v : AV) : Det (q6d F ts v) := by
  unfold q6d
  split
  · split
    · exact q3x _ _
    · exact qa5
  · exact qa5
theorem w0l {P : Program} {m : View} {F : Nat} {ts : List Ty} {v : AV} {k : qa6 ts -> Prop} {u : Value} (h : q6d F ts v k) (hv : v.ok P m [] [u]) : ∃ x, k x /\ (AV.clo F (wd6 ts x)).ok P m [] [u] := by
  unfold q6d at h
  split at h
  case h_2 => exact h.elim
  split at h
  case h_2 => exact h.elim
  rename_i hb
  obtain rfl := Nat.eq_of_beq_eq_true hb
  obtain ⟨cs, e, hc⟩ := hv
  obtain ⟨x, k1, k2⟩ := q6c h hc
  exact ⟨x, k1, cs, e, k2⟩
def takeC (F : Nat) (ts : List Ty) (c : AV) (k : qa6 ts -> Prop) : Prop := match c with
  | .cons v z => match z with
    | .nil => q6d F ts v k
    | _ => False
  | _ => False
def w91 (F : Nat) (ts : List Ty) : ArgK := ⟨qa6 ts, takeC F ts, fun x i => match i with
  | 0 => .clo F (wd6 ts x)
  | _ + 1 => .any, 1, fun c => by
    unfold takeC
    split
    · split
      · exact wk1 _ _ _
      · exact qa5
    · exact qa5⟩
theorem ws1 {P : Program} (F : Nat) (ts : List Ty) : (w91 F ts).Ok P := ⟨fun {m c k vs} h hc => by
  have h : takeC F ts c k := h
  unfold takeC at h
  split at h
  case h_2 => exact h.elim
  split at h
  case h_2 => exact h.elim
  obtain ⟨u, us, rfl, h1, h2⟩ := hc
  obtain rfl : us = [] := h2
  obtain ⟨x, k1, k2⟩ := w0l h h1
  refine ⟨x, k1, rfl, fun i => ?_⟩
  cases i with
  | zero => exact k2
  | succ i => exact ⟨_, rfl⟩⟩
def ws3 (F : Nat) (ts : List Ty) (c : AV) (k : qa6 ts -> Prop) : Prop := match c with
  | .cons v r => match v with
    | .lit u => match isNil u with
      | true => takeC F ts r k
      | false => False
    | _ => False
  | _ => False
theorem w7c {u : Value} (h : isNil u = true) : u = .slice none 0 0 := by
  unfold isNil at h
  split at h
  · rename_i a n c
    split at h
    · split at h
      · rfl
      · cases h
    · cases h
  · cases h
def w8b (F : Nat) (ts : List Ty) : ArgK := ⟨qa6 ts, ws3 F ts, fun x i => match i with
  | 0 => .lit (.slice none 0 0)
  | 1 => .clo F (wd6 ts x)
  | _ + 2 => .any, 2, fun c => by
    unfold ws3
    split
    · split
      · split
        · exact (w91 F ts).one _
        · exact qa5
      · exact qa5
    · exact qa5⟩
theorem w4d {P : Program} (F : Nat) (ts : List Ty) : (w8b F ts).Ok P := ⟨fun {m c k vs} h hc => by
  have h : ws3 F ts c k := h
  unfold ws3 at h
  split at h
  case h_2 => exact h.elim
  split at h
  case h_2 => exact h.elim
  split at h
  case h_2 => exact h.elim
  rename_i hn
  obtain ⟨u, us, rfl, h1, h2⟩ := hc
  obtain ⟨x, k1, k2, k3⟩ := (ws1 (P := P) F ts).ok h h2
  refine ⟨x, k1, by simp [k2]; rfl, fun i => ?_⟩
  match i with
  | 0 =>
    rw [w7c hn] at h1
    exact h1
  | 1 => exact k3 0
  | i + 2 => exact ⟨_, rfl⟩⟩
abbrev xi6 : qc7 := w6i false none [tQ, qf9] (fun _ => True) (fun x => .clo 75 (.cons (.imm (.cons (.lit (.int .i64 x.2.1)) .nil) 0) (.cons (.imm (.cons (.dat (.list (.int .i64)) x.1.1) (.cons (.dat (.int .i64) x.1.2) .nil)) 0) .nil)))
theorem q6e : qd6 Try.prog 46 xi6 := by
  refine wp8 (snd (SpecsOk.nil _)) Try.func46 rfl rfl (fun _ _ => none) (fun _ => by kernel_rfl) (by decide) ?_
  rintro ⟨q, k, ⟨⟩⟩ -
  revert q k
  intro (q : List (List Int) × List Int) (k : Int)
  refine qd7 (B := ((k=k/\True)/\(0:Nat)=(0:Nat))/\((Prod.fst q=Prod.fst q/\Prod.snd q=Prod.snd q/\True)/\(0:Nat)=(0:Nat))/\True) (by kernel_rfl) ?_
  try simp only [z0,z1,z2,z3,z4,z5,z6,z7,z8,z9,z10,Int.reduceEq,z11,z12,z13,z14,z15,z16,z17,z18,z19,z20,z21,z22,z23,z24,z25,z26,z27,z28,z29,z30,Int.reduceLE,Int.reduceLT,z31,z32,z33,z34,qa3]
  try simp only [qb4, qb5, qc9, List.set_cons_zero, List.cons.injEq, and_true, true_and]
structure qn5 (m : List (List Int)) (y : List Int) (k : Int) : Prop where
  pre : q6b m y k
  len : (qg7 m y k).length <= 1000000
abbrev x1b : qc7 := q5e (w8b 75 [qf9, tQ]) false (some 30) none (fun x => qn5 x.2.1.1 x.2.1.2 x.1) (fun x => .dat q2m (qg7 x.2.1.1 x.2.1.2 x.1))
def xs3 (L : List Fit) : Nat -> Option Inv
  | 0 => some (Inv.of [] 2 (fun _ => []) (fun c : Nat => [.box 44 (.cons (.own 1) .nil), .vec 30 q2m (L.take c)]) (fun c => c <= L.length) (fun c => c))
  | _ => none
theorem w4e : qd6 Try.prog 89 x1b := by
  refine q5h (xo5 (SpecsOk.nil _) (ItsOk.cons q7v ItsOk.nil)) Try.func89 rfl rfl (w4d _ _) (fun x => xs3 (qg7 x.2.1.1 x.2.1.2 x.1)) (fun _ => by kernel_rfl) (by decide) ?_
  rintro ⟨k, q, ⟨⟩⟩ h
  revert k q
  intro (k : Int) (q : List (List Int) × List Int) (h : qn5 q.1 q.2 k)
  refine qd7 (B := q6b (Prod.fst q) (Prod.snd q) k/\∃ (v0:Unit),∃ (v1:Nat),Nat.le v1 (List.length (qg7 (Prod.fst q) (Prod.snd q) k))/\v1=(0:Nat)/\((True/\True)/\List.take v1 (qg7 (Prod.fst q) (Prod.snd q) k)=[]/\True)/\∀ (v2:Nat),Nat.le v2 (List.length (qg7 (Prod.fst q) (Prod.snd q) k))->(∀ (v4 : (List Int × List (Int × Int)) × qa6._f [] PUnit.unit),(List.map (fun (v6 : List Int × List (Int × Int)) => (v6,())) (qg7 (Prod.fst q) (Prod.snd q) k))[v2]?=some v4->((0:Nat) < List.length [(Prod.fst (Prod.fst v4),Prod.snd (Prod.fst v4))]/\Nat.le (List.length (List.take v2 (qg7 (Prod.fst q) (Prod.snd q) k)) + List.length [(Prod.fst (Prod.fst v4),Prod.snd (Prod.fst v4))]) (1000000:Nat))/\∃ (v6:Nat),Nat.le v6 (List.length (qg7 (Prod.fst q) (Prod.snd q) k))/\v6=v2 + (1:Nat)/\(True/\True)/\List.take v2 (qg7 (Prod.fst q) (Prod.snd q) k) ++ [(Prod.fst (Prod.fst v4),Prod.snd (Prod.fst v4))]=List.take v6 (qg7 (Prod.fst q) (Prod.snd q) k)/\True)/\(v2=List.length (List.map (fun (v5 : List Int × List (Int × Int)) => (v5,())) (qg7 (Prod.fst q) (Prod.snd q) k))->List.take v2 (qg7 (Prod.fst q) (Prod.snd q) k)=qg7 (Prod.fst q) (Prod.snd q) k)) (by kernel_rfl) ?_
  try simp only [z0,z1,z2,z3,z4,z5,z6,z7,z8,z9,z10,Int.reduceEq,z11,z12,z13,z14,z15,z16,z17,z18,z19,z20,z21,z22,z23,z24,z25,z26,z27,z28,z29,z30,Int.reduceLE,Int.reduceLT,z31,z32,z33,z34,qa3]
  try simp only [qb4, qb5, qc9, List.set_cons_zero, List.cons.injEq, and_true, true_and]
  refine ⟨h.pre, (), 0, Nat.zero_le _, rfl, rfl, fun c hc => ⟨?_, fun hfin => ?_⟩⟩
  · rintro ⟨f, ⟨⟩⟩ hf
    rw [List.getElem?_map] at hf
    obtain ⟨f', h1, h2⟩ := Option.map_eq_some_iff.1 hf
    obtain rfl : f' = f := congrArg Prod.fst h2
    have hlt := (List.getElem?_eq_some_iff.1 h1).1
    have hl := h.len
    refine ⟨by rw [List.length_take]; omega, c + 1, hlt, rfl, ?_⟩
    rw [List.take_add_one, h1]
    rfl
  · rw [List.length_map] at hfin
    rw [hfin, List.take_length]
abbrev x1c : qc7 := q5e (w91 75 [qf9, tQ]) false (some 30) none (fun x => qn5 x.2.1.1 x.2.1.2 x.1) (fun x => .dat q2m (qg7 x.2.1.1 x.2.1.2 x.1))
theorem w4f : qd6 Try.prog 53 x1c := by
  refine q5h (snd (SpecsOk.cons w4e (SpecsOk.nil _))) Try.func53 rfl rfl (ws1 _ _) (fun _ _ => none) (fun _ => by kernel_rfl) (by decide) ?_
  rintro ⟨k, q, ⟨⟩⟩ h
  revert k q
  intro (k : Int) (q : List (List Int) × List Int) (h : qn5 q.1 q.2 k)
  refine qd7 (B := qn5 (Prod.fst q) (Prod.snd q) k/\qg7 (Prod.fst q) (Prod.snd q) k=qg7 (Prod.fst q) (Prod.snd q) k) (by kernel_rfl) ?_
  try simp only [z0,z1,z2,z3,z4,z5,z6,z7,z8,z9,z10,Int.reduceEq,z11,z12,z13,z14,z15,z16,z17,z18,z19,z20,z21,z22,z23,z24,z25,z26,z27,z28,z29,z30,Int.reduceLE,Int.reduceLT,z31,z32,z33,z34,qa3]
  try simp only [qb4, qb5, qc9, List.set_cons_zero, List.cons.injEq, and_true, true_and]
  exact h
def q00 (m : List (List Int)) (y : List Int) (k : Int) : List Fit × Int := if q9q m y k = 0 then (qg7 m y k, 0) else ([], q9q m y k)
abbrev xi7 : qc7 := qg2 false none [qh5, qe1, qf9] [w0f, qf9] (fun x => q9q x.1 x.2.1 x.2.2.1 = 0 -> qn5 x.1 x.2.1 x.2.2.1) (fun x => ((q00 x.1 x.2.1 x.2.2.1).1, (q00 x.1 x.2.1 x.2.2.1).2, ()))
theorem wk2 : qd6 Try.prog 25 xi7 := by
  refine meets (snd (SpecsOk.cons w30 (SpecsOk.cons q6e (SpecsOk.cons w4f (SpecsOk.nil _))))) Try.func25 rfl rfl (fun _ _ => none) (fun _ => by kernel_rfl) (by decide) ?_
  rintro ⟨m, y, k, ⟨⟩⟩ h
  revert m y k
  intro (m : List (List Int)) (y : List Int) (k : Int) (h : q9q m y k = 0 -> qn5 m y k)
  refine qd7 (B := True/\((q9q m y k != (0:Int))=true->Prod.fst (q00 m y k)=[]/\q9q m y k=Prod.snd (q00 m y k)/\True)/\((q9q m y k != (0:Int))=false->True/\qn5 m y k/\qg7 m y k=Prod.fst (q00 m y k)/\(0:Int)=Prod.snd (q00 m y k)/\True)) (by kernel_rfl) ?_
  try simp only [z0,z1,z2,z3,z4,z5,z6,z7,z8,z9,z10,Int.reduceEq,z11,z12,z13,z14,z15,z16,z17,z18,z19,z20,z21,z22,z23,z24,z25,z26,z27,z28,z29,z30,Int.reduceLE,Int.reduceLT,z31,z32,z33,z34,qa3]
  try simp only [qb4, qb5, qc9, List.set_cons_zero, List.cons.injEq, and_true, true_and]
  exact ⟨fun he => by simp [q00, he], fun he => ⟨h he, by simp [q00, he]⟩⟩
def spL (L : List Fit) : List Fit := L.takeWhile fun f => decide (f.1.length <= (nF L 0).1.length)
def qo7 (m : List (List Int)) (y : List Int) : List Fit × Int := if qm8 m y [] = 0 then (if qg7 m y 10 = [] then ([], 10) else (spL (qg7 m y 10), 0)) else ([], qm8 m y [])
structure q6f (m : List (List Int)) (y : List Int) : Prop where
  ok : qm8 m y [] = 0 -> qn5 m y 10
structure w0m (L : List Fit) (c : Nat) : Prop where
  le : c <= L.length
  all : ∀ i, i < c -> (nF L i).1.length <= (nF L 0).1.length
abbrev xs4 : qc7 := qg2 false none [qh5, qe1] [w0f, qf9] (fun x => q6f x.1 x.2.1) (fun x => ((qo7 x.1 x.2.1).1, (qo7 x.1 x.2.1).2, ()))
def xi8 (L : List Fit) : Nat -> Option Inv
  | 0 => some (Inv.of [] 2 (fun _ => []) (fun c : Nat => [.box 44 (.cons (.own 1) .nil), .vec 30 q2m (L.take c)]) (fun c => w0m L c) (fun c => c))
  | _ => none
theorem w4g {α : Type} (p : α -> Bool) : ∀ (l : List α) (c : Nat), c <= l.length -> (∀ (i : Nat) (h : i < l.length), i < c -> p l[i] = true) -> (∀ h : c < l.length, p l[c] = false) -> l.takeWhile p = l.take c
  | [], c, h, _, _ => by simp
  | x :: l, 0, _, _, h2 => by
    have := h2 (by simp)
    simp only [List.getElem_cons_zero] at this
    simp [List.takeWhile_cons, this]
  | x :: l, c + 1, h, h1, h2 => by
    have hx := h1 0 (by simp) (by omega)
    simp only [List.getElem_cons_zero] at hx
    rw [List.takeWhile_cons, hx, if_pos rfl, List.take_succ_cons, w4g p l c (by simpa using h) (fun i hi hc => h1 (i + 1) (by simpa using hi) (by omega)) (fun hc => h2 (by simpa using hc))]
theorem w0n (l : List Fit) (i : Nat) (h : i < l.length) : nF l i = l[i] := qj7 (t := q2m) l i h
theorem ws4 {L : List Fit} {c : Nat} (h : w0m L c) (hs : ∀ h : c < L.length, (nF L 0).1.length < (nF L c).1.length) : spL L = L.take c := by
  refine w4g _ L c h.le (fun i hi hc => ?_) fun hc => ?_
  · have := h.all i hc
    rw [w0n L i hi] at this
    exact decide_eq_true this
  · have := hs hc
    rw [w0n L c hc] at this
    exact decide_eq_false (by omega)
theorem w0o : qd6 Try.prog 39 xs4 := by
  refine meets (xo5 (SpecsOk.cons qz3 (SpecsOk.cons q6e (SpecsOk.nil _))) (ItsOk.cons q7v ItsOk.nil)) Try.func39 rfl rfl (fun x => xi8 (qg7 x.1 x.2.1 10)) (fun _ => by kernel_rfl) (by decide) ?_
  rintro ⟨m, y, ⟨⟩⟩ h
  revert m y
  intro (m : List (List Int)) (y : List Int) (h : q6f m y)
  refine qd7 (B := Value.slice none (0:Nat) (0:Nat)=Value.slice none (0:Nat) (0:Nat)/\(0:Nat) <= (1000000:Nat)/\((qm8 m y [] != (0:Int))=true->Prod.fst (qo7 m y)=[]/\qm8 m y []=Prod.snd (qo7 m y)/\True)/\((qm8 m y [] != (0:Int))=false->True/\q6b m y (10:Int)/\∃ (v1:Unit),∃ (v2:Nat),w0m (qg7 m y (10:Int)) v2/\v2=(0:Nat)/\((True/\True)/\List.take v2 (qg7 m y (10:Int))=[]/\True)/\∀ (v3:Nat),w0m (qg7 m y (10:Int)) v3->(∀ (v5 : (List Int × List (Int × Int)) × qa6._f [] PUnit.unit),(List.map (fun (v7 : List Int × List (Int × Int)) => (v7,())) (qg7 m y (10:Int)))[v3]?=some v5->(decide ((0:Int) < (↑(List.length (List.take v3 (qg7 m y (10:Int)))):Int))=true->((0:Int) <= (0:Int)/\(0:Int) < (↑(List.length (List.take v3 (qg7 m y (10:Int)))):Int))/\(0:Nat) < List.length (List.take v3 (qg7 m y (10:Int)))/\(decide ((↑(List.length (Prod.fst (qa1 q2m (List.take v3 (qg7 m y (10:Int))) (0:Nat)))):Int) < (↑(List.length (Prod.fst (Prod.fst v5))):Int))=true->(((↑(List.length (List.take v3 (qg7 m y (10:Int)))):Int) == (0:Int))=true->Prod.fst (qo7 m y)=[]/\(10:Int)=Prod.snd (qo7 m y)/\True)/\(((↑(List.length (List.take v3 (qg7 m y (10:Int)))):Int) == (0:Int))=false->List.take v3 (qg7 m y (10:Int))=Prod.fst (qo7 m y)/\(0:Int)=Prod.snd (qo7 m y)/\True))/\(decide ((↑(List.length (Prod.fst (qa1 q2m (List.take v3 (qg7 m y (10:Int))) (0:Nat)))):Int) < (↑(List.length (Prod.fst (Prod.fst v5))):Int))=false->((0:Nat) < List.length [(Prod.fst (Prod.fst v5),Prod.snd (Prod.fst v5))]/\Nat.le (List.length (List.take v3 (qg7 m y (10:Int))) + List.length [(Prod.fst (Prod.fst v5),Prod.snd (Prod.fst v5))]) (1000000:Nat))/\∃ (v9:Nat),w0m (qg7 m y (10:Int)) v9/\v9=v3 + (1:Nat)/\(True/\True)/\List.take v3 (qg7 m y (10:Int)) ++ [(Prod.fst (Prod.fst v5),Prod.snd (Prod.fst v5))]=List.take v9 (qg7 m y (10:Int))/\True))/\(decide ((0:Int) < (↑(List.length (List.take v3 (qg7 m y (10:Int)))):Int))=false->((0:Nat) < List.length [(Prod.fst (Prod.fst v5),Prod.snd (Prod.fst v5))]/\Nat.le (List.length (List.take v3 (qg7 m y (10:Int))) + List.length [(Prod.fst (Prod.fst v5),Prod.snd (Prod.fst v5))]) (1000000:Nat))/\∃ (v8:Nat),w0m (qg7 m y (10:Int)) v8/\v8=v3 + (1:Nat)/\(True/\True)/\List.take v3 (qg7 m y (10:Int)) ++ [(Prod.fst (Prod.fst v5),Prod.snd (Prod.fst v5))]=List.take v8 (qg7 m y (10:Int))/\True))/\(v3=List.length (List.map (fun (v6 : List Int × List (Int × Int)) => (v6,())) (qg7 m y (10:Int)))->(((↑(List.length (List.take v3 (qg7 m y (10:Int)))):Int) == (0:Int))=true->Prod.fst (qo7 m y)=[]/\(10:Int)=Prod.snd (qo7 m y)/\True)/\(((↑(List.length (List.take v3 (qg7 m y (10:Int)))):Int) == (0:Int))=false->List.take v3 (qg7 m y (10:Int))=Prod.fst (qo7 m y)/\(0:Int)=Prod.snd (qo7 m y)/\True)))) (by kernel_rfl) ?_
  try simp only [z0,z1,z2,z3,z4,z5,z6,z7,z8,z9,z10,Int.reduceEq,z11,z12,z13,z14,z15,z16,z17,z18,z19,z20,z21,z22,z23,z24,z25,z26,z27,z28,z29,z30,Int.reduceLE,Int.reduceLT,z31,z32,z33,z34,qa3]
  try simp only [qb4, qb5, qc9, List.set_cons_zero, List.cons.injEq, and_true, true_and]
  refine ⟨by omega, fun he => by simp [qo7, he], fun he => ?_⟩
  have hp := h.ok he
  have hR : qo7 m y = if qg7 m y 10 = [] then ([], 10) else (spL (qg7 m y 10), 0) := by rw [qo7, if_pos he]
  have hlen := hp.len
  refine ⟨hp.pre, (), 0, ⟨Nat.zero_le _, fun i hi => absurd hi (by omega)⟩, rfl, rfl, ?_⟩
  generalize qg7 m y 10 = L at hR hlen ⊢
  rw [hR]
  rintro c hc
  have hcl := hc.le
  have htl : (L.take c).length = c := by rw [List.length_take]; omega
  rw [htl]
  refine ⟨?_, fun hfin => ?_⟩
  · rintro ⟨f, ⟨⟩⟩ hf
    rw [List.getElem?_map] at hf
    obtain ⟨f', h1, h2⟩ := Option.map_eq_some_iff.1 hf
    obtain rfl : f' = f := congrArg Prod.fst h2
    have hlt := (List.getElem?_eq_some_iff.1 h1).1
    have hLne : L ≠ [] := fun e => by rw [e] at hlt; exact absurd hlt (by simp)
    have hfe : nF L c = f' := by rw [w0n L c hlt]; exact (List.getElem?_eq_some_iff.1 h1).2
    have hnx : L.take c ++ [(f'.1, f'.2)] = L.take (c + 1) := by rw [List.take_add_one, h1]; rfl
    refine ⟨fun h0 => ?_, fun h0 => ?_⟩
    · have h0 : 0 < c := by omega
      have hn0 : qa1 q2m (L.take c) 0 = nF L 0 := by
        rw [qj7 (t := q2m) _ 0 (by rw [htl]; exact h0), w0n L 0 (by omega)]
        simp
      rw [hn0]
      refine ⟨by omega, h0, fun hbr => ⟨fun hz => by omega, fun _ => ?_⟩, fun hbr => ⟨by omega, c + 1, ⟨hlt, fun i hi => ?_⟩, rfl, hnx⟩⟩
      · rw [if_neg hLne, ws4 hc fun _ => by rw [hfe]; exact hbr]
        exact ⟨rfl, rfl⟩
      · by_cases e : i = c
        · have hbr : ¬ (nF L 0).1.length < f'.1.length := hbr
          subst e; rw [hfe]; omega
        · exact hc.all i (by omega)
    · have h0 : c = 0 := by omega
      subst h0
      exact ⟨by omega, 1, ⟨hlt, fun i hi => by obtain rfl : i = 0 := by omega
                                               exact Nat.le_refl _⟩, rfl, hnx⟩
  · rw [List.length_map] at hfin
    refine ⟨fun hz => ?_, fun hz => ?_⟩
    · have e : L = [] := List.eq_nil_of_length_eq_zero (by omega)
      rw [if_pos e]
      exact ⟨rfl, rfl⟩
    · have e : L ≠ [] := fun e => by rw [e] at hfin; simp at hfin; omega
      rw [if_neg e, ws4 hc fun h => by omega]
      exact ⟨rfl, rfl⟩
def xi9 : Fit := ([], [])
def wd7 (m : List (List Int)) (y : List Int) : Fit × Int := if (qo7 m y).2 = 0 then (nF (qo7 m y).1 0, 0) else (xi9, (qo7 m y).2)
theorem xj0 {L : List Fit} (h : L ≠ []) : 0 < (spL L).length := by
  cases L with
  | nil => exact absurd rfl h
  | cons f l =>
    unfold spL
    rw [List.takeWhile_cons, if_pos]
    · simp
    · exact decide_eq_true (Nat.le_refl _)
theorem w7d {m : List (List Int)} {y : List Int} (h : (qo7 m y).2 = 0) : 0 < (qo7 m y).1.length := by
  unfold qo7 at h ⊢
  split
  · rename_i he
    rw [if_pos he] at h
    split
    · rename_i e; rw [if_pos e] at h; cases h
    · rename_i e; exact xj0 e
  · rename_i he
    rw [if_neg he] at h
    exact absurd h he
abbrev x1d : qc7 := qg2 false none [qh5, qe1] [q2m, qf9] (fun x => q6f x.1 x.2.1) (fun x => ((wd7 x.1 x.2.1).1, (wd7 x.1 x.2.1).2, ()))
theorem w4h : qd6 Try.prog 11 x1d := by
  refine meets (snd (SpecsOk.cons w0o (SpecsOk.nil _))) Try.func11 rfl rfl (fun _ _ => none) (fun _ => by kernel_rfl) (by decide) ?_
  rintro ⟨m, y, ⟨⟩⟩ h
  revert m y
  intro (m : List (List Int)) (y : List Int) (h : q6f m y)
  refine qd7 (B := q6f m y/\((Prod.snd (qo7 m y) != (0:Int))=true->(Prod.fst (Prod.fst (wd7 m y))=[]/\Prod.snd (Prod.fst (wd7 m y))=[]/\True)/\Prod.snd (qo7 m y)=Prod.snd (wd7 m y)/\True)/\((Prod.snd (qo7 m y) != (0:Int))=false->((0:Int) <= (0:Int)/\(0:Int) < (↑(List.length (Prod.fst (qo7 m y))):Int))/\(Prod.fst (qa1 (Ty.prod (Ty.list (Ty.int .i64)) (Ty.list (Ty.prod (Ty.int .i64) (Ty.int .i64)))) (Prod.fst (qo7 m y)) (0:Nat))=Prod.fst (Prod.fst (wd7 m y))/\Prod.snd (qa1 (Ty.prod (Ty.list (Ty.int .i64)) (Ty.list (Ty.prod (Ty.int .i64) (Ty.int .i64)))) (Prod.fst (qo7 m y)) (0:Nat))=Prod.snd (Prod.fst (wd7 m y))/\True)/\(0:Int)=Prod.snd (wd7 m y)/\True)) (by kernel_rfl) ?_
  try simp only [z0,z1,z2,z3,z4,z5,z6,z7,z8,z9,z10,Int.reduceEq,z11,z12,z13,z14,z15,z16,z17,z18,z19,z20,z21,z22,z23,z24,z25,z26,z27,z28,z29,z30,Int.reduceLE,Int.reduceLT,z31,z32,z33,z34,qa3]
  try simp only [qb4, qb5, qc9, List.set_cons_zero, List.cons.injEq, and_true, true_and]
  refine ⟨h, fun he => ?_, fun he => ⟨by have := w7d he; omega, ?_⟩⟩
  · rw [wd7, if_neg (by omega)]; exact ⟨⟨rfl, rfl⟩, rfl⟩
  · rw [wd7, if_pos (by omega)]; exact ⟨⟨rfl, rfl⟩, rfl⟩
end Go.Proofs.Ytdibdlelmkcccaa
