/- Calls over abstract values. No condition. -/
import Derived.Test.YtkkmlcengneomaaEng1
import Derived.OrdersIn
import Derived.Test.YtkkmlcengneomaaRnd
set_option linter.unusedVariables false
set_option linter.unusedSimpArgs false
namespace Eng
open Go Go.RowKit

/-- What comes out of a call. -/
def OutOk (P : Program) (S : FSpec) (k : AV → Prop) (B : Nat) (w' : World) (m' : View) (v : Value) : Prop := match S.own with
  | none => ∃ r, k r ∧ r.ok P m' [] [v]
  | some e => ∃ t l vs, k (.dat t l) ∧ w'.ownsRow B e t.size v l.length vs ∧ RdL m' t l vs ∧ ∀ b, v.ownBlock = some b → m' b = none
/-- A world goes on, and the blocks of 'D' are as they were. -/
structure Same (D : Nat → Prop) (W W' : World) : Prop where
  os : W'.os = W.os
  tape : W'.tape = W.tape
  output : W'.output = W.output
  size : W.heap.size ≤ W'.heap.size
  block : ∀ b, D b → W'.heap[b]? = W.heap[b]?
/-- All blocks outside of 'D' are as they were. -/
def Kept (D : Nat → Prop) (W W' : World) : Prop := Same (fun b => b < W.heap.size ∧ ¬ D b) W W'
theorem Same.refl (D : Nat → Prop) (W : World) : Same D W W := ⟨rfl, rfl, rfl, Nat.le_refl _, fun _ _ => rfl⟩
theorem Same.trans {D : Nat → Prop} {A B C : World} (h : Same D A B) (k : Same D B C) : Same D A C :=
  ⟨k.os.trans h.os, k.tape.trans h.tape, k.output.trans h.output, Nat.le_trans h.size k.size, fun b hb => (k.block b hb).trans (h.block b hb)⟩
theorem Same.mono {D D' : Nat → Prop} {A B : World} (h : Same D A B) (hd : ∀ b, D' b → D b) : Same D' A B := ⟨h.os, h.tape, h.output, h.size, fun b hb => h.block b (hd b hb)⟩
theorem Same.of_grown {D : Nat → Prop} {A B : World} {row : Option Nat} (hg : A.grownBy B row) (hD : ∀ b, D b → b < A.heap.size) (hr : ∀ r, row = some r → ¬ D r) : Same D A B :=
  ⟨hg.os, hg.tape, hg.output, hg.size, fun b hb => hg.block b (hD b hb) (fun e => hr b e.symm hb)⟩

/-- The function 'F', closed over 'cs', hands over the numbers of L, one after another. -/
def ISays (P : Program) (F : Nat) (cs : Array Value) (m : View) {α : Type} (args : α → View → List Value → Prop) (L : List α) : Prop :=
  ∀ (l : Nat) (J : Nat → (Nat → Prop) → World → Prop) (Jx : (Nat → Prop) → World → Prop) (W0 : World) (D0 : Nat → Prop),
    (∀ k D W W', J k D W → Same D W W' → J k D W') → (∀ D W W', Jx D W → Same D W W' → Jx D W') → (∀ k D W, J k D W → ∀ b, D b → b < W.heap.size) → (∀ D W, Jx D W → ∀ b, D b → b < W.heap.size) →
    (∀ k D W d mx vs, J k D W → L[k]? = some d → mx.on W → (∀ b o, mx b = some o → (∃ c t f, o = .cells c t f) ∧ (m b = some o ∨ (W0.heap.size ≤ b ∧ ¬ D b))) → args d mx vs →
      YieldAt Fence.wide 0 P l vs.toArray W fun e W' => Kept D W W' ∧ m.on W' ∧
        ((e = .returned (.bool true) ∧ ∃ D', (∀ b, D' b → D b ∨ W.heap.size ≤ b ∨ mx b ≠ none) ∧ J (k + 1) D' W') ∨ (e = .returned (.bool false) ∧ ∃ D', (∀ b, D' b → D b ∨ W.heap.size ≤ b ∨ mx b ≠ none) ∧ Jx D' W'))) →
    m.on W0 → J 0 D0 W0 →
    CallsIn Fence.wide 0 P F (#[.func (.yield l) #[] #[]] ++ cs) W0 fun e W' => (∃ v, e = .returned v) ∧ ((∃ D, J L.length D W') ∨ ∃ D, Jx D W')

/-- A function over which a loop goes hands over what is said of it. -/
def IMeets (P : Program) (F : Nat) (S : ISpec) : Prop := Callable P F ∧ ∀ (m : View) (caps : AV) (cs : List Value) (K : List (argsTy S.ins) → Prop), (∀ b o, m b = some o → ∃ c t f, o = .cells c t f) → caps.ok P m [] cs → S.run caps K →
  ∃ L, K L ∧ ISays P F cs.toArray m (fun d mx vs => RdArgs mx S.ins d vs) L

/-- A function does what is said of it. -/
def Meets (P : Program) (f : Nat) (S : FSpec) : Prop := Callable P f ∧ ∀ (w : World) (m : View) (args : AV) (vs : List Value) (k : AV → Prop), m.on w → args.ok P m [] vs → S.run args k →
  Calls P f vs.toArray w fun e w' => ∃ v m', e = .returned v ∧ Below w.heap.size w w' ∧ m'.on w' ∧ (match S.fresh with
    | true => ∀ b o, m' b = some o → w.heap.size ≤ b
    | false => m.le m' ∧ ∀ b o, m' b = some o → m b = some o ∨ w.heap.size ≤ b) ∧ OutOk P S k w.heap.size w' m' v

section
variable {P : Program} {w0 : Base} {m0 : View} {s : St} {m : View} {ρ : List Value} {a : Act} {w : World} {k : AV → Eff → Prop} {o : Oper} {C : Ctx}

theorem plain_ok {av : AV} : ∀ {vs : List Value}, av.plain = true → av.ok P m ρ vs → av.ok P m [] vs := by
  induction av with
  | own g => intro vs h; cases h
  | box g off => intro vs h; cases h
  | optr g t i off => intro vs h; cases h
  | imm cs off ih => intro vs h k; obtain ⟨ad, us, k1, k2, k3⟩ := k; exact ⟨ad, us, k1, ih h k2, k3⟩
  | clo f caps ih => intro vs h k; obtain ⟨cs, k1, k2⟩ := k; exact ⟨cs, k1, ih h k2⟩
  | agg l ih => intro vs h k; obtain ⟨cs, k1, k2⟩ := k; exact ⟨cs, k1, ih h k2⟩
  | tup l ih => intro vs h k; obtain ⟨cs, k1, k2⟩ := k; exact ⟨cs, k1, ih h k2⟩
  | cons a b iha ihb =>
    intro vs h k
    obtain ⟨v, rest, k1, k2, k3⟩ := k
    simp only [AV.plain] at h
    split at h
    · rename_i h1; exact ⟨v, rest, k1, iha h1 k2, ihb h k3⟩
    · cases h
  | _ => intro vs h k; exact k

theorem own_Rd (hr : Rel P w0 m0 s m ρ a w) {g e : Nat} {t : Ty} {l : List t.den} (hm : memNth s.mem g = .vec e t l) {v : Value} (hv : ρ[g]? = some v) : Rd (fun b => w.heap[b]?) (.list t) l [v] := by
  have ho := hr.objs g
  rw [hm] at ho
  obtain ⟨v', vs, q1, q2, q3, q4⟩ := ho
  rw [hv] at q1
  obtain rfl := Option.some.inj q1
  exact Rd_of_own q3 (RdL.le hr.view q2) (fun b _ => rfl)

theorem snap_ok (hr : Rel P w0 m0 s m ρ a w) {av : AV} : ∀ {vs : List Value}, av.ok P m ρ vs → (av.snap s.mem).ok P (fun b => w.heap[b]?) [] vs := by
  induction av with
  | own g =>
    intro vs k
    obtain ⟨v, ⟨k1, _⟩, rfl⟩ := k
    simp only [AV.snap]
    split
    · rename_i hm; exact own_Rd hr hm k1
    · exact ⟨v, rfl⟩
  | box g off => intro vs k; obtain ⟨b, k1, rfl⟩ := k; exact ⟨_, rfl⟩
  | optr g t i off => intro vs k; obtain ⟨b, n, c, k1, rfl⟩ := k; exact ⟨_, rfl⟩
  | dat t l => intro vs k; exact Rd.le hr.view k
  | dptr t l i off => intro vs k; obtain ⟨h0, ad, cs, k1, k2, k3⟩ := k; exact ⟨h0, ad, cs, k1, Rd.le hr.view k2, fun j v hj => View.cell_le hr.view (k3 j v hj)⟩
  | imm cs off ih => intro vs k; obtain ⟨ad, us, k1, k2, k3⟩ := k; exact ⟨ad, us, k1, ih k2, fun j v hj => View.cell_le hr.view (k3 j v hj)⟩
  | fn a r p f => intro vs k; obtain ⟨fv, k1, k2⟩ := k; exact ⟨fv, k1, k2.le (View.le.cle (m' := fun b => w.heap[b]?) hr.view)⟩
  | clo f caps ih => intro vs k; obtain ⟨cs, k1, k2⟩ := k; exact ⟨cs, k1, ih k2⟩
  | agg l ih => intro vs k; obtain ⟨cs, k1, k2⟩ := k; exact ⟨cs, k1, ih k2⟩
  | tup l ih => intro vs k; obtain ⟨cs, k1, k2⟩ := k; exact ⟨cs, k1, ih k2⟩
  | cons a b iha ihb => intro vs k; obtain ⟨v, rest, k1, k2, k3⟩ := k; exact ⟨v, rest, k1, iha k2, ihb k3⟩
  | _ => intro vs k; exact k

theorem bor_ok (hr : Rel P w0 m0 s m ρ a w) {av : AV} : ∀ {vs : List Value}, av.ok P m ρ vs → (av.bor s.mem).ok P (fun b => w.heap[b]?) [] vs := by
  induction av with
  | own g =>
    intro vs k
    obtain ⟨v, ⟨k1, _⟩, rfl⟩ := k
    simp only [AV.bor]
    split
    · rename_i hm; exact own_Rd hr hm k1
    · exact ⟨v, rfl⟩
  | box g off =>
    intro vs k
    obtain ⟨b, k1, rfl⟩ := k
    simp only [AV.bor]
    split
    · rename_i ty cs hm
      have ho := hr.objs g
      rw [hm] at ho
      obtain ⟨b', vs, q1, q2, q3, q4, q5, q6⟩ := ho
      rw [k1] at q1
      obtain rfl : b = b' := by injection q1 with r1; injection r1 with r1; injection r1 with r1; injection r1
      refine ⟨⟨b, 0, none⟩, vs, by rw [Ls.add_zero_lit], snap_ok hr q4, fun j v hj => ?_⟩
      rw [Ls.add_zero_lit, View.cell, q3]
      simpa using hj
    · exact ⟨_, rfl⟩
  | optr g t i off => intro vs k; obtain ⟨b, n, c, k1, rfl⟩ := k; exact ⟨_, rfl⟩
  | dat t l => intro vs k; exact Rd.le hr.view k
  | dptr t l i off => intro vs k; obtain ⟨h0, ad, cs, k1, k2, k3⟩ := k; exact ⟨h0, ad, cs, k1, Rd.le hr.view k2, fun j v hj => View.cell_le hr.view (k3 j v hj)⟩
  | imm cs off ih => intro vs k; obtain ⟨ad, us, k1, k2, k3⟩ := k; exact ⟨ad, us, k1, ih k2, fun j v hj => View.cell_le hr.view (k3 j v hj)⟩
  | fn a r p f => intro vs k; obtain ⟨fv, k1, k2⟩ := k; exact ⟨fv, k1, k2.le (View.le.cle (m' := fun b => w.heap[b]?) hr.view)⟩
  | clo f caps ih => intro vs k; obtain ⟨cs, k1, k2⟩ := k; exact ⟨cs, k1, ih k2⟩
  | agg l ih => intro vs k; obtain ⟨cs, k1, k2⟩ := k; exact ⟨cs, k1, ih k2⟩
  | tup l ih => intro vs k; obtain ⟨cs, k1, k2⟩ := k; exact ⟨cs, k1, ih k2⟩
  | cons a b iha ihb => intro vs k; obtain ⟨v, rest, k1, k2, k3⟩ := k; exact ⟨v, rest, k1, iha k2, ihb k3⟩
  | _ => intro vs k; exact k

theorem nil_ext {ρ : List Value} : ∀ (g : Nat) (v : Value), ([] : List Value)[g]? = some v → isPad v = false → ρ[g]? = some v := fun g v h => by simp at h

/-- What a call leaves, to the caller's state. -/
theorem out_to {nm : Nat} (hr : Rel P w0 m0 s m ρ a w) (hf : Free s ρ nm) {S : FSpec} {w' : World} {m' : View} {v : Value} {k' : AV → Prop} (hk : ∀ r, k' r → match S.own with
      | .none => k r .none
      | some e => match r with
        | .dat t l => k (.own nm) (.new (.vec e t l))
        | _ => False)
    (hb : Below w.heap.size w w') (hm' : m'.on w') (hnew : (m.le m' ∧ ∀ b o, m' b = some o → m b = some o ∨ w.heap.size ≤ b) ∨ ∀ b o, m' b = some o → w.heap.size ≤ b) (h : OutOk P S k' w.heap.size w' m' v) :
    To P w0 m0 s ρ nm a k v w' := by
  have hmw : m.on w' := View.on_below hr.view hb
  let m1 : View := m.or m'
  have e1 : m.le m1 := View.le_or
  have e2 : m'.le m1 := View.or_le hmw hm'
  have e3 : m1.on w' := View.or_on hmw hm'
  have e4 : ∀ b o, m1 b = some o → m b = some o ∨ w.heap.size ≤ b := by
    intro b o hbo
    unfold m1 View.or at hbo
    cases hmb : m b with
    | some o' => rw [hmb] at hbo; exact .inl hbo
    | none =>
      rw [hmb] at hbo
      rcases hnew with h | h
      · rcases h.2 b o hbo with h | h
        · rw [hmb] at h; cases h
        · exact .inr h
      · exact .inr (h b o hbo)
  have hr1 := hr.grow hb e1 e3 e4
  unfold OutOk at h
  cases hown : S.own with
  | none =>
    rw [hown] at h
    obtain ⟨r, h1, h2⟩ := h
    have := hk r h1
    rw [hown] at this
    exact To.same hr1 this (AV.ok_le e2 nil_ext h2)
  | some e =>
    rw [hown] at h
    obtain ⟨t, l, vs, h1, h2, h3, h4⟩ := h
    have := hk _ h1
    rw [hown] at this
    have hz : ∀ b, v.ownBlock = some b → m1 b = none := by
      intro b hbv
      unfold m1 View.or
      cases hmb : m b with
      | none => exact h4 b hbv
      | some o => have := View.lt hr.view hmb; have := (h2.lt b hbv).1; omega
    have hbv2 : ∀ b, blk v = some b → v.ownBlock = some b := by
      intro b hbb
      rcases h2.2 with ⟨rfl, _⟩ | ⟨g', cap, cur, rfl, _⟩
      · simp [blk] at hbb
      · simpa [blk, Value.ownBlock] using hbb
    refine ⟨_, _, m1, nput ρ nm v, this, Pads.nput hr.len hf _, ⟨v, ⟨nput_at hr.len hf _, own_sl h2⟩, rfl⟩, ?_⟩
    exact hr1.addObj hf hr.blkLt (fun b hb => hr.below.new hb) ⟨v, vs, nput_at hr.len hf _, RdL.le e2 h3, Ls.own_base h2 hr.below.size, hz⟩ (fun b hb => (h2.lt b (hbv2 b hb)).1) (own_one h2)

theorem Free.freeze {ρ : List Value} {nm g e : Nat} {t : Ty} {l : List t.den} (h : Free s ρ nm) (hm : memNth s.mem g = .vec e t l) : Free (effS s nm (.freeze g t l)) ρ nm := by
  have hl : (effS s nm (.freeze g t l)).mem.length = s.mem.length := by
    show (memSet (substMem g (.dat t l) s.mem) g .dead).length = _
    rw [memSet_length _ _ _ (by rw [substMem_length]; exact lt_of_live (by rw [hm]; rfl)), substMem_length]
  unfold Free at *
  rw [hl]; exact h
theorem call_to {nm : Nat} (hS : ∀ f S, find C.specs f = some S → Meets P f S) (hr : Rel P w0 m0 s m ρ a w) (hf : Free s ρ nm) {f : Nat} {args : AV} {vs : List Value} (hargs : args.ok P m ρ vs) (h : callK C nm s.mem f args k) :
    Callable P f ∧ Calls P f vs.toArray w fun e w' => ∃ v, e = .returned v ∧ To P w0 m0 s ρ nm a k v w' := by
  obtain ⟨S, hfs, h⟩ := withSome_iff.1 h
  obtain ⟨hc, hM⟩ := hS f S hfs
  refine ⟨hc, ?_⟩
  cases hp : args.plain with
  | true =>
    rw [hp] at h
    refine (hM w m args vs _ hr.view (plain_ok hp hargs) h).mono fun e w' ⟨v, m', e1, e2, e3, e4, e5⟩ => ⟨v, e1, out_to hr hf (fun r hr => hr) e2 e3 ?_ e5⟩
    cases hfr' : S.fresh <;> rw [hfr'] at e4
    · exact .inl e4
    · exact .inr e4
  | false =>
    rw [hp] at h
    cases hfr' : S.fresh with
    | false =>
      rw [hfr'] at h
      cases hown : S.own with
      | some e => rw [hown] at h; exact h.elim
      | none =>
        rw [hown] at h
        have h : frozenK s.mem args fun args' g t l => S.run args' fun r => k r (.freeze g t l) := h
        unfold frozenK at h
        split at h
        · exact h.elim
        · rename_i g hg1
          split at h
          · rename_i e t l hm
            cases hpl : (AV.subst g (.dat t l) args).plain with
            | false => rw [hpl] at h; exact h.elim
            | true =>
              rw [hpl] at h
              obtain ⟨m1, hm1, hr1, hrd⟩ := hr.freeze (nm := nm) hm
              have ho := hr.objs g
              rw [hm] at ho
              obtain ⟨v0, vs0, q1, q2, q3, q4⟩ := ho
              have hargs' : (AV.subst g (.dat t l) args).ok P m1 ρ vs := subst_ok (d := .dat t l) (ρ' := ρ) hm1 (fun v hv => hrd v hv) (fun _ _ _ h => h) (fun b hb => by
                rw [q1] at hb
                have hb := Option.some.inj hb
                subst hb
                rcases q3.2 with ⟨e, _⟩ | ⟨_, _, _, e, _⟩ <;> cases e) hargs
              refine (hM w m1 _ vs _ hr1.view (plain_ok hpl hargs') h).mono fun e w' ⟨v, m', e1, e2, e3, e4, e5⟩ => ⟨v, e1, ?_⟩
              rw [hfr'] at e4
              obtain ⟨av, ef, m2, ρ2, ⟨k1, k0⟩, k2, k3, k4⟩ := out_to (k := fun r ef => k r (.freeze g t l) ∧ ef = .none) (nm := nm) hr1 (hf.freeze hm) (fun r hr => by rw [hown]; exact ⟨hr, rfl⟩) e2 e3 (.inl e4) e5
              subst k0
              exact ⟨av, .freeze g t l, m2, ρ2, k1, k2, k3, k4⟩
          · exact h.elim
    | true =>
      rw [hfr'] at h
      refine (hM w (fun b => w.heap[b]?) _ vs _ (View.full_on w) (bor_ok hr hargs) h).mono fun e w' ⟨v, m', e1, e2, e3, e4, e5⟩ => ⟨v, e1, out_to hr hf (fun r hr => hr) e2 e3 ?_ e5⟩
      rw [hfr'] at e4
      exact .inr e4

end
end Eng

/- Operations and code over abstract values: the conditions suffice. No condition. -/
set_option linter.unusedVariables false
set_option linter.unusedSimpArgs false
namespace Eng
open Go Go.RowKit

/-- The table and the contracts hold of a program. -/
structure Sound (P : Program) (C : Ctx) : Prop where
  tys : ∀ t T, find C.tys t = some T → TIok P t T
  specs : ∀ f S, find C.specs f = some S → Meets P f S
  mixed : P.follows .mixedOrders = true
  its : ∀ F S, find C.its F = some S → IMeets P F S
  fixs : ∀ Y, C.yl = some Y → ∀ p ∈ Y.fix, p.2.strip = p.2

def fz (r : Option Nat) : Fence := { fn := fun _ => True, depth := none, alive := false, round := r }
theorem fz_none : fz none = Fence.wide := rfl
theorem calls_fz {P : Program} {f : Nat} {args : Array Value} {w : World} {R : Ending → World → Prop} (h : Calls P f args w R) (r : Option Nat) (n : Nat) : CallsIn (fz r) n P f args w R := by
  have h0 : CallsIn Fence.wide n P f args w R := callsIn_wide.2 h
  cases r with
  | none => exact h0
  | some l => exact h0

section
variable {P : Program} {w0 : Base} {m0 : View} {s : St} {nm : Nat} {m : View} {ρ : List Value} {a : Act} {w : World} {k : AV → Eff → Prop} {o : Oper} {C : Ctx}

theorem res_wp {r : Option Nat} {n : Nat} {T : Value → World → Prop} {next : Act → World → Prop} {Q : Exit → Act → World → Prop} (h : Res P T ((execOp a.eval o).run P w)) (hd : ∀ c, o.op ≠ .defer c) (hn : ∀ v w', T v w' → next (a.put o.dst v) w') :
    o.wpIn (fz r) n P a w next Q := by
  refine ⟨fun _ _ => trivial, ?_⟩
  rw [Oper.semAt_eq _ _ _ hd]
  unfold Res at h
  split at h
  · rename_i v w' e; rw [e]; exact hn v w' h
  · rename_i w' e; rw [e]; exact hn undef w' h
  · rename_i f args w' e
    rw [e]
    refine ⟨fun hh => by simp [fz] at hh, (calls_fz h r (n - 1)).mono fun e w'' ⟨v, e1, e2⟩ => ?_⟩
    subst e1
    exact hn v w'' e2
  · exact h.elim

theorem enter_run {f : Nat} (hc : Callable P f) (args : Array Value) (w : World) : (callFunc f args).run P w = .ok (.enter f args) w := by
  obtain ⟨fn, c, h1, h2, h3⟩ := hc
  have h2' : fn.name ≠ "runtime.NumGoroutine" := by simpa using h2
  simp [callFunc, h1, h2', h3]

theorem callval_run {c : Call} {x : Operand} {f : Nat} {caps : Array Value} (ho : o.op = .call c) (hc : c.callee = .value x) (hx : a.eval x = .func (.func f) #[] caps) (hcl : Callable P f) :
    (execOp a.eval o).run P w = .ok (.enter f (c.args.map a.eval ++ caps)) w := by
  unfold execOp
  rw [ho]
  simp only [resolve, hc, hx, Deferred.ofValue]
  have := enter_run hcl (c.args.map a.eval ++ caps) w
  simpa [invoke] using this

theorem appK_ok {x : AV} : ∀ {y : AV} {K : AV → Prop} {us vs : List Value}, appK x y K → x.ok P m ρ us → y.ok P m ρ vs → ∃ z, K z ∧ z.ok P m ρ (us ++ vs) := by
  induction x with
  | nil => intro y K us vs h hx hy; obtain rfl : us = [] := hx; exact ⟨y, h, hy⟩
  | cons a b _ ih =>
    intro y K us vs h hx hy
    obtain ⟨v, rest, rfl, h1, h2⟩ := hx
    obtain ⟨z, k1, k2⟩ := ih h h2 hy
    exact ⟨_, k1, v, _, rfl, h1, k2⟩
  | _ => intro y K us vs h; exact h.elim

theorem call_ok (hS : Sound P C) (hr : Rel P w0 m0 s m ρ a w) (hf : Free s ρ nm) {c : Call} (ho : o.op = .call c) (h : match c.callee with
    | .value (.func f) => callK C nm s.mem f (argsAV (evalO s.ov s.base) c.args.toList) k
    | .value x => match evalO s.ov s.base x with
      | .clo f caps => appK (argsAV (evalO s.ov s.base) c.args.toList) caps fun args => callK C nm s.mem f args k
      | .fn a r p f => takeTy a (argsAV (evalO s.ov s.base) c.args.toList) fun x rest => match rest with
        | .nil => need (p x) fun _ => k (toAV r (f x)) .none
        | _ => False
      | _ => False
    | .builtin b => builtinK C nm s.mem b c.argTypes.toList (c.args.toList.map (evalO s.ov s.base)) k
    | _ => False) : Res P (To P w0 m0 s ρ nm a k) ((execOp a.eval o).run P w) := by
  have hargs := argsAV_ok (P := P) (m := m) (ρ := ρ) hr.eval c.args.toList
  have hal : (c.args.toList.map a.eval).toArray = c.args.map a.eval := by apply Array.ext'; simp
  split at h
  · rename_i f hc
    obtain ⟨h1, h2⟩ := call_to hS.specs hr hf hargs h
    rw [callval_run ho hc (show a.eval (.func f) = .func (.func f) #[] #[] from rfl) h1]
    rw [hal] at h2
    simpa [Res] using h2
  · rename_i x hne hc
    have hx := hr.eval x
    split at h
    · rename_i f caps hcl
      rw [hcl] at hx
      obtain ⟨cs, e1, e2⟩ := hx
      obtain ⟨z, h, hz⟩ := appK_ok h hargs e2
      obtain ⟨h1, h2⟩ := call_to hS.specs hr hf hz h
      rw [callval_run ho hc (List.cons.inj e1).1 h1]
      have : (c.args.toList.map a.eval ++ cs).toArray = c.args.map a.eval ++ cs.toArray := by rw [← hal]; simp
      rw [this] at h2
      exact h2
    · rename_i ta tr p f hcl
      rw [hcl] at hx
      obtain ⟨fv, e1, q, caps, rfl, hcq, hfn⟩ := hx
      obtain ⟨x', rest, us, vs, e2, k1, k2, k3⟩ := takeTy_ok h hargs
      cases rest <;> first | exact k3.elim | skip
      obtain rfl : vs = [] := k2
      obtain ⟨hp, hk⟩ := k3
      rw [List.append_nil] at e2
      rw [callval_run ho hc (List.cons.inj e1).1 hcq]
      have hh := hfn w m x' us (View.cle_refl m) hr.view hp k1
      rw [← e2, hal] at hh
      refine hh.mono fun e w' ⟨v, e3, e4, e5⟩ => ⟨v, e3, ?_⟩
      exact out_to (S := { fresh := true, own := none, run := fun _ _ => False, one := fun _ _ h => h.elim }) (k' := fun r => k r .none) hr hf (fun r hr => hr) e4 (View.from_on w' w.heap.size) (.inr fun b o hb => by
        unfold View.from at hb; split at hb <;> first | assumption | cases hb) ⟨_, hk, toAV_ok e5⟩
    · exact h.elim
  · rename_i b hc
    unfold builtinK at h
    split at h
    · rename_i x hl
      obtain ⟨y, hy, rfl⟩ : ∃ y, c.args.toList = [y] ∧ x = evalO s.ov s.base y := by
        match hq : c.args.toList, hl with
        | [y], hl => simp at hl; exact ⟨y, rfl, hl.symm⟩
      split at h
      · rename_i t ht
        exact len_ok hS.tys hr ho hc hy ht h
      · exact h.elim
    · rename_i x y hl
      obtain ⟨x', y', hy, rfl, rfl⟩ : ∃ x' y', c.args.toList = [x', y'] ∧ x = evalO s.ov s.base x' ∧ y = evalO s.ov s.base y' := by
        match hq : c.args.toList, hl with
        | [p, q], hl => simp at hl; exact ⟨p, q, rfl, hl.1.symm, hl.2.symm⟩
      split at h
      · rename_i t t' ht
        cases hb : Nat.beq t t' <;> rw [hb] at h
        · exact h.elim
        have hb := Nat.eq_of_beq_eq_true hb
        subst hb
        exact append_ok hS.tys hr hf ho hc hy ht h
      · exact h.elim
    · exact minmax_ok (big := true) hr ho hc h
    · exact minmax_ok (big := false) hr ho hc h
    · exact h.elim
  · exact h.elim

theorem op_ok (hS : Sound P C) (hr : Rel P w0 m0 s m ρ a w) (hf : Free s ρ nm) {d : Nat} (h : opK C d nm o.op (evalO s.ov s.base) s.mem k) : (∀ c, o.op ≠ .defer c) ∧ Res P (To P w0 m0 s ρ nm a k) ((execOp a.eval o).run P w) := by
  refine ⟨fun c hc => by rw [hc] at h; exact h, ?_⟩
  cases ho : o.op with
  | move x => rw [ho] at h; exact move_ok hr (.inl ho) h
  | assign x => rw [ho] at h; exact move_ok hr (.inr ho) h
  | pick c x y => rw [ho] at h; exact pick_ok hr ho h
  | alloc e => rw [ho] at h; exact alloc_ok hS.tys hr hf ho h
  | box e x => rw [ho] at h; exact mkbox_ok hr hf ho h
  | build t p => rw [ho] at h; exact build_ok hS.tys hr ho h
  | buildSlice t n p => rw [ho] at h; exact buildSlice_ok hS.tys hr hf ho h
  | load t x => rw [ho] at h; exact load_ok hS.tys hr ho h
  | store t x y => rw [ho] at h; exact store_ok hS.tys hr ho h
  | binOp op t x y u => rw [ho] at h; exact bin_ok hS.tys hr ho h
  | unOp op t x => rw [ho] at h; exact un_ok hr ho h
  | makeFunc fn first caps => rw [ho] at h; exact makeFunc_ok hr h ho
  | makeSlice t x y => rw [ho] at h; exact makeSlice_ok hS.tys hr hf ho h
  | slice t x lo hi mx => rw [ho] at h; exact slice_ok hS.tys hr ho h
  | fieldAddr t x f => rw [ho] at h; exact fieldAddr_ok hS.tys hr ho h
  | field t x f => rw [ho] at h; exact field_ok hS.tys hr ho h
  | indexAddr t x y => rw [ho] at h; exact index_ok hS.tys hr ho h
  | extract x i => rw [ho] at h; exact extract_ok hr ho h
  | nilCheck x => rw [ho] at h; exact nilCheck_ok hr ho h
  | call c => rw [ho] at h; exact call_ok hS hr hf ho h
  | _ => rw [ho] at h; exact h.elim

end
end Eng

/- What an operation over abstract values comes to is one thing; and it hangs on nothing but its operands and what they name. No condition. -/
set_option linter.unusedVariables false
set_option linter.unusedSimpArgs false
universe u v
namespace Eng
open Go Go.RowKit

/-! ### One outcome -/
def Det {R : Type u} (h : (R → Prop) → Prop) : Prop := ∀ k, h k → ∃ r, k r ∧ ∀ k', k' r → h k'
def D2 (h : (AV → Eff → Prop) → Prop) : Prop := ∀ k, h k → ∃ v e, k v e ∧ ∀ k', k' v e → h k'

theorem det_pure {R : Type u} (r : R) : Det (fun k => k r) := fun k h => ⟨r, h, fun _ h => h⟩
theorem d2_pure (v : AV) (e : Eff) : D2 (fun k => k v e) := fun k h => ⟨v, e, h, fun _ h => h⟩
theorem det_false {R : Type u} : Det (fun _ : R → Prop => False) := fun k h => h.elim
theorem d2_false : D2 (fun _ => False) := fun k h => h.elim
theorem det_bind {R : Type u} {S : Type v} {h : (R → Prop) → Prop} {f : R → (S → Prop) → Prop} (hh : Det h) (hf : ∀ r, Det (f r)) : Det (fun k => h fun r => f r k) := fun k H => by
  obtain ⟨r, h1, h2⟩ := hh _ H
  obtain ⟨x, h3, h4⟩ := hf r k h1
  exact ⟨x, h3, fun k' hk => h2 _ (h4 k' hk)⟩
theorem d2_bind {R : Type u} {h : (R → Prop) → Prop} {f : R → (AV → Eff → Prop) → Prop} (hh : Det h) (hf : ∀ r, D2 (f r)) : D2 (fun k => h fun r => f r k) := fun k H => by
  obtain ⟨r, h1, h2⟩ := hh _ H
  obtain ⟨v, e, h3, h4⟩ := hf r k h1
  exact ⟨v, e, h3, fun k' hk => h2 _ (h4 k' hk)⟩
theorem d2_of {h : (AV → Prop) → Prop} (hh : Det h) (e : Eff) : D2 (fun k => h fun v => k v e) := fun k H => by
  obtain ⟨r, h1, h2⟩ := hh _ H
  exact ⟨r, e, h1, fun k' hk => h2 _ hk⟩
theorem det_need {R : Type u} {p : Prop} {f : (R → Prop) → Prop} (hf : Det f) : Det (fun k => need p fun _ => f k) := fun k H => by
  obtain ⟨x, h3, h4⟩ := hf k H.2
  exact ⟨x, h3, fun k' hk => ⟨H.1, h4 k' hk⟩⟩
theorem d2_need {p : Prop} {f : (AV → Eff → Prop) → Prop} (hf : D2 f) : D2 (fun k => need p fun _ => f k) := fun k H => by
  obtain ⟨v, e, h3, h4⟩ := hf k H.2
  exact ⟨v, e, h3, fun k' hk => ⟨H.1, h4 k' hk⟩⟩
theorem det_and {R : Type u} {p : Prop} {f : (R → Prop) → Prop} (hf : Det f) : Det (fun k => p ∧ f k) := fun k H => by
  obtain ⟨x, h3, h4⟩ := hf k H.2
  exact ⟨x, h3, fun k' hk => ⟨H.1, h4 k' hk⟩⟩
theorem det_some {α : Type u} (o : Option α) : Det (withSome o) := by
  cases o with
  | none => exact det_false
  | some a => exact det_pure a
theorem det_heq {t t' : Ty} (l : List t'.den) {f : List t.den → Prop → Prop} : True := trivial
theorem d2_split {b : Bool} {f g : (AV → Eff → Prop) → Prop} (hf : D2 f) (hg : D2 g) : D2 (fun k => split b (fun _ => f k) (fun _ => g k)) := fun k H => by
  cases b with
  | true =>
    obtain ⟨v, e, h3, h4⟩ := hf k (H.1 rfl)
    exact ⟨v, e, h3, fun k' hk => And.intro (fun _ => h4 k' hk) (fun h => nomatch h)⟩
  | false =>
    obtain ⟨v, e, h3, h4⟩ := hg k (H.2 rfl)
    exact ⟨v, e, h3, fun k' hk => And.intro (fun h => nomatch h) (fun _ => h4 k' hk)⟩
theorem d2_test {v : AV} {f g : (AV → Eff → Prop) → Prop} (hf : D2 f) (hg : D2 g) : D2 (fun k => testK v (fun _ => f k) (fun _ => g k)) := by
  unfold testK
  split
  · exact hf
  · exact hg
  · exact d2_split hf hg
  · exact d2_false
theorem det_castL {t' t : Ty} (l : List t'.den) : Det (castL t' t l) := by
  unfold castL
  split
  · exact det_pure _
  · exact det_false
/-- The same data under the same type. -/
theorem det_same {t t' : Ty} (l : List t'.den) : Det (fun k : List t.den → Prop => sameT t' t fun _ => ∀ l' : List t.den, HEq l l' → k l') := by
  unfold sameT
  split
  · rename_i h
    have h : t' = t := of_decide_eq_true h
    subst h
    exact fun k H => ⟨l, H l HEq.rfl, fun k' hk l' hl => by obtain rfl := eq_of_heq hl; exact hk⟩
  · exact det_false
theorem det_same' {t t' : Ty} (l : List t'.den) : Det (fun k : List t.den → Prop => sameT t t' fun _ => ∀ l' : List t.den, HEq l l' → k l') := by
  unfold sameT
  split
  · rename_i h
    have h : t = t' := of_decide_eq_true h
    subst h
    exact fun k H => ⟨l, H l HEq.rfl, fun k' hk l' hl => by obtain rfl := eq_of_heq hl; exact hk⟩
  · exact det_false
theorem det_sameT {R : Type u} {t t' : Ty} {f : (R → Prop) → Prop} (hf : Det f) : Det (fun k => sameT t t' fun _ => f k) := by
  unfold sameT
  split
  · exact hf
  · exact det_false
theorem d2_sameT {t t' : Ty} {f : (AV → Eff → Prop) → Prop} (hf : D2 f) : D2 (fun k => sameT t t' fun _ => f k) := by
  unfold sameT
  split
  · exact hf
  · exact d2_false
theorem det_sameK {R : Type u} {t t' : IntKind} {f : (R → Prop) → Prop} (hf : Det f) : Det (fun k => sameK t t' fun _ => f k) := by
  unfold sameK
  split
  · exact hf
  · exact det_false
theorem d2_sameK {t t' : IntKind} {f : (AV → Eff → Prop) → Prop} (hf : D2 f) : D2 (fun k => sameK t t' fun _ => f k) := by
  unfold sameK
  split
  · exact hf
  · exact d2_false

theorem det_nth : ∀ (i : Nat) (c : AV), Det (nthK c i)
  | 0, c => by cases c <;> first | exact det_false | exact det_pure _
  | i + 1, c => by cases c <;> first | exact det_false | exact det_nth i _
theorem det_drop : ∀ (i : Nat) (c : AV), Det (dropK c i)
  | 0, c => by cases c <;> exact det_pure _
  | i + 1, c => by cases c <;> first | exact det_false | exact det_drop i _
theorem det_take : ∀ (n : Nat) (c : AV), Det (takeK c n)
  | 0, c => by cases c <;> exact det_pure _
  | i + 1, c => by cases c <;> first
    | exact det_false
    | (rename_i a b; show Det (fun k : AV → Prop => takeK b i fun r => k (AV.cons a r)); exact det_bind (det_take i b) fun r => det_pure _)
theorem det_put (v : AV) : ∀ (c : AV) (i : Nat), Det (putK c i v) := by
  induction v with
  | nil => intro c i; cases c <;> cases i <;> exact det_pure _
  | cons x r _ ih =>
    intro c
    induction c with
    | cons a b _ ihb =>
      intro i
      cases i with
      | zero => show Det (fun k : AV → Prop => putK b 0 r fun b' => k (AV.cons x b')); exact det_bind (ih b 0) fun _ => det_pure _
      | succ i => show Det (fun k : AV → Prop => putK b i (.cons x r) fun b' => k (AV.cons a b')); exact det_bind (ihb i) fun _ => det_pure _
    | _ => intro i; cases i <;> exact det_false
  | _ =>
    intro c
    induction c with
    | cons a b _ ihb =>
      intro i
      cases i with
      | zero => exact det_false
      | succ i => exact fun k H => (det_bind (S := AV) (f := fun b' k => k (.cons a b')) (ihb i) fun _ => det_pure _) k H
    | _ => intro i; cases i <;> exact det_false
theorem det_app (x : AV) : ∀ (y : AV), Det (appK x y) := by
  induction x with
  | nil => intro y; exact det_pure y
  | cons a b _ ih => intro y; show Det (fun k : AV → Prop => appK b y fun r => k (AV.cons a r)); exact det_bind (ih y) fun _ => det_pure _
  | _ => intro y; exact det_false
theorem det_cells (v : AV) : Det (cellsK v) := by
  unfold cellsK
  split
  · split
    · exact det_pure _
    · exact det_false
  · split
    · exact det_pure _
    · exact det_false
theorem det_part (c : AV) (ag : Bool) (off size : Nat) : Det (partK c ag off size) := by
  unfold partK
  split
  · exact det_bind (det_drop off c) fun d => det_bind (det_take size d) fun _ => det_pure _
  · exact det_nth off c
theorem det_takeTy : ∀ (t : Ty) (c : AV), Det (fun k : t.den × AV → Prop => takeTy t c fun x r => k (x, r)) := by
  intro t
  induction t with
  | int k =>
    intro c
    simp only [takeTy]
    split
    · split
      · exact det_pure (_, _)
      · exact det_false
    · exact det_false
  | bool => intro c; simp only [takeTy]; split <;> first | exact det_pure (_, _) | exact det_false
  | str => intro c; simp only [takeTy]; split <;> first | exact det_pure (_, _) | exact det_false
  | list t ih =>
    intro c
    simp only [takeTy]
    split
    · rename_i t' l r
      exact fun k H => (det_bind (S := List t.den × AV) (f := fun l' k => k (l', r)) (det_castL l) fun l' => det_pure (l', r)) k H
    · exact fun k H => ⟨_, H.2, fun k' hk => ⟨H.1, hk⟩⟩
    · exact det_false
  | prod a b iha ihb =>
    intro c k H
    obtain ⟨⟨x, r⟩, h1, h2⟩ := iha c (fun p => takeTy b p.2 fun y r' => k ((p.1, y), r')) H
    obtain ⟨⟨y, r'⟩, h3, h4⟩ := ihb r (fun p => k ((x, p.1), p.2)) h1
    exact ⟨((x, y), r'), h3, fun k' hk => h2 (fun p => takeTy b p.2 fun y r' => k' ((p.1, y), r')) (h4 (fun p => k' ((x, p.1), p.2)) hk)⟩
theorem d2_takeTy {t : Ty} {c : AV} {f : t.den → AV → (AV → Eff → Prop) → Prop} (hf : ∀ x r, D2 (f x r)) : D2 (fun k => takeTy t c fun x r => f x r k) := fun k H => by
  obtain ⟨⟨x, r⟩, h1, h2⟩ := det_takeTy t c (fun p => f p.1 p.2 k) H
  obtain ⟨v, e, h3, h4⟩ := hf x r k h1
  exact ⟨v, e, h3, fun k' hk => h2 (fun p => f p.1 p.2 k') (h4 k' hk)⟩
theorem det_takeTyV {t : Ty} {c : AV} {R : Type} {f : t.den → AV → (R → Prop) → Prop} (hf : ∀ x r, Det (f x r)) : Det (fun k => takeTy t c fun x r => f x r k) := fun k H => by
  obtain ⟨⟨x, r⟩, h1, h2⟩ := det_takeTy t c (fun p => f p.1 p.2 k) H
  obtain ⟨v, h3, h4⟩ := hf x r k h1
  exact ⟨v, h3, fun k' hk => h2 (fun p => f p.1 p.2 k') (h4 k' hk)⟩
theorem det_takeV (t : Ty) (v : AV) : Det (takeV t v) := by
  unfold takeV
  refine det_bind (det_cells v) fun c => det_takeTyV fun x r => ?_
  split
  · exact det_pure _
  · exact det_false
theorem det_asInt (v : AV) : Det (fun k : IntKind × Int → Prop => asInt v fun j n => k (j, n)) := by
  unfold asInt
  split
  · exact det_pure (_, _)
  · exact det_false
theorem d2_asInt {v : AV} {f : IntKind → Int → (AV → Eff → Prop) → Prop} (hf : ∀ x r, D2 (f x r)) : D2 (fun k => asInt v fun j n => f j n k) := by
  unfold asInt
  split
  · exact hf _ _
  · exact d2_false
theorem det_asIntV {R : Type u} {v : AV} {f : IntKind → Int → (R → Prop) → Prop} (hf : ∀ x r, Det (f x r)) : Det (fun k => asInt v fun j n => f j n k) := by
  unfold asInt
  split
  · exact hf _ _
  · exact det_false
theorem det_asBool (v : AV) : Det (asBool v) := by
  unfold asBool
  split <;> first | exact det_pure _ | exact det_false
theorem det_mkInt (w : Bool) (j : IntKind) (n : Int) : Det (mkInt w j n) := by
  unfold mkInt
  split
  · exact det_pure _
  · exact det_need (det_pure _)
theorem det_intBin (w : Bool) (op : BinOp) (j : IntKind) (a b : Int) : Det (intBin w op j a b) := by
  unfold intBin
  split <;> first | exact det_mkInt _ _ _ | exact det_pure _ | exact det_need (det_mkInt _ _ _) | exact det_need (det_pure _) | exact det_false
theorem det_int2 {R : Type} {v : AV} {f : IntKind → Int → IntKind → Int → (R → Prop) → Prop} (hf : ∀ j a i b, Det (f j a i b)) : Det (fun k => int2 v fun j a i b => f j a i b k) := by
  unfold int2
  split
  · split
    · split
      · exact det_asIntV fun j a => det_asIntV fun i b => hf j a i b
      · exact det_false
    · exact det_false
  · exact det_false
theorem det_bin (C : Ctx) (w : Bool) (op : BinOp) (t : Nat) (x y : AV) : Det (binK C w op t x y) := by
  unfold binK
  split
  · split
    · exact det_need (det_pure _)
    · exact det_need (det_mkInt _ _ _)
    · exact det_sameK (det_intBin _ _ _ _ _)
  · refine det_bind (det_some _) fun T => ?_
    split
    · exact det_false
    · refine det_int2 fun j a i b => det_int2 fun j' c i' d => det_sameK (det_sameK ?_)
      split <;> first | exact det_pure _ | exact det_false
  · refine det_bind (det_some _) fun T => ?_
    split
    · exact det_false
    · refine det_bind (det_asBool _) fun a => det_bind (det_asBool _) fun b => ?_
      split <;> first | exact det_pure _ | exact det_false
theorem det_un (w : Bool) (op : UnOp) (x : AV) : Det (unK w op x) := by
  unfold unK
  split <;> first | exact det_mkInt _ _ _ | exact det_pure _ | exact det_false
theorem det_fill (flds : List (Nat × Nat × Nat)) : ∀ (l : List (Nat × AV)) (c : AV), Det (fillAV flds l c)
  | [], c => det_pure c
  | (i, v) :: r, c => by
    show Det (fun k : AV → Prop => withSome flds[i]? fun f => cellsK v fun x => match x.lenIs f.2.2 with
      | true => putK c f.1 x fun c' => fillAV flds r c' k
      | false => False)
    refine det_bind (det_some _) fun f => det_bind (det_cells _) fun x => ?_
    split
    · exact det_bind (det_put _ _ _) fun c' => det_fill flds r c'
    · exact det_false
theorem det_takeAll (t : Ty) : ∀ (l : List (Nat × AV)) (j : Nat), Det (takeAll t l j)
  | [], j => det_pure []
  | (i, v) :: r, j => by
    show Det (fun k : List t.den → Prop => match Nat.beq i j with
      | true => takeV t v fun x => takeAll t r (j + 1) fun l => k (x :: l)
      | false => False)
    split
    · exact det_bind (det_takeV t v) fun x => det_bind (det_takeAll t r (j + 1)) fun l => det_pure _
    · exact det_false
theorem det_len (T : TI) (mem : List AObj) (v : AV) : Det (lenK T mem v) := by
  unfold lenK
  split
  · split <;> first | exact det_pure _ | exact det_false
  · split <;> first | exact det_pure _ | exact det_false
  · split <;> first | exact det_pure _ | exact det_false
  · exact det_false
theorem det_sameF {R : Type u} {t t' : Ty} (l : List t'.den) {f : List t.den → (R → Prop) → Prop} (hf : ∀ l', Det (f l')) : Det (fun k => sameT t' t fun _ => ∀ l' : List t.den, HEq l l' → f l' k) := fun k H => by
  obtain ⟨l', h1, h2⟩ := det_same l (fun l' => f l' k) H
  obtain ⟨v, h3, h4⟩ := hf l' k h1
  exact ⟨v, h3, fun k' hk => h2 _ (h4 k' hk)⟩
theorem det_load (T : TI) (mem : List AObj) (v : AV) : Det (loadK T mem v) := by
  unfold loadK
  split
  · split
    · exact det_part _ _ _ _
    · exact det_false
  · exact det_part _ _ _ _
  · split
    · exact det_need (det_bind (det_castL _) fun l' => det_part _ _ _ _)
    · exact det_false
  · exact det_part _ _ _ _
  · exact det_false
theorem d2_store (T : TI) (mem : List AObj) (v x : AV) : D2 (storeK T mem v x) := by
  unfold storeK
  split
  · split
    · refine d2_bind (det_cells _) fun c => ?_
      split
      · exact d2_bind (det_put _ _ _) fun cs' => d2_pure _ _
      · exact d2_false
    · exact d2_false
  · split
    · refine d2_need (d2_sameT ?_)
      split
      · exact d2_bind (det_takeV _ _) fun d => d2_pure _ _
      · exact d2_false
    · exact d2_false
  · exact d2_false
theorem det_field (off : Nat) (v : AV) : Det (fieldK off v) := by
  unfold fieldK
  split <;> first | exact det_pure _ | exact det_false
theorem det_index (T E : TI) (mem : List AObj) (v : AV) (i : Int) : Det (indexK T E mem v i) := by
  unfold indexK
  split
  · split
    · unfold natK
      split
      · exact det_bind (det_some _) fun fl => det_field _ _
      · exact det_false
    · exact det_false
  · split
    · split
      · exact det_need (det_pure _)
      · exact det_false
    · split
      · split
        · exact det_need (det_pure _)
        · exact det_false
      · exact det_false
    · exact det_false
theorem d2_bound {ρ : Operand → AV} {o : Option Operand} {d : Int} {f : Int → (AV → Eff → Prop) → Prop} (hf : ∀ n, D2 (f n)) : D2 (fun k => bound ρ o d fun n => f n k) := by
  unfold bound
  split
  · exact hf _
  · exact d2_asInt fun _ n => hf n
theorem d2_slice (T E : TI) (ρ : Operand → AV) (mem : List AObj) (v : AV) (lo hi mx : Option Operand) : D2 (sliceK T E ρ mem v lo hi mx) := by
  unfold sliceK noMax
  split
  · exact d2_false
  · split
    · split
      · split
        · exact d2_bound fun a => d2_bound fun b => d2_need (d2_pure _ _)
        · exact d2_false
      · split
        · split
          · exact d2_bound fun a => d2_bound fun b => d2_need (d2_pure _ _)
          · exact d2_false
        · exact d2_false
      · exact d2_false
    · exact d2_false
theorem det_elems (t : Ty) (mem : List AObj) (x : AV) : Det (elemsK t mem x) := by
  unfold elemsK
  split
  · exact det_castL _
  · split
    · exact det_castL _
    · exact det_false
  · exact det_false
theorem d2_same {t t' : Ty} (l : List t'.den) {f : List t.den → (AV → Eff → Prop) → Prop} (hf : ∀ l', D2 (f l')) : D2 (fun k => sameT t' t fun _ => ∀ l' : List t.den, HEq l l' → f l' k) := fun k H => by
  obtain ⟨l', h1, h2⟩ := det_same l (fun l' => f l' k) H
  obtain ⟨v, e, h3, h4⟩ := hf l' k h1
  exact ⟨v, e, h3, fun k' hk => h2 _ (h4 k' hk)⟩
theorem d2_append (nm : Nat) (mem : List AObj) (T E : TI) (s x : AV) : D2 (appendK nm mem T E s x) := by
  unfold appendK
  split
  · refine d2_bind (det_elems _ _ _) fun l' => ?_
    split
    · split
      · split
        · exact d2_bind (det_castL _) fun l'' => d2_need (d2_pure _ _)
        · exact d2_false
      · exact d2_false
    · split
      · exact d2_need (d2_pure _ _)
      · exact d2_false
    · exact d2_false
  · exact d2_false
theorem det_minmax (big : Bool) (l : List AV) : Det (fun k : IntKind × Int → Prop => minmax big l fun j n => k (j, n)) := by
  unfold minmax
  split
  · exact det_asIntV fun j a => det_asIntV fun j' b => det_sameK (det_pure (_, _))
  · exact det_asIntV fun j a => det_asIntV fun j' b => det_asIntV fun j'' c => det_sameK (det_sameK (det_pure (_, _)))
  · exact det_false
theorem d2_buildSlice (nm e : Nat) (E : TI) (mem : List AObj) (parts : List (Nat × AV)) : D2 (buildSliceK nm e E mem parts) := by
  unfold buildSliceK
  split
  · exact d2_pure _ _
  · split
    · exact d2_bind (det_castL _) fun l' => d2_pure _ _
    · exact d2_false
  · exact d2_of (det_bind (det_takeAll _ _ _) fun l => det_pure _) .none

/-- Contracts have one outcome. -/
def Ctx.one (C : Ctx) : Prop := ∀ f S, find C.specs f = some S → ∀ args, Det (S.run args)
theorem Ctx.one_all (C : Ctx) : C.one := fun _ S _ args k h => S.one args k h
theorem d2_frozen {mem : List AObj} {args : AV} {F : AV → Nat → (t : Ty) → List t.den → (AV → Eff → Prop) → Prop} (hF : ∀ x g t l, D2 (F x g t l)) : D2 (fun k => frozenK mem args fun x g t l => F x g t l k) := by
  unfold frozenK
  split
  · exact d2_false
  · split
    · split
      · exact hF _ _ _ _
      · exact d2_false
    · exact d2_false
theorem d2_call {C : Ctx} (hC : C.one) (nm : Nat) (mem : List AObj) (f : Nat) (args : AV) : D2 (callK C nm mem f args) := by
  unfold callK
  cases hf : find C.specs f with
  | none => exact d2_false
  | some S =>
    have hd := hC f S hf
    show D2 (fun k => match args.plain with | true => _ | false => _)
    have aux : ∀ r : AV, D2 (fun k => match S.own with
      | .none => k r .none
      | some e => match r with
        | .dat t l => k (.own nm) (.new (.vec e t l))
        | _ => False) := by
      intro r
      cases S.own with
      | none => exact d2_pure _ _
      | some e => cases r <;> first | exact d2_false | exact d2_pure _ _
    split
    · exact d2_bind (hd _) aux
    · split
      · exact d2_bind (hd _) aux
      · split
        · exact d2_frozen fun x g t l => d2_bind (hd _) fun r => d2_pure _ _
        · exact d2_false
theorem d2_builtin (C : Ctx) (nm : Nat) (mem : List AObj) (b : Builtin) (tys : List Nat) (args : List AV) : D2 (builtinK C nm mem b tys args) := by
  unfold builtinK
  split
  · split
    · exact d2_bind (det_some _) fun T => d2_of (det_len _ _ _) .none
    · exact d2_false
  · split
    · split
      · exact d2_bind (det_some _) fun T => d2_bind (det_some _) fun E => d2_append _ _ _ _ _ _
      · exact d2_false
    · exact d2_false
  · intro k H
    obtain ⟨⟨j, n⟩, h1, h2⟩ := det_minmax true _ (fun p => k (.lit (.int p.1 p.2)) .none) H
    exact ⟨_, _, h1, fun k' hk => h2 (fun p => k' (.lit (.int p.1 p.2)) .none) hk⟩
  · intro k H
    obtain ⟨⟨j, n⟩, h1, h2⟩ := det_minmax false _ (fun p => k (.lit (.int p.1 p.2)) .none) H
    exact ⟨_, _, h1, fun k' hk => h2 (fun p => k' (.lit (.int p.1 p.2)) .none) hk⟩
  · exact d2_false

theorem d2_op {C : Ctx} (hC : C.one) (dst nm : Nat) (op : Op) (ρ : Operand → AV) (mem : List AObj) : D2 (opK C dst nm op ρ mem) := by
  unfold opK
  split
  · exact d2_pure _ _
  · exact d2_pure _ _
  · exact d2_test (d2_pure _ _) (d2_pure _ _)
  · exact d2_bind (det_some _) fun T => d2_pure _ _
  · exact d2_bind (det_cells _) fun T => d2_pure _ _
  · refine d2_bind (det_some _) fun T => ?_
    split
    · exact d2_false
    · exact d2_of (det_bind (det_fill _ _ _) fun c => det_pure _) .none
  · refine d2_bind (det_some _) fun T => d2_bind (det_some _) fun E => ?_
    split
    · exact d2_buildSlice _ _ _ _ _
    · exact d2_false
  · exact d2_bind (det_some _) fun T => d2_of (det_load _ _ _) .none
  · exact d2_bind (det_some _) fun T => d2_store _ _ _ _
  · exact d2_of (det_bin _ _ _ _ _ _) .none
  · exact d2_of (det_un _ _ _) .none
  · split
    · exact d2_pure _ _
    · exact d2_false
  · refine d2_bind (det_some _) fun T => d2_bind (det_some _) fun E => ?_
    split
    · exact d2_asInt fun _ n => d2_asInt fun _ m => d2_need (d2_pure _ _)
    · exact d2_false
  · exact d2_bind (det_some _) fun T => d2_bind (det_some _) fun E => d2_slice _ _ _ _ _ _ _ _
  · refine d2_bind (det_some _) fun T => ?_
    split
    · exact d2_false
    · exact d2_bind (det_some _) fun fl => d2_of (det_field _ _) .none
  · refine d2_bind (det_some _) fun T => ?_
    split
    · exact d2_false
    · refine d2_bind (det_some _) fun fl => d2_bind (det_some _) fun E => ?_
      split
      · exact d2_of (det_part _ _ _ _) .none
      · exact d2_false
  · exact d2_bind (det_some _) fun T => d2_bind (det_some _) fun E => d2_asInt fun _ n => d2_of (det_index _ _ _ _ _) .none
  · split
    · exact d2_of (det_nth _ _) .none
    · exact d2_false
  · split <;> first | exact d2_pure _ _ | exact d2_false
  · split
    · exact d2_call hC _ _ _ _
    · split
      · exact d2_bind (det_app _ _) fun args => d2_call hC _ _ _ _
      · refine d2_takeTy fun x rest => ?_
        split
        · exact d2_need (d2_pure _ _)
        · exact d2_false
      · exact d2_false
    · exact d2_builtin _ _ _ _ _ _
    · exact d2_false
  · exact d2_false

end Eng

/- An operation over abstract values hangs on nothing but its operands and what they name. No condition. -/
set_option linter.unusedVariables false
set_option linter.unusedSimpArgs false
namespace Eng
open Go Go.RowKit

theorem bit_test (n i : Nat) : Nat.testBit (bit n) i = decide (n = i) := by
  show Nat.testBit (2 ^ n) i = _
  rw [Nat.testBit_two_pow]
theorem lor_test (a b i : Nat) : Nat.testBit (Nat.lor a b) i = (a.testBit i || b.testBit i) := Nat.testBit_or a b i
theorem off_test {a b : Nat} (h : off a b = true) (i : Nat) (ha : a.testBit i = true) : b.testBit i = false := by
  have h := Nat.eq_of_beq_eq_true h
  have : (a &&& b).testBit i = false := by
    have h' : a &&& b = 0 := h
    rw [h']; exact Nat.zero_testBit i
  rw [Nat.testBit_and, ha] at this
  simpa using this

theorem memMsk_test {R : Nat} {h : Nat} : ∀ {l : List AObj} {i g : Nat}, R.testBit (i + g) = true → (memNth l g).msk.testBit h = true → (memMsk R l i).testBit h = true
  | [], i, g, _, h2 => by simp [memNth, AObj.msk] at h2
  | o :: r, i, 0, h1, h2 => by
    simp only [memMsk]
    rw [Nat.add_zero] at h1
    rw [h1]
    simp only [lor_test, Bool.or_eq_true]
    exact .inl h2
  | o :: r, i, g + 1, h1, h2 => by
    have := memMsk_test (l := r) (i := i + 1) (g := g) (by rw [Nat.add_assoc, Nat.add_comm 1 g]; exact h1) h2
    simp only [memMsk]
    split
    · simp only [lor_test, Bool.or_eq_true]; exact .inr this
    · exact this
theorem close_self {mem : List AObj} {R g : Nat} (h : R.testBit g = true) : (closeMsk mem R).testBit g = true := by
  unfold closeMsk; rw [lor_test, h]; rfl
theorem close_obj {mem : List AObj} {R g h : Nat} (h1 : R.testBit g = true) (h2 : (memNth mem g).msk.testBit h = true) : (closeMsk mem R).testBit h = true := by
  unfold closeMsk; rw [lor_test, Bool.or_eq_true]
  exact .inr (memMsk_test (i := 0) (by rw [Nat.zero_add]; exact h1) h2)
theorem opsMsk_test {ρ : Operand → AV} {x : Operand} {g : Nat} : ∀ {xs : List Operand}, x ∈ xs → (ρ x).msk.testBit g = true → (opsMsk ρ xs).testBit g = true
  | [], h, _ => by cases h
  | y :: r, h, hg => by
    simp only [opsMsk, lor_test, Bool.or_eq_true]
    rcases List.mem_cons.1 h with rfl | h
    · exact .inl hg
    · exact .inr (opsMsk_test h hg)

/-! ### The same memory, as far as a value sees it -/
def Sees (mem mem' : List AObj) (v : AV) : Prop := ∀ g, v.msk.testBit g = true → memNth mem g = memNth mem' g
def Sees2 (mem mem' : List AObj) (v : AV) : Prop := ∀ g, (closeMsk mem v.msk).testBit g = true → memNth mem g = memNth mem' g
theorem Sees2.one {mem mem' : List AObj} {v : AV} (h : Sees2 mem mem' v) : Sees mem mem' v := fun g hg => h g (close_self hg)

theorem snap_cong {mem mem' : List AObj} {v : AV} (h : Sees mem mem' v) : v.snap mem = v.snap mem' := by
  induction v with
  | own g => simp only [AV.snap]; rw [h g (by simp [AV.msk, bit_test])]
  | imm cs off ih => simp only [AV.snap]; rw [ih h]
  | clo f c ih => simp only [AV.snap]; rw [ih h]
  | agg c ih => simp only [AV.snap]; rw [ih h]
  | tup c ih => simp only [AV.snap]; rw [ih h]
  | cons a b iha ihb =>
    simp only [AV.snap]
    rw [iha (fun g hg => h g (by simp [AV.msk, lor_test, hg])), ihb (fun g hg => h g (by simp [AV.msk, lor_test, hg]))]
  | _ => rfl
theorem bor_cong {mem mem' : List AObj} {v : AV} (h : Sees2 mem mem' v) : v.bor mem = v.bor mem' := by
  have sub : ∀ {R R' : Nat}, (∀ g, R.testBit g = true → R'.testBit g = true) → ∀ g, (closeMsk mem R).testBit g = true → (closeMsk mem R').testBit g = true := by
    intro R R' hR g hg
    unfold closeMsk at *
    rw [lor_test, Bool.or_eq_true] at *
    rcases hg with hg | hg
    · exact .inl (hR g hg)
    · refine .inr ?_
      have : ∀ (l : List AObj) (i : Nat), (memMsk R l i).testBit g = true → (memMsk R' l i).testBit g = true := by
        intro l
        induction l with
        | nil => intro i hh; exact hh
        | cons o r ih =>
          intro i hh
          simp only [memMsk] at *
          cases hq : R.testBit i with
          | true =>
            rw [hq] at hh
            rw [hR i hq]
            simp only [lor_test, Bool.or_eq_true] at *
            rcases hh with hh | hh
            · exact .inl hh
            · exact .inr (ih _ hh)
          | false =>
            rw [hq] at hh
            have := ih _ hh
            split
            · simp only [lor_test, Bool.or_eq_true]; exact .inr this
            · exact this
      exact this mem 0 hg
  induction v with
  | own g => simp only [AV.bor]; rw [h.one g (by simp [AV.msk, bit_test])]
  | box g off =>
    simp only [AV.bor]
    have e := h.one g (by simp [AV.msk, bit_test])
    rw [← e]
    split
    · rename_i ty cs hm
      rw [snap_cong (mem' := mem') fun x hx => h x (close_obj (g := g) (by simp [AV.msk, bit_test]) (by rw [hm]; exact hx))]
    · rfl
  | imm cs off ih => simp only [AV.bor]; rw [ih h]
  | clo f c ih => simp only [AV.bor]; rw [ih h]
  | agg c ih => simp only [AV.bor]; rw [ih h]
  | tup c ih => simp only [AV.bor]; rw [ih h]
  | cons a b iha ihb =>
    simp only [AV.bor]
    rw [iha (fun g hg => h g (sub (fun x hx => by simp [AV.msk, lor_test, hx]) g hg)), ihb (fun g hg => h g (sub (fun x hx => by simp [AV.msk, lor_test, hx]) g hg))]
  | _ => rfl

theorem load_cong {T : TI} {mem mem' : List AObj} {v : AV} (h : Sees mem mem' v) : loadK T mem v = loadK T mem' v := by
  funext k
  cases v <;> simp only [loadK]
  case box g off => rw [h g (by simp [AV.msk, bit_test])]
  case optr g t i off => rw [h g (by simp [AV.msk, bit_test])]
theorem store_cong {T : TI} {mem mem' : List AObj} {v x : AV} (h : Sees mem mem' v) : storeK T mem v x = storeK T mem' v x := by
  funext k
  cases v <;> simp only [storeK]
  case box g off => rw [h g (by simp [AV.msk, bit_test])]
  case optr g t i off => rw [h g (by simp [AV.msk, bit_test])]
theorem len_cong {T : TI} {mem mem' : List AObj} {v : AV} (h : Sees mem mem' v) : lenK T mem v = lenK T mem' v := by
  funext k
  cases v <;> simp only [lenK]
  case own g => rw [h g (by simp [AV.msk, bit_test])]
  case lit v => cases v <;> rfl
theorem index_cong {T E : TI} {mem mem' : List AObj} {v : AV} {i : Int} (h : Sees mem mem' v) : indexK T E mem v i = indexK T E mem' v i := by
  funext k
  cases v <;> simp only [indexK]
  case own g => rw [h g (by simp [AV.msk, bit_test])]
theorem bound_cong {ρ ρ' : Operand → AV} {o : Option Operand} {d : Int} (h : ∀ x, o = some x → ρ x = ρ' x) : bound ρ o d = bound ρ' o d := by
  funext k
  cases o with
  | none => rfl
  | some x => simp only [bound, h x rfl]
theorem slice_cong {T E : TI} {ρ ρ' : Operand → AV} {mem mem' : List AObj} {v : AV} {lo hi mx : Option Operand} (h : Sees mem mem' v) (h1 : ∀ x, lo = some x → ρ x = ρ' x) (h2 : ∀ x, hi = some x → ρ x = ρ' x) :
    sliceK T E ρ mem v lo hi mx = sliceK T E ρ' mem' v lo hi mx := by
  funext k
  simp only [sliceK, bound_cong h1, bound_cong h2]
  cases v <;> simp only []
  case own g => rw [h g (by simp [AV.msk, bit_test])]
theorem elems_cong {t : Ty} {mem mem' : List AObj} {v : AV} (h : Sees mem mem' v) : elemsK t mem v = elemsK t mem' v := by
  funext k
  cases v <;> simp only [elemsK]
  case own g => rw [h g (by simp [AV.msk, bit_test])]
theorem append_cong {nm : Nat} {T E : TI} {mem mem' : List AObj} {s x : AV} (h : Sees mem mem' s) (h' : Sees mem mem' x) : appendK nm mem T E s x = appendK nm mem' T E s x := by
  funext k
  unfold appendK
  rw [elems_cong h']
  cases s <;> first | rfl | skip
  case own g =>
    have e := h g (by simp [AV.msk, bit_test])
    simp only [e]
  case lit v => cases v <;> first | rfl | (rename_i A n c; cases A <;> rfl)
theorem buildSlice_cong {nm e : Nat} {E : TI} {mem mem' : List AObj} {parts : List (Nat × AV)} (h : ∀ p ∈ parts, Sees mem mem' p.2) : buildSliceK nm e E mem parts = buildSliceK nm e E mem' parts := by
  funext k
  unfold buildSliceK
  split
  · rfl
  · rename_i g
    rw [h (0, .own g) (by simp) g (by simp [AV.msk, bit_test])]
  · rfl
theorem own1_msk {v : AV} : ∀ {g : Nat}, v.own1 = some g → v.msk.testBit g = true := by
  induction v with
  | own h => intro g e; have e : some h = some g := e; rw [Option.some.inj e]; simp [AV.msk, bit_test]
  | agg c ih => intro g e; exact ih e
  | tup c ih => intro g e; exact ih e
  | clo f c ih => intro g e; exact ih e
  | cons x y ihx ihy =>
    intro g e
    simp only [AV.own1] at e
    simp only [AV.msk, lor_test]
    split at e
    · rename_i h hx; rw [Option.some.inj e] at hx; rw [ihx hx]; rfl
    · rw [ihy e]; simp
  | _ => intro g e; cases e
theorem frozen_cong {mem mem' : List AObj} {args : AV} (h : Sees mem mem' args) : frozenK mem args = frozenK mem' args := by
  funext k
  unfold frozenK
  split
  · rfl
  · rename_i g hg
    rw [h g (own1_msk hg)]
theorem call_cong {C : Ctx} {nm f : Nat} {mem mem' : List AObj} {args : AV} (h : Sees2 mem mem' args) : callK C nm mem f args = callK C nm mem' f args := by
  funext k
  simp only [callK, bor_cong h, frozen_cong h.one]

theorem argsMsk (ρ : Operand → AV) : ∀ xs : List Operand, (argsAV ρ xs).msk = opsMsk ρ xs
  | [] => rfl
  | x :: r => by simp only [argsAV, AV.msk, opsMsk, argsMsk ρ r]
theorem args_cong {ρ ρ' : Operand → AV} : ∀ {xs : List Operand}, (∀ x ∈ xs, ρ x = ρ' x) → argsAV ρ xs = argsAV ρ' xs
  | [], _ => rfl
  | x :: r, h => by simp only [argsAV]; rw [h x List.mem_cons_self, args_cong fun y hy => h y (List.mem_cons_of_mem _ hy)]
theorem close_mono {mem : List AObj} {R R' : Nat} (hR : ∀ g, R.testBit g = true → R'.testBit g = true) (g : Nat) (hg : (closeMsk mem R).testBit g = true) : (closeMsk mem R').testBit g = true := by
  unfold closeMsk at *
  rw [lor_test, Bool.or_eq_true] at *
  rcases hg with hg | hg
  · exact .inl (hR g hg)
  · refine .inr ?_
    have : ∀ (l : List AObj) (i : Nat), (memMsk R l i).testBit g = true → (memMsk R' l i).testBit g = true := by
      intro l
      induction l with
      | nil => intro i hh; exact hh
      | cons o r ih =>
        intro i hh
        simp only [memMsk] at *
        cases hq : R.testBit i with
        | true =>
          rw [hq] at hh
          rw [hR i hq]
          simp only [lor_test, Bool.or_eq_true] at *
          rcases hh with hh | hh
          · exact .inl hh
          · exact .inr (ih _ hh)
        | false =>
          rw [hq] at hh
          have := ih _ hh
          split
          · simp only [lor_test, Bool.or_eq_true]; exact .inr this
          · exact this
    exact this mem 0 hg
theorem appMsk (x : AV) : ∀ (y : AV) (k : AV → Prop), appK x y k → ∃ z, k z ∧ z.msk = Nat.lor x.msk y.msk := by
  induction x with
  | nil => intro y k h; exact ⟨y, h, by simp [AV.msk, show Nat.lor 0 y.msk = y.msk from Nat.zero_or _]⟩
  | cons a b _ ih =>
    intro y k h
    obtain ⟨z, h1, h2⟩ := ih y _ h
    exact ⟨_, h1, by simp only [AV.msk, h2]; exact (Nat.or_assoc _ _ _).symm⟩
  | _ => intro y k h; exact h.elim

theorem op_cong {C : Ctx} {dst nm : Nat} {op : Op} {ρ ρ' : Operand → AV} {mem mem' : List AObj} {k : AV → Eff → Prop} (h1 : ∀ x ∈ op.operands.toList, ρ x = ρ' x)
    (h2 : ∀ g, (closeMsk mem (opsMsk ρ op.operands.toList)).testBit g = true → memNth mem g = memNth mem' g) (h : opK C dst nm op ρ mem k) : opK C dst nm op ρ' mem' k := by
  have hs : ∀ x ∈ op.operands.toList, Sees mem mem' (ρ x) := fun x hx g hg => h2 g (close_self (opsMsk_test hx hg))
  cases op with
  | move x => simp only [opK] at *; rw [← h1 x (by simp [Op.operands])]; exact h
  | assign x => simp only [opK] at *; rw [← h1 x (by simp [Op.operands])]; exact h
  | pick c a b => simp only [opK] at *; rw [← h1 c (by simp [Op.operands]), ← h1 a (by simp [Op.operands]), ← h1 b (by simp [Op.operands])]; exact h
  | alloc e => exact h
  | box e x => simp only [opK] at *; rw [← h1 x (by simp [Op.operands])]; exact h
  | build t parts =>
    simp only [opK] at *
    have e : (parts.toList.map fun p => (p.1, ρ' p.2)) = parts.toList.map fun p => (p.1, ρ p.2) := List.map_congr_left fun p hp => by rw [h1 p.2 (by simp [Op.operands]; exact ⟨p.1, by simpa using hp⟩)]
    rw [e]; exact h
  | buildSlice t n parts =>
    simp only [opK] at *
    have e : (parts.toList.map fun p => (p.1, ρ' p.2)) = parts.toList.map fun p => (p.1, ρ p.2) := List.map_congr_left fun p hp => by rw [h1 p.2 (by simp [Op.operands]; exact ⟨p.1, by simpa using hp⟩)]
    rw [e]
    have e2 : ∀ (e : Nat) (E : TI), buildSliceK nm e E mem (parts.toList.map fun p => (p.1, ρ p.2)) = buildSliceK nm e E mem' (parts.toList.map fun p => (p.1, ρ p.2)) := fun e E => buildSlice_cong fun p hp => by
      obtain ⟨q, hq, rfl⟩ := List.mem_map.1 hp
      exact hs q.2 (by simp [Op.operands]; exact ⟨q.1, by simpa using hq⟩)
    simp only [e2] at h
    exact h
  | load t x => simp only [opK] at *; rw [← h1 x (by simp [Op.operands])]; simp only [load_cong (hs x (by simp [Op.operands]))] at h; exact h
  | store t x y => simp only [opK] at *; rw [← h1 x (by simp [Op.operands]), ← h1 y (by simp [Op.operands])]; simp only [store_cong (hs x (by simp [Op.operands]))] at h; exact h
  | binOp op t x y u => simp only [opK] at *; rw [← h1 x (by simp [Op.operands]), ← h1 y (by simp [Op.operands])]; exact h
  | unOp op t x => simp only [opK] at *; rw [← h1 x (by simp [Op.operands])]; exact h
  | makeFunc fn first caps =>
    simp only [opK] at *
    rw [← args_cong (ρ := ρ) fun x hx => h1 x (by simp [Op.operands]; exact .inr (by simpa using hx))]
    exact h
  | makeSlice t x y => simp only [opK] at *; rw [← h1 x (by simp [Op.operands]), ← h1 y (by simp [Op.operands])]; exact h
  | slice t x lo hi mx =>
    simp only [opK] at *
    rw [← h1 x (by simp [Op.operands])]
    have e : ∀ T E : TI, sliceK T E ρ mem (ρ x) lo hi mx = sliceK T E ρ' mem' (ρ x) lo hi mx := fun T E => slice_cong (hs x (by simp [Op.operands])) (fun y hy => h1 y (by simp [Op.operands, hy])) (fun y hy => h1 y (by simp [Op.operands, hy]))
    simp only [e] at h
    exact h
  | fieldAddr t x f => simp only [opK] at *; rw [← h1 x (by simp [Op.operands])]; exact h
  | field t x f => simp only [opK] at *; rw [← h1 x (by simp [Op.operands])]; exact h
  | indexAddr t x y => simp only [opK] at *; rw [← h1 x (by simp [Op.operands]), ← h1 y (by simp [Op.operands])]; simp only [index_cong (hs x (by simp [Op.operands]))] at h; exact h
  | extract x i => simp only [opK] at *; rw [← h1 x (by simp [Op.operands])]; exact h
  | nilCheck x => simp only [opK] at *; rw [← h1 x (by simp [Op.operands])]; exact h
  | call c =>
    obtain ⟨ca, args, ats⟩ := c
    have ha : ∀ x ∈ args.toList, ρ x = ρ' x := fun x hx => h1 x (by simp [Op.operands, Call.operands]; exact .inr (by simpa using hx))
    have hA : ∀ x, x ∈ args.toList → x ∈ (Op.call ⟨ca, args, ats⟩).operands.toList := fun x hx => by simp [Op.operands, Call.operands]; exact .inr (by simpa using hx)
    have hargs : ∀ g, (opsMsk ρ args.toList).testBit g = true → (opsMsk ρ (Op.call ⟨ca, args, ats⟩).operands.toList).testBit g = true := by
      intro g hg
      have : ∀ xs : List Operand, (∀ x ∈ xs, x ∈ (Op.call ⟨ca, args, ats⟩).operands.toList) → (opsMsk ρ xs).testBit g = true → (opsMsk ρ (Op.call ⟨ca, args, ats⟩).operands.toList).testBit g = true := by
        intro xs
        induction xs with
        | nil => intro _ hh; simp [opsMsk] at hh
        | cons x r ih =>
          intro hx hh
          simp only [opsMsk, lor_test, Bool.or_eq_true] at hh
          rcases hh with hh | hh
          · exact opsMsk_test (hx x List.mem_cons_self) hh
          · exact ih (fun y hy => hx y (List.mem_cons_of_mem _ hy)) hh
      exact this _ hA hg
    have hs2 : Sees2 mem mem' (argsAV ρ args.toList) := fun g hg => h2 g (close_mono (by rw [argsMsk]; exact hargs) g hg)
    simp only [opK] at *
    rw [← args_cong ha]
    cases ca with
    | value x =>
      have hx : ρ x = ρ' x := h1 x (by simp [Op.operands, Call.operands])
      have hxm : ∀ g, (ρ x).msk.testBit g = true → (opsMsk ρ (Op.call ⟨.value x, args, ats⟩).operands.toList).testBit g = true := fun g hg => opsMsk_test (x := x) (by simp [Op.operands, Call.operands]) hg
      have clo : ∀ {f : Nat} {caps : AV}, ρ x = .clo f caps → (appK (argsAV ρ args.toList) caps fun args => callK C nm mem f args k) → appK (argsAV ρ args.toList) caps fun args => callK C nm mem' f args k := by
        intro f caps e hh
        obtain ⟨z, k1, k2⟩ := appMsk _ _ (fun z => callK C nm mem f z k ∧ ∀ q : AV → Prop, q z → appK (argsAV ρ args.toList) caps q) (by
          obtain ⟨z, k1, k2⟩ := det_app _ _ _ hh
          exact k2 _ ⟨k1, k2⟩)
        refine k1.2 _ ?_
        have hz : Sees2 mem mem' z := fun g hg => h2 g (close_mono (fun g hg => by
          rw [k2, lor_test, Bool.or_eq_true] at hg
          rcases hg with hg | hg
          · rw [argsMsk] at hg; exact hargs g hg
          · exact hxm g (by rw [e]; exact hg)) g hg)
        rw [← call_cong hz]
        exact k1.1
      cases x with
      | func f => simp only at h ⊢; rw [← call_cong hs2]; exact h
      | _ =>
        simp only at h ⊢
        rw [← hx]
        split at h
        · rename_i f caps e; exact clo e h
        · exact h
        · exact h.elim
    | builtin b =>
      simp only at h ⊢
      have e : args.toList.map ρ' = args.toList.map ρ := List.map_congr_left fun x hx => (ha x hx).symm
      rw [e]
      have hsa : ∀ y ∈ args.toList.map ρ, Sees mem mem' y := fun y hy => by
        obtain ⟨x, hx, rfl⟩ := List.mem_map.1 hy
        exact hs x (hA x hx)
      generalize args.toList.map ρ = l at h hsa ⊢
      unfold builtinK at *
      split at h
      · rename_i x
        simp only [len_cong (hsa x (by simp))] at h
        exact h
      · rename_i x y
        simp only [append_cong (hsa x (by simp)) (hsa y (by simp))] at h
        exact h
      · exact h
      · exact h
      · exact h.elim
    | _ => exact h.elim
  | _ => exact h.elim

end Eng

/- Operations that leave each other alone may change places. No condition. -/
set_option linter.unusedVariables false
set_option linter.unusedSimpArgs false
namespace Eng
open Go Go.RowKit

theorem or_false_l {a b : Bool} (h : (a || b) = false) : a = false := by cases a <;> simp_all
theorem or_false_r {a b : Bool} (h : (a || b) = false) : b = false := by cases a <;> simp_all
theorem subst_id {g : Nat} {d : AV} {v : AV} (h : v.msk.testBit g = false) : AV.subst g d v = v := by
  induction v with
  | own x =>
    simp only [AV.msk, bit_test, decide_eq_false_iff_not] at h
    simp only [AV.subst]
    cases hb : Nat.beq x g with
    | true => exact absurd (Nat.eq_of_beq_eq_true hb) h
    | false => rfl
  | optr x t i off =>
    simp only [AV.msk, bit_test, decide_eq_false_iff_not] at h
    simp only [AV.subst]
    cases hb : Nat.beq x g with
    | true => exact absurd (Nat.eq_of_beq_eq_true hb) h
    | false => rfl
  | imm cs off ih => simp only [AV.subst]; rw [ih h]
  | clo f c ih => simp only [AV.subst]; rw [ih h]
  | agg c ih => simp only [AV.subst]; rw [ih h]
  | tup c ih => simp only [AV.subst]; rw [ih h]
  | cons a b iha ihb =>
    simp only [AV.msk, lor_test] at h
    simp only [AV.subst]; rw [iha (or_false_l h), ihb (or_false_r h)]
  | _ => rfl
theorem substObj_id {g : Nat} {d : AV} {o : AObj} (h : o.msk.testBit g = false) : substObj g d o = o := by
  cases o <;> simp only [substObj]
  case box ty cs => rw [subst_id h]
theorem subst_comm {g g' : Nat} {d d' : AV} (hne : g ≠ g') (hd : AV.subst g' d' d = d) (hd' : AV.subst g d d' = d') (v : AV) : AV.subst g d (AV.subst g' d' v) = AV.subst g' d' (AV.subst g d v) := by
  have key : ∀ x : Nat, (Nat.beq x g = true → Nat.beq x g' = false) := fun x h => by
    cases hb : Nat.beq x g' with
    | false => rfl
    | true => exact absurd ((Nat.eq_of_beq_eq_true h).symm.trans (Nat.eq_of_beq_eq_true hb)) hne
  induction v with
  | own x =>
    simp only [AV.subst]
    cases h1 : Nat.beq x g with
    | true => simp only [key x h1, AV.subst, h1, hd]
    | false =>
      cases h2 : Nat.beq x g' with
      | true => simp only [AV.subst, h2, hd']
      | false => simp only [AV.subst, h1, h2]
  | optr x t i off =>
    simp only [AV.subst]
    cases h1 : Nat.beq x g with
    | true => simp only [key x h1, AV.subst, h1]
    | false =>
      cases h2 : Nat.beq x g' with
      | true => simp only [AV.subst, h2]
      | false => simp only [AV.subst, h1, h2]
  | imm cs off ih => simp only [AV.subst, ih]
  | clo f c ih => simp only [AV.subst, ih]
  | agg c ih => simp only [AV.subst, ih]
  | tup c ih => simp only [AV.subst, ih]
  | cons a b iha ihb => simp only [AV.subst, iha, ihb]
  | _ => rfl

/-! ### A state as two functions -/
structure FS where
  g : Nat → AV
  m : Nat → AObj
def fs (s : St) : FS := ⟨s.get, memNth s.mem⟩
def Eff.sub : Eff → AV → AV
  | .upd g _ k, v => match k with
    | true => AV.subst g .any v
    | false => v
  | .freeze g t l, v => AV.subst g (.dat t l) v
  | _, v => v
def Eff.subO : Eff → AObj → AObj
  | .upd g _ k, v => match k with
    | true => substObj g .any v
    | false => v
  | .freeze g t l, v => substObj g (.dat t l) v
  | _, v => v
def Eff.wO (nm : Nat) (j : Nat) : Eff → Option AObj
  | .none => Option.none
  | .new o => if j = nm then some o else Option.none
  | .upd g o _ => if j = g then some o else Option.none
  | .freeze g _ _ => if j = g then some .dead else Option.none
def step (d : Option Nat) (nm : Nat) (v : AV) (e : Eff) (f : FS) : FS := ⟨fun i => if d = some i then v else e.sub (f.g i), fun j => match e.wO nm j with
  | some o => o
  | none => e.subO (f.m j)⟩
def Info.app (I : Info) (f : FS) : FS := step I.o.dst I.nm I.v I.e f

theorem Eff.wO_wr {e : Eff} {nm j : Nat} {o : AObj} (h : e.wO nm j = some o) : (e.wr nm).testBit j = true ∧ (∀ g, e.om.testBit g = false → o.msk.testBit g = false) := by
  cases e with
  | none => cases h
  | new o' =>
    simp only [Eff.wO] at h
    split at h
    · rename_i e; subst e; obtain rfl := Option.some.inj h; exact ⟨by simp [Eff.wr, bit_test], fun _ h => h⟩
    · cases h
  | upd g o' k =>
    simp only [Eff.wO] at h
    split at h
    · rename_i e; subst e; obtain rfl := Option.some.inj h; exact ⟨by simp [Eff.wr, bit_test], fun _ h => h⟩
    · cases h
  | freeze g t l =>
    simp only [Eff.wO] at h
    split at h
    · rename_i e; subst e; obtain rfl := Option.some.inj h; exact ⟨by simp [Eff.wr, bit_test], fun _ _ => by simp [AObj.msk]⟩
    · cases h
theorem Eff.sub_id {e : Eff} {nm : Nat} {v : AV} (h : e.ks = true → ∀ g, (e.wr nm).testBit g = true → v.msk.testBit g = false) : e.sub v = v := by
  cases e with
  | none => rfl
  | new o => rfl
  | upd g o k =>
    cases k with
    | false => rfl
    | true => exact subst_id (h rfl g (by simp [Eff.wr, bit_test]))
  | freeze g t l => exact subst_id (h rfl g (by simp [Eff.wr, bit_test]))
theorem Eff.subO_id {e : Eff} {nm : Nat} {v : AObj} (h : e.ks = true → ∀ g, (e.wr nm).testBit g = true → v.msk.testBit g = false) : e.subO v = v := by
  cases e with
  | none => rfl
  | new o => rfl
  | upd g o k =>
    cases k with
    | false => rfl
    | true => exact substObj_id (h rfl g (by simp [Eff.wr, bit_test]))
  | freeze g t l => exact substObj_id (h rfl g (by simp [Eff.wr, bit_test]))
/-- What an effect puts out of use. -/
def Eff.pair : Eff → Option (Nat × AV)
  | .upd g _ k => match k with
    | true => some (g, .any)
    | false => Option.none
  | .freeze g t l => some (g, .dat t l)
  | _ => Option.none
theorem Eff.sub_pair (e : Eff) (v : AV) : e.sub v = match e.pair with
    | some (g, d) => AV.subst g d v
    | Option.none => v := by
  cases e with
  | upd g o k => cases k <;> rfl
  | _ => rfl
theorem Eff.subO_pair (e : Eff) (v : AObj) : e.subO v = match e.pair with
    | some (g, d) => substObj g d v
    | Option.none => v := by
  cases e with
  | upd g o k => cases k <;> rfl
  | _ => rfl
theorem Eff.pair_wr {e : Eff} {g : Nat} {d : AV} (h : e.pair = some (g, d)) (nm : Nat) : (e.wr nm).testBit g = true ∧ ∀ x y, AV.subst x y d = d := by
  cases e with
  | none => cases h
  | new o => cases h
  | upd x o k =>
    cases k with
    | false => cases h
    | true => simp only [Eff.pair, Option.some.injEq, Prod.mk.injEq] at h; obtain ⟨rfl, rfl⟩ := h; exact ⟨by simp [Eff.wr, bit_test], fun _ _ => rfl⟩
  | freeze x t l => simp only [Eff.pair, Option.some.injEq, Prod.mk.injEq] at h; obtain ⟨rfl, rfl⟩ := h; exact ⟨by simp [Eff.wr, bit_test], fun _ _ => rfl⟩
theorem Eff.sub_comm {e e' : Eff} {nm nm' : Nat} (h : ∀ g, (e.wr nm).testBit g = true → (e'.wr nm').testBit g = false) (v : AV) : e.sub (e'.sub v) = e'.sub (e.sub v) := by
  simp only [Eff.sub_pair]
  cases hp : e.pair with
  | none => rfl
  | some p =>
    obtain ⟨g, d⟩ := p
    cases hp' : e'.pair with
    | none => rfl
    | some p' =>
      obtain ⟨g', d'⟩ := p'
      obtain ⟨a1, a2⟩ := Eff.pair_wr hp nm
      obtain ⟨b1, b2⟩ := Eff.pair_wr hp' nm'
      exact subst_comm (fun e => by subst e; rw [h g a1] at b1; cases b1) (a2 _ _) (b2 _ _) v
theorem Eff.subO_comm {e e' : Eff} {nm nm' : Nat} (h : ∀ g, (e.wr nm).testBit g = true → (e'.wr nm').testBit g = false) (v : AObj) : e.subO (e'.subO v) = e'.subO (e.subO v) := by
  cases v with
  | box ty c =>
    have := Eff.sub_comm h c
    simp only [Eff.subO_pair]
    simp only [Eff.sub_pair] at this
    cases hp : e.pair with
    | none => rfl
    | some p =>
      cases hp' : e'.pair with
      | none => rfl
      | some p' => rw [hp, hp'] at this; simp only [substObj]; exact congrArg _ this
  | _ =>
    simp only [Eff.subO_pair]
    cases e.pair <;> cases e'.pair <;> rfl

theorem app_comm {I J : Info} (hd : ∀ i, I.o.dst = some i → J.o.dst ≠ some i) (hW : ∀ g, I.W.testBit g = true → J.W.testBit g = false) (h1 : ∀ g, I.W.testBit g = true → J.V.testBit g = false) (h2 : ∀ g, J.W.testBit g = true → I.V.testBit g = false) (f : FS) :
    I.app (J.app f) = J.app (I.app f) := by
  have h1v : ∀ g, I.W.testBit g = true → J.v.msk.testBit g = false := fun g hg => by have := h1 g hg; unfold Info.V at this; rw [lor_test] at this; exact or_false_l this
  have h1o : ∀ g, I.W.testBit g = true → J.e.om.testBit g = false := fun g hg => by have := h1 g hg; unfold Info.V at this; rw [lor_test] at this; exact or_false_r this
  have h2v : ∀ g, J.W.testBit g = true → I.v.msk.testBit g = false := fun g hg => by have := h2 g hg; unfold Info.V at this; rw [lor_test] at this; exact or_false_l this
  have h2o : ∀ g, J.W.testBit g = true → I.e.om.testBit g = false := fun g hg => by have := h2 g hg; unfold Info.V at this; rw [lor_test] at this; exact or_false_r this
  unfold Info.app step
  refine congr (congrArg FS.mk (funext fun i => ?_)) (funext fun j => ?_)
  · simp only
    by_cases hi : I.o.dst = some i
    · have hj := hd i hi
      rw [if_pos hi, if_neg hj, if_pos hi]
      exact (Eff.sub_id (nm := J.nm) fun _ g hg => h2v g hg).symm
    · rw [if_neg hi]
      by_cases hj : J.o.dst = some i
      · rw [if_pos hj, if_pos hj]
        exact Eff.sub_id (nm := I.nm) fun _ g hg => h1v g hg
      · rw [if_neg hj, if_neg hj, if_neg hi]
        exact Eff.sub_comm (nm := I.nm) (nm' := J.nm) hW _
  · simp only
    cases hi : I.e.wO I.nm j with
    | some o =>
      obtain ⟨a1, a2⟩ := Eff.wO_wr hi
      cases hj : J.e.wO J.nm j with
      | some o' =>
        obtain ⟨b1, _⟩ := Eff.wO_wr hj
        have := hW j a1
        unfold Info.W at this
        rw [this] at b1; cases b1
      | none => exact (Eff.subO_id (nm := J.nm) fun _ g hg => a2 g (h2o g hg)).symm
    | none =>
      cases hj : J.e.wO J.nm j with
      | some o' =>
        obtain ⟨b1, b2⟩ := Eff.wO_wr hj
        exact Eff.subO_id (nm := I.nm) fun _ g hg => b2 g (h1o g hg)
      | none => exact Eff.subO_comm (nm := I.nm) (nm' := J.nm) hW _

theorem fs_step {s : St} {d : Option Nat} {v : AV} {nm : Nat} {e : Eff} (h : e.inb nm s.mem.length = true) : fs (putS d v (effS s nm e)) = step d nm v e (fs s) ∧ (putS d v (effS s nm e)).mem.length = s.mem.length := by
  have hput : ∀ s' : St, fs (putS d v s') = ⟨fun i => if d = some i then v else s'.get i, memNth s'.mem⟩ ∧ (putS d v s').mem.length = s'.mem.length := by
    intro s'
    obtain ⟨ov, base, mem⟩ := s'
    cases d with
    | none => exact ⟨by simp [fs, putS], rfl⟩
    | some t =>
      refine ⟨?_, rfl⟩
      unfold fs putS
      refine congr (congrArg FS.mk (funext fun i => ?_)) rfl
      simp only [St.get, look, Option.some.injEq]
      by_cases hi : t = i
      · subst hi; simp
      · have : Nat.beq t i = false := by cases hb : Nat.beq t i with | false => rfl | true => exact absurd (Nat.eq_of_beq_eq_true hb) hi
        rw [this, if_neg hi]
  obtain ⟨e1, e2⟩ := hput (effS s nm e)
  rw [e1, e2]
  have lt : ∀ {a b : Nat}, Nat.blt a b = true → a < b := fun {a b} h => Nat.lt_of_succ_le (by simpa [Nat.blt] using h)
  cases e with
  | none => exact ⟨rfl, rfl⟩
  | new o =>
    replace h : nm < s.mem.length := lt h
    refine ⟨?_, memSet_length _ _ _ h⟩
    refine congr (congrArg FS.mk rfl) (funext fun j => ?_)
    simp only [effS, memNth_set _ _ _ _ h, Eff.wO, Eff.subO, fs]
    by_cases hj : j = nm <;> simp [hj]
  | upd g o k =>
    replace h : g < s.mem.length := lt h
    cases k with
    | false =>
      refine ⟨?_, memSet_length _ _ _ h⟩
      refine congr (congrArg FS.mk rfl) (funext fun j => ?_)
      simp only [effS, memNth_set _ _ _ _ h, Eff.wO, Eff.subO, fs]
      by_cases hj : j = g <;> simp [hj]
    | true =>
      have h' : g < (substMem g .any s.mem).length := by rw [substMem_length]; exact h
      refine ⟨?_, by simp only [effS]; rw [memSet_length _ _ _ h', substMem_length]⟩
      refine congr (congrArg FS.mk (funext fun i => ?_)) (funext fun j => ?_)
      · simp only [effS, St.get, look_subst, Eff.sub, fs]
      · simp only [effS, memNth_set _ _ _ _ h', memNth_subst, Eff.wO, Eff.subO, fs]
        by_cases hj : j = g <;> simp [hj]
  | freeze g t l =>
    replace h : g < s.mem.length := lt h
    have h' : g < (substMem g (.dat t l) s.mem).length := by rw [substMem_length]; exact h
    refine ⟨?_, by simp only [effS]; rw [memSet_length _ _ _ h', substMem_length]⟩
    refine congr (congrArg FS.mk (funext fun i => ?_)) (funext fun j => ?_)
    · simp only [effS, St.get, look_subst, Eff.sub, fs]
    · simp only [effS, memNth_set _ _ _ _ h', memNth_subst, Eff.wO, Eff.subO, fs]
      by_cases hj : j = g <;> simp [hj]

end Eng

/- A region that draws its order comes to the same in every order, where the check says so. No condition. -/
set_option linter.unusedVariables false
set_option linter.unusedSimpArgs false
namespace Eng
open Go Go.RowKit

/-! ### What the check says -/
structure POk (all : List Oper) (lt : Bool) (n j : Info) : Prop where
  T : ∀ i, n.D.testBit i = true → (j.T all).testBit i = false
  D : ∀ i, n.D.testBit i = true → j.D.testBit i = false
  X : ∀ g, n.W.testBit g = true → (j.X all).testBit g = false
  W : ∀ g, n.W.testBit g = true → j.W.testBit g = false
  V : ∀ g, n.W.testBit g = true → j.V.testBit g = false
  C : lt = true → n.e.ks = true → ∀ g, n.W.testBit g = true → (rdMsk all j.o n.s).testBit g = false ∧ (memMsk (j.R all) n.s.mem 0).testBit g = false
theorem pairOk_ok {all : List Oper} {lt : Bool} {n j : Info} (h : pairOk all lt n j = true) : POk all lt n j := by
  unfold pairOk at h
  split at h
  · rename_i h1 h2 h3
    have z : ∀ g, n.W.testBit g = true → False := fun g hg => by
      have h3 : n.W = 0 := h3
      rw [h3, Nat.zero_testBit] at hg; cases hg
    exact ⟨off_test h1, off_test h2, fun g hg => (z g hg).elim, fun g hg => (z g hg).elim, fun g hg => (z g hg).elim, fun _ _ g hg => (z g hg).elim⟩
  · rename_i w h1 h2 h3
    have h3 : n.W = w + 1 := h3
    rw [← h3] at h
    split at h
    · rename_i k1 k2 k3
      refine ⟨off_test h1, off_test h2, off_test k1, off_test k2, off_test k3, fun hl hk g hg => ?_⟩
      rw [hl, hk] at h
      simp only at h
      split at h
      · rename_i q1 q2; exact ⟨off_test q1 g hg, off_test q2 g hg⟩
      · cases h
    · cases h
  · cases h

theorem rowOk_ok {all : List Oper} {A : Nat} {j : Info} : ∀ {l : List Info} {i : Nat}, rowOk all A j l i = true → ∀ k n, l[k]? = some n → A.testBit (i + k) = true ∨ (POk all true n j ∧ POk all false j n)
  | [], _, _, k, n, hk => by simp at hk
  | x :: r, i, h, k, n, hk => by
    simp only [rowOk] at h
    cases k with
    | zero =>
      simp only [List.getElem?_cons_zero, Option.some.injEq] at hk
      subst hk
      split at h
      · rename_i h1; exact .inl h1
      · split at h
        · rename_i h2 h3; exact .inr ⟨pairOk_ok h2, pairOk_ok h3⟩
        · cases h
    | succ k =>
      have e : i + (k + 1) = i + 1 + k := by omega
      rw [e]
      simp only [List.getElem?_cons_succ] at hk
      split at h
      · exact rowOk_ok h k n hk
      · split at h
        · exact rowOk_ok h k n hk
        · cases h
theorem rowsOk_ok {all : List Oper} {T : List Nat} : ∀ {r pre : List Info}, rowsOk all T pre r pre.length = true → ∀ j J, r[j]? = some J → J.e.inb J.nm J.s.mem.length = true ∧
    ∀ k n, k < pre.length + j → (pre ++ r)[k]? = some n → (T.getD (pre.length + j) 0).testBit k = true ∨ (POk all true n J ∧ POk all false J n)
  | [], _, _, j, J, hj => by simp at hj
  | x :: r, pre, h, j, J, hj => by
    simp only [rowsOk] at h
    split at h
    · rename_i h1 h2
      cases j with
      | zero =>
        simp only [List.getElem?_cons_zero, Option.some.injEq] at hj
        subst hj
        refine ⟨h2, fun k n hk hn => ?_⟩
        rw [List.getElem?_append_left (by omega)] at hn
        have := rowOk_ok h1 k n hn
        rwa [Nat.zero_add] at this
      | succ j =>
        have h' : rowsOk all T (pre ++ [x]) r (pre ++ [x]).length = true := by simpa using h
        obtain ⟨a1, a2⟩ := rowsOk_ok h' j J (by simpa using hj)
        refine ⟨a1, fun k n hk hn => ?_⟩
        have := a2 k n (by simp; omega) (by simpa using hn)
        have e : (pre ++ [x]).length + j = pre.length + (j + 1) := by simp; omega
        rwa [e] at this
    · cases h

/-- What is closed under 'must come before'. -/
def Down (all : List Oper) (L : Nat → Bool) : Prop := ∀ j o, all[j]? = some o → L j = true → ∀ e ∈ o.after.toList, Region.binds .any e = true → L e.on = true
theorem predMsk_ok {T : List Nat} {i : Nat} : ∀ {l : List Edge}, (predMsk T l).testBit i = true → ∃ e ∈ l, Region.binds .any e = true ∧ (i = e.on ∨ (T.getD e.on 0).testBit i = true)
  | [], h => by simp [predMsk] at h
  | e :: r, h => by
    simp only [predMsk] at h
    split at h
    · rename_i hb
      simp only [lor_test, Bool.or_eq_true] at h
      rcases h with (h | h) | h
      · rw [bit_test] at h; exact ⟨e, List.mem_cons_self, hb, .inl (of_decide_eq_true h).symm⟩
      · exact ⟨e, List.mem_cons_self, hb, .inr h⟩
      · obtain ⟨e', h1, h2⟩ := predMsk_ok h; exact ⟨e', List.mem_cons_of_mem _ h1, h2⟩
    · obtain ⟨e', h1, h2⟩ := predMsk_ok h; exact ⟨e', List.mem_cons_of_mem _ h1, h2⟩
theorem ancs_ok {all : List Oper} {L : Nat → Bool} (hL : Down all L) : ∀ {r : List Oper} {T : List Nat}, (∀ j o, r[j]? = some o → all[T.length + j]? = some o) → (∀ j i, L j = true → (T.getD j 0).testBit i = true → L i = true) →
    ∀ j i, L j = true → ((ancs T r).getD j 0).testBit i = true → L i = true
  | [], T, _, hT, j, i, hj, h => hT j i hj h
  | o :: r, T, hr, hT, j, i, hj, h => by
    simp only [ancs] at h
    refine ancs_ok hL (T := T ++ [predMsk T o.after.toList]) (fun k o' hk => ?_) (fun k i' hk hi => ?_) j i hj h
    · have := hr (k + 1) o' (by simpa using hk)
      have e : (T ++ [predMsk T o.after.toList]).length + k = T.length + (k + 1) := by simp; omega
      rw [e]; exact this
    · rcases Nat.lt_or_ge k T.length with hlt | hge
      · rw [List.getD_eq_getElem?_getD, List.getElem?_append_left hlt, ← List.getD_eq_getElem?_getD] at hi
        exact hT k i' hk hi
      · rcases Nat.eq_or_lt_of_le hge with he | hgt
        · subst he
          rw [List.getD_eq_getElem?_getD, List.getElem?_append_right (Nat.le_refl _)] at hi
          simp only [Nat.sub_self, List.getElem?_cons_zero, Option.getD_some] at hi
          obtain ⟨e, h1, h2, h3⟩ := predMsk_ok hi
          have ho := hr 0 o rfl
          have hp := hL _ o ho hk e h1 h2
          rcases h3 with rfl | h3
          · exact hp
          · exact hT _ _ hp h3
        · rw [List.getD_eq_getElem?_getD, List.getElem?_eq_none (by simp; omega)] at hi
          simp at hi
theorem backOk_ok {all : List Oper} : ∀ {r : List Oper} {i : Nat}, backOk r i = true → ∀ j o, r[j]? = some o → ∀ e ∈ o.after.toList, Region.binds .any e = true → e.on < i + j
  | [], _, _, j, o, hj => by simp at hj
  | x :: r, i, h, j, o, hj => by
    simp only [backOk] at h
    split at h
    · rename_i h1
      cases j with
      | zero =>
        simp only [List.getElem?_cons_zero, Option.some.injEq] at hj
        subst hj
        intro e he hb
        have := List.all_eq_true.1 h1 e he
        rw [hb] at this
        have h2 : Nat.blt e.on i = true := by simpa using this
        exact Nat.lt_of_succ_le (by simpa [Nat.blt] using h2)
      | succ j =>
        intro e he hb
        have := backOk_ok (all := all) h j o (by simpa using hj) e he hb
        omega
    · cases h

/-! ### Some of the operations, in the order in which they stand -/
def stF (Tr : List Info) (L : Nat → Bool) (f : FS) : Nat → FS
  | 0 => f
  | n + 1 => match Tr[n]? with
    | some I => match L n with
      | true => I.app (stF Tr L f n)
      | false => stF Tr L f n
    | none => stF Tr L f n

section
variable {all : List Oper} {Tr : List Info} {f : FS}

/-- Two leave each other alone. -/
def Apart (all : List Oper) (Tr : List Info) (i j : Nat) : Prop := ∀ I J, Tr[i]? = some I → Tr[j]? = some J → POk all true I J ∧ POk all false J I

theorem Apart.comm {i j : Nat} (h : Apart all Tr i j) {I J : Info} (hi : Tr[i]? = some I) (hj : Tr[j]? = some J) (f : FS) : I.app (J.app f) = J.app (I.app f) := by
  obtain ⟨h1, h2⟩ := h I J hi hj
  refine app_comm (fun x hx hy => ?_) h1.W h1.V h2.V f
  have := h1.D x (by unfold Info.D dstMsk; rw [hx]; simp [bit_test])
  unfold Info.D dstMsk at this; rw [hy] at this; simp [bit_test] at this

def ins (L : Nat → Bool) (j : Nat) : Nat → Bool := fun n => if n = j then true else L n

theorem stF_ext {L L' : Nat → Bool} : ∀ {n : Nat}, (∀ k, k < n → L k = L' k) → stF Tr L f n = stF Tr L' f n
  | 0, _ => rfl
  | n + 1, h => by
    simp only [stF, stF_ext (n := n) fun k hk => h k (by omega), h n (by omega)]

/-- One more. -/
theorem stF_ins {L : Nat → Bool} {j : Nat} {J : Info} (hj : Tr[j]? = some J) (hL : L j = false) (hap : ∀ n, j < n → L n = true → Apart all Tr j n) : ∀ n, j < n → stF Tr (ins L j) f n = J.app (stF Tr L f n)
  | 0, h => by omega
  | n + 1, h => by
    rcases Nat.eq_or_lt_of_le (Nat.le_of_lt_succ h) with rfl | hlt
    · simp only [stF, hj, hL]
      have : ins L j j = true := by simp [ins]
      rw [this]
      simp only
      rw [stF_ext (L := ins L j) (L' := L) fun k hk => by simp [ins]; intro e; omega]
    · have ih := stF_ins hj hL hap n hlt
      have e : ins L j n = L n := by simp [ins]; intro e; omega
      simp only [stF, e]
      cases hI : Tr[n]? with
      | none => exact ih
      | some I =>
        simp only
        cases hl : L n with
        | false => exact ih
        | true => simp only; rw [ih]; exact (Apart.comm (hap n hlt hl) hj hI _).symm

theorem tmpMsk_test {x : Nat} : ∀ {l : List Operand}, .tmp x ∈ l → (tmpMsk l).testBit x = true
  | [], h => by cases h
  | .tmp t :: r, h => by
    simp only [tmpMsk, lor_test, Bool.or_eq_true]
    rcases List.mem_cons.1 h with h | h
    · injection h with h; subst h; exact .inl (by simp [bit_test])
    · exact .inr (tmpMsk_test h)
  | .const _ :: r, h => by
    simp only [tmpMsk]; rcases List.mem_cons.1 h with h | h
    · cases h
    · exact tmpMsk_test h
  | .global _ :: r, h => by
    simp only [tmpMsk]; rcases List.mem_cons.1 h with h | h
    · cases h
    · exact tmpMsk_test h
  | .func _ :: r, h => by
    simp only [tmpMsk]; rcases List.mem_cons.1 h with h | h
    · cases h
    · exact tmpMsk_test h

theorem rdMsk_ops {s : St} {o : Oper} {x : Nat} {g : Nat} (hx : .tmp x ∈ rdOps all o) (hg : (s.get x).msk.testBit g = true) : (rdMsk all o s).testBit g = true := by
  obtain ⟨ov, base, mem⟩ := s
  exact close_self (opsMsk_test hx hg)

/-- What one operation reads is the same, whoever of those that leave it alone has come up. -/
theorem agree {L : Nat → Bool} {j : Nat} {J : Info} {σ : Nat → St} (hj : Tr[j]? = some J) (hL : L j = false) (h1 : ∀ n, n < j → L n = false → Apart all Tr n j) (h2 : ∀ n, j < n → L n = true → Apart all Tr j n)
    (hσ : ∀ n, n ≤ Tr.length → fs (σ n) = stF Tr (fun _ => true) f n) (hσs : ∀ n I, Tr[n]? = some I → I.s = σ n) :
    ∀ n, n ≤ Tr.length → (∀ x, .tmp x ∈ rdOps all J.o → (stF Tr L f n).g x = (stF Tr (fun _ => true) f (min n j)).g x) ∧ (∀ h, (J.R all).testBit h = true → (stF Tr L f n).m h = (stF Tr (fun _ => true) f (min n j)).m h)
  | 0, _ => by simp [stF]
  | n + 1, hn => by
    obtain ⟨ih1, ih2⟩ := agree hj hL h1 h2 hσ hσs n (by omega)
    obtain ⟨I, hI⟩ : ∃ I, Tr[n]? = some I := ⟨Tr[n], List.getElem?_eq_getElem (by omega)⟩
    have hjl : j < Tr.length := (List.getElem?_eq_some_iff.1 hj).1
    rcases Nat.lt_trichotomy n j with hlt | rfl | hgt
    · have e1 : min (n + 1) j = n + 1 := by omega
      have e2 : min n j = n := by omega
      rw [e2] at ih1 ih2
      rw [e1]
      simp only [stF, hI]
      cases hl : L n with
      | true =>
        refine ⟨fun x hx => ?_, fun h hh => ?_⟩
        · simp only [Info.app, step]; rw [ih1 x hx]
        · simp only [Info.app, step]; rw [ih2 h hh]
      | false =>
        obtain ⟨p, _⟩ := h1 n hlt hl I J hI hj
        have hs : fs I.s = stF Tr (fun _ => true) f n := by rw [hσs n I hI]; exact hσ n (by omega)
        refine ⟨fun x hx => ?_, fun h hh => ?_⟩
        · rw [ih1 x hx]
          simp only [Info.app, step]
          have hnd : I.o.dst ≠ some x := fun e => by
            have := p.T x (by unfold Info.D dstMsk; rw [e]; simp [bit_test])
            have h2 : (J.T all).testBit x = true := tmpMsk_test hx
            rw [h2] at this; cases this
          rw [if_neg hnd]
          refine (Eff.sub_id (nm := I.nm) fun hk g hg => ?_).symm
          have hq := (p.C rfl hk g hg).1
          cases hb : ((stF Tr (fun _ => true) f n).g x).msk.testBit g with
          | false => rfl
          | true => rw [← hs] at hb; rw [rdMsk_ops (s := I.s) hx hb] at hq; cases hq
        · rw [ih2 h hh]
          simp only [Info.app, step]
          have hno : I.e.wO I.nm h = none := by
            cases hw : I.e.wO I.nm h with
            | none => rfl
            | some o =>
              have := p.X h (Eff.wO_wr hw).1
              have h2 : (J.X all).testBit h = true := close_self hh
              rw [h2] at this; cases this
          rw [hno]
          refine (Eff.subO_id (nm := I.nm) fun hk g hg => ?_).symm
          have hq := (p.C rfl hk g hg).2
          cases hb : ((stF Tr (fun _ => true) f n).m h).msk.testBit g with
          | false => rfl
          | true =>
            rw [← hs] at hb
            rw [memMsk_test (i := 0) (g := h) (by rw [Nat.zero_add]; exact hh) hb] at hq; cases hq
    · have e1 : min (n + 1) n = n := by omega
      have e2 : min n n = n := by omega
      rw [e2] at ih1 ih2
      rw [e1]
      simp only [stF, hI, hL]
      exact ⟨ih1, ih2⟩
    · have e1 : min (n + 1) j = j := by omega
      have e2 : min n j = j := by omega
      rw [e2] at ih1 ih2
      rw [e1]
      simp only [stF, hI]
      cases hl : L n with
      | false => exact ⟨ih1, ih2⟩
      | true =>
        obtain ⟨_, p⟩ := h2 n hgt hl J I hj hI
        have hs : fs J.s = stF Tr (fun _ => true) f j := by rw [hσs j J hj]; exact hσ j (by omega)
        refine ⟨fun x hx => ?_, fun h hh => ?_⟩
        · simp only [Info.app, step]
          have hnd : I.o.dst ≠ some x := fun e => by
            have := p.T x (by unfold Info.D dstMsk; rw [e]; simp [bit_test])
            have h2 : (J.T all).testBit x = true := tmpMsk_test hx
            rw [h2] at this; cases this
          rw [if_neg hnd, ih1 x hx]
          refine Eff.sub_id (nm := I.nm) fun hk g hg => ?_
          have hq := p.X g hg
          cases hb : ((stF Tr (fun _ => true) f j).g x).msk.testBit g with
          | false => rfl
          | true =>
            rw [← hs] at hb
            have h2 : (J.X all).testBit g = true := close_self (rdMsk_ops (s := J.s) hx hb)
            rw [h2] at hq; cases hq
        · simp only [Info.app, step]
          have hno : I.e.wO I.nm h = none := by
            cases hw : I.e.wO I.nm h with
            | none => rfl
            | some o =>
              have := p.X h (Eff.wO_wr hw).1
              have h2 : (J.X all).testBit h = true := close_self hh
              rw [h2] at this; cases this
          rw [hno]
          simp only
          rw [ih2 h hh]
          refine Eff.subO_id (nm := I.nm) fun hk g hg => ?_
          have hq := p.X g hg
          cases hb : ((stF Tr (fun _ => true) f j).m h).msk.testBit g with
          | false => rfl
          | true =>
            rw [← hs] at hb
            have h2 : (J.X all).testBit g = true := close_obj hh hb
            rw [h2] at hq; cases hq
end

end Eng

/- A region that draws its order: the condition that goes by the order in which the operations stand suffices. No condition. -/
set_option linter.unusedVariables false
set_option linter.unusedSimpArgs false
namespace Eng
open Go Go.RowKit

theorem d2_bind2 {h : (AV → Eff → Prop) → Prop} {f : AV → Eff → (AV → Eff → Prop) → Prop} (hh : D2 h) (hf : ∀ v e, D2 (f v e)) : D2 (fun k => h fun v e => f v e k) := fun k H => by
  obtain ⟨v, e, h1, h2⟩ := hh _ H
  obtain ⟨v', e', h3, h4⟩ := hf v e k h1
  exact ⟨v', e', h3, fun k' hk => h2 _ (h4 k' hk)⟩
theorem d2_splitB (g : Bool) (v : AV) (e : Eff) : D2 (fun k => splitB g v fun v' => k v' e) := by
  unfold splitB
  split
  · exact d2_pure _ _
  · split
    · exact d2_split (d2_pure _ _) (d2_pure _ _)
    · exact d2_pure _ _
theorem splitB_ok {P : Program} {m : View} {ρ : List Value} {g : Bool} {v : AV} {k : AV → Prop} {vs : List Value} (h : splitB g v k) (hv : v.ok P m ρ vs) : ∃ v', k v' ∧ v'.ok P m ρ vs := by
  unfold splitB at h
  split at h
  · exact ⟨_, h, hv⟩
  · split at h
    · rename_i b
      obtain rfl : vs = [.bool b] := hv
      cases b with
      | true => exact ⟨_, h.1 rfl, rfl⟩
      | false => exact ⟨_, h.2 rfl, rfl⟩
    · exact ⟨_, h, hv⟩

def BoolIs (v : AV) (b : Bool) : Prop := v = .lit (.bool b) ∨ (v = .tt ∧ b = true) ∨ (v = .ff ∧ b = false)
theorem BoolIs.ok {P : Program} {m : View} {ρ : List Value} {v : AV} {b : Bool} {u : Value} (h : BoolIs v b) (hv : v.ok P m ρ [u]) : u = .bool b := by
  rcases h with rfl | ⟨rfl, rfl⟩ | ⟨rfl, rfl⟩
  · exact (List.cons.inj hv).1
  · exact (List.cons.inj hv).1
  · exact (List.cons.inj hv).1
def Gd (all : List Oper) (s : St) (o : Oper) (run : Bool) : Prop := match o.guard with
  | none => run = true
  | some (j, want) => ∃ g d b, all[j]? = some g ∧ g.dst = some d ∧ BoolIs (s.get d) b ∧ run = (b == want)

/-- What became of the operation k. -/
def Stp (C : Ctx) (all : List Oper) (n0 k : Nat) (I : Info) : Prop := all[k]? = some I.o ∧ I.nm = n0 + k ∧
  ((Gd all I.s I.o true ∧ ∀ k' : AV → Eff → Prop, k' I.v I.e → opK C (I.o.dst.getD 0) I.nm I.o.op (evalO I.s.ov I.s.base) I.s.mem fun v e => splitB (isG all k) v fun v => k' v e) ∨
   (Gd all I.s I.o false ∧ I.v = .any ∧ I.e = .none))
def Info.next (I : Info) : St := putS I.o.dst I.v (effS I.s I.nm I.e)
def Chain (s0 : St) (Tr : List Info) (s : St) : Prop := ∃ σ : Nat → St, σ 0 = s0 ∧ σ Tr.length = s ∧ ∀ n I, Tr[n]? = some I → I.s = σ n ∧ σ (n + 1) = I.next
theorem Chain.snoc {s0 s : St} {tr : List Info} {I : Info} (h : Chain s0 tr s) (hs : I.s = s) : Chain s0 (tr ++ [I]) I.next := by
  obtain ⟨σ, h1, h2, h3⟩ := h
  refine ⟨fun n => if n ≤ tr.length then σ n else I.next, by simp [h1], by simp; intro h; omega, fun n J hJ => ?_⟩
  rcases Nat.lt_or_ge n tr.length with hlt | hge
  · rw [List.getElem?_append_left hlt] at hJ
    obtain ⟨a1, a2⟩ := h3 n J hJ
    simp only
    rw [if_pos (by omega), if_pos (by omega)]
    exact ⟨a1, a2⟩
  · rw [List.getElem?_append_right hge] at hJ
    have : n = tr.length := by
      rcases Nat.eq_or_lt_of_le hge with h | h
      · exact h.symm
      · rw [List.getElem?_eq_none (by simp; omega)] at hJ; cases hJ
    subst this
    simp only [Nat.sub_self, List.getElem?_cons_zero, Option.some.injEq] at hJ
    subst hJ
    simp only
    rw [if_pos (Nat.le_refl _), if_neg (by omega)]
    exact ⟨hs.trans h2.symm, rfl⟩

theorem testK_is {v : AV} {x y : Unit → Prop} (h : testK v x y) : (BoolIs v true ∧ x ()) ∨ (BoolIs v false ∧ y ()) := by
  unfold testK at h
  split at h
  · exact .inl ⟨.inr (.inl ⟨rfl, rfl⟩), h⟩
  · exact .inr ⟨.inr (.inr ⟨rfl, rfl⟩), h⟩
  · rename_i b
    cases b with
    | true => exact .inl ⟨.inl rfl, h.1 rfl⟩
    | false => exact .inr ⟨.inl rfl, h.2 rfl⟩
  · exact h.elim

theorem drawK_tr {C : Ctx} {all : List Oper} {n0 : Nat} {K : St → Prop} {s0 : St} : ∀ (r : List Oper) (i : Nat) (s : St) (tr : List Info), drawK C all n0 i r s tr K → tr.length = i → Chain s0 tr s → (∀ k I, tr[k]? = some I → Stp C all n0 k I) →
    (∀ k o, r[k]? = some o → all[i + k]? = some o) → i + r.length = all.length →
    ∃ Tr s', Tr.length = all.length ∧ chk all Tr = true ∧ Chain s0 Tr s' ∧ (∀ k I, Tr[k]? = some I → Stp C all n0 k I) ∧ K s'
  | [], i, s, tr, h, hl, hc, hst, hr, hn => by
    simp only [drawK] at h
    split at h
    · rename_i hk; exact ⟨tr, s, by simpa [hl] using hn, hk, hc, hst, h⟩
    · exact h.elim
  | o :: r, i, s, tr, h, hl, hc, hst, hr, hn => by
    obtain ⟨ov, base, mem⟩ := s
    have ho : all[i]? = some o := by simpa using hr 0 o rfl
    have hr' : ∀ k o', r[k]? = some o' → all[i + 1 + k]? = some o' := fun k o' hk => by
      have := hr (k + 1) o' (by simpa using hk)
      have e : i + 1 + k = i + (k + 1) := by omega
      rw [e]; exact this
    have hn' : i + 1 + r.length = all.length := by simp at hn; omega
    have more : ∀ I : Info, I.s = ⟨ov, base, mem⟩ → Stp C all n0 i I → drawK C all n0 (i + 1) r I.next (tr ++ [I]) K → ∃ Tr s', Tr.length = all.length ∧ chk all Tr = true ∧ Chain s0 Tr s' ∧ (∀ k I, Tr[k]? = some I → Stp C all n0 k I) ∧ K s' := by
      intro I hs hI hd
      refine drawK_tr r (i + 1) _ _ hd (by simp [hl]) (hc.snoc hs) (fun k J hJ => ?_) hr' hn'
      rcases Nat.lt_or_ge k tr.length with hlt | hge
      · rw [List.getElem?_append_left hlt] at hJ; exact hst k J hJ
      · rw [List.getElem?_append_right hge] at hJ
        have : k = tr.length := by
          rcases Nat.eq_or_lt_of_le hge with h | h
          · exact h.symm
          · rw [List.getElem?_eq_none (by simp; omega)] at hJ; cases hJ
        subst this
        simp only [Nat.sub_self, List.getElem?_cons_zero, Option.some.injEq] at hJ
        subst hJ
        rw [hl]; exact hI
    have run : Gd all ⟨ov, base, mem⟩ o true → (fNat (n0 + i) lits fun nm => opK C (o.dst.getD 0) nm o.op (evalO ov base) mem fun v e => splitB (isG all i) v fun v => fAVn C o.dst v fun v => effK ov base mem nm e fun s' => drawK C all n0 (i + 1) r (putS o.dst v s') (tr ++ [⟨o, nm, v, e, ⟨ov, base, mem⟩⟩]) K) →
        ∃ Tr s', Tr.length = all.length ∧ chk all Tr = true ∧ Chain s0 Tr s' ∧ (∀ k I, Tr[k]? = some I → Stp C all n0 k I) ∧ K s' := by
      intro hg h
      rw [fNat_eq] at h
      obtain ⟨v, e, k1, k2⟩ := d2_bind2 (d2_op C.one_all (o.dst.getD 0) (n0 + i) o.op (evalO ov base) mem) (fun v e => d2_splitB (isG all i) v e) (fun v e => fAVn C o.dst v fun v => effK ov base mem (n0 + i) e fun s' => drawK C all n0 (i + 1) r (putS o.dst v s') (tr ++ [⟨o, n0 + i, v, e, ⟨ov, base, mem⟩⟩]) K) h
      rw [fAVn_eq] at k1
      have k1 := (effK_eq ⟨ov, base, mem⟩ _ _ _).mp k1
      exact more ⟨o, n0 + i, v, e, ⟨ov, base, mem⟩⟩ rfl ⟨ho, rfl, .inl ⟨hg, k2⟩⟩ k1
    have skip : Gd all ⟨ov, base, mem⟩ o false → drawK C all n0 (i + 1) r (putS o.dst .any ⟨ov, base, mem⟩) (tr ++ [⟨o, n0 + i, .any, .none, ⟨ov, base, mem⟩⟩]) K →
        ∃ Tr s', Tr.length = all.length ∧ chk all Tr = true ∧ Chain s0 Tr s' ∧ (∀ k I, Tr[k]? = some I → Stp C all n0 k I) ∧ K s' :=
      fun hg h => more ⟨o, n0 + i, .any, .none, ⟨ov, base, mem⟩⟩ rfl ⟨ho, rfl, .inr ⟨hg, rfl, rfl⟩⟩ h
    simp only [drawK] at h
    cases hgd : o.guard with
    | none =>
      rw [hgd] at h
      exact run (by unfold Gd; rw [hgd]) h
    | some jw =>
      obtain ⟨j, want⟩ := jw
      rw [hgd] at h
      obtain ⟨og, h1, h⟩ := withSome_iff.1 h
      obtain ⟨d, h2, h⟩ := withSome_iff.1 h
      have gd : ∀ b, BoolIs (look ov d (base d)) b → Gd all ⟨ov, base, mem⟩ o (b == want) := fun b hb => by
        unfold Gd; rw [hgd]; exact ⟨og, d, b, h1, h2, hb, rfl⟩
      cases want with
      | true =>
        rcases testK_is h with ⟨a1, a2⟩ | ⟨a1, a2⟩
        · exact run (gd _ a1) a2
        · exact skip (gd _ a1) a2
      | false =>
        rcases testK_is h with ⟨a1, a2⟩ | ⟨a1, a2⟩
        · exact skip (gd _ a1) a2
        · exact run (gd _ a1) a2

theorem Rel.of_fs {P : Program} {w0 : Base} {m0 : View} {s s' : St} {m : View} {ρ : List Value} {a : Act} {w : World} (h : Rel P w0 m0 s m ρ a w) (he : fs s = fs s') (hl : s.mem.length = s'.mem.length) : Rel P w0 m0 s' m ρ a w := by
  have hg : s.get = s'.get := congrArg FS.g he
  have hm : memNth s.mem = memNth s'.mem := congrArg FS.m he
  refine ⟨fun i => ?_, h.len.trans hl, h.hdr, h.defers, fun g => ?_, fun g g' v v' b => ?_, h.view, h.ext, h.new, h.below, fun g v b => ?_, h.pins⟩
  · rw [← hg]; exact h.slots i
  · rw [← hm]; exact h.objs g
  · rw [← hm]; exact h.apart g g' v v' b
  · rw [← hm]; exact h.zone g v b

theorem padMem_eq : ∀ (l : List Oper) (mem : List AObj), padMem mem l = mem ++ List.replicate l.length .dead
  | [], mem => by simp [padMem]
  | _ :: r, mem => by simp [padMem, padMem_eq r, List.replicate_succ]
theorem memNth_pad (mem : List AObj) (n g : Nat) : memNth (mem ++ List.replicate n .dead) g = memNth mem g := by
  induction n generalizing mem with
  | zero => simp
  | succ n ih =>
    have e : mem ++ List.replicate (n + 1) AObj.dead = (mem ++ [.dead]) ++ List.replicate n .dead := by simp [List.replicate_succ]
    rw [e, ih, memNth_append]
    split
    · rename_i e; subst e; exact (memNth_ge _ _ (Nat.le_refl _)).symm
    · rfl
theorem Rel.pad {P : Program} {w0 : Base} {m0 : View} {s : St} {m : View} {ρ : List Value} {a : Act} {w : World} (h : Rel P w0 m0 s m ρ a w) (l : List Oper) : Rel P w0 m0 ⟨s.ov, s.base, padMem s.mem l⟩ m (ρ ++ List.replicate l.length (.bool false)) a w := by
  have hρ : ∀ (g : Nat) (u : Value), ρ[g]? = some u → isPad u = false → (ρ ++ List.replicate l.length (.bool false))[g]? = some u := fun g u hg _ => by
    rw [List.getElem?_append_left (List.getElem?_eq_some_iff.1 hg).1]; exact hg
  have hback : ∀ g u, (memNth s.mem g).live = true → (ρ ++ List.replicate l.length (.bool false))[g]? = some u → ρ[g]? = some u := fun g u hl hg => by
    rwa [List.getElem?_append_left (by rw [h.len]; exact lt_of_live hl)] at hg
  refine ⟨fun i => AV.ok_le (View.le_refl m) hρ (h.slots i), by simp [padMem_eq, h.len], fun v hv => ?_, h.defers, fun g => ?_, fun g g' v v' b hne hl hl' hv hv' => ?_, h.view, h.ext, h.new, h.below, fun g v b hl hv => ?_, fun g p hp hv => hρ _ _ (h.pins g p hp hv) (pin_pad hv)⟩
  · rcases List.mem_append.1 hv with hv | hv
    · exact h.hdr v hv
    · rw [(List.mem_replicate.1 hv).2]; rfl
  · simp only [padMem_eq, memNth_pad]
    cases hl : (memNth s.mem g).live with
    | false => exact objOk_dead hl
    | true =>
      refine (h.objs g).grow (View.le_refl m) hρ (fun u b hu hbu => ⟨rfl, ?_⟩)
      obtain ⟨v', k1, k2⟩ := (h.objs g).blk_lt hl
      rw [hu] at k1; obtain rfl := Option.some.inj k1
      exact (k2 b hbu).2.2
  · simp only [padMem_eq, memNth_pad] at hl hl'
    exact h.apart g g' v v' b hne hl hl' (hback g v hl hv) (hback g' v' hl' hv')
  · simp only [padMem_eq, memNth_pad] at hl
    exact h.zone g v b hl (hback g v hl hv)

/-- A frame: how many slots, and those that are never written. -/
structure Frm where
  size : Nat
  fix : List (Nat × Value)
def Frm.has (N : Frm) (a : Act) : Prop := a.tmps.size = N.size ∧ ∀ p ∈ N.fix, a.tmps.getD p.1 undef = p.2
def Frm.may (N : Frm) (d : Nat) : Prop := d < N.size ∧ ∀ p ∈ N.fix, p.1 ≠ d
theorem Frm.put {N : Frm} {a : Act} (h : N.has a) {d : Option Nat} {v : Value} (hd : ∀ i, d = some i → N.may i) : N.has (a.put d v) := by
  cases d with
  | none => exact h
  | some i =>
    refine ⟨by simp [Act.put, h.1], fun p hp => ?_⟩
    have hne := (hd i rfl).2 p hp
    have h2 : (a.put (some i) v).tmps.getD p.1 undef = a.tmps.getD p.1 undef := by simp [Act.put, Array.getD_eq_getD_getElem?, Array.getElem?_setIfInBounds, Ne.symm hne]
    rw [h2]; exact h.2 p hp

section
variable {P : Program} {w0 : Base} {m0 : View} {C : Ctx} {N : Frm}

theorem chain_fs {s0 s : St} {Tr : List Info} {σ : Nat → St} (h1 : σ 0 = s0) (h3 : ∀ (n : Nat) (I : Info), Tr[n]? = some I → I.s = σ n ∧ σ (n + 1) = I.next) (hb : ∀ (n : Nat) (I : Info), Tr[n]? = some I → I.e.inb I.nm I.s.mem.length = true) :
    ∀ n, n ≤ Tr.length → fs (σ n) = stF Tr (fun _ => true) (fs s0) n ∧ (σ n).mem.length = s0.mem.length
  | 0, _ => by rw [h1]; exact ⟨rfl, rfl⟩
  | n + 1, hn => by
    obtain ⟨ih1, ih2⟩ := chain_fs (s := s) h1 h3 hb n (by omega)
    have hI : Tr[n]? = some Tr[n] := List.getElem?_eq_getElem (by omega)
    obtain ⟨a1, a2⟩ := h3 n _ hI
    obtain ⟨b1, b2⟩ := fs_step (d := (Tr[n]).o.dst) (v := (Tr[n]).v) (hb n _ hI)
    rw [a2]
    refine ⟨?_, ?_⟩
    · show fs (putS _ _ _) = _
      rw [b1]
      simp only [stF, hI]
      rw [← ih1, ← a1]; rfl
    · show (putS _ _ _).mem.length = _
      rw [b2, a1, ih2]

/-- One operation that comes up, in whatever order. -/
structure DInv (P : Program) (w0 : Base) (m0 : View) (N : Frm) (all : Array Oper) (Tr : List Info) (s0 : St) (n0 : Nat) (l : Array Bool) (a : Act) (w : World) : Prop where
  good : ∃ s m ρ, fs s = stF Tr (fun i => l.getD i false) (fs s0) Tr.length ∧ s.mem.length = s0.mem.length ∧ N.has a ∧ Rel P w0 m0 s m ρ a w ∧ ∀ i, i < Tr.length → l.getD i false = false → ∃ b, ρ[n0 + i]? = some (.bool b)
  down : Down all.toList fun i => l.getD i false

theorem getD_ins {l : Array Bool} {i : Nat} (hi : i < l.size) : (fun k => (l.setIfInBounds i true).getD k false) = ins (fun k => l.getD k false) i := by
  funext k
  simp only [ins, Array.getD_eq_getD_getElem?, Array.getElem?_setIfInBounds]
  by_cases h : i = k
  · subst h; simp [hi]
  · rw [if_neg h, if_neg (fun e => h e.symm)]

theorem draw_step (hS : Sound P C) {all : Array Oper} {r : Option Nat} {n : Nat} {Q : Exit → Act → World → Prop} (hall : ∀ o ∈ all.toList, ∀ d, o.dst = some d → N.may d) {Tr : List Info} {s0 s' : St} {n0 : Nat} (hlen : Tr.length = all.toList.length) (hchk : chk all.toList Tr = true)
    (hch : Chain s0 Tr s') (hst : ∀ k I, Tr[k]? = some I → Stp C all.toList n0 k I) (hM : n0 + Tr.length ≤ s0.mem.length) {l : Array Bool} {a : Act} {w : World} {i : Nat} (hl : l.size = all.size) (hI : DInv P w0 m0 N all Tr s0 n0 l a w) (hi : i ∈ Region.ready .any all l) :
    wpOpIn (fz r) n P all Q i (DInv P w0 m0 N all Tr s0 n0 (l.setIfInBounds i true)) a w := by
  obtain ⟨hir, hun, hpre⟩ := Ls.ready_of hi
  have hiT : i < Tr.length := by rw [hlen]; simpa using hir
  obtain ⟨⟨s, m, ρ, hfs, hsl, haN, hr, hpads⟩, hdown⟩ := hI
  have hLi : l.getD i false = false := by
    have e : l.getD i true = l.getD i false := by simp [Array.getD, show i < l.size by omega]
    rw [← e]; exact hun
  -- the check
  unfold chk at hchk
  cases hbk : backOk all.toList 0 <;> rw [hbk] at hchk
  · cases hchk
  have hrows := rowsOk_ok (pre := []) hchk
  simp only [List.length_nil, Nat.zero_add, List.nil_append] at hrows
  have hinb : ∀ (k : Nat) (J : Info), Tr[k]? = some J → J.e.inb J.nm J.s.mem.length = true := fun k J hJ => (hrows k J hJ).1
  obtain ⟨σ, c1, c2, c3⟩ := hch
  have hσ := chain_fs (s := s') c1 c3 hinb
  obtain ⟨J, hJ⟩ : ∃ J, Tr[i]? = some J := ⟨Tr[i], List.getElem?_eq_getElem hiT⟩
  obtain ⟨ho, hnm, hout⟩ := hst i J hJ
  have hoi : all[i]? = some J.o := by simpa using ho
  -- who is apart
  let L : Nat → Bool := fun k => l.getD k false
  have hdown' : Down all.toList (ins L i) := by
    intro j o hj hLj e he hb
    by_cases hji : j = i
    · subst hji
      have : o = J.o := by rw [ho] at hj; exact (Option.some.inj hj).symm
      subst this
      have := hpre J.o hoi e (by simpa using he) hb
      show (if e.on = j then true else L e.on) = true
      split
      · rfl
      · exact this
    · have h2 : L j = true := by simpa [ins, hji] using hLj
      have := hdown j o hj h2 e he hb
      show (if e.on = i then true else L e.on) = true
      split
      · rfl
      · exact this
  have hanc : ∀ {L' : Nat → Bool}, Down all.toList L' → ∀ j k, L' j = true → ((ancs [] all.toList).getD j 0).testBit k = true → L' k = true := fun hd => ancs_ok hd (T := []) (fun j o h => by simpa using h) (fun j k _ h => by simp at h)
  have h1 : ∀ k, k < i → L k = false → Apart all.toList Tr k i := by
    intro k hk hLk A B hA hB
    rw [hJ] at hB; obtain rfl := Option.some.inj hB
    rcases (hrows i J hJ).2 k A hk hA with h | h
    · have := hanc hdown' i k (by simp [ins]) h
      have h2 : ins L i k = L k := by simp [ins]; intro e; omega
      rw [h2, hLk] at this; cases this
    · exact h
  have h2 : ∀ k, i < k → L k = true → Apart all.toList Tr i k := by
    intro k hk hLk A B hA hB
    rcases (hrows k B hB).2 i A hk hA with h | h
    · have := hanc hdown k i hLk h
      have h3 : L i = false := hLi
      rw [show l.getD i false = L i from rfl, h3] at this; cases this
    · exact h
  have hag := agree (f := fs s0) hJ (L := L) hLi h1 h2 (fun k hk => (hσ k hk).1) (fun k I hI => (c3 k I hI).1) Tr.length (Nat.le_refl _)
  have hmin : min Tr.length i = i := by omega
  rw [hmin] at hag
  have hJs : fs J.s = stF Tr (fun _ => true) (fs s0) i := by rw [(c3 i J hJ).1]; exact (hσ i (by omega)).1
  rw [← hJs, show stF Tr L (fs s0) Tr.length = fs s from hfs.symm] at hag
  obtain ⟨hg, hm⟩ := hag
  have hg : ∀ x, .tmp x ∈ rdOps all.toList J.o → s.get x = J.s.get x := hg
  have hm : ∀ h, (J.R all.toList).testBit h = true → memNth s.mem h = memNth J.s.mem h := hm
  have hJl : J.s.mem.length = s.mem.length := by rw [(c3 i J hJ).1, (hσ i (by omega)).2, hsl]
  have hops : ∀ x ∈ J.o.op.operands.toList, x ∈ rdOps all.toList J.o := by
    intro x hx
    unfold rdOps
    split
    · exact hx
    · split
      · split
        · exact List.mem_cons_of_mem _ hx
        · exact hx
      · exact hx
  -- the state behind it
  have fin : ∀ {m' : View} {ρ' : List Value} {v : Value} {w' : World}, Pads ρ ρ' J.nm → J.v.ok P m' ρ' [v] → Rel P w0 m0 (effS s J.nm J.e) m' ρ' a w' → DInv P w0 m0 N all Tr s0 n0 (l.setIfInBounds i true) (a.put J.o.dst v) w' := by
    intro m' ρ' v w' hp hv hr'
    obtain ⟨f1, f2⟩ := fs_step (s := s) (d := J.o.dst) (v := J.v) (nm := J.nm) (e := J.e) (by rw [← hJl]; exact hinb i J hJ)
    refine ⟨⟨putS J.o.dst J.v (effS s J.nm J.e), m', ρ', ?_, f2.trans hsl, ?_, ?_, ?_⟩, ?_⟩
    · rw [f1, getD_ins (by omega), stF_ins hJ hLi h2 _ hiT, hfs]; rfl
    · exact Frm.put haN (fun d hd => hall J.o (List.mem_of_getElem? ho) d hd)
    · exact hr'.put hv (fun d hd => by rw [haN.1]; exact (hall J.o (List.mem_of_getElem? ho) d hd).1)
    · intro k hk hLk
      have e := congrFun (getD_ins (l := l) (i := i) (by omega)) k
      rw [e] at hLk
      have hki : k ≠ i := fun e => by subst e; simp [ins] at hLk
      have hLk' : l.getD k false = false := by simpa [ins, hki] using hLk
      obtain ⟨b, hb⟩ := hpads k hk hLk'
      exact ⟨b, hp _ b (by rw [hnm]; omega) hb⟩
    · rw [getD_ins (by omega)]; exact hdown'
  -- the guard
  have hwant : ∀ b, Gd all.toList J.s J.o b → Region.wanted J.o (yielded all a.tmps) = b := by
    intro b hgd
    unfold Gd at hgd
    cases hq : J.o.guard with
    | none => rw [hq] at hgd; rw [hgd]; simp [Region.wanted, hq]
    | some jw =>
      obtain ⟨j, want⟩ := jw
      rw [hq] at hgd
      obtain ⟨og, d, c, g1, g2, g3, g4⟩ := hgd
      have hx : .tmp d ∈ rdOps all.toList J.o := by unfold rdOps; simp only [hq, g1, g2]; exact List.mem_cons_self
      rw [← hg d hx] at g3
      have hv := g3.ok (hr.slots d)
      have hy : yielded all a.tmps j = some c := by
        have h1' : all[j]? = some og := by simpa using g1
        have h3 : a.tmps[d]? = some (.bool c) := by
          rw [Array.getD_eq_getD_getElem?] at hv
          cases hq : a.tmps[d]? with
          | none => rw [hq] at hv; simp [undef] at hv
          | some v => rw [hq] at hv; simp at hv; rw [hv]
        simp [yielded, h1', g2, h3]
      rw [g4]
      simp [Region.wanted, hq, hy]
  unfold wpOpIn
  rw [hoi]
  simp only
  rcases hout with ⟨hgd, hop⟩ | ⟨hgd, e1, e2⟩
  · rw [hwant true hgd, if_pos rfl]
    have hop := hop (fun v e => v = J.v ∧ e = J.e) ⟨rfl, rfl⟩
    have hop' := op_cong (ρ' := evalO s.ov s.base) (mem' := s.mem) (fun x hx => by
      cases x with
      | tmp t => exact (hg t (hops _ hx)).symm
      | _ => rfl) (fun g hgm => (hm g (by
        obtain ⟨o', nm', v', e', ⟨ov, base, mem⟩⟩ := J
        exact close_mono (fun x hx => by
          have : ∀ xs : List Operand, (∀ y ∈ xs, y ∈ rdOps all.toList o') → (opsMsk (evalO ov base) xs).testBit x = true → (opsMsk (evalO ov base) (rdOps all.toList o')).testBit x = true := by
            intro xs
            induction xs with
            | nil => intro _ hh; simp [opsMsk] at hh
            | cons y ys ih =>
              intro hy hh
              simp only [opsMsk, lor_test, Bool.or_eq_true] at hh
              rcases hh with hh | hh
              · exact opsMsk_test (hy y List.mem_cons_self) hh
              · exact ih (fun z hz => hy z (List.mem_cons_of_mem _ hz)) hh
          exact this _ hops hx) g hgm)).symm) hop
    have hfree : Free s ρ J.nm := by
      obtain ⟨b, hb⟩ := hpads i hiT hLi
      refine .inr ⟨?_, b, ?_⟩
      · rw [hnm, hsl]; omega
      · rw [hnm]; exact hb
    obtain ⟨hd, hres⟩ := op_ok hS hr hfree hop'
    refine res_wp hres hd fun v w' ⟨av, e, m', ρ', k1, k2, k3, k4⟩ => ?_
    obtain ⟨av', ⟨q1, q2⟩, q3⟩ := splitB_ok k1 k3
    subst q1 q2
    exact fin k2 q3 k4
  · rw [hwant false hgd]
    rw [if_neg (by simp)]
    refine ⟨fun _ _ => trivial, ?_⟩
    refine fin (m' := m) (ρ' := ρ) (Pads.refl _ _) ?_ ?_
    · rw [e1]; exact ⟨undef, rfl⟩
    · rw [e2]; exact hr
end

end Eng

/- A loop over a function: the law, where the function says what it hands over. No condition. -/
set_option linter.unusedVariables false
set_option linter.unusedSimpArgs false
namespace Eng
open Go Go.RowKit

/-- How a body may end: 'W2': the world with the record busy. -/
def RPost (N : Nat) (D : Nat → Prop) (m mx : View) (W W2 : World) (I : (Nat → Prop) → World → Prop) (Ix : Code → (Nat → Prop) → World → Prop) (e : Exit) (W3 : World) : Prop :=
  Same (fun b => b < W.heap.size ∧ ¬ D b) W2 W3 ∧ W3.heap[N]? = W2.heap[N]? ∧ W3.heap[N + 1]? = W2.heap[N + 1]? ∧ m.on W3 ∧ match e with
    | .normal => ∃ D', (∀ b, D' b → D b ∨ W.heap.size ≤ b ∨ mx b ≠ none) ∧ I D' W3
    | .ret => ∃ D', (∀ b, D' b → D b ∨ W.heap.size ≤ b ∨ mx b ≠ none) ∧ Ix .ret D' W3
    | .exit id => ∃ D', (∀ b, D' b → D b ∨ W.heap.size ≤ b ∨ mx b ≠ none) ∧ Ix (.exit id) D' W3
    | _ => False

theorem range_law {P : Program} {gf : Nat} {lb : Array Value} {m : View} {α : Type} {args : α → View → List Value → Prop} {L : List α} {g : Operand} {ps : Array Tmp} {assign body : Code} {Q : Exit → Act → World → Prop} {a : Act} {w : World} {n : Nat}
    (hg : a.eval g = .func (.func gf) #[] lb) (hcall : Callable P gf) (hsay : ISays P gf lb m args L) (hlen : ∀ d mx vs, args d mx vs → vs.length = ps.size)
    (I : Nat → (Nat → Prop) → World → Prop) (Ix : Code → (Nat → Prop) → World → Prop)
    (hIs : ∀ k D W W', I k D W → Same D W W' → I k D W') (hIxs : ∀ c D W W', Ix c D W → Same D W W' → Ix c D W') (hIb : ∀ k D W, I k D W → (∀ b, D b → b < W.heap.size) ∧ ¬ D w.heap.size ∧ ¬ D (w.heap.size + 1)) (hIxb : ∀ c D W, Ix c D W → (∀ b, D b → b < W.heap.size) ∧ ¬ D w.heap.size ∧ ¬ D (w.heap.size + 1))
    (hm : m.on w) (D0 : Nat → Prop) (h0 : I 0 D0 w)
    (hround : ∀ (k : Nat) (D : Nat → Prop) (W : World) (d : α) (mx : View) (vs : List Value), I k D W → w.heap.size + 1 < W.heap.size → (∃ r, W.heap[w.heap.size + 1]? = some (.loop r)) → W.heap[w.heap.size]? = some (.deferred (some [])) → L[k]? = some d → mx.on W → (∀ b o, mx b = some o → (∃ c t f, o = .cells c t f) ∧ (m b = some o ∨ (w.heap.size ≤ b ∧ ¬ D b))) → args d mx vs →
      assign.wpIn (fz (some (w.heap.size + 1))) 0 P (Exit.then (fun a1 W1 => Kept D W W1 ∧ W1.heap[w.heap.size]? = W.heap[w.heap.size]? ∧ W1.heap[w.heap.size + 1]? = W.heap[w.heap.size + 1]? ∧
        ∀ o, body.wpIn (fz (some (w.heap.size + 1))) 0 P (fun e _ W3 => RPost w.heap.size D m mx W (W1.putObj (w.heap.size + 1) (.loop o)) (I (k + 1)) Ix e W3) a1 (W1.putObj (w.heap.size + 1) (.loop o))) (fun _ _ _ => False))
        { tmps := (ps.zip vs.toArray).foldl (fun t (p, v) => t.setIfInBounds p v) a.tmps, defers := [] } W)
    (hdone : ∀ D W, I L.length D W → W.heap[w.heap.size]? = some (.deferred (some [])) → Q .normal { a with defers := { target := .collected w.heap.size, args := #[] } :: a.defers } W)
    (hstop : ∀ c D W, Ix c D W → W.heap[w.heap.size]? = some (.deferred (some [])) → c.wpIn (fz none) n P Q { a with defers := { target := .collected w.heap.size, args := #[] } :: a.defers } W) :
    (Code.rangeFunc g ps assign body).wpIn (fz none) n P Q a w := by
  refine wpIn_rangeFunc ?_
  intro fn hfn
  obtain ⟨rec, hrec⟩ : ∃ rec : LoopState → Option Code → Loop, rec = fun st pe => { state := st, pending := pe, fn, tmps := a.tmps, params := ps, assign, body, defers := w.heap.size } := ⟨_, rfl⟩
  obtain ⟨W1, hW1⟩ : ∃ W1, (w.alloc (.deferred (some []))).alloc (.loop (rec .ready none)) = W1 := ⟨_, rfl⟩
  have hL1 : W1.heap[w.heap.size + 1]? = some (.loop (rec .ready none)) := by
    rw [← hW1]; have := World.alloc_heap_new (w.alloc (.deferred (some []))) (.loop (rec .ready none)); rwa [World.size_alloc] at this
  have hK1 : W1.heap[w.heap.size]? = some (.deferred (some [])) := by
    rw [← hW1]; exact (Below.heap_alloc _ _ _ (by simp)).trans (World.alloc_heap_new w _)
  have hB1 : Below w.heap.size w W1 := by
    rw [← hW1]; exact ((Below.refl _ w).alloc (Nat.le_refl _) _).alloc (by simp) _
  have hsz : W1.heap.size = w.heap.size + 2 := by rw [← hW1]; simp
  have hS1 : Same D0 w W1 := ⟨hB1.os, hB1.tape, hB1.output, hB1.size, fun b hb => hB1.block b ((hIb _ _ _ h0).1 b hb)⟩
  -- what the function is told of its caller
  let Dl : (Nat → Prop) → Nat → Prop := fun D b => D b ∨ b = w.heap.size ∨ b = w.heap.size + 1
  let J : Nat → (Nat → Prop) → World → Prop := fun k E W => ∃ D, (∀ b, E b ↔ Dl D b) ∧ I k D W ∧ W.heap[w.heap.size + 1]? = some (.loop (rec .ready none)) ∧ W.heap[w.heap.size]? = some (.deferred (some []))
  let Jx : (Nat → Prop) → World → Prop := fun E W => ∃ D c, (∀ b, E b ↔ Dl D b) ∧ Ix c D W ∧ W.heap[w.heap.size + 1]? = some (.loop (rec .done (some c))) ∧ W.heap[w.heap.size]? = some (.deferred (some []))
  have lt1 : ∀ {W : World} {o : Obj}, W.heap[w.heap.size + 1]? = some o → w.heap.size + 1 < W.heap.size := fun h => (Array.getElem?_eq_some_iff.1 h).1
  refine ⟨w.heap.size + 1, [{ target := .collected w.heap.size, args := #[] }], W1, { target := .fn (.func gf) lb, args := #[.func (.yield (w.heap.size + 1)) #[] #[]] }, W1, gf,
    #[.func (.yield (w.heap.size + 1)) #[] #[]] ++ lb, W1, ?_, ?_, (fun _ _ => trivial), ?_, (fun h => by cases h), ?_⟩
  · rw [← hW1, hrec]; exact run_enterLoop_outer _ _ _ _ _
  · simp only [resolve, hg]
    simp [go_sem]
  · have := enter_run hcall (#[.func (.yield (w.heap.size + 1)) #[] #[]] ++ lb) W1
    simpa [invoke, go_sem] using this
  · have hc := hsay (w.heap.size + 1) J Jx W1 (Dl D0) ?_ ?_ ?_ ?_ ?_ (View.on_below hm hB1) ⟨D0, fun _ => Iff.rfl, hIs _ _ _ _ h0 hS1, hL1, hK1⟩
    · have hc2 : CallsIn (fz none) (n - 1) P gf (#[.func (.yield (w.heap.size + 1)) #[] #[]] ++ lb) W1 _ := calls_fz (callsIn_wide.1 hc) none (n - 1)
      refine hc2.mono ?_
      rintro e W2 ⟨⟨v, rfl⟩, (⟨E, D, hE, hi, hl, hk⟩ | ⟨E, D, c, hE, hi, hl, hk⟩)⟩
      · refine ⟨none, _, by have := run_endLoop (P := P) hl (by rw [hrec]; simp); rw [hrec] at this; exact this, hdone D _ (hIs _ _ _ _ hi ?_) ((World.putObj_heap_other (by omega)).trans hk)⟩
        exact Same.of_grown (grownBy_putObj' _ _ _) (hIb _ _ _ hi).1 (fun r e => by cases e; exact (hIb _ _ _ hi).2.2)
      · refine ⟨some c, _, by have := run_endLoop (P := P) hl (by rw [hrec]; simp); rw [hrec] at this; exact this, hstop c D _ (hIxs _ _ _ _ hi ?_) ((World.putObj_heap_other (by omega)).trans hk)⟩
        refine ⟨rfl, rfl, rfl, by simp [World.putObj], fun b hb => World.putObj_heap_other (fun e => ?_)⟩
        subst e
        exact (hIxb _ _ _ hi).2.2 hb
    · rintro k E W W' ⟨D, hE, hi, hl, hk⟩ hs
      exact ⟨D, hE, hIs _ _ _ _ hi (hs.mono fun b hb => (hE b).2 (.inl hb)), (hs.block _ ((hE _).2 (.inr (.inr rfl)))).trans hl, (hs.block _ ((hE _).2 (.inr (.inl rfl)))).trans hk⟩
    · rintro E W W' ⟨D, c, hE, hi, hl, hk⟩ hs
      exact ⟨D, c, hE, hIxs _ _ _ _ hi (hs.mono fun b hb => (hE b).2 (.inl hb)), (hs.block _ ((hE _).2 (.inr (.inr rfl)))).trans hl, (hs.block _ ((hE _).2 (.inr (.inl rfl)))).trans hk⟩
    · rintro k E W ⟨D, hE, hi, hl, hk⟩ b hb
      have := lt1 hl
      rcases (hE b).1 hb with h | rfl | rfl
      · exact (hIb _ _ _ hi).1 b h
      · omega
      · omega
    · rintro E W ⟨D, c, hE, hi, hl, hk⟩ b hb
      have := lt1 hl
      rcases (hE b).1 hb with h | rfl | rfl
      · exact (hIxb _ _ _ hi).1 b h
      · omega
      · omega
    · -- one round
      rintro k E W d mx vs ⟨D, hE, hi, hl, hk⟩ hd hmx hmd hargs
      have hlt := lt1 hl
      have hy := run_yield (P := P) (args := vs.toArray) hl (by rw [hrec]; simpa using hlen d mx vs hargs)
      rw [hrec] at hy
      refine ⟨fn, _, assign, body, hy, roundIn_of_wpIn (F := Fence.wide) (n := 0) trivial ?_⟩
      have hr := hround k D W d mx vs hi hlt ⟨_, hl⟩ hk hd hmx (fun b o hb => ⟨(hmd b o hb).1, (hmd b o hb).2.imp id fun ⟨q1, q2⟩ => ⟨by omega, fun q => q2 ((hE b).2 (.inl q))⟩⟩) hargs
      refine wpIn_mono hr ?_
      intro e a1 W2 hp
      cases e with
      | normal =>
        obtain ⟨hkp, hd2, hl2, hbody⟩ := hp
        have hl2' := hl2.trans hl
        refine ⟨_, run_beginRound hl2' (by rw [hrec]), wpIn_mono (hbody { rec .ready none with state := .busy }) ?_⟩
        rintro e a3 W3 ⟨q1, q2, q3, q4, q5⟩
        have hlt2 := lt1 hl2'
        have hb3 : W3.heap[w.heap.size + 1]? = some (.loop { rec .ready none with state := .busy }) := q3.trans (World.putObj_heap_same hlt2)
        have hd3 : W3.heap[w.heap.size]? = some (.deferred (some [])) := q2.trans ((World.putObj_heap_other (by omega)).trans (hd2.trans hk))
        have hall : Kept E W W3 := by
          have k1 : Same (fun b => b < W.heap.size ∧ ¬ E b) W W2 := hkp.mono fun b ⟨x, y⟩ => ⟨x, fun hh => y ((hE b).2 (.inl hh))⟩
          refine ⟨(q1.os).trans k1.os, q1.tape.trans k1.tape, q1.output.trans k1.output, Nat.le_trans k1.size (by have := q1.size; simpa [World.putObj] using this), fun b hb => ?_⟩
          have hb1 := k1.block b hb
          obtain ⟨x, y⟩ := hb
          have hne : b ≠ w.heap.size + 1 := fun e => y ((hE b).2 (.inr (.inr e)))
          have hb2 : (W2.putObj (w.heap.size + 1) (.loop { rec .ready none with state := .busy })).heap[b]? = W.heap[b]? := (World.putObj_heap_other hne).trans hb1
          exact (q1.block b ⟨x, fun hh => y ((hE b).2 (.inl hh))⟩).trans hb2
        have fin : ∀ (jump : Option Code), (Instr.endRound (w.heap.size + 1) jump).run P W3 = .ok (.bool jump.isNone) (W3.putObj (w.heap.size + 1) (.loop (rec (if jump.isNone then .ready else .done) jump))) := fun jump => by
          have := run_endRound (P := P) jump hb3
          rw [hrec] at this ⊢
          exact this
        have hlt3 := lt1 hb3
        have kp : ∀ o, Kept E W (W3.putObj (w.heap.size + 1) o) := fun o => ⟨hall.os, hall.tape, hall.output, by have := hall.size; simp [World.putObj]; exact this, fun b hb => by
          have hne : b ≠ w.heap.size + 1 := fun e => hb.2 ((hE b).2 (.inr (.inr e)))
          exact (World.putObj_heap_other hne).trans (hall.block b hb)⟩
        have mon : ∀ o, m.on (W3.putObj (w.heap.size + 1) o) := fun o b ob hb => by
          have h1 := View.on_below hm hB1 b ob hb
          have hne : b ≠ w.heap.size + 1 := fun e => by
            have h2 := View.lt hm hb
            omega
          exact (World.putObj_heap_other hne).trans (q4 b ob hb)
        have sm : ∀ (D' : Nat → Prop) o, ¬ D' (w.heap.size + 1) → Same D' W3 (W3.putObj (w.heap.size + 1) o) := fun D' o hD => ⟨rfl, rfl, rfl, by simp [World.putObj], fun b hb => World.putObj_heap_other (fun e => hD (e ▸ hb))⟩
        have dd : ∀ o, (W3.putObj (w.heap.size + 1) o).heap[w.heap.size]? = some (.deferred (some [])) := fun o => (World.putObj_heap_other (by omega)).trans hd3
        have up : ∀ D' : Nat → Prop, (∀ b, D' b → D b ∨ W.heap.size ≤ b ∨ mx b ≠ none) → ∀ b, Dl D' b → E b ∨ W.heap.size ≤ b ∨ mx b ≠ none := fun D' hD' b hb => by
          rcases hb with h | h | h
          · rcases hD' b h with h | h | h
            · exact .inl ((hE b).2 (.inl h))
            · exact .inr (.inl h)
            · exact .inr (.inr h)
          · exact .inl ((hE b).2 (.inr (.inl h)))
          · exact .inl ((hE b).2 (.inr (.inr h)))
        cases e with
        | normal =>
          obtain ⟨D', hD', hi'⟩ := q5
          exact ⟨_, _, fin none, kp _, mon _, .inl ⟨rfl, Dl D', up D' hD', D', fun _ => Iff.rfl, hIs _ _ _ _ hi' (sm D' _ (hIb _ _ _ hi').2.2), World.putObj_heap_same hlt3, dd _⟩⟩
        | ret =>
          obtain ⟨D', hD', hi'⟩ := q5
          exact ⟨_, _, fin (some .ret), kp _, mon _, .inr ⟨rfl, Dl D', up D' hD', D', .ret, fun _ => Iff.rfl, hIxs _ _ _ _ hi' (sm D' _ (hIxb _ _ _ hi').2.2), World.putObj_heap_same hlt3, dd _⟩⟩
        | exit id =>
          obtain ⟨D', hD', hi'⟩ := q5
          exact ⟨_, _, fin (some (.exit id)), kp _, mon _, .inr ⟨rfl, Dl D', up D' hD', D', .exit id, fun _ => Iff.rfl, hIxs _ _ _ _ hi' (sm D' _ (hIxb _ _ _ hi').2.2), World.putObj_heap_same hlt3, dd _⟩⟩
        | goto t => exact q5.elim
        | panic ch => exact q5.elim
        | outgrown => exact q5.elim
      | _ => exact hp.elim
end Eng

/- A loop over a function: how abstract states come into its rounds, and out. No condition. -/
set_option linter.unusedVariables false
set_option linter.unusedSimpArgs false
namespace Eng
open Go Go.RowKit

def Cells (m : View) : Prop := ∀ b o, m b = some o → ∃ c t f, o = .cells c t f
theorem Cells.of {m : View} : Cells m.cells := fun b o h => View.cells_is h
theorem Cells.eq {m : View} (h : Cells m) : m.cells = m := by
  funext b
  unfold View.cells
  cases hb : m b with
  | none => rfl
  | some o => obtain ⟨c, t, f, rfl⟩ := h b o hb; rfl

/-- A block of the call's own. -/
def Own (mem : List AObj) (ρ : List Value) (b : Nat) : Prop := ∃ g v, (memNth mem g).live = true ∧ ρ[g]? = some v ∧ blk v = some b
def Marked (ds : List Deferred) (b : Nat) : Prop := ∃ d ∈ ds, d.target = .collected b
/-- What a state hangs on. -/
def Deps (w0 : Base) (m : View) (mem : List AObj) (ρ : List Value) (ds : List Deferred) (b : Nat) : Prop := m b ≠ none ∨ w0.F b ∨ Own mem ρ b ∨ Marked ds b

section
variable {P : Program} {w0 : Base} {m0 : View} {s : St} {m : View} {ρ : List Value} {a : Act} {w : World}

theorem Marks.get {Z : Base} {W : World} {ds : List Deferred} (h : Marks Z W ds) {b : Nat} (hb : Marked ds b) : Z.n ≤ b ∧ ¬ Z.F b ∧ W.heap[b]? = some (.deferred (some [])) := by
  induction ds with
  | nil => obtain ⟨d, hd, _⟩ := hb; cases hd
  | cons e ds ih =>
    obtain ⟨⟨D, h1, h2, h3, h4, _⟩, h5⟩ := h
    obtain ⟨d, hd, hb⟩ := hb
    rcases List.mem_cons.1 hd with rfl | hd
    · rw [h1] at hb; injection hb with hb; subst hb; exact ⟨h2, h3, h4⟩
    · exact ih h5 ⟨d, hd, hb⟩
theorem Rel.own (h : Rel P w0 m0 s m ρ a w) {b : Nat} (hb : Own s.mem ρ b) : w0.n ≤ b ∧ b < w.heap.size ∧ m b = none ∧ ¬ w0.F b ∧ ∃ c t f, w.heap[b]? = some (.cells c t f) := by
  obtain ⟨g, v, h1, h2, h3⟩ := hb
  obtain ⟨u, j1, j2⟩ := (h.objs g).blk_lt h1
  rw [h2] at j1; obtain rfl := Option.some.inj j1
  obtain ⟨u, i1, i2⟩ := (h.objs g).blk_cells h1
  rw [h2] at i1; obtain rfl := Option.some.inj i1
  exact ⟨(j2 b h3).1, (j2 b h3).2.1, (j2 b h3).2.2, h.zone g v b h1 h2 h3, i2 b h3⟩
theorem Rel.deps (h : Rel P w0 m0 s m ρ a w) {b : Nat} (hb : Deps w0 m s.mem ρ a.defers b) : b < w.heap.size := by
  rcases hb with hb | hb | hb | hb
  · cases hm : m b with
    | none => exact absurd hm hb
    | some o => exact View.lt h.view hm
  · exact Nat.lt_of_lt_of_le (h.below.kept b hb).1 h.below.grows
  · exact (h.own hb).2.1
  · exact (Array.getElem?_eq_some_iff.1 (h.defers.get hb).2.2).1

/-- The world goes on, and what the state hangs on is as it was. -/
theorem Rel.same {D : Nat → Prop} {w' : World} (h : Rel P w0 m0 s m ρ a w) (hs : Same D w w') (hd : ∀ b, Deps w0 m s.mem ρ a.defers b → D b) : Rel P w0 m0 s m ρ a w' := by
  have blkD : ∀ b, Deps w0 m s.mem ρ a.defers b → w'.heap[b]? = w.heap[b]? := fun b hb => hs.block b (hd b hb)
  refine ⟨h.slots, h.len, h.hdr, h.defers.turn fun D hD e => (blkD D (.inr (.inr (.inr hD)))).trans e, fun g => ?_, h.apart, fun b o hb => (blkD b (.inl (by rw [hb]; simp))).trans (h.view b o hb), h.ext, h.new, ?_, h.zone, h.pins⟩
  · cases hl : (memNth s.mem g).live with
    | false => exact objOk_dead hl
    | true =>
      refine (h.objs g).grow (View.le_refl m) (fun _ _ h _ => h) fun u b hu hb => ?_
      have ho : Own s.mem ρ b := ⟨g, u, hl, hu, hb⟩
      exact ⟨blkD b (.inr (.inr (.inl ho))), (h.own ho).2.2.1⟩
  · exact ⟨hs.os.trans h.below.os, hs.tape.trans h.below.tape, hs.output.trans h.below.output, Nat.le_trans h.below.grows hs.size, fun b hb => ⟨(h.below.kept b hb).1, (blkD b (.inr (.inl hb))).trans (h.below.kept b hb).2⟩⟩

/-- Other slots, another act. -/
theorem Rel.act (h : Rel P w0 m0 s m ρ a w) {ov : List (Nat × AV)} {base : Nat → AV} {a' : Act} (hsl : ∀ i, (St.get ⟨ov, base, s.mem⟩ i).ok P m ρ [a'.tmps.getD i undef]) (hds : Marks w0 w a'.defers) : Rel P w0 m0 ⟨ov, base, s.mem⟩ m ρ a' w :=
  ⟨hsl, h.len, h.hdr, hds, h.objs, h.apart, h.view, h.ext, h.new, h.below, h.zone, h.pins⟩

/-- What names no slice of the call's own lasts while boxes keep their places. -/
theorem strip_keep {m m' : View} {ρ ρ' : List Value} (hm : m.le m') (hp : ∀ (g : Nat) p, ρ[g]? = some (Value.pointer p) → ρ'[g]? = some (Value.pointer p)) {av : AV} : ∀ {vs : List Value}, av.strip.ok P m ρ vs → av.strip.ok P m' ρ' vs := by
  induction av with
  | any => intro vs k; exact k
  | lit v => intro vs k; exact k
  | tt => intro vs k; exact k
  | ff => intro vs k; exact k
  | dat t l => intro vs k; exact Rd.le hm k
  | own h => intro vs k; exact k
  | box h off => intro vs k; obtain ⟨b, k1, k2⟩ := k; exact ⟨b, hp _ _ k1, k2⟩
  | dptr t l i off => intro vs k; obtain ⟨h0, ad, cs, k1, k2, k3⟩ := k; exact ⟨h0, ad, cs, k1, Rd.le hm k2, fun j v hj => View.cell_le hm (k3 j v hj)⟩
  | optr h t i off => intro vs k; exact k
  | imm cs off ih => intro vs k; obtain ⟨ad, us, k1, k2, k3⟩ := k; exact ⟨ad, us, k1, ih k2, fun j v hj => View.cell_le hm (k3 j v hj)⟩
  | fn a r p f => intro vs k; obtain ⟨fv, k1, k2⟩ := k; exact ⟨fv, k1, k2.le hm.cle⟩
  | clo f caps ih => intro vs k; obtain ⟨cs, k1, k2⟩ := k; exact ⟨cs, k1, ih k2⟩
  | agg l ih => intro vs k; obtain ⟨cs, k1, k2⟩ := k; exact ⟨cs, k1, ih k2⟩
  | tup l ih => intro vs k; obtain ⟨cs, k1, k2⟩ := k; exact ⟨cs, k1, ih k2⟩
  | nil => intro vs k; exact k
  | cons a b iha ihb => intro vs k; obtain ⟨v, rest, k1, k2, k3⟩ := k; exact ⟨v, rest, k1, iha k2, ihb k3⟩

/-- The base of a round: all that is there but the call's own. -/
def rbase (n : Nat) (W : World) (mem : List AObj) (ρ : List Value) (ds : List Deferred) (R : List Value) (h : n ≤ W.heap.size) : Base := ⟨n, W, fun b => b < W.heap.size ∧ ¬ Own mem ρ b ∧ ¬ Marked ds b, h, R⟩
theorem Rel.enter (h : Rel P w0 m0 s m ρ a w) {m1 : View} {w' : World} (hg : w.heap.size ≤ w'.heap.size) (hle : m.le m1) (hon : m1.on w') (hown : ∀ b, Own s.mem ρ b → m1 b = none) {a' : Act} (ht : a'.tmps = a.tmps) (hds : ∀ b, Marked a'.defers b → Marked a.defers b) (hmk : Marks w0 w a'.defers)
    (hw : ∀ b, Own s.mem ρ b ∨ Marked a'.defers b → w'.heap[b]? = w.heap[b]?) (R : List Value) (hR : ∀ (g : Nat) v, R[g]? = some v → pinV v = true → ρ[g]? = some v) :
    Rel P (rbase w0.n w' s.mem ρ a'.defers R (Nat.le_trans h.below.size hg)) m1 s m1 ρ a' w' := by
  refine ⟨fun i => AV.ok_le hle (fun _ _ h _ => h) (by rw [ht]; exact h.slots i), h.len, h.hdr, ?_, fun g => ?_, h.apart, hon, View.le_refl m1, fun b o hb => .inl hb, ⟨rfl, rfl, rfl, Nat.le_refl _, fun b hb => ⟨hb.1, rfl⟩⟩, fun g v b h1 h2 h3 hF => hF.2.1 ⟨g, v, h1, h2, h3⟩, hR⟩
  · have key : ∀ ds : List Deferred, (∀ b, Marked ds b → Marked a'.defers b) → Marks w0 w ds → Marks (rbase w0.n w' s.mem ρ a'.defers R (Nat.le_trans h.below.size hg)) w' ds := by
      intro ds
      induction ds with
      | nil => intro _ _; trivial
      | cons d ds ih =>
        rintro hsub ⟨⟨D, h1, h2, h3, h4, h5⟩, h6⟩
        have hD : Marked a'.defers D := hsub D ⟨d, by simp, h1⟩
        exact ⟨⟨D, h1, h2, fun hF => hF.2.2 hD, (hw D (.inr hD)).trans h4, h5⟩, ih (fun b ⟨e, he, hb⟩ => hsub b ⟨e, by simp [he], hb⟩) h6⟩
    exact key _ (fun _ h => h) hmk
  · cases hl : (memNth s.mem g).live with
    | false => exact objOk_dead hl
    | true =>
      refine (h.objs g).grow hle (fun _ _ h _ => h) fun u b hu hb => ?_
      have ho : Own s.mem ρ b := ⟨g, u, hl, hu, hb⟩
      exact ⟨hw b (.inl ho), hown b ho⟩

/-- Back from a round. -/
theorem Rel.leave {Z : Base} {m2 m3 : View} {s3 : St} {ρ3 : List Value} {W3 : World} {L : Nat} (h : Rel P w0 m0 s m ρ a w) (h3 : Rel P Z m2 s3 m3 ρ3 { a with defers := [] } W3) (hz : Z.n = w0.n) (hnew : ∀ b, ¬ Z.F b → w.heap.size ≤ b ∨ Own s.mem ρ b)
    (hm2 : ∀ b o, m2 b = some o → m b = some o ∨ (w0.n ≤ b ∧ ¬ w0.F b)) (hext : m.le m2) (hS : Same (fun b => b < w.heap.size ∧ ¬ Own s.mem ρ b ∧ b ≠ L) w W3) (hL : ¬ Deps w0 m s.mem ρ a.defers L) (hpin : Z.ρ = ρ) : Rel P w0 m0 s3 m3 ρ3 a W3 := by
  have nF : ∀ b, ¬ Z.F b → ¬ w0.F b := fun b hb => by
    rcases hnew b hb with k | k
    · exact h.below.new k
    · exact (h.own k).2.2.2.1
  refine ⟨h3.slots, h3.len, h3.hdr, h.defers.turn fun D hD e => ?_, fun g => by rw [← hz]; exact h3.objs g, h3.apart, h3.view, View.le_trans h.ext (View.le_trans hext h3.ext), fun b o hb => ?_, ?_, fun g v b h1 h2 h4 => nF b (h3.zone g v b h1 h2 h4), fun g p hp hv => h3.pins g p (by rw [hpin]; exact h.pins g p hp hv) hv⟩
  · refine (hS.block D ⟨(Array.getElem?_eq_some_iff.1 e).1, fun ho => ?_, fun e => hL (e ▸ .inr (.inr (.inr hD)))⟩).trans e
    obtain ⟨c, t, f, hc⟩ := (h.own ho).2.2.2.2
    rw [e] at hc; cases hc
  · rcases h3.new b o hb with k | ⟨k1, k2⟩
    · rcases hm2 b o k with k | k
      · exact h.new b o k
      · exact .inr k
    · exact .inr ⟨by rw [← hz]; exact k1, nF b k2⟩
  · refine ⟨hS.os.trans h.below.os, hS.tape.trans h.below.tape, hS.output.trans h.below.output, Nat.le_trans h.below.grows hS.size, fun b hb => ⟨(h.below.kept b hb).1, (hS.block b ⟨?_, fun ho => ?_, fun e => ?_⟩).trans (h.below.kept b hb).2⟩⟩
    · exact Nat.lt_of_lt_of_le (h.below.kept b hb).1 h.below.grows
    · exact (h.own ho).2.2.2.1 hb
    · exact hL (e ▸ .inr (.inl hb))

theorem bindK_ok {N : Frm} {K : St → Prop} : ∀ (ps : List Nat) (v : AV) (vs : List Value) (s : St) (a : Act), N.has a → (∀ p ∈ ps, N.may p) → bindK ps v s K → Rel P w0 m0 s m ρ a w → v.ok P m ρ vs → ∃ s', K s' ∧ s'.mem = s.mem ∧ vs.length = ps.length ∧
    ∃ t, t = (ps.zip vs).foldl (fun t (p, v) => t.setIfInBounds p v) a.tmps ∧ N.has { a with tmps := t } ∧ Rel P w0 m0 s' m ρ { a with tmps := t } w
  | [], v, vs, s, a, hN, hp, h, hr, hv => by
    simp only [bindK] at h
    split at h
    · obtain rfl : vs = [] := hv
      exact ⟨s, h, rfl, rfl, _, rfl, hN, hr⟩
    · exact h.elim
  | p :: ps, v, vs, s, a, hN, hp, h, hr, hv => by
    simp only [bindK] at h
    split at h
    · rename_i x xs
      obtain ⟨u, us, rfl, h1, h2⟩ := hv
      obtain ⟨ov, base, mem⟩ := s
      simp only [fAV_eq] at h
      have hr2 : Rel P w0 m0 ⟨(p, x) :: ov, base, mem⟩ m ρ (a.put (some p) u) w := hr.put (d := some p) h1 (fun i e => by cases e; rw [hN.1]; exact (hp p (by simp)).1)
      obtain ⟨s', k1, k2, k3, t, k4, k5, k6⟩ := bindK_ok ps xs us ⟨(p, x) :: ov, base, mem⟩ (a.put (some p) u) (Frm.put hN fun i e => by cases e; exact hp p (by simp)) (fun q hq => hp q (by simp [hq])) h hr2 h2
      exact ⟨s', k1, k2, by simp [k3], t, k4, k5, k6⟩
    · exact h.elim
end
end Eng

/- Operations and regions over abstract values: the conditions suffice. No condition. -/
set_option linter.unusedVariables false
set_option linter.unusedSimpArgs false
namespace Eng
open Go Go.RowKit

def Good (P : Program) (w0 : Base) (m0 : View) (N : Frm) (s : St) (a : Act) (w : World) : Prop := N.has a ∧ ∃ m ρ, Rel P w0 m0 s m ρ a w

theorem strip_subst (g : Nat) (d : AV) (v : AV) : AV.subst g d v.strip = v.strip := by
  induction v with
  | imm cs off ih => simp only [AV.strip, AV.subst, ih]
  | clo f c ih => simp only [AV.strip, AV.subst, ih]
  | agg c ih => simp only [AV.strip, AV.subst, ih]
  | tup c ih => simp only [AV.strip, AV.subst, ih]
  | cons a b iha ihb => simp only [AV.strip, AV.subst, iha, ihb]
  | _ => rfl
theorem strip_strip (v : AV) : v.strip.strip = v.strip := by
  induction v with
  | imm cs off ih => simp only [AV.strip, ih]
  | clo f c ih => simp only [AV.strip, ih]
  | agg c ih => simp only [AV.strip, ih]
  | tup c ih => simp only [AV.strip, ih]
  | cons a b iha ihb => simp only [AV.strip, iha, ihb]
  | _ => rfl

theorem strip_hav_strip (v : AV) : v.strip.hav.strip = v.strip.hav := by
  induction v with
  | agg c ih => simp only [AV.strip, AV.hav, ih]
  | tup c ih => simp only [AV.strip, AV.hav, ih]
  | cons a b iha ihb => simp only [AV.strip, AV.hav, iha, ihb]
  | _ => rfl
theorem strip_hav_stable (v : AV) : v.strip.hav.strip.hav = v.strip.hav := by
  induction v with
  | agg c ih => simp only [AV.strip, AV.hav, ih]
  | tup c ih => simp only [AV.strip, AV.hav, ih]
  | cons a b iha ihb => simp only [AV.strip, AV.hav, iha, ihb]
  | _ => rfl
theorem look_mem {i : Nat} {d : AV} : ∀ {l : List (Nat × AV)}, (look l i d = d ∧ ∀ p ∈ l, p.1 ≠ i) ∨ (i, look l i d) ∈ l
  | [] => .inl ⟨rfl, fun p hp => by cases hp⟩
  | (j, v) :: r => by
    simp only [look]
    split
    · rename_i e; rw [Nat.eq_of_beq_eq_true e]; exact .inr List.mem_cons_self
    · rename_i e
      rcases look_mem (i := i) (d := d) (l := r) with ⟨h1, h2⟩ | h
      · refine .inl ⟨h1, fun p hp => ?_⟩
        rcases List.mem_cons.1 hp with rfl | hp
        · intro e'
          have e' : j = i := e'
          subst e'
          simp at e
        · exact h2 p hp
      · exact .inr (List.mem_cons_of_mem _ h)
theorem look_any {i : Nat} {d d' : AV} : ∀ {l : List (Nat × AV)}, (∃ p ∈ l, p.1 = i) → look l i d = look l i d'
  | [], h => by obtain ⟨p, hp, _⟩ := h; cases hp
  | (j, v) :: r, h => by
    simp only [look]
    cases hb : Nat.beq j i with
    | true => rfl
    | false =>
      obtain ⟨p, hp, e⟩ := h
      rcases List.mem_cons.1 hp with rfl | hp
      · have e : j = i := e
        subst e
        simp at hb
      · exact look_any ⟨p, hp, e⟩
/-- What is held fast bears no slice of the call's own. -/
def FixOk (y : Option YSpec) : Prop := ∀ Y, y = some Y → ∀ p ∈ Y.fix, p.2.strip = p.2
theorem kp_strip {y : Option YSpec} (hf : FixOk y) (i : Nat) (v : AV) : (kpK y i v).strip = kpK y i v := by
  cases y with
  | none => exact strip_strip v
  | some Y =>
    show (look Y.fix i v.strip.hav).strip = look Y.fix i v.strip.hav
    rcases look_mem (i := i) (d := v.strip.hav) (l := Y.fix) with ⟨e, _⟩ | h
    · rw [e]; exact strip_hav_strip v
    · exact hf Y rfl _ h
theorem kp_kp {y : Option YSpec} (i : Nat) (v : AV) : kpK y i (kpK y i v) = kpK y i v := by
  cases y with
  | none => exact strip_strip v
  | some Y =>
    show look Y.fix i (look Y.fix i v.strip.hav).strip.hav = look Y.fix i v.strip.hav
    rcases look_mem (i := i) (d := v.strip.hav) (l := Y.fix) with ⟨e, hn⟩ | h
    · rw [e, strip_hav_stable]; exact e
    · exact look_any ⟨_, h, rfl⟩

/-- Slots outside of 'D' that name no slice of the call's own (and that last) are as they were. -/
def FR (y : Option YSpec) (D : Nat → Prop) (s s' : St) : Prop := ∀ i, ¬ D i → kpK y i (s.get i) = s.get i → s'.get i = s.get i
theorem FR.refl (y : Option YSpec) (D : Nat → Prop) (s : St) : FR y D s s := fun _ _ _ => rfl
theorem FR.trans {y : Option YSpec} {D : Nat → Prop} {a b c : St} (h : FR y D a b) (k : FR y D b c) : FR y D a c := fun i hi hs => by
  have h1 := h i hi hs
  rw [k i hi (by rw [h1]; exact hs), h1]
theorem FR.mono {y : Option YSpec} {D D' : Nat → Prop} {a b : St} (h : FR y D a b) (hd : ∀ i, D i → D' i) : FR y D' a b := fun i hi hs => h i (fun hh => hi (hd i hh)) hs
theorem FR.put {y : Option YSpec} {D : Nat → Prop} (s : St) {d : Option Nat} {v : AV} (hd : ∀ i, d = some i → D i) : FR y D s (putS d v s) := by
  intro i hi _
  cases d with
  | none => rfl
  | some j =>
    obtain ⟨ov, base, mem⟩ := s
    have hne : j ≠ i := fun e => hi (by rw [← e]; exact hd j rfl)
    have : Nat.beq j i = false := by cases hb : Nat.beq j i with | false => rfl | true => exact absurd (Nat.eq_of_beq_eq_true hb) hne
    simp only [putS, St.get, look, this]
theorem FR.eff {y : Option YSpec} (hf : FixOk y) {D : Nat → Prop} (s : St) (nm : Nat) (e : Eff) : FR y D s (effS s nm e) := by
  intro i hi hs
  have key : ∀ g d, look (substOv g d s.ov) i (AV.subst g d (s.base i)) = s.get i := fun g d => by
    rw [look_subst]
    show AV.subst g d (s.get i) = s.get i
    rw [← hs, ← kp_strip hf, strip_subst]
  cases e with
  | none => rfl
  | new o => rfl
  | upd g o kill =>
    cases kill with
    | false => rfl
    | true => exact key g .any
  | freeze g t l => exact key g _

section
variable {P : Program} {w0 : Base} {m0 : View} {C : Ctx} {N : Frm}

theorem Good.put {s : St} {a : Act} {w : World} {m : View} {ρ : List Value} (hN : N.has a) (h : Rel P w0 m0 s m ρ a w) {d : Option Nat} {av : AV} {v : Value} (hv : av.ok P m ρ [v]) (hd : ∀ i, d = some i → N.may i) :
    Good P w0 m0 N (putS d av s) (a.put d v) w := by
  exact ⟨Frm.put hN hd, m, ρ, h.put hv (fun i hi => by rw [hN.1]; exact (hd i hi).1)⟩

theorem Rel.know {s : St} {a : Act} {w : World} {m : View} {ρ : List Value} (h : Rel P w0 m0 s m ρ a w) {d : Nat} {av : AV} (hv : av.ok P m ρ [a.tmps.getD d undef]) : Rel P w0 m0 ⟨(d, av) :: s.ov, s.base, s.mem⟩ m ρ a w := by
  refine ⟨fun i => ?_, h.len, h.hdr, h.defers, h.objs, h.apart, h.view, h.ext, h.new, h.below, h.zone, h.pins⟩
  simp only [St.get, look]
  split
  · rename_i e; rw [← Nat.eq_of_beq_eq_true e]; exact hv
  · exact h.slots i

theorem get_bool {a : Act} {d : Nat} {b : Bool} (h : a.tmps.getD d undef = .bool b) : a.tmps[d]? = some (.bool b) := by
  rw [Array.getD_eq_getD_getElem?] at h
  cases hq : a.tmps[d]? with
  | none => rw [hq] at h; simp [undef] at h
  | some v => rw [hq] at h; simp at h; rw [h]

theorem ops_ok (hS : Sound P C) {all : Array Oper} {r : Option Nat} {n : Nat} {Q : Exit → Act → World → Prop} {D : Nat → Prop} (hall : ∀ o ∈ all.toList, ∀ d, o.dst = some d → D d ∧ N.may d) : ∀ (l : List Oper) (s : St) (K : St → Prop) (a : Act) (w : World),
    (∀ o ∈ l, o ∈ all.toList) → Good P w0 m0 N s a w → opsK C all.toList l s K → (∀ s' a' w', K s' → FR C.yl D s s' → Good P w0 m0 N s' a' w' → Q .normal a' w') → wpListIn (fz r) n P all Q l a w
  | [], s, K, a, w, _, hg, h, hQ => hQ s a w h (FR.refl _ _ _) hg
  | o :: rest, s, K, a, w, hl, hg, h, hQ => by
    have ho := hl o List.mem_cons_self
    have hrest : ∀ o' ∈ rest, o' ∈ all.toList := fun o' h' => hl o' (List.mem_cons_of_mem _ h')
    obtain ⟨hN, m, ρ, hr⟩ := hg
    -- the operation itself, from a state 's1' that knows as much
    have go : ∀ s1 : St, Rel P w0 m0 s1 m ρ a w → FR C.yl D s s1 → s1.mem = s.mem → (fNat s.mem.length lits fun nm => opK C (o.dst.getD 0) nm o.op (evalO s1.ov s1.base) s1.mem fun v e => fAVn C o.dst v fun v => effK s1.ov s1.base s1.mem nm e fun s' => opsK C all.toList rest (putS o.dst v s') K) →
        o.wpIn (fz r) n P a w (wpListIn (fz r) n P all Q rest) Q := by
      intro s1 hr1 hf1 hm1 h1
      rw [fNat_eq, ← hm1] at h1
      obtain ⟨hd, hres⟩ := op_ok (k := fun v e => fAVn C o.dst v fun v => effK s1.ov s1.base s1.mem s1.mem.length e fun s' => opsK C all.toList rest (putS o.dst v s') K) (nm := s1.mem.length) hS hr1 (.inl rfl) h1
      refine res_wp hres hd fun v w' ⟨av, e, m', ρ', k1, _, k2, k3⟩ => ?_
      simp only [fAVn_eq, effK_eq] at k1
      refine ops_ok hS hall rest _ K _ w' hrest (Good.put hN k3 k2 (fun i hi => (hall o ho i hi).2)) k1 fun s' a' w'' q1 q2 q3 => hQ s' a' w'' q1 ?_ q3
      exact hf1.trans ((FR.eff hS.fixs s1 _ e).trans ((FR.put _ (fun i hi => (hall o ho i hi).1)).trans q2))
    obtain ⟨ov, base, mem⟩ := s
    simp only [opsK] at h
    cases hgd : o.guard with
    | none =>
      rw [hgd] at h
      unfold wpListIn
      rw [if_pos (by simp [Region.wanted, hgd])]
      exact go ⟨ov, base, mem⟩ hr (FR.refl _ _ _) rfl h
    | some jw =>
      obtain ⟨j, want⟩ := jw
      rw [hgd] at h
      obtain ⟨og, h1, h⟩ := withSome_iff.1 h
      obtain ⟨d, h2, h⟩ := withSome_iff.1 h
      have hog : og ∈ all.toList := List.mem_of_getElem? h1
      have hd := hall og hog d h2
      have hfr : ∀ av : AV, FR C.yl D ⟨ov, base, mem⟩ ⟨(d, av) :: ov, base, mem⟩ := fun av => FR.put (d := some d) (v := av) ⟨ov, base, mem⟩ (fun i hi => by injection hi with hi; rw [← hi]; exact hd.1)
      have hy : ∀ b, a.tmps.getD d undef = .bool b → yielded all a.tmps j = some b := by
        intro b hb
        have h1' : all[j]? = some og := by simpa using h1
        simp [yielded, h1', h2, get_bool hb]
      have skip : ∀ av : AV, av.ok P m ρ [a.tmps.getD d undef] → Region.wanted o (yielded all a.tmps) = false → opsK C all.toList rest (putS o.dst .any ⟨(d, av) :: ov, base, mem⟩) K → wpListIn (fz r) n P all Q (o :: rest) a w := by
        intro av hav hw hk
        unfold wpListIn
        rw [if_neg (by simp [hw])]
        refine ⟨fun _ _ => trivial, ?_⟩
        refine ops_ok hS hall rest _ K _ w hrest (Good.put hN (hr.know hav) (av := .any) ⟨undef, rfl⟩ (fun i hi => (hall o ho i hi).2)) hk fun s' a' w'' q1 q2 q3 => hQ s' a' w'' q1 ?_ q3
        exact (hfr av).trans ((FR.put _ (fun i hi => (hall o ho i hi).1)).trans q2)
      have run : ∀ av : AV, av.ok P m ρ [a.tmps.getD d undef] → Region.wanted o (yielded all a.tmps) = true → (fNat mem.length lits fun nm => opK C (o.dst.getD 0) nm o.op (evalO ((d, av) :: ov) base) mem fun v e => fAVn C o.dst v fun v => effK ((d, av) :: ov) base mem nm e fun s' => opsK C all.toList rest (putS o.dst v s') K) → wpListIn (fz r) n P all Q (o :: rest) a w := by
        intro av hav hw hk
        unfold wpListIn
        rw [if_pos hw]
        exact go ⟨(d, av) :: ov, base, mem⟩ (hr.know hav) (hfr av) rfl hk
      have hslot := hr.slots d
      cases want with
      | true =>
        obtain ⟨b, hb, c1, c2⟩ := testK_ok h hslot
        cases b with
        | true => exact run .tt (by rw [hb]; rfl) (by simp [Region.wanted, hgd, hy _ hb]) (c1 rfl)
        | false => exact skip .ff (by rw [hb]; rfl) (by simp [Region.wanted, hgd, hy _ hb]) (c2 rfl)
      | false =>
        obtain ⟨b, hb, c1, c2⟩ := testK_ok h hslot
        cases b with
        | true => exact skip .tt (by rw [hb]; rfl) (by simp [Region.wanted, hgd, hy _ hb]) (c1 rfl)
        | false => exact run .ff (by rw [hb]; rfl) (by simp [Region.wanted, hgd, hy _ hb]) (c2 rfl)

theorem stF_none (Tr : List Info) (f : FS) {L : Nat → Bool} (hL : ∀ k, L k = false) : ∀ n, stF Tr L f n = f
  | 0 => rfl
  | n + 1 => by
    simp only [stF]
    split
    · rw [hL n]; exact stF_none Tr f hL n
    · exact stF_none Tr f hL n
theorem all_up {all : Array Oper} {l : Array Bool} (hb : backOk all.toList 0 = true) (hl : l.size = all.size) (hr : Region.ready .any all l = []) : ∀ i, i < all.size → l.getD i false = true := by
  intro i
  induction i using Nat.strongRecOn with
  | ind i ih =>
    intro hi
    cases hq : l.getD i true with
    | true =>
      have e : l.getD i true = l.getD i false := by simp [Array.getD, show i < l.size by omega]
      rw [← e]; exact hq
    | false =>
      exfalso
      have ho : all[i]? = some all[i] := Array.getElem?_eq_getElem hi
      have : i ∈ Region.ready .any all l := mem_ready.2 ⟨hq, all[i], ho, fun e he hbd => by
        have hlt := backOk_ok (all := all.toList) hb i all[i] (by simp) e (by simpa using he) hbd
        exact ih e.on (by omega) (by omega)⟩
      rw [hr] at this; cases this

theorem draw_ok (hS : Sound P C) {all : Array Oper} {id : Nat} {r : Option Nat} {n : Nat} {Q : Exit → Act → World → Prop} {D : Nat → Prop} (hall : ∀ o ∈ all.toList, ∀ d, o.dst = some d → D d ∧ N.may d) {s : St} {K : St → Prop} {a : Act} {w : World}
    (hg : Good P w0 m0 N s a w) (h : drawK C all.toList s.mem.length 0 all.toList ⟨s.ov, s.base, padMem s.mem all.toList⟩ [] K) (hQ : ∀ s' a' w', K s' → FR C.yl D s s' → Good P w0 m0 N s' a' w' → Q .normal a' w') : (Code.region id all true).wpIn (fz r) n P Q a w := by
  obtain ⟨hN, m, ρ, hr⟩ := hg
  refine wpIn_region_any hS.mixed ?_
  obtain ⟨Tr, s', hlen, hchk, hch, hst, hK⟩ := drawK_tr (s0 := ⟨s.ov, s.base, padMem s.mem all.toList⟩) all.toList 0 _ [] h rfl ⟨fun _ => ⟨s.ov, s.base, padMem s.mem all.toList⟩, rfl, rfl, fun n I h => by simp at h⟩ (fun k I h => by simp at h) (fun k o h => by rw [Nat.zero_add]; exact h) (by simp)
  have hM : s.mem.length + Tr.length ≤ (⟨s.ov, s.base, padMem s.mem all.toList⟩ : St).mem.length := by simp [padMem_eq, hlen]
  have hbk : backOk all.toList 0 = true := by
    unfold chk at hchk
    cases hb : backOk all.toList 0 with
    | false => rw [hb] at hchk; cases hchk
    | true => rfl
  have hrows := rowsOk_ok (all := all.toList) (T := ancs [] all.toList) (r := Tr) (pre := []) (by unfold chk at hchk; rw [hbk] at hchk; exact hchk)
  refine Ls.wpAnyIn_inv (DInv P w0 m0 N all Tr ⟨s.ov, s.base, padMem s.mem all.toList⟩ s.mem.length) (fun l a w i hl hI hi => draw_step hS (fun o ho d hd => (hall o ho d hd).2) hlen hchk hch hst hM hl hI hi) (fun l a w hl hI hready => ?_) all.size _ a _ (by simp) ?_ ?_
  · obtain ⟨⟨s2, m2, ρ2, f1, f2, f3, f4, _⟩, _⟩ := hI
    obtain ⟨σ, c1, c2, c3⟩ := hch
    have hσ := chain_fs (s := s') c1 c3 (fun k J hJ => (hrows k J hJ).1) Tr.length (Nat.le_refl _)
    rw [c2] at hσ
    have hup := all_up hbk hl hready
    have e : stF Tr (fun i => l.getD i false) (fs ⟨s.ov, s.base, padMem s.mem all.toList⟩) Tr.length = stF Tr (fun _ => true) (fs ⟨s.ov, s.base, padMem s.mem all.toList⟩) Tr.length := stF_ext fun k hk => hup k (by rw [hlen] at hk; simpa using hk)
    refine hQ s' a w hK ?_ ⟨f3, m2, ρ2, f4.of_fs (f1.trans (e.trans hσ.1.symm)) (f2.trans hσ.2.symm)⟩
    have hfr : ∀ k, k ≤ Tr.length → FR C.yl D ⟨s.ov, s.base, padMem s.mem all.toList⟩ (σ k) := by
      intro k
      induction k with
      | zero => intro _; rw [c1]; exact FR.refl _ _ _
      | succ k ih =>
        intro hk
        have hJ : Tr[k]? = some Tr[k] := List.getElem?_eq_getElem (by omega)
        obtain ⟨a1, a2⟩ := c3 k _ hJ
        have hkk := ih (by omega)
        rw [← a1] at hkk
        rw [a2]
        exact hkk.trans ((FR.eff hS.fixs _ _ _).trans (FR.put _ fun i hi => (hall _ (List.mem_of_getElem? (hst k _ hJ).1) i hi).1))
    have := hfr Tr.length (Nat.le_refl _)
    rw [c2] at this
    exact this
  · unfold Ls.pend
    have := List.count_le_length (a := false) (l := (Array.replicate all.size false).toList)
    simp
  · have hL : ∀ k, (Array.replicate all.size false).getD k false = false := fun k => by
      simp [Array.getD]
    refine ⟨⟨⟨s.ov, s.base, padMem s.mem all.toList⟩, m, ρ ++ List.replicate all.toList.length (.bool false), (stF_none Tr _ hL _).symm, rfl, hN, (hr.pad all.toList).drew, fun i hi _ => ⟨false, ?_⟩⟩, fun j o _ hj => by have hj : (Array.replicate all.size false).getD j false = true := hj; rw [hL j] at hj; cases hj⟩
    rw [← hr.len, List.getElem?_append_right (by omega)]
    rw [hlen] at hi
    simp only [Nat.add_sub_cancel_left]
    rw [List.getElem?_replicate]
    simp only [Array.length_toList] at hi ⊢
    rw [if_pos hi]

end
end Eng

/- A function that hands over: its operations over abstract values. No condition. -/
set_option linter.unusedVariables false
set_option linter.unusedSimpArgs false
namespace Eng
open Go Go.RowKit

section
variable {P : Program}
theorem takeA_ok {m : View} {ρ : List Value} {t : Ty} {v : AV} {k : t.den → Prop} {u : Value} (h : takeA t v k) (hv : v.ok P m ρ [u]) : ∃ x, RdV m t x u ∧ k x := by
  have one : ∀ {t : Ty} {k : t.den → Prop}, takeTy t (.cons v .nil) (fun x _ => k x) → t.size = 1 → ∃ x, Rd m t x [u] ∧ k x := by
    intro t k h hs
    obtain ⟨x, r, us, vs, e, k1, k2, k3⟩ := takeTy_ok h (show (AV.cons v .nil).ok P m ρ [u] from ⟨u, [], rfl, hv, rfl⟩)
    have hl := Rd.length k1
    rw [hs] at hl
    obtain ⟨z, rfl⟩ := List.length_eq_one_iff.1 hl
    simp only [List.cons_append, List.nil_append, List.cons.injEq] at e
    rw [e.1]
    exact ⟨x, k1, k3⟩
  cases t with
  | prod a b =>
    simp only [takeA] at h
    split at h
    · obtain ⟨cs, e, h3⟩ := hv
      obtain rfl := (List.cons.inj e).1
      obtain ⟨x, r, us, vs, e, k1, k2, k3⟩ := takeTy_ok h h3
      cases r <;> first | exact k3.elim | skip
      obtain rfl : vs = [] := k2
      rw [List.append_nil] at e
      exact ⟨x, ⟨cs, rfl, by rw [e]; exact k1⟩, k3⟩
    · exact h.elim
  | int j => obtain ⟨x, k1, k2⟩ := one h rfl; exact ⟨x, by have k1 : [u] = [_] := k1; exact (List.cons.inj k1).1, k2⟩
  | bool => obtain ⟨x, k1, k2⟩ := one h rfl; exact ⟨x, by have k1 : [u] = [_] := k1; exact (List.cons.inj k1).1, k2⟩
  | str => obtain ⟨x, k1, k2⟩ := one h rfl; exact ⟨x, by have k1 : [u] = [_] := k1; exact (List.cons.inj k1).1, k2⟩
  | list t => obtain ⟨x, k1, k2⟩ := one h rfl; exact ⟨x, k1, k2⟩

theorem takeArgs_rd {m : View} : ∀ {ts : List Ty} {c : AV} {k : argsTy ts → Prop} {vs : List Value}, takeArgs ts c k → c.ok P m [] vs → ∃ x, k x ∧ RdArgs m ts x vs
  | [], c, k, vs, h, hc => by
    simp only [takeArgs] at h
    split at h
    · exact ⟨(), h, hc⟩
    · exact h.elim
  | t :: r, c, k, vs, h, hc => by
    simp only [takeArgs] at h
    split at h
    · rename_i v rest
      obtain ⟨u, us, rfl, h1, h2⟩ := hc
      obtain ⟨x, k1, k2⟩ := takeA_ok h h1
      obtain ⟨y, k3, k4⟩ := takeArgs_rd k2 h2
      exact ⟨(x, y), k3, u, us, rfl, k1, k4⟩
    · exact h.elim
end

theorem rd_flat {m m' : View} : ∀ {t : Ty} {x : t.den} {vs : List Value}, Ty.flat t = true → Rd m t x vs → Rd m' t x vs := by
  intro t
  induction t with
  | int k => intro x vs _ h; exact h
  | bool => intro x vs _ h; exact h
  | str => intro x vs _ h; exact h
  | list t _ => intro x vs h; cases h
  | prod a b iha ihb =>
    intro x vs h hr
    simp only [Ty.flat] at h
    split at h
    · rename_i ha
      obtain ⟨u, v, e, h1, h2⟩ := hr
      exact ⟨u, v, e, iha ha h1, ihb h h2⟩
    · cases h
theorem rdL_flat {m m' : View} {t : Ty} (ht : Ty.flat t = true) : ∀ {l : List t.den} {vs : List Value}, RdL m t l vs → RdL m' t l vs
  | [], _, h => h
  | _ :: _, _, ⟨u, v, h1, h2, h3⟩ => ⟨u, v, h1, rd_flat ht h2, rdL_flat ht h3⟩
theorem hav_ok {P : Program} {m m' : View} {ρ ρ' : List Value} (h0 : ∀ b, ρ[0]? ≠ some (.pointer b)) (hρ : ∀ (g : Nat) (v : Value), g ≠ 0 → ρ[g]? = some v → ρ'[g]? = some v) {av : AV} : ∀ {vs : List Value}, av.ok P m ρ vs → av.hav.ok P m' ρ' vs := by
  induction av with
  | any => intro vs k; exact k
  | lit v => intro vs k; exact k
  | tt => intro vs k; exact k
  | ff => intro vs k; exact k
  | dat t l => intro vs k; obtain ⟨A, c, rfl, _⟩ := k; exact ⟨_, rfl⟩
  | own g =>
    intro vs k
    obtain ⟨v, k1, k2⟩ := k
    cases g with
    | zero => exact ⟨v, k2⟩
    | succ g => exact ⟨v, ⟨hρ _ _ (by omega) k1.1, k1.2⟩, k2⟩
  | box g off => intro vs k; obtain ⟨b, k1, k2⟩ := k; exact ⟨b, hρ _ _ (fun e => by subst e; exact h0 _ k1) k1, k2⟩
  | dptr t l i off => intro vs k; obtain ⟨_, ad, cs, rfl, _⟩ := k; exact ⟨_, rfl⟩
  | optr g t i off => intro vs k; obtain ⟨b, n, c, _, rfl⟩ := k; exact ⟨_, rfl⟩
  | imm cs off ih => intro vs k; obtain ⟨ad, us, rfl, _⟩ := k; exact ⟨_, rfl⟩
  | fn a r p f => intro vs k; obtain ⟨fv, rfl, _⟩ := k; exact ⟨_, rfl⟩
  | clo f caps ih => intro vs k; obtain ⟨cs, rfl, _⟩ := k; exact ⟨_, rfl⟩
  | agg l ih => intro vs k; obtain ⟨cs, k1, k2⟩ := k; exact ⟨cs, k1, ih k2⟩
  | tup l ih => intro vs k; obtain ⟨cs, k1, k2⟩ := k; exact ⟨cs, k1, ih k2⟩
  | nil => intro vs k; exact k
  | cons a b iha ihb => intro vs k; obtain ⟨v, rest, k1, k2, k3⟩ := k; exact ⟨v, rest, k1, iha k2, ihb k3⟩
theorem look_app (i : Nat) (d : AV) : ∀ (l r : List (Nat × AV)), look (appOv l r) i d = look l i (look r i d)
  | [], r => rfl
  | (j, v) :: l, r => by
    simp only [appOv, look]
    split
    · rfl
    · exact look_app i d l r
theorem look_hav (i : Nat) (d : AV) : ∀ (l : List (Nat × AV)), look (havOv l) i d.hav = (look l i d).hav
  | [] => rfl
  | (j, v) :: l => by
    simp only [havOv, look]
    split
    · rfl
    · exact look_hav i d l
theorem havMem_length : ∀ m : List AObj, (havMem m).length = m.length
  | [] => rfl
  | o :: r => by simp [havMem, havMem_length r]
theorem memNth_hav : ∀ (m : List AObj) (g : Nat), memNth (havMem m) g = (memNth m g).hav
  | [], _ => rfl
  | o :: r, 0 => rfl
  | o :: r, g + 1 => memNth_hav r g
theorem hav_live {o : AObj} (h : o.hav.live = true) : o.live = true := by
  cases o <;> first | rfl | cases h

/-- What is wanted where a function hands over. 'T': the bases that it may come to. -/
structure YOk (P : Program) (T : Base → Prop) (m0 : View) (N : Frm) (Y : YSpec) : Prop where
  fix : ∀ p ∈ Y.fix, ∀ a, N.has a → p.2.ok P m0 [] [a.tmps.getD p.1 undef]
  cls : ∀ Z, T Z → ∃ k, Z.ρ = [.int .i64 (code k)]
  yld : ∀ Z k W mx d vs, T Z → Z.ρ = [.int .i64 (code (some k))] → Z.ok W → mx.on W → Cells mx → (∀ b o, mx b = some o → m0 b = some o ∨ (Z.n ≤ b ∧ ¬ Z.F b)) → Y.L[k]? = some d → RdArgs mx Y.ins d vs →
    YieldAt Fence.wide 0 P Y.l vs.toArray W fun e W' => m0.on W' ∧ W.heap.size ≤ W'.heap.size ∧ (∀ b, b < W.heap.size → ¬ Z.F b → mx b = none → W'.heap[b]? = W.heap[b]?) ∧
      ∃ c : Bool, e = .returned (.bool c) ∧ ∀ (O : Nat → Prop) (h : Z.n ≤ W'.heap.size), (∀ b, O b → b < W.heap.size ∧ ¬ Z.F b ∧ mx b = none) → T ⟨Z.n, W', fun b => b < W'.heap.size ∧ ¬ O b, h, [.int .i64 (code (if c then some (k + 1) else none))]⟩

section
variable {P : Program} {T : Base → Prop} {Z : Base} {m0 : View} {N : Frm} {C : Ctx} {Y : YSpec}

theorem yield_run {l : Nat} {o : Oper} {c : Call} {x : Operand} {a : Act} {w : World} (ho : o.op = .call c) (hc : c.callee = .value x) (hx : a.eval x = .func (.yield l) #[] #[]) : (execOp a.eval o).run P w = (Instr.yield l (c.args.map a.eval)).run P w := by
  unfold execOp
  rw [ho]
  simp only [resolve, hc, hx, Deferred.ofValue]
  simp [invoke, go_sem]

/-- The call of the loop's body. -/
theorem yld_ok (hY : YOk P T m0 N Y) (hT : T Z) (hc0 : Cells m0) {s : St} {m : View} {ρ : List Value} {a : Act} {w : World} {o : Oper} {c : Call} {x : Operand} {next : Act → World → Prop} {Q : Exit → Act → World → Prop} {k : Bool → St → Prop} (hN : N.has a) (hr : Rel P Z m0 s m ρ a w)
    (ho : o.op = .call c) (hcc : c.callee = .value x) (hx : a.eval x = .func (.yield Y.l) #[] #[]) (h : yldK Y (argsAV (evalO s.ov s.base) c.args.toList) s.ov s.base s.mem k) (hd : ∀ i, o.dst = some i → N.may i) (hfx : FixOk (some Y))
    (hQ : ∀ (b : Bool) s' Z' a' w', k b s' → T Z' → Good P Z' m0 N (putS o.dst (if b then .tt else .ff) s') a' w' → FR (some Y) (fun _ => False) s s' → next a' w') : o.wpIn (fz none) 0 P a w next Q := by
  unfold yldK at h
  split at h
  case h_2 => exact h.elim
  rename_i kn hmem hpl
  have hr2 := hr.cells
  rw [hc0.eq] at hr2
  have hargs := plain_ok hpl (argsAV_ok (P := P) (m := m.cells) (ρ := ρ) hr2.eval c.args.toList)
  obtain ⟨d, ⟨hd1, h⟩, hrd⟩ := takeArgs_rd h hargs
  simp only [fOv_eq, fMem_eq] at h
  -- how often
  have hρ0 : ρ[0]? = some (.int .i64 (code (some kn))) := by have := hr.objs 0; rw [hmem] at this; exact this
  obtain ⟨kz, hkz⟩ := hY.cls Z hT
  have hkz2 : Z.ρ = [.int .i64 (code (some kn))] := by
    have h1 := hr.pins 0 (.int .i64 (code kz)) (by rw [hkz]; rfl) rfl
    rw [hρ0] at h1
    injection h1 with h1
    injection h1 with _ h1
    rw [hkz, h1]
  have hlt : 0 < s.mem.length := by
    rcases Nat.eq_zero_or_pos s.mem.length with h0 | h0
    · rw [memNth_ge _ _ (by omega)] at hmem; cases hmem
    · exact h0
  obtain ⟨fn, tmps, assign, body, hy, hR⟩ := hY.yld Z kn w m.cells d _ hT hkz2 hr2.below hr2.view Cells.of hr2.new hd1 hrd
  have hsem : (o.semAt (fz none).round a.eval).run P w = .ok (.round Y.l fn tmps assign body) w := by
    rw [Oper.semAt_eq _ _ _ (fun c' e => by rw [ho] at e; cases e), yield_run ho hcc hx]
    have e : (List.map a.eval c.args.toList).toArray = c.args.map a.eval := by rw [← Array.toList_map, Array.toArray_toList]
    rw [e] at hy
    exact hy
  refine ⟨fun _ _ => trivial, ?_⟩
  rw [hsem]
  refine ⟨fun hh => by simp [fz] at hh, RoundIn.mono hR ?_⟩
  rintro e w' ⟨q1, q2, q3, b, rfl, q4⟩
  let O : Nat → Prop := fun b => Own s.mem ρ b ∨ Marked a.defers b
  have hO : ∀ b, O b → b < w.heap.size ∧ ¬ Z.F b ∧ m.cells b = none := by
    rintro b (hb | hb)
    · obtain ⟨_, h2, h3, h4, _⟩ := hr2.own hb
      exact ⟨h2, h4, h3⟩
    · obtain ⟨_, h2, h3⟩ := hr2.defers.get hb
      refine ⟨(Array.getElem?_eq_some_iff.1 h3).1, h2, ?_⟩
      cases hm : m.cells b with
      | none => rfl
      | some ob =>
        obtain ⟨c', t, f, rfl⟩ := View.cells_is hm
        have := hr2.view _ _ hm
        rw [h3] at this; cases this
  have hn : Z.n ≤ w'.heap.size := Nat.le_trans hr.below.size q2
  obtain ⟨k', hk'⟩ : ∃ k', k' = (if b then some (kn + 1) else none) := ⟨_, rfl⟩
  have hTZ := q4 O hn hO
  rw [← hk'] at hTZ
  have hkp : ∀ b, O b → w'.heap[b]? = w.heap[b]? := fun b hb => q3 b (hO b hb).1 (hO b hb).2.1 (hO b hb).2.2
  have hm0n : ∀ b, Own s.mem ρ b → m0 b = none := fun b hb => by
    have h1 := (hr2.own hb).2.2.1
    cases h2 : m0 b with
    | none => rfl
    | some ob => have := hr2.ext b ob h2; rw [h1] at this; cases this
  have h0p : ∀ b, ρ[0]? ≠ some (.pointer b) := fun b hb => by rw [hρ0] at hb; cases hb
  have hρl : 0 < ρ.length := by rw [hr.len]; exact hlt
  have hρn : ∀ (g : Nat) (v : Value), g ≠ 0 → ρ[g]? = some v → (ρ.set 0 (.int .i64 (code k')))[g]? = some v := fun g v hg hv => by rw [List.getElem?_set_ne (Ne.symm hg)]; exact hv
  have hρb : ∀ (g : Nat) (v : Value), g ≠ 0 → (ρ.set 0 (.int .i64 (code k')))[g]? = some v → ρ[g]? = some v := fun g v hg hv => by rw [List.getElem?_set_ne (Ne.symm hg)] at hv; exact hv
  have hρ00 : (ρ.set 0 (.int .i64 (code k')))[0]? = some (.int .i64 (code k')) := by simp [hρl]
  obtain ⟨s', hs'⟩ : ∃ s' : St, s' = ⟨appOv Y.fix (havOv s.ov), fun i => (s.base i).hav, memSet (havMem s.mem) 0 (.cnt k')⟩ := ⟨_, rfl⟩
  have hget : ∀ i, s'.get i = look Y.fix i (s.get i).hav := fun i => by
    rw [hs']
    show look (appOv Y.fix (havOv s.ov)) i (s.base i).hav = _
    rw [look_app, look_hav]
    rfl
  have hkk : k b s' := by
    rw [hs', hk']
    cases b with
    | true => exact h.1
    | false => exact h.2
  have hm1 : ∀ g, memNth s'.mem g = if g = 0 then .cnt k' else (memNth s.mem g).hav := fun g => by
    rw [hs']
    show memNth (memSet (havMem s.mem) 0 (.cnt k')) g = _
    rw [memNth_set _ _ _ _ (by rw [havMem_length]; exact hlt), memNth_hav]
  have hlv : ∀ g u bb, (memNth s'.mem g).live = true → (ρ.set 0 (.int .i64 (code k')))[g]? = some u → blk u = some bb → g ≠ 0 ∧ (memNth s.mem g).live = true ∧ ρ[g]? = some u := fun g u bb hl hu hb => by
    have hg : g ≠ 0 := fun e => by
      subst e
      rw [hρ00] at hu
      obtain rfl := Option.some.inj hu
      cases hb
    rw [hm1, if_neg hg] at hl
    exact ⟨hg, hav_live hl, hρb g u hg hu⟩
  have hrel : Rel P ⟨Z.n, w', fun b => b < w'.heap.size ∧ ¬ O b, hn, [.int .i64 (code k')]⟩ m0 s' m0 (ρ.set 0 (.int .i64 (code k'))) a w' := by
    refine ⟨fun i => ?_, ?_, fun v hv => ?_, ?_, fun g => ?_, fun g g' v v' bb hne l1 l2 u1 u2 b1 b2 => ?_, q1, View.le_refl m0, fun _ _ hb => .inl hb, ⟨rfl, rfl, rfl, Nat.le_refl _, fun b hb => ⟨hb.1, rfl⟩⟩, fun g v bb l1 u1 b1 hF => ?_, fun g v hv hp => ?_⟩
    · rw [hget]
      rcases look_mem (i := i) (d := (s.get i).hav) (l := Y.fix) with ⟨e, _⟩ | e
      · rw [e]; exact hav_ok h0p hρn (hr.slots i)
      · exact AV.ok_le (View.le_refl m0) nil_ext (hY.fix _ e a hN)
    · rw [hs']
      show _ = (memSet (havMem s.mem) 0 (.cnt k')).length
      rw [memSet_length _ _ _ (by rw [havMem_length]; exact hlt), havMem_length, List.length_set, hr.len]
    · rcases List.mem_or_eq_of_mem_set hv with hv | rfl
      · exact hr.hdr v hv
      · rfl
    · have key : ∀ ds : List Deferred, (∀ b, Marked ds b → Marked a.defers b) → Marks Z w ds → Marks ⟨Z.n, w', fun b => b < w'.heap.size ∧ ¬ O b, hn, [.int .i64 (code k')]⟩ w' ds := by
        intro ds
        induction ds with
        | nil => intro _ _; trivial
        | cons d ds ih =>
          rintro hsub ⟨⟨D, h1, h2, h3, h4, h5⟩, h6⟩
          have hD : Marked a.defers D := hsub D ⟨d, by simp, h1⟩
          exact ⟨⟨D, h1, h2, fun hF => hF.2 (.inr hD), (hkp D (.inr hD)).trans h4, h5⟩, ih (fun b ⟨e, he, hb⟩ => hsub b ⟨e, by simp [he], hb⟩) h6⟩
      exact key _ (fun _ h => h) hr.defers
    · rw [hm1]
      split
      · rename_i e; subst e; exact hρ00
      · rename_i hg
        have hob := hr.objs g
        cases hq : memNth s.mem g with
        | dead => trivial
        | cnt n => rw [hq] at hob; exact hρn _ _ hg hob
        | box ty cs =>
          rw [hq] at hob
          obtain ⟨bb, vs, k1, k2, k3, k4, k5, k6⟩ := hob
          have ho : Own s.mem ρ bb := ⟨g, _, by rw [hq]; rfl, k1, rfl⟩
          exact ⟨bb, vs, hρn _ _ hg k1, k2, (hkp bb (.inl ho)).trans k3, hav_ok h0p hρn k4, k5, hm0n _ ho⟩
        | vec e t l =>
          rw [hq] at hob
          obtain ⟨v, vs, k1, k2, k3, k4⟩ := hob
          simp only [AObj.hav]
          split
          · rename_i hfl
            have hkb : ∀ bb, v.ownBlock = some bb → Own s.mem ρ bb := fun bb hb => ⟨g, v, by rw [hq]; rfl, k1, ownBlock_of_blk hb⟩
            refine ⟨v, vs, hρn _ _ hg k1, rdL_flat hfl k2, ⟨k3.1, ?_⟩, fun bb hb => hm0n _ (hkb bb hb)⟩
            rcases k3.2 with h0 | ⟨g', cap, cur, rfl, hB, hg', r⟩
            · exact .inl h0
            · exact .inr ⟨g', cap, cur, rfl, hB, (hkp g' (.inl (hkb g' rfl))).trans hg', r⟩
          · trivial
    · obtain ⟨_, x2, x3⟩ := hlv g v bb l1 u1 b1
      obtain ⟨_, y2, y3⟩ := hlv g' v' bb l2 u2 b2
      exact hr.apart g g' v v' bb hne x2 y2 x3 y3 b1 b2
    · obtain ⟨_, x2, x3⟩ := hlv g v bb l1 u1 b1
      exact hF.2 (.inl ⟨g, v, x2, x3, b1⟩)
    · cases g with
      | zero => simp only [List.getElem?_cons_zero, Option.some.injEq] at hv; subst hv; exact hρ00
      | succ g => simp at hv
  refine hQ b s' _ _ _ hkk hTZ (Good.put hN hrel (v := .bool b) (by cases b <;> rfl) hd) fun i _ hst => ?_
  rw [hget]
  have h1 : look Y.fix i (s.get i).strip.hav = s.get i := hst
  have h2 : (s.get i).strip = s.get i := by
    have := kp_strip hfx i (s.get i)
    rw [hst] at this
    exact this
  rw [h2] at h1
  exact h1

theorem stepY_ok (hS : Sound P C) (hCy : C.yl = some Y) (hY : YOk P T m0 N Y) (hc0 : Cells m0) {D : Nat → Prop} {all : Array Oper} (hall : ∀ o ∈ all.toList, ∀ d, o.dst = some d → D d ∧ N.may d) {o : Oper} (ho : o ∈ all.toList) {s : St} {K : St → Prop} {a : Act} {w : World} (hT : T Z) (hg : Good P Z m0 N s a w)
    (h : stepY C Y all.toList o s K) {next : Act → World → Prop} {Q : Exit → Act → World → Prop} (hQ : ∀ s' Z' a' w', K s' → T Z' → FR C.yl D s s' → Good P Z' m0 N s' a' w' → next a' w') :
    if Region.wanted o (yielded all a.tmps) then o.wpIn (fz none) 0 P a w next Q else (∀ f, o.about P w a.eval = some f → (fz none).fn f) ∧ next (a.put o.dst undef) w := by
  have hfx : FixOk C.yl := hS.fixs
  obtain ⟨hN, m, ρ, hr⟩ := hg
  have go : ∀ s1 : St, Rel P Z m0 s1 m ρ a w → FR C.yl D s s1 → s1.mem = s.mem → (fNat s.mem.length lits fun nm => opY C Y o nm s1.ov s1.base s1.mem fun v s' => K (putS o.dst v s')) → o.wpIn (fz none) 0 P a w next Q := by
    intro s1 hr1 hf1 hm1 h1
    rw [fNat_eq, ← hm1] at h1
    unfold opY at h1
    split at h1
    · obtain ⟨hd, hres⟩ := op_ok (k := fun v e => fAVn C o.dst v fun v => effK s1.ov s1.base s1.mem s1.mem.length e fun s' => K (putS o.dst v s')) (nm := s1.mem.length) hS hr1 (.inl rfl) h1
      refine res_wp hres hd fun v w' ⟨av, e, m', ρ', k1, _, k2, k3⟩ => ?_
      simp only [fAVn_eq, effK_eq] at k1
      exact hQ _ Z _ _ k1 hT (hf1.trans ((FR.eff hfx s1 _ e).trans (FR.put _ (fun i hi => (hall o ho i hi).1)))) (Good.put hN k3 k2 (fun i hi => (hall o ho i hi).2))
    · split at h1
      case h_2 => exact h1.elim
      rename_i c hoc
      split at h1
      case h_2 => exact h1.elim
      rename_i x hx
      have hxe := hr1.eval x
      simp only [litIs] at h1
      split at h1
      case h_2 => exact h1.elim
      rename_i lv hlv
      obtain ⟨rfl, h1⟩ := h1
      rw [hlv] at hxe
      refine yld_ok hY hT hc0 (s := s1) hN hr1 hoc hx (List.cons.inj hxe).1 h1 (fun i hi => (hall o ho i hi).2) (by rw [← hCy]; exact hfx) fun b s' Z' a' w' k1 k2 k3 k4 => ?_
      refine hQ (putS o.dst (if b then .tt else .ff) s') Z' a' w' (by cases b <;> exact k1) k2 (hf1.trans (FR.trans ?_ (FR.put _ (fun i hi => (hall o ho i hi).1)))) k3
      rw [hCy]
      exact k4.mono fun _ hh => hh.elim
  obtain ⟨ov, base, mem⟩ := s
  simp only [stepY] at h
  cases hgd : o.guard with
  | none =>
    rw [hgd] at h
    rw [if_pos (by simp [Region.wanted, hgd])]
    exact go ⟨ov, base, mem⟩ hr (FR.refl _ _ _) rfl h
  | some jw =>
    obtain ⟨j, want⟩ := jw
    rw [hgd] at h
    obtain ⟨og, h1, h⟩ := withSome_iff.1 h
    obtain ⟨d, h2, h⟩ := withSome_iff.1 h
    have hog : og ∈ all.toList := List.mem_of_getElem? h1
    have hd := hall og hog d h2
    have hfr : ∀ av : AV, FR C.yl D ⟨ov, base, mem⟩ ⟨(d, av) :: ov, base, mem⟩ := fun av => FR.put (d := some d) (v := av) ⟨ov, base, mem⟩ (fun i hi => by injection hi with hi; rw [← hi]; exact hd.1)
    have hy : ∀ b, a.tmps.getD d undef = .bool b → yielded all a.tmps j = some b := by
      intro b hb
      have h1' : all[j]? = some og := by simpa using h1
      simp [yielded, h1', h2, get_bool hb]
    have skip : ∀ av : AV, av.ok P m ρ [a.tmps.getD d undef] → Region.wanted o (yielded all a.tmps) = false → K (putS o.dst .any ⟨(d, av) :: ov, base, mem⟩) →
        if Region.wanted o (yielded all a.tmps) then o.wpIn (fz none) 0 P a w next Q else (∀ f, o.about P w a.eval = some f → (fz none).fn f) ∧ next (a.put o.dst undef) w := by
      intro av hav hw hk
      rw [if_neg (by simp [hw])]
      exact ⟨fun _ _ => trivial, hQ _ Z _ _ hk hT ((hfr av).trans (FR.put _ (fun i hi => (hall o ho i hi).1))) (Good.put hN (hr.know hav) (av := .any) ⟨undef, rfl⟩ (fun i hi => (hall o ho i hi).2))⟩
    have run : ∀ av : AV, av.ok P m ρ [a.tmps.getD d undef] → Region.wanted o (yielded all a.tmps) = true → (fNat mem.length lits fun nm => opY C Y o nm ((d, av) :: ov) base mem fun v s' => K (putS o.dst v s')) →
        if Region.wanted o (yielded all a.tmps) then o.wpIn (fz none) 0 P a w next Q else (∀ f, o.about P w a.eval = some f → (fz none).fn f) ∧ next (a.put o.dst undef) w := by
      intro av hav hw hk
      rw [if_pos hw]
      exact go ⟨(d, av) :: ov, base, mem⟩ (hr.know hav) (hfr av) rfl hk
    have hslot := hr.slots d
    cases want with
    | true =>
      obtain ⟨b, hb, c1, c2⟩ := testK_ok h hslot
      cases b with
      | true => exact run .tt (by rw [hb]; rfl) (by simp [Region.wanted, hgd, hy _ hb]) (c1 rfl)
      | false => exact skip .ff (by rw [hb]; rfl) (by simp [Region.wanted, hgd, hy _ hb]) (c2 rfl)
    | false =>
      obtain ⟨b, hb, c1, c2⟩ := testK_ok h hslot
      cases b with
      | true => exact skip .tt (by rw [hb]; rfl) (by simp [Region.wanted, hgd, hy _ hb]) (c1 rfl)
      | false => exact run .ff (by rw [hb]; rfl) (by simp [Region.wanted, hgd, hy _ hb]) (c2 rfl)

theorem opsY_ok (hS : Sound P C) (hCy : C.yl = some Y) (hY : YOk P T m0 N Y) (hc0 : Cells m0) {D : Nat → Prop} {all : Array Oper} (hall : ∀ o ∈ all.toList, ∀ d, o.dst = some d → D d ∧ N.may d) {Q : Exit → Act → World → Prop} : ∀ (l : List Oper) (Z : Base) (s : St) (K : St → Prop) (a : Act) (w : World),
    (∀ o ∈ l, o ∈ all.toList) → T Z → Good P Z m0 N s a w → opsY C Y all.toList l s K → (∀ s' Z' a' w', K s' → T Z' → FR C.yl D s s' → Good P Z' m0 N s' a' w' → Q .normal a' w') → wpListIn (fz none) 0 P all Q l a w
  | [], Z, s, K, a, w, _, hT, hg, h, hQ => hQ s Z a w h hT (FR.refl _ _ _) hg
  | o :: rest, Z, s, K, a, w, hl, hT, hg, h, hQ => by
    unfold wpListIn
    exact stepY_ok hS hCy hY hc0 hall (hl o List.mem_cons_self) hT hg h fun s' Z' a' w' k1 k2 k3 k4 =>
      opsY_ok hS hCy hY hc0 hall rest Z' s' K a' w' (fun o' h' => hl o' (List.mem_cons_of_mem _ h')) k2 k4 k1 fun s'' Z'' a'' w'' j1 j2 j3 j4 => hQ s'' Z'' a'' w'' j1 j2 (k3.trans j3) j4

theorem allBits_ok {A : Nat} : ∀ {i : Nat}, allBits A i = true → ∀ k, k < i → A.testBit k = true
  | 0, _, k, hk => by omega
  | i + 1, h, k, hk => by
    simp only [allBits] at h
    split at h
    · rename_i h1
      by_cases e : k = i
      · subst e; exact h1
      · exact allBits_ok h k (by omega)
    · cases h
theorem seqFrom_ok {T : List Nat} {n : Nat} : ∀ {f i : Nat}, seqFrom T n i f = true → ∀ j, i ≤ j → j < i + f → j < n → ∀ k, k < j → (T.getD j 0).testBit k = true
  | 0, i, _, j, h1, h2, _, _, _ => by omega
  | f + 1, i, h, j, h1, h2, h3, k, hk => by
    simp only [seqFrom] at h
    split at h
    · rename_i hb
      have : ¬ i < n := fun hh => by
        have : Nat.blt i n = true := by
          simp only [Nat.blt, Nat.ble_eq]
          exact hh
        rw [this] at hb; cases hb
      omega
    · split at h
      · rename_i hb
        by_cases e : j = i
        · subst e; exact allBits_ok hb k hk
        · exact seqFrom_ok h j (by omega) (by omega) h3 k hk
      · cases h
theorem gdBack_ok : ∀ {l : List Oper} {i : Nat}, gdBack l i = true → ∀ (j : Nat) (o : Oper), l[j]? = some o → ∀ q, o.guard = some q → q.1 < i + j
  | [], _, _, j, o, hj, _, _ => by simp at hj
  | x :: r, i, h, j, o, hj, q, hq => by
    simp only [gdBack] at h
    cases j with
    | zero =>
      simp only [List.getElem?_cons_zero, Option.some.injEq] at hj
      subst hj
      obtain ⟨g, wnt⟩ := q
      rw [hq] at h
      simp only at h
      split at h
      · rename_i hb
        simp only [Nat.blt, Nat.ble_eq] at hb
        show g < i + 0
        omega
      · cases h
    | succ j =>
      have hr : gdBack r (i + 1) = true := by
        split at h
        · split at h
          · exact h
          · cases h
        · exact h
      have := gdBack_ok hr j o (by simpa using hj) q hq
      omega

theorem drawY_ok (hS : Sound P C) (hCy : C.yl = some Y) (hY : YOk P T m0 N Y) (hc0 : Cells m0) {D : Nat → Prop} {all : Array Oper} {id : Nat} (hall : ∀ o ∈ all.toList, ∀ d, o.dst = some d → D d ∧ N.may d) {Q : Exit → Act → World → Prop} {y : Nat} (hy : yOk all.toList y = true) (hya : y ≤ all.size) {s : St} {K : St → Prop} {a : Act} {w : World} (hT : T Z) (hg : Good P Z m0 N s a w)
    (h : drawK C (all.toList.take y) s.mem.length 0 (all.toList.take y) ⟨s.ov, s.base, padMem s.mem (all.toList.take y)⟩ [] fun s1 => opsY C Y all.toList (all.toList.drop y) s1 K) (hQ : ∀ s' Z' a' w', K s' → T Z' → FR C.yl D s s' → Good P Z' m0 N s' a' w' → Q .normal a' w') : (Code.region id all true).wpIn (fz none) 0 P Q a w := by
  obtain ⟨hN, m, ρ, hr⟩ := hg
  refine wpIn_region_any hS.mixed ?_
  unfold yOk at hy
  have hy3 : backOk all.toList 0 = true ∧ gdBack all.toList 0 = true ∧ seqFrom (ancs [] all.toList) all.toList.length y all.toList.length = true := by
    revert hy
    cases backOk all.toList 0 <;> cases gdBack all.toList 0 <;> intro hy <;> first | cases hy | exact ⟨rfl, rfl, hy⟩
  obtain ⟨hbk, hgb, hsq⟩ := hy3
  obtain ⟨pre, hpre⟩ : ∃ pre : Array Oper, pre = (all.toList.take y).toArray := ⟨_, rfl⟩
  have hpl : pre.toList = all.toList.take y := by rw [hpre]
  have hps : pre.size = y := by rw [hpre]; simp; omega
  have hpat : ∀ i, i < y → pre[i]? = all[i]? := fun i hi => by rw [hpre]; simp [List.getElem?_take, hi]
  rw [← hpl] at h
  obtain ⟨Tr, s', hlen, hchk, hch, hst, hK⟩ := drawK_tr (s0 := ⟨s.ov, s.base, padMem s.mem pre.toList⟩) pre.toList 0 _ [] h rfl ⟨fun _ => ⟨s.ov, s.base, padMem s.mem pre.toList⟩, rfl, rfl, fun n I h => by simp at h⟩ (fun k I h => by simp at h) (fun k o h => by rw [Nat.zero_add]; exact h) (by simp)
  have hM : s.mem.length + Tr.length ≤ (⟨s.ov, s.base, padMem s.mem pre.toList⟩ : St).mem.length := by simp [padMem_eq, hlen]
  have hrows := rowsOk_ok (all := pre.toList) (T := ancs [] pre.toList) (r := Tr) (pre := []) (by
    unfold chk at hchk
    cases hb : backOk pre.toList 0 <;> rw [hb] at hchk
    · cases hchk
    · exact hchk)
  have hprem : ∀ o ∈ pre.toList, o ∈ all.toList := fun o ho => by rw [hpl] at ho; exact List.mem_of_mem_take ho
  have hanc : ∀ {L' : Nat → Bool}, Down all.toList L' → ∀ j k, L' j = true → ((ancs [] all.toList).getD j 0).testBit k = true → L' k = true := fun hd => ancs_ok hd (T := []) (fun j o h => by simpa using h) (fun j k _ h => by simp at h)
  -- the first part is over
  have finA : ∀ (pl : Array Bool) (a : Act) (w : World), (∀ k, k < y → pl.getD k false = true) → DInv P Z m0 N pre Tr ⟨s.ov, s.base, padMem s.mem pre.toList⟩ s.mem.length pl a w → ∃ s1, opsY C Y all.toList (all.toList.drop y) s1 K ∧ Good P Z m0 N s1 a w ∧ FR C.yl D s s1 := by
    intro pl a w hup hI
    obtain ⟨⟨s2, m2, ρ2, f1, f2, f3, f4, _⟩, _⟩ := hI
    obtain ⟨σ, c1, c2, c3⟩ := hch
    have hσ := chain_fs (s := s') c1 c3 (fun k J hJ => (hrows k J hJ).1) Tr.length (Nat.le_refl _)
    rw [c2] at hσ
    have e : stF Tr (fun i => pl.getD i false) (fs ⟨s.ov, s.base, padMem s.mem pre.toList⟩) Tr.length = stF Tr (fun _ => true) (fs ⟨s.ov, s.base, padMem s.mem pre.toList⟩) Tr.length := stF_ext fun k hk => hup k (by rw [hlen] at hk; simp at hk; omega)
    refine ⟨s', hK, ⟨f3, m2, ρ2, f4.of_fs (f1.trans (e.trans hσ.1.symm)) (f2.trans hσ.2.symm)⟩, ?_⟩
    have hfr : ∀ k, k ≤ Tr.length → FR C.yl D ⟨s.ov, s.base, padMem s.mem pre.toList⟩ (σ k) := by
      intro k
      induction k with
      | zero => intro _; rw [c1]; exact FR.refl _ _ _
      | succ k ih =>
        intro hk
        have hJ : Tr[k]? = some Tr[k] := List.getElem?_eq_getElem (by omega)
        obtain ⟨a1, a2⟩ := c3 k _ hJ
        have hkk := ih (by omega)
        rw [← a1] at hkk
        rw [a2]
        exact hkk.trans ((FR.eff hS.fixs _ _ _).trans (FR.put _ fun i hi => (hall _ (hprem _ (List.mem_of_getElem? (hst k _ hJ).1)) i hi).1))
    have := hfr Tr.length (Nat.le_refl _)
    rw [c2] at this
    exact this
  let IA : Array Bool → Act → World → Prop := fun l a w => ∃ pl : Array Bool, pl.size = y ∧ (∀ k, k < y → l.getD k false = pl.getD k false) ∧ (∀ k, y ≤ k → l.getD k false = false) ∧ DInv P Z m0 N pre Tr ⟨s.ov, s.base, padMem s.mem pre.toList⟩ s.mem.length pl a w
  let IB : Array Bool → Act → World → Prop := fun l a w => ∃ i, y ≤ i ∧ i ≤ all.size ∧ (∀ k, k < i → l.getD k false = true) ∧ (∀ k, i ≤ k → l.getD k false = false) ∧ ∃ Z1 s1, T Z1 ∧ opsY C Y all.toList (all.toList.drop i) s1 K ∧ Good P Z1 m0 N s1 a w ∧ FR C.yl D s s1
  have toB : ∀ l a w, IA l a w → (∀ k, k < y → l.getD k false = true) → IB l a w := by
    rintro l a w ⟨pl, p1, p2, p3, p4⟩ hup
    obtain ⟨s1, q1, q2, q3⟩ := finA pl a w (fun k hk => by rw [← p2 k hk]; exact hup k hk) p4
    exact ⟨y, Nat.le_refl _, hya, hup, p3, Z, s1, hT, q1, q2, q3⟩
  -- a step of the second part
  have stepB : ∀ l a w i, l.size = all.size → IB l a w → i ∈ Region.ready .any all l → (∀ k, k < i → l.getD k false = true) → wpOpIn (fz none) 0 P all Q i (fun a w => IA (l.setIfInBounds i true) a w ∨ IB (l.setIfInBounds i true) a w) a w := by
    rintro l a w i hl ⟨i0, b1, b2, b3, b4, Z1, s1, b5, b6, b7, b8⟩ hi hall2
    obtain ⟨hir, hun, hpr⟩ := Ls.ready_of hi
    have hLi : l.getD i false = false := by
      have e : l.getD i true = l.getD i false := by simp [Array.getD, show i < l.size by omega]
      rw [← e]; exact hun
    have h1 : i0 ≤ i := by
      rcases Nat.lt_or_ge i i0 with h | h
      · rw [b3 i h] at hLi; cases hLi
      · exact h
    have h2 : i = i0 := by
      rcases Nat.lt_or_ge i0 i with h | h
      · have := hall2 i0 h
        rw [b4 i0 (Nat.le_refl _)] at this; cases this
      · omega
    subst h2
    have ho : all[i]? = some all[i] := Array.getElem?_eq_getElem hir
    have hdrop : all.toList.drop i = all[i] :: all.toList.drop (i + 1) := by
      rw [List.drop_eq_getElem_cons (by simpa using hir)]
      simp
    rw [hdrop] at b6
    unfold wpOpIn
    rw [ho]
    refine stepY_ok hS hCy hY hc0 hall (by simp) b5 b7 b6 fun s2 Z2 a2 w2 k1 k2 k3 k4 => .inr ?_
    have hins := congrFun (getD_ins (l := l) (i := i) (by omega))
    refine ⟨i + 1, by omega, by omega, fun k hk => ?_, fun k hk => ?_, Z2, s2, k2, k1, k4, b8.trans k3⟩
    · have := hins k
      simp only [ins] at this
      rw [this]
      split
      · rfl
      · exact b3 k (by omega)
    · have := hins k
      simp only [ins] at this
      rw [this, if_neg (by omega)]
      exact b4 k (by omega)
  have downOf : ∀ l i, l.size = all.size → i ∈ Region.ready .any all l → Down all.toList (fun k => l.getD k false) → ∀ k, y ≤ i → k < i → l.getD k false = true := by
    intro l i hl hi hdn k hyi hki
    obtain ⟨hir, hun, hpr⟩ := Ls.ready_of hi
    have hd : Down all.toList (ins (fun k => l.getD k false) i) := by
      intro j o hj hLj e he hb
      by_cases hji : j = i
      · subst hji
        have := hpr o (by simpa using hj) e (by simpa using he) hb
        show (if e.on = j then true else l.getD e.on false) = true
        split
        · rfl
        · exact this
      · have h2 : l.getD j false = true := by simpa [ins, hji] using hLj
        have := hdn j o hj h2 e he hb
        show (if e.on = i then true else l.getD e.on false) = true
        split
        · rfl
        · exact this
    have hbit := seqFrom_ok hsq i hyi (by simp; omega) (by simpa using hir) k hki
    have := hanc hd i k (by simp [ins]) hbit
    simpa [ins, show k ≠ i by omega] using this
  have downA : ∀ l a w, IA l a w → Down all.toList (fun k => l.getD k false) := by
    rintro l a w ⟨pl, p1, p2, p3, p4⟩ j o hj hLj e he hb
    have hjy : j < y := by
      rcases Nat.lt_or_ge j y with h | h
      · exact h
      · have hLj : l.getD j false = true := hLj
        rw [p3 j h] at hLj; cases hLj
    have hlt := backOk_ok (all := all.toList) hbk j o hj e he hb
    have h1 : pl.getD j false = true := by rw [← p2 j hjy]; exact hLj
    have := p4.down j o (by rw [hpl, List.getElem?_take, if_pos hjy]; exact hj) h1 e he hb
    show l.getD e.on false = true
    rw [p2 e.on (by omega)]
    exact this
  have downB : ∀ l a w, IB l a w → Down all.toList (fun k => l.getD k false) := by
    rintro l a w ⟨i0, b1, b2, b3, b4, _⟩ j o hj hLj e he hb
    have hji : j < i0 := by
      rcases Nat.lt_or_ge j i0 with h | h
      · exact h
      · have hLj : l.getD j false = true := hLj
        rw [b4 j h] at hLj; cases hLj
    have hlt := backOk_ok (all := all.toList) hbk j o hj e he hb
    exact b3 e.on (by omega)
  refine Ls.wpAnyIn_inv (fun l a w => IA l a w ∨ IB l a w) (fun l a w i hl hI hi => ?_) (fun l a w hl hI hready => ?_) all.size _ a _ (by simp) ?_ (.inl ?_)
  · rcases hI with hA | hB
    · rcases Nat.lt_or_ge i y with hiy | hiy
      · have hA' := hA
        obtain ⟨pl, p1, p2, p3, p4⟩ := hA
        obtain ⟨hir, hun, hpr⟩ := Ls.ready_of hi
        have hrdy : i ∈ Region.ready .any pre pl := by
          refine mem_ready.2 ⟨?_, all[i], by rw [hpat i hiy]; exact Array.getElem?_eq_getElem hir, fun e he hb => ?_⟩
          · have e1 : l.getD i true = l.getD i false := by simp [Array.getD, show i < l.size by omega]
            have e2 : pl.getD i true = pl.getD i false := by simp [Array.getD, show i < pl.size by omega]
            rw [e2, ← p2 i hiy, ← e1]; exact hun
          · have hlt := backOk_ok (all := all.toList) hbk i all[i] (by simp [hir]) e (by simpa using he) hb
            rw [← p2 e.on (by omega)]
            exact hpr all[i] (Array.getElem?_eq_getElem hir) e he hb
        have hstep := draw_step (r := none) (n := 0) (Q := Q) hS (fun o ho d hd => (hall o (hprem o ho) d hd).2) hlen hchk hch hst hM (by rw [p1, hps]) p4 hrdy
        have hw : wpOpIn (fz none) 0 P all Q i (DInv P Z m0 N pre Tr ⟨s.ov, s.base, padMem s.mem pre.toList⟩ s.mem.length (pl.setIfInBounds i true)) a w := by
          unfold wpOpIn at hstep ⊢
          rw [hpat i hiy] at hstep
          have ho : all[i]? = some all[i] := Array.getElem?_eq_getElem hir
          rw [ho] at hstep ⊢
          simp only at hstep ⊢
          have e : Region.wanted all[i] (yielded all a.tmps) = Region.wanted all[i] (yielded pre a.tmps) := by
            unfold Region.wanted
            cases hgd : all[i].guard with
            | none => rfl
            | some q =>
              have hq := gdBack_ok hgb i all[i] (by simp [hir]) q hgd
              obtain ⟨j, wnt⟩ := q
              simp only
              have : yielded all a.tmps j = yielded pre a.tmps j := by unfold yielded; rw [hpat j (by simp at hq; omega)]
              rw [this]
          rw [e]
          exact hstep
        refine wpOpIn_mono (fun a2 w2 hD => .inl ⟨pl.setIfInBounds i true, by simp [p1], fun k hk => ?_, fun k hk => ?_, hD⟩) hw
        · rw [congrFun (getD_ins (l := l) (i := i) (by omega)) k, congrFun (getD_ins (l := pl) (i := i) (by omega)) k]
          simp only [ins, p2 k hk]
        · rw [congrFun (getD_ins (l := l) (i := i) (by omega)) k]
          simp only [ins]
          rw [if_neg (by omega)]
          exact p3 k hk
      · have hup := downOf l i hl hi (downA l a w hA)
        exact stepB l a w i hl (toB l a w hA fun k hk => hup k hiy (by omega)) hi fun k hk => hup k hiy hk
    · have hB' := hB
      obtain ⟨i0, b1, b2, b3, b4, _⟩ := hB
      obtain ⟨hir, hun, hpr⟩ := Ls.ready_of hi
      have hLi : l.getD i false = false := by
        have e : l.getD i true = l.getD i false := by simp [Array.getD, show i < l.size by omega]
        rw [← e]; exact hun
      have hiy : y ≤ i := by
        rcases Nat.lt_or_ge i i0 with h | h
        · rw [b3 i h] at hLi; cases hLi
        · omega
      exact stepB l a w i hl hB' hi fun k hk => downOf l i hl hi (downB l a w hB') k hiy hk
  · have hup := all_up hbk hl hready
    have hB : IB l a w := by
      rcases hI with hA | hB
      · exact toB l a w hA fun k hk => hup k (by omega)
      · exact hB
    obtain ⟨i0, b1, b2, b3, b4, Z1, s1, b5, b6, b7, b8⟩ := hB
    have : i0 = all.size := by
      rcases Nat.lt_or_ge i0 all.size with h | h
      · have := hup i0 h; rw [b4 i0 (Nat.le_refl _)] at this; cases this
      · omega
    subst this
    rw [List.drop_eq_nil_of_le (by simp)] at b6
    exact hQ s1 Z1 a w b6 b5 b8 b7
  · unfold Ls.pend
    have := List.count_le_length (a := false) (l := (Array.replicate all.size false).toList)
    simp
  · have hL : ∀ (n k : Nat), (Array.replicate n false).getD k false = false := fun n k => by simp [Array.getD]
    refine ⟨Array.replicate y false, by simp, fun k _ => by rw [hL, hL], fun k _ => hL _ k, ⟨⟨s.ov, s.base, padMem s.mem pre.toList⟩, m, ρ ++ List.replicate pre.toList.length (.bool false), (stF_none Tr _ (hL _) _).symm, rfl, hN, (hr.pad pre.toList).drew, fun i hi _ => ⟨false, ?_⟩⟩, fun j o _ hj => by have hj : (Array.replicate y false).getD j false = true := hj; rw [hL] at hj; cases hj⟩
    rw [← hr.len, List.getElem?_append_right (by omega)]
    rw [hlen] at hi
    simp only [Nat.add_sub_cancel_left]
    rw [List.getElem?_replicate]
    simp only [Array.length_toList] at hi ⊢
    rw [if_pos hi]
end
end Eng

/- Code over abstract values: the conditions suffice. No condition. -/
set_option linter.unusedVariables false
set_option linter.unusedSimpArgs false
namespace Eng
open Go Go.RowKit

section
variable {P : Program} {w0 : Base} {m0 : View} {C : Ctx} {N : Frm}

/-! ### Loops -/
theorem least {p : Nat → Prop} (h : ∃ n, p n) : ∃ n, p n ∧ ∀ m, p m → n ≤ m := by
  obtain ⟨n, hn⟩ := h
  induction n using Nat.strongRecOn with
  | _ n ih =>
    by_cases hq : ∃ k, k < n ∧ p k
    · obtain ⟨k, hk, hp⟩ := hq; exact ih k hk hp
    · exact ⟨n, hn, fun m hm => Nat.le_of_not_lt fun hlt => hq ⟨m, hlt, hm⟩⟩

/-- A loop over states that a variable tells: the measure is the variable's. -/
theorem loop_ghost {S : Type} {F : Fence} {n : Nat} {c : Code} {Q : Exit → Act → World → Prop} {a : Act} {w : World} (G : S → Act → World → Prop) (μ : S → Nat) (x0 : S) (h0 : G x0 a w)
    (round : ∀ x a w, G x a w → c.wpIn F n P (Exit.then (fun a' w' => ∃ x', μ x' < μ x ∧ G x' a' w') Q) a w) : (Code.loop c).wpIn F n P Q a w := by
  classical
  let p : Act → World → Nat → Prop := fun a w k => ∃ x, μ x = k ∧ G x a w
  let M : Act → World → Nat := fun a w => if h : ∃ k, p a w k then Classical.choose (least h) else 0
  refine wpIn_loop (fun a w => ∃ x, G x a w) M ⟨x0, h0⟩ fun a w hI => ?_
  have hex : ∃ k, p a w k := by obtain ⟨x, hx⟩ := hI; exact ⟨μ x, x, rfl, hx⟩
  have hM : M a w = Classical.choose (least hex) := by simp only [M]; rw [dif_pos hex]
  obtain ⟨hp, hmin⟩ := Classical.choose_spec (least hex)
  obtain ⟨x, hx1, hx2⟩ := hp
  refine wpIn_mono (round x a w hx2) fun e a' w' hq => ?_
  cases e with
  | normal =>
    obtain ⟨x', k1, k2⟩ := hq
    refine ⟨⟨x', k2⟩, ?_⟩
    have hex' : ∃ k, p a' w' k := ⟨μ x', x', rfl, k2⟩
    have hM' : M a' w' = Classical.choose (least hex') := by simp only [M]; rw [dif_pos hex']
    have := (Classical.choose_spec (least hex')).2 (μ x') ⟨x', rfl, k2⟩
    rw [hM, hM', ← hx1] at *
    omega
  | _ => exact hq

def headS (y : Option YSpec) (sl : List (Nat × AV)) (mem : List AObj) (ds : List Nat) (s0 : St) : St := ⟨sl, fun i => match ds.elem i with
  | true => .any
  | false => kpK y i (s0.get i), mem⟩
theorem headK_eq (y : Option YSpec) (sl : List (Nat × AV)) (mem : List AObj) (ds : List Nat) (s0 : St) (k : St → Prop) : headK y sl mem ds s0 k = k (headS y sl mem ds s0) := by
  simp only [headK, fOv_eq, fMem_eq]; rfl

theorem strip_ok {m : View} {ρ : List Value} {av : AV} : ∀ {vs : List Value}, av.ok P m ρ vs → av.strip.ok P m ρ vs := by
  induction av with
  | own g => intro vs k; obtain ⟨v, _, k2⟩ := k; exact ⟨v, k2⟩
  | optr g t i off => intro vs k; obtain ⟨b, n, c, _, k2⟩ := k; exact ⟨_, k2⟩
  | imm cs off ih => intro vs k; obtain ⟨ad, us, k1, k2, k3⟩ := k; exact ⟨ad, us, k1, ih k2, k3⟩
  | clo f caps ih => intro vs k; obtain ⟨cs, k1, k2⟩ := k; exact ⟨cs, k1, ih k2⟩
  | agg l ih => intro vs k; obtain ⟨cs, k1, k2⟩ := k; exact ⟨cs, k1, ih k2⟩
  | tup l ih => intro vs k; obtain ⟨cs, k1, k2⟩ := k; exact ⟨cs, k1, ih k2⟩
  | cons a b iha ihb => intro vs k; obtain ⟨v, rest, k1, k2, k3⟩ := k; exact ⟨v, rest, k1, iha k2, ihb k3⟩
  | _ => intro vs k; exact k
theorem bnd_ok {m : View} {ρ : List Value} {n : Nat} {av : AV} : ∀ {vs : List Value}, av.bnd n = true → av.ok P m ρ vs → av.ok P m (ρ.take n) vs := by
  have tk : ∀ (g : Nat) (v : Value), Nat.blt g n = true → ρ[g]? = some v → (ρ.take n)[g]? = some v := fun g v hg hv => by
    have hg' : g < n := by simp [Nat.blt] at hg; omega
    rw [List.getElem?_take, if_pos hg']; exact hv
  induction av with
  | own g => intro vs h k; obtain ⟨v, ⟨k1, k3⟩, k2⟩ := k; exact ⟨v, ⟨tk g v h k1, k3⟩, k2⟩
  | box g off => intro vs h k; obtain ⟨b, k1, k2⟩ := k; exact ⟨b, tk g _ h k1, k2⟩
  | optr g t i off => intro vs h k; obtain ⟨b, nn, c, k1, k2⟩ := k; exact ⟨b, nn, c, tk g _ h k1, k2⟩
  | imm cs off ih => intro vs h k; obtain ⟨ad, us, k1, k2, k3⟩ := k; exact ⟨ad, us, k1, ih h k2, k3⟩
  | clo f caps ih => intro vs h k; obtain ⟨cs, k1, k2⟩ := k; exact ⟨cs, k1, ih h k2⟩
  | agg l ih => intro vs h k; obtain ⟨cs, k1, k2⟩ := k; exact ⟨cs, k1, ih h k2⟩
  | tup l ih => intro vs h k; obtain ⟨cs, k1, k2⟩ := k; exact ⟨cs, k1, ih h k2⟩
  | cons a b iha ihb =>
    intro vs h k
    obtain ⟨v, rest, k1, k2, k3⟩ := k
    simp only [AV.bnd] at h
    split at h
    · rename_i h1; exact ⟨v, rest, k1, iha h1 k2, ihb h k3⟩
    · cases h
  | _ => intro vs h k; exact k
theorem ok_bnd {m : View} {ρ : List Value} {av : AV} : ∀ {vs : List Value}, av.ok P m ρ vs → av.bnd ρ.length = true := by
  have lt : ∀ (g : Nat) (v : Value), ρ[g]? = some v → Nat.blt g ρ.length = true := fun g v hv => by
    have := (List.getElem?_eq_some_iff.1 hv).1; simp [Nat.blt]; omega
  induction av with
  | own g => intro vs k; obtain ⟨v, ⟨k1, _⟩, _⟩ := k; exact lt g v k1
  | box g off => intro vs k; obtain ⟨b, k1, _⟩ := k; exact lt g _ k1
  | optr g t i off => intro vs k; obtain ⟨b, nn, c, k1, _⟩ := k; exact lt g _ k1
  | imm cs off ih => intro vs k; obtain ⟨ad, us, k1, k2, k3⟩ := k; exact ih k2
  | clo f caps ih => intro vs k; obtain ⟨cs, k1, k2⟩ := k; exact ih k2
  | agg l ih => intro vs k; obtain ⟨cs, k1, k2⟩ := k; exact ih k2
  | tup l ih => intro vs k; obtain ⟨cs, k1, k2⟩ := k; exact ih k2
  | cons a b iha ihb =>
    intro vs k
    obtain ⟨v, rest, k1, k2, k3⟩ := k
    simp only [AV.bnd, iha k2, ihb k3]
  | _ => intro vs k; rfl
theorem strip_bnd {n : Nat} {av : AV} (h : av.bnd n = true) : av.strip.bnd n = true := by
  induction av with
  | imm cs off ih => exact ih h
  | clo f c ih => exact ih h
  | agg c ih => exact ih h
  | tup c ih => exact ih h
  | cons a b iha ihb =>
    simp only [AV.bnd] at h
    split at h
    · rename_i h1; simp only [AV.strip, AV.bnd, iha h1, ihb h]
    · cases h
  | own g => rfl
  | optr g t i off => rfl
  | _ => exact h

theorem litEq_eq {v u : Value} (h : litEq v u) : v = u := by
  unfold litEq at h
  split at h
  · split at h
    · split at h
      · rename_i hk; have hk := of_decide_eq_true hk; subst hk; subst h; rfl
      · exact h.elim
    · exact h
  · split at h
    · rw [h]
    · exact h
  · exact h
theorem same_ok {a b : Nat} {p : Prop} (h : same a b p) : a = b ∧ p := by
  unfold same at h
  split at h
  · rename_i e; exact ⟨Nat.eq_of_beq_eq_true e, h⟩
  · exact h.elim
theorem ifNil_ok {v : Value} {p : Prop} (h : ifNil v p) : v = .slice none 0 0 ∧ p := by
  unfold ifNil at h
  split at h
  · rename_i e
    refine ⟨?_, h⟩
    unfold isNil at e
    split at e
    · split at e
      · split at e
        · rfl
        · cases e
      · cases e
    · cases e
  · exact h.elim
/-- The names from b on are nil. -/
def Born (ρ : List Value) (b : Option Nat) (v' : AV) : Prop := ∀ b0, b = some b0 → ∃ n, v'.bnd n = true ∧ ∀ g, b0 ≤ g → g < n → ρ[g]? = some (.slice none 0 0)
theorem Born.none {ρ : List Value} {v' : AV} : Born ρ none v' := fun _ h => by cases h
theorem bnd_cons {n : Nat} {a b : AV} (h : (AV.cons a b).bnd n = true) : a.bnd n = true ∧ b.bnd n = true := by
  simp only [AV.bnd] at h
  split at h
  · rename_i h1; exact ⟨h1, h⟩
  · cases h
theorem le_ok {m : View} {ρ : List Value} {b : Option Nat} {v : AV} : ∀ {v' : AV} {vs : List Value}, Born ρ b v' → AV.le b v v' → v.ok P m ρ vs → v'.ok P m ρ vs := by
  induction v with
  | nil => intro v' vs hB h k; cases v' <;> first | exact h.elim | exact k
  | cons a b iha ihb =>
    intro v' vs hB h k
    cases v' <;> first | exact h.elim | skip
    obtain ⟨v, rest, k1, k2, k3⟩ := k
    exact ⟨v, rest, k1, iha (fun b0 e => by obtain ⟨n, q1, q2⟩ := hB b0 e; exact ⟨n, (bnd_cons q1).1, q2⟩) h.1 k2, ihb (fun b0 e => by obtain ⟨n, q1, q2⟩ := hB b0 e; exact ⟨n, (bnd_cons q1).2, q2⟩) h.2 k3⟩
  | any => intro v' vs hB h k; cases v' <;> first | exact h.elim | exact k
  | lit x =>
    intro v' vs hB h k
    obtain rfl : vs = [x] := k
    cases v' <;> first | exact h.elim | exact ⟨_, rfl⟩ | skip
    · exact congrArg (fun y => [y]) (litEq_eq h)
    · obtain ⟨rfl, hl⟩ := ifNil_ok h
      subst hl
      exact ⟨none, 0, rfl, Nat.le_refl _, by unfold maxLen; simp, fun hh => absurd hh (by simp)⟩
    · rename_i g
      cases b with
      | none => exact h.elim
      | some b0 =>
        simp only [AV.le] at h
        split at h
        · rename_i hle
          obtain ⟨rfl, -⟩ := ifNil_ok h
          obtain ⟨n, q1, q2⟩ := hB b0 rfl
          have hlt : g < n := Nat.lt_of_succ_le (by simpa [AV.bnd, Nat.blt] using q1)
          exact ⟨_, ⟨q2 g (Nat.le_of_ble_eq_true hle) hlt, rfl⟩, rfl⟩
        · exact h.elim
  | tt =>
    intro v' vs hB h k
    obtain rfl : vs = [_] := k
    cases v' <;> first | exact h.elim | exact ⟨_, rfl⟩ | exact rfl | exact congrArg (fun y => [y]) (litEq_eq h)
  | ff =>
    intro v' vs hB h k
    obtain rfl : vs = [_] := k
    cases v' <;> first | exact h.elim | exact ⟨_, rfl⟩ | exact rfl | exact congrArg (fun y => [y]) (litEq_eq h)
  | dat t l =>
    intro v' vs hB h k
    cases v' <;> first | exact h.elim | skip
    · obtain ⟨A, c, rfl, _⟩ := k; exact ⟨_, rfl⟩
    · simp only [AV.le, castL_eq] at h
      obtain ⟨rfl, hl⟩ := h
      obtain rfl := hl l HEq.rfl
      exact k
  | own g =>
    intro v' vs hB h k
    cases v' <;> first | exact h.elim | skip
    · obtain ⟨u, _, rfl⟩ := k; exact ⟨_, rfl⟩
    · obtain ⟨rfl, -⟩ := same_ok h; exact k
  | box g o =>
    intro v' vs hB h k
    cases v' <;> first | exact h.elim | skip
    · obtain ⟨u, _, rfl⟩ := k; exact ⟨_, rfl⟩
    · obtain ⟨rfl, h2⟩ := same_ok h; obtain ⟨rfl, -⟩ := same_ok h2; exact k
  | dptr t l i o =>
    intro v' vs hB h k
    cases v' <;> first | exact h.elim | skip
    · obtain ⟨_, ad, cs, rfl, _⟩ := k; exact ⟨_, rfl⟩
    · simp only [AV.le, castL_eq] at h
      obtain ⟨rfl, hl⟩ := h
      obtain ⟨rfl, rfl, rfl⟩ := hl l HEq.rfl
      exact k
  | optr g t i o =>
    intro v' vs hB h k
    cases v' <;> first | exact h.elim | skip
    obtain ⟨b, n, c, _, rfl⟩ := k; exact ⟨_, rfl⟩
  | imm c o ih =>
    intro v' vs hB h k
    cases v' <;> first | exact h.elim | skip
    · obtain ⟨ad, us, rfl, _⟩ := k; exact ⟨_, rfl⟩
    · obtain ⟨h1, rfl⟩ := h
      obtain ⟨ad, us, k1, k2, k3⟩ := k
      exact ⟨ad, us, k1, ih hB h1 k2, k3⟩
  | fn a r p f =>
    intro v' vs hB h k
    cases v' <;> first | exact h.elim | skip
    · obtain ⟨u, rfl, _⟩ := k; exact ⟨_, rfl⟩
    · obtain ⟨rfl, rfl, h1, h2⟩ := h
      obtain rfl := eq_of_heq h1
      obtain rfl := eq_of_heq h2
      exact k
  | clo f c ih =>
    intro v' vs hB h k
    cases v' <;> first | exact h.elim | skip
    · obtain ⟨u, rfl, _⟩ := k; exact ⟨_, rfl⟩
    · obtain ⟨rfl, h1⟩ := same_ok h
      obtain ⟨cs, k1, k2⟩ := k
      exact ⟨cs, k1, ih hB h1 k2⟩
  | agg c ih =>
    intro v' vs hB h k
    cases v' <;> first | exact h.elim | skip
    · obtain ⟨u, rfl, _⟩ := k; exact ⟨_, rfl⟩
    · obtain ⟨cs, k1, k2⟩ := k
      exact ⟨cs, k1, ih hB h k2⟩
  | tup c ih =>
    intro v' vs hB h k
    cases v' <;> first | exact h.elim | skip
    · obtain ⟨u, rfl, _⟩ := k; exact ⟨_, rfl⟩
    · obtain ⟨cs, k1, k2⟩ := k
      exact ⟨cs, k1, ih hB h k2⟩

theorem look_cases {b : Option Nat} {s' : St} {n : Nat} {i : Nat} {d : AV} : ∀ {sl : List (Nat × AV)}, slotsLe b s' sl → slotsBnd n sl = true → (look sl i d = d ∧ ∀ p ∈ sl, p.1 ≠ i) ∨ (AV.le b (s'.get i) (look sl i d) ∧ (look sl i d).bnd n = true)
  | [], _, _ => .inl ⟨rfl, fun p hp => by cases hp⟩
  | (j, v) :: r, h, hb => by
    simp only [slotsBnd] at hb
    split at hb
    · rename_i hv
      simp only [look]
      split
      · rename_i e; have e := Nat.eq_of_beq_eq_true e; subst e; exact .inr ⟨h.1, hv⟩
      · rename_i e
        rcases look_cases (i := i) (d := d) h.2 hb with ⟨h1, h2⟩ | h1
        · refine .inl ⟨h1, fun p hp => ?_⟩
          rcases List.mem_cons.1 hp with rfl | hp
          · intro e'
            have e' : j = i := e'
            subst e'
            simp at e
          · exact h2 p hp
        · exact .inr h1
    · cases hb

theorem memLe_nth {b : Option Nat} : ∀ {m m' : List AObj}, memLe b m m' → ∀ g, AObj.le b (memNth m g) (memNth m' g) ∨ (b ≠ none ∧ m.length ≤ g ∧ ∃ e t, memNth m' g = .vec e t [])
  | m, [], _, g => .inl (by cases memNth m g <;> trivial)
  | o :: r, o' :: r', h, 0 => .inl h.1
  | o :: r, o' :: r', h, g + 1 => by
    rcases memLe_nth h.2 g with k | ⟨k1, k2, k3⟩
    · exact .inl k
    · exact .inr ⟨k1, by simpa using k2, k3⟩
  | [], o' :: r', h, g => by
    cases b with
    | none => exact h.elim
    | some b0 =>
      cases o' with
      | vec e t l =>
        obtain ⟨h1, h2⟩ := h
        cases g with
        | zero => exact .inr ⟨by simp, by simp, e, t, by simp only [memNth]; rw [h1]⟩
        | succ g =>
          rcases memLe_nth h2 g with k | ⟨k1, k2, k3⟩
          · exact .inl k
          · exact .inr ⟨k1, by simp, k3⟩
      | _ => exact h.elim
theorem memBnd_nth {n : Nat} : ∀ {m : List AObj}, memBnd n m = true → ∀ g ty c, memNth m g = .box ty c → c.bnd n = true
  | [], _, g, ty, c, h => by cases h
  | .box t d :: r, hb, 0, ty, c, h => by
    simp only [memBnd] at hb
    split at hb
    · rename_i hd; simp only [memNth, AObj.box.injEq] at h; rw [← h.2]; exact hd
    · cases hb
  | .box t d :: r, hb, g + 1, ty, c, h => by
    simp only [memBnd] at hb
    split at hb
    · exact memBnd_nth hb g ty c h
    · cases hb
  | .dead :: r, hb, 0, ty, c, h => by cases h
  | .dead :: r, hb, g + 1, ty, c, h => memBnd_nth (m := r) hb g ty c h
  | .cnt _ :: r, hb, 0, ty, c, h => by cases h
  | .cnt _ :: r, hb, g + 1, ty, c, h => memBnd_nth (m := r) hb g ty c h
  | .vec _ _ _ :: r, hb, 0, ty, c, h => by cases h
  | .vec _ _ _ :: r, hb, g + 1, ty, c, h => memBnd_nth (m := r) hb g ty c h

/-- Headers at a loop's head: those that are, and nil ones behind them. -/
def headρ (ρ : List Value) (n : Nat) : List Value := (ρ ++ List.replicate n (Value.slice none 0 0)).take n
theorem headρ_old {ρ : List Value} {n g : Nat} {v : Value} (hg : g < n) (h : ρ[g]? = some v) : (headρ ρ n)[g]? = some v := by
  unfold headρ
  rw [List.getElem?_take, if_pos hg, List.getElem?_append_left (List.getElem?_eq_some_iff.1 h).1]; exact h
theorem headρ_new {ρ : List Value} {n g : Nat} (hg : g < n) (h : ρ.length ≤ g) : (headρ ρ n)[g]? = some (.slice none 0 0) := by
  unfold headρ
  rw [List.getElem?_take, if_pos hg, List.getElem?_append_right h, List.getElem?_replicate, if_pos (by omega)]
theorem headρ_back {ρ : List Value} {n g : Nat} {v : Value} (h : (headρ ρ n)[g]? = some v) : ρ[g]? = some v ∨ v = .slice none 0 0 := by
  unfold headρ at h
  rw [List.getElem?_take] at h
  split at h
  · rcases Nat.lt_or_ge g ρ.length with hl | hl
    · rw [List.getElem?_append_left hl] at h; exact .inl h
    · rw [List.getElem?_append_right hl, List.getElem?_replicate] at h
      split at h
      · exact .inr (Option.some.inj h).symm
      · cases h
  · cases h

/-- The state at a loop's head, out of one that says as much. -/
theorem hav_self {m : View} {ρ : List Value} {av : AV} : ∀ {vs : List Value}, av.ok P m ρ vs → av.hav.ok P m ρ vs := by
  induction av with
  | any => intro vs k; exact k
  | lit v => intro vs k; exact k
  | tt => intro vs k; exact k
  | ff => intro vs k; exact k
  | dat t l => intro vs k; obtain ⟨A, c, rfl, _⟩ := k; exact ⟨_, rfl⟩
  | own g =>
    intro vs k
    cases g with
    | zero => obtain ⟨v, k1, k2⟩ := k; exact ⟨v, k2⟩
    | succ g => exact k
  | box g off => intro vs k; exact k
  | dptr t l i off => intro vs k; obtain ⟨_, ad, cs, rfl, _⟩ := k; exact ⟨_, rfl⟩
  | optr g t i off => intro vs k; obtain ⟨b, n, c, _, rfl⟩ := k; exact ⟨_, rfl⟩
  | imm cs off ih => intro vs k; obtain ⟨ad, us, rfl, _⟩ := k; exact ⟨_, rfl⟩
  | fn a r p f => intro vs k; obtain ⟨fv, rfl, _⟩ := k; exact ⟨_, rfl⟩
  | clo f caps ih => intro vs k; obtain ⟨cs, rfl, _⟩ := k; exact ⟨_, rfl⟩
  | agg l ih => intro vs k; obtain ⟨cs, k1, k2⟩ := k; exact ⟨cs, k1, ih k2⟩
  | tup l ih => intro vs k; obtain ⟨cs, k1, k2⟩ := k; exact ⟨cs, k1, ih k2⟩
  | nil => intro vs k; exact k
  | cons a b iha ihb => intro vs k; obtain ⟨v, rest, k1, k2, k3⟩ := k; exact ⟨v, rest, k1, iha k2, ihb k3⟩
theorem hav_bnd {n : Nat} {av : AV} (h : av.bnd n = true) : av.hav.bnd n = true := by
  induction av with
  | own g => cases g with
    | zero => rfl
    | succ g => exact h
  | box g off => exact h
  | agg c ih => exact ih h
  | tup c ih => exact ih h
  | cons a b iha ihb =>
    obtain ⟨h1, h2⟩ := bnd_cons h
    simp only [AV.hav, AV.bnd, iha h1, ihb h2]
  | _ => rfl
theorem bmono {v : AV} {k k' : Nat} (hk : k ≤ k') : v.bnd k = true → v.bnd k' = true := by
  have lt : ∀ g : Nat, Nat.blt g k = true → Nat.blt g k' = true := fun g hg => by
    have : g < k := Nat.lt_of_succ_le (by simpa [Nat.blt] using hg)
    have h2 : g + 1 ≤ k' := by omega
    simpa [Nat.blt] using h2
  induction v with
  | own g => exact lt g
  | box g off => exact lt g
  | optr g t i off => exact lt g
  | imm cs off ih => exact ih
  | clo f c ih => exact ih
  | agg c ih => exact ih
  | tup c ih => exact ih
  | cons a b iha ihb =>
    intro hh
    obtain ⟨q1, q2⟩ := bnd_cons hh
    simp only [AV.bnd, iha q1, ihb q2]
  | _ => exact fun hh => hh
theorem kp_ok {y : Option YSpec} {m : View} {ρ : List Value} {n : Nat} {i : Nat} {v : AV} {u : Value} (hf : ∀ Y, y = some Y → ∀ p ∈ Y.fix, p.1 = i → p.2.ok P m [] [u]) (hv : v.ok P m ρ [u]) (hb : v.bnd n = true) : (kpK y i v).ok P m ρ [u] ∧ (kpK y i v).bnd n = true := by
  cases y with
  | none => exact ⟨strip_ok hv, strip_bnd hb⟩
  | some Y =>
    show (look Y.fix i v.strip.hav).ok P m ρ [u] ∧ (look Y.fix i v.strip.hav).bnd n = true
    rcases look_mem (i := i) (d := v.strip.hav) (l := Y.fix) with ⟨e, _⟩ | h
    · rw [e]; exact ⟨hav_self (strip_ok hv), hav_bnd (strip_bnd hb)⟩
    · have h1 := hf Y rfl _ h rfl
      exact ⟨AV.ok_le (View.le_refl m) nil_ext h1, bmono (Nat.zero_le n) (ok_bnd (ρ := []) h1)⟩
theorem head_rel {y : Option YSpec} {m : View} {ρ : List Value} {b : Option Nat} {s' s0 : St} {a : Act} {w : World} {sl : List (Nat × AV)} {mem : List AObj} {ds : List Nat} (h : Rel P w0 m0 s' m ρ a w) (h1 : slotsLe b s' sl) (h2 : memLe b s'.mem mem) (h3 : slotsBnd mem.length sl = true) (h4 : memBnd mem.length mem = true)
    (hpin : ∀ (g : Nat) v, w0.ρ[g]? = some v → pinV v = true → g < mem.length) (h5 : ∀ b0, b = some b0 → b0 = s'.mem.length) (hbase : ∀ i, ds.elem i = false → (∀ p ∈ sl, p.1 ≠ i) → (kpK y i (s0.get i)).ok P m ρ [a.tmps.getD i undef] ∧ (kpK y i (s0.get i)).bnd mem.length = true) : Rel P w0 m0 (headS y sl mem ds s0) m (headρ ρ mem.length) a w := by
  have big : ∀ {v : AV} {vs : List Value}, v.ok P m ρ vs → v.ok P m (ρ ++ List.replicate mem.length (Value.slice none 0 0)) vs := fun hv => AV.ok_le (View.le_refl m) (fun g u hg _ => by rw [List.getElem?_append_left (List.getElem?_eq_some_iff.1 hg).1]; exact hg) hv
  have hB : ∀ {v' : AV}, v'.bnd mem.length = true → Born (ρ ++ List.replicate mem.length (Value.slice none 0 0)) b v' := fun {v'} hv b0 e => ⟨mem.length, hv, fun g h1 h2 => by
    have := h5 b0 e
    rw [List.getElem?_append_right (by rw [h.len]; omega), List.getElem?_replicate, if_pos (by omega)]⟩
  have live : ∀ g u bb, (memNth mem g).live = true → (headρ ρ mem.length)[g]? = some u → blk u = some bb → (memNth s'.mem g).live = true ∧ ρ[g]? = some u := by
    intro g u bb hl hu hbb
    have hρ : ρ[g]? = some u := by
      rcases headρ_back hu with h | rfl
      · exact h
      · cases hbb
    refine ⟨?_, hρ⟩
    rcases memLe_nth h2 g with k | ⟨_, k2, _⟩
    · cases hq : memNth s'.mem g <;> cases hq' : memNth mem g <;> rw [hq, hq'] at k <;> first | rfl | exact k.elim | (rw [hq'] at hl; cases hl)
    · have := (List.getElem?_eq_some_iff.1 hρ).1; rw [h.len] at this; omega
  refine ⟨fun i => ?_, ?_, fun v hv => ?_, h.defers, fun g => ?_, fun g g' v v' bb hne l1 l2 q1 q2 b1 b2 => ?_, h.view, h.ext, h.new, h.below, fun g u bb hl hu hb => h.zone g u bb (live g u bb hl hu hb).1 (live g u bb hl hu hb).2 hb, fun g p hp hv => headρ_old (hpin g p hp hv) (h.pins g p hp hv)⟩
  · show (look sl i (match ds.elem i with | true => .any | false => kpK y i (s0.get i))).ok P m _ _
    rcases look_cases (i := i) (d := match ds.elem i with | true => .any | false => kpK y i (s0.get i)) h1 h3 with ⟨e, hno⟩ | ⟨e1, e2⟩
    · rw [e]
      cases hd : ds.elem i with
      | true => exact ⟨_, rfl⟩
      | false => obtain ⟨k1, k2⟩ := hbase i hd hno; exact bnd_ok k2 (big k1)
    · exact bnd_ok e2 (le_ok (hB e2) e1 (big (h.slots i)))
  · show (headρ ρ mem.length).length = mem.length
    unfold headρ
    rw [List.length_take, List.length_append, List.length_replicate]; omega
  · unfold headρ at hv
    rcases List.mem_append.1 (List.mem_of_mem_take hv) with hv | hv
    · exact h.hdr v hv
    · rw [(List.mem_replicate.1 hv).2]; rfl
  · show ObjOk P m _ w _ g (memNth mem g)
    have ho := h.objs g
    cases hq' : memNth mem g with
    | dead => trivial
    | cnt k =>
      have hg : g < mem.length := lt_of_live (by rw [hq']; rfl)
      rcases memLe_nth h2 g with hle | ⟨_, _, e, t, hle⟩
      · cases hq : memNth s'.mem g <;> rw [hq, hq'] at hle <;> first | exact hle.elim | skip
        rw [hq] at ho
        obtain rfl : _ = k := hle
        exact headρ_old hg ho
      · rw [hq'] at hle; cases hle
    | box ty c =>
      have hg : g < mem.length := lt_of_live (by rw [hq']; rfl)
      rcases memLe_nth h2 g with hle | ⟨_, _, e, t, hle⟩
      · cases hq : memNth s'.mem g <;> rw [hq, hq'] at hle <;> first | exact hle.elim | skip
        rw [hq] at ho
        obtain ⟨b, vs, k1, k2, k3, k4, k5, k6⟩ := ho
        obtain ⟨rfl, hc⟩ := same_ok hle
        have hbn := memBnd_nth h4 g _ _ hq'
        exact ⟨b, vs, headρ_old hg k1, k2, k3, bnd_ok hbn (le_ok (hB hbn) hc (big k4)), k5, k6⟩
      · rw [hq'] at hle; cases hle
    | vec e t l =>
      have hg : g < mem.length := lt_of_live (by rw [hq']; rfl)
      rcases memLe_nth h2 g with hle | ⟨_, hlen, e', t', hle⟩
      · cases hq : memNth s'.mem g <;> rw [hq, hq'] at hle <;> first | exact hle.elim | skip
        rw [hq] at ho
        obtain ⟨rfl, hle2⟩ := same_ok hle
        obtain ⟨rfl, hl⟩ := castL_ok hle2
        obtain rfl := hl _ HEq.rfl
        obtain ⟨v, vs, k1, k2, k3, k4⟩ := ho
        exact ⟨v, vs, headρ_old hg k1, k2, k3, k4⟩
      · rw [hq'] at hle
        injection hle with e1 e2 e3
        subst e1 e2
        obtain rfl := eq_of_heq e3
        exact ⟨_, [], headρ_new hg (by rw [h.len]; exact hlen), rfl, ⟨by simp, .inl ⟨rfl, rfl⟩⟩, fun b hb => by simp [Value.ownBlock] at hb⟩
  · obtain ⟨x1, x2⟩ := live g v bb l1 q1 b1
    obtain ⟨y1, y2⟩ := live g' v' bb l2 q2 b2
    exact h.apart g g' v v' bb hne x1 y1 x2 y2 b1 b2

theorem die_rel {y : Option YSpec} (hf : FixOk y) {D : Nat → Prop} {mem' : List AObj} {a : Act} {w : World} {K : St → Prop} {ρ : List Value} : ∀ (r : List AObj) (i : Nat) (s : St) (m : View), (∀ j e t l, r[j]? = some (.vec e t l) → memNth s.mem (i + j) = .vec e t l) → Rel P w0 m0 s m ρ a w → dieK mem' i r s K → ∃ s1 m1, K s1 ∧ m.le m1 ∧ Rel P w0 m0 s1 m1 ρ a w ∧ FR y D s s1 ∧ s1.mem.length = s.mem.length
  | [], i, s, m, _, hg, h => ⟨s, m, h, View.le_refl m, hg, FR.refl _ _ _, rfl⟩
  | o :: r, i, s, m, hr, hg, h => by
    have skip : dieK mem' (i + 1) r s K → ∃ s1 m1, K s1 ∧ m.le m1 ∧ Rel P w0 m0 s1 m1 ρ a w ∧ FR y D s s1 ∧ s1.mem.length = s.mem.length := fun h => die_rel hf r (i + 1) s m (fun j e t l hj => by rw [show i + 1 + j = i + (j + 1) by omega]; exact hr (j + 1) e t l hj) hg h
    cases o with
    | vec e t l =>
      simp only [dieK] at h
      split at h
      · obtain ⟨ov, base, mem⟩ := s
        rw [effK_eq ⟨ov, base, mem⟩] at h
        have hm : memNth mem i = .vec e t l := hr 0 e t l rfl
        obtain ⟨m', h1, h2, h3⟩ := hg.freeze (nm := 0) hm
        have hlen : (effS ⟨ov, base, mem⟩ 0 (.freeze i t l)).mem.length = mem.length := by
          show (memSet (substMem i (.dat t l) mem) i .dead).length = _
          rw [memSet_length _ _ _ (by rw [substMem_length]; exact lt_of_live (by rw [hm]; rfl)), substMem_length]
        obtain ⟨s1, m1, k1, k0, k2, k3, k4⟩ := die_rel hf r (i + 1) (effS ⟨ov, base, mem⟩ 0 (.freeze i t l)) m' (fun j e' t' l' hj => by
          show memNth (memSet (substMem i (.dat t l) mem) i .dead) _ = _
          rw [memNth_set _ _ _ _ (by rw [substMem_length]; exact lt_of_live (by rw [hm]; rfl)), if_neg (by omega), memNth_subst]
          rw [show i + 1 + j = i + (j + 1) by omega, hr (j + 1) e' t' l' hj]
          rfl) h2 h
        exact ⟨s1, m1, k1, View.le_trans h1 k0, k2, (FR.eff hf _ _ _).trans k3, k4.trans hlen⟩
      · exact skip h
    | dead => exact skip h
    | cnt k => exact skip h
    | box ty c => exact skip h
theorem memNth_at : ∀ (l : List AObj) (j : Nat) (o : AObj), l[j]? = some o → memNth l (0 + j) = o
  | [], j, o, h => by simp at h
  | x :: r, 0, o, h => by simpa [memNth] using h
  | x :: r, j + 1, o, h => by
    have := memNth_at r j o (by simpa using h)
    rw [Nat.zero_add] at this ⊢
    exact this
theorem sameNames_mem : ∀ {sl : List (Nat × AV)} {l : List Nat}, sameNames sl l = true → ∀ p ∈ sl, p.1 ∈ l
  | [], [], _, p, hp => by cases hp
  | (i, v) :: r, j :: l, h, p, hp => by
    simp only [sameNames] at h
    split at h
    · rename_i e
      have e := Nat.eq_of_beq_eq_true e
      rcases List.mem_cons.1 hp with rfl | hp
      · exact List.mem_cons.2 (.inl e)
      · exact List.mem_cons_of_mem _ (sameNames_mem h p hp)
    · cases h
  | [], _ :: _, h, p, hp => by cases h
  | _ :: _, [], h, p, hp => by cases h

def XK.out : XK → Exit
  | .normal => .normal
  | .exit id => .exit id
  | .ret => .ret

/-- A state at one of some bases. -/
def GoodT (P : Program) (T : Base → Prop) (m0 : View) (N : Frm) (s : St) (a : Act) (w : World) : Prop := ∃ Z, T Z ∧ Good P Z m0 N s a w
structure Cls (P : Program) (C : Ctx) (T : Base → Prop) (m0 : View) (N : Frm) (r : Option Nat) (n : Nat) : Prop where
  pins : ∀ Z Z', T Z → T Z' → ∀ (g : Nat) v, Z.ρ[g]? = some v → pinV v = true → ∃ v', Z'.ρ[g]? = some v' ∧ pinV v' = true
  yl : ∀ Y, C.yl = some Y → r = none ∧ n = 0 ∧ YOk P T m0 N Y
theorem Cls.one (h : C.yl = none) (Z : Base) (r : Option Nat) (n : Nat) : Cls P C (fun Z' => Z' = Z) m0 N r n :=
  ⟨fun Z1 Z2 e1 e2 g v h1 h2 => by subst e1; subst e2; exact ⟨v, h1, h2⟩, fun Y e => by rw [h] at e; cases e⟩
theorem yIx_le {sl : List Nat} : ∀ {l : List Oper} {i y : Nat}, yIx sl l i = some y → y ≤ i + l.length
  | [], i, y, h => by cases h
  | o :: r, i, y, h => by
    simp only [yIx] at h
    split at h
    · injection h with h; simp; omega
    · have := yIx_le h; simp; omega

/-- THE CONDITIONS SUFFICE. -/
theorem vc_ok (hS : Sound P C) {iv : Nat → Option Inv} : ∀ (c : Code) (T : Base → Prop) (m0 : View) (r : Option Nat) (n : Nat) (hC : Cls P C T m0 N r n) (hmc : m0.cells = m0) (hrr : noRange c = true ∨ r = none) (i : Nat) (K : XK → St → Prop) (s : St) (a : Act) (w : World) (Q : Exit → Act → World → Prop), (∀ d ∈ dsts iv c i, N.may d) → GoodT P T m0 N s a w → vc C iv c i K s →
    (∀ e s' a' w', K e s' → FR C.yl (fun j => j ∈ dsts iv c i) s s' → GoodT P T m0 N s' a' w' → Q e.out a' w') → c.wpIn (fz r) n P Q a w := by
  intro c
  induction c with
  | skip => intro T m0 r n hC hmc hrr i K s a w Q hd hg h hQ; exact wpIn_skip (hQ .normal s a w h (FR.refl _ _ _) hg)
  | region id ops draw =>
    intro T m0 r n hC hmc hrr i K s a w Q hd hg h hQ
    have hall : ∀ o ∈ ops.toList, ∀ d, o.dst = some d → d ∈ dsts iv (.region id ops draw) i ∧ N.may d := fun o ho d hod => by
      have hm : d ∈ dsts iv (.region id ops draw) i := List.mem_filterMap.2 ⟨o, ho, hod⟩
      exact ⟨hm, hd d hm⟩
    obtain ⟨w0, hT, hg⟩ := hg
    have drawn : (match s with
        | ⟨ov, base, mem⟩ => fMem (padMem mem ops.toList) fun mem' => fNat mem.length lits fun n0 => drawK C ops.toList n0 0 ops.toList ⟨ov, base, mem'⟩ [] (K .normal)) → (Code.region id ops true).wpIn (fz r) n P Q a w := by
      intro h
      obtain ⟨ov, base, mem⟩ := s
      simp only at h
      rw [fMem_eq, fNat_eq] at h
      exact draw_ok (D := fun j => j ∈ dsts iv (.region id ops draw) i) hS hall hg h fun s' a' w' q1 q2 q3 => hQ .normal s' a' w' q1 q2 ⟨w0, hT, q3⟩
    cases hyl : C.yl with
    | none =>
      simp only [vc, hyl] at h
      cases draw with
      | true => exact drawn h
      | false => exact wpIn_region_list (ops_ok (D := fun j => j ∈ dsts iv (.region id ops false) i) hS hall ops.toList s (K .normal) a w (fun o ho => ho) hg h fun s' a' w' q1 q2 q3 => hQ .normal s' a' w' q1 q2 ⟨w0, hT, q3⟩)
    | some Y =>
      simp only [vc, hyl] at h
      obtain ⟨rfl, rfl, hYO⟩ := hC.yl Y hyl
      have hc0 : Cells m0 := by rw [← hmc]; exact Cells.of
      cases draw with
      | false => exact wpIn_region_list (opsY_ok (D := fun j => j ∈ dsts iv (.region id ops false) i) hS hyl hYO hc0 hall ops.toList w0 s (K .normal) a w (fun o ho => ho) hT hg h fun s' Z' a' w' q1 q2 q3 q4 => hQ .normal s' a' w' q1 q3 ⟨Z', q2, q4⟩)
      | true =>
        cases hyx : yIx Y.slots ops.toList 0 with
        | none => rw [hyx] at h; exact drawn h
        | some y =>
          rw [hyx] at h
          simp only at h
          cases hyk : yOk ops.toList y with
          | false => rw [hyk] at h; exact h.elim
          | true =>
            rw [hyk] at h
            obtain ⟨ov, base, mem⟩ := s
            simp only at h
            rw [fMem_eq, fNat_eq] at h
            exact drawY_ok (D := fun j => j ∈ dsts iv (.region id ops true) i) hS hyl hYO hc0 hall hyk (by have := yIx_le hyx; simpa using this) hT hg h fun s' Z' a' w' q1 q2 q3 q4 => hQ .normal s' a' w' q1 q3 ⟨Z', q2, q4⟩
  | seq x y ihx ihy =>
    intro T m0 r n hC hmc hrr i K s a w Q hd hg h hQ
    have hx : ∀ d ∈ dsts iv x i, d ∈ dsts iv (.seq x y) i := fun d h => List.mem_append.2 (.inl h)
    have hy : ∀ d ∈ dsts iv y (i + loops x), d ∈ dsts iv (.seq x y) i := fun d h => List.mem_append.2 (.inr h)
    have hrr2 : (noRange x = true ∨ r = none) ∧ (noRange y = true ∨ r = none) := by
      rcases hrr with h | h
      · simp only [noRange] at h; split at h <;> simp_all
      · exact ⟨.inr h, .inr h⟩
    refine wpIn_seq (ihx T m0 r n hC hmc hrr2.1 i _ s a w _ (fun d h => hd d (hx d h)) hg h fun e s' a' w' q1 q2 q3 => ?_)
    have q2' := q2.mono hx
    cases e with
    | normal => exact ihy T m0 r n hC hmc hrr2.2 (i + loops x) K s' a' w' Q (fun d h => hd d (hy d h)) q3 q1 fun e s'' a'' w'' p1 p2 p3 => hQ e s'' a'' w'' p1 (q2'.trans (p2.mono hy)) p3
    | exit id => exact hQ (.exit id) s' a' w' q1 q2' q3
    | ret => exact hQ .ret s' a' w' q1 q2' q3
  | cond x y z ihy ihz =>
    intro T m0 r n hC hmc hrr i K s a w Q hd hg h hQ
    obtain ⟨ov, base, mem⟩ := s
    obtain ⟨w0, hT, hN, m, ρ, hr⟩ := hg
    simp only [vc] at h
    obtain ⟨b, hb, h1, h2⟩ := testK_ok h (hr.eval x)
    have hy : ∀ d ∈ dsts iv y i, d ∈ dsts iv (.cond x y z) i := fun d h => List.mem_append.2 (.inl h)
    have hz : ∀ d ∈ dsts iv z (i + loops y), d ∈ dsts iv (.cond x y z) i := fun d h => List.mem_append.2 (.inr h)
    have hrr2 : (noRange y = true ∨ r = none) ∧ (noRange z = true ∨ r = none) := by
      rcases hrr with h | h
      · simp only [noRange] at h; split at h <;> simp_all
      · exact ⟨.inr h, .inr h⟩
    refine wpIn_cond hb ?_
    cases b with
    | true => exact ihy T m0 r n hC hmc hrr2.1 i K _ a w Q (fun d h => hd d (hy d h)) ⟨w0, hT, hN, m, ρ, hr⟩ (h1 rfl) fun e s' a' w' q1 q2 q3 => hQ e s' a' w' q1 (q2.mono hy) q3
    | false => exact ihz T m0 r n hC hmc hrr2.2 (i + loops y) K _ a w Q (fun d h => hd d (hz d h)) ⟨w0, hT, hN, m, ρ, hr⟩ (h2 rfl) fun e s' a' w' q1 q2 q3 => hQ e s' a' w' q1 (q2.mono hz) q3
  | block id x ih =>
    intro T m0 r n hC hmc hrr i K s a w Q hd hg h hQ
    refine wpIn_block (ih T m0 r n hC hmc hrr i _ s a w _ hd hg h fun e s' a' w' q1 q2 q3 => ?_)
    cases e with
    | normal => exact hQ .normal s' a' w' q1 q2 q3
    | ret => exact hQ .ret s' a' w' q1 q2 q3
    | exit j =>
      simp only at q1
      show (if j = id then Q .normal a' w' else Q (.exit j) a' w')
      cases hb : Nat.beq j id <;> rw [hb] at q1
      · rw [if_neg (fun e => by subst e; simp at hb)]
        exact hQ (.exit j) s' a' w' q1 q2 q3
      · rw [if_pos (Nat.eq_of_beq_eq_true hb)]
        exact hQ .normal s' a' w' q1 q2 q3
  | loop x ih =>
    intro T m0 r n hC hmc hrr i K s a w Q hd hg h hQ
    simp only [vc] at h
    obtain ⟨V0, hV0, h⟩ := withSome_iff.1 h
    rw [fNat_eq] at h
    obtain ⟨V, hV, h⟩ := withSome_iff.1 h
    obtain ⟨p, x0, hI0, hdie⟩ := h
    obtain ⟨w0, hT, hNg, mg, ρg, hrg⟩ := hg
    obtain ⟨s1, mg1, hcond, -, hrg1, hfr1, -⟩ := die_rel hS.fixs (D := fun j => j ∈ dsts iv (.loop x) i) s.mem 0 s mg (fun j e t l hj => memNth_at _ _ _ hj) hrg hdie
    have hg1 : Good P w0 m0 N s1 a w := ⟨hNg, mg1, ρg, hrg1⟩
    suffices main : ∀ s : St, Good P w0 m0 N s a w → ((fNat s.mem.length lits fun b0 => slotsLe (some b0) s (V.slots p x0) ∧ memLe (some b0) s.mem (V.mem p x0)) ∧ ∀ y : V.S, V.I p y →
      match slotsBnd V.size (V.slots p y), memBnd V.size (V.mem p y), Nat.beq (V.mem p y).length V.size, sameNames (V.slots p y) V0.names, Nat.ble s.mem.length V.size with
      | true, true, true, true, true => headK C.yl (V.slots p y) (V.mem p y) (dsts iv (.loop x) i) s (vc C iv x (i + 1) (fun e s' => match e with
        | .normal => ∃ x' : V.S, V.I p x' ∧ V.μ p x' < V.μ p y ∧ dieK (V.mem p x') 0 s'.mem s' fun s' => slotsLe .none s' (V.slots p x') ∧ memLe .none s'.mem (V.mem p x')
        | e => K e s'))
      | _, _, _, _, _ => False) → (∀ e s' a' w', K e s' → FR C.yl (fun j => j ∈ dsts iv (.loop x) i) s s' → GoodT P T m0 N s' a' w' → Q e.out a' w') → (Code.loop x).wpIn (fz r) n P Q a w from
      main s1 hg1 hcond fun e s' a' w' q1 q2 q3 => hQ e s' a' w' q1 (hfr1.trans q2) q3
    clear hcond hg1 hfr1 hdie hQ hrg1 hrg s1
    intro s hg h hQ
    obtain ⟨hsm, hround⟩ := h
    rw [fNat_eq] at hsm
    obtain ⟨hs0, hm0⟩ := hsm
    obtain ⟨hN, m, ρ, hr⟩ := hg
    have hds : dsts iv (.loop x) i = V0.names ++ dsts iv x (i + 1) := by simp only [dsts, hV0]
    have chk : ∀ y, V.I p y → (slotsBnd V.size (V.slots p y) = true ∧ memBnd V.size (V.mem p y) = true ∧ Nat.beq (V.mem p y).length V.size = true ∧ sameNames (V.slots p y) V0.names = true ∧ Nat.ble s.mem.length V.size = true) ∧ vc C iv x (i + 1) (fun e s' => match e with
        | .normal => ∃ x' : V.S, V.I p x' ∧ V.μ p x' < V.μ p y ∧ dieK (V.mem p x') 0 s'.mem s' fun s' => slotsLe none s' (V.slots p x') ∧ memLe none s'.mem (V.mem p x')
        | e => K e s') (headS C.yl (V.slots p y) (V.mem p y) (dsts iv (.loop x) i) s) := by
      intro y hy
      have := hround y hy
      revert this
      cases slotsBnd V.size (V.slots p y) <;> cases memBnd V.size (V.mem p y) <;> cases Nat.beq (V.mem p y).length V.size <;> cases sameNames (V.slots p y) V0.names <;> cases Nat.ble s.mem.length V.size <;> intro this <;> first | exact False.elim this | skip
      simp only [headK_eq] at this
      exact ⟨⟨rfl, rfl, rfl, rfl, rfl⟩, this⟩
    let ds := dsts iv (.loop x) i
    have hpin0 : ∀ (g : Nat) v, w0.ρ[g]? = some v → pinV v = true → g < V.size := fun g v hv hp => by
      have h1 := (List.getElem?_eq_some_iff.1 (hr.pins g v hv hp)).1
      rw [hr.len] at h1
      obtain ⟨⟨_, _, _, _, c5⟩, _⟩ := chk x0 hI0
      exact Nat.lt_of_lt_of_le h1 (Nat.le_of_ble_eq_true c5)
    have hpin : ∀ Z, T Z → ∀ (g : Nat) v, Z.ρ[g]? = some v → pinV v = true → g < V.size := fun Z hZ g v hv hp => by
      obtain ⟨v', h1, h2⟩ := hC.pins Z w0 hZ hT g v hv hp
      exact hpin0 g v' h1 h2
    have hbase0 : ∀ j, (kpK C.yl j (s.get j)).ok P m ρ [a.tmps.getD j undef] ∧ (kpK C.yl j (s.get j)).bnd s.mem.length = true := fun j => kp_ok (fun Y hy p hp e => by
      obtain ⟨_, _, hYO⟩ := hC.yl Y hy
      have h1 := hYO.fix p hp a hN
      rw [e] at h1
      exact AV.ok_le hr.ext (fun _ _ h _ => h) h1) (hr.slots j) (by rw [← hr.len]; exact ok_bnd (hr.slots j))
    refine loop_ghost (fun (y : V.S) a' w' => V.I p y ∧ GoodT P T m0 N (headS C.yl (V.slots p y) (V.mem p y) ds s) a' w') (V.μ p) x0 ?_ ?_
    · obtain ⟨⟨c1, c2, c3, c4, c5⟩, _⟩ := chk x0 hI0
      have c3 := Nat.eq_of_beq_eq_true c3
      refine ⟨hI0, w0, hT, hN, m, headρ ρ (V.mem p x0).length, head_rel hr hs0 hm0 (by rw [c3]; exact c1) (by rw [c3]; exact c2) (fun g v hv hp => by rw [c3]; exact hpin0 g v hv hp) (fun b0 e => (Option.some.inj e).symm) fun j _ _ => ?_⟩
      rw [c3]; exact ⟨(hbase0 j).1, bmono (Nat.le_of_ble_eq_true c5) (hbase0 j).2⟩
    · rintro y a' w' ⟨hy, hgy⟩
      obtain ⟨⟨c1, c2, c3, c4, c5⟩, hb⟩ := chk y hy
      refine ih T m0 r n hC hmc hrr (i + 1) _ _ a' w' _ (fun d h => hd d (by rw [hds]; exact List.mem_append.2 (.inr h))) hgy hb fun e s' a'' w'' q1 q2 q3 => ?_
      have hfr : FR C.yl (fun j => j ∈ dsts iv (.loop x) i) s s' := by
        intro j hj hst
        have hnj : j ∉ V0.names ∧ j ∉ dsts iv x (i + 1) := by rw [hds] at hj; exact ⟨fun h => hj (List.mem_append.2 (.inl h)), fun h => hj (List.mem_append.2 (.inr h))⟩
        have hhead : (headS C.yl (V.slots p y) (V.mem p y) ds s).get j = kpK C.yl j (s.get j) := by
          show look (V.slots p y) j (match ds.elem j with | true => .any | false => kpK C.yl j (s.get j)) = _
          have hel : ds.elem j = false := by
            cases hq : ds.elem j with
            | false => rfl
            | true => exact absurd (by simpa using hq) hj
          rw [hel]
          have : ∀ (sl : List (Nat × AV)) (d : AV), (∀ p ∈ sl, p.1 ≠ j) → look sl j d = d := by
            intro sl
            induction sl with
            | nil => intro d _; rfl
            | cons p sl ihs =>
              intro d hp
              obtain ⟨q, v⟩ := p
              have hne := hp (q, v) List.mem_cons_self
              have : Nat.beq q j = false := by cases hb : Nat.beq q j with | false => rfl | true => exact absurd (Nat.eq_of_beq_eq_true hb) hne
              simp only [look, this]
              exact ihs d fun p' h' => hp p' (List.mem_cons_of_mem _ h')
          exact this _ _ fun p hp e => hnj.1 (by rw [← e]; exact sameNames_mem c4 p hp)
        have := q2 j hnj.2 (by rw [hhead, kp_kp])
        rw [this, hhead, hst]
      cases e with
      | normal =>
        obtain ⟨y', hy', hμ, hdie'⟩ := q1
        obtain ⟨Z', hTZ, hN', mg, ρ', hrg⟩ := q3
        obtain ⟨s2, m', ⟨hs', hm'⟩, -, hr', hfr2, -⟩ := die_rel hS.fixs (D := fun j => j ∈ dsts iv x (i + 1)) s'.mem 0 s' mg (fun j e t l hj => memNth_at _ _ _ hj) hrg hdie'
        have q2 := q2.trans hfr2
        clear hdie' hfr hfr2
        obtain ⟨⟨d1, d2, d3, d4, d5⟩, _⟩ := chk y' hy'
        have d3 := Nat.eq_of_beq_eq_true d3
        refine ⟨y', hμ, hy', Z', hTZ, hN', m', headρ ρ' (V.mem p y').length, head_rel hr' hs' hm' (by rw [d3]; exact d1) (by rw [d3]; exact d2) (fun g v hv hp => by rw [d3]; exact hpin Z' hTZ g v hv hp) (fun b0 e => by cases e) fun j hj hno => ?_⟩
        have hjn : j ∉ dsts iv (.loop x) i := fun h => by
          have : ds.elem j = true := by simpa using h
          rw [this] at hj; cases hj
        have hnj : j ∉ dsts iv x (i + 1) := fun h => hjn (by rw [hds]; exact List.mem_append.2 (.inr h))
        have hnn : j ∉ V0.names := fun h => hjn (by rw [hds]; exact List.mem_append.2 (.inl h))
        -- the slot as the round found it
        have hhead : (headS C.yl (V.slots p y) (V.mem p y) ds s).get j = kpK C.yl j (s.get j) := by
          show look (V.slots p y) j (match ds.elem j with | true => .any | false => kpK C.yl j (s.get j)) = _
          rw [hj]
          have : ∀ (sl : List (Nat × AV)) (d : AV), (∀ p ∈ sl, p.1 ≠ j) → look sl j d = d := by
            intro sl
            induction sl with
            | nil => intro d _; rfl
            | cons p sl ihs =>
              intro d hp
              obtain ⟨q, v⟩ := p
              have hne := hp (q, v) List.mem_cons_self
              have : Nat.beq q j = false := by cases hb : Nat.beq q j with | false => rfl | true => exact absurd (Nat.eq_of_beq_eq_true hb) hne
              simp only [look, this]
              exact ihs d fun p' h' => hp p' (List.mem_cons_of_mem _ h')
          exact this _ _ fun p hp e => hnn (by rw [← e]; exact sameNames_mem c4 p hp)
        have hge := q2 j hnj (by rw [hhead, kp_kp])
        rw [hhead] at hge
        refine ⟨by rw [← hge]; exact hr'.slots j, ?_⟩
        rw [d3]; exact bmono (Nat.le_of_ble_eq_true d5) (hbase0 j).2
      | exit id => exact hQ (.exit id) s' a'' w'' q1 hfr q3
      | ret => exact hQ .ret s' a'' w'' q1 hfr q3
  | rangeFunc g ps ag body ihag ihbody =>
    intro T m0 r n hC hmc hrr i K s a w Q hd hg h hQ
    obtain rfl : r = none := by
      rcases hrr with h | h
      · simp [noRange] at h
      · exact h
    obtain ⟨ov, base, mem⟩ := s
    simp only [vc] at h
    split at h
    case h_2 => exact h.elim
    rename_i F caps heq
    split at h
    case h_2 => exact h.elim
    rename_i hpl hna hnb hyl
    obtain ⟨S, hS1, h⟩ := withSome_iff.1 h
    rw [fNat_eq] at h
    obtain ⟨V, hV, h⟩ := withSome_iff.1 h
    obtain ⟨hlen, h⟩ := same_ok h
    obtain ⟨w0, hT, hN, mA, ρA, hrA⟩ := hg
    have hr0 := hrA.cells
    rw [hmc] at hr0
    obtain ⟨mE, hmE⟩ : ∃ mE, mE = mA.cells := ⟨_, rfl⟩
    have hcE : Cells mE := by rw [hmE]; exact Cells.of
    rw [← hmE] at hr0
    have hev := hr0.eval g
    simp only at hev
    rw [heq] at hev
    obtain ⟨cs, e1, hcs⟩ := hev
    have e1 := (List.cons.inj e1).1
    obtain ⟨hcl, hIM⟩ := hS.its F S hS1
    obtain ⟨L, ⟨p, x0, hI0, hmu0, hdie⟩, hsay⟩ := hIM mE caps cs _ hcE (plain_ok hpl hcs) h
    obtain ⟨s1, mB, ⟨hb0, hround⟩, hleB, hrB, hfr1, hlen1⟩ := die_rel hS.fixs (D := fun _ => False) mem 0 ⟨ov, base, mem⟩ mE (fun j e t l hj => memNth_at _ _ _ hj) hr0 hdie
    have hr1 := hrB.cells
    rw [hmc] at hr1
    have hleE : mE.le mB.cells := fun b o hb => by
      obtain ⟨c, t, f, e⟩ := hcE b o hb
      have := hleB b o hb
      unfold View.cells
      rw [this, e]
    rw [fNat_eq] at hb0
    have chk : ∀ y, V.I p y → (memBnd V.size (V.mem p y) = true ∧ (V.mem p y).length = V.size ∧ s1.mem.length ≤ V.size) ∧ ((∀ d : argsTy S.ins, L[V.μ p y]? = some d → bindK ps.toList (retsAV S.ins d) (headS none [] (V.mem p y) [] s1) fun s2 => vc C iv ag (i + 1) (fun e s3 => match e with
                | .normal => vc C iv body (i + 1 + loops ag) (fun e s4 => match e with
                  | .normal => ∃ x' : V.S, V.I p x' ∧ V.μ p x' = V.μ p y + 1 ∧ dieK (V.mem p x') 0 s4.mem s4 fun s5 => memLe .none s5.mem (V.mem p x')
                  | e => K e (headS none [] s4.mem [] s1)) s3
                | _ => False) s2) ∧ (V.μ p y = L.length → K .normal (headS none [] (V.mem p y) [] s1))) := by
      intro y hy
      have := hround y hy
      revert this
      cases memBnd V.size (V.mem p y) <;> cases h2 : Nat.beq (V.mem p y).length V.size <;> cases h3 : Nat.ble s1.mem.length V.size <;> intro this <;> first | exact False.elim this | skip
      simp only [headK_eq, hyl] at this
      exact ⟨⟨rfl, Nat.eq_of_beq_eq_true h2, Nat.le_of_ble_eq_true h3⟩, this⟩
    have hbase0 : ∀ j, ((s1.get j).strip).bnd s1.mem.length = true := fun j => strip_bnd (by rw [← hr1.len]; exact ok_bnd (hr1.slots j))
    obtain ⟨NN, hNN⟩ : ∃ NN, NN = w.heap.size := ⟨_, rfl⟩
    -- what holds between rounds
    let G : List AObj → (Nat → Prop) → World → Prop := fun mem' D W => (¬ D NN ∧ ¬ D (NN + 1) ∧ ∀ b, D b → b < W.heap.size) ∧ ∃ m ρ, Cells m ∧ mE.le m ∧ (∀ b, Deps w0 m mem' ρ a.defers b → D b) ∧ Rel P w0 m0 (headS none [] mem' [] s1) m ρ a W
    have hGs : ∀ mem' D W W', G mem' D W → Same D W W' → G mem' D W' := by
      rintro mem' D W W' ⟨⟨g1, g2, g3⟩, m, ρ, g4, g5, g6, g7⟩ hs
      exact ⟨⟨g1, g2, fun b hb => Nat.lt_of_lt_of_le (g3 b hb) hs.size⟩, m, ρ, g4, g5, g6, g7.same hs g6⟩
    have hnN : w0.n ≤ NN := by rw [hNN]; exact hr1.below.size
    -- what is known at the end of the loop
    have hfin : ∀ mem' D W, G mem' D W → W.heap[NN]? = some (.deferred (some [])) → FR C.yl (fun j => j ∈ dsts iv (.rangeFunc g ps ag body) i) ⟨ov, base, mem⟩ (headS none [] mem' [] s1) ∧ Good P w0 m0 N (headS none [] mem' [] s1) { a with defers := { target := .collected NN, args := #[] } :: a.defers } W := by
      rintro mem' D W ⟨⟨g1, g2, g3⟩, m, ρ, g4, g5, g6, g7⟩ hW
      refine ⟨fun j _ hst => ?_, hN, m, ρ, ?_⟩
      · have h1 : s1.get j = St.get ⟨ov, base, mem⟩ j := hfr1 j (fun h => h) hst
        rw [hyl] at hst
        have hst : (St.get ⟨ov, base, mem⟩ j).strip = St.get ⟨ov, base, mem⟩ j := hst
        show (s1.get j).strip = _
        rw [h1, hst]
      · refine g7.act (ov := []) (base := fun i => (s1.get i).strip) (fun i => g7.slots i) ⟨⟨NN, rfl, hnN, fun hF => g1 (g6 _ (.inr (.inl hF))), hW, fun e he ht => g1 (g6 _ (.inr (.inr (.inr ⟨e, he, ht⟩))))⟩, g7.defers⟩
    refine range_law (m := mE) (args := fun d mx vs => RdArgs mx S.ins d vs) (L := L) e1 hcl hsay ?_ (fun k D W => ∃ x, V.I p x ∧ V.μ p x = k ∧ G (V.mem p x) D W) (fun c D W => ∃ e mem', (c = .ret ∧ e = XK.ret ∨ ∃ id, c = .exit id ∧ e = XK.exit id) ∧ K e (headS none [] mem' [] s1) ∧ G mem' D W) ?_ ?_ ?_ ?_ hr0.view (Deps w0 mB.cells (V.mem p x0) (headρ ρA (V.mem p x0).length) a.defers) ?_ ?_ ?_ ?_
    · intro d mx vs hv
      rw [rdArgs_len hv, ← hlen]
      simp
    · rintro k D W W' ⟨x, q1, q2, q3⟩ hs; exact ⟨x, q1, q2, hGs _ _ _ _ q3 hs⟩
    · rintro c D W W' ⟨e, mem', q1, q2, q3⟩ hs; exact ⟨e, mem', q1, q2, hGs _ _ _ _ q3 hs⟩
    · rintro k D W ⟨x, q1, q2, q3⟩; rw [← hNN]; exact ⟨q3.1.2.2, q3.1.1, q3.1.2.1⟩
    · rintro c D W ⟨e, mem', q1, q2, q3⟩; rw [← hNN]; exact ⟨q3.1.2.2, q3.1.1, q3.1.2.1⟩
    · obtain ⟨⟨c1, c2, c3⟩, _⟩ := chk x0 hI0
      have hh := head_rel (y := none) (b := some s1.mem.length) (sl := []) (mem := V.mem p x0) (ds := []) (s0 := s1) hr1 trivial hb0 rfl (by rw [c2]; exact c1) (fun g p hp hv => by
        have h1 := (List.getElem?_eq_some_iff.1 (hr1.pins g p hp hv)).1
        rw [hr1.len] at h1
        omega) (fun b0 e => (Option.some.inj e).symm) (fun j _ _ => ⟨strip_ok (hr1.slots j), bmono (by omega) (hbase0 j)⟩)
      refine ⟨x0, hI0, hmu0, ⟨fun hD => ?_, fun hD => ?_, fun b hb => hh.deps hb⟩, mB.cells, _, Cells.of, hleE, fun b hb => hb, hh⟩
      · have := hh.deps hD; omega
      · have := hh.deps hD; omega
    · -- a round
      rintro k D W d mx vs ⟨x, hIx, hmu, ⟨dN, dN1, dlt⟩, m, ρ, hc, hle, hdep, hR⟩ hlt ⟨rc, hl⟩ hk hd0 hmx hmd hargs
      rw [← hNN] at hlt hl hk hmd ⊢
      obtain ⟨⟨c1, c2, c3⟩, hstep, -⟩ := chk x hIx
      have hb := hstep d (by rw [hmu]; exact hd0)
      have hcr : Cells (m.or mx) := fun b o hbo => by
        unfold View.or at hbo
        cases hmb : m b with
        | some o' => rw [hmb] at hbo; exact hc b o (by rw [hmb]; exact hbo)
        | none => rw [hmb] at hbo; exact (hmd b o hbo).1
      have hor : ∀ b o, (m.or mx) b = some o → m b = some o ∨ mx b = some o := fun b o hbo => by
        unfold View.or at hbo
        cases hmb : m b with
        | some o' => rw [hmb] at hbo; exact .inl hbo
        | none => rw [hmb] at hbo; exact .inr hbo
      have hmxD : ∀ b o, mx b = some o → m b = some o ∨ (NN ≤ b ∧ ¬ D b) := fun b o hbo => (hmd b o hbo).2.imp (hle b o) id
      have hown : ∀ b, Own (V.mem p x) ρ b → (m.or mx) b = none := fun b hb => by
        have h1 := (hR.own hb).2.2.1
        cases hbo : (m.or mx) b with
        | none => rfl
        | some o =>
          rcases hor b o hbo with h2 | h2
          · rw [h1] at h2; cases h2
          · rcases hmxD b o h2 with h3 | h3
            · rw [h1] at h3; cases h3
            · exact absurd (hdep b (.inr (.inr (.inl hb)))) h3.2
      have hin := hR.enter (Nat.le_refl _) View.le_or (View.or_on hR.view hmx) hown (a' := { a with defers := [] }) rfl (fun b ⟨d, hd, _⟩ => by cases hd) trivial (fun _ _ => rfl) ρ (fun _ _ h _ => h)
      obtain ⟨s2, hvc, hmem2, hl2, t, ht, htN, hin2⟩ := bindK_ok ps.toList (retsAV S.ins d) vs _ { a with defers := [] } hN (fun q hq => hd q (List.mem_append.2 (.inl hq))) hb hin (retsAV_ok (rdArgs_le (View.or_le hR.view hmx) hargs)).1
      have hfold : (ps.zip vs.toArray).foldl (fun t (p, v) => t.setIfInBounds p v) a.tmps = t := by
        rw [ht, ← Array.foldl_toList]
        simp
      rw [hfold]
      refine ihag _ (m.or mx) (some (NN + 1)) 0 (Cls.one hyl _ _ _) hcr.eq (.inl hna) (i + 1) _ s2 _ W _ (fun q hq => hd q (List.mem_append.2 (.inr (List.mem_append.2 (.inl hq))))) ⟨_, rfl, htN, _, ρ, hin2⟩ hvc ?_
      rintro e s3 a1 W1 hK - ⟨_, rfl, hN1, m2', ρ2, hr2'⟩
      have hr2 := hr2'.cells
      rw [hcr.eq] at hr2
      obtain ⟨m2, hm2e⟩ : ∃ m2, m2 = m2'.cells := ⟨_, rfl⟩
      have hc2 : Cells m2 := by rw [hm2e]; exact Cells.of
      rw [← hm2e] at hr2
      clear hr2' hm2e
      have notZ1 : ∀ b, ¬ (b < W.heap.size ∧ ¬ Own (V.mem p x) ρ b ∧ ¬ Marked ([] : List Deferred) b) → W.heap.size ≤ b ∨ Own (V.mem p x) ρ b := fun b hb => by
        by_cases h1 : b < W.heap.size
        · by_cases h2 : Own (V.mem p x) ρ b
          · exact .inr h2
          · exact absurd ⟨h1, h2, fun ⟨d, hd, _⟩ => by cases hd⟩ hb
        · exact .inl (by omega)
      have kept1 : ∀ b, b < W.heap.size → ¬ Own (V.mem p x) ρ b → W1.heap[b]? = W.heap[b]? := fun b h1 h2 => (hr2.below.kept b ⟨h1, h2, fun ⟨d, hd, _⟩ => by cases hd⟩).2
      have ownD : ∀ b, Own (V.mem p x) ρ b → D b := fun b hb => hdep b (.inr (.inr (.inl hb)))
      have hgr1 : W.heap.size ≤ W1.heap.size := hr2.below.grows
      have hN1' : W1.heap[NN]? = W.heap[NN]? := kept1 NN (by omega) (fun h => dN (ownD _ h))
      have hN2' : W1.heap[NN + 1]? = W.heap[NN + 1]? := kept1 (NN + 1) (by omega) (fun h => dN1 (ownD _ h))
      cases e with
      | exit id => exact hK.elim
      | ret => exact hK.elim
      | normal =>
        refine ⟨⟨hr2.below.os, hr2.below.tape, hr2.below.output, hgr1, fun b hb => kept1 b hb.1 fun h => hb.2 (ownD b h)⟩, hN1', hN2', fun o => ?_⟩
        obtain ⟨W2, hW2⟩ : ∃ W2, W2 = W1.putObj (NN + 1) (.loop o) := ⟨_, rfl⟩
        have hsz2 : W2.heap.size = W1.heap.size := by rw [hW2]; simp [World.putObj]
        have hput : ∀ b, b ≠ NN + 1 → W2.heap[b]? = W1.heap[b]? := fun b hb => by rw [hW2]; exact World.putObj_heap_other hb
        have hL1 : W1.heap[NN + 1]? = some (.loop rc) := hN2'.trans hl
        rw [← hW2]
        have hin3 := hr2.enter (w' := W2) (by omega) (View.le_refl m2) (fun b ob hb => by
            rw [hput b fun e => ?_]
            · exact hr2.view b ob hb
            · subst e
              have h1 := hr2.view _ ob hb
              rw [hL1] at h1
              obtain ⟨c, t, f, h2⟩ := hc2 _ ob hb
              subst h2
              cases h1) (fun b hb => (hr2.own hb).2.2.1) (a' := a1) rfl (fun _ h => h) hr2.defers (fun b hb => hput b fun e => by
            subst e
            rcases hb with hb | hb
            · obtain ⟨c, t, f, h1⟩ := (hr2.own hb).2.2.2.2
              rw [hL1] at h1; cases h1
            · have h1 := (hr2.defers.get hb).2.2
              rw [hL1] at h1; cases h1) ρ (fun g q hq hv => hr2.pins g q hq hv)
        refine ihbody _ m2 (some (NN + 1)) 0 (Cls.one hyl _ _ _) hc2.eq (.inl hnb) (i + 1 + loops ag) _ s3 a1 W2 _ (fun q hq => hd q (List.mem_append.2 (.inr (List.mem_append.2 (.inr hq))))) ⟨_, rfl, hN1, m2, ρ2, hin3⟩ hK ?_
        rintro e s4 a3 W3 hK3 - ⟨_, rfl, hN3, m3, ρ3, hr3⟩
        have notZ2 : ∀ b, ¬ (b < W2.heap.size ∧ ¬ Own s3.mem ρ2 b ∧ ¬ Marked a1.defers b) → W.heap.size ≤ b ∨ Own (V.mem p x) ρ b := fun b hb => by
          by_cases h1 : b < W2.heap.size
          · by_cases h2 : Own s3.mem ρ2 b
            · exact notZ1 b (hr2.own h2).2.2.2.1
            · by_cases h3 : Marked a1.defers b
              · exact notZ1 b (hr2.defers.get h3).2.1
              · exact absurd ⟨h1, h2, h3⟩ hb
          · exact .inl (by omega)
        have kept2 : ∀ b, b < W.heap.size → ¬ Own (V.mem p x) ρ b → W3.heap[b]? = W2.heap[b]? := fun b h1 h2 => (hr3.below.kept b (Classical.byContradiction fun hz => by
          rcases notZ2 b hz with h3 | h3
          · omega
          · exact h2 h3)).2
        have hgr3 : W2.heap.size ≤ W3.heap.size := hr3.below.grows
        have hW2s : W2.os = W1.os ∧ W2.tape = W1.tape ∧ W2.output = W1.output := by rw [hW2]; exact ⟨rfl, rfl, rfl⟩
        have sameW : Same (fun b => b < W.heap.size ∧ ¬ Own (V.mem p x) ρ b ∧ b ≠ NN + 1) W W3 :=
          ⟨hr3.below.os.trans (hW2s.1.trans hr2.below.os), hr3.below.tape.trans (hW2s.2.1.trans hr2.below.tape), hr3.below.output.trans (hW2s.2.2.trans hr2.below.output), by omega, fun b hb => (kept2 b hb.1 hb.2.1).trans ((hput b hb.2.2).trans (kept1 b hb.1 hb.2.1))⟩
        have hm2 : ∀ b ob, m2 b = some ob → m b = some ob ∨ mx b = some ob ∨ W.heap.size ≤ b ∨ Own (V.mem p x) ρ b := fun b ob hb => by
          rcases hr2.new b ob hb with h1 | ⟨_, h1⟩
          · rcases hor b ob h1 with h2 | h2
            · exact .inl h2
            · exact .inr (.inl h2)
          · exact .inr (.inr (notZ1 b h1))
        have wnF : ∀ b, W.heap.size ≤ b ∨ Own (V.mem p x) ρ b → w0.n ≤ b ∧ ¬ w0.F b := fun b hb => by
          rcases hb with hb | hb
          · exact ⟨by omega, hR.below.new hb⟩
          · exact ⟨(hR.own hb).1, (hR.own hb).2.2.2.1⟩
        have fin : ∀ (mem' : List AObj) (m4 : View) (ρ4 : List Value), Cells m4 → Rel P (rbase w0.n W2 s3.mem ρ2 a1.defers ρ (Nat.le_trans hr2.below.size (by omega))) m2 (headS none [] mem' [] s1) m4 ρ4 { a with defers := [] } W3 →
            ∃ D', (∀ b, D' b → D b ∨ W.heap.size ≤ b ∨ mx b ≠ none) ∧ G mem' D' W3 := by
          intro mem' m4 ρ4 hc4 h4
          have hlv := hR.leave (L := NN + 1) h4 rfl notZ2 (fun b ob hb => by
            rcases hm2 b ob hb with h1 | h1 | h1
            · exact .inl h1
            · rcases hmxD b ob h1 with h2 | h2
              · exact .inl h2
              · exact .inr ⟨by omega, fun hF => h2.2 (hdep b (.inr (.inl hF)))⟩
            · exact .inr (wnF b h1)) (View.le_trans View.le_or hr2.ext) sameW (fun hD => dN1 (hdep _ hD)) rfl
          have sub : ∀ b, Deps w0 m4 mem' ρ4 a.defers b → D b ∨ W.heap.size ≤ b ∨ mx b ≠ none := by
            have own : ∀ b, W.heap.size ≤ b ∨ Own (V.mem p x) ρ b → D b ∨ W.heap.size ≤ b ∨ mx b ≠ none := fun b hb => by
              rcases hb with hb | hb
              · exact .inr (.inl hb)
              · exact .inl (ownD b hb)
            rintro b (hb | hb | hb | hb)
            · cases hbo : m4 b with
              | none => exact absurd hbo hb
              | some ob =>
                rcases h4.new b ob hbo with h1 | ⟨_, h1⟩
                · rcases hm2 b ob h1 with h2 | h2 | h2
                  · exact .inl (hdep b (.inl (by rw [h2]; simp)))
                  · exact .inr (.inr (by rw [h2]; simp))
                  · exact own b h2
                · exact own b (notZ2 b h1)
            · exact .inl (hdep b (.inr (.inl hb)))
            · obtain ⟨g', v, j1, j2, j3⟩ := hb
              exact own b (notZ2 b (h4.zone g' v b j1 j2 j3))
            · exact .inl (hdep b (.inr (.inr (.inr hb))))
          refine ⟨Deps w0 m4 mem' ρ4 a.defers, sub, ⟨fun hD => ?_, fun hD => ?_, fun b hb => hlv.deps hb⟩, m4, ρ4, hc4, View.le_trans hle (View.le_trans View.le_or (View.le_trans hr2.ext h4.ext)), fun b hb => hb, hlv⟩
          · rcases sub _ hD with h1 | h1 | h1
            · exact dN h1
            · omega
            · cases hbo : mx NN with
              | none => exact h1 hbo
              | some ob =>
                obtain ⟨c, t, f, e⟩ := (hmd _ _ hbo).1
                have := hmx _ _ hbo
                rw [hk, e] at this
                cases this
          · rcases sub _ hD with h1 | h1 | h1
            · exact dN1 h1
            · omega
            · cases hbo : mx (NN + 1) with
              | none => exact h1 hbo
              | some ob =>
                obtain ⟨c, t, f, e⟩ := (hmd _ _ hbo).1
                have := hmx _ _ hbo
                rw [hl, e] at this
                cases this
        have slot : ∀ (m4 : View) (ρ4 : List Value), m2.le m4 → (∀ (g : Nat) q, ρ[g]? = some (Value.pointer q) → ρ4[g]? = some (Value.pointer q)) → ∀ j, ((s1.get j).strip).ok P m4 ρ4 [a.tmps.getD j undef] := fun m4 ρ4 h1 h2 j =>
          strip_keep (View.le_trans View.le_or (View.le_trans hr2.ext h1)) h2 (hR.slots j)
        have hr3c := hr3.cells
        rw [hc2.eq] at hr3c
        have pre : Same (fun b => b < W.heap.size ∧ ¬ D b) W2 W3 ∧ W3.heap[NN]? = W2.heap[NN]? ∧ W3.heap[NN + 1]? = W2.heap[NN + 1]? ∧ mE.on W3 :=
          ⟨⟨hr3.below.os, hr3.below.tape, hr3.below.output, hgr3, fun b hb => kept2 b hb.1 fun h => hb.2 (ownD b h)⟩, kept2 NN (by omega) (fun h => dN (ownD _ h)), kept2 (NN + 1) (by omega) (fun h => dN1 (ownD _ h)),
            fun b ob hb => hr3.view b ob (hr3.ext b ob (hr2.ext b ob (View.le_or b ob (hle b ob hb))))⟩
        have jump : ∀ e, K e (headS none [] s4.mem [] s1) → ∀ c, (c = Code.ret ∧ e = XK.ret ∨ ∃ id, c = .exit id ∧ e = XK.exit id) → ∃ D', (∀ b, D' b → D b ∨ W.heap.size ≤ b ∨ mx b ≠ none) ∧ ∃ e mem', (c = .ret ∧ e = XK.ret ∨ ∃ id, c = .exit id ∧ e = XK.exit id) ∧ K e (headS none [] mem' [] s1) ∧ G mem' D' W3 := by
          intro e hKe c hce
          have h4 := hr3c.act (ov := []) (base := fun i => (s1.get i).strip) (a' := { a with defers := [] }) (slot _ ρ3 hr3c.ext (fun g q hq => hr3c.pins g _ hq rfl)) trivial
          obtain ⟨D', k1, k2⟩ := fin s4.mem _ ρ3 Cells.of h4
          exact ⟨D', k1, e, s4.mem, hce, hKe, k2⟩
        refine ⟨pre.1, pre.2.1, pre.2.2.1, pre.2.2.2, ?_⟩
        cases e with
        | ret => exact jump _ hK3 _ (.inl ⟨rfl, rfl⟩)
        | exit id => exact jump _ hK3 _ (.inr ⟨id, rfl, rfl⟩)
        | normal =>
          obtain ⟨x', hIx', hmu', hdie'⟩ := hK3
          obtain ⟨s5, m5, hle5, hm35, hr5, -, -⟩ := die_rel hS.fixs (D := fun _ => False) s4.mem 0 s4 _ (fun j e t l hj => memNth_at _ _ _ hj) hr3c hdie'
          have hr5c := hr5.cells
          rw [hc2.eq] at hr5c
          obtain ⟨⟨d1, d2, d3⟩, _⟩ := chk x' hIx'
          have sl5 := slot _ ρ3 hr5c.ext (fun g q hq => hr5c.pins g _ hq rfl)
          have h4 := hr5c.act (ov := []) (base := fun i => (s1.get i).strip) (a' := { a with defers := [] }) sl5 trivial
          have hh := head_rel (y := none) (b := none) (sl := []) (mem := V.mem p x') (ds := []) (s0 := s1) h4 trivial hle5 rfl (by rw [d2]; exact d1) (fun g q hq _ => by
            have h1 := (List.getElem?_eq_some_iff.1 hq).1
            have h1 : g < ρ.length := h1
            have h2 : ρ.length = (V.mem p x).length := hR.len
            omega) (fun b0 e => by cases e) (fun j _ _ => ⟨sl5 j, bmono (by omega) (hbase0 j)⟩)
          obtain ⟨D', k1, k2⟩ := fin _ _ _ Cells.of hh
          exact ⟨D', k1, x', hIx', by omega, k2⟩
    · rintro D W ⟨x, q1, q2, q3⟩ hW
      rw [← hNN] at hW ⊢
      obtain ⟨h1, h2⟩ := hfin _ _ _ q3 hW
      exact hQ .normal _ _ _ ((chk x q1).2.2 q2) h1 ⟨w0, hT, h2⟩
    · rintro c D W ⟨e, mem', q1, q2, q3⟩ hW
      rw [← hNN] at hW ⊢
      obtain ⟨h1, h2⟩ := hfin _ _ _ q3 hW
      rcases q1 with ⟨rfl, rfl⟩ | ⟨id, rfl, rfl⟩
      · exact wpIn_ret (hQ .ret _ _ _ q2 h1 ⟨w0, hT, h2⟩)
      · exact wpIn_exit (hQ (.exit id) _ _ _ q2 h1 ⟨w0, hT, h2⟩)
  | exit id => intro T m0 r n hC hmc hrr i K s a w Q hd hg h hQ; exact wpIn_exit (hQ (.exit id) s a w h (FR.refl _ _ _) hg)
  | ret => intro T m0 r n hC hmc hrr i K s a w Q hd hg h hQ; exact wpIn_ret (hQ .ret s a w h (FR.refl _ _ _) hg)
  | _ => intro T m0 r n hC hmc hrr i K s a w Q hd hg h hQ; exact h.elim

end
end Eng

/- Functions over abstract values: a contract out of a condition. No condition. -/
set_option linter.unusedVariables false
set_option linter.unusedSimpArgs false
namespace Eng
open Go Go.RowKit

/-! ### Contracts over plain data -/
def retOne : AV → AV
  | .cons v .nil => v
  | l => .tup l
def initB : (ts : List Ty) → argsTy ts → Nat → AV
  | [], _, _ => .any
  | t :: _, (x, _), 0 => toAV t x
  | _ :: r, (_, y), i + 1 => initB r y i

theorem det_takeA (t : Ty) (v : AV) : Det (takeA t v) := by
  cases t with
  | prod a b =>
    cases v <;> first
      | exact det_false
      | (rename_i cs
         show Det (fun k : (Ty.prod a b).den → Prop => takeTy (.prod a b) cs fun x r => match r with
           | .nil => k x
           | _ => False)
         refine det_takeTyV fun x r => ?_
         split
         · exact det_pure x
         · exact det_false)
  | int j => show Det (fun k : Int → Prop => takeTy (.int j) (.cons v .nil) fun x _ => k x); exact det_takeTyV (t := .int j) fun x r => det_pure x
  | bool => show Det (fun k : Bool → Prop => takeTy .bool (.cons v .nil) fun x _ => k x); exact det_takeTyV (t := .bool) fun x r => det_pure x
  | str => show Det (fun k : ByteArray → Prop => takeTy .str (.cons v .nil) fun x _ => k x); exact det_takeTyV (t := .str) fun x r => det_pure x
  | list t => show Det (fun k : List t.den → Prop => takeTy (.list t) (.cons v .nil) fun x _ => k x); exact det_takeTyV (t := .list t) fun x r => det_pure x
theorem det_takeArgs : ∀ (ts : List Ty) (c : AV), Det (takeArgs ts c)
  | [], c => by cases c <;> first | exact det_false | exact det_pure ()
  | t :: r, c => by
    cases c <;> first
      | exact det_false
      | exact fun k H => (det_bind (det_takeA t _) fun x => det_bind (det_takeArgs r _) fun y => det_pure (x, y)) k H

/-- The contract: of data 'x' with 'pre x' the function returns 'f x'. -/
def gspec (fresh : Bool) (own : Option Nat) (ins : List Ty) (pre : argsTy ins → Prop) (f : argsTy ins → AV) : FSpec :=
  { fresh := fresh, own := own, run := fun args k => takeArgs ins args fun x => need (pre x) fun _ => k (f x), one := fun args k h => (det_bind (det_takeArgs ins args) fun x => det_need (det_pure (f x))) k h }
def tspec (fresh : Bool) (own : Option Nat) (ins outs : List Ty) (pre : argsTy ins → Prop) (f : argsTy ins → argsTy outs) : FSpec :=
  { fresh := fresh, own := own, run := fun args k => takeArgs ins args fun x => need (pre x) fun _ => k (retOne (retsAV outs (f x))), one := fun args k h => (det_bind (det_takeArgs ins args) fun x => det_need (det_pure (retOne (retsAV outs (f x))))) k h }

/-- What a function returns. -/
def resK (C : Ctx) (s : St) : List ResultVar → (AV → Prop) → Prop
  | [], k => k .nil
  | .tmp t :: r, k => resK C s r fun rest => k (.cons (s.get t) rest)
  | .cell x t :: r, k => withTI C t fun T => loadK T s.mem (s.get x) fun v => resK C s r fun rest => k (.cons v rest)
/-- No memory is needed to read it. -/
def AV.scalar : AV → Bool
  | .lit _ => true
  | .tt => true
  | .ff => true
  | .nil => true
  | .cons a b => match a.scalar with
    | true => b.scalar
    | false => false
  | .agg c => c.scalar
  | .tup c => c.scalar
  | _ => false
def finK (fresh : Bool) (own : Option Nat) (mem : List AObj) (want : AV) (r : AV) : Prop := match own with
  | .none => match fresh with
    | true => match r.scalar with
      | true => fAV r fun r => AV.le .none r want
      | false => False
    | false => fAV (r.bor mem) fun r => AV.le .none r want
  | some e => match fresh with
    | true => False
    | false => match r with
      | .own g => match memNth mem g with
        | .vec e' t l => match Nat.beq e' e with
          | true => match want with
            | .dat t' l' => t = t' ∧ HEq l l'
            | _ => False
          | false => False
        | _ => False
      | _ => False
def endK (C : Ctx) (fresh : Bool) (own : Option Nat) (res : List ResultVar) (want : AV) (e : XK) (s : St) : Prop := match e with
  | .exit _ => False
  | _ => resK C s res fun l => finK fresh own s.mem want (retOne l)
def gnVC (C : Ctx) (iv : Nat → Option Inv) (fresh : Bool) (own : Option Nat) (ins : List Ty) (c : Code) (res : List ResultVar) (x : argsTy ins) (y : AV) : Prop :=
  vc C iv c 0 (endK C fresh own res y) ⟨[], initB ins x, []⟩
def fnVC (C : Ctx) (iv : Nat → Option Inv) (fresh : Bool) (own : Option Nat) (ins outs : List Ty) (c : Code) (res : List ResultVar) (x : argsTy ins) (y : argsTy outs) : Prop :=
  vc C iv c 0 (endK C fresh own res (retOne (retsAV outs y))) ⟨[], initB ins x, []⟩

section
variable {P : Program} {C : Ctx}

theorem takeArgs_ok {m : View} : ∀ {ts : List Ty} {c : AV} {k : argsTy ts → Prop} {vs : List Value}, takeArgs ts c k → c.ok P m [] vs → ∃ x, k x ∧ vs.length = ts.length ∧ ∀ i, (initB ts x i).ok P m [] [vs.getD i undef]
  | [], c, k, vs, h, hc => by
    simp only [takeArgs] at h
    split at h
    · obtain rfl : vs = [] := hc
      exact ⟨(), h, rfl, fun i => ⟨_, rfl⟩⟩
    · exact h.elim
  | t :: r, c, k, vs, h, hc => by
    simp only [takeArgs] at h
    split at h
    · rename_i v rest
      obtain ⟨u, us, rfl, h1, h2⟩ := hc
      obtain ⟨x, k1, k2⟩ := takeA_ok h h1
      obtain ⟨y, k3, k4, k5⟩ := takeArgs_ok k2 h2
      refine ⟨(x, y), k3, by simp [k4], fun i => ?_⟩
      cases i with
      | zero => exact toAV_ok k1
      | succ i => simpa [initB] using k5 i
    · exact h.elim

def resOf (tmps : Array Value) : ResultVar → Sem Value
  | .tmp t => pure (tmps.getD t undef)
  | .cell x t => do loadVar t (← asAddr (tmps.getD x undef))
theorem results_eq (fn : Func) (tmps : Array Value) : results fn tmps = (do
    let vs ← fn.results.mapM (resOf tmps)
    pure (if h : vs.size = 1 then vs[0] else .tuple vs)) := by
  rfl

theorem resK_ok (hS : Sound P C) {w0 : Base} {m0 m : View} {s : St} {ρ : List Value} {a : Act} {w : World} (hr : Rel P w0 m0 s m ρ a w) : ∀ (res : List ResultVar) (k : AV → Prop), resK C s res k →
    ∃ vs l, (res.mapM (resOf a.tmps)).run P w = .ok vs w ∧ k l ∧ l.ok P m ρ vs ∧ l.lenIs res.length = true
  | [], k, h => ⟨[], .nil, rfl, h, rfl, rfl⟩
  | .tmp t :: r, k, h => by
    obtain ⟨vs, l, h1, h2, h3, h4⟩ := resK_ok hS hr r _ h
    refine ⟨a.tmps.getD t undef :: vs, _, ?_, h2, ⟨_, _, rfl, hr.slots t, h3⟩, h4⟩
    rw [List.mapM_cons]
    have e : (resOf a.tmps (.tmp t)).run P w = .ok (a.tmps.getD t undef) w := rfl
    simp only [Sem.run_bind, Sem.run_pure, Result.andThen_ok, h1, e]
  | .cell x t :: r, k, h => by
    obtain ⟨T, hT, h⟩ := withSome_iff.1 h
    obtain ⟨⟨ad, e⟩, v, av, q1, q2, q3⟩ := load_core (hS.tys t T hT) hr h (hr.slots x)
    obtain ⟨vs, l, h1, h2, h3, h4⟩ := resK_ok hS hr r _ q2
    refine ⟨v :: vs, _, ?_, h2, ⟨_, _, rfl, q3, h3⟩, h4⟩
    rw [e] at q1
    simp only [Instr.loadAt, Instr.sureAddr, pure_bind] at q1
    have e2 : (resOf a.tmps (.cell x t)).run P w = .ok v w := by
      simp only [resOf, e, asAddr, pure_bind, q1]
    rw [List.mapM_cons]
    simp only [Sem.run_bind, e2, Sem.run_pure, Result.andThen_ok, h1]

def pack (vs : List Value) : Value := match vs with
  | [v] => v
  | l => .tuple l.toArray
theorem results_run {fn : Func} {tmps : Array Value} {w : World} {vs : List Value} (h : (fn.results.toList.mapM (resOf tmps)).run P w = .ok vs w) : (results fn tmps).run P w = .ok (pack vs) w := by
  rw [results_eq, Array.mapM_eq_mapM_toList]
  simp only [Sem.run_bind, Sem.run_map, h, Result.andThen_ok, Sem.run_pure]
  match vs with
  | [] => rfl
  | [v] => rfl
  | a :: b :: r => simp [pack]
theorem pack_ok {m : View} {ρ : List Value} {l : AV} {vs : List Value} (h : l.ok P m ρ vs) (hl : (∃ n, l.lenIs n = true)) : (retOne l).ok P m ρ [pack vs] := by
  cases l with
  | nil => obtain rfl : vs = [] := h; exact ⟨[], rfl, rfl⟩
  | cons a b =>
    obtain ⟨v, rest, rfl, h1, h2⟩ := h
    cases b with
    | nil => obtain rfl : rest = [] := h2; exact h1
    | cons c d =>
      obtain ⟨v', rest', rfl, h3, h4⟩ := h2
      exact ⟨v :: v' :: rest', rfl, v, _, rfl, h1, v', _, rfl, h3, h4⟩
    | _ =>
      obtain ⟨n, hn⟩ := hl
      cases n with
      | zero => cases hn
      | succ n => cases n <;> cases hn
  | _ => obtain ⟨n, hn⟩ := hl; cases n <;> cases hn

theorem scalar_ok {m m' : View} {ρ ρ' : List Value} {av : AV} : ∀ {vs : List Value}, av.scalar = true → av.ok P m ρ vs → av.ok P m' ρ' vs := by
  induction av with
  | cons a b iha ihb =>
    intro vs h k
    obtain ⟨v, rest, k1, k2, k3⟩ := k
    simp only [AV.scalar] at h
    split at h
    · rename_i h1; exact ⟨v, rest, k1, iha h1 k2, ihb h k3⟩
    · cases h
  | agg l ih => intro vs h k; obtain ⟨cs, k1, k2⟩ := k; exact ⟨cs, k1, ih h k2⟩
  | tup l ih => intro vs h k; obtain ⟨cs, k1, k2⟩ := k; exact ⟨cs, k1, ih h k2⟩
  | nil => intro vs h k; exact k
  | lit v => intro vs h k; exact k
  | tt => intro vs h k; exact k
  | ff => intro vs h k; exact k
  | _ => intro vs h; cases h

/-- A slice of the call's own in a result is read as data from then on: what is known then. -/
theorem snap_fin {w0 : Base} {m0 m : View} {s : St} {ρ : List Value} {a : Act} {w : World} (hr : Rel P w0 m0 s m ρ a w) :
    ∃ M : View, M.on w ∧ m0.le M ∧ (∀ b o, M b = some o → m0 b = some o ∨ w0.n ≤ b) ∧ ∀ {av : AV} {vs : List Value}, av.ok P m ρ vs → (av.bor s.mem).ok P M [] vs := by
  let M : View := fun b => if w0.n ≤ b then w.heap[b]? else m0 b
  have hm0 : m0.on w := fun b o hb => hr.view b o (hr.ext b o hb)
  have hmM : m.le M := fun b o hb => by
    show (if w0.n ≤ b then w.heap[b]? else m0 b) = some o
    split
    · exact hr.view b o hb
    · rename_i hlt
      rcases hr.new b o hb with h | h
      · exact h
      · exact absurd h.1 hlt
  have hsn : ∀ {av : AV} {vs : List Value}, av.ok P m ρ vs → (av.snap s.mem).ok P M [] vs := by
    intro av
    induction av with
    | own g =>
      intro vs k
      obtain ⟨v, ⟨k1, _⟩, rfl⟩ := k
      simp only [AV.snap]
      split
      · rename_i e t l hm
        have ho := hr.objs g
        rw [hm] at ho
        obtain ⟨v', vs, q1, q2, q3, q4⟩ := ho
        rw [k1] at q1
        obtain rfl := Option.some.inj q1
        exact Rd_of_own q3 (RdL.le hmM q2) (fun b hb => by
          show (if w0.n ≤ b then w.heap[b]? else m0 b) = _
          rw [if_pos (q3.lt b hb).1])
      · exact ⟨v, rfl⟩
    | box g off => intro vs k; obtain ⟨b, k1, rfl⟩ := k; exact ⟨_, rfl⟩
    | optr g t i off => intro vs k; obtain ⟨b, n, c, k1, rfl⟩ := k; exact ⟨_, rfl⟩
    | dat t l => intro vs k; exact Rd.le hmM k
    | dptr t l i off => intro vs k; obtain ⟨h0, ad, cs, k1, k2, k3⟩ := k; exact ⟨h0, ad, cs, k1, Rd.le hmM k2, fun j v hj => View.cell_le hmM (k3 j v hj)⟩
    | imm cs off ih => intro vs k; obtain ⟨ad, us, k1, k2, k3⟩ := k; exact ⟨ad, us, k1, ih k2, fun j v hj => View.cell_le hmM (k3 j v hj)⟩
    | fn a r p f => intro vs k; obtain ⟨fv, k1, k2⟩ := k; exact ⟨fv, k1, k2.le hmM.cle⟩
    | clo f caps ih => intro vs k; obtain ⟨cs, k1, k2⟩ := k; exact ⟨cs, k1, ih k2⟩
    | agg l ih => intro vs k; obtain ⟨cs, k1, k2⟩ := k; exact ⟨cs, k1, ih k2⟩
    | tup l ih => intro vs k; obtain ⟨cs, k1, k2⟩ := k; exact ⟨cs, k1, ih k2⟩
    | cons a b iha ihb => intro vs k; obtain ⟨v, rest, k1, k2, k3⟩ := k; exact ⟨v, rest, k1, iha k2, ihb k3⟩
    | _ => intro vs k; exact k
  refine ⟨M, fun b o hb => ?_, View.le_trans hr.ext hmM, fun b o hb => ?_, ?_⟩
  · change (if w0.n ≤ b then w.heap[b]? else m0 b) = some o at hb
    split at hb
    · exact hb
    · exact hm0 b o hb
  · change (if w0.n ≤ b then w.heap[b]? else m0 b) = some o at hb
    split at hb
    · rename_i h; exact .inr h
    · exact .inl hb
  · intro av
    induction av with
    | own g =>
      intro vs k
      obtain ⟨v, ⟨k1, _⟩, rfl⟩ := k
      simp only [AV.bor]
      split
      · rename_i e t l hm
        have ho := hr.objs g
        rw [hm] at ho
        obtain ⟨v', vs, q1, q2, q3, q4⟩ := ho
        rw [k1] at q1
        obtain rfl := Option.some.inj q1
        exact Rd_of_own q3 (RdL.le hmM q2) (fun b hb => by
          show (if w0.n ≤ b then w.heap[b]? else m0 b) = _
          rw [if_pos (q3.lt b hb).1])
      · exact ⟨v, rfl⟩
    | box g off =>
      intro vs k
      obtain ⟨b, k1, rfl⟩ := k
      simp only [AV.bor]
      split
      · rename_i ty cs hm
        have ho := hr.objs g
        rw [hm] at ho
        obtain ⟨b', vs, q1, q2, q3, q4, q5, q6⟩ := ho
        rw [k1] at q1
        obtain rfl : b = b' := by injection q1 with r1; injection r1 with r1; injection r1 with r1; injection r1
        refine ⟨⟨b, 0, none⟩, vs, by rw [Ls.add_zero_lit], hsn q4, fun j v hj => ?_⟩
        rw [Ls.add_zero_lit, View.cell, show M b = some (.cells vs.toArray ty (0, 0)) from by
          show (if w0.n ≤ b then w.heap[b]? else m0 b) = _
          rw [if_pos q2, q3]]
        simpa using hj
      · exact ⟨_, rfl⟩
    | optr g t i off => intro vs k; obtain ⟨b, n, c, k1, rfl⟩ := k; exact ⟨_, rfl⟩
    | dat t l => intro vs k; exact Rd.le hmM k
    | dptr t l i off => intro vs k; obtain ⟨h0, ad, cs, k1, k2, k3⟩ := k; exact ⟨h0, ad, cs, k1, Rd.le hmM k2, fun j v hj => View.cell_le hmM (k3 j v hj)⟩
    | imm cs off ih => intro vs k; obtain ⟨ad, us, k1, k2, k3⟩ := k; exact ⟨ad, us, k1, ih k2, fun j v hj => View.cell_le hmM (k3 j v hj)⟩
    | fn a r p f => intro vs k; obtain ⟨fv, k1, k2⟩ := k; exact ⟨fv, k1, k2.le hmM.cle⟩
    | clo f caps ih => intro vs k; obtain ⟨cs, k1, k2⟩ := k; exact ⟨cs, k1, ih k2⟩
    | agg l ih => intro vs k; obtain ⟨cs, k1, k2⟩ := k; exact ⟨cs, k1, ih k2⟩
    | tup l ih => intro vs k; obtain ⟨cs, k1, k2⟩ := k; exact ⟨cs, k1, ih k2⟩
    | cons a b iha ihb => intro vs k; obtain ⟨v, rest, k1, k2, k3⟩ := k; exact ⟨v, rest, k1, iha k2, ihb k3⟩
    | _ => intro vs k; exact k

/-- THE CONTRACT OF A FUNCTION, OUT OF ITS CONDITION. -/
theorem meetsG (hS : Sound P C) {f : Nat} {fn : Func} {c : Code} (hf : P.funcs[f]? = some fn) (hname : (fn.name == "runtime.NumGoroutine") = false) (hb : fn.body = some c) {fresh : Bool} {own : Option Nat} {ins : List Ty} {pre : argsTy ins → Prop} {g : argsTy ins → AV} (iv : argsTy ins → Nat → Option Inv)
    (hd : ∀ x, (dsts (iv x) c 0).all (fun d => Nat.blt d fn.ntmps) = true) (hn : ins.length ≤ fn.ntmps) (h : ∀ x, pre x → gnVC C (iv x) fresh own ins c fn.results.toList x (g x)) (hyl : C.yl = none := by rfl) : Meets P f (gspec fresh own ins pre g) := by
  refine ⟨⟨fn, c, hf, hname, hb⟩, fun w m args vs k hm hargs hrun => ?_⟩
  obtain ⟨x, ⟨hp, hk⟩, hlen, hslots⟩ := takeArgs_ok hrun hargs
  have hvc := h x hp
  let R : Ending → World → Prop := fun e w' => ∃ v m', e = .returned v ∧ Below w.heap.size w w' ∧ m'.on w' ∧ (match (gspec fresh own ins pre g).fresh with
      | true => ∀ b o, m' b = some o → w.heap.size ≤ b
      | false => m.le m' ∧ ∀ b o, m' b = some o → m b = some o ∨ w.heap.size ≤ b) ∧ OutOk P (gspec fresh own ins pre g) k w.heap.size w' m' v
  have hwp : c.wpIn (fz none) 0 P (bodyPostM (fz none) 0 P fn R) { tmps := vs.toArray ++ Array.replicate (fn.ntmps - vs.toArray.size) undef, defers := [] } w := by
    have hN : (vs.toArray ++ Array.replicate (fn.ntmps - vs.toArray.size) undef).size = fn.ntmps := by simp [hlen]; omega
    refine vc_ok (N := ⟨fn.ntmps, []⟩) hS c (fun Z => Z = base0 w) m.cells none 0 (Cls.one hyl _ _ _) (Cells.of).eq (.inr rfl) 0 _ ⟨[], initB ins x, []⟩ _ w _ (fun d hdd => ⟨?_, by simp⟩) ⟨_, rfl, ⟨hN, by simp⟩, m.cells, [], Rel.cells (m0 := m) (m := m) ?_⟩ hvc ?_
    · have := List.all_eq_true.1 (hd x) d hdd
      simp [Nat.blt] at this
      show d < fn.ntmps
      omega
    · refine ⟨fun i => ?_, rfl, by simp, trivial, fun g => trivial, (fun g g' v v' b _ hl => by cases hl), hm, View.le_refl m, fun b o hb => Or.inl hb, base0_ok.2 (Below.refl _ _), (fun g v b hl => by cases hl), (fun g p hp => by simp [base0] at hp)⟩
      show (initB ins x i).ok P m [] _
      have : (vs.toArray ++ Array.replicate (fn.ntmps - vs.toArray.size) undef).getD i undef = vs.getD i undef := by
        rw [Array.getD_eq_getD_getElem?, List.getD_eq_getElem?_getD]
        rcases Nat.lt_or_ge i vs.length with hlt | hge
        · simp [Array.getElem?_append, hlt]
        · rw [Array.getElem?_append_right (by simpa using hge), List.getElem?_eq_none hge]
          simp [Array.getElem?_replicate]
          split <;> rfl
      rw [this]
      exact hslots i
    · intro e s' a' w' hend _ hg
      obtain ⟨_, rfl, _, m1, ρ1, hr1⟩ := hg
      have hend' : resK C s' fn.results.toList fun l => finK fresh own s'.mem (g x) (retOne l) := by
        cases e <;> first | exact hend | exact hend.elim
      have post : LeavesInM (fz none) 0 P fn a'.tmps R a'.defers .returning w' := by
        refine leaves_marks (Z := base0 w) (fun W => ∃ m' ρ', Rel P (base0 w) m.cells s' m' ρ' ⟨a'.tmps, []⟩ W ∧ ∀ b o, m' b = some o → ∃ c t f, o = .cells c t f) (fun W D ⟨m', ρ', hr, hc⟩ hD1 hD2 hD3 => ?_) (fun W ⟨m', ρ', hr, hc⟩ => ?_) a'.defers w' hr1.defers ⟨m1.cells, ρ1, ?_, fun b o hb => View.cells_is hb⟩
        · refine ⟨m', ρ', hr.shake hc (grownBy_putObj' W D _) (fun r e => ?_) trivial, hc⟩
          obtain rfl := Option.some.inj e
          exact ⟨fun c t f h => (by rw [hD3] at h; cases h), hD2⟩
        · obtain ⟨vs', l, h1, h2, h3, h4⟩ := resK_ok hS hr _ _ hend'
          have hp := pack_ok h3 ⟨_, h4⟩
          have hres := results_run h1
          have hbel := base0_ok.1 hr.below
          have hmW : m.on W := View.on_below hm hbel
          refine ⟨pack vs', hres, pack vs', ?_⟩
          generalize retOne l = rv at h2 hp
          generalize pack vs' = v at hp
          unfold finK at h2
          have hfin : ∀ M : View, M.on W → m.cells.le M → (∀ b o, M b = some o → m.cells b = some o ∨ w.heap.size ≤ b) → (m.or M).on W ∧ M.le (m.or M) ∧ m.le (m.or M) ∧ ∀ b o, (m.or M) b = some o → m b = some o ∨ w.heap.size ≤ b := fun M q1 q2 q3 => by
            refine ⟨View.or_on hmW q1, View.or_le hmW q1, View.le_or, fun b o hb => ?_⟩
            unfold View.or at hb
            cases hmb : m b with
            | some o' => rw [hmb] at hb; exact .inl hb
            | none =>
              rw [hmb] at hb
              rcases q3 b o hb with k | k
              · have := View.cells_le m b o k; rw [hmb] at this; cases this
              · exact .inr k
          cases own with
          | none =>
            cases fresh with
            | true =>
              simp only at h2
              cases hsc : rv.scalar <;> rw [hsc] at h2
              · exact h2.elim
              simp only [fAV_eq] at h2
              refine ⟨fun _ => none, rfl, hbel, (fun b o hb => by cases hb), (fun b o hb => by cases hb), _, hk, le_ok Born.none h2 (scalar_ok hsc hp)⟩
            | false =>
              simp only [fAV_eq] at h2
              obtain ⟨M, M1, M2, M3, M4⟩ := snap_fin hr
              obtain ⟨q1, q2, q3, q4⟩ := hfin M M1 M2 M3
              exact ⟨m.or M, rfl, hbel, q1, ⟨q3, q4⟩, _, hk, AV.ok_le q2 (fun _ _ h _ => h) (le_ok Born.none h2 (M4 hp))⟩
          | some ee =>
            cases fresh with
            | true => exact h2.elim
            | false =>
              simp only at h2
              split at h2
              · rename_i gg
                split at h2
                · rename_i e' t l' hm'
                  cases hee : Nat.beq e' ee <;> rw [hee] at h2
                  · exact h2.elim
                  have hee := Nat.eq_of_beq_eq_true hee
                  subst hee
                  have ho := hr.objs gg
                  rw [hm'] at ho
                  obtain ⟨v', us, q1, q2, q3, q4⟩ := ho
                  obtain ⟨v'', ⟨r1, _⟩, r2⟩ := hp
                  rw [q1] at r1
                  obtain rfl := Option.some.inj r1
                  obtain rfl := (List.cons.inj r2).1
                  obtain ⟨z1, z2, z3, z4⟩ := hfin m' hr.view hr.ext (fun b o hb => (hr.new b o hb).imp id And.left)
                  refine ⟨m.or m', rfl, hbel, z1, ⟨z3, z4⟩, ?_⟩
                  have hwant : g x = .dat t l' := by
                    revert h2
                    generalize g x = wv
                    intro h2
                    cases wv <;> first | exact h2.elim | skip
                    obtain ⟨rfl, hl⟩ := h2
                    rw [eq_of_heq hl]
                  refine ⟨t, l', us, by rw [← hwant]; exact hk, q3, RdL.le z2 q2, fun b hb => ?_⟩
                  have hmb : m b = none := by
                    cases hmb : m b with
                    | none => rfl
                    | some o =>
                      exfalso
                      have k1 := hmW b o hmb
                      have k2 : ∃ c t f, W.heap[b]? = some (.cells c t f) := by
                        rcases q3.2 with ⟨rfl, _⟩ | ⟨g', cap, cur, rfl, _, hg, _⟩
                        · simp [Value.ownBlock] at hb
                        · simp only [Value.ownBlock, Option.some.injEq] at hb; subst hb; exact ⟨_, _, _, hg⟩
                      obtain ⟨c, t, f, k2⟩ := k2
                      rw [k1] at k2
                      obtain rfl := Option.some.inj k2
                      have k3 := hr.ext b (.cells c t f) (by unfold View.cells; rw [hmb])
                      rw [q4 b hb] at k3
                      cases k3
                  show (m.or m') b = none
                  unfold View.or
                  rw [hmb]
                  exact q4 b hb
                · exact h2.elim
              · exact h2.elim
        · have hr1 := hr1.cells
          rw [(Cells.of).eq] at hr1
          exact hr1.shake (fun b o hb => View.cells_is hb) (row := none) ⟨rfl, rfl, rfl, Nat.le_refl _, fun _ _ _ => rfl⟩ (fun r e => by cases e) trivial
      cases e <;> first | exact post | exact hend.elim
  have := callsIn_of_wp_marks (F := Fence.wide) (n := 0) hf hb trivial hwp
  exact callsIn_wide.1 this

theorem meets (hS : Sound P C) {f : Nat} {fn : Func} {c : Code} (hf : P.funcs[f]? = some fn) (hname : (fn.name == "runtime.NumGoroutine") = false) (hb : fn.body = some c) {fresh : Bool} {own : Option Nat} {ins outs : List Ty} {pre : argsTy ins → Prop} {g : argsTy ins → argsTy outs} (iv : argsTy ins → Nat → Option Inv)
    (hd : ∀ x, (dsts (iv x) c 0).all (fun d => Nat.blt d fn.ntmps) = true) (hn : ins.length ≤ fn.ntmps) (h : ∀ x, pre x → fnVC C (iv x) fresh own ins outs c fn.results.toList x (g x)) (hyl : C.yl = none := by rfl) : Meets P f (tspec fresh own ins outs pre g) :=
  meetsG hS hf hname hb iv hd hn h hyl

end
end Eng
namespace Eng
open Go Go.RowKit
def SpecsOk (P : Program) (specs : List (Nat × FSpec)) : Prop := ∀ f S, find specs f = some S → Meets P f S
theorem SpecsOk.nil (P : Program) : SpecsOk P [] := fun f S h => by cases h
theorem SpecsOk.cons {P : Program} {f : Nat} {S : FSpec} {l : List (Nat × FSpec)} (h : Meets P f S) (k : SpecsOk P l) : SpecsOk P ((f, S) :: l) := by
  intro g T hg
  simp only [find] at hg
  split at hg
  · rename_i e; obtain rfl := Nat.eq_of_beq_eq_true e; injection hg with hg; rw [← hg]; exact h
  · exact k g T hg
theorem SpecsOk.sound {P : Program} {C : Ctx} (h : SpecsOk P C.specs) (ht : ∀ t T, find C.tys t = some T → TIok P t T) (hm : P.follows .mixedOrders = true) (hi : ∀ F S, find C.its F = some S → IMeets P F S := by (intro _ _ h; cases h)) (hy : ∀ Y, C.yl = some Y → ∀ p ∈ Y.fix, p.2.strip = p.2 := by (intro _ h; cases h)) : Sound P C := ⟨ht, h, hm, hi, hy⟩
theorem fits64 {x : Int} (h1 : -9223372036854775808 ≤ x) (h2 : x ≤ 9223372036854775807) : fits .i64 x := by
  unfold fits IntKind.wrap
  simp [IntKind.signed, IntKind.bits]
  omega
theorem by_vc {A B : Prop} (e : A = B) (h : B) : A := e ▸ h
end Eng

/- What a function hands over, out of its condition. No condition. -/
set_option linter.unusedVariables false
set_option linter.unusedSimpArgs false
namespace Eng
open Go Go.RowKit

/-- What stands in the boxes that a function is closed over. -/
def takeCaps : (ts : List Ty) → AV → (argsTy ts → Prop) → Prop
  | [], c, k => match c with
    | .nil => k ()
    | _ => False
  | t :: r, c, k => match c with
    | .cons a rest => match a with
      | .imm cs off => match off with
        | 0 => takeTy t cs fun x z => match z with
          | .nil => takeCaps r rest fun y => k (x, y)
          | _ => False
        | _ + 1 => False
      | _ => False
    | _ => False
def capsFix : (ts : List Ty) → argsTy ts → Nat → List (Nat × AV)
  | [], _, _ => []
  | t :: r, x, i => (i, .imm (flatTo t x.1 .nil) 0) :: capsFix r x.2 (i + 1)
def ispec (caps outs : List Ty) (pre : argsTy caps → Prop) (gen : argsTy caps → List (argsTy outs)) : ISpec := ⟨outs, fun c K => takeCaps caps c fun x => need (pre x) fun _ => K (gen x)⟩
def yspec (caps outs : List Ty) (slots : List Nat) (x : argsTy caps) (L : List (argsTy outs)) (l : Nat) : YSpec := ⟨outs, L, l, slots, (0, .lit (.func (.yield l) #[] #[])) :: capsFix caps x 1⟩
def Ctx.say (C : Ctx) (Y : YSpec) : Ctx := { specs := C.specs, tys := C.tys, wr := C.wr, nm := C.nm, its := C.its, yl := some Y }
/-- At its end. -/
def yEnd (Y : YSpec) (e : XK) (s : St) : Prop := match e with
  | .exit _ => False
  | _ => match memNth s.mem 0 with
    | .cnt k => match k with
      | some k => k = Y.L.length
      | .none => True
    | _ => False
def yVC (C : Ctx) (iv : Nat → Option Inv) (c : Code) (Y : YSpec) : Prop := vc (C.say Y) iv c 0 (yEnd Y) ⟨Y.fix, fun _ => .any, [.cnt (some 0)]⟩

section
variable {P : Program} {C : Ctx}

theorem flatTo_strip : ∀ (t : Ty) (x : t.den) (r : AV), r.strip = r → (flatTo t x r).strip = flatTo t x r
  | .int _, _, r, h => by simp only [flatTo, AV.strip, h]
  | .bool, _, r, h => by simp only [flatTo, AV.strip, h]
  | .str, _, r, h => by simp only [flatTo, AV.strip, h]
  | .list _, _, r, h => by simp only [flatTo, AV.strip, h]
  | .prod a b, x, r, h => flatTo_strip a x.1 _ (flatTo_strip b x.2 r h)
theorem capsFix_strip : ∀ (ts : List Ty) (x : argsTy ts) (i : Nat), ∀ p ∈ capsFix ts x i, p.2.strip = p.2
  | [], _, _, p, hp => by cases hp
  | t :: r, x, i, p, hp => by
    rcases List.mem_cons.1 hp with rfl | hp
    · show AV.imm (flatTo t x.1 .nil).strip 0 = AV.imm (flatTo t x.1 .nil) 0
      rw [flatTo_strip t x.1 .nil rfl]
    · exact capsFix_strip r x.2 (i + 1) p hp
theorem takeCaps_ok {m : View} : ∀ {ts : List Ty} {c : AV} {k : argsTy ts → Prop} {cs : List Value}, takeCaps ts c k → c.ok P m [] cs → ∃ x, k x ∧ cs.length = ts.length ∧ ∀ i, ∀ p ∈ capsFix ts x i, i ≤ p.1 ∧ ∃ v, cs[p.1 - i]? = some v ∧ p.2.ok P m [] [v]
  | [], c, k, cs, h, hc => by
    simp only [takeCaps] at h
    split at h
    · obtain rfl : cs = [] := hc
      exact ⟨(), h, rfl, fun i p hp => by cases hp⟩
    · exact h.elim
  | t :: r, c, k, cs, h, hc => by
    simp only [takeCaps] at h
    split at h
    case h_2 => exact h.elim
    rename_i a rest
    obtain ⟨u, us, rfl, h1, h2⟩ := hc
    split at h
    case h_2 => exact h.elim
    rename_i cells off
    split at h
    case h_2 => exact h.elim
    obtain ⟨ad, vs, e1, e2, e3⟩ := h1
    obtain ⟨x, z, u1, v1, e4, e5, e6, e7⟩ := takeTy_ok h e2
    split at e7
    case h_2 => exact e7.elim
    obtain rfl : v1 = [] := e6
    rw [List.append_nil] at e4
    subst e4
    obtain ⟨y, k1, k2, k3⟩ := takeCaps_ok e7 h2
    refine ⟨(x, y), k1, by simp [k2], fun i p hp => ?_⟩
    rcases List.mem_cons.1 hp with rfl | hp
    · refine ⟨Nat.le_refl _, u, by simp, ad, vs, e1, ?_, e3⟩
      have := flatTo_ok (P := P) (ρ := []) (r := .nil) (v := []) e5 rfl
      rw [List.append_nil] at this
      exact this
    · obtain ⟨j1, v, j2, j3⟩ := k3 (i + 1) p hp
      refine ⟨by omega, v, ?_, j3⟩
      rw [show p.1 - i = (p.1 - (i + 1)) + 1 by omega]
      simpa using j2

/-- WHAT A FUNCTION HANDS OVER, OUT OF ITS CONDITION. -/
theorem says (hS : Sound P C) {F : Nat} {fn : Func} {c : Code} (hf : P.funcs[F]? = some fn) (hname : (fn.name == "runtime.NumGoroutine") = false) (hb : fn.body = some c) (hres : fn.results = #[]) {caps outs : List Ty} {pre : argsTy caps → Prop} {gen : argsTy caps → List (argsTy outs)} (slots : List Nat) (iv : argsTy caps → Nat → Option Inv)
    (hd : ∀ x, (dsts (iv x) c 0).all (fun d => match Nat.blt d fn.ntmps with
      | true => Nat.blt caps.length d
      | false => false) = true) (hn : caps.length + 1 ≤ fn.ntmps) (h : ∀ x l, pre x → yVC C (iv x) c (yspec caps outs slots x (gen x) l)) : IMeets P F (ispec caps outs pre gen) := by
  refine ⟨⟨fn, c, hf, hname, hb⟩, fun m cp cs K hcm hok hrun => ?_⟩
  have hcm : Cells m := hcm
  obtain ⟨x, ⟨hp, hK⟩, hclen, hfix⟩ := takeCaps_ok hrun hok
  refine ⟨gen x, hK, ?_⟩
  intro l J Jx W0 D0 hJs hJxs hJb hJxb hY hm h0
  have hvc := h x l hp
  obtain ⟨Y, hYe⟩ : ∃ Y, Y = yspec caps outs slots x (gen x) l := ⟨_, rfl⟩
  rw [← hYe] at hvc
  have hSY : Sound P (C.say Y) := ⟨hS.tys, hS.specs, hS.mixed, hS.its, fun Y' e p hp => by
    injection e with e
    subst e
    rw [hYe] at hp
    rcases List.mem_cons.1 hp with rfl | hp
    · rfl
    · exact capsFix_strip _ _ _ p hp⟩
  let args : List Value := .func (.yield l) #[] #[] :: cs
  let NF : Frm := ⟨fn.ntmps, args.zipIdx.map fun p => (p.2, p.1)⟩
  let T : Base → Prop := fun Z => ∃ k D, Z.ρ = [.int .i64 (code k)] ∧ Z.n = W0.heap.size ∧ (∀ b, D b → Z.F b) ∧ match k with
    | some k => J k D Z.W
    | none => Jx D Z.W
  let R : Ending → World → Prop := fun e W' => (∃ v, e = .returned v) ∧ ((∃ D, J (gen x).length D W') ∨ ∃ D, Jx D W')
  have hsame : ∀ {Z : Base} {D : Nat → Prop} {W : World}, (∀ b, D b → Z.F b) → Z.ok W → Same D Z.W W := fun hD hZ => ⟨hZ.os, hZ.tape, hZ.output, hZ.grows, fun b hb => (hZ.kept b (hD b hb)).2⟩
  have hYO : YOk P T m NF Y := by
    refine ⟨fun p hp a ha => ?_, fun Z ⟨k, D, h1, _⟩ => ⟨k, h1⟩, ?_⟩
    · have hget : ∀ i v, args[i]? = some v → a.tmps.getD i undef = v := fun i v hv => ha.2 (i, v) (List.mem_map.2 ⟨(v, i), List.mk_mem_zipIdx_iff_getElem?.2 hv, rfl⟩)
      rw [hYe] at hp
      rcases List.mem_cons.1 hp with rfl | hp
      · rw [hget 0 _ rfl]; rfl
      · obtain ⟨j1, v, j2, j3⟩ := hfix 1 p hp
        rw [hget p.1 v (by rw [show p.1 = (p.1 - 1) + 1 by omega]; simpa [args] using j2)]
        exact j3
    · rintro Z k W mx d vs ⟨k', D, hk', hZn, hDF, hJ⟩ hk hZ hmx hcx hmd hd' hargs
      obtain rfl : k' = some k := by
        rw [hk] at hk'
        injection hk' with e
        injection e with _ e
        exact (code_inj e).symm
      have hJ : J k D Z.W := hJ
      have hJW := hJs _ _ _ _ hJ (hsame hDF hZ)
      subst hYe
      obtain ⟨fn1, t1, as1, bd1, y1, y2⟩ := (hY k D W d mx vs hJW hd' hmx (fun b o hb => ⟨hcx b o hb, (hmd b o hb).imp id fun ⟨q1, q2⟩ => ⟨by rw [← hZn]; exact q1, fun q => q2 (hDF b q)⟩⟩) hargs)
      refine ⟨fn1, t1, as1, bd1, y1, RoundIn.mono y2 ?_⟩
      rintro e W' ⟨hkp, hmW, hcase⟩
      refine ⟨hmW, hkp.size, fun b hb hF _ => hkp.block b ⟨hb, fun q => hF (hDF b q)⟩, ?_⟩
      rcases hcase with ⟨rfl, D', hD', hJ'⟩ | ⟨rfl, D', hD', hJ'⟩
      · refine ⟨true, rfl, fun O hn' hO => ⟨some (k + 1), D', rfl, hZn, fun b hb => ⟨hJb _ _ _ hJ' b hb, fun ho => ?_⟩, hJ'⟩⟩
        obtain ⟨o1, o2, o3⟩ := hO b ho
        rcases hD' b hb with q | q | q
        · exact o2 (hDF b q)
        · omega
        · exact q o3
      · refine ⟨false, rfl, fun O hn' hO => ⟨none, D', rfl, hZn, fun b hb => ⟨hJxb _ _ hJ' b hb, fun ho => ?_⟩, hJ'⟩⟩
        obtain ⟨o1, o2, o3⟩ := hO b ho
        rcases hD' b hb with q | q | q
        · exact o2 (hDF b q)
        · omega
        · exact q o3
  have hCls : Cls P (C.say Y) T m NF none 0 := ⟨fun Z Z' ⟨k, D, h1, _⟩ ⟨k', D', h1', _⟩ g v hv hp => by
    rw [h1] at hv
    cases g with
    | zero => exact ⟨_, by rw [h1']; rfl, rfl⟩
    | succ g => simp at hv, fun Y' e => by injection e with e; subst e; exact ⟨rfl, rfl, hYO⟩⟩
  have hlen : args.toArray.size = caps.length + 1 := by simp [args, hclen]
  have hwp : c.wpIn (fz none) 0 P (bodyPostM (fz none) 0 P fn R) { tmps := args.toArray ++ Array.replicate (fn.ntmps - args.toArray.size) undef, defers := [] } W0 := by
    have hN : NF.has { tmps := args.toArray ++ Array.replicate (fn.ntmps - args.toArray.size) undef, defers := [] } := by
      refine ⟨by simp only [Array.size_append, Array.size_replicate]; show _ = fn.ntmps; omega, fun p hp => ?_⟩
      obtain ⟨⟨v, i⟩, hq, rfl⟩ := List.mem_map.1 hp
      have hv := List.mk_mem_zipIdx_iff_getElem?.1 hq
      show (args.toArray ++ _).getD i undef = v
      have hi : i < args.length := (List.getElem?_eq_some_iff.1 hv).1
      rw [Array.getD_eq_getD_getElem?, Array.getElem?_append_left (by simpa using hi)]
      simp [hv]
    let Z0 : Base := ⟨W0.heap.size, W0, fun b => b < W0.heap.size, Nat.le_refl _, [.int .i64 (code (some 0))]⟩
    have hT0 : T Z0 := ⟨some 0, D0, rfl, rfl, fun b hb => hJb _ _ _ h0 b hb, h0⟩
    refine vc_ok (N := NF) hSY c T m none 0 hCls hcm.eq (.inr rfl) 0 _ ⟨Y.fix, fun _ => .any, [.cnt (some 0)]⟩ _ W0 _ (fun d hdd => ?_) ⟨Z0, hT0, hN, m, [.int .i64 (code (some 0))], ?_⟩ hvc ?_
    · have := List.all_eq_true.1 (hd x) d hdd
      split at this
      · rename_i hb1
        refine ⟨?_, fun p hp e => ?_⟩
        · simp only [Nat.blt, Nat.ble_eq] at hb1; exact hb1
        · simp only [Nat.blt, Nat.ble_eq] at this
          obtain ⟨⟨v, i⟩, hq, rfl⟩ := List.mem_map.1 hp
          have hv := List.mk_mem_zipIdx_iff_getElem?.1 hq
          have hi : i < args.length := (List.getElem?_eq_some_iff.1 hv).1
          have e : i = d := e
          simp [args, hclen] at hi
          omega
      · cases this
    · refine ⟨fun i => ?_, rfl, by simp [Value.oneCell'], trivial, fun g => ?_, fun g g' v v' b hne l1 l2 u1 u2 b1 b2 => ?_, hm, View.le_refl m, fun b o hb => .inl hb, ⟨rfl, rfl, rfl, Nat.le_refl _, fun b hb => ⟨hb, rfl⟩⟩, fun g v b l1 u1 b1 => ?_, fun g v hv _ => hv⟩
      · show (look Y.fix i .any).ok P m _ _
        rcases look_mem (i := i) (d := .any) (l := Y.fix) with ⟨e, _⟩ | e
        · rw [e]; exact ⟨_, rfl⟩
        · exact AV.ok_le (View.le_refl m) nil_ext (hYO.fix _ e _ hN)
      · cases g with
        | zero => rfl
        | succ g => cases g <;> trivial
      · cases g with
        | zero => simp only [List.getElem?_cons_zero, Option.some.injEq] at u1; subst u1; cases b1
        | succ g => simp at u1
      · cases g with
        | zero => simp only [List.getElem?_cons_zero, Option.some.injEq] at u1; subst u1; cases b1
        | succ g => simp at u1
    · rintro e s' a' w' hend _ ⟨Z, ⟨k, D, hk, hZn, hDF, hJ⟩, _, m1, ρ1, hr1⟩
      have hr1 := hr1.cells
      rw [hcm.eq] at hr1
      have hend' : match memNth s'.mem 0 with
          | .cnt k => match k with
            | some k => k = Y.L.length
            | .none => True
          | _ => False := by cases e <;> first | exact hend | exact hend.elim
      have hout : ∀ W, Z.ok W → R (.returned (pack [])) W := by
        intro W hW
        refine ⟨⟨_, rfl⟩, ?_⟩
        have ho := hr1.objs 0
        revert hend' ho
        cases memNth s'.mem 0 <;> intro hend' ho <;> first | exact hend'.elim | skip
        rename_i ko
        have hp := hr1.pins 0 (.int .i64 (code k)) (by rw [hk]; rfl) rfl
        have ho : ρ1[0]? = some (.int .i64 (code ko)) := ho
        rw [hp] at ho
        injection ho with ho
        injection ho with _ ho
        obtain rfl := code_inj ho
        cases k with
        | none => exact .inr ⟨D, hJxs _ _ _ hJ (hsame hDF hW)⟩
        | some k =>
          have hkl : k = Y.L.length := hend'
          subst hYe
          exact .inl ⟨D, by have := hJs _ _ _ _ hJ (hsame hDF hW); rw [hkl] at this; exact this⟩
      have post : LeavesInM (fz none) 0 P fn a'.tmps R a'.defers .returning w' := by
        refine leaves_marks (Z := Z) (fun W => ∃ m' ρ', Rel P Z m s' m' ρ' ⟨a'.tmps, []⟩ W ∧ Cells m') (fun W Dm ⟨m', ρ', hr, hc⟩ hD1 hD2 hD3 => ?_) (fun W ⟨m', ρ', hr, hc⟩ => ?_) a'.defers w' hr1.defers ⟨m1.cells, ρ1, ?_, Cells.of⟩
        · refine ⟨m', ρ', hr.shake hc (grownBy_putObj' W Dm _) (fun r e => ?_) trivial, hc⟩
          obtain rfl := Option.some.inj e
          exact ⟨fun c t f h => (by rw [hD3] at h; cases h), hD2⟩
        · exact ⟨pack [], results_run (vs := []) (by rw [hres]; rfl), hout W hr.below⟩
        · exact hr1.shake Cells.of (row := none) ⟨rfl, rfl, rfl, Nat.le_refl _, fun _ _ _ => rfl⟩ (fun r e => by cases e) trivial
      cases e <;> first | exact post | exact hend.elim
  have := callsIn_of_wp_marks (F := Fence.wide) (n := 0) hf hb trivial hwp
  have e : args.toArray = #[Value.func (.yield l) #[] #[]] ++ cs.toArray := by simp [args]
  rw [← e]
  exact this
end
def ItsOk (P : Program) (its : List (Nat × ISpec)) : Prop := ∀ F S, find its F = some S → IMeets P F S
theorem ItsOk.nil (P : Program) : ItsOk P [] := fun f S h => by cases h
theorem ItsOk.cons {P : Program} {f : Nat} {S : ISpec} {l : List (Nat × ISpec)} (h : IMeets P f S) (k : ItsOk P l) : ItsOk P ((f, S) :: l) := by
  intro f' S' e
  simp only [find] at e
  split at e
  · rename_i hb
    have hb := Nat.eq_of_beq_eq_true hb
    subst hb
    obtain rfl := Option.some.inj e
    exact h
  · exact k f' S' e
end Eng

/- Contracts that were proved by hand, as contracts of the engine; and back. No condition. -/
set_option linter.unusedVariables false
set_option linter.unusedSimpArgs false
namespace Eng
open Go Go.RowKit

def RdRes (m : View) (ts : List Ty) (y : argsTy ts) (v : Value) : Prop := ∃ vs, v = pack vs ∧ RdArgs m ts y vs

theorem retsAV_len : ∀ {ts : List Ty} {y : argsTy ts}, (retsAV ts y).lenIs ts.length = true
  | [], _ => rfl
  | _ :: r, (_, _) => retsAV_len (ts := r)

section
variable {P : Program}
/-- A contract that was proved by hand: what it returns lies in new memory. -/
theorem meets_of {f : Nat} {ins outs : List Ty} {pre : argsTy ins → Prop} {g : argsTy ins → argsTy outs} (hc : Callable P f)
    (h : ∀ (w : World) (m : View) (x : argsTy ins) (vs : List Value), m.on w → pre x → RdArgs m ins x vs → Calls P f vs.toArray w fun e w' => ∃ v, e = .returned v ∧ Below w.heap.size w w' ∧ RdRes (View.from w' w.heap.size) outs (g x) v) : Meets P f (tspec true none ins outs pre g) := by
  refine ⟨hc, fun w m args vs k hm hargs hrun => ?_⟩
  obtain ⟨x, ⟨hp, hk⟩, hx⟩ := takeArgs_rd hrun hargs
  refine (h w m x vs hm hp hx).mono fun e w' ⟨v, e1, e2, us, e3, e4⟩ => ⟨v, View.from w' w.heap.size, e1, e2, View.from_on _ _, fun b o hb => ?_, ?_⟩
  · unfold View.from at hb
    split at hb
    · assumption
    · cases hb
  · obtain ⟨k1, k2⟩ := retsAV_ok (P := P) (m := _) e4
    exact ⟨_, hk, by rw [e3]; exact pack_ok k1 ⟨_, retsAV_len⟩⟩

/-- The same, for what returns plain numbers, or reads its arguments' memory in what it returns. -/
theorem meets_of' {f : Nat} {ins outs : List Ty} {pre : argsTy ins → Prop} {g : argsTy ins → argsTy outs} (hc : Callable P f)
    (h : ∀ (w : World) (m : View) (x : argsTy ins) (vs : List Value), m.on w → pre x → RdArgs m ins x vs → Calls P f vs.toArray w fun e w' => ∃ v, e = .returned v ∧ Below w.heap.size w w' ∧ RdRes (m.or (View.from w' w.heap.size)) outs (g x) v) : Meets P f (tspec false none ins outs pre g) := by
  refine ⟨hc, fun w m args vs k hm hargs hrun => ?_⟩
  obtain ⟨x, ⟨hp, hk⟩, hx⟩ := takeArgs_rd hrun hargs
  refine (h w m x vs hm hp hx).mono fun e w' ⟨v, e1, e2, us, e3, e4⟩ => ⟨v, m.or (View.from w' w.heap.size), e1, e2, View.or_on (View.on_below hm e2) (View.from_on _ _), ⟨View.le_or, fun b o hb => ?_⟩, ?_⟩
  · unfold View.or at hb
    cases hmb : m b with
    | some o' => rw [hmb] at hb; exact .inl hb
    | none =>
      rw [hmb] at hb
      unfold View.from at hb
      simp only at hb
      split at hb
      · exact .inr (by assumption)
      · cases hb
  · obtain ⟨k1, k2⟩ := retsAV_ok (P := P) (m := _) e4
    exact ⟨_, hk, by rw [e3]; exact pack_ok k1 ⟨_, retsAV_len⟩⟩

/-- From a contract of the engine back to a call. -/
theorem argsAV_of {m : View} : ∀ {ts : List Ty} {y : argsTy ts} {vs : List Value} {k : argsTy ts → Prop}, RdArgs m ts y vs → k y → takeArgs ts (retsAV ts y) k
  | [], y, vs, k, h, hk => hk
  | t :: r, (x, y), vs, k, ⟨u, us, e, h1, h2⟩, hk => by
    have hrest : takeArgs r (retsAV r y) fun y' => k (x, y') := argsAV_of h2 hk
    have tk : ∀ (t : Ty) (x : t.den) (z : AV) (K : t.den → AV → Prop), K x z → takeTy t (flatTo t x z) K := by
      intro t
      induction t with
      | prod a b iha ihb => intro x z K hk; exact iha x.1 (flatTo b x.2 z) (fun x' r => takeTy b r fun y r' => K (x', y) r') (ihb x.2 z (fun y r => K (x.1, y) r) hk)
      | int j => intro x z K hk; simpa [takeTy, flatTo] using hk
      | bool => intro x z K hk; simpa [takeTy, flatTo] using hk
      | str => intro x z K hk; simpa [takeTy, flatTo] using hk
      | list t _ => intro x z K hk; exact (castL_eq t t x (fun l' => K l' z)).mpr ⟨rfl, fun l' e => by obtain rfl := eq_of_heq e; exact hk⟩
    have ht : takeA t (toAV t x) fun x' => takeArgs r (retsAV r y) fun y' => k (x', y') := by
      cases t with
      | prod a b => exact tk (.prod a b) x .nil (fun x' z => match z with
          | .nil => takeArgs r (retsAV r y) fun y' => k (x', y')
          | _ => False) hrest
      | int j => exact tk (.int j) x .nil (fun x' _ => takeArgs r (retsAV r y) fun y' => k (x', y')) hrest
      | bool => exact tk .bool x .nil (fun x' _ => takeArgs r (retsAV r y) fun y' => k (x', y')) hrest
      | str => exact tk .str x .nil (fun x' _ => takeArgs r (retsAV r y) fun y' => k (x', y')) hrest
      | list t => exact tk (.list t) x .nil (fun x' _ => takeArgs r (retsAV r y) fun y' => k (x', y')) hrest
    exact ht
theorem calls_of {f : Nat} {fresh : Bool} {ins outs : List Ty} {pre : argsTy ins → Prop} {g : argsTy ins → argsTy outs} (h : Meets P f (tspec fresh none ins outs pre g)) {w : World} {m : View} {x : argsTy ins} {vs : List Value} (hm : m.on w) (hp : pre x) (hx : RdArgs m ins x vs) :
    Calls P f vs.toArray w fun e w' => ∃ v m', e = .returned v ∧ Below w.heap.size w w' ∧ m'.on w' ∧ (match fresh with
      | true => ∀ b o, m' b = some o → w.heap.size ≤ b
      | false => m.le m' ∧ ∀ b o, m' b = some o → m b = some o ∨ w.heap.size ≤ b) ∧ (retOne (retsAV outs (g x))).ok P m' [] [v] := by
  have := h.2 w m (retsAV ins x) vs (fun r => r = retOne (retsAV outs (g x))) hm (retsAV_ok hx).1 (argsAV_of hx ⟨hp, rfl⟩)
  refine this.mono fun e w' ⟨v, m', e1, e2, e3, e4, r, e5, e6⟩ => ⟨v, m', e1, e2, e3, e4, ?_⟩
  subst e5
  exact e6

/-- A law: it returns true, and writes nothing that was there. -/
theorem law_walk {f : Nat} {ins : List Ty} {x : argsTy ins} {w : World} {vs : List Value} (h : Meets P f (tspec true none ins [.bool] (fun _ => True) (fun _ => (true, ())))) (hx : RdArgs (fun b => w.heap[b]?) ins x vs) :
    Calls P f vs.toArray w fun e w' => e = .returned (.bool true) ∧ Below w.heap.size w w' :=
  (calls_of h (View.full_on w) trivial hx).mono fun e w' ⟨v, m', e1, e2, _, _, e5⟩ => ⟨by have e5 : [v] = [.bool true] := e5; rw [e1, (List.cons.inj e5).1], e2⟩
/-- The same, under a condition on the data that every input keeps. -/
theorem law_walk' {f : Nat} {ins : List Ty} {pre : argsTy ins → Prop} {x : argsTy ins} {w : World} {vs : List Value} (h : Meets P f (tspec true none ins [.bool] pre (fun _ => (true, ())))) (hp : pre x) (hx : RdArgs (fun b => w.heap[b]?) ins x vs) :
    Calls P f vs.toArray w fun e w' => e = .returned (.bool true) ∧ Below w.heap.size w w' :=
  (calls_of h (View.full_on w) hp hx).mono fun e w' ⟨v, m', e1, e2, _, _, e5⟩ => ⟨by have e5 : [v] = [.bool true] := e5; rw [e1, (List.cons.inj e5).1], e2⟩

end

/-! ### Slices of integers -/
theorem rd_SI {m : View} {w : World} (hm : m.on w) {l : List Int} {v : Value} (h : Rd m (.list (.int .i64)) l [v]) : ∃ A c, v = .slice A l.length c ∧ Ls.SI w A l.length c l := by
  obtain ⟨A, c, e, h2, h3, h4⟩ := h
  refine ⟨A, c, (List.cons.inj e).1, rfl, h2, h3, fun hn => ?_⟩
  obtain ⟨ad, e2, h5⟩ := h4 hn
  refine ⟨ad, e2, fun k hk => ?_⟩
  obtain ⟨cs, k1, k2⟩ := h5 k hk
  have k1 : cs = [.int .i64 (nthD (.int .i64) l k)] := k1
  have := View.cell_on hm (k2 0 (.int .i64 (nthD (.int .i64) l k)) (by rw [k1]; rfl))
  simp only [Ty.size, Nat.mul_one, Nat.add_zero] at this
  exact this
theorem SI_rd {w : World} {B : Nat} {A : Option Addr} {n c : Nat} {l : List Int} (h : Ls.SI w A n c l) (hB : ∀ ad, A = some ad → B ≤ ad.block) : Rd (View.from w B) (.list (.int .i64)) l [.slice A n c] := by
  obtain ⟨h1, h2, h3, h4⟩ := h
  refine ⟨A, c, by rw [h1], by rw [h1]; exact h2, h3, fun hl => ?_⟩
  obtain ⟨ad, e, h5⟩ := h4 (by rw [← h1]; exact hl)
  refine ⟨ad, e, fun i hi => ⟨[.int .i64 (nthD (.int .i64) l i)], rfl, fun j v hj => ?_⟩⟩
  cases j with
  | succ j => simp at hj
  | zero =>
    simp only [List.getElem?_cons_zero, Option.some.injEq] at hj
    subst hj
    have h6 := h5 i (by rw [← h1]; exact hi)
    simp only [Ty.size, Nat.mul_one, Nat.add_zero]
    have h7 : (View.from w B).cell (ad.add i) = View.cell (fun b => w.heap[b]?) (ad.add i) := by
      unfold View.cell View.from
      rw [Ls.block_add, if_pos (hB ad e)]
    rw [h7]
    exact h6
theorem SI_rd0 {w : World} {A : Option Addr} {n c : Nat} {l : List Int} (h : Ls.SI w A n c l) : Rd (fun b => w.heap[b]?) (.list (.int .i64)) l [.slice A n c] :=
  Rd.le (fun b o hb => by unfold View.from at hb; split at hb <;> first | exact hb | cases hb) (SI_rd (B := 0) h fun _ _ => Nat.zero_le _)

theorem SM_rd0 {w : World} {A : Option Addr} {n c : Nat} {l : List (List Int)} (h : Ls.SM w A n c l) : Rd (fun b => w.heap[b]?) (.list (.list (.int .i64))) l [.slice A n c] := by
  obtain ⟨h1, h2, h3, h4⟩ := h
  refine ⟨A, c, by rw [h1], by rw [h1]; exact h2, h3, fun hl => ?_⟩
  obtain ⟨ad, e, h5⟩ := h4 (by rw [← h1]; exact hl)
  refine ⟨ad, e, fun i hi => ?_⟩
  obtain ⟨a, d, k1, k2⟩ := h5 i (by rw [← h1]; exact hi)
  refine ⟨[.slice a (Ls.nthL l i).length d], SI_rd0 k2, fun j v hj => ?_⟩
  cases j with
  | succ j => simp at hj
  | zero =>
    simp only [List.getElem?_cons_zero, Option.some.injEq] at hj
    subst hj
    simp only [Ty.size, Nat.mul_one, Nat.add_zero]
    exact k1

end Eng
