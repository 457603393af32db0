/- What is known of a walk, all in one: temporaries, variables, rows of the call's own, and what is only read; one law for each kind of operation; no condition of its own. -/
import Derived.Below
import Derived.Deep.Draws
import Derived.Deep.AppendLies
import Derived.Maps.AppendAt
import Derived.OwnWalk
import Derived.Tactics
import Derived.WalkKit
import Derived.KernelRfl
import Derived.RowKit3
import Derived.OrdersHeld
import Derived.ArgAppend
import Derived.RangeFuncIn
import Derived.RangeFuncCalls
import Derived.TacticsIn
import Derived.LoopNIn
namespace Go.Proofs.YtipeglbeongfmaaV
open Go Go.RowKit
set_option linter.unusedVariables false

/-- What is known of an address, or of a slice, that is only read. -/
inductive Fact where
  | row (v : Value) (sz : Nat) (es : List (List Value))
  | at_ (ad : Addr) (ls : List Value)
  | blk (k : Nat) (o : Obj)
  | lent (v : Value) (e sz : Nat) (es : List (List Value))
  | loop (l : Nat) (L : Loop) (st : LoopState) (pe : Option Code)
  | dfr (k : Nat)
  | ob2 (k k' : Nat) (p : Obj → Obj → Prop)

/-- A walk's state: how many temporaries there are, what they hold, what is only read, the variables (block, type, cells), the rows of the call's own (value, element's type, its size, elements). -/
structure St where
  n : Nat
  t : List (Nat × Value)
  f : List Fact
  b : List (Nat × TypeId × List Value)
  r : List (Value × TypeId × Nat × List (List Value))

/-- The world ahead of the walk, and which of its blocks are read. -/
structure Env where
  w0 : World
  C : Nat → Prop
  R : Option Nat
  D : List Deferred
  U : TypeId → Prop := fun _ => False
/-- A block of cells of the call's own; one whose type is in U may bear a mark behind its cells. -/
def isBox (E : Env) (w : World) (g : Nat) (T : TypeId) (xs : List Value) : Prop := ∃ z : Nat × Nat, (z = (0, 0) ∨ (E.U T ∧ xs.length ≤ z.1)) ∧ w.heap[g]? = some (.cells xs.toArray T z)
theorem isBox.of {E : Env} {w : World} {g : Nat} {T : TypeId} {xs : List Value} (h : w.heap[g]? = some (.cells xs.toArray T (0, 0))) : isBox E w g T xs := ⟨_, .inl rfl, h⟩
theorem isBox.lt {E : Env} {w : World} {g : Nat} {T : TypeId} {xs : List Value} (h : isBox E w g T xs) : g < w.heap.size := by
  obtain ⟨z, _, h⟩ := h
  exact (Array.getElem?_eq_some_iff.1 h).1
theorem isBox.same {E : Env} {w w' : World} {g : Nat} {T : TypeId} {xs : List Value} (h : isBox E w g T xs) (e : w'.heap[g]? = w.heap[g]?) : isBox E w' g T xs := by
  obtain ⟨z, hz, h⟩ := h
  exact ⟨z, hz, e.trans h⟩
theorem isBox.cell {E : Env} {w : World} {g j : Nat} {T : TypeId} {xs : List Value} {u : Value} (h : isBox E w g T xs) (hu : xs[j]? = some u) : w.cell? ⟨g, j, none⟩ = some u := by
  obtain ⟨z, _, h⟩ := h
  rw [World.cell?]
  simp only [h]
  simpa using hu
/-- The fence that a walk is in: a wide one, or a round of a range over a function. -/
def Env.F (E : Env) : Fence := { Fence.wide with round := E.R }
theorem Env.F_wide {E : Env} (h : E.R = none) : E.F = Fence.wide := by unfold Env.F; rw [h]; rfl
theorem Env.calls {E : Env} {P : Program} {f : FuncId} {args : Array Value} {w : World} {R : Ending → World → Prop} (h : Calls P f args w R) : (E.F.depth.isSome = true → 1 ≤ 0) ∧ CallsIn E.F (0 - 1) P f args w R := by
  refine ⟨fun q => (by cases q), ?_⟩
  have h2 : CallsIn Fence.wide 0 P f args w R := callsIn_wide.2 h
  cases hr : E.R with
  | none => rw [Env.F_wide hr]; exact h2
  | some l =>
    have : E.F = Fence.wide.inRound l := by unfold Env.F; rw [hr]; rfl
    rw [this]
    exact CallsIn.inRound l h2
theorem semAt_of {ro : Option Nat} {ρ : Operand → Value} {o : Oper} {P : Program} {w w' : World} {x : Next} (h : (execOp ρ o).run P w = .ok x w') (hx : ∀ d, x ≠ .defer d) : (o.semAt ro ρ).run P w = .ok x w' := by
  by_cases hd : ∃ c, o.op = .defer c
  · obtain ⟨c, hc⟩ := hd
    exfalso
    unfold execOp at h
    rw [hc] at h
    simp only [Sem.run_bind] at h
    cases hq : (resolve ρ c o.type).run P w with
    | ok d w2 =>
      rw [hq] at h
      simp only [Result.andThen_ok, Sem.run_pure] at h
      injection h with h1 h2
      exact hx _ h1.symm
    | halt e w2 => rw [hq] at h; cases h
  · rw [Oper.semAt_eq _ _ _ (fun c hc => hd ⟨c, hc⟩)]
    exact h
/-- An operation, in a round or not. -/
def wpE (E : Env) (P : Program) (o : Oper) (a : Act) (w : World) (K : Act → World → Prop) (Q : Exit → Act → World → Prop) : Prop := o.wpIn E.F 0 P a w K Q ∧ o.wp P a w K Q
theorem wo_value {E : Env} {P : Program} {o : Oper} {a : Act} {w w' : World} {v : Value} {K : Act → World → Prop} {Q : Exit → Act → World → Prop} (h : (execOp a.eval o).run P w = .ok (.value v) w') (hk : K (a.put o.dst v) w') : wpE E P o a w K Q :=
  ⟨⟨fun _ _ => trivial, by rw [semAt_of h (fun _ e => by cases e)]; exact hk⟩, by unfold Oper.wp; rw [h]; exact hk⟩
theorem wo_skip {E : Env} {P : Program} {o : Oper} {a : Act} {w w' : World} {K : Act → World → Prop} {Q : Exit → Act → World → Prop} (h : (execOp a.eval o).run P w = .ok .skip w') (hk : K (a.put o.dst undef) w') : wpE E P o a w K Q :=
  ⟨⟨fun _ _ => trivial, by rw [semAt_of h (fun _ e => by cases e)]; exact hk⟩, by unfold Oper.wp; rw [h]; exact hk⟩
theorem wo_enter {E : Env} {P : Program} {o : Oper} {a : Act} {w w' : World} {f : FuncId} {args : Array Value} {K : Act → World → Prop} {Q : Exit → Act → World → Prop} (h : (execOp a.eval o).run P w = .ok (.enter f args) w') (hk : Calls P f args w' (fun
    | .returned v, w'' => K (a.put o.dst v) w''
    | .panicked chain, w'' => Q (.panic chain) a w''
    | .outgrown, _ => LetsOut Q)) : wpE E P o a w K Q :=
  ⟨⟨fun _ _ => trivial, by rw [semAt_of h (fun _ e => by cases e)]; exact Env.calls hk⟩, by unfold Oper.wp; rw [h]; exact hk⟩

def St.blocks (s : St) : List Nat := s.b.map (·.1) ++ s.r.filterMap (·.1.ownBlock)
/-- A block that nobody writes. -/
def ok (E : Env) (s : St) (w : World) (k : Nat) : Prop := (E.C k ∨ E.w0.heap.size ≤ k) ∧ k < w.heap.size ∧ k ∉ s.blocks

def flatOk (sz : Nat) (es : List (List Value)) : Prop := ∀ ls ∈ es, ls.length = sz ∧ ∀ u ∈ ls, u.oneCell' = true

def rowHolds (base : Nat) (w : World) (x : Value × TypeId × Nat × List (List Value)) : Prop := flatOk x.2.2.1 x.2.2.2 ∧ w.ownsRow base x.2.1 x.2.2.1 x.1 x.2.2.2.length x.2.2.2.flatten

def Fact.holds (ok : Nat → Prop) (w : World) : Fact → Prop
  | .row v sz es => flatOk sz es ∧ ∃ A c, v = .slice A es.length c ∧ es.length ≤ c ∧ c ≤ maxLen ∧ (0 < es.length → ∃ ad, A = some ad ∧ ok ad.block) ∧ ∀ i ls, es[i]? = some ls → ∀ ad, A = some ad → ∀ j u, ls[j]? = some u → w.cell? (ad.add (i * sz + j)) = some u
  | .at_ ad ls => ok ad.block ∧ ∀ j u, ls[j]? = some u → w.cell? (ad.add j) = some u
  | .blk k o => ok k ∧ w.heap[k]? = some o
  | .lent v e sz es => rowHolds 0 w (v, e, sz, es) ∧ ∀ b, v.ownBlock = some b → ok b
  | .loop l L st pe => ok l ∧ w.heap[l]? = some (.loop { L with state := st, pending := pe })
  | .dfr k => ok k ∧ w.heap[k]? = some (.deferred (some []))
  | .ob2 k k' p => (ok k ∧ ok k') ∧ ∃ o o', w.heap[k]? = some o ∧ w.heap[k']? = some o' ∧ p o o'

structure Inv (E : Env) (s : St) (a : Act) (w : World) : Prop where
  below : Below E.w0.heap.size E.w0 w
  defers : a.defers = E.D
  size : a.tmps.size = s.n
  tmps : ∀ k v, s.t.lookup k = some v → a.tmps[k]? = some v
  facts : ∀ x ∈ s.f, x.holds (ok E s w) w
  boxes : ∀ x ∈ s.b, E.w0.heap.size ≤ x.1 ∧ isBox E w x.1 x.2.1 x.2.2
  rows : ∀ x ∈ s.r, rowHolds E.w0.heap.size w x
  nodup : s.blocks.Nodup

def St.ev (s : St) : Operand → Option Value
  | .tmp k => s.t.lookup k
  | .const v => some v
  | .func f => some (.func (.func f) #[] #[])
  | .global g => some (.pointer (some ⟨g, 0, none⟩))

def St.put (s : St) (d : Nat) (v : Value) : St := { s with t := (d, v) :: s.t }

section
variable {P : Program} {E : Env} {w w' : World} {s : St} {a : Act} {o : Oper} {ops : Array Oper} {rest : List Oper} {Q : Exit → Act → World → Prop} {d : Nat} {v u : Value} {x y : Operand}

theorem Inv.ev (h : Inv E s a w) (hx : s.ev x = some v) : a.eval x = v := by
  cases x with
  | tmp k =>
    have := h.tmps k v hx
    simp only [Act.eval, Array.getD_eq_getD_getElem?, this, Option.getD_some]
  | const c => simpa [St.ev, Act.eval] using hx
  | func f => simpa [St.ev, Act.eval] using hx
  | global g => simpa [St.ev, Act.eval] using hx

theorem blocks_put : (s.put d v).blocks = s.blocks := rfl

theorem Inv.put (h : Inv E s a w) (hd : d < s.n) (v : Value) : Inv E (s.put d v) (a.put (some d) v) w where
  below := h.below
  defers := h.defers
  size := by simpa [Act.put, St.put] using h.size
  tmps := by
    intro k u hk
    simp only [St.put, List.lookup_cons] at hk
    simp only [Act.put, Array.getElem?_setIfInBounds]
    by_cases e : d = k
    · subst e
      rw [if_pos rfl, if_pos (by rw [h.size]; exact hd)]
      simpa using hk
    · rw [if_neg e]
      have e2 : (k == d) = false := by simpa using fun z => e z.symm
      rw [e2] at hk
      exact h.tmps k u hk
  facts := h.facts
  boxes := h.boxes
  rows := h.rows
  nodup := h.nodup

/-- One operation: from a state to any of those. -/
def Op1 (P : Program) (E : Env) (o : Oper) (s : St) (R : St → Prop) : Prop :=
  ∀ (a : Act) (w : World) (K : Act → World → Prop) (Q : Exit → Act → World → Prop), Inv E s a w → (∀ s' a' w', R s' → Inv E s' a' w' → K a' w') → wpE E P o a w K Q

def VL (P : Program) (E : Env) (ops : Array Oper) (Q : Exit → Act → World → Prop) (l : List Oper) (s : St) : Prop :=
  ∀ a w, Inv E s a w → wpListIn E.F 0 P ops Q l a w
def VC (P : Program) (E : Env) (c : Code) (Q : Exit → Act → World → Prop) (s : St) : Prop :=
  ∀ a w, Inv E s a w → c.wpIn E.F 0 P Q a w

/-- Is an operation carried out. -/
def guardOn (ops : Array Oper) (s : St) (o : Oper) : Option Bool :=
  match o.guard with
  | none => some true
  | some (j, want) =>
    match (ops[j]?).bind (·.dst) with
    | some d => match s.t.lookup d with
      | some (.bool b) => some (b == want)
      | some (.tuple _) => some false
      | _ => none
    | none => none

theorem guardOn_wanted {b : Bool} (h : Inv E s a w) (hg : guardOn ops s o = some b) : Region.wanted o (yielded ops a.tmps) = b := by
  unfold guardOn at hg
  unfold Region.wanted
  cases hgu : o.guard with
  | none =>
    rw [hgu] at hg
    simpa using hg
  | some p =>
    obtain ⟨j, want⟩ := p
    rw [hgu] at hg
    simp only at hg ⊢
    cases hd : (ops[j]?).bind (·.dst) with
    | none => rw [hd] at hg; cases hg
    | some d =>
      rw [hd] at hg
      simp only at hg
      cases hl : s.t.lookup d with
      | none => rw [hl] at hg; cases hg
      | some v =>
        rw [hl] at hg
        have ht := h.tmps d v hl
        cases v with
        | bool c =>
          simp only [Option.some.injEq] at hg
          have : yielded ops a.tmps j = some c := by
            unfold yielded
            rw [hd]
            simp [ht]
          rw [this, ← hg]
          cases c <;> cases want <;> rfl
        | tuple x =>
          simp only [Option.some.injEq] at hg
          have : yielded ops a.tmps j = none := by
            unfold yielded
            rw [hd]
            simp [ht]
          rw [this, ← hg]
          rfl
        | _ => cases hg

theorem VL.step {R : St → Prop} (h1 : Op1 P E o s R) (hg : guardOn ops s o = some true) (h : ∀ s', R s' → VL P E ops Q rest s') : VL P E ops Q (o :: rest) s := by
  intro a w hi
  refine wpListIn_step fun K hK => ?_
  rw [if_pos (guardOn_wanted hi hg)]
  exact (h1 a w K Q hi (fun s' a' w' hr hi' => hK _ _ (h s' hr a' w' hi'))).1

theorem VL.step1 {s' : St} (h1 : Op1 P E o s (· = s')) (hg : guardOn ops s o = some true) (h : VL P E ops Q rest s') : VL P E ops Q (o :: rest) s :=
  VL.step h1 hg (fun _ e => e ▸ h)

theorem lookup_put_other {k : Nat} (h : s.t.lookup k = some u) (hk : k ≠ d) : (a.put (some d) v).tmps[k]? = a.tmps[k]? := by
  simp only [Act.put, Array.getElem?_setIfInBounds]
  rw [if_neg (fun e => hk e.symm)]

theorem Inv.undef (h : Inv E s a w) (hd : ∀ d, o.dst = some d → s.t.lookup d = none) : Inv E s (a.put o.dst v) w := by
  cases e : o.dst with
  | none => exact h
  | some d =>
    refine ⟨h.below, h.defers, by simpa [Act.put] using h.size, fun k u hk => ?_, h.facts, h.boxes, h.rows, h.nodup⟩
    have hn := hd d e
    rw [lookup_put_other hk (fun z => by rw [z, hn] at hk; cases hk)]
    exact h.tmps k u hk

theorem VL.skip (hg : guardOn ops s o = some false) (hd : ∀ d, o.dst = some d → s.t.lookup d = none) (h : VL P E ops Q rest s) : VL P E ops Q (o :: rest) s := by
  intro a w hi
  refine wpListIn_step fun K hK => ?_
  rw [if_neg (by rw [guardOn_wanted hi hg]; decide)]
  exact ⟨fun _ _ => trivial, hK _ _ (h _ _ (hi.undef hd))⟩

theorem VL.skipU {d : Nat} (hd : o.dst = some d) (hg : guardOn ops s o = some false) (hl : d < s.n) (h : VL P E ops Q rest (s.put d undef)) : VL P E ops Q (o :: rest) s := by
  intro a w hi
  refine wpListIn_step fun K hK => ?_
  rw [if_neg (by rw [guardOn_wanted hi hg]; decide), hd]
  exact ⟨fun _ _ => trivial, hK _ _ (h _ _ (hi.put hl undef))⟩

theorem VL.nil (h : ∀ a w, Inv E s a w → Q .normal a w) : VL P E ops Q [] s := fun a w hi => h a w hi


theorem own_same {base : Nat} {e : TypeId} {size n : Nat} {xs : List Value} (h : w.ownsRow base e size v n xs) (hm : ∀ k, v.ownBlock = some k → w'.heap[k]? = w.heap[k]?) : w'.ownsRow base e size v n xs := by
  obtain ⟨h1, h2⟩ := h
  refine ⟨h1, ?_⟩
  rcases h2 with h2 | ⟨g, cap, cur, rfl, hg, hh, r⟩
  · exact .inl h2
  · exact .inr ⟨g, cap, cur, rfl, hg, (hm g (by simp [Value.ownBlock])).trans hh, r⟩
theorem own_weak {base base' : Nat} {e : TypeId} {size n : Nat} {xs : List Value} (h : w.ownsRow base e size v n xs) (hb : base' ≤ base) : w.ownsRow base' e size v n xs := by
  obtain ⟨h1, h2⟩ := h
  refine ⟨h1, ?_⟩
  rcases h2 with h2 | ⟨g, cap, cur, rfl, hg, hh, r⟩
  · exact .inl h2
  · exact .inr ⟨g, cap, cur, rfl, Nat.le_trans hb hg, hh, r⟩

theorem Fact.mono {k1 k2 : Nat → Prop} {w w' : World} (h : ∀ k, k1 k → k2 k ∧ w'.heap[k]? = w.heap[k]?) {x : Fact} (hx : x.holds k1 w) : x.holds k2 w' := by
  cases x with
  | row v sz es =>
    obtain ⟨hf, A, c, rfl, h1, h2, h3, h4⟩ := hx
    refine ⟨hf, A, c, rfl, h1, h2, fun hp => ?_, fun i ls hi ad hA j u hu => ?_⟩
    · obtain ⟨ad, e, hk⟩ := h3 hp
      exact ⟨ad, e, (h _ hk).1⟩
    · obtain ⟨ad', e, hk⟩ := h3 (by have := (List.getElem?_eq_some_iff.1 hi).1; omega)
      rw [hA] at e
      obtain rfl := Option.some.inj e
      have hb : (ad.add (i * sz + j)).block = ad.block := by unfold Addr.add; split <;> rfl
      have e : w'.cell? (ad.add (i * sz + j)) = w.cell? (ad.add (i * sz + j)) := World.cell?_of_block (by rw [hb]; exact (h _ hk).2)
      exact e.trans (h4 i ls hi ad hA j u hu)
  | at_ ad ls =>
    obtain ⟨hk, hc⟩ := hx
    refine ⟨(h _ hk).1, fun j u hu => ?_⟩
    have hb : (ad.add j).block = ad.block := by unfold Addr.add; split <;> rfl
    have e : w'.cell? (ad.add j) = w.cell? (ad.add j) := World.cell?_of_block (by rw [hb]; exact (h _ hk).2)
    exact e.trans (hc j u hu)
  | blk k o =>
    obtain ⟨hk, hc⟩ := hx
    exact ⟨(h _ hk).1, (h _ hk).2.trans hc⟩
  | lent v e sz es =>
    obtain ⟨⟨h1, h2⟩, hk⟩ := hx
    exact ⟨⟨h1, own_same h2 fun k e => (h _ (hk k e)).2⟩, fun b e => (h _ (hk b e)).1⟩
  | loop l L st pe =>
    obtain ⟨hk, hc⟩ := hx
    exact ⟨(h _ hk).1, (h _ hk).2.trans hc⟩
  | dfr k =>
    obtain ⟨hk, hc⟩ := hx
    exact ⟨(h _ hk).1, (h _ hk).2.trans hc⟩
  | ob2 k k' p =>
    obtain ⟨⟨hk, hk'⟩, o, o', ho, ho', hp⟩ := hx
    exact ⟨⟨(h _ hk).1, (h _ hk').1⟩, o, o', (h _ hk).2.trans ho, (h _ hk').2.trans ho', hp⟩

/-- The memory's part of a state. -/
structure Mem (E : Env) (s : St) (w : World) : Prop where
  facts : ∀ x ∈ s.f, x.holds (fun k => k < w.heap.size) w
  boxes : ∀ x ∈ s.b, isBox E w x.1 x.2.1 x.2.2
  rows : ∀ x ∈ s.r, rowHolds E.w0.heap.size w x
theorem Inv.toMem (h : Inv E s a w) : Mem E s w := ⟨fun x hx => Fact.mono (fun k hk => ⟨hk.2.1, rfl⟩) (h.facts x hx), fun x hx => (h.boxes x hx).2, h.rows⟩

/-- What yields a value and does nothing else. -/
structure OpV (P : Program) (E : Env) (o : Oper) (s : St) (d : Nat) (v : Value) : Prop where
  dst : o.dst = some d
  lt : d < s.n
  run : ∀ (a : Act) (w : World), (∀ x u, s.ev x = some u → a.eval x = u) → Mem E s w → (execOp a.eval o).run P w = .ok (.value v) w
theorem OpV.op1 (h : OpV P E o s d v) : Op1 P E o s (· = s.put d v) := by
  intro a w K Q hi hk
  refine wo_value (h.run a w (fun x u hx => hi.ev hx) hi.toMem) ?_
  rw [h.dst]
  exact hk _ _ _ rfl (hi.put h.lt v)
theorem VL.val {o : Oper} (h : OpV P E o s d v) (hg : guardOn ops s o = some true) (k : VL P E ops Q rest (s.put d v)) : VL P E ops Q (o :: rest) s := VL.step1 h.op1 hg k
theorem op_val (hd : o.dst = some d) (hn : d < s.n) (hr : ∀ a : Act, (∀ x u, s.ev x = some u → a.eval x = u) → ∀ w, (execOp a.eval o).run P w = .ok (.value v) w) : OpV P E o s d v := ⟨hd, hn, fun a w ha _ => hr a ha w⟩

theorem op_move {t : TypeId} {pos : String} {after : Array Edge} {g : Option (Nat × Bool)} (hx : s.ev x = some v) (hn : d < s.n := by exact ltn rfl) : OpV P E ⟨some d, .move x, t, pos, after, g⟩ s d v :=
  op_val rfl hn (fun a ha w => by simp [execOp, ha x v hx])
theorem op_assign {t : TypeId} {pos : String} {after : Array Edge} {g : Option (Nat × Bool)} (hx : s.ev x = some v) (hn : d < s.n := by exact ltn rfl) : OpV P E ⟨some d, .assign x, t, pos, after, g⟩ s d v :=
  op_val rfl hn (fun a ha w => by simp [execOp, ha x v hx])

theorem Inv.blk_lt (h : Inv E s a w) {k : Nat} (hk : k ∈ s.blocks) : k < w.heap.size ∧ E.w0.heap.size ≤ k := by
  unfold St.blocks at hk
  rcases List.mem_append.1 hk with hk | hk
  · obtain ⟨x, hx, rfl⟩ := List.mem_map.1 hk
    obtain ⟨h1, h2⟩ := h.boxes x hx
    exact ⟨h2.lt, h1⟩
  · obtain ⟨x, hx, hb⟩ := List.mem_filterMap.1 hk
    obtain ⟨_, h2⟩ := h.rows x hx
    have := h2.lt k hb
    exact ⟨this.2, this.1⟩

/-- The world has moved: what is to be shown. -/
theorem Inv.mem {s' : St} (h : Inv E s a w) (ht : s'.t = s.t) (hn : s'.n = s.n) (hb : Below E.w0.heap.size E.w0 w') (hok : ∀ k, ok E s w k → ok E s' w' k ∧ w'.heap[k]? = w.heap[k]?)
    (hf : ∀ x ∈ s'.f, x ∈ s.f ∨ x.holds (ok E s' w') w')
    (hbx : ∀ x ∈ s'.b, (x ∈ s.b ∧ w'.heap[x.1]? = w.heap[x.1]?) ∨ (E.w0.heap.size ≤ x.1 ∧ isBox E w' x.1 x.2.1 x.2.2))
    (hr : ∀ x ∈ s'.r, (x ∈ s.r ∧ ∀ k, x.1.ownBlock = some k → w'.heap[k]? = w.heap[k]?) ∨ rowHolds E.w0.heap.size w' x) (hnd : s'.blocks.Nodup) : Inv E s' a w' where
  below := hb
  defers := h.defers
  size := by rw [hn]; exact h.size
  tmps := by rw [ht]; exact h.tmps
  facts := by
    intro x hx
    rcases hf x hx with hx | hx
    · exact Fact.mono hok (h.facts x hx)
    · exact hx
  boxes := by
    intro x hx
    rcases hbx x hx with ⟨hx, e⟩ | hx
    · obtain ⟨h1, h2⟩ := h.boxes x hx
      exact ⟨h1, h2.same e⟩
    · exact hx
  rows := by
    intro x hx
    rcases hr x hx with ⟨hx, e⟩ | hx
    · obtain ⟨h1, h2⟩ := h.rows x hx
      exact ⟨h1, own_same h2 e⟩
    · exact hx
  nodup := hnd

/-- The world has drawn. -/
theorem Inv.drew (h : Inv E s a w) : Inv E s a w.drew :=
  h.mem rfl rfl h.below.drew (fun k hk => ⟨⟨hk.1, hk.2.1, hk.2.2⟩, rfl⟩) (fun x hx => .inl hx) (fun x hx => .inl ⟨hx, rfl⟩) (fun x hx => .inl ⟨hx, fun _ _ => rfl⟩) h.nodup

/-! ### types -/
def isAggD : TypeDesc → Bool
  | .struct _ | .array _ _ => true
  | _ => false
structure TI (P : Program) (t : TypeId) (agg : Bool) (k : Nat) : Prop where
  agg : ∃ d, P.underlying t = some d ∧ isAggD d = agg
  size : (P.info? t).map (·.size) = some k

/-- The value that cells are, by their type. -/
def valOf (agg : Bool) (ls : List Value) : Value := if agg then .agg ls.toArray else ls.headD undef

theorem run_isAgg {t : TypeId} {agg : Bool} {k : Nat} (h : TI P t agg k) (w : World) : (isAgg t).run P w = .ok agg w := by
  obtain ⟨d, hu, rfl⟩ := h.agg
  unfold isAgg
  rw [Sem.run_bind, run_underlying hu w]
  cases d <;> rfl
theorem run_size {t : TypeId} {agg : Bool} {k : Nat} (h : TI P t agg k) (w : World) : (sizeOf t).run P w = .ok k w := by
  have h2 := h.size
  cases hq : P.info? t with
  | none => rw [hq] at h2; cases h2
  | some i =>
    rw [hq] at h2
    have : i.size = k := by simpa using h2
    simp [sizeOf, typeInfo, hq, this]

theorem run_load_ls {t : TypeId} {agg : Bool} {ls : List Value} {ad : Addr} (h : TI P t agg ls.length) (h1 : agg = false → ls.length = 1) (hc : ∀ j u, ls[j]? = some u → w.cell? (ad.add j) = some u) :
    (loadVar t ad).run P w = .ok (valOf agg ls) w := by
  unfold loadVar
  rw [Sem.run_bind, run_isAgg h w, Result.andThen_ok]
  cases agg with
  | true => simp [run_size h w, run_loadCells_list (P := P) w ad ls hc, valOf]
  | false =>
    match ls, h1 rfl with
    | [u], _ =>
      have h0 := hc 0 u rfl
      have : ad.add 0 = ad := rfl
      rw [this] at h0
      simp only [Bool.false_eq_true, if_false]
      simp [load, Sem.run, h0, valOf]

theorem add_at (g o j : Nat) : (⟨g, o, none⟩ : Addr).add j = ⟨g, o + j, none⟩ := by unfold Addr.add; split <;> simp_all
theorem add_add (ad : Addr) (i j : Nat) : (ad.add i).add j = ad.add (i + j) := by
  unfold Addr.add
  by_cases hi : i = 0
  · subst hi; simp
  · by_cases hj : j = 0
    · subst hj; simp [hi]
    · simp [hi, hj, Nat.add_assoc]

theorem op_load_run {t : TypeId} {ty : TypeId} {pos : String} {after : Array Edge} {gd : Option (Nat × Bool)} {ad : Addr} {agg : Bool} {ls : List Value} (hx : s.ev x = some (.pointer (some ad))) (hT : TI P t agg ls.length) (h1 : agg = false → ls.length = 1) (hn : d < s.n)
    (hc : ∀ w, Mem E s w → ∀ j u, ls[j]? = some u → w.cell? (ad.add j) = some u) : OpV P E ⟨some d, .load t x, ty, pos, after, gd⟩ s d (valOf agg ls) :=
  ⟨rfl, hn, fun a w ha hm => by simp [execOp, ha x _ hx, Instr.loadAt, Instr.sureAddr, run_load_ls hT h1 (hc w hm)]⟩

/-- A variable, or a part of one, is read. -/
theorem op_load {t : TypeId} {ty : TypeId} {pos : String} {after : Array Edge} {gd : Option (Nat × Bool)} {g o : Nat} {T : TypeId} {xs : List Value} {agg : Bool} (i k : Nat) (hx : s.ev x = some (.pointer (some ⟨g, o, none⟩))) (hb : s.b[i]? = some (g, T, xs)) (hT : TI P t agg k) (hl : ((xs.drop o).take k).length = k) (h1 : agg = false → k = 1) (hn : d < s.n := by exact ltn rfl) :
    OpV P E ⟨some d, .load t x, ty, pos, after, gd⟩ s d (valOf agg ((xs.drop o).take k)) :=
  op_load_run hx (by rw [hl]; exact hT) (fun e => by rw [hl]; exact h1 e) hn (fun w hi j u hu => by
    have h2 := hi.boxes _ (List.mem_of_getElem? hb)
    rw [add_at]
    have hj : j < k := by have := (List.getElem?_eq_some_iff.1 hu).1; omega
    rw [List.getElem?_take, if_pos hj, List.getElem?_drop] at hu
    exact h2.cell hu)
/-- What is only read. -/
theorem op_load_at {t : TypeId} {ty : TypeId} {pos : String} {after : Array Edge} {gd : Option (Nat × Bool)} {ad : Addr} {xs : List Value} {agg : Bool} (i o k : Nat) (hx : s.ev x = some (.pointer (some (ad.add o)))) (hb : s.f[i]? = some (.at_ ad xs)) (hT : TI P t agg k) (hl : ((xs.drop o).take k).length = k) (h1 : agg = false → k = 1) (hn : d < s.n := by exact ltn rfl) :
    OpV P E ⟨some d, .load t x, ty, pos, after, gd⟩ s d (valOf agg ((xs.drop o).take k)) :=
  op_load_run hx (by rw [hl]; exact hT) (fun e => by rw [hl]; exact h1 e) hn (fun w hi j u hu => by
    obtain ⟨_, h2⟩ := hi.facts _ (List.mem_of_getElem? hb)
    have hj : j < k := by have := (List.getElem?_eq_some_iff.1 hu).1; omega
    rw [List.getElem?_take, if_pos hj, List.getElem?_drop] at hu
    rw [add_add]
    exact h2 _ _ hu)

/-! ### variables made and written -/
theorem Inv.alloc (h : Inv E s a w) (T : TypeId) (xs : List Value) : Inv E { s with b := (w.heap.size, T, xs) :: s.b } a (w.alloc (.cells xs.toArray T)) := by
  have hs : E.w0.heap.size ≤ w.heap.size := h.below.size
  refine h.mem rfl rfl (h.below.alloc hs _) (fun k hk => ⟨⟨hk.1, by have := hk.2.1; simp; omega, ?_⟩, heap_alloc_old w _ hk.2.1⟩) (fun x hx => .inl hx) ?_ (fun x hx => .inl ⟨hx, fun k hk => heap_alloc_old w _ ((h.rows x hx).2.lt k hk).2⟩) ?_
  · have := hk.2.1
    have h2 := hk.2.2
    unfold St.blocks at h2 ⊢
    simp only [List.map_cons, List.cons_append, List.mem_cons, not_or]
    exact ⟨by omega, h2⟩
  · intro x hx
    rcases List.mem_cons.1 hx with rfl | hx
    · exact .inr ⟨hs, .of (heap_alloc_new w _)⟩
    · exact .inl ⟨hx, heap_alloc_old w _ (h.boxes x hx).2.lt⟩
  · unfold St.blocks
    simp only [List.map_cons, List.cons_append, List.nodup_cons]
    exact ⟨fun hm => by have := (h.blk_lt hm).1; omega, h.nodup⟩

/-- Values of one cell each. -/
inductive One (s : St) : List Value → Prop where
  | nil : One s []
  | c {u : Value} {us : List Value} (h : u.oneCell' = true) (k : One s us) : One s (u :: us)
  | f {u : Value} {us : List Value} {sz : Nat} {es : List (List Value)} (i : Nat) (h : s.f[i]? = some (.row u sz es)) (k : One s us) : One s (u :: us)
  | r {u : Value} {us : List Value} {e : TypeId} {sz : Nat} {es : List (List Value)} (i : Nat) (h : s.r[i]? = some (u, e, sz, es)) (k : One s us) : One s (u :: us)
theorem One.all {us : List Value} (h1 : One s us) (h : Mem E s w) : ∀ u ∈ us, u.oneCell' = true := by
  induction h1 with
  | nil => simp
  | c hu _ ih =>
    intro u hm
    rcases List.mem_cons.1 hm with rfl | hm
    · exact hu
    · exact ih u hm
  | f i hf _ ih =>
    intro u hm
    rcases List.mem_cons.1 hm with rfl | hm
    · obtain ⟨_, A, c, rfl, _⟩ := h.facts _ (List.mem_of_getElem? hf)
      rfl
    · exact ih u hm
  | r i hf _ ih =>
    intro u hm
    rcases List.mem_cons.1 hm with rfl | hm
    · obtain ⟨_, _, h2⟩ := h.rows _ (List.mem_of_getElem? hf)
      rcases h2 with ⟨e, _⟩ | ⟨g, cap, cur, e, _⟩ <;> (simp only at e; rw [e]; rfl)
    · exact ih u hm

/-- The cells of a value. -/
inductive Cells (s : St) : Value → List Value → Prop where
  | agg {xs : List Value} (h : One s xs) : Cells s (.agg xs.toArray) xs
  | c {u : Value} (h : u.oneCell' = true) : Cells s u [u]
  | f {u : Value} {sz : Nat} {es : List (List Value)} (i : Nat) (h : s.f[i]? = some (.row u sz es)) : Cells s u [u]
  | r {u : Value} {e : TypeId} {sz : Nat} {es : List (List Value)} (i : Nat) (h : s.r[i]? = some (u, e, sz, es)) : Cells s u [u]
theorem cells_one {u : Value} (h : u.oneCell' = true) : u.cells.toList = [u] := by cases u <;> first | rfl | cases h
theorem Cells.all {v : Value} {us : List Value} (h1 : Cells s v us) (h : Mem E s w) : v.cells.toList = us ∧ ∀ u ∈ us, u.oneCell' = true := by
  cases h1 with
  | agg h1 => exact ⟨rfl, h1.all h⟩
  | c h1 => exact ⟨cells_one h1, (One.c h1 .nil).all h⟩
  | f i h1 => have := (One.f i h1 .nil).all h; exact ⟨cells_one (this _ (by simp)), this⟩
  | r i h1 => have := (One.r i h1 .nil).all h; exact ⟨cells_one (this _ (by simp)), this⟩

theorem op_box {T ty : TypeId} {pos : String} {after : Array Edge} {gd : Option (Nat × Bool)} {us : List Value} (hx : s.ev x = some v) (hc : Cells s v us) (hn : d < s.n := by exact ltn rfl) :
    Op1 P E ⟨some d, .box T x, ty, pos, after, gd⟩ s (fun s' => ∃ g, s' = St.put { s with b := (g, T, us) :: s.b } d (.pointer (some ⟨g, 0, none⟩))) := by
  intro a w K Q hi hk
  obtain ⟨rfl, _⟩ := hc.all hi.toMem
  have : (execOp a.eval ⟨some d, .box T x, ty, pos, after, gd⟩).run P w = .ok (.value (.pointer (some ⟨w.heap.size, 0, none⟩))) (w.alloc (.cells v.cells T)) := by
    simp [execOp, hi.ev hx, Instr.box, newVar, newRow, newObj]
    rfl
  refine wo_value this ?_
  have h2 := hi.alloc T v.cells.toList
  rw [Array.toArray_toList] at h2
  exact hk _ _ _ ⟨w.heap.size, rfl⟩ (h2.put (by exact hn) _)

theorem op_alloc {T ty : TypeId} {pos : String} {after : Array Edge} {gd : Option (Nat × Bool)} {z : Value} (hz : (P.info? T).bind (·.zero) = some z) (hn : d < s.n := by exact ltn rfl) :
    Op1 P E ⟨some d, .alloc T, ty, pos, after, gd⟩ s (fun s' => ∃ g, s' = St.put { s with b := (g, T, z.cells.toList) :: s.b } d (.pointer (some ⟨g, 0, none⟩))) := by
  intro a w K Q hi hk
  have hzv : (zeroValue T).run P w = .ok z w := by
    cases hq : P.info? T with
    | none => rw [hq] at hz; cases hz
    | some i =>
      rw [hq] at hz
      have : i.zero = some z := by simpa using hz
      simp [zeroValue, typeInfo, hq, this]
  have : (execOp a.eval ⟨some d, .alloc T, ty, pos, after, gd⟩).run P w = .ok (.value (.pointer (some ⟨w.heap.size, 0, none⟩))) (w.alloc (.cells z.cells T)) := by
    simp [execOp, Instr.alloc, hzv, newVar, newRow, newObj]
    rfl
  refine wo_value this ?_
  have h2 := hi.alloc T z.cells.toList
  rw [Array.toArray_toList] at h2
  exact hk _ _ _ ⟨w.heap.size, rfl⟩ (h2.put (by exact hn) _)

def upd (xs : List Value) (o : Nat) (vs : List Value) : List Value := xs.take o ++ vs ++ xs.drop (o + vs.length)

theorem map_set_same {g : Nat} {T : TypeId} {xs ys : List Value} {b : List (Nat × TypeId × List Value)} (i : Nat) (h : b[i]? = some (g, T, xs)) : (b.set i (g, T, ys)).map (·.1) = b.map (·.1) := by
  rw [List.map_set]
  apply List.ext_getElem?
  intro j
  rw [List.getElem?_set]
  split
  · subst j
    have hi := (List.getElem?_eq_some_iff.1 h).1
    have h2 := (List.getElem?_eq_some_iff.1 h).2
    simp [hi, h2]
  · rfl

theorem mem_set {α : Type} {l : List α} {i : Nat} {x y : α} (h : x ∈ l.set i y) : x = y ∨ ∃ j, j ≠ i ∧ l[j]? = some x := by
  obtain ⟨j, hj⟩ := List.getElem?_of_mem h
  rw [List.getElem?_set] at hj
  by_cases e : i = j
  · rw [if_pos e] at hj
    split at hj
    · exact .inl (Option.some.inj hj).symm
    · cases hj
  · rw [if_neg e] at hj
    exact .inr ⟨j, fun z => e z.symm, hj⟩

theorem nodup_at {l : List Nat} (h : l.Nodup) {i j : Nat} {x : Nat} (hi : l[i]? = some x) (hj : l[j]? = some x) : i = j := by
  exact (List.getElem?_inj (List.getElem?_eq_some_iff.1 hi).1 h).1 (hi.trans hj.symm)

theorem Inv.setBox (h : Inv E s a w) {g : Nat} {T : TypeId} {xs ys : List Value} (i : Nat) (hb : s.b[i]? = some (g, T, xs)) (hlen : ys.length = xs.length) : Inv E { s with b := s.b.set i (g, T, ys) } a (w.setRow g ys.toArray) := by
  obtain ⟨hge, hheap⟩ := h.boxes _ (List.mem_of_getElem? hb)
  have hbl : St.blocks { s with b := s.b.set i (g, T, ys) } = s.blocks := by
    unfold St.blocks
    rw [map_set_same i hb]
  have hin : s.blocks[i]? = some g := by
    unfold St.blocks
    have hl := (List.getElem?_eq_some_iff.1 hb).1
    rw [List.getElem?_append_left (by simpa using hl), List.getElem?_map, hb]
    rfl
  have hg : g ∈ s.blocks := List.mem_of_getElem? hin
  refine h.mem rfl rfl ⟨h.below.os, h.below.tape, h.below.output, by simpa [World.setRow] using h.below.size, fun k hk => ?_⟩ (fun k hk => ?_) (fun x hx => .inl hx) (fun x hx => ?_) (fun x hx => .inl ⟨hx, fun k hk => ?_⟩) (by rw [hbl]; exact h.nodup)
  · rw [setRow_other w g k _ (by simp only at hge; omega)]
    exact h.below.block k hk
  · have : k ≠ g := fun e => hk.2.2 (e ▸ hg)
    refine ⟨⟨hk.1, by simpa [World.setRow] using hk.2.1, by rw [hbl]; exact hk.2.2⟩, setRow_other w g k _ this⟩
  · rcases mem_set hx with rfl | ⟨j, hj, hx⟩
    · obtain ⟨z, hz, hh⟩ := hheap
      exact .inr ⟨hge, z, by rw [hlen]; exact hz, setRow_heap w g _ _ T z hh⟩
    · refine .inl ⟨List.mem_of_getElem? hx, setRow_other w g _ _ fun e => hj ?_⟩
      refine nodup_at h.nodup (x := g) ?_ hin
      unfold St.blocks
      have hl := (List.getElem?_eq_some_iff.1 hx).1
      rw [List.getElem?_append_left (by simpa using hl), List.getElem?_map, hx]
      simp [e]
  · refine setRow_other w g k _ fun e => ?_
    have hn := h.nodup
    unfold St.blocks at hn
    rw [List.nodup_append] at hn
    refine hn.2.2 g (List.mem_map.2 ⟨_, List.mem_of_getElem? hb, rfl⟩) g (List.mem_filterMap.2 ⟨x, hx, ?_⟩) rfl
    rw [hk, e]

theorem upd_len0 {xs us : List Value} {o : Nat} (h : o + us.length ≤ xs.length) : (upd xs o us).length = xs.length := by
  unfold upd
  simp only [List.length_append, List.length_take, List.length_drop]
  omega
/-- Cells are stored that bear no mark. -/
theorem run_storeCells_z (g o : Nat) (t : TypeId) (z : Nat × Nat) : ∀ (vs : List Value) (i : Nat) (cur : Array Value) (w : World), w.heap[g]? = some (.cells cur t z) → (z = (0, 0) ∨ cur.size ≤ z.1) → o + i + vs.length ≤ cur.size → (∀ v ∈ vs, v.oneCell' = true) →
    (storeCells ⟨g, o, none⟩ vs i).run P w = .ok () (w.setRow g (cur.toList.take (o + i) ++ vs ++ cur.toList.drop (o + i + vs.length)).toArray)
  | [], i, cur, w, hg, _, _, _ => by
    simp only [storeCells, List.append_nil, List.length_nil, Nat.add_zero, List.take_append_drop, Array.toArray_toList]
    rw [setRow_self w g cur t z hg]
    rfl
  | v :: rest, i, cur, w, hg, hz, hl, h1 => by
    have hi : o + i < cur.size := by simp at hl; omega
    have hadd : (⟨g, o, none⟩ : Addr).add i = ⟨g, o + i, none⟩ := by unfold Addr.add; split <;> simp_all
    have hcell : w.cell? ⟨g, o + i, none⟩ = some cur[o + i] := by simp [World.cell?, hg, hi]
    have hfro : w.frozen? ⟨g, o + i, none⟩ = false := by
      obtain ⟨z1, z2⟩ := z
      rcases hz with hz | hz
      · simp only [Prod.mk.injEq] at hz
        simp [World.frozen?, hg, hz.1, hz.2]
      · simp only at hz
        simp [World.frozen?, hg]
        omega
    have hst : (store ((⟨g, o, none⟩ : Addr).add i) v).run P w = .ok () (w.setRow g (cur.setIfInBounds (o + i) v)) := by
      rw [hadd, run_store P w _ v _ (h1 v (by simp)), hcell]
      simp [hfro, setCell_eq_setRow w g (o + i) cur t z v hg]
    have ih := run_storeCells_z g o t z rest (i + 1) (cur.setIfInBounds (o + i) v) (w.setRow g (cur.setIfInBounds (o + i) v)) (setRow_heap w g cur _ t _ hg) (by simpa using hz) (by simp at hl ⊢; omega) (fun x hx => h1 x (by simp [hx]))
    simp only [storeCells, Sem.run_bind, hst, Result.andThen_ok, ih, setRow_setRow]
    congr 3
    have e := list_seg_step cur.toList (o + i) v rest (by simp at hl ⊢; omega)
    simpa [Array.toList_setIfInBounds, Nat.add_assoc] using e
theorem isBox.store {g : Nat} {T : TypeId} {xs us : List Value} {o : Nat} (h : isBox E w g T xs) (ho : o + us.length ≤ xs.length) (h1 : ∀ v ∈ us, v.oneCell' = true) : (storeCells ⟨g, o, none⟩ us).run P w = .ok () (w.setRow g (upd xs o us).toArray) := by
  obtain ⟨z, hz, hh⟩ := h
  exact run_storeCells_z g o T z us 0 xs.toArray w hh (hz.elim .inl fun h => .inr h.2) (by simp only [List.size_toArray]; omega) h1
/-- A variable, or a part of one, is written. -/
theorem op_store {t : TypeId} {ty : TypeId} {pos : String} {after : Array Edge} {gd : Option (Nat × Bool)} {g o : Nat} {T : TypeId} {xs : List Value} {agg : Bool} {us : List Value} (i k : Nat) (hx : s.ev x = some (.pointer (some ⟨g, o, none⟩))) (hv : s.ev y = some v) (hb : s.b[i]? = some (g, T, xs)) (hT : TI P t agg k) (hc : Cells s v us) (hk : us.length = k) (ho : o + k ≤ xs.length) :
    Op1 P E ⟨none, .store t x y, ty, pos, after, gd⟩ s (· = { s with b := s.b.set i (g, T, upd xs o us) }) := by
  intro a w K Q hi hK
  obtain ⟨rfl, h1⟩ := hc.all hi.toMem
  obtain ⟨hge, hheap⟩ := hi.boxes _ (List.mem_of_getElem? hb)
  have hst := hheap.store (P := P) (o := o) (by simp only; omega) h1
  have hsz : v.cells.size = k := by rw [← hk, Array.length_toList]
  have : (execOp a.eval ⟨none, .store t x y, ty, pos, after, gd⟩).run P w = .ok .skip (w.setRow g (upd xs o v.cells.toList).toArray) := by
    simp only [execOp, hi.ev hx, hi.ev hv, Instr.storeAt, Instr.sureAddr, storeVar]
    simp [run_size hT w, hsz, hst]
  refine wo_skip this ?_
  exact hK _ _ _ rfl (hi.setBox i hb (upd_len0 (by omega)))

/-- A variable is written no more: it is only read from here on. -/
theorem Inv.freeze (h : Inv E s a w) {g : Nat} {T : TypeId} {xs : List Value} (i : Nat) (hb : s.b[i]? = some (g, T, xs)) : Inv E { s with b := s.b.eraseIdx i, f := .at_ ⟨g, 0, none⟩ xs :: s.f } a w := by
  obtain ⟨hge, hheap⟩ := h.boxes _ (List.mem_of_getElem? hb)
  have hsub : List.Sublist (St.blocks { s with b := s.b.eraseIdx i, f := .at_ ⟨g, 0, none⟩ xs :: s.f }) s.blocks := by
    unfold St.blocks
    exact List.Sublist.append ((List.eraseIdx_sublist _ _).map _) (List.Sublist.refl _)
  have hl := (List.getElem?_eq_some_iff.1 hb).1
  have hin : s.blocks[i]? = some g := by
    unfold St.blocks
    rw [List.getElem?_append_left (by simpa using hl), List.getElem?_map, hb]
    rfl
  have hnot : g ∉ St.blocks { s with b := s.b.eraseIdx i, f := .at_ ⟨g, 0, none⟩ xs :: s.f } := by
    have e : St.blocks { s with b := s.b.eraseIdx i, f := .at_ ⟨g, 0, none⟩ xs :: s.f } = s.blocks.eraseIdx i := by
      unfold St.blocks
      rw [List.eraseIdx_append_of_lt_length (by simpa using hl)]
      simp only [List.append_cancel_right_eq]
      apply List.ext_getElem?
      intro j
      simp only [List.getElem?_map, List.getElem?_eraseIdx]
      split <;> rfl
    rw [e]
    intro hm
    obtain ⟨j, hj⟩ := List.getElem?_of_mem hm
    rw [List.getElem?_eraseIdx] at hj
    split at hj
    · have := nodup_at h.nodup hj hin
      omega
    · have := nodup_at h.nodup hj hin
      omega
  refine h.mem rfl rfl h.below (fun k hk => ⟨⟨hk.1, hk.2.1, fun hm => hk.2.2 (hsub.subset hm)⟩, rfl⟩) (fun x hx => ?_) (fun x hx => .inl ⟨(List.eraseIdx_subset hx), rfl⟩) (fun x hx => .inl ⟨hx, fun _ _ => rfl⟩) (hsub.nodup h.nodup)
  rcases List.mem_cons.1 hx with rfl | hx
  · refine .inr ⟨⟨.inr hge, hheap.lt, hnot⟩, fun j u hu => ?_⟩
    rw [add_at, Nat.zero_add]
    exact hheap.cell hu
  · exact .inl hx
end
end Go.Proofs.YtipeglbeongfmaaV
