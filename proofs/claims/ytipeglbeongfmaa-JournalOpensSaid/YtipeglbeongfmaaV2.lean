/- Calls, entering and leaving a function, and code over a walk's state; no condition of its own. -/
import Derived.Test.YtipeglbeongfmaaV1
import Derived.LoopN
namespace Go.Proofs.YtipeglbeongfmaaV
open Go Go.RowKit
set_option linter.unusedVariables false

abbrev ORow := Value × TypeId × Nat × List (List Value)
def ownBs (l : List ORow) : List Nat := l.filterMap (·.1.ownBlock)

/-- What a function answers: R of the value, of what is read in it, and of the rows that it made. -/
def RetP (C : Nat → Prop) (w : World) (R : Value → List Fact → List ORow → Prop) (e : Ending) (w' : World) : Prop :=
  ∃ v G own, e = .returned v ∧ R v G own ∧ (∀ x ∈ G, x.holds (fun k => (C k ∨ w.heap.size ≤ k) ∧ k < w'.heap.size ∧ k ∉ ownBs own) w') ∧ (∀ x ∈ own, rowHolds w.heap.size w' x) ∧ (ownBs own).Nodup ∧ Below w.heap.size w w'
def VCalls (P : Program) (f : FuncId) (args : List Value) (F : List Fact) (R : Value → List Fact → List ORow → Prop) : Prop :=
  ∀ (C : Nat → Prop) (w : World), (∀ k, C k → k < w.heap.size) → (∀ x ∈ F, x.holds C w) → Calls P f args.toArray w (RetP C w R)

structure FOk (P : Program) (f : FuncId) : Prop where
  ok : ∃ fn, P.funcs[f]? = some fn ∧ (fn.name == "runtime.NumGoroutine") = false ∧ fn.body.isNone = false

section
variable {P : Program} {E : Env} {w w' : World} {s s' : St} {a : Act} {o : Oper} {ops : Array Oper} {rest : List Oper} {Q : Exit → Act → World → Prop} {d : Nat} {v u : Value} {x y : Operand}

theorem ownBs_lt {base : Nat} {l : List ORow} (h : ∀ x ∈ l, rowHolds base w x) {k : Nat} (hk : k ∈ ownBs l) : base ≤ k ∧ k < w.heap.size := by
  obtain ⟨x, hx, hb⟩ := List.mem_filterMap.1 hk
  exact (h x hx).2.lt k hb

/-- Behind a call. -/
theorem Inv.called {G : List Fact} {own : List ORow} {C : Nat → Prop} (h : Inv E s a w) (hC : ∀ x ∈ G, ∀ k, C k → ok E s w k)
    (hG : ∀ x ∈ G, x.holds (fun k => (C k ∨ w.heap.size ≤ k) ∧ k < w'.heap.size ∧ k ∉ ownBs own) w') (ho : ∀ x ∈ own, rowHolds w.heap.size w' x) (hn : (ownBs own).Nodup) (hb : Below w.heap.size w w') :
    Inv E { s with f := G ++ s.f, r := own ++ s.r } a w' := by
  have hbl : ∀ k, k ∈ St.blocks { s with f := G ++ s.f, r := own ++ s.r } ↔ k ∈ ownBs own ∨ k ∈ s.blocks := by
    intro k
    unfold St.blocks ownBs
    simp only [List.filterMap_append, List.mem_append]
    grind
  have hs := h.below.size
  refine h.mem rfl rfl ⟨hb.os.trans h.below.os, hb.tape.trans h.below.tape, hb.output.trans h.below.output, Nat.le_trans hs hb.size, fun k hk => (hb.block k (by omega)).trans (h.below.block k hk)⟩ (fun k hk => ⟨⟨hk.1, by have := hb.size; have := hk.2.1; omega, ?_⟩, hb.block k hk.2.1⟩) (fun x hx => ?_) (fun x hx => .inl ⟨hx, hb.block _ (h.boxes x hx).2.lt⟩) (fun x hx => ?_) ?_
  · rw [hbl]
    rintro (hk2 | hk2)
    · have := (ownBs_lt ho hk2).1
      have := hk.2.1
      omega
    · exact hk.2.2 hk2
  · rcases List.mem_append.1 hx with hx | hx
    · refine .inr (Fact.mono (fun k hk => ⟨⟨?_, hk.2.1, ?_⟩, rfl⟩) (hG x hx))
      · rcases hk.1 with h1 | h1
        · exact (hC x hx k h1).1
        · exact .inr (by omega)
      · rw [hbl]
        rintro (h2 | h2)
        · exact hk.2.2 h2
        · rcases hk.1 with h1 | h1
          · exact (hC x hx k h1).2.2 h2
          · have := (h.blk_lt h2).1
            omega
    · exact .inl hx
  · rcases List.mem_append.1 hx with hx | hx
    · exact .inr ⟨(ho x hx).1, own_weak (ho x hx).2 hs⟩
    · exact .inl ⟨hx, fun k hk => hb.block k ((h.rows x hx).2.lt k hk).2⟩
  · unfold St.blocks
    simp only [List.filterMap_append]
    have h1 := h.nodup
    unfold St.blocks at h1
    rw [List.nodup_append] at h1 ⊢
    refine ⟨h1.1, ?_, ?_⟩
    · rw [List.nodup_append]
      refine ⟨hn, h1.2.1, fun k hk k2 hk2 e => ?_⟩
      subst e
      have := (ownBs_lt ho hk).1
      have := (h.blk_lt (by unfold St.blocks; exact List.mem_append_right _ hk2)).1
      omega
    · intro k hk k2 hk2 e
      subst e
      rcases List.mem_append.1 hk2 with h2 | h2
      · have := (ownBs_lt ho h2).1
        have := (h.blk_lt (by unfold St.blocks; exact List.mem_append_left _ hk)).1
        omega
      · exact h1.2.2 k hk k h2 rfl

theorem run_call {f : FuncId} {caps : Array Value} {c : Call} {t : TypeId} {ρ : Operand → Value} {cal : Operand} (hF : FOk P f) (hc : c.callee = .value cal) (hcal : ρ cal = .func (.func f) #[] caps) :
    (do let d ← resolve ρ c t; invoke d.target d.args).run P w = .ok (.enter f (c.args.map ρ ++ caps)) w := by
  obtain ⟨fn, h1, h2, h3⟩ := hF.ok
  have h2' : fn.name ≠ "runtime.NumGoroutine" := by simpa using h2
  have h3' : fn.body ≠ none := by
    intro e
    rw [e] at h3
    cases h3
  simp [resolve, hc, hcal, Deferred.ofValue, invoke, callFunc, h1, h2', h3']

theorem eval_args {args : List Operand} {vals : List Value} (h : Inv E s a w) (ha : args.map s.ev = vals.map some) : args.map a.eval = vals := by
  induction args generalizing vals with
  | nil => cases vals <;> simp_all
  | cons x xs ih =>
    cases vals with
    | nil => simp at ha
    | cons v vs =>
      simp only [List.map_cons, List.cons.injEq] at ha ⊢
      exact ⟨h.ev ha.1, ih ha.2⟩

/-- A call, by the callee's contract. -/
theorem op_call_of {ty : TypeId} {pos : String} {after : Array Edge} {gd : Option (Nat × Bool)} {f : FuncId} {cal : Operand} {args : List Operand} {ats : Array TypeId} {caps vals : List Value} {F : List Fact} {R : Value → List Fact → List ORow → Prop} {dst : Option Nat}
    (hF : FOk P f) (h : VCalls P f (vals ++ caps) F R) (hc : s.ev cal = some (.func (.func f) #[] caps.toArray)) (ha : args.map s.ev = vals.map some) (hn : ∀ d, dst = some d → d < s.n) (C : World → Nat → Prop) (hC : ∀ a w, Inv E s a w → ∀ k, C w k → k < w.heap.size) (hf : ∀ a w, Inv E s a w → ∀ x ∈ F, x.holds (C w) w)
    (hG : ∀ a w v G own, Inv E s a w → R v G own → ∀ x ∈ G, ∀ k, C w k → ok E s w k) :
    Op1 P E ⟨dst, .call { callee := .value cal, args := args.toArray, argTypes := ats }, ty, pos, after, gd⟩ s (fun s' => ∃ v G own, R v G own ∧ s' = match dst with | some d => St.put { s with f := G ++ s.f, r := own ++ s.r } d v | none => { s with f := G ++ s.f, r := own ++ s.r }) := by
  intro a w K Q hi hk
  have hev : (args.toArray.map a.eval) ++ caps.toArray = (vals ++ caps).toArray := by
    rw [List.map_toArray, eval_args hi ha]
    simp
  have : (execOp a.eval ⟨dst, .call { callee := .value cal, args := args.toArray, argTypes := ats }, ty, pos, after, gd⟩).run P w = .ok (.enter f (vals ++ caps).toArray) w := by
    have h2 := run_call (P := P) (w := w) (caps := caps.toArray) (c := { callee := .value cal, args := args.toArray, argTypes := ats }) (t := ty) (ρ := a.eval) hF rfl (hi.ev hc)
    rw [← hev]
    exact h2
  refine wo_enter this ?_
  refine (h (C w) w (hC a w hi) (hf a w hi)).mono ?_
  rintro e w2 ⟨v, G, own, rfl, hR, h1, h2, h3, h4⟩
  have hi2 := hi.called (G := G) (own := own) (C := C w) (hG a w v G own hi hR) h1 h2 h3 h4
  cases dst with
  | none => exact hk _ _ _ ⟨v, G, own, hR, rfl⟩ hi2
  | some d => exact hk _ _ _ ⟨v, G, own, hR, rfl⟩ (hi2.put (hn d rfl) v)

theorem op_call {ty : TypeId} {pos : String} {after : Array Edge} {gd : Option (Nat × Bool)} {f : FuncId} {cal : Operand} {args : List Operand} {ats : Array TypeId} {caps vals : List Value} {F : List Fact} {R : Value → List Fact → List ORow → Prop}
    (hF : FOk P f) (h : VCalls P f (vals ++ caps) F R) (hc : s.ev cal = some (.func (.func f) #[] caps.toArray)) (ha : args.map s.ev = vals.map some) (hn : d < s.n) (hf : ∀ x ∈ F, x ∈ s.f) :
    Op1 P E ⟨some d, .call { callee := .value cal, args := args.toArray, argTypes := ats }, ty, pos, after, gd⟩ s (fun s' => ∃ v G own, R v G own ∧ s' = St.put { s with f := G ++ s.f, r := own ++ s.r } d v) :=
  op_call_of hF h hc ha (fun d e => by cases e; exact hn) (fun w => ok E s w) (fun a w _ k hk => hk.2.1) (fun a w hi x hx => hi.facts x (hf x hx)) (fun _ _ _ _ _ _ _ _ _ _ hk => hk)

/-- What may be lent to a callee that hands nothing of it back. -/
def Lent (s : St) (x : Fact) : Prop := x ∈ s.f ∨ (∃ r ∈ s.r, x = .row r.1 r.2.2.1 r.2.2.2) ∨ (∃ b ∈ s.b, x = .at_ ⟨b.1, 0, none⟩ b.2.2)

theorem Lent.holds {x : Fact} (h : Inv E s a w) (hx : Lent s x) : x.holds (fun k => k < w.heap.size) w := by
  rcases hx with hx | ⟨r, hr, rfl⟩ | ⟨b, hb, rfl⟩
  · exact Fact.mono (fun k hk => ⟨hk.2.1, rfl⟩) (h.facts x hx)
  · obtain ⟨h1, h2⟩ := h.rows r hr
    refine ⟨h1, ?_⟩
    have hlt := h2.lt
    obtain ⟨h3, h4⟩ := h2
    rcases h4 with ⟨e, e2⟩ | ⟨g, cap, cur, e, hg, hh, h5, h6, h7, h8⟩
    · have he : r.2.2.2 = [] := List.eq_nil_of_length_eq_zero e2
      refine ⟨none, 0, ?_, by rw [e2]; exact Nat.le_refl _, by simp [maxLen], fun hp => by omega, fun i ls hi => by rw [he] at hi; simp at hi⟩
      rw [e, e2]
    · refine ⟨some ⟨g, 0, none⟩, cap, e, h5, h6, fun _ => ⟨_, rfl, ?_⟩, fun i ls hi ad hA j u hu => ?_⟩
      · exact (Array.getElem?_eq_some_iff.1 hh).1
      · obtain rfl := Option.some.inj hA
        rw [add_at, World.cell?]
        simp only [hh]
        have hsz := h1 ls (List.mem_of_getElem? hi)
        have hflat : r.2.2.2.flatten[i * r.2.2.1 + j]? = some u := flat_get h1 hi hu
        have hlen : i * r.2.2.1 + j < r.2.2.2.length * r.2.2.1 := by
          have := (List.getElem?_eq_some_iff.1 hflat).1
          rw [h3] at this
          exact this
        rw [← h8, List.getElem?_take, if_pos hlen] at hflat
        simpa using hflat
  · obtain ⟨h1, h2⟩ := h.boxes b hb
    refine ⟨h2.lt, fun j u hu => ?_⟩
    rw [add_at, Nat.zero_add]
    exact h2.cell hu
 where
  flat_get {sz : Nat} : ∀ {es : List (List Value)} {i j : Nat} {ls : List Value} {u : Value}, flatOk sz es → es[i]? = some ls → ls[j]? = some u → es.flatten[i * sz + j]? = some u
    | [], i, j, ls, u, _, hi, _ => by simp at hi
    | e :: es, 0, j, ls, u, h, hi, hu => by
      simp only [List.getElem?_cons_zero, Option.some.injEq] at hi
      subst hi
      simp only [List.flatten_cons, Nat.zero_mul, Nat.zero_add]
      rw [List.getElem?_append_left (List.getElem?_eq_some_iff.1 hu).1]
      exact hu
    | e :: es, i + 1, j, ls, u, h, hi, hu => by
      simp only [List.getElem?_cons_succ] at hi
      have hl := (h e (by simp)).1
      simp only [List.flatten_cons]
      rw [List.getElem?_append_right (by rw [hl, Nat.add_mul]; omega), hl]
      have := flat_get (sz := sz) (es := es) (fun x hx => h x (by simp [hx])) hi hu
      rw [← this]
      congr 1
      rw [Nat.add_mul]
      omega

theorem op_call_b {ty : TypeId} {pos : String} {after : Array Edge} {gd : Option (Nat × Bool)} {f : FuncId} {cal : Operand} {args : List Operand} {ats : Array TypeId} {caps vals : List Value} {F : List Fact} {R : Value → List Fact → List ORow → Prop}
    (hF : FOk P f) (h : VCalls P f (vals ++ caps) F R) (hc : s.ev cal = some (.func (.func f) #[] caps.toArray)) (ha : args.map s.ev = vals.map some) (hn : d < s.n) (hf : ∀ x ∈ F, Lent s x) (hG : ∀ v G own, R v G own → G = []) :
    Op1 P E ⟨some d, .call { callee := .value cal, args := args.toArray, argTypes := ats }, ty, pos, after, gd⟩ s (fun s' => ∃ v G own, R v G own ∧ s' = St.put { s with f := G ++ s.f, r := own ++ s.r } d v) :=
  op_call_of hF h hc ha (fun d e => by cases e; exact hn) (fun w k => k < w.heap.size) (fun a w _ k hk => hk) (fun a w hi x hx => (hf x hx).holds hi) (fun _ _ v G own _ hR x hx => by rw [hG v G own hR] at hx; cases hx)

/-! ### entering and leaving -/
def argT : Nat → List Value → List (Nat × Value)
  | _, [] => []
  | k, v :: vs => (k, v) :: argT (k + 1) vs
theorem argT_lookup : ∀ (vs : List Value) (i k : Nat) (v : Value), (argT i vs).lookup k = some v → i ≤ k ∧ vs[k - i]? = some v
  | [], i, k, v, h => by cases h
  | u :: us, i, k, v, h => by
    simp only [argT, List.lookup_cons] at h
    by_cases e : k = i
    · subst e
      simp at h
      subst h
      simp
    · have e2 : (k == i) = false := by simpa using e
      rw [e2] at h
      obtain ⟨h1, h2⟩ := argT_lookup us (i + 1) k v h
      refine ⟨by omega, ?_⟩
      rw [show k - i = (k - (i + 1)) + 1 by omega, List.getElem?_cons_succ]
      exact h2

theorem VCalls.intro {f : FuncId} {fn : Func} {c : Code} {args : List Value} {F : List Fact} {R : Value → List Fact → List ORow → Prop} (hf : P.funcs[f]? = some fn) (hb : fn.body = some c) (hn : args.length ≤ fn.ntmps)
    (h : ∀ E : Env, (∀ k, E.C k → k < E.w0.heap.size) → E.R = none → E.D = [] → (∀ T, ¬ E.U T) → VC P E c (bodyPost P fn (RetP E.C E.w0 R)) ⟨fn.ntmps, argT 0 args, F, [], []⟩) : VCalls P f args F R := by
  intro C w hC hF
  refine calls_of_wp hf hb ((wpIn_wide (n := 0)).1 (h ⟨w, C, none, [], fun _ => False⟩ hC rfl rfl (fun _ h => h) _ _ ⟨Below.refl _ _, rfl, ?_, ?_, ?_, ?_, ?_, ?_⟩))
  · simp
    omega
  · intro k v hk
    obtain ⟨_, h2⟩ := argT_lookup args 0 k v hk
    have hlt := (List.getElem?_eq_some_iff.1 h2).1
    simp only [Nat.sub_zero] at h2 hlt
    simp only
    rw [Array.getElem?_append_left (by simpa using hlt)]
    simpa using h2
  · intro x hx
    exact Fact.mono (fun k hk => ⟨⟨.inl hk, hC k hk, by simp [St.blocks]⟩, rfl⟩) (hF x hx)
  · simp
  · simp
  · simp [St.blocks]

/-- .. where blocks of some types may bear marks. -/
theorem VCalls.introU (U : TypeId → Prop) {f : FuncId} {fn : Func} {c : Code} {args : List Value} {F : List Fact} {R : Value → List Fact → List ORow → Prop} (hf : P.funcs[f]? = some fn) (hb : fn.body = some c) (hn : args.length ≤ fn.ntmps)
    (h : ∀ E : Env, (∀ k, E.C k → k < E.w0.heap.size) → E.R = none → E.D = [] → E.U = U → VC P E c (bodyPost P fn (RetP E.C E.w0 R)) ⟨fn.ntmps, argT 0 args, F, [], []⟩) : VCalls P f args F R := by
  intro C w hC hF
  refine calls_of_wp hf hb ((wpIn_wide (n := 0)).1 (h ⟨w, C, none, [], U⟩ hC rfl rfl rfl _ _ ⟨Below.refl _ _, rfl, ?_, ?_, ?_, ?_, ?_, ?_⟩))
  · simp
    omega
  · intro k v hk
    obtain ⟨_, h2⟩ := argT_lookup args 0 k v hk
    have hlt := (List.getElem?_eq_some_iff.1 h2).1
    simp only [Nat.sub_zero] at h2 hlt
    simp only
    rw [Array.getElem?_append_left (by simpa using hlt)]
    simpa using h2
  · intro x hx
    exact Fact.mono (fun k hk => ⟨⟨.inl hk, hC k hk, by simp [St.blocks]⟩, rfl⟩) (hF x hx)
  · simp
  · simp
  · simp [St.blocks]

/-- What a function's results are. -/
inductive Res (P : Program) (s : St) : List ResultVar → List Value → Prop where
  | nil : Res P s [] []
  | tmp {t : Nat} {v : Value} {rs : List ResultVar} {vs : List Value} (h : s.ev (.tmp t) = some v) (k : Res P s rs vs) : Res P s (.tmp t :: rs) (v :: vs)
  | cell {t ty g : Nat} {T : TypeId} {xs : List Value} {agg : Bool} {rs : List ResultVar} {vs : List Value} (i : Nat) (h : s.ev (.tmp t) = some (.pointer (some ⟨g, 0, none⟩))) (hb : s.b[i]? = some (g, T, xs)) (hT : TI P ty agg xs.length) (h1 : agg = false → xs.length = 1) (k : Res P s rs vs) : Res P s (.cell t ty :: rs) (valOf agg xs :: vs)
def resVal : List Value → Value
  | [v] => v
  | vs => .tuple vs.toArray
theorem Res.run {rs : List ResultVar} {vs : List Value} (hr : Res P s rs vs) (hi : Inv E s a w) (f : ResultVar → Sem Value) (hf : ∀ u, f (.tmp u) = pure (a.tmps.getD u undef)) (hc : ∀ p t, f (.cell p t) = (do loadVar t (← asAddr (a.tmps.getD p undef)))) :
    (rs.mapM f).run P w = .ok vs w := by
  induction hr with
  | nil => simp
  | tmp h k ih =>
    have h2 := hi.ev h
    simp only [Act.eval] at h2
    simp only [List.mapM_cons, hf, Sem.run_bind, Sem.run_pure, Result.andThen_ok, h2, ih]
  | @cell t ty g T xs agg rs vs i h hb hT h1 k ih =>
    have h2 := hi.ev h
    simp only [Act.eval] at h2
    obtain ⟨_, h3⟩ := hi.boxes _ (List.mem_of_getElem? hb)
    have h4 := run_load_ls (P := P) (w := w) (ad := ⟨g, 0, none⟩) hT h1 (fun j u hu => by
      rw [add_at, Nat.zero_add]
      exact h3.cell hu)
    have h5 : (asAddr (.pointer (some ⟨g, 0, none⟩))).run P w = .ok ⟨g, 0, none⟩ w := rfl
    simp only [List.mapM_cons, hc, Sem.run_bind, Sem.run_pure, Result.andThen_ok, h2, h5, h4, ih]
theorem Res.all {fn : Func} {rs : List ResultVar} {vs : List Value} (h : fn.results = rs.toArray) (hr : Res P s rs vs) (hi : Inv E s a w) : (results fn a.tmps).run P w = .ok (resVal vs) w := by
  unfold results
  rw [h, List.mapM_toArray]
  simp only [Sem.run_bind, Sem.run_map]
  rw [hr.run hi]
  · clear hr
    match vs with
    | [] => simp [resVal]
    | [v] => simp [resVal]
    | _ :: _ :: _ => simp [resVal]
  · intro u
    rfl
  · intro p t
    rfl

theorem Inv.ret {fn : Func} {rs : List ResultVar} {vs : List Value} {R : Value → List Fact → List ORow → Prop} (G : List Fact) (own : List ORow) (h : fn.results = rs.toArray) (hr : Res P s rs vs) (hR : R (resVal vs) G own) (hG : ∀ x ∈ G, x ∈ s.f) (ho : ∀ x ∈ own, x ∈ s.r) (hon : (s.r.filterMap (·.1.ownBlock)).Nodup → (ownBs own).Nodup)
    (hi : Inv E s a w) (hD : E.D = []) : bodyPost P fn (RetP E.C E.w0 R) .ret a w := by
  have hsub : ∀ k, k ∈ ownBs own → k ∈ s.r.filterMap (·.1.ownBlock) := by
    intro k hk
    obtain ⟨x, hx, hb⟩ := List.mem_filterMap.1 hk
    exact List.mem_filterMap.2 ⟨x, ho x hx, hb⟩
  have hnd := hi.nodup
  unfold St.blocks at hnd
  rw [List.nodup_append] at hnd
  refine ⟨hi.defers.trans hD, _, hr.all h hi, _, G, own, rfl, hR, fun x hx => ?_, fun x hx => hi.rows x (ho x hx), hon hnd.2.1, hi.below⟩
  exact Fact.mono (fun k hk => ⟨⟨hk.1, hk.2.1, fun hm => hk.2.2 (List.mem_append_right _ (hsub _ hm))⟩, rfl⟩) (hi.facts x (hG x hx))

/-! ### code -/
/-- What follows behind. -/
def VN (E : Env) (Q : Exit → Act → World → Prop) (s : St) : Prop := ∀ a w, Inv E s a w → Q .normal a w
def VX (E : Env) (id : Nat) (Q : Exit → Act → World → Prop) (s : St) : Prop := ∀ a w, Inv E s a w → Q (.exit id) a w
def VR (E : Env) (Q : Exit → Act → World → Prop) (s : St) : Prop := ∀ a w, Inv E s a w → Q .ret a w
def VLp (P : Program) (E : Env) (c : Code) (Q : Exit → Act → World → Prop) (n : Nat) (s : St) : Prop := ∀ a w, Inv E s a w → Code.roundsIn E.F 0 P c Q n a w

theorem VC.wp {c : Code} (h : VC P E c Q s) (hR : E.R = none) (a : Act) (w : World) (hi : Inv E s a w) : c.wp P Q a w := by
  have h2 := h a w hi
  rw [Env.F_wide hR] at h2
  exact wpIn_wide.1 h2
theorem VC.seq {c1 c2 : Code} (h : VC P E c1 (Exit.then (c2.wpIn E.F 0 P Q) Q) s) : VC P E (.seq c1 c2) Q s := fun a w hi => wpIn_seq (h a w hi)
theorem VC.region {id : Nat} {l : List Oper} (h : VL P E l.toArray Q l s) : VC P E (.region id l.toArray false) Q s := fun a w hi => wpIn_region_lit (h a w hi)
theorem VL.done (h : VN E Q s) : VL P E ops Q [] s := fun a w hi => h a w hi
theorem VC.skip (h : VN E Q s) : VC P E .skip Q s := fun a w hi => wpIn_skip (h a w hi)
theorem VC.exit {id : Nat} (h : VX E id Q s) : VC P E (.exit id) Q s := fun a w hi => wpIn_exit (h a w hi)
theorem VC.ret (h : VR E Q s) : VC P E .ret Q s := fun a w hi => wpIn_ret (h a w hi)
theorem VC.cond {c : Operand} {c1 c2 : Code} {b : Bool} (hc : s.ev c = some (.bool b)) (h : VC P E (if b then c1 else c2) Q s) : VC P E (.cond c c1 c2) Q s := fun a w hi => wpIn_cond (hi.ev hc) (h a w hi)
theorem VC.cond_t {c : Operand} {c1 c2 : Code} (hc : s.ev c = some (.bool true)) (h : VC P E c1 Q s) : VC P E (.cond c c1 c2) Q s := VC.cond hc h
theorem VC.cond_f {c : Operand} {c1 c2 : Code} (hc : s.ev c = some (.bool false)) (h : VC P E c2 Q s) : VC P E (.cond c c1 c2) Q s := VC.cond hc h
theorem VC.block {id : Nat} {c : Code} (h : VC P E c (Exit.inBlock id Q) s) : VC P E (.block id c) Q s := fun a w hi => wpIn_block (h a w hi)
theorem VC.loop {c : Code} (n : Nat) (h : VLp P E c Q n s) : VC P E (.loop c) Q s := fun a w hi => wpIn_loop_rounds n (h a w hi)
theorem VLp.succ {c : Code} {n : Nat} (h : VC P E c (Exit.then (Code.roundsIn E.F 0 P c Q n) Q) s) : VLp P E c Q (n + 1) s := fun a w hi => h a w hi

theorem VN.then {c : Code} (h : VC P E c Q s) : VN E (Exit.then (c.wpIn E.F 0 P Q) Q) s := fun a w hi => h a w hi
theorem VN.round {c : Code} {n : Nat} (h : VLp P E c Q n s) : VN E (Exit.then (Code.roundsIn E.F 0 P c Q n) Q) s := fun a w hi => h a w hi
theorem VN.block {id : Nat} (h : VN E Q s) : VN E (Exit.inBlock id Q) s := fun a w hi => h a w hi
theorem VX.then {id : Nat} {K : Act → World → Prop} (h : VX E id Q s) : VX E id (Exit.then K Q) s := fun a w hi => h a w hi
theorem VX.hit {id : Nat} (h : VN E Q s) : VX E id (Exit.inBlock id Q) s := fun a w hi => by
  show (if id = id then Q .normal a w else _)
  rw [if_pos rfl]
  exact h a w hi
theorem VX.miss {id id' : Nat} (hne : id ≠ id') (h : VX E id Q s) : VX E id (Exit.inBlock id' Q) s := fun a w hi => by
  show (if id = id' then Q .normal a w else Q (.exit id) a w)
  rw [if_neg hne]
  exact h a w hi
theorem VR.then {K : Act → World → Prop} (h : VR E Q s) : VR E (Exit.then K Q) s := fun a w hi => h a w hi
theorem VR.block {id : Nat} (h : VR E Q s) : VR E (Exit.inBlock id Q) s := fun a w hi => h a w hi

/-! ### less is known -/
def SubT (s : St) : List (Nat × Value) → Prop
  | [] => True
  | (k, v) :: l => s.t.lookup k = some v ∧ SubT s l
theorem SubT.lookup : ∀ {l : List (Nat × Value)}, SubT s l → ∀ k v, l.lookup k = some v → s.t.lookup k = some v
  | [], _, k, v, h => by cases h
  | (k', v') :: l, hs, k, v, h => by
    simp only [List.lookup_cons] at h
    by_cases e : k = k'
    · subst e
      simp at h
      subst h
      exact hs.1
    · have e2 : (k == k') = false := by simpa using e
      rw [e2] at h
      exact hs.2.lookup k v h
def SubF (s : St) : List Fact → Prop
  | [] => True
  | x :: l => (∃ i : Nat, s.f[i]? = some x) ∧ SubF s l
theorem SubF.mem : ∀ {l : List Fact}, SubF s l → ∀ x ∈ l, x ∈ s.f
  | [], _, x, h => by cases h
  | y :: l, hs, x, h => by
    rcases List.mem_cons.1 h with rfl | h
    · obtain ⟨i, hi⟩ := hs.1
      exact List.mem_of_getElem? hi
    · exact hs.2.mem x h
/-- The places that are kept, each once. -/
def pick {α : Type} (l : List α) (is : List Nat) : List (Option α) := is.map (l[·]?)
theorem pick_nodup {α : Type} {f : α → Option Nat} {l l' : List α} {is : List Nat} (h : l'.map some = pick l is) (hn : is.Nodup) (hl : (l.filterMap f).Nodup) : (l'.filterMap f).Nodup := by
  induction is generalizing l' with
  | nil =>
    have : l' = [] := by simpa [pick] using h
    simp [this]
  | cons i is ih =>
    cases l' with
    | nil => simp [pick] at h
    | cons x xs =>
      simp only [pick, List.map_cons, List.cons.injEq] at h
      obtain ⟨h1, h2⟩ := h
      rw [List.nodup_cons] at hn
      have ih2 := ih h2 hn.2
      rw [List.filterMap_cons]
      cases hf : f x with
      | none => exact ih2
      | some b =>
        simp only
        rw [List.nodup_cons]
        refine ⟨fun hm => ?_, ih2⟩
        obtain ⟨y, hy, hfy⟩ := List.mem_filterMap.1 hm
        have : some y ∈ xs.map some := List.mem_map.2 ⟨y, hy, rfl⟩
        rw [h2] at this
        obtain ⟨j, hj, hjy⟩ := List.mem_map.1 this
        have hij : i = j := two_at hl h1.symm hf hjy hfy
        exact hn.1 (hij ▸ hj)
 where
  two_at {α : Type} {f : α → Option Nat} : ∀ {l : List α} {i j b : Nat} {x y : α}, (l.filterMap f).Nodup → l[i]? = some x → f x = some b → l[j]? = some y → f y = some b → i = j
    | [], i, j, b, x, y, _, hi, _, _, _ => by simp at hi
    | z :: l, i, j, b, x, y, hn, hi, hx, hj, hy => by
      have hm : ∀ {k u}, l[k]? = some u → f u = some b → b ∈ l.filterMap f := fun hk hu => List.mem_filterMap.2 ⟨_, List.mem_of_getElem? hk, hu⟩
      rw [List.filterMap_cons] at hn
      cases i with
      | zero =>
        cases j with
        | zero => rfl
        | succ j =>
          simp only [List.getElem?_cons_zero, Option.some.injEq, List.getElem?_cons_succ] at hi hj
          subst hi
          rw [hx] at hn
          simp only [List.nodup_cons] at hn
          exact absurd (hm hj hy) hn.1
      | succ i =>
        cases j with
        | zero =>
          simp only [List.getElem?_cons_zero, Option.some.injEq, List.getElem?_cons_succ] at hi hj
          subst hj
          rw [hy] at hn
          simp only [List.nodup_cons] at hn
          exact absurd (hm hi hx) hn.1
        | succ j =>
          simp only [List.getElem?_cons_succ] at hi hj
          have : (l.filterMap f).Nodup := by
            cases hz : f z with
            | none => rw [hz] at hn; exact hn
            | some c => rw [hz] at hn; exact (List.nodup_cons.1 hn).2
          rw [two_at this hi hx hj hy]
theorem pick_mem {α : Type} {l l' : List α} {is : List Nat} (h : l'.map some = pick l is) {x : α} (hx : x ∈ l') : x ∈ l := by
  have : some x ∈ l'.map some := List.mem_map.2 ⟨x, hx, rfl⟩
  rw [h] at this
  obtain ⟨j, _, hj⟩ := List.mem_map.1 this
  exact List.mem_of_getElem? hj

theorem Inv.less {s' : St} (bs rs : List Nat) (h : Inv E s a w) (hn : s'.n = s.n) (ht : SubT s s'.t) (hf : SubF s s'.f) (hb : s'.b.map some = pick s.b bs) (hbn : bs.Nodup) (hr : s'.r.map some = pick s.r rs) (hrn : rs.Nodup) : Inv E s' a w := by
  have hnd := h.nodup
  unfold St.blocks at hnd
  rw [List.nodup_append] at hnd
  have hsub : ∀ k, k ∈ s'.blocks → k ∈ s.blocks := by
    intro k hk
    unfold St.blocks at hk ⊢
    rcases List.mem_append.1 hk with hk | hk
    · obtain ⟨x, hx, e⟩ := List.mem_map.1 hk
      exact List.mem_append_left _ (List.mem_map.2 ⟨x, pick_mem hb hx, e⟩)
    · obtain ⟨x, hx, e⟩ := List.mem_filterMap.1 hk
      exact List.mem_append_right _ (List.mem_filterMap.2 ⟨x, pick_mem hr hx, e⟩)
  refine ⟨h.below, h.defers, by rw [hn]; exact h.size, fun k v hk => h.tmps k v (ht.lookup k v hk), fun x hx => Fact.mono (fun k hk => ⟨⟨hk.1, hk.2.1, fun hm => hk.2.2 (hsub k hm)⟩, rfl⟩) (h.facts x (hf.mem x hx)), fun x hx => h.boxes x (pick_mem hb hx), fun x hx => h.rows x (pick_mem hr hx), ?_⟩
  unfold St.blocks
  rw [List.nodup_append]
  refine ⟨?_, pick_nodup hr hrn hnd.2.1, fun k hk k2 hk2 e => ?_⟩
  · have h1 : (s.b.filterMap (fun x => some x.1)).Nodup := by
      have e2 : s.b.filterMap (fun x => some x.1) = s.b.map (·.1) := by induction s.b <;> simp_all
      rw [e2]
      exact hnd.1
    have h2 := pick_nodup (f := fun x => some x.1) hb hbn h1
    have e2 : s'.b.filterMap (fun x => some x.1) = s'.b.map (·.1) := by induction s'.b <;> simp_all
    rw [e2] at h2
    exact h2
  · subst e
    obtain ⟨x, hx, e⟩ := List.mem_map.1 hk
    obtain ⟨y, hy, e2⟩ := List.mem_filterMap.1 hk2
    exact hnd.2.2 k (List.mem_map.2 ⟨x, pick_mem hb hx, e⟩) k (List.mem_filterMap.2 ⟨y, pick_mem hr hy, e2⟩) rfl
end
end Go.Proofs.YtipeglbeongfmaaV
