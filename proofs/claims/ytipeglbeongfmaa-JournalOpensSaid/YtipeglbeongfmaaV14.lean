/- Interface values of a known type: made, asked, called; callees walked in place by whatever call; a cut of a row of the call's own that stays its own; no condition of its own. -/
import Derived.Test.YtipeglbeongfmaaV13
namespace Go.Proofs.YtipeglbeongfmaaV
open Go Go.RowKit
set_option linter.unusedVariables false
set_option linter.unusedSimpArgs false
section
variable {P : Program} {E : Env} {w w' : World} {s s' : St} {a : Act} {o : Oper} {ops : Array Oper} {rest : List Oper} {Q : Exit → Act → World → Prop} {d : Nat} {v u : Value} {x y z : Operand}
variable {ty : TypeId} {pos : String} {after : Array Edge} {gd : Option (Nat × Bool)}
  {n0 : Nat} {t0 : List (Nat × Value)} {f0 : List Fact} {b0 : List (Nat × TypeId × List Value)} {r0 : List (Value × TypeId × Nat × List (List Value))}

/-- What enters a function, with these arguments. -/
def OpE (P : Program) (E : Env) (o : Oper) (s : St) (f : FuncId) (vals : List Value) : Prop :=
  ∀ (a : Act) (w : World), (∀ x u, s.ev x = some u → a.eval x = u) → Mem E s w → (execOp a.eval o).run P w = .ok (.enter f vals.toArray) w
theorem VL.inle {f : FuncId} {fn : Func} {c : Code} {vals : List Value} {dst : Option Nat} {op : Op}
    (hf : P.funcs[f]? = some fn) (hb : fn.body = some c) (hE : OpE P E ⟨dst, op, ty, pos, after, gd⟩ ⟨n0, t0, f0, b0, r0⟩ f vals) (hn : vals.length ≤ fn.ntmps) (hd : ∀ d, dst = some d → d < n0)
    (hg : guardOn ops ⟨n0, t0, f0, b0, r0⟩ ⟨dst, op, ty, pos, after, gd⟩ = some true)
    (h : VC P E c (bodyPost P fn (InP P E ops Q rest n0 dst t0)) ⟨fn.ntmps, argT 0 vals, f0, b0, r0⟩) (hR : E.R = none := by first | assumption | rfl) (hD : E.D = [] := by first | assumption | rfl) :
    VL P E ops Q (⟨dst, op, ty, pos, after, gd⟩ :: rest) ⟨n0, t0, f0, b0, r0⟩ := by
  intro a w hi
  refine wpListIn_step fun K hK => ?_
  rw [if_pos (guardOn_wanted hi hg)]
  refine (wo_enter (hE a w (fun x u hx => hi.ev hx) hi.toMem) ?_).1
  refine (calls_of_wp hf hb (h.wp hR _ w ⟨hi.below, hD.symm, ?_, ?_, hi.facts, hi.boxes, hi.rows, hi.nodup⟩)).mono ?_
  · simp at hn ⊢
    omega
  · intro k v hk
    obtain ⟨_, h2⟩ := argT_lookup vals 0 k v hk
    have hlt := (List.getElem?_eq_some_iff.1 h2).1
    simp only [Nat.sub_zero] at h2 hlt
    simp only
    rw [Array.getElem?_append_left (by simpa using hlt)]
    simpa using h2
  · rintro e w2 ⟨q, f, b, r, n2, t2, a2, rfl, hi2, hv⟩
    have hs := hi.swap hi2
    refine hK _ _ (hv _ _ ?_)
    cases dst with
    | none => exact hs
    | some d => exact hs.put (hd d rfl) q
/-- A method of a type, found by its name; has it a pointer for its receiver. -/
def MI (P : Program) (t : TypeId) (name : String) (f : FuncId) (p : Bool) : Prop :=
  ∃ i m, P.info? t = some i ∧ i.methods.find? (·.name == name) = some m ∧ m.path = #[] ∧ m.func = some (f, p)
theorem mi_of {t : TypeId} {name : String} {f : FuncId} {p : Bool} (h : ((P.info? t).bind fun i => (i.methods.find? (·.name == name)).map fun m => (m.path.size, m.func)) = some (0, some (f, p))) : MI P t name f p := by
  obtain ⟨i, h1, h2⟩ := Option.bind_eq_some_iff.1 h
  obtain ⟨m, h3, h4⟩ := Option.map_eq_some_iff.1 h2
  simp only [Prod.mk.injEq] at h4
  exact ⟨i, m, h1, h3, Array.eq_empty_of_size_eq_zero h4.1, h4.2⟩
theorem run_typeInfo {t : TypeId} {i : TypeInfo} (h : P.info? t = some i) (w : World) : (typeInfo t).run P w = .ok i w := by simp [typeInfo, h]
theorem run_method_p {t e : TypeId} {name : String} {f : FuncId} {ad : Option Addr} {n : Nat} (hM : MI P t name f true) (ht : P.underlying t = some (.pointer e)) (w : World) : (method (n + 1) t (.pointer ad) name).run P w = .ok (f, .pointer ad) w := by
  obtain ⟨i, m, h1, h2, h3, h4⟩ := hM
  rw [method, Sem.run_bind, run_typeInfo h1, Result.andThen_ok]
  simp only [h2, h3, h4]
  rw [Sem.run_bind]
  show Result.andThen ((pure (t, Place.val (.pointer ad)) : Sem (TypeId × Place)).run P w) _ = _
  rw [Sem.run_pure, Result.andThen_ok, Sem.run_bind]
  have : (receiverAt t (.val (.pointer ad)) true (if (#[] : Array FieldStep).isEmpty = true then some ((name.splitOn ".").getLastD name) else none)).run P w = .ok (.pointer ad) w := by
    rw [receiverAt, Sem.run_bind, run_underlying ht w]
    rfl
  simp only [this, Result.andThen_ok, Sem.run_pure]
theorem run_method_v {t e g : TypeId} {name : String} {f : FuncId} {n : Nat} {u : Value} (hM : MI P t name f false) (ht : P.underlying t = some (.pointer e)) (w : World) (h6 : (loadVar e ⟨g, 0, none⟩).run P w = .ok u w) : (method (n + 1) t (.pointer (some ⟨g, 0, none⟩)) name).run P w = .ok (f, u) w := by
  obtain ⟨i, m, h1, h2, h3, h4⟩ := hM
  rw [method, Sem.run_bind, run_typeInfo h1, Result.andThen_ok]
  simp only [h2, h3, h4]
  rw [Sem.run_bind]
  show Result.andThen ((pure (t, Place.val (.pointer (some ⟨g, 0, none⟩))) : Sem (TypeId × Place)).run P w) _ = _
  rw [Sem.run_pure, Result.andThen_ok, Sem.run_bind]
  have : (receiverAt t (.val (.pointer (some ⟨g, 0, none⟩))) false (if (#[] : Array FieldStep).isEmpty = true then some ((name.splitOn ".").getLastD name) else none)).run P w = .ok u w := by
    have hq : ∀ nm : String, (Builtin.ssaWrapNilChk_ #[t] t #[.pointer (some ⟨g, 0, none⟩), strVal "", strVal nm]).run P w = .ok (.pointer (some ⟨g, 0, none⟩)) w := fun nm => rfl
    rw [receiverAt, Sem.run_bind, run_underlying ht w]
    show ((Place.val (.pointer (some ⟨g, 0, none⟩))).get t >>= fun ptr => (Builtin.ssaWrapNilChk_ #[t] t #[ptr, strVal "", strVal ((name.splitOn ".").getLastD name)]) >>= fun ptr => (asAddr ptr >>= fun a => loadVar e a) : Sem Value).run P w = _
    rw [Sem.run_bind]
    show Result.andThen ((pure (Value.pointer (some ⟨g, 0, none⟩)) : Sem Value).run P w) _ = _
    rw [Sem.run_pure, Result.andThen_ok, Sem.run_bind, hq, Result.andThen_ok, Sem.run_bind]
    show Result.andThen (Result.ok (⟨g, 0, none⟩ : Addr) w) _ = _
    rw [Result.andThen_ok, h6]
  simp only [this, Result.andThen_ok, Sem.run_pure]
theorem run_enter {f : FuncId} {args : Array Value} (hF : FOk P f) (w : World) : (callFunc f args).run P w = .ok (.enter f args) w := by
  obtain ⟨fn, g1, g2, g3⟩ := hF.ok
  have g2' : fn.name ≠ "runtime.NumGoroutine" := by simpa using g2
  have g3' : fn.body ≠ none := by
    intro e
    rw [e] at g3
    cases g3
  simp [callFunc, g1, g2', g3']
/-- A call of a method of an interface value that holds a pointer, whose receiver is the pointer. -/
theorem ope_meth_p {t e : TypeId} {name : String} {f : FuncId} {args : List Operand} {ats : Array TypeId} {vals : List Value} {dst : Option Nat} {ad : Option Addr} (hM : MI P t name f true) (ht : P.underlying t = some (.pointer e)) (hF : FOk P f) (hx : s.ev x = some (.iface t (.pointer ad))) (ha : args.map s.ev = vals.map some) :
    OpE P E ⟨dst, .call { callee := .invoke x name, args := args.toArray, argTypes := ats }, ty, pos, after, gd⟩ s f (.pointer ad :: vals) := by
  intro a w hev hm
  have hargs : args.map a.eval = vals := evals hev ha
  have hm2 := run_method_p (n := P.types.size + 99) (ad := ad) hM ht w
  have hc : (callMethod (.iface t (.pointer ad)) name vals.toArray).run P w = .ok (.enter f (.pointer ad :: vals).toArray) w := by
    unfold callMethod
    simp only [Sem.run_bind, run_program, Result.andThen_ok]
    rw [show P.types.size + Made.depth = (P.types.size + 99) + 1 from rfl, hm2, Result.andThen_ok]
    simp only
    rw [run_enter hF]
    simp
  simp only [execOp, resolve, hev _ _ hx, Sem.run_bind, Sem.run_pure, Result.andThen_ok, invoke, List.map_toArray, hargs]
  simpa using hc
/-- .. whose receiver is what the pointer points to, a variable. -/
theorem ope_meth_v {t e g : TypeId} {name : String} {f : FuncId} {args : List Operand} {ats : Array TypeId} {vals : List Value} {dst : Option Nat} {agg : Bool} {T : TypeId} {xs : List Value} (i k : Nat) (hM : MI P t name f false) (ht : P.underlying t = some (.pointer e)) (hF : FOk P f) (hx : s.ev x = some (.iface t (.pointer (some ⟨g, 0, none⟩)))) (hb : s.b[i]? = some (g, T, xs)) (hT : TI P e agg k) (hk : xs.length = k) (h1 : agg = false → k = 1) (ha : args.map s.ev = vals.map some) (hv : valOf agg xs = v) :
    OpE P E ⟨dst, .call { callee := .invoke x name, args := args.toArray, argTypes := ats }, ty, pos, after, gd⟩ s f (v :: vals) := by
  subst hv
  intro a w hev hm
  have hargs : args.map a.eval = vals := evals hev ha
  have h5 := hm.boxes _ (List.mem_of_getElem? hb)
  have h6 := run_load_ls (P := P) (w := w) (t := e) (agg := agg) (ls := xs) (ad := ⟨g, 0, none⟩) (by rw [hk]; exact hT) (fun q => by rw [hk]; exact h1 q) (fun j u hu => by
    rw [add_at, Nat.zero_add]
    exact h5.cell hu)
  have hm2 := run_method_v (n := P.types.size + 99) hM ht w h6
  have hc : (callMethod (.iface t (.pointer (some ⟨g, 0, none⟩))) name vals.toArray).run P w = .ok (.enter f (valOf agg xs :: vals).toArray) w := by
    unfold callMethod
    simp only [Sem.run_bind, run_program, Result.andThen_ok]
    rw [show P.types.size + Made.depth = (P.types.size + 99) + 1 from rfl, hm2, Result.andThen_ok]
    simp only
    rw [run_enter hF]
    simp
  simp only [execOp, resolve, hev _ _ hx, Sem.run_bind, Sem.run_pure, Result.andThen_ok, invoke, List.map_toArray, hargs]
  simpa using hc
/-- What enters a function that takes a row of the call's own over, and hands nothing back: the row is another. -/
theorem ope_own {f : FuncId} {vals : List Value} {e sz : Nat} {es es3 : List (List Value)} {F : List Fact} {op : Op} (i : Nat) (hr : r0[i]? = some (v, e, sz, es)) (hE : OpE P E ⟨none, op, ty, pos, after, gd⟩ ⟨n0, t0, f0, b0, r0⟩ f vals) (h : VOwn P f vals (v, e, sz, es) F (fun q x' => q = .tuple #[] ∧ x' = (v, e, sz, es3))) (hf : ∀ x ∈ F, LentO ⟨n0, t0, f0, b0, r0⟩ i x) :
    Op1 P E ⟨none, op, ty, pos, after, gd⟩ ⟨n0, t0, f0, b0, r0⟩ (· = ⟨n0, t0, f0, b0, r0.set i (v, e, sz, es3)⟩) := by
  intro a w K Q hi hk
  refine wo_enter (hE a w (fun x u hx => hi.ev hx) hi.toMem) ?_
  refine (h E.w0.heap.size w hi.below.size (hi.rows _ (List.mem_of_getElem? hr)) (fun x hx => (hf x hx).holds hi hr)).mono ?_
  rintro e2 w2 ⟨q, x', rfl, ⟨rfl, rfl⟩, h1, h2, h3⟩
  have hi2 := hi.rowSet (v := v) (e := e) (sz := sz) (es := es) i hr (x' := (v, e, sz, es3)) h1 h2 h3
  exact hk _ _ _ rfl hi2
theorem ope_ownd {f : FuncId} {vals : List Value} {e sz : Nat} {es es3 : List (List Value)} {F : List Fact} {op : Op} (i : Nat) (hr : r0[i]? = some (v, e, sz, es)) (hE : OpE P E ⟨some d, op, ty, pos, after, gd⟩ ⟨n0, t0, f0, b0, r0⟩ f vals) (h : VOwn P f vals (v, e, sz, es) F (fun q x' => q = .tuple #[] ∧ x' = (v, e, sz, es3))) (hf : ∀ x ∈ F, LentO ⟨n0, t0, f0, b0, r0⟩ i x) (hn : d < n0) :
    Op1 P E ⟨some d, op, ty, pos, after, gd⟩ ⟨n0, t0, f0, b0, r0⟩ (· = ⟨n0, (d, .tuple #[]) :: t0, f0, b0, r0.set i (v, e, sz, es3)⟩) := by
  intro a w K Q hi hk
  refine wo_enter (hE a w (fun x u hx => hi.ev hx) hi.toMem) ?_
  refine (h E.w0.heap.size w hi.below.size (hi.rows _ (List.mem_of_getElem? hr)) (fun x hx => (hf x hx).holds hi hr)).mono ?_
  rintro e2 w2 ⟨q, x', rfl, ⟨rfl, rfl⟩, h1, h2, h3⟩
  have hi2 := hi.rowSet (v := v) (e := e) (sz := sz) (es := es) i hr (x' := (v, e, sz, es3)) h1 h2 h3
  exact hk _ _ _ rfl (hi2.put hn _)
theorem VN.own {fr : List Fact} {own x' : ORow} {fn : Func} {rs : List ResultVar} {vs : List Value} {R : Value → ORow → Prop} (i : Nat) (l : List Fact) (h : fn.results = rs.toArray) (hr : Res P s rs vs) (hx : s.r[i]? = some x') (hR : R (resVal vs) x') (hf : s.f = l ++ fr) (hs : own.1.ownBlock.isSome = true → x'.1.ownBlock.isSome = true) (hD : E.D = [] := by first | assumption | rfl) :
    VN E (bodyPost P fn (OwnP E fr own R)) s := fun a w hi => VR.own i l h hr hx hR hf hs hD a w hi
theorem set_same_map {α β : Type} (g : α → Option β) : ∀ (l : List α) (i : Nat) (x y : α), l[i]? = some x → g y = g x → (l.set i y).filterMap g = l.filterMap g
  | [], i, x, y, h, _ => by simp at h
  | z :: l, 0, x, y, h, hg => by
    simp only [List.getElem?_cons_zero, Option.some.injEq] at h
    subst h
    simp only [List.set_cons_zero, List.filterMap_cons, hg]
  | z :: l, i + 1, x, y, h, hg => by
    simp only [List.getElem?_cons_succ] at h
    simp only [List.set_cons_succ, List.filterMap_cons, set_same_map g l i x y h hg]
/-- A cut of a row of the call's own, from its beginning: it stays its own. -/
theorem o_cutOwn {t e sz m h : Nat} {agg : Bool} {es es3 : List (List Value)} (i : Nat) (hm : es.length = m) (h3 : es.take h = es3) (ht : P.underlying t = some (.slice e)) (hT : TI P e agg sz) (hx : St.ev ⟨n0, t0, f0, b0, r0⟩ x = some v) (hr : r0[i]? = some (v, e, sz, es)) (hb : boundsOk ⟨n0, t0, f0, b0, r0⟩ none (some y) 0 h m) (hn : d < n0 := by exact ltn rfl) :
    Op1 P E ⟨some d, .slice t x none (some y) none, ty, pos, after, gd⟩ ⟨n0, t0, f0, b0, r0⟩ (fun s' => ∃ v', s' = ⟨n0, (d, v') :: t0, f0, b0, r0.set i (v', e, sz, es3)⟩) := by
  intro a w K Q hi hk
  subst hm
  subst h3
  have hrow := hi.rows _ (List.mem_of_getElem? hr)
  obtain ⟨g1, g2, g3, g4⟩ := hb
  have hfl := hrow.1
  simp only at hfl
  have key : ∃ A c v', v = .slice A es.length c ∧ es.length ≤ c ∧ cutV A 0 h c sz = v' ∧ v'.ownBlock = v.ownBlock ∧ rowHolds E.w0.heap.size w (v', e, sz, es.take h) := by
    rcases hrow.2.2 with ⟨e1, e2⟩ | ⟨g, cap, cur, e1, hg, hh, h5, h6, h7, h8⟩
    · simp only at e1 e2
      have h0 : h = 0 := by omega
      subst h0
      refine ⟨none, 0, .slice none 0 0, by rw [e1, e2], by omega, by unfold cutV; rfl, by rw [e1], ?_⟩
      rw [List.take_zero]
      exact ⟨fun x hx => (by cases hx), World.ownsRow_nil w _ e sz⟩
    · simp only at e1 hh h5 h7 h8
      refine ⟨some ⟨g, 0, none⟩, cap, .slice (some ⟨g, 0, none⟩) h cap, e1, h5, by rw [cutV_at0 (.inr rfl)]; simp, by rw [e1]; rfl, flat_sub hfl (fun x hx => List.mem_of_mem_take hx), flat_len (flat_sub hfl (fun x hx => List.mem_of_mem_take hx)), .inr ⟨g, cap, cur, by simp only [List.length_take]; rw [Nat.min_eq_left g4], hg, hh, by simp only [List.length_take]; omega, h6, h7, ?_⟩⟩
      have h9 : h * sz ≤ es.length * sz := Nat.mul_le_mul_right _ g4
      simp only [List.length_take]
      rw [Nat.min_eq_left g4, flat_take h hfl, ← h8, List.take_take, Nat.min_eq_left h9]
  obtain ⟨A, c, v', rfl, hc, hv, hob, hrow'⟩ := key
  have hop := op_cutH' (E := E) (d := d) (ty := ty) (pos := pos) (after := after) (gd := gd) (s := ⟨n0, t0, f0, b0, r0⟩) 0 h hv ht hT hx (lo := none) (y := y) ⟨rfl, g2, Nat.zero_le _, Nat.le_trans g4 hc⟩ hn
  refine wo_value (hop.run a w (fun x u hx => hi.ev hx) hi.toMem) ?_
  have hi2 : Inv E ⟨n0, t0, f0, b0, r0.set i (v', e, sz, es.take h)⟩ a w := by
    refine hi.retold rfl rfl rfl (fun x hx => hi.boxes x hx) (fun x hx => ?_) ?_
    · rcases List.mem_or_eq_of_mem_set hx with hx | rfl
      · exact hi.rows x hx
      · exact hrow'
    · unfold St.blocks
      simp only
      rw [set_same_map (fun q : ORow => q.1.ownBlock) r0 i _ (v', e, sz, es.take h) hr hob]
  exact hk _ _ _ ⟨v', rfl⟩ (hi2.put hn v')
theorem swap_is {α : Type} {xs : List α} {i j : Nat} {x y : α} (hi : xs[i]? = some x) (hj : xs[j]? = some y) : (xs.set j x).set i y = (xs.set i y).set j x := by
  apply List.ext_getElem?
  intro k
  have h1 := (List.getElem?_eq_some_iff.1 hi).1
  have h2 := (List.getElem?_eq_some_iff.1 hj).1
  simp only [List.getElem?_set, List.length_set]
  by_cases e1 : i = k
  · by_cases e2 : j = k
    · have : x = y := by
        subst e1
        subst e2
        rw [hi] at hj
        exact Option.some.inj hj
      simp [e1, e2, this]
    · simp [e1, e2]
  · by_cases e2 : j = k <;> simp [e1, e2]
theorem set_keep {α : Type} {xs : List α} {i j : Nat} {y : α} (hj : xs[j]? = some y) (hi : i < xs.length) : (xs.set i y)[j]? = some y := by
  rw [List.getElem?_set]
  split
  · rename_i h
    subst h
    simp [hi]
  · exact hj
theorem op_makeIface {t : TypeId} {td : TypeDesc} (ht : P.underlying t = some td) (hni : ∀ q, td ≠ .interface q) (hx : s.ev x = some v) (hn : d < s.n := by exact ltn rfl) : OpV P E ⟨some d, .makeInterface t x, ty, pos, after, gd⟩ s d (.iface t v) :=
  op_val rfl hn (fun a ha w => by
    have h : (Instr.makeInterface t v).run P w = .ok (.iface t v) w := by
      unfold Instr.makeInterface
      rw [Sem.run_bind, run_underlying ht w, Result.andThen_ok]
      cases td <;> first | rfl | exact absurd rfl (hni _)
    simp [execOp, ha x v hx, h])
theorem op_assertOk {t xt : TypeId} {td : TypeDesc} (ht : P.underlying t = some td) (hni : ∀ q, td ≠ .interface q) (hx : s.ev x = some (.iface t v)) (hn : d < s.n := by exact ltn rfl) : OpV P E ⟨some d, .typeAssert x xt t true, ty, pos, after, gd⟩ s d (.tuple #[v, .bool true]) :=
  op_val rfl hn (fun a ha w => by
    have h : (Instr.typeAssert (.iface t v) xt t true).run P w = .ok (.tuple #[v, .bool true]) w := by
      unfold Instr.typeAssert
      simp only [Sem.run_bind, run_underlying ht w, Result.andThen_ok]
      cases td <;> first | exact absurd rfl (hni _) | simp
    simp [execOp, ha x _ hx, h])
end
end Go.Proofs.YtipeglbeongfmaaV
