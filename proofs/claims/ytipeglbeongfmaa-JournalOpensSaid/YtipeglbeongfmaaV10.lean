/- Rows of the call's own handed over; rows opened as blocks; cuts with room, copies; no condition of its own. -/
import Derived.Test.YtipeglbeongfmaaV9
import Derived.Lib.AppendZerosOnto
import Derived.Lib.Overlaps
namespace Go.Proofs.YtipeglbeongfmaaV
open Go Go.RowKit
set_option linter.unusedVariables false
set_option linter.unusedSimpArgs false

theorem w64 {n : Int} {m : Nat} (h : n = (m : Int)) (hb : m ≤ 1000000000000000) : wrap64 n = (m : Int) := by unfold wrap64; omega
theorem perm_eraseIdx {α : Type} : ∀ {l : List α} {i : Nat} {x : α}, l[i]? = some x → (x :: l.eraseIdx i).Perm l
  | [], i, x, h => by simp at h
  | y :: l, 0, x, h => by
    simp only [List.getElem?_cons_zero, Option.some.injEq] at h
    subst h
    exact List.Perm.refl _
  | y :: l, i + 1, x, h => by
    simp only [List.getElem?_cons_succ] at h
    rw [List.eraseIdx_cons_succ]
    exact (List.Perm.swap y x _).trans ((perm_eraseIdx h).cons y)
theorem flat_take {sz : Nat} : ∀ {es : List (List Value)} (i : Nat), flatOk sz es → (es.take i).flatten = es.flatten.take (i * sz)
  | [], i, h => by simp
  | e :: es, 0, h => by simp
  | e :: es, i + 1, h => by
    have hl := (h e (by simp)).1
    have h1 : e.take ((i + 1) * sz) = e := List.take_of_length_le (by rw [hl, Nat.add_mul]; omega)
    have h2 : (i + 1) * sz - sz = i * sz := by rw [Nat.add_mul]; omega
    rw [List.take_succ_cons, List.flatten_cons, List.flatten_cons, flat_take i (fun x hx => h x (by simp [hx])), List.take_append, h1, hl, h2]
theorem flat_drop {sz : Nat} : ∀ {es : List (List Value)} (i : Nat), flatOk sz es → (es.drop i).flatten = es.flatten.drop (i * sz)
  | [], i, h => by simp
  | e :: es, 0, h => by simp
  | e :: es, i + 1, h => by
    have hl := (h e (by simp)).1
    have h1 : e.drop ((i + 1) * sz) = [] := List.drop_of_length_le (by rw [hl, Nat.add_mul]; omega)
    have h2 : (i + 1) * sz - sz = i * sz := by rw [Nat.add_mul]; omega
    rw [List.drop_succ_cons, List.flatten_cons, flat_drop i (fun x hx => h x (by simp [hx])), List.drop_append, h1, hl, h2, List.nil_append]
theorem flat_sub {sz : Nat} {es es' : List (List Value)} (h : flatOk sz es) (hs : ∀ x ∈ es', x ∈ es) : flatOk sz es' := fun x hx => h x (hs x hx)

section
variable {P : Program} {E : Env} {w w' : World} {s s' : St} {a : Act} {o : Oper} {ops : Array Oper} {rest : List Oper} {Q : Exit → Act → World → Prop} {d : Nat} {v u : Value} {x y z : Operand}
variable {ty : TypeId} {pos : String} {after : Array Edge} {gd : Option (Nat × Bool)}
  {n0 : Nat} {t0 : List (Nat × Value)} {f0 : List Fact} {b0 : List (Nat × TypeId × List Value)} {r0 : List (Value × TypeId × Nat × List (List Value))}

/-- The same memory, told otherwise. -/
theorem Inv.retold (h : Inv E s a w) (ht : s'.t = s.t) (hn : s'.n = s.n) (hf : s'.f = s.f) (hb : ∀ x ∈ s'.b, E.w0.heap.size ≤ x.1 ∧ isBox E w x.1 x.2.1 x.2.2) (hr : ∀ x ∈ s'.r, rowHolds E.w0.heap.size w x) (hp : s'.blocks.Perm s.blocks) : Inv E s' a w := by
  refine h.mem ht hn h.below (fun k hk => ⟨⟨hk.1, hk.2.1, fun hm => hk.2.2 (hp.mem_iff.1 hm)⟩, rfl⟩) (fun x hx => .inl (hf ▸ hx)) (fun x hx => .inr (hb x hx)) (fun x hx => .inr (hr x hx)) (hp.symm.nodup h.nodup)

/-- A row of the call's own as a block of cells. -/
theorem Inv.openBox (h : Inv E s a w) {e sz : Nat} {es : List (List Value)} (i : Nat) (hr : s.r[i]? = some (v, e, sz, es)) (h0 : 0 < es.length) :
    ∃ g cap cur, v = .slice (some ⟨g, 0, none⟩) es.length cap ∧ es.length ≤ cap ∧ cap ≤ maxLen ∧ cur.length = cap * sz ∧ cur.take (es.length * sz) = es.flatten ∧ flatOk sz es ∧ Inv E { s with b := (g, e, cur) :: s.b, r := s.r.eraseIdx i } a w := by
  obtain ⟨hfl, hl, h2⟩ := h.rows _ (List.mem_of_getElem? hr)
  rcases h2 with ⟨e1, e2⟩ | ⟨g, cap, cur, hv, hg, hh, h5, h6, h7, h8⟩
  · simp only at e2
    omega
  simp only at hv hh h5 h7 h8 hfl hl
  subst hv
  refine ⟨g, cap, cur.toList, rfl, h5, h6, by simpa using h7, h8, hfl, h.retold (s' := { s with b := (g, e, cur.toList) :: s.b, r := s.r.eraseIdx i }) rfl rfl rfl ?_ (fun x hx => h.rows x (List.eraseIdx_subset hx)) ?_⟩
  · intro x hx
    rcases List.mem_cons.1 hx with rfl | hx
    · exact ⟨hg, .of (by simpa using hh)⟩
    · exact h.boxes x hx
  · unfold St.blocks
    simp only [List.map_cons, List.cons_append]
    refine (List.perm_middle (l₁ := s.b.map (·.1)) (a := g)).symm.trans (List.Perm.append_left _ ?_)
    have := (perm_eraseIdx hr).filterMap (fun q : ORow => q.1.ownBlock)
    simpa [List.filterMap_cons, Value.ownBlock] using this
theorem VC.openBox {c : Code} {e sz : Nat} {es : List (List Value)} (i : Nat) (hr : r0[i]? = some (v, e, sz, es)) (h0 : 0 < es.length)
    (h : ∀ g cap cur, v = .slice (some ⟨g, 0, none⟩) es.length cap → es.length ≤ cap → cap ≤ maxLen → cur.length = cap * sz → cur.take (es.length * sz) = es.flatten → flatOk sz es → VC P E c Q ⟨n0, t0, f0, (g, e, cur) :: b0, r0.eraseIdx i⟩) : VC P E c Q ⟨n0, t0, f0, b0, r0⟩ := fun a w hi => by
  obtain ⟨g, cap, cur, h1, h2, h3, h4, h5, h6, h7⟩ := hi.openBox i hr h0
  exact h g cap cur h1 h2 h3 h4 h5 h6 a w h7
/-- A block of cells as a row of the call's own. -/
theorem Inv.closeBox (h : Inv E s a w) {g T : Nat} {cur : List Value} (i cap sz : Nat) (es : List (List Value)) (hb : s.b[i]? = some (g, T, cur)) (h1 : es.length ≤ cap) (h2 : cap ≤ maxLen) (h3 : cur.length = cap * sz) (h4 : cur.take (es.length * sz) = es.flatten) (h5 : flatOk sz es)  (hU : ¬ E.U T := by first | apply_assumption | exact id) :
    Inv E { s with b := s.b.eraseIdx i, r := (.slice (some ⟨g, 0, none⟩) es.length cap, T, sz, es) :: s.r } a w := by
  obtain ⟨hg, z, hz, hh⟩ := h.boxes _ (List.mem_of_getElem? hb)
  obtain rfl := hz.resolve_right fun h => hU h.1
  refine h.retold rfl rfl rfl (fun x hx => h.boxes x (List.eraseIdx_subset hx)) (fun x hx => ?_) ?_
  · rcases List.mem_cons.1 hx with rfl | hx
    · exact ⟨h5, flat_len h5, .inr ⟨g, cap, cur.toArray, rfl, hg, hh, h1, h2, by simpa using h3, by simpa using h4⟩⟩
    · exact h.rows x hx
  · unfold St.blocks
    simp only [List.filterMap_cons, Value.ownBlock]
    refine List.perm_middle.trans ?_
    rw [← List.cons_append]
    refine List.Perm.append_right _ ?_
    have := (perm_eraseIdx hb).map (fun q : Nat × TypeId × List Value => q.1)
    simpa using this
theorem VR.closeBox {g T : Nat} {cur : List Value} (i cap sz : Nat) (es : List (List Value)) (hb : b0[i]? = some (g, T, cur)) (h1 : es.length ≤ cap) (h2 : cap ≤ maxLen) (h3 : cur.length = cap * sz) (h4 : cur.take (es.length * sz) = es.flatten) (h5 : flatOk sz es)
    (h : VR E Q ⟨n0, t0, f0, b0.eraseIdx i, (.slice (some ⟨g, 0, none⟩) es.length cap, T, sz, es) :: r0⟩) (hU : ¬ E.U T := by first | apply_assumption | exact id) : VR E Q ⟨n0, t0, f0, b0, r0⟩ := fun a w hi => h a w (hi.closeBox i cap sz es hb h1 h2 h3 h4 h5)

/-! ### a row of the caller's own, handed over -/
/-- A function that takes over a row of the caller's own, reads F, and hands a row back. -/
def VOwn (P : Program) (f : FuncId) (args : List Value) (own : ORow) (F : List Fact) (R : Value → ORow → Prop) : Prop :=
  ∀ (base : Nat) (w : World), base ≤ w.heap.size → rowHolds base w own → (∀ x ∈ F, x.holds (fun k => k < w.heap.size ∧ own.1.ownBlock ≠ some k) w) →
    Calls P f args.toArray w fun e w' => ∃ q x', e = .returned q ∧ R q x' ∧ w.grownBy w' own.1.ownBlock ∧ rowHolds base w' x' ∧ ∀ b, x'.1.ownBlock = some b → own.1.ownBlock = some b ∨ w.heap.size ≤ b
/-- What is lent beside row i. -/
def LentO (s : St) (i : Nat) (x : Fact) : Prop := x ∈ s.f ∨ (∃ j r, j ≠ i ∧ s.r[j]? = some r ∧ (x = .row r.1 r.2.2.1 r.2.2.2 ∨ x = .lent r.1 r.2.1 r.2.2.1 r.2.2.2)) ∨ (∃ b ∈ s.b, x = .at_ ⟨b.1, 0, none⟩ b.2.2)
theorem LentO.holds {x : Fact} {i : Nat} {own : ORow} (h : Inv E s a w) (hr : s.r[i]? = some own) (hx : LentO s i x) : x.holds (fun k => k < w.heap.size ∧ own.1.ownBlock ≠ some k) w := by
  have hnd := h.nodup
  unfold St.blocks at hnd
  rw [List.nodup_append] at hnd
  rcases hx with hx | ⟨j, r, hj, hrj, hx⟩ | ⟨b, hb, rfl⟩
  · refine Fact.mono (fun k hk => ⟨⟨hk.2.1, fun e => hk.2.2 ?_⟩, rfl⟩) (h.facts x hx)
    exact List.mem_append_right _ (List.mem_filterMap.2 ⟨_, List.mem_of_getElem? hr, e⟩)
  · have hne : ∀ k, r.1.ownBlock = some k → k < w.heap.size ∧ own.1.ownBlock ≠ some k := by
      intro k hk
      refine ⟨((h.rows r (List.mem_of_getElem? hrj)).2.lt k hk).2, fun e => hj ?_⟩
      exact pick_nodup.two_at hnd.2.1 hrj hk hr e
    rcases hx with rfl | rfl
    · have h2 := Lent.holds (x := .row r.1 r.2.2.1 r.2.2.2) h (.inr (.inl ⟨_, List.mem_of_getElem? hrj, rfl⟩))
      obtain ⟨hf, A, c, e, h3, h4, h5, h6⟩ := h2
      refine ⟨hf, A, c, e, h3, h4, fun hp => ?_, h6⟩
      obtain ⟨ad, rfl, hk⟩ := h5 hp
      exact ⟨ad, rfl, hne _ (by rw [e]; rfl)⟩
    · exact ⟨⟨(h.rows r (List.mem_of_getElem? hrj)).1, own_weak (h.rows r (List.mem_of_getElem? hrj)).2 (Nat.zero_le _)⟩, hne⟩
  · obtain ⟨h1, h2⟩ := h.boxes b hb
    refine ⟨⟨h2.lt, fun e => ?_⟩, fun j u hu => ?_⟩
    · exact hnd.2.2 b.1 (List.mem_map.2 ⟨b, hb, rfl⟩) b.1 (List.mem_filterMap.2 ⟨_, List.mem_of_getElem? hr, e⟩) rfl
    · rw [add_at, Nat.zero_add]
      exact h2.cell hu

theorem op_call_own {f : FuncId} {cal : Operand} {args : List Operand} {ats : Array TypeId} {caps vals : List Value} {own : ORow} {F : List Fact} {R : Value → ORow → Prop} {dst : Option Nat} (i : Nat) (hr : s.r[i]? = some own)
    (hF : FOk P f) (h : VOwn P f (vals ++ caps) own F R) (hc : s.ev cal = some (.func (.func f) #[] caps.toArray)) (ha : args.map s.ev = vals.map some) (hn : ∀ d, dst = some d → d < s.n) (hf : ∀ x ∈ F, LentO s i x) :
    Op1 P E ⟨dst, .call { callee := .value cal, args := args.toArray, argTypes := ats }, ty, pos, after, gd⟩ s (fun s' => ∃ q x', R q x' ∧ s' = match dst with | some d => St.put { s with r := s.r.set i x' } d q | none => { s with r := s.r.set i x' }) := by
  intro a w K Q hi hk
  have hev : (args.toArray.map a.eval) ++ caps.toArray = (vals ++ caps).toArray := by
    rw [List.map_toArray, eval_args hi ha]
    simp
  have : (execOp a.eval ⟨dst, .call { callee := .value cal, args := args.toArray, argTypes := ats }, ty, pos, after, gd⟩).run P w = .ok (.enter f (vals ++ caps).toArray) w := by
    have h2 := run_call (P := P) (w := w) (caps := caps.toArray) (c := { callee := .value cal, args := args.toArray, argTypes := ats }) (t := ty) (ρ := a.eval) hF rfl (hi.ev hc)
    rw [← hev]
    exact h2
  refine wo_enter this ?_
  refine (h E.w0.heap.size w hi.below.size (hi.rows _ (List.mem_of_getElem? hr)) (fun x hx => (hf x hx).holds hi hr)).mono ?_
  rintro e w2 ⟨q, x', rfl, hR, h1, h2, h3⟩
  have hi2 := hi.rowSet (v := own.1) (e := own.2.1) (sz := own.2.2.1) (es := own.2.2.2) i hr (x' := x') h1 h2 h3
  cases dst with
  | none => exact hk _ _ _ ⟨q, x', hR, rfl⟩ hi2
  | some d => exact hk _ _ _ ⟨q, x', hR, rfl⟩ (hi2.put (hn d rfl) q)
/-- .. which hands back a row of the same elements' type, in a value v'. -/
theorem o_call_own {f : FuncId} {cal : Operand} {args : List Operand} {ats : Array TypeId} {caps vals : List Value} {e sz : Nat} {es es3 : List (List Value)} {F : List Fact} (i : Nat) (hr : r0[i]? = some (v, e, sz, es))
    (hF : FOk P f) (h : VOwn P f (vals ++ caps) (v, e, sz, es) F (fun q x' => x' = (q, e, sz, es3))) (hc : St.ev ⟨n0, t0, f0, b0, r0⟩ cal = some (.func (.func f) #[] caps.toArray)) (ha : args.map (St.ev ⟨n0, t0, f0, b0, r0⟩) = vals.map some) (hn : d < n0) (hf : ∀ x ∈ F, LentO ⟨n0, t0, f0, b0, r0⟩ i x) :
    Op1 P E ⟨some d, .call { callee := .value cal, args := args.toArray, argTypes := ats }, ty, pos, after, gd⟩ ⟨n0, t0, f0, b0, r0⟩ (fun s' => ∃ v', s' = ⟨n0, (d, v') :: t0, f0, b0, r0.set i (v', e, sz, es3)⟩) := by
  intro a w K Q hi hk
  refine op_call_own i hr hF h hc ha (fun d e => by cases e; exact hn) hf a w K Q hi ?_
  rintro s' a' w' ⟨q, x', rfl, rfl⟩ hi'
  exact hk _ _ _ ⟨q, rfl⟩ hi'


theorem o_call_own0 {f : FuncId} {cal : Operand} {args : List Operand} {ats : Array TypeId} {vals : List Value} {e sz : Nat} {es es3 : List (List Value)} {F : List Fact} (i : Nat) (hr : r0[i]? = some (v, e, sz, es))
    (hF : FOk P f) (h : VOwn P f vals (v, e, sz, es) F (fun q x' => x' = (q, e, sz, es3))) (hc : St.ev ⟨n0, t0, f0, b0, r0⟩ cal = some (.func (.func f) #[] #[])) (ha : args.map (St.ev ⟨n0, t0, f0, b0, r0⟩) = vals.map some) (hn : d < n0) (hf : ∀ x ∈ F, LentO ⟨n0, t0, f0, b0, r0⟩ i x) :
    Op1 P E ⟨some d, .call { callee := .value cal, args := args.toArray, argTypes := ats }, ty, pos, after, gd⟩ ⟨n0, t0, f0, b0, r0⟩ (fun s' => ∃ v', s' = ⟨n0, (d, v') :: t0, f0, b0, r0.set i (v', e, sz, es3)⟩) :=
  o_call_own (caps := []) i hr hF (by rw [List.append_nil]; exact h) hc ha hn hf
/-! ### to show that a function takes a row over -/
def OwnP (E : Env) (fr : List Fact) (own : ORow) (R : Value → ORow → Prop) (e : Ending) (w' : World) : Prop :=
  ∃ q x', e = .returned q ∧ R q x' ∧ (∀ x ∈ fr, x.holds (fun k => x'.1.ownBlock ≠ some k) w') ∧ (own.1.ownBlock.isSome = true → x'.1.ownBlock.isSome = true) ∧ Below E.w0.heap.size E.w0 w' ∧ rowHolds E.w0.heap.size w' x'
/-- Walk it with the row as one of its own; what else there is stays. -/
theorem VOwn.intro {f : FuncId} {fn : Func} {c : Code} {args : List Value} {own : ORow} {F : List Fact} {R : Value → ORow → Prop} (hf : P.funcs[f]? = some fn) (hb : fn.body = some c) (hn : args.length ≤ fn.ntmps)
    (h : ∀ (E : Env) (fr : List Fact), E.R = none → E.D = [] → (∀ T, ¬ E.U T) → VC P E c (bodyPost P fn (OwnP E fr own R)) ⟨fn.ntmps, argT 0 args, F ++ fr, [], [own]⟩) : VOwn P f args own F R := by
  intro base w hbase hrow hF
  obtain ⟨fr, hfrd⟩ : ∃ fr, fr = (List.range w.heap.size).filterMap (fun k => if own.1.ownBlock = some k then none else (w.heap[k]?).map (Fact.blk k)) := ⟨_, rfl⟩
  have hfr : ∀ (k : Nat) (o : Obj), own.1.ownBlock ≠ some k → w.heap[k]? = some o → Fact.blk k o ∈ fr := by
    subst hfrd
    intro k o hk ho
    refine List.mem_filterMap.2 ⟨k, List.mem_range.2 (Array.getElem?_eq_some_iff.1 ho).1, ?_⟩
    rw [if_neg hk, ho]
    rfl
  have hfr2 : ∀ x ∈ fr, x.holds (fun k => k < w.heap.size ∧ own.1.ownBlock ≠ some k) w := by
    subst hfrd
    intro x hx
    obtain ⟨k, hk, he⟩ := List.mem_filterMap.1 hx
    by_cases hb2 : own.1.ownBlock = some k
    · rw [if_pos hb2] at he
      cases he
    · rw [if_neg hb2] at he
      obtain ⟨o, ho, rfl⟩ := Option.map_eq_some_iff.1 he
      exact ⟨⟨(Array.getElem?_eq_some_iff.1 ho).1, hb2⟩, ho⟩
  have h0 : ({ w with heap := w.heap.extract 0 base } : World).heap.size = base := by simp; omega
  have hblk : ∀ (s2 : St), s2.r = [own] → s2.b = [] → ∀ k, k ∈ s2.blocks → own.1.ownBlock = some k := by
    intro s2 e1 e2 k hk
    unfold St.blocks at hk
    rw [e1, e2] at hk
    simp only [List.map_nil, List.nil_append] at hk
    obtain ⟨x, hx, e⟩ := List.mem_filterMap.1 hk
    obtain rfl := List.mem_singleton.1 hx
    exact e
  refine (calls_of_wp hf hb ((h ⟨{ w with heap := w.heap.extract 0 base }, fun k => k < base, none, [], fun _ => False⟩ fr rfl rfl (fun _ h => h)).wp rfl _ w ⟨⟨rfl, rfl, rfl, by rw [h0]; exact hbase, fun k hk => ?_⟩, rfl, ?_, ?_, ?_, ?_, ?_, ?_⟩)).mono ?_
  · rw [h0] at hk
    simp only
    rw [Array.getElem?_extract]
    rw [if_pos (by omega)]
    congr 1
    omega
  · simp
    omega
  · intro k v hk
    obtain ⟨_, h2⟩ := argT_lookup args 0 k v hk
    have hlt := (List.getElem?_eq_some_iff.1 h2).1
    simp only [Nat.sub_zero] at h2 hlt
    simp only
    rw [Array.getElem?_append_left (by simpa using hlt)]
    simpa using h2
  · intro x hx
    refine Fact.mono (k1 := fun k => k < w.heap.size ∧ own.1.ownBlock ≠ some k) (fun k hk => ⟨⟨by rw [h0]; simp only; omega, hk.1, fun hm => hk.2 (hblk _ rfl rfl k hm)⟩, rfl⟩) ?_
    · rcases List.mem_append.1 hx with hx | hx
      · exact hF x hx
      · exact hfr2 x hx
  · simp
  · intro x hx
    obtain rfl := List.mem_singleton.1 hx
    rw [h0]
    exact hrow
  · unfold St.blocks
    simp only [List.map_nil, List.nil_append, List.filterMap_cons, List.filterMap_nil]
    cases own.1.ownBlock <;> simp
  · rintro e w' ⟨q, x', rfl, hR, h1, h2, h3, h4⟩
    rw [h0] at h3 h4
    have hold : ∀ b, x'.1.ownBlock = some b → own.1.ownBlock = some b ∨ w.heap.size ≤ b := by
      intro b hb
      by_cases hb2 : own.1.ownBlock = some b
      · exact .inl hb2
      · refine .inr (Nat.le_of_not_lt fun hlt => ?_)
        have ho : w.heap[b]? = some w.heap[b] := Array.getElem?_eq_getElem hlt
        exact (h1 _ (hfr b _ hb2 ho)).1 hb
    have hsame : ∀ k, k < w.heap.size → own.1.ownBlock ≠ some k → w'.heap[k]? = w.heap[k]? := by
      intro k hk hk2
      have ho : w.heap[k]? = some w.heap[k] := Array.getElem?_eq_getElem hk
      rw [ho]
      exact (h1 _ (hfr k _ hk2 ho)).2
    refine ⟨q, x', rfl, hR, ⟨h3.os, h3.tape, h3.output, ?_, fun k hk hk2 => hsame k hk fun e => hk2 e.symm⟩, h4, hold⟩
    rcases Nat.eq_zero_or_pos w.heap.size with hz | hz
    · omega
    · by_cases hl : own.1.ownBlock = some (w.heap.size - 1)
      · have := h2 (by rw [hl]; rfl)
        obtain ⟨b, hb⟩ := Option.isSome_iff_exists.1 this
        have hb2 := (h4.2.lt b hb).2
        rcases hold b hb with h5 | h5
        · rw [hl] at h5
          have := Option.some.inj h5
          omega
        · omega
      · have := hsame (w.heap.size - 1) (by omega) hl
        rw [Array.getElem?_eq_getElem (by omega : w.heap.size - 1 < w.heap.size)] at this
        have := (Array.getElem?_eq_some_iff.1 this).1
        omega

theorem VR.own {fr : List Fact} {own x' : ORow} {fn : Func} {rs : List ResultVar} {vs : List Value} {R : Value → ORow → Prop} (i : Nat) (l : List Fact) (h : fn.results = rs.toArray) (hr : Res P s rs vs) (hx : s.r[i]? = some x') (hR : R (resVal vs) x') (hf : s.f = l ++ fr) (hs : own.1.ownBlock.isSome = true → x'.1.ownBlock.isSome = true) (hD : E.D = [] := by first | assumption | rfl) :
    VR E (bodyPost P fn (OwnP E fr own R)) s := by
  intro a w hi
  refine ⟨hi.defers.trans hD, _, hr.all h hi, _, x', rfl, hR, fun x hx2 => ?_, hs, hi.below, hi.rows _ (List.mem_of_getElem? hx)⟩
  refine Fact.mono (fun k hk => ⟨fun e => hk.2.2 ?_, rfl⟩) (hi.facts x (by rw [hf]; exact List.mem_append_right _ hx2))
  exact List.mem_append_right _ (List.mem_filterMap.2 ⟨_, List.mem_of_getElem? hx, e⟩)

/-! ### operations on blocks of cells -/
theorem op_cap {t e n c : Nat} {A : Option Addr} (ht : P.underlying t = some (.slice e)) (hx : s.ev x = some (.slice A n c)) (hn : d < s.n := by exact ltn rfl) :
    OpV P E ⟨some d, .call { callee := .builtin .cap, args := #[x], argTypes := #[t] }, ty, pos, after, gd⟩ s d (.int .i64 c) :=
  op_val rfl hn (fun a ha w => by simp [execOp, resolve, invoke, builtin, Builtin.cap_, ha x _ hx, run_underlying ht, goInt])
theorem op_lenV {t e n c : Nat} {A : Option Addr} (ht : P.underlying t = some (.slice e)) (hx : s.ev x = some (.slice A n c)) (hn : d < s.n := by exact ltn rfl) :
    OpV P E ⟨some d, .call { callee := .builtin .len, args := #[x], argTypes := #[t] }, ty, pos, after, gd⟩ s d (.int .i64 n) :=
  op_val rfl hn (fun a ha w => by simp [execOp, resolve, invoke, builtin, Builtin.len_, ha x _ hx, run_underlying ht, goInt])
/-- A cut of a slice, into its room too where an end is told. -/
theorem op_cutV {t e sz n c : Nat} {agg : Bool} {lo : Option Operand} {A : Option Addr} {l h : Nat} (ht : P.underlying t = some (.slice e)) (hT : TI P e agg sz) (hx : s.ev x = some (.slice A n c)) (hb : boundsOk s lo none l h n) (hc : n ≤ c) (hn : d < s.n := by exact ltn rfl) :
    OpV P E ⟨some d, .slice t x lo none none, ty, pos, after, gd⟩ s d (cutV A l h c sz) :=
  op_val rfl hn (fun a ha w => by
    have := run_bounds (P := P) (w := w) (b := true) hb ha hc
    simp only [Option.map_none] at this
    simp [execOp, ha x _ hx, Instr.sliceAt, Instr.slice, run_underlying ht, this, run_size hT w, cutV])
theorem run_boundsH {ρ : Operand → Value} {lo : Option Operand} {y : Operand} {l h n c : Nat} {b : Bool} (hb : boundsOk s lo (some y) l h c) (hρ : ∀ x u, s.ev x = some u → ρ x = u) : (Instr.sliceBounds b n c (lo.map ρ) (some (ρ y)) none).run P w = .ok (l, h, c) w := by
  obtain ⟨h1, h2, h3, h4⟩ := hb
  unfold Instr.sliceBounds
  obtain ⟨k, i, e, h0, rfl⟩ := h2
  have hy := fun code => run_bound (P := P) (w := w) (k := k) (i := i) (m := c) (code := code) h0 (by omega)
  cases lo with
  | none => subst h1; simp [hρ y _ e, hy]
  | some x =>
    obtain ⟨k2, i2, e2, h02, rfl⟩ := h1
    have := run_bound (P := P) (w := w) (k := k2) (i := i2) (m := i.toNat) (code := .sliceB) h02 (by omega)
    simp [hρ y _ e, hy, hρ x _ e2, this]
theorem op_cutH {t e sz n c : Nat} {agg : Bool} {lo : Option Operand} {A : Option Addr} {l h : Nat} (ht : P.underlying t = some (.slice e)) (hT : TI P e agg sz) (hx : s.ev x = some (.slice A n c)) (hb : boundsOk s lo (some y) l h c) (hn : d < s.n := by exact ltn rfl) :
    OpV P E ⟨some d, .slice t x lo (some y) none, ty, pos, after, gd⟩ s d (cutV A l h c sz) :=
  op_val rfl hn (fun a ha w => by
    have := run_boundsH (P := P) (w := w) (b := true) (n := n) hb ha
    simp [execOp, ha x _ hx, Instr.sliceAt, Instr.slice, run_underlying ht, this, run_size hT w, cutV])
theorem cutV_at {g o l h c sz : Nat} (hl : l < c ∨ l = 0) : cutV (some ⟨g, o, none⟩) l h c sz = .slice (some ⟨g, o + l * sz, none⟩) (h - l) (c - l) := by
  unfold cutV
  by_cases e : c = l
  · have : l = 0 := by omega
    subst this
    simp [add_at]
  · rw [if_neg e]
    simp only [Option.map_some, add_at]
/-- copy into a block. -/
theorem op_copy {t t2 e sz g o T dl dc sl sc m : Nat} {agg : Bool} {B : Addr} {cur cs : List Value} (i : Nat) (ht : P.underlying t = some (.slice e)) (hT : TI P e agg sz) (hx : s.ev x = some (.slice (some ⟨g, o, none⟩) dl dc)) (hy : s.ev y = some (.slice (some B) sl sc)) (hb : s.b[i]? = some (g, T, cur)) (hm : min sl dl = m) (hl : cs.length = m * sz) (hfit : o + cs.length ≤ cur.length)
    (hsrc : ∀ w, Mem E s w → ∀ j u, cs[j]? = some u → w.cell? (B.add j) = some u) (h1 : ∀ u ∈ cs, u.oneCell' = true) (hn : d < s.n := by exact ltn rfl) :
    Op1 P E ⟨some d, .call { callee := .builtin .copy, args := #[x, y], argTypes := #[t, t2] }, ty, pos, after, gd⟩ s (· = St.put { s with b := s.b.set i (g, T, upd cur o cs) } d (.int .i64 m)) := by
  intro a w K Q hi hK
  obtain ⟨hge, hheap⟩ := hi.boxes _ (List.mem_of_getElem? hb)
  have hst := hheap.store (P := P) (o := o) hfit h1
  have hld := run_loadCells_list (P := P) w B cs (hsrc w hi.toMem)
  have : (execOp a.eval ⟨some d, .call { callee := .builtin .copy, args := #[x, y], argTypes := #[t, t2] }, ty, pos, after, gd⟩).run P w = .ok (.value (.int .i64 m)) (w.setRow g (upd cur o cs).toArray) := by
    rw [hl] at hld
    have hm2 : Nat.min sl dl = m := hm
    simp [execOp, resolve, invoke, builtin, hi.ev hx, hi.ev hy, Builtin.copy_, run_underlying ht, Builtin.lenOf, Builtin.firstCells, run_size hT w, hm2, hld, hst, upd, goInt]
  refine wo_value this ?_
  exact hK _ _ _ rfl (Inv.put (hi.setBox i hb (upd_len0 (by simpa using hfit))) (by exact hn) _)
theorem src_box {g o T : Nat} {cur cs : List Value} (k : Nat) (j : Nat) (hb : s.b[j]? = some (g, T, cur)) (hc : cs = (cur.drop o).take k) : ∀ w, Mem E s w → ∀ j u, cs[j]? = some u → w.cell? ((⟨g, o, none⟩ : Addr).add j) = some u := by
  intro w hm j u hu
  subst hc
  have h2 := hm.boxes _ (List.mem_of_getElem? hb)
  rw [add_at]
  rw [List.getElem?_take] at hu
  split at hu
  · rw [List.getElem?_drop] at hu
    exact h2.cell hu
  · cases hu
theorem src_row {A : Addr} {n c sz : Nat} {es : List (List Value)} (j : Nat) (hf : s.f[j]? = some (.row (.slice (some A) n c) sz es)) : ∀ w, Mem E s w → ∀ j u, es.flatten[j]? = some u → w.cell? (A.add j) = some u := by
  intro w hm j u hu
  obtain ⟨hfl, A', c', he, _, _, _, h4⟩ := hm.facts _ (List.mem_of_getElem? hf)
  obtain ⟨i', ls, k', hi', hk', rfl⟩ := Src.holds.unflat hfl hu
  simp only [Value.slice.injEq] at he
  exact h4 i' ls hi' A he.1.symm k' u hk'
/-- append of so many zeros, where there is no room. -/
theorem op_appendZ {t tn e sz bytes g o T n c k : Nat} {kn kq : IntKind} {cur olds : List Value} (i : Nat) (ht : P.underlying t = some (.slice e)) (htn : P.underlying tn = some (.int kn)) (hE : EI P e sz bytes) (hx : s.ev x = some (.slice (some ⟨g, o, none⟩) n c)) (hy : s.ev y = some (.int kq k)) (hb : s.b[i]? = some (g, T, cur)) (ho : olds = (cur.drop o).take (n * sz)) (hol : olds.length = n * sz) (h0 : 0 < k) (hg : c < n + k) (hc : n ≤ c) (hbig : (n + k) * bytes ≤ 140737488355328) (hn : d < s.n := by exact ltn rfl) :
    Op1 P E ⟨some d, .call { callee := .builtin .append, args := #[x, y], argTypes := #[t, tn] }, ty, pos, after, gd⟩ s (fun s' => ∃ g2 cap2 tail, n + k ≤ cap2 ∧ cap2 ≤ maxLen ∧ tail.length = (cap2 - n) * sz ∧ s' = St.put { s with b := (g2, e, olds ++ tail) :: s.b } d (.slice (some ⟨g2, 0, none⟩) (n + k) cap2)) := by
  intro a w K Q hi hK
  obtain ⟨inf, z, h1, h2, h3, h4, h5⟩ := hE.ei
  have hsp := hE.pos
  have hlen : n + k ≤ 140737488355328 := Nat.le_trans (Nat.le_mul_of_pos_right _ hE.bpos) hbig
  have hld := run_loadCells_list (P := P) w.drew ⟨g, o, none⟩ olds (fun j u hu => by
    have := src_box (E := E) (cs := olds) (n * sz) i hb ho w hi.toMem j u hu
    rw [← this]
    rfl)
  have hold : (Builtin.firstCells inf.size n (.slice (some ⟨g, o, none⟩) n c)).run P w.drew = .ok olds.toArray w.drew := by
    rw [hol] at hld
    simp [Builtin.firstCells, h3, hld]
  have hrun := Lib.run_append_grow_zeros (P := P) w t tn ty e inf z kq kn ht htn h1 h2 (some ⟨g, o, none⟩) n c olds hold k h0 (by omega) hg (by omega) (by
    have : k * bytes ≤ (n + k) * bytes := Nat.mul_le_mul_right _ (by omega)
    rw [h4]; omega) (by rw [h4]; exact growslice_fits hg hbig)
  have hge := grownCap_ge w (n + k) c e
  have hmx := grownCap_le_maxLen w (n + k) c e (by simp only [maxLen]; omega)
  have hex : (execOp a.eval ⟨some d, .call { callee := .builtin .append, args := #[x, y], argTypes := #[t, tn] }, ty, pos, after, gd⟩).run P w = .ok (.value (.slice (some ⟨w.heap.size, 0, none⟩) (n + k) (grownCap w (n + k) c e))) (w.drew.alloc (.cells (olds.toArray ++ Builtin.zeroCells z.cells k ++ Builtin.zeroCells z.cells (grownCap w (n + k) c e - (n + k))) e)) := by
    simp only [execOp, resolve, invoke, builtin, Sem.run_bind, Sem.run_pure, Result.andThen_ok, List.map_toArray, List.map_cons, List.map_nil, hi.ev hx, hi.ev hy, hrun]
  refine wo_value hex ?_
  have hal : Inv E { s with b := (w.heap.size, e, olds ++ ((Builtin.zeroCells z.cells k).toList ++ (Builtin.zeroCells z.cells (grownCap w (n + k) c e - (n + k))).toList)) :: s.b } a (w.drew.alloc (.cells (olds.toArray ++ Builtin.zeroCells z.cells k ++ Builtin.zeroCells z.cells (grownCap w (n + k) c e - (n + k))) e)) := by
    have hd : Inv E s a w.drew := hi.mem rfl rfl hi.below.drew (fun k hk => ⟨hk, rfl⟩) (fun x hx => .inl hx) (fun x hx => .inl ⟨hx, rfl⟩) (fun x hx => .inl ⟨hx, fun _ _ => rfl⟩) hi.nodup
    have := hd.alloc e (olds ++ ((Builtin.zeroCells z.cells k).toList ++ (Builtin.zeroCells z.cells (grownCap w (n + k) c e - (n + k))).toList))
    have e2 : (olds ++ ((Builtin.zeroCells z.cells k).toList ++ (Builtin.zeroCells z.cells (grownCap w (n + k) c e - (n + k))).toList)).toArray = olds.toArray ++ Builtin.zeroCells z.cells k ++ Builtin.zeroCells z.cells (grownCap w (n + k) c e - (n + k)) := by
      apply Array.toList_inj.1
      simp
    rw [e2] at this
    exact this
  refine hK _ _ _ ⟨w.heap.size, grownCap w (n + k) c e, _, hge, hmx, ?_, rfl⟩ (hal.put (by exact hn) _)
  simp only [List.length_append, Array.length_toList, size_zeroCells, h5, ← Nat.add_mul]
  congr 1
  omega
/-- A call of a function without a body, which answers at once. -/
theorem op_call_ext {f : FuncId} {cal : Operand} {args : List Operand} {ats : Array TypeId} {vals : List Value} (hc : s.ev cal = some (.func (.func f) #[] #[])) (ha : args.map s.ev = vals.map some) (hn : d < s.n) (hr : ∀ w, Mem E s w → (callFunc f vals.toArray).run P w = .ok (.value v) w) :
    OpV P E ⟨some d, .call { callee := .value cal, args := args.toArray, argTypes := ats }, ty, pos, after, gd⟩ s d v :=
  ⟨rfl, hn, fun a w h hm => by
    have h2 : args.map a.eval = vals := evals h ha
    have h3 := hr w hm
    simp only [execOp, Sem.run_bind, resolve, h _ _ hc, Deferred.ofValue, invoke, Sem.run_pure, Result.andThen_ok, List.map_toArray, h2]
    simpa using h3⟩
theorem run_overlaps {f ts tb e sz g o vb vo e2 n c m c2 j : Nat} {agg : Bool} {fn : Func} {T : TypeId} {cur : List Value} {es : List (List Value)} (i : Nat) (hf : P.funcs[f]? = some fn) (hname : (fn.name == "runtime.NumGoroutine") = false) (hb : fn.body.isNone = true) (hx1 : Extern.findNext fn = none) (hx2 : Extern.find fn = some (Extern.SlicesOverlaps.overlaps #[ts, ts] #[tb]))
    (ht : P.underlying ts = some (.slice e)) (hT : TI P e agg sz) (hl : s.f[j]? = some (.lent (.slice (some ⟨vb, vo, none⟩) m c2) e2 sz es)) (hbx : s.b[i]? = some (g, T, cur)) (hcur : 0 < cur.length) (hne : vb ≠ g) (w : World) (hm : Mem E s w) (hU : ¬ E.U T := by first | apply_assumption | exact id) :
    (callFunc f [.slice (some ⟨vb, vo, none⟩) m c2, .slice (some ⟨g, o, none⟩) n c].toArray).run P w = .ok (.value (.bool false)) w := by
  obtain ⟨z, hz, h2⟩ := hm.boxes _ (List.mem_of_getElem? hbx)
  obtain rfl := hz.resolve_right fun h => hU h.1
  obtain ⟨⟨_, _, h3⟩, _⟩ := hm.facts _ (List.mem_of_getElem? hl)
  rcases h3 with ⟨h3, _⟩ | ⟨g', cap', cur', h3, _, h5, _⟩
  · cases h3
  simp only [Value.slice.injEq, Option.some.injEq, Addr.mk.injEq, and_true] at h3
  obtain ⟨⟨rfl, rfl⟩, _⟩ := h3
  simp only at h2 h5
  rw [run_callFunc_extern hf hname hb hx1 hx2, Lib.run_overlaps_apart w ts tb e ht sz (fun w => run_size hT w) ⟨vb, 0, none⟩ ⟨g, o, none⟩ m c2 n c hne e2 T cur'.size cur.length (by simp [World.shape?, h5]) (by simp [World.shape?, h2]) (by omega) (by simp [World.frozen?, h5]) (by simp [World.frozen?, h5])]
  rfl
/-- What a slice of the call's own looks like. -/
theorem VC.formR {c : Code} {e sz : Nat} {es : List (List Value)} (i : Nat) (hr : r0[i]? = some (v, e, sz, es)) (h : ∀ A cap, v = .slice A es.length cap → es.length ≤ cap → VC P E c Q ⟨n0, t0, f0, b0, r0⟩) : VC P E c Q ⟨n0, t0, f0, b0, r0⟩ := fun a w hi => by
  have hrow := hi.rows _ (List.mem_of_getElem? hr)
  rcases hrow.2.2 with ⟨e1, e2⟩ | ⟨g, cap, cur, e1, _, _, e2, _⟩
  · simp only at e1 e2
    exact h none 0 (by rw [e1, e2]) (by omega) a w hi
  · exact h _ cap e1 e2 a w hi
theorem VR.someR {e sz : Nat} {es : List (List Value)} (i : Nat) (hr : r0[i]? = some (v, e, sz, es)) (h0 : 0 < es.length) (h : v.ownBlock.isSome = true → VR E Q ⟨n0, t0, f0, b0, r0⟩) : VR E Q ⟨n0, t0, f0, b0, r0⟩ := fun a w hi => by
  obtain ⟨g, cap, e⟩ := own_at (hi.rows _ (List.mem_of_getElem? hr)) h0
  exact h (by rw [e]; rfl) a w hi
/-- What is lent lies in no block that is written. -/
theorem VC.lentNe {c : Code} {vb vo m c2 e2 sz g T : Nat} {es : List (List Value)} {cur : List Value} (i j : Nat) (hl : f0[j]? = some (.lent (.slice (some ⟨vb, vo, none⟩) m c2) e2 sz es)) (hb : b0[i]? = some (g, T, cur)) (h : vb ≠ g → VC P E c Q ⟨n0, t0, f0, b0, r0⟩) : VC P E c Q ⟨n0, t0, f0, b0, r0⟩ := fun a w hi => by
  refine h ?_ a w hi
  rintro rfl
  obtain ⟨_, hk⟩ := hi.facts _ (List.mem_of_getElem? hl)
  refine (hk vb rfl).2.2 ?_
  unfold St.blocks
  exact List.mem_append_left _ (List.mem_map.2 ⟨_, List.mem_of_getElem? hb, rfl⟩)
/-- Where what is lent lies. -/
theorem VC.openLent {c : Code} {e2 sz : Nat} {es : List (List Value)} (j : Nat) (hl : f0[j]? = some (.lent v e2 sz es)) (h0 : 0 < es.length) (h : ∀ vb c2, v = .slice (some ⟨vb, 0, none⟩) es.length c2 → VC P E c Q ⟨n0, t0, f0, b0, r0⟩) : VC P E c Q ⟨n0, t0, f0, b0, r0⟩ := fun a w hi => by
  obtain ⟨⟨_, _, h3⟩, _⟩ := hi.facts _ (List.mem_of_getElem? hl)
  rcases h3 with ⟨_, h4⟩ | ⟨g', cap', cur', h4, _⟩
  · simp only at h4
    omega
  · exact h g' cap' h4 a w hi
theorem op_cutV' {t e sz n c : Nat} {agg : Bool} {lo : Option Operand} {A : Option Addr} (l h : Nat) (hv : cutV A l h c sz = v) (ht : P.underlying t = some (.slice e)) (hT : TI P e agg sz) (hx : s.ev x = some (.slice A n c)) (hb : boundsOk s lo none l h n) (hc : n ≤ c) (hn : d < s.n := by exact ltn rfl) :
    OpV P E ⟨some d, .slice t x lo none none, ty, pos, after, gd⟩ s d v := hv ▸ op_cutV ht hT hx hb hc hn
theorem op_cutH' {t e sz n c : Nat} {agg : Bool} {lo : Option Operand} {A : Option Addr} (l h : Nat) (hv : cutV A l h c sz = v) (ht : P.underlying t = some (.slice e)) (hT : TI P e agg sz) (hx : s.ev x = some (.slice A n c)) (hb : boundsOk s lo (some y) l h c) (hn : d < s.n := by exact ltn rfl) :
    OpV P E ⟨some d, .slice t x lo (some y) none, ty, pos, after, gd⟩ s d v := hv ▸ op_cutH ht hT hx hb hn
theorem cutV_at0 {g l h c sz : Nat} (hl : l < c ∨ l = 0) : cutV (some ⟨g, 0, none⟩) l h c sz = .slice (some ⟨g, l * sz, none⟩) (h - l) (c - l) := by rw [cutV_at hl, Nat.zero_add]
/-- Two cuts end at one place, or begin at one. -/
theorem o_copy {t t2 e sz g o T dl dc sl sc m : Nat} {agg : Bool} {B : Addr} {cur cs cur' : List Value} (i : Nat) (ht : P.underlying t = some (.slice e)) (hT : TI P e agg sz) (hx : St.ev ⟨n0, t0, f0, b0, r0⟩ x = some (.slice (some ⟨g, o, none⟩) dl dc)) (hy : St.ev ⟨n0, t0, f0, b0, r0⟩ y = some (.slice (some B) sl sc)) (hb : b0[i]? = some (g, T, cur)) (hm : min sl dl = m) (hl : cs.length = m * sz) (hfit : o + cs.length ≤ cur.length)
    (hsrc : ∀ w, Mem E ⟨n0, t0, f0, b0, r0⟩ w → ∀ j u, cs[j]? = some u → w.cell? (B.add j) = some u) (h1 : ∀ u ∈ cs, u.oneCell' = true) (hu : upd cur o cs = cur') (hn : d < n0 := by exact ltn rfl) :
    Op1 P E ⟨some d, .call { callee := .builtin .copy, args := #[x, y], argTypes := #[t, t2] }, ty, pos, after, gd⟩ ⟨n0, t0, f0, b0, r0⟩ (· = ⟨n0, (d, .int .i64 m) :: t0, f0, b0.set i (g, T, cur'), r0⟩) := hu ▸ op_copy i ht hT hx hy hb hm hl hfit hsrc h1 hn
theorem o_appendZ {t tn e sz bytes g o T n c k : Nat} {kn kq : IntKind} {cur olds : List Value} (i : Nat) (ht : P.underlying t = some (.slice e)) (htn : P.underlying tn = some (.int kn)) (hE : EI P e sz bytes) (hx : St.ev ⟨n0, t0, f0, b0, r0⟩ x = some (.slice (some ⟨g, o, none⟩) n c)) (hy : St.ev ⟨n0, t0, f0, b0, r0⟩ y = some (.int kq k)) (hb : b0[i]? = some (g, T, cur)) (ho : olds = (cur.drop o).take (n * sz)) (hol : olds.length = n * sz) (h0 : 0 < k) (hg : c < n + k) (hc : n ≤ c) (hbig : (n + k) * bytes ≤ 140737488355328) (hn : d < n0)
    {l : List Oper} (hgd : guardOn ops ⟨n0, t0, f0, b0, r0⟩ ⟨some d, .call { callee := .builtin .append, args := #[x, y], argTypes := #[t, tn] }, ty, pos, after, gd⟩ = some true)
    (h : ∀ g2 cap2 tail, n + k ≤ cap2 → cap2 ≤ maxLen → tail.length = (cap2 - n) * sz → VL P E ops Q l ⟨n0, (d, .slice (some ⟨g2, 0, none⟩) (n + k) cap2) :: t0, f0, (g2, e, olds ++ tail) :: b0, r0⟩) :
    VL P E ops Q (⟨some d, .call { callee := .builtin .append, args := #[x, y], argTypes := #[t, tn] }, ty, pos, after, gd⟩ :: l) ⟨n0, t0, f0, b0, r0⟩ :=
  VL.step (op_appendZ i ht htn hE hx hy hb ho hol h0 hg hc hbig hn) hgd (by rintro _ ⟨g2, cap2, tail, h1, h2, h3, rfl⟩; exact h g2 cap2 tail h1 h2 h3)
theorem ins_fits {cur V D : List Value} {I N M : Nat} (hN : N + M ≤ cur.length) (hI : I ≤ N) (hV : V.length = M) (hD : D = (cur.drop I).take (N - I)) :
    (upd (upd cur (I + M) D) I V).take (N + M) = (cur.take N).take I ++ V ++ (cur.take N).drop I := by
  have h3 : D.length = N - I := by rw [hD, List.length_take, List.length_drop]; omega
  have h4 : (cur.take (I + M)).length = I + M := by rw [List.length_take]; omega
  have e1 : upd cur (I + M) D = cur.take (I + M) ++ (D ++ cur.drop (N + M)) := by
    unfold upd
    rw [h3, List.append_assoc]
    congr 3
    omega
  have h1 : (cur.take I).length = I := by rw [List.length_take]; omega
  have e2 : (upd cur (I + M) D).take I = cur.take I := by rw [e1, List.take_append_of_le_length (by rw [h4]; omega), List.take_take, Nat.min_eq_left (by omega)]
  have e3 : (upd cur (I + M) D).drop (I + M) = D ++ cur.drop (N + M) := by rw [e1, List.drop_left' h4]
  have e4 : upd (upd cur (I + M) D) I V = (cur.take I ++ V ++ D) ++ cur.drop (N + M) := by
    show (upd cur (I + M) D).take I ++ V ++ (upd cur (I + M) D).drop (I + V.length) = _
    rw [e2, hV, e3, List.append_assoc, List.append_assoc, List.append_assoc]
  rw [e4, List.take_left' (by rw [List.length_append, List.length_append, h1, h3, hV]; omega), hD, List.take_take, Nat.min_eq_left hI, List.drop_take]
theorem ins_grow {cur tail V D : List Value} {I N M : Nat} (hN : N ≤ cur.length) (hI : I ≤ N) (hV : V.length = M) (hD : D = (cur.drop I).take (N - I)) :
    (upd (upd (cur.take I ++ tail) I V) (I + M) D).take (N + M) = (cur.take N).take I ++ V ++ (cur.take N).drop I := by
  have h1 : (cur.take I).length = I := by rw [List.length_take]; omega
  have e1 : upd (cur.take I ++ tail) I V = (cur.take I ++ V) ++ tail.drop M := by
    unfold upd
    have : (cur.take I).drop (I + V.length) = [] := List.drop_of_length_le (by rw [h1]; omega)
    rw [List.take_left' h1, List.drop_append, h1, this, hV, List.nil_append]
    congr 2
    omega
  have h2 : (cur.take I ++ V).length = I + M := by rw [List.length_append, h1, hV]
  have h3 : D.length = N - I := by rw [hD, List.length_take, List.length_drop]; omega
  have e2 : upd (upd (cur.take I ++ tail) I V) (I + M) D = (cur.take I ++ V ++ D) ++ ((cur.take I ++ V) ++ tail.drop M).drop (I + M + D.length) := by
    rw [e1]
    unfold upd
    rw [List.take_left' h2]
  rw [e2, List.take_left' (by rw [List.length_append, h2, h3]; omega), hD, List.take_take, Nat.min_eq_left hI, List.drop_take]
theorem upd_len {xs us : List Value} {o : Nat} (h : o + us.length ≤ xs.length) : (upd xs o us).length = xs.length := by
  unfold upd
  rw [List.length_append, List.length_append, List.length_take, List.length_drop]
  omega
end
end Go.Proofs.YtipeglbeongfmaaV
