/- Channels that a function makes, fills, shuts and drains itself. -/
import Derived.Test.YtipeglbeongfmaaV20
import Derived.Conc.LoneSelect
namespace Go.Proofs.YtipeglbeongfmaaV
open Go Go.RowKit
set_option linter.unusedVariables false
set_option linter.unusedSimpArgs false
def isCh (cap : Nat) (l : List Value) (cl : Bool) (o : Obj) : Prop := ∃ s r, o = .chan cap l.toArray cl s r false
abbrev Fact.ch (c cap : Nat) (l : List Value) (cl : Bool) : Fact := .ob2 c c (fun o _ => isCh cap l cl o)
/-- The rest of a region from its k-th operation on, by the machine's steps. -/
def VS (P : Program) (E : Env) (ops : Array Oper) (Q : Exit → Act → World → Prop) (k : Nat) (s : St) : Prop :=
  ∀ a w, Inv E s a w → ∀ (b : Frame) (it : List Item) (cs : List Frame), b.roundOf = none → ∃ e a' w', Q e a' w' ∧ Arrives P (lone (b.at a (.inRegion ops (List.range' k (ops.size - k)) :: it)) cs w) b it cs e a' w'

section
variable {P : Program} {E : Env} {w w' : World} {s s' : St} {a : Act} {o : Oper} {ops : Array Oper} {Q : Exit → Act → World → Prop} {d : Nat} {v u : Value} {x y z : Operand}
variable {m : Nat} {ty : TypeId} {pos : String} {after : Array Edge} {gd : Option (Nat × Bool)}
  {n0 n1 n2 : Nat} {t0 t1 t2 : List (Nat × Value)} {f0 f1 : List Fact} {b0 b1 : List (Nat × TypeId × List Value)} {r0 r1 : List (Value × TypeId × Nat × List (List Value))}

theorem VC.comm {id : Nat} (hR : E.R = none) (h : VS P E ops Q 0 s) : VC P E (.region id ops false) Q s := by
  intro a w hi
  rw [Env.F_wide hR]
  intro b it cs hro _ _
  have hb : b.roundOf = none := hro
  obtain ⟨e, a', w', hq, hr⟩ := h a w hi b it cs hb
  refine ⟨e, a', w', hq, ?_⟩
  rw [Frame.atR_of_none hb]
  refine (arrivesIn_iff (fun _ _ => stepsIn_wide) hb).2 (.of_steps (.one step_region) ?_)
  rw [List.range_eq_range']
  exact hr
theorem VS.rest {k : Nat} {l : List Oper} (hR : E.R = none) (hl : ops.toList.drop k = l) (h : VL P E ops Q l s) : VS P E ops Q k s := by
  subst hl
  intro a w hi b it cs hro
  have h1 := h a w hi
  rw [Env.F_wide hR] at h1
  have h2 : wpOpsIn Fence.wide 0 P ops Q (List.range' k (ops.size - k)) a w := by
    have h3 := wpOpsIn_eq_wpListIn (F := Fence.wide) (n := 0) (P := P) (ops := ops) (Q := Q) (ops.toList.drop k) k (fun j => by simp)
    rw [List.length_drop, Array.length_toList] at h3
    rw [h3]
    exact h1
  obtain ⟨e, a', w', hq, hr⟩ := wp_opsIn _ a w h2 b it cs hro trivial (room_wide _)
  rw [Frame.atR_of_none hro] at hr
  exact ⟨e, a', w', hq, (arrivesIn_iff (fun _ _ => stepsIn_wide) hro).1 hr⟩
theorem range_from {k n : Nat} (h : k < n) : List.range' k (n - k) = k :: List.range' (k + 1) (n - (k + 1)) := by
  rw [show n - k = (n - (k + 1)) + 1 by omega, List.range'_succ]
theorem finish_op {k : Nat} (hk : ops[k]? = some o) (b : Frame) (rest : List Nat) (it : List Item) : (b.at a (.inRegion ops (k :: rest) :: it)).finish v = b.at (a.put o.dst v) (.inRegion ops rest :: it) := by
  rw [Frame.finish_at, hk]
  rfl
theorem VS.va {k : Nat} (hk : ops[k]? = some o) (ho : OpV P E o ⟨n0, t0, f0, b0, r0⟩ d v) (hg : guardOn ops ⟨n0, t0, f0, b0, r0⟩ o = some true) (h : VS P E ops Q (k + 1) ⟨n0, (d, v) :: t0, f0, b0, r0⟩) : VS P E ops Q k ⟨n0, t0, f0, b0, r0⟩ := by
  intro a w hi b it cs hro
  have hrun := ho.run a w (fun x u hx => hi.ev hx) hi.toMem
  obtain ⟨e, a', w', hq, hr⟩ := h _ _ (hi.put ho.lt v) b it cs hro
  refine ⟨e, a', w', hq, .of_steps (.one (step_lone_go ?_)) hr⟩
  rw [range_from (Array.getElem?_eq_some_iff.1 hk).1, stepG_op hk (guardOn_wanted hi hg), ← ho.dst, ← finish_op hk]
  simp [stepG.apply, hrun]
theorem comm_step {b : Frame} {i : Nat} {rest : List Nat} {it : List Item} {cs : List Frame} {cases : Array CommCase} {bl : Bool} {sh : CommShape} (ho : ops[i]? = some o) (hw : Region.wanted o (yielded ops a.tmps) = true) (hr : (execOp a.eval o).run P w = .ok (.comm cases bl sh) w') :
    ∃ es, stepG P true (Conc.G (b.at a (.inRegion ops (i :: rest) :: it)) cs) w = .comm (Conc.G (b.at a (.inRegion ops (i :: rest) :: it)) cs) cases bl sh w' es := by
  rw [Conc.stepG_oper ho hw]
  simp [stepG.apply, hr, Conc.G, Frame.at, GStep.after]
/-- A communication is done. -/
theorem VS.of_step {k : Nat} (hk : ops[k]? = some o) (hg : guardOn ops s o = some true)
    (h : ∀ a w, Inv E s a w → ∃ v s' w', Inv E s' (a.put o.dst v) w' ∧ VS P E ops Q (k + 1) s' ∧ ∀ (b : Frame) (rest : List Nat) (it : List Item) (cs : List Frame), step P (Conc.solo (Conc.G (b.at a (.inRegion ops (k :: rest) :: it)) cs) w) = .next (Conc.solo (Conc.G ((b.at a (.inRegion ops (k :: rest) :: it)).finish v) cs) w')) : VS P E ops Q k s := by
  intro a w hi b it cs hro
  obtain ⟨v, s', w', hi', hs, hst⟩ := h a w hi
  obtain ⟨e, a', w'', hq, hr⟩ := hs _ _ hi' b it cs hro
  refine ⟨e, a', w'', hq, .of_steps (.one ?_) hr⟩
  rw [range_from (Array.getElem?_eq_some_iff.1 hk).1, Conc.lone_eq_solo, hst, finish_op hk]
  rfl
theorem Inv.setCh {c cap cap' : Nat} {l l' : List Value} {cl cl' : Bool} {sq rq : Nat} (h : Inv E ⟨n0, t0, f0, b0, r0⟩ a w) (i : Nat) (hb : E.w0.heap.size ≤ c) (hf : f0[i]? = some (.ch c cap l cl)) (hoff : OffAll c (f0.eraseIdx i)) :
    Inv E ⟨n0, t0, f0.set i (.ch c cap' l' cl'), b0, r0⟩ a (w.putObj c (.chan cap' l'.toArray cl' sq rq false)) := by
  obtain ⟨hok, o, o2, h1, h2, hm⟩ := h.facts _ (List.mem_of_getElem? hf)
  obtain ⟨sq', rq', rfl⟩ := hm
  refine Inv.turnM (s := ⟨n0, t0, f0, b0, r0⟩) h hb h1 (fun _ _ _ e => by cases e) fun x hx => ?_
  rcases mem_set hx with rfl | ⟨j, hj, hx⟩
  · exact .inr ⟨hok, _, _, World.putObj_heap_same hok.1.2.1, World.putObj_heap_same hok.1.2.1, _, _, rfl⟩
  · exact .inl ⟨List.mem_of_getElem? hx, hoff.all _ (mem_erase_of hx hj)⟩
theorem o_makeChan {t e : TypeId} {dir : ChanDir} {k : IntKind} (n : Nat) (ht : P.underlying t = some (.chan dir e)) (hi : (P.info? e).map (·.bytes) = some m) (h63 : (n : Int) ≤ 9223372036854775807) (hb : (m : Int) * n ≤ 281474976710544) (hx : St.ev ⟨n0, t0, f0, b0, r0⟩ x = some (.int k n)) (hn : d < n0 := by exact ltn rfl) :
    Op1 P E ⟨some d, .makeChan t x, ty, pos, after, gd⟩ ⟨n0, t0, f0, b0, r0⟩ (fun s' => ∃ g, E.w0.heap.size ≤ g ∧ (∀ x ∈ f0, x.offB g) ∧ s' = ⟨n0, (d, .chan (some g)) :: t0, .ch g n [] false :: f0, b0, r0⟩) := by
  intro a w K' Q hin hk
  obtain ⟨i, hi2, rfl⟩ := Option.map_eq_some_iff.1 hi
  have hrun : (execOp a.eval ⟨some d, .makeChan t x, ty, pos, after, gd⟩).run P w = .ok (.value (.chan (some w.heap.size))) (w.alloc (.chan n #[] false 0 0 false)) := by
    simp [execOp, hin.ev hx, Conc.run_makeChan ht hi2 k n h63 hb]
  refine wo_value hrun ?_
  obtain ⟨h1, h2⟩ := hin.newObj (ob := .chan n #[] false 0 0 false) (fun _ _ _ e => by cases e) (p := fun o _ => isCh n [] false o) (k := w.heap.size) (.inl rfl) ⟨World.alloc_heap_new w _, 0, 0, rfl⟩
  exact hk _ _ _ ⟨w.heap.size, hin.below.size, h2, rfl⟩ (h1.put hn _)
theorem o_close {c cap : Nat} {l : List Value} {ats : Array TypeId} (i : Nat) (hb : E.w0.heap.size ≤ c) (hf : f0[i]? = some (.ch c cap l false)) (hoff : OffAll c (f0.eraseIdx i)) (hx : St.ev ⟨n0, t0, f0, b0, r0⟩ x = some (.chan (some c))) :
    Op1 P E ⟨none, .call { callee := .builtin .close, args := #[x], argTypes := ats }, ty, pos, after, gd⟩ ⟨n0, t0, f0, b0, r0⟩ (· = ⟨n0, t0, f0.set i (.ch c cap l true), b0, r0⟩) := by
  intro a w K' Q hin hk
  obtain ⟨_, o, _, h1, _, sq, rq, rfl⟩ := hin.facts _ (List.mem_of_getElem? hf)
  have hrun : (execOp a.eval ⟨none, .call { callee := .builtin .close, args := #[x], argTypes := ats }, ty, pos, after, gd⟩).run P w = .ok (.value (.tuple #[])) (w.putObj c (.chan cap l.toArray true sq rq false)) := by
    have h2 := run_close_open (P := P) (w := w) ats ty h1
    simp [execOp, resolve, invoke, builtin, hin.ev hx, h2, World.putObj]
  refine wo_value hrun ?_
  exact hk _ _ _ rfl (hin.setCh i hb hf hoff)
theorem VS.offer {k c cap : Nat} {l : List Value} {T : TypeId} {zv : Value} (i : Nat) (hk : ops[k]? = some ⟨some d, .select #[{ chan := x, send := some y, elem := T }] false, ty, pos, after, gd⟩) (hg : guardOn ops ⟨n0, t0, f0, b0, r0⟩ ⟨some d, .select #[{ chan := x, send := some y, elem := T }] false, ty, pos, after, gd⟩ = some true) (hz : (P.info? T).bind (·.zero) = some zv) (hb : E.w0.heap.size ≤ c) (hf : f0[i]? = some (.ch c cap l false)) (hoff : OffAll c (f0.eraseIdx i)) (hx : St.ev ⟨n0, t0, f0, b0, r0⟩ x = some (.chan (some c))) (hy : St.ev ⟨n0, t0, f0, b0, r0⟩ y = some v) (hn : d < n0)
    (h1 : l.length < cap → VS P E ops Q (k + 1) ⟨n0, (d, .tuple #[.int .i64 0, .bool false]) :: t0, f0.set i (.ch c cap (l ++ [v]) false), b0, r0⟩)
    (h2 : cap ≤ l.length → VS P E ops Q (k + 1) ⟨n0, (d, .tuple #[.int .i64 (-1), .bool false]) :: t0, f0, b0, r0⟩) : VS P E ops Q k ⟨n0, t0, f0, b0, r0⟩ := by
  refine VS.of_step hk hg fun a w hi => ?_
  obtain ⟨_, o, _, h3, _, sq, rq, rfl⟩ := hi.facts _ (List.mem_of_getElem? hf)
  have hzv : (zeroValue T).run P w = .ok zv w := by
    cases hq : P.info? T with
    | none => rw [hq] at hz; cases hz
    | some i =>
      rw [hq] at hz
      have : i.zero = some zv := by simpa using hz
      simp [zeroValue, typeInfo, hq, this]
  have hrun : (execOp a.eval ⟨some d, .select #[{ chan := x, send := some y, elem := T }] false, ty, pos, after, gd⟩).run P w = .ok (.comm #[Conc.scase c v zv] false .select) w := by
    simp [execOp, Conc.scase, hi.ev hx, hi.ev hy, hzv]
  have hst := fun (b : Frame) (rest : List Nat) (it : List Item) (cs : List Frame) => comm_step (P := P) (b := b) (rest := rest) (it := it) (cs := cs) hk (guardOn_wanted hi hg) hrun
  rcases Nat.lt_or_ge l.length cap with hl | hl
  · refine ⟨_, _, w.putObj c (.chan cap (l ++ [v]).toArray false (sq + 1) rq false), (hi.setCh i hb hf hoff).put hn _, h1 hl, fun b rest it cs => ?_⟩
    obtain ⟨es, hst⟩ := hst b rest it cs
    rw [Conc.step_lone_select_send_room hst h3 (by simpa using hl)]
    simp [World.setChan, World.putObj, goInt]
  · refine ⟨_, _, w, hi.put hn _, h2 hl, fun b rest it cs => ?_⟩
    obtain ⟨es, hst⟩ := hst b rest it cs
    rw [Conc.step_lone_select_send_full hst h3 (by simpa using hl)]
    rfl
theorem VS.recv {k c cap : Nat} {l : List Value} {ct T : TypeId} {dir : ChanDir} {zv : Value} (i : Nat) (hk : ops[k]? = some ⟨some d, .recv ct x true, ty, pos, after, gd⟩) (hg : guardOn ops ⟨n0, t0, f0, b0, r0⟩ ⟨some d, .recv ct x true, ty, pos, after, gd⟩ = some true) (ht : P.underlying ct = some (.chan dir T)) (hz : (P.info? T).bind (·.zero) = some zv) (hb : E.w0.heap.size ≤ c) (hf : f0[i]? = some (.ch c cap l true)) (hoff : OffAll c (f0.eraseIdx i)) (hx : St.ev ⟨n0, t0, f0, b0, r0⟩ x = some (.chan (some c))) (hn : d < n0)
    (h1 : ∀ v l', l = v :: l' → VS P E ops Q (k + 1) ⟨n0, (d, .tuple #[v, .bool true]) :: t0, f0.set i (.ch c cap l' true), b0, r0⟩)
    (h2 : l = [] → VS P E ops Q (k + 1) ⟨n0, (d, .tuple #[zv, .bool false]) :: t0, f0, b0, r0⟩) : VS P E ops Q k ⟨n0, t0, f0, b0, r0⟩ := by
  refine VS.of_step hk hg fun a w hi => ?_
  obtain ⟨_, o, _, h3, _, sq, rq, rfl⟩ := hi.facts _ (List.mem_of_getElem? hf)
  have hzv : (zeroValue T).run P w = .ok zv w := by
    cases hq : P.info? T with
    | none => rw [hq] at hz; cases hz
    | some i =>
      rw [hq] at hz
      have : i.zero = some zv := by simpa using hz
      simp [zeroValue, typeInfo, hq, this]
  have hrun : (execOp a.eval ⟨some d, .recv ct x true, ty, pos, after, gd⟩).run P w = .ok (.comm #[Conc.rcase c zv] true (.recv true)) w := by
    simp [execOp, Conc.rcase, hi.ev hx, run_underlying ht, hzv]
  have hst := fun (b : Frame) (rest : List Nat) (it : List Item) (cs : List Frame) => comm_step (P := P) (b := b) (rest := rest) (it := it) (cs := cs) hk (guardOn_wanted hi hg) hrun
  cases l with
  | cons v l' =>
    refine ⟨_, _, w.putObj c (.chan cap l'.toArray true sq (rq + 1) false), (hi.setCh i hb hf hoff).put hn _, h1 v l' rfl, fun b rest it cs => ?_⟩
    obtain ⟨es, hst⟩ := hst b rest it cs
    rw [Conc.step_lone_recv_buf true hst h3 (by simp)]
    have e : (v :: l').toArray.extract 1 (v :: l').toArray.size = l'.toArray := by simp
    rw [e]
    simp [World.setChan, World.putObj, Conc.got]
  | nil =>
    refine ⟨_, _, w, hi.put hn _, h2 rfl, fun b rest it cs => ?_⟩
    obtain ⟨es, hst⟩ := hst b rest it cs
    rw [Conc.step_lone_recv_shut true hst h3]
    rfl
end
end Go.Proofs.YtipeglbeongfmaaV
