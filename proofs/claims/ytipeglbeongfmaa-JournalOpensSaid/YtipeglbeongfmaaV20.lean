/- Maps of the call's own: as lists of pairs, in the order in which they came; a range over one, in whatever order. -/
import Derived.Test.YtipeglbeongfmaaV19
namespace Go.Proofs.YtipeglbeongfmaaV
open Go Go.RowKit
set_option linter.unusedVariables false
set_option linter.unusedSimpArgs false
/-! ### lists of pairs -/
def mget {K V : Type} [BEq K] : List (K × V) → K → V → V
  | [], _, d => d
  | e :: m, k, d => if (k == e.1) = true then e.2 else mget m k d
def mset {K V : Type} [BEq K] : List (K × V) → K → V → List (K × V)
  | [], k, v => [(k, v)]
  | e :: m, k, v => if (k == e.1) = true then (k, v) :: m else e :: mset m k v
def mdel {K V : Type} [BEq K] : List (K × V) → K → List (K × V)
  | [], _ => []
  | e :: m, k => if (k == e.1) = true then m else e :: mdel m k
def menc {K V : Type} (ke : K → Value) (ve : V → Value) (m : List (K × V)) : List (Value × Value) := m.map fun e => (ke e.1, ve e.2)
abbrev mI : Int → Value := fun x => .int .i64 x
abbrev mS : ByteArray → Value := fun x => .string x
abbrev mB : Bool → Value := fun x => .bool x

def pairOf (e : MapEntry) : Value × Value := (e.key, e.val)
def stamped (es : Array MapEntry) (clock : Nat) : Prop := es.toList.Pairwise (fun a b => a.born ≠ b.born) ∧ ∀ e ∈ es.toList, e.born < clock
def isMp (m : List (Value × Value)) (o : Obj) : Prop := ∃ es clock, o = .map es clock ∧ es.toList.map pairOf = m ∧ stamped es clock
abbrev Fact.mp (g : Nat) (m : List (Value × Value)) : Fact := .ob2 g g (fun o _ => isMp m o)
def isIt (g : Nat) (left : List (Value × Value)) (last : Option (Value × Value)) (o o' : Obj) : Prop :=
  ∃ es clock seen, o = .map es clock ∧ o' = .mapIter (some g) clock seen clock ∧ stamped es clock ∧ (es.toList.filter fun e => !seen.contains e.born).map pairOf = left ∧ (∀ x, last = some x → ∃ e ∈ es.toList, seen.back? = some e.born ∧ pairOf e = x)
abbrev Fact.itr (g r : Nat) (left : List (Value × Value)) (last : Option (Value × Value)) : Fact := .ob2 g r (isIt g left last)
/-- What does not speak of a block of no cells. -/
def Fact.offB (l : Nat) : Fact → Prop
  | .loop k _ _ _ => k ≠ l
  | .blk k _ => k ≠ l
  | .dfr k => k ≠ l
  | .ob2 k k' _ => k ≠ l ∧ k' ≠ l
  | _ => True
def OffAll (l : Nat) : List Fact → Prop
  | [] => True
  | x :: xs => x.offB l ∧ OffAll l xs
theorem OffAll.all {l : Nat} : ∀ {fs : List Fact}, OffAll l fs → ∀ x ∈ fs, x.offB l
  | [], _, _, h => by cases h
  | y :: ys, h, x, hx => by
    rcases List.mem_cons.1 hx with rfl | hx
    · exact h.1
    · exact OffAll.all h.2 x hx

/-- A key's type: how its values are told apart. -/
structure KeyOk (P : Program) (kt : TypeId) {K : Type} [BEq K] (ke : K → Value) : Prop where
  ty : ∃ d, P.underlying kt = some d ∧ (∀ a b : K, Instr.sameNow d (ke a) (ke b) = some (a == b)) ∧ ∀ (b : Bool) (n : Nat) (a : K) (w : World), (Instr.checkKey b (n + 1) kt (ke a)).run P w = .ok () w
  law : LawfulBEq K
  bits : ∀ (n : Nat) (a : K), Instr.sameBits (n + 1) (ke a) (ke a) = true

section
variable {P : Program} {E : Env} {w w' : World} {s s' : St} {a : Act} {o : Oper} {ops : Array Oper} {rest : List Oper} {Q : Exit → Act → World → Prop} {d : Nat} {v u : Value} {x y z : Operand}
variable {ty : TypeId} {pos : String} {after : Array Edge} {gd : Option (Nat × Bool)}
  {n0 n1 n2 : Nat} {t0 t1 t2 : List (Nat × Value)} {f0 f1 : List Fact} {b0 b1 : List (Nat × TypeId × List Value)} {r0 r1 : List (Value × TypeId × Nat × List (List Value))}

theorem keyI {kt : TypeId} (h : P.underlying kt = some (.int .i64)) : KeyOk P kt mI where
  ty := ⟨_, h, fun a b => by simp [Instr.sameNow], fun b n a w => by simp [Instr.checkKey, run_underlying h]⟩
  law := inferInstance
  bits := fun n a => by simp [Instr.sameBits]
theorem ba_toList_loop (a : ByteArray) : ∀ (d i : Nat) (r : List UInt8), a.size - i = d → ByteArray.toList.loop a i r = r.reverse ++ a.data.toList.drop i := by
  intro d
  induction d with
  | zero =>
    intro i r h
    unfold ByteArray.toList.loop
    have h1 : ¬ i < a.size := by omega
    rw [if_neg h1, List.drop_eq_nil_of_le (by show a.data.toList.length ≤ i; rw [Array.length_toList]; exact Nat.le_of_not_lt h1), List.append_nil]
  | succ d ih =>
    intro i r h
    unfold ByteArray.toList.loop
    have h1 : i < a.size := by omega
    have h2 : i < a.data.toList.length := by rw [Array.length_toList]; exact h1
    rw [if_pos h1, ih (i + 1) _ (by omega), List.reverse_cons, List.append_assoc, List.drop_eq_getElem_cons h2]
    have h3 : a.get! i = a.data.toList[i] := by
      show a.data[i]! = _
      rw [getElem!_pos a.data i h1]
      rfl
    rw [h3]
    rfl
theorem ba_toList (a : ByteArray) : a.toList = a.data.toList := by
  unfold ByteArray.toList
  rw [ba_toList_loop a a.size 0 [] (by omega)]
  rfl
theorem ba_beq (a b : ByteArray) : (a == b) = decide (a = b) := by
  rw [Go.beq_toListBytes, ba_toList, ba_toList, Bool.eq_iff_iff, beq_iff_eq, decide_eq_true_eq]
  refine ⟨fun h => ?_, fun h => by rw [h]⟩
  cases a with
  | mk a =>
    cases b with
    | mk b => simpa using h
theorem ba_lawful : LawfulBEq ByteArray where
  rfl := by
    intro a
    rw [ba_beq]
    exact decide_eq_true rfl
  eq_of_beq := by
    intro a b h
    rw [ba_beq] at h
    exact of_decide_eq_true h
theorem keyS {kt : TypeId} (h : P.underlying kt = some .string) : KeyOk P kt mS where
  ty := ⟨_, h, fun a b => by simp [Instr.sameNow], fun b n a w => by simp [Instr.checkKey, run_underlying h]⟩
  law := ba_lawful
  bits := fun n a => by
    have := ba_lawful
    simp [Instr.sameBits]

theorem findNow_mget {K V : Type} [BEq K] {ke : K → Value} {ve : V → Value} {D : TypeDesc} (hd : ∀ a b : K, Instr.sameNow D (ke a) (ke b) = some (a == b)) (k : K) : ∀ (es : List MapEntry) (m : List (K × V)) (i : Nat), es.map pairOf = menc ke ve m →
    (Instr.findNow D (ke k) es i = some none ∧ (∀ d, mget m k d = d) ∧ (∀ v, mset m k v = m ++ [(k, v)]) ∧ mdel m k = m) ∨ ∃ j e e', es[j]? = some e ∧ m[j]? = some e' ∧ (k == e'.1) = true ∧ Instr.findNow D (ke k) es i = some (some (i + j, e.val)) ∧ (∀ d, mget m k d = e'.2) ∧ (∀ v, mset m k v = m.set j (k, v)) ∧ mdel m k = m.eraseIdx j
  | [], m, i, h => by
    have : m = [] := by
      cases m with
      | nil => rfl
      | cons e m => simp [menc] at h
    subst this
    exact .inl ⟨rfl, fun _ => rfl, fun _ => rfl, rfl⟩
  | e :: es, m, i, h => by
    cases m with
    | nil => simp [menc] at h
    | cons e' m =>
      simp only [menc, List.map_cons, List.cons.injEq] at h
      obtain ⟨h1, h2⟩ := h
      have hk : e.key = ke e'.1 := congrArg Prod.fst h1
      have hs := hd k e'.1
      by_cases hb : (k == e'.1) = true
      · refine .inr ⟨0, e, e', rfl, rfl, hb, ?_, fun d => ?_, fun v => ?_, ?_⟩
        · rw [Instr.findNow, hk, hs, hb]
          rfl
        · rw [mget, if_pos hb]
        · rw [mset, if_pos hb]
          rfl
        · rw [mdel, if_pos hb]
          rfl
      · have hb2 : (k == e'.1) = false := by simpa using hb
        have step : Instr.findNow D (ke k) (e :: es) i = Instr.findNow D (ke k) es (i + 1) := by
          rw [Instr.findNow, hk, hs, hb2]
        rcases findNow_mget hd k es m (i + 1) h2 with ⟨h3, h4, h5, h6⟩ | ⟨j, e2, e3, h3, h4, h5, h6, h7, h8, h9⟩
        · refine .inl ⟨step.trans h3, fun d => ?_, fun v => ?_, ?_⟩
          · rw [mget, if_neg hb, h4]
          · rw [mset, if_neg hb, h5]
            rfl
          · rw [mdel, if_neg hb, h6]
        · refine .inr ⟨j + 1, e2, e3, h3, h4, h5, ?_, fun d => ?_, fun v => ?_, ?_⟩
          · rw [step, h6]
            congr 2
            congr 1
            omega
          · rw [mget, if_neg hb, h7]
          · rw [mset, if_neg hb, h8]
            rfl
          · rw [mdel, if_neg hb, h9]
            rfl

theorem run_getObj_map {g : Nat} {es : Array MapEntry} {clock : Nat} (h : w.heap[g]? = some (.map es clock)) : (getObj g).run P w = .ok (.map es clock) w := by
  simp [getObj, Sem.run, h]
theorem run_setObj_map {g : Nat} {es : Array MapEntry} {clock : Nat} {ob : Obj} (h : w.heap[g]? = some (.map es clock)) : (setObj g ob).run P w = .ok () (w.putObj g ob) := by
  simp [setObj, Sem.run, h, World.putObj]
theorem run_lookup_map {K V : Type} [BEq K] {ke : K → Value} {ve : V → Value} {t kt et : TypeId} {g : Nat} {m : List (K × V)} {o : Obj} (ht : P.underlying t = some (.map kt et)) (hK : KeyOk P kt ke) {dv : V} (hz : (P.info? et).bind (·.zero) = some (ve dv)) (h : w.heap[g]? = some o) (hm : isMp (menc ke ve m) o) (k : K) :
    (Instr.lookup t (.map (some g)) (ke k) false).run P w = .ok (ve (mget m k dv)) w := by
  obtain ⟨es, clock, rfl, h1, _⟩ := hm
  obtain ⟨D, hD, hs, hc⟩ := hK.ty
  have hz2 : (zeroValue et).run P w = .ok (ve dv) w := by
    cases hq : P.info? et with
    | none => rw [hq] at hz; cases hz
    | some i =>
      rw [hq] at hz
      have : i.zero = some (ve dv) := hz
      simp [zeroValue, typeInfo, hq, this]
  have hck := hc es.isEmpty 9999 k w
  rw [show 9999 + 1 = 10000 from rfl] at hck
  have e1 := run_underlying (w := w) ht
  have e2 := run_underlying (w := w) hD
  have e3 := run_getObj_map (P := P) h
  rcases findNow_mget (ve := ve) hs k es.toList m 0 h1 with ⟨h3, h4, _⟩ | ⟨j, e, e', h3, h4, h5, h6, h7, _⟩
  · simp [Instr.lookup, e1, e3, hck, Instr.findKey, e2, h3, hz2, h4 dv]
  · have h8 : e.val = ve e'.2 := by
      have := congrArg (fun q => q[j]?) h1
      simp only [menc, List.getElem?_map, h3, h4, Option.map_some, Option.some.injEq] at this
      exact congrArg Prod.snd this
    simp [Instr.lookup, e1, e3, hck, Instr.findKey, e2, h6, h7 dv, h8]
theorem op_lookup {K V : Type} [BEq K] {ke : K → Value} {ve : V → Value} {t kt et : TypeId} {g : Nat} {m : List (K × V)} {dv : V} {k : K} (i : Nat) (ht : P.underlying t = some (.map kt et)) (hK : KeyOk P kt ke) (hz : (P.info? et).bind (·.zero) = some (ve dv)) (hf : s.f[i]? = some (.mp g (menc ke ve m))) (hx : s.ev x = some (.map (some g))) (hy : s.ev y = some (ke k)) (hn : d < s.n := by exact ltn rfl) :
    OpV P E ⟨some d, .lookup t x y false, ty, pos, after, gd⟩ s d (ve (mget m k dv)) :=
  ⟨rfl, hn, fun a w ha hm => by
    obtain ⟨_, o, o', h1, h2, h3⟩ := hm.facts _ (List.mem_of_getElem? hf)
    have := run_lookup_map (P := P) (w := w) ht hK hz h1 h3 k
    simp [execOp, ha x _ hx, ha y _ hy, this]⟩
theorem op_lenM {K V : Type} {ke : K → Value} {ve : V → Value} {t kt et : TypeId} {g : Nat} {m : List (K × V)} (i : Nat) (ht : P.underlying t = some (.map kt et)) (hf : s.f[i]? = some (.mp g (menc ke ve m))) (hx : s.ev x = some (.map (some g))) (hn : d < s.n := by exact ltn rfl) :
    OpV P E ⟨some d, .call { callee := .builtin .len, args := #[x], argTypes := #[t] }, ty, pos, after, gd⟩ s d (.int .i64 (m.length : Int)) :=
  ⟨rfl, hn, fun a w ha hm => by
    obtain ⟨_, o, o', h1, h2, es, clock, rfl, h3, _⟩ := hm.facts _ (List.mem_of_getElem? hf)
    have e3 := run_getObj_map (P := P) h1
    have hl : es.size = m.length := by
      have := congrArg List.length h3
      simpa [menc] using this
    simp [execOp, resolve, invoke, builtin, Builtin.len_, ha x _ hx, run_underlying ht, goInt, e3, hl]⟩

/-- A block of no cells becomes another. -/
theorem Fact.turnM {k1 : Nat → Prop} {l : Nat} {ob ob' : Obj} {x : Fact} (hl : w.heap[l]? = some ob) (hc : ∀ cs T z, ob ≠ .cells cs T z) (hx : x.holds k1 w) (hn : x.offB l) : x.holds k1 (w.putObj l ob') := by
  cases x with
  | ob2 k k' p =>
    obtain ⟨hk, o, o', h1, h2, h3⟩ := hx
    exact ⟨hk, o, o', (World.putObj_heap_other hn.1).trans h1, (World.putObj_heap_other hn.2).trans h2, h3⟩
  | loop k L st pe =>
    obtain ⟨hk, h⟩ := hx
    exact ⟨hk, (World.putObj_heap_other hn).trans h⟩
  | blk k o =>
    obtain ⟨hk, h⟩ := hx
    exact ⟨hk, (World.putObj_heap_other hn).trans h⟩
  | dfr k =>
    obtain ⟨hk, h⟩ := hx
    exact ⟨hk, (World.putObj_heap_other hn).trans h⟩
  | row v sz es => exact Fact.turn hl hc hx ⟨fun _ _ _ e => (by cases e), fun _ e => (by cases e), fun e => (by cases e), fun _ _ _ e => (by cases e)⟩
  | at_ ad ls => exact Fact.turn hl hc hx ⟨fun _ _ _ e => (by cases e), fun _ e => (by cases e), fun e => (by cases e), fun _ _ _ e => (by cases e)⟩
  | lent v e sz es => exact Fact.turn hl hc hx ⟨fun _ _ _ e => (by cases e), fun _ e => (by cases e), fun e => (by cases e), fun _ _ _ e => (by cases e)⟩
theorem Inv.turnM {l : Nat} {ob ob' : Obj} {fs : List Fact} (h : Inv E s a w) (hb : E.w0.heap.size ≤ l) (hl : w.heap[l]? = some ob) (hc : ∀ cs T z, ob ≠ .cells cs T z)
    (hf : ∀ x ∈ fs, (x ∈ s.f ∧ x.offB l) ∨ x.holds (ok E s w) (w.putObj l ob')) : Inv E { s with f := fs } a (w.putObj l ob') := by
  have h2 : Inv E { s with f := [] } a (w.putObj l ob') := Inv.turn h hb hl hc (fun x hx => by cases hx)
  refine ⟨h2.below, h2.defers, h2.size, h2.tmps, fun x hx => ?_, h2.boxes, h2.rows, h2.nodup⟩
  have hok : ∀ {x : Fact}, x.holds (ok E s w) (w.putObj l ob') → x.holds (ok E { s with f := fs } (w.putObj l ob')) (w.putObj l ob') :=
    fun h2 => Fact.mono (fun k hk => ⟨⟨hk.1, by simpa using hk.2.1, hk.2.2⟩, rfl⟩) h2
  rcases hf x hx with ⟨hx, hn⟩ | hx
  · exact hok (Fact.turnM hl hc (h.facts x hx) hn)
  · exact hok hx
theorem Inv.newObj {ob : Obj} (h : Inv E s a w) (hc : ∀ cs T z, ob ≠ .cells cs T z) {p : Obj → Obj → Prop} {k : Nat} {ok' : Obj} (hk : k = w.heap.size ∨ (ok E s w k)) (hp : (w.alloc ob).heap[k]? = some ok' ∧ p ok' ob) :
    Inv E { s with f := .ob2 k w.heap.size p :: s.f } a (w.alloc ob) ∧ ∀ x ∈ s.f, x.offB w.heap.size := by
  have hs : E.w0.heap.size ≤ w.heap.size := h.below.size
  have hnew : ok E { s with f := .ob2 k w.heap.size p :: s.f } (w.alloc ob) w.heap.size := ⟨.inr hs, by simp, fun hm => by have := (h.blk_lt (k := w.heap.size) hm).1; omega⟩
  constructor
  · refine h.mem rfl rfl (h.below.alloc hs _) (fun k hk => ⟨⟨hk.1, by have := hk.2.1; simp; omega, hk.2.2⟩, heap_alloc_old w _ hk.2.1⟩) (fun x hx => ?_) (fun x hx => .inl ⟨hx, heap_alloc_old w _ (h.boxes x hx).2.lt⟩) (fun x hx => .inl ⟨hx, fun k hk => heap_alloc_old w _ ((h.rows x hx).2.lt k hk).2⟩) h.nodup
    rcases List.mem_cons.1 hx with rfl | hx
    · refine .inr ⟨⟨?_, hnew⟩, ok', ob, hp.1, World.alloc_heap_new w _, hp.2⟩
      rcases hk with rfl | hk
      · exact hnew
      · exact ⟨hk.1, by have := hk.2.1; simp; omega, hk.2.2⟩
    · exact .inl hx
  · intro x hx
    have := h.facts x hx
    cases x with
    | ob2 k k' p => exact ⟨Nat.ne_of_lt this.1.1.2.1, Nat.ne_of_lt this.1.2.2.1⟩
    | loop k L st pe => exact Nat.ne_of_lt this.1.2.1
    | blk k o => exact Nat.ne_of_lt this.1.2.1
    | dfr k => exact Nat.ne_of_lt this.1.2.1
    | _ => trivial
theorem o_makeMap {K V : Type} {ke : K → Value} {ve : V → Value} {t : TypeId} (hn : d < n0 := by exact ltn rfl) :
    Op1 P E ⟨some d, .makeMap t none, ty, pos, after, gd⟩ ⟨n0, t0, f0, b0, r0⟩ (fun s' => ∃ g, E.w0.heap.size ≤ g ∧ (∀ x ∈ f0, x.offB g) ∧ s' = ⟨n0, (d, .map (some g)) :: t0, .mp g (menc ke ve []) :: f0, b0, r0⟩) := by
  intro a w K' Q hi hk
  have hrun : (execOp a.eval ⟨some d, .makeMap t none, ty, pos, after, gd⟩).run P w = .ok (.value (.map (some w.heap.size))) (w.alloc (.map #[] 0)) := by
    simp [execOp, Instr.makeMap, newObj]
    rfl
  refine wo_value hrun ?_
  obtain ⟨h1, h2⟩ := hi.newObj (ob := .map #[] 0) (fun _ _ _ e => by cases e) (p := fun o _ => isMp (menc ke ve []) o) (k := w.heap.size) (.inl rfl) ⟨World.alloc_heap_new w _, #[], 0, rfl, rfl, by simp [stamped]⟩
  exact hk _ _ _ ⟨w.heap.size, hi.below.size, h2, rfl⟩ (h1.put hn _)
theorem run_update_map {K V : Type} [BEq K] {ke : K → Value} {ve : V → Value} {t kt et : TypeId} {g : Nat} {m : List (K × V)} {o : Obj} (ht : P.underlying t = some (.map kt et)) (hK : KeyOk P kt ke) (h : w.heap[g]? = some o) (hm : isMp (menc ke ve m) o) (k : K) (v : V) :
    ∃ o', (Instr.mapUpdate t (.map (some g)) (ke k) (ve v)).run P w = .ok () (w.putObj g o') ∧ isMp (menc ke ve (mset m k v)) o' := by
  obtain ⟨es, clock, rfl, h1, hst⟩ := hm
  obtain ⟨D, hD, hs, hc⟩ := hK.ty
  have hck := hc false 9999 k w
  rw [show 9999 + 1 = 10000 from rfl] at hck
  have e1 := run_underlying (w := w) ht
  have e2 := run_underlying (w := w) hD
  have e3 := run_getObj_map (P := P) h
  have hlaw := hK.law
  rcases findNow_mget (ve := ve) hs k es.toList m 0 h1 with ⟨h3, _, h4, _⟩ | ⟨j, e, e', h3, h4, h5, h6, _, h7, _⟩
  · refine ⟨.map (es.push { key := ke k, val := ve v, born := clock }) (clock + 1), ?_, _, _, rfl, ?_, ?_, ?_⟩
    · simp [Instr.mapUpdate, e1, e3, hck, Instr.findKey, e2, h3, run_setObj_map (P := P) h]
    · rw [h4 v]
      simp [h1, menc, pairOf]
    · simp only [Array.toList_push]
      rw [List.pairwise_append]
      refine ⟨hst.1, by simp, fun a ha b hb => ?_⟩
      obtain rfl := List.mem_singleton.1 hb
      have := hst.2 a ha
      simp only
      omega
    · intro a ha
      simp only [Array.toList_push, List.mem_append, List.mem_singleton] at ha
      rcases ha with ha | rfl
      · have := hst.2 a ha
        omega
      · simp
  · have hkk : k = e'.1 := eq_of_beq h5
    have hke : e.key = ke k := by
      have := congrArg (fun q => q[j]?) h1
      simp only [menc, List.getElem?_map, h3, h4, Option.map_some, Option.some.injEq] at this
      rw [hkk]
      exact congrArg Prod.fst this
    have hej : es[j]? = some e := by rw [← Array.getElem?_toList]; exact h3
    have hb : (Instr.keyThatStays e.key (ke k)).run P w = .ok (ke k) w := by
      unfold Instr.keyThatStays
      rw [hke, show (10000 : Nat) = 9999 + 1 from rfl, hK.bits 9999 k]
      rfl
    refine ⟨.map (es.modify j fun e => { e with key := ke k, val := ve v }) clock, ?_, _, _, rfl, ?_, ?_, ?_⟩
    · have h6' := h6
      rw [Nat.zero_add] at h6'
      simp [Instr.mapUpdate, e1, e3, hck, Instr.findKey, e2, h6', hej, hb, run_setObj_map (P := P) h]
    · rw [h7 v]
      apply List.ext_getElem?
      intro q
      have h8 := congrArg (fun z => z[q]?) h1
      simp only [menc, List.getElem?_map] at h8 ⊢
      rw [Array.getElem?_toList, Array.getElem?_modify, List.getElem?_set]
      by_cases hq : j = q
      · subst hq
        have hlt := (List.getElem?_eq_some_iff.1 h4).1
        rw [if_pos rfl, if_pos rfl, if_pos hlt, hej]
        rfl
      · rw [if_neg hq, if_neg hq, ← Array.getElem?_toList]
        exact h8
    · refine List.pairwise_iff_getElem.2 fun p q hp hq hpq => ?_
      have h9 := List.pairwise_iff_getElem.1 hst.1 p q (by simpa using hp) (by simpa using hq) hpq
      simp only [Array.toList_modify, List.getElem_modify, Array.getElem_toList] at h9 ⊢
      split <;> split <;> exact h9
    · intro a ha
      obtain ⟨q, hq⟩ := List.getElem?_of_mem ha
      rw [Array.getElem?_toList, Array.getElem?_modify] at hq
      by_cases hjq : j = q
      · subst hjq
        rw [if_pos rfl, hej] at hq
        obtain rfl := Option.some.inj hq
        exact hst.2 e (List.mem_of_getElem? h3)
      · rw [if_neg hjq, ← Array.getElem?_toList] at hq
        exact hst.2 a (List.mem_of_getElem? hq)
theorem Inv.setMp {g : Nat} {o' : Obj} {m m' : List (Value × Value)} (i : Nat) (hi : Inv E ⟨n0, t0, f0, b0, r0⟩ a w) (hg : E.w0.heap.size ≤ g) (hf : f0[i]? = some (.mp g m)) (hoff : OffAll g (f0.eraseIdx i)) (hm : isMp m' o') : Inv E ⟨n0, t0, f0.set i (.mp g m'), b0, r0⟩ a (w.putObj g o') := by
  obtain ⟨hok, o, _, h1, _, es, clock, rfl, h3⟩ := hi.facts _ (List.mem_of_getElem? hf)
  have hmap : ∃ es' clock', o' = .map es' clock' := by
    obtain ⟨es', clock', e, _⟩ := hm
    exact ⟨es', clock', e⟩
  refine Inv.turnM (s := ⟨n0, t0, f0, b0, r0⟩) hi hg h1 (fun _ _ _ e => by cases e) fun x hx => ?_
  rcases mem_set hx with rfl | ⟨j, hj, hx⟩
  · exact .inr ⟨hok, o', o', World.putObj_heap_same hok.1.2.1, World.putObj_heap_same hok.1.2.1, hm⟩
  · exact .inl ⟨List.mem_of_getElem? hx, hoff.all _ (mem_erase_of hx hj)⟩
theorem o_mapUpdate {K V : Type} [BEq K] {ke : K → Value} {ve : V → Value} {t kt et : TypeId} {g : Nat} {m : List (K × V)} {k : K} {v' : V} (i : Nat) (ht : P.underlying t = some (.map kt et)) (hK : KeyOk P kt ke) (hg : E.w0.heap.size ≤ g) (hf : f0[i]? = some (.mp g (menc ke ve m))) (hoff : OffAll g (f0.eraseIdx i)) (hx : St.ev ⟨n0, t0, f0, b0, r0⟩ x = some (.map (some g))) (hy : St.ev ⟨n0, t0, f0, b0, r0⟩ y = some (ke k)) (hz : St.ev ⟨n0, t0, f0, b0, r0⟩ z = some (ve v')) :
    Op1 P E ⟨none, .mapUpdate t x y z, ty, pos, after, gd⟩ ⟨n0, t0, f0, b0, r0⟩ (· = ⟨n0, t0, f0.set i (.mp g (menc ke ve (mset m k v'))), b0, r0⟩) := by
  intro a w K' Q hi hk
  obtain ⟨_, o, _, h1, _, h3⟩ := hi.facts _ (List.mem_of_getElem? hf)
  obtain ⟨o', h4, h5⟩ := run_update_map (P := P) (w := w) ht hK h1 h3 k v'
  have hrun : (execOp a.eval ⟨none, .mapUpdate t x y z, ty, pos, after, gd⟩).run P w = .ok .skip (w.putObj g o') := by
    simp [execOp, hi.ev hx, hi.ev hy, hi.ev hz, h4]
  refine wo_skip hrun ?_
  exact hk _ _ _ rfl (hi.setMp i hg hf hoff h5)
theorem map_erase {α β : Type} (q : α → β) : ∀ (l : List α) (i : Nat), (l.eraseIdx i).map q = (l.map q).eraseIdx i
  | [], _ => rfl
  | _ :: _, 0 => rfl
  | x :: l, i + 1 => by simp [map_erase q l i]
theorem run_delete_map {K V : Type} [BEq K] {ke : K → Value} {ve : V → Value} {t kt et : TypeId} {g : Nat} {m : List (K × V)} {o : Obj} {ats : Array TypeId} (ha : ats[0]? = some t) (ht : P.underlying t = some (.map kt et)) (hK : KeyOk P kt ke) (h : w.heap[g]? = some o) (hm : isMp (menc ke ve m) o) (k : K) :
    ∃ o', (Builtin.delete_ ats ty #[.map (some g), ke k]).run P w = .ok (.tuple #[]) (w.putObj g o') ∧ isMp (menc ke ve (mdel m k)) o' := by
  obtain ⟨es, clock, rfl, h1, hst⟩ := hm
  obtain ⟨D, hD, hs, hc⟩ := hK.ty
  have hck := hc es.isEmpty 9999 k w
  rw [show 9999 + 1 = 10000 from rfl] at hck
  have e1 := run_underlying (w := w) ht
  have e2 := run_underlying (w := w) hD
  have e3 := run_getObj_map (P := P) h
  rcases findNow_mget (ve := ve) hs k es.toList m 0 h1 with ⟨h3, _, _, h4⟩ | ⟨j, e, e', h3, h4, h5, h6, _, _, h7⟩
  · refine ⟨.map es clock, ?_, _, _, rfl, ?_, hst⟩
    · simp [Builtin.delete_, ha, e1, e3, hck, Instr.findKey, e2, h3, run_setObj_map (P := P) h]
    · rw [h4]
      exact h1
  · rw [Nat.zero_add] at h6
    have hlt : j < es.size := by
      have := (List.getElem?_eq_some_iff.1 h3).1
      simpa using this
    have hl : (es.eraseIdxIfInBounds j).toList = es.toList.eraseIdx j := by
      rw [Array.eraseIdxIfInBounds, dif_pos hlt, Array.toList_eraseIdx]
    refine ⟨.map (es.eraseIdxIfInBounds j) clock, ?_, _, _, rfl, ?_, ?_, ?_⟩
    · simp [Builtin.delete_, ha, e1, e3, hck, Instr.findKey, e2, h6, run_setObj_map (P := P) h]
    · rw [h7, hl]
      unfold menc at h1 ⊢
      rw [map_erase, map_erase, h1]
    · rw [hl]
      exact hst.1.sublist (List.eraseIdx_sublist _ _)
    · intro a ha
      rw [hl] at ha
      exact hst.2 a ((List.eraseIdx_sublist _ _).subset ha)
theorem o_delete {K V : Type} [BEq K] {ke : K → Value} {ve : V → Value} {t kt et u' : TypeId} {g : Nat} {m : List (K × V)} {k : K} (i : Nat) (ht : P.underlying t = some (.map kt et)) (hK : KeyOk P kt ke) (hg : E.w0.heap.size ≤ g) (hf : f0[i]? = some (.mp g (menc ke ve m))) (hoff : OffAll g (f0.eraseIdx i)) (hx : St.ev ⟨n0, t0, f0, b0, r0⟩ x = some (.map (some g))) (hy : St.ev ⟨n0, t0, f0, b0, r0⟩ y = some (ke k)) :
    Op1 P E ⟨none, .call { callee := .builtin .delete, args := #[x, y], argTypes := #[t, u'] }, ty, pos, after, gd⟩ ⟨n0, t0, f0, b0, r0⟩ (· = ⟨n0, t0, f0.set i (.mp g (menc ke ve (mdel m k))), b0, r0⟩) := by
  intro a w K' Q hi hk
  obtain ⟨_, o, _, h1, _, h3⟩ := hi.facts _ (List.mem_of_getElem? hf)
  obtain ⟨o', h4, h5⟩ := run_delete_map (P := P) (w := w) (ty := ty) (ats := #[t, u']) rfl ht hK h1 h3 k
  have hrun : (execOp a.eval ⟨none, .call { callee := .builtin .delete, args := #[x, y], argTypes := #[t, u'] }, ty, pos, after, gd⟩).run P w = .ok (.value (.tuple #[])) (w.putObj g o') := by
    simp [execOp, resolve, invoke, builtin, hi.ev hx, hi.ev hy, h4]
  refine wo_value hrun ?_
  exact hk _ _ _ rfl (hi.setMp i hg hf hoff h5)
/-! ### a range over a map -/
theorem o_range {K V : Type} {ke : K → Value} {ve : V → Value} {t kt et : TypeId} {g : Nat} {m : List (K × V)} (i : Nat) (ht : P.underlying t = some (.map kt et)) (hf : f0[i]? = some (.mp g (menc ke ve m))) (hx : St.ev ⟨n0, t0, f0, b0, r0⟩ x = some (.map (some g))) (hn : d < n0 := by exact ltn rfl) :
    Op1 P E ⟨some d, .range t x, ty, pos, after, gd⟩ ⟨n0, t0, f0, b0, r0⟩ (fun s' => ∃ r, E.w0.heap.size ≤ r ∧ (∀ x ∈ f0, x.offB r) ∧ s' = ⟨n0, (d, .pointer (some ⟨r, 0, none⟩)) :: t0, .itr g r (menc ke ve m) none :: f0, b0, r0⟩) := by
  intro a w K' Q hi hk
  obtain ⟨hok, o, _, h1, _, es, clock, rfl, h3, hst⟩ := hi.facts _ (List.mem_of_getElem? hf)
  have e1 := run_underlying (w := w) ht
  have e3 := run_getObj_map (P := P) h1
  have hrun : (execOp a.eval ⟨some d, .range t x, ty, pos, after, gd⟩).run P w = .ok (.value (.pointer (some ⟨w.heap.size, 0, none⟩))) (w.alloc (.mapIter (some g) clock #[] clock)) := by
    simp [execOp, Instr.range, hi.ev hx, e1, e3, newObj]
    rfl
  refine wo_value hrun ?_
  obtain ⟨h5, h6⟩ := hi.newObj (ob := .mapIter (some g) clock #[] clock) (fun _ _ _ e => by cases e) (p := isIt g (menc ke ve m) none) (k := g) (ok' := .map es clock) (.inr hok.1) ⟨(heap_alloc_old w _ hok.1.2.1).trans h1, es, clock, #[], rfl, rfl, hst, by rw [List.filter_eq_self.2 (by intro a _; simp)]; exact h3, fun x e => by cases e⟩
  exact hk _ _ _ ⟨w.heap.size, hi.below.size, h6, rfl⟩ (h5.put hn _)
theorem filter_push {es : List MapEntry} {seen : Array Nat} {x : MapEntry} {l1 l2 : List MapEntry} (hp : es.Pairwise (fun a b => a.born ≠ b.born)) (h : es.filter (fun e => !seen.contains e.born) = l1 ++ x :: l2) : es.filter (fun e => !(seen.push x.born).contains e.born) = l1 ++ l2 := by
  have h2 : es.filter (fun e => !(seen.push x.born).contains e.born) = (es.filter (fun e => !seen.contains e.born)).filter (fun e => !(e.born == x.born)) := by
    rw [List.filter_filter]
    congr 1
    funext e
    simp only [Array.contains_push]
    cases seen.contains e.born <;> cases (e.born == x.born) <;> rfl
  rw [h2, h]
  have h3 : (l1 ++ x :: l2).Pairwise (fun a b => a.born ≠ b.born) := h ▸ hp.sublist List.filter_sublist
  rw [List.pairwise_append, List.pairwise_cons] at h3
  rw [List.filter_append, List.filter_cons_of_neg (by simp)]
  congr 1
  · rw [List.filter_eq_self]
    intro e he
    have := h3.2.2 e he x (by simp)
    simpa using this
  · rw [List.filter_eq_self]
    intro e he
    have := h3.2.1.1 e he
    simpa using fun q => this q.symm
theorem o_next {K V : Type} {ke : K → Value} {ve : V → Value} {g r : Nat} {left : List (K × V)} {last : Option (Value × Value)} (i : Nat) (hg : E.w0.heap.size ≤ r) (hf : f0[i]? = some (.itr g r (menc ke ve left) last)) (hgr : g ≠ r) (hoff : OffAll r (f0.eraseIdx i)) (hx : St.ev ⟨n0, t0, f0, b0, r0⟩ x = some (.pointer (some ⟨r, 0, none⟩))) (hn : d < n0 := by exact ltn rfl) :
    Op1 P E ⟨some d, .next x false, ty, pos, after, gd⟩ ⟨n0, t0, f0, b0, r0⟩ (fun s' => (left = [] ∧ s' = ⟨n0, (d, .tuple #[.bool false]) :: t0, f0, b0, r0⟩) ∨ ∃ y l1 l2, left = l1 ++ y :: l2 ∧ s' = ⟨n0, (d, .tuple #[.bool true, ke y.1, ve y.2]) :: t0, f0.set i (.itr g r (menc ke ve (l1 ++ l2)) (some (ke y.1, ve y.2))), b0, r0⟩) := by
  intro a w K' Q hi hk
  obtain ⟨hok, o, o', h1, h2, es, clock, seen, rfl, rfl, hst, hleft, hlast⟩ := hi.facts _ (List.mem_of_getElem? hf)
  have e3 := run_getObj_map (P := P) h1
  have e4 : (getObj r).run P w = .ok (.mapIter (some g) clock seen clock) w := by simp [getObj, Sem.run, h2]
  have e5 : ∀ (w2 : World) (ob : Obj), w2.heap[r]? = some (.mapIter (some g) clock seen clock) → (setObj r ob).run P w2 = .ok () (w2.putObj r ob) := fun w2 ob h => by simp [setObj, Sem.run, h, World.putObj]
  have hall : ∀ e ∈ es.toList, e.born < clock := hst.2
  have hguard : (!seen.isEmpty && !es.isEmpty && es.all (·.born ≥ clock)) = false := by
    cases he : es.isEmpty with
    | true => simp
    | false =>
      have : es.all (fun e => decide (e.born ≥ clock)) = false := by
        rw [Bool.eq_false_iff]
        intro h
        have hne : 0 < es.size := by
          rcases Nat.eq_zero_or_pos es.size with h0 | h0
          · have : es = #[] := Array.eq_empty_of_size_eq_zero h0
            rw [this] at he
            simp at he
          · exact h0
        have h4 := Array.all_eq_true.1 h 0 hne
        have h5 := hall es[0] (by rw [Array.mem_toList_iff]; exact Array.getElem_mem hne)
        simp at h4
        omega
      rw [this]
      simp
  obtain ⟨A, hA⟩ : ∃ A, A = es.filter (fun e => !seen.contains e.born) := ⟨_, rfl⟩
  have hAl : A.toList = es.toList.filter (fun e => !seen.contains e.born) := by rw [hA, Array.toList_filter]
  have hold : A.filter (fun e => decide (e.born < clock)) = A := by
    rw [Array.filter_eq_self]
    intro e he
    rw [hA, Array.mem_filter] at he
    exact decide_eq_true (hall e (Array.mem_toList_iff.2 he.1))
  have hnew : A.filter (fun e => decide (e.born ≥ clock)) = #[] := by
    rw [Array.filter_eq_empty_iff]
    intro e he
    rw [hA, Array.mem_filter] at he
    have := hall e (Array.mem_toList_iff.2 he.1)
    simp
    omega
  rw [← hAl] at hleft
  have hlen : A.size = left.length := by
    have := congrArg List.length hleft
    simpa [menc] using this
  rcases Nat.eq_zero_or_pos A.size with h0 | h0
  · have hA0 : A = #[] := Array.eq_empty_of_size_eq_zero h0
    have hl0 : left = [] := List.eq_nil_of_length_eq_zero (by omega)
    have hrun : (execOp a.eval ⟨some d, .next x false, ty, pos, after, gd⟩).run P w = .ok (.value (.tuple #[.bool false])) w := by
      have hold0 : (es.filter (fun e => !seen.contains e.born)).filter (fun e => decide (e.born < clock)) = #[] := by rw [← hA, hold, hA0]
      have hnew0 : (es.filter (fun e => !seen.contains e.born)).filter (fun e => decide (e.born ≥ clock)) = #[] := by rw [← hA, hnew]
      simp only [execOp, hi.ev hx, Instr.next, Sem.run_bind, e4, Result.andThen_ok, e3, hguard, Bool.false_eq_true, if_false, hold0, hnew0]
      simp [Question.forced]
    refine wo_value hrun ?_
    exact hk _ _ _ (.inl ⟨hl0, rfl⟩) (hi.put hn _)
  · obtain ⟨n, w2, hch, hnA, hw2⟩ : ∃ n w2, (choose (.mapNext A.size)).run P w = .ok n w2 ∧ n < A.size ∧ (w2 = w ∨ w2 = w.drew) := by
      rw [run_choose_drew]
      split
      · exact ⟨0, w, rfl, h0, .inl rfl⟩
      · exact ⟨_, w.drew, rfl, Nat.mod_lt _ h0, .inr rfl⟩
    have hi2 : Inv E ⟨n0, t0, f0, b0, r0⟩ a w2 := by
      rcases hw2 with rfl | rfl
      · exact hi
      · exact hi.drew
    have hh2 : w2.heap = w.heap := by
      rcases hw2 with rfl | rfl <;> rfl
    have hrun : (execOp a.eval ⟨some d, .next x false, ty, pos, after, gd⟩).run P w = .ok (.value (.tuple #[.bool true, A[n].key, A[n].val])) (w2.putObj r (.mapIter (some g) clock (seen.push A[n].born) clock)) := by
      have hold0 : (es.filter (fun e => !seen.contains e.born)).filter (fun e => decide (e.born < clock)) = A := by rw [← hA, hold]
      have hnew0 : (es.filter (fun e => !seen.contains e.born)).filter (fun e => decide (e.born ≥ clock)) = #[] := by rw [← hA, hnew]
      have hemp : A.isEmpty = false := by
        rw [Bool.eq_false_iff]
        intro h
        rw [Array.isEmpty_iff_size_eq_zero] at h
        omega
      have h7 : w2.heap[r]? = some (.mapIter (some g) clock seen clock) := by rw [hh2]; exact h2
      simp only [execOp, hi.ev hx, Instr.next, Sem.run_bind, e4, Result.andThen_ok, e3, hguard, Bool.false_eq_true, if_false, hold0, hnew0, hemp, Array.append_empty, Array.empty_append, Array.size_map, hch, Array.getElem?_map, Array.getElem?_eq_getElem hnA, Option.map_some, e5 w2 _ h7]
      simp
    refine wo_value hrun ?_
    have hnl : n < left.length := by omega
    have hpair : pairOf A[n] = (ke left[n].1, ve left[n].2) := by
      have := congrArg (fun z => z[n]?) hleft
      simp only [menc, List.getElem?_map, Array.getElem?_toList, Array.getElem?_eq_getElem hnA, List.getElem?_eq_getElem hnl, Option.map_some, Option.some.injEq] at this
      exact this
    have hsplit : left = left.take n ++ left[n] :: left.drop (n + 1) := by
      conv => lhs; rw [← List.take_append_drop n left, List.drop_eq_getElem_cons hnl]
    have hnA2 : n < A.toList.length := by simpa using hnA
    have hsplitA : es.toList.filter (fun e => !seen.contains e.born) = A.toList.take n ++ A[n] :: A.toList.drop (n + 1) := by
      rw [← hAl]
      conv => lhs; rw [← List.take_append_drop n A.toList, List.drop_eq_getElem_cons hnA2]
      rfl
    have hfp := filter_push hst.1 hsplitA
    have hmem : A[n] ∈ es.toList := by
      have : A[n] ∈ es.toList.filter (fun e => !seen.contains e.born) := by rw [hsplitA]; simp
      exact (List.mem_filter.1 this).1
    have hit : isIt g (menc ke ve (left.take n ++ left.drop (n + 1))) (some (ke left[n].1, ve left[n].2)) (.map es clock) (.mapIter (some g) clock (seen.push A[n].born) clock) := by
      refine ⟨es, clock, _, rfl, rfl, hst, ?_, fun p e => ?_⟩
      · rw [hfp]
        unfold menc at hleft ⊢
        rw [List.map_append, List.map_append, List.map_take, List.map_drop, hleft, List.map_take, List.map_drop]
      · obtain rfl := Option.some.inj e
        exact ⟨A[n], hmem, by simp, hpair⟩
    have h8 := Inv.turnM (s := ⟨n0, t0, f0, b0, r0⟩) (fs := f0.set i (.itr g r (menc ke ve (left.take n ++ left.drop (n + 1))) (some (ke left[n].1, ve left[n].2)))) (ob' := .mapIter (some g) clock (seen.push A[n].born) clock) hi2 hg (by rw [hh2]; exact h2) (fun _ _ _ e => by cases e) (fun y hy => by
      have hok2 : ok E ⟨n0, t0, f0, b0, r0⟩ w2 g ∧ ok E ⟨n0, t0, f0, b0, r0⟩ w2 r := by
        have h9 := hi2.facts _ (List.mem_of_getElem? hf)
        exact h9.1
      rcases mem_set hy with rfl | ⟨j, hj, hy⟩
      · exact .inr ⟨hok2, _, _, (World.putObj_heap_other hgr).trans (by rw [hh2]; exact h1), World.putObj_heap_same hok2.2.2.1, hit⟩
      · exact .inl ⟨List.mem_of_getElem? hy, hoff.all _ (mem_erase_of hy hj)⟩)
    have hkv := hpair
    unfold pairOf at hkv
    obtain ⟨hk1, hk2⟩ := Prod.mk.inj hkv
    rw [hk1, hk2]
    exact hk _ _ _ (.inr ⟨left[n], left.take n, left.drop (n + 1), hsplit, rfl⟩) (h8.put hn _)
theorem find_born {e : MapEntry} : ∀ (l : List MapEntry), l.Pairwise (fun a b => a.born ≠ b.born) → e ∈ l → l.find? (fun x => x.born == e.born) = some e
  | [], _, h => by cases h
  | x :: l, hp, h => by
    rw [List.pairwise_cons] at hp
    rcases List.mem_cons.1 h with rfl | h
    · simp
    · have := hp.1 e h
      rw [List.find?_cons_of_neg (by simpa using this)]
      exact find_born l hp.2 h
theorem op_entry {g r : Nat} {left : List (Value × Value)} {p : Value × Value} (i : Nat) (hf : s.f[i]? = some (.itr g r left (some p))) (hx : s.ev x = some (.pointer (some ⟨r, 0, none⟩))) (hn : d < s.n := by exact ltn rfl) :
    OpV P E ⟨some d, .entry x, ty, pos, after, gd⟩ s d (.tuple #[p.1, p.2]) :=
  ⟨rfl, hn, fun a w ha hm => by
    obtain ⟨_, o, o', h1, h2, es, clock, seen, rfl, rfl, hst, hleft, hlast⟩ := hm.facts _ (List.mem_of_getElem? hf)
    obtain ⟨e, he, hb, hp⟩ := hlast p rfl
    have e3 := run_getObj_map (P := P) h1
    have e4 : (getObj r).run P w = .ok (.mapIter (some g) clock seen clock) w := by simp [getObj, Sem.run, h2]
    have hfind : es.find? (·.born == e.born) = some e := by
      rw [← Array.find?_toList]
      exact find_born _ hst.1 he
    subst hp
    simp [execOp, ha x _ hx, Instr.entry, e4, hb, e3, hfind, pairOf]⟩
theorem VL.sM {α : Type} {A : α → Prop} {F : α → St} (h1 : Op1 P E o s (fun s' => ∃ g, A g ∧ s' = F g)) (hg : guardOn ops s o = some true) (h : ∀ g, A g → VL P E ops Q rest (F g)) : VL P E ops Q (o :: rest) s := VL.step h1 hg (by rintro _ ⟨g, hA, rfl⟩; exact h g hA)
theorem VL.newM {B C : Nat → Prop} {F : Nat → St} (h1 : Op1 P E o s (fun s' => ∃ g, B g ∧ C g ∧ s' = F g)) (hg : guardOn ops s o = some true) (h : ∀ g, B g → C g → VL P E ops Q rest (F g)) : VL P E ops Q (o :: rest) s := VL.step h1 hg (by rintro _ ⟨g, h2, h3, rfl⟩; exact h g h2 h3)
/-- The next one: there is none, or one of those that are left. -/
theorem VL.next {K V : Type} {ke : K → Value} {ve : V → Value} {g r : Nat} {left : List (K × V)} {last : Option (Value × Value)} (i : Nat) (hg : E.w0.heap.size ≤ r) (hf : f0[i]? = some (.itr g r (menc ke ve left) last)) (hgr : g ≠ r) (hoff : OffAll r (f0.eraseIdx i)) (hx : St.ev ⟨n0, t0, f0, b0, r0⟩ x = some (.pointer (some ⟨r, 0, none⟩))) (hn : d < n0) (hgd : guardOn ops ⟨n0, t0, f0, b0, r0⟩ ⟨some d, .next x false, ty, pos, after, gd⟩ = some true)
    (h1 : left = [] → VL P E ops Q rest ⟨n0, (d, .tuple #[.bool false]) :: t0, f0, b0, r0⟩)
    (h2 : ∀ (k : K) (v : V) (left2 : List (K × V)), left2.length + 1 = left.length → (k, v) ∈ left → (∀ z ∈ left2, z ∈ left) → VL P E ops Q rest ⟨n0, (d, .tuple #[.bool true, ke k, ve v]) :: t0, f0.set i (.itr g r (menc ke ve left2) (some (ke k, ve v))), b0, r0⟩) : VL P E ops Q (⟨some d, .next x false, ty, pos, after, gd⟩ :: rest) ⟨n0, t0, f0, b0, r0⟩ := by
  refine VL.step (o_next i hg hf hgr hoff hx hn) hgd ?_
  rintro _ (⟨h3, rfl⟩ | ⟨y, l1, l2, h3, rfl⟩)
  · exact h1 h3
  · obtain ⟨yk, yv⟩ := y
    refine h2 yk yv (l1 ++ l2) ?_ ?_ fun z hz => ?_
    · rw [h3]
      simp
      omega
    · rw [h3]
      simp
    · rw [h3]
      rcases List.mem_append.1 hz with hz | hz
      · exact List.mem_append_left _ hz
      · exact List.mem_append_right _ (List.mem_cons_of_mem _ hz)
/-- A loop over what is left of a map. -/
theorem VC.loopM {α β : Type} {c : Code} {s : St} (I : List α → Option β → St) (l0 : List α) (bs rs : List Nat) (hl : Le s (I l0 none) bs rs)
    (h : ∀ (n : Nat) (ih : ∀ left last, left.length + 1 ≤ n → (∀ z ∈ left, z ∈ l0) → VLp P E c Q n (I left last)) (left : List α) (last : Option β), left.length ≤ n → (∀ z ∈ left, z ∈ l0) → VC P E c (Exit.then (Code.roundsIn E.F 0 P c Q n) Q) (I left last)) : VC P E (.loop c) Q s := by
  have key : ∀ (n : Nat) left last, left.length ≤ n → (∀ z ∈ left, z ∈ l0) → VLp P E c Q (n + 1) (I left last) := by
    intro n
    induction n with
    | zero =>
      intro left last h1 h2
      exact VLp.succ (h 0 (fun _ _ h3 _ => by omega) left last h1 h2)
    | succ n ih =>
      intro left last h1 h2
      exact VLp.succ (h (n + 1) (fun left2 last2 h3 h4 => ih left2 last2 (by omega) h4) left last h1 h2)
  refine VC.loop (l0.length + 1) fun a w hi => ?_
  exact key l0.length l0 none (Nat.le_refl _) (fun _ hz => hz) a w (hi.le hl)
end
end Go.Proofs.YtipeglbeongfmaaV
