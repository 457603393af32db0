/- Cuts, structs built, elements written, texts; regions that draw their order; no condition of its own. -/
import Derived.Test.YtipeglbeongfmaaV4
namespace Go.Proofs.YtipeglbeongfmaaV
open Go Go.RowKit
set_option linter.unusedVariables false
set_option linter.unusedSimpArgs false

def bt (s : ByteArray) (i : Int) : Int := if h : i.toNat < s.size then ((s[i.toNat]'h).toNat : Int) else 0

section
variable {P : Program} {E : Env} {w w' : World} {s s' : St} {a : Act} {o : Oper} {ops : Array Oper} {rest : List Oper} {Q : Exit → Act → World → Prop} {d : Nat} {v u : Value} {x y z : Operand}
variable {ty : TypeId} {pos : String} {after : Array Edge} {gd : Option (Nat × Bool)}

theorem run_bound {k : IntKind} {i : Int} {m : Nat} {code : BoundsCode} (h0 : 0 ≤ i) (h1 : i ≤ m) : (Instr.sliceBound (.int k i) m code).run P w = .ok i.toNat w := by
  simp [Instr.sliceBound, asIntOf, h0, h1]

/-- The bounds of a cut: what is not told is the beginning, or the end. -/
theorem tN {a b : Int} {l h : Nat} (hl : a.toNat = l) (hh : b.toNat = h) (c : a ≤ b) : l ≤ h := by omega
def boundsOk (s : St) (lo hi : Option Operand) (l h n : Nat) : Prop :=
  (match lo with | some x => ∃ k i, s.ev x = some (.int k i) ∧ 0 ≤ i ∧ i.toNat = l | none => l = 0) ∧ (match hi with | some x => ∃ k i, s.ev x = some (.int k i) ∧ 0 ≤ i ∧ i.toNat = h | none => h = n) ∧ l ≤ h ∧ h ≤ n
theorem run_bounds {ρ : Operand → Value} {lo hi : Option Operand} {l h n c : Nat} {b : Bool} (hb : boundsOk s lo hi l h n) (hρ : ∀ x u, s.ev x = some u → ρ x = u) (hc : n ≤ c) : (Instr.sliceBounds b n c (lo.map ρ) (hi.map ρ) none).run P w = .ok (l, h, c) w := by
  obtain ⟨h1, h2, h3, h4⟩ := hb
  unfold Instr.sliceBounds
  cases hi with
  | none =>
    subst h2
    cases lo with
    | none => subst h1; simp
    | some x =>
      obtain ⟨k, i, e, h0, rfl⟩ := h1
      have := run_bound (P := P) (w := w) (k := k) (i := i) (m := h) (code := .sliceB) h0 (by omega)
      simp [hρ x _ e, this]
  | some y =>
    obtain ⟨k, i, e, h0, rfl⟩ := h2
    have hy := fun code => run_bound (P := P) (w := w) (k := k) (i := i) (m := c) (code := code) h0 (by omega)
    cases lo with
    | none => subst h1; simp [hρ y _ e, hy]
    | some x =>
      obtain ⟨k2, i2, e2, h02, rfl⟩ := h1
      have := run_bound (P := P) (w := w) (k := k2) (i := i2) (m := i.toNat) (code := .sliceB) h02 (by omega)
      simp [hρ y _ e, hy, hρ x _ e2, this]

theorem op_sliceS {t : TypeId} {b q : ByteArray} {lo hi : Option Operand} (l h : Nat) (ht : P.underlying t = some .string) (hx : s.ev x = some (.string b)) (hb : boundsOk s lo hi l h b.size) (hq : b.extract l h = q) (hn : d < s.n := by exact ltn rfl) :
    OpV P E ⟨some d, .slice t x lo hi none, ty, pos, after, gd⟩ s d (.string q) :=
  op_val rfl hn (fun a ha w => by
    subst hq
    have := run_bounds (P := P) (w := w) (b := false) hb ha (Nat.le_refl _)
    simp [execOp, ha x _ hx, Instr.sliceAt, Instr.slice, run_underlying ht, this])
theorem op_indexS {t : TypeId} {b : ByteArray} {k : IntKind} {j q : Int} (ht : P.underlying t = some .string) (hx : s.ev x = some (.string b)) (hy : s.ev y = some (.int k j)) (h0 : 0 ≤ j) (h1 : j < (b.size : Int)) (hq : bt b j = q) (hn : d < s.n := by exact ltn rfl) :
    OpV P E ⟨some d, .index t x y, ty, pos, after, gd⟩ s d (.int .u8 q) :=
  op_val rfl hn (fun a ha w => by
    subst hq
    have hlt : j.toNat < b.size := by omega
    have e : b[j.toNat]? = some (b[j.toNat]'hlt) := by simp [hlt]
    simp [execOp, ha x _ hx, ha y _ hy, Instr.index, asIntOf, run_underlying ht, h0, e, bt, hlt])

/-- A part of a row that is only read. -/
theorem op_slice {t e sz m : Nat} {agg : Bool} {es es3 : List (List Value)} {lo hi : Option Operand} (i l h : Nat) (hm : es.length = m) (h3 : (es.take h).drop l = es3) (ht : P.underlying t = some (.slice e)) (hT : TI P e agg sz) (hx : s.ev x = some v) (hf : s.f[i]? = some (.row v sz es)) (hb : boundsOk s lo hi l h m) (hn : d < s.n := by exact ltn rfl) :
    Op1 P E ⟨some d, .slice t x lo hi none, ty, pos, after, gd⟩ s (fun s' => ∃ v', s' = St.put { s with f := .row v' sz es3 :: s.f } d v') := by
  subst h3
  subst hm
  intro a w K Q hi hk
  have hb' := hb
  obtain ⟨_, _, hlh, hhn⟩ := hb
  obtain ⟨hfl, A, c, rfl, h1, h2, h3, h4⟩ := hi.facts _ (List.mem_of_getElem? hf)
  have hrun := run_bounds (P := P) (w := w) (b := true) hb' (fun x u hx => hi.ev hx) h1
  have hu : ∀ n m, TypeDesc.slice e ≠ .array n m := by intro n m; simp
  have : (execOp a.eval ⟨some d, .slice t x lo ‹_› none, ty, pos, after, gd⟩).run P w = .ok (.value (.slice (if c = l then A else A.map (·.add (l * sz))) (h - l) (c - l))) w := by
    simp [execOp, hi.ev hx, Instr.sliceAt, Instr.slice, run_underlying ht, hrun, run_size hT w]
  refine wo_value this ?_
  refine hk _ _ _ ⟨_, rfl⟩ (Inv.put ?_ (by exact hn) _)
  refine hi.mem rfl rfl hi.below (fun k hk => ⟨hk, rfl⟩) (fun x hx => ?_) (fun x hx => .inl ⟨hx, rfl⟩) (fun x hx => .inl ⟨hx, fun _ _ => rfl⟩) hi.nodup
  rcases List.mem_cons.1 hx with rfl | hx
  · right
    have hlen : ((es.take h).drop l).length = h - l := by simp; omega
    refine ⟨fun ls hls => hfl ls (List.mem_of_mem_take (List.mem_of_mem_drop hls)), _, _, by rw [hlen], by omega, by omega, fun hp => ?_, fun j ls hj ad hA q u hu => ?_⟩
    · obtain ⟨ad, rfl, hok⟩ := h3 (by omega)
      have hne : c ≠ l := by omega
      rw [if_neg hne]
      refine ⟨_, rfl, ?_⟩
      have hb : (ad.add (l * sz)).block = ad.block := by unfold Addr.add; split <;> rfl
      exact hb ▸ hok
    · have hjl := (List.getElem?_eq_some_iff.1 hj).1
      have hne : c ≠ l := by omega
      rw [if_neg hne] at hA
      obtain ⟨ad0, rfl, rfl⟩ := Option.map_eq_some_iff.1 hA
      rw [List.getElem?_drop, List.getElem?_take] at hj
      split at hj
      · rw [add_add]
        have := h4 _ _ hj ad0 rfl q u hu
        rw [Nat.add_mul, Nat.add_assoc] at this
        exact this
      · cases hj
  · exact .inl hx

/-- A row cut to its own length, and to no more room: 'l[:len(l):len(l)]'. -/
theorem op_clip {t e sz m : Nat} {agg : Bool} {es : List (List Value)} {k1 k2 : IntKind} (i : Nat) (hm : es.length = m) (ht : P.underlying t = some (.slice e)) (hT : TI P e agg sz) (hx : s.ev x = some v) (hf : s.f[i]? = some (.row v sz es)) (hy : s.ev y = some (.int k1 m)) (hz : s.ev z = some (.int k2 m)) (hn : d < s.n := by exact ltn rfl) :
    Op1 P E ⟨some d, .slice t x none (some y) (some z), ty, pos, after, gd⟩ s (fun s' => ∃ A, s' = St.put { s with f := .row (.slice A m m) sz es :: s.f } d (.slice A m m)) := by
  subst hm
  intro a w K Q hi hk
  obtain ⟨hfl, A, c, rfl, h1, h2, h3, h4⟩ := hi.facts _ (List.mem_of_getElem? hf)
  have hb1 := fun code => run_bound (P := P) (w := w) (k := k2) (i := (es.length : Int)) (m := c) (code := code) (by omega) (by omega)
  have hb2 := fun code => run_bound (P := P) (w := w) (k := k1) (i := (es.length : Int)) (m := es.length) (code := code) (by omega) (by omega)
  have : (execOp a.eval ⟨some d, .slice t x none (some y) (some z), ty, pos, after, gd⟩).run P w = .ok (.value (.slice A es.length es.length)) w := by
    simp only [Int.toNat_natCast] at hb1 hb2
    simp [execOp, hi.ev hx, hi.ev hy, hi.ev hz, Instr.sliceAt, Instr.slice, Instr.sliceBounds, run_underlying ht, hb1, hb2, run_size hT w]
    intro _
    cases A <;> rfl
  refine wo_value this ?_
  refine hk _ _ _ ⟨A, rfl⟩ (Inv.put ?_ (by exact hn) _)
  refine hi.mem rfl rfl hi.below (fun k hk => ⟨hk, rfl⟩) (fun x hx => ?_) (fun x hx => .inl ⟨hx, rfl⟩) (fun x hx => .inl ⟨hx, fun _ _ => rfl⟩) hi.nodup
  rcases List.mem_cons.1 hx with rfl | hx
  · exact .inr ⟨hfl, A, es.length, rfl, Nat.le_refl _, by omega, h3, h4⟩
  · exact .inl hx

inductive Each {α β : Type} (R : α → β → Prop) : List α → List β → Prop where
  | nil : Each R [] []
  | cons {x : α} {y : β} {xs : List α} {ys : List β} (h : R x y) (k : Each R xs ys) : Each R (x :: xs) (y :: ys)
/-- Where a struct's fields lie. -/
structure SI (P : Program) (t : TypeId) (z : List Value) (pl : List (Nat × Nat)) : Prop where
  si : ∃ fs : List Field, P.underlying t = some (.struct fs.toArray) ∧ Each (fun f p => f.offset = p.1 ∧ ∃ agg, TI P f.type agg p.2) fs pl
  zero : (P.info? t).bind (·.zero) = some (.agg z.toArray)
theorem run_places {fs : List Field} {pl : List (Nat × Nat)} (h : Each (fun f p => f.offset = p.1 ∧ ∃ agg, TI P f.type agg p.2) fs pl) : (fs.mapM (fun f => do pure (f.offset, ← sizeOf f.type) : Field → Sem (Nat × Nat))).run P w = .ok pl w := by
  induction h with
  | nil => simp
  | @cons f p fs ps h k ih =>
    obtain ⟨h1, agg, h2⟩ := h
    simp only [List.mapM_cons, Sem.run_bind, run_size h2 w, Result.andThen_ok, Sem.run_pure, ih, h1]
theorem foldl_upd : ∀ (us : List Value) (off j : Nat) (cs : Array Value), off + j + us.length ≤ cs.size → (us.zipIdx j).foldl (fun cs (p : Value × Nat) => cs.setIfInBounds (off + p.2) p.1) cs = (upd cs.toList (off + j) us).toArray
  | [], off, j, cs, _ => by simp [upd]
  | u :: us, off, j, cs, h => by
    simp only [List.length_cons] at h
    rw [List.zipIdx_cons, List.foldl_cons, foldl_upd us off (j + 1) _ (by simp; omega)]
    congr 1
    apply List.ext_getElem?
    intro q
    simp only [upd, Array.toList_setIfInBounds, List.getElem?_append, List.getElem?_take, List.getElem?_drop, List.getElem?_set, List.length_append, List.length_take, List.length_set, List.length_cons, Array.length_toList]
    grind
def fillL (place : Nat → Option (Nat × Nat)) (cells : List Value) : List (Nat × List Value) → Option (List Value)
  | [] => some cells
  | (i, us) :: rest =>
    match place i with
    | none => none
    | some (off, size) => if us.length = size ∧ off + us.length ≤ cells.length then fillL place (upd cells off us) rest else none
theorem fill_eq {place : Nat → Option (Nat × Nat)} : ∀ {vals : List (Nat × Value)} {vcs : List (Nat × List Value)} {cells out : List Value}, Each (fun p q => p.1 = q.1 ∧ p.2.cells.toList = q.2) vals vcs → fillL place cells vcs = some out → Instr.fill place cells.toArray vals = some out.toArray
  | [], [], cells, out, _, h => by
    simp only [fillL, Option.some.injEq] at h
    subst h
    rfl
  | (i, v) :: vals, (_, _) :: vcs, cells, out, .cons ⟨rfl, rfl⟩ k, h => by
    simp only [fillL] at h
    unfold Instr.fill
    cases hp : place i with
    | none => rw [hp] at h; cases h
    | some q =>
      obtain ⟨off, size⟩ := q
      rw [hp] at h
      simp only at h ⊢
      split at h
      · rename_i hc
        rw [Array.length_toList] at hc
        have e : (v.cells.size ≠ size || decide (off + v.cells.size > cells.toArray.size)) = false := by
          simp only [List.size_toArray]
          simp
          omega
        rw [e]
        simp only [Bool.false_eq_true, if_false]
        have e2 : v.cells.zipIdx.foldl (fun cs (x : Value × Nat) => match x with | (c, j) => cs.setIfInBounds (off + j) c) cells.toArray = (upd cells off v.cells.toList).toArray := by
          rw [← Array.foldl_toList, Array.toList_zipIdx]
          exact foldl_upd v.cells.toList off 0 cells.toArray (by simp; omega)
        rw [e2]
        exact fill_eq k h
      · cases h
theorem op_build {t : TypeId} {zs : List Value} {pl : List (Nat × Nat)} {parts : List (Nat × Operand)} {vals : List (Nat × Value)} {vcs : List (Nat × List Value)} {cells : List Value} (hS : SI P t zs pl)
    (hp : parts.map (fun p => (s.ev p.2).map (p.1, ·)) = vals.map some) (hcs : Each (fun p q => p.1 = q.1 ∧ Cells s p.2 q.2) vals vcs) (hf : fillL (fun i => pl.toArray[i]?) zs vcs = some cells) (hn : d < s.n := by exact ltn rfl) :
    OpV P E ⟨some d, .build t parts.toArray, ty, pos, after, gd⟩ s d (.agg cells.toArray) :=
  ⟨rfl, hn, fun a w ha hm => by
    have hff : Instr.fill (fun i => pl.toArray[i]?) zs.toArray vals = some cells.toArray := by
      refine fill_eq ?_ hf
      clear hf hp
      induction hcs with
      | nil => exact .nil
      | cons h k ih => exact .cons ⟨h.1, (h.2.all hm).1⟩ ih
    obtain ⟨fs, h1, h3⟩ := hS.si
    have h2 := hS.zero
    have hpp : (parts.toArray.map fun (i, x) => (i, a.eval x)).toList = vals := by
      simp only [List.map_toArray]
      clear hf hcs hff
      induction parts generalizing vals with
      | nil => cases vals <;> simp_all
      | cons p ps ih =>
        cases vals with
        | nil => simp at hp
        | cons q qs =>
          simp only [List.map_cons, List.cons.injEq] at hp ⊢
          refine ⟨?_, ih hp.2⟩
          obtain ⟨u, hu, hq⟩ := Option.map_eq_some_iff.1 hp.1
          rw [← hq, ha _ _ hu]
    have hzv : (zeroValue t).run P w = .ok (.agg zs.toArray) w := by
      cases hq : P.info? t with
      | none => rw [hq] at h2; cases h2
      | some i =>
        rw [hq] at h2
        have : i.zero = some (.agg zs.toArray) := by simpa using h2
        simp [zeroValue, typeInfo, hq, this]
    have h4 := run_places (P := P) (w := w) h3
    simp only [execOp, Instr.build, Sem.run_bind, hzv, Result.andThen_ok, run_underlying h1, hpp, Value.cells, List.mapM_toArray, Sem.run_map]
    rw [h4]
    simp only [Result.andThen_ok]
    rw [hff]
    rfl⟩

theorem take_upd {F vs : List Value} {q N : Nat} (h1 : q + vs.length ≤ N) (h2 : N ≤ F.length) : (F.take q ++ vs ++ F.drop (q + vs.length)).take N = (F.take N).take q ++ vs ++ (F.take N).drop (q + vs.length) := by
  apply List.ext_getElem?
  intro i
  simp only [List.getElem?_take, List.getElem?_append, List.getElem?_drop, List.length_append, List.length_take]
  grind
theorem flat_set {sz : Nat} : ∀ {es : List (List Value)} {j : Nat} {ls ls' : List Value}, flatOk sz es → es[j]? = some ls → ls'.length = sz → (es.set j ls').flatten = es.flatten.take (j * sz) ++ ls' ++ es.flatten.drop (j * sz + sz)
  | [], j, ls, ls', _, h, _ => by simp at h
  | e :: es, 0, ls, ls', hf, h, hl => by
    have he := (hf e (by simp)).1
    simp [← he]
  | e :: es, j + 1, ls, ls', hf, h, hl => by
    have he := (hf e (by simp)).1
    have ih := flat_set (sz := sz) (es := es) (j := j) (ls := ls) (ls' := ls') (fun x hx => hf x (by simp [hx])) (by simpa using h) hl
    simp only [List.set_cons_succ, List.flatten_cons, ih]
    have e1 : (j + 1) * sz = e.length + j * sz := by rw [he, Nat.add_mul]; omega
    rw [e1, Nat.add_assoc, List.take_length_add_append, List.drop_length_add_append]
    simp only [List.append_assoc]

/-- An element, or a part of one, of a row of the call's own is written. -/
theorem op_store_own {t : TypeId} {g cap e sz o m : Nat} {es es3 : List (List Value)} {ls us : List Value} {agg : Bool} (i j k : Nat) (hm : es.length = m) (h3 : es.set j (upd ls o us) = es3) (hx : s.ev x = some (.pointer (some ⟨g, j * sz + o, none⟩))) (hv : s.ev y = some v) (hr : s.r[i]? = some (.slice (some ⟨g, 0, none⟩) m cap, e, sz, es)) (hj : es[j]? = some ls) (hT : TI P t agg k) (hc : Cells s v us) (hk : us.length = k) (ho : o + k ≤ sz) :
    Op1 P E ⟨none, .store t x y, ty, pos, after, gd⟩ s (· = { s with r := s.r.set i (.slice (some ⟨g, 0, none⟩) m cap, e, sz, es3) }) := by
  subst h3
  subst hm
  intro a w K Q hi hK
  obtain ⟨rfl, hone⟩ := hc.all hi.toMem
  have hrow := hi.rows _ (List.mem_of_getElem? hr)
  obtain ⟨hfl, hlen, hown⟩ := hrow
  rcases hown with ⟨e0, _⟩ | ⟨g', cap', cur, e0, hbase, hheap, hc1, hc2, hc3, hc4⟩
  · cases e0
  · simp only [Value.slice.injEq, Option.some.injEq, Addr.mk.injEq, and_true, true_and] at e0
    obtain ⟨rfl, rfl⟩ := e0
    simp only at hlen hbase hheap hc1 hc3 hc4
    have hjl := (List.getElem?_eq_some_iff.1 hj).1
    have hls : ls.length = sz ∧ ∀ u ∈ ls, u.oneCell' = true := hfl ls (List.mem_of_getElem? hj)
    have hls0 := hls.1
    have hq : j * sz + sz ≤ es.length * sz := by
      have : (j + 1) * sz ≤ es.length * sz := Nat.mul_le_mul_right _ hjl
      rw [Nat.add_mul] at this
      omega
    have hcap : es.length * sz ≤ cap * sz := Nat.mul_le_mul_right _ hc1
    have hst := run_storeCells_at (P := P) g (j * sz + o) e v.cells.toList 0 cur w hheap (by omega) hone
    simp only [Nat.add_zero] at hst
    have hsz : v.cells.size = k := by rw [← hk, Array.length_toList]
    have : (execOp a.eval ⟨none, .store t x y, ty, pos, after, gd⟩).run P w = .ok .skip (w.setRow g (cur.toList.take (j * sz + o) ++ v.cells.toList ++ cur.toList.drop (j * sz + o + v.cells.toList.length)).toArray) := by
      simp only [execOp, hi.ev hx, hi.ev hv, Instr.storeAt, Instr.sureAddr, storeVar]
      simp [run_size hT w, hsz, hst]
    refine wo_skip this ?_
    have hul : (upd ls o v.cells.toList).length = sz := by
      simp only [upd, List.length_append, List.length_take, List.length_drop, hls.1, hk]
      omega
    have hflat : (es.set j (upd ls o v.cells.toList)).flatten = es.flatten.take (j * sz + o) ++ v.cells.toList ++ es.flatten.drop (j * sz + o + v.cells.toList.length) := by
      rw [flat_set hfl hj hul]
      have hseg : (es.flatten.drop (j * sz)).take sz = ls := by
        apply List.ext_getElem?
        intro q
        rw [List.getElem?_take, List.getElem?_drop]
        split
        · rename_i hlt
          have : ls[q]? = some (ls[q]'(by omega)) := List.getElem?_eq_getElem (by omega)
          rw [this]
          exact Lent.holds.flat_get hfl hj this
        · rw [List.getElem?_eq_none (by omega)]
      have e1 : es.flatten.take (j * sz + o) = es.flatten.take (j * sz) ++ ls.take o := by
        rw [List.take_add, ← hseg, List.take_take]
        congr 2
        omega
      have e2 : es.flatten.drop (j * sz + o + v.cells.toList.length) = ls.drop (o + v.cells.toList.length) ++ es.flatten.drop (j * sz + sz) := by
        rw [← hseg, List.drop_take]
        apply List.ext_getElem?
        intro q
        simp only [List.getElem?_drop, List.getElem?_append, List.getElem?_take, List.length_take, List.length_drop]
        have : es.flatten.length = es.length * sz := flat_len hfl
        grind
      rw [e1, e2]
      simp only [upd, List.append_assoc]
    refine hK _ _ _ rfl (hi.rowSet i hr ⟨rfl, rfl, rfl, by simp [World.setRow], fun q _ hne => setRow_other w g q _ (fun e => hne (by rw [e]; rfl))⟩ ⟨?_, ?_, .inr ⟨g, cap, _, ?_, hbase, setRow_heap w g cur _ e _ hheap, ?_, hc2, ?_, ?_⟩⟩ (fun b hb => .inl hb))
    · intro l hl
      rcases List.mem_or_eq_of_mem_set hl with h | h
      · exact hfl l h
      · subst h
        refine ⟨hul, fun u hu => ?_⟩
        simp only [upd, List.mem_append] at hu
        rcases hu with (hu | hu) | hu
        · exact hls.2 u (List.mem_of_mem_take hu)
        · exact hone u hu
        · exact hls.2 u (List.mem_of_mem_drop hu)
    · rw [List.length_set, hflat]
      simp only [List.length_append, List.length_take, List.length_drop, hlen, hk]
      omega
    · simp
    · simpa using hc1
    · simp only [List.size_toArray, List.length_append, List.length_take, List.length_drop, Array.length_toList, hc3, hk]
      omega
    · have h9 : cur.toList.length = cap * sz := by rw [Array.length_toList, hc3]
      simp only [List.length_set]
      rw [take_upd (by rw [hk]; omega) (Nat.le_trans hcap (Nat.le_of_eq h9.symm)), hc4, hflat]

/-! ### regions that draw their order -/
def SubB (s : St) : List (Nat × TypeId × List Value) → Prop
  | [] => True
  | x :: l => (∃ i : Nat, s.b[i]? = some x) ∧ SubB s l
def SubR (s : St) : List ORow → Prop
  | [] => True
  | x :: l => (∃ i : Nat, s.r[i]? = some x) ∧ SubR s l
theorem SubB.mem : ∀ {l : List (Nat × TypeId × List Value)}, SubB s l → ∀ x ∈ l, x ∈ s.b
  | [], _, x, h => by cases h
  | y :: l, hs, x, h => by
    rcases List.mem_cons.1 h with rfl | h
    · obtain ⟨i, hi⟩ := hs.1
      exact List.mem_of_getElem? hi
    · exact SubB.mem hs.2 x h
theorem SubR.mem : ∀ {l : List ORow}, SubR s l → ∀ x ∈ l, x ∈ s.r
  | [], _, x, h => by cases h
  | y :: l, hs, x, h => by
    rcases List.mem_cons.1 h with rfl | h
    · obtain ⟨i, hi⟩ := hs.1
      exact List.mem_of_getElem? hi
    · exact SubR.mem hs.2 x h
/-- The part of the memory that a region only reads. -/
structure Part (s sS : St) : Prop where
  f : SubF s sS.f
  b : SubB s sS.b
  r : SubR s sS.r
theorem Part.mem {sS : St} (h : Part s sS) (hm : Mem E s w) : Mem E sS w := ⟨fun x hx => hm.facts x (h.f.mem x hx), fun x hx => hm.boxes x (h.b.mem x hx), fun x hx => hm.rows x (h.r.mem x hx)⟩

def VA (P : Program) (E : Env) (ops : Array Oper) (Q : Exit → Act → World → Prop) (sS : St) (n : Nat) (listed : Array Bool) (s : St) : Prop := ∀ a w, Inv E s a w → wpAnyH P .any ops Q (Mem E sS) n listed a w
theorem VC.draw {id : Nat} {l : List Oper} {n : Nat} {listed : Array Bool} (sS : St) (hm : P.follows .mixedOrders = true) (hn : l.toArray.size = n) (hl : Array.replicate n false = listed) (h : VA P E l.toArray Q sS n listed s) (hW : E.R = none := by first | assumption | rfl) : VC P E (.region id l.toArray true) Q s := by
  intro a w hi
  rw [Env.F_wide hW]
  refine wpIn_wide.2 ?_
  refine wp_region_held (S := Mem E sS) hm ?_
  rw [hn, hl]
  exact h a _ hi.drew
/-- What yields a value is taken first. -/
theorem VA.take {sS : St} {n i : Nat} {listed listed' : Array Bool} {o : Oper} (ho : ops[i]? = some o) (hv : OpV P E o { sS with t := s.t, n := s.n } d v) (hg : guardOn ops s o = some true) (hs : Region.noSelect ops = true) (hf : Region.free .any ops listed i = true) (hr : (Region.ready .any ops listed).contains i = true) (hl : listed.setIfInBounds i true = listed') (hp : Part s sS)
    (hQ : ∀ c a w, Q (.panic c) (a.put (some d) v) w → Q (.panic c) a w) (h : VA P E ops Q sS n listed' (s.put d v)) : VA P E ops Q sS (n + 1) listed s := by
  intro a w hi
  refine wpAnyH_take (v := v) ho hs hf hr (by rw [hv.dst]; exact hQ) (.inl ⟨guardOn_wanted hi hg, fun w' hw' => hv.run a w' (fun x u hx => hi.ev (by cases x <;> exact hx)) ⟨hw'.facts, hw'.boxes, hw'.rows⟩⟩) (hp.mem hi.toMem) ?_
  rw [hl, hv.dst]
  exact h _ _ (hi.put hv.lt v)
/-- What is not carried out is taken first. -/
theorem VA.skip {sS : St} {n i : Nat} {listed listed' : Array Bool} {o : Oper} (ho : ops[i]? = some o) (hg : guardOn ops s o = some false) (hd : ∀ d, o.dst = some d → s.t.lookup d = none) (hs : Region.noSelect ops = true) (hf : Region.free .any ops listed i = true) (hr : (Region.ready .any ops listed).contains i = true) (hl : listed.setIfInBounds i true = listed') (hp : Part s sS)
    (hQ : ∀ c a w, Q (.panic c) (a.put o.dst undef) w → Q (.panic c) a w) (h : VA P E ops Q sS n listed' s) : VA P E ops Q sS (n + 1) listed s := by
  intro a w hi
  refine wpAnyH_take (v := undef) ho hs hf hr hQ (.inr ⟨guardOn_wanted hi hg, rfl⟩) (hp.mem hi.toMem) ?_
  rw [hl]
  exact h _ _ (hi.undef hd)
theorem VA.skipU {sS : St} {n i d : Nat} {listed listed' : Array Bool} {o : Oper} (ho : ops[i]? = some o) (hd : o.dst = some d) (hg : guardOn ops s o = some false) (hlt : d < s.n) (hs : Region.noSelect ops = true) (hf : Region.free .any ops listed i = true) (hr : (Region.ready .any ops listed).contains i = true) (hl : listed.setIfInBounds i true = listed') (hp : Part s sS)
    (hQ : ∀ c a w, Q (.panic c) (a.put (some d) undef) w → Q (.panic c) a w) (h : VA P E ops Q sS n listed' (s.put d undef)) : VA P E ops Q sS (n + 1) listed s := by
  intro a w hi
  refine wpAnyH_take (v := undef) ho hs hf hr (by rw [hd]; exact hQ) (.inr ⟨guardOn_wanted hi hg, rfl⟩) (hp.mem hi.toMem) ?_
  rw [hl, hd]
  exact h _ _ (hi.put hlt undef)
theorem wpAnyH_more {S S' : World → Prop} (h : ∀ w, S' w → S w) : ∀ (n : Nat) (listed : Array Bool) (a : Act) (w : World), wpAnyH P .any ops Q S' n listed a w → wpAnyH P .any ops Q S n listed a w
  | 0, _, _, _, k => k
  | n + 1, _, _, _, k => ⟨k.1, fun i hi => wpOp_mono (fun a' w' h' => ⟨h _ h'.1, wpAnyH_more h n _ a' w' h'.2⟩) (k.2 i hi)⟩
/-- What the region only reads from here on may be more. -/
theorem VA.more {sS : St} (sS' : St) {n : Nat} {listed : Array Bool} (hp : Part sS' sS) (h : VA P E ops Q sS' n listed s) : VA P E ops Q sS n listed s := fun a w hi => wpAnyH_more (fun _ hm => hp.mem hm) n listed a w (h a w hi)
/-- Whichever comes up. -/
def VAll (P : Program) (E : Env) (ops : Array Oper) (Q : Exit → Act → World → Prop) (sS : St) (n : Nat) (listed : Array Bool) (s : St) : List Nat → Prop
  | [] => True
  | i :: is => (∀ a w, Inv E s a w → wpOp P ops Q i (fun a' w' => Mem E sS w' ∧ wpAnyH P .any ops Q (Mem E sS) n (listed.setIfInBounds i true) a' w') a w) ∧ VAll P E ops Q sS n listed s is
theorem VAll.at {sS : St} {n : Nat} {listed : Array Bool} : ∀ {is : List Nat}, VAll P E ops Q sS n listed s is → ∀ i ∈ is, ∀ a w, Inv E s a w → wpOp P ops Q i (fun a' w' => Mem E sS w' ∧ wpAnyH P .any ops Q (Mem E sS) n (listed.setIfInBounds i true) a' w') a w
  | [], _, i, hi => by cases hi
  | j :: is, h, i, hi => by
    rcases List.mem_cons.1 hi with rfl | hi
    · exact h.1
    · exact VAll.at h.2 i hi
theorem VA.all {sS : St} {n : Nat} {listed : Array Bool} (rs : List Nat) (hr : Region.ready .any ops listed = rs) (hne : rs ≠ []) (h : VAll P E ops Q sS n listed s rs) : VA P E ops Q sS (n + 1) listed s :=
  fun a w hi => wpAnyH_all hr hne fun i hm => h.at i hm a w hi
theorem VAll.nil {sS : St} {n : Nat} {listed : Array Bool} : VAll P E ops Q sS n listed s [] := trivial
theorem VAll.cons {sS : St} {n i : Nat} {is : List Nat} {listed listed' : Array Bool} {R : St → Prop} {o : Oper} (ho : ops[i]? = some o) (h1 : Op1 P E o s R) (hg : guardOn ops s o = some true) (hl : listed.setIfInBounds i true = listed') (h : ∀ s', R s' → Part s' sS ∧ VA P E ops Q sS n listed' s') (k : VAll P E ops Q sS n listed s is) : VAll P E ops Q sS n listed s (i :: is) := by
  refine ⟨fun a w hi => ?_, k⟩
  unfold wpOp
  simp only [ho]
  rw [if_pos (guardOn_wanted hi hg)]
  refine .inl (h1 a w _ Q hi fun s' a' w' hr hi' => ?_).2
  obtain ⟨hp, hv⟩ := h s' hr
  rw [hl]
  exact ⟨hp.mem hi'.toMem, hv a' w' hi'⟩
theorem VA.done {sS : St} {n : Nat} {listed : Array Bool} (hr : Region.ready .any ops listed = []) (h : VN E Q s) : VA P E ops Q sS n listed s := fun a w hi => wpAnyH_done hr (h a w hi) n
theorem VA.less {sS : St} {n : Nat} {listed : Array Bool} {s' : St} (h : ∀ a w, Inv E s a w → Inv E s' a w) (k : VA P E ops Q sS n listed s') : VA P E ops Q sS n listed s := fun a w hi => k a w (h a w hi)
theorem VC.less {c : Code} {s' : St} (bs rs : List Nat) (hn : s'.n = s.n) (ht : SubT s s'.t) (hf : SubF s s'.f) (hb : s'.b.map some = pick s.b bs) (hbn : bs.Nodup) (hr : s'.r.map some = pick s.r rs) (hrn : rs.Nodup) (h : VC P E c Q s') : VC P E c Q s := fun a w hi => h a w (hi.less bs rs hn ht hf hb hbn hr hrn)
theorem VLp.less {c : Code} {s' : St} {n : Nat} (bs rs : List Nat) (hn : s'.n = s.n) (ht : SubT s s'.t) (hf : SubF s s'.f) (hb : s'.b.map some = pick s.b bs) (hbn : bs.Nodup) (hr : s'.r.map some = pick s.r rs) (hrn : rs.Nodup) (h : VLp P E c Q n s') : VLp P E c Q n s := fun a w hi => h a w (hi.less bs rs hn ht hf hb hbn hr hrn)
end
end Go.Proofs.YtipeglbeongfmaaV
