/- Rows of the call's own: made, appended to, written; cuts; what is built; no condition of its own. -/
import Derived.Test.YtipeglbeongfmaaV3
import Derived.Maps.AppendAt
namespace Go.Proofs.YtipeglbeongfmaaV
open Go Go.RowKit
set_option linter.unusedVariables false
set_option linter.unusedSimpArgs false

structure EI (P : Program) (e : TypeId) (sz bytes : Nat) : Prop where
  ei : ∃ i z, P.info? e = some i ∧ i.zero = some z ∧ i.size = sz ∧ i.bytes = bytes ∧ z.cells.size = sz
  pos : 0 < sz
  bpos : 0 < bytes

theorem nodup_of_at {α : Type} {f : α → Option Nat} : ∀ {l : List α}, (∀ (i j : Nat) (x y : α) (b : Nat), l[i]? = some x → l[j]? = some y → f x = some b → f y = some b → i = j) → (l.filterMap f).Nodup
  | [], _ => by simp
  | z :: l, h => by
    have ih := nodup_of_at (f := f) (l := l) (fun i j x y b hi hj hx hy => by
      have := h (i + 1) (j + 1) x y b (by simpa using hi) (by simpa using hj) hx hy
      omega)
    rw [List.filterMap_cons]
    cases hz : f z with
    | none => exact ih
    | some b =>
      simp only [List.nodup_cons]
      refine ⟨fun hm => ?_, ih⟩
      obtain ⟨y, hy, hfy⟩ := List.mem_filterMap.1 hm
      obtain ⟨j, hj⟩ := List.getElem?_of_mem hy
      have := h 0 (j + 1) z y b rfl (by simpa using hj) hz hfy
      omega

section
variable {P : Program} {E : Env} {w w' : World} {s s' : St} {a : Act} {ops : Array Oper} {rest : List Oper} {Q : Exit → Act → World → Prop} {d : Nat} {v u : Value} {x y z : Operand}
variable {ty : TypeId} {pos : String} {after : Array Edge} {gd : Option (Nat × Bool)}

/-- A row has been written, or has grown. -/
theorem Inv.rowSet (h : Inv E s a w) {e sz : Nat} {es : List (List Value)} (i : Nat) (hr : s.r[i]? = some (v, e, sz, es)) {x' : ORow} (hg : w.grownBy w' v.ownBlock) (hx : rowHolds E.w0.heap.size w' x') (hat : ∀ b, x'.1.ownBlock = some b → v.ownBlock = some b ∨ w.heap.size ≤ b) :
    Inv E { s with r := s.r.set i x' } a w' := by
  have hrow := h.rows _ (List.mem_of_getElem? hr)
  have hil := (List.getElem?_eq_some_iff.1 hr).1
  have hs := h.below.size
  have hnd := h.nodup
  unfold St.blocks at hnd
  rw [List.nodup_append] at hnd
  have hat2 : ∀ (j : Nat) (y : ORow) (b : Nat), (s.r.set i x')[j]? = some y → y.1.ownBlock = some b → (∃ y0 : ORow, s.r[j]? = some y0 ∧ y0.1.ownBlock = some b) ∨ (j = i ∧ w.heap.size ≤ b) := by
    intro j y b hj hb
    rw [List.getElem?_set] at hj
    by_cases e : i = j
    · rw [if_pos e, if_pos hil] at hj
      obtain rfl := Option.some.inj hj
      subst e
      rcases hat b hb with h1 | h1
      · exact .inl ⟨_, hr, h1⟩
      · exact .inr ⟨rfl, h1⟩
    · rw [if_neg e] at hj
      exact .inl ⟨y, hj, hb⟩
  have hold : ∀ (j : Nat) (y0 : ORow) (b : Nat), s.r[j]? = some y0 → y0.1.ownBlock = some b → b < w.heap.size := fun j y0 b hj hb => ((h.rows _ (List.mem_of_getElem? hj)).2.lt b hb).2
  refine h.mem rfl rfl (h.below.grown hg hs (fun k hk => (hrow.2.lt k hk).1)) (fun k hk => ⟨⟨hk.1, Nat.lt_of_lt_of_le hk.2.1 hg.size, fun hm => ?_⟩, hg.block k hk.2.1 fun e => ?_⟩) (fun x hx => .inl hx) (fun x hx => .inl ⟨hx, ?_⟩) (fun x hx => ?_) ?_
  · unfold St.blocks at hm
    rcases List.mem_append.1 hm with hm | hm
    · exact hk.2.2 (List.mem_append_left _ hm)
    · obtain ⟨y, hy, hby⟩ := List.mem_filterMap.1 hm
      obtain ⟨j, hj⟩ := List.getElem?_of_mem hy
      rcases hat2 j y k hj hby with ⟨y0, h1, h2⟩ | ⟨_, h2⟩
      · exact hk.2.2 (List.mem_append_right _ (List.mem_filterMap.2 ⟨y0, List.mem_of_getElem? h1, h2⟩))
      · have := hk.2.1
        omega
  · exact hk.2.2 (List.mem_append_right _ (List.mem_filterMap.2 ⟨_, List.mem_of_getElem? hr, e.symm⟩))
  · refine hg.block _ (h.boxes x hx).2.lt fun e => ?_
    exact hnd.2.2 _ (List.mem_map.2 ⟨x, hx, rfl⟩) _ (List.mem_filterMap.2 ⟨_, List.mem_of_getElem? hr, e.symm⟩) rfl
  · rcases mem_set hx with rfl | ⟨j, hj, hxj⟩
    · exact .inr ‹_›
    · refine .inl ⟨List.mem_of_getElem? hxj, fun k hk => hg.block k (hold j x k hxj hk) fun e => hj ?_⟩
      exact pick_nodup.two_at hnd.2.1 hxj hk hr e.symm
  · unfold St.blocks
    rw [List.nodup_append]
    refine ⟨hnd.1, nodup_of_at fun j1 j2 y1 y2 b h1 h2 hb1 hb2 => ?_, fun k hk k2 hk2 e => ?_⟩
    · rcases hat2 j1 y1 b h1 hb1 with ⟨z1, p1, q1⟩ | ⟨p1, q1⟩ <;> rcases hat2 j2 y2 b h2 hb2 with ⟨z2, p2, q2⟩ | ⟨p2, q2⟩
      · exact pick_nodup.two_at hnd.2.1 p1 q1 p2 q2
      · have := hold _ _ _ p1 q1
        omega
      · have := hold _ _ _ p2 q2
        omega
      · omega
    · subst e
      obtain ⟨y, hy, hby⟩ := List.mem_filterMap.1 hk2
      obtain ⟨j, hj⟩ := List.getElem?_of_mem hy
      rcases hat2 j y k hj hby with ⟨y0, h1, h2⟩ | ⟨_, h2⟩
      · exact hnd.2.2 _ hk _ (List.mem_filterMap.2 ⟨y0, List.mem_of_getElem? h1, h2⟩) rfl
      · have := (h.blk_lt (by unfold St.blocks; exact List.mem_append_left _ hk)).1
        omega

/-- A new row. -/
theorem Inv.newRow (h : Inv E s a w) {e sz : Nat} {es : List (List Value)} {v : Value} {G : List Fact} (hb : Below w.heap.size w w') (hx : rowHolds w.heap.size w' (v, e, sz, es)) : Inv E { s with r := (v, e, sz, es) :: s.r } a w' :=
  h.called (G := []) (own := [(v, e, sz, es)]) (C := fun _ => False) (by simp) (by simp) (by simpa using hx) (by unfold ownBs; rw [List.filterMap_cons]; cases v.ownBlock <;> simp) hb

/-- What may be appended: a slice's cells, as they are read. -/
def Src (s : St) (u : Value) (es : List (List Value)) (sz : Nat) : Prop := (∃ j : Nat, s.f[j]? = some (Fact.row u sz es)) ∨ (∃ (j : Nat) (e : TypeId), s.r[j]? = some (u, e, sz, es))
theorem Src.holds {es : List (List Value)} {sz : Nat} (h : Src s u es sz) (hi : Inv E s a w) : flatOk sz es ∧ ∃ A c, u = .slice A es.length c ∧ (0 < es.length → ∃ ad, A = some ad) ∧ ∀ ad, A = some ad → ∀ j q, es.flatten[j]? = some q → w.cell? (ad.add j) = some q := by
  have hx : (Fact.row u sz es).holds (fun k => k < w.heap.size) w := by
    rcases h with ⟨j, hj⟩ | ⟨j, e, hj⟩
    · exact Lent.holds hi (.inl (List.mem_of_getElem? hj))
    · exact Lent.holds hi (.inr (.inl ⟨_, List.mem_of_getElem? hj, rfl⟩))
  obtain ⟨hf, A, c, rfl, h1, h2, h3, h4⟩ := hx
  refine ⟨hf, A, c, rfl, fun hp => (h3 hp).imp fun _ h => h.1, fun ad hA j q hq => ?_⟩
  obtain ⟨i, ls, k, hi, hk, rfl⟩ := unflat hf hq
  exact h4 i ls hi ad hA k q hk
 where
  unflat {sz : Nat} : ∀ {es : List (List Value)} {j : Nat} {q : Value}, flatOk sz es → es.flatten[j]? = some q → ∃ i ls k, es[i]? = some ls ∧ ls[k]? = some q ∧ j = i * sz + k
    | [], j, q, _, h => by simp at h
    | e :: es, j, q, hf, h => by
      have hl := (hf e (by simp)).1
      simp only [List.flatten_cons] at h
      by_cases hj : j < e.length
      · rw [List.getElem?_append_left hj] at h
        exact ⟨0, e, j, rfl, h, by simp⟩
      · rw [List.getElem?_append_right (by omega)] at h
        obtain ⟨i, ls, k, h1, h2, h3⟩ := unflat (fun x hx => hf x (by simp [hx])) h
        refine ⟨i + 1, ls, k, by simpa using h1, h2, ?_⟩
        rw [Nat.add_mul]
        omega

theorem flat_len {sz : Nat} {es : List (List Value)} (h : flatOk sz es) : es.flatten.length = es.length * sz := by
  induction es with
  | nil => simp
  | cons e es ih =>
    have := ih (fun x hx => h x (by simp [hx]))
    have hl := (h e (by simp)).1
    simp only [List.flatten_cons, List.length_append, List.length_cons, Nat.add_mul, this, hl]
    omega
theorem flat_one {sz : Nat} {es : List (List Value)} (h : flatOk sz es) : ∀ u ∈ es.flatten, u.oneCell' = true := by
  intro u hu
  obtain ⟨ls, h1, h2⟩ := List.mem_flatten.1 hu
  exact (h ls h1).2 u h2
theorem flat_app {sz : Nat} {e1 e2 : List (List Value)} (h1 : flatOk sz e1) (h2 : flatOk sz e2) : flatOk sz (e1 ++ e2) := fun x hx => by
  rcases List.mem_append.1 hx with hx | hx
  · exact h1 x hx
  · exact h2 x hx

theorem run_append_zero {t ty e : TypeId} {i : TypeInfo} (ht : P.underlying t = some (.slice e)) (hi : P.info? e = some i) (A A1 : Option Addr) (n cap c : Nat) (hn : n ≤ cap) (hA : A = none → n = 0) :
    (Builtin.append_ #[t, t] ty #[.slice A n cap, .slice A1 0 c]).run P w = .ok (.slice A n cap) w := by
  cases A with
  | none =>
    obtain rfl := hA rfl
    cases A1 <;> simp [Builtin.append_, run_underlying ht, sizeOf, typeInfo, hi, Builtin.lenOf, Builtin.firstCells, loadCells, loadCellsFrom, storeCells, hn]
  | some b => cases A1 <;> simp [Builtin.append_, run_underlying ht, sizeOf, typeInfo, hi, Builtin.lenOf, Builtin.firstCells, loadCells, loadCellsFrom, storeCells, hn]

/-- append onto a row of the call's own. -/
theorem op_append {t : TypeId} {e sz bytes : Nat} {es es2 es3 : List (List Value)} (i : Nat) (h3 : es ++ es2 = es3) (ht : P.underlying t = some (.slice e)) (hE : EI P e sz bytes) (hx : s.ev x = some v) (hr : s.r[i]? = some (v, e, sz, es)) (hy : s.ev y = some u) (hs : Src s u es2 sz) (hb : (es.length + es2.length) * bytes ≤ 140737488355328) (hn : d < s.n := by exact ltn rfl) :
    Op1 P E ⟨some d, .call { callee := .builtin .append, args := #[x, y], argTypes := #[t, t] }, ty, pos, after, gd⟩ s (fun s' => ∃ v', s' = St.put { s with r := s.r.set i (v', e, sz, es3) } d v') := by
  subst h3
  intro a w K Q hi hk
  obtain ⟨inf, z, h1, h2, h3, h4, h5⟩ := hE.ei
  obtain ⟨hf1, hrow⟩ := hi.rows _ (List.mem_of_getElem? hr)
  obtain ⟨hf2, A, c, rfl, hA, hc⟩ := hs.holds hi
  have hlen : es.length + es2.length ≤ 140737488355328 := Nat.le_trans (Nat.le_mul_of_pos_right _ hE.bpos) hb
  have fin : ∀ v' w', (Builtin.append_ #[t, t] ty #[v, .slice A es2.length c]).run P w = .ok v' w' → w.grownBy w' v.ownBlock → rowHolds E.w0.heap.size w' (v', e, sz, es ++ es2) → (∀ b, v'.ownBlock = some b → v.ownBlock = some b ∨ w.heap.size ≤ b) →
      wpE E P ⟨some d, .call { callee := .builtin .append, args := #[x, y], argTypes := #[t, t] }, ty, pos, after, gd⟩ a w K Q := by
    intro v' w' hrun hg hro hat
    have : (execOp a.eval ⟨some d, .call { callee := .builtin .append, args := #[x, y], argTypes := #[t, t] }, ty, pos, after, gd⟩).run P w = .ok (.value v') w' := by
      simp only [execOp, resolve, invoke, builtin, Sem.run_bind, Sem.run_pure, Result.andThen_ok, List.map_toArray, List.map_cons, List.map_nil, hi.ev hx, hi.ev hy, hrun]
    refine wo_value this ?_
    exact hk _ _ _ ⟨v', rfl⟩ (Inv.put (hi.rowSet i hr hg hro hat) (by exact hn) v')
  cases hA2 : A with
  | some ad =>
    subst hA2
    obtain ⟨v', w', hrun, h6, h7, _, h8⟩ := run_append_own_at (P := P) w E.w0.heap.size t ty e inf z sz bytes ht h1 h2 h3 h4 h5 hE.pos v es.length es.flatten hrow ad es2.length c es2.flatten (flat_len hf2) (hc ad rfl) (flat_one hf2) (by simp only [maxLen]; omega) hb hi.below.size
    refine fin v' w' hrun h7 ⟨flat_app hf1 hf2, ?_⟩ (fun b hb => ?_)
    · simpa using h6
    · rcases h8 with h8 | h8
      · exact .inl (h8 ▸ hb)
      · rw [h8] at hb
        exact .inr (by have := Option.some.inj hb; omega)
  | none =>
    subst hA2
    have h0 : es2 = [] := by
      rcases Nat.eq_zero_or_pos es2.length with h | h
      · exact List.eq_nil_of_length_eq_zero h
      · obtain ⟨ad, e⟩ := hA h
        cases e
    subst h0
    obtain ⟨A', c', rfl⟩ := own_form ⟨hf1, hrow⟩
    refine fin _ w ?_ ⟨rfl, rfl, rfl, Nat.le_refl _, fun _ _ _ => rfl⟩ ⟨by simpa using hf1, by simpa using hrow⟩ (fun b hb => .inl hb)
    refine run_append_zero ht h1 A' none es.length c' c ?_ ?_
    · rcases hrow.2 with ⟨e1, e2⟩ | ⟨g, cap, cur, e1, _, _, e2, _⟩
      · simp only at e2
        omega
      · simp only [Value.slice.injEq] at e1
        simp only at e2
        omega
    · intro e0
      subst e0
      rcases hrow.2 with ⟨_, e2⟩ | ⟨g, cap, cur, e1, _⟩
      · exact e2
      · cases e1

/-- append onto a slice without room. -/
theorem op_append_clip {t : TypeId} {e sz bytes n : Nat} {es es2 es3 : List (List Value)} {A : Option Addr} (i : Nat) (h3 : es ++ es2 = es3) (ht : P.underlying t = some (.slice e)) (hE : EI P e sz bytes) (hx : s.ev x = some (.slice A n n)) (hr : s.f[i]? = some (.row (.slice A n n) sz es)) (hy : s.ev y = some u) (hs : Src s u es2 sz) (hb : (es.length + es2.length) * bytes ≤ 140737488355328) (hn : d < s.n := by exact ltn rfl) :
    Op1 P E ⟨some d, .call { callee := .builtin .append, args := #[x, y], argTypes := #[t, t] }, ty, pos, after, gd⟩ s (fun s' => ∃ v', s' = St.put { s with f := .row v' sz es3 :: s.f } d v') := by
  subst h3
  intro a w K Q hi hk
  obtain ⟨inf, z, h1, h2, h3, h4, h5⟩ := hE.ei
  obtain ⟨hf1, A', c', he, hc1, hc2, hc3, hc4⟩ := hi.facts _ (List.mem_of_getElem? hr)
  obtain ⟨rfl, rfl, rfl⟩ : A = A' ∧ n = es.length ∧ n = c' := by simpa using he
  obtain ⟨hf2, A2, c2, rfl, hA, hc⟩ := hs.holds hi
  have hlen : es.length + es2.length ≤ 140737488355328 := Nat.le_trans (Nat.le_mul_of_pos_right _ hE.bpos) hb
  have fin : ∀ v' w', (Builtin.append_ #[t, t] ty #[.slice A es.length es.length, .slice A2 es2.length c2]).run P w = .ok v' w' → Inv E { s with f := .row v' sz (es ++ es2) :: s.f } a w' →
      wpE E P ⟨some d, .call { callee := .builtin .append, args := #[x, y], argTypes := #[t, t] }, ty, pos, after, gd⟩ a w K Q := by
    intro v' w' hrun hinv
    have : (execOp a.eval ⟨some d, .call { callee := .builtin .append, args := #[x, y], argTypes := #[t, t] }, ty, pos, after, gd⟩).run P w = .ok (.value v') w' := by
      simp only [execOp, resolve, invoke, builtin, Sem.run_bind, Sem.run_pure, Result.andThen_ok, List.map_toArray, List.map_cons, List.map_nil, hi.ev hx, hi.ev hy, hrun]
    refine wo_value this ?_
    exact hk _ _ _ ⟨v', rfl⟩ (hinv.put (by exact hn) v')
  by_cases h0 : es2 = []
  · subst h0
    refine fin (.slice A es.length es.length) w (run_append_zero ht h1 A A2 _ _ _ (Nat.le_refl _) fun e => ?_) ?_
    · rcases Nat.eq_zero_or_pos es.length with h | h
      · exact h
      · obtain ⟨ad, e2, _⟩ := hc3 h
        rw [e] at e2
        cases e2
    · refine hi.mem rfl rfl hi.below (fun k hk => ⟨hk, rfl⟩) (fun x hx => ?_) (fun x hx => .inl ⟨hx, rfl⟩) (fun x hx => .inl ⟨hx, fun _ _ => rfl⟩) hi.nodup
      rcases List.mem_cons.1 hx with rfl | hx
      · left
        simpa using List.mem_of_getElem? hr
      · exact .inl hx
  · have hp : 0 < es2.length := List.length_pos_iff.2 h0
    obtain ⟨ad, rfl⟩ := hA hp
    have hfitB : ∀ old, Builtin.nextslicecap (es.length + es2.length) old * inf.bytes ≤ 281474976710656 ∨ True := fun _ => .inr trivial
    -- a row of one's own, for a moment: out of nothing, or out of what is there
    have key : ∃ v' w', (Builtin.append_ #[t, t] ty #[.slice A es.length es.length, .slice (some ad) es2.length c2]).run P w = .ok v' w' ∧ rowHolds w.heap.size w' (v', e, sz, es ++ es2) ∧ Below w.heap.size w w' := by
      have hgr : ∀ cap, es.length + es2.length ≤ cap → cap ≤ maxLen → ∀ cells : Array Value, cells.size = cap * sz → cells.toList.take ((es ++ es2).length * sz) = (es ++ es2).flatten →
          rowHolds w.heap.size (w.drew.alloc (.cells cells e)) (.slice (some ⟨w.heap.size, 0, none⟩) (es.length + es2.length) cap, e, sz, es ++ es2) := by
        intro cap h6 h7 cells h8 h9
        refine ⟨flat_app hf1 hf2, flat_len (flat_app hf1 hf2), .inr ⟨w.heap.size, cap, cells, by simp, Nat.le_refl _, heap_alloc_new w.drew _, by simpa using h6, h7, h8, h9⟩⟩
      have hbel : ∀ o, Below w.heap.size w (w.drew.alloc o) := fun o => ((Below.refl _ w).drew).alloc (Nat.le_refl _) o
      have hsz1 := flat_len hf1
      have hsz2 := flat_len hf2
      have htk : ∀ (xs : List Value) (zs : Array Value), xs.length = (es ++ es2).length * sz → (xs.toArray ++ zs).toList.take ((es ++ es2).length * sz) = xs := by
        intro xs zs hx
        rw [← hx]
        simp
      rcases Nat.eq_zero_or_pos es.length with hz | hz
      · have he : es = [] := List.eq_nil_of_length_eq_zero hz
        subst he
        cases A with
        | none =>
          have hr := run_append_nil (P := P) w t ty e inf z ht h1 h2 ad es2.length c2 es2.flatten (by rw [h3]; exact hsz2) (hc ad rfl) hp (by omega) (by rw [h4]; simp only [List.length_nil, Nat.zero_add] at hb; omega)
          refine ⟨_, _, hr, ?_, hbel _⟩
          have hge := grownCap_ge w es2.length 0 e
          have hg := hgr (grownCap w es2.length 0 e) (by simpa using hge) (grownCap_le_maxLen w _ _ _ (by simp only [maxLen]; omega)) (es2.flatten.toArray ++ Builtin.zeroCells z.cells (grownCap w es2.length 0 e - es2.length)) (by
            simp only [Array.size_append, List.size_toArray, size_zeroCells, h5, hsz2, ← Nat.add_mul]
            congr 1
            omega) (htk es2.flatten _ (by simpa using hsz2))
          simpa using hg
        | some b =>
          have hr := run_append_grow (P := P) w t ty e inf z ht h1 h2 b 0 0 [] (by simp) (by simp) ad es2.length c2 es2.flatten (by rw [h3]; exact hsz2) (hc ad rfl) (by omega) (by omega) (by rw [h4]; exact growslice_fits (by omega) (by simpa using hb))
          refine ⟨_, _, hr, ?_, hbel _⟩
          have hge := grownCap_ge w (0 + es2.length) 0 e
          have hg := hgr (grownCap w (0 + es2.length) 0 e) (by simpa using hge) (grownCap_le_maxLen w _ _ _ (by simp only [maxLen]; omega)) (([] : List Value).toArray ++ es2.flatten.toArray ++ Builtin.zeroCells z.cells (grownCap w (0 + es2.length) 0 e - (0 + es2.length))) (by
            simp only [Array.size_append, List.size_toArray, size_zeroCells, h5, hsz2, List.length_nil, Nat.zero_add, ← Nat.add_mul]
            congr 1
            have := hge
            simp only [Nat.zero_add] at this
            omega) (by
              have := htk es2.flatten (Builtin.zeroCells z.cells (grownCap w (0 + es2.length) 0 e - (0 + es2.length))) (by simpa using hsz2)
              simpa using this)
          simpa using hg
      · obtain ⟨b, rfl, _⟩ := hc3 hz
        have holds : ∀ j q, es.flatten[j]? = some q → w.cell? (b.add j) = some q := by
          intro j q hq
          obtain ⟨i', ls, k', hi', hk', rfl⟩ := Src.holds.unflat hf1 hq
          exact hc4 i' ls hi' b rfl k' q hk'
        have hr := run_append_grow (P := P) w t ty e inf z ht h1 h2 b es.length es.length es.flatten (by rw [h3]; exact hsz1) holds ad es2.length c2 es2.flatten (by rw [h3]; exact hsz2) (hc ad rfl) (by omega) (by omega) (by rw [h4]; exact growslice_fits (by omega) hb)
        refine ⟨_, _, hr, ?_, hbel _⟩
        have hge := grownCap_ge w (es.length + es2.length) es.length e
        refine hgr _ hge (grownCap_le_maxLen w _ _ _ (by simp only [maxLen]; omega)) _ ?_ ?_
        · simp only [Array.size_append, List.size_toArray, size_zeroCells, h5, hsz1, hsz2, ← Nat.add_mul]
          congr 1
          omega
        · have := htk (es.flatten ++ es2.flatten) (Builtin.zeroCells z.cells (grownCap w (es.length + es2.length) es.length e - (es.length + es2.length))) (by rw [List.length_append, hsz1, hsz2, List.length_append, Nat.add_mul])
          simpa using this
    obtain ⟨v', w', hrun, hro, hbl⟩ := key
    refine fin v' w' hrun ?_
    exact (hi.newRow (G := []) hbl hro).freezeRow 0 rfl

/-- A slice literal, or a call's further arguments. -/
theorem op_buildSlice {t : TypeId} {e sz n : Nat} {z : Value} {parts : List (Nat × Operand)} {vals : List (Nat × Value)} {cells : Array Value} {es : List (List Value)} (ht : P.underlying t = some (.slice e)) {agg : Bool} (hT : TI P e agg sz) (hz : (P.info? e).bind (·.zero) = some z)
    (hp : parts.map (fun p => (s.ev p.2).map (p.1, ·)) = vals.map some) (hpos : 0 < sz) (hl : n * sz ≤ 16777216) (hf : Instr.fill (fun i => some (i * sz, sz)) ((Array.range (n * sz)).map (z.cells[· % z.cells.size]!)) vals = some cells) (hes : es.flatten = cells.toList) (hn' : es.length = n) (hfl : flatOk sz es) (hn : d < s.n := by exact ltn rfl) :
    Op1 P E ⟨some d, .buildSlice t n parts.toArray, ty, pos, after, gd⟩ s (fun s' => ∃ v', s' = St.put { s with r := (v', e, sz, es) :: s.r } d v') := by
  intro a w K Q hi hk
  have hzv : (zeroValue e).run P w = .ok z w := by
    cases hq : P.info? e with
    | none => rw [hq] at hz; cases hz
    | some i =>
      rw [hq] at hz
      have : i.zero = some z := by simpa using hz
      simp [zeroValue, typeInfo, hq, this]
  have hpp : (parts.toArray.map fun (i, x) => (i, a.eval x)).toList = vals := by
    simp only [List.map_toArray]
    clear hf
    induction parts generalizing vals with
    | nil => cases vals <;> simp_all
    | cons p ps ih =>
      cases vals with
      | nil => simp at hp
      | cons q qs =>
        simp only [List.map_cons, List.cons.injEq] at hp ⊢
        refine ⟨?_, ih hp.2⟩
        obtain ⟨u, hu, hq⟩ := Option.map_eq_some_iff.1 hp.1
        rw [← hq, hi.ev hu]
  have hrun : (execOp a.eval ⟨some d, .buildSlice t n parts.toArray, ty, pos, after, gd⟩).run P w = .ok (.value (.slice (some ⟨w.heap.size, 0, none⟩) n n)) (w.alloc (.cells cells e)) := by
    have hle : ¬ (n * sz > 2 ^ 24) := by omega
    by_cases h0 : n * sz = 0
    · have e0 : ∀ z' : Array Value, (Array.range (n * sz)).map (fun x => z'[x % z'.size]!) = #[] := fun z' => Array.eq_empty_of_size_eq_zero (by simp [h0])
      rw [e0] at hf
      simp only [execOp, Instr.buildSlice, Sem.run_bind, run_underlying ht, Result.andThen_ok, run_size hT w, hpp]
      rw [if_neg hle, if_pos h0]
      simp only [Sem.run_bind, Sem.run_pure, Result.andThen_ok, e0, hf]
      rfl
    · simp only [execOp, Instr.buildSlice, Sem.run_bind, run_underlying ht, Result.andThen_ok, run_size hT w, hpp]
      rw [if_neg hle]
      simp [h0, hzv, hf, newRow, newObj]
      rfl
  refine wo_value hrun ?_
  have hsz2 := flat_len hfl
  have hro : rowHolds w.heap.size (w.alloc (.cells cells e)) (.slice (some ⟨w.heap.size, 0, none⟩) n n, e, sz, es) := by
    have hcs : cells.size = n * sz := by rw [← Array.length_toList, ← hes, hsz2, hn']
    refine ⟨hfl, hsz2, .inr ⟨w.heap.size, n, cells, by simp [hn'], Nat.le_refl _, heap_alloc_new w _, by simp [hn'], ?_, hcs, ?_⟩⟩
    · have : 0 < sz ∨ sz = 0 := by omega
      rcases this with hp | hp
      · have : n ≤ n * sz := Nat.le_mul_of_pos_right _ hp
        simp only [maxLen]
        omega
      · omega
    · simp only [hes]
      rw [← hes, hn', List.take_of_length_le (by rw [hsz2, hn']; exact Nat.le_refl _)]
  exact hk _ _ _ ⟨_, rfl⟩ (Inv.put (hi.newRow (G := []) ((Below.refl _ w).alloc (Nat.le_refl _) _) hro) (by exact hn) _)
end
end Go.Proofs.YtipeglbeongfmaaV
