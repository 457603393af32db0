/- Bytes of a text that are written: a block of the call's own; no condition of its own. -/
import Derived.Test.YtipeglbeongfmaaV16
namespace Go.Proofs.YtipeglbeongfmaaV
open Go Go.RowKit
set_option linter.unusedVariables false
set_option linter.unusedSimpArgs false
section
variable {P : Program} {E : Env} {w w' : World} {s s' : St} {a : Act} {o : Oper} {ops : Array Oper} {rest : List Oper} {Q : Exit → Act → World → Prop} {d : Nat} {v u : Value} {x y z : Operand}
variable {ty : TypeId} {pos : String} {after : Array Edge} {gd : Option (Nat × Bool)}
  {n0 : Nat} {t0 : List (Nat × Value)} {f0 : List Fact} {b0 : List (Nat × TypeId × List Value)} {r0 : List (Value × TypeId × Nat × List (List Value))}

/-- A block of the call's own comes to be. -/
theorem Inv.allocZ (h : Inv E s a w) (T : TypeId) (xs : List Value) {zm : Nat × Nat} (hz : zm = (0, 0) ∨ (E.U T ∧ xs.length ≤ zm.1)) : Inv E { s with b := (w.heap.size, T, xs) :: s.b } a (w.drew.alloc (.cells xs.toArray T zm)) := by
  have hs : E.w0.heap.size ≤ w.heap.size := h.below.size
  refine h.mem rfl rfl (h.below.drew.alloc hs _) (fun k hk => ⟨⟨hk.1, by have := hk.2.1; simp; omega, ?_⟩, heap_alloc_old w.drew _ hk.2.1⟩) (fun x hx => .inl hx) ?_ (fun x hx => .inl ⟨hx, fun k hk => heap_alloc_old w.drew _ ((h.rows x hx).2.lt k hk).2⟩) ?_
  · have := hk.2.1
    have h2 := hk.2.2
    unfold St.blocks at h2 ⊢
    simp only [List.map_cons, List.cons_append, List.mem_cons, not_or]
    exact ⟨by omega, h2⟩
  · intro x hx
    rcases List.mem_cons.1 hx with rfl | hx
    · exact .inr ⟨hs, zm, hz, heap_alloc_new w.drew _⟩
    · exact .inl ⟨hx, heap_alloc_old w.drew _ (h.boxes x hx).2.lt⟩
  · unfold St.blocks
    simp only [List.map_cons, List.cons_append, List.nodup_cons]
    exact ⟨fun hm => by have := (h.blk_lt hm).1; omega, h.nodup⟩
theorem bytesRow_is (b : ByteArray) (cap : Nat) : bytesRow b cap = (ints .u8 (byI b ++ List.replicate (cap - b.size) 0)).toArray := by
  apply Array.toList_inj.1
  unfold bytesRow ints byI
  simp [List.map_append, List.map_replicate, Array.toList_map, Array.toList_replicate]
theorem o_strBytesB {t1 t2 e : TypeId} {b : ByteArray} (h1 : P.underlying t1 = some .string) (h2 : P.underlying t2 = some (.slice e)) (he : P.underlying e = some (.int .u8)) (hU : E.U e) (hx : St.ev ⟨n0, t0, f0, b0, r0⟩ x = some (.string b)) (hn : d < n0)
    {l : List Oper} (hg : guardOn ops ⟨n0, t0, f0, b0, r0⟩ ⟨some d, .convert t1 t2 x, ty, pos, after, gd⟩ = some true)
    (h : ∀ g cap q, VL P E ops Q l ⟨n0, (d, .slice (some ⟨g, 0, none⟩) b.size cap) :: t0, f0, (g, e, ints .u8 (byI b ++ q)) :: b0, r0⟩) : VL P E ops Q (⟨some d, .convert t1 t2 x, ty, pos, after, gd⟩ :: l) ⟨n0, t0, f0, b0, r0⟩ := by
  refine VL.step (R := fun s' => ∃ g cap q, s' = ⟨n0, (d, .slice (some ⟨g, 0, none⟩) b.size cap) :: t0, f0, (g, e, ints .u8 (byI b ++ q)) :: b0, r0⟩) ?_ hg (by rintro _ ⟨g, cap, q, rfl⟩; exact h g cap q)
  intro a w K Q hi hk
  have hr := run_bytes_of_string w t1 t2 e b h1 h2 he
  have : (execOp a.eval ⟨some d, .convert t1 t2 x, ty, pos, after, gd⟩).run P w = .ok (.value (.slice (some ⟨w.heap.size, 0, none⟩) b.size (grownCap w b.size 0 e))) (w.drew.alloc (.cells (bytesRow b (grownCap w b.size 0 e)) e ((bytesRow b (grownCap w b.size 0 e)).size, (bytesRow b (grownCap w b.size 0 e)).size + 1))) := by
    simp only [execOp, hi.ev hx, Sem.run_bind, hr, Result.andThen_ok, Sem.run_pure]
  refine wo_value this ?_
  refine hk ⟨n0, (d, _) :: t0, f0, (w.heap.size, e, _) :: b0, r0⟩ _ _ ⟨w.heap.size, grownCap w b.size 0 e, List.replicate (grownCap w b.size 0 e - b.size) 0, rfl⟩ (Inv.put (s := ⟨n0, t0, f0, (w.heap.size, e, ints .u8 (byI b ++ List.replicate (grownCap w b.size 0 e - b.size) 0)) :: b0, r0⟩) ?_ hn _)
  have h3 := hi.allocZ e (ints .u8 (byI b ++ List.replicate (grownCap w b.size 0 e - b.size) 0)) (zm := ((bytesRow b (grownCap w b.size 0 e)).size, (bytesRow b (grownCap w b.size 0 e)).size + 1)) (.inr ⟨hU, by rw [bytesRow_is]; simp⟩)
  rw [bytesRow_is]
  rw [bytesRow_is] at h3
  exact h3
theorem op_indexAddrB {t e n c g : Nat} {k : IntKind} {j : Int} (ht : P.underlying t = some (.slice e)) (hT : TI P e false 1) (hx : s.ev x = some (.slice (some ⟨g, 0, none⟩) n c)) (hy : s.ev y = some (.int k j)) (h0 : 0 ≤ j) (hj : j < (n : Int)) (hn : d < s.n := by exact ltn rfl) :
    OpV P E ⟨some d, .indexAddr t x y, ty, pos, after, gd⟩ s d (.pointer (some ⟨g, j.toNat, none⟩)) :=
  op_indexAddr ht hT hx hy h0 hj (by rw [Nat.mul_one, add_at, Nat.zero_add]) hn
theorem get_left {l q : List Int} {j : Nat} {v : Int} (h : l[j]? = some v) : (l ++ q)[j]? = some v := by rw [List.getElem?_append_left (List.getElem?_eq_some_iff.1 h).1, h]
theorem lt_left {l q : List Int} {j : Nat} (h : j < l.length) : j < (l ++ q).length := by rw [List.length_append]; omega
theorem o_storeB {t : TypeId} {g : Nat} {T : TypeId} {k : IntKind} {j : Nat} {v : Int} {l q : List Int} (i : Nat) (hx : St.ev ⟨n0, t0, f0, b0, r0⟩ x = some (.pointer (some ⟨g, j, none⟩))) (hv : St.ev ⟨n0, t0, f0, b0, r0⟩ y = some (.int k v)) (hb : b0[i]? = some (g, T, ints k (l ++ q))) (hT : TI P t false 1) (hj : j < l.length) :
    Op1 P E ⟨none, .store t x y, ty, pos, after, gd⟩ ⟨n0, t0, f0, b0, r0⟩ (· = ⟨n0, t0, f0, b0.set i (g, T, ints k (l.set j v ++ q)), r0⟩) := by
  have := o_storeE (P := P) (E := E) (ty := ty) (pos := pos) (after := after) (gd := gd) i hx hv hb hT (lt_left hj)
  rwa [List.set_append_left _ _ hj] at this
theorem op_bytesStrB {t1 t2 e g n c : Nat} {T : TypeId} {l q : List Int} (i : Nat) (h1 : P.underlying t1 = some (.slice e)) (h2 : P.underlying t2 = some .string) (he : P.underlying e = some (.int .u8)) (hx : s.ev x = some (.slice (some ⟨g, 0, none⟩) n c)) (hb : s.b[i]? = some (g, T, ints .u8 (l ++ q))) (hl : l.length = n) (hn : d < s.n := by exact ltn rfl) :
    OpV P E ⟨some d, .convert t1 t2 x, ty, pos, after, gd⟩ s d (.string (strOfNums l)) :=
  ⟨rfl, hn, fun a w h hm => by
    subst hl
    have hbx := hm.boxes _ (List.mem_of_getElem? hb)
    have := run_bytesStr (P := P) (w := w) (A := some ⟨g, 0, none⟩) (c := c) (xs := l) h1 h2 he (fun hA => by cases hA) (fun ad hA j q hq => by
      obtain rfl := Option.some.inj hA
      rw [add_at, Nat.zero_add]
      exact hbx.cell (by simp only [ints, List.getElem?_map, get_left hq]; rfl))
    simp only [execOp, h x _ hx, Sem.run_bind, this, Result.andThen_ok, Sem.run_pure]⟩
/-- A text copied into bytes of the call's own. -/
theorem op_copyS {t t2 e g n c m : Nat} {T : TypeId} {b : ByteArray} {l q : List Int} (i : Nat) (ht : P.underlying t = some (.slice e)) (hT : TI P e false 1) (hx : s.ev x = some (.slice (some ⟨g, 0, none⟩) n c)) (hy : s.ev y = some (.string b)) (hb : s.b[i]? = some (g, T, ints .u8 (l ++ q))) (hl : l.length = n) (hm : min b.size n = m) (hn : d < s.n := by exact ltn rfl) :
    Op1 P E ⟨some d, .call { callee := .builtin .copy, args := #[x, y], argTypes := #[t, t2] }, ty, pos, after, gd⟩ s (· = St.put { s with b := s.b.set i (g, T, ints .u8 (((byI b).take m ++ l.drop (m)) ++ q)) } d (.int .i64 m)) := by
  subst hl
  intro a w K Q hi hK
  obtain ⟨hge, hbx⟩ := hi.boxes _ (List.mem_of_getElem? hb)
  have hbl := byI_len b
  have hm2 : Nat.min b.size l.length = m := hm
  have hcs : (b.data.toList.take m).map (fun c : UInt8 => Value.int .u8 c.toNat) = ints .u8 ((byI b).take m) := by
    unfold ints byI
    rw [← List.map_take, List.map_map]
    rfl
  have hlen : (ints .u8 ((byI b).take m)).length = m := by simp [ints, hbl]; omega
  have hst := hbx.store (P := P) (o := 0) (us := ints .u8 ((byI b).take m)) (by rw [hlen]; simp [ints]; omega) ((one_ints (s := s)).all hi.toMem)
  have hupd : upd (ints .u8 (l ++ q)) 0 (ints .u8 ((byI b).take m)) = ints .u8 (((byI b).take m ++ l.drop m) ++ q) := by
    unfold upd
    rw [List.take_zero, List.nil_append, Nat.zero_add, hlen]
    simp only [ints, ← List.map_drop, ← List.map_append]
    congr 1
    rw [List.drop_append_of_le_length (by omega), List.append_assoc]
  simp only at hst
  rw [hupd] at hst
  have hfc : (Builtin.firstCells 1 m (.string b)).run P w = .ok (ints .u8 ((byI b).take m)).toArray w := by
    have e : ((b.extract 0 m).data.map fun c => Value.int .u8 c.toNat) = (ints .u8 ((byI b).take m)).toArray := by
      apply Array.toList_inj.1
      rw [← hcs, Array.toList_map, ByteArray.data_extract, Array.toList_extract, List.extract_eq_take_drop]
      simp
    rw [← e]
    rfl
  have : (execOp a.eval ⟨some d, .call { callee := .builtin .copy, args := #[x, y], argTypes := #[t, t2] }, ty, pos, after, gd⟩).run P w = .ok (.value (.int .i64 m)) (w.setRow g (ints .u8 (((byI b).take m ++ l.drop m) ++ q)).toArray) := by
    generalize ints .u8 (((byI b).take m ++ l.drop m) ++ q) = RR at hst ⊢
    generalize ints .u8 ((byI b).take m) = CS at hst hfc
    simp [execOp, resolve, invoke, builtin, hi.ev hx, hi.ev hy, Builtin.copy_, run_underlying ht, Builtin.lenOf, run_size hT w, hm2, hfc, hst, goInt]
  refine wo_value this ?_
  refine hK _ _ _ rfl (Inv.put (hi.setBox i hb ?_) (by exact hn) _)
  simp [ints, hbl]
  omega
/-- A part of an array of the call's own, as a slice. -/
theorem op_sliceB {t e n g : Nat} (ht : P.underlying t = some (.array n e)) (hT : TI P e false 1) (hx : s.ev x = some (.pointer (some ⟨g, 0, none⟩))) (hn : d < s.n := by exact ltn rfl) :
    OpV P E ⟨some d, .slice t x none none none, ty, pos, after, gd⟩ s d (.slice (some ⟨g, 0, none⟩) n n) :=
  op_val rfl hn (fun a ha w => by
    rcases Nat.eq_zero_or_pos n with rfl | h0
    · simp [execOp, ha x _ hx, Instr.sliceAt, run_underlying ht, Instr.sureAddr, Instr.sliceBounds, run_size hT w]
    · have : ¬ n = 0 := by omega
      have hz : (⟨g, 0, none⟩ : Addr).add 0 = ⟨g, 0, none⟩ := rfl
      simp [execOp, ha x _ hx, Instr.sliceAt, run_underlying ht, Instr.sureAddr, Instr.sliceBounds, run_size hT w, this, hz])
theorem o_copyS {t t2 e g n c m : Nat} {T : TypeId} {b : ByteArray} {l q : List Int} (i : Nat) (ht : P.underlying t = some (.slice e)) (hT : TI P e false 1) (hx : St.ev ⟨n0, t0, f0, b0, r0⟩ x = some (.slice (some ⟨g, 0, none⟩) n c)) (hy : St.ev ⟨n0, t0, f0, b0, r0⟩ y = some (.string b)) (hb : b0[i]? = some (g, T, ints .u8 (l ++ q))) (hl : l.length = n) (hm : min b.size n = m) (hn : d < n0 := by exact ltn rfl) :
    Op1 P E ⟨some d, .call { callee := .builtin .copy, args := #[x, y], argTypes := #[t, t2] }, ty, pos, after, gd⟩ ⟨n0, t0, f0, b0, r0⟩ (· = ⟨n0, (d, .int .i64 m) :: t0, f0, b0.set i (g, T, ints .u8 (((byI b).take m ++ l.drop m) ++ q)), r0⟩) := op_copyS i ht hT hx hy hb hl hm hn
theorem o_copyS0 {t t2 e g n c m : Nat} {T : TypeId} {b : ByteArray} {l : List Int} (i : Nat) (ht : P.underlying t = some (.slice e)) (hT : TI P e false 1) (hx : St.ev ⟨n0, t0, f0, b0, r0⟩ x = some (.slice (some ⟨g, 0, none⟩) n c)) (hy : St.ev ⟨n0, t0, f0, b0, r0⟩ y = some (.string b)) (hb : b0[i]? = some (g, T, ints .u8 l)) (hl : l.length = n) (hm : min b.size n = m) (hn : d < n0 := by exact ltn rfl) :
    Op1 P E ⟨some d, .call { callee := .builtin .copy, args := #[x, y], argTypes := #[t, t2] }, ty, pos, after, gd⟩ ⟨n0, t0, f0, b0, r0⟩ (· = ⟨n0, (d, .int .i64 m) :: t0, f0, b0.set i (g, T, ints .u8 ((byI b).take m ++ l.drop m)), r0⟩) := by
  have := o_copyS (P := P) (E := E) (ty := ty) (pos := pos) (after := after) (gd := gd) (d := d) (t2 := t2) (q := []) i ht hT hx hy (by rw [List.append_nil]; exact hb) hl hm hn
  simpa using this
theorem op_bytesStrB0 {t1 t2 e g n c : Nat} {T : TypeId} {l : List Int} (i : Nat) (h1 : P.underlying t1 = some (.slice e)) (h2 : P.underlying t2 = some .string) (he : P.underlying e = some (.int .u8)) (hx : s.ev x = some (.slice (some ⟨g, 0, none⟩) n c)) (hb : s.b[i]? = some (g, T, ints .u8 l)) (hl : l.length = n) (hn : d < s.n := by exact ltn rfl) :
    OpV P E ⟨some d, .convert t1 t2 x, ty, pos, after, gd⟩ s d (.string (strOfNums l)) := op_bytesStrB (q := []) i h1 h2 he hx (by rw [List.append_nil]; exact hb) hl hn
end
end Go.Proofs.YtipeglbeongfmaaV
