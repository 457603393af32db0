/- Arrays of numbers, compared; a slice as a pointer to an array; no condition of its own. -/
import Derived.Test.YtipeglbeongfmaaV18
import Derived.ChangeKeysEq
namespace Go.Proofs.YtipeglbeongfmaaV
open Go Go.RowKit
set_option linter.unusedVariables false
set_option linter.unusedSimpArgs false
section
variable {P : Program} {E : Env} {w w' : World} {s s' : St} {a : Act} {o : Oper} {ops : Array Oper} {rest : List Oper} {Q : Exit → Act → World → Prop} {d : Nat} {v u : Value} {x y z : Operand}
variable {ty : TypeId} {pos : String} {after : Array Edge} {gd : Option (Nat × Bool)}
theorem run_part_int {e : TypeId} {k : IntKind} {xs : List Int} {i : Nat} {q : Int} (hT : TI P e false 1) (h : xs[i]? = some q) : (part e (ints k xs).toArray i).run P w = .ok (.int k q) w := by
  have h2 : (ints k xs).toArray[i]? = some (.int k q) := by
    unfold ints
    simp [h]
  unfold part
  rw [Sem.run_bind, run_isAgg hT]
  simp only [Result.andThen_ok, Bool.false_eq_true, if_false]
  rw [h2]
  rfl
theorem run_eqItems_int (D : Nat) {e : TypeId} {k : IntKind} {xs ys : List Int} (hT : TI P e false 1) (he : P.underlying e = some (.int k)) (hl : xs.length = ys.length) : ∀ (m i : Nat), i + m = xs.length →
    (Op.eqItems (D + 1) e 1 (ints k xs).toArray (ints k ys).toArray (List.range' i m)).run P w = .ok (decide (xs.drop i = ys.drop i)) w
  | 0, i, h => by
    rw [List.drop_of_length_le (by omega), List.drop_of_length_le (by omega)]
    simp [Op.eqItems]
  | m + 1, i, h => by
    have h1 : xs[i]? = some xs[i] := List.getElem?_eq_getElem (by omega)
    have h2 : ys[i]? = some ys[i] := List.getElem?_eq_getElem (by omega)
    have ih := run_eqItems_int D hT he hl m (i + 1) (by omega)
    rw [List.drop_eq_getElem_cons (show i < xs.length by omega), List.drop_eq_getElem_cons (show i < ys.length by omega)]
    simp only [List.range'_succ, Op.eqItems, Nat.mul_one, Sem.run_bind, run_part_int hT h1, run_part_int hT h2, Result.andThen_ok, run_equalIn_int w D e k k _ _ he]
    by_cases c : xs[i] = ys[i]
    · simp only [c, beq_self_eq_true, Bool.not_true, Bool.false_eq_true, if_false, ih, List.cons.injEq, true_and]
    · have : (xs[i] == ys[i]) = false := by simpa using c
      rw [decide_eq_false (fun h => c (List.cons.inj h).1)]
      simp only [this, Bool.not_false, if_true, Sem.run_pure]
/-- Arrays of numbers, compared. -/
theorem op_eqA {t t' e n : Nat} {k : IntKind} {xs ys : List Int} (ht : P.underlying t = some (.array n e)) (hc : P.cellsOf e = 1) (hT : TI P e false 1) (he : P.underlying e = some (.int k)) (hg : P.eqGuardType P.depth t = false)
    (hx : s.ev x = some (.agg (ints k xs).toArray)) (hy : s.ev y = some (.agg (ints k ys).toArray)) (hlx : xs.length = n) (hly : ys.length = n) {b : Bool} (hb : decide (xs = ys) = b) (hn : d < s.n := by exact ltn rfl) :
    OpV P E ⟨some d, .binOp .eql t x y t', ty, pos, after, gd⟩ s d (.bool b) :=
  op_bin hx hy (fun w => by
    subst hb
    obtain ⟨i, hi, -⟩ := Option.map_eq_some_iff.1 hT.size
    have h1 := run_equalIn_array (P := P) (w := w) (Op.maxDepth - 1) (ints k xs).toArray (ints k ys).toArray ht hi
    have h2 := run_eqItems_int (P := P) (w := w) (Op.maxDepth - 2) hT he (hlx.trans hly.symm) n 0 (by omega)
    rw [hc, List.range_eq_range'] at h1
    rw [show Op.maxDepth - 2 + 1 = Op.maxDepth - 1 from rfl] at h2
    rw [show Op.maxDepth - 1 + 1 = Op.maxDepth from rfl, h2, List.drop_zero, List.drop_zero] at h1
    simp [eqGuard, binOp, hg, Op.equal, h1]) hn
/-- The first cells of a block, as an array. -/
theorem op_loadP {t g n : Nat} {k : IntKind} {l q : List Int} {T : TypeId} (i : Nat) (hx : s.ev x = some (.pointer (some ⟨g, 0, none⟩))) (hb : s.b[i]? = some (g, T, ints k (l ++ q))) (hT : TI P t true n) (hl : n ≤ l.length) (hn : d < s.n := by exact ltn rfl) :
    OpV P E ⟨some d, .load t x, ty, pos, after, gd⟩ s d (.agg (ints k (l.take n)).toArray) := by
  have e : ((ints k (l ++ q)).drop 0).take n = ints k (l.take n) := by
    unfold ints
    rw [List.drop_zero, ← List.map_take, List.take_append_of_le_length hl]
  have h := op_load (P := P) (E := E) (ty := ty) (pos := pos) (after := after) (gd := gd) (o := 0) (d := d) i n hx hb hT (by rw [e]; simp [ints]; omega) (fun h => by cases h) hn
  rw [e] at h
  exact h
theorem op_loadRA {t n m c : Nat} {A : Addr} {k : IntKind} {l : List Int} {enc : Int → List Value} (i : Nat) (henc : ∀ q, enc q = [.int k q]) (hx : s.ev x = some (.pointer (some A))) (hf : s.f[i]? = some (.row (.slice (some A) m c) 1 (l.map enc))) (hT : TI P t true n) (hl : n ≤ l.length) (hn : d < s.n := by exact ltn rfl) :
    OpV P E ⟨some d, .load t x, ty, pos, after, gd⟩ s d (.agg (ints k (l.take n)).toArray) := by
  have e : (l.map enc).flatten = ints k l := by
    unfold ints
    clear hf hl
    induction l with
    | nil => rfl
    | cons q l ih => simp [henc, ih]
  have e2 : (ints k (l.take n)).length = n := by simp [ints]; omega
  have h := op_load_run (P := P) (E := E) (s := s) (ty := ty) (pos := pos) (after := after) (gd := gd) (d := d) (x := x) (t := t) (ad := A) (ls := ints k (l.take n)) (agg := true) hx (by rw [e2]; exact hT) (fun h => by cases h) hn (fun w hi j u hu => by
    refine src_row (E := E) i hf w hi j u ?_
    rw [e]
    unfold ints at hu ⊢
    rw [List.getElem?_map] at hu ⊢
    rw [List.getElem?_take] at hu
    split at hu
    · exact hu
    · cases hu)
  exact h
/-- A slice of numbers that is made. -/
theorem o_makeSliceI {t e bytes n : Nat} {k k1 k2 : IntKind} {n0 : Nat} {t0 : List (Nat × Value)} {f0 : List Fact} {b0 : List (Nat × TypeId × List Value)} {r0 : List (Value × TypeId × Nat × List (List Value))} (ht : P.underlying t = some (.slice e)) (hE : EI P e 1 bytes) (hz : (P.info? e).map (·.zero) = some (some (.int k 0))) (hx : St.ev ⟨n0, t0, f0, b0, r0⟩ x = some (.int k1 n)) (hy : St.ev ⟨n0, t0, f0, b0, r0⟩ y = some (.int k2 n)) (hbig : n * bytes ≤ 140737488355328) (hn : d < n0)
    {l : List Oper} (hg : guardOn ops ⟨n0, t0, f0, b0, r0⟩ ⟨some d, .makeSlice t x y, ty, pos, after, gd⟩ = some true)
    (h : ∀ g, VL P E ops Q l ⟨n0, (d, .slice (some ⟨g, 0, none⟩) n n) :: t0, f0, (g, e, ints k (List.replicate n 0 ++ [])) :: b0, r0⟩) : VL P E ops Q (⟨some d, .makeSlice t x y, ty, pos, after, gd⟩ :: l) ⟨n0, t0, f0, b0, r0⟩ := by
  refine VL.step (R := fun s' => ∃ g, s' = ⟨n0, (d, .slice (some ⟨g, 0, none⟩) n n) :: t0, f0, (g, e, ints k (List.replicate n 0 ++ [])) :: b0, r0⟩) ?_ hg (by rintro _ ⟨g, rfl⟩; exact h g)
  intro a w K Q hi hk
  obtain ⟨inf, z, h1, h2, h3, h4, h5⟩ := hE.ei
  have hzz : z = .int k 0 := by
    rw [h1, Option.map_some, h2] at hz
    exact Option.some.inj (Option.some.inj hz)
  subst hzz
  have hbp := hE.bpos
  have hlen : n ≤ 140737488355328 := Nat.le_trans (Nat.le_mul_of_pos_right _ hbp) hbig
  have hr := run_make (P := P) w t e inf _ ht h1 h2 k1 k2 n n (by omega) (Int.le_refl _) (by
    have : ((n * bytes : Nat) : Int) ≤ 140737488355328 := by omega
    rw [h4]
    rw [Int.natCast_mul, Int.mul_comm] at this
    omega) (by omega)
  simp only [Int.toNat_natCast, h3, Nat.mul_one] at hr
  have hm : (madeCells (Value.int k 0).cells n).toList = ints k (List.replicate n 0 ++ []) := by
    unfold madeCells ints
    rw [List.append_nil]
    apply List.ext_getElem
    · simp
    · intro i h1 h2
      simp [Value.cells, Nat.mod_one]
  have : (execOp a.eval ⟨some d, .makeSlice t x y, ty, pos, after, gd⟩).run P w = .ok (.value (.slice (some ⟨w.heap.size, 0, none⟩) n n)) (w.alloc (.cells (madeCells (Value.int k 0).cells n) e)) := by
    simp only [execOp, hi.ev hx, hi.ev hy, Sem.run_bind, hr, Result.andThen_ok, Sem.run_pure]
  refine wo_value this ?_
  have hal := hi.alloc e (madeCells (Value.int k 0).cells n).toList
  rw [Array.toArray_toList, hm] at hal
  exact hk _ _ _ ⟨w.heap.size, rfl⟩ (hal.put (by exact hn) _)
/-- A slice as a pointer to an array. -/
theorem op_arrayAt {t e n m c : Nat} {A : Option Addr} (ht : P.underlying t = some (.array n e)) (hx : s.ev x = some (.slice A m c)) (hm : n ≤ m) (hn : d < s.n := by exact ltn rfl) :
    OpV P E ⟨some d, .sliceToArrayPointer t x, ty, pos, after, gd⟩ s d (.pointer A) :=
  op_val rfl hn (fun a ha w => by
    have : ¬ m < n := by omega
    simp [execOp, ha x _ hx, Instr.arrayAt, run_underlying ht, this])
theorem o_makeSliceJ {t e bytes : Nat} {m : Int} {k k1 k2 : IntKind} {n0 : Nat} {t0 : List (Nat × Value)} {f0 : List Fact} {b0 : List (Nat × TypeId × List Value)} {r0 : List (Value × TypeId × Nat × List (List Value))} (ht : P.underlying t = some (.slice e)) (hE : EI P e 1 bytes) (hz : (P.info? e).map (·.zero) = some (some (.int k 0))) (hx : St.ev ⟨n0, t0, f0, b0, r0⟩ x = some (.int k1 m)) (hy : St.ev ⟨n0, t0, f0, b0, r0⟩ y = some (.int k2 m)) (h0 : 0 ≤ m) (hbig : m.toNat * bytes ≤ 140737488355328) (hn : d < n0)
    {l : List Oper} (hg : guardOn ops ⟨n0, t0, f0, b0, r0⟩ ⟨some d, .makeSlice t x y, ty, pos, after, gd⟩ = some true)
    (h : ∀ g, VL P E ops Q l ⟨n0, (d, .slice (some ⟨g, 0, none⟩) m.toNat m.toNat) :: t0, f0, (g, e, ints k (List.replicate m.toNat 0 ++ [])) :: b0, r0⟩) : VL P E ops Q (⟨some d, .makeSlice t x y, ty, pos, after, gd⟩ :: l) ⟨n0, t0, f0, b0, r0⟩ := by
  have e : ((m.toNat : Nat) : Int) = m := Int.toNat_of_nonneg h0
  exact o_makeSliceI (n := m.toNat) ht hE hz (hx.trans (by rw [e])) (hy.trans (by rw [e])) hbig hn hg h
end
end Go.Proofs.YtipeglbeongfmaaV
