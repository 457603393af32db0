/- Operations that compute, and those on slices; no condition of its own. -/
import Derived.Test.YtipeglbeongfmaaV2
import Derived.Laws.StructEq
import Derived.WalkLawsBesides
namespace Go.Proofs.YtipeglbeongfmaaV
open Go Go.RowKit
set_option linter.unusedVariables false
set_option linter.unusedSimpArgs false

theorem i64w (n : Int) : IntKind.i64.wrap n = wrap64 n := by unfold wrap64; exact IntKind.wrap_i64 n

section
variable {P : Program} {E : Env} {w w' : World} {s s' : St} {a : Act} {ops : Array Oper} {rest : List Oper} {Q : Exit → Act → World → Prop} {d : Nat} {v u : Value} {x y z : Operand}
variable {ty : TypeId} {pos : String} {after : Array Edge} {gd : Option (Nat × Bool)}

theorem evals {args : List Operand} {vals : List Value} (h : ∀ x u, s.ev x = some u → a.eval x = u) (ha : args.map s.ev = vals.map some) : args.map a.eval = vals := by
  induction args generalizing vals with
  | nil => cases vals <;> simp_all
  | cons x xs ih =>
    cases vals with
    | nil => simp at ha
    | cons v vs =>
      simp only [List.map_cons, List.cons.injEq] at ha ⊢
      exact ⟨h x v ha.1, ih ha.2⟩
theorem op_pick {b : Bool} (hc : s.ev z = some (.bool b)) (hv : s.ev (if b then x else y) = some v) (hn : d < s.n := by exact ltn rfl) : OpV P E ⟨some d, .pick z x y, ty, pos, after, gd⟩ s d v :=
  op_val rfl hn (fun a ha w => by
    cases b
    · have := ha y v hv
      simp [execOp, ha z _ hc, asBool, this]
    · have := ha x v hv
      simp [execOp, ha z _ hc, asBool, this])
theorem op_extract {vs : List Value} {i : Nat} (hx : s.ev x = some (.tuple vs.toArray)) (hv : vs[i]? = some v) (hn : d < s.n := by exact ltn rfl) : OpV P E ⟨some d, .extract x i, ty, pos, after, gd⟩ s d v :=
  op_val rfl hn (fun a ha w => by simp [execOp, ha x _ hx, Instr.extract, hv])
theorem op_makeFunc {f : FuncId} {caps : List Operand} {vals : List Value} (ha : caps.map s.ev = vals.map some) (hn : d < s.n := by exact ltn rfl) : OpV P E ⟨some d, .makeFunc (.func f) #[] caps.toArray, ty, pos, after, gd⟩ s d (.func (.func f) #[] vals.toArray) :=
  op_val rfl hn (fun a h w => by simp [execOp, Instr.makeFunc, evals h ha])

/-! ### numbers, truths, texts -/
def cmpI : BinOp → Int → Int → Option Bool
  | .eql, a, b => some (a == b)
  | .neq, a, b => some (a != b)
  | .lss, a, b => some (decide (a < b))
  | .leq, a, b => some (decide (a ≤ b))
  | .gtr, a, b => some (decide (a > b))
  | .geq, a, b => some (decide (a ≥ b))
  | _, _, _ => none
def ariI : BinOp → Int → Int → Option Int
  | .add, a, b => some (a + b)
  | .sub, a, b => some (a - b)
  | .mul, a, b => some (a * b)
  | _, _, _ => none
theorem op_cmp {op : BinOp} {t t' : TypeId} {k : IntKind} {m n : Int} {b : Bool} (hx : s.ev x = some (.int k m)) (hy : s.ev y = some (.int k n)) (hb : cmpI op m n = some b) (hn : d < s.n := by exact ltn rfl) : OpV P E ⟨some d, .binOp op t x y t', ty, pos, after, gd⟩ s d (.bool b) :=
  op_val rfl hn (fun a ha w => by
    cases op <;> simp only [cmpI, Option.some.injEq] at hb <;> first | (subst hb; simp [execOp, ha x _ hx, ha y _ hy, eqGuard, binOp, Op.intCmp]; done) | cases hb)
theorem op_ari {op : BinOp} {t t' : TypeId} {k : IntKind} {m n : Int} {q : Int} (hx : s.ev x = some (.int k m)) (hy : s.ev y = some (.int k n)) (hb : (ariI op m n).map k.wrap = some q) (hn : d < s.n := by exact ltn rfl) : OpV P E ⟨some d, .binOp op t x y t', ty, pos, after, gd⟩ s d (.int k q) :=
  op_val rfl hn (fun a ha w => by
    cases op <;> simp only [ariI, Option.map_some, Option.some.injEq] at hb <;> first | (subst hb; simp [execOp, ha x _ hx, ha y _ hy, eqGuard, binOp, Op.intArith]; done) | cases hb)
theorem op_ari64 {op : BinOp} {t t' : TypeId} {m n : Int} {q : Int} (hx : s.ev x = some (.int .i64 m)) (hy : s.ev y = some (.int .i64 n)) (hb : (ariI op m n).map wrap64 = some q) (hn : d < s.n := by exact ltn rfl) : OpV P E ⟨some d, .binOp op t x y t', ty, pos, after, gd⟩ s d (.int .i64 q) :=
  op_ari hx hy (by rw [← hb]; congr 1; funext n; exact i64w n) hn
theorem op_quo {t t' : TypeId} {k : IntKind} {m n q : Int} (hx : s.ev x = some (.int k m)) (hy : s.ev y = some (.int k n)) (h0 : n ≠ 0) (hb : k.wrap (m.tdiv n) = q) (hn : d < s.n := by exact ltn rfl) : OpV P E ⟨some d, .binOp .quo t x y t', ty, pos, after, gd⟩ s d (.int k q) :=
  op_val rfl hn (fun a ha w => by subst hb; simp [execOp, ha x _ hx, ha y _ hy, eqGuard, binOp, Op.intDiv, h0])
theorem op_rem {t t' : TypeId} {k : IntKind} {m n q : Int} (hx : s.ev x = some (.int k m)) (hy : s.ev y = some (.int k n)) (h0 : n ≠ 0) (hb : m.tmod n = q) (hn : d < s.n := by exact ltn rfl) : OpV P E ⟨some d, .binOp .rem t x y t', ty, pos, after, gd⟩ s d (.int k q) :=
  op_val rfl hn (fun a ha w => by subst hb; simp [execOp, ha x _ hx, ha y _ hy, eqGuard, binOp, Op.intDiv, h0])
theorem op_eqb {op : BinOp} {t t' : TypeId} {m n b : Bool} (ht : P.underlying t = some .bool) (hx : s.ev x = some (.bool m)) (hy : s.ev y = some (.bool n)) (hb : (match op with | .eql => some (m == n) | .neq => some (!(m == n)) | _ => none) = some b) (hn : d < s.n := by exact ltn rfl) : OpV P E ⟨some d, .binOp op t x y t', ty, pos, after, gd⟩ s d (.bool b) :=
  op_val rfl hn (fun a ha w => by
    cases op <;> simp only [Option.some.injEq] at hb <;> first | (subst hb; simp [execOp, ha x _ hx, ha y _ hy, eqGuard, binOp, Op.equal, Op.maxDepth, run_equalIn_bool' w _ t m n ht]; done) | cases hb)
def cmpS : BinOp → ByteArray → ByteArray → Option Bool
  | .eql, a, b => some (a == b)
  | .neq, a, b => some (a != b)
  | .lss, a, b => some (Op.bytesLess a.toList b.toList)
  | .leq, a, b => some (Op.bytesLess a.toList b.toList || a == b)
  | .gtr, a, b => some (!(Op.bytesLess a.toList b.toList || a == b))
  | .geq, a, b => some (!Op.bytesLess a.toList b.toList)
  | _, _, _ => none
theorem op_cmps {op : BinOp} {t t' : TypeId} {m n : ByteArray} {b : Bool} (hx : s.ev x = some (.string m)) (hy : s.ev y = some (.string n)) (hb : cmpS op m n = some b) (hn : d < s.n := by exact ltn rfl) : OpV P E ⟨some d, .binOp op t x y t', ty, pos, after, gd⟩ s d (.bool b) :=
  op_val rfl hn (fun a ha w => by
    have e := beq_toListBytes m n
    have e2 : (m != n) = !(m.toList == n.toList) := by rw [← e]; rfl
    cases op <;> simp only [cmpS, Option.some.injEq] at hb <;> first | (subst hb; simp only [execOp, ha x _ hx, ha y _ hy, eqGuard, binOp, Op.stringOp, e, e2]; rfl) | cases hb)
theorem op_adds {t t' : TypeId} {m n q : ByteArray} (hx : s.ev x = some (.string m)) (hy : s.ev y = some (.string n)) (hq : m ++ n = q) (hl : m.size + n.size ≤ 9223372036854775807) (hn : d < s.n := by exact ltn rfl) : OpV P E ⟨some d, .binOp .add t x y t', ty, pos, after, gd⟩ s d (.string q) :=
  op_val rfl hn (fun a ha w => by
    subst hq
    have : ¬ (((m.size + n.size : Nat) : Int) > IntKind.i64.max) := by
      have : IntKind.i64.max = 9223372036854775807 := by decide
      rw [this]
      omega
    simp only [execOp, ha x _ hx, ha y _ hy, eqGuard, binOp, Op.stringOp, if_neg this]
    rfl)
theorem op_not {t : TypeId} {b c : Bool} (hx : s.ev x = some (.bool b)) (hc : (!b) = c) (hn : d < s.n := by exact ltn rfl) : OpV P E ⟨some d, .unOp .not t x, ty, pos, after, gd⟩ s d (.bool c) :=
  op_val rfl hn (fun a ha w => by subst hc; simp [execOp, ha x _ hx, Op.unary])
theorem op_neg {t : TypeId} {k : IntKind} {m q : Int} (hx : s.ev x = some (.int k m)) (hq : k.wrap (0 - m) = q) (hn : d < s.n := by exact ltn rfl) : OpV P E ⟨some d, .unOp .neg t x, ty, pos, after, gd⟩ s d (.int k q) :=
  op_val rfl hn (fun a ha w => by subst hq; simp [execOp, ha x _ hx, Op.unary, Op.intArith])
theorem op_conv {t1 t2 : TypeId} {k k2 : IntKind} {d1 : TypeDesc} {m q : Int} (h1 : P.underlying t1 = some d1) (h2 : P.underlying t2 = some (.int k2)) (hx : s.ev x = some (.int k m)) (hq : k2.wrap m = q) (hn : d < s.n := by exact ltn rfl) : OpV P E ⟨some d, .convert t1 t2 x, ty, pos, after, gd⟩ s d (.int k2 q) :=
  op_val rfl hn (fun a ha w => by
    subst hq
    cases d1 <;> simp [execOp, ha x _ hx, convert, run_underlying h1, run_underlying h2, Conv.intToInt])
def mmI : Bool → List Value → Option Value
  | mn, .int k m :: rest => rest.foldlM (fun acc u => match acc, u with | .int k x, .int _ y => some (.int k (if mn then (if y < x then y else x) else (if x < y then y else x))) | _, _ => none) (.int k m)
  | _, _ => none
theorem op_min {args : List Operand} {ats : Array TypeId} {k k' : IntKind} {m n q : Int} (ha : args.map s.ev = [some (.int k m), some (.int k' n)]) (hq : (if n < m then n else m) = q) (hn : d < s.n := by exact ltn rfl) : OpV P E ⟨some d, .call { callee := .builtin .min, args := args.toArray, argTypes := ats }, ty, pos, after, gd⟩ s d (.int k q) :=
  op_val rfl hn (fun a h w => by
    have h2 : args.map a.eval = [.int k m, .int k' n] := evals (vals := [.int k m, .int k' n]) h (by simpa using ha)
    subst hq
    simp [execOp, resolve, invoke, builtin, Builtin.min_, h2, Builtin.min2])
theorem op_max {args : List Operand} {ats : Array TypeId} {k k' : IntKind} {m n q : Int} (ha : args.map s.ev = [some (.int k m), some (.int k' n)]) (hq : (if m < n then n else m) = q) (hn : d < s.n := by exact ltn rfl) : OpV P E ⟨some d, .call { callee := .builtin .max, args := args.toArray, argTypes := ats }, ty, pos, after, gd⟩ s d (.int k q) :=
  op_val rfl hn (fun a h w => by
    have h2 : args.map a.eval = [.int k m, .int k' n] := evals (vals := [.int k m, .int k' n]) h (by simpa using ha)
    subst hq
    simp [execOp, resolve, invoke, builtin, Builtin.max_, h2, Builtin.max2])

/-! ### places -/
structure FI (P : Program) (t : TypeId) (i off k : Nat) : Prop where
  fi : ∃ (fs : Array Field) (f : Field) (agg : Bool), P.underlying t = some (.struct fs) ∧ fs[i]? = some f ∧ f.offset = off ∧ TI P f.type agg k
theorem op_fieldAddr {t : TypeId} {i off k : Nat} {ad ad' : Addr} (hF : FI P t i off (k + 1)) (hx : s.ev x = some (.pointer (some ad))) (he : ad.add off = ad') (hn : d < s.n := by exact ltn rfl) : OpV P E ⟨some d, .fieldAddr t x i, ty, pos, after, gd⟩ s d (.pointer (some ad')) :=
  op_val rfl hn (fun a ha w => by
    subst he
    obtain ⟨fs, f, agg, h1, h2, rfl, h3⟩ := hF.fi
    simp [execOp, ha x _ hx, Instr.fieldAt, run_underlying h1, h2, Instr.sureAddr, fieldPlace, run_size h3 w])
theorem op_field {t : TypeId} {i off k : Nat} {xs : List Value} {agg : Bool} (hu : ∃ (fs : Array Field) (f : Field), P.underlying t = some (.struct fs) ∧ fs[i]? = some f ∧ f.offset = off ∧ TI P f.type agg k) (hx : s.ev x = some (.agg xs.toArray)) (hl : ((xs.drop off).take k).length = k) (h1 : agg = false → k = 1) (hn : d < s.n := by exact ltn rfl) :
    OpV P E ⟨some d, .field t x i, ty, pos, after, gd⟩ s d (valOf agg ((xs.drop off).take k)) :=
  op_val rfl hn (fun a ha w => by
    obtain ⟨fs, f, h1, h2, rfl, h3⟩ := hu
    have hp : (part f.type xs.toArray f.offset).run P w = .ok (valOf agg ((xs.drop f.offset).take k)) w := by
      unfold part
      rw [Sem.run_bind, run_isAgg h3 w, Result.andThen_ok]
      cases agg with
      | true => simp [run_size h3 w, valOf, List.extract_eq_take_drop]
      | false =>
        have hk := (‹false = false → k = 1›) rfl
        subst hk
        have : ((xs.drop f.offset).take 1).length = 1 := hl
        have hlt : f.offset < xs.length := by simp at this; omega
        have e : (xs.drop f.offset).take 1 = [xs[f.offset]] := by
          rw [List.drop_eq_getElem_cons hlt, List.take_succ_cons, List.take_zero]
        simp [valOf, e, hlt]
    simp [execOp, ha x _ hx, Instr.field, run_underlying h1, h2, asAgg, hp])

/-! ### slices -/
theorem op_len {t : TypeId} {e : TypeId} {sz m : Nat} {es : List (List Value)} (i : Nat) (hm : es.length = m) (ht : P.underlying t = some (.slice e)) (hx : s.ev x = some v) (hf : s.f[i]? = some (.row v sz es)) (hn : d < s.n := by exact ltn rfl) :
    OpV P E ⟨some d, .call { callee := .builtin .len, args := #[x], argTypes := #[t] }, ty, pos, after, gd⟩ s d (.int .i64 m) :=
  ⟨rfl, hn, fun a w h hmm => by
    subst hm
    obtain ⟨_, A, c, rfl, _⟩ := hmm.facts _ (List.mem_of_getElem? hf)
    simp [execOp, resolve, invoke, builtin, Builtin.len_, h x _ hx, run_underlying ht, goInt]⟩
theorem own_form {base : Nat} {e sz : Nat} {es : List (List Value)} {v : Value} (h : rowHolds base w (v, e, sz, es)) : ∃ A c, v = .slice A es.length c := by
  obtain ⟨_, _, h2⟩ := h
  rcases h2 with ⟨h3, h4⟩ | ⟨g, cap, cur, h3, _⟩
  · simp only at h3 h4
    exact ⟨none, 0, by rw [h3, h4]⟩
  · exact ⟨_, _, h3⟩
theorem op_len_own {t : TypeId} {e e' : TypeId} {sz m : Nat} {es : List (List Value)} (i : Nat) (hm : es.length = m) (ht : P.underlying t = some (.slice e)) (hx : s.ev x = some v) (hf : s.r[i]? = some (v, e', sz, es)) (hn : d < s.n := by exact ltn rfl) :
    OpV P E ⟨some d, .call { callee := .builtin .len, args := #[x], argTypes := #[t] }, ty, pos, after, gd⟩ s d (.int .i64 m) :=
  ⟨rfl, hn, fun a w h hmm => by
    subst hm
    obtain ⟨A, c, rfl⟩ := own_form (hmm.rows _ (List.mem_of_getElem? hf))
    simp [execOp, resolve, invoke, builtin, Builtin.len_, h x _ hx, run_underlying ht, goInt]⟩
theorem op_lens {t : TypeId} {b : ByteArray} (ht : P.underlying t = some .string) (hx : s.ev x = some (.string b)) (hn : d < s.n := by exact ltn rfl) :
    OpV P E ⟨some d, .call { callee := .builtin .len, args := #[x], argTypes := #[t] }, ty, pos, after, gd⟩ s d (.int .i64 b.size) :=
  op_val rfl hn (fun a ha w => by simp [execOp, resolve, invoke, builtin, Builtin.len_, ha x _ hx, run_underlying ht, goInt])

/-- Where a row lies. -/
theorem VL.open {l : List Oper} {sz m : Nat} {es : List (List Value)} (i : Nat) (hm : es.length = m) (hf : s.f[i]? = some (.row v sz es)) (h0 : 0 < m) (h : ∀ ad c, v = .slice (some ad) m c → VL P E ops Q l s) : VL P E ops Q l s := by
  intro a w hi
  subst hm
  obtain ⟨_, A, c, e, _, _, h3, _⟩ := hi.facts _ (List.mem_of_getElem? hf)
  obtain ⟨ad, rfl, _⟩ := h3 h0
  exact h ad c e a w hi
theorem VC.open {l : Code} {sz m : Nat} {es : List (List Value)} (i : Nat) (hm : es.length = m) (hf : s.f[i]? = some (.row v sz es)) (h0 : 0 < m) (h : ∀ ad c, v = .slice (some ad) m c → VC P E l Q s) : VC P E l Q s := by
  intro a w hi
  subst hm
  obtain ⟨_, A, c, e, _, _, h3, _⟩ := hi.facts _ (List.mem_of_getElem? hf)
  obtain ⟨ad, rfl, _⟩ := h3 h0
  exact h ad c e a w hi
theorem own_at {base : Nat} {e sz : Nat} {es : List (List Value)} {v : Value} (h : rowHolds base w (v, e, sz, es)) (h0 : 0 < es.length) : ∃ g cap, v = .slice (some ⟨g, 0, none⟩) es.length cap := by
  obtain ⟨_, _, h2⟩ := h
  rcases h2 with ⟨h3, h4⟩ | ⟨g, cap, cur, h3, _⟩
  · simp only at h4
    omega
  · exact ⟨_, _, h3⟩
theorem VL.openR {l : List Oper} {e sz m : Nat} {es : List (List Value)} (i : Nat) (hm : es.length = m) (hf : s.r[i]? = some (v, e, sz, es)) (h0 : 0 < m) (h : ∀ g cap, v = .slice (some ⟨g, 0, none⟩) m cap → VL P E ops Q l s) : VL P E ops Q l s := by
  intro a w hi
  subst hm
  obtain ⟨g, cap, e⟩ := own_at (hi.rows _ (List.mem_of_getElem? hf)) h0
  exact h g cap e a w hi
theorem VC.openR {l : Code} {e sz m : Nat} {es : List (List Value)} (i : Nat) (hm : es.length = m) (hf : s.r[i]? = some (v, e, sz, es)) (h0 : 0 < m) (h : ∀ g cap, v = .slice (some ⟨g, 0, none⟩) m cap → VC P E l Q s) : VC P E l Q s := by
  intro a w hi
  subst hm
  obtain ⟨g, cap, e⟩ := own_at (hi.rows _ (List.mem_of_getElem? hf)) h0
  exact h g cap e a w hi

/-- An element's place. -/
theorem op_indexAddr {t : TypeId} {e : TypeId} {sz n c : Nat} {agg : Bool} {k : IntKind} {j : Int} {ad ad' : Addr} (ht : P.underlying t = some (.slice e)) (hT : TI P e agg sz) (hx : s.ev x = some (.slice (some ad) n c)) (hy : s.ev y = some (.int k j)) (h0 : 0 ≤ j) (hj : j < (n : Int)) (he : ad.add (j.toNat * sz) = ad') (hn : d < s.n := by exact ltn rfl) :
    OpV P E ⟨some d, .indexAddr t x y, ty, pos, after, gd⟩ s d (.pointer (some ad')) :=
  op_val rfl hn (fun a ha w => by
    subst he
    simp [execOp, ha x _ hx, ha y _ hy, Instr.indexAt, asIntOf, run_underlying ht, run_size hT w, h0, hj])
/-- An element of a row that is only read, or a part of it. -/
theorem op_load_row {t : TypeId} {ad : Addr} {n c sz o : Nat} {es : List (List Value)} {ls : List Value} {agg : Bool} (i j k : Nat) (hx : s.ev x = some (.pointer (some (ad.add (j * sz + o))))) (hr : s.f[i]? = some (.row (.slice (some ad) n c) sz es)) (hj : es[j]? = some ls) (hT : TI P t agg k) (hl : ((ls.drop o).take k).length = k) (h1 : agg = false → k = 1) (hn : d < s.n := by exact ltn rfl) :
    OpV P E ⟨some d, .load t x, ty, pos, after, gd⟩ s d (valOf agg ((ls.drop o).take k)) :=
  op_load_run hx (by rw [hl]; exact hT) (fun e => by rw [hl]; exact h1 e) hn (fun w hm q u hu => by
    obtain ⟨_, A, c', he, _, _, _, h4⟩ := hm.facts _ (List.mem_of_getElem? hr)
    have hA : A = some ad := by
      simp only [Value.slice.injEq] at he
      exact he.1.symm
    have hq : q < k := by have := (List.getElem?_eq_some_iff.1 hu).1; omega
    rw [List.getElem?_take, if_pos hq, List.getElem?_drop] at hu
    rw [add_add, Nat.add_assoc]
    exact h4 j ls hj ad hA _ _ hu)

theorem own_cell {base g cap e sz m : Nat} {es : List (List Value)} (h : rowHolds base w (.slice (some ⟨g, 0, none⟩) m cap, e, sz, es)) {i j : Nat} {ls : List Value} {u : Value} (hi : es[i]? = some ls) (hj : ls[j]? = some u) : w.cell? ⟨g, i * sz + j, none⟩ = some u := by
  obtain ⟨hf, h1, h2⟩ := h
  rcases h2 with ⟨h3, _⟩ | ⟨g', cap', cur, h3, h4, h5, h6, h7, h8, h9⟩
  · cases h3
  · simp only [Value.slice.injEq, Option.some.injEq, Addr.mk.injEq, and_true, true_and] at h3
    obtain ⟨rfl, _, rfl⟩ := h3
    have hfl := Lent.holds.flat_get hf hi hj
    have hlen : i * sz + j < es.length * sz := by
      have := (List.getElem?_eq_some_iff.1 hfl).1
      rw [h1] at this
      exact this
    simp only [World.cell?, h5]
    rw [← h9, List.getElem?_take, if_pos hlen] at hfl
    simpa using hfl

/-- An element of a row of the call's own, or a part of it, is read. -/
theorem op_load_own {t : TypeId} {g cap e sz o m : Nat} {es : List (List Value)} {ls : List Value} {agg : Bool} (i j k : Nat) (hx : s.ev x = some (.pointer (some ⟨g, j * sz + o, none⟩))) (hr : s.r[i]? = some (.slice (some ⟨g, 0, none⟩) m cap, e, sz, es)) (hj : es[j]? = some ls) (hT : TI P t agg k) (hl : ((ls.drop o).take k).length = k) (h1 : agg = false → k = 1) (hn : d < s.n := by exact ltn rfl) :
    OpV P E ⟨some d, .load t x, ty, pos, after, gd⟩ s d (valOf agg ((ls.drop o).take k)) :=
  op_load_run hx (by rw [hl]; exact hT) (fun e => by rw [hl]; exact h1 e) hn (fun w hi q u hu => by
    have hr2 := hi.rows _ (List.mem_of_getElem? hr)
    have hq : q < k := by have := (List.getElem?_eq_some_iff.1 hu).1; omega
    rw [List.getElem?_take, if_pos hq, List.getElem?_drop] at hu
    rw [add_at, Nat.add_assoc]
    exact own_cell hr2 hj hu)

/-- A row is written no more: it is only read from here on. -/
theorem Inv.freezeRow (h : Inv E s a w) {e sz : Nat} {es : List (List Value)} (i : Nat) (hr : s.r[i]? = some (v, e, sz, es)) : Inv E { s with r := s.r.eraseIdx i, f := .row v sz es :: s.f } a w := by
  have hrow := h.rows _ (List.mem_of_getElem? hr)
  have hl := (List.getElem?_eq_some_iff.1 hr).1
  have hsub : List.Sublist (St.blocks { s with r := s.r.eraseIdx i, f := .row v sz es :: s.f }) s.blocks := by
    unfold St.blocks
    exact List.Sublist.append (List.Sublist.refl _) ((List.eraseIdx_sublist _ _).filterMap _)
  refine h.mem rfl rfl h.below (fun k hk => ⟨⟨hk.1, hk.2.1, fun hm => hk.2.2 (hsub.subset hm)⟩, rfl⟩) (fun x hx => ?_) (fun x hx => .inl ⟨hx, rfl⟩) (fun x hx => .inl ⟨List.eraseIdx_subset hx, fun _ _ => rfl⟩) (hsub.nodup h.nodup)
  rcases List.mem_cons.1 hx with rfl | hx
  · have h2 := Lent.holds (x := .row v sz es) h (.inr (.inl ⟨_, List.mem_of_getElem? hr, rfl⟩))
    obtain ⟨hf, A, c, rfl, h3, h4, h5, h6⟩ := h2
    refine .inr ⟨hf, A, c, rfl, h3, h4, fun hp => ?_, h6⟩
    obtain ⟨ad, rfl, hk⟩ := h5 hp
    have hb := hrow.2.lt ad.block rfl
    refine ⟨ad, rfl, .inr hb.1, hb.2, fun hm => ?_⟩
    have hnd := h.nodup
    unfold St.blocks at hnd hm
    rw [List.nodup_append] at hnd
    rcases List.mem_append.1 hm with hm | hm
    · exact hnd.2.2 _ hm _ (List.mem_filterMap.2 ⟨_, List.mem_of_getElem? hr, rfl⟩) rfl
    · obtain ⟨y, hy, hby⟩ := List.mem_filterMap.1 hm
      obtain ⟨j, hj⟩ := List.getElem?_of_mem hy
      rw [List.getElem?_eraseIdx] at hj
      split at hj
      · have := pick_nodup.two_at hnd.2.1 hr (b := ad.block) rfl hj hby
        omega
      · have := pick_nodup.two_at hnd.2.1 hr (b := ad.block) rfl hj hby
        omega
  · exact .inl hx

theorem VC.freeze {c : Code} {g : Nat} {T : TypeId} {xs : List Value} (i : Nat) (hb : s.b[i]? = some (g, T, xs)) (h : VC P E c Q { s with b := s.b.eraseIdx i, f := .at_ ⟨g, 0, none⟩ xs :: s.f }) : VC P E c Q s := fun a w hi => h a w (hi.freeze i hb)
theorem VC.freezeRow {c : Code} {e sz : Nat} {es : List (List Value)} (i : Nat) (hr : s.r[i]? = some (v, e, sz, es)) (h : VC P E c Q { s with r := s.r.eraseIdx i, f := .row v sz es :: s.f }) : VC P E c Q s := fun a w hi => h a w (hi.freezeRow i hr)
theorem VL.freeze {l : List Oper} {g : Nat} {T : TypeId} {xs : List Value} (i : Nat) (hb : s.b[i]? = some (g, T, xs)) (h : VL P E ops Q l { s with b := s.b.eraseIdx i, f := .at_ ⟨g, 0, none⟩ xs :: s.f }) : VL P E ops Q l s := fun a w hi => h a w (hi.freeze i hb)
theorem VL.freezeRow {l : List Oper} {e sz : Nat} {es : List (List Value)} (i : Nat) (hr : s.r[i]? = some (v, e, sz, es)) (h : VL P E ops Q l { s with r := s.r.eraseIdx i, f := .row v sz es :: s.f }) : VL P E ops Q l s := fun a w hi => h a w (hi.freezeRow i hr)
end
end Go.Proofs.YtipeglbeongfmaaV
