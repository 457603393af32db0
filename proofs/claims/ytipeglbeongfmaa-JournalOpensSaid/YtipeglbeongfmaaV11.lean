/- Tests for nil, appending in place, clearing, cuts with a room, texts and bytes; no condition of its own. -/
import Derived.Test.YtipeglbeongfmaaV10
import Derived.Laws.IdiomStrings
import Derived.Laws.BytesArg
import Derived.WalkSpells
import Derived.Lib.Bytealg
namespace Go.Proofs.YtipeglbeongfmaaV
open Go Go.RowKit
set_option linter.unusedVariables false
set_option linter.unusedSimpArgs false
theorem lt_get_len {α : Type} {xs : List α} {i : Int} {n : Nat} {x : α} (hl : xs.length = n) (h0 : 0 ≤ i) (h : xs[i.toNat]? = some x) : i < (n : Int) := hl ▸ lt_get h0 h
theorem del_is {cur D us : List Value} {I J N : Nat} (hN : N ≤ cur.length) (hI : I ≤ J) (hJ : J ≤ N) (hD : D = (cur.drop J).take (N - J)) :
    (upd (upd cur I D) (I + (N - J)) us).take (I + (N - J)) = (cur.take N).take I ++ (cur.take N).drop J := by
  have h3 : D.length = N - J := by rw [hD, List.length_take, List.length_drop]; omega
  have h1 : (cur.take I).length = I := by rw [List.length_take]; omega
  have e1 : upd cur I D = (cur.take I ++ D) ++ cur.drop (I + D.length) := by unfold upd; rfl
  have h2 : (cur.take I ++ D).length = I + (N - J) := by rw [List.length_append, h1, h3]
  have e2 : (upd cur I D).take (I + (N - J)) = cur.take I ++ D := by rw [e1, List.take_left' h2]
  have e3 : upd (upd cur I D) (I + (N - J)) us = (cur.take I ++ D) ++ (us ++ (upd cur I D).drop (I + (N - J) + us.length)) := by
    show (upd cur I D).take (I + (N - J)) ++ us ++ (upd cur I D).drop (I + (N - J) + us.length) = _
    rw [e2, List.append_assoc]
  rw [e3, List.take_left' h2, hD, List.take_take, Nat.min_eq_left (by omega), List.drop_take]
section
variable {P : Program} {E : Env} {w w' : World} {s s' : St} {a : Act} {o : Oper} {ops : Array Oper} {rest : List Oper} {Q : Exit → Act → World → Prop} {d : Nat} {v u : Value} {x y z : Operand}
variable {ty : TypeId} {pos : String} {after : Array Edge} {gd : Option (Nat × Bool)}
  {n0 : Nat} {t0 : List (Nat × Value)} {f0 : List Fact} {b0 : List (Nat × TypeId × List Value)} {r0 : List (Value × TypeId × Nat × List (List Value))}

theorem VC.formF {c : Code} {sz : Nat} {es : List (List Value)} (i : Nat) (hf : f0[i]? = some (.row v sz es)) (h : ∀ A cap, v = .slice A es.length cap → es.length ≤ cap → cap ≤ maxLen → (A = none → es.length = 0) → VC P E c Q ⟨n0, t0, f0, b0, r0⟩) : VC P E c Q ⟨n0, t0, f0, b0, r0⟩ := fun a w hi => by
  obtain ⟨_, A, c, e, h1, h2, h3, _⟩ := hi.facts _ (List.mem_of_getElem? hf)
  refine h A c e h1 h2 (fun hn => ?_) a w hi
  rcases Nat.eq_zero_or_pos es.length with h0 | h0
  · exact h0
  · obtain ⟨ad, e2, _⟩ := h3 h0
    rw [hn] at e2
    cases e2
theorem op_isnil {t e n c : Nat} {t' : TypeId} {A : Option Addr} (ht : P.underlying t = some (.slice e)) (hx : s.ev x = some (.slice A n c)) (hy : s.ev y = some (.slice none 0 0)) (hn : d < s.n := by exact ltn rfl) :
    OpV P E ⟨some d, .binOp .eql t x y t', ty, pos, after, gd⟩ s d (.bool A.isNone) :=
  op_bin hx hy (fun w => by
    have h := run_equal_slice_nil (P := P) w t e A n c ht
    simp [eqGuard, binOp, h]) hn
theorem op_append_in {t e sz bytes g i0 cap m c : Nat} {agg : Bool} {B : Addr} {cur cs : List Value} (i : Nat) (ht : P.underlying t = some (.slice e)) (hE : EI P e sz bytes) (hx : s.ev x = some (.slice (some ⟨g, 0, none⟩) i0 cap)) (hy : s.ev y = some (.slice (some B) m c)) (hb : s.b[i]? = some (g, e, cur)) (hl : cs.length = m * sz) (hroom : i0 + m ≤ cap) (hfit : i0 * sz + cs.length ≤ cur.length)
    (hsrc : ∀ w, Mem E s w → ∀ j u, cs[j]? = some u → w.cell? (B.add j) = some u) (h1 : ∀ u ∈ cs, u.oneCell' = true) (hn : d < s.n) (hU : ¬ E.U e := by first | apply_assumption | exact id) :
    Op1 P E ⟨some d, .call { callee := .builtin .append, args := #[x, y], argTypes := #[t, t] }, ty, pos, after, gd⟩ s (· = St.put { s with b := s.b.set i (g, e, upd cur (i0 * sz) cs) } d (.slice (some ⟨g, 0, none⟩) (i0 + m) cap)) := by
  intro a w K Q hi hK
  obtain ⟨inf, z, h2, h3, h4, h5, h6⟩ := hE.ei
  obtain ⟨hge, z, hz, hheap⟩ := hi.boxes _ (List.mem_of_getElem? hb)
  obtain rfl := hz.resolve_right fun h => hU h.1
  have hrun := run_append_room (P := P) w t ty e inf ht h2 g i0 cap cur.toArray hheap B m c cs (by rw [h4]; exact hl) (hsrc w hi.toMem) h1 hroom (by rw [h4]; simpa using hfit)
  rw [h4] at hrun
  have : (execOp a.eval ⟨some d, .call { callee := .builtin .append, args := #[x, y], argTypes := #[t, t] }, ty, pos, after, gd⟩).run P w = .ok (.value (.slice (some ⟨g, 0, none⟩) (i0 + m) cap)) (w.setRow g (upd cur (i0 * sz) cs).toArray) := by
    simp only [execOp, resolve, invoke, builtin, Sem.run_bind, Sem.run_pure, Result.andThen_ok, List.map_toArray, List.map_cons, List.map_nil, hi.ev hx, hi.ev hy, hrun]
    rfl
  refine wo_value this ?_
  exact hK _ _ _ rfl (Inv.put (hi.setBox i hb (upd_len0 (by simpa using hfit))) (by exact hn) _)
theorem o_append_in {t e sz bytes g i0 cap m c : Nat} {B : Addr} {cur cs cur' : List Value} (i : Nat) (ht : P.underlying t = some (.slice e)) (hE : EI P e sz bytes) (hx : St.ev ⟨n0, t0, f0, b0, r0⟩ x = some (.slice (some ⟨g, 0, none⟩) i0 cap)) (hy : St.ev ⟨n0, t0, f0, b0, r0⟩ y = some (.slice (some B) m c)) (hb : b0[i]? = some (g, e, cur)) (hl : cs.length = m * sz) (hroom : i0 + m ≤ cap) (hfit : i0 * sz + cs.length ≤ cur.length)
    (hsrc : ∀ w, Mem E ⟨n0, t0, f0, b0, r0⟩ w → ∀ j u, cs[j]? = some u → w.cell? (B.add j) = some u) (h1 : ∀ u ∈ cs, u.oneCell' = true) (hu : upd cur (i0 * sz) cs = cur') (hn : d < n0) (hU : ¬ E.U e := by first | apply_assumption | exact id) :
    Op1 P E ⟨some d, .call { callee := .builtin .append, args := #[x, y], argTypes := #[t, t] }, ty, pos, after, gd⟩ ⟨n0, t0, f0, b0, r0⟩ (· = ⟨n0, (d, .slice (some ⟨g, 0, none⟩) (i0 + m) cap) :: t0, f0, b0.set i (g, e, cur'), r0⟩) := hu ▸ op_append_in (agg := true) i ht hE hx hy hb hl hroom hfit hsrc h1 hn hU
/-- Elements cleared. -/
theorem op_clear {t e sz g o n c T : Nat} {zs cur : List Value} {z : Value} (i : Nat) (ht : P.underlying t = some (.slice e)) (hz : (P.info? e).bind (·.zero) = some z) (hzs : z.cells.toList = zs) (h1 : ∀ u ∈ zs, u.oneCell' = true) (hsz : zs.length = sz) (hx : s.ev x = some (.slice (some ⟨g, o, none⟩) n c)) (hb : s.b[i]? = some (g, T, cur)) (hfit : o + n * sz ≤ cur.length) :
    Op1 P E ⟨none, .call { callee := .builtin .clear, args := #[x], argTypes := #[t] }, ty, pos, after, gd⟩ s (fun s' => ∃ us, us.length = n * sz ∧ s' = { s with b := s.b.set i (g, T, upd cur o us) }) := by
  intro a w K Q hi hK
  obtain ⟨hge, hheap⟩ := hi.boxes _ (List.mem_of_getElem? hb)
  have hzv : (zeroValue e).run P w = .ok z w := by
    cases hq : P.info? e with
    | none => rw [hq] at hz; cases hz
    | some i =>
      rw [hq] at hz
      have : i.zero = some z := by simpa using hz
      simp [zeroValue, typeInfo, hq, this]
  have hlen : (Builtin.zeroCells z.cells n).toList.length = n * sz := by rw [Array.length_toList, size_zeroCells, ← hsz, ← hzs, Array.length_toList]
  rcases Nat.eq_zero_or_pos n with h0 | h0
  · subst h0
    have : (execOp a.eval ⟨none, .call { callee := .builtin .clear, args := #[x], argTypes := #[t] }, ty, pos, after, gd⟩).run P w = .ok (.value (.tuple #[])) w := by
      simp [execOp, resolve, invoke, builtin, hi.ev hx, Builtin.clear_, run_underlying ht]
    refine wo_value this ?_
    refine hK s _ w ⟨[], by simp, ?_⟩ hi
    have e : s.b.set i (g, T, upd cur o []) = s.b := by
      have : upd cur o [] = cur := by simp [upd]
      rw [this]
      apply List.ext_getElem?
      intro j
      rw [List.getElem?_set]
      split
      · subst j
        rw [if_pos (List.getElem?_eq_some_iff.1 hb).1, hb]
      · rfl
    rw [e]
  · have hone : ∀ u ∈ (Builtin.zeroCells z.cells n).toList, u.oneCell' = true := by
      intro u hu
      simp only [Builtin.zeroCells, Array.toList_map, List.mem_map] at hu
      obtain ⟨j, hj, rfl⟩ := hu
      have hp : 0 < z.cells.size := by
        rcases Nat.eq_zero_or_pos z.cells.size with hz0 | hz0
        · simp [hz0] at hj
        · exact hz0
      have hlt : j % z.cells.size < z.cells.size := Nat.mod_lt _ hp
      rw [getElem!_pos z.cells _ hlt]
      exact h1 _ (by rw [← hzs]; exact Array.getElem_mem_toList hlt)
    have hst := hheap.store (P := P) (o := o) (by rw [hlen]; exact hfit) hone
    have : (execOp a.eval ⟨none, .call { callee := .builtin .clear, args := #[x], argTypes := #[t] }, ty, pos, after, gd⟩).run P w = .ok (.value (.tuple #[])) (w.setRow g (upd cur o (Builtin.zeroCells z.cells n).toList).toArray) := by
      obtain ⟨m, rfl⟩ : ∃ m, n = m + 1 := ⟨n - 1, by omega⟩
      simp [execOp, resolve, invoke, builtin, hi.ev hx, Builtin.clear_, run_underlying ht, hzv, hst, upd]
    refine wo_value this ?_
    exact hK _ _ _ ⟨_, hlen, rfl⟩ (hi.setBox i hb (upd_len0 (by rw [hlen]; exact hfit)))
theorem VL.clear {t e sz g o n c T : Nat} {zs cur : List Value} {z : Value} {l : List Oper} (i : Nat) (ht : P.underlying t = some (.slice e)) (hz : (P.info? e).bind (·.zero) = some z) (hzs : z.cells.toList = zs) (h1 : ∀ u ∈ zs, u.oneCell' = true) (hsz : zs.length = sz) (hx : St.ev ⟨n0, t0, f0, b0, r0⟩ x = some (.slice (some ⟨g, o, none⟩) n c)) (hb : b0[i]? = some (g, T, cur)) (hfit : o + n * sz ≤ cur.length)
    (hg : guardOn ops ⟨n0, t0, f0, b0, r0⟩ ⟨none, .call { callee := .builtin .clear, args := #[x], argTypes := #[t] }, ty, pos, after, gd⟩ = some true) (h : ∀ us, us.length = n * sz → VL P E ops Q l ⟨n0, t0, f0, b0.set i (g, T, upd cur o us), r0⟩) :
    VL P E ops Q (⟨none, .call { callee := .builtin .clear, args := #[x], argTypes := #[t] }, ty, pos, after, gd⟩ :: l) ⟨n0, t0, f0, b0, r0⟩ :=
  VL.step (op_clear i ht hz hzs h1 hsz hx hb hfit) hg (by rintro _ ⟨us, h2, rfl⟩; exact h us h2)
/-- A cut with a room. -/
theorem op_slice3 {t e sz n c l h m : Nat} {agg : Bool} {k1 k2 k3 : IntKind} {x1 x2 x3 : Operand} {A : Option Addr} (ht : P.underlying t = some (.slice e)) (hT : TI P e agg sz) (hx : s.ev x = some (.slice A n c)) (h1 : s.ev x1 = some (.int k1 l)) (h2 : s.ev x2 = some (.int k2 h)) (h3 : s.ev x3 = some (.int k3 m)) (hlh : l ≤ h) (hhm : h ≤ m) (hmc : m ≤ c) (hn : d < s.n := by exact ltn rfl) :
    OpV P E ⟨some d, .slice t x (some x1) (some x2) (some x3), ty, pos, after, gd⟩ s d (.slice (if m = l then A else A.map (·.add (l * sz))) (h - l) (m - l)) :=
  op_val rfl hn (fun a ha w => by
    have e1 := fun code => run_bound (P := P) (w := w) (k := k1) (i := (l : Int)) (m := h) (code := code) (by omega) (by omega)
    have e2 := fun code => run_bound (P := P) (w := w) (k := k2) (i := (h : Int)) (m := m) (code := code) (by omega) (by omega)
    have e3 := fun code => run_bound (P := P) (w := w) (k := k3) (i := (m : Int)) (m := c) (code := code) (by omega) (by omega)
    simp only [Int.toNat_natCast] at e1 e2 e3
    have hb : (Instr.sliceBounds true n c (some (.int k1 l)) (some (.int k2 h)) (some (.int k3 m))).run P w = .ok (l, h, m) w := by
      unfold Instr.sliceBounds
      simp only [Sem.run_bind, e3, Result.andThen_ok, e2, e1, Sem.run_pure]
    simp only [execOp, Instr.sliceAt, Option.map_some, ha x _ hx, ha x1 _ h1, ha x2 _ h2, ha x3 _ h3]
    simp only [Instr.slice, Sem.run_bind, run_underlying ht, Result.andThen_ok, hb, run_size hT w, Sem.run_pure])

/-! ### texts and bytes -/
def byI (s : ByteArray) : List Int := s.data.toList.map fun b => (b.toNat : Int)
theorem byI_len (s : ByteArray) : (byI s).length = s.size := by unfold byI; rw [List.length_map, Array.length_toList]; rfl
/-- A block that is only read comes to be. -/
theorem Inv.allocF (h : Inv E s a w) (ob : Obj) {x : Fact} (hx : x.holds (fun k => k = w.heap.size) (w.drew.alloc ob)) : Inv E { s with f := x :: s.f } a (w.drew.alloc ob) := by
  have hs : E.w0.heap.size ≤ w.heap.size := h.below.size
  refine h.mem rfl rfl ((h.below.drew).alloc hs _) (fun k hk => ⟨⟨hk.1, by have := hk.2.1; simp; omega, hk.2.2⟩, heap_alloc_old w.drew _ hk.2.1⟩) (fun y hy => ?_) (fun y hy => .inl ⟨hy, heap_alloc_old w.drew _ (h.boxes y hy).2.lt⟩) (fun y hy => .inl ⟨hy, fun k hk => heap_alloc_old w.drew _ ((h.rows y hy).2.lt k hk).2⟩) h.nodup
  rcases List.mem_cons.1 hy with rfl | hy
  · refine .inr (Fact.mono (fun k hk => ⟨⟨.inr ?_, ?_, fun hm => ?_⟩, rfl⟩) hx)
    · rw [hk]; exact hs
    · rw [hk]; simp
    · rw [hk] at hm
      have := (h.blk_lt hm).1
      omega
  · exact .inl hy
theorem op_strBytes {t1 t2 e : TypeId} {b : ByteArray} (h1 : P.underlying t1 = some .string) (h2 : P.underlying t2 = some (.slice e)) (he : P.underlying e = some (.int .u8)) (hx : s.ev x = some (.string b)) (hsz : b.size ≤ 140737488355328) (hn : d < s.n := by exact ltn rfl) :
    Op1 P E ⟨some d, .convert t1 t2 x, ty, pos, after, gd⟩ s (fun s' => ∃ v', s' = St.put { s with f := .row v' 1 ((byI b).map fun q => [.int .u8 q]) :: s.f } d v') := by
  intro a w K Q hi hk
  have hr := run_bytes_of_string w t1 t2 e b h1 h2 he
  have : (execOp a.eval ⟨some d, .convert t1 t2 x, ty, pos, after, gd⟩).run P w = .ok (.value (.slice (some ⟨w.heap.size, 0, none⟩) b.size (grownCap w b.size 0 e))) (w.drew.alloc (.cells (bytesRow b (grownCap w b.size 0 e)) e ((bytesRow b (grownCap w b.size 0 e)).size, (bytesRow b (grownCap w b.size 0 e)).size + 1))) := by
    simp only [execOp, hi.ev hx, Sem.run_bind, hr, Result.andThen_ok, Sem.run_pure]
  refine wo_value this ?_
  have hl : ((byI b).map fun q => [Value.int .u8 q]).length = b.size := by rw [List.length_map, byI_len]
  refine hk _ _ _ ⟨_, rfl⟩ (Inv.put (hi.allocF _ ?_) (by exact hn) _)
  refine ⟨fun ls hls => ?_, some ⟨w.heap.size, 0, none⟩, grownCap w b.size 0 e, by rw [hl], by rw [hl]; exact grownCap_ge w b.size 0 e, grownCap_le_maxLen w _ _ _ (by simp only [maxLen]; omega), fun _ => ⟨_, rfl, rfl⟩, fun i ls hil ad hA j u hu => ?_⟩
  · obtain ⟨q, _, rfl⟩ := List.mem_map.1 hls
    exact ⟨rfl, fun u hu => by obtain rfl := List.mem_singleton.1 hu; rfl⟩
  · obtain rfl := Option.some.inj hA
    rw [List.getElem?_map] at hil
    obtain ⟨q, hq, rfl⟩ := Option.map_eq_some_iff.1 hil
    have hj : j = 0 := by
      have : j < 1 := (List.getElem?_eq_some_iff.1 hu).1
      omega
    subst hj
    simp only [List.getElem?_cons_zero, Option.some.injEq] at hu
    subst hu
    have hib : i < b.size := by rw [← byI_len]; exact (List.getElem?_eq_some_iff.1 hq).1
    have hbr : (bytesRow b (grownCap w b.size 0 e))[i]? = some (.int .u8 q) := by
      unfold bytesRow
      rw [Array.getElem?_append_left (by rw [Array.size_map]; exact hib), Array.getElem?_map]
      unfold byI at hq
      rw [List.getElem?_map] at hq
      obtain ⟨c, hc, rfl⟩ := Option.map_eq_some_iff.1 hq
      rw [Array.getElem?_toList] at hc
      rw [hc]
      rfl
    have e0 : 0 + (i * 1 + 0) = i := by omega
    rw [add_at, e0, World.cell?, show (⟨w.heap.size, i, none⟩ : Addr).block = w.drew.heap.size from rfl, heap_alloc_new]
    exact hbr
theorem o_strBytes {t1 t2 e : TypeId} {b : ByteArray} {es3 : List (List Value)} (h3 : (byI b).map (fun q => [Value.int .u8 q]) = es3) (h1 : P.underlying t1 = some .string) (h2 : P.underlying t2 = some (.slice e)) (he : P.underlying e = some (.int .u8)) (hx : St.ev ⟨n0, t0, f0, b0, r0⟩ x = some (.string b)) (hsz : b.size ≤ 140737488355328) (hn : d < n0 := by exact ltn rfl) :
    Op1 P E ⟨some d, .convert t1 t2 x, ty, pos, after, gd⟩ ⟨n0, t0, f0, b0, r0⟩ (fun s' => ∃ v', s' = ⟨n0, (d, v') :: t0, .row v' 1 es3 :: f0, b0, r0⟩) := h3 ▸ op_strBytes h1 h2 he hx hsz hn
theorem run_bytesStr {t1 t2 e : TypeId} {A : Option Addr} {c : Nat} {xs : List Int} (h1 : P.underlying t1 = some (.slice e)) (h2 : P.underlying t2 = some .string) (he : P.underlying e = some (.int .u8)) (hA : A = none → xs.length = 0) (hc : ∀ ad, A = some ad → ∀ j q, xs[j]? = some q → w.cell? (ad.add j) = some (.int .u8 q)) :
    (convert t1 t2 (.slice A xs.length c)).run P w = .ok (.string (strOfNums xs)) w := by
  cases A with
  | none =>
    have h0 : xs = [] := List.eq_nil_of_length_eq_zero (hA rfl)
    subst h0
    exact run_convert_bytes_nil w t1 e h1 he 0 c t2 h2
  | some ad =>
    have hl : (loadCells ad xs.length).run P w = .ok (xs.map (Value.int .u8)).toArray w := by
      have := run_loadCells_list (P := P) w ad (xs.map (Value.int .u8)) (fun j v hj => by
        rw [List.getElem?_map] at hj
        obtain ⟨q, hq, rfl⟩ := Option.map_eq_some_iff.1 hj
        exact hc ad rfl j q hq)
      simpa using this
    rw [run_convert_bytes_string w t1 t2 e _ xs.length c h1 he h2, run_bytesToString w _ xs.length c xs hl, foldl_push_bytes]
    simp [strOfNums, ByteArray.empty, ByteArray.emptyWithCapacity]
    rfl
theorem op_bytesStr {t1 t2 e : TypeId} {xs : List Int} {es : List (List Value)} {q : ByteArray} (i : Nat) (hes : xs.map (fun q => [Value.int .u8 q]) = es) (hq : strOfNums xs = q) (h1 : P.underlying t1 = some (.slice e)) (h2 : P.underlying t2 = some .string) (he : P.underlying e = some (.int .u8)) (hx : s.ev x = some v) (hf : s.f[i]? = some (.row v 1 es)) (hn : d < s.n := by exact ltn rfl) :
    OpV P E ⟨some d, .convert t1 t2 x, ty, pos, after, gd⟩ s d (.string q) :=
  ⟨rfl, hn, fun a w h hm => by
    subst hes
    subst hq
    obtain ⟨_, A, c, rfl, _, _, h3, h4⟩ := hm.facts _ (List.mem_of_getElem? hf)
    have := run_bytesStr (P := P) (w := w) (A := A) (c := c) (xs := xs) h1 h2 he (fun hA => by
      rcases Nat.eq_zero_or_pos xs.length with h0 | h0
      · exact h0
      · obtain ⟨ad, e2, _⟩ := h3 (by rw [List.length_map]; exact h0)
        rw [hA] at e2
        cases e2) (fun ad hA j q hq => by
      have := h4 j [.int .u8 q] (by rw [List.getElem?_map, hq]; rfl) ad hA 0 _ rfl
      simpa using this)
    rw [List.length_map] at hx
    simp only [execOp, h x _ hx, Sem.run_bind, this, Result.andThen_ok, Sem.run_pure]⟩
theorem op_bytesStr_own {t1 t2 e : TypeId} {e' : Nat} {xs : List Int} {es : List (List Value)} {q : ByteArray} (i : Nat) (hes : xs.map (fun q => [Value.int .u8 q]) = es) (hq : strOfNums xs = q) (h1 : P.underlying t1 = some (.slice e)) (h2 : P.underlying t2 = some .string) (he : P.underlying e = some (.int .u8)) (hx : s.ev x = some v) (hf : s.r[i]? = some (v, e', 1, es)) (hn : d < s.n := by exact ltn rfl) :
    OpV P E ⟨some d, .convert t1 t2 x, ty, pos, after, gd⟩ s d (.string q) :=
  ⟨rfl, hn, fun a w h hm => by
    subst hes
    subst hq
    have hrow := hm.rows _ (List.mem_of_getElem? hf)
    have hrow2 := hrow
    obtain ⟨A, c, rfl⟩ := own_form hrow
    rw [List.length_map] at hx
    have := run_bytesStr (P := P) (w := w) (A := A) (c := c) (xs := xs) h1 h2 he (fun hA => by
      subst hA
      rcases hrow.2.2 with ⟨_, e2⟩ | ⟨g, cap, cur, e1, _⟩
      · simpa using e2
      · cases e1) (fun ad hA j q hq => by
      subst hA
      rcases hrow.2.2 with ⟨e1, _⟩ | ⟨g, cap, cur, e1, _⟩
      · cases e1
      · simp only [Value.slice.injEq, Option.some.injEq] at e1
        obtain ⟨rfl, _, rfl⟩ := e1
        have := own_cell hrow2 (i := j) (ls := [.int .u8 q]) (j := 0) (u := .int .u8 q) (by rw [List.getElem?_map, hq]; rfl) rfl
        rw [add_at]
        simpa using this)
    simp only [execOp, h x _ hx, Sem.run_bind, this, Result.andThen_ok, Sem.run_pure]⟩
theorem op_nilCheck {ad : Addr} (hx : s.ev x = some (.pointer (some ad))) (hn : d < s.n := by exact ltn rfl) : OpV P E ⟨some d, .nilCheck x, ty, pos, after, gd⟩ s d (.pointer (some ad)) :=
  op_val rfl hn (fun a ha w => by simp [execOp, ha x _ hx])
theorem run_cmpstring {f : FuncId} {fn : Func} (hf : P.funcs[f]? = some fn) (hname : (fn.name == "runtime.NumGoroutine") = false) (hb : fn.body.isNone = true) (hx1 : Extern.findNext fn = none) (hx2 : Extern.find fn = some Extern.BytealgCompare.compare) (p q : ByteArray) (w : World) :
    (callFunc f [.string p, .string q].toArray).run P w = .ok (.value (.int .i64 (Lib.compareBytes p.data.toList q.data.toList))) w := by
  rw [run_callFunc_extern hf hname hb hx1 hx2]
  show ((Extern.BytealgCompare.compare #[.string p, .string q]).run P w).andThen _ = _
  rw [Lib.run_compareString]
  rfl
end
end Go.Proofs.YtipeglbeongfmaaV
