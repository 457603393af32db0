/- Array variables whose elements are numbers, as one list; no condition of its own. -/
import Derived.Test.YtipeglbeongfmaaV15
namespace Go.Proofs.YtipeglbeongfmaaV
open Go Go.RowKit
set_option linter.unusedVariables false
set_option linter.unusedSimpArgs false
section
variable {P : Program} {E : Env} {w w' : World} {s s' : St} {a : Act} {o : Oper} {ops : Array Oper} {rest : List Oper} {Q : Exit → Act → World → Prop} {d : Nat} {v u : Value} {x y z : Operand}
variable {ty : TypeId} {pos : String} {after : Array Edge} {gd : Option (Nat × Bool)}
  {n0 : Nat} {t0 : List (Nat × Value)} {f0 : List Fact} {b0 : List (Nat × TypeId × List Value)} {r0 : List (Value × TypeId × Nat × List (List Value))}

/-- The cells of an array of numbers. -/
abbrev ints (k : IntKind) (xs : List Int) : List Value := xs.map (Value.int k)
theorem ints_len {k : IntKind} {xs : List Int} {n : Nat} (h : xs.length = n) : (ints k xs).length = n := by simpa [ints] using h
theorem one_ints {k : IntKind} {xs : List Int} : One s (ints k xs) := One.of (by simp [ints, Value.oneCell'])
theorem cells_ints {k : IntKind} {xs : List Int} : Cells s (.agg (ints k xs).toArray) (ints k xs) := .agg one_ints
theorem upd_all {xs us : List Value} (h : us.length = xs.length) : upd xs 0 us = us := by
  unfold upd
  rw [List.take_zero, List.nil_append, Nat.zero_add, h, List.drop_length, List.append_nil]
theorem upd_at {xs : List Value} {j : Nat} {v : Value} (h : j < xs.length) : upd xs j [v] = xs.set j v := by
  unfold upd
  rw [List.set_eq_take_append_cons_drop, if_pos h]
  simp
theorem ints_at {k : IntKind} {xs : List Int} {j : Nat} {q : Int} (h : xs[j]? = some q) : ((ints k xs).drop j).take 1 = [.int k q] := by
  obtain ⟨hj, rfl⟩ := List.getElem?_eq_some_iff.1 h
  have hj2 : j < (ints k xs).length := by simpa [ints] using hj
  rw [List.drop_eq_getElem_cons hj2, List.take_succ_cons, List.take_zero]
  simp [ints]
/-- All of an array is read. -/
theorem op_loadA {t : TypeId} {g n : Nat} {T : TypeId} {k : IntKind} {xs : List Int} (i : Nat) (hx : s.ev x = some (.pointer (some ⟨g, 0, none⟩))) (hb : s.b[i]? = some (g, T, ints k xs)) (hT : TI P t true n) (hl : xs.length = n) (hn : d < s.n := by exact ltn rfl) :
    OpV P E ⟨some d, .load t x, ty, pos, after, gd⟩ s d (.agg (ints k xs).toArray) := by
  have h2 : ((ints k xs).drop 0).take n = ints k xs := by rw [List.drop_zero, List.take_of_length_le (by rw [ints_len hl]; exact Nat.le_refl _)]
  have := op_load (P := P) (E := E) (s := s) (d := d) (x := x) (ty := ty) (pos := pos) (after := after) (gd := gd) i n hx hb hT (by rw [h2, ints_len hl]) (fun e => by cases e) hn
  rwa [h2] at this
theorem op_loadA_at {t : TypeId} {n : Nat} {ad : Addr} {k : IntKind} {xs : List Int} (i : Nat) (hx : s.ev x = some (.pointer (some ad))) (hb : s.f[i]? = some (.at_ ad (ints k xs))) (hT : TI P t true n) (hl : xs.length = n) (hn : d < s.n := by exact ltn rfl) :
    OpV P E ⟨some d, .load t x, ty, pos, after, gd⟩ s d (.agg (ints k xs).toArray) := by
  have h2 : ((ints k xs).drop 0).take n = ints k xs := by rw [List.drop_zero, List.take_of_length_le (by rw [ints_len hl]; exact Nat.le_refl _)]
  have h3 : ad.add 0 = ad := rfl
  have := op_load_at (P := P) (E := E) (s := s) (d := d) (x := x) (ty := ty) (pos := pos) (after := after) (gd := gd) i 0 n (by rw [h3]; exact hx) hb hT (by rw [h2, ints_len hl]) (fun e => by cases e) hn
  rwa [h2] at this
/-- All of an array is written. -/
theorem o_storeA {t : TypeId} {g n : Nat} {T : TypeId} {k k2 : IntKind} {xs us : List Int} (i : Nat) (hx : St.ev ⟨n0, t0, f0, b0, r0⟩ x = some (.pointer (some ⟨g, 0, none⟩))) (hv : St.ev ⟨n0, t0, f0, b0, r0⟩ y = some (.agg (ints k us).toArray)) (hb : b0[i]? = some (g, T, ints k2 xs)) (hT : TI P t true n) (hk : us.length = n) (ho : xs.length = n) :
    Op1 P E ⟨none, .store t x y, ty, pos, after, gd⟩ ⟨n0, t0, f0, b0, r0⟩ (· = ⟨n0, t0, f0, b0.set i (g, T, ints k us), r0⟩) := by
  have := o_store (P := P) (E := E) (ty := ty) (pos := pos) (after := after) (gd := gd) i n hx hv hb hT cells_ints (ints_len hk) (by rw [ints_len ho]; omega)
  rwa [upd_all (by rw [ints_len hk, ints_len ho])] at this
/-- An element's place in an array. -/
theorem op_indexAddrA {t : TypeId} {g n : Nat} {e : TypeId} {k : IntKind} {j : Int} (ht : P.underlying t = some (.array n e)) (hT : TI P e false 1) (hx : s.ev x = some (.pointer (some ⟨g, 0, none⟩))) (hy : s.ev y = some (.int k j)) (h0 : 0 ≤ j) (hj : j < (n : Int)) (hn : d < s.n := by exact ltn rfl) :
    OpV P E ⟨some d, .indexAddr t x y, ty, pos, after, gd⟩ s d (.pointer (some ⟨g, j.toNat, none⟩)) :=
  op_val rfl hn (fun a ha w => by
    have he : (⟨g, 0, none⟩ : Addr).add j.toNat = ⟨g, j.toNat, none⟩ := by rw [add_at, Nat.zero_add]
    have h : (Instr.indexAt t (.pointer (some ⟨g, 0, none⟩)) (.int k j)).run P w = .ok (.pointer (some ⟨g, j.toNat, none⟩)) w := by
      simp [Instr.indexAt, asIntOf, run_underlying ht, run_size hT w, h0, hj, Instr.sureAddr, he]
    simp [execOp, ha x _ hx, ha y _ hy, h])
theorem op_loadE {t : TypeId} {g : Nat} {T : TypeId} {k : IntKind} {j : Nat} {q : Int} {xs : List Int} (i : Nat) (hx : s.ev x = some (.pointer (some ⟨g, j, none⟩))) (hb : s.b[i]? = some (g, T, ints k xs)) (hT : TI P t false 1) (hq : xs[j]? = some q) (hn : d < s.n := by exact ltn rfl) :
    OpV P E ⟨some d, .load t x, ty, pos, after, gd⟩ s d (.int k q) := by
  have h2 := ints_at (k := k) hq
  have := op_load (P := P) (E := E) (s := s) (d := d) (x := x) (ty := ty) (pos := pos) (after := after) (gd := gd) i 1 hx hb hT (by rw [h2]; rfl) (fun _ => rfl) hn
  rwa [h2] at this
theorem o_storeE {t : TypeId} {g : Nat} {T : TypeId} {k : IntKind} {j : Nat} {q : Int} {xs : List Int} (i : Nat) (hx : St.ev ⟨n0, t0, f0, b0, r0⟩ x = some (.pointer (some ⟨g, j, none⟩))) (hv : St.ev ⟨n0, t0, f0, b0, r0⟩ y = some (.int k q)) (hb : b0[i]? = some (g, T, ints k xs)) (hT : TI P t false 1) (hj : j < xs.length) :
    Op1 P E ⟨none, .store t x y, ty, pos, after, gd⟩ ⟨n0, t0, f0, b0, r0⟩ (· = ⟨n0, t0, f0, b0.set i (g, T, ints k (xs.set j q)), r0⟩) := by
  have hj2 : j < (ints k xs).length := by simpa [ints] using hj
  have := o_store (P := P) (E := E) (ty := ty) (pos := pos) (after := after) (gd := gd) i 1 hx hv hb hT (us := [.int k q]) (.c rfl) rfl (by omega)
  rwa [upd_at hj2, show (ints k xs).set j (.int k q) = ints k (xs.set j q) from (List.map_set (f := Value.int k)).symm] at this
/-- All of an array that is only read, as a row. -/
theorem o_sliceA {t e n : Nat} {k : IntKind} {xs : List Int} {ad : Addr} {es : List (List Value)} (i : Nat) (ht : P.underlying t = some (.array n e)) (hT : TI P e false 1) (hx : St.ev ⟨n0, t0, f0, b0, r0⟩ x = some (.pointer (some ad))) (hb : f0[i]? = some (.at_ ad (ints k xs))) (hl : xs.length = n) (hes : xs.map (fun q => [Value.int k q]) = es) (hm : n ≤ maxLen) (hn : d < n0 := by exact ltn rfl) :
    Op1 P E ⟨some d, .slice t x none none none, ty, pos, after, gd⟩ ⟨n0, t0, f0, b0, r0⟩ (fun s' => ∃ v', s' = ⟨n0, (d, v') :: t0, .row v' 1 es :: f0, b0, r0⟩) := by
  subst hes
  intro a w K Q hi hk
  have h0 : n = 0 ∨ n ≠ 0 := by omega
  have hrun : (execOp a.eval ⟨some d, .slice t x none none none, ty, pos, after, gd⟩).run P w = .ok (.value (.slice (some ad) n n)) w := by
    have hz : ad.add 0 = ad := rfl
    rcases h0 with rfl | h0
    · simp [execOp, hi.ev hx, Instr.sliceAt, run_underlying ht, Instr.sureAddr, Instr.sliceBounds, run_size hT w]
    · simp [execOp, hi.ev hx, Instr.sliceAt, run_underlying ht, Instr.sureAddr, Instr.sliceBounds, run_size hT w, h0, hz]
  refine wo_value hrun (hk _ _ _ ⟨.slice (some ad) n n, rfl⟩ ?_)
  refine Inv.put (s := ⟨n0, t0, .row (.slice (some ad) n n) 1 (xs.map fun q => [Value.int k q]) :: f0, b0, r0⟩) ?_ hn _
  refine hi.mem rfl rfl hi.below (fun k hk => ⟨hk, rfl⟩) (fun x hx => ?_) (fun x hx => .inl ⟨hx, rfl⟩) (fun x hx => .inl ⟨hx, fun _ _ => rfl⟩) hi.nodup
  rcases List.mem_cons.1 hx with rfl | hx
  · right
    obtain ⟨hok, hc⟩ := hi.facts _ (List.mem_of_getElem? hb)
    refine ⟨fun ls hls => ?_, some ad, n, by rw [List.length_map, hl], by rw [List.length_map, hl]; exact Nat.le_refl _, hm, fun _ => ⟨ad, rfl, hok⟩, fun i ls hi2 ad2 hA j u hu => ?_⟩
    · obtain ⟨q, _, rfl⟩ := List.mem_map.1 hls
      exact ⟨rfl, by simp [Value.oneCell']⟩
    · obtain rfl := Option.some.inj hA
      rw [List.getElem?_map] at hi2
      obtain ⟨q, hq, rfl⟩ := Option.map_eq_some_iff.1 hi2
      have hj : j = 0 := by have := (List.getElem?_eq_some_iff.1 hu).1; simp at this; omega
      subst hj
      simp only [List.getElem?_cons_zero, Option.some.injEq] at hu
      subst hu
      rw [Nat.mul_one, Nat.add_zero]
      exact hc i _ (by simp [ints, hq])
  · exact .inl hx
theorem lt_getA {xs : List Int} {j : Int} {n : Nat} {q : Int} (hl : xs.length = n) (h0 : 0 ≤ j) (h : xs[j.toNat]? = some q) : j < (n : Int) := by
  have := (List.getElem?_eq_some_iff.1 h).1
  omega
theorem Res.cellA {P : Program} {t ty g n : Nat} {T : TypeId} {k : IntKind} {xs : List Int} {rs : List ResultVar} {vs : List Value} (i : Nat) (h : s.ev (.tmp t) = some (.pointer (some ⟨g, 0, none⟩))) (hb : s.b[i]? = some (g, T, ints k xs)) (hT : TI P ty true n) (hl : xs.length = n) (hk : Res P s rs vs) : Res P s (.cell t ty :: rs) (.agg (ints k xs).toArray :: vs) :=
  .cell (agg := true) i h hb (by rw [ints_len hl]; exact hT) (fun e => by cases e) hk
end
end Go.Proofs.YtipeglbeongfmaaV
