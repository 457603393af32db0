/- A slice that is made: a block of the call's own; no condition of its own. -/
import Derived.Test.YtipeglbeongfmaaV17
namespace Go.Proofs.YtipeglbeongfmaaV
open Go Go.RowKit
set_option linter.unusedVariables false
set_option linter.unusedSimpArgs false
section
variable {P : Program} {E : Env} {w w' : World} {s s' : St} {a : Act} {o : Oper} {ops : Array Oper} {rest : List Oper} {Q : Exit → Act → World → Prop} {d : Nat} {v u : Value} {x y z : Operand}
variable {ty : TypeId} {pos : String} {after : Array Edge} {gd : Option (Nat × Bool)}
  {n0 : Nat} {t0 : List (Nat × Value)} {f0 : List Fact} {b0 : List (Nat × TypeId × List Value)} {r0 : List (Value × TypeId × Nat × List (List Value))}
theorem o_makeSlice {t e sz bytes n : Nat} {k1 k2 : IntKind} (ht : P.underlying t = some (.slice e)) (hE : EI P e sz bytes) (hx : St.ev ⟨n0, t0, f0, b0, r0⟩ x = some (.int k1 n)) (hy : St.ev ⟨n0, t0, f0, b0, r0⟩ y = some (.int k2 n)) (hbig : n * bytes ≤ 140737488355328) (hn : d < n0)
    {l : List Oper} (hg : guardOn ops ⟨n0, t0, f0, b0, r0⟩ ⟨some d, .makeSlice t x y, ty, pos, after, gd⟩ = some true)
    (h : ∀ g cur, cur.length = n * sz → VL P E ops Q l ⟨n0, (d, .slice (some ⟨g, 0, none⟩) n n) :: t0, f0, (g, e, cur) :: b0, r0⟩) : VL P E ops Q (⟨some d, .makeSlice t x y, ty, pos, after, gd⟩ :: l) ⟨n0, t0, f0, b0, r0⟩ := by
  refine VL.step (R := fun s' => ∃ g cur, cur.length = n * sz ∧ s' = ⟨n0, (d, .slice (some ⟨g, 0, none⟩) n n) :: t0, f0, (g, e, cur) :: b0, r0⟩) ?_ hg (by rintro _ ⟨g, cur, hc, rfl⟩; exact h g cur hc)
  intro a w K Q hi hk
  obtain ⟨inf, z, h1, h2, h3, h4, h5⟩ := hE.ei
  have hbp := hE.bpos
  have hlen : n ≤ 140737488355328 := Nat.le_trans (Nat.le_mul_of_pos_right _ hbp) hbig
  have hr := run_make (P := P) w t e inf z ht h1 h2 k1 k2 n n (by omega) (Int.le_refl _) (by
    have : ((n * bytes : Nat) : Int) ≤ 140737488355328 := by omega
    rw [h4]
    rw [Int.natCast_mul, Int.mul_comm] at this
    omega) (by omega)
  simp only [Int.toNat_natCast, h3] at hr
  have : (execOp a.eval ⟨some d, .makeSlice t x y, ty, pos, after, gd⟩).run P w = .ok (.value (.slice (some ⟨w.heap.size, 0, none⟩) n n)) (w.alloc (.cells (madeCells z.cells (n * sz)) e)) := by
    simp only [execOp, hi.ev hx, hi.ev hy, Sem.run_bind, hr, Result.andThen_ok, Sem.run_pure]
  refine wo_value this ?_
  have hal := hi.alloc e (madeCells z.cells (n * sz)).toList
  rw [Array.toArray_toList] at hal
  exact hk _ _ _ ⟨w.heap.size, _, by rw [Array.length_toList, size_madeCells], rfl⟩ (hal.put (by exact hn) _)
/-- A function value with arguments bound ahead, and its call. -/
theorem op_makeFuncB {f : FuncId} {bs : List Operand} {vals : List Value} (ha : bs.map s.ev = vals.map some) (hn : d < s.n := by exact ltn rfl) : OpV P E ⟨some d, .makeFunc (.func f) bs.toArray #[], ty, pos, after, gd⟩ s d (.func (.func f) vals.toArray #[]) :=
  op_val rfl hn (fun a h w => by simp [execOp, Instr.makeFunc, evals h ha])
theorem o_callB {f : FuncId} {args : List Operand} {ats : Array TypeId} {bnd vals : List Value} {F : List Fact} {R : Value → List Fact → List ORow → Prop}
    (hF : FOk P f) (h : VCalls P f (bnd ++ vals) F R) (hc : St.ev ⟨n0, t0, f0, b0, r0⟩ x = some (.func (.func f) bnd.toArray #[])) (ha : args.map (St.ev ⟨n0, t0, f0, b0, r0⟩) = vals.map some) (hn : d < n0) (hf : ∀ x ∈ F, x ∈ f0) :
    Op1 P E ⟨some d, .call { callee := .value x, args := args.toArray, argTypes := ats }, ty, pos, after, gd⟩ ⟨n0, t0, f0, b0, r0⟩ (fun s' => ∃ v G own, R v G own ∧ s' = ⟨n0, (d, v) :: t0, G ++ f0, b0, own ++ r0⟩) := by
  intro a w K Q hi hk
  obtain ⟨fn, h1, h2, h3⟩ := hF.ok
  have h2' : fn.name ≠ "runtime.NumGoroutine" := by simpa using h2
  have h3' : fn.body ≠ none := by
    intro e
    rw [e] at h3
    cases h3
  have hev : bnd.toArray ++ (args.toArray.map a.eval) = (bnd ++ vals).toArray := by
    rw [List.map_toArray, eval_args hi ha]
    simp
  have : (execOp a.eval ⟨some d, .call { callee := .value x, args := args.toArray, argTypes := ats }, ty, pos, after, gd⟩).run P w = .ok (.enter f (bnd ++ vals).toArray) w := by
    rw [← hev]
    simp [execOp, resolve, hi.ev hc, Deferred.ofValue, invoke, callFunc, h1, h2', h3']
  refine wo_enter this ?_
  refine (h (fun k => ok E ⟨n0, t0, f0, b0, r0⟩ w k) w (fun k hk => hk.2.1) (fun x hx => hi.facts x (hf x hx))).mono ?_
  rintro e w2 ⟨v, G, own, rfl, hR, g1, g2, g3, g4⟩
  have hi2 := hi.called (G := G) (own := own) (C := fun k => ok E ⟨n0, t0, f0, b0, r0⟩ w k) (fun _ _ _ hk => hk) g1 g2 g3 g4
  exact hk _ _ _ ⟨v, G, own, hR, rfl⟩ (hi2.put (by exact hn) v)
/-- A list so many times. -/
def repl {α : Type} (l : List α) : Nat → List α
  | 0 => []
  | n + 1 => l ++ repl l n
theorem repl_len {α : Type} (l : List α) : ∀ n, (repl l n).length = l.length * n
  | 0 => rfl
  | n + 1 => by rw [repl, List.length_append, repl_len l n, Nat.mul_succ, Nat.add_comm]
theorem repl_add {α : Type} (l : List α) : ∀ a b, repl l (a + b) = repl l a ++ repl l b
  | 0, b => by rw [Nat.zero_add]; rfl
  | a + 1, b => by rw [show a + 1 + b = (a + b) + 1 by omega, repl, repl_add l a b, repl, List.append_assoc]
theorem repl_shift {α : Type} (l : List α) (n a : Nat) (h : a ≤ n) : (repl l n).drop (l.length * a) = (repl l n).take (l.length * n - l.length * a) := by
  obtain ⟨b, rfl⟩ : ∃ b, n = a + b := ⟨n - a, by omega⟩
  have h1 : (repl l (a + b)).drop (l.length * a) = repl l b := by
    rw [repl_add, ← repl_len l a, List.drop_left]
  have h2 : (repl l (a + b)).take (l.length * (a + b) - l.length * a) = repl l b := by
    rw [Nat.mul_add, Nat.add_sub_cancel_left, Nat.add_comm a b, repl_add, ← repl_len l b, List.take_left]
  rw [h1, h2]
end
end Go.Proofs.YtipeglbeongfmaaV
