/- Channels that a function makes, fills, shuts and drains itself. -/
import Derived.Test.YtipeglbeongfmaaGreatV20
import Derived.Conc.LoneSelect
namespace Go.Proofs.YtipeglbeongfmaaGreatV
open Go Go.RowKit
set_option linter.unusedVariables false
set_option linter.unusedSimpArgs false
def isCh (cap : Nat) (l : List Value) (cl : Bool) (o : Obj) : Prop := ∃ s r, o = .chan cap l.toArray cl s r false
abbrev Fact.ch (c cap : Nat) (l : List Value) (cl : Bool) : Fact := .ob2 c c (fun o _ => isCh cap l cl o)
/-- The rest of a region from its k-th operation on, by the machine's steps. -/
def VS (P : Program) (E : Env) (ops : Array Oper) (Q : Exit → Act → World → Prop) (k : Nat) (s : St) : Prop :=
  ∀ a w, Inv E s a w → ∀ (b : Frame) (it : List Item) (cs : List Frame), b.roundOf = none → ∃ e a' w', Q e a' w' ∧ Arrives P (lone (b.at a (.inRegion ops (List.range' k (ops.size - k)) :: it)) cs w) b it cs e a' w'

section
variable {P : Program} {E : Env} {w w' : World} {s s' : St} {a : Act} {o : Oper} {ops : Array Oper} {Q : Exit → Act → World → Prop} {d : Nat} {v u : Value} {x y z : Operand}
variable {m : Nat} {ty : TypeId} {pos : String} {after : Array Edge} {gd : Option (Nat × Bool)}
  {n0 n1 n2 : Nat} {t0 t1 t2 : List (Nat × Value)} {f0 f1 : List Fact} {b0 b1 : List (Nat × TypeId × List Value)} {r0 r1 : List (Value × TypeId × Nat × List (List Value))}

theorem VS.rest {k : Nat} {l : List Oper} (hR : E.R = none) (hl : ops.toList.drop k = l) (h : VL P E ops Q l s) : VS P E ops Q k s := by
  subst hl
  intro a w hi b it cs hro
  have h1 := h a w hi
  rw [Env.F_wide hR] at h1
  have h2 : wpOpsIn Fence.wide 0 P ops Q (List.range' k (ops.size - k)) a w := by
    have h3 := wpOpsIn_eq_wpListIn (F := Fence.wide) (n := 0) (P := P) (ops := ops) (Q := Q) (ops.toList.drop k) k (fun j => by simp)
    rw [List.length_drop, Array.length_toList] at h3
    rw [h3]
    exact h1
  obtain ⟨e, a', w', hq, hr⟩ := wp_opsIn _ a w h2 b it cs hro trivial (room_wide _)
  rw [Frame.atR_of_none hro] at hr
  exact ⟨e, a', w', hq, (arrivesIn_iff (fun _ _ => stepsIn_wide) hro).1 hr⟩
theorem range_from {k n : Nat} (h : k < n) : List.range' k (n - k) = k :: List.range' (k + 1) (n - (k + 1)) := by
  rw [show n - k = (n - (k + 1)) + 1 by omega, List.range'_succ]
theorem finish_op {k : Nat} (hk : ops[k]? = some o) (b : Frame) (rest : List Nat) (it : List Item) : (b.at a (.inRegion ops (k :: rest) :: it)).finish v = b.at (a.put o.dst v) (.inRegion ops rest :: it) := by
  rw [Frame.finish_at, hk]
  rfl
theorem VS.va {k : Nat} (hk : ops[k]? = some o) (ho : OpV P E o ⟨n0, t0, f0, b0, r0⟩ d v) (hg : guardOn ops ⟨n0, t0, f0, b0, r0⟩ o = some true) (h : VS P E ops Q (k + 1) ⟨n0, (d, v) :: t0, f0, b0, r0⟩) : VS P E ops Q k ⟨n0, t0, f0, b0, r0⟩ := by
  intro a w hi b it cs hro
  have hrun := ho.run a w (fun x u hx => hi.ev hx) hi.toMem
  obtain ⟨e, a', w', hq, hr⟩ := h _ _ (hi.put ho.lt v) b it cs hro
  refine ⟨e, a', w', hq, .of_steps (.one (step_lone_go ?_)) hr⟩
  rw [range_from (Array.getElem?_eq_some_iff.1 hk).1, stepG_op hk (guardOn_wanted hi hg), ← ho.dst, ← finish_op hk]
  simp [stepG.apply, hrun]
end
end Go.Proofs.YtipeglbeongfmaaGreatV
