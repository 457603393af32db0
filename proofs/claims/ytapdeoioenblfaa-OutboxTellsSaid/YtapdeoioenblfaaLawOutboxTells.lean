/- Written by a program of this repo: what the program's functions do, each as a Lean function, shown of the loaded code; or a statement's row over that; no condition of its own. -/
import Derived.Test.YtapdeoioenblfaaRows
import Derived.Test.YtapdeoioenblfaaPOutboxTellsx5
import Derived.Test.YtapdeoioenblfaaPureOutboxTells
import Derived.WalkKit
import Derived.ProofKit
import Derived.OpenShut
import Derived.ShutString
import Derived.ChangeOld
import Derived.Below
import Derived.SizedLaws
import Derived.Carry
namespace Go.Proofs.Ytapdeoioenblfaa.outboxTells
open Go.ChangeShapes Go.WideShapes Go.ChangeAt Go.RowKit
open Go.ChangeMaps (open_string shut_string)
open Go.Proofs.Ytapdeoioenblfaa.POutboxTells Go.Proofs.YtapdeoioenblfaaV
set_option linter.unusedVariables false
theorem own : ownKnob Try.prog.godebug = none := by kernel_rfl
theorem laidOut : laidOutB Try.prog = true := by kernel_rfl
set_option maxRecDepth 100000 in
set_option maxHeartbeats 1000000 in
theorem lifted (os : Os) (started : os.Started) (H : Type) (enc : TypeId × Value → H) :
    ReturnsInHanded {} Try.checked os 3 .any (Rows.outboxTellsSpec.pre6 enc Try.prog Try.f3 Rows.outboxTellsRow.domain false) (Rows.outboxTellsSpec.post enc Try.prog Try.f3 false true false false) := by
  refine returnsInHanded_of_change_sized (C := Try.checked) own started (by kernel_rfl) Try.func3
    (ChangeSpec.witness6 (enc := enc) (C := Try.checked) false ⟨#[], #[.slice none 0 0], []⟩ 8 (by kernel_rfl) (by kernel_rfl) (by kernel_rfl) (by kernel_rfl)) ?_
  intro W base args ds gs before hval0 hW hcnd hsz0 _
  have hsz : (DataW.weightsEach Try.prog (Try.f3.params.toList ++ Rows.outboxTellsSpec.plain.varTypes Try.prog) (ds ++ gs)).all (· ≤ reachBytes) = true := hsz0
  have hval : ∀ (j : Nat) t v, Try.f3.params[j]? = some t → args[j]? = some v → Value.okWide Try.prog W .any base t v := hval0
  have hW' := hW
  obtain ⟨p, q, hA0, hV, rfl, hfz, hnd⟩ := hW
  have hA : DataW.TrodAll enc Try.prog W 0 (fun _ => true) true Try.f3.params.toList args.toList ds p := hA0
  rw [Try.params3] at hA hval hsz
  obtain ⟨v0, vs0, d0, ds0, p0, q0, hargs, rfl, rfl, h0, r0⟩ := trodAll_cons hA
  obtain ⟨rfl, rfl, rfl⟩ := trodAll_nil r0
  obtain rfl : args = #[v0] := by cases args; simp_all
  obtain ⟨rfl, rfl⟩ := trodVars_none hV
  have t0 := h0
  have lt0 : ∀ x ∈ p0, x.block < W.heap.size := by obtain ⟨m, hm⟩ := t0; exact DataW.trod_lt m _ _ _ hm
  obtain ⟨A0, n0, c0, rfl⟩ := okWide_slice Try.underlying22 (hval 0 22 v0 rfl rfl)
  obtain ⟨fuel0, hf0⟩ := h0
  obtain ⟨l0, B0, m0, e0, f0, w0⟩ := OpD.open_ (OpD.slice (k := 5) (enc := enc28) (ok := ok28) Try.underlying22 (by kernel_rfl) (OpD.struct Try.underlying29 (OpDF.cons rfl (OpD.int Try.underlying3 (by kernel_rfl)) (OpDF.cons rfl (OpD.int Try.underlying3 (by kernel_rfl)) (OpDF.cons rfl (OpD.int Try.underlying3 (by kernel_rfl)) (OpDF.cons rfl (OpD.int Try.underlying3 (by kernel_rfl)) (OpDF.one rfl (OpD.int Try.underlying3 (by kernel_rfl))))))) (by kernel_rfl)) (by rintro w cs ⟨_, _, rfl, ⟨z0, rfl, wz0⟩, ⟨_, _, rfl, ⟨z1, rfl, wz1⟩, ⟨_, _, rfl, ⟨z2, rfl, wz2⟩, ⟨_, _, rfl, ⟨z3, rfl, wz3⟩, ⟨z4, rfl, wz4⟩⟩⟩⟩⟩; exact ⟨⟨z0, z1, z2, z3, z4⟩, rfl, ⟨wz0, wz1, wz2, wz3, wz4⟩⟩) (by decide) enc28_ok) enc W 0 _ true fuel0 _ _ hf0
  simp only [Value.cells, List.cons.injEq, Value.slice.injEq, and_true] at e0
  obtain ⟨rfl, rfl, rfl⟩ := e0
  clear hA0 hval0 hsz0 hsz
  obtain ⟨k, h⟩ := Pure.OutboxTells l0 w0
  refine (tarrylaw14_OutboxTells.ok k l0 _ true h (fun b => b < W.heap.size) W (fun _ h => h) (All_of (.cons f0 .nil))).mono fun e W' hq => ?_
  obtain ⟨_, _, _, he, ⟨rfl, rfl, rfl⟩, _, _, _, bel⟩ := hq
  subst he
  exact ⟨_, rfl, _, _, _, [], _, [], hW', trodAll_mk1 (shut_bool Try.underlying4 _), (trodAll_cons_mk (Below.trod laidOut (by kernel_rfl) (of_decide_eq_true (by kernel_rfl)) t0 bel lt0) trodAll_mk0), rfl, bel.frame _, fun h => by cases h⟩
theorem over : Rows.outboxTellsRow.holds Try.pinned (OpenSpec.ofChange Rows.outboxTellsSpec) :=
  OpenClaim.holds_of_wide 3 Try.f3 rfl rfl rfl rfl rfl rfl rfl ⟨rfl, rfl, rfl, rfl, rfl⟩ rfl rfl rfl rfl rfl (by kernel_rfl) Try.func3 (by kernel_rfl)
    (of_decide_eq_true (by kernel_rfl)) (by unfold Func.isWrapper; first | (rw [if_pos (by decide +kernel)]; kernel_rfl) | (rw [if_neg (by decide +kernel)]; exact ⟨rfl, rfl⟩))
    (fun os started H enc _ => lifted os started H enc)
theorem proved : Rows.OutboxTellsSaid := over
end Go.Proofs.Ytapdeoioenblfaa.outboxTells
namespace Go.Proofs.Ytapdeoioenblfaa
/-- The row, under a short name, for the claim. -/
theorem outboxTells_holds : Rows.OutboxTellsSaid := outboxTells.proved
end Go.Proofs.Ytapdeoioenblfaa
