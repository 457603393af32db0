/- Written by a program of this repo: what the program's functions do, each as a Lean function, shown of the loaded code; or a statement's row over that; no condition of its own. -/
import Derived.Test.YthgoagnennjagaaRows
import Derived.Test.YthgoagnennjagaaPQueueHeapsx8
import Derived.Test.YthgoagnennjagaaPureQueueHeaps
import Derived.WalkKit
import Derived.ProofKit
import Derived.OpenShut
import Derived.ShutString
import Derived.ChangeOld
import Derived.Below
import Derived.SizedLaws
import Derived.Carry
namespace Go.Proofs.Ythgoagnennjagaa.queueHeaps
open Go.ChangeShapes Go.WideShapes Go.ChangeAt Go.RowKit
open Go.ChangeMaps (open_string shut_string)
open Go.Proofs.Ythgoagnennjagaa.PQueueHeaps Go.Proofs.YthgoagnennjagaaV
set_option linter.unusedVariables false
theorem own : ownKnob Try.prog.godebug = none := by kernel_rfl
theorem laidOut : laidOutB Try.prog = true := by kernel_rfl
set_option maxRecDepth 100000 in
set_option maxHeartbeats 1000000 in
theorem lifted (os : Os) (started : os.Started) (H : Type) (enc : TypeId × Value → H) :
    ReturnsInHanded {} Try.checked os 3 .any (Rows.queueHeapsSpec.pre6 enc Try.prog Try.f3 Rows.queueHeapsRow.domain false) (Rows.queueHeapsSpec.post enc Try.prog Try.f3 false true false false) := by
  refine returnsInHanded_of_change_sized (C := Try.checked) own started (by kernel_rfl) Try.func3
    (ChangeSpec.witness6 (enc := enc) (C := Try.checked) false ⟨#[], #[.slice none 0 0, .agg #[.int .i64 0, .int .i64 0, .int .i64 0], .agg #[.int .i64 0, .int .i64 0, .int .i64 0]], []⟩ 8 (by kernel_rfl) (by kernel_rfl) (by kernel_rfl) (by kernel_rfl)) ?_
  intro W base args ds gs before hval0 hW hcnd hsz0 _
  have hsz : (DataW.weightsEach Try.prog (Try.f3.params.toList ++ Rows.queueHeapsSpec.plain.varTypes Try.prog) (ds ++ gs)).all (· ≤ reachBytes) = true := hsz0
  have hval : ∀ (j : Nat) t v, Try.f3.params[j]? = some t → args[j]? = some v → Value.okWide Try.prog W .any base t v := hval0
  have hW' := hW
  obtain ⟨p, q, hA0, hV, rfl, hfz, hnd⟩ := hW
  have hA : DataW.TrodAll enc Try.prog W 0 (fun _ => true) true Try.f3.params.toList args.toList ds p := hA0
  rw [Try.params3] at hA hval hsz
  obtain ⟨v0, vs0, d0, ds0, p0, q0, hargs, rfl, rfl, h0, r0⟩ := trodAll_cons hA
  obtain ⟨v1, vs1, d1, ds1, p1, q1, rfl, rfl, rfl, h1, r1⟩ := trodAll_cons r0
  obtain ⟨v2, vs2, d2, ds2, p2, q2, rfl, rfl, rfl, h2, r2⟩ := trodAll_cons r1
  obtain ⟨rfl, rfl, rfl⟩ := trodAll_nil r2
  obtain rfl : args = #[v0, v1, v2] := by cases args; simp_all
  obtain ⟨rfl, rfl⟩ := trodVars_none hV
  have t0 := h0
  have lt0 : ∀ x ∈ p0, x.block < W.heap.size := by obtain ⟨m, hm⟩ := t0; exact DataW.trod_lt m _ _ _ hm
  obtain ⟨A0, n0, c0, rfl⟩ := okWide_slice Try.underlying22 (hval 0 22 v0 rfl rfl)
  obtain ⟨fuel0, hf0⟩ := h0
  obtain ⟨l0, B0, m0, e0, f0, w0⟩ := OpD.open_ (OpD.slice (k := 3) (enc := enc23) (ok := ok23) Try.underlying22 (by kernel_rfl) (OpD.struct Try.underlying24 (OpDF.cons rfl (OpD.int Try.underlying3 (by kernel_rfl)) (OpDF.cons rfl (OpD.int Try.underlying3 (by kernel_rfl)) (OpDF.one rfl (OpD.int Try.underlying3 (by kernel_rfl))))) (by kernel_rfl)) (by rintro w cs ⟨_, _, rfl, ⟨z0, rfl, wz0⟩, ⟨_, _, rfl, ⟨z1, rfl, wz1⟩, ⟨z2, rfl, wz2⟩⟩⟩; exact ⟨⟨z0, z1, z2⟩, rfl, ⟨wz0, wz1, wz2⟩⟩) (by decide) enc23_ok) enc W 0 _ true fuel0 _ _ hf0
  simp only [Value.cells, List.cons.injEq, Value.slice.injEq, and_true] at e0
  obtain ⟨rfl, rfl, rfl⟩ := e0
  have t1 := h1
  have lt1 : ∀ x ∈ p1, x.block < W.heap.size := by obtain ⟨m, hm⟩ := t1; exact DataW.trod_lt m _ _ _ hm
  obtain ⟨cs1, rfl, _⟩ := okWide_struct Try.underlying24 (hval 1 24 v1 rfl rfl)
  obtain ⟨fuel1, hf1⟩ := h1
  have hD1 := OpD.open_ (OpD.struct Try.underlying24 (OpDF.cons rfl (OpD.int Try.underlying3 (by kernel_rfl)) (OpDF.cons rfl (OpD.int Try.underlying3 (by kernel_rfl)) (OpDF.one rfl (OpD.int Try.underlying3 (by kernel_rfl))))) (by kernel_rfl)) enc W 0 _ true fuel1 _ _ hf1
  obtain ⟨cl1, ecl1⟩ : ∃ cl : List Value, cs1.toList = cl := ⟨_, rfl⟩
  have hD1' := hD1
  simp only [Value.cells, ecl1] at hD1'
  obtain ⟨_, _, rfl, ⟨a1_0, rfl, wa1_0⟩, ⟨_, _, rfl, ⟨a1_1, rfl, wa1_1⟩, ⟨a1_2, rfl, wa1_2⟩⟩⟩ := hD1'
  obtain rfl : cs1 = #[.int .i64 a1_0, .int .i64 a1_1, .int .i64 a1_2] := by cases cs1; simp only [List.cons_append, List.nil_append] at ecl1; rw [show _ = _ from ecl1]
  have t2 := h2
  have lt2 : ∀ x ∈ p2, x.block < W.heap.size := by obtain ⟨m, hm⟩ := t2; exact DataW.trod_lt m _ _ _ hm
  obtain ⟨cs2, rfl, _⟩ := okWide_struct Try.underlying24 (hval 2 24 v2 rfl rfl)
  obtain ⟨fuel2, hf2⟩ := h2
  have hD2 := OpD.open_ (OpD.struct Try.underlying24 (OpDF.cons rfl (OpD.int Try.underlying3 (by kernel_rfl)) (OpDF.cons rfl (OpD.int Try.underlying3 (by kernel_rfl)) (OpDF.one rfl (OpD.int Try.underlying3 (by kernel_rfl))))) (by kernel_rfl)) enc W 0 _ true fuel2 _ _ hf2
  obtain ⟨cl2, ecl2⟩ : ∃ cl : List Value, cs2.toList = cl := ⟨_, rfl⟩
  have hD2' := hD2
  simp only [Value.cells, ecl2] at hD2'
  obtain ⟨_, _, rfl, ⟨a2_0, rfl, wa2_0⟩, ⟨_, _, rfl, ⟨a2_1, rfl, wa2_1⟩, ⟨a2_2, rfl, wa2_2⟩⟩⟩ := hD2'
  obtain rfl : cs2 = #[.int .i64 a2_0, .int .i64 a2_1, .int .i64 a2_2] := by cases cs2; simp only [List.cons_append, List.nil_append] at ecl2; rw [show _ = _ from ecl2]
  clear hA0 hval0 hsz0 hsz
  obtain ⟨k, h⟩ := Pure.QueueHeaps l0 a1_0 a1_1 a1_2 a2_0 a2_1 a2_2 w0 wa1_0 wa1_1 wa1_2 wa2_0 wa2_1 wa2_2
  refine (tarrylaw06_QueueHeaps.ok k l0 a1_0 a1_1 a1_2 a2_0 a2_1 a2_2 _ true h (fun b => b < W.heap.size) W (fun _ h => h) (All_of (.cons f0 .nil))).mono fun e W' hq => ?_
  obtain ⟨_, _, _, he, ⟨rfl, rfl, rfl⟩, _, _, _, bel⟩ := hq
  subst he
  exact ⟨_, rfl, _, _, _, [], _, [], hW', trodAll_mk1 (shut_bool Try.underlying4 _), (trodAll_cons_mk (Below.trod laidOut (by kernel_rfl) (of_decide_eq_true (by kernel_rfl)) t0 bel lt0) (trodAll_cons_mk (Below.trod laidOut (by kernel_rfl) (of_decide_eq_true (by kernel_rfl)) t1 bel lt1) (trodAll_cons_mk (Below.trod laidOut (by kernel_rfl) (of_decide_eq_true (by kernel_rfl)) t2 bel lt2) trodAll_mk0))), rfl, bel.frame _, fun h => by cases h⟩
theorem over : Rows.queueHeapsRow.holds Try.pinned (OpenSpec.ofChange Rows.queueHeapsSpec) :=
  OpenClaim.holds_of_wide 3 Try.f3 rfl rfl rfl rfl rfl rfl rfl ⟨rfl, rfl, rfl, rfl, rfl⟩ rfl rfl rfl rfl rfl (by kernel_rfl) Try.func3 (by kernel_rfl)
    (of_decide_eq_true (by kernel_rfl)) (by unfold Func.isWrapper; first | (rw [if_pos (by decide +kernel)]; kernel_rfl) | (rw [if_neg (by decide +kernel)]; exact ⟨rfl, rfl⟩))
    (fun os started H enc _ => lifted os started H enc)
theorem proved : Rows.QueueHeapsSaid := over
end Go.Proofs.Ythgoagnennjagaa.queueHeaps
namespace Go.Proofs.Ythgoagnennjagaa
/-- The row, under a short name, for the claim. -/
theorem queueHeaps_holds : Rows.QueueHeapsSaid := queueHeaps.proved
end Go.Proofs.Ythgoagnennjagaa
