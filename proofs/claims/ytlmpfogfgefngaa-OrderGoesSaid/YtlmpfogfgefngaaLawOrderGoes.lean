/- Written by a program of this repo: what the program's functions do, each as a Lean function, shown of the loaded code; or a statement's row over that; no condition of its own. -/
import Derived.Test.YtlmpfogfgefngaaRows
import Derived.Test.YtlmpfogfgefngaaPOrderGoesx13
import Derived.Test.YtlmpfogfgefngaaPureOrderGoes
import Derived.WalkKit
import Derived.ProofKit
import Derived.OpenShut
import Derived.ShutString
import Derived.ChangeOld
import Derived.Below
import Derived.SizedLaws
import Derived.Carry
namespace Go.Proofs.Ytlmpfogfgefngaa.orderGoes
open Go.ChangeShapes Go.WideShapes Go.ChangeAt Go.RowKit
open Go.ChangeMaps (open_string shut_string)
open Go.Proofs.Ytlmpfogfgefngaa.POrderGoes Go.Proofs.YtlmpfogfgefngaaV
set_option linter.unusedVariables false
theorem own : ownKnob Try.prog.godebug = none := by kernel_rfl
theorem laidOut : laidOutB Try.prog = true := by kernel_rfl
set_option maxRecDepth 100000 in
set_option maxHeartbeats 1000000 in
theorem lifted (os : Os) (started : os.Started) (H : Type) (enc : TypeId × Value → H) :
    ReturnsInHanded {} Try.checked os 5 .any (Rows.orderGoesSpec.pre6 enc Try.prog Try.f5 Rows.orderGoesRow.domain false) (Rows.orderGoesSpec.post enc Try.prog Try.f5 false true false false) := by
  refine returnsInHanded_of_change_sized (C := Try.checked) own started (by kernel_rfl) Try.func5
    (ChangeSpec.witness6 (enc := enc) (C := Try.checked) false ⟨#[], #[.agg #[.int .i64 0, .string ByteArray.empty, .int .i64 0, .int .i64 0, .int .i64 0, .int .i64 0, .int .i64 0, .int .i64 0, .bool false, .int .i64 0, .string ByteArray.empty, .int .i64 0, .int .i64 0, .int .i64 0, .int .i64 0, .int .i64 0, .int .i64 0, .int .i64 0, .int .i64 0, .int .i64 0, .bool false], .agg #[.string ByteArray.empty, .int .i64 0, .int .i64 0, .int .i64 0]], []⟩ 8 (by kernel_rfl) (by kernel_rfl) (by kernel_rfl) (by kernel_rfl)) ?_
  intro W base args ds gs before hval0 hW hcnd hsz0 _
  have hsz : (DataW.weightsEach Try.prog (Try.f5.params.toList ++ Rows.orderGoesSpec.plain.varTypes Try.prog) (ds ++ gs)).all (· ≤ reachBytes) = true := hsz0
  have hval : ∀ (j : Nat) t v, Try.f5.params[j]? = some t → args[j]? = some v → Value.okWide Try.prog W .any base t v := hval0
  have hW' := hW
  obtain ⟨p, q, hA0, hV, rfl, hfz, hnd⟩ := hW
  have hA : DataW.TrodAll enc Try.prog W 0 (fun _ => true) true Try.f5.params.toList args.toList ds p := hA0
  rw [Try.params5] at hA hval hsz
  obtain ⟨v0, vs0, d0, ds0, p0, q0, hargs, rfl, rfl, h0, r0⟩ := trodAll_cons hA
  obtain ⟨v1, vs1, d1, ds1, p1, q1, rfl, rfl, rfl, h1, r1⟩ := trodAll_cons r0
  obtain ⟨rfl, rfl, rfl⟩ := trodAll_nil r1
  obtain rfl : args = #[v0, v1] := by cases args; simp_all
  obtain ⟨rfl, rfl⟩ := trodVars_none hV
  have t0 := h0
  have lt0 : ∀ x ∈ p0, x.block < W.heap.size := by obtain ⟨m, hm⟩ := t0; exact DataW.trod_lt m _ _ _ hm
  obtain ⟨cs0, rfl, _⟩ := okWide_struct Try.underlying29 (hval 0 29 v0 rfl rfl)
  obtain ⟨fuel0, hf0⟩ := h0
  have hD0 := OpD.open_ (OpD.struct Try.underlying29 (OpDF.cons rfl (OpD.int Try.underlying3 (by kernel_rfl)) (OpDF.cons rfl (OpD.string Try.underlying9 (by kernel_rfl)) (OpDF.cons rfl (OpD.int Try.underlying3 (by kernel_rfl)) (OpDF.cons rfl (OpD.int Try.underlying3 (by kernel_rfl)) (OpDF.cons rfl (OpD.int Try.underlying3 (by kernel_rfl)) (OpDF.cons rfl (OpD.int Try.underlying3 (by kernel_rfl)) (OpDF.cons rfl (OpD.int Try.underlying3 (by kernel_rfl)) (OpDF.cons rfl (OpD.int Try.underlying3 (by kernel_rfl)) (OpDF.cons rfl (OpD.bool Try.underlying4 (by kernel_rfl)) (OpDF.cons rfl (OpD.int Try.underlying3 (by kernel_rfl)) (OpDF.cons rfl (OpD.struct Try.underlying23 (OpDF.cons rfl (OpD.string Try.underlying9 (by kernel_rfl)) (OpDF.cons rfl (OpD.int Try.underlying3 (by kernel_rfl)) (OpDF.cons rfl (OpD.int Try.underlying3 (by kernel_rfl)) (OpDF.one rfl (OpD.int Try.underlying3 (by kernel_rfl)))))) (by kernel_rfl)) (OpDF.cons rfl (OpD.struct Try.underlying25 (OpDF.cons rfl (OpD.int Try.underlying3 (by kernel_rfl)) (OpDF.cons rfl (OpD.int Try.underlying3 (by kernel_rfl)) (OpDF.cons rfl (OpD.int Try.underlying3 (by kernel_rfl)) (OpDF.one rfl (OpD.int Try.underlying3 (by kernel_rfl)))))) (by kernel_rfl)) (OpDF.cons rfl (OpD.struct Try.underlying27 (OpDF.cons rfl (OpD.int Try.underlying3 (by kernel_rfl)) (OpDF.one rfl (OpD.int Try.underlying3 (by kernel_rfl)))) (by kernel_rfl)) (OpDF.one rfl (OpD.bool Try.underlying4 (by kernel_rfl)))))))))))))))) (by kernel_rfl)) enc W 0 _ true fuel0 _ _ hf0
  obtain ⟨cl0, ecl0⟩ : ∃ cl : List Value, cs0.toList = cl := ⟨_, rfl⟩
  have hD0' := hD0
  simp only [Value.cells, ecl0] at hD0'
  obtain ⟨_, _, rfl, ⟨a0_0, rfl, wa0_0⟩, ⟨_, _, rfl, ⟨a0_1, rfl, wa0_1⟩, ⟨_, _, rfl, ⟨a0_2, rfl, wa0_2⟩, ⟨_, _, rfl, ⟨a0_3, rfl, wa0_3⟩, ⟨_, _, rfl, ⟨a0_4, rfl, wa0_4⟩, ⟨_, _, rfl, ⟨a0_5, rfl, wa0_5⟩, ⟨_, _, rfl, ⟨a0_6, rfl, wa0_6⟩, ⟨_, _, rfl, ⟨a0_7, rfl, wa0_7⟩, ⟨_, _, rfl, ⟨a0_8, rfl⟩, ⟨_, _, rfl, ⟨a0_9, rfl, wa0_9⟩, ⟨_, _, rfl, ⟨_, _, rfl, ⟨a0_10, rfl, wa0_10⟩, ⟨_, _, rfl, ⟨a0_11, rfl, wa0_11⟩, ⟨_, _, rfl, ⟨a0_12, rfl, wa0_12⟩, ⟨a0_13, rfl, wa0_13⟩⟩⟩⟩, ⟨_, _, rfl, ⟨_, _, rfl, ⟨a0_14, rfl, wa0_14⟩, ⟨_, _, rfl, ⟨a0_15, rfl, wa0_15⟩, ⟨_, _, rfl, ⟨a0_16, rfl, wa0_16⟩, ⟨a0_17, rfl, wa0_17⟩⟩⟩⟩, ⟨_, _, rfl, ⟨_, _, rfl, ⟨a0_18, rfl, wa0_18⟩, ⟨a0_19, rfl, wa0_19⟩⟩, ⟨a0_20, rfl⟩⟩⟩⟩⟩⟩⟩⟩⟩⟩⟩⟩⟩⟩ := hD0'
  obtain rfl : cs0 = #[.int .i64 a0_0, .string a0_1, .int .i64 a0_2, .int .i64 a0_3, .int .i64 a0_4, .int .i64 a0_5, .int .i64 a0_6, .int .i64 a0_7, .bool a0_8, .int .i64 a0_9, .string a0_10, .int .i64 a0_11, .int .i64 a0_12, .int .i64 a0_13, .int .i64 a0_14, .int .i64 a0_15, .int .i64 a0_16, .int .i64 a0_17, .int .i64 a0_18, .int .i64 a0_19, .bool a0_20] := by cases cs0; simp only [List.cons_append, List.nil_append] at ecl0; rw [show _ = _ from ecl0]
  have t1 := h1
  have lt1 : ∀ x ∈ p1, x.block < W.heap.size := by obtain ⟨m, hm⟩ := t1; exact DataW.trod_lt m _ _ _ hm
  obtain ⟨cs1, rfl, _⟩ := okWide_struct Try.underlying23 (hval 1 23 v1 rfl rfl)
  obtain ⟨fuel1, hf1⟩ := h1
  have hD1 := OpD.open_ (OpD.struct Try.underlying23 (OpDF.cons rfl (OpD.string Try.underlying9 (by kernel_rfl)) (OpDF.cons rfl (OpD.int Try.underlying3 (by kernel_rfl)) (OpDF.cons rfl (OpD.int Try.underlying3 (by kernel_rfl)) (OpDF.one rfl (OpD.int Try.underlying3 (by kernel_rfl)))))) (by kernel_rfl)) enc W 0 _ true fuel1 _ _ hf1
  obtain ⟨cl1, ecl1⟩ : ∃ cl : List Value, cs1.toList = cl := ⟨_, rfl⟩
  have hD1' := hD1
  simp only [Value.cells, ecl1] at hD1'
  obtain ⟨_, _, rfl, ⟨a1_0, rfl, wa1_0⟩, ⟨_, _, rfl, ⟨a1_1, rfl, wa1_1⟩, ⟨_, _, rfl, ⟨a1_2, rfl, wa1_2⟩, ⟨a1_3, rfl, wa1_3⟩⟩⟩⟩ := hD1'
  obtain rfl : cs1 = #[.string a1_0, .int .i64 a1_1, .int .i64 a1_2, .int .i64 a1_3] := by cases cs1; simp only [List.cons_append, List.nil_append] at ecl1; rw [show _ = _ from ecl1]
  clear hA0 hval0 hsz0 hsz
  obtain ⟨k, h⟩ := Pure.OrderGoes a0_0 a0_1 a0_2 a0_3 a0_4 a0_5 a0_6 a0_7 a0_8 a0_9 a0_10 a0_11 a0_12 a0_13 a0_14 a0_15 a0_16 a0_17 a0_18 a0_19 a0_20 a1_0 a1_1 a1_2 a1_3 wa0_0 wa0_1 wa0_2 wa0_3 wa0_4 wa0_5 wa0_6 wa0_7 wa0_9 wa0_10 wa0_11 wa0_12 wa0_13 wa0_14 wa0_15 wa0_16 wa0_17 wa0_18 wa0_19 wa1_0 wa1_1 wa1_2 wa1_3
  refine (tarrylaw13_OrderGoes.ok k a0_0 a0_1 a0_2 a0_3 a0_4 a0_5 a0_6 a0_7 a0_8 a0_9 a0_10 a0_11 a0_12 a0_13 a0_14 a0_15 a0_16 a0_17 a0_18 a0_19 a0_20 a1_0 a1_1 a1_2 a1_3  true h (fun b => b < W.heap.size) W (fun _ h => h) (All_of .nil)).mono fun e W' hq => ?_
  obtain ⟨_, _, _, he, ⟨rfl, rfl, rfl⟩, _, _, _, bel⟩ := hq
  subst he
  exact ⟨_, rfl, _, _, _, [], _, [], hW', trodAll_mk1 (shut_bool Try.underlying4 _), (trodAll_cons_mk (Below.trod laidOut (by kernel_rfl) (of_decide_eq_true (by kernel_rfl)) t0 bel lt0) (trodAll_cons_mk (Below.trod laidOut (by kernel_rfl) (of_decide_eq_true (by kernel_rfl)) t1 bel lt1) trodAll_mk0)), rfl, bel.frame _, fun h => by cases h⟩
theorem over : Rows.orderGoesRow.holds Try.pinned (OpenSpec.ofChange Rows.orderGoesSpec) :=
  OpenClaim.holds_of_wide 5 Try.f5 rfl rfl rfl rfl rfl rfl rfl ⟨rfl, rfl, rfl, rfl, rfl⟩ rfl rfl rfl rfl rfl (by kernel_rfl) Try.func5 (by kernel_rfl)
    (of_decide_eq_true (by kernel_rfl)) (by unfold Func.isWrapper; first | (rw [if_pos (by decide +kernel)]; kernel_rfl) | (rw [if_neg (by decide +kernel)]; exact ⟨rfl, rfl⟩))
    (fun os started H enc _ => lifted os started H enc)
theorem proved : Rows.OrderGoesSaid := over
end Go.Proofs.Ytlmpfogfgefngaa.orderGoes
namespace Go.Proofs.Ytlmpfogfgefngaa
/-- The row, under a short name, for the claim. -/
theorem orderGoes_holds : Rows.OrderGoesSaid := orderGoes.proved
end Go.Proofs.Ytlmpfogfgefngaa
