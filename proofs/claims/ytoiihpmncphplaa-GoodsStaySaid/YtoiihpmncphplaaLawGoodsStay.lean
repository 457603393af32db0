/- Written by a program of this repo: what the program's functions do, each as a Lean function, shown of the loaded code; or a statement's row over that; no condition of its own. -/
import Derived.Test.YtoiihpmncphplaaRows
import Derived.Test.YtoiihpmncphplaaPGoodsStayx6
import Derived.Test.YtoiihpmncphplaaPureGoodsStay
import Derived.WalkKit
import Derived.ProofKit
import Derived.OpenShut
import Derived.ShutString
import Derived.ChangeOld
import Derived.Below
import Derived.SizedLaws
import Derived.Carry
namespace Go.Proofs.Ytoiihpmncphplaa.goodsStay
open Go.ChangeShapes Go.WideShapes Go.ChangeAt Go.RowKit
open Go.ChangeMaps (open_string shut_string)
open Go.Proofs.Ytoiihpmncphplaa.PGoodsStay Go.Proofs.YtoiihpmncphplaaV
set_option linter.unusedVariables false
theorem own : ownKnob Try.prog.godebug = none := by kernel_rfl
theorem laidOut : laidOutB Try.prog = true := by kernel_rfl
set_option maxRecDepth 100000 in
set_option maxHeartbeats 1000000 in
theorem lifted (os : Os) (started : os.Started) (H : Type) (enc : TypeId × Value → H) :
    ReturnsInHanded {} Try.checked os 4 .any (Rows.goodsStaySpec.pre6 enc Try.prog Try.f4 Rows.goodsStayRow.domain false) (Rows.goodsStaySpec.post enc Try.prog Try.f4 false true false false) := by
  refine returnsInHanded_of_change_sized (C := Try.checked) own started (by kernel_rfl) Try.func4
    (ChangeSpec.witness6 (enc := enc) (C := Try.checked) false ⟨#[], #[.agg #[.slice none 0 0, .slice none 0 0], .agg #[.string ByteArray.empty, .string ByteArray.empty, .int .i64 0, .int .i64 0, .int .i64 0], .agg #[.string ByteArray.empty, .string ByteArray.empty, .int .i64 0, .int .i64 0, .int .i64 0]], []⟩ 8 (by kernel_rfl) (by kernel_rfl) (by kernel_rfl) (by kernel_rfl)) ?_
  intro W base args ds gs before hval0 hW hcnd hsz0 _
  have hsz : (DataW.weightsEach Try.prog (Try.f4.params.toList ++ Rows.goodsStaySpec.plain.varTypes Try.prog) (ds ++ gs)).all (· ≤ reachBytes) = true := hsz0
  have hval : ∀ (j : Nat) t v, Try.f4.params[j]? = some t → args[j]? = some v → Value.okWide Try.prog W .any base t v := hval0
  have hW' := hW
  obtain ⟨p, q, hA0, hV, rfl, hfz, hnd⟩ := hW
  have hA : DataW.TrodAll enc Try.prog W 0 (fun _ => true) true Try.f4.params.toList args.toList ds p := hA0
  rw [Try.params4] at hA hval hsz
  obtain ⟨v0, vs0, d0, ds0, p0, q0, hargs, rfl, rfl, h0, r0⟩ := trodAll_cons hA
  obtain ⟨v1, vs1, d1, ds1, p1, q1, rfl, rfl, rfl, h1, r1⟩ := trodAll_cons r0
  obtain ⟨v2, vs2, d2, ds2, p2, q2, rfl, rfl, rfl, h2, r2⟩ := trodAll_cons r1
  obtain ⟨rfl, rfl, rfl⟩ := trodAll_nil r2
  obtain rfl : args = #[v0, v1, v2] := by cases args; simp_all
  obtain ⟨rfl, rfl⟩ := trodVars_none hV
  have t0 := h0
  have lt0 : ∀ x ∈ p0, x.block < W.heap.size := by obtain ⟨m, hm⟩ := t0; exact DataW.trod_lt m _ _ _ hm
  obtain ⟨cs0, rfl, _⟩ := okWide_struct Try.underlying35 (hval 0 35 v0 rfl rfl)
  obtain ⟨fuel0, hf0⟩ := h0
  have hD0 := OpD.open_ (OpD.struct Try.underlying35 (OpDF.cons rfl (OpD.slice (k := 1) (enc := enc_str) (ok := (fun x : ByteArray => x.size ≤ 9223372036854775807)) Try.underlying32 (by kernel_rfl) (OpD.string Try.underlying9 (by kernel_rfl)) (by rintro w cs ⟨z0, rfl, wz0⟩; exact ⟨z0, rfl, wz0⟩) (by decide) enc_str_ok) (OpDF.one rfl (OpD.slice (k := 5) (enc := enc22) (ok := ok22) Try.underlying33 (by kernel_rfl) (OpD.struct Try.underlying23 (OpDF.cons rfl (OpD.string Try.underlying9 (by kernel_rfl)) (OpDF.cons rfl (OpD.string Try.underlying9 (by kernel_rfl)) (OpDF.cons rfl (OpD.int Try.underlying3 (by kernel_rfl)) (OpDF.cons rfl (OpD.int Try.underlying3 (by kernel_rfl)) (OpDF.one rfl (OpD.int Try.underlying3 (by kernel_rfl))))))) (by kernel_rfl)) (by rintro w cs ⟨_, _, rfl, ⟨z0, rfl, wz0⟩, ⟨_, _, rfl, ⟨z1, rfl, wz1⟩, ⟨_, _, rfl, ⟨z2, rfl, wz2⟩, ⟨_, _, rfl, ⟨z3, rfl, wz3⟩, ⟨z4, rfl, wz4⟩⟩⟩⟩⟩; exact ⟨⟨z0, z1, z2, z3, z4⟩, rfl, ⟨wz0, wz1, wz2, wz3, wz4⟩⟩) (by decide) enc22_ok))) (by kernel_rfl)) enc W 0 _ true fuel0 _ _ hf0
  obtain ⟨cl0, ecl0⟩ : ∃ cl : List Value, cs0.toList = cl := ⟨_, rfl⟩
  have hD0' := hD0
  simp only [Value.cells, ecl0] at hD0'
  obtain ⟨_, _, rfl, ⟨la0_0, Aa0_0, ca0_0, rfl, fa0_0, wa0_0⟩, ⟨la0_1, Aa0_1, ca0_1, rfl, fa0_1, wa0_1⟩⟩ := hD0'
  obtain rfl : cs0 = #[.slice Aa0_0 la0_0.length ca0_0, .slice Aa0_1 la0_1.length ca0_1] := by cases cs0; simp only [List.cons_append, List.nil_append] at ecl0; rw [show _ = _ from ecl0]
  have t1 := h1
  have lt1 : ∀ x ∈ p1, x.block < W.heap.size := by obtain ⟨m, hm⟩ := t1; exact DataW.trod_lt m _ _ _ hm
  obtain ⟨cs1, rfl, _⟩ := okWide_struct Try.underlying23 (hval 1 23 v1 rfl rfl)
  obtain ⟨fuel1, hf1⟩ := h1
  have hD1 := OpD.open_ (OpD.struct Try.underlying23 (OpDF.cons rfl (OpD.string Try.underlying9 (by kernel_rfl)) (OpDF.cons rfl (OpD.string Try.underlying9 (by kernel_rfl)) (OpDF.cons rfl (OpD.int Try.underlying3 (by kernel_rfl)) (OpDF.cons rfl (OpD.int Try.underlying3 (by kernel_rfl)) (OpDF.one rfl (OpD.int Try.underlying3 (by kernel_rfl))))))) (by kernel_rfl)) enc W 0 _ true fuel1 _ _ hf1
  obtain ⟨cl1, ecl1⟩ : ∃ cl : List Value, cs1.toList = cl := ⟨_, rfl⟩
  have hD1' := hD1
  simp only [Value.cells, ecl1] at hD1'
  obtain ⟨_, _, rfl, ⟨a1_0, rfl, wa1_0⟩, ⟨_, _, rfl, ⟨a1_1, rfl, wa1_1⟩, ⟨_, _, rfl, ⟨a1_2, rfl, wa1_2⟩, ⟨_, _, rfl, ⟨a1_3, rfl, wa1_3⟩, ⟨a1_4, rfl, wa1_4⟩⟩⟩⟩⟩ := hD1'
  obtain rfl : cs1 = #[.string a1_0, .string a1_1, .int .i64 a1_2, .int .i64 a1_3, .int .i64 a1_4] := by cases cs1; simp only [List.cons_append, List.nil_append] at ecl1; rw [show _ = _ from ecl1]
  have t2 := h2
  have lt2 : ∀ x ∈ p2, x.block < W.heap.size := by obtain ⟨m, hm⟩ := t2; exact DataW.trod_lt m _ _ _ hm
  obtain ⟨cs2, rfl, _⟩ := okWide_struct Try.underlying23 (hval 2 23 v2 rfl rfl)
  obtain ⟨fuel2, hf2⟩ := h2
  have hD2 := OpD.open_ (OpD.struct Try.underlying23 (OpDF.cons rfl (OpD.string Try.underlying9 (by kernel_rfl)) (OpDF.cons rfl (OpD.string Try.underlying9 (by kernel_rfl)) (OpDF.cons rfl (OpD.int Try.underlying3 (by kernel_rfl)) (OpDF.cons rfl (OpD.int Try.underlying3 (by kernel_rfl)) (OpDF.one rfl (OpD.int Try.underlying3 (by kernel_rfl))))))) (by kernel_rfl)) enc W 0 _ true fuel2 _ _ hf2
  obtain ⟨cl2, ecl2⟩ : ∃ cl : List Value, cs2.toList = cl := ⟨_, rfl⟩
  have hD2' := hD2
  simp only [Value.cells, ecl2] at hD2'
  obtain ⟨_, _, rfl, ⟨a2_0, rfl, wa2_0⟩, ⟨_, _, rfl, ⟨a2_1, rfl, wa2_1⟩, ⟨_, _, rfl, ⟨a2_2, rfl, wa2_2⟩, ⟨_, _, rfl, ⟨a2_3, rfl, wa2_3⟩, ⟨a2_4, rfl, wa2_4⟩⟩⟩⟩⟩ := hD2'
  obtain rfl : cs2 = #[.string a2_0, .string a2_1, .int .i64 a2_2, .int .i64 a2_3, .int .i64 a2_4] := by cases cs2; simp only [List.cons_append, List.nil_append] at ecl2; rw [show _ = _ from ecl2]
  clear hA0 hval0 hsz0 hsz
  obtain ⟨k, h⟩ := Pure.GoodsStay la0_0 la0_1 a1_0 a1_1 a1_2 a1_3 a1_4 a2_0 a2_1 a2_2 a2_3 a2_4 wa0_0 wa0_1 wa1_0 wa1_1 wa1_2 wa1_3 wa1_4 wa2_0 wa2_1 wa2_2 wa2_3 wa2_4
  refine (tarrylaw07_GoodsStay.ok k la0_0 la0_1 a1_0 a1_1 a1_2 a1_3 a1_4 a2_0 a2_1 a2_2 a2_3 a2_4 _ _ true h (fun b => b < W.heap.size) W (fun _ h => h) (All_of (.cons fa0_0 (.cons fa0_1 .nil)))).mono fun e W' hq => ?_
  obtain ⟨_, _, _, he, ⟨rfl, rfl, rfl⟩, _, _, _, bel⟩ := hq
  subst he
  exact ⟨_, rfl, _, _, _, [], _, [], hW', trodAll_mk1 (shut_bool Try.underlying4 _), (trodAll_cons_mk (Below.trod laidOut (by kernel_rfl) (of_decide_eq_true (by kernel_rfl)) t0 bel lt0) (trodAll_cons_mk (Below.trod laidOut (by kernel_rfl) (of_decide_eq_true (by kernel_rfl)) t1 bel lt1) (trodAll_cons_mk (Below.trod laidOut (by kernel_rfl) (of_decide_eq_true (by kernel_rfl)) t2 bel lt2) trodAll_mk0))), rfl, bel.frame _, fun h => by cases h⟩
theorem over : Rows.goodsStayRow.holds Try.pinned (OpenSpec.ofChange Rows.goodsStaySpec) :=
  OpenClaim.holds_of_wide 4 Try.f4 rfl rfl rfl rfl rfl rfl rfl ⟨rfl, rfl, rfl, rfl, rfl⟩ rfl rfl rfl rfl rfl (by kernel_rfl) Try.func4 (by kernel_rfl)
    (of_decide_eq_true (by kernel_rfl)) (by unfold Func.isWrapper; first | (rw [if_pos (by decide +kernel)]; kernel_rfl) | (rw [if_neg (by decide +kernel)]; exact ⟨rfl, rfl⟩))
    (fun os started H enc _ => lifted os started H enc)
theorem proved : Rows.GoodsStaySaid := over
end Go.Proofs.Ytoiihpmncphplaa.goodsStay
namespace Go.Proofs.Ytoiihpmncphplaa
/-- The row, under a short name, for the claim. -/
theorem goodsStay_holds : Rows.GoodsStaySaid := goodsStay.proved
end Go.Proofs.Ytoiihpmncphplaa
