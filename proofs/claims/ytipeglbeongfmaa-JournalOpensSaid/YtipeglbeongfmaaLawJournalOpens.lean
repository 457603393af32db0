/- Written by a program of this repo: what the program's functions do, each as a Lean function, shown of the loaded code; or a statement's row over that; no condition of its own. -/
import Derived.Test.YtipeglbeongfmaaRows
import Derived.Test.YtipeglbeongfmaaPJournalOpensx19
import Derived.Test.YtipeglbeongfmaaPureJournalOpens
import Derived.WalkKit
import Derived.ProofKit
import Derived.OpenShut
import Derived.ShutString
import Derived.ChangeOld
import Derived.Below
import Derived.SizedLaws
import Derived.Carry
namespace Go.Proofs.Ytipeglbeongfmaa.journalOpens
open Go.ChangeShapes Go.WideShapes Go.ChangeAt Go.RowKit
open Go.ChangeMaps (open_string shut_string)
open Go.Proofs.Ytipeglbeongfmaa.PJournalOpens Go.Proofs.YtipeglbeongfmaaV
set_option linter.unusedVariables false
theorem own : ownKnob Try.prog.godebug = none := by kernel_rfl
theorem laidOut : laidOutB Try.prog = true := by kernel_rfl
set_option maxRecDepth 100000 in
set_option maxHeartbeats 1000000 in
theorem lifted (os : Os) (started : os.Started) (H : Type) (enc : TypeId × Value → H) :
    ReturnsInHanded {} Try.checked os 3 .any (Rows.journalOpensSpec.pre6 enc Try.prog Try.f3 Rows.journalOpensRow.domain false) (Rows.journalOpensSpec.post enc Try.prog Try.f3 false true false false) := by
  refine returnsInHanded_of_change_sized (C := Try.checked) own started (by kernel_rfl) Try.func3
    (ChangeSpec.witness6 (enc := enc) (C := Try.checked) false ⟨#[], #[.int .i64 0, .agg #[.slice none 0 0, .slice none 0 0], .agg #[.slice none 0 0, .slice none 0 0, .int .i64 0, .int .i64 0, .int .i64 0, .slice none 0 0, .slice none 0 0]], []⟩ 8 (by kernel_rfl) (by kernel_rfl) (by kernel_rfl) (by kernel_rfl)) ?_
  intro W base args ds gs before hval0 hW hcnd hsz0 _
  have hsz : (DataW.weightsEach Try.prog (Try.f3.params.toList ++ Rows.journalOpensSpec.plain.varTypes Try.prog) (ds ++ gs)).all (· ≤ reachBytes) = true := hsz0
  have hval : ∀ (j : Nat) t v, Try.f3.params[j]? = some t → args[j]? = some v → Value.okWide Try.prog W .any base t v := hval0
  have hW' := hW
  obtain ⟨p, q, hA0, hV, rfl, hfz, hnd⟩ := hW
  have hA : DataW.TrodAll enc Try.prog W 0 (fun _ => true) true Try.f3.params.toList args.toList ds p := hA0
  rw [Try.params3] at hA hval hsz
  obtain ⟨v0, vs0, d0, ds0, p0, q0, hargs, rfl, rfl, h0, r0⟩ := trodAll_cons hA
  obtain ⟨v1, vs1, d1, ds1, p1, q1, rfl, rfl, rfl, h1, r1⟩ := trodAll_cons r0
  obtain ⟨v2, vs2, d2, ds2, p2, q2, rfl, rfl, rfl, h2, r2⟩ := trodAll_cons r1
  obtain ⟨rfl, rfl, rfl⟩ := trodAll_nil r2
  obtain rfl : args = #[v0, v1, v2] := by cases args; simp_all
  obtain ⟨rfl, rfl⟩ := trodVars_none hV
  obtain ⟨a0, rfl, rfl, rfl, w0⟩ := open_int Try.underlying3 (hval 0 3 v0 rfl rfl) h0
  have t1 := h1
  have lt1 : ∀ x ∈ p1, x.block < W.heap.size := by obtain ⟨m, hm⟩ := t1; exact DataW.trod_lt m _ _ _ hm
  obtain ⟨cs1, rfl, _⟩ := okWide_struct Try.underlying25 (hval 1 25 v1 rfl rfl)
  obtain ⟨fuel1, hf1⟩ := h1
  have hD1 := OpD.open_ (OpD.struct Try.underlying25 (OpDF.cons rfl (OpD.slice (k := 1) (enc := enc_str) (ok := (fun x : ByteArray => x.size ≤ 9223372036854775807)) Try.underlying22 (by kernel_rfl) (OpD.string Try.underlying9 (by kernel_rfl)) (by rintro w cs ⟨z0, rfl, wz0⟩; exact ⟨z0, rfl, wz0⟩) (by decide) enc_str_ok) (OpDF.one rfl (OpD.slice (k := 2) (enc := enc55) (ok := ok55) Try.underlying23 (by kernel_rfl) (OpD.struct Try.underlying56 (OpDF.cons rfl (OpD.int Try.underlying3 (by kernel_rfl)) (OpDF.one rfl (OpD.string Try.underlying9 (by kernel_rfl)))) (by kernel_rfl)) (by rintro w cs ⟨_, _, rfl, ⟨z0, rfl, wz0⟩, ⟨z1, rfl, wz1⟩⟩; exact ⟨⟨z0, z1⟩, rfl, ⟨wz0, wz1⟩⟩) (by decide) enc55_ok))) (by kernel_rfl)) enc W 0 _ true fuel1 _ _ hf1
  obtain ⟨cl1, ecl1⟩ : ∃ cl : List Value, cs1.toList = cl := ⟨_, rfl⟩
  have hD1' := hD1
  simp only [Value.cells, ecl1] at hD1'
  obtain ⟨_, _, rfl, ⟨la1_0, Aa1_0, ca1_0, rfl, fa1_0, wa1_0⟩, ⟨la1_1, Aa1_1, ca1_1, rfl, fa1_1, wa1_1⟩⟩ := hD1'
  obtain rfl : cs1 = #[.slice Aa1_0 la1_0.length ca1_0, .slice Aa1_1 la1_1.length ca1_1] := by cases cs1; simp only [List.cons_append, List.nil_append] at ecl1; rw [show _ = _ from ecl1]
  have t2 := h2
  have lt2 : ∀ x ∈ p2, x.block < W.heap.size := by obtain ⟨m, hm⟩ := t2; exact DataW.trod_lt m _ _ _ hm
  obtain ⟨cs2, rfl, _⟩ := okWide_struct Try.underlying27 (hval 2 27 v2 rfl rfl)
  obtain ⟨fuel2, hf2⟩ := h2
  have hD2 := OpD.open_ (OpD.struct Try.underlying27 (OpDF.cons rfl (OpD.struct Try.underlying25 (OpDF.cons rfl (OpD.slice (k := 1) (enc := enc_str) (ok := (fun x : ByteArray => x.size ≤ 9223372036854775807)) Try.underlying22 (by kernel_rfl) (OpD.string Try.underlying9 (by kernel_rfl)) (by rintro w cs ⟨z0, rfl, wz0⟩; exact ⟨z0, rfl, wz0⟩) (by decide) enc_str_ok) (OpDF.one rfl (OpD.slice (k := 2) (enc := enc55) (ok := ok55) Try.underlying23 (by kernel_rfl) (OpD.struct Try.underlying56 (OpDF.cons rfl (OpD.int Try.underlying3 (by kernel_rfl)) (OpDF.one rfl (OpD.string Try.underlying9 (by kernel_rfl)))) (by kernel_rfl)) (by rintro w cs ⟨_, _, rfl, ⟨z0, rfl, wz0⟩, ⟨z1, rfl, wz1⟩⟩; exact ⟨⟨z0, z1⟩, rfl, ⟨wz0, wz1⟩⟩) (by decide) enc55_ok))) (by kernel_rfl)) (OpDF.cons rfl (OpD.int Try.underlying3 (by kernel_rfl)) (OpDF.cons rfl (OpD.int Try.underlying3 (by kernel_rfl)) (OpDF.cons rfl (OpD.int Try.underlying3 (by kernel_rfl)) (OpDF.cons rfl (OpD.slice (k := 1) (enc := enc_str) (ok := (fun x : ByteArray => x.size ≤ 9223372036854775807)) Try.underlying22 (by kernel_rfl) (OpD.string Try.underlying9 (by kernel_rfl)) (by rintro w cs ⟨z0, rfl, wz0⟩; exact ⟨z0, rfl, wz0⟩) (by decide) enc_str_ok) (OpDF.one rfl (OpD.slice (k := 1) (enc := enc_str) (ok := (fun x : ByteArray => x.size ≤ 9223372036854775807)) Try.underlying22 (by kernel_rfl) (OpD.string Try.underlying9 (by kernel_rfl)) (by rintro w cs ⟨z0, rfl, wz0⟩; exact ⟨z0, rfl, wz0⟩) (by decide) enc_str_ok))))))) (by kernel_rfl)) enc W 0 _ true fuel2 _ _ hf2
  obtain ⟨cl2, ecl2⟩ : ∃ cl : List Value, cs2.toList = cl := ⟨_, rfl⟩
  have hD2' := hD2
  simp only [Value.cells, ecl2] at hD2'
  obtain ⟨_, _, rfl, ⟨_, _, rfl, ⟨la2_0, Aa2_0, ca2_0, rfl, fa2_0, wa2_0⟩, ⟨la2_1, Aa2_1, ca2_1, rfl, fa2_1, wa2_1⟩⟩, ⟨_, _, rfl, ⟨a2_2, rfl, wa2_2⟩, ⟨_, _, rfl, ⟨a2_3, rfl, wa2_3⟩, ⟨_, _, rfl, ⟨a2_4, rfl, wa2_4⟩, ⟨_, _, rfl, ⟨la2_5, Aa2_5, ca2_5, rfl, fa2_5, wa2_5⟩, ⟨la2_6, Aa2_6, ca2_6, rfl, fa2_6, wa2_6⟩⟩⟩⟩⟩⟩ := hD2'
  obtain rfl : cs2 = #[.slice Aa2_0 la2_0.length ca2_0, .slice Aa2_1 la2_1.length ca2_1, .int .i64 a2_2, .int .i64 a2_3, .int .i64 a2_4, .slice Aa2_5 la2_5.length ca2_5, .slice Aa2_6 la2_6.length ca2_6] := by cases cs2; simp only [List.cons_append, List.nil_append] at ecl2; rw [show _ = _ from ecl2]
  clear hA0 hval0 hsz0 hsz
  obtain ⟨k, h⟩ := Pure.JournalOpens a0 la1_0 la1_1 la2_0 la2_1 a2_2 a2_3 a2_4 la2_5 la2_6 w0 wa1_0 wa1_1 wa2_0 wa2_1 wa2_2 wa2_3 wa2_4 wa2_5 wa2_6
  refine (tarrylaw05_JournalOpens.ok k a0 la1_0 la1_1 la2_0 la2_1 a2_2 a2_3 a2_4 la2_5 la2_6 _ _ _ _ _ _ true h (fun b => b < W.heap.size) W (fun _ h => h) (All_of (.cons fa1_0 (.cons fa1_1 (.cons fa2_0 (.cons fa2_1 (.cons fa2_5 (.cons fa2_6 .nil)))))))).mono fun e W' hq => ?_
  obtain ⟨_, _, _, he, ⟨rfl, rfl, rfl⟩, _, _, _, bel⟩ := hq
  subst he
  exact ⟨_, rfl, _, _, _, [], _, [], hW', trodAll_mk1 (shut_bool Try.underlying4 _), (trodAll_cons_mk (shut_int Try.underlying3 w0) (trodAll_cons_mk (Below.trod laidOut (by kernel_rfl) (of_decide_eq_true (by kernel_rfl)) t1 bel lt1) (trodAll_cons_mk (Below.trod laidOut (by kernel_rfl) (of_decide_eq_true (by kernel_rfl)) t2 bel lt2) trodAll_mk0))), rfl, bel.frame _, fun h => by cases h⟩
theorem over : Rows.journalOpensRow.holds Try.pinned (OpenSpec.ofChange Rows.journalOpensSpec) :=
  OpenClaim.holds_of_wide 3 Try.f3 rfl rfl rfl rfl rfl rfl rfl ⟨rfl, rfl, rfl, rfl, rfl⟩ rfl rfl rfl rfl rfl (by kernel_rfl) Try.func3 (by kernel_rfl)
    (of_decide_eq_true (by kernel_rfl)) (by unfold Func.isWrapper; first | (rw [if_pos (by decide +kernel)]; kernel_rfl) | (rw [if_neg (by decide +kernel)]; exact ⟨rfl, rfl⟩))
    (fun os started H enc _ => lifted os started H enc)
theorem proved : Rows.JournalOpensSaid := over
end Go.Proofs.Ytipeglbeongfmaa.journalOpens
namespace Go.Proofs.Ytipeglbeongfmaa
/-- The row, under a short name, for the claim. -/
theorem journalOpens_holds : Rows.JournalOpensSaid := journalOpens.proved
end Go.Proofs.Ytipeglbeongfmaa
