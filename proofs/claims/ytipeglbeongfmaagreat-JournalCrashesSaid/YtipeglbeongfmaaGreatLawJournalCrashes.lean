/- Written by a program of this repo: what the program's functions do, each as a Lean function, shown of the loaded code; or a statement's row over that; no condition of its own. -/
import Derived.Test.YtipeglbeongfmaaGreatRows
import Derived.Test.YtipeglbeongfmaaGreatPJournalCrashesx20
import Derived.Test.YtipeglbeongfmaaGreatPureJournalCrashes
import Derived.WalkKit
import Derived.ProofKit
import Derived.OpenShut
import Derived.ShutString
import Derived.ChangeOld
import Derived.Below
import Derived.SizedLaws
import Derived.Carry
namespace Go.Proofs.YtipeglbeongfmaaGreat.journalCrashes
open Go.ChangeShapes Go.WideShapes Go.ChangeAt Go.RowKit
open Go.ChangeMaps (open_string shut_string)
open Go.Proofs.YtipeglbeongfmaaGreat.PJournalCrashes Go.Proofs.YtipeglbeongfmaaGreatV
set_option linter.unusedVariables false
theorem own : ownKnob Tryz.prog.godebug = none := by kernel_rfl
theorem laidOut : laidOutB Tryz.prog = true := by kernel_rfl
set_option maxRecDepth 100000 in
set_option maxHeartbeats 1000000 in
theorem lifted (os : Os) (started : os.Started) (H : Type) (enc : TypeId × Value → H) :
    ReturnsInHanded {} Tryz.checked os 4 .any (Rows.journalCrashesSpec.pre6 enc Tryz.prog Tryz.f4 Rows.journalCrashesRow.domain false) (Rows.journalCrashesSpec.post enc Tryz.prog Tryz.f4 false true false false) := by
  refine returnsInHanded_of_change_sized (C := Tryz.checked) own started (by kernel_rfl) Tryz.func4
    (ChangeSpec.witness6 (enc := enc) (C := Tryz.checked) false ⟨#[], #[.agg #[.slice none 0 0, .slice none 0 0, .int .i64 0, .int .i64 0, .int .i64 0, .slice none 0 0, .slice none 0 0], .string ByteArray.empty, .bool false, .int .u64 0, .int .i64 0], []⟩ 8 (by kernel_rfl) (by kernel_rfl) (by kernel_rfl) (by kernel_rfl)) ?_
  intro W base args ds gs before hval0 hW hcnd hsz0 _
  have hsz : (DataW.weightsEach Tryz.prog (Tryz.f4.params.toList ++ Rows.journalCrashesSpec.plain.varTypes Tryz.prog) (ds ++ gs)).all (· ≤ reachBytes) = true := hsz0
  have hval : ∀ (j : Nat) t v, Tryz.f4.params[j]? = some t → args[j]? = some v → Value.okWide Tryz.prog W .any base t v := hval0
  have hW' := hW
  obtain ⟨p, q, hA0, hV, rfl, hfz, hnd⟩ := hW
  have hA : DataW.TrodAll enc Tryz.prog W 0 (fun _ => true) true Tryz.f4.params.toList args.toList ds p := hA0
  rw [Tryz.params4] at hA hval hsz
  obtain ⟨v0, vs0, d0, ds0, p0, q0, hargs, rfl, rfl, h0, r0⟩ := trodAll_cons hA
  obtain ⟨v1, vs1, d1, ds1, p1, q1, rfl, rfl, rfl, h1, r1⟩ := trodAll_cons r0
  obtain ⟨v2, vs2, d2, ds2, p2, q2, rfl, rfl, rfl, h2, r2⟩ := trodAll_cons r1
  obtain ⟨v3, vs3, d3, ds3, p3, q3, rfl, rfl, rfl, h3, r3⟩ := trodAll_cons r2
  obtain ⟨v4, vs4, d4, ds4, p4, q4, rfl, rfl, rfl, h4, r4⟩ := trodAll_cons r3
  obtain ⟨rfl, rfl, rfl⟩ := trodAll_nil r4
  obtain rfl : args = #[v0, v1, v2, v3, v4] := by cases args; simp_all
  obtain ⟨rfl, rfl⟩ := trodVars_none hV
  have t0 := h0
  have lt0 : ∀ x ∈ p0, x.block < W.heap.size := by obtain ⟨m, hm⟩ := t0; exact DataW.trod_lt m _ _ _ hm
  obtain ⟨cs0, rfl, _⟩ := okWide_struct Tryz.underlying27 (hval 0 27 v0 rfl rfl)
  obtain ⟨fuel0, hf0⟩ := h0
  have hD0 := OpD.open_ (OpD.struct Tryz.underlying27 (OpDF.cons rfl (OpD.struct Tryz.underlying25 (OpDF.cons rfl (OpD.slice (k := 1) (enc := enc_str) (ok := (fun x : ByteArray => x.size ≤ 9223372036854775807)) Tryz.underlying22 (by kernel_rfl) (OpD.string Tryz.underlying9 (by kernel_rfl)) (by rintro w cs ⟨z0, rfl, wz0⟩; exact ⟨z0, rfl, wz0⟩) (by decide) enc_str_ok) (OpDF.one rfl (OpD.slice (k := 2) (enc := enc71) (ok := ok71) Tryz.underlying23 (by kernel_rfl) (OpD.struct Tryz.underlying72 (OpDF.cons rfl (OpD.int Tryz.underlying3 (by kernel_rfl)) (OpDF.one rfl (OpD.string Tryz.underlying9 (by kernel_rfl)))) (by kernel_rfl)) (by rintro w cs ⟨_, _, rfl, ⟨z0, rfl, wz0⟩, ⟨z1, rfl, wz1⟩⟩; exact ⟨⟨z0, z1⟩, rfl, ⟨wz0, wz1⟩⟩) (by decide) enc71_ok))) (by kernel_rfl)) (OpDF.cons rfl (OpD.int Tryz.underlying3 (by kernel_rfl)) (OpDF.cons rfl (OpD.int Tryz.underlying3 (by kernel_rfl)) (OpDF.cons rfl (OpD.int Tryz.underlying3 (by kernel_rfl)) (OpDF.cons rfl (OpD.slice (k := 1) (enc := enc_str) (ok := (fun x : ByteArray => x.size ≤ 9223372036854775807)) Tryz.underlying22 (by kernel_rfl) (OpD.string Tryz.underlying9 (by kernel_rfl)) (by rintro w cs ⟨z0, rfl, wz0⟩; exact ⟨z0, rfl, wz0⟩) (by decide) enc_str_ok) (OpDF.one rfl (OpD.slice (k := 1) (enc := enc_str) (ok := (fun x : ByteArray => x.size ≤ 9223372036854775807)) Tryz.underlying22 (by kernel_rfl) (OpD.string Tryz.underlying9 (by kernel_rfl)) (by rintro w cs ⟨z0, rfl, wz0⟩; exact ⟨z0, rfl, wz0⟩) (by decide) enc_str_ok))))))) (by kernel_rfl)) enc W 0 _ true fuel0 _ _ hf0
  obtain ⟨cl0, ecl0⟩ : ∃ cl : List Value, cs0.toList = cl := ⟨_, rfl⟩
  have hD0' := hD0
  simp only [Value.cells, ecl0] at hD0'
  obtain ⟨_, _, rfl, ⟨_, _, rfl, ⟨la0_0, Aa0_0, ca0_0, rfl, fa0_0, wa0_0⟩, ⟨la0_1, Aa0_1, ca0_1, rfl, fa0_1, wa0_1⟩⟩, ⟨_, _, rfl, ⟨a0_2, rfl, wa0_2⟩, ⟨_, _, rfl, ⟨a0_3, rfl, wa0_3⟩, ⟨_, _, rfl, ⟨a0_4, rfl, wa0_4⟩, ⟨_, _, rfl, ⟨la0_5, Aa0_5, ca0_5, rfl, fa0_5, wa0_5⟩, ⟨la0_6, Aa0_6, ca0_6, rfl, fa0_6, wa0_6⟩⟩⟩⟩⟩⟩ := hD0'
  obtain rfl : cs0 = #[.slice Aa0_0 la0_0.length ca0_0, .slice Aa0_1 la0_1.length ca0_1, .int .i64 a0_2, .int .i64 a0_3, .int .i64 a0_4, .slice Aa0_5 la0_5.length ca0_5, .slice Aa0_6 la0_6.length ca0_6] := by cases cs0; simp only [List.cons_append, List.nil_append] at ecl0; rw [show _ = _ from ecl0]
  obtain ⟨a1, rfl, rfl, rfl, y1⟩ := open_string Tryz.underlying9 (hval 1 9 v1 rfl rfl) h1
  have w1 : a1.size ≤ 140737488351232 := by
    have z := sized_string hsz (j := 1) (t := 9) rfl rfl
    rw [Array.length_toList] at z
    exact z
  obtain ⟨a2, rfl, rfl, rfl⟩ := open_bool Tryz.underlying4 (hval 2 4 v2 rfl rfl) h2
  obtain ⟨a3, rfl, rfl, rfl, w3⟩ := open_int Tryz.underlying42 (hval 3 42 v3 rfl rfl) h3
  obtain ⟨a4, rfl, rfl, rfl, w4⟩ := open_int Tryz.underlying3 (hval 4 3 v4 rfl rfl) h4
  clear hA0 hval0 hsz0 hsz
  obtain ⟨k, h⟩ := Pure.JournalCrashes la0_0 la0_1 a0_2 a0_3 a0_4 la0_5 la0_6 a1 a2 a3 a4 wa0_0 wa0_1 wa0_2 wa0_3 wa0_4 wa0_5 wa0_6 w1 w3 w4
  refine (tarrylaw05_JournalCrashes.ok k la0_0 la0_1 a0_2 a0_3 a0_4 la0_5 la0_6 a1 a2 a3 a4 _ _ _ _ true h (fun b => b < W.heap.size) W (fun _ h => h) (All_of (.cons fa0_0 (.cons fa0_1 (.cons fa0_5 (.cons fa0_6 .nil)))))).mono fun e W' hq => ?_
  obtain ⟨_, _, _, he, ⟨rfl, rfl, rfl⟩, _, _, _, bel⟩ := hq
  subst he
  exact ⟨_, rfl, _, _, _, [], _, [], hW', trodAll_mk1 (shut_bool Tryz.underlying4 _), (trodAll_cons_mk (Below.trod laidOut (by kernel_rfl) (of_decide_eq_true (by kernel_rfl)) t0 bel lt0) (trodAll_cons_mk (shut_string Tryz.underlying9 y1) (trodAll_cons_mk (shut_bool Tryz.underlying4 _) (trodAll_cons_mk (shut_int Tryz.underlying42 w3) (trodAll_cons_mk (shut_int Tryz.underlying3 w4) trodAll_mk0))))), rfl, bel.frame _, fun h => by cases h⟩
theorem over : Rows.journalCrashesRow.holds Tryz.pinned (OpenSpec.ofChange Rows.journalCrashesSpec) :=
  OpenClaim.holds_of_wide 4 Tryz.f4 rfl rfl rfl rfl rfl rfl rfl ⟨rfl, rfl, rfl, rfl, rfl⟩ rfl rfl rfl rfl rfl (by kernel_rfl) Tryz.func4 (by kernel_rfl)
    (of_decide_eq_true (by kernel_rfl)) (by unfold Func.isWrapper; first | (rw [if_pos (by decide +kernel)]; kernel_rfl) | (rw [if_neg (by decide +kernel)]; exact ⟨rfl, rfl⟩))
    (fun os started H enc _ => lifted os started H enc)
theorem proved : Rows.JournalCrashesSaid := over
end Go.Proofs.YtipeglbeongfmaaGreat.journalCrashes
namespace Go.Proofs.YtipeglbeongfmaaGreat
/-- The row, under a short name, for the claim. -/
theorem journalCrashes_holds : Rows.JournalCrashesSaid := journalCrashes.proved
end Go.Proofs.YtipeglbeongfmaaGreat
