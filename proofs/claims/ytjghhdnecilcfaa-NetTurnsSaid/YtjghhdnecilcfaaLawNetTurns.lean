/- Written by a program of this repo over the kit's print program: what the program's functions do, each as a Lean function, shown of the loaded code; or a statement's row over that; no condition of its own. -/
import Derived.Test.YtjghhdnecilcfaaRows
import Derived.Test.YtjghhdnecilcfaaPNetTurnsx11
import Derived.Test.YtjghhdnecilcfaaPureNetTurns
import Derived.Test.YtjghhdnecilcfaaOpens
import Derived.WalkKit
import Derived.ProofKit
import Derived.OpenShut
import Derived.ShutString
import Derived.ChangeOld
import Derived.Below
import Derived.SizedLaws
import Derived.Carry
namespace Go.Proofs.Ytjghhdnecilcfaa.netTurns
open Go.ChangeShapes Go.WideShapes Go.ChangeAt Go.RowKit
open Go.ChangeMaps (open_string shut_string)
open Go.Proofs.Ytjghhdnecilcfaa.PNetTurns Go.Proofs.YtjghhdnecilcfaaW.PrintWords Go.Proofs.YtjghhdnecilcfaaW.Opens
set_option linter.unusedVariables false
theorem own : ownKnob Try.prog.godebug = none := by kernel_rfl
theorem laidOut : laidOutB Try.prog = true := by kernel_rfl
theorem o26 : Opens Try.prog 26 k26 ok26 := (Opens.struct Try.underlying26 (OpensF.cons rfl (Opens.int Try.underlying3 (by kernel_rfl)) (OpensF.cons rfl (Opens.bool Try.underlying4 (by kernel_rfl)) (OpensF.cons rfl (Opens.int Try.underlying3 (by kernel_rfl)) (OpensF.cons rfl (Opens.int Try.underlying3 (by kernel_rfl)) (OpensF.cons rfl (Opens.int Try.underlying3 (by kernel_rfl)) (OpensF.one rfl (Opens.bool Try.underlying4 (by kernel_rfl)))))))) (by kernel_rfl) (fun x : S26 => (x.f0, x.f1, x.f2, x.f3, x.f4, x.f5)) (fun a => ⟨⟨a.1, a.2.1, a.2.2.1, a.2.2.2.1, a.2.2.2.2.1, a.2.2.2.2.2⟩, rfl⟩)).mono (fun _ h => h)
set_option maxRecDepth 100000 in
set_option maxHeartbeats 1000000 in
theorem lifted (os : Os) (started : os.Started) (H : Type) (enc : TypeId × Value → H) :
    ReturnsInHanded {} Try.checked os 5 .any (Rows.netTurnsSpec.pre6 enc Try.prog Try.f5 Rows.netTurnsRow.domain false) (Rows.netTurnsSpec.post enc Try.prog Try.f5 false true false false) := by
  refine returnsInHanded_of_change_sized (C := Try.checked) own started (by kernel_rfl) Try.func5
    (ChangeSpec.witness6 (enc := enc) (C := Try.checked) false ⟨#[], #[.agg #[.slice none 0 0, .int .i64 0], .agg #[.int .i64 0, .bool false, .int .i64 0, .int .i64 0, .int .i64 0, .bool false]], []⟩ 8 (by kernel_rfl) (by kernel_rfl) (by kernel_rfl) (by kernel_rfl)) ?_
  intro W base args ds gs before hval0 hW hcnd hsz0 _
  have hsz : (DataW.weightsEach Try.prog (Try.f5.params.toList ++ Rows.netTurnsSpec.plain.varTypes Try.prog) (ds ++ gs)).all (· ≤ reachBytes) = true := hsz0
  have hval : ∀ (j : Nat) t v, Try.f5.params[j]? = some t → args[j]? = some v → Value.okWide Try.prog W .any base t v := hval0
  have hW' := hW
  obtain ⟨p, q, hA0, hV, rfl, hfz, hnd⟩ := hW
  have hA : DataW.TrodAll enc Try.prog W 0 (fun _ => true) true Try.f5.params.toList args.toList ds p := hA0
  rw [Try.params5] at hA hval hsz
  have op0 := (Opens.struct Try.underlying24 (OpensF.cons rfl (Opens.slice Try.underlying22 (by kernel_rfl) o26) (OpensF.one rfl (Opens.int Try.underlying3 (by kernel_rfl)))) (by kernel_rfl) (fun x => x) (fun a => ⟨a, rfl⟩))
  have op1 := (Opens.struct Try.underlying26 (OpensF.cons rfl (Opens.int Try.underlying3 (by kernel_rfl)) (OpensF.cons rfl (Opens.bool Try.underlying4 (by kernel_rfl)) (OpensF.cons rfl (Opens.int Try.underlying3 (by kernel_rfl)) (OpensF.cons rfl (Opens.int Try.underlying3 (by kernel_rfl)) (OpensF.cons rfl (Opens.int Try.underlying3 (by kernel_rfl)) (OpensF.one rfl (Opens.bool Try.underlying4 (by kernel_rfl)))))))) (by kernel_rfl) (fun x => x) (fun a => ⟨a, rfl⟩))
  obtain ⟨v0, vs0, d0, ds0, p0, q0, hargs, rfl, rfl, h0, r0⟩ := trodAll_cons hA
  obtain ⟨v1, vs1, d1, ds1, p1, q1, rfl, rfl, rfl, h1, r1⟩ := trodAll_cons r0
  obtain ⟨rfl, rfl, rfl⟩ := trodAll_nil r1
  obtain rfl : args = #[v0, v1] := by cases args; simp_all
  obtain ⟨rfl, rfl⟩ := trodVars_none hV
  have t0 := h0
  have lt0 : ∀ x ∈ p0, x.block < W.heap.size := by obtain ⟨m, hm⟩ := t0; exact DataW.trod_lt m _ _ _ hm
  obtain ⟨cs0, rfl, _⟩ := okWide_struct Try.underlying24 (hval 0 24 v0 rfl rfl)
  obtain ⟨fuel0, hf0⟩ := h0
  obtain ⟨x0, hK0, k0⟩ := op0.open_ enc W 0 _ true fuel0 _ _ hf0
  obtain ⟨l0_0, a0_1⟩ := x0
  obtain ⟨cl0, ecl0, hK0⟩ : ∃ cl : List Value, cs0.toList = cl ∧ ((Kd.pair (Kd.slice 26 k26) (Kd.int .i64))).K W _ cl := ⟨_, rfl, hK0⟩
  obtain ⟨_, _, rfl, ⟨A0_0, c0_0, rfl, hc0_0, hr0_0⟩, rfl⟩ := hK0
  obtain ⟨k0_0, k0_1⟩ := k0
  obtain rfl : cs0 = #[.slice A0_0 l0_0.length c0_0, .int .i64 a0_1] := by cases cs0; simp only [List.cons_append, List.nil_append] at ecl0; rw [show _ = _ from ecl0]
  have t1 := h1
  have lt1 : ∀ x ∈ p1, x.block < W.heap.size := by obtain ⟨m, hm⟩ := t1; exact DataW.trod_lt m _ _ _ hm
  obtain ⟨cs1, rfl, _⟩ := okWide_struct Try.underlying26 (hval 1 26 v1 rfl rfl)
  obtain ⟨fuel1, hf1⟩ := h1
  obtain ⟨x1, hK1, k1⟩ := op1.open_ enc W 0 _ true fuel1 _ _ hf1
  obtain ⟨a1_0, a1_1, a1_2, a1_3, a1_4, a1_5⟩ := x1
  obtain ⟨cl1, ecl1, hK1⟩ : ∃ cl : List Value, cs1.toList = cl ∧ ((Kd.pair (Kd.int .i64) (Kd.pair Kd.bool (Kd.pair (Kd.int .i64) (Kd.pair (Kd.int .i64) (Kd.pair (Kd.int .i64) Kd.bool)))))).K W _ cl := ⟨_, rfl, hK1⟩
  obtain ⟨_, _, rfl, rfl, ⟨_, _, rfl, rfl, ⟨_, _, rfl, rfl, ⟨_, _, rfl, rfl, ⟨_, _, rfl, rfl, rfl⟩⟩⟩⟩⟩ := hK1
  obtain ⟨k1_0, k1_1, k1_2, k1_3, k1_4, k1_5⟩ := k1
  obtain rfl : cs1 = #[.int .i64 a1_0, .bool a1_1, .int .i64 a1_2, .int .i64 a1_3, .int .i64 a1_4, .bool a1_5] := by cases cs1; simp only [List.cons_append, List.nil_append] at ecl1; rw [show _ = _ from ecl1]
  clear hA0 hval0 hsz0 hsz
  obtain ⟨k, h⟩ := Pure.NetTurns l0_0 a0_1 a1_0 a1_1 a1_2 a1_3 a1_4 a1_5 k0_0 k0_1 k1_0 k1_2 k1_3 k1_4
  refine (tarrylaw15_NetTurns.calls k _ _ l0_0 a0_1 a1_0 a1_1 a1_2 a1_3 a1_4 a1_5 true W hr0_0 hc0_0 h).mono fun e W' hq => ?_
  obtain ⟨he, hd⟩ := hq
  have bel : Below W.heap.size W W' := hd
  subst he
  exact ⟨_, rfl, _, _, _, [], _, [], hW', trodAll_mk1 (shut_bool Try.underlying4 _), (trodAll_cons_mk (Below.trod laidOut (by kernel_rfl) (of_decide_eq_true (by kernel_rfl)) t0 bel lt0) (trodAll_cons_mk (Below.trod laidOut (by kernel_rfl) (of_decide_eq_true (by kernel_rfl)) t1 bel lt1) trodAll_mk0)), rfl, bel.frame _, fun h => by cases h⟩
theorem over : Rows.netTurnsRow.holds Try.pinned (OpenSpec.ofChange Rows.netTurnsSpec) :=
  OpenClaim.holds_of_wide 5 Try.f5 rfl rfl rfl rfl rfl rfl rfl ⟨rfl, rfl, rfl, rfl, rfl⟩ rfl rfl rfl rfl rfl (by kernel_rfl) Try.func5 (by kernel_rfl)
    (of_decide_eq_true (by kernel_rfl)) (by unfold Func.isWrapper; first | (rw [if_pos (by decide +kernel)]; kernel_rfl) | (rw [if_neg (by decide +kernel)]; exact ⟨rfl, rfl⟩))
    (fun os started H enc _ => lifted os started H enc)
theorem proved : Rows.NetTurnsSaid := over
end Go.Proofs.Ytjghhdnecilcfaa.netTurns
namespace Go.Proofs.Ytjghhdnecilcfaa
/-- The row, under a short name, for the claim. -/
theorem netTurns_holds : Rows.NetTurnsSaid := netTurns.proved
end Go.Proofs.Ytjghhdnecilcfaa
