/- Written by a program of this repo: what the program's functions do, each as a Lean function, shown of the loaded code; or a statement's row over that; no condition of its own. -/
import Derived.Test.YtdofmkbffffbpaaPWaitsStandx7
namespace Go.Proofs.Ytdofmkbffffbpaa.PWaitsStand
open Go Go.RowKit Go.Proofs.YtdofmkbffffbpaaV
set_option linter.unusedVariables false
set_option linter.unusedSimpArgs false

set_option maxHeartbeats 4000000 in
set_option maxRecDepth 100000 in
theorem tarrylaw09_alive.ok (k : Nat)   (r1 : Bool) (h : tarrylaw09_alive.f k = some r1) :
    VCalls Try.prog 13 [] [] (fun v G own => v = .bool r1 ∧ G = [] ∧ own = []) := by
  refine VCalls.intro Try.func13 rfl (len rfl) fun E hC hW hD hU => ?_
  unfold tarrylaw09_alive.f at h
  refine VC.seq ?_
  refine VC.region ?_
  refine VL.va (op_assign rfl (ltn rfl)) rfl ?_
  refine VL.done ?_
  refine VN.then ?_
  refine VC.seq ?_
  refine VC.region ?_
  refine VL.va (op_build (vals := [(0, .int .i64 1), (1, .int .i64 1), (2, .int .i64 1)]) (vcs := [(0, [.int .i64 1]), (1, [.int .i64 1]), (2, [.int .i64 1])]) (cells := [.int .i64 1, .int .i64 1, .int .i64 1]) SI24 rfl (.cons ⟨rfl, (.c rfl)⟩ (.cons ⟨rfl, (.c rfl)⟩ (.cons ⟨rfl, (.c rfl)⟩ .nil))) (by kernel_rfl) (ltn rfl)) rfl ?_
  refine VL.va (op_build (vals := [(0, .string (⟨#[99, 117, 112]⟩ : ByteArray)), (1, .agg #[.int .i64 1, .int .i64 1, .int .i64 1])]) (vcs := [(0, [.string (⟨#[99, 117, 112]⟩ : ByteArray)]), (1, [.int .i64 1, .int .i64 1, .int .i64 1])]) (cells := [.string (⟨#[99, 117, 112]⟩ : ByteArray), .int .i64 1, .int .i64 1, .int .i64 1]) SI26 rfl (.cons ⟨rfl, (.c rfl)⟩ (.cons ⟨rfl, (.agg (.of rfl))⟩ .nil)) (by kernel_rfl) (ltn rfl)) rfl ?_
  refine VL.va (op_build (vals := [(0, .int .i64 0), (1, .int .i64 7), (2, .int .i64 2)]) (vcs := [(0, [.int .i64 0]), (1, [.int .i64 7]), (2, [.int .i64 2])]) (cells := [.int .i64 0, .int .i64 7, .int .i64 2]) SI24 rfl (.cons ⟨rfl, (.c rfl)⟩ (.cons ⟨rfl, (.c rfl)⟩ (.cons ⟨rfl, (.c rfl)⟩ .nil))) (by kernel_rfl) (ltn rfl)) rfl ?_
  refine VL.va (op_build (vals := [(0, .string (⟨#[99, 117, 112]⟩ : ByteArray)), (1, .agg #[.int .i64 0, .int .i64 7, .int .i64 2])]) (vcs := [(0, [.string (⟨#[99, 117, 112]⟩ : ByteArray)]), (1, [.int .i64 0, .int .i64 7, .int .i64 2])]) (cells := [.string (⟨#[99, 117, 112]⟩ : ByteArray), .int .i64 0, .int .i64 7, .int .i64 2]) SI26 rfl (.cons ⟨rfl, (.c rfl)⟩ (.cons ⟨rfl, (.agg (.of rfl))⟩ .nil)) (by kernel_rfl) (ltn rfl)) rfl ?_
  refine VL.sG (o_buildSlice (vals := [(0, .agg #[.string (⟨#[99, 117, 112]⟩ : ByteArray), .int .i64 1, .int .i64 1, .int .i64 1]), (1, .agg #[.string (⟨#[99, 117, 112]⟩ : ByteArray), .int .i64 0, .int .i64 7, .int .i64 2])]) (cells := #[.string (⟨#[99, 117, 112]⟩ : ByteArray), .int .i64 1, .int .i64 1, .int .i64 1, .string (⟨#[99, 117, 112]⟩ : ByteArray), .int .i64 0, .int .i64 7, .int .i64 2]) (es := List.map enc25 ([(⟨(⟨#[99, 117, 112]⟩ : ByteArray), 1, 1, 1⟩ : S25), (⟨(⟨#[99, 117, 112]⟩ : ByteArray), 0, 7, 2⟩ : S25)] : List S25)) Try.underlying22 TI26 Z26 rfl (by decide) (by decide) (by kernel_rfl) (by kernel_rfl) rfl (flat_map enc25_ok _) (ltn rfl)) rfl ?_
  intro v5280
  replace h := Option.bind_eq_some_iff.1 h
  obtain ⟨⟨r5281, t5282⟩, hA5283, h⟩ := h
  dsimp only at h
  refine VL.sC (o_call_b0 FO9 (waits_Make.ok k ([(⟨(⟨#[99, 117, 112]⟩ : ByteArray), 1, 1, 1⟩ : S25), (⟨(⟨#[99, 117, 112]⟩ : ByteArray), 0, 7, 2⟩ : S25)] : List S25) v5280 r5281 t5282 hA5283) rfl rfl (ltn rfl) (All_of (.cons (.inr (.inl ⟨_, List.mem_of_getElem? (i := 0) rfl, rfl⟩)) .nil)) (by rintro _ _ _ ⟨v5285, rfl, rfl, rfl⟩; rfl)) rfl ?_
  rintro _ _ _ ⟨v5285, rfl, rfl, rfl⟩
  refine VL.va (op_move rfl (ltn rfl)) rfl ?_
  refine VL.va (op_extract rfl rfl (ltn rfl)) rfl ?_
  refine VL.va (op_extract rfl rfl (ltn rfl)) rfl ?_
  refine VL.va (op_assign rfl (ltn rfl)) rfl ?_
  refine VL.va (op_assign rfl (ltn rfl)) rfl ?_
  refine VL.done ?_
  refine VN.then ?_
  refine VC.seq ?_
  refine VC.region ?_
  refine VL.va (op_move rfl (ltn rfl)) rfl ?_
  replace h := Option.bind_eq_some_iff.1 h
  obtain ⟨⟨r5473, t5474⟩, hA5475, h⟩ := h
  dsimp only at h
  refine VL.sC (o_call_b0 FO22 (waits_Of.ok k r5281 (⟨#[99, 117, 112]⟩ : ByteArray) v5285 r5473 t5474 hA5475) rfl rfl (ltn rfl) (All_of (.cons (.inr (.inl ⟨_, List.mem_of_getElem? (i := 0) rfl, rfl⟩)) .nil)) (by rintro _ _ _ ⟨v5477, rfl, rfl, rfl⟩; rfl)) rfl ?_
  rintro _ _ _ ⟨v5477, rfl, rfl, rfl⟩
  refine VL.va (op_move rfl (ltn rfl)) rfl ?_
  refine VL.va (op_extract rfl rfl (ltn rfl)) rfl ?_
  refine VL.va (op_extract rfl rfl (ltn rfl)) rfl ?_
  refine VL.va (op_assign rfl (ltn rfl)) rfl ?_
  refine VL.va (op_assign rfl (ltn rfl)) rfl ?_
  refine VL.done ?_
  refine VN.then ?_
  refine VC.seq ?_
  refine VC.region ?_
  refine VL.va (op_move rfl (ltn rfl)) rfl ?_
  refine VL.letter ((t5282 == 0)) fun b5488 hb5488 => ?_
  refine VL.va (op_cmp rfl rfl (congrArg some hb5488) (ltn rfl)) rfl ?_
  refine VL.va (op_move rfl (ltn rfl)) rfl ?_
  by_cases c5489 : t5282 = 0
  · rw [if_pos c5489] at h
    obtain rfl : b5488 = true := hb5488.symm.trans (beq_iff_eq.2 c5489)
    refine VL.va (op_move rfl (ltn rfl)) rfl ?_
    refine VL.letter ((t5474 == 0)) fun b5490 hb5490 => ?_
    refine VL.va (op_cmp rfl rfl (congrArg some hb5490) (ltn rfl)) rfl ?_
    refine VL.va (op_pick rfl rfl (ltn rfl)) rfl ?_
    refine VL.va (op_move rfl (ltn rfl)) rfl ?_
    by_cases c5491 : t5474 = 0
    · rw [if_pos c5491] at h
      obtain rfl : b5490 = true := hb5490.symm.trans (beq_iff_eq.2 c5491)
      refine VL.va (op_move rfl (ltn rfl)) rfl ?_
      refine VL.va (op_len_own (m := r5473.length) 0 lenm Try.underlying42 rfl rfl (ltn rfl)) rfl ?_
      refine VL.letter (((r5473.length : Int) == 2)) fun b5492 hb5492 => ?_
      refine VL.va (op_cmp rfl rfl (congrArg some hb5492) (ltn rfl)) rfl ?_
      refine VL.va (op_pick rfl rfl (ltn rfl)) rfl ?_
      refine VL.va (op_move rfl (ltn rfl)) rfl ?_
      by_cases c5493 : (r5473.length : Int) = 2
      · rw [if_pos c5493] at h
        obtain rfl : b5492 = true := hb5492.symm.trans (beq_iff_eq.2 c5493)
        refine VL.va (op_move rfl (ltn rfl)) rfl ?_
        replace h := Option.bind_eq_some_iff.1 h
        obtain ⟨x5494, hx5494, h⟩ := h
        refine VL.openR (m := r5473.length) 0 lenm rfl (pos_get hx5494) ?_
        rintro g5495 n5496 rfl
        refine VL.va (op_indexAddr Try.underlying42 TI24 rfl rfl (by decide) (lt_get (by decide) hx5494) (add_zero_at _ _) (ltn rfl)) rfl ?_
        refine VL.va (op_fieldAddr FI24_2 rfl (add_at _ _ _) (ltn rfl)) rfl ?_
        refine VL.va (op_load_own (sz := 3) (o := 2) 0 0 1 rfl rfl (get_map hx5494) TI3 rfl (by decide) (ltn rfl)) rfl ?_
        refine VL.letter ((x5494.f2 == 2)) fun b5497 hb5497 => ?_
        refine VL.va (op_cmp rfl rfl (congrArg some hb5497) (ltn rfl)) rfl ?_
        refine VL.va (op_pick rfl rfl (ltn rfl)) rfl ?_
        refine VL.va (op_assign rfl (ltn rfl)) rfl ?_
        refine VL.done ?_
        refine VN.then ?_
        refine VC.ret ?_
        obtain rfl := Option.some.inj h
        subst hb5497
        exact VR.fn (rs := [.tmp 0]) [] [] [] rfl (.tmp rfl .nil) ⟨rfl, rfl, rfl⟩ trivial rfl (by decide)
      · rw [if_neg c5493] at h
        obtain rfl : b5492 = false := hb5492.symm.trans (beq_eq_false_iff_ne.2 c5493)
        refine VL.un rfl rfl (ltn rfl) ?_
        refine VL.un rfl rfl (ltn rfl) ?_
        refine VL.un rfl rfl (ltn rfl) ?_
        refine VL.un rfl rfl (ltn rfl) ?_
        refine VL.un rfl rfl (ltn rfl) ?_
        refine VL.va (op_pick rfl rfl (ltn rfl)) rfl ?_
        refine VL.va (op_assign rfl (ltn rfl)) rfl ?_
        refine VL.done ?_
        refine VN.then ?_
        refine VC.ret ?_
        obtain rfl := Option.some.inj h
        exact VR.fn (rs := [.tmp 0]) [] [] [] rfl (.tmp rfl .nil) ⟨rfl, rfl, rfl⟩ trivial rfl (by decide)
    · rw [if_neg c5491] at h
      obtain rfl : b5490 = false := hb5490.symm.trans (beq_eq_false_iff_ne.2 c5491)
      refine VL.un rfl rfl (ltn rfl) ?_
      refine VL.un rfl rfl (ltn rfl) ?_
      refine VL.un rfl rfl (ltn rfl) ?_
      refine VL.va (op_pick rfl rfl (ltn rfl)) rfl ?_
      refine VL.va (op_move rfl (ltn rfl)) rfl ?_
      refine VL.un rfl rfl (ltn rfl) ?_
      refine VL.un rfl rfl (ltn rfl) ?_
      refine VL.un rfl rfl (ltn rfl) ?_
      refine VL.un rfl rfl (ltn rfl) ?_
      refine VL.un rfl rfl (ltn rfl) ?_
      refine VL.va (op_pick rfl rfl (ltn rfl)) rfl ?_
      refine VL.va (op_assign rfl (ltn rfl)) rfl ?_
      refine VL.done ?_
      refine VN.then ?_
      refine VC.ret ?_
      obtain rfl := Option.some.inj h
      exact VR.fn (rs := [.tmp 0]) [] [] [] rfl (.tmp rfl .nil) ⟨rfl, rfl, rfl⟩ trivial rfl (by decide)
  · rw [if_neg c5489] at h
    obtain rfl : b5488 = false := hb5488.symm.trans (beq_eq_false_iff_ne.2 c5489)
    refine VL.un rfl rfl (ltn rfl) ?_
    refine VL.un rfl rfl (ltn rfl) ?_
    refine VL.va (op_pick rfl rfl (ltn rfl)) rfl ?_
    refine VL.va (op_move rfl (ltn rfl)) rfl ?_
    refine VL.un rfl rfl (ltn rfl) ?_
    refine VL.un rfl rfl (ltn rfl) ?_
    refine VL.un rfl rfl (ltn rfl) ?_
    refine VL.va (op_pick rfl rfl (ltn rfl)) rfl ?_
    refine VL.va (op_move rfl (ltn rfl)) rfl ?_
    refine VL.un rfl rfl (ltn rfl) ?_
    refine VL.un rfl rfl (ltn rfl) ?_
    refine VL.un rfl rfl (ltn rfl) ?_
    refine VL.un rfl rfl (ltn rfl) ?_
    refine VL.un rfl rfl (ltn rfl) ?_
    refine VL.va (op_pick rfl rfl (ltn rfl)) rfl ?_
    refine VL.va (op_assign rfl (ltn rfl)) rfl ?_
    refine VL.done ?_
    refine VN.then ?_
    refine VC.ret ?_
    obtain rfl := Option.some.inj h
    exact VR.fn (rs := [.tmp 0]) [] [] [] rfl (.tmp rfl .nil) ⟨rfl, rfl, rfl⟩ trivial rfl (by decide)
set_option maxHeartbeats 4000000 in
set_option maxRecDepth 100000 in
theorem tarryref09_With.ok (k : Nat) (l0 : List S25) (a1_0 : ByteArray) (a1_1 : Int) (a1_2 : Int) (a1_3 : Int) (v0 : Value) (r1 : List S25) (h : tarryref09_With.f k l0 a1_0 a1_1 a1_2 a1_3 = some r1) :
    VCalls Try.prog 19 [v0, .agg #[.string a1_0, .int .i64 a1_1, .int .i64 a1_2, .int .i64 a1_3]] [.row v0 4 (l0.map enc25)] (fun v G own => ∃ w0 : Value, v = w0 ∧ G = [] ∧ own = [(w0, 26, 4, r1.map enc25)]) := by
  refine VCalls.intro Try.func19 rfl (len rfl) fun E hC hW hD hU => ?_
  unfold tarryref09_With.f at h
  refine VC.seq ?_
  refine VC.region ?_
  refine VL.sG (o_box rfl (.agg (.of rfl)) (ltn rfl)) rfl ?_
  intro g5689
  refine VL.va (op_assign rfl (ltn rfl)) rfl ?_
  refine VL.done ?_
  refine VN.then ?_
  refine VC.seq ?_
  refine VC.region ?_
  refine VL.sG (o_buildSlice (vals := []) (cells := #[]) (es := List.map enc25 ([] : List S25)) Try.underlying22 TI26 Z26 rfl (by decide) (by decide) (by kernel_rfl) (by kernel_rfl) rfl (flat_map enc25_ok _) (ltn rfl)) rfl ?_
  intro v5691
  refine VL.va (op_assign rfl (ltn rfl)) rfl ?_
  refine VL.done ?_
  refine VN.then ?_
  refine VC.seq ?_
  refine VC.region ?_
  refine VL.va (op_move rfl (ltn rfl)) rfl ?_
  refine VL.va (op_move rfl (ltn rfl)) rfl ?_
  by_cases c5692 : (([] : List S25).length + l0.length) * 40 ≤ 140737488355328
  · rw [if_pos c5692] at h
    refine VL.sG (o_append 0 appm Try.underlying22 EI26 rfl rfl rfl (.inl ⟨0, rfl⟩) (bndm c5692) (ltn rfl)) rfl ?_
    intro v5693
    refine VL.va (op_assign rfl (ltn rfl)) rfl ?_
    refine VL.done ?_
    refine VN.then ?_
    refine VC.seq ?_
    refine VC.region ?_
    refine VL.va (op_move rfl (ltn rfl)) rfl ?_
    refine VL.va (op_load 0 4 rfl rfl TI26 rfl (fun h => absurd h (by decide)) (ltn rfl)) rfl ?_
    refine VL.sG (o_buildSlice (vals := [(0, .agg #[.string a1_0, .int .i64 a1_1, .int .i64 a1_2, .int .i64 a1_3])]) (cells := #[.string a1_0, .int .i64 a1_1, .int .i64 a1_2, .int .i64 a1_3]) (es := List.map enc25 ([(⟨a1_0, a1_1, a1_2, a1_3⟩ : S25)] : List S25)) Try.underlying22 TI26 Z26 rfl (by decide) (by decide) (by kernel_rfl) (by kernel_rfl) rfl (flat_map enc25_ok _) (ltn rfl)) rfl ?_
    intro v5696
    by_cases c5697 : ((([] : List S25) ++ l0).length + ([(⟨a1_0, a1_1, a1_2, a1_3⟩ : S25)] : List S25).length) * 40 ≤ 140737488355328
    · rw [if_pos c5697] at h
      refine VL.sG (o_append 1 appm Try.underlying22 EI26 rfl rfl rfl (.inr ⟨0, _, rfl⟩) (bndm c5697) (ltn rfl)) rfl ?_
      intro v5698
      refine VL.va (op_assign rfl (ltn rfl)) rfl ?_
      refine VL.done ?_
      refine VN.then ?_
      refine VC.seq ?_
      refine VC.region ?_
      refine VL.va (op_move rfl (ltn rfl)) rfl ?_
      replace h := Option.bind_eq_some_iff.1 h
      obtain ⟨r5700, hA5701, h⟩ := h
      refine VL.sC (o_call_b0 FO16 (tarryref09_Make.ok k ((([] : List S25) ++ l0) ++ ([(⟨a1_0, a1_1, a1_2, a1_3⟩ : S25)] : List S25)) v5698 r5700 hA5701) rfl rfl (ltn rfl) (All_of (.cons (.inr (.inl ⟨_, List.mem_of_getElem? (i := 1) rfl, rfl⟩)) .nil)) (by rintro _ _ _ ⟨v5703, rfl, rfl, rfl⟩; rfl)) rfl ?_
      rintro v5703 _ _ ⟨_, rfl, rfl, rfl⟩
      refine VL.va (op_assign rfl (ltn rfl)) rfl ?_
      refine VL.done ?_
      refine VN.then ?_
      refine VC.ret ?_
      obtain rfl := Option.some.inj h
      exact VR.fn (rs := [.tmp 4]) [] [(v5703, 26, 4, r5700.map enc25)] [0] rfl (.tmp rfl .nil) ⟨v5703, rfl, rfl, rfl⟩ trivial rfl (by decide)
    · rw [if_neg c5697] at h; cases h
  · rw [if_neg c5692] at h; cases h

end Go.Proofs.Ytdofmkbffffbpaa.PWaitsStand
