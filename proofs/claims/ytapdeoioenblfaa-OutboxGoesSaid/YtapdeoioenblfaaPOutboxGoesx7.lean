/- Written by a program of this repo: what the program's functions do, each as a Lean function, shown of the loaded code; or a statement's row over that; no condition of its own. -/
import Derived.Test.YtapdeoioenblfaaPOutboxGoesx6
namespace Go.Proofs.Ytapdeoioenblfaa.POutboxGoes
open Go Go.RowKit Go.Proofs.YtapdeoioenblfaaV
set_option linter.unusedVariables false
set_option linter.unusedSimpArgs false

set_option maxHeartbeats 4000000 in
set_option maxRecDepth 100000 in
theorem tarryref14_Tell.ok (k : Nat) (a0_0 : Int) (l0_1 : List S33) (a1 : Int) (v0_1 : Value) (r1 : Int) (r2 : List S33) (h : tarryref14_Tell.f k a0_0 l0_1 a1 = some (r1, r2)) :
    VCalls Try.prog 16 [.agg #[.int .i64 a0_0, v0_1], .int .i64 a1] [.row v0_1 4 (l0_1.map enc33)] (fun v G own => ∃ w1 : Value, v = .agg #[.int .i64 r1, w1] ∧ G = [] ∧ own = [(w1, 34, 4, r2.map enc33)]) := by
  refine VCalls.intro Try.func16 rfl (len rfl) fun E hC hW hD => ?_
  unfold tarryref14_Tell.f at h
  refine VC.seq ?_
  refine VC.region ?_
  refine VL.sG (o_box rfl (.agg (.c rfl (.f 0 rfl .nil))) (ltn rfl)) rfl ?_
  intro g4175
  refine VL.sG (o_alloc Z25 ZL25 (ltn rfl)) rfl ?_
  intro g4176
  refine VL.done ?_
  refine VN.then ?_
  refine VC.seq ?_
  refine VC.region ?_
  refine VL.va (op_move rfl (ltn rfl)) rfl ?_
  refine VL.va (op_ari64 rfl rfl rfl (ltn rfl)) rfl ?_
  refine VL.va (op_assign rfl (ltn rfl)) rfl ?_
  refine VL.done ?_
  refine VN.then ?_
  refine VC.seq ?_
  refine VC.seq ?_
  refine VC.region ?_
  refine VL.va (op_move rfl (ltn rfl)) rfl ?_
  refine VL.letter (decide ((wrap64 (a1 + 10)) > 1099511627776)) fun b4179 hb4179 => ?_
  refine VL.va (op_cmp rfl rfl (congrArg some hb4179) (ltn rfl)) rfl ?_
  refine VL.done ?_
  refine VN.then ?_
  by_cases c4180 : (wrap64 (a1 + 10)) > 1099511627776
  · rw [if_pos c4180] at h
    obtain rfl : b4179 = true := hb4179.symm.trans (decide_eq_true c4180)
    refine VC.cond_t rfl ?_
    refine VC.region ?_
    refine VL.va (op_assign rfl (ltn rfl)) rfl ?_
    refine VL.done ?_
    refine VN.then ?_
    refine VC.seq ?_
    refine VC.region ?_
    refine VL.va (op_fieldAddr FI25_0 rfl (add_at _ _ _) (ltn rfl)) rfl ?_
    refine VL.va (op_load 1 1 rfl rfl TI3 rfl (by decide) (ltn rfl)) rfl ?_
    refine VL.va (op_build (vals := [(0, .int .i64 a0_0)]) (vcs := [(0, [.int .i64 a0_0])]) (cells := [.int .i64 a0_0, .slice none 0 0]) SI25 rfl (.cons ⟨rfl, (.c rfl)⟩ .nil) (by kernel_rfl) (ltn rfl)) rfl ?_
    refine VL.sG (o_alloc Z25 ZL25 (ltn rfl)) rfl ?_
    intro g4181
    refine VL.step1 (o_store 0 2 rfl rfl rfl TI25 (.agg (.of rfl)) rfl (len rfl)) rfl ?_
    refine VL.done ?_
    refine VN.then ?_
    refine VC.seq ?_
    refine VC.seq ?_
    refine VC.region ?_
    refine VL.va (op_fieldAddr FI25_1 rfl (add_at _ _ _) (ltn rfl)) rfl ?_
    refine VL.va (op_load 2 1 rfl rfl TI23 rfl (by decide) (ltn rfl)) rfl ?_
    refine VL.va (op_len (m := l0_1.length) 0 lenm Try.underlying23 rfl rfl (ltn rfl)) rfl ?_
    refine VL.va (op_move rfl (ltn rfl)) rfl ?_
    refine VL.done ?_
    refine VN.then ?_
    refine VC.block ?_
    refine VC.nilRow' 34 4 ?_
    refine VC.loop3 (fun (i4355 : Int) (v4357 : Value) (l4358 : List S33) => ⟨37, [(1, .int .i64 a1), (4, .pointer (some ⟨g4176, 0, none⟩)), (5, .int .i64 1099511627776), (6, .pointer (some ⟨g4181, 0, none⟩)), (17, v0_1), (18, .int .i64 (l0_1.length : Int)), (19, .int .i64 i4355)], [.row v0_1 4 (l0_1.map enc33)], [(g4181, 25, [.int .i64 a0_0, v4357]), (g4176, 25, [.int .i64 0, .slice none 0 0])], [(v4357, 34, 4, l4358.map enc33)]⟩) (fun (ml1 : Nat) (i4355 : Int) (v4357 : Value) (l4358 : List S33) => tarryref14_Tell.l1 k a0_0 a1 l0_1 ml1 i4355 l4358 = some (r1, r2)) k 0 (.slice none 0 0) ([] : List S33) [0, 1] [0] h ⟨rfl, ⟨rfl, rfl, rfl, rfl, rfl, rfl, rfl, trivial⟩, ⟨⟨0, rfl⟩, trivial⟩, rfl, by decide, rfl, by decide⟩ (by intros; simp [tarryref14_Tell.l1]) ?_
    clear h
    intro ml1 ihl1 i4355 v4357 l4358 h
    simp only [tarryref14_Tell.l1] at h
    refine VC.seq ?_
    refine VC.region ?_
    refine VL.letter (decide (i4355 < (l0_1.length : Int))) fun b4401 hb4401 => ?_
    refine VL.va (op_cmp rfl rfl (congrArg some hb4401) (ltn rfl)) rfl ?_
    refine VL.done ?_
    refine VN.then ?_
    refine VC.seq ?_
    by_cases c4403 : i4355 < (l0_1.length : Int)
    · rw [if_pos c4403] at h
      obtain rfl : b4401 = true := hb4401.symm.trans (decide_eq_true c4403)
      refine VC.cond_t rfl ?_
      refine VC.skip ?_
      refine VN.then ?_
      refine VC.seq ?_
      refine VC.block ?_
      refine VC.seq ?_
      refine VC.region ?_
      by_cases c4423 : 0 ≤ i4355
      · rw [if_pos c4423] at h
        replace h := Option.bind_eq_some_iff.1 h
        obtain ⟨x4424, hx4424, h⟩ := h
        refine VL.open (m := l0_1.length) 0 lenm rfl (pos_get hx4424) ?_
        rintro ad4425 n4426 rfl
        refine VL.va (op_indexAddr Try.underlying23 TI34 rfl rfl c4423 (lt_get c4423 hx4424) rfl (ltn rfl)) rfl ?_
        refine VL.va (op_load_row (sz := 4) (o := 0) 0 i4355.toNat 4 rfl rfl (get_map hx4424) TI34 rfl (fun h => absurd h (by decide)) (ltn rfl)) rfl ?_
        refine VL.sG (o_alloc Z34 ZL34 (ltn rfl)) rfl ?_
        intro g4427
        refine VL.step1 (o_store 0 4 rfl rfl rfl TI34 (.agg (.of rfl)) rfl (len rfl)) rfl ?_
        refine VL.done ?_
        refine VN.then ?_
        refine VC.seq ?_
        refine VC.seq ?_
        refine VC.region ?_
        refine VL.va (op_fieldAddr FI34_3 rfl (add_at _ _ _) (ltn rfl)) rfl ?_
        refine VL.va (op_load 0 1 rfl rfl TI3 rfl (by decide) (ltn rfl)) rfl ?_
        refine VL.va (op_move rfl (ltn rfl)) rfl ?_
        refine VL.letter (decide (x4424.f3 ≤ a1)) fun b4430 hb4430 => ?_
        refine VL.va (op_cmp rfl rfl (congrArg some hb4430) (ltn rfl)) rfl ?_
        refine VL.done ?_
        refine VN.then ?_
        by_cases c4431 : x4424.f3 ≤ a1
        · rw [if_pos c4431] at h
          obtain rfl : b4430 = true := hb4430.symm.trans (decide_eq_true c4431)
          refine VC.cond_t rfl ?_
          refine VC.region ?_
          refine VL.va (op_move rfl (ltn rfl)) rfl ?_
          refine VL.va (op_fieldAddr FI34_3 rfl (add_at _ _ _) (ltn rfl)) rfl ?_
          refine VL.step1 (o_store 0 1 rfl rfl rfl TI3 (.c rfl) rfl (len rfl)) rfl ?_
          refine VL.done ?_
          refine VN.then ?_
          refine VC.region ?_
          refine VL.va (op_fieldAddr FI25_1 rfl (add_at _ _ _) (ltn rfl)) rfl ?_
          refine VL.va (op_load 1 1 rfl rfl TI23 rfl (by decide) (ltn rfl)) rfl ?_
          refine VL.va (op_load 0 4 rfl rfl TI34 rfl (fun h => absurd h (by decide)) (ltn rfl)) rfl ?_
          refine VL.sG (o_buildSlice (vals := [(0, .agg #[.int .i64 x4424.f0, .int .i64 x4424.f1, .int .i64 x4424.f2, .int .i64 1099511627776])]) (cells := #[.int .i64 x4424.f0, .int .i64 x4424.f1, .int .i64 x4424.f2, .int .i64 1099511627776]) (es := List.map enc33 ([(⟨x4424.f0, x4424.f1, x4424.f2, 1099511627776⟩ : S33)] : List S33)) Try.underlying23 TI34 Z34 rfl (by decide) (by decide) (by kernel_rfl) (by kernel_rfl) rfl (flat_map enc33_ok _) (ltn rfl)) rfl ?_
          intro v4433
          by_cases c4434 : (l4358.length + ([(⟨x4424.f0, x4424.f1, x4424.f2, 1099511627776⟩ : S33)] : List S33).length) * 32 ≤ 140737488355328
          · rw [if_pos c4434] at h
            refine VL.sG (o_append 1 appm Try.underlying23 EI34 rfl rfl rfl (.inr ⟨0, _, rfl⟩) (bndm c4434) (ltn rfl)) rfl ?_
            intro v4435
            refine VL.va (op_fieldAddr FI25_1 rfl (add_at _ _ _) (ltn rfl)) rfl ?_
            refine VL.step1 (o_store 1 1 rfl rfl rfl TI23 (.r 1 rfl) rfl (len rfl)) rfl ?_
            refine VL.done ?_
            refine VN.block ?_
            refine VN.then ?_
            refine VC.region ?_
            refine VL.va (op_ari64 rfl rfl rfl (ltn rfl)) rfl ?_
            refine VL.va (op_move rfl (ltn rfl)) rfl ?_
            refine VL.done ?_
            refine VN.again [1, 2] [1] (ihl1 (wrap64 (i4355 + 1)) v4435 (l4358 ++ ([(⟨x4424.f0, x4424.f1, x4424.f2, 1099511627776⟩ : S33)] : List S33)) h) ⟨rfl, ⟨rfl, rfl, rfl, rfl, rfl, rfl, rfl, trivial⟩, ⟨⟨0, rfl⟩, trivial⟩, rfl, by decide, rfl, by decide⟩
          · rw [if_neg c4434] at h; cases h
        · rw [if_neg c4431] at h
          obtain rfl : b4430 = false := hb4430.symm.trans (decide_eq_false c4431)
          refine VC.cond_f rfl ?_
          refine VC.skip ?_
          refine VN.then ?_
          refine VC.region ?_
          refine VL.va (op_fieldAddr FI25_1 rfl (add_at _ _ _) (ltn rfl)) rfl ?_
          refine VL.va (op_load 1 1 rfl rfl TI23 rfl (by decide) (ltn rfl)) rfl ?_
          refine VL.va (op_load 0 4 rfl rfl TI34 rfl (fun h => absurd h (by decide)) (ltn rfl)) rfl ?_
          refine VL.sG (o_buildSlice (vals := [(0, .agg #[.int .i64 x4424.f0, .int .i64 x4424.f1, .int .i64 x4424.f2, .int .i64 x4424.f3])]) (cells := #[.int .i64 x4424.f0, .int .i64 x4424.f1, .int .i64 x4424.f2, .int .i64 x4424.f3]) (es := List.map enc33 ([x4424] : List S33)) Try.underlying23 TI34 Z34 rfl (by decide) (by decide) (by kernel_rfl) (by kernel_rfl) rfl (flat_map enc33_ok _) (ltn rfl)) rfl ?_
          intro v4438
          by_cases c4439 : (l4358.length + ([x4424] : List S33).length) * 32 ≤ 140737488355328
          · rw [if_pos c4439] at h
            refine VL.sG (o_append 1 appm Try.underlying23 EI34 rfl rfl rfl (.inr ⟨0, _, rfl⟩) (bndm c4439) (ltn rfl)) rfl ?_
            intro v4440
            refine VL.va (op_fieldAddr FI25_1 rfl (add_at _ _ _) (ltn rfl)) rfl ?_
            refine VL.step1 (o_store 1 1 rfl rfl rfl TI23 (.r 1 rfl) rfl (len rfl)) rfl ?_
            refine VL.done ?_
            refine VN.block ?_
            refine VN.then ?_
            refine VC.region ?_
            refine VL.va (op_ari64 rfl rfl rfl (ltn rfl)) rfl ?_
            refine VL.va (op_move rfl (ltn rfl)) rfl ?_
            refine VL.done ?_
            refine VN.again [1, 2] [1] (ihl1 (wrap64 (i4355 + 1)) v4440 (l4358 ++ ([x4424] : List S33)) h) ⟨rfl, ⟨rfl, rfl, rfl, rfl, rfl, rfl, rfl, trivial⟩, ⟨⟨0, rfl⟩, trivial⟩, rfl, by decide, rfl, by decide⟩
          · rw [if_neg c4439] at h; cases h
      · rw [if_neg c4423] at h; cases h
    · rw [if_neg c4403] at h
      obtain rfl : b4401 = false := hb4401.symm.trans (decide_eq_false c4403)
      refine VC.cond_f rfl ?_
      refine VC.exit ?_
      refine VX.then ?_
      refine VX.then ?_
      refine VX.hit ?_
      refine VN.then ?_
      refine VC.seq ?_
      refine VC.region ?_
      refine VL.va (op_load 0 2 rfl rfl TI25 rfl (fun h => absurd h (by decide)) (ltn rfl)) rfl ?_
      refine VL.step1 (o_store 1 2 rfl rfl rfl TI25 (.agg (.c rfl (.r 0 rfl .nil))) rfl (len rfl)) rfl ?_
      refine VL.done ?_
      refine VN.then ?_
      refine VC.ret ?_
      simp only [Option.some.injEq, Prod.mk.injEq] at h
      obtain ⟨rfl, rfl⟩ := h
      exact VR.fn (rs := [.cell 4 25]) [] [(v4357, 34, 4, l4358.map enc33)] [0] rfl (.cell 1 rfl rfl TI25 (fun h => absurd h (by decide)) .nil) ⟨v4357, rfl, rfl, rfl⟩ trivial rfl (by decide)
  · rw [if_neg c4180] at h
    obtain rfl : b4179 = false := hb4179.symm.trans (decide_eq_false c4180)
    refine VC.cond_f rfl ?_
    refine VC.skip ?_
    refine VN.then ?_
    refine VC.seq ?_
    refine VC.region ?_
    refine VL.va (op_fieldAddr FI25_0 rfl (add_at _ _ _) (ltn rfl)) rfl ?_
    refine VL.va (op_load 1 1 rfl rfl TI3 rfl (by decide) (ltn rfl)) rfl ?_
    refine VL.va (op_build (vals := [(0, .int .i64 a0_0)]) (vcs := [(0, [.int .i64 a0_0])]) (cells := [.int .i64 a0_0, .slice none 0 0]) SI25 rfl (.cons ⟨rfl, (.c rfl)⟩ .nil) (by kernel_rfl) (ltn rfl)) rfl ?_
    refine VL.sG (o_alloc Z25 ZL25 (ltn rfl)) rfl ?_
    intro g4442
    refine VL.step1 (o_store 0 2 rfl rfl rfl TI25 (.agg (.of rfl)) rfl (len rfl)) rfl ?_
    refine VL.done ?_
    refine VN.then ?_
    refine VC.seq ?_
    refine VC.seq ?_
    refine VC.region ?_
    refine VL.va (op_fieldAddr FI25_1 rfl (add_at _ _ _) (ltn rfl)) rfl ?_
    refine VL.va (op_load 2 1 rfl rfl TI23 rfl (by decide) (ltn rfl)) rfl ?_
    refine VL.va (op_len (m := l0_1.length) 0 lenm Try.underlying23 rfl rfl (ltn rfl)) rfl ?_
    refine VL.va (op_move rfl (ltn rfl)) rfl ?_
    refine VL.done ?_
    refine VN.then ?_
    refine VC.block ?_
    refine VC.nilRow' 34 4 ?_
    refine VC.loop3 (fun (i4616 : Int) (v4618 : Value) (l4619 : List S33) => ⟨37, [(1, .int .i64 a1), (4, .pointer (some ⟨g4176, 0, none⟩)), (5, .int .i64 (wrap64 (a1 + 10))), (6, .pointer (some ⟨g4442, 0, none⟩)), (17, v0_1), (18, .int .i64 (l0_1.length : Int)), (19, .int .i64 i4616)], [.row v0_1 4 (l0_1.map enc33)], [(g4442, 25, [.int .i64 a0_0, v4618]), (g4176, 25, [.int .i64 0, .slice none 0 0])], [(v4618, 34, 4, l4619.map enc33)]⟩) (fun (ml3 : Nat) (i4616 : Int) (v4618 : Value) (l4619 : List S33) => tarryref14_Tell.l3 k a0_0 a1 l0_1 ml3 i4616 l4619 = some (r1, r2)) k 0 (.slice none 0 0) ([] : List S33) [0, 1] [0] h ⟨rfl, ⟨rfl, rfl, rfl, rfl, rfl, rfl, rfl, trivial⟩, ⟨⟨0, rfl⟩, trivial⟩, rfl, by decide, rfl, by decide⟩ (by intros; simp [tarryref14_Tell.l3]) ?_
    clear h
    intro ml3 ihl3 i4616 v4618 l4619 h
    simp only [tarryref14_Tell.l3] at h
    refine VC.seq ?_
    refine VC.region ?_
    refine VL.letter (decide (i4616 < (l0_1.length : Int))) fun b4662 hb4662 => ?_
    refine VL.va (op_cmp rfl rfl (congrArg some hb4662) (ltn rfl)) rfl ?_
    refine VL.done ?_
    refine VN.then ?_
    refine VC.seq ?_
    by_cases c4664 : i4616 < (l0_1.length : Int)
    · rw [if_pos c4664] at h
      obtain rfl : b4662 = true := hb4662.symm.trans (decide_eq_true c4664)
      refine VC.cond_t rfl ?_
      refine VC.skip ?_
      refine VN.then ?_
      refine VC.seq ?_
      refine VC.block ?_
      refine VC.seq ?_
      refine VC.region ?_
      by_cases c4684 : 0 ≤ i4616
      · rw [if_pos c4684] at h
        replace h := Option.bind_eq_some_iff.1 h
        obtain ⟨x4685, hx4685, h⟩ := h
        refine VL.open (m := l0_1.length) 0 lenm rfl (pos_get hx4685) ?_
        rintro ad4686 n4687 rfl
        refine VL.va (op_indexAddr Try.underlying23 TI34 rfl rfl c4684 (lt_get c4684 hx4685) rfl (ltn rfl)) rfl ?_
        refine VL.va (op_load_row (sz := 4) (o := 0) 0 i4616.toNat 4 rfl rfl (get_map hx4685) TI34 rfl (fun h => absurd h (by decide)) (ltn rfl)) rfl ?_
        refine VL.sG (o_alloc Z34 ZL34 (ltn rfl)) rfl ?_
        intro g4688
        refine VL.step1 (o_store 0 4 rfl rfl rfl TI34 (.agg (.of rfl)) rfl (len rfl)) rfl ?_
        refine VL.done ?_
        refine VN.then ?_
        refine VC.seq ?_
        refine VC.seq ?_
        refine VC.region ?_
        refine VL.va (op_fieldAddr FI34_3 rfl (add_at _ _ _) (ltn rfl)) rfl ?_
        refine VL.va (op_load 0 1 rfl rfl TI3 rfl (by decide) (ltn rfl)) rfl ?_
        refine VL.va (op_move rfl (ltn rfl)) rfl ?_
        refine VL.letter (decide (x4685.f3 ≤ a1)) fun b4691 hb4691 => ?_
        refine VL.va (op_cmp rfl rfl (congrArg some hb4691) (ltn rfl)) rfl ?_
        refine VL.done ?_
        refine VN.then ?_
        by_cases c4692 : x4685.f3 ≤ a1
        · rw [if_pos c4692] at h
          obtain rfl : b4691 = true := hb4691.symm.trans (decide_eq_true c4692)
          refine VC.cond_t rfl ?_
          refine VC.region ?_
          refine VL.va (op_move rfl (ltn rfl)) rfl ?_
          refine VL.va (op_fieldAddr FI34_3 rfl (add_at _ _ _) (ltn rfl)) rfl ?_
          refine VL.step1 (o_store 0 1 rfl rfl rfl TI3 (.c rfl) rfl (len rfl)) rfl ?_
          refine VL.done ?_
          refine VN.then ?_
          refine VC.region ?_
          refine VL.va (op_fieldAddr FI25_1 rfl (add_at _ _ _) (ltn rfl)) rfl ?_
          refine VL.va (op_load 1 1 rfl rfl TI23 rfl (by decide) (ltn rfl)) rfl ?_
          refine VL.va (op_load 0 4 rfl rfl TI34 rfl (fun h => absurd h (by decide)) (ltn rfl)) rfl ?_
          refine VL.sG (o_buildSlice (vals := [(0, .agg #[.int .i64 x4685.f0, .int .i64 x4685.f1, .int .i64 x4685.f2, .int .i64 (wrap64 (a1 + 10))])]) (cells := #[.int .i64 x4685.f0, .int .i64 x4685.f1, .int .i64 x4685.f2, .int .i64 (wrap64 (a1 + 10))]) (es := List.map enc33 ([(⟨x4685.f0, x4685.f1, x4685.f2, wrap64 (a1 + 10)⟩ : S33)] : List S33)) Try.underlying23 TI34 Z34 rfl (by decide) (by decide) (by kernel_rfl) (by kernel_rfl) rfl (flat_map enc33_ok _) (ltn rfl)) rfl ?_
          intro v4694
          by_cases c4695 : (l4619.length + ([(⟨x4685.f0, x4685.f1, x4685.f2, wrap64 (a1 + 10)⟩ : S33)] : List S33).length) * 32 ≤ 140737488355328
          · rw [if_pos c4695] at h
            refine VL.sG (o_append 1 appm Try.underlying23 EI34 rfl rfl rfl (.inr ⟨0, _, rfl⟩) (bndm c4695) (ltn rfl)) rfl ?_
            intro v4696
            refine VL.va (op_fieldAddr FI25_1 rfl (add_at _ _ _) (ltn rfl)) rfl ?_
            refine VL.step1 (o_store 1 1 rfl rfl rfl TI23 (.r 1 rfl) rfl (len rfl)) rfl ?_
            refine VL.done ?_
            refine VN.block ?_
            refine VN.then ?_
            refine VC.region ?_
            refine VL.va (op_ari64 rfl rfl rfl (ltn rfl)) rfl ?_
            refine VL.va (op_move rfl (ltn rfl)) rfl ?_
            refine VL.done ?_
            refine VN.again [1, 2] [1] (ihl3 (wrap64 (i4616 + 1)) v4696 (l4619 ++ ([(⟨x4685.f0, x4685.f1, x4685.f2, wrap64 (a1 + 10)⟩ : S33)] : List S33)) h) ⟨rfl, ⟨rfl, rfl, rfl, rfl, rfl, rfl, rfl, trivial⟩, ⟨⟨0, rfl⟩, trivial⟩, rfl, by decide, rfl, by decide⟩
          · rw [if_neg c4695] at h; cases h
        · rw [if_neg c4692] at h
          obtain rfl : b4691 = false := hb4691.symm.trans (decide_eq_false c4692)
          refine VC.cond_f rfl ?_
          refine VC.skip ?_
          refine VN.then ?_
          refine VC.region ?_
          refine VL.va (op_fieldAddr FI25_1 rfl (add_at _ _ _) (ltn rfl)) rfl ?_
          refine VL.va (op_load 1 1 rfl rfl TI23 rfl (by decide) (ltn rfl)) rfl ?_
          refine VL.va (op_load 0 4 rfl rfl TI34 rfl (fun h => absurd h (by decide)) (ltn rfl)) rfl ?_
          refine VL.sG (o_buildSlice (vals := [(0, .agg #[.int .i64 x4685.f0, .int .i64 x4685.f1, .int .i64 x4685.f2, .int .i64 x4685.f3])]) (cells := #[.int .i64 x4685.f0, .int .i64 x4685.f1, .int .i64 x4685.f2, .int .i64 x4685.f3]) (es := List.map enc33 ([x4685] : List S33)) Try.underlying23 TI34 Z34 rfl (by decide) (by decide) (by kernel_rfl) (by kernel_rfl) rfl (flat_map enc33_ok _) (ltn rfl)) rfl ?_
          intro v4699
          by_cases c4700 : (l4619.length + ([x4685] : List S33).length) * 32 ≤ 140737488355328
          · rw [if_pos c4700] at h
            refine VL.sG (o_append 1 appm Try.underlying23 EI34 rfl rfl rfl (.inr ⟨0, _, rfl⟩) (bndm c4700) (ltn rfl)) rfl ?_
            intro v4701
            refine VL.va (op_fieldAddr FI25_1 rfl (add_at _ _ _) (ltn rfl)) rfl ?_
            refine VL.step1 (o_store 1 1 rfl rfl rfl TI23 (.r 1 rfl) rfl (len rfl)) rfl ?_
            refine VL.done ?_
            refine VN.block ?_
            refine VN.then ?_
            refine VC.region ?_
            refine VL.va (op_ari64 rfl rfl rfl (ltn rfl)) rfl ?_
            refine VL.va (op_move rfl (ltn rfl)) rfl ?_
            refine VL.done ?_
            refine VN.again [1, 2] [1] (ihl3 (wrap64 (i4616 + 1)) v4701 (l4619 ++ ([x4685] : List S33)) h) ⟨rfl, ⟨rfl, rfl, rfl, rfl, rfl, rfl, rfl, trivial⟩, ⟨⟨0, rfl⟩, trivial⟩, rfl, by decide, rfl, by decide⟩
          · rw [if_neg c4700] at h; cases h
      · rw [if_neg c4684] at h; cases h
    · rw [if_neg c4664] at h
      obtain rfl : b4662 = false := hb4662.symm.trans (decide_eq_false c4664)
      refine VC.cond_f rfl ?_
      refine VC.exit ?_
      refine VX.then ?_
      refine VX.then ?_
      refine VX.hit ?_
      refine VN.then ?_
      refine VC.seq ?_
      refine VC.region ?_
      refine VL.va (op_load 0 2 rfl rfl TI25 rfl (fun h => absurd h (by decide)) (ltn rfl)) rfl ?_
      refine VL.step1 (o_store 1 2 rfl rfl rfl TI25 (.agg (.c rfl (.r 0 rfl .nil))) rfl (len rfl)) rfl ?_
      refine VL.done ?_
      refine VN.then ?_
      refine VC.ret ?_
      simp only [Option.some.injEq, Prod.mk.injEq] at h
      obtain ⟨rfl, rfl⟩ := h
      exact VR.fn (rs := [.cell 4 25]) [] [(v4618, 34, 4, l4619.map enc33)] [0] rfl (.cell 1 rfl rfl TI25 (fun h => absurd h (by decide)) .nil) ⟨v4618, rfl, rfl, rfl⟩ trivial rfl (by decide)
set_option maxHeartbeats 4000000 in
set_option maxRecDepth 100000 in
theorem tarryref14_Told.ok (k : Nat) (a0_0 : Int) (l0_1 : List S33) (a1 : Int) (v0_1 : Value) (r1 : List S33) (h : tarryref14_Told.f k a0_0 l0_1 a1 = some r1) :
    VCalls Try.prog 18 [.agg #[.int .i64 a0_0, v0_1], .int .i64 a1] [.row v0_1 4 (l0_1.map enc33)] (fun v G own => ∃ w0 : Value, v = w0 ∧ G = [] ∧ own = [(w0, 34, 4, r1.map enc33)]) := by
  refine VCalls.intro Try.func18 rfl (len rfl) fun E hC hW hD => ?_
  unfold tarryref14_Told.f at h
  refine VC.seq ?_
  refine VC.region ?_
  refine VL.sG (o_box rfl (.agg (.c rfl (.f 0 rfl .nil))) (ltn rfl)) rfl ?_
  intro g4712
  refine VL.va (op_assign rfl (ltn rfl)) rfl ?_
  refine VL.done ?_
  refine VN.then ?_
  refine VC.seq ?_
  refine VC.region ?_
  refine VL.sG (o_buildSlice (vals := []) (cells := #[]) (es := List.map enc33 ([] : List S33)) Try.underlying23 TI34 Z34 rfl (by decide) (by decide) (by kernel_rfl) (by kernel_rfl) rfl (flat_map enc33_ok _) (ltn rfl)) rfl ?_
  intro v4714
  refine VL.va (op_assign rfl (ltn rfl)) rfl ?_
  refine VL.done ?_
  refine VN.then ?_
  refine VC.seq ?_
  refine VC.seq ?_
  refine VC.region ?_
  refine VL.va (op_fieldAddr FI25_1 rfl (add_at _ _ _) (ltn rfl)) rfl ?_
  refine VL.va (op_load 0 1 rfl rfl TI23 rfl (by decide) (ltn rfl)) rfl ?_
  refine VL.va (op_len (m := l0_1.length) 0 lenm Try.underlying23 rfl rfl (ltn rfl)) rfl ?_
  refine VL.va (op_move rfl (ltn rfl)) rfl ?_
  refine VL.done ?_
  refine VN.then ?_
  refine VC.block ?_
  refine VC.loop3 (fun (v4824 : Value) (l4825 : List S33) (i4826 : Int) => ⟨26, [(1, .int .i64 a1), (4, .slice none 0 0), (5, v4824), (10, v0_1), (11, .int .i64 (l0_1.length : Int)), (12, .int .i64 i4826)], [.row v0_1 4 (l0_1.map enc33)], [], [(v4824, 34, 4, l4825.map enc33)]⟩) (fun (ml1 : Nat) (v4824 : Value) (l4825 : List S33) (i4826 : Int) => tarryref14_Told.l1 k a1 l0_1 ml1 l4825 i4826 = some r1) k v4714 ([] : List S33) 0 [] [0] h ⟨rfl, ⟨rfl, rfl, rfl, rfl, rfl, rfl, trivial⟩, ⟨⟨0, rfl⟩, trivial⟩, rfl, by decide, rfl, by decide⟩ (by intros; simp [tarryref14_Told.l1]) ?_
  clear h
  intro ml1 ihl1 v4824 l4825 i4826 h
  simp only [tarryref14_Told.l1] at h
  refine VC.seq ?_
  refine VC.region ?_
  refine VL.letter (decide (i4826 < (l0_1.length : Int))) fun b4854 hb4854 => ?_
  refine VL.va (op_cmp rfl rfl (congrArg some hb4854) (ltn rfl)) rfl ?_
  refine VL.done ?_
  refine VN.then ?_
  refine VC.seq ?_
  by_cases c4856 : i4826 < (l0_1.length : Int)
  · rw [if_pos c4856] at h
    obtain rfl : b4854 = true := hb4854.symm.trans (decide_eq_true c4856)
    refine VC.cond_t rfl ?_
    refine VC.skip ?_
    refine VN.then ?_
    refine VC.seq ?_
    refine VC.block ?_
    refine VC.seq ?_
    refine VC.region ?_
    by_cases c4869 : 0 ≤ i4826
    · rw [if_pos c4869] at h
      replace h := Option.bind_eq_some_iff.1 h
      obtain ⟨x4870, hx4870, h⟩ := h
      refine VL.open (m := l0_1.length) 0 lenm rfl (pos_get hx4870) ?_
      rintro ad4871 n4872 rfl
      refine VL.va (op_indexAddr Try.underlying23 TI34 rfl rfl c4869 (lt_get c4869 hx4870) rfl (ltn rfl)) rfl ?_
      refine VL.va (op_load_row (sz := 4) (o := 0) 0 i4826.toNat 4 rfl rfl (get_map hx4870) TI34 rfl (fun h => absurd h (by decide)) (ltn rfl)) rfl ?_
      refine VL.sG (o_alloc Z34 ZL34 (ltn rfl)) rfl ?_
      intro g4873
      refine VL.step1 (o_store 0 4 rfl rfl rfl TI34 (.agg (.of rfl)) rfl (len rfl)) rfl ?_
      refine VL.done ?_
      refine VN.then ?_
      refine VC.seq ?_
      refine VC.region ?_
      refine VL.va (op_fieldAddr FI34_3 rfl (add_at _ _ _) (ltn rfl)) rfl ?_
      refine VL.va (op_load 0 1 rfl rfl TI3 rfl (by decide) (ltn rfl)) rfl ?_
      refine VL.va (op_move rfl (ltn rfl)) rfl ?_
      refine VL.letter (decide (x4870.f3 ≤ a1)) fun b4874 hb4874 => ?_
      refine VL.va (op_cmp rfl rfl (congrArg some hb4874) (ltn rfl)) rfl ?_
      refine VL.done ?_
      refine VN.then ?_
      by_cases c4875 : x4870.f3 ≤ a1
      · rw [if_pos c4875] at h
        obtain rfl : b4874 = true := hb4874.symm.trans (decide_eq_true c4875)
        refine VC.cond_t rfl ?_
        refine VC.region ?_
        refine VL.va (op_move rfl (ltn rfl)) rfl ?_
        refine VL.va (op_load 0 4 rfl rfl TI34 rfl (fun h => absurd h (by decide)) (ltn rfl)) rfl ?_
        refine VL.sG (o_buildSlice (vals := [(0, .agg #[.int .i64 x4870.f0, .int .i64 x4870.f1, .int .i64 x4870.f2, .int .i64 x4870.f3])]) (cells := #[.int .i64 x4870.f0, .int .i64 x4870.f1, .int .i64 x4870.f2, .int .i64 x4870.f3]) (es := List.map enc33 ([x4870] : List S33)) Try.underlying23 TI34 Z34 rfl (by decide) (by decide) (by kernel_rfl) (by kernel_rfl) rfl (flat_map enc33_ok _) (ltn rfl)) rfl ?_
        intro v4877
        by_cases c4878 : (l4825.length + ([x4870] : List S33).length) * 32 ≤ 140737488355328
        · rw [if_pos c4878] at h
          refine VL.sG (o_append 1 appm Try.underlying23 EI34 rfl rfl rfl (.inr ⟨0, _, rfl⟩) (bndm c4878) (ltn rfl)) rfl ?_
          intro v4879
          refine VL.va (op_assign rfl (ltn rfl)) rfl ?_
          refine VL.done ?_
          refine VN.block ?_
          refine VN.then ?_
          refine VC.region ?_
          refine VL.va (op_ari64 rfl rfl rfl (ltn rfl)) rfl ?_
          refine VL.va (op_move rfl (ltn rfl)) rfl ?_
          refine VL.done ?_
          refine VN.again [] [1] (ihl1 v4879 (l4825 ++ ([x4870] : List S33)) (wrap64 (i4826 + 1)) h) ⟨rfl, ⟨rfl, rfl, rfl, rfl, rfl, rfl, trivial⟩, ⟨⟨0, rfl⟩, trivial⟩, rfl, by decide, rfl, by decide⟩
        · rw [if_neg c4878] at h; cases h
      · rw [if_neg c4875] at h
        obtain rfl : b4874 = false := hb4874.symm.trans (decide_eq_false c4875)
        refine VC.cond_f rfl ?_
        refine VC.skip ?_
        refine VN.block ?_
        refine VN.then ?_
        refine VC.region ?_
        refine VL.va (op_ari64 rfl rfl rfl (ltn rfl)) rfl ?_
        refine VL.va (op_move rfl (ltn rfl)) rfl ?_
        refine VL.done ?_
        refine VN.again [] [0] (ihl1 v4824 l4825 (wrap64 (i4826 + 1)) h) ⟨rfl, ⟨rfl, rfl, rfl, rfl, rfl, rfl, trivial⟩, ⟨⟨0, rfl⟩, trivial⟩, rfl, by decide, rfl, by decide⟩
    · rw [if_neg c4869] at h; cases h
  · rw [if_neg c4856] at h
    obtain rfl : b4854 = false := hb4854.symm.trans (decide_eq_false c4856)
    refine VC.cond_f rfl ?_
    refine VC.exit ?_
    refine VX.then ?_
    refine VX.then ?_
    refine VX.hit ?_
    refine VN.then ?_
    refine VC.seq ?_
    refine VC.region ?_
    refine VL.va (op_move rfl (ltn rfl)) rfl ?_
    refine VL.va (op_assign rfl (ltn rfl)) rfl ?_
    refine VL.done ?_
    refine VN.then ?_
    refine VC.ret ?_
    obtain rfl := Option.some.inj h
    exact VR.fn (rs := [.tmp 4]) [] [(v4824, 34, 4, l4825.map enc33)] [0] rfl (.tmp rfl .nil) ⟨v4824, rfl, rfl, rfl⟩ trivial rfl (by decide)
set_option maxHeartbeats 4000000 in
set_option maxRecDepth 100000 in
theorem tarryref14_Get.ok (k : Nat) (a0_0 : Int) (l0_1 : List S33) (a1 : Int) (v0_1 : Value) (r1 : Int) (r2 : Int) (r3 : Int) (r4 : Int) (h : tarryref14_Get.f k a0_0 l0_1 a1 = some (r1, r2, r3, r4)) :
    VCalls Try.prog 19 [.agg #[.int .i64 a0_0, v0_1], .int .i64 a1] [.row v0_1 4 (l0_1.map enc33)] (fun v G own => v = .agg #[.int .i64 r1, .int .i64 r2, .int .i64 r3, .int .i64 r4] ∧ G = [] ∧ own = []) := by
  refine VCalls.intro Try.func19 rfl (len rfl) fun E hC hW hD => ?_
  unfold tarryref14_Get.f at h
  refine VC.seq ?_
  refine VC.region ?_
  refine VL.sG (o_box rfl (.agg (.c rfl (.f 0 rfl .nil))) (ltn rfl)) rfl ?_
  intro g4909
  refine VL.sG (o_alloc Z34 ZL34 (ltn rfl)) rfl ?_
  intro g4910
  refine VL.done ?_
  refine VN.then ?_
  refine VC.seq ?_
  refine VC.seq ?_
  refine VC.region ?_
  refine VL.va (op_fieldAddr FI25_1 rfl (add_at _ _ _) (ltn rfl)) rfl ?_
  refine VL.va (op_load 1 1 rfl rfl TI23 rfl (by decide) (ltn rfl)) rfl ?_
  refine VL.va (op_len (m := l0_1.length) 0 lenm Try.underlying23 rfl rfl (ltn rfl)) rfl ?_
  refine VL.va (op_move rfl (ltn rfl)) rfl ?_
  refine VL.done ?_
  refine VN.then ?_
  refine VC.block ?_
  refine VC.loop1 (fun (i4976 : Int) => ⟨21, [(1, .int .i64 a1), (4, .pointer (some ⟨g4910, 0, none⟩)), (8, v0_1), (9, .int .i64 (l0_1.length : Int)), (10, .int .i64 i4976)], [.row v0_1 4 (l0_1.map enc33)], [(g4910, 34, [.int .i64 0, .int .i64 0, .int .i64 0, .int .i64 0])], []⟩) (fun (ml1 : Nat) (i4976 : Int) => tarryref14_Get.l1 k a1 l0_1 ml1 i4976 = some (r1, r2, r3, r4)) k 0 [0] [] h ⟨rfl, ⟨rfl, rfl, rfl, rfl, rfl, trivial⟩, ⟨⟨0, rfl⟩, trivial⟩, rfl, by decide, rfl, by decide⟩ (by intros; simp [tarryref14_Get.l1]) ?_
  clear h
  intro ml1 ihl1 i4976 h
  simp only [tarryref14_Get.l1] at h
  refine VC.seq ?_
  refine VC.region ?_
  refine VL.letter (decide (i4976 < (l0_1.length : Int))) fun b4994 hb4994 => ?_
  refine VL.va (op_cmp rfl rfl (congrArg some hb4994) (ltn rfl)) rfl ?_
  refine VL.done ?_
  refine VN.then ?_
  refine VC.seq ?_
  by_cases c4996 : i4976 < (l0_1.length : Int)
  · rw [if_pos c4996] at h
    obtain rfl : b4994 = true := hb4994.symm.trans (decide_eq_true c4996)
    refine VC.cond_t rfl ?_
    refine VC.skip ?_
    refine VN.then ?_
    refine VC.seq ?_
    refine VC.block ?_
    refine VC.seq ?_
    refine VC.region ?_
    by_cases c5004 : 0 ≤ i4976
    · rw [if_pos c5004] at h
      replace h := Option.bind_eq_some_iff.1 h
      obtain ⟨x5005, hx5005, h⟩ := h
      refine VL.open (m := l0_1.length) 0 lenm rfl (pos_get hx5005) ?_
      rintro ad5006 n5007 rfl
      refine VL.va (op_indexAddr Try.underlying23 TI34 rfl rfl c5004 (lt_get c5004 hx5005) rfl (ltn rfl)) rfl ?_
      refine VL.va (op_load_row (sz := 4) (o := 0) 0 i4976.toNat 4 rfl rfl (get_map hx5005) TI34 rfl (fun h => absurd h (by decide)) (ltn rfl)) rfl ?_
      refine VL.sG (o_alloc Z34 ZL34 (ltn rfl)) rfl ?_
      intro g5008
      refine VL.step1 (o_store 0 4 rfl rfl rfl TI34 (.agg (.of rfl)) rfl (len rfl)) rfl ?_
      refine VL.done ?_
      refine VN.then ?_
      refine VC.seq ?_
      refine VC.region ?_
      refine VL.va (op_fieldAddr FI34_0 rfl (add_at _ _ _) (ltn rfl)) rfl ?_
      refine VL.va (op_load 0 1 rfl rfl TI3 rfl (by decide) (ltn rfl)) rfl ?_
      refine VL.va (op_move rfl (ltn rfl)) rfl ?_
      refine VL.letter ((x5005.f0 == a1)) fun b5009 hb5009 => ?_
      refine VL.va (op_cmp rfl rfl (congrArg some hb5009) (ltn rfl)) rfl ?_
      refine VL.done ?_
      refine VN.then ?_
      by_cases c5010 : x5005.f0 = a1
      · rw [if_pos c5010] at h
        obtain rfl : b5009 = true := hb5009.symm.trans (beq_iff_eq.2 c5010)
        refine VC.cond_t rfl ?_
        refine VC.seq ?_
        refine VC.region ?_
        refine VL.va (op_load 0 4 rfl rfl TI34 rfl (fun h => absurd h (by decide)) (ltn rfl)) rfl ?_
        refine VL.step1 (o_store 1 4 rfl rfl rfl TI34 (.agg (.of rfl)) rfl (len rfl)) rfl ?_
        refine VL.done ?_
        refine VN.then ?_
        refine VC.ret ?_
        refine VR.block ?_
        refine VR.then ?_
        refine VR.then ?_
        refine VR.block ?_
        refine VR.then ?_
        simp only [Option.some.injEq, Prod.mk.injEq] at h
        obtain ⟨rfl, rfl, rfl, rfl⟩ := h
        exact VR.fn (rs := [.cell 4 34]) [] [] [] rfl (.cell 1 rfl rfl TI34 (fun h => absurd h (by decide)) .nil) ⟨rfl, rfl, rfl⟩ trivial rfl (by decide)
      · rw [if_neg c5010] at h
        obtain rfl : b5009 = false := hb5009.symm.trans (beq_eq_false_iff_ne.2 c5010)
        refine VC.cond_f rfl ?_
        refine VC.skip ?_
        refine VN.block ?_
        refine VN.then ?_
        refine VC.region ?_
        refine VL.va (op_ari64 rfl rfl rfl (ltn rfl)) rfl ?_
        refine VL.va (op_move rfl (ltn rfl)) rfl ?_
        refine VL.done ?_
        refine VN.again [1] [] (ihl1 (wrap64 (i4976 + 1)) h) ⟨rfl, ⟨rfl, rfl, rfl, rfl, rfl, trivial⟩, ⟨⟨0, rfl⟩, trivial⟩, rfl, by decide, rfl, by decide⟩
    · rw [if_neg c5004] at h; cases h
  · rw [if_neg c4996] at h
    obtain rfl : b4994 = false := hb4994.symm.trans (decide_eq_false c4996)
    refine VC.cond_f rfl ?_
    refine VC.exit ?_
    refine VX.then ?_
    refine VX.then ?_
    refine VX.hit ?_
    refine VN.then ?_
    refine VC.seq ?_
    refine VC.region ?_
    refine VL.va (op_build (vals := []) (vcs := []) (cells := [.int .i64 0, .int .i64 0, .int .i64 0, .int .i64 0]) SI34 rfl .nil (by kernel_rfl) (ltn rfl)) rfl ?_
    refine VL.step1 (o_store 0 4 rfl rfl rfl TI34 (.agg (.of rfl)) rfl (len rfl)) rfl ?_
    refine VL.done ?_
    refine VN.then ?_
    refine VC.ret ?_
    simp only [Option.some.injEq, Prod.mk.injEq] at h
    obtain ⟨rfl, rfl, rfl, rfl⟩ := h
    exact VR.fn (rs := [.cell 4 34]) [] [] [] rfl (.cell 0 rfl rfl TI34 (fun h => absurd h (by decide)) .nil) ⟨rfl, rfl, rfl⟩ trivial rfl (by decide)
set_option maxHeartbeats 4000000 in
set_option maxRecDepth 100000 in
theorem tarryref14_Done.ok (k : Nat) (a0_0 : Int) (l0_1 : List S33) (a1 : Int) (v0_1 : Value) (r1 : Int) (r2 : List S33) (h : tarryref14_Done.f k a0_0 l0_1 a1 = some (r1, r2)) :
    VCalls Try.prog 20 [.agg #[.int .i64 a0_0, v0_1], .int .i64 a1] [.row v0_1 4 (l0_1.map enc33)] (fun v G own => ∃ w1 : Value, v = .agg #[.int .i64 r1, w1] ∧ G = [] ∧ own = [(w1, 34, 4, r2.map enc33)]) := by
  refine VCalls.intro Try.func20 rfl (len rfl) fun E hC hW hD => ?_
  unfold tarryref14_Done.f at h
  refine VC.seq ?_
  refine VC.region ?_
  refine VL.sG (o_box rfl (.agg (.c rfl (.f 0 rfl .nil))) (ltn rfl)) rfl ?_
  intro g5054
  refine VL.sG (o_alloc Z25 ZL25 (ltn rfl)) rfl ?_
  intro g5055
  refine VL.done ?_
  refine VN.then ?_
  refine VC.seq ?_
  refine VC.region ?_
  refine VL.va (op_fieldAddr FI25_0 rfl (add_at _ _ _) (ltn rfl)) rfl ?_
  refine VL.va (op_load 1 1 rfl rfl TI3 rfl (by decide) (ltn rfl)) rfl ?_
  refine VL.va (op_build (vals := [(0, .int .i64 a0_0)]) (vcs := [(0, [.int .i64 a0_0])]) (cells := [.int .i64 a0_0, .slice none 0 0]) SI25 rfl (.cons ⟨rfl, (.c rfl)⟩ .nil) (by kernel_rfl) (ltn rfl)) rfl ?_
  refine VL.sG (o_alloc Z25 ZL25 (ltn rfl)) rfl ?_
  intro g5056
  refine VL.step1 (o_store 0 2 rfl rfl rfl TI25 (.agg (.of rfl)) rfl (len rfl)) rfl ?_
  refine VL.done ?_
  refine VN.then ?_
  refine VC.seq ?_
  refine VC.seq ?_
  refine VC.region ?_
  refine VL.va (op_fieldAddr FI25_1 rfl (add_at _ _ _) (ltn rfl)) rfl ?_
  refine VL.va (op_load 2 1 rfl rfl TI23 rfl (by decide) (ltn rfl)) rfl ?_
  refine VL.va (op_len (m := l0_1.length) 0 lenm Try.underlying23 rfl rfl (ltn rfl)) rfl ?_
  refine VL.va (op_move rfl (ltn rfl)) rfl ?_
  refine VL.done ?_
  refine VN.then ?_
  refine VC.block ?_
  refine VC.nilRow' 34 4 ?_
  refine VC.loop3 (fun (i5170 : Int) (v5172 : Value) (l5173 : List S33) => ⟨30, [(1, .int .i64 a1), (4, .pointer (some ⟨g5055, 0, none⟩)), (5, .pointer (some ⟨g5056, 0, none⟩)), (12, v0_1), (13, .int .i64 (l0_1.length : Int)), (14, .int .i64 i5170)], [.row v0_1 4 (l0_1.map enc33)], [(g5056, 25, [.int .i64 a0_0, v5172]), (g5055, 25, [.int .i64 0, .slice none 0 0])], [(v5172, 34, 4, l5173.map enc33)]⟩) (fun (ml1 : Nat) (i5170 : Int) (v5172 : Value) (l5173 : List S33) => tarryref14_Done.l1 k a0_0 a1 l0_1 ml1 i5170 l5173 = some (r1, r2)) k 0 (.slice none 0 0) ([] : List S33) [0, 1] [0] h ⟨rfl, ⟨rfl, rfl, rfl, rfl, rfl, rfl, trivial⟩, ⟨⟨0, rfl⟩, trivial⟩, rfl, by decide, rfl, by decide⟩ (by intros; simp [tarryref14_Done.l1]) ?_
  clear h
  intro ml1 ihl1 i5170 v5172 l5173 h
  simp only [tarryref14_Done.l1] at h
  refine VC.seq ?_
  refine VC.region ?_
  refine VL.letter (decide (i5170 < (l0_1.length : Int))) fun b5202 hb5202 => ?_
  refine VL.va (op_cmp rfl rfl (congrArg some hb5202) (ltn rfl)) rfl ?_
  refine VL.done ?_
  refine VN.then ?_
  refine VC.seq ?_
  by_cases c5204 : i5170 < (l0_1.length : Int)
  · rw [if_pos c5204] at h
    obtain rfl : b5202 = true := hb5202.symm.trans (decide_eq_true c5204)
    refine VC.cond_t rfl ?_
    refine VC.skip ?_
    refine VN.then ?_
    refine VC.seq ?_
    refine VC.block ?_
    refine VC.seq ?_
    refine VC.region ?_
    by_cases c5217 : 0 ≤ i5170
    · rw [if_pos c5217] at h
      replace h := Option.bind_eq_some_iff.1 h
      obtain ⟨x5218, hx5218, h⟩ := h
      refine VL.open (m := l0_1.length) 0 lenm rfl (pos_get hx5218) ?_
      rintro ad5219 n5220 rfl
      refine VL.va (op_indexAddr Try.underlying23 TI34 rfl rfl c5217 (lt_get c5217 hx5218) rfl (ltn rfl)) rfl ?_
      refine VL.va (op_load_row (sz := 4) (o := 0) 0 i5170.toNat 4 rfl rfl (get_map hx5218) TI34 rfl (fun h => absurd h (by decide)) (ltn rfl)) rfl ?_
      refine VL.sG (o_alloc Z34 ZL34 (ltn rfl)) rfl ?_
      intro g5221
      refine VL.step1 (o_store 0 4 rfl rfl rfl TI34 (.agg (.of rfl)) rfl (len rfl)) rfl ?_
      refine VL.done ?_
      refine VN.then ?_
      refine VC.seq ?_
      refine VC.region ?_
      refine VL.va (op_fieldAddr FI34_0 rfl (add_at _ _ _) (ltn rfl)) rfl ?_
      refine VL.va (op_load 0 1 rfl rfl TI3 rfl (by decide) (ltn rfl)) rfl ?_
      refine VL.va (op_move rfl (ltn rfl)) rfl ?_
      refine VL.letter ((x5218.f0 != a1)) fun b5222 hb5222 => ?_
      refine VL.va (op_cmp rfl rfl (congrArg some hb5222) (ltn rfl)) rfl ?_
      refine VL.done ?_
      refine VN.then ?_
      by_cases c5223 : x5218.f0 = a1
      · rw [if_pos c5223] at h
        obtain rfl : b5222 = false := hb5222.symm.trans (bne_eq_false_iff_eq.2 c5223)
        refine VC.cond_f rfl ?_
        refine VC.skip ?_
        refine VN.block ?_
        refine VN.then ?_
        refine VC.region ?_
        refine VL.va (op_ari64 rfl rfl rfl (ltn rfl)) rfl ?_
        refine VL.va (op_move rfl (ltn rfl)) rfl ?_
        refine VL.done ?_
        refine VN.again [1, 2] [0] (ihl1 (wrap64 (i5170 + 1)) v5172 l5173 h) ⟨rfl, ⟨rfl, rfl, rfl, rfl, rfl, rfl, trivial⟩, ⟨⟨0, rfl⟩, trivial⟩, rfl, by decide, rfl, by decide⟩
      · rw [if_neg c5223] at h
        obtain rfl : b5222 = true := hb5222.symm.trans (bne_iff_ne.2 c5223)
        refine VC.cond_t rfl ?_
        refine VC.region ?_
        refine VL.va (op_fieldAddr FI25_1 rfl (add_at _ _ _) (ltn rfl)) rfl ?_
        refine VL.va (op_load 1 1 rfl rfl TI23 rfl (by decide) (ltn rfl)) rfl ?_
        refine VL.va (op_load 0 4 rfl rfl TI34 rfl (fun h => absurd h (by decide)) (ltn rfl)) rfl ?_
        refine VL.sG (o_buildSlice (vals := [(0, .agg #[.int .i64 x5218.f0, .int .i64 x5218.f1, .int .i64 x5218.f2, .int .i64 x5218.f3])]) (cells := #[.int .i64 x5218.f0, .int .i64 x5218.f1, .int .i64 x5218.f2, .int .i64 x5218.f3]) (es := List.map enc33 ([x5218] : List S33)) Try.underlying23 TI34 Z34 rfl (by decide) (by decide) (by kernel_rfl) (by kernel_rfl) rfl (flat_map enc33_ok _) (ltn rfl)) rfl ?_
        intro v5225
        by_cases c5226 : (l5173.length + ([x5218] : List S33).length) * 32 ≤ 140737488355328
        · rw [if_pos c5226] at h
          refine VL.sG (o_append 1 appm Try.underlying23 EI34 rfl rfl rfl (.inr ⟨0, _, rfl⟩) (bndm c5226) (ltn rfl)) rfl ?_
          intro v5227
          refine VL.va (op_fieldAddr FI25_1 rfl (add_at _ _ _) (ltn rfl)) rfl ?_
          refine VL.step1 (o_store 1 1 rfl rfl rfl TI23 (.r 1 rfl) rfl (len rfl)) rfl ?_
          refine VL.done ?_
          refine VN.block ?_
          refine VN.then ?_
          refine VC.region ?_
          refine VL.va (op_ari64 rfl rfl rfl (ltn rfl)) rfl ?_
          refine VL.va (op_move rfl (ltn rfl)) rfl ?_
          refine VL.done ?_
          refine VN.again [1, 2] [1] (ihl1 (wrap64 (i5170 + 1)) v5227 (l5173 ++ ([x5218] : List S33)) h) ⟨rfl, ⟨rfl, rfl, rfl, rfl, rfl, rfl, trivial⟩, ⟨⟨0, rfl⟩, trivial⟩, rfl, by decide, rfl, by decide⟩
        · rw [if_neg c5226] at h; cases h
    · rw [if_neg c5217] at h; cases h
  · rw [if_neg c5204] at h
    obtain rfl : b5202 = false := hb5202.symm.trans (decide_eq_false c5204)
    refine VC.cond_f rfl ?_
    refine VC.exit ?_
    refine VX.then ?_
    refine VX.then ?_
    refine VX.hit ?_
    refine VN.then ?_
    refine VC.seq ?_
    refine VC.region ?_
    refine VL.va (op_load 0 2 rfl rfl TI25 rfl (fun h => absurd h (by decide)) (ltn rfl)) rfl ?_
    refine VL.step1 (o_store 1 2 rfl rfl rfl TI25 (.agg (.c rfl (.r 0 rfl .nil))) rfl (len rfl)) rfl ?_
    refine VL.done ?_
    refine VN.then ?_
    refine VC.ret ?_
    simp only [Option.some.injEq, Prod.mk.injEq] at h
    obtain ⟨rfl, rfl⟩ := h
    exact VR.fn (rs := [.cell 4 25]) [] [(v5172, 34, 4, l5173.map enc33)] [0] rfl (.cell 1 rfl rfl TI25 (fun h => absurd h (by decide)) .nil) ⟨v5172, rfl, rfl, rfl⟩ trivial rfl (by decide)

end Go.Proofs.Ytapdeoioenblfaa.POutboxGoes
