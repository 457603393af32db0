/- Written by a program of this repo: what the program's functions do, each as a Lean function, shown of the loaded code; or a statement's row over that; no condition of its own. -/
import Derived.Test.YtapdeoioenblfaaPOutboxGoesx0
namespace Go.Proofs.Ytapdeoioenblfaa.POutboxGoes
open Go Go.RowKit Go.Proofs.YtapdeoioenblfaaV
set_option linter.unusedVariables false
set_option linter.unusedSimpArgs false

set_option maxHeartbeats 4000000 in
set_option maxRecDepth 100000 in
theorem tarrylaw14_few.ok (a0_0 : Int) (l0_1 : List S33) (v0_1 : Value) (r1 : Int) (r2 : List S33) (h : tarrylaw14_few.f a0_0 l0_1 = some (r1, r2)) :
    VCalls Try.prog 10 [.agg #[.int .i64 a0_0, v0_1]] [.row v0_1 4 (l0_1.map enc33)] (fun v G own => ∃ w1 : Value, v = .agg #[.int .i64 r1, w1] ∧ G = [.row w1 4 (r2.map enc33)] ∧ own = []) := by
  refine VCalls.intro Try.func10 rfl (len rfl) fun E hC hW hD => ?_
  unfold tarrylaw14_few.f at h
  refine VC.seq ?_
  refine VC.region ?_
  refine VL.sG (o_box rfl (.agg (.c rfl (.f 0 rfl .nil))) (ltn rfl)) rfl ?_
  intro g11
  refine VL.sG (o_alloc Z25 ZL25 (ltn rfl)) rfl ?_
  intro g12
  refine VL.done ?_
  refine VN.then ?_
  by_cases c13 : 0 ≤ mn (l0_1.length : Int) 98
  · rw [if_pos c13] at h
    by_cases c14 : (mn (l0_1.length : Int) 98) ≤ (l0_1.length : Int)
    · rw [if_pos c14] at h
      refine VC.join1 (fun (v16 : Value) => ⟨13, [(2, .pointer (some ⟨g12, 0, none⟩))], [.row v16 4 (((l0_1.take ((mn (l0_1.length : Int) 98).toNat)).drop 0).map enc33)], [(g12, 25, [.int .i64 a0_0, v16])], []⟩) (fun (v16 : Value) => True) ?_ ?_
      · refine VC.draw ⟨0, [], [.row v0_1 4 (l0_1.map enc33)], [(g11, 25, [.int .i64 a0_0, v0_1])], []⟩ (by kernel_rfl) rfl (by kernel_rfl) (n := 11) (listed := LB 11 0) ?_
        refine VA.va (i := 0) (listed' := LB 11 1) rfl (op_fieldAddr FI25_0 rfl (add_at _ _ _) (ltn rfl)) rfl (by kernel_rfl) (by kernel_rfl) (by kernel_rfl) (by kernel_rfl) ⟨⟨⟨0, rfl⟩, trivial⟩, ⟨⟨1, rfl⟩, trivial⟩, trivial⟩ (fun _ _ _ h => h) ?_
        refine VA.va (i := 1) (listed' := LB 11 3) rfl (op_load 0 1 rfl rfl TI3 rfl (by decide) (ltn rfl)) rfl (by kernel_rfl) (by kernel_rfl) (by kernel_rfl) (by kernel_rfl) ⟨⟨⟨0, rfl⟩, trivial⟩, ⟨⟨1, rfl⟩, trivial⟩, trivial⟩ (fun _ _ _ h => h) ?_
        refine VA.va (i := 2) (listed' := LB 11 7) rfl (op_fieldAddr FI25_1 rfl (add_at _ _ _) (ltn rfl)) rfl (by kernel_rfl) (by kernel_rfl) (by kernel_rfl) (by kernel_rfl) ⟨⟨⟨0, rfl⟩, trivial⟩, ⟨⟨1, rfl⟩, trivial⟩, trivial⟩ (fun _ _ _ h => h) ?_
        refine VA.va (i := 3) (listed' := LB 11 15) rfl (op_load 0 1 rfl rfl TI23 rfl (by decide) (ltn rfl)) rfl (by kernel_rfl) (by kernel_rfl) (by kernel_rfl) (by kernel_rfl) ⟨⟨⟨0, rfl⟩, trivial⟩, ⟨⟨1, rfl⟩, trivial⟩, trivial⟩ (fun _ _ _ h => h) ?_
        refine VA.va (i := 4) (listed' := LB 11 31) rfl (op_fieldAddr FI25_1 rfl (add_at _ _ _) (ltn rfl)) rfl (by kernel_rfl) (by kernel_rfl) (by kernel_rfl) (by kernel_rfl) ⟨⟨⟨0, rfl⟩, trivial⟩, ⟨⟨1, rfl⟩, trivial⟩, trivial⟩ (fun _ _ _ h => h) ?_
        refine VA.va (i := 5) (listed' := LB 11 63) rfl (op_load 0 1 rfl rfl TI23 rfl (by decide) (ltn rfl)) rfl (by kernel_rfl) (by kernel_rfl) (by kernel_rfl) (by kernel_rfl) ⟨⟨⟨0, rfl⟩, trivial⟩, ⟨⟨1, rfl⟩, trivial⟩, trivial⟩ (fun _ _ _ h => h) ?_
        refine VA.va (i := 6) (listed' := LB 11 127) rfl (op_len (m := l0_1.length) 0 lenm Try.underlying23 rfl rfl (ltn rfl)) rfl (by kernel_rfl) (by kernel_rfl) (by kernel_rfl) (by kernel_rfl) ⟨⟨⟨0, rfl⟩, trivial⟩, ⟨⟨1, rfl⟩, trivial⟩, trivial⟩ (fun _ _ _ h => h) ?_
        refine VA.va (i := 7) (listed' := LB 11 255) rfl (op_min rfl rfl (ltn rfl)) rfl (by kernel_rfl) (by kernel_rfl) (by kernel_rfl) (by kernel_rfl) ⟨⟨⟨0, rfl⟩, trivial⟩, ⟨⟨1, rfl⟩, trivial⟩, trivial⟩ (fun _ _ _ h => h) ?_
        refine VA.cut (i := 8) (listed' := LB 11 511) rfl (m := l0_1.length) 0 0 ((mn (l0_1.length : Int) 98).toNat) lenm cutm Try.underlying23 TI34 rfl rfl ⟨rfl, ⟨_, _, rfl, c13, rfl⟩, by omega, by omega⟩ (ltn rfl) rfl (by kernel_rfl) (by kernel_rfl) (by kernel_rfl) (by kernel_rfl) ⟨⟨⟨0, rfl⟩, trivial⟩, ⟨⟨1, rfl⟩, trivial⟩, trivial⟩ (fun _ _ _ _ h => h) ?_
        intro v16
        refine VA.more ⟨0, [], [.row v0_1 4 (l0_1.map enc33), .row v16 4 (((l0_1.take ((mn (l0_1.length : Int) 98).toNat)).drop 0).map enc33)], [(g11, 25, [.int .i64 a0_0, v0_1])], []⟩ ⟨⟨⟨0, rfl⟩, trivial⟩, ⟨⟨0, rfl⟩, trivial⟩, trivial⟩ ?_
        refine VA.va (i := 9) (listed' := LB 11 1023) rfl (op_build (vals := [(0, .int .i64 a0_0), (1, v16)]) (vcs := [(0, [.int .i64 a0_0]), (1, [v16])]) (cells := [.int .i64 a0_0, v16]) SI25 rfl (.cons ⟨rfl, (.c rfl)⟩ (.cons ⟨rfl, (.f 1 rfl)⟩ .nil)) (by kernel_rfl) (ltn rfl)) rfl (by kernel_rfl) (by kernel_rfl) (by kernel_rfl) (by kernel_rfl) ⟨⟨⟨1, rfl⟩, ⟨0, rfl⟩, trivial⟩, ⟨⟨1, rfl⟩, trivial⟩, trivial⟩ (fun _ _ _ h => h) ?_
        refine VA.one1 (i := 10) (listed' := LB 11 2047) (by kernel_rfl) rfl (o_store 0 2 rfl rfl rfl TI25 (.agg (.c rfl (.f 0 rfl .nil))) rfl (len rfl)) rfl (by kernel_rfl) ⟨⟨⟨1, rfl⟩, ⟨0, rfl⟩, trivial⟩, ⟨⟨1, rfl⟩, trivial⟩, trivial⟩ ?_
        refine VA.done (by kernel_rfl) ?_
        exact VN.meet1 v16 [0] [] trivial ⟨rfl, ⟨rfl, trivial⟩, ⟨⟨0, rfl⟩, trivial⟩, rfl, by decide, rfl, by decide⟩
      intro v16 _
      refine VC.ret ?_
      simp only [Option.some.injEq, Prod.mk.injEq] at h
      obtain ⟨rfl, rfl⟩ := h
      exact VR.fn (rs := [.cell 2 25]) [.row v16 4 (((l0_1.take ((mn (l0_1.length : Int) 98).toNat)).drop 0).map enc33)] [] [] rfl (.cell 0 rfl rfl TI25 (fun h => absurd h (by decide)) .nil) ⟨v16, rfl, rfl, rfl⟩ ⟨⟨0, rfl⟩, trivial⟩ rfl (by decide)
    · rw [if_neg c14] at h; cases h
  · rw [if_neg c13] at h; cases h
set_option maxHeartbeats 4000000 in
set_option maxRecDepth 100000 in
theorem outbox_number.ok (a0 : Int)  (r1 : Bool) (h : outbox_number.f a0 = some r1) :
    VCalls Try.prog 22 [.int .i64 a0] [] (fun v G own => v = .bool r1 ∧ G = [] ∧ own = []) := by
  refine VCalls.intro Try.func22 rfl (len rfl) fun E hC hW hD => ?_
  unfold outbox_number.f at h
  refine VC.seq ?_
  refine VC.region ?_
  refine VL.va (op_assign rfl (ltn rfl)) rfl ?_
  refine VL.done ?_
  refine VN.then ?_
  refine VC.seq ?_
  refine VC.region ?_
  refine VL.va (op_move rfl (ltn rfl)) rfl ?_
  refine VL.letter (decide (a0 ≥ 1)) fun b37 hb37 => ?_
  refine VL.va (op_cmp rfl rfl (congrArg some hb37) (ltn rfl)) rfl ?_
  refine VL.va (op_move rfl (ltn rfl)) rfl ?_
  by_cases c38 : a0 ≥ 1
  · rw [if_pos c38] at h
    obtain rfl : b37 = true := hb37.symm.trans (decide_eq_true c38)
    refine VL.va (op_move rfl (ltn rfl)) rfl ?_
    refine VL.letter (decide (a0 ≤ 1099511627776)) fun b39 hb39 => ?_
    refine VL.va (op_cmp rfl rfl (congrArg some hb39) (ltn rfl)) rfl ?_
    refine VL.va (op_pick rfl rfl (ltn rfl)) rfl ?_
    refine VL.va (op_assign rfl (ltn rfl)) rfl ?_
    refine VL.done ?_
    refine VN.then ?_
    refine VC.ret ?_
    obtain rfl := Option.some.inj h
    subst hb39
    exact VR.fn (rs := [.tmp 2]) [] [] [] rfl (.tmp rfl .nil) ⟨rfl, rfl, rfl⟩ trivial rfl (by decide)
  · rw [if_neg c38] at h
    obtain rfl : b37 = false := hb37.symm.trans (decide_eq_false c38)
    refine VL.un rfl rfl (ltn rfl) ?_
    refine VL.un rfl rfl (ltn rfl) ?_
    refine VL.va (op_pick rfl rfl (ltn rfl)) rfl ?_
    refine VL.va (op_assign rfl (ltn rfl)) rfl ?_
    refine VL.done ?_
    refine VN.then ?_
    refine VC.ret ?_
    obtain rfl := Option.some.inj h
    exact VR.fn (rs := [.tmp 2]) [] [] [] rfl (.tmp rfl .nil) ⟨rfl, rfl, rfl⟩ trivial rfl (by decide)
set_option maxHeartbeats 4000000 in
set_option maxRecDepth 100000 in
theorem outbox_kinds.ok (a0 : Int)  (r1 : Bool) (h : outbox_kinds.f a0 = some r1) :
    VCalls Try.prog 21 [.int .i64 a0] [] (fun v G own => v = .bool r1 ∧ G = [] ∧ own = []) := by
  refine VCalls.intro Try.func21 rfl (len rfl) fun E hC hW hD => ?_
  unfold outbox_kinds.f at h
  refine VC.seq ?_
  refine VC.region ?_
  refine VL.va (op_assign rfl (ltn rfl)) rfl ?_
  refine VL.done ?_
  refine VN.then ?_
  refine VC.seq ?_
  refine VC.region ?_
  refine VL.va (op_move rfl (ltn rfl)) rfl ?_
  refine VL.letter (decide (a0 ≥ 1)) fun b49 hb49 => ?_
  refine VL.va (op_cmp rfl rfl (congrArg some hb49) (ltn rfl)) rfl ?_
  refine VL.va (op_move rfl (ltn rfl)) rfl ?_
  by_cases c50 : a0 ≥ 1
  · rw [if_pos c50] at h
    obtain rfl : b49 = true := hb49.symm.trans (decide_eq_true c50)
    refine VL.va (op_move rfl (ltn rfl)) rfl ?_
    refine VL.letter (decide (a0 ≤ 3)) fun b51 hb51 => ?_
    refine VL.va (op_cmp rfl rfl (congrArg some hb51) (ltn rfl)) rfl ?_
    refine VL.va (op_pick rfl rfl (ltn rfl)) rfl ?_
    refine VL.va (op_assign rfl (ltn rfl)) rfl ?_
    refine VL.done ?_
    refine VN.then ?_
    refine VC.ret ?_
    obtain rfl := Option.some.inj h
    subst hb51
    exact VR.fn (rs := [.tmp 2]) [] [] [] rfl (.tmp rfl .nil) ⟨rfl, rfl, rfl⟩ trivial rfl (by decide)
  · rw [if_neg c50] at h
    obtain rfl : b49 = false := hb49.symm.trans (decide_eq_false c50)
    refine VL.un rfl rfl (ltn rfl) ?_
    refine VL.un rfl rfl (ltn rfl) ?_
    refine VL.va (op_pick rfl rfl (ltn rfl)) rfl ?_
    refine VL.va (op_assign rfl (ltn rfl)) rfl ?_
    refine VL.done ?_
    refine VN.then ?_
    refine VC.ret ?_
    obtain rfl := Option.some.inj h
    exact VR.fn (rs := [.tmp 2]) [] [] [] rfl (.tmp rfl .nil) ⟨rfl, rfl, rfl⟩ trivial rfl (by decide)
set_option maxHeartbeats 4000000 in
set_option maxRecDepth 100000 in
theorem outbox_time.ok (a0 : Int)  (r1 : Bool) (h : outbox_time.f a0 = some r1) :
    VCalls Try.prog 23 [.int .i64 a0] [] (fun v G own => v = .bool r1 ∧ G = [] ∧ own = []) := by
  refine VCalls.intro Try.func23 rfl (len rfl) fun E hC hW hD => ?_
  unfold outbox_time.f at h
  refine VC.seq ?_
  refine VC.region ?_
  refine VL.va (op_assign rfl (ltn rfl)) rfl ?_
  refine VL.done ?_
  refine VN.then ?_
  refine VC.seq ?_
  refine VC.region ?_
  refine VL.va (op_move rfl (ltn rfl)) rfl ?_
  refine VL.letter ((a0 == 0)) fun b59 hb59 => ?_
  refine VL.va (op_cmp rfl rfl (congrArg some hb59) (ltn rfl)) rfl ?_
  refine VL.va (op_move rfl (ltn rfl)) rfl ?_
  by_cases c60 : a0 = 0
  · rw [if_pos c60] at h
    obtain rfl : b59 = true := hb59.symm.trans (beq_iff_eq.2 c60)
    refine VL.un rfl rfl (ltn rfl) ?_
    refine VL.un rfl rfl (ltn rfl) ?_
    refine VL.va (op_pick rfl rfl (ltn rfl)) rfl ?_
    refine VL.va (op_assign rfl (ltn rfl)) rfl ?_
    refine VL.done ?_
    refine VN.then ?_
    refine VC.ret ?_
    obtain rfl := Option.some.inj h
    exact VR.fn (rs := [.tmp 2]) [] [] [] rfl (.tmp rfl .nil) ⟨rfl, rfl, rfl⟩ trivial rfl (by decide)
  · rw [if_neg c60] at h
    obtain rfl : b59 = false := hb59.symm.trans (beq_eq_false_iff_ne.2 c60)
    refine VL.va (op_move rfl (ltn rfl)) rfl ?_
    replace h := Option.bind_eq_some_iff.1 h
    obtain ⟨t61, hA62, h⟩ := h
    refine VL.sC (o_call0 FO22 (outbox_number.ok a0 t61 hA62) rfl rfl (ltn rfl) (All_of .nil)) rfl ?_
    rintro _ _ _ ⟨rfl, rfl, rfl⟩
    refine VL.va (op_pick rfl rfl (ltn rfl)) rfl ?_
    refine VL.va (op_assign rfl (ltn rfl)) rfl ?_
    refine VL.done ?_
    refine VN.then ?_
    refine VC.ret ?_
    obtain rfl := Option.some.inj h
    exact VR.fn (rs := [.tmp 2]) [] [] [] rfl (.tmp rfl .nil) ⟨rfl, rfl, rfl⟩ trivial rfl (by decide)
set_option maxHeartbeats 4000000 in
set_option maxRecDepth 100000 in
theorem outbox_of.ok (a0 : Int) (a1 : Int)  (r1 : Int) (r2 : Int) (h : outbox_of.f a0 a1 = some (r1, r2)) :
    VCalls Try.prog 25 [.int .i64 a0, .int .i64 a1] [] (fun v G own => ∃ p0 p1 : Nat, v = .func (.func 33) #[] #[.pointer (some ⟨p0, 0, none⟩), .pointer (some ⟨p1, 0, none⟩)] ∧ G = [.at_ ⟨p0, 0, none⟩ [.int .i64 r1], .at_ ⟨p1, 0, none⟩ [.int .i64 r2]] ∧ own = []) := by
  refine VCalls.intro Try.func25 rfl (len rfl) fun E hC hW hD => ?_
  unfold outbox_of.f at h
  refine VC.seq ?_
  refine VC.region ?_
  refine VL.sG (o_box rfl (.c rfl) (ltn rfl)) rfl ?_
  intro g81
  refine VL.sG (o_box rfl (.c rfl) (ltn rfl)) rfl ?_
  intro g82
  refine VL.va (op_assign rfl (ltn rfl)) rfl ?_
  refine VL.done ?_
  refine VN.then ?_
  refine VC.seq ?_
  refine VC.region ?_
  refine VL.va (op_makeFunc (vals := [.pointer (some ⟨g81, 0, none⟩), .pointer (some ⟨g82, 0, none⟩)]) rfl (ltn rfl)) rfl ?_
  refine VL.va (op_assign rfl (ltn rfl)) rfl ?_
  refine VL.done ?_
  refine VN.then ?_
  refine VC.ret ?_
  simp only [Option.some.injEq, Prod.mk.injEq] at h
  obtain ⟨rfl, rfl⟩ := h
  refine VR.freeze' 1 rfl ?_
  refine VR.freeze' 0 rfl ?_
  exact VR.fn (rs := [.tmp 4]) [.at_ ⟨g81, 0, none⟩ [.int .i64 a0], .at_ ⟨g82, 0, none⟩ [.int .i64 a1]] [] [] rfl (.tmp rfl .nil) ⟨g81, g82, rfl, rfl, rfl⟩ ⟨⟨1, rfl⟩, ⟨0, rfl⟩, trivial⟩ rfl (by decide)
set_option maxHeartbeats 4000000 in
set_option maxRecDepth 100000 in
theorem outbox_of_1.ok (a0_0 : Int) (a0_1 : Int) (a0_2 : Int) (a0_3 : Int) (a1_0 : Int) (a2_0 : Int) (p1 : Nat) (p2 : Nat) (r1 : Bool) (h : outbox_of_1.f a0_0 a0_1 a0_2 a0_3 a1_0 a2_0 = some r1) :
    VCalls Try.prog 33 [.agg #[.int .i64 a0_0, .int .i64 a0_1, .int .i64 a0_2, .int .i64 a0_3], .pointer (some ⟨p1, 0, none⟩), .pointer (some ⟨p2, 0, none⟩)] [.at_ ⟨p1, 0, none⟩ [.int .i64 a1_0], .at_ ⟨p2, 0, none⟩ [.int .i64 a2_0]] (fun v G own => v = .bool r1 ∧ G = [] ∧ own = []) := by
  refine VCalls.intro Try.func33 rfl (len rfl) fun E hC hW hD => ?_
  unfold outbox_of_1.f at h
  refine VC.seq ?_
  refine VC.region ?_
  refine VL.sG (o_box rfl (.agg (.of rfl)) (ltn rfl)) rfl ?_
  intro g96
  refine VL.va (op_assign rfl (ltn rfl)) rfl ?_
  refine VL.done ?_
  refine VN.then ?_
  refine VC.seq ?_
  refine VC.region ?_
  refine VL.va (op_fieldAddr FI34_1 rfl (add_at _ _ _) (ltn rfl)) rfl ?_
  refine VL.va (op_load 0 1 rfl rfl TI3 rfl (by decide) (ltn rfl)) rfl ?_
  refine VL.va (op_load_at (ad := ⟨p1, 0, none⟩) 0 0 1 (by first | rfl | exact congrArg (fun a => some (Value.pointer (some a))) (add_at _ 0 _).symm) rfl TI3 rfl (by decide) (ltn rfl)) rfl ?_
  refine VL.letter ((a0_1 == a1_0)) fun b100 hb100 => ?_
  refine VL.va (op_cmp rfl rfl (congrArg some hb100) (ltn rfl)) rfl ?_
  refine VL.va (op_move rfl (ltn rfl)) rfl ?_
  by_cases c101 : a0_1 = a1_0
  · rw [if_pos c101] at h
    obtain rfl : b100 = true := hb100.symm.trans (beq_iff_eq.2 c101)
    refine VL.va (op_fieldAddr FI34_2 rfl (add_at _ _ _) (ltn rfl)) rfl ?_
    refine VL.va (op_load 0 1 rfl rfl TI3 rfl (by decide) (ltn rfl)) rfl ?_
    refine VL.va (op_load_at (ad := ⟨p2, 0, none⟩) 1 0 1 (by first | rfl | exact congrArg (fun a => some (Value.pointer (some a))) (add_at _ 0 _).symm) rfl TI3 rfl (by decide) (ltn rfl)) rfl ?_
    refine VL.letter ((a0_2 == a2_0)) fun b102 hb102 => ?_
    refine VL.va (op_cmp rfl rfl (congrArg some hb102) (ltn rfl)) rfl ?_
    refine VL.va (op_pick rfl rfl (ltn rfl)) rfl ?_
    refine VL.va (op_assign rfl (ltn rfl)) rfl ?_
    refine VL.done ?_
    refine VN.then ?_
    refine VC.ret ?_
    obtain rfl := Option.some.inj h
    subst hb102
    exact VR.fn (rs := [.tmp 4]) [] [] [] rfl (.tmp rfl .nil) ⟨rfl, rfl, rfl⟩ trivial rfl (by decide)
  · rw [if_neg c101] at h
    obtain rfl : b100 = false := hb100.symm.trans (beq_eq_false_iff_ne.2 c101)
    refine VL.un rfl rfl (ltn rfl) ?_
    refine VL.un rfl rfl (ltn rfl) ?_
    refine VL.un rfl rfl (ltn rfl) ?_
    refine VL.un rfl rfl (ltn rfl) ?_
    refine VL.va (op_pick rfl rfl (ltn rfl)) rfl ?_
    refine VL.va (op_assign rfl (ltn rfl)) rfl ?_
    refine VL.done ?_
    refine VN.then ?_
    refine VC.ret ?_
    obtain rfl := Option.some.inj h
    exact VR.fn (rs := [.tmp 4]) [] [] [] rfl (.tmp rfl .nil) ⟨rfl, rfl, rfl⟩ trivial rfl (by decide)
set_option maxHeartbeats 4000000 in
set_option maxRecDepth 100000 in
theorem slices_IndexFunc_api_Out_api_Out.ok (k : Nat) (l0 : List S33) (a1_0_0 : Int) (a1_1_0 : Int) (v0 : Value) (p1_0 : Nat) (p1_1 : Nat) (r1 : Int) (h : slices_IndexFunc_api_Out_api_Out.f k l0 a1_0_0 a1_1_0 = some r1) :
    VCalls Try.prog 32 [v0, (.func (.func 33) #[] #[.pointer (some ⟨p1_0, 0, none⟩), .pointer (some ⟨p1_1, 0, none⟩)])] [.row v0 4 (l0.map enc33), .at_ ⟨p1_0, 0, none⟩ [.int .i64 a1_0_0], .at_ ⟨p1_1, 0, none⟩ [.int .i64 a1_1_0]] (fun v G own => v = .int .i64 r1 ∧ G = [] ∧ own = []) := by
  refine VCalls.intro Try.func32 rfl (len rfl) fun E hC hW hD => ?_
  unfold slices_IndexFunc_api_Out_api_Out.f at h
  refine VC.seq ?_
  refine VC.region ?_
  refine VL.va (op_assign rfl (ltn rfl)) rfl ?_
  refine VL.done ?_
  refine VN.then ?_
  refine VC.seq ?_
  refine VC.seq ?_
  refine VC.region ?_
  refine VL.va (op_move rfl (ltn rfl)) rfl ?_
  refine VL.va (op_len (m := l0.length) 0 lenm Try.underlying23 rfl rfl (ltn rfl)) rfl ?_
  refine VL.va (op_move rfl (ltn rfl)) rfl ?_
  refine VL.done ?_
  refine VN.then ?_
  refine VC.block ?_
  refine VC.loop1 (fun (i162 : Int) => ⟨19, [(0, v0), (1, (.func (.func 33) #[] #[.pointer (some ⟨p1_0, 0, none⟩), .pointer (some ⟨p1_1, 0, none⟩)])), (4, .int .i64 0), (7, .int .i64 (l0.length : Int)), (8, .int .i64 i162)], [.at_ ⟨p1_0, 0, none⟩ [.int .i64 a1_0_0], .at_ ⟨p1_1, 0, none⟩ [.int .i64 a1_1_0], .row v0 4 (l0.map enc33)], [], []⟩) (fun (ml1 : Nat) (i162 : Int) => slices_IndexFunc_api_Out_api_Out.l1 k a1_0_0 a1_1_0 l0 ml1 i162 = some r1) k 0 [] [] h ⟨rfl, ⟨rfl, rfl, rfl, rfl, rfl, trivial⟩, ⟨⟨1, rfl⟩, ⟨2, rfl⟩, ⟨0, rfl⟩, trivial⟩, rfl, by decide, rfl, by decide⟩ (by intros; simp [slices_IndexFunc_api_Out_api_Out.l1]) ?_
  clear h
  intro ml1 ihl1 i162 h
  simp only [slices_IndexFunc_api_Out_api_Out.l1] at h
  refine VC.seq ?_
  refine VC.region ?_
  refine VL.letter (decide (i162 < (l0.length : Int))) fun b180 hb180 => ?_
  refine VL.va (op_cmp rfl rfl (congrArg some hb180) (ltn rfl)) rfl ?_
  refine VL.done ?_
  refine VN.then ?_
  refine VC.seq ?_
  by_cases c182 : i162 < (l0.length : Int)
  · rw [if_pos c182] at h
    obtain rfl : b180 = true := hb180.symm.trans (decide_eq_true c182)
    refine VC.cond_t rfl ?_
    refine VC.skip ?_
    refine VN.then ?_
    refine VC.seq ?_
    refine VC.block ?_
    refine VC.seq ?_
    refine VC.region ?_
    refine VL.va (op_move rfl (ltn rfl)) rfl ?_
    refine VL.va (op_assign rfl (ltn rfl)) rfl ?_
    refine VL.done ?_
    refine VN.then ?_
    refine VC.seq ?_
    refine VC.region ?_
    refine VL.va (op_move rfl (ltn rfl)) rfl ?_
    refine VL.va (op_move rfl (ltn rfl)) rfl ?_
    refine VL.va (op_move rfl (ltn rfl)) rfl ?_
    by_cases c190 : 0 ≤ i162
    · rw [if_pos c190] at h
      replace h := Option.bind_eq_some_iff.1 h
      obtain ⟨x191, hx191, h⟩ := h
      refine VL.open (m := l0.length) 2 lenm rfl (pos_get hx191) ?_
      rintro ad192 n193 rfl
      refine VL.va (op_indexAddr Try.underlying23 TI34 rfl rfl c190 (lt_get c190 hx191) rfl (ltn rfl)) rfl ?_
      refine VL.va (op_load_row (sz := 4) (o := 0) 2 i162.toNat 4 rfl rfl (get_map hx191) TI34 rfl (fun h => absurd h (by decide)) (ltn rfl)) rfl ?_
      replace h := Option.bind_eq_some_iff.1 h
      obtain ⟨t194, hA195, h⟩ := h
      refine VL.sC (o_call (vals := [.agg #[.int .i64 x191.f0, .int .i64 x191.f1, .int .i64 x191.f2, .int .i64 x191.f3]]) (caps := [.pointer (some ⟨p1_0, 0, none⟩), .pointer (some ⟨p1_1, 0, none⟩)]) FO33 (outbox_of_1.ok x191.f0 x191.f1 x191.f2 x191.f3 a1_0_0 a1_1_0 p1_0 p1_1 t194 hA195) rfl rfl (ltn rfl) (All_of (.cons (List.mem_of_getElem? (i := 0) rfl) (.cons (List.mem_of_getElem? (i := 1) rfl) .nil)))) rfl ?_
      rintro _ _ _ ⟨rfl, rfl, rfl⟩
      refine VL.done ?_
      refine VN.then ?_
      by_cases c196 : t194 = true
      · rw [if_pos c196] at h
        obtain rfl := c196
        refine VC.cond_t rfl ?_
        refine VC.seq ?_
        refine VC.region ?_
        refine VL.va (op_move rfl (ltn rfl)) rfl ?_
        refine VL.va (op_assign rfl (ltn rfl)) rfl ?_
        refine VL.done ?_
        refine VN.then ?_
        refine VC.ret ?_
        refine VR.block ?_
        refine VR.then ?_
        refine VR.then ?_
        refine VR.block ?_
        refine VR.then ?_
        obtain rfl := Option.some.inj h
        exact VR.fn (rs := [.tmp 4]) [] [] [] rfl (.tmp rfl .nil) ⟨rfl, rfl, rfl⟩ trivial rfl (by decide)
      · rw [if_neg c196] at h
        obtain rfl := Bool.eq_false_iff.2 c196
        refine VC.cond_f rfl ?_
        refine VC.skip ?_
        refine VN.block ?_
        refine VN.then ?_
        refine VC.region ?_
        refine VL.va (op_ari64 rfl rfl rfl (ltn rfl)) rfl ?_
        refine VL.va (op_move rfl (ltn rfl)) rfl ?_
        refine VL.done ?_
        refine VN.again [] [] (ihl1 (wrap64 (i162 + 1)) h) ⟨rfl, ⟨rfl, rfl, rfl, rfl, rfl, trivial⟩, ⟨⟨0, rfl⟩, ⟨1, rfl⟩, ⟨2, rfl⟩, trivial⟩, rfl, by decide, rfl, by decide⟩
    · rw [if_neg c190] at h; cases h
  · rw [if_neg c182] at h
    obtain rfl : b180 = false := hb180.symm.trans (decide_eq_false c182)
    refine VC.cond_f rfl ?_
    refine VC.exit ?_
    refine VX.then ?_
    refine VX.then ?_
    refine VX.hit ?_
    refine VN.then ?_
    refine VC.seq ?_
    refine VC.region ?_
    refine VL.va (op_assign rfl (ltn rfl)) rfl ?_
    refine VL.done ?_
    refine VN.then ?_
    refine VC.ret ?_
    obtain rfl := Option.some.inj h
    exact VR.fn (rs := [.tmp 4]) [] [] [] rfl (.tmp rfl .nil) ⟨rfl, rfl, rfl⟩ trivial rfl (by decide)
set_option maxHeartbeats 4000000 in
set_option maxRecDepth 100000 in
theorem outbox_where_Out.ok (k : Nat) (l0 : List S33) (a1_0_0 : Int) (a1_1_0 : Int) (v0 : Value) (p1_0 : Nat) (p1_1 : Nat) (r1 : Int) (h : outbox_where_Out.f k l0 a1_0_0 a1_1_0 = some r1) :
    VCalls Try.prog 24 [v0, (.func (.func 33) #[] #[.pointer (some ⟨p1_0, 0, none⟩), .pointer (some ⟨p1_1, 0, none⟩)])] [.row v0 4 (l0.map enc33), .at_ ⟨p1_0, 0, none⟩ [.int .i64 a1_0_0], .at_ ⟨p1_1, 0, none⟩ [.int .i64 a1_1_0]] (fun v G own => v = .int .i64 r1 ∧ G = [] ∧ own = []) := by
  refine VCalls.intro Try.func24 rfl (len rfl) fun E hC hW hD => ?_
  unfold outbox_where_Out.f at h
  refine VC.seq ?_
  refine VC.region ?_
  refine VL.va (op_assign rfl (ltn rfl)) rfl ?_
  refine VL.done ?_
  refine VN.then ?_
  refine VC.seq ?_
  refine VC.region ?_
  refine VL.va (op_move rfl (ltn rfl)) rfl ?_
  refine VL.va (op_move rfl (ltn rfl)) rfl ?_
  replace h := Option.bind_eq_some_iff.1 h
  obtain ⟨t197, hA198, h⟩ := h
  refine VL.sC (o_call0 FO32 (slices_IndexFunc_api_Out_api_Out.ok k l0 a1_0_0 a1_1_0 v0 p1_0 p1_1 t197 hA198) rfl rfl (ltn rfl) (All_of (.cons (List.mem_of_getElem? (i := 0) rfl) (.cons (List.mem_of_getElem? (i := 1) rfl) (.cons (List.mem_of_getElem? (i := 2) rfl) .nil))))) rfl ?_
  rintro _ _ _ ⟨rfl, rfl, rfl⟩
  refine VL.va (op_assign rfl (ltn rfl)) rfl ?_
  refine VL.done ?_
  refine VN.then ?_
  refine VC.ret ?_
  obtain rfl := Option.some.inj h
  exact VR.fn (rs := [.tmp 4]) [] [] [] rfl (.tmp rfl .nil) ⟨rfl, rfl, rfl⟩ trivial rfl (by decide)

end Go.Proofs.Ytapdeoioenblfaa.POutboxGoes
