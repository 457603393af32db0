/- Written by a program of this repo: what the program's functions do, each as a Lean function, shown of the loaded code; or a statement's row over that; no condition of its own. -/
import Derived.Test.YtapdeoioenblfaaPOutboxTellsx0
namespace Go.Proofs.Ytapdeoioenblfaa.POutboxTells
open Go Go.RowKit Go.Proofs.YtapdeoioenblfaaV
set_option linter.unusedVariables false
set_option linter.unusedSimpArgs false

set_option maxHeartbeats 4000000 in
set_option maxRecDepth 100000 in
theorem outbox_number.ok (a0 : Int)  (r1 : Bool) (h : outbox_number.f a0 = some r1) :
    VCalls Try.prog 22 [.int .i64 a0] [] (fun v G own => v = .bool r1 ∧ G = [] ∧ own = []) := by
  refine VCalls.intro Try.func22 rfl (len rfl) fun E hC hW hD hU => ?_
  unfold outbox_number.f at h
  refine VC.seq ?_
  refine VC.region ?_
  refine VL.va (op_assign rfl (ltn rfl)) rfl ?_
  refine VL.done ?_
  refine VN.then ?_
  refine VC.seq ?_
  refine VC.region ?_
  refine VL.va (op_move rfl (ltn rfl)) rfl ?_
  refine VL.letter (decide (a0 ≥ 1)) fun b29 hb29 => ?_
  refine VL.va (op_cmp rfl rfl (congrArg some hb29) (ltn rfl)) rfl ?_
  refine VL.va (op_move rfl (ltn rfl)) rfl ?_
  by_cases c30 : a0 ≥ 1
  · rw [if_pos c30] at h
    obtain rfl : b29 = true := hb29.symm.trans (decide_eq_true c30)
    refine VL.va (op_move rfl (ltn rfl)) rfl ?_
    refine VL.letter (decide (a0 ≤ 1099511627776)) fun b31 hb31 => ?_
    refine VL.va (op_cmp rfl rfl (congrArg some hb31) (ltn rfl)) rfl ?_
    refine VL.va (op_pick rfl rfl (ltn rfl)) rfl ?_
    refine VL.va (op_assign rfl (ltn rfl)) rfl ?_
    refine VL.done ?_
    refine VN.then ?_
    refine VC.ret ?_
    obtain rfl := Option.some.inj h
    subst hb31
    exact VR.fn (rs := [.tmp 2]) [] [] [] rfl (.tmp rfl .nil) ⟨rfl, rfl, rfl⟩ trivial rfl (by decide)
  · rw [if_neg c30] at h
    obtain rfl : b29 = false := hb29.symm.trans (decide_eq_false c30)
    refine VL.un rfl rfl (ltn rfl) ?_
    refine VL.un rfl rfl (ltn rfl) ?_
    refine VL.va (op_pick rfl rfl (ltn rfl)) rfl ?_
    refine VL.va (op_assign rfl (ltn rfl)) rfl ?_
    refine VL.done ?_
    refine VN.then ?_
    refine VC.ret ?_
    obtain rfl := Option.some.inj h
    exact VR.fn (rs := [.tmp 2]) [] [] [] rfl (.tmp rfl .nil) ⟨rfl, rfl, rfl⟩ trivial rfl (by decide)
set_option maxHeartbeats 4000000 in
set_option maxRecDepth 100000 in
theorem outbox_kinds.ok (a0 : Int)  (r1 : Bool) (h : outbox_kinds.f a0 = some r1) :
    VCalls Try.prog 21 [.int .i64 a0] [] (fun v G own => v = .bool r1 ∧ G = [] ∧ own = []) := by
  refine VCalls.intro Try.func21 rfl (len rfl) fun E hC hW hD hU => ?_
  unfold outbox_kinds.f at h
  refine VC.seq ?_
  refine VC.region ?_
  refine VL.va (op_assign rfl (ltn rfl)) rfl ?_
  refine VL.done ?_
  refine VN.then ?_
  refine VC.seq ?_
  refine VC.region ?_
  refine VL.va (op_move rfl (ltn rfl)) rfl ?_
  refine VL.letter (decide (a0 ≥ 1)) fun b41 hb41 => ?_
  refine VL.va (op_cmp rfl rfl (congrArg some hb41) (ltn rfl)) rfl ?_
  refine VL.va (op_move rfl (ltn rfl)) rfl ?_
  by_cases c42 : a0 ≥ 1
  · rw [if_pos c42] at h
    obtain rfl : b41 = true := hb41.symm.trans (decide_eq_true c42)
    refine VL.va (op_move rfl (ltn rfl)) rfl ?_
    refine VL.letter (decide (a0 ≤ 3)) fun b43 hb43 => ?_
    refine VL.va (op_cmp rfl rfl (congrArg some hb43) (ltn rfl)) rfl ?_
    refine VL.va (op_pick rfl rfl (ltn rfl)) rfl ?_
    refine VL.va (op_assign rfl (ltn rfl)) rfl ?_
    refine VL.done ?_
    refine VN.then ?_
    refine VC.ret ?_
    obtain rfl := Option.some.inj h
    subst hb43
    exact VR.fn (rs := [.tmp 2]) [] [] [] rfl (.tmp rfl .nil) ⟨rfl, rfl, rfl⟩ trivial rfl (by decide)
  · rw [if_neg c42] at h
    obtain rfl : b41 = false := hb41.symm.trans (decide_eq_false c42)
    refine VL.un rfl rfl (ltn rfl) ?_
    refine VL.un rfl rfl (ltn rfl) ?_
    refine VL.va (op_pick rfl rfl (ltn rfl)) rfl ?_
    refine VL.va (op_assign rfl (ltn rfl)) rfl ?_
    refine VL.done ?_
    refine VN.then ?_
    refine VC.ret ?_
    obtain rfl := Option.some.inj h
    exact VR.fn (rs := [.tmp 2]) [] [] [] rfl (.tmp rfl .nil) ⟨rfl, rfl, rfl⟩ trivial rfl (by decide)
set_option maxHeartbeats 4000000 in
set_option maxRecDepth 100000 in
theorem outbox_time.ok (a0 : Int)  (r1 : Bool) (h : outbox_time.f a0 = some r1) :
    VCalls Try.prog 23 [.int .i64 a0] [] (fun v G own => v = .bool r1 ∧ G = [] ∧ own = []) := by
  refine VCalls.intro Try.func23 rfl (len rfl) fun E hC hW hD hU => ?_
  unfold outbox_time.f at h
  refine VC.seq ?_
  refine VC.region ?_
  refine VL.va (op_assign rfl (ltn rfl)) rfl ?_
  refine VL.done ?_
  refine VN.then ?_
  refine VC.seq ?_
  refine VC.region ?_
  refine VL.va (op_move rfl (ltn rfl)) rfl ?_
  refine VL.letter ((a0 == 0)) fun b51 hb51 => ?_
  refine VL.va (op_cmp rfl rfl (congrArg some hb51) (ltn rfl)) rfl ?_
  refine VL.va (op_move rfl (ltn rfl)) rfl ?_
  by_cases c52 : a0 = 0
  · rw [if_pos c52] at h
    obtain rfl : b51 = true := hb51.symm.trans (beq_iff_eq.2 c52)
    refine VL.un rfl rfl (ltn rfl) ?_
    refine VL.un rfl rfl (ltn rfl) ?_
    refine VL.va (op_pick rfl rfl (ltn rfl)) rfl ?_
    refine VL.va (op_assign rfl (ltn rfl)) rfl ?_
    refine VL.done ?_
    refine VN.then ?_
    refine VC.ret ?_
    obtain rfl := Option.some.inj h
    exact VR.fn (rs := [.tmp 2]) [] [] [] rfl (.tmp rfl .nil) ⟨rfl, rfl, rfl⟩ trivial rfl (by decide)
  · rw [if_neg c52] at h
    obtain rfl : b51 = false := hb51.symm.trans (beq_eq_false_iff_ne.2 c52)
    refine VL.va (op_move rfl (ltn rfl)) rfl ?_
    replace h := Option.bind_eq_some_iff.1 h
    obtain ⟨t53, hA54, h⟩ := h
    refine VL.sC (o_call0 FO22 (outbox_number.ok a0 t53 hA54) rfl rfl (ltn rfl) (All_of .nil)) rfl ?_
    rintro _ _ _ ⟨rfl, rfl, rfl⟩
    refine VL.va (op_pick rfl rfl (ltn rfl)) rfl ?_
    refine VL.va (op_assign rfl (ltn rfl)) rfl ?_
    refine VL.done ?_
    refine VN.then ?_
    refine VC.ret ?_
    obtain rfl := Option.some.inj h
    exact VR.fn (rs := [.tmp 2]) [] [] [] rfl (.tmp rfl .nil) ⟨rfl, rfl, rfl⟩ trivial rfl (by decide)
set_option maxHeartbeats 4000000 in
set_option maxRecDepth 100000 in
theorem outbox_of.ok (a0 : Int) (a1 : Int)  (r1 : Int) (r2 : Int) (h : outbox_of.f a0 a1 = some (r1, r2)) :
    VCalls Try.prog 25 [.int .i64 a0, .int .i64 a1] [] (fun v G own => ∃ p0 p1 : Nat, v = .func (.func 33) #[] #[.pointer (some ⟨p0, 0, none⟩), .pointer (some ⟨p1, 0, none⟩)] ∧ G = [.at_ ⟨p0, 0, none⟩ [.int .i64 r1], .at_ ⟨p1, 0, none⟩ [.int .i64 r2]] ∧ own = []) := by
  refine VCalls.intro Try.func25 rfl (len rfl) fun E hC hW hD hU => ?_
  unfold outbox_of.f at h
  refine VC.seq ?_
  refine VC.region ?_
  refine VL.sG (o_box rfl (.c rfl) (ltn rfl)) rfl ?_
  intro g73
  refine VL.sG (o_box rfl (.c rfl) (ltn rfl)) rfl ?_
  intro g74
  refine VL.va (op_assign rfl (ltn rfl)) rfl ?_
  refine VL.done ?_
  refine VN.then ?_
  refine VC.seq ?_
  refine VC.region ?_
  refine VL.va (op_makeFunc (vals := [.pointer (some ⟨g73, 0, none⟩), .pointer (some ⟨g74, 0, none⟩)]) rfl (ltn rfl)) rfl ?_
  refine VL.va (op_assign rfl (ltn rfl)) rfl ?_
  refine VL.done ?_
  refine VN.then ?_
  refine VC.ret ?_
  simp only [Option.some.injEq, Prod.mk.injEq] at h
  obtain ⟨rfl, rfl⟩ := h
  refine VR.freeze' 1 rfl ?_
  refine VR.freeze' 0 rfl ?_
  exact VR.fn (rs := [.tmp 4]) [.at_ ⟨g73, 0, none⟩ [.int .i64 a0], .at_ ⟨g74, 0, none⟩ [.int .i64 a1]] [] [] rfl (.tmp rfl .nil) ⟨g73, g74, rfl, rfl, rfl⟩ ⟨⟨1, rfl⟩, ⟨0, rfl⟩, trivial⟩ rfl (by decide)
set_option maxHeartbeats 4000000 in
set_option maxRecDepth 100000 in
theorem outbox_of_1.ok (a0_0 : Int) (a0_1 : Int) (a0_2 : Int) (a0_3 : Int) (a1_0 : Int) (a2_0 : Int) (p1 : Nat) (p2 : Nat) (r1 : Bool) (h : outbox_of_1.f a0_0 a0_1 a0_2 a0_3 a1_0 a2_0 = some r1) :
    VCalls Try.prog 33 [.agg #[.int .i64 a0_0, .int .i64 a0_1, .int .i64 a0_2, .int .i64 a0_3], .pointer (some ⟨p1, 0, none⟩), .pointer (some ⟨p2, 0, none⟩)] [.at_ ⟨p1, 0, none⟩ [.int .i64 a1_0], .at_ ⟨p2, 0, none⟩ [.int .i64 a2_0]] (fun v G own => v = .bool r1 ∧ G = [] ∧ own = []) := by
  refine VCalls.intro Try.func33 rfl (len rfl) fun E hC hW hD hU => ?_
  unfold outbox_of_1.f at h
  refine VC.seq ?_
  refine VC.region ?_
  refine VL.sG (o_box rfl (.agg (.of rfl)) (ltn rfl)) rfl ?_
  intro g88
  refine VL.va (op_assign rfl (ltn rfl)) rfl ?_
  refine VL.done ?_
  refine VN.then ?_
  refine VC.seq ?_
  refine VC.region ?_
  refine VL.va (op_fieldAddr FI34_1 rfl (add_at _ _ _) (ltn rfl)) rfl ?_
  refine VL.va (op_load 0 1 rfl rfl TI3 rfl (by decide) (ltn rfl)) rfl ?_
  refine VL.va (op_load_at (ad := ⟨p1, 0, none⟩) 0 0 1 (by first | rfl | exact congrArg (fun a => some (Value.pointer (some a))) (add_at _ 0 _).symm) rfl TI3 rfl (by decide) (ltn rfl)) rfl ?_
  refine VL.letter ((a0_1 == a1_0)) fun b92 hb92 => ?_
  refine VL.va (op_cmp rfl rfl (congrArg some hb92) (ltn rfl)) rfl ?_
  refine VL.va (op_move rfl (ltn rfl)) rfl ?_
  by_cases c93 : a0_1 = a1_0
  · rw [if_pos c93] at h
    obtain rfl : b92 = true := hb92.symm.trans (beq_iff_eq.2 c93)
    refine VL.va (op_fieldAddr FI34_2 rfl (add_at _ _ _) (ltn rfl)) rfl ?_
    refine VL.va (op_load 0 1 rfl rfl TI3 rfl (by decide) (ltn rfl)) rfl ?_
    refine VL.va (op_load_at (ad := ⟨p2, 0, none⟩) 1 0 1 (by first | rfl | exact congrArg (fun a => some (Value.pointer (some a))) (add_at _ 0 _).symm) rfl TI3 rfl (by decide) (ltn rfl)) rfl ?_
    refine VL.letter ((a0_2 == a2_0)) fun b94 hb94 => ?_
    refine VL.va (op_cmp rfl rfl (congrArg some hb94) (ltn rfl)) rfl ?_
    refine VL.va (op_pick rfl rfl (ltn rfl)) rfl ?_
    refine VL.va (op_assign rfl (ltn rfl)) rfl ?_
    refine VL.done ?_
    refine VN.then ?_
    refine VC.ret ?_
    obtain rfl := Option.some.inj h
    subst hb94
    exact VR.fn (rs := [.tmp 4]) [] [] [] rfl (.tmp rfl .nil) ⟨rfl, rfl, rfl⟩ trivial rfl (by decide)
  · rw [if_neg c93] at h
    obtain rfl : b92 = false := hb92.symm.trans (beq_eq_false_iff_ne.2 c93)
    refine VL.un rfl rfl (ltn rfl) ?_
    refine VL.un rfl rfl (ltn rfl) ?_
    refine VL.un rfl rfl (ltn rfl) ?_
    refine VL.un rfl rfl (ltn rfl) ?_
    refine VL.va (op_pick rfl rfl (ltn rfl)) rfl ?_
    refine VL.va (op_assign rfl (ltn rfl)) rfl ?_
    refine VL.done ?_
    refine VN.then ?_
    refine VC.ret ?_
    obtain rfl := Option.some.inj h
    exact VR.fn (rs := [.tmp 4]) [] [] [] rfl (.tmp rfl .nil) ⟨rfl, rfl, rfl⟩ trivial rfl (by decide)
set_option maxHeartbeats 4000000 in
set_option maxRecDepth 100000 in
theorem slices_IndexFunc_api_Out_api_Out.ok (k : Nat) (l0 : List S33) (a1_0_0 : Int) (a1_1_0 : Int) (v0 : Value) (p1_0 : Nat) (p1_1 : Nat) (r1 : Int) (h : slices_IndexFunc_api_Out_api_Out.f k l0 a1_0_0 a1_1_0 = some r1) :
    VCalls Try.prog 32 [v0, (.func (.func 33) #[] #[.pointer (some ⟨p1_0, 0, none⟩), .pointer (some ⟨p1_1, 0, none⟩)])] [.row v0 4 (l0.map enc33), .at_ ⟨p1_0, 0, none⟩ [.int .i64 a1_0_0], .at_ ⟨p1_1, 0, none⟩ [.int .i64 a1_1_0]] (fun v G own => v = .int .i64 r1 ∧ G = [] ∧ own = []) := by
  refine VCalls.intro Try.func32 rfl (len rfl) fun E hC hW hD hU => ?_
  unfold slices_IndexFunc_api_Out_api_Out.f at h
  refine VC.seq ?_
  refine VC.region ?_
  refine VL.va (op_assign rfl (ltn rfl)) rfl ?_
  refine VL.done ?_
  refine VN.then ?_
  refine VC.seq ?_
  refine VC.seq ?_
  refine VC.region ?_
  refine VL.va (op_move rfl (ltn rfl)) rfl ?_
  refine VL.va (op_len (m := l0.length) 0 lenm Try.underlying23 rfl rfl (ltn rfl)) rfl ?_
  refine VL.va (op_move rfl (ltn rfl)) rfl ?_
  refine VL.done ?_
  refine VN.then ?_
  refine VC.block ?_
  refine VC.loop1 (fun (i154 : Int) => ⟨19, [(0, v0), (1, (.func (.func 33) #[] #[.pointer (some ⟨p1_0, 0, none⟩), .pointer (some ⟨p1_1, 0, none⟩)])), (4, .int .i64 0), (7, .int .i64 (l0.length : Int)), (8, .int .i64 i154)], [.at_ ⟨p1_0, 0, none⟩ [.int .i64 a1_0_0], .at_ ⟨p1_1, 0, none⟩ [.int .i64 a1_1_0], .row v0 4 (l0.map enc33)], [], []⟩) (fun (ml1 : Nat) (i154 : Int) => slices_IndexFunc_api_Out_api_Out.l1 k a1_0_0 a1_1_0 l0 ml1 i154 = some r1) k 0 [] [] h ⟨rfl, ⟨rfl, rfl, rfl, rfl, rfl, trivial⟩, ⟨⟨1, rfl⟩, ⟨2, rfl⟩, ⟨0, rfl⟩, trivial⟩, rfl, by decide, rfl, by decide⟩ (by intros; simp [slices_IndexFunc_api_Out_api_Out.l1]) ?_
  clear h
  intro ml1 ihl1 i154 h
  simp only [slices_IndexFunc_api_Out_api_Out.l1] at h
  refine VC.seq ?_
  refine VC.region ?_
  refine VL.letter (decide (i154 < (l0.length : Int))) fun b172 hb172 => ?_
  refine VL.va (op_cmp rfl rfl (congrArg some hb172) (ltn rfl)) rfl ?_
  refine VL.done ?_
  refine VN.then ?_
  refine VC.seq ?_
  by_cases c174 : i154 < (l0.length : Int)
  · rw [if_pos c174] at h
    obtain rfl : b172 = true := hb172.symm.trans (decide_eq_true c174)
    refine VC.cond_t rfl ?_
    refine VC.skip ?_
    refine VN.then ?_
    refine VC.seq ?_
    refine VC.block ?_
    refine VC.seq ?_
    refine VC.region ?_
    refine VL.va (op_move rfl (ltn rfl)) rfl ?_
    refine VL.va (op_assign rfl (ltn rfl)) rfl ?_
    refine VL.done ?_
    refine VN.then ?_
    refine VC.seq ?_
    refine VC.region ?_
    refine VL.va (op_move rfl (ltn rfl)) rfl ?_
    refine VL.va (op_move rfl (ltn rfl)) rfl ?_
    refine VL.va (op_move rfl (ltn rfl)) rfl ?_
    by_cases c182 : 0 ≤ i154
    · rw [if_pos c182] at h
      replace h := Option.bind_eq_some_iff.1 h
      obtain ⟨x183, hx183, h⟩ := h
      refine VL.open (m := l0.length) 2 lenm rfl (pos_get hx183) ?_
      rintro ad184 n185 rfl
      refine VL.va (op_indexAddr Try.underlying23 TI34 rfl rfl c182 (lt_get c182 hx183) rfl (ltn rfl)) rfl ?_
      refine VL.va (op_load_row (sz := 4) (o := 0) 2 i154.toNat 4 rfl rfl (get_map hx183) TI34 rfl (fun h => absurd h (by decide)) (ltn rfl)) rfl ?_
      replace h := Option.bind_eq_some_iff.1 h
      obtain ⟨t186, hA187, h⟩ := h
      refine VL.sC (o_call (vals := [.agg #[.int .i64 x183.f0, .int .i64 x183.f1, .int .i64 x183.f2, .int .i64 x183.f3]]) (caps := [.pointer (some ⟨p1_0, 0, none⟩), .pointer (some ⟨p1_1, 0, none⟩)]) FO33 (outbox_of_1.ok x183.f0 x183.f1 x183.f2 x183.f3 a1_0_0 a1_1_0 p1_0 p1_1 t186 hA187) rfl rfl (ltn rfl) (All_of (.cons (List.mem_of_getElem? (i := 0) rfl) (.cons (List.mem_of_getElem? (i := 1) rfl) .nil)))) rfl ?_
      rintro _ _ _ ⟨rfl, rfl, rfl⟩
      refine VL.done ?_
      refine VN.then ?_
      by_cases c188 : t186 = true
      · rw [if_pos c188] at h
        obtain rfl := c188
        refine VC.cond_t rfl ?_
        refine VC.seq ?_
        refine VC.region ?_
        refine VL.va (op_move rfl (ltn rfl)) rfl ?_
        refine VL.va (op_assign rfl (ltn rfl)) rfl ?_
        refine VL.done ?_
        refine VN.then ?_
        refine VC.ret ?_
        refine VR.block ?_
        refine VR.then ?_
        refine VR.then ?_
        refine VR.block ?_
        refine VR.then ?_
        obtain rfl := Option.some.inj h
        exact VR.fn (rs := [.tmp 4]) [] [] [] rfl (.tmp rfl .nil) ⟨rfl, rfl, rfl⟩ trivial rfl (by decide)
      · rw [if_neg c188] at h
        obtain rfl := Bool.eq_false_iff.2 c188
        refine VC.cond_f rfl ?_
        refine VC.skip ?_
        refine VN.block ?_
        refine VN.then ?_
        refine VC.region ?_
        refine VL.va (op_ari64 rfl rfl rfl (ltn rfl)) rfl ?_
        refine VL.va (op_move rfl (ltn rfl)) rfl ?_
        refine VL.done ?_
        refine VN.again [] [] (ihl1 (wrap64 (i154 + 1)) h) ⟨rfl, ⟨rfl, rfl, rfl, rfl, rfl, trivial⟩, ⟨⟨0, rfl⟩, ⟨1, rfl⟩, ⟨2, rfl⟩, trivial⟩, rfl, by decide, rfl, by decide⟩
    · rw [if_neg c182] at h; cases h
  · rw [if_neg c174] at h
    obtain rfl : b172 = false := hb172.symm.trans (decide_eq_false c174)
    refine VC.cond_f rfl ?_
    refine VC.exit ?_
    refine VX.then ?_
    refine VX.then ?_
    refine VX.hit ?_
    refine VN.then ?_
    refine VC.seq ?_
    refine VC.region ?_
    refine VL.va (op_assign rfl (ltn rfl)) rfl ?_
    refine VL.done ?_
    refine VN.then ?_
    refine VC.ret ?_
    obtain rfl := Option.some.inj h
    exact VR.fn (rs := [.tmp 4]) [] [] [] rfl (.tmp rfl .nil) ⟨rfl, rfl, rfl⟩ trivial rfl (by decide)
set_option maxHeartbeats 4000000 in
set_option maxRecDepth 100000 in
theorem outbox_where_Out.ok (k : Nat) (l0 : List S33) (a1_0_0 : Int) (a1_1_0 : Int) (v0 : Value) (p1_0 : Nat) (p1_1 : Nat) (r1 : Int) (h : outbox_where_Out.f k l0 a1_0_0 a1_1_0 = some r1) :
    VCalls Try.prog 24 [v0, (.func (.func 33) #[] #[.pointer (some ⟨p1_0, 0, none⟩), .pointer (some ⟨p1_1, 0, none⟩)])] [.row v0 4 (l0.map enc33), .at_ ⟨p1_0, 0, none⟩ [.int .i64 a1_0_0], .at_ ⟨p1_1, 0, none⟩ [.int .i64 a1_1_0]] (fun v G own => v = .int .i64 r1 ∧ G = [] ∧ own = []) := by
  refine VCalls.intro Try.func24 rfl (len rfl) fun E hC hW hD hU => ?_
  unfold outbox_where_Out.f at h
  refine VC.seq ?_
  refine VC.region ?_
  refine VL.va (op_assign rfl (ltn rfl)) rfl ?_
  refine VL.done ?_
  refine VN.then ?_
  refine VC.seq ?_
  refine VC.region ?_
  refine VL.va (op_move rfl (ltn rfl)) rfl ?_
  refine VL.va (op_move rfl (ltn rfl)) rfl ?_
  replace h := Option.bind_eq_some_iff.1 h
  obtain ⟨t189, hA190, h⟩ := h
  refine VL.sC (o_call0 FO32 (slices_IndexFunc_api_Out_api_Out.ok k l0 a1_0_0 a1_1_0 v0 p1_0 p1_1 t189 hA190) rfl rfl (ltn rfl) (All_of (.cons (List.mem_of_getElem? (i := 0) rfl) (.cons (List.mem_of_getElem? (i := 1) rfl) (.cons (List.mem_of_getElem? (i := 2) rfl) .nil))))) rfl ?_
  rintro _ _ _ ⟨rfl, rfl, rfl⟩
  refine VL.va (op_assign rfl (ltn rfl)) rfl ?_
  refine VL.done ?_
  refine VN.then ?_
  refine VC.ret ?_
  obtain rfl := Option.some.inj h
  exact VR.fn (rs := [.tmp 4]) [] [] [] rfl (.tmp rfl .nil) ⟨rfl, rfl, rfl⟩ trivial rfl (by decide)

end Go.Proofs.Ytapdeoioenblfaa.POutboxTells
