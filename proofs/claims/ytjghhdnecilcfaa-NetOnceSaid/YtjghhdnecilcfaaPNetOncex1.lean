/- Written by a program of this repo: what the program's functions do, each as a Lean function, shown of the loaded code; or a statement's row over that; no condition of its own. -/
import Derived.Test.YtjghhdnecilcfaaPNetOncex0
namespace Go.Proofs.Ytjghhdnecilcfaa.PNetOnce
open Go Go.RowKit Go.Proofs.YtjghhdnecilcfaaV
set_option linter.unusedVariables false
set_option linter.unusedSimpArgs false

set_option maxHeartbeats 4000000 in
set_option maxRecDepth 100000 in
theorem net_number.ok (a0 : Int)  (r1 : Bool) (h : net_number.f a0 = some r1) :
    VCalls Try.prog 19 [.int .i64 a0] [] (fun v G own => v = .bool r1 ∧ G = [] ∧ own = []) := by
  refine VCalls.intro Try.func19 rfl (len rfl) fun E hC hW hD hU => ?_
  unfold net_number.f at h
  refine VC.seq ?_
  refine VC.region ?_
  refine VL.va (op_assign rfl (ltn rfl)) rfl ?_
  refine VL.done ?_
  refine VN.then ?_
  refine VC.seq ?_
  refine VC.region ?_
  refine VL.va (op_move rfl (ltn rfl)) rfl ?_
  refine VL.letter (decide (a0 ≥ 1)) fun b29 hb29 => ?_
  refine VL.va (op_cmp rfl rfl (congrArg some hb29) (ltn rfl)) rfl ?_
  refine VL.va (op_move rfl (ltn rfl)) rfl ?_
  by_cases c30 : a0 ≥ 1
  · rw [if_pos c30] at h
    obtain rfl : b29 = true := hb29.symm.trans (decide_eq_true c30)
    refine VL.va (op_move rfl (ltn rfl)) rfl ?_
    refine VL.letter (decide (a0 ≤ 1099511627776)) fun b31 hb31 => ?_
    refine VL.va (op_cmp rfl rfl (congrArg some hb31) (ltn rfl)) rfl ?_
    refine VL.va (op_pick rfl rfl (ltn rfl)) rfl ?_
    refine VL.va (op_assign rfl (ltn rfl)) rfl ?_
    refine VL.done ?_
    refine VN.then ?_
    refine VC.ret ?_
    obtain rfl := Option.some.inj h
    subst hb31
    exact VR.fn (rs := [.tmp 2]) [] [] [] rfl (.tmp rfl .nil) ⟨rfl, rfl, rfl⟩ trivial rfl (by decide)
  · rw [if_neg c30] at h
    obtain rfl : b29 = false := hb29.symm.trans (decide_eq_false c30)
    refine VL.un rfl rfl (ltn rfl) ?_
    refine VL.un rfl rfl (ltn rfl) ?_
    refine VL.va (op_pick rfl rfl (ltn rfl)) rfl ?_
    refine VL.va (op_assign rfl (ltn rfl)) rfl ?_
    refine VL.done ?_
    refine VN.then ?_
    refine VC.ret ?_
    obtain rfl := Option.some.inj h
    exact VR.fn (rs := [.tmp 2]) [] [] [] rfl (.tmp rfl .nil) ⟨rfl, rfl, rfl⟩ trivial rfl (by decide)
set_option maxHeartbeats 4000000 in
set_option maxRecDepth 100000 in
theorem net_may.ok (a0_0 : Int) (a0_1 : Bool) (a0_2 : Int) (a0_3 : Int) (a0_4 : Int) (a0_5 : Bool)  (r1 : Bool) (h : net_may.f a0_0 a0_1 a0_2 a0_3 a0_4 a0_5 = some r1) :
    VCalls Try.prog 16 [.agg #[.int .i64 a0_0, .bool a0_1, .int .i64 a0_2, .int .i64 a0_3, .int .i64 a0_4, .bool a0_5]] [] (fun v G own => v = .bool r1 ∧ G = [] ∧ own = []) := by
  refine VCalls.intro Try.func16 rfl (len rfl) fun E hC hW hD hU => ?_
  unfold net_may.f at h
  refine VC.seq ?_
  refine VC.region ?_
  refine VL.sG (o_box rfl (.agg (.of rfl)) (ltn rfl)) rfl ?_
  intro g25
  refine VL.va (op_assign rfl (ltn rfl)) rfl ?_
  refine VL.done ?_
  refine VN.then ?_
  refine VC.seq ?_
  refine VC.region ?_
  refine VL.va (op_fieldAddr FI26_2 rfl (add_at _ _ _) (ltn rfl)) rfl ?_
  refine VL.va (op_load 0 1 rfl rfl TI3 rfl (by decide) (ltn rfl)) rfl ?_
  replace h := Option.bind_eq_some_iff.1 h
  obtain ⟨t45, hA46, h⟩ := h
  refine VL.sC (o_call0 FO19 (net_number.ok a0_2 t45 hA46) rfl rfl (ltn rfl) (All_of .nil)) rfl ?_
  rintro _ _ _ ⟨rfl, rfl, rfl⟩
  refine VL.va (op_move rfl (ltn rfl)) rfl ?_
  by_cases c47 : t45 = true
  · rw [if_pos c47] at h
    obtain rfl := c47
    refine VL.va (op_fieldAddr FI26_4 rfl (add_at _ _ _) (ltn rfl)) rfl ?_
    refine VL.va (op_load 0 1 rfl rfl TI3 rfl (by decide) (ltn rfl)) rfl ?_
    replace h := Option.bind_eq_some_iff.1 h
    obtain ⟨t48, hA49, h⟩ := h
    refine VL.sC (o_call0 FO19 (net_number.ok a0_4 t48 hA49) rfl rfl (ltn rfl) (All_of .nil)) rfl ?_
    rintro _ _ _ ⟨rfl, rfl, rfl⟩
    refine VL.va (op_pick rfl rfl (ltn rfl)) rfl ?_
    refine VL.va (op_move rfl (ltn rfl)) rfl ?_
    by_cases c50 : t48 = true
    · rw [if_pos c50] at h
      obtain rfl := c50
      refine VL.va (op_fieldAddr FI26_3 rfl (add_at _ _ _) (ltn rfl)) rfl ?_
      refine VL.va (op_load 0 1 rfl rfl TI3 rfl (by decide) (ltn rfl)) rfl ?_
      refine VL.letter (decide (a0_3 ≥ 1)) fun b51 hb51 => ?_
      refine VL.va (op_cmp rfl rfl (congrArg some hb51) (ltn rfl)) rfl ?_
      refine VL.va (op_pick rfl rfl (ltn rfl)) rfl ?_
      refine VL.va (op_move rfl (ltn rfl)) rfl ?_
      by_cases c52 : a0_3 ≥ 1
      · rw [if_pos c52] at h
        obtain rfl : b51 = true := hb51.symm.trans (decide_eq_true c52)
        refine VL.va (op_fieldAddr FI26_3 rfl (add_at _ _ _) (ltn rfl)) rfl ?_
        refine VL.va (op_load 0 1 rfl rfl TI3 rfl (by decide) (ltn rfl)) rfl ?_
        refine VL.letter (decide (a0_3 ≤ 3)) fun b53 hb53 => ?_
        refine VL.va (op_cmp rfl rfl (congrArg some hb53) (ltn rfl)) rfl ?_
        refine VL.va (op_pick rfl rfl (ltn rfl)) rfl ?_
        refine VL.va (op_move rfl (ltn rfl)) rfl ?_
        by_cases c54 : a0_3 ≤ 3
        · rw [if_pos c54] at h
          obtain rfl : b53 = true := hb53.symm.trans (decide_eq_true c54)
          refine VL.va (op_fieldAddr FI26_5 rfl (add_at _ _ _) (ltn rfl)) rfl ?_
          refine VL.va (op_load 0 1 rfl rfl TI4 rfl (by decide) (ltn rfl)) rfl ?_
          by_cases c55 : a0_5 = true
          · rw [if_pos c55] at h
            obtain rfl := c55
            refine VL.va (op_not rfl rfl (ltn rfl)) rfl ?_
            refine VL.va (op_move rfl (ltn rfl)) rfl ?_
            refine VL.va (op_fieldAddr FI26_1 rfl (add_at _ _ _) (ltn rfl)) rfl ?_
            refine VL.va (op_load 0 1 rfl rfl TI4 rfl (by decide) (ltn rfl)) rfl ?_
            refine VL.va (op_move rfl (ltn rfl)) rfl ?_
            by_cases c56 : a0_1 = true
            · rw [if_pos c56] at h
              obtain rfl := c56
              refine VL.va (op_fieldAddr FI26_3 rfl (add_at _ _ _) (ltn rfl)) rfl ?_
              refine VL.va (op_load 0 1 rfl rfl TI3 rfl (by decide) (ltn rfl)) rfl ?_
              refine VL.letter ((a0_3 == 3)) fun b57 hb57 => ?_
              refine VL.va (op_cmp rfl rfl (congrArg some hb57) (ltn rfl)) rfl ?_
              refine VL.va (op_pick rfl rfl (ltn rfl)) rfl ?_
              refine VL.va (op_pick rfl rfl (ltn rfl)) rfl ?_
              refine VL.va (op_pick rfl rfl (ltn rfl)) rfl ?_
              refine VL.va (op_assign rfl (ltn rfl)) rfl ?_
              refine VL.done ?_
              refine VN.then ?_
              refine VC.ret ?_
              obtain rfl := Option.some.inj h
              subst hb57
              exact VR.fn (rs := [.tmp 2]) [] [] [] rfl (.tmp rfl .nil) ⟨rfl, rfl, rfl⟩ trivial rfl (by decide)
            · rw [if_neg c56] at h
              obtain rfl := Bool.eq_false_iff.2 c56
              refine VL.un rfl rfl (ltn rfl) ?_
              refine VL.un rfl rfl (ltn rfl) ?_
              refine VL.un rfl rfl (ltn rfl) ?_
              refine VL.va (op_pick rfl rfl (ltn rfl)) rfl ?_
              refine VL.va (op_pick rfl rfl (ltn rfl)) rfl ?_
              refine VL.va (op_pick rfl rfl (ltn rfl)) rfl ?_
              refine VL.va (op_assign rfl (ltn rfl)) rfl ?_
              refine VL.done ?_
              refine VN.then ?_
              refine VC.ret ?_
              obtain rfl := Option.some.inj h
              exact VR.fn (rs := [.tmp 2]) [] [] [] rfl (.tmp rfl .nil) ⟨rfl, rfl, rfl⟩ trivial rfl (by decide)
          · rw [if_neg c55] at h
            obtain rfl := Bool.eq_false_iff.2 c55
            refine VL.va (op_not rfl rfl (ltn rfl)) rfl ?_
            refine VL.va (op_move rfl (ltn rfl)) rfl ?_
            refine VL.un rfl rfl (ltn rfl) ?_
            refine VL.un rfl rfl (ltn rfl) ?_
            refine VL.un rfl rfl (ltn rfl) ?_
            refine VL.un rfl rfl (ltn rfl) ?_
            refine VL.un rfl rfl (ltn rfl) ?_
            refine VL.un rfl rfl (ltn rfl) ?_
            refine VL.un rfl rfl (ltn rfl) ?_
            refine VL.va (op_pick rfl rfl (ltn rfl)) rfl ?_
            refine VL.va (op_pick rfl rfl (ltn rfl)) rfl ?_
            refine VL.va (op_assign rfl (ltn rfl)) rfl ?_
            refine VL.done ?_
            refine VN.then ?_
            refine VC.ret ?_
            obtain rfl := Option.some.inj h
            exact VR.fn (rs := [.tmp 2]) [] [] [] rfl (.tmp rfl .nil) ⟨rfl, rfl, rfl⟩ trivial rfl (by decide)
        · rw [if_neg c54] at h
          obtain rfl : b53 = false := hb53.symm.trans (decide_eq_false c54)
          refine VL.un rfl rfl (ltn rfl) ?_
          refine VL.un rfl rfl (ltn rfl) ?_
          refine VL.un rfl rfl (ltn rfl) ?_
          refine VL.un rfl rfl (ltn rfl) ?_
          refine VL.un rfl rfl (ltn rfl) ?_
          refine VL.un rfl rfl (ltn rfl) ?_
          refine VL.un rfl rfl (ltn rfl) ?_
          refine VL.un rfl rfl (ltn rfl) ?_
          refine VL.un rfl rfl (ltn rfl) ?_
          refine VL.un rfl rfl (ltn rfl) ?_
          refine VL.un rfl rfl (ltn rfl) ?_
          refine VL.un rfl rfl (ltn rfl) ?_
          refine VL.va (op_pick rfl rfl (ltn rfl)) rfl ?_
          refine VL.va (op_assign rfl (ltn rfl)) rfl ?_
          refine VL.done ?_
          refine VN.then ?_
          refine VC.ret ?_
          obtain rfl := Option.some.inj h
          exact VR.fn (rs := [.tmp 2]) [] [] [] rfl (.tmp rfl .nil) ⟨rfl, rfl, rfl⟩ trivial rfl (by decide)
      · rw [if_neg c52] at h
        obtain rfl : b51 = false := hb51.symm.trans (decide_eq_false c52)
        refine VL.un rfl rfl (ltn rfl) ?_
        refine VL.un rfl rfl (ltn rfl) ?_
        refine VL.un rfl rfl (ltn rfl) ?_
        refine VL.va (op_pick rfl rfl (ltn rfl)) rfl ?_
        refine VL.va (op_move rfl (ltn rfl)) rfl ?_
        refine VL.un rfl rfl (ltn rfl) ?_
        refine VL.un rfl rfl (ltn rfl) ?_
        refine VL.un rfl rfl (ltn rfl) ?_
        refine VL.un rfl rfl (ltn rfl) ?_
        refine VL.un rfl rfl (ltn rfl) ?_
        refine VL.un rfl rfl (ltn rfl) ?_
        refine VL.un rfl rfl (ltn rfl) ?_
        refine VL.un rfl rfl (ltn rfl) ?_
        refine VL.un rfl rfl (ltn rfl) ?_
        refine VL.un rfl rfl (ltn rfl) ?_
        refine VL.un rfl rfl (ltn rfl) ?_
        refine VL.un rfl rfl (ltn rfl) ?_
        refine VL.va (op_pick rfl rfl (ltn rfl)) rfl ?_
        refine VL.va (op_assign rfl (ltn rfl)) rfl ?_
        refine VL.done ?_
        refine VN.then ?_
        refine VC.ret ?_
        obtain rfl := Option.some.inj h
        exact VR.fn (rs := [.tmp 2]) [] [] [] rfl (.tmp rfl .nil) ⟨rfl, rfl, rfl⟩ trivial rfl (by decide)
    · rw [if_neg c50] at h
      obtain rfl := Bool.eq_false_iff.2 c50
      refine VL.un rfl rfl (ltn rfl) ?_
      refine VL.un rfl rfl (ltn rfl) ?_
      refine VL.un rfl rfl (ltn rfl) ?_
      refine VL.va (op_pick rfl rfl (ltn rfl)) rfl ?_
      refine VL.va (op_move rfl (ltn rfl)) rfl ?_
      refine VL.un rfl rfl (ltn rfl) ?_
      refine VL.un rfl rfl (ltn rfl) ?_
      refine VL.un rfl rfl (ltn rfl) ?_
      refine VL.va (op_pick rfl rfl (ltn rfl)) rfl ?_
      refine VL.va (op_move rfl (ltn rfl)) rfl ?_
      refine VL.un rfl rfl (ltn rfl) ?_
      refine VL.un rfl rfl (ltn rfl) ?_
      refine VL.un rfl rfl (ltn rfl) ?_
      refine VL.un rfl rfl (ltn rfl) ?_
      refine VL.un rfl rfl (ltn rfl) ?_
      refine VL.un rfl rfl (ltn rfl) ?_
      refine VL.un rfl rfl (ltn rfl) ?_
      refine VL.un rfl rfl (ltn rfl) ?_
      refine VL.un rfl rfl (ltn rfl) ?_
      refine VL.un rfl rfl (ltn rfl) ?_
      refine VL.un rfl rfl (ltn rfl) ?_
      refine VL.un rfl rfl (ltn rfl) ?_
      refine VL.va (op_pick rfl rfl (ltn rfl)) rfl ?_
      refine VL.va (op_assign rfl (ltn rfl)) rfl ?_
      refine VL.done ?_
      refine VN.then ?_
      refine VC.ret ?_
      obtain rfl := Option.some.inj h
      exact VR.fn (rs := [.tmp 2]) [] [] [] rfl (.tmp rfl .nil) ⟨rfl, rfl, rfl⟩ trivial rfl (by decide)
  · rw [if_neg c47] at h
    obtain rfl := Bool.eq_false_iff.2 c47
    refine VL.un rfl rfl (ltn rfl) ?_
    refine VL.un rfl rfl (ltn rfl) ?_
    refine VL.un rfl rfl (ltn rfl) ?_
    refine VL.va (op_pick rfl rfl (ltn rfl)) rfl ?_
    refine VL.va (op_move rfl (ltn rfl)) rfl ?_
    refine VL.un rfl rfl (ltn rfl) ?_
    refine VL.un rfl rfl (ltn rfl) ?_
    refine VL.un rfl rfl (ltn rfl) ?_
    refine VL.va (op_pick rfl rfl (ltn rfl)) rfl ?_
    refine VL.va (op_move rfl (ltn rfl)) rfl ?_
    refine VL.un rfl rfl (ltn rfl) ?_
    refine VL.un rfl rfl (ltn rfl) ?_
    refine VL.un rfl rfl (ltn rfl) ?_
    refine VL.va (op_pick rfl rfl (ltn rfl)) rfl ?_
    refine VL.va (op_move rfl (ltn rfl)) rfl ?_
    refine VL.un rfl rfl (ltn rfl) ?_
    refine VL.un rfl rfl (ltn rfl) ?_
    refine VL.un rfl rfl (ltn rfl) ?_
    refine VL.un rfl rfl (ltn rfl) ?_
    refine VL.un rfl rfl (ltn rfl) ?_
    refine VL.un rfl rfl (ltn rfl) ?_
    refine VL.un rfl rfl (ltn rfl) ?_
    refine VL.un rfl rfl (ltn rfl) ?_
    refine VL.un rfl rfl (ltn rfl) ?_
    refine VL.un rfl rfl (ltn rfl) ?_
    refine VL.un rfl rfl (ltn rfl) ?_
    refine VL.un rfl rfl (ltn rfl) ?_
    refine VL.va (op_pick rfl rfl (ltn rfl)) rfl ?_
    refine VL.va (op_assign rfl (ltn rfl)) rfl ?_
    refine VL.done ?_
    refine VN.then ?_
    refine VC.ret ?_
    obtain rfl := Option.some.inj h
    exact VR.fn (rs := [.tmp 2]) [] [] [] rfl (.tmp rfl .nil) ⟨rfl, rfl, rfl⟩ trivial rfl (by decide)
set_option maxHeartbeats 4000000 in
set_option maxRecDepth 100000 in
theorem net_Right.ok (k : Nat) (l0_0 : List S25) (a0_1 : Int) (v0_0 : Value) (r1 : Bool) (h : net_Right.f k l0_0 a0_1 = some r1) :
    VCalls Try.prog 11 [.agg #[v0_0, .int .i64 a0_1]] [.row v0_0 6 (l0_0.map enc25)] (fun v G own => v = .bool r1 ∧ G = [] ∧ own = []) := by
  refine VCalls.intro Try.func11 rfl (len rfl) fun E hC hW hD hU => ?_
  unfold net_Right.f at h
  refine VC.seq ?_
  refine VC.region ?_
  refine VL.sG (o_box rfl (.agg (.f 0 rfl (.c rfl .nil))) (ltn rfl)) rfl ?_
  intro g17
  refine VL.va (op_assign rfl (ltn rfl)) rfl ?_
  refine VL.done ?_
  refine VN.then ?_
  refine VC.seq ?_
  refine VC.seq ?_
  refine VC.region ?_
  refine VL.va (op_fieldAddr FI24_0 rfl (add_at _ _ _) (ltn rfl)) rfl ?_
  refine VL.va (op_load 0 1 rfl rfl TI22 rfl (by decide) (ltn rfl)) rfl ?_
  refine VL.va (op_len (m := l0_0.length) 0 lenm Try.underlying22 rfl rfl (ltn rfl)) rfl ?_
  refine VL.va (op_move rfl (ltn rfl)) rfl ?_
  refine VL.done ?_
  refine VN.then ?_
  refine VC.block ?_
  refine VC.loop1 (fun (i204 : Int) => ⟨42, [(1, .pointer (some ⟨g17, 0, none⟩)), (2, .bool false), (6, v0_0), (7, .int .i64 (l0_0.length : Int)), (8, .int .i64 i204)], [.row v0_0 6 (l0_0.map enc25)], [(g17, 24, [v0_0, .int .i64 a0_1])], []⟩) (fun (ml1 : Nat) (i204 : Int) => net_Right.l1 k a0_1 l0_0 ml1 i204 = some r1) k 0 [0] [] h ⟨rfl, ⟨rfl, rfl, rfl, rfl, rfl, trivial⟩, ⟨⟨0, rfl⟩, trivial⟩, rfl, by decide, rfl, by decide⟩ (by intros; simp [net_Right.l1]) ?_
  clear h
  intro ml1 ihl1 i204 h
  simp only [net_Right.l1] at h
  refine VC.seq ?_
  refine VC.region ?_
  refine VL.letter (decide (i204 < (l0_0.length : Int))) fun b244 hb244 => ?_
  refine VL.va (op_cmp rfl rfl (congrArg some hb244) (ltn rfl)) rfl ?_
  refine VL.done ?_
  refine VN.then ?_
  refine VC.seq ?_
  by_cases c256 : i204 < (l0_0.length : Int)
  · rw [if_pos c256] at h
    obtain rfl : b244 = true := hb244.symm.trans (decide_eq_true c256)
    refine VC.cond_t rfl ?_
    refine VC.skip ?_
    refine VN.then ?_
    refine VC.seq ?_
    refine VC.block ?_
    refine VC.seq ?_
    refine VC.region ?_
    by_cases c275 : 0 ≤ i204
    · rw [if_pos c275] at h
      replace h := Option.bind_eq_some_iff.1 h
      obtain ⟨x276, hx276, h⟩ := h
      refine VL.open (m := l0_0.length) 0 lenm rfl (pos_get hx276) ?_
      rintro ad277 n278 rfl
      refine VL.va (op_indexAddr Try.underlying22 TI26 rfl rfl c275 (lt_get c275 hx276) rfl (ltn rfl)) rfl ?_
      refine VL.va (op_load_row (sz := 6) (o := 0) 0 i204.toNat 6 rfl rfl (get_map hx276) TI26 rfl (fun h => absurd h (by decide)) (ltn rfl)) rfl ?_
      refine VL.sG (o_alloc Z26 ZL26 (ltn rfl)) rfl ?_
      intro g279
      refine VL.step1 (o_store 0 6 rfl rfl rfl TI26 (.agg (.of rfl)) rfl (len rfl)) rfl ?_
      refine VL.done ?_
      refine VN.then ?_
      refine VC.seq ?_
      refine VC.region ?_
      refine VL.va (op_load 0 6 rfl rfl TI26 rfl (fun h => absurd h (by decide)) (ltn rfl)) rfl ?_
      replace h := Option.bind_eq_some_iff.1 h
      obtain ⟨t286, hA287, h⟩ := h
      refine VL.sC (o_call0 FO16 (net_may.ok x276.f0 x276.f1 x276.f2 x276.f3 x276.f4 x276.f5 t286 hA287) rfl rfl (ltn rfl) (All_of .nil)) rfl ?_
      rintro _ _ _ ⟨rfl, rfl, rfl⟩
      by_cases c288 : t286 = true
      · rw [if_pos c288] at h
        obtain rfl := c288
        refine VL.va (op_not rfl rfl (ltn rfl)) rfl ?_
        refine VL.va (op_move rfl (ltn rfl)) rfl ?_
        refine VL.va (op_fieldAddr FI26_0 rfl (add_at _ _ _) (ltn rfl)) rfl ?_
        refine VL.va (op_load 0 1 rfl rfl TI3 rfl (by decide) (ltn rfl)) rfl ?_
        refine VL.letter (decide (x276.f0 < 1)) fun b289 hb289 => ?_
        refine VL.va (op_cmp rfl rfl (congrArg some hb289) (ltn rfl)) rfl ?_
        refine VL.va (op_pick rfl rfl (ltn rfl)) rfl ?_
        refine VL.va (op_move rfl (ltn rfl)) rfl ?_
        by_cases c290 : x276.f0 < 1
        · rw [if_pos c290] at h
          obtain rfl : b289 = true := hb289.symm.trans (decide_eq_true c290)
          refine VL.un rfl rfl (ltn rfl) ?_
          refine VL.un rfl rfl (ltn rfl) ?_
          refine VL.un rfl rfl (ltn rfl) ?_
          refine VL.un rfl rfl (ltn rfl) ?_
          refine VL.un rfl rfl (ltn rfl) ?_
          refine VL.va (op_pick rfl rfl (ltn rfl)) rfl ?_
          refine VL.done ?_
          refine VN.then ?_
          refine VC.cond_t rfl ?_
          refine VC.seq ?_
          refine VC.region ?_
          refine VL.va (op_assign rfl (ltn rfl)) rfl ?_
          refine VL.done ?_
          refine VN.then ?_
          refine VC.ret ?_
          refine VR.block ?_
          refine VR.then ?_
          refine VR.then ?_
          refine VR.block ?_
          refine VR.then ?_
          obtain rfl := Option.some.inj h
          exact VR.fn (rs := [.tmp 2]) [] [] [] rfl (.tmp rfl .nil) ⟨rfl, rfl, rfl⟩ trivial rfl (by decide)
        · rw [if_neg c290] at h
          obtain rfl : b289 = false := hb289.symm.trans (decide_eq_false c290)
          refine VL.va (op_fieldAddr FI26_0 rfl (add_at _ _ _) (ltn rfl)) rfl ?_
          refine VL.va (op_load 0 1 rfl rfl TI3 rfl (by decide) (ltn rfl)) rfl ?_
          refine VL.va (op_fieldAddr FI24_1 rfl (add_at _ _ _) (ltn rfl)) rfl ?_
          refine VL.va (op_load 1 1 rfl rfl TI3 rfl (by decide) (ltn rfl)) rfl ?_
          refine VL.letter (decide (x276.f0 > a0_1)) fun b291 hb291 => ?_
          refine VL.va (op_cmp rfl rfl (congrArg some hb291) (ltn rfl)) rfl ?_
          refine VL.va (op_pick rfl rfl (ltn rfl)) rfl ?_
          refine VL.done ?_
          refine VN.then ?_
          by_cases c292 : x276.f0 > a0_1
          · rw [if_pos c292] at h
            obtain rfl : b291 = true := hb291.symm.trans (decide_eq_true c292)
            refine VC.cond_t rfl ?_
            refine VC.seq ?_
            refine VC.region ?_
            refine VL.va (op_assign rfl (ltn rfl)) rfl ?_
            refine VL.done ?_
            refine VN.then ?_
            refine VC.ret ?_
            refine VR.block ?_
            refine VR.then ?_
            refine VR.then ?_
            refine VR.block ?_
            refine VR.then ?_
            obtain rfl := Option.some.inj h
            exact VR.fn (rs := [.tmp 2]) [] [] [] rfl (.tmp rfl .nil) ⟨rfl, rfl, rfl⟩ trivial rfl (by decide)
          · rw [if_neg c292] at h
            obtain rfl : b291 = false := hb291.symm.trans (decide_eq_false c292)
            refine VC.cond_f rfl ?_
            refine VC.skip ?_
            refine VN.block ?_
            refine VN.then ?_
            refine VC.region ?_
            refine VL.va (op_ari64 rfl rfl rfl (ltn rfl)) rfl ?_
            refine VL.va (op_move rfl (ltn rfl)) rfl ?_
            refine VL.done ?_
            refine VN.again [1] [] (ihl1 (wrap64 (i204 + 1)) h) ⟨rfl, ⟨rfl, rfl, rfl, rfl, rfl, trivial⟩, ⟨⟨0, rfl⟩, trivial⟩, rfl, by decide, rfl, by decide⟩
      · rw [if_neg c288] at h
        obtain rfl := Bool.eq_false_iff.2 c288
        refine VL.va (op_not rfl rfl (ltn rfl)) rfl ?_
        refine VL.va (op_move rfl (ltn rfl)) rfl ?_
        refine VL.un rfl rfl (ltn rfl) ?_
        refine VL.un rfl rfl (ltn rfl) ?_
        refine VL.un rfl rfl (ltn rfl) ?_
        refine VL.va (op_pick rfl rfl (ltn rfl)) rfl ?_
        refine VL.va (op_move rfl (ltn rfl)) rfl ?_
        refine VL.un rfl rfl (ltn rfl) ?_
        refine VL.un rfl rfl (ltn rfl) ?_
        refine VL.un rfl rfl (ltn rfl) ?_
        refine VL.un rfl rfl (ltn rfl) ?_
        refine VL.un rfl rfl (ltn rfl) ?_
        refine VL.va (op_pick rfl rfl (ltn rfl)) rfl ?_
        refine VL.done ?_
        refine VN.then ?_
        refine VC.cond_t rfl ?_
        refine VC.seq ?_
        refine VC.region ?_
        refine VL.va (op_assign rfl (ltn rfl)) rfl ?_
        refine VL.done ?_
        refine VN.then ?_
        refine VC.ret ?_
        refine VR.block ?_
        refine VR.then ?_
        refine VR.then ?_
        refine VR.block ?_
        refine VR.then ?_
        obtain rfl := Option.some.inj h
        exact VR.fn (rs := [.tmp 2]) [] [] [] rfl (.tmp rfl .nil) ⟨rfl, rfl, rfl⟩ trivial rfl (by decide)
    · rw [if_neg c275] at h; cases h
  · rw [if_neg c256] at h
    obtain rfl : b244 = false := hb244.symm.trans (decide_eq_false c256)
    refine VC.cond_f rfl ?_
    refine VC.exit ?_
    refine VX.then ?_
    refine VX.then ?_
    refine VX.hit ?_
    refine VN.then ?_
    refine VC.seq ?_
    refine VC.region ?_
    refine VL.va (op_fieldAddr FI24_0 rfl (add_at _ _ _) (ltn rfl)) rfl ?_
    refine VL.va (op_load 0 1 rfl rfl TI22 rfl (by decide) (ltn rfl)) rfl ?_
    refine VL.va (op_len (m := l0_0.length) 0 lenm Try.underlying22 rfl rfl (ltn rfl)) rfl ?_
    refine VL.letter (decide ((l0_0.length : Int) ≤ 64)) fun b298 hb298 => ?_
    refine VL.va (op_cmp rfl rfl (congrArg some hb298) (ltn rfl)) rfl ?_
    refine VL.va (op_move rfl (ltn rfl)) rfl ?_
    by_cases c299 : (l0_0.length : Int) ≤ 64
    · rw [if_pos c299] at h
      obtain rfl : b298 = true := hb298.symm.trans (decide_eq_true c299)
      refine VL.va (op_fieldAddr FI24_1 rfl (add_at _ _ _) (ltn rfl)) rfl ?_
      refine VL.va (op_load 0 1 rfl rfl TI3 rfl (by decide) (ltn rfl)) rfl ?_
      refine VL.letter (decide (a0_1 ≥ 0)) fun b300 hb300 => ?_
      refine VL.va (op_cmp rfl rfl (congrArg some hb300) (ltn rfl)) rfl ?_
      refine VL.va (op_pick rfl rfl (ltn rfl)) rfl ?_
      refine VL.va (op_move rfl (ltn rfl)) rfl ?_
      by_cases c301 : a0_1 ≥ 0
      · rw [if_pos c301] at h
        obtain rfl : b300 = true := hb300.symm.trans (decide_eq_true c301)
        refine VL.va (op_fieldAddr FI24_1 rfl (add_at _ _ _) (ltn rfl)) rfl ?_
        refine VL.va (op_load 0 1 rfl rfl TI3 rfl (by decide) (ltn rfl)) rfl ?_
        refine VL.letter (decide (a0_1 ≤ 1099511627776)) fun b302 hb302 => ?_
        refine VL.va (op_cmp rfl rfl (congrArg some hb302) (ltn rfl)) rfl ?_
        refine VL.va (op_pick rfl rfl (ltn rfl)) rfl ?_
        refine VL.va (op_assign rfl (ltn rfl)) rfl ?_
        refine VL.done ?_
        refine VN.then ?_
        refine VC.ret ?_
        obtain rfl := Option.some.inj h
        subst hb302
        exact VR.fn (rs := [.tmp 2]) [] [] [] rfl (.tmp rfl .nil) ⟨rfl, rfl, rfl⟩ trivial rfl (by decide)
      · rw [if_neg c301] at h
        obtain rfl : b300 = false := hb300.symm.trans (decide_eq_false c301)
        refine VL.un rfl rfl (ltn rfl) ?_
        refine VL.un rfl rfl (ltn rfl) ?_
        refine VL.un rfl rfl (ltn rfl) ?_
        refine VL.va (op_pick rfl rfl (ltn rfl)) rfl ?_
        refine VL.va (op_assign rfl (ltn rfl)) rfl ?_
        refine VL.done ?_
        refine VN.then ?_
        refine VC.ret ?_
        obtain rfl := Option.some.inj h
        exact VR.fn (rs := [.tmp 2]) [] [] [] rfl (.tmp rfl .nil) ⟨rfl, rfl, rfl⟩ trivial rfl (by decide)
    · rw [if_neg c299] at h
      obtain rfl : b298 = false := hb298.symm.trans (decide_eq_false c299)
      refine VL.un rfl rfl (ltn rfl) ?_
      refine VL.un rfl rfl (ltn rfl) ?_
      refine VL.un rfl rfl (ltn rfl) ?_
      refine VL.va (op_pick rfl rfl (ltn rfl)) rfl ?_
      refine VL.va (op_move rfl (ltn rfl)) rfl ?_
      refine VL.un rfl rfl (ltn rfl) ?_
      refine VL.un rfl rfl (ltn rfl) ?_
      refine VL.un rfl rfl (ltn rfl) ?_
      refine VL.va (op_pick rfl rfl (ltn rfl)) rfl ?_
      refine VL.va (op_assign rfl (ltn rfl)) rfl ?_
      refine VL.done ?_
      refine VN.then ?_
      refine VC.ret ?_
      obtain rfl := Option.some.inj h
      exact VR.fn (rs := [.tmp 2]) [] [] [] rfl (.tmp rfl .nil) ⟨rfl, rfl, rfl⟩ trivial rfl (by decide)
set_option maxHeartbeats 4000000 in
set_option maxRecDepth 100000 in
theorem net_behind.ok (l0 : List S25) (l1 : List S25) (v0 : Value) (v1 : Value) (r1 : List S25) (h : net_behind.f l0 l1 = some r1) :
    VCalls Try.prog 17 [v0, v1] [.row v0 6 (l0.map enc25), .row v1 6 (l1.map enc25)] (fun v G own => ∃ w0 : Value, v = w0 ∧ G = [.row w0 6 (r1.map enc25)] ∧ own = []) := by
  refine VCalls.intro Try.func17 rfl (len rfl) fun E hC hW hD hU => ?_
  unfold net_behind.f at h
  refine VC.seq ?_
  refine VC.region ?_
  refine VL.va (op_assign rfl (ltn rfl)) rfl ?_
  refine VL.done ?_
  refine VN.then ?_
  refine VC.seq ?_
  refine VC.region ?_
  refine VL.va (op_move rfl (ltn rfl)) rfl ?_
  refine VL.va (op_move rfl (ltn rfl)) rfl ?_
  refine VL.va (op_len (m := l0.length) 0 lenm Try.underlying22 rfl rfl (ltn rfl)) rfl ?_
  refine VL.va (op_move rfl (ltn rfl)) rfl ?_
  refine VL.va (op_len (m := l0.length) 0 lenm Try.underlying22 rfl rfl (ltn rfl)) rfl ?_
  refine VL.sG (o_clip (m := l0.length) 0 lenm Try.underlying22 TI26 rfl rfl rfl rfl (ltn rfl)) rfl ?_
  intro A358
  refine VL.va (op_move rfl (ltn rfl)) rfl ?_
  by_cases c360 : (l0.length + l1.length) * 48 ≤ 140737488355328
  · rw [if_pos c360] at h
    refine VL.sG (o_append_clip 0 appm Try.underlying22 EI26 rfl rfl rfl (.inl ⟨2, rfl⟩) (bndm c360) (ltn rfl)) rfl ?_
    intro v361
    refine VL.va (op_assign rfl (ltn rfl)) rfl ?_
    refine VL.done ?_
    refine VN.then ?_
    refine VC.ret ?_
    obtain rfl := Option.some.inj h
    exact VR.fn (rs := [.tmp 4]) [.row v361 6 ((l0 ++ l1).map enc25)] [] [] rfl (.tmp rfl .nil) ⟨v361, rfl, rfl, rfl⟩ ⟨⟨0, rfl⟩, trivial⟩ rfl (by decide)
  · rw [if_neg c360] at h; cases h
set_option maxHeartbeats 4000000 in
set_option maxRecDepth 100000 in
theorem net_Post.ok (k : Nat) (l0_0 : List S25) (a0_1 : Int) (a1_0 : Int) (a1_1 : Bool) (a1_2 : Int) (a1_3 : Int) (a1_4 : Int) (a1_5 : Bool) (v0_0 : Value) (r1 : List S25) (r2 : Int) (r3 : Int) (r4 : Int) (h : net_Post.f k l0_0 a0_1 a1_0 a1_1 a1_2 a1_3 a1_4 a1_5 = some (r1, r2, r3, r4)) :
    VCalls Try.prog 7 [.agg #[v0_0, .int .i64 a0_1], .agg #[.int .i64 a1_0, .bool a1_1, .int .i64 a1_2, .int .i64 a1_3, .int .i64 a1_4, .bool a1_5]] [.row v0_0 6 (l0_0.map enc25)] (fun v G own => ∃ w0 : Value, v = .tuple #[.agg #[w0, .int .i64 r2], .int .i64 r3, .int .i64 r4] ∧ G = [.row w0 6 (r1.map enc25)] ∧ own = []) := by
  refine VCalls.intro Try.func7 rfl (len rfl) fun E hC hW hD hU => ?_
  unfold net_Post.f at h
  refine VC.seq ?_
  refine VC.region ?_
  refine VL.sG (o_box rfl (.agg (.f 0 rfl (.c rfl .nil))) (ltn rfl)) rfl ?_
  intro g368
  refine VL.sG (o_box rfl (.agg (.of rfl)) (ltn rfl)) rfl ?_
  intro g369
  refine VL.sG (o_alloc Z24 ZL24 (ltn rfl)) rfl ?_
  intro g370
  refine VL.va (op_assign rfl (ltn rfl)) rfl ?_
  refine VL.va (op_assign rfl (ltn rfl)) rfl ?_
  refine VL.done ?_
  refine VN.then ?_
  refine VC.seq ?_
  refine VC.block ?_
  refine VC.seq ?_
  refine VC.region ?_
  refine VL.va (op_load 2 2 rfl rfl TI24 rfl (fun h => absurd h (by decide)) (ltn rfl)) rfl ?_
  replace h := Option.bind_eq_some_iff.1 h
  obtain ⟨t400, hA401, h⟩ := h
  refine VL.sC (o_call0 FO11 (net_Right.ok k l0_0 a0_1 v0_0 t400 hA401) rfl rfl (ltn rfl) (All_of (.cons (List.mem_of_getElem? (i := 0) rfl) .nil))) rfl ?_
  rintro _ _ _ ⟨rfl, rfl, rfl⟩
  by_cases c402 : t400 = true
  · rw [if_pos c402] at h
    obtain rfl := c402
    refine VL.va (op_not rfl rfl (ltn rfl)) rfl ?_
    refine VL.va (op_move rfl (ltn rfl)) rfl ?_
    refine VL.va (op_load 1 6 rfl rfl TI26 rfl (fun h => absurd h (by decide)) (ltn rfl)) rfl ?_
    replace h := Option.bind_eq_some_iff.1 h
    obtain ⟨t403, hA404, h⟩ := h
    refine VL.sC (o_call0 FO16 (net_may.ok a1_0 a1_1 a1_2 a1_3 a1_4 a1_5 t403 hA404) rfl rfl (ltn rfl) (All_of .nil)) rfl ?_
    rintro _ _ _ ⟨rfl, rfl, rfl⟩
    by_cases c405 : t403 = true
    · rw [if_pos c405] at h
      obtain rfl := c405
      refine VL.va (op_not rfl rfl (ltn rfl)) rfl ?_
      refine VL.va (op_pick rfl rfl (ltn rfl)) rfl ?_
      refine VL.va (op_assign rfl (ltn rfl)) rfl ?_
      refine VL.done ?_
      refine VN.then ?_
      refine VC.cond_f rfl ?_
      refine VC.seq ?_
      refine VC.region ?_
      refine VL.va (op_fieldAddr FI24_0 rfl (add_at _ _ _) (ltn rfl)) rfl ?_
      refine VL.va (op_load 2 1 rfl rfl TI22 rfl (by decide) (ltn rfl)) rfl ?_
      refine VL.va (op_len (m := l0_0.length) 0 lenm Try.underlying22 rfl rfl (ltn rfl)) rfl ?_
      refine VL.letter (((l0_0.length : Int) == 64)) fun b409 hb409 => ?_
      refine VL.va (op_cmp rfl rfl (congrArg some hb409) (ltn rfl)) rfl ?_
      refine VL.va (op_move rfl (ltn rfl)) rfl ?_
      by_cases c410 : (l0_0.length : Int) = 64
      · rw [if_pos c410] at h
        obtain rfl : b409 = true := hb409.symm.trans (beq_iff_eq.2 c410)
        refine VL.un rfl rfl (ltn rfl) ?_
        refine VL.un rfl rfl (ltn rfl) ?_
        refine VL.un rfl rfl (ltn rfl) ?_
        refine VL.va (op_pick rfl rfl (ltn rfl)) rfl ?_
        refine VL.va (op_assign rfl (ltn rfl)) rfl ?_
        refine VL.done ?_
        refine VN.then ?_
        refine VC.cond_t rfl ?_
        refine VC.seq ?_
        refine VC.region ?_
        refine VL.va (op_build (vals := []) (vcs := []) (cells := [.slice none 0 0, .int .i64 0]) SI24 rfl .nil (by kernel_rfl) (ltn rfl)) rfl ?_
        refine VL.step1 (o_store 0 2 rfl rfl rfl TI24 (.agg (.of rfl)) rfl (len rfl)) rfl ?_
        refine VL.va (op_assign rfl (ltn rfl)) rfl ?_
        refine VL.va (op_assign rfl (ltn rfl)) rfl ?_
        refine VL.done ?_
        refine VN.then ?_
        refine VC.ret ?_
        refine VR.block ?_
        refine VR.then ?_
        simp only [Option.some.injEq, Prod.mk.injEq] at h
        obtain ⟨rfl, rfl, rfl, rfl⟩ := h
        refine VR.nilFact' 6 ?_
        exact VR.fn (rs := [.cell 4 24, .tmp 5, .tmp 6]) [.row (.slice none 0 0) 6 (([] : List S25).map enc25)] [] [] rfl (.cell 0 rfl rfl TI24 (fun h => absurd h (by decide)) (.tmp rfl (.tmp rfl .nil))) ⟨(.slice none 0 0), rfl, rfl, rfl⟩ ⟨⟨0, rfl⟩, trivial⟩ rfl (by decide)
      · rw [if_neg c410] at h
        obtain rfl : b409 = false := hb409.symm.trans (beq_eq_false_iff_ne.2 c410)
        refine VL.va (op_fieldAddr FI24_1 rfl (add_at _ _ _) (ltn rfl)) rfl ?_
        refine VL.va (op_load 2 1 rfl rfl TI3 rfl (by decide) (ltn rfl)) rfl ?_
        refine VL.letter ((a0_1 == 1099511627776)) fun b412 hb412 => ?_
        refine VL.va (op_cmp rfl rfl (congrArg some hb412) (ltn rfl)) rfl ?_
        refine VL.va (op_pick rfl rfl (ltn rfl)) rfl ?_
        refine VL.va (op_assign rfl (ltn rfl)) rfl ?_
        refine VL.done ?_
        refine VN.then ?_
        by_cases c413 : a0_1 = 1099511627776
        · rw [if_pos c413] at h
          obtain rfl : b412 = true := hb412.symm.trans (beq_iff_eq.2 c413)
          refine VC.cond_t rfl ?_
          refine VC.seq ?_
          refine VC.region ?_
          refine VL.va (op_build (vals := []) (vcs := []) (cells := [.slice none 0 0, .int .i64 0]) SI24 rfl .nil (by kernel_rfl) (ltn rfl)) rfl ?_
          refine VL.step1 (o_store 0 2 rfl rfl rfl TI24 (.agg (.of rfl)) rfl (len rfl)) rfl ?_
          refine VL.va (op_assign rfl (ltn rfl)) rfl ?_
          refine VL.va (op_assign rfl (ltn rfl)) rfl ?_
          refine VL.done ?_
          refine VN.then ?_
          refine VC.ret ?_
          refine VR.block ?_
          refine VR.then ?_
          simp only [Option.some.injEq, Prod.mk.injEq] at h
          obtain ⟨rfl, rfl, rfl, rfl⟩ := h
          refine VR.nilFact' 6 ?_
          exact VR.fn (rs := [.cell 4 24, .tmp 5, .tmp 6]) [.row (.slice none 0 0) 6 (([] : List S25).map enc25)] [] [] rfl (.cell 0 rfl rfl TI24 (fun h => absurd h (by decide)) (.tmp rfl (.tmp rfl .nil))) ⟨(.slice none 0 0), rfl, rfl, rfl⟩ ⟨⟨0, rfl⟩, trivial⟩ rfl (by decide)
        · rw [if_neg c413] at h
          obtain rfl : b412 = false := hb412.symm.trans (beq_eq_false_iff_ne.2 c413)
          refine VC.cond_f rfl ?_
          refine VC.skip ?_
          refine VN.block ?_
          refine VN.then ?_
          refine VC.seq ?_
          refine VC.region ?_
          refine VL.va (op_fieldAddr FI24_1 rfl (add_at _ _ _) (ltn rfl)) rfl ?_
          refine VL.va (op_load 2 1 rfl rfl TI3 rfl (by decide) (ltn rfl)) rfl ?_
          refine VL.va (op_ari64 rfl rfl rfl (ltn rfl)) rfl ?_
          refine VL.va (op_fieldAddr FI24_1 rfl (add_at _ _ _) (ltn rfl)) rfl ?_
          refine VL.step1 (o_store 2 1 rfl rfl rfl TI3 (.c rfl) rfl (len rfl)) rfl ?_
          refine VL.done ?_
          refine VN.then ?_
          refine VC.seq ?_
          refine VC.region ?_
          refine VL.va (op_fieldAddr FI24_1 rfl (add_at _ _ _) (ltn rfl)) rfl ?_
          refine VL.va (op_load 2 1 rfl rfl TI3 rfl (by decide) (ltn rfl)) rfl ?_
          refine VL.va (op_fieldAddr FI26_0 rfl (add_at _ _ _) (ltn rfl)) rfl ?_
          refine VL.step1 (o_store 1 1 rfl rfl rfl TI3 (.c rfl) rfl (len rfl)) rfl ?_
          refine VL.done ?_
          refine VN.then ?_
          refine VC.seq ?_
          refine VC.region ?_
          refine VL.va (op_fieldAddr FI24_0 rfl (add_at _ _ _) (ltn rfl)) rfl ?_
          refine VL.va (op_load 2 1 rfl rfl TI22 rfl (by decide) (ltn rfl)) rfl ?_
          refine VL.va (op_load 1 6 rfl rfl TI26 rfl (fun h => absurd h (by decide)) (ltn rfl)) rfl ?_
          refine VL.sG (o_buildSlice (vals := [(0, .agg #[.int .i64 (wrap64 (a0_1 + 1)), .bool a1_1, .int .i64 a1_2, .int .i64 a1_3, .int .i64 a1_4, .bool a1_5])]) (cells := #[.int .i64 (wrap64 (a0_1 + 1)), .bool a1_1, .int .i64 a1_2, .int .i64 a1_3, .int .i64 a1_4, .bool a1_5]) (es := List.map enc25 ([(⟨wrap64 (a0_1 + 1), a1_1, a1_2, a1_3, a1_4, a1_5⟩ : S25)] : List S25)) Try.underlying22 TI26 Z26 rfl (by decide) (by decide) (by kernel_rfl) (by kernel_rfl) rfl (flat_map enc25_ok _) (ltn rfl)) rfl ?_
          intro v416
          refine VL.freezeRow' 0 rfl ?_
          replace h := Option.bind_eq_some_iff.1 h
          obtain ⟨r417, hA418, h⟩ := h
          refine VL.sC (o_call0 FO17 (net_behind.ok l0_0 ([(⟨wrap64 (a0_1 + 1), a1_1, a1_2, a1_3, a1_4, a1_5⟩ : S25)] : List S25) v0_0 v416 r417 hA418) rfl rfl (ltn rfl) (All_of (.cons (List.mem_of_getElem? (i := 1) rfl) (.cons (List.mem_of_getElem? (i := 0) rfl) .nil)))) rfl ?_
          rintro v420 _ _ ⟨_, rfl, rfl, rfl⟩
          refine VL.va (op_fieldAddr FI24_0 rfl (add_at _ _ _) (ltn rfl)) rfl ?_
          refine VL.step1 (o_store 2 1 rfl rfl rfl TI22 (.f 0 rfl) rfl (len rfl)) rfl ?_
          refine VL.done ?_
          refine VN.then ?_
          refine VC.join0 (⟨44, [(4, .pointer (some ⟨g370, 0, none⟩)), (5, .int .i64 (wrap64 (a0_1 + 1))), (6, .int .i64 0)], [.row v420 6 (r417.map enc25)], [(g370, 24, [v420, .int .i64 (wrap64 (a0_1 + 1))])], []⟩) (True) ?_ ?_
          · refine VC.draw ⟨0, [], [], [(g369, 26, [.int .i64 (wrap64 (a0_1 + 1)), .bool a1_1, .int .i64 a1_2, .int .i64 a1_3, .int .i64 a1_4, .bool a1_5]), (g368, 24, [v420, .int .i64 (wrap64 (a0_1 + 1))])], []⟩ (by kernel_rfl) rfl (by kernel_rfl) (n := 6) (listed := LB 6 0) ?_
            refine VA.va (i := 0) (listed' := LB 6 1) rfl (op_load 1 2 rfl rfl TI24 rfl (fun h => absurd h (by decide)) (ltn rfl)) rfl (by kernel_rfl) (by kernel_rfl) (by kernel_rfl) (by kernel_rfl) ⟨trivial, ⟨⟨1, rfl⟩, ⟨2, rfl⟩, trivial⟩, trivial⟩ (fun _ _ _ h => h) ?_
            refine VA.va (i := 1) (listed' := LB 6 3) rfl (op_fieldAddr FI26_0 rfl (add_at _ _ _) (ltn rfl)) rfl (by kernel_rfl) (by kernel_rfl) (by kernel_rfl) (by kernel_rfl) ⟨trivial, ⟨⟨1, rfl⟩, ⟨2, rfl⟩, trivial⟩, trivial⟩ (fun _ _ _ h => h) ?_
            refine VA.va (i := 2) (listed' := LB 6 7) rfl (op_load 0 1 rfl rfl TI3 rfl (by decide) (ltn rfl)) rfl (by kernel_rfl) (by kernel_rfl) (by kernel_rfl) (by kernel_rfl) ⟨trivial, ⟨⟨1, rfl⟩, ⟨2, rfl⟩, trivial⟩, trivial⟩ (fun _ _ _ h => h) ?_
            refine VA.one1 (i := 3) (listed' := LB 6 15) (by kernel_rfl) rfl (o_store 0 2 rfl rfl rfl TI24 (.agg (.f 0 rfl (.c rfl .nil))) rfl (len rfl)) rfl (by kernel_rfl) ⟨trivial, ⟨⟨1, rfl⟩, ⟨2, rfl⟩, trivial⟩, trivial⟩ ?_
            refine VA.va (i := 4) (listed' := LB 6 31) rfl (op_assign rfl (ltn rfl)) rfl (by kernel_rfl) (by kernel_rfl) (by kernel_rfl) (by kernel_rfl) ⟨trivial, ⟨⟨1, rfl⟩, ⟨2, rfl⟩, trivial⟩, trivial⟩ (fun _ _ _ h => h) ?_
            refine VA.va (i := 5) (listed' := LB 6 63) rfl (op_assign rfl (ltn rfl)) rfl (by kernel_rfl) (by kernel_rfl) (by kernel_rfl) (by kernel_rfl) ⟨trivial, ⟨⟨1, rfl⟩, ⟨2, rfl⟩, trivial⟩, trivial⟩ (fun _ _ _ h => h) ?_
            refine VA.done (by kernel_rfl) ?_
            exact VN.meet0  [0] [] trivial ⟨rfl, ⟨rfl, rfl, rfl, trivial⟩, ⟨⟨0, rfl⟩, trivial⟩, rfl, by decide, rfl, by decide⟩
          intro _
          refine VC.ret ?_
          simp only [Option.some.injEq, Prod.mk.injEq] at h
          obtain ⟨rfl, rfl, rfl, rfl⟩ := h
          exact VR.fn (rs := [.cell 4 24, .tmp 5, .tmp 6]) [.row v420 6 (r417.map enc25)] [] [] rfl (.cell 0 rfl rfl TI24 (fun h => absurd h (by decide)) (.tmp rfl (.tmp rfl .nil))) ⟨v420, rfl, rfl, rfl⟩ ⟨⟨0, rfl⟩, trivial⟩ rfl (by decide)
    · rw [if_neg c405] at h
      obtain rfl := Bool.eq_false_iff.2 c405
      refine VL.va (op_not rfl rfl (ltn rfl)) rfl ?_
      refine VL.va (op_pick rfl rfl (ltn rfl)) rfl ?_
      refine VL.va (op_assign rfl (ltn rfl)) rfl ?_
      refine VL.done ?_
      refine VN.then ?_
      refine VC.cond_t rfl ?_
      refine VC.seq ?_
      refine VC.region ?_
      refine VL.va (op_build (vals := []) (vcs := []) (cells := [.slice none 0 0, .int .i64 0]) SI24 rfl .nil (by kernel_rfl) (ltn rfl)) rfl ?_
      refine VL.step1 (o_store 0 2 rfl rfl rfl TI24 (.agg (.of rfl)) rfl (len rfl)) rfl ?_
      refine VL.va (op_assign rfl (ltn rfl)) rfl ?_
      refine VL.va (op_assign rfl (ltn rfl)) rfl ?_
      refine VL.done ?_
      refine VN.then ?_
      refine VC.ret ?_
      refine VR.block ?_
      refine VR.then ?_
      simp only [Option.some.injEq, Prod.mk.injEq] at h
      obtain ⟨rfl, rfl, rfl, rfl⟩ := h
      refine VR.nilFact' 6 ?_
      exact VR.fn (rs := [.cell 4 24, .tmp 5, .tmp 6]) [.row (.slice none 0 0) 6 (([] : List S25).map enc25)] [] [] rfl (.cell 0 rfl rfl TI24 (fun h => absurd h (by decide)) (.tmp rfl (.tmp rfl .nil))) ⟨(.slice none 0 0), rfl, rfl, rfl⟩ ⟨⟨0, rfl⟩, trivial⟩ rfl (by decide)
  · rw [if_neg c402] at h
    obtain rfl := Bool.eq_false_iff.2 c402
    refine VL.va (op_not rfl rfl (ltn rfl)) rfl ?_
    refine VL.va (op_move rfl (ltn rfl)) rfl ?_
    refine VL.un rfl rfl (ltn rfl) ?_
    refine VL.un rfl rfl (ltn rfl) ?_
    refine VL.un rfl rfl (ltn rfl) ?_
    refine VL.va (op_pick rfl rfl (ltn rfl)) rfl ?_
    refine VL.va (op_assign rfl (ltn rfl)) rfl ?_
    refine VL.done ?_
    refine VN.then ?_
    refine VC.cond_t rfl ?_
    refine VC.seq ?_
    refine VC.region ?_
    refine VL.va (op_build (vals := []) (vcs := []) (cells := [.slice none 0 0, .int .i64 0]) SI24 rfl .nil (by kernel_rfl) (ltn rfl)) rfl ?_
    refine VL.step1 (o_store 0 2 rfl rfl rfl TI24 (.agg (.of rfl)) rfl (len rfl)) rfl ?_
    refine VL.va (op_assign rfl (ltn rfl)) rfl ?_
    refine VL.va (op_assign rfl (ltn rfl)) rfl ?_
    refine VL.done ?_
    refine VN.then ?_
    refine VC.ret ?_
    refine VR.block ?_
    refine VR.then ?_
    simp only [Option.some.injEq, Prod.mk.injEq] at h
    obtain ⟨rfl, rfl, rfl, rfl⟩ := h
    refine VR.nilFact' 6 ?_
    exact VR.fn (rs := [.cell 4 24, .tmp 5, .tmp 6]) [.row (.slice none 0 0) 6 (([] : List S25).map enc25)] [] [] rfl (.cell 0 rfl rfl TI24 (fun h => absurd h (by decide)) (.tmp rfl (.tmp rfl .nil))) ⟨(.slice none 0 0), rfl, rfl, rfl⟩ ⟨⟨0, rfl⟩, trivial⟩ rfl (by decide)
set_option maxHeartbeats 4000000 in
set_option maxRecDepth 100000 in
theorem tarrylaw15_in.ok (a0 : Int)  (r1 : Bool) (h : tarrylaw15_in.f a0 = some r1) :
    VCalls Try.prog 18 [.int .i64 a0] [] (fun v G own => v = .bool r1 ∧ G = [] ∧ own = []) := by
  refine VCalls.intro Try.func18 rfl (len rfl) fun E hC hW hD hU => ?_
  unfold tarrylaw15_in.f at h
  refine VC.seq ?_
  refine VC.region ?_
  refine VL.va (op_assign rfl (ltn rfl)) rfl ?_
  refine VL.done ?_
  refine VN.then ?_
  refine VC.seq ?_
  refine VC.region ?_
  refine VL.va (op_move rfl (ltn rfl)) rfl ?_
  refine VL.letter (decide (a0 ≥ 1)) fun b452 hb452 => ?_
  refine VL.va (op_cmp rfl rfl (congrArg some hb452) (ltn rfl)) rfl ?_
  refine VL.va (op_move rfl (ltn rfl)) rfl ?_
  by_cases c453 : a0 ≥ 1
  · rw [if_pos c453] at h
    obtain rfl : b452 = true := hb452.symm.trans (decide_eq_true c453)
    refine VL.va (op_move rfl (ltn rfl)) rfl ?_
    refine VL.letter (decide (a0 ≤ 1099511627776)) fun b454 hb454 => ?_
    refine VL.va (op_cmp rfl rfl (congrArg some hb454) (ltn rfl)) rfl ?_
    refine VL.va (op_pick rfl rfl (ltn rfl)) rfl ?_
    refine VL.va (op_assign rfl (ltn rfl)) rfl ?_
    refine VL.done ?_
    refine VN.then ?_
    refine VC.ret ?_
    obtain rfl := Option.some.inj h
    subst hb454
    exact VR.fn (rs := [.tmp 2]) [] [] [] rfl (.tmp rfl .nil) ⟨rfl, rfl, rfl⟩ trivial rfl (by decide)
  · rw [if_neg c453] at h
    obtain rfl : b452 = false := hb452.symm.trans (decide_eq_false c453)
    refine VL.un rfl rfl (ltn rfl) ?_
    refine VL.un rfl rfl (ltn rfl) ?_
    refine VL.va (op_pick rfl rfl (ltn rfl)) rfl ?_
    refine VL.va (op_assign rfl (ltn rfl)) rfl ?_
    refine VL.done ?_
    refine VN.then ?_
    refine VC.ret ?_
    obtain rfl := Option.some.inj h
    exact VR.fn (rs := [.tmp 2]) [] [] [] rfl (.tmp rfl .nil) ⟨rfl, rfl, rfl⟩ trivial rfl (by decide)
set_option maxHeartbeats 4000000 in
set_option maxRecDepth 100000 in
theorem tarrylaw15_may.ok (a0_0 : Int) (a0_1 : Bool) (a0_2 : Int) (a0_3 : Int) (a0_4 : Int) (a0_5 : Bool)  (r1 : Bool) (h : tarrylaw15_may.f a0_0 a0_1 a0_2 a0_3 a0_4 a0_5 = some r1) :
    VCalls Try.prog 14 [.agg #[.int .i64 a0_0, .bool a0_1, .int .i64 a0_2, .int .i64 a0_3, .int .i64 a0_4, .bool a0_5]] [] (fun v G own => v = .bool r1 ∧ G = [] ∧ own = []) := by
  refine VCalls.intro Try.func14 rfl (len rfl) fun E hC hW hD hU => ?_
  unfold tarrylaw15_may.f at h
  refine VC.seq ?_
  refine VC.region ?_
  refine VL.sG (o_box rfl (.agg (.of rfl)) (ltn rfl)) rfl ?_
  intro g434
  refine VL.va (op_assign rfl (ltn rfl)) rfl ?_
  refine VL.done ?_
  refine VN.then ?_
  refine VC.seq ?_
  refine VC.seq ?_
  refine VC.region ?_
  refine VL.va (op_fieldAddr FI26_5 rfl (add_at _ _ _) (ltn rfl)) rfl ?_
  refine VL.va (op_load 0 1 rfl rfl TI4 rfl (by decide) (ltn rfl)) rfl ?_
  refine VL.va (op_move rfl (ltn rfl)) rfl ?_
  by_cases c445 : a0_5 = true
  · rw [if_pos c445] at h
    obtain rfl := c445
    refine VL.va (op_fieldAddr FI26_1 rfl (add_at _ _ _) (ltn rfl)) rfl ?_
    refine VL.va (op_load 0 1 rfl rfl TI4 rfl (by decide) (ltn rfl)) rfl ?_
    by_cases c446 : a0_1 = true
    · rw [if_pos c446] at h
      obtain rfl := c446
      refine VL.va (op_not rfl rfl (ltn rfl)) rfl ?_
      refine VL.va (op_move rfl (ltn rfl)) rfl ?_
      refine VL.va (op_fieldAddr FI26_3 rfl (add_at _ _ _) (ltn rfl)) rfl ?_
      refine VL.va (op_load 0 1 rfl rfl TI3 rfl (by decide) (ltn rfl)) rfl ?_
      refine VL.letter ((a0_3 != 3)) fun b447 hb447 => ?_
      refine VL.va (op_cmp rfl rfl (congrArg some hb447) (ltn rfl)) rfl ?_
      refine VL.va (op_pick rfl rfl (ltn rfl)) rfl ?_
      refine VL.va (op_pick rfl rfl (ltn rfl)) rfl ?_
      refine VL.done ?_
      refine VN.then ?_
      by_cases c448 : a0_3 = 3
      · rw [if_pos c448] at h
        obtain rfl : b447 = false := hb447.symm.trans (bne_eq_false_iff_eq.2 c448)
        refine VC.cond_f rfl ?_
        refine VC.skip ?_
        refine VN.then ?_
        refine VC.seq ?_
        refine VC.region ?_
        refine VL.va (op_fieldAddr FI26_2 rfl (add_at _ _ _) (ltn rfl)) rfl ?_
        refine VL.va (op_load 0 1 rfl rfl TI3 rfl (by decide) (ltn rfl)) rfl ?_
        replace h := Option.bind_eq_some_iff.1 h
        obtain ⟨t464, hA465, h⟩ := h
        refine VL.sC (o_call0 FO18 (tarrylaw15_in.ok a0_2 t464 hA465) rfl rfl (ltn rfl) (All_of .nil)) rfl ?_
        rintro _ _ _ ⟨rfl, rfl, rfl⟩
        refine VL.va (op_move rfl (ltn rfl)) rfl ?_
        by_cases c466 : t464 = true
        · rw [if_pos c466] at h
          obtain rfl := c466
          refine VL.va (op_fieldAddr FI26_4 rfl (add_at _ _ _) (ltn rfl)) rfl ?_
          refine VL.va (op_load 0 1 rfl rfl TI3 rfl (by decide) (ltn rfl)) rfl ?_
          replace h := Option.bind_eq_some_iff.1 h
          obtain ⟨t467, hA468, h⟩ := h
          refine VL.sC (o_call0 FO18 (tarrylaw15_in.ok a0_4 t467 hA468) rfl rfl (ltn rfl) (All_of .nil)) rfl ?_
          rintro _ _ _ ⟨rfl, rfl, rfl⟩
          refine VL.va (op_pick rfl rfl (ltn rfl)) rfl ?_
          refine VL.va (op_move rfl (ltn rfl)) rfl ?_
          by_cases c469 : t467 = true
          · rw [if_pos c469] at h
            obtain rfl := c469
            refine VL.va (op_fieldAddr FI26_3 rfl (add_at _ _ _) (ltn rfl)) rfl ?_
            refine VL.va (op_load 0 1 rfl rfl TI3 rfl (by decide) (ltn rfl)) rfl ?_
            refine VL.letter (decide (a0_3 ≥ 1)) fun b470 hb470 => ?_
            refine VL.va (op_cmp rfl rfl (congrArg some hb470) (ltn rfl)) rfl ?_
            refine VL.va (op_pick rfl rfl (ltn rfl)) rfl ?_
            refine VL.va (op_move rfl (ltn rfl)) rfl ?_
            by_cases c471 : a0_3 ≥ 1
            · rw [if_pos c471] at h
              obtain rfl : b470 = true := hb470.symm.trans (decide_eq_true c471)
              refine VL.va (op_fieldAddr FI26_3 rfl (add_at _ _ _) (ltn rfl)) rfl ?_
              refine VL.va (op_load 0 1 rfl rfl TI3 rfl (by decide) (ltn rfl)) rfl ?_
              refine VL.letter (decide (a0_3 ≤ 3)) fun b472 hb472 => ?_
              refine VL.va (op_cmp rfl rfl (congrArg some hb472) (ltn rfl)) rfl ?_
              refine VL.va (op_pick rfl rfl (ltn rfl)) rfl ?_
              refine VL.va (op_assign rfl (ltn rfl)) rfl ?_
              refine VL.done ?_
              refine VN.then ?_
              refine VC.ret ?_
              obtain rfl := Option.some.inj h
              subst hb472
              exact VR.fn (rs := [.tmp 2]) [] [] [] rfl (.tmp rfl .nil) ⟨rfl, rfl, rfl⟩ trivial rfl (by decide)
            · rw [if_neg c471] at h
              obtain rfl : b470 = false := hb470.symm.trans (decide_eq_false c471)
              refine VL.un rfl rfl (ltn rfl) ?_
              refine VL.un rfl rfl (ltn rfl) ?_
              refine VL.un rfl rfl (ltn rfl) ?_
              refine VL.va (op_pick rfl rfl (ltn rfl)) rfl ?_
              refine VL.va (op_assign rfl (ltn rfl)) rfl ?_
              refine VL.done ?_
              refine VN.then ?_
              refine VC.ret ?_
              obtain rfl := Option.some.inj h
              exact VR.fn (rs := [.tmp 2]) [] [] [] rfl (.tmp rfl .nil) ⟨rfl, rfl, rfl⟩ trivial rfl (by decide)
          · rw [if_neg c469] at h
            obtain rfl := Bool.eq_false_iff.2 c469
            refine VL.un rfl rfl (ltn rfl) ?_
            refine VL.un rfl rfl (ltn rfl) ?_
            refine VL.un rfl rfl (ltn rfl) ?_
            refine VL.va (op_pick rfl rfl (ltn rfl)) rfl ?_
            refine VL.va (op_move rfl (ltn rfl)) rfl ?_
            refine VL.un rfl rfl (ltn rfl) ?_
            refine VL.un rfl rfl (ltn rfl) ?_
            refine VL.un rfl rfl (ltn rfl) ?_
            refine VL.va (op_pick rfl rfl (ltn rfl)) rfl ?_
            refine VL.va (op_assign rfl (ltn rfl)) rfl ?_
            refine VL.done ?_
            refine VN.then ?_
            refine VC.ret ?_
            obtain rfl := Option.some.inj h
            exact VR.fn (rs := [.tmp 2]) [] [] [] rfl (.tmp rfl .nil) ⟨rfl, rfl, rfl⟩ trivial rfl (by decide)
        · rw [if_neg c466] at h
          obtain rfl := Bool.eq_false_iff.2 c466
          refine VL.un rfl rfl (ltn rfl) ?_
          refine VL.un rfl rfl (ltn rfl) ?_
          refine VL.un rfl rfl (ltn rfl) ?_
          refine VL.va (op_pick rfl rfl (ltn rfl)) rfl ?_
          refine VL.va (op_move rfl (ltn rfl)) rfl ?_
          refine VL.un rfl rfl (ltn rfl) ?_
          refine VL.un rfl rfl (ltn rfl) ?_
          refine VL.un rfl rfl (ltn rfl) ?_
          refine VL.va (op_pick rfl rfl (ltn rfl)) rfl ?_
          refine VL.va (op_move rfl (ltn rfl)) rfl ?_
          refine VL.un rfl rfl (ltn rfl) ?_
          refine VL.un rfl rfl (ltn rfl) ?_
          refine VL.un rfl rfl (ltn rfl) ?_
          refine VL.va (op_pick rfl rfl (ltn rfl)) rfl ?_
          refine VL.va (op_assign rfl (ltn rfl)) rfl ?_
          refine VL.done ?_
          refine VN.then ?_
          refine VC.ret ?_
          obtain rfl := Option.some.inj h
          exact VR.fn (rs := [.tmp 2]) [] [] [] rfl (.tmp rfl .nil) ⟨rfl, rfl, rfl⟩ trivial rfl (by decide)
      · rw [if_neg c448] at h
        obtain rfl : b447 = true := hb447.symm.trans (bne_iff_ne.2 c448)
        refine VC.cond_t rfl ?_
        refine VC.seq ?_
        refine VC.region ?_
        refine VL.va (op_assign rfl (ltn rfl)) rfl ?_
        refine VL.done ?_
        refine VN.then ?_
        refine VC.ret ?_
        refine VR.then ?_
        obtain rfl := Option.some.inj h
        exact VR.fn (rs := [.tmp 2]) [] [] [] rfl (.tmp rfl .nil) ⟨rfl, rfl, rfl⟩ trivial rfl (by decide)
    · rw [if_neg c446] at h
      obtain rfl := Bool.eq_false_iff.2 c446
      refine VL.va (op_not rfl rfl (ltn rfl)) rfl ?_
      refine VL.va (op_move rfl (ltn rfl)) rfl ?_
      refine VL.un rfl rfl (ltn rfl) ?_
      refine VL.un rfl rfl (ltn rfl) ?_
      refine VL.un rfl rfl (ltn rfl) ?_
      refine VL.va (op_pick rfl rfl (ltn rfl)) rfl ?_
      refine VL.va (op_pick rfl rfl (ltn rfl)) rfl ?_
      refine VL.done ?_
      refine VN.then ?_
      refine VC.cond_t rfl ?_
      refine VC.seq ?_
      refine VC.region ?_
      refine VL.va (op_assign rfl (ltn rfl)) rfl ?_
      refine VL.done ?_
      refine VN.then ?_
      refine VC.ret ?_
      refine VR.then ?_
      obtain rfl := Option.some.inj h
      exact VR.fn (rs := [.tmp 2]) [] [] [] rfl (.tmp rfl .nil) ⟨rfl, rfl, rfl⟩ trivial rfl (by decide)
  · rw [if_neg c445] at h
    obtain rfl := Bool.eq_false_iff.2 c445
    refine VL.un rfl rfl (ltn rfl) ?_
    refine VL.un rfl rfl (ltn rfl) ?_
    refine VL.un rfl rfl (ltn rfl) ?_
    refine VL.un rfl rfl (ltn rfl) ?_
    refine VL.un rfl rfl (ltn rfl) ?_
    refine VL.un rfl rfl (ltn rfl) ?_
    refine VL.un rfl rfl (ltn rfl) ?_
    refine VL.un rfl rfl (ltn rfl) ?_
    refine VL.va (op_pick rfl rfl (ltn rfl)) rfl ?_
    refine VL.done ?_
    refine VN.then ?_
    refine VC.cond_f rfl ?_
    refine VC.skip ?_
    refine VN.then ?_
    refine VC.seq ?_
    refine VC.region ?_
    refine VL.va (op_fieldAddr FI26_2 rfl (add_at _ _ _) (ltn rfl)) rfl ?_
    refine VL.va (op_load 0 1 rfl rfl TI3 rfl (by decide) (ltn rfl)) rfl ?_
    replace h := Option.bind_eq_some_iff.1 h
    obtain ⟨t482, hA483, h⟩ := h
    refine VL.sC (o_call0 FO18 (tarrylaw15_in.ok a0_2 t482 hA483) rfl rfl (ltn rfl) (All_of .nil)) rfl ?_
    rintro _ _ _ ⟨rfl, rfl, rfl⟩
    refine VL.va (op_move rfl (ltn rfl)) rfl ?_
    by_cases c484 : t482 = true
    · rw [if_pos c484] at h
      obtain rfl := c484
      refine VL.va (op_fieldAddr FI26_4 rfl (add_at _ _ _) (ltn rfl)) rfl ?_
      refine VL.va (op_load 0 1 rfl rfl TI3 rfl (by decide) (ltn rfl)) rfl ?_
      replace h := Option.bind_eq_some_iff.1 h
      obtain ⟨t485, hA486, h⟩ := h
      refine VL.sC (o_call0 FO18 (tarrylaw15_in.ok a0_4 t485 hA486) rfl rfl (ltn rfl) (All_of .nil)) rfl ?_
      rintro _ _ _ ⟨rfl, rfl, rfl⟩
      refine VL.va (op_pick rfl rfl (ltn rfl)) rfl ?_
      refine VL.va (op_move rfl (ltn rfl)) rfl ?_
      by_cases c487 : t485 = true
      · rw [if_pos c487] at h
        obtain rfl := c487
        refine VL.va (op_fieldAddr FI26_3 rfl (add_at _ _ _) (ltn rfl)) rfl ?_
        refine VL.va (op_load 0 1 rfl rfl TI3 rfl (by decide) (ltn rfl)) rfl ?_
        refine VL.letter (decide (a0_3 ≥ 1)) fun b488 hb488 => ?_
        refine VL.va (op_cmp rfl rfl (congrArg some hb488) (ltn rfl)) rfl ?_
        refine VL.va (op_pick rfl rfl (ltn rfl)) rfl ?_
        refine VL.va (op_move rfl (ltn rfl)) rfl ?_
        by_cases c489 : a0_3 ≥ 1
        · rw [if_pos c489] at h
          obtain rfl : b488 = true := hb488.symm.trans (decide_eq_true c489)
          refine VL.va (op_fieldAddr FI26_3 rfl (add_at _ _ _) (ltn rfl)) rfl ?_
          refine VL.va (op_load 0 1 rfl rfl TI3 rfl (by decide) (ltn rfl)) rfl ?_
          refine VL.letter (decide (a0_3 ≤ 3)) fun b490 hb490 => ?_
          refine VL.va (op_cmp rfl rfl (congrArg some hb490) (ltn rfl)) rfl ?_
          refine VL.va (op_pick rfl rfl (ltn rfl)) rfl ?_
          refine VL.va (op_assign rfl (ltn rfl)) rfl ?_
          refine VL.done ?_
          refine VN.then ?_
          refine VC.ret ?_
          obtain rfl := Option.some.inj h
          subst hb490
          exact VR.fn (rs := [.tmp 2]) [] [] [] rfl (.tmp rfl .nil) ⟨rfl, rfl, rfl⟩ trivial rfl (by decide)
        · rw [if_neg c489] at h
          obtain rfl : b488 = false := hb488.symm.trans (decide_eq_false c489)
          refine VL.un rfl rfl (ltn rfl) ?_
          refine VL.un rfl rfl (ltn rfl) ?_
          refine VL.un rfl rfl (ltn rfl) ?_
          refine VL.va (op_pick rfl rfl (ltn rfl)) rfl ?_
          refine VL.va (op_assign rfl (ltn rfl)) rfl ?_
          refine VL.done ?_
          refine VN.then ?_
          refine VC.ret ?_
          obtain rfl := Option.some.inj h
          exact VR.fn (rs := [.tmp 2]) [] [] [] rfl (.tmp rfl .nil) ⟨rfl, rfl, rfl⟩ trivial rfl (by decide)
      · rw [if_neg c487] at h
        obtain rfl := Bool.eq_false_iff.2 c487
        refine VL.un rfl rfl (ltn rfl) ?_
        refine VL.un rfl rfl (ltn rfl) ?_
        refine VL.un rfl rfl (ltn rfl) ?_
        refine VL.va (op_pick rfl rfl (ltn rfl)) rfl ?_
        refine VL.va (op_move rfl (ltn rfl)) rfl ?_
        refine VL.un rfl rfl (ltn rfl) ?_
        refine VL.un rfl rfl (ltn rfl) ?_
        refine VL.un rfl rfl (ltn rfl) ?_
        refine VL.va (op_pick rfl rfl (ltn rfl)) rfl ?_
        refine VL.va (op_assign rfl (ltn rfl)) rfl ?_
        refine VL.done ?_
        refine VN.then ?_
        refine VC.ret ?_
        obtain rfl := Option.some.inj h
        exact VR.fn (rs := [.tmp 2]) [] [] [] rfl (.tmp rfl .nil) ⟨rfl, rfl, rfl⟩ trivial rfl (by decide)
    · rw [if_neg c484] at h
      obtain rfl := Bool.eq_false_iff.2 c484
      refine VL.un rfl rfl (ltn rfl) ?_
      refine VL.un rfl rfl (ltn rfl) ?_
      refine VL.un rfl rfl (ltn rfl) ?_
      refine VL.va (op_pick rfl rfl (ltn rfl)) rfl ?_
      refine VL.va (op_move rfl (ltn rfl)) rfl ?_
      refine VL.un rfl rfl (ltn rfl) ?_
      refine VL.un rfl rfl (ltn rfl) ?_
      refine VL.un rfl rfl (ltn rfl) ?_
      refine VL.va (op_pick rfl rfl (ltn rfl)) rfl ?_
      refine VL.va (op_move rfl (ltn rfl)) rfl ?_
      refine VL.un rfl rfl (ltn rfl) ?_
      refine VL.un rfl rfl (ltn rfl) ?_
      refine VL.un rfl rfl (ltn rfl) ?_
      refine VL.va (op_pick rfl rfl (ltn rfl)) rfl ?_
      refine VL.va (op_assign rfl (ltn rfl)) rfl ?_
      refine VL.done ?_
      refine VN.then ?_
      refine VC.ret ?_
      obtain rfl := Option.some.inj h
      exact VR.fn (rs := [.tmp 2]) [] [] [] rfl (.tmp rfl .nil) ⟨rfl, rfl, rfl⟩ trivial rfl (by decide)

end Go.Proofs.Ytjghhdnecilcfaa.PNetOnce
