/- Written by a program of this repo: what the program's functions do, each as a Lean function, shown of the loaded code; or a statement's row over that; no condition of its own. -/
import Derived.Test.YtibpoajlnloloaaPStockMovesx8
namespace Go.Proofs.Ytibpoajlnloloaa.PStockMoves
open Go Go.RowKit Go.Proofs.YtibpoajlnloloaaV
set_option linter.unusedVariables false
set_option linter.unusedSimpArgs false

set_option maxHeartbeats 4000000 in
set_option maxRecDepth 100000 in
theorem stock_move_s57.ok (k : Nat) (l0 : List S32) (a1 : ByteArray) (a2 : Int) (v0 : Value) (r1 : List S32) (r2 : Int) (h : stock_move_s57.f k l0 a1 a2 = some (r1, r2)) :
    VCalls Try.prog 28 [v0, .string a1, .int .i64 a2, (.func (.func 37) #[] #[])] [.row v0 6 (l0.map enc32)] (fun v G own => ∃ w0 : Value, v = .tuple #[w0, .int .i64 r2] ∧ G = [] ∧ own = [(w0, 33, 6, r1.map enc32)]) := by
  refine VCalls.intro Try.func28 rfl (len rfl) fun E hC => ?_
  unfold stock_move_s57.f at h
  refine VC.seq ?_
  refine VC.region ?_
  refine VL.va (op_assign rfl (ltn rfl)) rfl ?_
  refine VL.va (op_assign rfl (ltn rfl)) rfl ?_
  refine VL.done ?_
  refine VN.then ?_
  refine VC.seq ?_
  refine VC.seq ?_
  refine VC.region ?_
  refine VL.va (op_move rfl (ltn rfl)) rfl ?_
  replace h := Option.bind_eq_some_iff.1 h
  obtain ⟨t4681, hA4682, h⟩ := h
  refine VL.sC (o_call0 FO9 (stock_Right.ok k l0 v0 t4681 hA4682) rfl rfl (ltn rfl) (All_of (.cons (List.mem_of_getElem? (i := 0) rfl) .nil))) rfl ?_
  rintro _ _ _ ⟨rfl, rfl, rfl⟩
  by_cases c4683 : t4681 = true
  · rw [if_pos c4683] at h
    obtain rfl := c4683
    refine VL.va (op_not rfl rfl (ltn rfl)) rfl ?_
    refine VL.va (op_move rfl (ltn rfl)) rfl ?_
    refine VL.va (op_move rfl (ltn rfl)) rfl ?_
    replace h := Option.bind_eq_some_iff.1 h
    obtain ⟨t4684, hA4685, h⟩ := h
    refine VL.sC (o_call0 FO22 (stock_units.ok a2 t4684 hA4685) rfl rfl (ltn rfl) (All_of .nil)) rfl ?_
    rintro _ _ _ ⟨rfl, rfl, rfl⟩
    by_cases c4686 : t4684 = true
    · rw [if_pos c4686] at h
      obtain rfl := c4686
      refine VL.va (op_not rfl rfl (ltn rfl)) rfl ?_
      refine VL.va (op_pick rfl rfl (ltn rfl)) rfl ?_
      refine VL.done ?_
      refine VN.then ?_
      refine VC.cond_f rfl ?_
      refine VC.skip ?_
      refine VN.then ?_
      refine VC.seq ?_
      refine VC.region ?_
      refine VL.va (op_move rfl (ltn rfl)) rfl ?_
      refine VL.va (op_move rfl (ltn rfl)) rfl ?_
      replace h := Option.bind_eq_some_iff.1 h
      obtain ⟨⟨t4687, t4688⟩, hA4689, h⟩ := h
      dsimp only at h
      refine VL.sC (o_call0 FO24 (stock_at.ok k l0 a1 v0 t4687 t4688 hA4689) rfl rfl (ltn rfl) (All_of (.cons (List.mem_of_getElem? (i := 0) rfl) .nil))) rfl ?_
      rintro _ _ _ ⟨rfl, rfl, rfl⟩
      refine VL.va (op_move rfl (ltn rfl)) rfl ?_
      refine VL.va (op_extract rfl rfl (ltn rfl)) rfl ?_
      refine VL.va (op_extract rfl rfl (ltn rfl)) rfl ?_
      refine VL.va (op_assign rfl (ltn rfl)) rfl ?_
      refine VL.va (op_assign rfl (ltn rfl)) rfl ?_
      refine VL.done ?_
      refine VN.then ?_
      refine VC.seq ?_
      refine VC.seq ?_
      refine VC.region ?_
      refine VL.va (op_move rfl (ltn rfl)) rfl ?_
      by_cases c4694 : t4688 = true
      · rw [if_pos c4694] at h
        obtain rfl := c4694
        refine VL.va (op_not rfl rfl (ltn rfl)) rfl ?_
        refine VL.done ?_
        refine VN.then ?_
        refine VC.cond_f rfl ?_
        refine VC.skip ?_
        refine VN.then ?_
        refine VC.seq ?_
        refine VC.region ?_
        refine VL.va (op_move rfl (ltn rfl)) rfl ?_
        replace h := Option.bind_eq_some_iff.1 h
        obtain ⟨r4695, hA4696, h⟩ := h
        refine VL.sC (o_call_b0 FO25 (slices_Clone_api_Row_api_Row.ok l0 v0 r4695 hA4696) rfl rfl (ltn rfl) (All_of (.cons (.inl (List.mem_of_getElem? (i := 0) rfl)) .nil)) (by rintro _ _ _ ⟨_, rfl, rfl, rfl⟩; rfl)) rfl ?_
        rintro v4698 _ _ ⟨_, rfl, rfl, rfl⟩
        refine VL.va (op_assign rfl (ltn rfl)) rfl ?_
        refine VL.done ?_
        refine VN.then ?_
        refine VC.seq ?_
        refine VC.region ?_
        refine VL.va (op_move rfl (ltn rfl)) rfl ?_
        refine VL.va (op_move rfl (ltn rfl)) rfl ?_
        refine VL.va (op_move rfl (ltn rfl)) rfl ?_
        by_cases c4699 : 0 ≤ t4687
        · rw [if_pos c4699] at h
          replace h := Option.bind_eq_some_iff.1 h
          obtain ⟨x4700, hx4700, h⟩ := h
          refine VL.openR (m := r4695.length) 0 lenm rfl (pos_get hx4700) ?_
          rintro g4701 n4702 rfl
          refine VL.va (op_indexAddr Try.underlying23 TI33 rfl rfl c4699 (lt_get c4699 hx4700) (add_zero_at _ _) (ltn rfl)) rfl ?_
          replace h := Option.bind_eq_some_iff.1 h
          obtain ⟨_, hA4703, h⟩ := h
          refine VL.sC (o_call0 FO37 (stock_Lose_1.ok (⟨g4701, t4687.toNat * 6, none⟩ : Addr) hA4703) rfl rfl (ltn rfl) (All_of .nil)) rfl ?_
          rintro _ _ _ ⟨rfl, rfl, rfl⟩
          refine VL.va (op_move rfl (ltn rfl)) rfl ?_
          refine VL.va (op_extract rfl rfl (ltn rfl)) rfl ?_
          refine VL.va (op_extract rfl rfl (ltn rfl)) rfl ?_
          refine VL.va (op_assign rfl (ltn rfl)) rfl ?_
          refine VL.va (op_assign rfl (ltn rfl)) rfl ?_
          refine VL.done ?_
          refine VN.then ?_
          refine VC.seq ?_
          refine VC.seq ?_
          refine VC.region ?_
          refine VL.va (op_move rfl (ltn rfl)) rfl ?_
          refine VL.va (op_nilCheck rfl (ltn rfl)) rfl ?_
          refine VL.va (op_load_own (sz := 6) (o := 2) 0 t4687.toNat 1 rfl rfl (get_map hx4700) TI3 rfl (by decide) (ltn rfl)) rfl ?_
          refine VL.va (op_move rfl (ltn rfl)) rfl ?_
          refine VL.letter (decide (x4700.f2 < a2)) fun b4707 hb4707 => ?_
          refine VL.va (op_cmp rfl rfl (congrArg some hb4707) (ltn rfl)) rfl ?_
          refine VL.done ?_
          refine VN.then ?_
          by_cases c4708 : x4700.f2 < a2
          · rw [if_pos c4708] at h
            obtain rfl : b4707 = true := hb4707.symm.trans (decide_eq_true c4708)
            refine VC.cond_t rfl ?_
            refine VC.seq ?_
            refine VC.region ?_
            refine VL.va (op_assign rfl (ltn rfl)) rfl ?_
            refine VL.va (op_assign rfl (ltn rfl)) rfl ?_
            refine VL.done ?_
            refine VN.then ?_
            refine VC.ret ?_
            refine VR.then ?_
            simp only [Option.some.injEq, Prod.mk.injEq] at h
            obtain ⟨rfl, rfl⟩ := h
            refine VR.nilRow' 33 6 ?_
            exact VR.fn (rs := [.tmp 8, .tmp 9]) [] [((.slice none 0 0), 33, 6, ([] : List S32).map enc32)] [0] rfl (.tmp rfl (.tmp rfl .nil)) ⟨(.slice none 0 0), rfl, rfl, rfl⟩ trivial rfl (by decide)
          · rw [if_neg c4708] at h
            obtain rfl : b4707 = false := hb4707.symm.trans (decide_eq_false c4708)
            refine VC.cond_f rfl ?_
            refine VC.skip ?_
            refine VN.then ?_
            refine VC.seq ?_
            refine VC.region ?_
            refine VL.va (op_move rfl (ltn rfl)) rfl ?_
            refine VL.va (op_nilCheck rfl (ltn rfl)) rfl ?_
            refine VL.va (op_load_own (sz := 6) (o := 2) 0 t4687.toNat 1 rfl rfl (get_map hx4700) TI3 rfl (by decide) (ltn rfl)) rfl ?_
            refine VL.va (op_move rfl (ltn rfl)) rfl ?_
            refine VL.va (op_ari64 rfl rfl rfl (ltn rfl)) rfl ?_
            refine VL.va (op_nilCheck rfl (ltn rfl)) rfl ?_
            refine VL.step1 (o_store_own (sz := 6) (o := 2) (es3 := List.map enc32 (r4695.set t4687.toNat (⟨x4700.f0, x4700.f1, wrap64 (x4700.f2 - a2), x4700.f3, x4700.f4, x4700.f5⟩ : S32))) 0 t4687.toNat 1 lenm (setm rfl) rfl rfl rfl (get_map hx4700) TI3 (.c rfl) rfl (len rfl)) rfl ?_
            refine VL.done ?_
            refine VN.then ?_
            refine VC.seq ?_
            refine VC.region ?_
            refine VL.va (op_move rfl (ltn rfl)) rfl ?_
            refine VL.va (op_nilCheck rfl (ltn rfl)) rfl ?_
            refine VL.va (op_load_own (sz := 6) (o := 5) 0 t4687.toNat 1 rfl rfl (get_map (set_get hx4700)) TI3 rfl (by decide) (ltn rfl)) rfl ?_
            refine VL.va (op_move rfl (ltn rfl)) rfl ?_
            refine VL.va (op_ari64 rfl rfl rfl (ltn rfl)) rfl ?_
            refine VL.va (op_nilCheck rfl (ltn rfl)) rfl ?_
            refine VL.step1 (o_store_own (sz := 6) (o := 5) (es3 := List.map enc32 ((r4695.set t4687.toNat (⟨x4700.f0, x4700.f1, wrap64 (x4700.f2 - a2), x4700.f3, x4700.f4, x4700.f5⟩ : S32)).set t4687.toNat (⟨x4700.f0, x4700.f1, wrap64 (x4700.f2 - a2), x4700.f3, x4700.f4, wrap64 (x4700.f5 + a2)⟩ : S32))) 0 t4687.toNat 1 (by simp) (setm rfl) rfl rfl rfl (get_map (set_get hx4700)) TI3 (.c rfl) rfl (len rfl)) rfl ?_
            refine VL.done ?_
            refine VN.then ?_
            refine VC.seq ?_
            refine VC.region ?_
            refine VL.va (op_move rfl (ltn rfl)) rfl ?_
            refine VL.va (op_assign rfl (ltn rfl)) rfl ?_
            refine VL.va (op_assign rfl (ltn rfl)) rfl ?_
            refine VL.done ?_
            refine VN.then ?_
            refine VC.ret ?_
            simp only [Option.some.injEq, Prod.mk.injEq] at h
            obtain ⟨rfl, rfl⟩ := h
            exact VR.fn (rs := [.tmp 8, .tmp 9]) [] [((.slice (some ⟨g4701, 0, none⟩) r4695.length n4702), 33, 6, ((r4695.set t4687.toNat (⟨x4700.f0, x4700.f1, wrap64 (x4700.f2 - a2), x4700.f3, x4700.f4, x4700.f5⟩ : S32)).set t4687.toNat (⟨x4700.f0, x4700.f1, wrap64 (x4700.f2 - a2), x4700.f3, x4700.f4, wrap64 (x4700.f5 + a2)⟩ : S32)).map enc32)] [0] rfl (.tmp rfl (.tmp rfl .nil)) ⟨(.slice (some ⟨g4701, 0, none⟩) r4695.length n4702), rfl, rfl, rfl⟩ trivial rfl (by decide)
        · rw [if_neg c4699] at h; cases h
      · rw [if_neg c4694] at h
        obtain rfl := Bool.eq_false_iff.2 c4694
        refine VL.va (op_not rfl rfl (ltn rfl)) rfl ?_
        refine VL.done ?_
        refine VN.then ?_
        refine VC.cond_t rfl ?_
        refine VC.seq ?_
        refine VC.region ?_
        refine VL.va (op_assign rfl (ltn rfl)) rfl ?_
        refine VL.va (op_assign rfl (ltn rfl)) rfl ?_
        refine VL.done ?_
        refine VN.then ?_
        refine VC.ret ?_
        refine VR.then ?_
        simp only [Option.some.injEq, Prod.mk.injEq] at h
        obtain ⟨rfl, rfl⟩ := h
        refine VR.nilRow' 33 6 ?_
        exact VR.fn (rs := [.tmp 8, .tmp 9]) [] [((.slice none 0 0), 33, 6, ([] : List S32).map enc32)] [0] rfl (.tmp rfl (.tmp rfl .nil)) ⟨(.slice none 0 0), rfl, rfl, rfl⟩ trivial rfl (by decide)
    · rw [if_neg c4686] at h
      obtain rfl := Bool.eq_false_iff.2 c4686
      refine VL.va (op_not rfl rfl (ltn rfl)) rfl ?_
      refine VL.va (op_pick rfl rfl (ltn rfl)) rfl ?_
      refine VL.done ?_
      refine VN.then ?_
      refine VC.cond_t rfl ?_
      refine VC.seq ?_
      refine VC.region ?_
      refine VL.va (op_assign rfl (ltn rfl)) rfl ?_
      refine VL.va (op_assign rfl (ltn rfl)) rfl ?_
      refine VL.done ?_
      refine VN.then ?_
      refine VC.ret ?_
      refine VR.then ?_
      simp only [Option.some.injEq, Prod.mk.injEq] at h
      obtain ⟨rfl, rfl⟩ := h
      refine VR.nilRow' 33 6 ?_
      exact VR.fn (rs := [.tmp 8, .tmp 9]) [] [((.slice none 0 0), 33, 6, ([] : List S32).map enc32)] [0] rfl (.tmp rfl (.tmp rfl .nil)) ⟨(.slice none 0 0), rfl, rfl, rfl⟩ trivial rfl (by decide)
  · rw [if_neg c4683] at h
    obtain rfl := Bool.eq_false_iff.2 c4683
    refine VL.va (op_not rfl rfl (ltn rfl)) rfl ?_
    refine VL.va (op_move rfl (ltn rfl)) rfl ?_
    refine VL.un rfl rfl (ltn rfl) ?_
    refine VL.un rfl rfl (ltn rfl) ?_
    refine VL.un rfl rfl (ltn rfl) ?_
    refine VL.va (op_pick rfl rfl (ltn rfl)) rfl ?_
    refine VL.done ?_
    refine VN.then ?_
    refine VC.cond_t rfl ?_
    refine VC.seq ?_
    refine VC.region ?_
    refine VL.va (op_assign rfl (ltn rfl)) rfl ?_
    refine VL.va (op_assign rfl (ltn rfl)) rfl ?_
    refine VL.done ?_
    refine VN.then ?_
    refine VC.ret ?_
    refine VR.then ?_
    simp only [Option.some.injEq, Prod.mk.injEq] at h
    obtain ⟨rfl, rfl⟩ := h
    refine VR.nilRow' 33 6 ?_
    exact VR.fn (rs := [.tmp 8, .tmp 9]) [] [((.slice none 0 0), 33, 6, ([] : List S32).map enc32)] [0] rfl (.tmp rfl (.tmp rfl .nil)) ⟨(.slice none 0 0), rfl, rfl, rfl⟩ trivial rfl (by decide)
set_option maxHeartbeats 4000000 in
set_option maxRecDepth 100000 in
theorem stock_Lose.ok (k : Nat) (l0 : List S32) (a1 : ByteArray) (a2 : Int) (v0 : Value) (r1 : List S32) (r2 : Int) (h : stock_Lose.f k l0 a1 a2 = some (r1, r2)) :
    VCalls Try.prog 21 [v0, .string a1, .int .i64 a2] [.row v0 6 (l0.map enc32)] (fun v G own => ∃ w0 : Value, v = .tuple #[w0, .int .i64 r2] ∧ G = [] ∧ own = [(w0, 33, 6, r1.map enc32)]) := by
  refine VCalls.intro Try.func21 rfl (len rfl) fun E hC => ?_
  unfold stock_Lose.f at h
  refine VC.seq ?_
  refine VC.region ?_
  refine VL.va (op_assign rfl (ltn rfl)) rfl ?_
  refine VL.va (op_assign rfl (ltn rfl)) rfl ?_
  refine VL.done ?_
  refine VN.then ?_
  refine VC.seq ?_
  refine VC.region ?_
  refine VL.va (op_move rfl (ltn rfl)) rfl ?_
  refine VL.va (op_move rfl (ltn rfl)) rfl ?_
  refine VL.va (op_move rfl (ltn rfl)) rfl ?_
  replace h := Option.bind_eq_some_iff.1 h
  obtain ⟨⟨r4717, t4718⟩, hA4719, h⟩ := h
  dsimp only at h
  refine VL.sC (o_call0 FO28 (stock_move_s57.ok k l0 a1 a2 v0 r4717 t4718 hA4719) rfl rfl (ltn rfl) (All_of (.cons (List.mem_of_getElem? (i := 0) rfl) .nil))) rfl ?_
  rintro _ _ _ ⟨v4721, rfl, rfl, rfl⟩
  refine VL.va (op_extract rfl rfl (ltn rfl)) rfl ?_
  refine VL.va (op_extract rfl rfl (ltn rfl)) rfl ?_
  refine VL.va (op_assign rfl (ltn rfl)) rfl ?_
  refine VL.va (op_assign rfl (ltn rfl)) rfl ?_
  refine VL.done ?_
  refine VN.then ?_
  refine VC.ret ?_
  simp only [Option.some.injEq, Prod.mk.injEq] at h
  obtain ⟨rfl, rfl⟩ := h
  exact VR.fn (rs := [.tmp 6, .tmp 7]) [] [(v4721, 33, 6, r4717.map enc32)] [0] rfl (.tmp rfl (.tmp rfl .nil)) ⟨v4721, rfl, rfl, rfl⟩ trivial rfl (by decide)
set_option maxHeartbeats 4000000 in
set_option maxRecDepth 100000 in
theorem tarrylaw08_does.ok (k : Nat) (l0 : List S32) (a1 : ByteArray) (a2 : Int) (a3 : Int) (v0 : Value) (r1 : List S32) (r2 : Int) (h : tarrylaw08_does.f k l0 a1 a2 a3 = some (r1, r2)) :
    VCalls Try.prog 7 [v0, .string a1, .int .i64 a2, .int .i64 a3] [.row v0 6 (l0.map enc32)] (fun v G own => ∃ w0 : Value, v = .tuple #[w0, .int .i64 r2] ∧ G = [] ∧ own = [(w0, 33, 6, r1.map enc32)]) := by
  refine VCalls.intro Try.func7 rfl (len rfl) fun E hC => ?_
  unfold tarrylaw08_does.f at h
  refine VC.seq ?_
  refine VC.region ?_
  refine VL.va (op_assign rfl (ltn rfl)) rfl ?_
  refine VL.va (op_assign rfl (ltn rfl)) rfl ?_
  refine VL.done ?_
  refine VN.then ?_
  refine VC.seq ?_
  refine VC.seq ?_
  refine VC.region ?_
  refine VL.va (op_move rfl (ltn rfl)) rfl ?_
  refine VL.done ?_
  refine VN.then ?_
  refine VC.block ?_
  refine VC.seq ?_
  refine VC.region ?_
  refine VL.letter ((a3 == 1)) fun b4638 hb4638 => ?_
  refine VL.va (op_cmp rfl rfl (congrArg some hb4638) (ltn rfl)) rfl ?_
  refine VL.va (op_assign rfl (ltn rfl)) rfl ?_
  refine VL.done ?_
  refine VN.then ?_
  by_cases c4639 : a3 = 1
  · rw [if_pos c4639] at h
    obtain rfl : b4638 = true := hb4638.symm.trans (beq_iff_eq.2 c4639)
    refine VC.cond_t rfl ?_
    refine VC.seq ?_
    refine VC.region ?_
    refine VL.va (op_move rfl (ltn rfl)) rfl ?_
    refine VL.va (op_move rfl (ltn rfl)) rfl ?_
    refine VL.va (op_move rfl (ltn rfl)) rfl ?_
    replace h := Option.bind_eq_some_iff.1 h
    obtain ⟨⟨r4640, t4641⟩, hA4642, h⟩ := h
    dsimp only at h
    refine VL.sC (o_call0 FO13 (stock_Hold.ok k l0 a1 a2 v0 r4640 t4641 hA4642) rfl rfl (ltn rfl) (All_of (.cons (List.mem_of_getElem? (i := 0) rfl) .nil))) rfl ?_
    rintro _ _ _ ⟨v4644, rfl, rfl, rfl⟩
    refine VL.va (op_extract rfl rfl (ltn rfl)) rfl ?_
    refine VL.va (op_extract rfl rfl (ltn rfl)) rfl ?_
    refine VL.va (op_assign rfl (ltn rfl)) rfl ?_
    refine VL.va (op_assign rfl (ltn rfl)) rfl ?_
    refine VL.done ?_
    refine VN.then ?_
    refine VC.ret ?_
    refine VR.block ?_
    refine VR.then ?_
    simp only [Option.some.injEq, Prod.mk.injEq] at h
    obtain ⟨rfl, rfl⟩ := h
    exact VR.fn (rs := [.tmp 8, .tmp 9]) [] [(v4644, 33, 6, r4640.map enc32)] [0] rfl (.tmp rfl (.tmp rfl .nil)) ⟨v4644, rfl, rfl, rfl⟩ trivial rfl (by decide)
  · rw [if_neg c4639] at h
    obtain rfl : b4638 = false := hb4638.symm.trans (beq_eq_false_iff_ne.2 c4639)
    refine VC.cond_f rfl ?_
    refine VC.seq ?_
    refine VC.region ?_
    refine VL.letter ((a3 == 2)) fun b4645 hb4645 => ?_
    refine VL.va (op_cmp rfl rfl (congrArg some hb4645) (ltn rfl)) rfl ?_
    refine VL.va (op_assign rfl (ltn rfl)) rfl ?_
    refine VL.done ?_
    refine VN.then ?_
    by_cases c4646 : a3 = 2
    · rw [if_pos c4646] at h
      obtain rfl : b4645 = true := hb4645.symm.trans (beq_iff_eq.2 c4646)
      refine VC.cond_t rfl ?_
      refine VC.seq ?_
      refine VC.region ?_
      refine VL.va (op_move rfl (ltn rfl)) rfl ?_
      refine VL.va (op_move rfl (ltn rfl)) rfl ?_
      refine VL.va (op_move rfl (ltn rfl)) rfl ?_
      replace h := Option.bind_eq_some_iff.1 h
      obtain ⟨⟨r4647, t4648⟩, hA4649, h⟩ := h
      dsimp only at h
      refine VL.sC (o_call0 FO15 (stock_Release.ok k l0 a1 a2 v0 r4647 t4648 hA4649) rfl rfl (ltn rfl) (All_of (.cons (List.mem_of_getElem? (i := 0) rfl) .nil))) rfl ?_
      rintro _ _ _ ⟨v4651, rfl, rfl, rfl⟩
      refine VL.va (op_extract rfl rfl (ltn rfl)) rfl ?_
      refine VL.va (op_extract rfl rfl (ltn rfl)) rfl ?_
      refine VL.va (op_assign rfl (ltn rfl)) rfl ?_
      refine VL.va (op_assign rfl (ltn rfl)) rfl ?_
      refine VL.done ?_
      refine VN.then ?_
      refine VC.ret ?_
      refine VR.block ?_
      refine VR.then ?_
      simp only [Option.some.injEq, Prod.mk.injEq] at h
      obtain ⟨rfl, rfl⟩ := h
      exact VR.fn (rs := [.tmp 8, .tmp 9]) [] [(v4651, 33, 6, r4647.map enc32)] [0] rfl (.tmp rfl (.tmp rfl .nil)) ⟨v4651, rfl, rfl, rfl⟩ trivial rfl (by decide)
    · rw [if_neg c4646] at h
      obtain rfl : b4645 = false := hb4645.symm.trans (beq_eq_false_iff_ne.2 c4646)
      refine VC.cond_f rfl ?_
      refine VC.seq ?_
      refine VC.region ?_
      refine VL.letter ((a3 == 3)) fun b4652 hb4652 => ?_
      refine VL.va (op_cmp rfl rfl (congrArg some hb4652) (ltn rfl)) rfl ?_
      refine VL.va (op_assign rfl (ltn rfl)) rfl ?_
      refine VL.done ?_
      refine VN.then ?_
      by_cases c4653 : a3 = 3
      · rw [if_pos c4653] at h
        obtain rfl : b4652 = true := hb4652.symm.trans (beq_iff_eq.2 c4653)
        refine VC.cond_t rfl ?_
        refine VC.seq ?_
        refine VC.region ?_
        refine VL.va (op_move rfl (ltn rfl)) rfl ?_
        refine VL.va (op_move rfl (ltn rfl)) rfl ?_
        refine VL.va (op_move rfl (ltn rfl)) rfl ?_
        replace h := Option.bind_eq_some_iff.1 h
        obtain ⟨⟨r4654, t4655⟩, hA4656, h⟩ := h
        dsimp only at h
        refine VL.sC (o_call0 FO16 (stock_Ship.ok k l0 a1 a2 v0 r4654 t4655 hA4656) rfl rfl (ltn rfl) (All_of (.cons (List.mem_of_getElem? (i := 0) rfl) .nil))) rfl ?_
        rintro _ _ _ ⟨v4658, rfl, rfl, rfl⟩
        refine VL.va (op_extract rfl rfl (ltn rfl)) rfl ?_
        refine VL.va (op_extract rfl rfl (ltn rfl)) rfl ?_
        refine VL.va (op_assign rfl (ltn rfl)) rfl ?_
        refine VL.va (op_assign rfl (ltn rfl)) rfl ?_
        refine VL.done ?_
        refine VN.then ?_
        refine VC.ret ?_
        refine VR.block ?_
        refine VR.then ?_
        simp only [Option.some.injEq, Prod.mk.injEq] at h
        obtain ⟨rfl, rfl⟩ := h
        exact VR.fn (rs := [.tmp 8, .tmp 9]) [] [(v4658, 33, 6, r4654.map enc32)] [0] rfl (.tmp rfl (.tmp rfl .nil)) ⟨v4658, rfl, rfl, rfl⟩ trivial rfl (by decide)
      · rw [if_neg c4653] at h
        obtain rfl : b4652 = false := hb4652.symm.trans (beq_eq_false_iff_ne.2 c4653)
        refine VC.cond_f rfl ?_
        refine VC.skip ?_
        refine VN.block ?_
        refine VN.then ?_
        refine VC.seq ?_
        refine VC.region ?_
        refine VL.va (op_move rfl (ltn rfl)) rfl ?_
        refine VL.va (op_move rfl (ltn rfl)) rfl ?_
        refine VL.va (op_move rfl (ltn rfl)) rfl ?_
        replace h := Option.bind_eq_some_iff.1 h
        obtain ⟨⟨r4722, t4723⟩, hA4724, h⟩ := h
        dsimp only at h
        refine VL.sC (o_call0 FO21 (stock_Lose.ok k l0 a1 a2 v0 r4722 t4723 hA4724) rfl rfl (ltn rfl) (All_of (.cons (List.mem_of_getElem? (i := 0) rfl) .nil))) rfl ?_
        rintro _ _ _ ⟨v4726, rfl, rfl, rfl⟩
        refine VL.va (op_extract rfl rfl (ltn rfl)) rfl ?_
        refine VL.va (op_extract rfl rfl (ltn rfl)) rfl ?_
        refine VL.va (op_assign rfl (ltn rfl)) rfl ?_
        refine VL.va (op_assign rfl (ltn rfl)) rfl ?_
        refine VL.done ?_
        refine VN.then ?_
        refine VC.ret ?_
        simp only [Option.some.injEq, Prod.mk.injEq] at h
        obtain ⟨rfl, rfl⟩ := h
        exact VR.fn (rs := [.tmp 8, .tmp 9]) [] [(v4726, 33, 6, r4722.map enc32)] [0] rfl (.tmp rfl (.tmp rfl .nil)) ⟨v4726, rfl, rfl, rfl⟩ trivial rfl (by decide)
set_option maxHeartbeats 4000000 in
set_option maxRecDepth 100000 in
theorem tarryref08_Move.ok (k : Nat) (l0 : List S32) (a1 : ByteArray) (a2 : Int) (a3 : Int) (v0 : Value) (r1 : List S32) (r2 : Int) (h : tarryref08_Move.f k l0 a1 a2 a3 = some (r1, r2)) :
    VCalls Try.prog 19 [v0, .string a1, .int .i64 a2, .int .i64 a3] [.row v0 6 (l0.map enc32)] (fun v G own => ∃ w0 : Value, v = .agg #[w0, .int .i64 r2] ∧ G = [] ∧ own = [(w0, 33, 6, r1.map enc32)]) := by
  refine VCalls.intro Try.func19 rfl (len rfl) fun E hC => ?_
  unfold tarryref08_Move.f at h
  refine VC.seq ?_
  refine VC.region ?_
  refine VL.sG (o_alloc (us := [.slice none 0 0, .int .i64 0]) Z43 rfl (ltn rfl)) rfl ?_
  intro g4733
  refine VL.done ?_
  refine VN.then ?_
  refine VC.seq ?_
  refine VC.seq ?_
  refine VC.region ?_
  refine VL.va (op_move rfl (ltn rfl)) rfl ?_
  replace h := Option.bind_eq_some_iff.1 h
  obtain ⟨t4754, hA4755, h⟩ := h
  refine VL.sC (o_call0 FO18 (tarryref08_Right.ok k l0 v0 t4754 hA4755) rfl rfl (ltn rfl) (All_of (.cons (List.mem_of_getElem? (i := 0) rfl) .nil))) rfl ?_
  rintro _ _ _ ⟨rfl, rfl, rfl⟩
  by_cases c4756 : t4754 = true
  · rw [if_pos c4756] at h
    obtain rfl := c4756
    refine VL.va (op_not rfl rfl (ltn rfl)) rfl ?_
    refine VL.va (op_move rfl (ltn rfl)) rfl ?_
    refine VL.va (op_move rfl (ltn rfl)) rfl ?_
    replace h := Option.bind_eq_some_iff.1 h
    obtain ⟨t4757, hA4758, h⟩ := h
    refine VL.sC (o_call0 FO32 (tarryref08_units.ok a2 t4757 hA4758) rfl rfl (ltn rfl) (All_of .nil)) rfl ?_
    rintro _ _ _ ⟨rfl, rfl, rfl⟩
    by_cases c4759 : t4757 = true
    · rw [if_pos c4759] at h
      obtain rfl := c4759
      refine VL.va (op_not rfl rfl (ltn rfl)) rfl ?_
      refine VL.va (op_pick rfl rfl (ltn rfl)) rfl ?_
      refine VL.done ?_
      refine VN.then ?_
      refine VC.cond_f rfl ?_
      refine VC.skip ?_
      refine VN.then ?_
      refine VC.seq ?_
      refine VC.region ?_
      refine VL.va (op_move rfl (ltn rfl)) rfl ?_
      refine VL.va (op_move rfl (ltn rfl)) rfl ?_
      replace h := Option.bind_eq_some_iff.1 h
      obtain ⟨⟨t4760, t4761, t4762, t4763, t4764, t4765⟩, hA4766, h⟩ := h
      dsimp only at h
      refine VL.sC (o_call0 FO20 (tarryref08_Get.ok k l0 a1 v0 t4760 t4761 t4762 t4763 t4764 t4765 hA4766) rfl rfl (ltn rfl) (All_of (.cons (List.mem_of_getElem? (i := 0) rfl) .nil))) rfl ?_
      rintro _ _ _ ⟨rfl, rfl, rfl⟩
      refine VL.sG (o_alloc (us := [.string (⟨#[]⟩ : ByteArray), .int .i64 0, .int .i64 0, .int .i64 0, .int .i64 0, .int .i64 0]) Z33 rfl (ltn rfl)) rfl ?_
      intro g4767
      refine VL.step1 (o_store 0 6 rfl rfl rfl TI33 (.agg (.c rfl (.c rfl (.c rfl (.c rfl (.c rfl (.c rfl .nil))))))) rfl (len rfl)) rfl ?_
      refine VL.done ?_
      refine VN.then ?_
      refine VC.seq ?_
      refine VC.seq ?_
      refine VC.region ?_
      refine VL.va (op_fieldAddr FI33_0 rfl (add_at _ _ _) (ltn rfl)) rfl ?_
      refine VL.va (op_load 0 1 rfl rfl TI9 rfl (by decide) (ltn rfl)) rfl ?_
      refine VL.letter ((t4760 == (⟨#[]⟩ : ByteArray))) fun b4771 hb4771 => ?_
      refine VL.va (op_cmps rfl rfl (congrArg some hb4771) (ltn rfl)) rfl ?_
      refine VL.done ?_
      refine VN.then ?_
      by_cases c4772 : (t4760 == (⟨#[]⟩ : ByteArray)) = true
      · rw [if_pos c4772] at h
        obtain rfl : b4771 = true := hb4771.symm.trans (c4772)
        refine VC.cond_t rfl ?_
        refine VC.seq ?_
        refine VC.region ?_
        refine VL.va (op_build (vals := [(1, .int .i64 8)]) (vcs := [(1, [.int .i64 8])]) (cells := [.slice none 0 0, .int .i64 8]) SI43 rfl (.cons ⟨rfl, (.c rfl)⟩ .nil) (by kernel_rfl) (ltn rfl)) rfl ?_
        refine VL.step1 (o_store 1 2 rfl rfl rfl TI43 (.agg (.c rfl (.c rfl .nil))) rfl (len rfl)) rfl ?_
        refine VL.done ?_
        refine VN.then ?_
        refine VC.ret ?_
        refine VR.then ?_
        simp only [Option.some.injEq, Prod.mk.injEq] at h
        obtain ⟨rfl, rfl⟩ := h
        refine VR.nilRow' 33 6 ?_
        exact VR.fn (rs := [.cell 8 43]) [] [((.slice none 0 0), 33, 6, ([] : List S32).map enc32)] [0] rfl (.cell 1 rfl rfl TI43 (fun h => absurd h (by decide)) .nil) ⟨(.slice none 0 0), rfl, rfl, rfl⟩ trivial rfl (by decide)
      · rw [if_neg c4772] at h
        obtain rfl : b4771 = false := hb4771.symm.trans (Bool.eq_false_iff.2 c4772)
        refine VC.cond_f rfl ?_
        refine VC.skip ?_
        refine VN.then ?_
        refine VC.seq ?_
        refine VC.region ?_
        refine VL.va (op_fieldAddr FI33_2 rfl (add_at _ _ _) (ltn rfl)) rfl ?_
        refine VL.va (op_load 0 1 rfl rfl TI3 rfl (by decide) (ltn rfl)) rfl ?_
        refine VL.va (op_assign rfl (ltn rfl)) rfl ?_
        refine VL.done ?_
        refine VN.then ?_
        refine VC.join1 (fun (i5012 : Int) => ⟨94, [(0, v0), (2, .int .i64 a2), (3, .int .i64 a3), (8, .pointer (some ⟨g4733, 0, none⟩)), (9, .pointer (some ⟨g4767, 0, none⟩)), (10, .int .i64 i5012)], [.row v0 6 (l0.map enc32)], [(g4767, 33, [.string t4760, .int .i64 t4761, .int .i64 t4762, .int .i64 t4763, .int .i64 t4764, .int .i64 t4765]), (g4733, 43, [.slice none 0 0, .int .i64 0])], []⟩) (fun (i5012 : Int) => tarryref08_Move.j1 k a2 a3 l0 t4760 t4761 t4762 t4763 t4764 t4765 i5012 = some (r1, r2)) ?_ ?_
        · refine VC.seq ?_
          refine VC.region ?_
          refine VL.va (op_move rfl (ltn rfl)) rfl ?_
          refine VL.letter ((a3 == 2)) fun b5008 hb5008 => ?_
          refine VL.va (op_cmp rfl rfl (congrArg some hb5008) (ltn rfl)) rfl ?_
          refine VL.va (op_move rfl (ltn rfl)) rfl ?_
          by_cases c5009 : a3 = 2
          · rw [if_pos c5009] at h
            obtain rfl : b5008 = true := hb5008.symm.trans (beq_iff_eq.2 c5009)
            refine VL.un rfl rfl (ltn rfl) ?_
            refine VL.un rfl rfl (ltn rfl) ?_
            refine VL.va (op_pick rfl rfl (ltn rfl)) rfl ?_
            refine VL.done ?_
            refine VN.then ?_
            refine VC.cond_t rfl ?_
            refine VC.region ?_
            refine VL.va (op_fieldAddr FI33_3 rfl (add_at _ _ _) (ltn rfl)) rfl ?_
            refine VL.va (op_load 0 1 rfl rfl TI3 rfl (by decide) (ltn rfl)) rfl ?_
            refine VL.va (op_assign rfl (ltn rfl)) rfl ?_
            refine VL.done ?_
            refine VN.meet1 t4763 [0, 1] [] h ⟨rfl, ⟨rfl, rfl, rfl, rfl, rfl, rfl, trivial⟩, ⟨⟨0, rfl⟩, trivial⟩, rfl, by decide, rfl, by decide⟩
          · rw [if_neg c5009] at h
            obtain rfl : b5008 = false := hb5008.symm.trans (beq_eq_false_iff_ne.2 c5009)
            refine VL.va (op_move rfl (ltn rfl)) rfl ?_
            refine VL.letter ((a3 == 3)) fun b5010 hb5010 => ?_
            refine VL.va (op_cmp rfl rfl (congrArg some hb5010) (ltn rfl)) rfl ?_
            refine VL.va (op_pick rfl rfl (ltn rfl)) rfl ?_
            refine VL.done ?_
            refine VN.then ?_
            by_cases c5011 : a3 = 3
            · rw [if_pos c5011] at h
              obtain rfl : b5010 = true := hb5010.symm.trans (beq_iff_eq.2 c5011)
              refine VC.cond_t rfl ?_
              refine VC.region ?_
              refine VL.va (op_fieldAddr FI33_3 rfl (add_at _ _ _) (ltn rfl)) rfl ?_
              refine VL.va (op_load 0 1 rfl rfl TI3 rfl (by decide) (ltn rfl)) rfl ?_
              refine VL.va (op_assign rfl (ltn rfl)) rfl ?_
              refine VL.done ?_
              refine VN.meet1 t4763 [0, 1] [] h ⟨rfl, ⟨rfl, rfl, rfl, rfl, rfl, rfl, trivial⟩, ⟨⟨0, rfl⟩, trivial⟩, rfl, by decide, rfl, by decide⟩
            · rw [if_neg c5011] at h
              obtain rfl : b5010 = false := hb5010.symm.trans (beq_eq_false_iff_ne.2 c5011)
              refine VC.cond_f rfl ?_
              refine VC.skip ?_
              refine VN.meet1 t4762 [0, 1] [] h ⟨rfl, ⟨rfl, rfl, rfl, rfl, rfl, rfl, trivial⟩, ⟨⟨0, rfl⟩, trivial⟩, rfl, by decide, rfl, by decide⟩
        clear h
        intro i5012 h
        unfold tarryref08_Move.j1 at h
        refine VC.seq ?_
        refine VC.seq ?_
        refine VC.region ?_
        refine VL.va (op_move rfl (ltn rfl)) rfl ?_
        refine VL.va (op_move rfl (ltn rfl)) rfl ?_
        refine VL.letter (decide (i5012 < a2)) fun b5016 hb5016 => ?_
        refine VL.va (op_cmp rfl rfl (congrArg some hb5016) (ltn rfl)) rfl ?_
        refine VL.done ?_
        refine VN.then ?_
        by_cases c5017 : i5012 < a2
        · rw [if_pos c5017] at h
          obtain rfl : b5016 = true := hb5016.symm.trans (decide_eq_true c5017)
          refine VC.cond_t rfl ?_
          refine VC.seq ?_
          refine VC.region ?_
          refine VL.va (op_build (vals := [(1, .int .i64 11)]) (vcs := [(1, [.int .i64 11])]) (cells := [.slice none 0 0, .int .i64 11]) SI43 rfl (.cons ⟨rfl, (.c rfl)⟩ .nil) (by kernel_rfl) (ltn rfl)) rfl ?_
          refine VL.step1 (o_store 1 2 rfl rfl rfl TI43 (.agg (.c rfl (.c rfl .nil))) rfl (len rfl)) rfl ?_
          refine VL.done ?_
          refine VN.then ?_
          refine VC.ret ?_
          refine VR.then ?_
          simp only [Option.some.injEq, Prod.mk.injEq] at h
          obtain ⟨rfl, rfl⟩ := h
          refine VR.nilRow' 33 6 ?_
          exact VR.fn (rs := [.cell 8 43]) [] [((.slice none 0 0), 33, 6, ([] : List S32).map enc32)] [0] rfl (.cell 1 rfl rfl TI43 (fun h => absurd h (by decide)) .nil) ⟨(.slice none 0 0), rfl, rfl, rfl⟩ trivial rfl (by decide)
        · rw [if_neg c5017] at h
          obtain rfl : b5016 = false := hb5016.symm.trans (decide_eq_false c5017)
          refine VC.cond_f rfl ?_
          refine VC.skip ?_
          refine VN.then ?_
          refine VC.seq ?_
          refine VC.seq ?_
          refine VC.region ?_
          refine VL.va (op_move rfl (ltn rfl)) rfl ?_
          refine VL.done ?_
          refine VN.then ?_
          refine VC.block ?_
          refine VC.seq ?_
          refine VC.region ?_
          refine VL.letter ((a3 == 1)) fun b5027 hb5027 => ?_
          refine VL.va (op_cmp rfl rfl (congrArg some hb5027) (ltn rfl)) rfl ?_
          refine VL.va (op_assign rfl (ltn rfl)) rfl ?_
          refine VL.done ?_
          refine VN.then ?_
          by_cases c5028 : a3 = 1
          · rw [if_pos c5028] at h
            obtain rfl : b5027 = true := hb5027.symm.trans (beq_iff_eq.2 c5028)
            refine VC.cond_t rfl ?_
            refine VC.seq ?_
            refine VC.region ?_
            refine VL.va (op_fieldAddr FI33_2 rfl (add_at _ _ _) (ltn rfl)) rfl ?_
            refine VL.va (op_load 0 1 rfl rfl TI3 rfl (by decide) (ltn rfl)) rfl ?_
            refine VL.va (op_move rfl (ltn rfl)) rfl ?_
            refine VL.va (op_ari64 rfl rfl rfl (ltn rfl)) rfl ?_
            refine VL.va (op_fieldAddr FI33_2 rfl (add_at _ _ _) (ltn rfl)) rfl ?_
            refine VL.step1 (o_store 0 1 rfl rfl rfl TI3 (.c rfl) rfl (len rfl)) rfl ?_
            refine VL.done ?_
            refine VN.then ?_
            refine VC.region ?_
            refine VL.va (op_fieldAddr FI33_3 rfl (add_at _ _ _) (ltn rfl)) rfl ?_
            refine VL.va (op_load 0 1 rfl rfl TI3 rfl (by decide) (ltn rfl)) rfl ?_
            refine VL.va (op_move rfl (ltn rfl)) rfl ?_
            refine VL.va (op_ari64 rfl rfl rfl (ltn rfl)) rfl ?_
            refine VL.va (op_fieldAddr FI33_3 rfl (add_at _ _ _) (ltn rfl)) rfl ?_
            refine VL.step1 (o_store 0 1 rfl rfl rfl TI3 (.c rfl) rfl (len rfl)) rfl ?_
            refine VL.done ?_
            refine VN.block ?_
            refine VN.then ?_
            refine VC.seq ?_
            refine VC.region ?_
            refine VL.va (op_move rfl (ltn rfl)) rfl ?_
            refine VL.va (op_load 0 6 rfl rfl TI33 rfl (fun h => absurd h (by decide)) (ltn rfl)) rfl ?_
            replace h := Option.bind_eq_some_iff.1 h
            obtain ⟨r5029, hA5030, h⟩ := h
            refine VL.sC (o_call0 FO34 (tarryref08_Set.ok k l0 t4760 t4761 (wrap64 (t4762 - a2)) (wrap64 (t4763 + a2)) t4764 t4765 v0 r5029 hA5030) rfl rfl (ltn rfl) (All_of (.cons (List.mem_of_getElem? (i := 0) rfl) .nil))) rfl ?_
            rintro v5032 _ _ ⟨_, rfl, rfl, rfl⟩
            refine VL.va (op_build (vals := [(0, v5032)]) (vcs := [(0, [v5032])]) (cells := [v5032, .int .i64 0]) SI43 rfl (.cons ⟨rfl, (.r 0 rfl)⟩ .nil) (by kernel_rfl) (ltn rfl)) rfl ?_
            refine VL.step1 (o_store 1 2 rfl rfl rfl TI43 (.agg (.r 0 rfl (.c rfl .nil))) rfl (len rfl)) rfl ?_
            refine VL.done ?_
            refine VN.then ?_
            refine VC.ret ?_
            simp only [Option.some.injEq, Prod.mk.injEq] at h
            obtain ⟨rfl, rfl⟩ := h
            exact VR.fn (rs := [.cell 8 43]) [] [(v5032, 33, 6, r5029.map enc32)] [0] rfl (.cell 1 rfl rfl TI43 (fun h => absurd h (by decide)) .nil) ⟨v5032, rfl, rfl, rfl⟩ trivial rfl (by decide)
          · rw [if_neg c5028] at h
            obtain rfl : b5027 = false := hb5027.symm.trans (beq_eq_false_iff_ne.2 c5028)
            refine VC.cond_f rfl ?_
            refine VC.seq ?_
            refine VC.region ?_
            refine VL.letter ((a3 == 2)) fun b5033 hb5033 => ?_
            refine VL.va (op_cmp rfl rfl (congrArg some hb5033) (ltn rfl)) rfl ?_
            refine VL.va (op_assign rfl (ltn rfl)) rfl ?_
            refine VL.done ?_
            refine VN.then ?_
            by_cases c5034 : a3 = 2
            · rw [if_pos c5034] at h
              obtain rfl : b5033 = true := hb5033.symm.trans (beq_iff_eq.2 c5034)
              refine VC.cond_t rfl ?_
              refine VC.seq ?_
              refine VC.region ?_
              refine VL.va (op_fieldAddr FI33_3 rfl (add_at _ _ _) (ltn rfl)) rfl ?_
              refine VL.va (op_load 0 1 rfl rfl TI3 rfl (by decide) (ltn rfl)) rfl ?_
              refine VL.va (op_move rfl (ltn rfl)) rfl ?_
              refine VL.va (op_ari64 rfl rfl rfl (ltn rfl)) rfl ?_
              refine VL.va (op_fieldAddr FI33_3 rfl (add_at _ _ _) (ltn rfl)) rfl ?_
              refine VL.step1 (o_store 0 1 rfl rfl rfl TI3 (.c rfl) rfl (len rfl)) rfl ?_
              refine VL.done ?_
              refine VN.then ?_
              refine VC.region ?_
              refine VL.va (op_fieldAddr FI33_2 rfl (add_at _ _ _) (ltn rfl)) rfl ?_
              refine VL.va (op_load 0 1 rfl rfl TI3 rfl (by decide) (ltn rfl)) rfl ?_
              refine VL.va (op_move rfl (ltn rfl)) rfl ?_
              refine VL.va (op_ari64 rfl rfl rfl (ltn rfl)) rfl ?_
              refine VL.va (op_fieldAddr FI33_2 rfl (add_at _ _ _) (ltn rfl)) rfl ?_
              refine VL.step1 (o_store 0 1 rfl rfl rfl TI3 (.c rfl) rfl (len rfl)) rfl ?_
              refine VL.done ?_
              refine VN.block ?_
              refine VN.then ?_
              refine VC.seq ?_
              refine VC.region ?_
              refine VL.va (op_move rfl (ltn rfl)) rfl ?_
              refine VL.va (op_load 0 6 rfl rfl TI33 rfl (fun h => absurd h (by decide)) (ltn rfl)) rfl ?_
              replace h := Option.bind_eq_some_iff.1 h
              obtain ⟨r5035, hA5036, h⟩ := h
              refine VL.sC (o_call0 FO34 (tarryref08_Set.ok k l0 t4760 t4761 (wrap64 (t4762 + a2)) (wrap64 (t4763 - a2)) t4764 t4765 v0 r5035 hA5036) rfl rfl (ltn rfl) (All_of (.cons (List.mem_of_getElem? (i := 0) rfl) .nil))) rfl ?_
              rintro v5038 _ _ ⟨_, rfl, rfl, rfl⟩
              refine VL.va (op_build (vals := [(0, v5038)]) (vcs := [(0, [v5038])]) (cells := [v5038, .int .i64 0]) SI43 rfl (.cons ⟨rfl, (.r 0 rfl)⟩ .nil) (by kernel_rfl) (ltn rfl)) rfl ?_
              refine VL.step1 (o_store 1 2 rfl rfl rfl TI43 (.agg (.r 0 rfl (.c rfl .nil))) rfl (len rfl)) rfl ?_
              refine VL.done ?_
              refine VN.then ?_
              refine VC.ret ?_
              simp only [Option.some.injEq, Prod.mk.injEq] at h
              obtain ⟨rfl, rfl⟩ := h
              exact VR.fn (rs := [.cell 8 43]) [] [(v5038, 33, 6, r5035.map enc32)] [0] rfl (.cell 1 rfl rfl TI43 (fun h => absurd h (by decide)) .nil) ⟨v5038, rfl, rfl, rfl⟩ trivial rfl (by decide)
            · rw [if_neg c5034] at h
              obtain rfl : b5033 = false := hb5033.symm.trans (beq_eq_false_iff_ne.2 c5034)
              refine VC.cond_f rfl ?_
              refine VC.seq ?_
              refine VC.region ?_
              refine VL.letter ((a3 == 3)) fun b5039 hb5039 => ?_
              refine VL.va (op_cmp rfl rfl (congrArg some hb5039) (ltn rfl)) rfl ?_
              refine VL.va (op_assign rfl (ltn rfl)) rfl ?_
              refine VL.done ?_
              refine VN.then ?_
              by_cases c5040 : a3 = 3
              · rw [if_pos c5040] at h
                obtain rfl : b5039 = true := hb5039.symm.trans (beq_iff_eq.2 c5040)
                refine VC.cond_t rfl ?_
                refine VC.seq ?_
                refine VC.region ?_
                refine VL.va (op_fieldAddr FI33_3 rfl (add_at _ _ _) (ltn rfl)) rfl ?_
                refine VL.va (op_load 0 1 rfl rfl TI3 rfl (by decide) (ltn rfl)) rfl ?_
                refine VL.va (op_move rfl (ltn rfl)) rfl ?_
                refine VL.va (op_ari64 rfl rfl rfl (ltn rfl)) rfl ?_
                refine VL.va (op_fieldAddr FI33_3 rfl (add_at _ _ _) (ltn rfl)) rfl ?_
                refine VL.step1 (o_store 0 1 rfl rfl rfl TI3 (.c rfl) rfl (len rfl)) rfl ?_
                refine VL.done ?_
                refine VN.then ?_
                refine VC.region ?_
                refine VL.va (op_fieldAddr FI33_4 rfl (add_at _ _ _) (ltn rfl)) rfl ?_
                refine VL.va (op_load 0 1 rfl rfl TI3 rfl (by decide) (ltn rfl)) rfl ?_
                refine VL.va (op_move rfl (ltn rfl)) rfl ?_
                refine VL.va (op_ari64 rfl rfl rfl (ltn rfl)) rfl ?_
                refine VL.va (op_fieldAddr FI33_4 rfl (add_at _ _ _) (ltn rfl)) rfl ?_
                refine VL.step1 (o_store 0 1 rfl rfl rfl TI3 (.c rfl) rfl (len rfl)) rfl ?_
                refine VL.done ?_
                refine VN.block ?_
                refine VN.then ?_
                refine VC.seq ?_
                refine VC.region ?_
                refine VL.va (op_move rfl (ltn rfl)) rfl ?_
                refine VL.va (op_load 0 6 rfl rfl TI33 rfl (fun h => absurd h (by decide)) (ltn rfl)) rfl ?_
                replace h := Option.bind_eq_some_iff.1 h
                obtain ⟨r5041, hA5042, h⟩ := h
                refine VL.sC (o_call0 FO34 (tarryref08_Set.ok k l0 t4760 t4761 t4762 (wrap64 (t4763 - a2)) (wrap64 (t4764 + a2)) t4765 v0 r5041 hA5042) rfl rfl (ltn rfl) (All_of (.cons (List.mem_of_getElem? (i := 0) rfl) .nil))) rfl ?_
                rintro v5044 _ _ ⟨_, rfl, rfl, rfl⟩
                refine VL.va (op_build (vals := [(0, v5044)]) (vcs := [(0, [v5044])]) (cells := [v5044, .int .i64 0]) SI43 rfl (.cons ⟨rfl, (.r 0 rfl)⟩ .nil) (by kernel_rfl) (ltn rfl)) rfl ?_
                refine VL.step1 (o_store 1 2 rfl rfl rfl TI43 (.agg (.r 0 rfl (.c rfl .nil))) rfl (len rfl)) rfl ?_
                refine VL.done ?_
                refine VN.then ?_
                refine VC.ret ?_
                simp only [Option.some.injEq, Prod.mk.injEq] at h
                obtain ⟨rfl, rfl⟩ := h
                exact VR.fn (rs := [.cell 8 43]) [] [(v5044, 33, 6, r5041.map enc32)] [0] rfl (.cell 1 rfl rfl TI43 (fun h => absurd h (by decide)) .nil) ⟨v5044, rfl, rfl, rfl⟩ trivial rfl (by decide)
              · rw [if_neg c5040] at h
                obtain rfl : b5039 = false := hb5039.symm.trans (beq_eq_false_iff_ne.2 c5040)
                refine VC.cond_f rfl ?_
                refine VC.seq ?_
                refine VC.region ?_
                refine VL.letter ((a3 == 4)) fun b5045 hb5045 => ?_
                refine VL.va (op_cmp rfl rfl (congrArg some hb5045) (ltn rfl)) rfl ?_
                refine VL.va (op_assign rfl (ltn rfl)) rfl ?_
                refine VL.done ?_
                refine VN.then ?_
                by_cases c5046 : a3 = 4
                · rw [if_pos c5046] at h
                  obtain rfl : b5045 = true := hb5045.symm.trans (beq_iff_eq.2 c5046)
                  refine VC.cond_t rfl ?_
                  refine VC.seq ?_
                  refine VC.region ?_
                  refine VL.va (op_fieldAddr FI33_2 rfl (add_at _ _ _) (ltn rfl)) rfl ?_
                  refine VL.va (op_load 0 1 rfl rfl TI3 rfl (by decide) (ltn rfl)) rfl ?_
                  refine VL.va (op_move rfl (ltn rfl)) rfl ?_
                  refine VL.va (op_ari64 rfl rfl rfl (ltn rfl)) rfl ?_
                  refine VL.va (op_fieldAddr FI33_2 rfl (add_at _ _ _) (ltn rfl)) rfl ?_
                  refine VL.step1 (o_store 0 1 rfl rfl rfl TI3 (.c rfl) rfl (len rfl)) rfl ?_
                  refine VL.done ?_
                  refine VN.then ?_
                  refine VC.region ?_
                  refine VL.va (op_fieldAddr FI33_5 rfl (add_at _ _ _) (ltn rfl)) rfl ?_
                  refine VL.va (op_load 0 1 rfl rfl TI3 rfl (by decide) (ltn rfl)) rfl ?_
                  refine VL.va (op_move rfl (ltn rfl)) rfl ?_
                  refine VL.va (op_ari64 rfl rfl rfl (ltn rfl)) rfl ?_
                  refine VL.va (op_fieldAddr FI33_5 rfl (add_at _ _ _) (ltn rfl)) rfl ?_
                  refine VL.step1 (o_store 0 1 rfl rfl rfl TI3 (.c rfl) rfl (len rfl)) rfl ?_
                  refine VL.done ?_
                  refine VN.block ?_
                  refine VN.then ?_
                  refine VC.seq ?_
                  refine VC.region ?_
                  refine VL.va (op_move rfl (ltn rfl)) rfl ?_
                  refine VL.va (op_load 0 6 rfl rfl TI33 rfl (fun h => absurd h (by decide)) (ltn rfl)) rfl ?_
                  replace h := Option.bind_eq_some_iff.1 h
                  obtain ⟨r5047, hA5048, h⟩ := h
                  refine VL.sC (o_call0 FO34 (tarryref08_Set.ok k l0 t4760 t4761 (wrap64 (t4762 - a2)) t4763 t4764 (wrap64 (t4765 + a2)) v0 r5047 hA5048) rfl rfl (ltn rfl) (All_of (.cons (List.mem_of_getElem? (i := 0) rfl) .nil))) rfl ?_
                  rintro v5050 _ _ ⟨_, rfl, rfl, rfl⟩
                  refine VL.va (op_build (vals := [(0, v5050)]) (vcs := [(0, [v5050])]) (cells := [v5050, .int .i64 0]) SI43 rfl (.cons ⟨rfl, (.r 0 rfl)⟩ .nil) (by kernel_rfl) (ltn rfl)) rfl ?_
                  refine VL.step1 (o_store 1 2 rfl rfl rfl TI43 (.agg (.r 0 rfl (.c rfl .nil))) rfl (len rfl)) rfl ?_
                  refine VL.done ?_
                  refine VN.then ?_
                  refine VC.ret ?_
                  simp only [Option.some.injEq, Prod.mk.injEq] at h
                  obtain ⟨rfl, rfl⟩ := h
                  exact VR.fn (rs := [.cell 8 43]) [] [(v5050, 33, 6, r5047.map enc32)] [0] rfl (.cell 1 rfl rfl TI43 (fun h => absurd h (by decide)) .nil) ⟨v5050, rfl, rfl, rfl⟩ trivial rfl (by decide)
                · rw [if_neg c5046] at h
                  obtain rfl : b5045 = false := hb5045.symm.trans (beq_eq_false_iff_ne.2 c5046)
                  refine VC.cond_f rfl ?_
                  refine VC.skip ?_
                  refine VN.block ?_
                  refine VN.then ?_
                  refine VC.seq ?_
                  refine VC.region ?_
                  refine VL.va (op_move rfl (ltn rfl)) rfl ?_
                  refine VL.va (op_load 0 6 rfl rfl TI33 rfl (fun h => absurd h (by decide)) (ltn rfl)) rfl ?_
                  replace h := Option.bind_eq_some_iff.1 h
                  obtain ⟨r5051, hA5052, h⟩ := h
                  refine VL.sC (o_call0 FO34 (tarryref08_Set.ok k l0 t4760 t4761 t4762 t4763 t4764 t4765 v0 r5051 hA5052) rfl rfl (ltn rfl) (All_of (.cons (List.mem_of_getElem? (i := 0) rfl) .nil))) rfl ?_
                  rintro v5054 _ _ ⟨_, rfl, rfl, rfl⟩
                  refine VL.va (op_build (vals := [(0, v5054)]) (vcs := [(0, [v5054])]) (cells := [v5054, .int .i64 0]) SI43 rfl (.cons ⟨rfl, (.r 0 rfl)⟩ .nil) (by kernel_rfl) (ltn rfl)) rfl ?_
                  refine VL.step1 (o_store 1 2 rfl rfl rfl TI43 (.agg (.r 0 rfl (.c rfl .nil))) rfl (len rfl)) rfl ?_
                  refine VL.done ?_
                  refine VN.then ?_
                  refine VC.ret ?_
                  simp only [Option.some.injEq, Prod.mk.injEq] at h
                  obtain ⟨rfl, rfl⟩ := h
                  exact VR.fn (rs := [.cell 8 43]) [] [(v5054, 33, 6, r5051.map enc32)] [0] rfl (.cell 1 rfl rfl TI43 (fun h => absurd h (by decide)) .nil) ⟨v5054, rfl, rfl, rfl⟩ trivial rfl (by decide)
    · rw [if_neg c4759] at h
      obtain rfl := Bool.eq_false_iff.2 c4759
      refine VL.va (op_not rfl rfl (ltn rfl)) rfl ?_
      refine VL.va (op_pick rfl rfl (ltn rfl)) rfl ?_
      refine VL.done ?_
      refine VN.then ?_
      refine VC.cond_t rfl ?_
      refine VC.seq ?_
      refine VC.region ?_
      refine VL.va (op_build (vals := [(1, .int .i64 1)]) (vcs := [(1, [.int .i64 1])]) (cells := [.slice none 0 0, .int .i64 1]) SI43 rfl (.cons ⟨rfl, (.c rfl)⟩ .nil) (by kernel_rfl) (ltn rfl)) rfl ?_
      refine VL.step1 (o_store 0 2 rfl rfl rfl TI43 (.agg (.c rfl (.c rfl .nil))) rfl (len rfl)) rfl ?_
      refine VL.done ?_
      refine VN.then ?_
      refine VC.ret ?_
      refine VR.then ?_
      simp only [Option.some.injEq, Prod.mk.injEq] at h
      obtain ⟨rfl, rfl⟩ := h
      refine VR.nilRow' 33 6 ?_
      exact VR.fn (rs := [.cell 8 43]) [] [((.slice none 0 0), 33, 6, ([] : List S32).map enc32)] [0] rfl (.cell 0 rfl rfl TI43 (fun h => absurd h (by decide)) .nil) ⟨(.slice none 0 0), rfl, rfl, rfl⟩ trivial rfl (by decide)
  · rw [if_neg c4756] at h
    obtain rfl := Bool.eq_false_iff.2 c4756
    refine VL.va (op_not rfl rfl (ltn rfl)) rfl ?_
    refine VL.va (op_move rfl (ltn rfl)) rfl ?_
    refine VL.un rfl rfl (ltn rfl) ?_
    refine VL.un rfl rfl (ltn rfl) ?_
    refine VL.un rfl rfl (ltn rfl) ?_
    refine VL.va (op_pick rfl rfl (ltn rfl)) rfl ?_
    refine VL.done ?_
    refine VN.then ?_
    refine VC.cond_t rfl ?_
    refine VC.seq ?_
    refine VC.region ?_
    refine VL.va (op_build (vals := [(1, .int .i64 1)]) (vcs := [(1, [.int .i64 1])]) (cells := [.slice none 0 0, .int .i64 1]) SI43 rfl (.cons ⟨rfl, (.c rfl)⟩ .nil) (by kernel_rfl) (ltn rfl)) rfl ?_
    refine VL.step1 (o_store 0 2 rfl rfl rfl TI43 (.agg (.c rfl (.c rfl .nil))) rfl (len rfl)) rfl ?_
    refine VL.done ?_
    refine VN.then ?_
    refine VC.ret ?_
    refine VR.then ?_
    simp only [Option.some.injEq, Prod.mk.injEq] at h
    obtain ⟨rfl, rfl⟩ := h
    refine VR.nilRow' 33 6 ?_
    exact VR.fn (rs := [.cell 8 43]) [] [((.slice none 0 0), 33, 6, ([] : List S32).map enc32)] [0] rfl (.cell 0 rfl rfl TI43 (fun h => absurd h (by decide)) .nil) ⟨(.slice none 0 0), rfl, rfl, rfl⟩ trivial rfl (by decide)

end Go.Proofs.Ytibpoajlnloloaa.PStockMoves
