/- Written by a program of this repo: what the program's functions do, each as a Lean function, shown of the loaded code; or a statement's row over that; no condition of its own. -/
import Derived.Test.YtibpoajlnloloaaPStockApartx2
namespace Go.Proofs.Ytibpoajlnloloaa.PStockApart
open Go Go.RowKit Go.Proofs.YtibpoajlnloloaaV
set_option linter.unusedVariables false
set_option linter.unusedSimpArgs false

set_option maxHeartbeats 4000000 in
set_option maxRecDepth 100000 in
theorem stock_units.ok (a0 : Int)  (r1 : Bool) (h : stock_units.f a0 = some r1) :
    VCalls Try.prog 22 [.int .i64 a0] [] (fun v G own => v = .bool r1 ∧ G = [] ∧ own = []) := by
  refine VCalls.intro Try.func22 rfl (len rfl) fun E hC => ?_
  unfold stock_units.f at h
  refine VC.seq ?_
  refine VC.region ?_
  refine VL.va (op_assign rfl (ltn rfl)) rfl ?_
  refine VL.done ?_
  refine VN.then ?_
  refine VC.seq ?_
  refine VC.region ?_
  refine VL.va (op_move rfl (ltn rfl)) rfl ?_
  refine VL.letter (decide (a0 ≥ 1)) fun b1433 hb1433 => ?_
  refine VL.va (op_cmp rfl rfl (congrArg some hb1433) (ltn rfl)) rfl ?_
  refine VL.va (op_move rfl (ltn rfl)) rfl ?_
  by_cases c1434 : a0 ≥ 1
  · rw [if_pos c1434] at h
    obtain rfl : b1433 = true := hb1433.symm.trans (decide_eq_true c1434)
    refine VL.va (op_move rfl (ltn rfl)) rfl ?_
    refine VL.letter (decide (a0 ≤ 1073741824)) fun b1435 hb1435 => ?_
    refine VL.va (op_cmp rfl rfl (congrArg some hb1435) (ltn rfl)) rfl ?_
    refine VL.va (op_pick rfl rfl (ltn rfl)) rfl ?_
    refine VL.va (op_assign rfl (ltn rfl)) rfl ?_
    refine VL.done ?_
    refine VN.then ?_
    refine VC.ret ?_
    obtain rfl := Option.some.inj h
    subst hb1435
    exact VR.fn (rs := [.tmp 2]) [] [] [] rfl (.tmp rfl .nil) ⟨rfl, rfl, rfl⟩ trivial rfl (by decide)
  · rw [if_neg c1434] at h
    obtain rfl : b1433 = false := hb1433.symm.trans (decide_eq_false c1434)
    refine VL.un rfl rfl (ltn rfl) ?_
    refine VL.un rfl rfl (ltn rfl) ?_
    refine VL.va (op_pick rfl rfl (ltn rfl)) rfl ?_
    refine VL.va (op_assign rfl (ltn rfl)) rfl ?_
    refine VL.done ?_
    refine VN.then ?_
    refine VC.ret ?_
    obtain rfl := Option.some.inj h
    exact VR.fn (rs := [.tmp 2]) [] [] [] rfl (.tmp rfl .nil) ⟨rfl, rfl, rfl⟩ trivial rfl (by decide)
set_option maxHeartbeats 4000000 in
set_option maxRecDepth 100000 in
theorem stock_may_1.ok (a0 : Int)  (r1 : Bool) (h : stock_may_1.f a0 = some r1) :
    VCalls Try.prog 44 [.int .i64 a0] [] (fun v G own => v = .bool r1 ∧ G = [] ∧ own = []) := by
  refine VCalls.intro Try.func44 rfl (len rfl) fun E hC => ?_
  unfold stock_may_1.f at h
  refine VC.seq ?_
  refine VC.region ?_
  refine VL.va (op_assign rfl (ltn rfl)) rfl ?_
  refine VL.done ?_
  refine VN.then ?_
  refine VC.seq ?_
  refine VC.region ?_
  refine VL.va (op_move rfl (ltn rfl)) rfl ?_
  refine VL.letter ((a0 != 0)) fun b1439 hb1439 => ?_
  refine VL.va (op_cmp rfl rfl (congrArg some hb1439) (ltn rfl)) rfl ?_
  refine VL.va (op_move rfl (ltn rfl)) rfl ?_
  by_cases c1440 : a0 = 0
  · rw [if_pos c1440] at h
    obtain rfl : b1439 = false := hb1439.symm.trans (bne_eq_false_iff_eq.2 c1440)
    refine VL.un rfl rfl (ltn rfl) ?_
    refine VL.un rfl rfl (ltn rfl) ?_
    refine VL.un rfl rfl (ltn rfl) ?_
    refine VL.va (op_pick rfl rfl (ltn rfl)) rfl ?_
    refine VL.va (op_assign rfl (ltn rfl)) rfl ?_
    refine VL.done ?_
    refine VN.then ?_
    refine VC.ret ?_
    obtain rfl := Option.some.inj h
    exact VR.fn (rs := [.tmp 2]) [] [] [] rfl (.tmp rfl .nil) ⟨rfl, rfl, rfl⟩ trivial rfl (by decide)
  · rw [if_neg c1440] at h
    obtain rfl : b1439 = true := hb1439.symm.trans (bne_iff_ne.2 c1440)
    refine VL.va (op_move rfl (ltn rfl)) rfl ?_
    replace h := Option.bind_eq_some_iff.1 h
    obtain ⟨t1441, hA1442, h⟩ := h
    refine VL.sC (o_call0 FO22 (stock_units.ok a0 t1441 hA1442) rfl rfl (ltn rfl) (All_of .nil)) rfl ?_
    rintro _ _ _ ⟨rfl, rfl, rfl⟩
    by_cases c1443 : t1441 = true
    · rw [if_pos c1443] at h
      obtain rfl := c1443
      refine VL.va (op_not rfl rfl (ltn rfl)) rfl ?_
      refine VL.va (op_pick rfl rfl (ltn rfl)) rfl ?_
      refine VL.va (op_assign rfl (ltn rfl)) rfl ?_
      refine VL.done ?_
      refine VN.then ?_
      refine VC.ret ?_
      obtain rfl := Option.some.inj h
      exact VR.fn (rs := [.tmp 2]) [] [] [] rfl (.tmp rfl .nil) ⟨rfl, rfl, rfl⟩ trivial rfl (by decide)
    · rw [if_neg c1443] at h
      obtain rfl := Bool.eq_false_iff.2 c1443
      refine VL.va (op_not rfl rfl (ltn rfl)) rfl ?_
      refine VL.va (op_pick rfl rfl (ltn rfl)) rfl ?_
      refine VL.va (op_assign rfl (ltn rfl)) rfl ?_
      refine VL.done ?_
      refine VN.then ?_
      refine VC.ret ?_
      obtain rfl := Option.some.inj h
      exact VR.fn (rs := [.tmp 2]) [] [] [] rfl (.tmp rfl .nil) ⟨rfl, rfl, rfl⟩ trivial rfl (by decide)
set_option maxHeartbeats 4000000 in
set_option maxRecDepth 100000 in
theorem slices_IndexFunc_int_int.ok (k : Nat) (l0 : List Int) (v0 : Value) (r1 : Int) (h : slices_IndexFunc_int_int.f k l0 = some r1) :
    VCalls Try.prog 58 [v0, (.func (.func 44) #[] #[])] [.row v0 1 (l0.map enc_inti64)] (fun v G own => v = .int .i64 r1 ∧ G = [] ∧ own = []) := by
  refine VCalls.intro Try.func58 rfl (len rfl) fun E hC => ?_
  unfold slices_IndexFunc_int_int.f at h
  refine VC.seq ?_
  refine VC.region ?_
  refine VL.va (op_assign rfl (ltn rfl)) rfl ?_
  refine VL.done ?_
  refine VN.then ?_
  refine VC.seq ?_
  refine VC.seq ?_
  refine VC.region ?_
  refine VL.va (op_move rfl (ltn rfl)) rfl ?_
  refine VL.va (op_len (m := l0.length) 0 lenm Try.underlying68 rfl rfl (ltn rfl)) rfl ?_
  refine VL.va (op_move rfl (ltn rfl)) rfl ?_
  refine VL.done ?_
  refine VN.then ?_
  refine VC.block ?_
  refine VC.loop1 (fun (i1503 : Int) => ⟨19, [(0, v0), (1, (.func (.func 44) #[] #[])), (4, .int .i64 0), (7, .int .i64 (l0.length : Int)), (8, .int .i64 i1503)], [.row v0 1 (l0.map enc_inti64)], [], []⟩) (fun (ml1 : Nat) (i1503 : Int) => slices_IndexFunc_int_int.l1 k l0 ml1 i1503 = some r1) k 0 [] [] h ⟨rfl, ⟨rfl, rfl, rfl, rfl, rfl, trivial⟩, ⟨⟨0, rfl⟩, trivial⟩, rfl, by decide, rfl, by decide⟩ (by intros; simp [slices_IndexFunc_int_int.l1]) ?_
  clear h
  intro ml1 ihl1 i1503 h
  simp only [slices_IndexFunc_int_int.l1] at h
  refine VC.seq ?_
  refine VC.region ?_
  refine VL.letter (decide (i1503 < (l0.length : Int))) fun b1521 hb1521 => ?_
  refine VL.va (op_cmp rfl rfl (congrArg some hb1521) (ltn rfl)) rfl ?_
  refine VL.done ?_
  refine VN.then ?_
  refine VC.seq ?_
  by_cases c1523 : i1503 < (l0.length : Int)
  · rw [if_pos c1523] at h
    obtain rfl : b1521 = true := hb1521.symm.trans (decide_eq_true c1523)
    refine VC.cond_t rfl ?_
    refine VC.skip ?_
    refine VN.then ?_
    refine VC.seq ?_
    refine VC.block ?_
    refine VC.seq ?_
    refine VC.region ?_
    refine VL.va (op_move rfl (ltn rfl)) rfl ?_
    refine VL.va (op_assign rfl (ltn rfl)) rfl ?_
    refine VL.done ?_
    refine VN.then ?_
    refine VC.seq ?_
    refine VC.region ?_
    refine VL.va (op_move rfl (ltn rfl)) rfl ?_
    refine VL.va (op_move rfl (ltn rfl)) rfl ?_
    refine VL.va (op_move rfl (ltn rfl)) rfl ?_
    by_cases c1531 : 0 ≤ i1503
    · rw [if_pos c1531] at h
      replace h := Option.bind_eq_some_iff.1 h
      obtain ⟨x1532, hx1532, h⟩ := h
      refine VL.open (m := l0.length) 0 lenm rfl (pos_get hx1532) ?_
      rintro ad1533 n1534 rfl
      refine VL.va (op_indexAddr Try.underlying68 TI3 rfl rfl c1531 (lt_get c1531 hx1532) rfl (ltn rfl)) rfl ?_
      refine VL.va (op_load_row (sz := 1) (o := 0) 0 i1503.toNat 1 rfl rfl (get_map hx1532) TI3 rfl (by decide) (ltn rfl)) rfl ?_
      replace h := Option.bind_eq_some_iff.1 h
      obtain ⟨t1535, hA1536, h⟩ := h
      refine VL.sC (o_call0 FO44 (stock_may_1.ok x1532 t1535 hA1536) rfl rfl (ltn rfl) (All_of .nil)) rfl ?_
      rintro _ _ _ ⟨rfl, rfl, rfl⟩
      refine VL.done ?_
      refine VN.then ?_
      by_cases c1537 : t1535 = true
      · rw [if_pos c1537] at h
        obtain rfl := c1537
        refine VC.cond_t rfl ?_
        refine VC.seq ?_
        refine VC.region ?_
        refine VL.va (op_move rfl (ltn rfl)) rfl ?_
        refine VL.va (op_assign rfl (ltn rfl)) rfl ?_
        refine VL.done ?_
        refine VN.then ?_
        refine VC.ret ?_
        refine VR.block ?_
        refine VR.then ?_
        refine VR.then ?_
        refine VR.block ?_
        refine VR.then ?_
        obtain rfl := Option.some.inj h
        exact VR.fn (rs := [.tmp 4]) [] [] [] rfl (.tmp rfl .nil) ⟨rfl, rfl, rfl⟩ trivial rfl (by decide)
      · rw [if_neg c1537] at h
        obtain rfl := Bool.eq_false_iff.2 c1537
        refine VC.cond_f rfl ?_
        refine VC.skip ?_
        refine VN.block ?_
        refine VN.then ?_
        refine VC.region ?_
        refine VL.va (op_ari64 rfl rfl rfl (ltn rfl)) rfl ?_
        refine VL.va (op_move rfl (ltn rfl)) rfl ?_
        refine VL.done ?_
        refine VN.again [] [] (ihl1 (wrap64 (i1503 + 1)) h) ⟨rfl, ⟨rfl, rfl, rfl, rfl, rfl, trivial⟩, ⟨⟨0, rfl⟩, trivial⟩, rfl, by decide, rfl, by decide⟩
    · rw [if_neg c1531] at h; cases h
  · rw [if_neg c1523] at h
    obtain rfl : b1521 = false := hb1521.symm.trans (decide_eq_false c1523)
    refine VC.cond_f rfl ?_
    refine VC.exit ?_
    refine VX.then ?_
    refine VX.then ?_
    refine VX.hit ?_
    refine VN.then ?_
    refine VC.seq ?_
    refine VC.region ?_
    refine VL.va (op_assign rfl (ltn rfl)) rfl ?_
    refine VL.done ?_
    refine VN.then ?_
    refine VC.ret ?_
    obtain rfl := Option.some.inj h
    exact VR.fn (rs := [.tmp 4]) [] [] [] rfl (.tmp rfl .nil) ⟨rfl, rfl, rfl⟩ trivial rfl (by decide)
set_option maxHeartbeats 4000000 in
set_option maxRecDepth 100000 in
theorem slices_ContainsFunc_int_int.ok (k : Nat) (l0 : List Int) (v0 : Value) (r1 : Bool) (h : slices_ContainsFunc_int_int.f k l0 = some r1) :
    VCalls Try.prog 45 [v0, (.func (.func 44) #[] #[])] [.row v0 1 (l0.map enc_inti64)] (fun v G own => v = .bool r1 ∧ G = [] ∧ own = []) := by
  refine VCalls.intro Try.func45 rfl (len rfl) fun E hC => ?_
  unfold slices_ContainsFunc_int_int.f at h
  refine VC.seq ?_
  refine VC.region ?_
  refine VL.va (op_assign rfl (ltn rfl)) rfl ?_
  refine VL.done ?_
  refine VN.then ?_
  refine VC.seq ?_
  refine VC.region ?_
  refine VL.va (op_move rfl (ltn rfl)) rfl ?_
  refine VL.va (op_move rfl (ltn rfl)) rfl ?_
  replace h := Option.bind_eq_some_iff.1 h
  obtain ⟨t1538, hA1539, h⟩ := h
  refine VL.sC (o_call0 FO58 (slices_IndexFunc_int_int.ok k l0 v0 t1538 hA1539) rfl rfl (ltn rfl) (All_of (.cons (List.mem_of_getElem? (i := 0) rfl) .nil))) rfl ?_
  rintro _ _ _ ⟨rfl, rfl, rfl⟩
  refine VL.letter (decide (t1538 ≥ 0)) fun b1540 hb1540 => ?_
  refine VL.va (op_cmp rfl rfl (congrArg some hb1540) (ltn rfl)) rfl ?_
  refine VL.va (op_assign rfl (ltn rfl)) rfl ?_
  refine VL.done ?_
  refine VN.then ?_
  refine VC.ret ?_
  obtain rfl := Option.some.inj h
  subst hb1540
  exact VR.fn (rs := [.tmp 4]) [] [] [] rfl (.tmp rfl .nil) ⟨rfl, rfl, rfl⟩ trivial rfl (by decide)
set_option maxHeartbeats 4000000 in
set_option maxRecDepth 100000 in
theorem stock_may.ok (k : Nat) (a0_0 : ByteArray) (a0_1 : Int) (a0_2 : Int) (a0_3 : Int) (a0_4 : Int) (a0_5 : Int)  (r1 : Bool) (h : stock_may.f k a0_0 a0_1 a0_2 a0_3 a0_4 a0_5 = some r1) :
    VCalls Try.prog 27 [.agg #[.string a0_0, .int .i64 a0_1, .int .i64 a0_2, .int .i64 a0_3, .int .i64 a0_4, .int .i64 a0_5]] [] (fun v G own => v = .bool r1 ∧ G = [] ∧ own = []) := by
  refine VCalls.intro Try.func27 rfl (len rfl) fun E hC => ?_
  unfold stock_may.f at h
  refine VC.seq ?_
  refine VC.region ?_
  refine VL.sG (o_box rfl (.agg (.c rfl (.c rfl (.c rfl (.c rfl (.c rfl (.c rfl .nil))))))) (ltn rfl)) rfl ?_
  intro g130
  refine VL.va (op_assign rfl (ltn rfl)) rfl ?_
  refine VL.done ?_
  refine VN.then ?_
  refine VC.seq ?_
  refine VC.region ?_
  refine VL.va (op_fieldAddr FI33_1 rfl (add_at _ _ _) (ltn rfl)) rfl ?_
  refine VL.va (op_load 0 1 rfl rfl TI3 rfl (by decide) (ltn rfl)) rfl ?_
  refine VL.va (op_fieldAddr FI33_2 rfl (add_at _ _ _) (ltn rfl)) rfl ?_
  refine VL.va (op_load 0 1 rfl rfl TI3 rfl (by decide) (ltn rfl)) rfl ?_
  refine VL.va (op_fieldAddr FI33_3 rfl (add_at _ _ _) (ltn rfl)) rfl ?_
  refine VL.va (op_load 0 1 rfl rfl TI3 rfl (by decide) (ltn rfl)) rfl ?_
  refine VL.va (op_fieldAddr FI33_4 rfl (add_at _ _ _) (ltn rfl)) rfl ?_
  refine VL.va (op_load 0 1 rfl rfl TI3 rfl (by decide) (ltn rfl)) rfl ?_
  refine VL.va (op_fieldAddr FI33_5 rfl (add_at _ _ _) (ltn rfl)) rfl ?_
  refine VL.va (op_load 0 1 rfl rfl TI3 rfl (by decide) (ltn rfl)) rfl ?_
  refine VL.sG (o_buildSlice (vals := [(0, .int .i64 a0_1), (1, .int .i64 a0_2), (2, .int .i64 a0_3), (3, .int .i64 a0_4), (4, .int .i64 a0_5)]) (cells := #[.int .i64 a0_1, .int .i64 a0_2, .int .i64 a0_3, .int .i64 a0_4, .int .i64 a0_5]) (es := List.map enc_inti64 ([a0_1, a0_2, a0_3, a0_4, a0_5] : List Int)) Try.underlying68 TI3 Z3 rfl (by decide) (by decide) (by kernel_rfl) (by kernel_rfl) rfl (flat_map enc_inti64_ok _) (ltn rfl)) rfl ?_
  intro v132
  refine VL.va (op_assign rfl (ltn rfl)) rfl ?_
  refine VL.done ?_
  refine VN.then ?_
  refine VC.seq ?_
  refine VC.region ?_
  refine VL.va (op_assign rfl (ltn rfl)) rfl ?_
  refine VL.done ?_
  refine VN.then ?_
  refine VC.seq ?_
  refine VC.region ?_
  refine VL.va (op_fieldAddr FI33_0 rfl (add_at _ _ _) (ltn rfl)) rfl ?_
  refine VL.va (op_load 0 1 rfl rfl TI9 rfl (by decide) (ltn rfl)) rfl ?_
  replace h := Option.bind_eq_some_iff.1 h
  obtain ⟨t1545, hA1546, h⟩ := h
  refine VL.sC (o_call0 FO23 (stock_name.ok k a0_0 t1545 hA1546) rfl rfl (ltn rfl) (All_of .nil)) rfl ?_
  rintro _ _ _ ⟨rfl, rfl, rfl⟩
  refine VL.va (op_move rfl (ltn rfl)) rfl ?_
  by_cases c1547 : t1545 = true
  · rw [if_pos c1547] at h
    obtain rfl := c1547
    refine VL.va (op_move rfl (ltn rfl)) rfl ?_
    refine VL.va (op_move rfl (ltn rfl)) rfl ?_
    replace h := Option.bind_eq_some_iff.1 h
    obtain ⟨t1548, hA1549, h⟩ := h
    refine VL.sC (o_call_b0 FO45 (slices_ContainsFunc_int_int.ok k ([a0_1, a0_2, a0_3, a0_4, a0_5] : List Int) v132 t1548 hA1549) rfl rfl (ltn rfl) (All_of (.cons (.inr (.inl ⟨_, List.mem_of_getElem? (i := 0) rfl, rfl⟩)) .nil)) (by rintro _ _ _ ⟨rfl, rfl, rfl⟩; rfl)) rfl ?_
    rintro _ _ _ ⟨rfl, rfl, rfl⟩
    by_cases c1550 : t1548 = true
    · rw [if_pos c1550] at h
      obtain rfl := c1550
      refine VL.va (op_not rfl rfl (ltn rfl)) rfl ?_
      refine VL.va (op_pick rfl rfl (ltn rfl)) rfl ?_
      refine VL.va (op_move rfl (ltn rfl)) rfl ?_
      refine VL.un rfl rfl (ltn rfl) ?_
      refine VL.un rfl rfl (ltn rfl) ?_
      refine VL.un rfl rfl (ltn rfl) ?_
      refine VL.un rfl rfl (ltn rfl) ?_
      refine VL.un rfl rfl (ltn rfl) ?_
      refine VL.un rfl rfl (ltn rfl) ?_
      refine VL.un rfl rfl (ltn rfl) ?_
      refine VL.un rfl rfl (ltn rfl) ?_
      refine VL.un rfl rfl (ltn rfl) ?_
      refine VL.un rfl rfl (ltn rfl) ?_
      refine VL.un rfl rfl (ltn rfl) ?_
      refine VL.un rfl rfl (ltn rfl) ?_
      refine VL.un rfl rfl (ltn rfl) ?_
      refine VL.un rfl rfl (ltn rfl) ?_
      refine VL.va (op_pick rfl rfl (ltn rfl)) rfl ?_
      refine VL.va (op_assign rfl (ltn rfl)) rfl ?_
      refine VL.done ?_
      refine VN.then ?_
      refine VC.ret ?_
      obtain rfl := Option.some.inj h
      exact VR.fn (rs := [.tmp 2]) [] [] [] rfl (.tmp rfl .nil) ⟨rfl, rfl, rfl⟩ trivial rfl (by decide)
    · rw [if_neg c1550] at h
      obtain rfl := Bool.eq_false_iff.2 c1550
      refine VL.va (op_not rfl rfl (ltn rfl)) rfl ?_
      refine VL.va (op_pick rfl rfl (ltn rfl)) rfl ?_
      refine VL.va (op_move rfl (ltn rfl)) rfl ?_
      refine VL.va (op_fieldAddr FI33_1 rfl (add_at _ _ _) (ltn rfl)) rfl ?_
      refine VL.va (op_load 0 1 rfl rfl TI3 rfl (by decide) (ltn rfl)) rfl ?_
      refine VL.va (op_fieldAddr FI33_2 rfl (add_at _ _ _) (ltn rfl)) rfl ?_
      refine VL.va (op_load 0 1 rfl rfl TI3 rfl (by decide) (ltn rfl)) rfl ?_
      refine VL.va (op_fieldAddr FI33_3 rfl (add_at _ _ _) (ltn rfl)) rfl ?_
      refine VL.va (op_load 0 1 rfl rfl TI3 rfl (by decide) (ltn rfl)) rfl ?_
      refine VL.va (op_ari64 rfl rfl rfl (ltn rfl)) rfl ?_
      refine VL.va (op_fieldAddr FI33_4 rfl (add_at _ _ _) (ltn rfl)) rfl ?_
      refine VL.va (op_load 0 1 rfl rfl TI3 rfl (by decide) (ltn rfl)) rfl ?_
      refine VL.va (op_ari64 rfl rfl rfl (ltn rfl)) rfl ?_
      refine VL.va (op_fieldAddr FI33_5 rfl (add_at _ _ _) (ltn rfl)) rfl ?_
      refine VL.va (op_load 0 1 rfl rfl TI3 rfl (by decide) (ltn rfl)) rfl ?_
      refine VL.va (op_ari64 rfl rfl rfl (ltn rfl)) rfl ?_
      refine VL.letter ((a0_1 == (wrap64 ((wrap64 ((wrap64 (a0_2 + a0_3)) + a0_4)) + a0_5)))) fun b1551 hb1551 => ?_
      refine VL.va (op_cmp rfl rfl (congrArg some hb1551) (ltn rfl)) rfl ?_
      refine VL.va (op_pick rfl rfl (ltn rfl)) rfl ?_
      refine VL.va (op_assign rfl (ltn rfl)) rfl ?_
      refine VL.done ?_
      refine VN.then ?_
      refine VC.ret ?_
      obtain rfl := Option.some.inj h
      subst hb1551
      exact VR.fn (rs := [.tmp 2]) [] [] [] rfl (.tmp rfl .nil) ⟨rfl, rfl, rfl⟩ trivial rfl (by decide)
  · rw [if_neg c1547] at h
    obtain rfl := Bool.eq_false_iff.2 c1547
    refine VL.un rfl rfl (ltn rfl) ?_
    refine VL.un rfl rfl (ltn rfl) ?_
    refine VL.un rfl rfl (ltn rfl) ?_
    refine VL.un rfl rfl (ltn rfl) ?_
    refine VL.va (op_pick rfl rfl (ltn rfl)) rfl ?_
    refine VL.va (op_move rfl (ltn rfl)) rfl ?_
    refine VL.un rfl rfl (ltn rfl) ?_
    refine VL.un rfl rfl (ltn rfl) ?_
    refine VL.un rfl rfl (ltn rfl) ?_
    refine VL.un rfl rfl (ltn rfl) ?_
    refine VL.un rfl rfl (ltn rfl) ?_
    refine VL.un rfl rfl (ltn rfl) ?_
    refine VL.un rfl rfl (ltn rfl) ?_
    refine VL.un rfl rfl (ltn rfl) ?_
    refine VL.un rfl rfl (ltn rfl) ?_
    refine VL.un rfl rfl (ltn rfl) ?_
    refine VL.un rfl rfl (ltn rfl) ?_
    refine VL.un rfl rfl (ltn rfl) ?_
    refine VL.un rfl rfl (ltn rfl) ?_
    refine VL.un rfl rfl (ltn rfl) ?_
    refine VL.va (op_pick rfl rfl (ltn rfl)) rfl ?_
    refine VL.va (op_assign rfl (ltn rfl)) rfl ?_
    refine VL.done ?_
    refine VN.then ?_
    refine VC.ret ?_
    obtain rfl := Option.some.inj h
    exact VR.fn (rs := [.tmp 2]) [] [] [] rfl (.tmp rfl .nil) ⟨rfl, rfl, rfl⟩ trivial rfl (by decide)
set_option maxHeartbeats 4000000 in
set_option maxRecDepth 100000 in
theorem stock_Right.ok (k : Nat) (l0 : List S32) (v0 : Value) (r1 : Bool) (h : stock_Right.f k l0 = some r1) :
    VCalls Try.prog 9 [v0] [.row v0 6 (l0.map enc32)] (fun v G own => v = .bool r1 ∧ G = [] ∧ own = []) := by
  refine VCalls.intro Try.func9 rfl (len rfl) fun E hC => ?_
  unfold stock_Right.f at h
  refine VC.seq ?_
  refine VC.region ?_
  refine VL.va (op_assign rfl (ltn rfl)) rfl ?_
  refine VL.done ?_
  refine VN.then ?_
  refine VC.seq ?_
  refine VC.seq ?_
  refine VC.region ?_
  refine VL.va (op_move rfl (ltn rfl)) rfl ?_
  refine VL.va (op_len (m := l0.length) 0 lenm Try.underlying23 rfl rfl (ltn rfl)) rfl ?_
  refine VL.va (op_move rfl (ltn rfl)) rfl ?_
  refine VL.done ?_
  refine VN.then ?_
  refine VC.block ?_
  refine VC.loop1 (fun (i1642 : Int) => ⟨34, [(0, v0), (2, .bool false), (5, v0), (6, .int .i64 (l0.length : Int)), (7, .int .i64 i1642)], [.row v0 6 (l0.map enc32)], [], []⟩) (fun (ml1 : Nat) (i1642 : Int) => stock_Right.l1 k l0 ml1 i1642 = some r1) k 0 [] [] h ⟨rfl, ⟨rfl, rfl, rfl, rfl, rfl, trivial⟩, ⟨⟨0, rfl⟩, trivial⟩, rfl, by decide, rfl, by decide⟩ (by intros; simp [stock_Right.l1]) ?_
  clear h
  intro ml1 ihl1 i1642 h
  simp only [stock_Right.l1] at h
  refine VC.seq ?_
  refine VC.region ?_
  refine VL.letter (decide (i1642 < (l0.length : Int))) fun b1674 hb1674 => ?_
  refine VL.va (op_cmp rfl rfl (congrArg some hb1674) (ltn rfl)) rfl ?_
  refine VL.done ?_
  refine VN.then ?_
  refine VC.seq ?_
  by_cases c1677 : i1642 < (l0.length : Int)
  · rw [if_pos c1677] at h
    obtain rfl : b1674 = true := hb1674.symm.trans (decide_eq_true c1677)
    refine VC.cond_t rfl ?_
    refine VC.skip ?_
    refine VN.then ?_
    refine VC.seq ?_
    refine VC.block ?_
    refine VC.seq ?_
    refine VC.region ?_
    refine VL.va (op_move rfl (ltn rfl)) rfl ?_
    by_cases c1692 : 0 ≤ i1642
    · rw [if_pos c1692] at h
      replace h := Option.bind_eq_some_iff.1 h
      obtain ⟨x1693, hx1693, h⟩ := h
      refine VL.open (m := l0.length) 0 lenm rfl (pos_get hx1693) ?_
      rintro ad1694 n1695 rfl
      refine VL.va (op_indexAddr Try.underlying23 TI33 rfl rfl c1692 (lt_get c1692 hx1693) rfl (ltn rfl)) rfl ?_
      refine VL.va (op_load_row (sz := 6) (o := 0) 0 i1642.toNat 6 rfl rfl (get_map hx1693) TI33 rfl (fun h => absurd h (by decide)) (ltn rfl)) rfl ?_
      refine VL.sG (o_alloc (us := [.string (⟨#[]⟩ : ByteArray), .int .i64 0, .int .i64 0, .int .i64 0, .int .i64 0, .int .i64 0]) Z33 rfl (ltn rfl)) rfl ?_
      intro g1696
      refine VL.va (op_assign rfl (ltn rfl)) rfl ?_
      refine VL.step1 (o_store 0 6 rfl rfl rfl TI33 (.agg (.c rfl (.c rfl (.c rfl (.c rfl (.c rfl (.c rfl .nil))))))) rfl (len rfl)) rfl ?_
      refine VL.done ?_
      refine VN.then ?_
      replace h := Option.bind_eq_some_iff.1 h
      obtain ⟨t1697, hA1698, h⟩ := h
      by_cases c1699 : t1697 = true
      · rw [if_pos c1699] at h
        obtain rfl := c1699
        refine VC.letter (decide (i1642 > 0)) fun b1700 hb1700 => ?_
        by_cases c1701 : i1642 > 0
        · rw [if_pos c1701] at h
          obtain rfl : b1700 = true := hb1700.symm.trans (decide_eq_true c1701)
          by_cases c1702 : 0 ≤ wrap64 (i1642 - 1)
          · rw [if_pos c1702] at h
            replace h := Option.bind_eq_some_iff.1 h
            obtain ⟨x1703, hx1703, h⟩ := h
            refine VC.letter ((!Op.bytesLess x1703.f0.toList x1693.f0.toList)) fun b1704 hb1704 => ?_
            refine VC.join0 (⟨34, [(0, (.slice (some ad1694) l0.length n1695)), (2, .bool false), (3, .int .i64 i1642), (4, .pointer (some ⟨g1696, 0, none⟩)), (5, (.slice (some ad1694) l0.length n1695)), (6, .int .i64 (l0.length : Int)), (7, .int .i64 i1642), (8, .bool true), (9, .int .i64 i1642), (11, .agg #[.string x1693.f0, .int .i64 x1693.f1, .int .i64 x1693.f2, .int .i64 x1693.f3, .int .i64 x1693.f4, .int .i64 x1693.f5]), (12, .agg #[.string x1693.f0, .int .i64 x1693.f1, .int .i64 x1693.f2, .int .i64 x1693.f3, .int .i64 x1693.f4, .int .i64 x1693.f5]), (13, .bool true), (14, .bool false), (15, .bool false), (16, .int .i64 i1642), (17, .bool true), (18, .bool true), (19, (.slice (some ad1694) l0.length n1695)), (20, .int .i64 i1642), (21, .int .i64 (wrap64 (i1642 - 1))), (24, .string x1703.f0), (25, .pointer (some ⟨g1696, 0, none⟩)), (26, .string x1693.f0), (27, .bool b1704), (28, .bool b1704), (29, .bool b1704)], [.row (.slice (some ad1694) l0.length n1695) 6 (l0.map enc32)], [(g1696, 33, [.string x1693.f0, .int .i64 x1693.f1, .int .i64 x1693.f2, .int .i64 x1693.f3, .int .i64 x1693.f4, .int .i64 x1693.f5])], []⟩) (True) ?_ ?_
            · refine VC.draw ⟨0, [], [.row (.slice (some ad1694) l0.length n1695) 6 (l0.map enc32)], [(g1696, 33, [.string x1693.f0, .int .i64 x1693.f1, .int .i64 x1693.f2, .int .i64 x1693.f3, .int .i64 x1693.f4, .int .i64 x1693.f5])], []⟩ (by kernel_rfl) rfl (by kernel_rfl) (n := 18) (listed := LB 18 0) ?_
              refine VA.va (i := 0) (listed' := LB 18 1) rfl (op_load 0 6 rfl rfl TI33 rfl (fun h => absurd h (by decide)) (ltn rfl)) rfl (by kernel_rfl) (by kernel_rfl) (by kernel_rfl) (by kernel_rfl) ⟨⟨⟨0, rfl⟩, trivial⟩, ⟨⟨0, rfl⟩, trivial⟩, trivial⟩ (fun _ _ _ h => h) ?_
              refine VA.oneC (i := 1) (listed' := LB 18 3) (by kernel_rfl) rfl (o_call0 FO27 (stock_may.ok k x1693.f0 x1693.f1 x1693.f2 x1693.f3 x1693.f4 x1693.f5 true hA1698) rfl rfl (ltn rfl) (All_of .nil)) rfl (by kernel_rfl) ?_
              rintro _ _ _ ⟨rfl, rfl, rfl⟩
              refine ⟨⟨⟨⟨0, rfl⟩, trivial⟩, ⟨⟨0, rfl⟩, trivial⟩, trivial⟩, ?_⟩
              refine VA.va (i := 2) (listed' := LB 18 7) rfl (op_not rfl rfl (ltn rfl)) rfl (by kernel_rfl) (by kernel_rfl) (by kernel_rfl) (by kernel_rfl) ⟨⟨⟨0, rfl⟩, trivial⟩, ⟨⟨0, rfl⟩, trivial⟩, trivial⟩ (fun _ _ _ h => h) ?_
              refine VA.va (i := 3) (listed' := LB 18 15) rfl (op_move rfl (ltn rfl)) rfl (by kernel_rfl) (by kernel_rfl) (by kernel_rfl) (by kernel_rfl) ⟨⟨⟨0, rfl⟩, trivial⟩, ⟨⟨0, rfl⟩, trivial⟩, trivial⟩ (fun _ _ _ h => h) ?_
              refine VA.va (i := 4) (listed' := LB 18 31) rfl (op_move rfl (ltn rfl)) rfl (by kernel_rfl) (by kernel_rfl) (by kernel_rfl) (by kernel_rfl) ⟨⟨⟨0, rfl⟩, trivial⟩, ⟨⟨0, rfl⟩, trivial⟩, trivial⟩ (fun _ _ _ h => h) ?_
              refine VA.va (i := 5) (listed' := LB 18 63) rfl (op_cmp rfl rfl (congrArg some hb1700) (ltn rfl)) rfl (by kernel_rfl) (by kernel_rfl) (by kernel_rfl) (by kernel_rfl) ⟨⟨⟨0, rfl⟩, trivial⟩, ⟨⟨0, rfl⟩, trivial⟩, trivial⟩ (fun _ _ _ h => h) ?_
              refine VA.va (i := 6) (listed' := LB 18 127) rfl (op_move rfl (ltn rfl)) rfl (by kernel_rfl) (by kernel_rfl) (by kernel_rfl) (by kernel_rfl) ⟨⟨⟨0, rfl⟩, trivial⟩, ⟨⟨0, rfl⟩, trivial⟩, trivial⟩ (fun _ _ _ h => h) ?_
              refine VA.va (i := 7) (listed' := LB 18 255) rfl (op_move rfl (ltn rfl)) rfl (by kernel_rfl) (by kernel_rfl) (by kernel_rfl) (by kernel_rfl) ⟨⟨⟨0, rfl⟩, trivial⟩, ⟨⟨0, rfl⟩, trivial⟩, trivial⟩ (fun _ _ _ h => h) ?_
              refine VA.va (i := 8) (listed' := LB 18 511) rfl (op_move rfl (ltn rfl)) rfl (by kernel_rfl) (by kernel_rfl) (by kernel_rfl) (by kernel_rfl) ⟨⟨⟨0, rfl⟩, trivial⟩, ⟨⟨0, rfl⟩, trivial⟩, trivial⟩ (fun _ _ _ h => h) ?_
              refine VA.va (i := 9) (listed' := LB 18 1023) rfl (op_ari64 rfl rfl rfl (ltn rfl)) rfl (by kernel_rfl) (by kernel_rfl) (by kernel_rfl) (by kernel_rfl) ⟨⟨⟨0, rfl⟩, trivial⟩, ⟨⟨0, rfl⟩, trivial⟩, trivial⟩ (fun _ _ _ h => h) ?_
              refine VA.va (i := 10) (listed' := LB 18 2047) rfl (op_indexAddr Try.underlying23 TI33 rfl rfl c1702 (lt_get c1702 hx1703) rfl (ltn rfl)) rfl (by kernel_rfl) (by kernel_rfl) (by kernel_rfl) (by kernel_rfl) ⟨⟨⟨0, rfl⟩, trivial⟩, ⟨⟨0, rfl⟩, trivial⟩, trivial⟩ (fun _ _ _ h => h) ?_
              refine VA.va (i := 11) (listed' := LB 18 4095) rfl (op_fieldAddr FI33_0 rfl (add_add _ _ _) (ltn rfl)) rfl (by kernel_rfl) (by kernel_rfl) (by kernel_rfl) (by kernel_rfl) ⟨⟨⟨0, rfl⟩, trivial⟩, ⟨⟨0, rfl⟩, trivial⟩, trivial⟩ (fun _ _ _ h => h) ?_
              refine VA.va (i := 12) (listed' := LB 18 8191) rfl (op_load_row (sz := 6) (o := 0) 0 (wrap64 (i1642 - 1)).toNat 1 rfl rfl (get_map hx1703) TI9 rfl (by decide) (ltn rfl)) rfl (by kernel_rfl) (by kernel_rfl) (by kernel_rfl) (by kernel_rfl) ⟨⟨⟨0, rfl⟩, trivial⟩, ⟨⟨0, rfl⟩, trivial⟩, trivial⟩ (fun _ _ _ h => h) ?_
              refine VA.va (i := 13) (listed' := LB 18 16383) rfl (op_fieldAddr FI33_0 rfl (add_at _ _ _) (ltn rfl)) rfl (by kernel_rfl) (by kernel_rfl) (by kernel_rfl) (by kernel_rfl) ⟨⟨⟨0, rfl⟩, trivial⟩, ⟨⟨0, rfl⟩, trivial⟩, trivial⟩ (fun _ _ _ h => h) ?_
              refine VA.va (i := 14) (listed' := LB 18 32767) rfl (op_load 0 1 rfl rfl TI9 rfl (by decide) (ltn rfl)) rfl (by kernel_rfl) (by kernel_rfl) (by kernel_rfl) (by kernel_rfl) ⟨⟨⟨0, rfl⟩, trivial⟩, ⟨⟨0, rfl⟩, trivial⟩, trivial⟩ (fun _ _ _ h => h) ?_
              refine VA.va (i := 15) (listed' := LB 18 65535) rfl (op_cmps rfl rfl (congrArg some hb1704) (ltn rfl)) rfl (by kernel_rfl) (by kernel_rfl) (by kernel_rfl) (by kernel_rfl) ⟨⟨⟨0, rfl⟩, trivial⟩, ⟨⟨0, rfl⟩, trivial⟩, trivial⟩ (fun _ _ _ h => h) ?_
              refine VA.va (i := 16) (listed' := LB 18 131071) rfl (op_pick rfl rfl (ltn rfl)) rfl (by kernel_rfl) (by kernel_rfl) (by kernel_rfl) (by kernel_rfl) ⟨⟨⟨0, rfl⟩, trivial⟩, ⟨⟨0, rfl⟩, trivial⟩, trivial⟩ (fun _ _ _ h => h) ?_
              refine VA.va (i := 17) (listed' := LB 18 262143) rfl (op_pick rfl rfl (ltn rfl)) rfl (by kernel_rfl) (by kernel_rfl) (by kernel_rfl) (by kernel_rfl) ⟨⟨⟨0, rfl⟩, trivial⟩, ⟨⟨0, rfl⟩, trivial⟩, trivial⟩ (fun _ _ _ h => h) ?_
              refine VA.done (by kernel_rfl) ?_
              exact VN.meet0  [0] [] trivial ⟨rfl, ⟨rfl, rfl, rfl, rfl, rfl, rfl, rfl, rfl, rfl, rfl, rfl, rfl, rfl, rfl, rfl, rfl, rfl, rfl, rfl, rfl, rfl, rfl, rfl, rfl, rfl, rfl, trivial⟩, ⟨⟨0, rfl⟩, trivial⟩, rfl, by decide, rfl, by decide⟩
            intro _
            by_cases c1705 : (!Op.bytesLess x1703.f0.toList x1693.f0.toList) = true
            · rw [if_pos c1705] at h
              obtain rfl : b1704 = true := hb1704.symm.trans (c1705)
              refine VC.cond_t rfl ?_
              refine VC.seq ?_
              refine VC.region ?_
              refine VL.va (op_assign rfl (ltn rfl)) rfl ?_
              refine VL.done ?_
              refine VN.then ?_
              refine VC.ret ?_
              refine VR.block ?_
              refine VR.then ?_
              refine VR.then ?_
              refine VR.block ?_
              refine VR.then ?_
              obtain rfl := Option.some.inj h
              exact VR.fn (rs := [.tmp 2]) [] [] [] rfl (.tmp rfl .nil) ⟨rfl, rfl, rfl⟩ trivial rfl (by decide)
            · rw [if_neg c1705] at h
              obtain rfl : b1704 = false := hb1704.symm.trans (Bool.eq_false_iff.2 c1705)
              refine VC.cond_f rfl ?_
              refine VC.skip ?_
              refine VN.block ?_
              refine VN.then ?_
              refine VC.region ?_
              refine VL.va (op_ari64 rfl rfl rfl (ltn rfl)) rfl ?_
              refine VL.va (op_move rfl (ltn rfl)) rfl ?_
              refine VL.done ?_
              refine VN.again [] [] (ihl1 (wrap64 (i1642 + 1)) h) ⟨rfl, ⟨rfl, rfl, rfl, rfl, rfl, trivial⟩, ⟨⟨0, rfl⟩, trivial⟩, rfl, by decide, rfl, by decide⟩
          · rw [if_neg c1702] at h; cases h
        · rw [if_neg c1701] at h
          obtain rfl : b1700 = false := hb1700.symm.trans (decide_eq_false c1701)
          refine VC.join0 (⟨34, [(0, (.slice (some ad1694) l0.length n1695)), (2, .bool false), (3, .int .i64 i1642), (4, .pointer (some ⟨g1696, 0, none⟩)), (5, (.slice (some ad1694) l0.length n1695)), (6, .int .i64 (l0.length : Int)), (7, .int .i64 i1642), (8, .bool true), (9, .int .i64 i1642), (11, .agg #[.string x1693.f0, .int .i64 x1693.f1, .int .i64 x1693.f2, .int .i64 x1693.f3, .int .i64 x1693.f4, .int .i64 x1693.f5]), (12, .agg #[.string x1693.f0, .int .i64 x1693.f1, .int .i64 x1693.f2, .int .i64 x1693.f3, .int .i64 x1693.f4, .int .i64 x1693.f5]), (13, .bool true), (14, .bool false), (15, .bool false), (16, .int .i64 i1642), (17, .bool false), (18, .bool false), (19, undef), (20, undef), (21, undef), (22, undef), (23, undef), (24, undef), (25, undef), (26, undef), (27, undef), (28, .bool false), (29, .bool false)], [.row (.slice (some ad1694) l0.length n1695) 6 (l0.map enc32)], [(g1696, 33, [.string x1693.f0, .int .i64 x1693.f1, .int .i64 x1693.f2, .int .i64 x1693.f3, .int .i64 x1693.f4, .int .i64 x1693.f5])], []⟩) (True) ?_ ?_
          · refine VC.draw ⟨0, [], [], [(g1696, 33, [.string x1693.f0, .int .i64 x1693.f1, .int .i64 x1693.f2, .int .i64 x1693.f3, .int .i64 x1693.f4, .int .i64 x1693.f5])], []⟩ (by kernel_rfl) rfl (by kernel_rfl) (n := 18) (listed := LB 18 0) ?_
            refine VA.va (i := 0) (listed' := LB 18 1) rfl (op_load 0 6 rfl rfl TI33 rfl (fun h => absurd h (by decide)) (ltn rfl)) rfl (by kernel_rfl) (by kernel_rfl) (by kernel_rfl) (by kernel_rfl) ⟨trivial, ⟨⟨0, rfl⟩, trivial⟩, trivial⟩ (fun _ _ _ h => h) ?_
            refine VA.oneC (i := 1) (listed' := LB 18 3) (by kernel_rfl) rfl (o_call0 FO27 (stock_may.ok k x1693.f0 x1693.f1 x1693.f2 x1693.f3 x1693.f4 x1693.f5 true hA1698) rfl rfl (ltn rfl) (All_of .nil)) rfl (by kernel_rfl) ?_
            rintro _ _ _ ⟨rfl, rfl, rfl⟩
            refine ⟨⟨trivial, ⟨⟨0, rfl⟩, trivial⟩, trivial⟩, ?_⟩
            refine VA.va (i := 2) (listed' := LB 18 7) rfl (op_not rfl rfl (ltn rfl)) rfl (by kernel_rfl) (by kernel_rfl) (by kernel_rfl) (by kernel_rfl) ⟨trivial, ⟨⟨0, rfl⟩, trivial⟩, trivial⟩ (fun _ _ _ h => h) ?_
            refine VA.va (i := 3) (listed' := LB 18 15) rfl (op_move rfl (ltn rfl)) rfl (by kernel_rfl) (by kernel_rfl) (by kernel_rfl) (by kernel_rfl) ⟨trivial, ⟨⟨0, rfl⟩, trivial⟩, trivial⟩ (fun _ _ _ h => h) ?_
            refine VA.va (i := 4) (listed' := LB 18 31) rfl (op_move rfl (ltn rfl)) rfl (by kernel_rfl) (by kernel_rfl) (by kernel_rfl) (by kernel_rfl) ⟨trivial, ⟨⟨0, rfl⟩, trivial⟩, trivial⟩ (fun _ _ _ h => h) ?_
            refine VA.va (i := 5) (listed' := LB 18 63) rfl (op_cmp rfl rfl (congrArg some hb1700) (ltn rfl)) rfl (by kernel_rfl) (by kernel_rfl) (by kernel_rfl) (by kernel_rfl) ⟨trivial, ⟨⟨0, rfl⟩, trivial⟩, trivial⟩ (fun _ _ _ h => h) ?_
            refine VA.va (i := 6) (listed' := LB 18 127) rfl (op_move rfl (ltn rfl)) rfl (by kernel_rfl) (by kernel_rfl) (by kernel_rfl) (by kernel_rfl) ⟨trivial, ⟨⟨0, rfl⟩, trivial⟩, trivial⟩ (fun _ _ _ h => h) ?_
            refine VA.un (i := 7) (listed' := LB 18 255) rfl rfl rfl (ltn rfl) (by kernel_rfl) (by kernel_rfl) (by kernel_rfl) (by kernel_rfl) ⟨trivial, ⟨⟨0, rfl⟩, trivial⟩, trivial⟩ (fun _ _ _ h => h) ?_
            refine VA.un (i := 8) (listed' := LB 18 511) rfl rfl rfl (ltn rfl) (by kernel_rfl) (by kernel_rfl) (by kernel_rfl) (by kernel_rfl) ⟨trivial, ⟨⟨0, rfl⟩, trivial⟩, trivial⟩ (fun _ _ _ h => h) ?_
            refine VA.un (i := 9) (listed' := LB 18 1023) rfl rfl rfl (ltn rfl) (by kernel_rfl) (by kernel_rfl) (by kernel_rfl) (by kernel_rfl) ⟨trivial, ⟨⟨0, rfl⟩, trivial⟩, trivial⟩ (fun _ _ _ h => h) ?_
            refine VA.un (i := 10) (listed' := LB 18 2047) rfl rfl rfl (ltn rfl) (by kernel_rfl) (by kernel_rfl) (by kernel_rfl) (by kernel_rfl) ⟨trivial, ⟨⟨0, rfl⟩, trivial⟩, trivial⟩ (fun _ _ _ h => h) ?_
            refine VA.un (i := 11) (listed' := LB 18 4095) rfl rfl rfl (ltn rfl) (by kernel_rfl) (by kernel_rfl) (by kernel_rfl) (by kernel_rfl) ⟨trivial, ⟨⟨0, rfl⟩, trivial⟩, trivial⟩ (fun _ _ _ h => h) ?_
            refine VA.un (i := 12) (listed' := LB 18 8191) rfl rfl rfl (ltn rfl) (by kernel_rfl) (by kernel_rfl) (by kernel_rfl) (by kernel_rfl) ⟨trivial, ⟨⟨0, rfl⟩, trivial⟩, trivial⟩ (fun _ _ _ h => h) ?_
            refine VA.un (i := 13) (listed' := LB 18 16383) rfl rfl rfl (ltn rfl) (by kernel_rfl) (by kernel_rfl) (by kernel_rfl) (by kernel_rfl) ⟨trivial, ⟨⟨0, rfl⟩, trivial⟩, trivial⟩ (fun _ _ _ h => h) ?_
            refine VA.un (i := 14) (listed' := LB 18 32767) rfl rfl rfl (ltn rfl) (by kernel_rfl) (by kernel_rfl) (by kernel_rfl) (by kernel_rfl) ⟨trivial, ⟨⟨0, rfl⟩, trivial⟩, trivial⟩ (fun _ _ _ h => h) ?_
            refine VA.un (i := 15) (listed' := LB 18 65535) rfl rfl rfl (ltn rfl) (by kernel_rfl) (by kernel_rfl) (by kernel_rfl) (by kernel_rfl) ⟨trivial, ⟨⟨0, rfl⟩, trivial⟩, trivial⟩ (fun _ _ _ h => h) ?_
            refine VA.va (i := 16) (listed' := LB 18 131071) rfl (op_pick rfl rfl (ltn rfl)) rfl (by kernel_rfl) (by kernel_rfl) (by kernel_rfl) (by kernel_rfl) ⟨trivial, ⟨⟨0, rfl⟩, trivial⟩, trivial⟩ (fun _ _ _ h => h) ?_
            refine VA.va (i := 17) (listed' := LB 18 262143) rfl (op_pick rfl rfl (ltn rfl)) rfl (by kernel_rfl) (by kernel_rfl) (by kernel_rfl) (by kernel_rfl) ⟨trivial, ⟨⟨0, rfl⟩, trivial⟩, trivial⟩ (fun _ _ _ h => h) ?_
            refine VA.done (by kernel_rfl) ?_
            exact VN.meet0  [0] [] trivial ⟨rfl, ⟨rfl, rfl, rfl, rfl, rfl, rfl, rfl, rfl, rfl, rfl, rfl, rfl, rfl, rfl, rfl, rfl, rfl, rfl, rfl, rfl, rfl, rfl, rfl, rfl, rfl, rfl, rfl, rfl, trivial⟩, ⟨⟨0, rfl⟩, trivial⟩, rfl, by decide, rfl, by decide⟩
          intro _
          refine VC.cond_f rfl ?_
          refine VC.skip ?_
          refine VN.block ?_
          refine VN.then ?_
          refine VC.region ?_
          refine VL.va (op_ari64 rfl rfl rfl (ltn rfl)) rfl ?_
          refine VL.va (op_move rfl (ltn rfl)) rfl ?_
          refine VL.done ?_
          refine VN.again [] [] (ihl1 (wrap64 (i1642 + 1)) h) ⟨rfl, ⟨rfl, rfl, rfl, rfl, rfl, trivial⟩, ⟨⟨0, rfl⟩, trivial⟩, rfl, by decide, rfl, by decide⟩
      · rw [if_neg c1699] at h
        obtain rfl := Bool.eq_false_iff.2 c1699
        refine VC.join0 (⟨34, [(0, (.slice (some ad1694) l0.length n1695)), (2, .bool false), (3, .int .i64 i1642), (4, .pointer (some ⟨g1696, 0, none⟩)), (5, (.slice (some ad1694) l0.length n1695)), (6, .int .i64 (l0.length : Int)), (7, .int .i64 i1642), (8, .bool true), (9, .int .i64 i1642), (11, .agg #[.string x1693.f0, .int .i64 x1693.f1, .int .i64 x1693.f2, .int .i64 x1693.f3, .int .i64 x1693.f4, .int .i64 x1693.f5]), (12, .agg #[.string x1693.f0, .int .i64 x1693.f1, .int .i64 x1693.f2, .int .i64 x1693.f3, .int .i64 x1693.f4, .int .i64 x1693.f5]), (13, .bool false), (14, .bool true), (15, .bool true), (16, undef), (17, undef), (18, undef), (19, undef), (20, undef), (21, undef), (22, undef), (23, undef), (24, undef), (25, undef), (26, undef), (27, undef), (28, undef), (29, .bool true)], [.row (.slice (some ad1694) l0.length n1695) 6 (l0.map enc32)], [(g1696, 33, [.string x1693.f0, .int .i64 x1693.f1, .int .i64 x1693.f2, .int .i64 x1693.f3, .int .i64 x1693.f4, .int .i64 x1693.f5])], []⟩) (True) ?_ ?_
        · refine VC.draw ⟨0, [], [], [(g1696, 33, [.string x1693.f0, .int .i64 x1693.f1, .int .i64 x1693.f2, .int .i64 x1693.f3, .int .i64 x1693.f4, .int .i64 x1693.f5])], []⟩ (by kernel_rfl) rfl (by kernel_rfl) (n := 18) (listed := LB 18 0) ?_
          refine VA.va (i := 0) (listed' := LB 18 1) rfl (op_load 0 6 rfl rfl TI33 rfl (fun h => absurd h (by decide)) (ltn rfl)) rfl (by kernel_rfl) (by kernel_rfl) (by kernel_rfl) (by kernel_rfl) ⟨trivial, ⟨⟨0, rfl⟩, trivial⟩, trivial⟩ (fun _ _ _ h => h) ?_
          refine VA.oneC (i := 1) (listed' := LB 18 3) (by kernel_rfl) rfl (o_call0 FO27 (stock_may.ok k x1693.f0 x1693.f1 x1693.f2 x1693.f3 x1693.f4 x1693.f5 false hA1698) rfl rfl (ltn rfl) (All_of .nil)) rfl (by kernel_rfl) ?_
          rintro _ _ _ ⟨rfl, rfl, rfl⟩
          refine ⟨⟨trivial, ⟨⟨0, rfl⟩, trivial⟩, trivial⟩, ?_⟩
          refine VA.va (i := 2) (listed' := LB 18 7) rfl (op_not rfl rfl (ltn rfl)) rfl (by kernel_rfl) (by kernel_rfl) (by kernel_rfl) (by kernel_rfl) ⟨trivial, ⟨⟨0, rfl⟩, trivial⟩, trivial⟩ (fun _ _ _ h => h) ?_
          refine VA.va (i := 3) (listed' := LB 18 15) rfl (op_move rfl (ltn rfl)) rfl (by kernel_rfl) (by kernel_rfl) (by kernel_rfl) (by kernel_rfl) ⟨trivial, ⟨⟨0, rfl⟩, trivial⟩, trivial⟩ (fun _ _ _ h => h) ?_
          refine VA.un (i := 4) (listed' := LB 18 31) rfl rfl rfl (ltn rfl) (by kernel_rfl) (by kernel_rfl) (by kernel_rfl) (by kernel_rfl) ⟨trivial, ⟨⟨0, rfl⟩, trivial⟩, trivial⟩ (fun _ _ _ h => h) ?_
          refine VA.un (i := 5) (listed' := LB 18 63) rfl rfl rfl (ltn rfl) (by kernel_rfl) (by kernel_rfl) (by kernel_rfl) (by kernel_rfl) ⟨trivial, ⟨⟨0, rfl⟩, trivial⟩, trivial⟩ (fun _ _ _ h => h) ?_
          refine VA.un (i := 6) (listed' := LB 18 127) rfl rfl rfl (ltn rfl) (by kernel_rfl) (by kernel_rfl) (by kernel_rfl) (by kernel_rfl) ⟨trivial, ⟨⟨0, rfl⟩, trivial⟩, trivial⟩ (fun _ _ _ h => h) ?_
          refine VA.un (i := 7) (listed' := LB 18 255) rfl rfl rfl (ltn rfl) (by kernel_rfl) (by kernel_rfl) (by kernel_rfl) (by kernel_rfl) ⟨trivial, ⟨⟨0, rfl⟩, trivial⟩, trivial⟩ (fun _ _ _ h => h) ?_
          refine VA.un (i := 8) (listed' := LB 18 511) rfl rfl rfl (ltn rfl) (by kernel_rfl) (by kernel_rfl) (by kernel_rfl) (by kernel_rfl) ⟨trivial, ⟨⟨0, rfl⟩, trivial⟩, trivial⟩ (fun _ _ _ h => h) ?_
          refine VA.un (i := 9) (listed' := LB 18 1023) rfl rfl rfl (ltn rfl) (by kernel_rfl) (by kernel_rfl) (by kernel_rfl) (by kernel_rfl) ⟨trivial, ⟨⟨0, rfl⟩, trivial⟩, trivial⟩ (fun _ _ _ h => h) ?_
          refine VA.un (i := 10) (listed' := LB 18 2047) rfl rfl rfl (ltn rfl) (by kernel_rfl) (by kernel_rfl) (by kernel_rfl) (by kernel_rfl) ⟨trivial, ⟨⟨0, rfl⟩, trivial⟩, trivial⟩ (fun _ _ _ h => h) ?_
          refine VA.un (i := 11) (listed' := LB 18 4095) rfl rfl rfl (ltn rfl) (by kernel_rfl) (by kernel_rfl) (by kernel_rfl) (by kernel_rfl) ⟨trivial, ⟨⟨0, rfl⟩, trivial⟩, trivial⟩ (fun _ _ _ h => h) ?_
          refine VA.un (i := 12) (listed' := LB 18 8191) rfl rfl rfl (ltn rfl) (by kernel_rfl) (by kernel_rfl) (by kernel_rfl) (by kernel_rfl) ⟨trivial, ⟨⟨0, rfl⟩, trivial⟩, trivial⟩ (fun _ _ _ h => h) ?_
          refine VA.un (i := 13) (listed' := LB 18 16383) rfl rfl rfl (ltn rfl) (by kernel_rfl) (by kernel_rfl) (by kernel_rfl) (by kernel_rfl) ⟨trivial, ⟨⟨0, rfl⟩, trivial⟩, trivial⟩ (fun _ _ _ h => h) ?_
          refine VA.un (i := 14) (listed' := LB 18 32767) rfl rfl rfl (ltn rfl) (by kernel_rfl) (by kernel_rfl) (by kernel_rfl) (by kernel_rfl) ⟨trivial, ⟨⟨0, rfl⟩, trivial⟩, trivial⟩ (fun _ _ _ h => h) ?_
          refine VA.un (i := 15) (listed' := LB 18 65535) rfl rfl rfl (ltn rfl) (by kernel_rfl) (by kernel_rfl) (by kernel_rfl) (by kernel_rfl) ⟨trivial, ⟨⟨0, rfl⟩, trivial⟩, trivial⟩ (fun _ _ _ h => h) ?_
          refine VA.un (i := 16) (listed' := LB 18 131071) rfl rfl rfl (ltn rfl) (by kernel_rfl) (by kernel_rfl) (by kernel_rfl) (by kernel_rfl) ⟨trivial, ⟨⟨0, rfl⟩, trivial⟩, trivial⟩ (fun _ _ _ h => h) ?_
          refine VA.va (i := 17) (listed' := LB 18 262143) rfl (op_pick rfl rfl (ltn rfl)) rfl (by kernel_rfl) (by kernel_rfl) (by kernel_rfl) (by kernel_rfl) ⟨trivial, ⟨⟨0, rfl⟩, trivial⟩, trivial⟩ (fun _ _ _ h => h) ?_
          refine VA.done (by kernel_rfl) ?_
          exact VN.meet0  [0] [] trivial ⟨rfl, ⟨rfl, rfl, rfl, rfl, rfl, rfl, rfl, rfl, rfl, rfl, rfl, rfl, rfl, rfl, rfl, rfl, rfl, rfl, rfl, rfl, rfl, rfl, rfl, rfl, rfl, rfl, rfl, rfl, trivial⟩, ⟨⟨0, rfl⟩, trivial⟩, rfl, by decide, rfl, by decide⟩
        intro _
        refine VC.cond_t rfl ?_
        refine VC.seq ?_
        refine VC.region ?_
        refine VL.va (op_assign rfl (ltn rfl)) rfl ?_
        refine VL.done ?_
        refine VN.then ?_
        refine VC.ret ?_
        refine VR.block ?_
        refine VR.then ?_
        refine VR.then ?_
        refine VR.block ?_
        refine VR.then ?_
        obtain rfl := Option.some.inj h
        exact VR.fn (rs := [.tmp 2]) [] [] [] rfl (.tmp rfl .nil) ⟨rfl, rfl, rfl⟩ trivial rfl (by decide)
    · rw [if_neg c1692] at h; cases h
  · rw [if_neg c1677] at h
    obtain rfl : b1674 = false := hb1674.symm.trans (decide_eq_false c1677)
    refine VC.cond_f rfl ?_
    refine VC.exit ?_
    refine VX.then ?_
    refine VX.then ?_
    refine VX.hit ?_
    refine VN.then ?_
    refine VC.seq ?_
    refine VC.region ?_
    refine VL.va (op_move rfl (ltn rfl)) rfl ?_
    refine VL.va (op_len (m := l0.length) 0 lenm Try.underlying23 rfl rfl (ltn rfl)) rfl ?_
    refine VL.letter (decide ((l0.length : Int) ≤ 8)) fun b1706 hb1706 => ?_
    refine VL.va (op_cmp rfl rfl (congrArg some hb1706) (ltn rfl)) rfl ?_
    refine VL.va (op_assign rfl (ltn rfl)) rfl ?_
    refine VL.done ?_
    refine VN.then ?_
    refine VC.ret ?_
    obtain rfl := Option.some.inj h
    subst hb1706
    exact VR.fn (rs := [.tmp 2]) [] [] [] rfl (.tmp rfl .nil) ⟨rfl, rfl, rfl⟩ trivial rfl (by decide)
set_option maxHeartbeats 4000000 in
set_option maxRecDepth 100000 in
theorem stock_at_1.ok (a0_0 : ByteArray) (a0_1 : Int) (a0_2 : Int) (a0_3 : Int) (a0_4 : Int) (a0_5 : Int) (a1 : ByteArray)  (r1 : Int) (h : stock_at_1.f a0_0 a0_1 a0_2 a0_3 a0_4 a0_5 a1 = some r1) :
    VCalls Try.prog 40 [.agg #[.string a0_0, .int .i64 a0_1, .int .i64 a0_2, .int .i64 a0_3, .int .i64 a0_4, .int .i64 a0_5], .string a1] [] (fun v G own => v = .int .i64 r1 ∧ G = [] ∧ own = []) := by
  refine VCalls.intro Try.func40 rfl (len rfl) fun E hC => ?_
  unfold stock_at_1.f at h
  refine VC.seq ?_
  refine VC.region ?_
  refine VL.sG (o_box rfl (.agg (.c rfl (.c rfl (.c rfl (.c rfl (.c rfl (.c rfl .nil))))))) (ltn rfl)) rfl ?_
  intro g1756
  refine VL.va (op_assign rfl (ltn rfl)) rfl ?_
  refine VL.done ?_
  refine VN.then ?_
  refine VC.seq ?_
  refine VC.region ?_
  refine VL.va (op_fieldAddr FI33_0 rfl (add_at _ _ _) (ltn rfl)) rfl ?_
  refine VL.va (op_load 0 1 rfl rfl TI9 rfl (by decide) (ltn rfl)) rfl ?_
  refine VL.va (op_move rfl (ltn rfl)) rfl ?_
  replace h := Option.bind_eq_some_iff.1 h
  obtain ⟨t1757, hA1758, h⟩ := h
  refine VL.sC (o_call0 FO41 (strings_Compare.ok a0_0 a1 t1757 hA1758) rfl rfl (ltn rfl) (All_of .nil)) rfl ?_
  rintro _ _ _ ⟨rfl, rfl, rfl⟩
  refine VL.va (op_assign rfl (ltn rfl)) rfl ?_
  refine VL.done ?_
  refine VN.then ?_
  refine VC.ret ?_
  obtain rfl := Option.some.inj h
  exact VR.fn (rs := [.tmp 4]) [] [] [] rfl (.tmp rfl .nil) ⟨rfl, rfl, rfl⟩ trivial rfl (by decide)
set_option maxHeartbeats 4000000 in
set_option maxRecDepth 100000 in
theorem slices_BinarySearchFunc_api_Row_api_Row_string.ok (k : Nat) (l0 : List S32) (a1 : ByteArray) (v0 : Value) (r1 : Int) (r2 : Bool) (h : slices_BinarySearchFunc_api_Row_api_Row_string.f k l0 a1 = some (r1, r2)) :
    VCalls Try.prog 39 [v0, .string a1, (.func (.func 40) #[] #[])] [.row v0 6 (l0.map enc32)] (fun v G own => v = .tuple #[.int .i64 r1, .bool r2] ∧ G = [] ∧ own = []) := by
  refine VCalls.intro Try.func39 rfl (len rfl) fun E hC => ?_
  unfold slices_BinarySearchFunc_api_Row_api_Row_string.f at h
  refine VC.seq ?_
  refine VC.region ?_
  refine VL.va (op_assign rfl (ltn rfl)) rfl ?_
  refine VL.va (op_assign rfl (ltn rfl)) rfl ?_
  refine VL.done ?_
  refine VN.then ?_
  refine VC.seq ?_
  refine VC.region ?_
  refine VL.va (op_move rfl (ltn rfl)) rfl ?_
  refine VL.va (op_len (m := l0.length) 0 lenm Try.underlying23 rfl rfl (ltn rfl)) rfl ?_
  refine VL.va (op_assign rfl (ltn rfl)) rfl ?_
  refine VL.done ?_
  refine VN.then ?_
  refine VC.seq ?_
  refine VC.region ?_
  refine VL.va (op_move rfl (ltn rfl)) rfl ?_
  refine VL.va (op_assign rfl (ltn rfl)) rfl ?_
  refine VL.va (op_assign rfl (ltn rfl)) rfl ?_
  refine VL.done ?_
  refine VN.then ?_
  refine VC.seq ?_
  refine VC.block ?_
  refine VC.loop2 (fun (i1801 : Int) (i1802 : Int) => ⟨49, [(0, v0), (1, .string a1), (2, (.func (.func 40) #[] #[])), (6, .int .i64 0), (7, .bool false), (8, .int .i64 (l0.length : Int)), (9, .int .i64 i1801), (10, .int .i64 i1802)], [.row v0 6 (l0.map enc32)], [], []⟩) (fun (ml1 : Nat) (i1801 : Int) (i1802 : Int) => slices_BinarySearchFunc_api_Row_api_Row_string.l1 k a1 l0 ml1 i1801 i1802 = some (r1, r2)) k 0 (l0.length : Int) [] [] h ⟨rfl, ⟨rfl, rfl, rfl, rfl, rfl, rfl, rfl, rfl, trivial⟩, ⟨⟨0, rfl⟩, trivial⟩, rfl, by decide, rfl, by decide⟩ (by intros; simp [slices_BinarySearchFunc_api_Row_api_Row_string.l1]) ?_
  clear h
  intro ml1 ihl1 i1801 i1802 h
  simp only [slices_BinarySearchFunc_api_Row_api_Row_string.l1] at h
  refine VC.seq ?_
  refine VC.seq ?_
  refine VC.region ?_
  refine VL.va (op_move rfl (ltn rfl)) rfl ?_
  refine VL.va (op_move rfl (ltn rfl)) rfl ?_
  refine VL.letter (decide (i1801 < i1802)) fun b1835 hb1835 => ?_
  refine VL.va (op_cmp rfl rfl (congrArg some hb1835) (ltn rfl)) rfl ?_
  refine VL.done ?_
  refine VN.then ?_
  by_cases c1836 : i1801 < i1802
  · rw [if_pos c1836] at h
    obtain rfl : b1835 = true := hb1835.symm.trans (decide_eq_true c1836)
    refine VC.cond_t rfl ?_
    refine VC.skip ?_
    refine VN.then ?_
    refine VC.block ?_
    refine VC.seq ?_
    refine VC.region ?_
    refine VL.va (op_move rfl (ltn rfl)) rfl ?_
    refine VL.va (op_move rfl (ltn rfl)) rfl ?_
    refine VL.va (op_ari64 rfl rfl rfl (ltn rfl)) rfl ?_
    refine VL.va (op_conv Try.underlying3 Try.underlying80 rfl rfl (ltn rfl)) rfl ?_
    refine VL.va (op_shr rfl rfl (by decide) rfl (ltn rfl)) rfl ?_
    refine VL.va (op_conv Try.underlying80 Try.underlying3 rfl (i64w _) (ltn rfl)) rfl ?_
    refine VL.va (op_assign rfl (ltn rfl)) rfl ?_
    refine VL.done ?_
    refine VN.then ?_
    refine VC.seq ?_
    refine VC.region ?_
    refine VL.va (op_move rfl (ltn rfl)) rfl ?_
    refine VL.va (op_move rfl (ltn rfl)) rfl ?_
    refine VL.va (op_move rfl (ltn rfl)) rfl ?_
    by_cases c1837 : 0 ≤ wrap64 ((IntKind.u64.wrap (wrap64 (i1801 + i1802))).fdiv (2 ^ min (1 : Int).toNat IntKind.u64.bits))
    · rw [if_pos c1837] at h
      replace h := Option.bind_eq_some_iff.1 h
      obtain ⟨x1838, hx1838, h⟩ := h
      refine VL.open (m := l0.length) 0 lenm rfl (pos_get hx1838) ?_
      rintro ad1839 n1840 rfl
      refine VL.va (op_indexAddr Try.underlying23 TI33 rfl rfl c1837 (lt_get c1837 hx1838) rfl (ltn rfl)) rfl ?_
      refine VL.va (op_load_row (sz := 6) (o := 0) 0 (wrap64 ((IntKind.u64.wrap (wrap64 (i1801 + i1802))).fdiv (2 ^ min (1 : Int).toNat IntKind.u64.bits))).toNat 6 rfl rfl (get_map hx1838) TI33 rfl (fun h => absurd h (by decide)) (ltn rfl)) rfl ?_
      refine VL.va (op_move rfl (ltn rfl)) rfl ?_
      replace h := Option.bind_eq_some_iff.1 h
      obtain ⟨t1841, hA1842, h⟩ := h
      refine VL.sC (o_call0 FO40 (stock_at_1.ok x1838.f0 x1838.f1 x1838.f2 x1838.f3 x1838.f4 x1838.f5 a1 t1841 hA1842) rfl rfl (ltn rfl) (All_of .nil)) rfl ?_
      rintro _ _ _ ⟨rfl, rfl, rfl⟩
      refine VL.letter (decide (t1841 < 0)) fun b1843 hb1843 => ?_
      refine VL.va (op_cmp rfl rfl (congrArg some hb1843) (ltn rfl)) rfl ?_
      refine VL.done ?_
      refine VN.then ?_
      by_cases c1844 : t1841 < 0
      · rw [if_pos c1844] at h
        obtain rfl : b1843 = true := hb1843.symm.trans (decide_eq_true c1844)
        refine VC.cond_t rfl ?_
        refine VC.region ?_
        refine VL.va (op_move rfl (ltn rfl)) rfl ?_
        refine VL.va (op_ari64 rfl rfl rfl (ltn rfl)) rfl ?_
        refine VL.va (op_assign rfl (ltn rfl)) rfl ?_
        refine VL.done ?_
        refine VN.block ?_
        refine VN.again [] [] (ihl1 (wrap64 ((wrap64 ((IntKind.u64.wrap (wrap64 (i1801 + i1802))).fdiv (2 ^ min (1 : Int).toNat IntKind.u64.bits))) + 1)) i1802 h) ⟨rfl, ⟨rfl, rfl, rfl, rfl, rfl, rfl, rfl, rfl, trivial⟩, ⟨⟨0, rfl⟩, trivial⟩, rfl, by decide, rfl, by decide⟩
      · rw [if_neg c1844] at h
        obtain rfl : b1843 = false := hb1843.symm.trans (decide_eq_false c1844)
        refine VC.cond_f rfl ?_
        refine VC.region ?_
        refine VL.va (op_move rfl (ltn rfl)) rfl ?_
        refine VL.va (op_assign rfl (ltn rfl)) rfl ?_
        refine VL.done ?_
        refine VN.block ?_
        refine VN.again [] [] (ihl1 i1801 (wrap64 ((IntKind.u64.wrap (wrap64 (i1801 + i1802))).fdiv (2 ^ min (1 : Int).toNat IntKind.u64.bits))) h) ⟨rfl, ⟨rfl, rfl, rfl, rfl, rfl, rfl, rfl, rfl, trivial⟩, ⟨⟨0, rfl⟩, trivial⟩, rfl, by decide, rfl, by decide⟩
    · rw [if_neg c1837] at h; cases h
  · rw [if_neg c1836] at h
    obtain rfl : b1835 = false := hb1835.symm.trans (decide_eq_false c1836)
    refine VC.cond_f rfl ?_
    refine VC.exit ?_
    refine VX.then ?_
    refine VX.then ?_
    refine VX.hit ?_
    refine VN.then ?_
    refine VC.seq ?_
    refine VC.region ?_
    refine VL.va (op_move rfl (ltn rfl)) rfl ?_
    refine VL.va (op_move rfl (ltn rfl)) rfl ?_
    refine VL.va (op_move rfl (ltn rfl)) rfl ?_
    refine VL.letter (decide (i1801 < (l0.length : Int))) fun b1854 hb1854 => ?_
    refine VL.va (op_cmp rfl rfl (congrArg some hb1854) (ltn rfl)) rfl ?_
    refine VL.va (op_move rfl (ltn rfl)) rfl ?_
    by_cases c1855 : i1801 < (l0.length : Int)
    · rw [if_pos c1855] at h
      obtain rfl : b1854 = true := hb1854.symm.trans (decide_eq_true c1855)
      refine VL.va (op_move rfl (ltn rfl)) rfl ?_
      refine VL.va (op_move rfl (ltn rfl)) rfl ?_
      refine VL.va (op_move rfl (ltn rfl)) rfl ?_
      by_cases c1856 : 0 ≤ i1801
      · rw [if_pos c1856] at h
        replace h := Option.bind_eq_some_iff.1 h
        obtain ⟨x1857, hx1857, h⟩ := h
        refine VL.open (m := l0.length) 0 lenm rfl (pos_get hx1857) ?_
        rintro ad1858 n1859 rfl
        refine VL.va (op_indexAddr Try.underlying23 TI33 rfl rfl c1856 (lt_get c1856 hx1857) rfl (ltn rfl)) rfl ?_
        refine VL.va (op_load_row (sz := 6) (o := 0) 0 i1801.toNat 6 rfl rfl (get_map hx1857) TI33 rfl (fun h => absurd h (by decide)) (ltn rfl)) rfl ?_
        refine VL.va (op_move rfl (ltn rfl)) rfl ?_
        replace h := Option.bind_eq_some_iff.1 h
        obtain ⟨t1860, hA1861, h⟩ := h
        refine VL.sC (o_call0 FO40 (stock_at_1.ok x1857.f0 x1857.f1 x1857.f2 x1857.f3 x1857.f4 x1857.f5 a1 t1860 hA1861) rfl rfl (ltn rfl) (All_of .nil)) rfl ?_
        rintro _ _ _ ⟨rfl, rfl, rfl⟩
        refine VL.letter ((t1860 == 0)) fun b1862 hb1862 => ?_
        refine VL.va (op_cmp rfl rfl (congrArg some hb1862) (ltn rfl)) rfl ?_
        refine VL.va (op_pick rfl rfl (ltn rfl)) rfl ?_
        refine VL.va (op_assign rfl (ltn rfl)) rfl ?_
        refine VL.va (op_assign rfl (ltn rfl)) rfl ?_
        refine VL.done ?_
        refine VN.then ?_
        refine VC.ret ?_
        simp only [Option.some.injEq, Prod.mk.injEq] at h
        obtain ⟨rfl, rfl⟩ := h
        subst hb1862
        exact VR.fn (rs := [.tmp 6, .tmp 7]) [] [] [] rfl (.tmp rfl (.tmp rfl .nil)) ⟨rfl, rfl, rfl⟩ trivial rfl (by decide)
      · rw [if_neg c1856] at h; cases h
    · rw [if_neg c1855] at h
      obtain rfl : b1854 = false := hb1854.symm.trans (decide_eq_false c1855)
      refine VL.un rfl rfl (ltn rfl) ?_
      refine VL.un rfl rfl (ltn rfl) ?_
      refine VL.un rfl rfl (ltn rfl) ?_
      refine VL.un rfl rfl (ltn rfl) ?_
      refine VL.un rfl rfl (ltn rfl) ?_
      refine VL.un rfl rfl (ltn rfl) ?_
      refine VL.un rfl rfl (ltn rfl) ?_
      refine VL.un rfl rfl (ltn rfl) ?_
      refine VL.va (op_pick rfl rfl (ltn rfl)) rfl ?_
      refine VL.va (op_assign rfl (ltn rfl)) rfl ?_
      refine VL.va (op_assign rfl (ltn rfl)) rfl ?_
      refine VL.done ?_
      refine VN.then ?_
      refine VC.ret ?_
      simp only [Option.some.injEq, Prod.mk.injEq] at h
      obtain ⟨rfl, rfl⟩ := h
      exact VR.fn (rs := [.tmp 6, .tmp 7]) [] [] [] rfl (.tmp rfl (.tmp rfl .nil)) ⟨rfl, rfl, rfl⟩ trivial rfl (by decide)
set_option maxHeartbeats 4000000 in
set_option maxRecDepth 100000 in
theorem stock_at.ok (k : Nat) (l0 : List S32) (a1 : ByteArray) (v0 : Value) (r1 : Int) (r2 : Bool) (h : stock_at.f k l0 a1 = some (r1, r2)) :
    VCalls Try.prog 24 [v0, .string a1] [.row v0 6 (l0.map enc32)] (fun v G own => v = .tuple #[.int .i64 r1, .bool r2] ∧ G = [] ∧ own = []) := by
  refine VCalls.intro Try.func24 rfl (len rfl) fun E hC => ?_
  unfold stock_at.f at h
  refine VC.seq ?_
  refine VC.region ?_
  refine VL.va (op_assign rfl (ltn rfl)) rfl ?_
  refine VL.va (op_assign rfl (ltn rfl)) rfl ?_
  refine VL.done ?_
  refine VN.then ?_
  refine VC.seq ?_
  refine VC.region ?_
  refine VL.va (op_move rfl (ltn rfl)) rfl ?_
  refine VL.va (op_move rfl (ltn rfl)) rfl ?_
  replace h := Option.bind_eq_some_iff.1 h
  obtain ⟨⟨t1863, t1864⟩, hA1865, h⟩ := h
  dsimp only at h
  refine VL.sC (o_call0 FO39 (slices_BinarySearchFunc_api_Row_api_Row_string.ok k l0 a1 v0 t1863 t1864 hA1865) rfl rfl (ltn rfl) (All_of (.cons (List.mem_of_getElem? (i := 0) rfl) .nil))) rfl ?_
  rintro _ _ _ ⟨rfl, rfl, rfl⟩
  refine VL.va (op_extract rfl rfl (ltn rfl)) rfl ?_
  refine VL.va (op_extract rfl rfl (ltn rfl)) rfl ?_
  refine VL.va (op_assign rfl (ltn rfl)) rfl ?_
  refine VL.va (op_assign rfl (ltn rfl)) rfl ?_
  refine VL.done ?_
  refine VN.then ?_
  refine VC.ret ?_
  simp only [Option.some.injEq, Prod.mk.injEq] at h
  obtain ⟨rfl, rfl⟩ := h
  exact VR.fn (rs := [.tmp 4, .tmp 5]) [] [] [] rfl (.tmp rfl (.tmp rfl .nil)) ⟨rfl, rfl, rfl⟩ trivial rfl (by decide)
set_option maxHeartbeats 4000000 in
set_option maxRecDepth 100000 in
theorem slices_Clone_api_Row_api_Row.ok (l0 : List S32) (v0 : Value) (r1 : List S32) (h : slices_Clone_api_Row_api_Row.f l0 = some r1) :
    VCalls Try.prog 25 [v0] [.row v0 6 (l0.map enc32)] (fun v G own => ∃ w0 : Value, v = w0 ∧ G = [] ∧ own = [(w0, 33, 6, r1.map enc32)]) := by
  unfold slices_Clone_api_Row_api_Row.f at h
  by_cases hc : ¬ (l0.length * 56 ≤ 140737488355328)
  · rw [if_neg hc] at h; cases h
  replace hc := Decidable.not_not.1 hc
  rw [if_pos hc] at h
  obtain rfl := Option.some.inj h
  clear h
  refine VCalls.intro Try.func25 rfl (len rfl) fun E hC => ?_
  refine VC.formF 0 rfl fun A cap hv h1 h2 h3 => ?_
  rw [lenm] at hv h1 h3
  subst hv
  refine VC.seq (VC.region ?_)
  refine VL.va (op_assign rfl (ltn rfl)) rfl ?_
  refine VL.done (VN.then ?_)
  refine VC.seq ?_
  refine VC.seq (VC.region ?_)
  refine VL.va (op_move rfl (ltn rfl)) rfl ?_
  refine VL.va (op_isnil Try.underlying23 rfl rfl (ltn rfl)) rfl ?_
  refine VL.done (VN.then ?_)
  cases A with
  | none =>
    have e : l0 = [] := List.eq_nil_of_length_eq_zero (h3 rfl)
    subst e
    refine VC.cond_t rfl ?_
    refine VC.seq (VC.region ?_)
    refine VL.va (op_assign rfl (ltn rfl)) rfl ?_
    refine VL.done (VN.then ?_)
    refine VC.ret (VR.then ?_)
    refine VR.nilRow' 33 6 ?_
    exact VR.fn (rs := [.tmp 2]) [] [(.slice none 0 0, 33, 6, [])] [0] rfl (.tmp rfl .nil) ⟨_, rfl, rfl, rfl⟩ trivial rfl (by decide)
  | some ad =>
    refine VC.cond_f rfl (VC.skip (VN.then ?_))
    refine VC.seq (VC.region ?_)
    refine VL.sG (o_buildSlice (vals := []) (cells := #[]) (es := List.map enc32 ([] : List S32)) Try.underlying23 TI33 Z33 rfl (by decide) (by decide) (by kernel_rfl) rfl rfl (flat_map enc32_ok _) (ltn rfl)) rfl ?_
    intro v1
    refine VL.va (op_move rfl (ltn rfl)) rfl ?_
    refine VL.sG (o_append (es3 := l0.map enc32) 0 rfl Try.underlying23 EI33 rfl rfl rfl (.inl ⟨0, rfl⟩) (by rw [lenm, lenm]; simpa using hc) (ltn rfl)) rfl ?_
    intro v2
    refine VL.va (op_assign rfl (ltn rfl)) rfl ?_
    refine VL.done (VN.then ?_)
    refine VC.ret ?_
    exact VR.fn (rs := [.tmp 2]) [] [(v2, 33, 6, l0.map enc32)] [0] rfl (.tmp rfl .nil) ⟨_, rfl, rfl, rfl⟩ trivial rfl (by decide)

end Go.Proofs.Ytibpoajlnloloaa.PStockApart
