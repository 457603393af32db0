/- Written by a program of this repo: what the program's functions do, each as a Lean function, shown of the loaded code; or a statement's row over that; no condition of its own. -/
import Derived.Test.YtoiihpmncphplaaPGoodsStayx2
namespace Go.Proofs.Ytoiihpmncphplaa.PGoodsStay
open Go Go.RowKit Go.Proofs.YtoiihpmncphplaaV
set_option linter.unusedVariables false
set_option linter.unusedSimpArgs false

set_option maxHeartbeats 4000000 in
set_option maxRecDepth 100000 in
theorem goods_rising_Sub.ok (k : Nat) (l0 : List S22) (a1 : Int) (v0 : Value) (r1 : Bool) (h : goods_rising_Sub.f k l0 a1 = some r1) :
    VCalls Try.prog 39 [v0, .int .i64 a1, (.func (.func 29) #[] #[])] [.row v0 5 (l0.map enc22)] (fun v G own => v = .bool r1 ∧ G = [] ∧ own = []) := by
  refine VCalls.intro Try.func39 rfl (len rfl) fun E hC => ?_
  unfold goods_rising_Sub.f at h
  refine VC.seq ?_
  refine VC.region ?_
  refine VL.va (op_assign rfl (ltn rfl)) rfl ?_
  refine VL.done ?_
  refine VN.then ?_
  refine VC.seq ?_
  refine VC.seq ?_
  refine VC.region ?_
  refine VL.va (op_assign rfl (ltn rfl)) rfl ?_
  refine VL.done ?_
  refine VN.then ?_
  refine VC.block ?_
  refine VC.loop1 (fun (i1559 : Int) => ⟨30, [(0, v0), (1, .int .i64 a1), (2, (.func (.func 29) #[] #[])), (6, .bool false), (7, .int .i64 i1559)], [.row v0 5 (l0.map enc22)], [], []⟩) (fun (ml1 : Nat) (i1559 : Int) => goods_rising_Sub.l1 k a1 l0 ml1 i1559 = some r1) k 1 [] [] h ⟨rfl, ⟨rfl, rfl, rfl, rfl, rfl, trivial⟩, ⟨⟨0, rfl⟩, trivial⟩, rfl, by decide, rfl, by decide⟩ (by intros; simp [goods_rising_Sub.l1]) ?_
  clear h
  intro ml1 ihl1 i1559 h
  simp only [goods_rising_Sub.l1] at h
  refine VC.seq ?_
  refine VC.seq ?_
  refine VC.region ?_
  refine VL.va (op_move rfl (ltn rfl)) rfl ?_
  refine VL.va (op_move rfl (ltn rfl)) rfl ?_
  refine VL.va (op_len (m := l0.length) 0 lenm Try.underlying33 rfl rfl (ltn rfl)) rfl ?_
  refine VL.letter (decide (i1559 < (l0.length : Int))) fun b1583 hb1583 => ?_
  refine VL.va (op_cmp rfl rfl (congrArg some hb1583) (ltn rfl)) rfl ?_
  refine VL.done ?_
  refine VN.then ?_
  by_cases c1584 : i1559 < (l0.length : Int)
  · rw [if_pos c1584] at h
    obtain rfl : b1583 = true := hb1583.symm.trans (decide_eq_true c1584)
    refine VC.cond_t rfl ?_
    refine VC.skip ?_
    refine VN.then ?_
    refine VC.seq ?_
    refine VC.block ?_
    by_cases c1593 : 0 ≤ wrap64 (i1559 - 1)
    · rw [if_pos c1593] at h
      replace h := Option.bind_eq_some_iff.1 h
      obtain ⟨x1594, hx1594, h⟩ := h
      by_cases c1595 : 0 ≤ i1559
      · rw [if_pos c1595] at h
        replace h := Option.bind_eq_some_iff.1 h
        obtain ⟨x1596, hx1596, h⟩ := h
        replace h := Option.bind_eq_some_iff.1 h
        obtain ⟨t1597, hA1598, h⟩ := h
        refine VC.letter (decide (t1597 ≥ 0)) fun b1599 hb1599 => ?_
        refine VC.open (m := l0.length) 0 lenm rfl (pos_get hx1594) ?_
        rintro ad1366 n1367 rfl
        refine VC.join0 (⟨30, [(0, (.slice (some ad1366) l0.length n1367)), (1, .int .i64 a1), (2, (.func (.func 29) #[] #[])), (6, .bool false), (7, .int .i64 i1559), (8, .int .i64 i1559), (9, (.slice (some ad1366) l0.length n1367)), (10, .int .i64 (l0.length : Int)), (11, .bool true), (14, (.func (.func 29) #[] #[])), (15, (.slice (some ad1366) l0.length n1367)), (16, .int .i64 i1559), (17, .int .i64 (wrap64 (i1559 - 1))), (19, .agg #[.string x1594.f0, .string x1594.f1, .int .i64 x1594.f2, .int .i64 x1594.f3, .int .i64 x1594.f4]), (20, (.slice (some ad1366) l0.length n1367)), (21, .int .i64 i1559), (23, .agg #[.string x1596.f0, .string x1596.f1, .int .i64 x1596.f2, .int .i64 x1596.f3, .int .i64 x1596.f4]), (24, .int .i64 t1597), (25, .bool b1599)], [.row (.slice (some ad1366) l0.length n1367) 5 (l0.map enc22)], [], []⟩) (True) ?_ ?_
        · refine VC.draw ⟨0, [], [.row (.slice (some ad1366) l0.length n1367) 5 (l0.map enc22)], [], []⟩ (by kernel_rfl) rfl (by kernel_rfl) (n := 12) (listed := LB 12 0) ?_
          refine VA.va (i := 0) (listed' := LB 12 1) rfl (op_move rfl (ltn rfl)) rfl (by kernel_rfl) (by kernel_rfl) (by kernel_rfl) (by kernel_rfl) ⟨⟨⟨0, rfl⟩, trivial⟩, trivial, trivial⟩ (fun _ _ _ h => h) ?_
          refine VA.va (i := 1) (listed' := LB 12 3) rfl (op_move rfl (ltn rfl)) rfl (by kernel_rfl) (by kernel_rfl) (by kernel_rfl) (by kernel_rfl) ⟨⟨⟨0, rfl⟩, trivial⟩, trivial, trivial⟩ (fun _ _ _ h => h) ?_
          refine VA.va (i := 2) (listed' := LB 12 7) rfl (op_move rfl (ltn rfl)) rfl (by kernel_rfl) (by kernel_rfl) (by kernel_rfl) (by kernel_rfl) ⟨⟨⟨0, rfl⟩, trivial⟩, trivial, trivial⟩ (fun _ _ _ h => h) ?_
          refine VA.va (i := 3) (listed' := LB 12 15) rfl (op_ari64 rfl rfl rfl (ltn rfl)) rfl (by kernel_rfl) (by kernel_rfl) (by kernel_rfl) (by kernel_rfl) ⟨⟨⟨0, rfl⟩, trivial⟩, trivial, trivial⟩ (fun _ _ _ h => h) ?_
          refine VA.va (i := 4) (listed' := LB 12 31) rfl (op_indexAddr Try.underlying33 TI23 rfl rfl c1593 (lt_get c1593 hx1594) rfl (ltn rfl)) rfl (by kernel_rfl) (by kernel_rfl) (by kernel_rfl) (by kernel_rfl) ⟨⟨⟨0, rfl⟩, trivial⟩, trivial, trivial⟩ (fun _ _ _ h => h) ?_
          refine VA.va (i := 5) (listed' := LB 12 63) rfl (op_load_row (sz := 5) (o := 0) 0 (wrap64 (i1559 - 1)).toNat 5 rfl rfl (get_map hx1594) TI23 rfl (fun h => absurd h (by decide)) (ltn rfl)) rfl (by kernel_rfl) (by kernel_rfl) (by kernel_rfl) (by kernel_rfl) ⟨⟨⟨0, rfl⟩, trivial⟩, trivial, trivial⟩ (fun _ _ _ h => h) ?_
          refine VA.va (i := 6) (listed' := LB 12 127) rfl (op_move rfl (ltn rfl)) rfl (by kernel_rfl) (by kernel_rfl) (by kernel_rfl) (by kernel_rfl) ⟨⟨⟨0, rfl⟩, trivial⟩, trivial, trivial⟩ (fun _ _ _ h => h) ?_
          refine VA.va (i := 7) (listed' := LB 12 255) rfl (op_move rfl (ltn rfl)) rfl (by kernel_rfl) (by kernel_rfl) (by kernel_rfl) (by kernel_rfl) ⟨⟨⟨0, rfl⟩, trivial⟩, trivial, trivial⟩ (fun _ _ _ h => h) ?_
          refine VA.va (i := 8) (listed' := LB 12 511) rfl (op_indexAddr Try.underlying33 TI23 rfl rfl c1595 (lt_get c1595 hx1596) rfl (ltn rfl)) rfl (by kernel_rfl) (by kernel_rfl) (by kernel_rfl) (by kernel_rfl) ⟨⟨⟨0, rfl⟩, trivial⟩, trivial, trivial⟩ (fun _ _ _ h => h) ?_
          refine VA.va (i := 9) (listed' := LB 12 1023) rfl (op_load_row (sz := 5) (o := 0) 0 i1559.toNat 5 rfl rfl (get_map hx1596) TI23 rfl (fun h => absurd h (by decide)) (ltn rfl)) rfl (by kernel_rfl) (by kernel_rfl) (by kernel_rfl) (by kernel_rfl) ⟨⟨⟨0, rfl⟩, trivial⟩, trivial, trivial⟩ (fun _ _ _ h => h) ?_
          refine VA.oneC (i := 10) (listed' := LB 12 2047) (by kernel_rfl) rfl (o_call0 FO29 (goods_compare.ok k x1594.f0 x1594.f1 x1594.f2 x1594.f3 x1594.f4 x1596.f0 x1596.f1 x1596.f2 x1596.f3 x1596.f4 t1597 hA1598) rfl rfl (ltn rfl) (All_of .nil)) rfl (by kernel_rfl) ?_
          rintro _ _ _ ⟨rfl, rfl, rfl⟩
          refine ⟨⟨⟨⟨0, rfl⟩, trivial⟩, trivial, trivial⟩, ?_⟩
          refine VA.va (i := 11) (listed' := LB 12 4095) rfl (op_cmp rfl rfl (congrArg some hb1599) (ltn rfl)) rfl (by kernel_rfl) (by kernel_rfl) (by kernel_rfl) (by kernel_rfl) ⟨⟨⟨0, rfl⟩, trivial⟩, trivial, trivial⟩ (fun _ _ _ h => h) ?_
          refine VA.done (by kernel_rfl) ?_
          exact VN.meet0  [] [] trivial ⟨rfl, ⟨rfl, rfl, rfl, rfl, rfl, rfl, rfl, rfl, rfl, rfl, rfl, rfl, rfl, rfl, rfl, rfl, rfl, rfl, rfl, trivial⟩, ⟨⟨0, rfl⟩, trivial⟩, rfl, by decide, rfl, by decide⟩
        intro _
        by_cases c1600 : t1597 ≥ 0
        · rw [if_pos c1600] at h
          obtain rfl : b1599 = true := hb1599.symm.trans (decide_eq_true c1600)
          refine VC.cond_t rfl ?_
          refine VC.seq ?_
          refine VC.region ?_
          refine VL.va (op_assign rfl (ltn rfl)) rfl ?_
          refine VL.done ?_
          refine VN.then ?_
          refine VC.ret ?_
          refine VR.block ?_
          refine VR.then ?_
          refine VR.then ?_
          refine VR.block ?_
          refine VR.then ?_
          obtain rfl := Option.some.inj h
          exact VR.fn (rs := [.tmp 6]) [] [] [] rfl (.tmp rfl .nil) ⟨rfl, rfl, rfl⟩ trivial rfl (by decide)
        · rw [if_neg c1600] at h
          obtain rfl : b1599 = false := hb1599.symm.trans (decide_eq_false c1600)
          refine VC.cond_f rfl ?_
          refine VC.skip ?_
          refine VN.block ?_
          refine VN.then ?_
          refine VC.region ?_
          refine VL.va (op_move rfl (ltn rfl)) rfl ?_
          refine VL.va (op_ari64 rfl rfl rfl (ltn rfl)) rfl ?_
          refine VL.va (op_assign rfl (ltn rfl)) rfl ?_
          refine VL.done ?_
          refine VN.again [] [] (ihl1 (wrap64 (i1559 + 1)) h) ⟨rfl, ⟨rfl, rfl, rfl, rfl, rfl, trivial⟩, ⟨⟨0, rfl⟩, trivial⟩, rfl, by decide, rfl, by decide⟩
      · rw [if_neg c1595] at h; cases h
    · rw [if_neg c1593] at h; cases h
  · rw [if_neg c1584] at h
    obtain rfl : b1583 = false := hb1583.symm.trans (decide_eq_false c1584)
    refine VC.cond_f rfl ?_
    refine VC.exit ?_
    refine VX.then ?_
    refine VX.then ?_
    refine VX.hit ?_
    refine VN.then ?_
    refine VC.seq ?_
    refine VC.region ?_
    refine VL.va (op_move rfl (ltn rfl)) rfl ?_
    refine VL.va (op_len (m := l0.length) 0 lenm Try.underlying33 rfl rfl (ltn rfl)) rfl ?_
    refine VL.va (op_move rfl (ltn rfl)) rfl ?_
    refine VL.letter (decide ((l0.length : Int) ≤ a1)) fun b1601 hb1601 => ?_
    refine VL.va (op_cmp rfl rfl (congrArg some hb1601) (ltn rfl)) rfl ?_
    refine VL.va (op_assign rfl (ltn rfl)) rfl ?_
    refine VL.done ?_
    refine VN.then ?_
    refine VC.ret ?_
    obtain rfl := Option.some.inj h
    subst hb1601
    exact VR.fn (rs := [.tmp 6]) [] [] [] rfl (.tmp rfl .nil) ⟨rfl, rfl, rfl⟩ trivial rfl (by decide)
set_option maxHeartbeats 4000000 in
set_option maxRecDepth 100000 in
theorem goods_Right.ok (k : Nat) (l0_0 : List ByteArray) (l0_1 : List S22) (v0_0 : Value) (v0_1 : Value) (r1 : Bool) (h : goods_Right.f k l0_0 l0_1 = some r1) :
    VCalls Try.prog 14 [.agg #[v0_0, v0_1]] [.row v0_0 1 (l0_0.map enc_str), .row v0_1 5 (l0_1.map enc22)] (fun v G own => v = .bool r1 ∧ G = [] ∧ own = []) := by
  refine VCalls.intro Try.func14 rfl (len rfl) fun E hC => ?_
  unfold goods_Right.f at h
  refine VC.seq ?_
  refine VC.region ?_
  refine VL.sG (o_box rfl (.agg (.f 0 rfl (.f 1 rfl .nil))) (ltn rfl)) rfl ?_
  intro g409
  refine VL.va (op_assign rfl (ltn rfl)) rfl ?_
  refine VL.done ?_
  refine VN.then ?_
  refine VC.seq ?_
  refine VC.seq ?_
  refine VC.region ?_
  refine VL.va (op_fieldAddr FI35_1 rfl (add_at _ _ _) (ltn rfl)) rfl ?_
  refine VL.va (op_load 0 1 rfl rfl TI33 rfl (by decide) (ltn rfl)) rfl ?_
  refine VL.va (op_len (m := l0_1.length) 1 lenm Try.underlying33 rfl rfl (ltn rfl)) rfl ?_
  refine VL.va (op_move rfl (ltn rfl)) rfl ?_
  refine VL.done ?_
  refine VN.then ?_
  refine VC.block ?_
  refine VC.loop1 (fun (i1048 : Int) => ⟨59, [(1, .pointer (some ⟨g409, 0, none⟩)), (2, .bool false), (8, v0_1), (9, .int .i64 (l0_1.length : Int)), (10, .int .i64 i1048)], [.row v0_1 5 (l0_1.map enc22), .row v0_0 1 (l0_0.map enc_str)], [(g409, 35, [v0_0, v0_1])], []⟩) (fun (ml1 : Nat) (i1048 : Int) => goods_Right.l1 k l0_0 l0_1 ml1 i1048 = some r1) k 0 [0] [] h ⟨rfl, ⟨rfl, rfl, rfl, rfl, rfl, trivial⟩, ⟨⟨1, rfl⟩, ⟨0, rfl⟩, trivial⟩, rfl, by decide, rfl, by decide⟩ (by intros; simp [goods_Right.l1]) ?_
  clear h
  intro ml1 ihl1 i1048 h
  simp only [goods_Right.l1] at h
  refine VC.seq ?_
  refine VC.region ?_
  refine VL.letter (decide (i1048 < (l0_1.length : Int))) fun b1112 hb1112 => ?_
  refine VL.va (op_cmp rfl rfl (congrArg some hb1112) (ltn rfl)) rfl ?_
  refine VL.done ?_
  refine VN.then ?_
  refine VC.seq ?_
  by_cases c1609 : i1048 < (l0_1.length : Int)
  · rw [if_pos c1609] at h
    obtain rfl : b1112 = true := hb1112.symm.trans (decide_eq_true c1609)
    refine VC.cond_t rfl ?_
    refine VC.skip ?_
    refine VN.then ?_
    refine VC.seq ?_
    refine VC.block ?_
    refine VC.seq ?_
    refine VC.region ?_
    refine VL.va (op_move rfl (ltn rfl)) rfl ?_
    by_cases c1640 : 0 ≤ i1048
    · rw [if_pos c1640] at h
      replace h := Option.bind_eq_some_iff.1 h
      obtain ⟨x1641, hx1641, h⟩ := h
      refine VL.open (m := l0_1.length) 0 lenm rfl (pos_get hx1641) ?_
      rintro ad1642 n1643 rfl
      refine VL.va (op_indexAddr Try.underlying33 TI23 rfl rfl c1640 (lt_get c1640 hx1641) rfl (ltn rfl)) rfl ?_
      refine VL.va (op_load_row (sz := 5) (o := 0) 0 i1048.toNat 5 rfl rfl (get_map hx1641) TI23 rfl (fun h => absurd h (by decide)) (ltn rfl)) rfl ?_
      refine VL.sG (o_alloc Z23 ZL23 (ltn rfl)) rfl ?_
      intro g1644
      refine VL.va (op_assign rfl (ltn rfl)) rfl ?_
      refine VL.step1 (o_store 0 5 rfl rfl rfl TI23 (.agg (.of rfl)) rfl (len rfl)) rfl ?_
      refine VL.done ?_
      refine VN.then ?_
      refine VC.seq ?_
      refine VC.region ?_
      refine VL.va (op_fieldAddr FI35_1 rfl (add_at _ _ _) (ltn rfl)) rfl ?_
      refine VL.va (op_load 1 1 rfl rfl TI33 rfl (by decide) (ltn rfl)) rfl ?_
      refine VL.va (op_move rfl (ltn rfl)) rfl ?_
      by_cases c1645 : i1048 ≤ (l0_1.length : Int)
      · rw [if_pos c1645] at h
        refine VL.sG (o_slice (m := l0_1.length) 0 0 i1048.toNat lenm cutm Try.underlying33 TI23 rfl rfl ⟨rfl, ⟨_, _, rfl, c1640, rfl⟩, by omega, by omega⟩ (ltn rfl)) rfl ?_
        intro v1647
        refine VL.va (op_makeFunc (vals := [.pointer (some ⟨g1644, 0, none⟩)]) rfl (ltn rfl)) rfl ?_
        refine VL.freeze' 0 rfl ?_
        replace h := Option.bind_eq_some_iff.1 h
        obtain ⟨t1648, hA1649, h⟩ := h
        refine VL.sC (o_call0 FO27 (slices_ContainsFunc_api_Sub_api_Sub.ok k ((l0_1.take i1048.toNat).drop 0) x1641.f0 x1641.f1 x1641.f2 x1641.f3 x1641.f4 v1647 g1644 t1648 hA1649) rfl rfl (ltn rfl) (All_of (.cons (List.mem_of_getElem? (i := 1) rfl) (.cons (List.mem_of_getElem? (i := 0) rfl) .nil)))) rfl ?_
        rintro _ _ _ ⟨rfl, rfl, rfl⟩
        refine VL.va (op_assign rfl (ltn rfl)) rfl ?_
        refine VL.done ?_
        refine VN.then ?_
        refine VC.seq ?_
        refine VC.region ?_
        refine VL.va (op_move rfl (ltn rfl)) rfl ?_
        refine VL.va (op_move rfl (ltn rfl)) rfl ?_
        by_cases c1660 : t1648 = true
        · rw [if_pos c1660] at h
          obtain rfl := c1660
          refine VL.un rfl rfl (ltn rfl) ?_
          refine VL.un rfl rfl (ltn rfl) ?_
          refine VL.un rfl rfl (ltn rfl) ?_
          refine VL.va (op_pick rfl rfl (ltn rfl)) rfl ?_
          refine VL.va (op_move rfl (ltn rfl)) rfl ?_
          refine VL.un rfl rfl (ltn rfl) ?_
          refine VL.un rfl rfl (ltn rfl) ?_
          refine VL.un rfl rfl (ltn rfl) ?_
          refine VL.un rfl rfl (ltn rfl) ?_
          refine VL.un rfl rfl (ltn rfl) ?_
          refine VL.un rfl rfl (ltn rfl) ?_
          refine VL.va (op_pick rfl rfl (ltn rfl)) rfl ?_
          refine VL.va (op_move rfl (ltn rfl)) rfl ?_
          refine VL.un rfl rfl (ltn rfl) ?_
          refine VL.un rfl rfl (ltn rfl) ?_
          refine VL.un rfl rfl (ltn rfl) ?_
          refine VL.un rfl rfl (ltn rfl) ?_
          refine VL.un rfl rfl (ltn rfl) ?_
          refine VL.un rfl rfl (ltn rfl) ?_
          refine VL.va (op_pick rfl rfl (ltn rfl)) rfl ?_
          refine VL.done ?_
          refine VN.then ?_
          refine VC.cond_t rfl ?_
          refine VC.seq ?_
          refine VC.region ?_
          refine VL.va (op_assign rfl (ltn rfl)) rfl ?_
          refine VL.done ?_
          refine VN.then ?_
          refine VC.ret ?_
          refine VR.block ?_
          refine VR.then ?_
          refine VR.then ?_
          refine VR.block ?_
          refine VR.then ?_
          obtain rfl := Option.some.inj h
          exact VR.fn (rs := [.tmp 2]) [] [] [] rfl (.tmp rfl .nil) ⟨rfl, rfl, rfl⟩ trivial rfl (by decide)
        · rw [if_neg c1660] at h
          obtain rfl := Bool.eq_false_iff.2 c1660
          refine VL.va (op_load_at (ad := ⟨g1644, 0, none⟩) 0 0 5 (by first | rfl | exact congrArg (fun a => some (Value.pointer (some a))) (add_at _ 0 _).symm) rfl TI23 rfl (fun h => absurd h (by decide)) (ltn rfl)) rfl ?_
          replace h := Option.bind_eq_some_iff.1 h
          obtain ⟨t1661, hA1662, h⟩ := h
          refine VL.sC (o_call0 FO23 (goods_may.ok k x1641.f0 x1641.f1 x1641.f2 x1641.f3 x1641.f4 t1661 hA1662) rfl rfl (ltn rfl) (All_of .nil)) rfl ?_
          rintro _ _ _ ⟨rfl, rfl, rfl⟩
          by_cases c1663 : t1661 = true
          · rw [if_pos c1663] at h
            obtain rfl := c1663
            refine VL.va (op_not rfl rfl (ltn rfl)) rfl ?_
            refine VL.va (op_pick rfl rfl (ltn rfl)) rfl ?_
            refine VL.va (op_move rfl (ltn rfl)) rfl ?_
            refine VL.va (op_fieldAddr FI35_0 rfl (add_at _ _ _) (ltn rfl)) rfl ?_
            refine VL.va (op_load 0 1 rfl rfl TI32 rfl (by decide) (ltn rfl)) rfl ?_
            refine VL.va (op_fieldAddr FI23_0 rfl (add_at _ _ _) (ltn rfl)) rfl ?_
            refine VL.va (op_load_at (ad := ⟨g1644, 0, none⟩) 0 0 1 (by first | rfl | exact congrArg (fun a => some (Value.pointer (some a))) (add_at _ 0 _).symm) rfl TI9 rfl (by decide) (ltn rfl)) rfl ?_
            replace h := Option.bind_eq_some_iff.1 h
            obtain ⟨t1664, hA1665, h⟩ := h
            refine VL.sC (o_call0 FO26 (slices_Contains_string_string.ok k l0_0 x1641.f0 v0_0 t1664 hA1665) rfl rfl (ltn rfl) (All_of (.cons (List.mem_of_getElem? (i := 3) rfl) .nil))) rfl ?_
            rintro _ _ _ ⟨rfl, rfl, rfl⟩
            by_cases c1666 : t1664 = true
            · rw [if_pos c1666] at h
              obtain rfl := c1666
              refine VL.va (op_not rfl rfl (ltn rfl)) rfl ?_
              refine VL.va (op_pick rfl rfl (ltn rfl)) rfl ?_
              refine VL.va (op_move rfl (ltn rfl)) rfl ?_
              refine VL.va (op_fieldAddr FI35_0 rfl (add_at _ _ _) (ltn rfl)) rfl ?_
              refine VL.va (op_load 0 1 rfl rfl TI32 rfl (by decide) (ltn rfl)) rfl ?_
              refine VL.va (op_fieldAddr FI23_1 rfl (add_at _ _ _) (ltn rfl)) rfl ?_
              refine VL.va (op_load_at (ad := ⟨g1644, 0, none⟩) 0 1 1 (by first | rfl | exact congrArg (fun a => some (Value.pointer (some a))) (add_at _ 0 _).symm) rfl TI9 rfl (by decide) (ltn rfl)) rfl ?_
              replace h := Option.bind_eq_some_iff.1 h
              obtain ⟨t1667, hA1668, h⟩ := h
              refine VL.sC (o_call0 FO26 (slices_Contains_string_string.ok k l0_0 x1641.f1 v0_0 t1667 hA1668) rfl rfl (ltn rfl) (All_of (.cons (List.mem_of_getElem? (i := 3) rfl) .nil))) rfl ?_
              rintro _ _ _ ⟨rfl, rfl, rfl⟩
              by_cases c1669 : t1667 = true
              · rw [if_pos c1669] at h
                obtain rfl := c1669
                refine VL.va (op_not rfl rfl (ltn rfl)) rfl ?_
                refine VL.va (op_pick rfl rfl (ltn rfl)) rfl ?_
                refine VL.done ?_
                refine VN.then ?_
                refine VC.cond_f rfl ?_
                refine VC.skip ?_
                refine VN.block ?_
                refine VN.then ?_
                refine VC.region ?_
                refine VL.va (op_ari64 rfl rfl rfl (ltn rfl)) rfl ?_
                refine VL.va (op_move rfl (ltn rfl)) rfl ?_
                refine VL.done ?_
                refine VN.again [0] [] (ihl1 (wrap64 (i1048 + 1)) h) ⟨rfl, ⟨rfl, rfl, rfl, rfl, rfl, trivial⟩, ⟨⟨2, rfl⟩, ⟨3, rfl⟩, trivial⟩, rfl, by decide, rfl, by decide⟩
              · rw [if_neg c1669] at h
                obtain rfl := Bool.eq_false_iff.2 c1669
                refine VL.va (op_not rfl rfl (ltn rfl)) rfl ?_
                refine VL.va (op_pick rfl rfl (ltn rfl)) rfl ?_
                refine VL.done ?_
                refine VN.then ?_
                refine VC.cond_t rfl ?_
                refine VC.seq ?_
                refine VC.region ?_
                refine VL.va (op_assign rfl (ltn rfl)) rfl ?_
                refine VL.done ?_
                refine VN.then ?_
                refine VC.ret ?_
                refine VR.block ?_
                refine VR.then ?_
                refine VR.then ?_
                refine VR.block ?_
                refine VR.then ?_
                obtain rfl := Option.some.inj h
                exact VR.fn (rs := [.tmp 2]) [] [] [] rfl (.tmp rfl .nil) ⟨rfl, rfl, rfl⟩ trivial rfl (by decide)
            · rw [if_neg c1666] at h
              obtain rfl := Bool.eq_false_iff.2 c1666
              refine VL.va (op_not rfl rfl (ltn rfl)) rfl ?_
              refine VL.va (op_pick rfl rfl (ltn rfl)) rfl ?_
              refine VL.va (op_move rfl (ltn rfl)) rfl ?_
              refine VL.un rfl rfl (ltn rfl) ?_
              refine VL.un rfl rfl (ltn rfl) ?_
              refine VL.un rfl rfl (ltn rfl) ?_
              refine VL.un rfl rfl (ltn rfl) ?_
              refine VL.un rfl rfl (ltn rfl) ?_
              refine VL.un rfl rfl (ltn rfl) ?_
              refine VL.va (op_pick rfl rfl (ltn rfl)) rfl ?_
              refine VL.done ?_
              refine VN.then ?_
              refine VC.cond_t rfl ?_
              refine VC.seq ?_
              refine VC.region ?_
              refine VL.va (op_assign rfl (ltn rfl)) rfl ?_
              refine VL.done ?_
              refine VN.then ?_
              refine VC.ret ?_
              refine VR.block ?_
              refine VR.then ?_
              refine VR.then ?_
              refine VR.block ?_
              refine VR.then ?_
              obtain rfl := Option.some.inj h
              exact VR.fn (rs := [.tmp 2]) [] [] [] rfl (.tmp rfl .nil) ⟨rfl, rfl, rfl⟩ trivial rfl (by decide)
          · rw [if_neg c1663] at h
            obtain rfl := Bool.eq_false_iff.2 c1663
            refine VL.va (op_not rfl rfl (ltn rfl)) rfl ?_
            refine VL.va (op_pick rfl rfl (ltn rfl)) rfl ?_
            refine VL.va (op_move rfl (ltn rfl)) rfl ?_
            refine VL.un rfl rfl (ltn rfl) ?_
            refine VL.un rfl rfl (ltn rfl) ?_
            refine VL.un rfl rfl (ltn rfl) ?_
            refine VL.un rfl rfl (ltn rfl) ?_
            refine VL.un rfl rfl (ltn rfl) ?_
            refine VL.un rfl rfl (ltn rfl) ?_
            refine VL.va (op_pick rfl rfl (ltn rfl)) rfl ?_
            refine VL.va (op_move rfl (ltn rfl)) rfl ?_
            refine VL.un rfl rfl (ltn rfl) ?_
            refine VL.un rfl rfl (ltn rfl) ?_
            refine VL.un rfl rfl (ltn rfl) ?_
            refine VL.un rfl rfl (ltn rfl) ?_
            refine VL.un rfl rfl (ltn rfl) ?_
            refine VL.un rfl rfl (ltn rfl) ?_
            refine VL.va (op_pick rfl rfl (ltn rfl)) rfl ?_
            refine VL.done ?_
            refine VN.then ?_
            refine VC.cond_t rfl ?_
            refine VC.seq ?_
            refine VC.region ?_
            refine VL.va (op_assign rfl (ltn rfl)) rfl ?_
            refine VL.done ?_
            refine VN.then ?_
            refine VC.ret ?_
            refine VR.block ?_
            refine VR.then ?_
            refine VR.then ?_
            refine VR.block ?_
            refine VR.then ?_
            obtain rfl := Option.some.inj h
            exact VR.fn (rs := [.tmp 2]) [] [] [] rfl (.tmp rfl .nil) ⟨rfl, rfl, rfl⟩ trivial rfl (by decide)
      · rw [if_neg c1645] at h; cases h
    · rw [if_neg c1640] at h; cases h
  · rw [if_neg c1609] at h
    obtain rfl : b1112 = false := hb1112.symm.trans (decide_eq_false c1609)
    refine VC.cond_f rfl ?_
    refine VC.exit ?_
    refine VX.then ?_
    refine VX.then ?_
    refine VX.hit ?_
    refine VN.then ?_
    refine VC.seq ?_
    refine VC.region ?_
    refine VL.va (op_fieldAddr FI35_0 rfl (add_at _ _ _) (ltn rfl)) rfl ?_
    refine VL.va (op_load 0 1 rfl rfl TI32 rfl (by decide) (ltn rfl)) rfl ?_
    replace h := Option.bind_eq_some_iff.1 h
    obtain ⟨t1673, hA1674, h⟩ := h
    refine VL.sC (o_call0 FO34 (slices_ContainsFunc_string_string.ok k l0_0 v0_0 t1673 hA1674) rfl rfl (ltn rfl) (All_of (.cons (List.mem_of_getElem? (i := 1) rfl) .nil))) rfl ?_
    rintro _ _ _ ⟨rfl, rfl, rfl⟩
    by_cases c1675 : t1673 = true
    · rw [if_pos c1675] at h
      obtain rfl := c1675
      refine VL.va (op_not rfl rfl (ltn rfl)) rfl ?_
      refine VL.va (op_assign rfl (ltn rfl)) rfl ?_
      refine VL.done ?_
      refine VN.then ?_
      refine VC.seq ?_
      refine VC.region ?_
      refine VL.va (op_move rfl (ltn rfl)) rfl ?_
      refine VL.va (op_move rfl (ltn rfl)) rfl ?_
      refine VL.un rfl rfl (ltn rfl) ?_
      refine VL.un rfl rfl (ltn rfl) ?_
      refine VL.un rfl rfl (ltn rfl) ?_
      refine VL.va (op_pick rfl rfl (ltn rfl)) rfl ?_
      refine VL.va (op_move rfl (ltn rfl)) rfl ?_
      refine VL.un rfl rfl (ltn rfl) ?_
      refine VL.un rfl rfl (ltn rfl) ?_
      refine VL.un rfl rfl (ltn rfl) ?_
      refine VL.va (op_pick rfl rfl (ltn rfl)) rfl ?_
      refine VL.va (op_assign rfl (ltn rfl)) rfl ?_
      refine VL.done ?_
      refine VN.then ?_
      refine VC.ret ?_
      obtain rfl := Option.some.inj h
      exact VR.fn (rs := [.tmp 2]) [] [] [] rfl (.tmp rfl .nil) ⟨rfl, rfl, rfl⟩ trivial rfl (by decide)
    · rw [if_neg c1675] at h
      obtain rfl := Bool.eq_false_iff.2 c1675
      refine VL.va (op_not rfl rfl (ltn rfl)) rfl ?_
      refine VL.va (op_assign rfl (ltn rfl)) rfl ?_
      refine VL.done ?_
      refine VN.then ?_
      refine VC.seq ?_
      refine VC.region ?_
      refine VL.va (op_move rfl (ltn rfl)) rfl ?_
      refine VL.va (op_move rfl (ltn rfl)) rfl ?_
      refine VL.va (op_fieldAddr FI35_0 rfl (add_at _ _ _) (ltn rfl)) rfl ?_
      refine VL.va (op_load 0 1 rfl rfl TI32 rfl (by decide) (ltn rfl)) rfl ?_
      replace h := Option.bind_eq_some_iff.1 h
      obtain ⟨t1681, hA1682, h⟩ := h
      refine VL.sC (o_call0 FO37 (goods_rising_string.ok k l0_0 8 v0_0 t1681 hA1682) rfl rfl (ltn rfl) (All_of (.cons (List.mem_of_getElem? (i := 1) rfl) .nil))) rfl ?_
      rintro _ _ _ ⟨rfl, rfl, rfl⟩
      refine VL.va (op_pick rfl rfl (ltn rfl)) rfl ?_
      refine VL.va (op_move rfl (ltn rfl)) rfl ?_
      by_cases c1683 : t1681 = true
      · rw [if_pos c1683] at h
        obtain rfl := c1683
        refine VL.va (op_fieldAddr FI35_1 rfl (add_at _ _ _) (ltn rfl)) rfl ?_
        refine VL.va (op_load 0 1 rfl rfl TI33 rfl (by decide) (ltn rfl)) rfl ?_
        replace h := Option.bind_eq_some_iff.1 h
        obtain ⟨t1684, hA1685, h⟩ := h
        refine VL.sC (o_call0 FO39 (goods_rising_Sub.ok k l0_1 16 v0_1 t1684 hA1685) rfl rfl (ltn rfl) (All_of (.cons (List.mem_of_getElem? (i := 0) rfl) .nil))) rfl ?_
        rintro _ _ _ ⟨rfl, rfl, rfl⟩
        refine VL.va (op_pick rfl rfl (ltn rfl)) rfl ?_
        refine VL.va (op_assign rfl (ltn rfl)) rfl ?_
        refine VL.done ?_
        refine VN.then ?_
        refine VC.ret ?_
        obtain rfl := Option.some.inj h
        exact VR.fn (rs := [.tmp 2]) [] [] [] rfl (.tmp rfl .nil) ⟨rfl, rfl, rfl⟩ trivial rfl (by decide)
      · rw [if_neg c1683] at h
        obtain rfl := Bool.eq_false_iff.2 c1683
        refine VL.un rfl rfl (ltn rfl) ?_
        refine VL.un rfl rfl (ltn rfl) ?_
        refine VL.un rfl rfl (ltn rfl) ?_
        refine VL.va (op_pick rfl rfl (ltn rfl)) rfl ?_
        refine VL.va (op_assign rfl (ltn rfl)) rfl ?_
        refine VL.done ?_
        refine VN.then ?_
        refine VC.ret ?_
        obtain rfl := Option.some.inj h
        exact VR.fn (rs := [.tmp 2]) [] [] [] rfl (.tmp rfl .nil) ⟨rfl, rfl, rfl⟩ trivial rfl (by decide)
set_option maxHeartbeats 4000000 in
set_option maxRecDepth 100000 in
theorem goods_Rule_1.ok (a0_0 : ByteArray) (a0_1 : ByteArray) (a0_2 : Int) (a0_3 : Int) (a0_4 : Int) (a1_0 : ByteArray) (a1_1 : ByteArray) (a1_2 : Int) (a1_3 : Int) (a1_4 : Int) (p1 : Nat) (r1 : Bool) (h : goods_Rule_1.f a0_0 a0_1 a0_2 a0_3 a0_4 a1_0 a1_1 a1_2 a1_3 a1_4 = some r1) :
    VCalls Try.prog 25 [.agg #[.string a0_0, .string a0_1, .int .i64 a0_2, .int .i64 a0_3, .int .i64 a0_4], .pointer (some ⟨p1, 0, none⟩)] [.at_ ⟨p1, 0, none⟩ [.string a1_0, .string a1_1, .int .i64 a1_2, .int .i64 a1_3, .int .i64 a1_4]] (fun v G own => v = .bool r1 ∧ G = [] ∧ own = []) := by
  refine VCalls.intro Try.func25 rfl (len rfl) fun E hC => ?_
  unfold goods_Rule_1.f at h
  refine VC.seq ?_
  refine VC.region ?_
  refine VL.sG (o_box rfl (.agg (.of rfl)) (ltn rfl)) rfl ?_
  intro g1718
  refine VL.va (op_assign rfl (ltn rfl)) rfl ?_
  refine VL.done ?_
  refine VN.then ?_
  refine VC.seq ?_
  refine VC.region ?_
  refine VL.va (op_fieldAddr FI23_0 rfl (add_at _ _ _) (ltn rfl)) rfl ?_
  refine VL.va (op_load 0 1 rfl rfl TI9 rfl (by decide) (ltn rfl)) rfl ?_
  refine VL.va (op_fieldAddr FI23_0 rfl (add_at _ _ _) (ltn rfl)) rfl ?_
  refine VL.va (op_load_at (ad := ⟨p1, 0, none⟩) 0 0 1 (by first | rfl | exact congrArg (fun a => some (Value.pointer (some a))) (add_at _ 0 _).symm) rfl TI9 rfl (by decide) (ltn rfl)) rfl ?_
  refine VL.letter ((a0_0 == a1_0)) fun b1724 hb1724 => ?_
  refine VL.va (op_cmps rfl rfl (congrArg some hb1724) (ltn rfl)) rfl ?_
  refine VL.va (op_move rfl (ltn rfl)) rfl ?_
  by_cases c1725 : (a0_0 == a1_0) = true
  · rw [if_pos c1725] at h
    obtain rfl : b1724 = true := hb1724.symm.trans (c1725)
    refine VL.va (op_fieldAddr FI23_2 rfl (add_at _ _ _) (ltn rfl)) rfl ?_
    refine VL.va (op_load 0 1 rfl rfl TI3 rfl (by decide) (ltn rfl)) rfl ?_
    refine VL.va (op_fieldAddr FI23_2 rfl (add_at _ _ _) (ltn rfl)) rfl ?_
    refine VL.va (op_load_at (ad := ⟨p1, 0, none⟩) 0 2 1 (by first | rfl | exact congrArg (fun a => some (Value.pointer (some a))) (add_at _ 0 _).symm) rfl TI3 rfl (by decide) (ltn rfl)) rfl ?_
    refine VL.letter ((a0_2 == a1_2)) fun b1726 hb1726 => ?_
    refine VL.va (op_cmp rfl rfl (congrArg some hb1726) (ltn rfl)) rfl ?_
    refine VL.va (op_move rfl (ltn rfl)) rfl ?_
    by_cases c1727 : a0_2 = a1_2
    · rw [if_pos c1727] at h
      obtain rfl : b1726 = true := hb1726.symm.trans (beq_iff_eq.2 c1727)
      refine VL.un rfl rfl (ltn rfl) ?_
      refine VL.un rfl rfl (ltn rfl) ?_
      refine VL.un rfl rfl (ltn rfl) ?_
      refine VL.un rfl rfl (ltn rfl) ?_
      refine VL.un rfl rfl (ltn rfl) ?_
      refine VL.va (op_pick rfl rfl (ltn rfl)) rfl ?_
      refine VL.va (op_pick rfl rfl (ltn rfl)) rfl ?_
      refine VL.va (op_assign rfl (ltn rfl)) rfl ?_
      refine VL.done ?_
      refine VN.then ?_
      refine VC.ret ?_
      obtain rfl := Option.some.inj h
      exact VR.fn (rs := [.tmp 3]) [] [] [] rfl (.tmp rfl .nil) ⟨rfl, rfl, rfl⟩ trivial rfl (by decide)
    · rw [if_neg c1727] at h
      obtain rfl : b1726 = false := hb1726.symm.trans (beq_eq_false_iff_ne.2 c1727)
      refine VL.va (op_fieldAddr FI23_1 rfl (add_at _ _ _) (ltn rfl)) rfl ?_
      refine VL.va (op_load 0 1 rfl rfl TI9 rfl (by decide) (ltn rfl)) rfl ?_
      refine VL.va (op_fieldAddr FI23_1 rfl (add_at _ _ _) (ltn rfl)) rfl ?_
      refine VL.va (op_load_at (ad := ⟨p1, 0, none⟩) 0 1 1 (by first | rfl | exact congrArg (fun a => some (Value.pointer (some a))) (add_at _ 0 _).symm) rfl TI9 rfl (by decide) (ltn rfl)) rfl ?_
      refine VL.letter ((a0_1 == a1_1)) fun b1728 hb1728 => ?_
      refine VL.va (op_cmps rfl rfl (congrArg some hb1728) (ltn rfl)) rfl ?_
      refine VL.va (op_pick rfl rfl (ltn rfl)) rfl ?_
      refine VL.va (op_pick rfl rfl (ltn rfl)) rfl ?_
      refine VL.va (op_assign rfl (ltn rfl)) rfl ?_
      refine VL.done ?_
      refine VN.then ?_
      refine VC.ret ?_
      obtain rfl := Option.some.inj h
      subst hb1728
      exact VR.fn (rs := [.tmp 3]) [] [] [] rfl (.tmp rfl .nil) ⟨rfl, rfl, rfl⟩ trivial rfl (by decide)
  · rw [if_neg c1725] at h
    obtain rfl : b1724 = false := hb1724.symm.trans (Bool.eq_false_iff.2 c1725)
    refine VL.un rfl rfl (ltn rfl) ?_
    refine VL.un rfl rfl (ltn rfl) ?_
    refine VL.un rfl rfl (ltn rfl) ?_
    refine VL.un rfl rfl (ltn rfl) ?_
    refine VL.un rfl rfl (ltn rfl) ?_
    refine VL.un rfl rfl (ltn rfl) ?_
    refine VL.un rfl rfl (ltn rfl) ?_
    refine VL.un rfl rfl (ltn rfl) ?_
    refine VL.un rfl rfl (ltn rfl) ?_
    refine VL.un rfl rfl (ltn rfl) ?_
    refine VL.un rfl rfl (ltn rfl) ?_
    refine VL.un rfl rfl (ltn rfl) ?_
    refine VL.va (op_pick rfl rfl (ltn rfl)) rfl ?_
    refine VL.va (op_assign rfl (ltn rfl)) rfl ?_
    refine VL.done ?_
    refine VN.then ?_
    refine VC.ret ?_
    obtain rfl := Option.some.inj h
    exact VR.fn (rs := [.tmp 3]) [] [] [] rfl (.tmp rfl .nil) ⟨rfl, rfl, rfl⟩ trivial rfl (by decide)
set_option maxHeartbeats 4000000 in
set_option maxRecDepth 100000 in
theorem slices_IndexFunc_api_Sub_api_Sub_s25.ok (k : Nat) (l0 : List S22) (a1_0_0 : ByteArray) (a1_0_1 : ByteArray) (a1_0_2 : Int) (a1_0_3 : Int) (a1_0_4 : Int) (v0 : Value) (p1_0 : Nat) (r1 : Int) (h : slices_IndexFunc_api_Sub_api_Sub_s25.f k l0 a1_0_0 a1_0_1 a1_0_2 a1_0_3 a1_0_4 = some r1) :
    VCalls Try.prog 44 [v0, (.func (.func 25) #[] #[.pointer (some ⟨p1_0, 0, none⟩)])] [.row v0 5 (l0.map enc22), .at_ ⟨p1_0, 0, none⟩ [.string a1_0_0, .string a1_0_1, .int .i64 a1_0_2, .int .i64 a1_0_3, .int .i64 a1_0_4]] (fun v G own => v = .int .i64 r1 ∧ G = [] ∧ own = []) := by
  refine VCalls.intro Try.func44 rfl (len rfl) fun E hC => ?_
  unfold slices_IndexFunc_api_Sub_api_Sub_s25.f at h
  refine VC.seq ?_
  refine VC.region ?_
  refine VL.va (op_assign rfl (ltn rfl)) rfl ?_
  refine VL.done ?_
  refine VN.then ?_
  refine VC.seq ?_
  refine VC.seq ?_
  refine VC.region ?_
  refine VL.va (op_move rfl (ltn rfl)) rfl ?_
  refine VL.va (op_len (m := l0.length) 0 lenm Try.underlying33 rfl rfl (ltn rfl)) rfl ?_
  refine VL.va (op_move rfl (ltn rfl)) rfl ?_
  refine VL.done ?_
  refine VN.then ?_
  refine VC.block ?_
  refine VC.loop1 (fun (i1788 : Int) => ⟨19, [(0, v0), (1, (.func (.func 25) #[] #[.pointer (some ⟨p1_0, 0, none⟩)])), (4, .int .i64 0), (7, .int .i64 (l0.length : Int)), (8, .int .i64 i1788)], [.at_ ⟨p1_0, 0, none⟩ [.string a1_0_0, .string a1_0_1, .int .i64 a1_0_2, .int .i64 a1_0_3, .int .i64 a1_0_4], .row v0 5 (l0.map enc22)], [], []⟩) (fun (ml1 : Nat) (i1788 : Int) => slices_IndexFunc_api_Sub_api_Sub_s25.l1 k a1_0_0 a1_0_1 a1_0_2 a1_0_3 a1_0_4 l0 ml1 i1788 = some r1) k 0 [] [] h ⟨rfl, ⟨rfl, rfl, rfl, rfl, rfl, trivial⟩, ⟨⟨1, rfl⟩, ⟨0, rfl⟩, trivial⟩, rfl, by decide, rfl, by decide⟩ (by intros; simp [slices_IndexFunc_api_Sub_api_Sub_s25.l1]) ?_
  clear h
  intro ml1 ihl1 i1788 h
  simp only [slices_IndexFunc_api_Sub_api_Sub_s25.l1] at h
  refine VC.seq ?_
  refine VC.region ?_
  refine VL.letter (decide (i1788 < (l0.length : Int))) fun b1806 hb1806 => ?_
  refine VL.va (op_cmp rfl rfl (congrArg some hb1806) (ltn rfl)) rfl ?_
  refine VL.done ?_
  refine VN.then ?_
  refine VC.seq ?_
  by_cases c1808 : i1788 < (l0.length : Int)
  · rw [if_pos c1808] at h
    obtain rfl : b1806 = true := hb1806.symm.trans (decide_eq_true c1808)
    refine VC.cond_t rfl ?_
    refine VC.skip ?_
    refine VN.then ?_
    refine VC.seq ?_
    refine VC.block ?_
    refine VC.seq ?_
    refine VC.region ?_
    refine VL.va (op_move rfl (ltn rfl)) rfl ?_
    refine VL.va (op_assign rfl (ltn rfl)) rfl ?_
    refine VL.done ?_
    refine VN.then ?_
    refine VC.seq ?_
    refine VC.region ?_
    refine VL.va (op_move rfl (ltn rfl)) rfl ?_
    refine VL.va (op_move rfl (ltn rfl)) rfl ?_
    refine VL.va (op_move rfl (ltn rfl)) rfl ?_
    by_cases c1816 : 0 ≤ i1788
    · rw [if_pos c1816] at h
      replace h := Option.bind_eq_some_iff.1 h
      obtain ⟨x1817, hx1817, h⟩ := h
      refine VL.open (m := l0.length) 1 lenm rfl (pos_get hx1817) ?_
      rintro ad1818 n1819 rfl
      refine VL.va (op_indexAddr Try.underlying33 TI23 rfl rfl c1816 (lt_get c1816 hx1817) rfl (ltn rfl)) rfl ?_
      refine VL.va (op_load_row (sz := 5) (o := 0) 1 i1788.toNat 5 rfl rfl (get_map hx1817) TI23 rfl (fun h => absurd h (by decide)) (ltn rfl)) rfl ?_
      replace h := Option.bind_eq_some_iff.1 h
      obtain ⟨t1820, hA1821, h⟩ := h
      refine VL.sC (o_call (vals := [.agg #[.string x1817.f0, .string x1817.f1, .int .i64 x1817.f2, .int .i64 x1817.f3, .int .i64 x1817.f4]]) (caps := [.pointer (some ⟨p1_0, 0, none⟩)]) FO25 (goods_Rule_1.ok x1817.f0 x1817.f1 x1817.f2 x1817.f3 x1817.f4 a1_0_0 a1_0_1 a1_0_2 a1_0_3 a1_0_4 p1_0 t1820 hA1821) rfl rfl (ltn rfl) (All_of (.cons (List.mem_of_getElem? (i := 0) rfl) .nil))) rfl ?_
      rintro _ _ _ ⟨rfl, rfl, rfl⟩
      refine VL.done ?_
      refine VN.then ?_
      by_cases c1822 : t1820 = true
      · rw [if_pos c1822] at h
        obtain rfl := c1822
        refine VC.cond_t rfl ?_
        refine VC.seq ?_
        refine VC.region ?_
        refine VL.va (op_move rfl (ltn rfl)) rfl ?_
        refine VL.va (op_assign rfl (ltn rfl)) rfl ?_
        refine VL.done ?_
        refine VN.then ?_
        refine VC.ret ?_
        refine VR.block ?_
        refine VR.then ?_
        refine VR.then ?_
        refine VR.block ?_
        refine VR.then ?_
        obtain rfl := Option.some.inj h
        exact VR.fn (rs := [.tmp 4]) [] [] [] rfl (.tmp rfl .nil) ⟨rfl, rfl, rfl⟩ trivial rfl (by decide)
      · rw [if_neg c1822] at h
        obtain rfl := Bool.eq_false_iff.2 c1822
        refine VC.cond_f rfl ?_
        refine VC.skip ?_
        refine VN.block ?_
        refine VN.then ?_
        refine VC.region ?_
        refine VL.va (op_ari64 rfl rfl rfl (ltn rfl)) rfl ?_
        refine VL.va (op_move rfl (ltn rfl)) rfl ?_
        refine VL.done ?_
        refine VN.again [] [] (ihl1 (wrap64 (i1788 + 1)) h) ⟨rfl, ⟨rfl, rfl, rfl, rfl, rfl, trivial⟩, ⟨⟨0, rfl⟩, ⟨1, rfl⟩, trivial⟩, rfl, by decide, rfl, by decide⟩
    · rw [if_neg c1816] at h; cases h
  · rw [if_neg c1808] at h
    obtain rfl : b1806 = false := hb1806.symm.trans (decide_eq_false c1808)
    refine VC.cond_f rfl ?_
    refine VC.exit ?_
    refine VX.then ?_
    refine VX.then ?_
    refine VX.hit ?_
    refine VN.then ?_
    refine VC.seq ?_
    refine VC.region ?_
    refine VL.va (op_assign rfl (ltn rfl)) rfl ?_
    refine VL.done ?_
    refine VN.then ?_
    refine VC.ret ?_
    obtain rfl := Option.some.inj h
    exact VR.fn (rs := [.tmp 4]) [] [] [] rfl (.tmp rfl .nil) ⟨rfl, rfl, rfl⟩ trivial rfl (by decide)
set_option maxHeartbeats 4000000 in
set_option maxRecDepth 100000 in
theorem slices_ContainsFunc_api_Sub_api_Sub_s25.ok (k : Nat) (l0 : List S22) (a1_0_0 : ByteArray) (a1_0_1 : ByteArray) (a1_0_2 : Int) (a1_0_3 : Int) (a1_0_4 : Int) (v0 : Value) (p1_0 : Nat) (r1 : Bool) (h : slices_ContainsFunc_api_Sub_api_Sub_s25.f k l0 a1_0_0 a1_0_1 a1_0_2 a1_0_3 a1_0_4 = some r1) :
    VCalls Try.prog 27 [v0, (.func (.func 25) #[] #[.pointer (some ⟨p1_0, 0, none⟩)])] [.row v0 5 (l0.map enc22), .at_ ⟨p1_0, 0, none⟩ [.string a1_0_0, .string a1_0_1, .int .i64 a1_0_2, .int .i64 a1_0_3, .int .i64 a1_0_4]] (fun v G own => v = .bool r1 ∧ G = [] ∧ own = []) := by
  refine VCalls.intro Try.func27 rfl (len rfl) fun E hC => ?_
  unfold slices_ContainsFunc_api_Sub_api_Sub_s25.f at h
  refine VC.seq ?_
  refine VC.region ?_
  refine VL.va (op_assign rfl (ltn rfl)) rfl ?_
  refine VL.done ?_
  refine VN.then ?_
  refine VC.seq ?_
  refine VC.region ?_
  refine VL.va (op_move rfl (ltn rfl)) rfl ?_
  refine VL.va (op_move rfl (ltn rfl)) rfl ?_
  replace h := Option.bind_eq_some_iff.1 h
  obtain ⟨t1823, hA1824, h⟩ := h
  refine VL.sC (o_call0 FO44 (slices_IndexFunc_api_Sub_api_Sub_s25.ok k l0 a1_0_0 a1_0_1 a1_0_2 a1_0_3 a1_0_4 v0 p1_0 t1823 hA1824) rfl rfl (ltn rfl) (All_of (.cons (List.mem_of_getElem? (i := 0) rfl) (.cons (List.mem_of_getElem? (i := 1) rfl) .nil)))) rfl ?_
  rintro _ _ _ ⟨rfl, rfl, rfl⟩
  refine VL.letter (decide (t1823 ≥ 0)) fun b1825 hb1825 => ?_
  refine VL.va (op_cmp rfl rfl (congrArg some hb1825) (ltn rfl)) rfl ?_
  refine VL.va (op_assign rfl (ltn rfl)) rfl ?_
  refine VL.done ?_
  refine VN.then ?_
  refine VC.ret ?_
  obtain rfl := Option.some.inj h
  subst hb1825
  exact VR.fn (rs := [.tmp 4]) [] [] [] rfl (.tmp rfl .nil) ⟨rfl, rfl, rfl⟩ trivial rfl (by decide)
set_option maxHeartbeats 4000000 in
set_option maxRecDepth 100000 in
theorem slices_BinarySearchFunc_api_Sub_api_Sub_api_Sub.ok (k : Nat) (l0 : List S22) (a1_0 : ByteArray) (a1_1 : ByteArray) (a1_2 : Int) (a1_3 : Int) (a1_4 : Int) (v0 : Value) (r1 : Int) (r2 : Bool) (h : slices_BinarySearchFunc_api_Sub_api_Sub_api_Sub.f k l0 a1_0 a1_1 a1_2 a1_3 a1_4 = some (r1, r2)) :
    VCalls Try.prog 45 [v0, .agg #[.string a1_0, .string a1_1, .int .i64 a1_2, .int .i64 a1_3, .int .i64 a1_4], (.func (.func 29) #[] #[])] [.row v0 5 (l0.map enc22)] (fun v G own => v = .tuple #[.int .i64 r1, .bool r2] ∧ G = [] ∧ own = []) := by
  refine VCalls.intro Try.func45 rfl (len rfl) fun E hC => ?_
  unfold slices_BinarySearchFunc_api_Sub_api_Sub_api_Sub.f at h
  refine VC.seq ?_
  refine VC.region ?_
  refine VL.sG (o_box rfl (.agg (.of rfl)) (ltn rfl)) rfl ?_
  intro g1879
  refine VL.va (op_assign rfl (ltn rfl)) rfl ?_
  refine VL.va (op_assign rfl (ltn rfl)) rfl ?_
  refine VL.done ?_
  refine VN.then ?_
  refine VC.seq ?_
  refine VC.region ?_
  refine VL.va (op_move rfl (ltn rfl)) rfl ?_
  refine VL.va (op_len (m := l0.length) 0 lenm Try.underlying33 rfl rfl (ltn rfl)) rfl ?_
  refine VL.va (op_assign rfl (ltn rfl)) rfl ?_
  refine VL.done ?_
  refine VN.then ?_
  refine VC.seq ?_
  refine VC.region ?_
  refine VL.va (op_move rfl (ltn rfl)) rfl ?_
  refine VL.va (op_assign rfl (ltn rfl)) rfl ?_
  refine VL.va (op_assign rfl (ltn rfl)) rfl ?_
  refine VL.done ?_
  refine VN.then ?_
  refine VC.seq ?_
  refine VC.block ?_
  refine VC.loop2 (fun (i1924 : Int) (i1925 : Int) => ⟨49, [(0, v0), (2, (.func (.func 29) #[] #[])), (4, .pointer (some ⟨g1879, 0, none⟩)), (6, .int .i64 0), (7, .bool false), (8, .int .i64 (l0.length : Int)), (9, .int .i64 i1924), (10, .int .i64 i1925)], [.row v0 5 (l0.map enc22)], [(g1879, 23, [.string a1_0, .string a1_1, .int .i64 a1_2, .int .i64 a1_3, .int .i64 a1_4])], []⟩) (fun (ml1 : Nat) (i1924 : Int) (i1925 : Int) => slices_BinarySearchFunc_api_Sub_api_Sub_api_Sub.l1 k a1_0 a1_1 a1_2 a1_3 a1_4 l0 ml1 i1924 i1925 = some (r1, r2)) k 0 (l0.length : Int) [0] [] h ⟨rfl, ⟨rfl, rfl, rfl, rfl, rfl, rfl, rfl, rfl, trivial⟩, ⟨⟨0, rfl⟩, trivial⟩, rfl, by decide, rfl, by decide⟩ (by intros; simp [slices_BinarySearchFunc_api_Sub_api_Sub_api_Sub.l1]) ?_
  clear h
  intro ml1 ihl1 i1924 i1925 h
  simp only [slices_BinarySearchFunc_api_Sub_api_Sub_api_Sub.l1] at h
  refine VC.seq ?_
  refine VC.seq ?_
  refine VC.region ?_
  refine VL.va (op_move rfl (ltn rfl)) rfl ?_
  refine VL.va (op_move rfl (ltn rfl)) rfl ?_
  refine VL.letter (decide (i1924 < i1925)) fun b1945 hb1945 => ?_
  refine VL.va (op_cmp rfl rfl (congrArg some hb1945) (ltn rfl)) rfl ?_
  refine VL.done ?_
  refine VN.then ?_
  by_cases c1946 : i1924 < i1925
  · rw [if_pos c1946] at h
    obtain rfl : b1945 = true := hb1945.symm.trans (decide_eq_true c1946)
    refine VC.cond_t rfl ?_
    refine VC.skip ?_
    refine VN.then ?_
    refine VC.block ?_
    refine VC.seq ?_
    refine VC.region ?_
    refine VL.va (op_move rfl (ltn rfl)) rfl ?_
    refine VL.va (op_move rfl (ltn rfl)) rfl ?_
    refine VL.va (op_ari64 rfl rfl rfl (ltn rfl)) rfl ?_
    refine VL.va (op_conv Try.underlying3 Try.underlying78 rfl rfl (ltn rfl)) rfl ?_
    refine VL.va (op_shr rfl rfl (by decide) rfl (ltn rfl)) rfl ?_
    refine VL.va (op_conv Try.underlying78 Try.underlying3 rfl (i64w _) (ltn rfl)) rfl ?_
    refine VL.va (op_assign rfl (ltn rfl)) rfl ?_
    refine VL.done ?_
    refine VN.then ?_
    by_cases c1947 : 0 ≤ wrap64 ((IntKind.u64.wrap (wrap64 (i1924 + i1925))).fdiv (2 ^ min (1 : Int).toNat IntKind.u64.bits))
    · rw [if_pos c1947] at h
      replace h := Option.bind_eq_some_iff.1 h
      obtain ⟨x1948, hx1948, h⟩ := h
      replace h := Option.bind_eq_some_iff.1 h
      obtain ⟨t1949, hA1950, h⟩ := h
      refine VC.letter (decide (t1949 < 0)) fun b1951 hb1951 => ?_
      refine VC.open (m := l0.length) 0 lenm rfl (pos_get hx1948) ?_
      rintro ad1886 n1887 rfl
      refine VC.join0 (⟨49, [(0, (.slice (some ad1886) l0.length n1887)), (2, (.func (.func 29) #[] #[])), (4, .pointer (some ⟨g1879, 0, none⟩)), (6, .int .i64 0), (7, .bool false), (8, .int .i64 (l0.length : Int)), (9, .int .i64 i1924), (10, .int .i64 i1925), (11, .int .i64 (wrap64 ((IntKind.u64.wrap (wrap64 (i1924 + i1925))).fdiv (2 ^ min (1 : Int).toNat IntKind.u64.bits)))), (15, .int .i64 i1924), (16, .int .i64 i1925), (17, .bool true), (18, .int .i64 i1924), (19, .int .i64 i1925), (20, .int .i64 (wrap64 (i1924 + i1925))), (21, .int .u64 (IntKind.u64.wrap (wrap64 (i1924 + i1925)))), (22, .int .u64 ((IntKind.u64.wrap (wrap64 (i1924 + i1925))).fdiv (2 ^ min (1 : Int).toNat IntKind.u64.bits))), (23, .int .i64 (wrap64 ((IntKind.u64.wrap (wrap64 (i1924 + i1925))).fdiv (2 ^ min (1 : Int).toNat IntKind.u64.bits)))), (24, (.func (.func 29) #[] #[])), (25, (.slice (some ad1886) l0.length n1887)), (26, .int .i64 (wrap64 ((IntKind.u64.wrap (wrap64 (i1924 + i1925))).fdiv (2 ^ min (1 : Int).toNat IntKind.u64.bits)))), (28, .agg #[.string x1948.f0, .string x1948.f1, .int .i64 x1948.f2, .int .i64 x1948.f3, .int .i64 x1948.f4]), (29, .agg #[.string a1_0, .string a1_1, .int .i64 a1_2, .int .i64 a1_3, .int .i64 a1_4]), (30, .int .i64 t1949), (31, .bool b1951)], [.row (.slice (some ad1886) l0.length n1887) 5 (l0.map enc22)], [(g1879, 23, [.string a1_0, .string a1_1, .int .i64 a1_2, .int .i64 a1_3, .int .i64 a1_4])], []⟩) (True) ?_ ?_
      · refine VC.draw ⟨0, [], [.row (.slice (some ad1886) l0.length n1887) 5 (l0.map enc22)], [(g1879, 23, [.string a1_0, .string a1_1, .int .i64 a1_2, .int .i64 a1_3, .int .i64 a1_4])], []⟩ (by kernel_rfl) rfl (by kernel_rfl) (n := 8) (listed := LB 8 0) ?_
        refine VA.va (i := 0) (listed' := LB 8 1) rfl (op_move rfl (ltn rfl)) rfl (by kernel_rfl) (by kernel_rfl) (by kernel_rfl) (by kernel_rfl) ⟨⟨⟨0, rfl⟩, trivial⟩, ⟨⟨0, rfl⟩, trivial⟩, trivial⟩ (fun _ _ _ h => h) ?_
        refine VA.va (i := 1) (listed' := LB 8 3) rfl (op_move rfl (ltn rfl)) rfl (by kernel_rfl) (by kernel_rfl) (by kernel_rfl) (by kernel_rfl) ⟨⟨⟨0, rfl⟩, trivial⟩, ⟨⟨0, rfl⟩, trivial⟩, trivial⟩ (fun _ _ _ h => h) ?_
        refine VA.va (i := 2) (listed' := LB 8 7) rfl (op_move rfl (ltn rfl)) rfl (by kernel_rfl) (by kernel_rfl) (by kernel_rfl) (by kernel_rfl) ⟨⟨⟨0, rfl⟩, trivial⟩, ⟨⟨0, rfl⟩, trivial⟩, trivial⟩ (fun _ _ _ h => h) ?_
        refine VA.va (i := 3) (listed' := LB 8 15) rfl (op_indexAddr Try.underlying33 TI23 rfl rfl c1947 (lt_get c1947 hx1948) rfl (ltn rfl)) rfl (by kernel_rfl) (by kernel_rfl) (by kernel_rfl) (by kernel_rfl) ⟨⟨⟨0, rfl⟩, trivial⟩, ⟨⟨0, rfl⟩, trivial⟩, trivial⟩ (fun _ _ _ h => h) ?_
        refine VA.va (i := 4) (listed' := LB 8 31) rfl (op_load_row (sz := 5) (o := 0) 0 (wrap64 ((IntKind.u64.wrap (wrap64 (i1924 + i1925))).fdiv (2 ^ min (1 : Int).toNat IntKind.u64.bits))).toNat 5 rfl rfl (get_map hx1948) TI23 rfl (fun h => absurd h (by decide)) (ltn rfl)) rfl (by kernel_rfl) (by kernel_rfl) (by kernel_rfl) (by kernel_rfl) ⟨⟨⟨0, rfl⟩, trivial⟩, ⟨⟨0, rfl⟩, trivial⟩, trivial⟩ (fun _ _ _ h => h) ?_
        refine VA.va (i := 5) (listed' := LB 8 63) rfl (op_load 0 5 rfl rfl TI23 rfl (fun h => absurd h (by decide)) (ltn rfl)) rfl (by kernel_rfl) (by kernel_rfl) (by kernel_rfl) (by kernel_rfl) ⟨⟨⟨0, rfl⟩, trivial⟩, ⟨⟨0, rfl⟩, trivial⟩, trivial⟩ (fun _ _ _ h => h) ?_
        refine VA.oneC (i := 6) (listed' := LB 8 127) (by kernel_rfl) rfl (o_call0 FO29 (goods_compare.ok k x1948.f0 x1948.f1 x1948.f2 x1948.f3 x1948.f4 a1_0 a1_1 a1_2 a1_3 a1_4 t1949 hA1950) rfl rfl (ltn rfl) (All_of .nil)) rfl (by kernel_rfl) ?_
        rintro _ _ _ ⟨rfl, rfl, rfl⟩
        refine ⟨⟨⟨⟨0, rfl⟩, trivial⟩, ⟨⟨0, rfl⟩, trivial⟩, trivial⟩, ?_⟩
        refine VA.va (i := 7) (listed' := LB 8 255) rfl (op_cmp rfl rfl (congrArg some hb1951) (ltn rfl)) rfl (by kernel_rfl) (by kernel_rfl) (by kernel_rfl) (by kernel_rfl) ⟨⟨⟨0, rfl⟩, trivial⟩, ⟨⟨0, rfl⟩, trivial⟩, trivial⟩ (fun _ _ _ h => h) ?_
        refine VA.done (by kernel_rfl) ?_
        exact VN.meet0  [0] [] trivial ⟨rfl, ⟨rfl, rfl, rfl, rfl, rfl, rfl, rfl, rfl, rfl, rfl, rfl, rfl, rfl, rfl, rfl, rfl, rfl, rfl, rfl, rfl, rfl, rfl, rfl, rfl, rfl, trivial⟩, ⟨⟨0, rfl⟩, trivial⟩, rfl, by decide, rfl, by decide⟩
      intro _
      by_cases c1952 : t1949 < 0
      · rw [if_pos c1952] at h
        obtain rfl : b1951 = true := hb1951.symm.trans (decide_eq_true c1952)
        refine VC.cond_t rfl ?_
        refine VC.region ?_
        refine VL.va (op_move rfl (ltn rfl)) rfl ?_
        refine VL.va (op_ari64 rfl rfl rfl (ltn rfl)) rfl ?_
        refine VL.va (op_assign rfl (ltn rfl)) rfl ?_
        refine VL.done ?_
        refine VN.block ?_
        refine VN.again [0] [] (ihl1 (wrap64 ((wrap64 ((IntKind.u64.wrap (wrap64 (i1924 + i1925))).fdiv (2 ^ min (1 : Int).toNat IntKind.u64.bits))) + 1)) i1925 h) ⟨rfl, ⟨rfl, rfl, rfl, rfl, rfl, rfl, rfl, rfl, trivial⟩, ⟨⟨0, rfl⟩, trivial⟩, rfl, by decide, rfl, by decide⟩
      · rw [if_neg c1952] at h
        obtain rfl : b1951 = false := hb1951.symm.trans (decide_eq_false c1952)
        refine VC.cond_f rfl ?_
        refine VC.region ?_
        refine VL.va (op_move rfl (ltn rfl)) rfl ?_
        refine VL.va (op_assign rfl (ltn rfl)) rfl ?_
        refine VL.done ?_
        refine VN.block ?_
        refine VN.again [0] [] (ihl1 i1924 (wrap64 ((IntKind.u64.wrap (wrap64 (i1924 + i1925))).fdiv (2 ^ min (1 : Int).toNat IntKind.u64.bits))) h) ⟨rfl, ⟨rfl, rfl, rfl, rfl, rfl, rfl, rfl, rfl, trivial⟩, ⟨⟨0, rfl⟩, trivial⟩, rfl, by decide, rfl, by decide⟩
    · rw [if_neg c1947] at h; cases h
  · rw [if_neg c1946] at h
    obtain rfl : b1945 = false := hb1945.symm.trans (decide_eq_false c1946)
    refine VC.cond_f rfl ?_
    refine VC.exit ?_
    refine VX.then ?_
    refine VX.then ?_
    refine VX.hit ?_
    refine VN.then ?_
    refine VC.letter (decide (i1924 < (l0.length : Int))) fun b1953 hb1953 => ?_
    by_cases c1954 : i1924 < (l0.length : Int)
    · rw [if_pos c1954] at h
      obtain rfl : b1953 = true := hb1953.symm.trans (decide_eq_true c1954)
      by_cases c1955 : 0 ≤ i1924
      · rw [if_pos c1955] at h
        replace h := Option.bind_eq_some_iff.1 h
        obtain ⟨x1956, hx1956, h⟩ := h
        replace h := Option.bind_eq_some_iff.1 h
        obtain ⟨t1957, hA1958, h⟩ := h
        refine VC.letter ((t1957 == 0)) fun b1959 hb1959 => ?_
        refine VC.open (m := l0.length) 0 lenm rfl (pos_get hx1956) ?_
        rintro ad1886 n1887 rfl
        refine VC.join0 (⟨49, [(6, .int .i64 i1924), (7, .bool b1959)], [], [], []⟩) (True) ?_ ?_
        · refine VC.draw ⟨0, [], [.row (.slice (some ad1886) l0.length n1887) 5 (l0.map enc22)], [(g1879, 23, [.string a1_0, .string a1_1, .int .i64 a1_2, .int .i64 a1_3, .int .i64 a1_4])], []⟩ (by kernel_rfl) rfl (by kernel_rfl) (n := 16) (listed := LB 16 0) ?_
          refine VA.va (i := 0) (listed' := LB 16 1) rfl (op_move rfl (ltn rfl)) rfl (by kernel_rfl) (by kernel_rfl) (by kernel_rfl) (by kernel_rfl) ⟨⟨⟨0, rfl⟩, trivial⟩, ⟨⟨0, rfl⟩, trivial⟩, trivial⟩ (fun _ _ _ h => h) ?_
          refine VA.va (i := 1) (listed' := LB 16 3) rfl (op_move rfl (ltn rfl)) rfl (by kernel_rfl) (by kernel_rfl) (by kernel_rfl) (by kernel_rfl) ⟨⟨⟨0, rfl⟩, trivial⟩, ⟨⟨0, rfl⟩, trivial⟩, trivial⟩ (fun _ _ _ h => h) ?_
          refine VA.va (i := 2) (listed' := LB 16 7) rfl (op_move rfl (ltn rfl)) rfl (by kernel_rfl) (by kernel_rfl) (by kernel_rfl) (by kernel_rfl) ⟨⟨⟨0, rfl⟩, trivial⟩, ⟨⟨0, rfl⟩, trivial⟩, trivial⟩ (fun _ _ _ h => h) ?_
          refine VA.va (i := 3) (listed' := LB 16 15) rfl (op_cmp rfl rfl (congrArg some hb1953) (ltn rfl)) rfl (by kernel_rfl) (by kernel_rfl) (by kernel_rfl) (by kernel_rfl) ⟨⟨⟨0, rfl⟩, trivial⟩, ⟨⟨0, rfl⟩, trivial⟩, trivial⟩ (fun _ _ _ h => h) ?_
          refine VA.va (i := 4) (listed' := LB 16 31) rfl (op_move rfl (ltn rfl)) rfl (by kernel_rfl) (by kernel_rfl) (by kernel_rfl) (by kernel_rfl) ⟨⟨⟨0, rfl⟩, trivial⟩, ⟨⟨0, rfl⟩, trivial⟩, trivial⟩ (fun _ _ _ h => h) ?_
          refine VA.va (i := 5) (listed' := LB 16 63) rfl (op_move rfl (ltn rfl)) rfl (by kernel_rfl) (by kernel_rfl) (by kernel_rfl) (by kernel_rfl) ⟨⟨⟨0, rfl⟩, trivial⟩, ⟨⟨0, rfl⟩, trivial⟩, trivial⟩ (fun _ _ _ h => h) ?_
          refine VA.va (i := 6) (listed' := LB 16 127) rfl (op_move rfl (ltn rfl)) rfl (by kernel_rfl) (by kernel_rfl) (by kernel_rfl) (by kernel_rfl) ⟨⟨⟨0, rfl⟩, trivial⟩, ⟨⟨0, rfl⟩, trivial⟩, trivial⟩ (fun _ _ _ h => h) ?_
          refine VA.va (i := 7) (listed' := LB 16 255) rfl (op_move rfl (ltn rfl)) rfl (by kernel_rfl) (by kernel_rfl) (by kernel_rfl) (by kernel_rfl) ⟨⟨⟨0, rfl⟩, trivial⟩, ⟨⟨0, rfl⟩, trivial⟩, trivial⟩ (fun _ _ _ h => h) ?_
          refine VA.va (i := 8) (listed' := LB 16 511) rfl (op_indexAddr Try.underlying33 TI23 rfl rfl c1955 (lt_get c1955 hx1956) rfl (ltn rfl)) rfl (by kernel_rfl) (by kernel_rfl) (by kernel_rfl) (by kernel_rfl) ⟨⟨⟨0, rfl⟩, trivial⟩, ⟨⟨0, rfl⟩, trivial⟩, trivial⟩ (fun _ _ _ h => h) ?_
          refine VA.va (i := 9) (listed' := LB 16 1023) rfl (op_load_row (sz := 5) (o := 0) 0 i1924.toNat 5 rfl rfl (get_map hx1956) TI23 rfl (fun h => absurd h (by decide)) (ltn rfl)) rfl (by kernel_rfl) (by kernel_rfl) (by kernel_rfl) (by kernel_rfl) ⟨⟨⟨0, rfl⟩, trivial⟩, ⟨⟨0, rfl⟩, trivial⟩, trivial⟩ (fun _ _ _ h => h) ?_
          refine VA.va (i := 10) (listed' := LB 16 2047) rfl (op_load 0 5 rfl rfl TI23 rfl (fun h => absurd h (by decide)) (ltn rfl)) rfl (by kernel_rfl) (by kernel_rfl) (by kernel_rfl) (by kernel_rfl) ⟨⟨⟨0, rfl⟩, trivial⟩, ⟨⟨0, rfl⟩, trivial⟩, trivial⟩ (fun _ _ _ h => h) ?_
          refine VA.oneC (i := 11) (listed' := LB 16 4095) (by kernel_rfl) rfl (o_call0 FO29 (goods_compare.ok k x1956.f0 x1956.f1 x1956.f2 x1956.f3 x1956.f4 a1_0 a1_1 a1_2 a1_3 a1_4 t1957 hA1958) rfl rfl (ltn rfl) (All_of .nil)) rfl (by kernel_rfl) ?_
          rintro _ _ _ ⟨rfl, rfl, rfl⟩
          refine ⟨⟨⟨⟨0, rfl⟩, trivial⟩, ⟨⟨0, rfl⟩, trivial⟩, trivial⟩, ?_⟩
          refine VA.va (i := 12) (listed' := LB 16 8191) rfl (op_cmp rfl rfl (congrArg some hb1959) (ltn rfl)) rfl (by kernel_rfl) (by kernel_rfl) (by kernel_rfl) (by kernel_rfl) ⟨⟨⟨0, rfl⟩, trivial⟩, ⟨⟨0, rfl⟩, trivial⟩, trivial⟩ (fun _ _ _ h => h) ?_
          refine VA.va (i := 13) (listed' := LB 16 16383) rfl (op_pick rfl rfl (ltn rfl)) rfl (by kernel_rfl) (by kernel_rfl) (by kernel_rfl) (by kernel_rfl) ⟨⟨⟨0, rfl⟩, trivial⟩, ⟨⟨0, rfl⟩, trivial⟩, trivial⟩ (fun _ _ _ h => h) ?_
          refine VA.va (i := 14) (listed' := LB 16 32767) rfl (op_assign rfl (ltn rfl)) rfl (by kernel_rfl) (by kernel_rfl) (by kernel_rfl) (by kernel_rfl) ⟨⟨⟨0, rfl⟩, trivial⟩, ⟨⟨0, rfl⟩, trivial⟩, trivial⟩ (fun _ _ _ h => h) ?_
          refine VA.va (i := 15) (listed' := LB 16 65535) rfl (op_assign rfl (ltn rfl)) rfl (by kernel_rfl) (by kernel_rfl) (by kernel_rfl) (by kernel_rfl) ⟨⟨⟨0, rfl⟩, trivial⟩, ⟨⟨0, rfl⟩, trivial⟩, trivial⟩ (fun _ _ _ h => h) ?_
          refine VA.done (by kernel_rfl) ?_
          exact VN.meet0  [] [] trivial ⟨rfl, ⟨rfl, rfl, trivial⟩, trivial, rfl, by decide, rfl, by decide⟩
        intro _
        refine VC.ret ?_
        simp only [Option.some.injEq, Prod.mk.injEq] at h
        obtain ⟨rfl, rfl⟩ := h
        subst hb1959
        exact VR.fn (rs := [.tmp 6, .tmp 7]) [] [] [] rfl (.tmp rfl (.tmp rfl .nil)) ⟨rfl, rfl, rfl⟩ trivial rfl (by decide)
      · rw [if_neg c1955] at h; cases h
    · rw [if_neg c1954] at h
      obtain rfl : b1953 = false := hb1953.symm.trans (decide_eq_false c1954)
      refine VC.join0 (⟨49, [(6, .int .i64 i1924), (7, .bool false)], [], [], []⟩) (True) ?_ ?_
      · refine VC.draw ⟨0, [], [], [], []⟩ (by kernel_rfl) rfl (by kernel_rfl) (n := 16) (listed := LB 16 0) ?_
        refine VA.va (i := 0) (listed' := LB 16 1) rfl (op_move rfl (ltn rfl)) rfl (by kernel_rfl) (by kernel_rfl) (by kernel_rfl) (by kernel_rfl) ⟨trivial, trivial, trivial⟩ (fun _ _ _ h => h) ?_
        refine VA.va (i := 1) (listed' := LB 16 3) rfl (op_move rfl (ltn rfl)) rfl (by kernel_rfl) (by kernel_rfl) (by kernel_rfl) (by kernel_rfl) ⟨trivial, trivial, trivial⟩ (fun _ _ _ h => h) ?_
        refine VA.va (i := 2) (listed' := LB 16 7) rfl (op_move rfl (ltn rfl)) rfl (by kernel_rfl) (by kernel_rfl) (by kernel_rfl) (by kernel_rfl) ⟨trivial, trivial, trivial⟩ (fun _ _ _ h => h) ?_
        refine VA.va (i := 3) (listed' := LB 16 15) rfl (op_cmp rfl rfl (congrArg some hb1953) (ltn rfl)) rfl (by kernel_rfl) (by kernel_rfl) (by kernel_rfl) (by kernel_rfl) ⟨trivial, trivial, trivial⟩ (fun _ _ _ h => h) ?_
        refine VA.va (i := 4) (listed' := LB 16 31) rfl (op_move rfl (ltn rfl)) rfl (by kernel_rfl) (by kernel_rfl) (by kernel_rfl) (by kernel_rfl) ⟨trivial, trivial, trivial⟩ (fun _ _ _ h => h) ?_
        refine VA.un (i := 5) (listed' := LB 16 63) rfl rfl rfl (ltn rfl) (by kernel_rfl) (by kernel_rfl) (by kernel_rfl) (by kernel_rfl) ⟨trivial, trivial, trivial⟩ (fun _ _ _ h => h) ?_
        refine VA.un (i := 6) (listed' := LB 16 127) rfl rfl rfl (ltn rfl) (by kernel_rfl) (by kernel_rfl) (by kernel_rfl) (by kernel_rfl) ⟨trivial, trivial, trivial⟩ (fun _ _ _ h => h) ?_
        refine VA.un (i := 7) (listed' := LB 16 255) rfl rfl rfl (ltn rfl) (by kernel_rfl) (by kernel_rfl) (by kernel_rfl) (by kernel_rfl) ⟨trivial, trivial, trivial⟩ (fun _ _ _ h => h) ?_
        refine VA.un (i := 8) (listed' := LB 16 511) rfl rfl rfl (ltn rfl) (by kernel_rfl) (by kernel_rfl) (by kernel_rfl) (by kernel_rfl) ⟨trivial, trivial, trivial⟩ (fun _ _ _ h => h) ?_
        refine VA.un (i := 9) (listed' := LB 16 1023) rfl rfl rfl (ltn rfl) (by kernel_rfl) (by kernel_rfl) (by kernel_rfl) (by kernel_rfl) ⟨trivial, trivial, trivial⟩ (fun _ _ _ h => h) ?_
        refine VA.un (i := 10) (listed' := LB 16 2047) rfl rfl rfl (ltn rfl) (by kernel_rfl) (by kernel_rfl) (by kernel_rfl) (by kernel_rfl) ⟨trivial, trivial, trivial⟩ (fun _ _ _ h => h) ?_
        refine VA.un (i := 11) (listed' := LB 16 4095) rfl rfl rfl (ltn rfl) (by kernel_rfl) (by kernel_rfl) (by kernel_rfl) (by kernel_rfl) ⟨trivial, trivial, trivial⟩ (fun _ _ _ h => h) ?_
        refine VA.un (i := 12) (listed' := LB 16 8191) rfl rfl rfl (ltn rfl) (by kernel_rfl) (by kernel_rfl) (by kernel_rfl) (by kernel_rfl) ⟨trivial, trivial, trivial⟩ (fun _ _ _ h => h) ?_
        refine VA.va (i := 13) (listed' := LB 16 16383) rfl (op_pick rfl rfl (ltn rfl)) rfl (by kernel_rfl) (by kernel_rfl) (by kernel_rfl) (by kernel_rfl) ⟨trivial, trivial, trivial⟩ (fun _ _ _ h => h) ?_
        refine VA.va (i := 14) (listed' := LB 16 32767) rfl (op_assign rfl (ltn rfl)) rfl (by kernel_rfl) (by kernel_rfl) (by kernel_rfl) (by kernel_rfl) ⟨trivial, trivial, trivial⟩ (fun _ _ _ h => h) ?_
        refine VA.va (i := 15) (listed' := LB 16 65535) rfl (op_assign rfl (ltn rfl)) rfl (by kernel_rfl) (by kernel_rfl) (by kernel_rfl) (by kernel_rfl) ⟨trivial, trivial, trivial⟩ (fun _ _ _ h => h) ?_
        refine VA.done (by kernel_rfl) ?_
        exact VN.meet0  [] [] trivial ⟨rfl, ⟨rfl, rfl, trivial⟩, trivial, rfl, by decide, rfl, by decide⟩
      intro _
      refine VC.ret ?_
      simp only [Option.some.injEq, Prod.mk.injEq] at h
      obtain ⟨rfl, rfl⟩ := h
      exact VR.fn (rs := [.tmp 6, .tmp 7]) [] [] [] rfl (.tmp rfl (.tmp rfl .nil)) ⟨rfl, rfl, rfl⟩ trivial rfl (by decide)

end Go.Proofs.Ytoiihpmncphplaa.PGoodsStay
