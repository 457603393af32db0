/- Written by a program of this repo: what the program's functions do, each as a Lean function, shown of the loaded code; or a statement's row over that; no condition of its own. -/
import Derived.Test.YtmcfgahjchkgaaaPTimerOrdersx3
namespace Go.Proofs.Ytmcfgahjchkgaaa.PTimerOrders
open Go Go.RowKit Go.Proofs.YtmcfgahjchkgaaaV
set_option linter.unusedVariables false
set_option linter.unusedSimpArgs false

set_option maxHeartbeats 4000000 in
set_option maxRecDepth 100000 in
theorem tarryref10_Same.ok (k : Nat) (l0 : List S23) (l1 : List S23) (v0 : Value) (v1 : Value) (r1 : Bool) (h : tarryref10_Same.f k l0 l1 = some r1) :
    VCalls Try.prog 10 [v0, v1] [.row v0 3 (l0.map enc23), .row v1 3 (l1.map enc23)] (fun v G own => v = .bool r1 ∧ G = [] ∧ own = []) := by
  refine VCalls.intro Try.func10 rfl (len rfl) fun E hC => ?_
  unfold tarryref10_Same.f at h
  refine VC.seq ?_
  refine VC.region ?_
  refine VL.va (op_assign rfl (ltn rfl)) rfl ?_
  refine VL.done ?_
  refine VN.then ?_
  refine VC.seq ?_
  refine VC.seq ?_
  refine VC.region ?_
  refine VL.va (op_move rfl (ltn rfl)) rfl ?_
  refine VL.va (op_len (m := l0.length) 0 lenm Try.underlying22 rfl rfl (ltn rfl)) rfl ?_
  refine VL.va (op_move rfl (ltn rfl)) rfl ?_
  refine VL.va (op_len (m := l1.length) 1 lenm Try.underlying22 rfl rfl (ltn rfl)) rfl ?_
  refine VL.letter (((l0.length : Int) != (l1.length : Int))) fun b1441 hb1441 => ?_
  refine VL.va (op_cmp rfl rfl (congrArg some hb1441) (ltn rfl)) rfl ?_
  refine VL.done ?_
  refine VN.then ?_
  by_cases c1442 : (l0.length : Int) = (l1.length : Int)
  · rw [if_pos c1442] at h
    obtain rfl : b1441 = false := hb1441.symm.trans (bne_eq_false_iff_eq.2 c1442)
    refine VC.cond_f rfl ?_
    refine VC.skip ?_
    refine VN.then ?_
    refine VC.seq ?_
    refine VC.seq ?_
    refine VC.region ?_
    refine VL.va (op_move rfl (ltn rfl)) rfl ?_
    refine VL.va (op_len (m := l0.length) 0 lenm Try.underlying22 rfl rfl (ltn rfl)) rfl ?_
    refine VL.va (op_move rfl (ltn rfl)) rfl ?_
    refine VL.done ?_
    refine VN.then ?_
    refine VC.block ?_
    refine VC.loop1 (fun (i1496 : Int) => ⟨26, [(0, v0), (1, v1), (4, .bool false), (12, .int .i64 (l0.length : Int)), (13, .int .i64 i1496)], [.row v0 3 (l0.map enc23), .row v1 3 (l1.map enc23)], [], []⟩) (fun (ml1 : Nat) (i1496 : Int) => tarryref10_Same.l1 k l0 l1 ml1 i1496 = some r1) k 0 [] [] h ⟨rfl, ⟨rfl, rfl, rfl, rfl, rfl, trivial⟩, ⟨⟨0, rfl⟩, ⟨1, rfl⟩, trivial⟩, rfl, by decide, rfl, by decide⟩ (by intros; simp [tarryref10_Same.l1]) ?_
    clear h
    intro ml1 ihl1 i1496 h
    simp only [tarryref10_Same.l1] at h
    refine VC.seq ?_
    refine VC.region ?_
    refine VL.letter (decide (i1496 < (l0.length : Int))) fun b1510 hb1510 => ?_
    refine VL.va (op_cmp rfl rfl (congrArg some hb1510) (ltn rfl)) rfl ?_
    refine VL.done ?_
    refine VN.then ?_
    refine VC.seq ?_
    by_cases c1512 : i1496 < (l0.length : Int)
    · rw [if_pos c1512] at h
      obtain rfl : b1510 = true := hb1510.symm.trans (decide_eq_true c1512)
      refine VC.cond_t rfl ?_
      refine VC.skip ?_
      refine VN.then ?_
      refine VC.seq ?_
      refine VC.block ?_
      refine VC.seq ?_
      refine VC.region ?_
      refine VL.va (op_move rfl (ltn rfl)) rfl ?_
      refine VL.va (op_assign rfl (ltn rfl)) rfl ?_
      refine VL.done ?_
      refine VN.then ?_
      by_cases c1518 : 0 ≤ i1496
      · rw [if_pos c1518] at h
        replace h := Option.bind_eq_some_iff.1 h
        obtain ⟨x1519, hx1519, h⟩ := h
        replace h := Option.bind_eq_some_iff.1 h
        obtain ⟨x1520, hx1520, h⟩ := h
        refine VC.letter ((!(((x1519.f0 == x1520.f0) && ((x1519.f1 == x1520.f1) && (x1519.f2 == x1520.f2)))))) fun b1521 hb1521 => ?_
        refine VC.open (m := l0.length) 0 lenm rfl (pos_get hx1519) ?_
        rintro ad1447 n1448 rfl
        refine VC.open (m := l1.length) 1 lenm rfl (pos_get hx1520) ?_
        rintro ad1450 n1451 rfl
        refine VC.join0 (⟨26, [(0, (.slice (some ad1447) l0.length n1448)), (1, (.slice (some ad1450) l1.length n1451)), (4, .bool false), (5, .int .i64 i1496), (12, .int .i64 (l0.length : Int)), (13, .int .i64 i1496), (14, .bool true), (15, .int .i64 i1496), (16, (.slice (some ad1447) l0.length n1448)), (17, .int .i64 i1496), (19, .agg #[.int .i64 x1519.f0, .int .i64 x1519.f1, .int .i64 x1519.f2]), (20, (.slice (some ad1450) l1.length n1451)), (21, .int .i64 i1496), (23, .agg #[.int .i64 x1520.f0, .int .i64 x1520.f1, .int .i64 x1520.f2]), (24, .bool b1521)], [.row (.slice (some ad1447) l0.length n1448) 3 (l0.map enc23), .row (.slice (some ad1450) l1.length n1451) 3 (l1.map enc23)], [], []⟩) (True) ?_ ?_
        · refine VC.draw ⟨0, [], [.row (.slice (some ad1447) l0.length n1448) 3 (l0.map enc23), .row (.slice (some ad1450) l1.length n1451) 3 (l1.map enc23)], [], []⟩ (by kernel_rfl) rfl (by kernel_rfl) (n := 9) (listed := LB 9 0) ?_
          refine VA.va (i := 0) (listed' := LB 9 1) rfl (op_move rfl (ltn rfl)) rfl (by kernel_rfl) (by kernel_rfl) (by kernel_rfl) (by kernel_rfl) ⟨⟨⟨0, rfl⟩, ⟨1, rfl⟩, trivial⟩, trivial, trivial⟩ (fun _ _ _ h => h) ?_
          refine VA.va (i := 1) (listed' := LB 9 3) rfl (op_move rfl (ltn rfl)) rfl (by kernel_rfl) (by kernel_rfl) (by kernel_rfl) (by kernel_rfl) ⟨⟨⟨0, rfl⟩, ⟨1, rfl⟩, trivial⟩, trivial, trivial⟩ (fun _ _ _ h => h) ?_
          refine VA.va (i := 2) (listed' := LB 9 7) rfl (op_indexAddr Try.underlying22 TI24 rfl rfl c1518 (lt_get c1518 hx1519) rfl (ltn rfl)) rfl (by kernel_rfl) (by kernel_rfl) (by kernel_rfl) (by kernel_rfl) ⟨⟨⟨0, rfl⟩, ⟨1, rfl⟩, trivial⟩, trivial, trivial⟩ (fun _ _ _ h => h) ?_
          refine VA.va (i := 3) (listed' := LB 9 15) rfl (op_load_row (o := 0) 0 i1496.toNat 3 rfl rfl (get_map hx1519) TI24 rfl (fun h => absurd h (by decide)) (ltn rfl)) rfl (by kernel_rfl) (by kernel_rfl) (by kernel_rfl) (by kernel_rfl) ⟨⟨⟨0, rfl⟩, ⟨1, rfl⟩, trivial⟩, trivial, trivial⟩ (fun _ _ _ h => h) ?_
          refine VA.va (i := 4) (listed' := LB 9 31) rfl (op_move rfl (ltn rfl)) rfl (by kernel_rfl) (by kernel_rfl) (by kernel_rfl) (by kernel_rfl) ⟨⟨⟨0, rfl⟩, ⟨1, rfl⟩, trivial⟩, trivial, trivial⟩ (fun _ _ _ h => h) ?_
          refine VA.va (i := 5) (listed' := LB 9 63) rfl (op_move rfl (ltn rfl)) rfl (by kernel_rfl) (by kernel_rfl) (by kernel_rfl) (by kernel_rfl) ⟨⟨⟨0, rfl⟩, ⟨1, rfl⟩, trivial⟩, trivial, trivial⟩ (fun _ _ _ h => h) ?_
          refine VA.va (i := 6) (listed' := LB 9 127) rfl (op_indexAddr Try.underlying22 TI24 rfl rfl c1518 (lt_get c1518 hx1520) rfl (ltn rfl)) rfl (by kernel_rfl) (by kernel_rfl) (by kernel_rfl) (by kernel_rfl) ⟨⟨⟨0, rfl⟩, ⟨1, rfl⟩, trivial⟩, trivial, trivial⟩ (fun _ _ _ h => h) ?_
          refine VA.va (i := 7) (listed' := LB 9 255) rfl (op_load_row (o := 0) 1 i1496.toNat 3 rfl rfl (get_map hx1520) TI24 rfl (fun h => absurd h (by decide)) (ltn rfl)) rfl (by kernel_rfl) (by kernel_rfl) (by kernel_rfl) (by kernel_rfl) ⟨⟨⟨0, rfl⟩, ⟨1, rfl⟩, trivial⟩, trivial, trivial⟩ (fun _ _ _ h => h) ?_
          refine VA.va (i := 8) (listed' := LB 9 511) rfl (op_neS rfl rfl EG24 (EQ24 x1519.f0 x1519.f1 x1519.f2 x1520.f0 x1520.f1 x1520.f2) hb1521 (ltn rfl)) rfl (by kernel_rfl) (by kernel_rfl) (by kernel_rfl) (by kernel_rfl) ⟨⟨⟨0, rfl⟩, ⟨1, rfl⟩, trivial⟩, trivial, trivial⟩ (fun _ _ _ h => h) ?_
          refine VA.done (by kernel_rfl) ?_
          exact VN.meet0  [] [] trivial ⟨rfl, ⟨rfl, rfl, rfl, rfl, rfl, rfl, rfl, rfl, rfl, rfl, rfl, rfl, rfl, rfl, rfl, trivial⟩, ⟨⟨0, rfl⟩, ⟨1, rfl⟩, trivial⟩, rfl, by decide, rfl, by decide⟩
        intro _
        by_cases c1522 : (((x1519.f0 == x1520.f0) && ((x1519.f1 == x1520.f1) && (x1519.f2 == x1520.f2)))) = true
        · rw [if_pos c1522] at h
          obtain rfl : b1521 = false := hb1521.symm.trans (not_t c1522)
          refine VC.cond_f rfl ?_
          refine VC.skip ?_
          refine VN.block ?_
          refine VN.then ?_
          refine VC.region ?_
          refine VL.va (op_ari64 rfl rfl rfl (ltn rfl)) rfl ?_
          refine VL.va (op_move rfl (ltn rfl)) rfl ?_
          refine VL.done ?_
          refine VN.again [] [] (ihl1 (wrap64 (i1496 + 1)) h) ⟨rfl, ⟨rfl, rfl, rfl, rfl, rfl, trivial⟩, ⟨⟨0, rfl⟩, ⟨1, rfl⟩, trivial⟩, rfl, by decide, rfl, by decide⟩
        · rw [if_neg c1522] at h
          obtain rfl : b1521 = true := hb1521.symm.trans (not_f c1522)
          refine VC.cond_t rfl ?_
          refine VC.seq ?_
          refine VC.region ?_
          refine VL.va (op_assign rfl (ltn rfl)) rfl ?_
          refine VL.done ?_
          refine VN.then ?_
          refine VC.ret ?_
          refine VR.block ?_
          refine VR.then ?_
          refine VR.then ?_
          refine VR.block ?_
          refine VR.then ?_
          obtain rfl := Option.some.inj h
          exact VR.fn (rs := [.tmp 4]) [] [] [] rfl (.tmp rfl .nil) ⟨rfl, rfl, rfl⟩ trivial rfl (by decide)
      · rw [if_neg c1518] at h; cases h
    · rw [if_neg c1512] at h
      obtain rfl : b1510 = false := hb1510.symm.trans (decide_eq_false c1512)
      refine VC.cond_f rfl ?_
      refine VC.exit ?_
      refine VX.then ?_
      refine VX.then ?_
      refine VX.hit ?_
      refine VN.then ?_
      refine VC.seq ?_
      refine VC.region ?_
      refine VL.va (op_assign rfl (ltn rfl)) rfl ?_
      refine VL.done ?_
      refine VN.then ?_
      refine VC.ret ?_
      obtain rfl := Option.some.inj h
      exact VR.fn (rs := [.tmp 4]) [] [] [] rfl (.tmp rfl .nil) ⟨rfl, rfl, rfl⟩ trivial rfl (by decide)
  · rw [if_neg c1442] at h
    obtain rfl : b1441 = true := hb1441.symm.trans (bne_iff_ne.2 c1442)
    refine VC.cond_t rfl ?_
    refine VC.seq ?_
    refine VC.region ?_
    refine VL.va (op_assign rfl (ltn rfl)) rfl ?_
    refine VL.done ?_
    refine VN.then ?_
    refine VC.ret ?_
    refine VR.then ?_
    obtain rfl := Option.some.inj h
    exact VR.fn (rs := [.tmp 4]) [] [] [] rfl (.tmp rfl .nil) ⟨rfl, rfl, rfl⟩ trivial rfl (by decide)
set_option maxHeartbeats 4000000 in
set_option maxRecDepth 100000 in
theorem tarrylaw10_TimerOrders.ok (k : Nat) (l0 : List S23) (a1_0 : Int) (a1_1 : Int) (a1_2 : Int) (a2_0 : Int) (a2_1 : Int) (a2_2 : Int) (v0 : Value) (r1 : Bool) (h : tarrylaw10_TimerOrders.f k l0 a1_0 a1_1 a1_2 a2_0 a2_1 a2_2 = some r1) :
    VCalls Try.prog 3 [v0, .agg #[.int .i64 a1_0, .int .i64 a1_1, .int .i64 a1_2], .agg #[.int .i64 a2_0, .int .i64 a2_1, .int .i64 a2_2]] [.row v0 3 (l0.map enc23)] (fun v G own => v = .bool r1 ∧ G = [] ∧ own = []) := by
  refine VCalls.intro Try.func3 rfl (len rfl) fun E hC => ?_
  unfold tarrylaw10_TimerOrders.f at h
  refine VC.seq ?_
  refine VC.region ?_
  refine VL.sG (o_box rfl (.agg (.c rfl (.c rfl (.c rfl .nil)))) (ltn rfl)) rfl ?_
  intro g2
  refine VL.sG (o_box rfl (.agg (.c rfl (.c rfl (.c rfl .nil)))) (ltn rfl)) rfl ?_
  intro g3
  refine VL.va (op_assign rfl (ltn rfl)) rfl ?_
  refine VL.done ?_
  refine VN.then ?_
  refine VC.seq ?_
  refine VC.region ?_
  refine VL.va (op_move rfl (ltn rfl)) rfl ?_
  replace h := Option.bind_eq_some_iff.1 h
  obtain ⟨r14, hA15, h⟩ := h
  refine VL.sC (o_call0 FO6 (tarrylaw10_few.ok l0 v0 r14 hA15) rfl rfl (ltn rfl) (All_of (.cons (List.mem_of_getElem? (i := 0) rfl) .nil))) rfl ?_
  rintro v17 _ _ ⟨_, rfl, rfl, rfl⟩
  refine VL.va (op_assign rfl (ltn rfl)) rfl ?_
  refine VL.done ?_
  refine VN.then ?_
  refine VC.seq ?_
  refine VC.region ?_
  refine VL.va (op_move rfl (ltn rfl)) rfl ?_
  refine VL.va (op_load 1 3 rfl rfl TI24 rfl (fun h => absurd h (by decide)) (ltn rfl)) rfl ?_
  replace h := Option.bind_eq_some_iff.1 h
  obtain ⟨⟨r1061, t1062⟩, hA1063, h⟩ := h
  dsimp only at h
  refine VL.sC (o_call0 FO7 (timer_Set.ok k r14 a1_0 a1_1 a1_2 v17 r1061 t1062 hA1063) rfl rfl (ltn rfl) (All_of (.cons (List.mem_of_getElem? (i := 0) rfl) .nil))) rfl ?_
  rintro _ _ _ ⟨v1065, rfl, rfl, rfl⟩
  refine VL.va (op_move rfl (ltn rfl)) rfl ?_
  refine VL.va (op_extract rfl rfl (ltn rfl)) rfl ?_
  refine VL.va (op_extract rfl rfl (ltn rfl)) rfl ?_
  refine VL.va (op_assign rfl (ltn rfl)) rfl ?_
  refine VL.va (op_assign rfl (ltn rfl)) rfl ?_
  refine VL.done ?_
  refine VN.then ?_
  refine VC.seq ?_
  refine VC.seq ?_
  refine VC.region ?_
  refine VL.va (op_move rfl (ltn rfl)) rfl ?_
  refine VL.letter ((t1062 != 0)) fun b1394 hb1394 => ?_
  refine VL.va (op_cmp rfl rfl (congrArg some hb1394) (ltn rfl)) rfl ?_
  refine VL.done ?_
  refine VN.then ?_
  by_cases c1395 : t1062 = 0
  · rw [if_pos c1395] at h
    obtain rfl : b1394 = false := hb1394.symm.trans (bne_eq_false_iff_eq.2 c1395)
    refine VC.cond_f rfl ?_
    refine VC.skip ?_
    refine VN.then ?_
    refine VC.seq ?_
    refine VC.region ?_
    refine VL.va (op_move rfl (ltn rfl)) rfl ?_
    refine VL.va (op_fieldAddr FI24_1 rfl (add_at _ _ _) (ltn rfl)) rfl ?_
    refine VL.va (op_load 1 1 rfl rfl TI3 rfl (by decide) (ltn rfl)) rfl ?_
    refine VL.va (op_fieldAddr FI24_2 rfl (add_at _ _ _) (ltn rfl)) rfl ?_
    refine VL.va (op_load 1 1 rfl rfl TI3 rfl (by decide) (ltn rfl)) rfl ?_
    replace h := Option.bind_eq_some_iff.1 h
    obtain ⟨⟨r1423, t1424⟩, hA1425, h⟩ := h
    dsimp only at h
    refine VL.sC (o_call_b0 FO9 (timer_Clear.ok k r1061 a1_1 a1_2 v1065 r1423 t1424 hA1425) rfl rfl (ltn rfl) (All_of (.cons (.inr (.inl ⟨_, List.mem_of_getElem? (i := 0) rfl, rfl⟩)) .nil)) (by rintro _ _ _ ⟨v1427, rfl, rfl, rfl⟩; rfl)) rfl ?_
    rintro _ _ _ ⟨v1427, rfl, rfl, rfl⟩
    refine VL.va (op_move rfl (ltn rfl)) rfl ?_
    refine VL.va (op_extract rfl rfl (ltn rfl)) rfl ?_
    refine VL.va (op_extract rfl rfl (ltn rfl)) rfl ?_
    refine VL.va (op_assign rfl (ltn rfl)) rfl ?_
    refine VL.va (op_assign rfl (ltn rfl)) rfl ?_
    refine VL.done ?_
    refine VN.then ?_
    refine VC.seq ?_
    refine VC.region ?_
    refine VL.va (op_move rfl (ltn rfl)) rfl ?_
    refine VL.va (op_fieldAddr FI24_1 rfl (add_at _ _ _) (ltn rfl)) rfl ?_
    refine VL.va (op_load 1 1 rfl rfl TI3 rfl (by decide) (ltn rfl)) rfl ?_
    refine VL.va (op_fieldAddr FI24_2 rfl (add_at _ _ _) (ltn rfl)) rfl ?_
    refine VL.va (op_load 1 1 rfl rfl TI3 rfl (by decide) (ltn rfl)) rfl ?_
    replace h := Option.bind_eq_some_iff.1 h
    obtain ⟨⟨r1428, t1429⟩, hA1430, h⟩ := h
    dsimp only at h
    refine VL.sC (o_call0 FO9 (timer_Clear.ok k r14 a1_1 a1_2 v17 r1428 t1429 hA1430) rfl rfl (ltn rfl) (All_of (.cons (List.mem_of_getElem? (i := 0) rfl) .nil))) rfl ?_
    rintro _ _ _ ⟨v1432, rfl, rfl, rfl⟩
    refine VL.va (op_move rfl (ltn rfl)) rfl ?_
    refine VL.va (op_extract rfl rfl (ltn rfl)) rfl ?_
    refine VL.va (op_extract rfl rfl (ltn rfl)) rfl ?_
    refine VL.va (op_assign rfl (ltn rfl)) rfl ?_
    refine VL.va (op_assign rfl (ltn rfl)) rfl ?_
    refine VL.done ?_
    refine VN.then ?_
    refine VC.seq ?_
    refine VC.seq ?_
    refine VC.region ?_
    refine VL.va (op_move rfl (ltn rfl)) rfl ?_
    refine VL.letter ((t1424 != 0)) fun b1567 hb1567 => ?_
    refine VL.va (op_cmp rfl rfl (congrArg some hb1567) (ltn rfl)) rfl ?_
    refine VL.va (op_move rfl (ltn rfl)) rfl ?_
    by_cases c1568 : t1424 = 0
    · rw [if_pos c1568] at h
      obtain rfl : b1567 = false := hb1567.symm.trans (bne_eq_false_iff_eq.2 c1568)
      refine VL.va (op_move rfl (ltn rfl)) rfl ?_
      refine VL.letter ((t1429 != 0)) fun b1569 hb1569 => ?_
      refine VL.va (op_cmp rfl rfl (congrArg some hb1569) (ltn rfl)) rfl ?_
      refine VL.va (op_pick rfl rfl (ltn rfl)) rfl ?_
      refine VL.va (op_move rfl (ltn rfl)) rfl ?_
      by_cases c1570 : t1429 = 0
      · rw [if_pos c1570] at h
        obtain rfl : b1569 = false := hb1569.symm.trans (bne_eq_false_iff_eq.2 c1570)
        refine VL.va (op_move rfl (ltn rfl)) rfl ?_
        refine VL.va (op_move rfl (ltn rfl)) rfl ?_
        replace h := Option.bind_eq_some_iff.1 h
        obtain ⟨t1571, hA1572, h⟩ := h
        refine VL.sC (o_call_b0 FO10 (tarryref10_Same.ok k r1423 r1428 v1427 v1432 t1571 hA1572) rfl rfl (ltn rfl) (All_of (.cons (.inr (.inl ⟨_, List.mem_of_getElem? (i := 1) rfl, rfl⟩)) (.cons (.inr (.inl ⟨_, List.mem_of_getElem? (i := 0) rfl, rfl⟩)) .nil))) (by rintro _ _ _ ⟨rfl, rfl, rfl⟩; rfl)) rfl ?_
        rintro _ _ _ ⟨rfl, rfl, rfl⟩
        by_cases c1573 : t1571 = true
        · rw [if_pos c1573] at h
          obtain rfl := c1573
          refine VL.va (op_not rfl rfl (ltn rfl)) rfl ?_
          refine VL.va (op_pick rfl rfl (ltn rfl)) rfl ?_
          refine VL.va (op_move rfl (ltn rfl)) rfl ?_
          refine VL.va (op_move rfl (ltn rfl)) rfl ?_
          replace h := Option.bind_eq_some_iff.1 h
          obtain ⟨t1574, hA1575, h⟩ := h
          refine VL.sC (o_call_b0 FO11 (timer_Right.ok k r1061 v1065 t1574 hA1575) rfl rfl (ltn rfl) (All_of (.cons (.inr (.inl ⟨_, List.mem_of_getElem? (i := 2) rfl, rfl⟩)) .nil)) (by rintro _ _ _ ⟨rfl, rfl, rfl⟩; rfl)) rfl ?_
          rintro _ _ _ ⟨rfl, rfl, rfl⟩
          by_cases c1576 : t1574 = true
          · rw [if_pos c1576] at h
            obtain rfl := c1576
            refine VL.va (op_not rfl rfl (ltn rfl)) rfl ?_
            refine VL.va (op_pick rfl rfl (ltn rfl)) rfl ?_
            refine VL.va (op_move rfl (ltn rfl)) rfl ?_
            refine VL.va (op_move rfl (ltn rfl)) rfl ?_
            replace h := Option.bind_eq_some_iff.1 h
            obtain ⟨t1577, hA1578, h⟩ := h
            refine VL.sC (o_call_b0 FO11 (timer_Right.ok k r1423 v1427 t1577 hA1578) rfl rfl (ltn rfl) (All_of (.cons (.inr (.inl ⟨_, List.mem_of_getElem? (i := 1) rfl, rfl⟩)) .nil)) (by rintro _ _ _ ⟨rfl, rfl, rfl⟩; rfl)) rfl ?_
            rintro _ _ _ ⟨rfl, rfl, rfl⟩
            by_cases c1579 : t1577 = true
            · rw [if_pos c1579] at h
              obtain rfl := c1579
              refine VL.va (op_not rfl rfl (ltn rfl)) rfl ?_
              refine VL.va (op_pick rfl rfl (ltn rfl)) rfl ?_
              refine VL.va (op_move rfl (ltn rfl)) rfl ?_
              replace h := Option.bind_eq_some_iff.1 h
              obtain ⟨t1580, hA1581, h⟩ := h
              refine VL.sC (o_call0 FO8 (tarrylaw10_alive.ok k t1580 hA1581) rfl rfl (ltn rfl) (All_of .nil)) rfl ?_
              rintro _ _ _ ⟨rfl, rfl, rfl⟩
              by_cases c1582 : t1580 = true
              · rw [if_pos c1582] at h
                obtain rfl := c1582
                refine VL.va (op_not rfl rfl (ltn rfl)) rfl ?_
                refine VL.va (op_pick rfl rfl (ltn rfl)) rfl ?_
                refine VL.done ?_
                refine VN.then ?_
                refine VC.cond_f rfl ?_
                refine VC.skip ?_
                refine VN.then ?_
                refine VC.seq ?_
                refine VC.region ?_
                refine VL.va (op_move rfl (ltn rfl)) rfl ?_
                refine VL.va (op_load 0 3 rfl rfl TI24 rfl (fun h => absurd h (by decide)) (ltn rfl)) rfl ?_
                replace h := Option.bind_eq_some_iff.1 h
                obtain ⟨⟨r1583, t1584⟩, hA1585, h⟩ := h
                dsimp only at h
                refine VL.sC (o_call_b0 FO7 (timer_Set.ok k r1061 a2_0 a2_1 a2_2 v1065 r1583 t1584 hA1585) rfl rfl (ltn rfl) (All_of (.cons (.inr (.inl ⟨_, List.mem_of_getElem? (i := 2) rfl, rfl⟩)) .nil)) (by rintro _ _ _ ⟨v1587, rfl, rfl, rfl⟩; rfl)) rfl ?_
                rintro _ _ _ ⟨v1587, rfl, rfl, rfl⟩
                refine VL.va (op_move rfl (ltn rfl)) rfl ?_
                refine VL.va (op_extract rfl rfl (ltn rfl)) rfl ?_
                refine VL.va (op_extract rfl rfl (ltn rfl)) rfl ?_
                refine VL.va (op_assign rfl (ltn rfl)) rfl ?_
                refine VL.va (op_assign rfl (ltn rfl)) rfl ?_
                refine VL.done ?_
                refine VN.then ?_
                refine VC.seq ?_
                refine VC.seq ?_
                refine VC.region ?_
                refine VL.va (op_move rfl (ltn rfl)) rfl ?_
                refine VL.letter ((t1584 != 0)) fun b1591 hb1591 => ?_
                refine VL.va (op_cmp rfl rfl (congrArg some hb1591) (ltn rfl)) rfl ?_
                refine VL.done ?_
                refine VN.then ?_
                by_cases c1592 : t1584 = 0
                · rw [if_pos c1592] at h
                  obtain rfl : b1591 = false := hb1591.symm.trans (bne_eq_false_iff_eq.2 c1592)
                  refine VC.cond_f rfl ?_
                  refine VC.skip ?_
                  refine VN.then ?_
                  refine VC.seq ?_
                  refine VC.seq ?_
                  refine VC.region ?_
                  refine VL.va (op_fieldAddr FI24_1 rfl (add_at _ _ _) (ltn rfl)) rfl ?_
                  refine VL.va (op_load 1 1 rfl rfl TI3 rfl (by decide) (ltn rfl)) rfl ?_
                  refine VL.va (op_fieldAddr FI24_1 rfl (add_at _ _ _) (ltn rfl)) rfl ?_
                  refine VL.va (op_load 0 1 rfl rfl TI3 rfl (by decide) (ltn rfl)) rfl ?_
                  refine VL.letter ((a1_1 == a2_1)) fun b1616 hb1616 => ?_
                  refine VL.va (op_cmp rfl rfl (congrArg some hb1616) (ltn rfl)) rfl ?_
                  refine VL.va (op_move rfl (ltn rfl)) rfl ?_
                  by_cases c1617 : a1_1 = a2_1
                  · rw [if_pos c1617] at h
                    obtain rfl : b1616 = true := hb1616.symm.trans (beq_iff_eq.2 c1617)
                    refine VL.va (op_fieldAddr FI24_2 rfl (add_at _ _ _) (ltn rfl)) rfl ?_
                    refine VL.va (op_load 1 1 rfl rfl TI3 rfl (by decide) (ltn rfl)) rfl ?_
                    refine VL.va (op_fieldAddr FI24_2 rfl (add_at _ _ _) (ltn rfl)) rfl ?_
                    refine VL.va (op_load 0 1 rfl rfl TI3 rfl (by decide) (ltn rfl)) rfl ?_
                    refine VL.letter ((a1_2 == a2_2)) fun b1618 hb1618 => ?_
                    refine VL.va (op_cmp rfl rfl (congrArg some hb1618) (ltn rfl)) rfl ?_
                    refine VL.va (op_pick rfl rfl (ltn rfl)) rfl ?_
                    refine VL.done ?_
                    refine VN.then ?_
                    by_cases c1619 : a1_2 = a2_2
                    · rw [if_pos c1619] at h
                      obtain rfl : b1618 = true := hb1618.symm.trans (beq_iff_eq.2 c1619)
                      refine VC.cond_t rfl ?_
                      refine VC.seq ?_
                      refine VC.region ?_
                      refine VL.va (op_move rfl (ltn rfl)) rfl ?_
                      refine VL.va (op_load 0 3 rfl rfl TI24 rfl (fun h => absurd h (by decide)) (ltn rfl)) rfl ?_
                      replace h := Option.bind_eq_some_iff.1 h
                      obtain ⟨⟨r1620, t1621⟩, hA1622, h⟩ := h
                      dsimp only at h
                      refine VL.sC (o_call0 FO7 (timer_Set.ok k r14 a2_0 a2_1 a2_2 v17 r1620 t1621 hA1622) rfl rfl (ltn rfl) (All_of (.cons (List.mem_of_getElem? (i := 0) rfl) .nil))) rfl ?_
                      rintro _ _ _ ⟨v1624, rfl, rfl, rfl⟩
                      refine VL.va (op_move rfl (ltn rfl)) rfl ?_
                      refine VL.va (op_extract rfl rfl (ltn rfl)) rfl ?_
                      refine VL.va (op_extract rfl rfl (ltn rfl)) rfl ?_
                      refine VL.va (op_assign rfl (ltn rfl)) rfl ?_
                      refine VL.va (op_assign rfl (ltn rfl)) rfl ?_
                      refine VL.done ?_
                      refine VN.then ?_
                      refine VC.seq ?_
                      refine VC.region ?_
                      refine VL.va (op_move rfl (ltn rfl)) rfl ?_
                      refine VL.letter ((t1621 == 0)) fun b1629 hb1629 => ?_
                      refine VL.va (op_cmp rfl rfl (congrArg some hb1629) (ltn rfl)) rfl ?_
                      refine VL.va (op_move rfl (ltn rfl)) rfl ?_
                      by_cases c1630 : t1621 = 0
                      · rw [if_pos c1630] at h
                        obtain rfl : b1629 = true := hb1629.symm.trans (beq_iff_eq.2 c1630)
                        refine VL.va (op_move rfl (ltn rfl)) rfl ?_
                        refine VL.va (op_move rfl (ltn rfl)) rfl ?_
                        replace h := Option.bind_eq_some_iff.1 h
                        obtain ⟨t1631, hA1632, h⟩ := h
                        refine VL.sC (o_call_b0 FO10 (tarryref10_Same.ok k r1583 r1620 v1587 v1624 t1631 hA1632) rfl rfl (ltn rfl) (All_of (.cons (.inr (.inl ⟨_, List.mem_of_getElem? (i := 1) rfl, rfl⟩)) (.cons (.inr (.inl ⟨_, List.mem_of_getElem? (i := 0) rfl, rfl⟩)) .nil))) (by rintro _ _ _ ⟨rfl, rfl, rfl⟩; rfl)) rfl ?_
                        rintro _ _ _ ⟨rfl, rfl, rfl⟩
                        refine VL.va (op_pick rfl rfl (ltn rfl)) rfl ?_
                        refine VL.va (op_assign rfl (ltn rfl)) rfl ?_
                        refine VL.done ?_
                        refine VN.then ?_
                        refine VC.ret ?_
                        refine VR.then ?_
                        obtain rfl := Option.some.inj h
                        exact VR.fn (rs := [.tmp 6]) [] [] [] rfl (.tmp rfl .nil) ⟨rfl, rfl, rfl⟩ trivial rfl (by decide)
                      · rw [if_neg c1630] at h
                        obtain rfl : b1629 = false := hb1629.symm.trans (beq_eq_false_iff_ne.2 c1630)
                        refine VL.un rfl rfl (ltn rfl) ?_
                        refine VL.un rfl rfl (ltn rfl) ?_
                        refine VL.un rfl rfl (ltn rfl) ?_
                        refine VL.va (op_pick rfl rfl (ltn rfl)) rfl ?_
                        refine VL.va (op_assign rfl (ltn rfl)) rfl ?_
                        refine VL.done ?_
                        refine VN.then ?_
                        refine VC.ret ?_
                        refine VR.then ?_
                        cases h
                    · rw [if_neg c1619] at h
                      obtain rfl : b1618 = false := hb1618.symm.trans (beq_eq_false_iff_ne.2 c1619)
                      refine VC.cond_f rfl ?_
                      refine VC.skip ?_
                      refine VN.then ?_
                      refine VC.seq ?_
                      refine VC.region ?_
                      refine VL.va (op_move rfl (ltn rfl)) rfl ?_
                      refine VL.va (op_load 0 3 rfl rfl TI24 rfl (fun h => absurd h (by decide)) (ltn rfl)) rfl ?_
                      replace h := Option.bind_eq_some_iff.1 h
                      obtain ⟨⟨r1633, t1634⟩, hA1635, h⟩ := h
                      dsimp only at h
                      refine VL.sC (o_call0 FO7 (timer_Set.ok k r14 a2_0 a2_1 a2_2 v17 r1633 t1634 hA1635) rfl rfl (ltn rfl) (All_of (.cons (List.mem_of_getElem? (i := 0) rfl) .nil))) rfl ?_
                      rintro _ _ _ ⟨v1637, rfl, rfl, rfl⟩
                      refine VL.va (op_move rfl (ltn rfl)) rfl ?_
                      refine VL.va (op_extract rfl rfl (ltn rfl)) rfl ?_
                      refine VL.va (op_extract rfl rfl (ltn rfl)) rfl ?_
                      refine VL.va (op_assign rfl (ltn rfl)) rfl ?_
                      refine VL.va (op_assign rfl (ltn rfl)) rfl ?_
                      refine VL.done ?_
                      refine VN.then ?_
                      refine VC.seq ?_
                      refine VC.region ?_
                      refine VL.va (op_move rfl (ltn rfl)) rfl ?_
                      refine VL.va (op_load 1 3 rfl rfl TI24 rfl (fun h => absurd h (by decide)) (ltn rfl)) rfl ?_
                      replace h := Option.bind_eq_some_iff.1 h
                      obtain ⟨⟨r1638, t1639⟩, hA1640, h⟩ := h
                      dsimp only at h
                      refine VL.sC (o_call_b0 FO7 (timer_Set.ok k r1633 a1_0 a1_1 a1_2 v1637 r1638 t1639 hA1640) rfl rfl (ltn rfl) (All_of (.cons (.inr (.inl ⟨_, List.mem_of_getElem? (i := 0) rfl, rfl⟩)) .nil)) (by rintro _ _ _ ⟨v1642, rfl, rfl, rfl⟩; rfl)) rfl ?_
                      rintro _ _ _ ⟨v1642, rfl, rfl, rfl⟩
                      refine VL.va (op_move rfl (ltn rfl)) rfl ?_
                      refine VL.va (op_extract rfl rfl (ltn rfl)) rfl ?_
                      refine VL.va (op_extract rfl rfl (ltn rfl)) rfl ?_
                      refine VL.va (op_assign rfl (ltn rfl)) rfl ?_
                      refine VL.va (op_assign rfl (ltn rfl)) rfl ?_
                      refine VL.done ?_
                      refine VN.then ?_
                      refine VC.seq ?_
                      refine VC.region ?_
                      refine VL.va (op_move rfl (ltn rfl)) rfl ?_
                      refine VL.letter ((t1634 == 0)) fun b1649 hb1649 => ?_
                      refine VL.va (op_cmp rfl rfl (congrArg some hb1649) (ltn rfl)) rfl ?_
                      refine VL.va (op_move rfl (ltn rfl)) rfl ?_
                      by_cases c1650 : t1634 = 0
                      · rw [if_pos c1650] at h
                        obtain rfl : b1649 = true := hb1649.symm.trans (beq_iff_eq.2 c1650)
                        refine VL.va (op_move rfl (ltn rfl)) rfl ?_
                        refine VL.letter ((t1639 == 0)) fun b1651 hb1651 => ?_
                        refine VL.va (op_cmp rfl rfl (congrArg some hb1651) (ltn rfl)) rfl ?_
                        refine VL.va (op_pick rfl rfl (ltn rfl)) rfl ?_
                        refine VL.va (op_move rfl (ltn rfl)) rfl ?_
                        by_cases c1652 : t1639 = 0
                        · rw [if_pos c1652] at h
                          obtain rfl : b1651 = true := hb1651.symm.trans (beq_iff_eq.2 c1652)
                          refine VL.va (op_move rfl (ltn rfl)) rfl ?_
                          refine VL.va (op_move rfl (ltn rfl)) rfl ?_
                          replace h := Option.bind_eq_some_iff.1 h
                          obtain ⟨t1653, hA1654, h⟩ := h
                          refine VL.sC (o_call_b0 FO10 (tarryref10_Same.ok k r1583 r1638 v1587 v1642 t1653 hA1654) rfl rfl (ltn rfl) (All_of (.cons (.inr (.inl ⟨_, List.mem_of_getElem? (i := 2) rfl, rfl⟩)) (.cons (.inr (.inl ⟨_, List.mem_of_getElem? (i := 0) rfl, rfl⟩)) .nil))) (by rintro _ _ _ ⟨rfl, rfl, rfl⟩; rfl)) rfl ?_
                          rintro _ _ _ ⟨rfl, rfl, rfl⟩
                          refine VL.va (op_pick rfl rfl (ltn rfl)) rfl ?_
                          refine VL.va (op_assign rfl (ltn rfl)) rfl ?_
                          refine VL.done ?_
                          refine VN.then ?_
                          refine VC.ret ?_
                          obtain rfl := Option.some.inj h
                          exact VR.fn (rs := [.tmp 6]) [] [] [] rfl (.tmp rfl .nil) ⟨rfl, rfl, rfl⟩ trivial rfl (by decide)
                        · rw [if_neg c1652] at h
                          obtain rfl : b1651 = false := hb1651.symm.trans (beq_eq_false_iff_ne.2 c1652)
                          refine VL.un rfl rfl (ltn rfl) ?_
                          refine VL.un rfl rfl (ltn rfl) ?_
                          refine VL.un rfl rfl (ltn rfl) ?_
                          refine VL.va (op_pick rfl rfl (ltn rfl)) rfl ?_
                          refine VL.va (op_assign rfl (ltn rfl)) rfl ?_
                          refine VL.done ?_
                          refine VN.then ?_
                          refine VC.ret ?_
                          cases h
                      · rw [if_neg c1650] at h
                        obtain rfl : b1649 = false := hb1649.symm.trans (beq_eq_false_iff_ne.2 c1650)
                        refine VL.un rfl rfl (ltn rfl) ?_
                        refine VL.un rfl rfl (ltn rfl) ?_
                        refine VL.va (op_pick rfl rfl (ltn rfl)) rfl ?_
                        refine VL.va (op_move rfl (ltn rfl)) rfl ?_
                        refine VL.un rfl rfl (ltn rfl) ?_
                        refine VL.un rfl rfl (ltn rfl) ?_
                        refine VL.un rfl rfl (ltn rfl) ?_
                        refine VL.va (op_pick rfl rfl (ltn rfl)) rfl ?_
                        refine VL.va (op_assign rfl (ltn rfl)) rfl ?_
                        refine VL.done ?_
                        refine VN.then ?_
                        refine VC.ret ?_
                        cases h
                  · rw [if_neg c1617] at h
                    obtain rfl : b1616 = false := hb1616.symm.trans (beq_eq_false_iff_ne.2 c1617)
                    refine VL.un rfl rfl (ltn rfl) ?_
                    refine VL.un rfl rfl (ltn rfl) ?_
                    refine VL.un rfl rfl (ltn rfl) ?_
                    refine VL.un rfl rfl (ltn rfl) ?_
                    refine VL.un rfl rfl (ltn rfl) ?_
                    refine VL.va (op_pick rfl rfl (ltn rfl)) rfl ?_
                    refine VL.done ?_
                    refine VN.then ?_
                    refine VC.cond_f rfl ?_
                    refine VC.skip ?_
                    refine VN.then ?_
                    refine VC.seq ?_
                    refine VC.region ?_
                    refine VL.va (op_move rfl (ltn rfl)) rfl ?_
                    refine VL.va (op_load 0 3 rfl rfl TI24 rfl (fun h => absurd h (by decide)) (ltn rfl)) rfl ?_
                    replace h := Option.bind_eq_some_iff.1 h
                    obtain ⟨⟨r1655, t1656⟩, hA1657, h⟩ := h
                    dsimp only at h
                    refine VL.sC (o_call0 FO7 (timer_Set.ok k r14 a2_0 a2_1 a2_2 v17 r1655 t1656 hA1657) rfl rfl (ltn rfl) (All_of (.cons (List.mem_of_getElem? (i := 0) rfl) .nil))) rfl ?_
                    rintro _ _ _ ⟨v1659, rfl, rfl, rfl⟩
                    refine VL.va (op_move rfl (ltn rfl)) rfl ?_
                    refine VL.va (op_extract rfl rfl (ltn rfl)) rfl ?_
                    refine VL.va (op_extract rfl rfl (ltn rfl)) rfl ?_
                    refine VL.va (op_assign rfl (ltn rfl)) rfl ?_
                    refine VL.va (op_assign rfl (ltn rfl)) rfl ?_
                    refine VL.done ?_
                    refine VN.then ?_
                    refine VC.seq ?_
                    refine VC.region ?_
                    refine VL.va (op_move rfl (ltn rfl)) rfl ?_
                    refine VL.va (op_load 1 3 rfl rfl TI24 rfl (fun h => absurd h (by decide)) (ltn rfl)) rfl ?_
                    replace h := Option.bind_eq_some_iff.1 h
                    obtain ⟨⟨r1660, t1661⟩, hA1662, h⟩ := h
                    dsimp only at h
                    refine VL.sC (o_call_b0 FO7 (timer_Set.ok k r1655 a1_0 a1_1 a1_2 v1659 r1660 t1661 hA1662) rfl rfl (ltn rfl) (All_of (.cons (.inr (.inl ⟨_, List.mem_of_getElem? (i := 0) rfl, rfl⟩)) .nil)) (by rintro _ _ _ ⟨v1664, rfl, rfl, rfl⟩; rfl)) rfl ?_
                    rintro _ _ _ ⟨v1664, rfl, rfl, rfl⟩
                    refine VL.va (op_move rfl (ltn rfl)) rfl ?_
                    refine VL.va (op_extract rfl rfl (ltn rfl)) rfl ?_
                    refine VL.va (op_extract rfl rfl (ltn rfl)) rfl ?_
                    refine VL.va (op_assign rfl (ltn rfl)) rfl ?_
                    refine VL.va (op_assign rfl (ltn rfl)) rfl ?_
                    refine VL.done ?_
                    refine VN.then ?_
                    refine VC.seq ?_
                    refine VC.region ?_
                    refine VL.va (op_move rfl (ltn rfl)) rfl ?_
                    refine VL.letter ((t1656 == 0)) fun b1671 hb1671 => ?_
                    refine VL.va (op_cmp rfl rfl (congrArg some hb1671) (ltn rfl)) rfl ?_
                    refine VL.va (op_move rfl (ltn rfl)) rfl ?_
                    by_cases c1672 : t1656 = 0
                    · rw [if_pos c1672] at h
                      obtain rfl : b1671 = true := hb1671.symm.trans (beq_iff_eq.2 c1672)
                      refine VL.va (op_move rfl (ltn rfl)) rfl ?_
                      refine VL.letter ((t1661 == 0)) fun b1673 hb1673 => ?_
                      refine VL.va (op_cmp rfl rfl (congrArg some hb1673) (ltn rfl)) rfl ?_
                      refine VL.va (op_pick rfl rfl (ltn rfl)) rfl ?_
                      refine VL.va (op_move rfl (ltn rfl)) rfl ?_
                      by_cases c1674 : t1661 = 0
                      · rw [if_pos c1674] at h
                        obtain rfl : b1673 = true := hb1673.symm.trans (beq_iff_eq.2 c1674)
                        refine VL.va (op_move rfl (ltn rfl)) rfl ?_
                        refine VL.va (op_move rfl (ltn rfl)) rfl ?_
                        replace h := Option.bind_eq_some_iff.1 h
                        obtain ⟨t1675, hA1676, h⟩ := h
                        refine VL.sC (o_call_b0 FO10 (tarryref10_Same.ok k r1583 r1660 v1587 v1664 t1675 hA1676) rfl rfl (ltn rfl) (All_of (.cons (.inr (.inl ⟨_, List.mem_of_getElem? (i := 2) rfl, rfl⟩)) (.cons (.inr (.inl ⟨_, List.mem_of_getElem? (i := 0) rfl, rfl⟩)) .nil))) (by rintro _ _ _ ⟨rfl, rfl, rfl⟩; rfl)) rfl ?_
                        rintro _ _ _ ⟨rfl, rfl, rfl⟩
                        refine VL.va (op_pick rfl rfl (ltn rfl)) rfl ?_
                        refine VL.va (op_assign rfl (ltn rfl)) rfl ?_
                        refine VL.done ?_
                        refine VN.then ?_
                        refine VC.ret ?_
                        obtain rfl := Option.some.inj h
                        exact VR.fn (rs := [.tmp 6]) [] [] [] rfl (.tmp rfl .nil) ⟨rfl, rfl, rfl⟩ trivial rfl (by decide)
                      · rw [if_neg c1674] at h
                        obtain rfl : b1673 = false := hb1673.symm.trans (beq_eq_false_iff_ne.2 c1674)
                        refine VL.un rfl rfl (ltn rfl) ?_
                        refine VL.un rfl rfl (ltn rfl) ?_
                        refine VL.un rfl rfl (ltn rfl) ?_
                        refine VL.va (op_pick rfl rfl (ltn rfl)) rfl ?_
                        refine VL.va (op_assign rfl (ltn rfl)) rfl ?_
                        refine VL.done ?_
                        refine VN.then ?_
                        refine VC.ret ?_
                        cases h
                    · rw [if_neg c1672] at h
                      obtain rfl : b1671 = false := hb1671.symm.trans (beq_eq_false_iff_ne.2 c1672)
                      refine VL.un rfl rfl (ltn rfl) ?_
                      refine VL.un rfl rfl (ltn rfl) ?_
                      refine VL.va (op_pick rfl rfl (ltn rfl)) rfl ?_
                      refine VL.va (op_move rfl (ltn rfl)) rfl ?_
                      refine VL.un rfl rfl (ltn rfl) ?_
                      refine VL.un rfl rfl (ltn rfl) ?_
                      refine VL.un rfl rfl (ltn rfl) ?_
                      refine VL.va (op_pick rfl rfl (ltn rfl)) rfl ?_
                      refine VL.va (op_assign rfl (ltn rfl)) rfl ?_
                      refine VL.done ?_
                      refine VN.then ?_
                      refine VC.ret ?_
                      cases h
                · rw [if_neg c1592] at h
                  obtain rfl : b1591 = true := hb1591.symm.trans (bne_iff_ne.2 c1592)
                  refine VC.cond_t rfl ?_
                  refine VC.seq ?_
                  refine VC.region ?_
                  refine VL.va (op_move rfl (ltn rfl)) rfl ?_
                  refine VL.va (op_len_own (m := r1583.length) 0 lenm Try.underlying22 rfl rfl (ltn rfl)) rfl ?_
                  refine VL.letter (((r1583.length : Int) == 0)) fun b1677 hb1677 => ?_
                  refine VL.va (op_cmp rfl rfl (congrArg some hb1677) (ltn rfl)) rfl ?_
                  refine VL.va (op_assign rfl (ltn rfl)) rfl ?_
                  refine VL.done ?_
                  refine VN.then ?_
                  refine VC.ret ?_
                  refine VR.then ?_
                  obtain rfl := Option.some.inj h
                  subst hb1677
                  exact VR.fn (rs := [.tmp 6]) [] [] [] rfl (.tmp rfl .nil) ⟨rfl, rfl, rfl⟩ trivial rfl (by decide)
              · rw [if_neg c1582] at h
                obtain rfl := Bool.eq_false_iff.2 c1582
                refine VL.va (op_not rfl rfl (ltn rfl)) rfl ?_
                refine VL.va (op_pick rfl rfl (ltn rfl)) rfl ?_
                refine VL.done ?_
                refine VN.then ?_
                refine VC.cond_t rfl ?_
                refine VC.seq ?_
                refine VC.region ?_
                refine VL.va (op_assign rfl (ltn rfl)) rfl ?_
                refine VL.done ?_
                refine VN.then ?_
                refine VC.ret ?_
                refine VR.then ?_
                cases h
            · rw [if_neg c1579] at h
              obtain rfl := Bool.eq_false_iff.2 c1579
              refine VL.va (op_not rfl rfl (ltn rfl)) rfl ?_
              refine VL.va (op_pick rfl rfl (ltn rfl)) rfl ?_
              refine VL.va (op_move rfl (ltn rfl)) rfl ?_
              refine VL.un rfl rfl (ltn rfl) ?_
              refine VL.un rfl rfl (ltn rfl) ?_
              refine VL.va (op_pick rfl rfl (ltn rfl)) rfl ?_
              refine VL.done ?_
              refine VN.then ?_
              refine VC.cond_t rfl ?_
              refine VC.seq ?_
              refine VC.region ?_
              refine VL.va (op_assign rfl (ltn rfl)) rfl ?_
              refine VL.done ?_
              refine VN.then ?_
              refine VC.ret ?_
              refine VR.then ?_
              cases h
          · rw [if_neg c1576] at h
            obtain rfl := Bool.eq_false_iff.2 c1576
            refine VL.va (op_not rfl rfl (ltn rfl)) rfl ?_
            refine VL.va (op_pick rfl rfl (ltn rfl)) rfl ?_
            refine VL.va (op_move rfl (ltn rfl)) rfl ?_
            refine VL.un rfl rfl (ltn rfl) ?_
            refine VL.un rfl rfl (ltn rfl) ?_
            refine VL.un rfl rfl (ltn rfl) ?_
            refine VL.va (op_pick rfl rfl (ltn rfl)) rfl ?_
            refine VL.va (op_move rfl (ltn rfl)) rfl ?_
            refine VL.un rfl rfl (ltn rfl) ?_
            refine VL.un rfl rfl (ltn rfl) ?_
            refine VL.va (op_pick rfl rfl (ltn rfl)) rfl ?_
            refine VL.done ?_
            refine VN.then ?_
            refine VC.cond_t rfl ?_
            refine VC.seq ?_
            refine VC.region ?_
            refine VL.va (op_assign rfl (ltn rfl)) rfl ?_
            refine VL.done ?_
            refine VN.then ?_
            refine VC.ret ?_
            refine VR.then ?_
            cases h
        · rw [if_neg c1573] at h
          obtain rfl := Bool.eq_false_iff.2 c1573
          refine VL.va (op_not rfl rfl (ltn rfl)) rfl ?_
          refine VL.va (op_pick rfl rfl (ltn rfl)) rfl ?_
          refine VL.va (op_move rfl (ltn rfl)) rfl ?_
          refine VL.un rfl rfl (ltn rfl) ?_
          refine VL.un rfl rfl (ltn rfl) ?_
          refine VL.un rfl rfl (ltn rfl) ?_
          refine VL.va (op_pick rfl rfl (ltn rfl)) rfl ?_
          refine VL.va (op_move rfl (ltn rfl)) rfl ?_
          refine VL.un rfl rfl (ltn rfl) ?_
          refine VL.un rfl rfl (ltn rfl) ?_
          refine VL.un rfl rfl (ltn rfl) ?_
          refine VL.va (op_pick rfl rfl (ltn rfl)) rfl ?_
          refine VL.va (op_move rfl (ltn rfl)) rfl ?_
          refine VL.un rfl rfl (ltn rfl) ?_
          refine VL.un rfl rfl (ltn rfl) ?_
          refine VL.va (op_pick rfl rfl (ltn rfl)) rfl ?_
          refine VL.done ?_
          refine VN.then ?_
          refine VC.cond_t rfl ?_
          refine VC.seq ?_
          refine VC.region ?_
          refine VL.va (op_assign rfl (ltn rfl)) rfl ?_
          refine VL.done ?_
          refine VN.then ?_
          refine VC.ret ?_
          refine VR.then ?_
          cases h
      · rw [if_neg c1570] at h
        obtain rfl : b1569 = true := hb1569.symm.trans (bne_iff_ne.2 c1570)
        refine VL.un rfl rfl (ltn rfl) ?_
        refine VL.un rfl rfl (ltn rfl) ?_
        refine VL.un rfl rfl (ltn rfl) ?_
        refine VL.un rfl rfl (ltn rfl) ?_
        refine VL.va (op_pick rfl rfl (ltn rfl)) rfl ?_
        refine VL.va (op_move rfl (ltn rfl)) rfl ?_
        refine VL.un rfl rfl (ltn rfl) ?_
        refine VL.un rfl rfl (ltn rfl) ?_
        refine VL.un rfl rfl (ltn rfl) ?_
        refine VL.va (op_pick rfl rfl (ltn rfl)) rfl ?_
        refine VL.va (op_move rfl (ltn rfl)) rfl ?_
        refine VL.un rfl rfl (ltn rfl) ?_
        refine VL.un rfl rfl (ltn rfl) ?_
        refine VL.un rfl rfl (ltn rfl) ?_
        refine VL.va (op_pick rfl rfl (ltn rfl)) rfl ?_
        refine VL.va (op_move rfl (ltn rfl)) rfl ?_
        refine VL.un rfl rfl (ltn rfl) ?_
        refine VL.un rfl rfl (ltn rfl) ?_
        refine VL.va (op_pick rfl rfl (ltn rfl)) rfl ?_
        refine VL.done ?_
        refine VN.then ?_
        refine VC.cond_t rfl ?_
        refine VC.seq ?_
        refine VC.region ?_
        refine VL.va (op_assign rfl (ltn rfl)) rfl ?_
        refine VL.done ?_
        refine VN.then ?_
        refine VC.ret ?_
        refine VR.then ?_
        cases h
    · rw [if_neg c1568] at h
      obtain rfl : b1567 = true := hb1567.symm.trans (bne_iff_ne.2 c1568)
      refine VL.un rfl rfl (ltn rfl) ?_
      refine VL.un rfl rfl (ltn rfl) ?_
      refine VL.va (op_pick rfl rfl (ltn rfl)) rfl ?_
      refine VL.va (op_move rfl (ltn rfl)) rfl ?_
      refine VL.un rfl rfl (ltn rfl) ?_
      refine VL.un rfl rfl (ltn rfl) ?_
      refine VL.un rfl rfl (ltn rfl) ?_
      refine VL.un rfl rfl (ltn rfl) ?_
      refine VL.va (op_pick rfl rfl (ltn rfl)) rfl ?_
      refine VL.va (op_move rfl (ltn rfl)) rfl ?_
      refine VL.un rfl rfl (ltn rfl) ?_
      refine VL.un rfl rfl (ltn rfl) ?_
      refine VL.un rfl rfl (ltn rfl) ?_
      refine VL.va (op_pick rfl rfl (ltn rfl)) rfl ?_
      refine VL.va (op_move rfl (ltn rfl)) rfl ?_
      refine VL.un rfl rfl (ltn rfl) ?_
      refine VL.un rfl rfl (ltn rfl) ?_
      refine VL.un rfl rfl (ltn rfl) ?_
      refine VL.va (op_pick rfl rfl (ltn rfl)) rfl ?_
      refine VL.va (op_move rfl (ltn rfl)) rfl ?_
      refine VL.un rfl rfl (ltn rfl) ?_
      refine VL.un rfl rfl (ltn rfl) ?_
      refine VL.va (op_pick rfl rfl (ltn rfl)) rfl ?_
      refine VL.done ?_
      refine VN.then ?_
      refine VC.cond_t rfl ?_
      refine VC.seq ?_
      refine VC.region ?_
      refine VL.va (op_assign rfl (ltn rfl)) rfl ?_
      refine VL.done ?_
      refine VN.then ?_
      refine VC.ret ?_
      refine VR.then ?_
      cases h
  · rw [if_neg c1395] at h
    obtain rfl : b1394 = true := hb1394.symm.trans (bne_iff_ne.2 c1395)
    refine VC.cond_t rfl ?_
    refine VC.seq ?_
    refine VC.region ?_
    replace h := Option.bind_eq_some_iff.1 h
    obtain ⟨t1682, hA1683, h⟩ := h
    refine VL.sC (o_call0 FO8 (tarrylaw10_alive.ok k t1682 hA1683) rfl rfl (ltn rfl) (All_of .nil)) rfl ?_
    rintro _ _ _ ⟨rfl, rfl, rfl⟩
    refine VL.va (op_move rfl (ltn rfl)) rfl ?_
    by_cases c1684 : t1682 = true
    · rw [if_pos c1684] at h
      obtain rfl := c1684
      refine VL.va (op_move rfl (ltn rfl)) rfl ?_
      refine VL.va (op_len_own (m := r1061.length) 0 lenm Try.underlying22 rfl rfl (ltn rfl)) rfl ?_
      refine VL.letter (((r1061.length : Int) == 0)) fun b1685 hb1685 => ?_
      refine VL.va (op_cmp rfl rfl (congrArg some hb1685) (ltn rfl)) rfl ?_
      refine VL.va (op_pick rfl rfl (ltn rfl)) rfl ?_
      refine VL.va (op_assign rfl (ltn rfl)) rfl ?_
      refine VL.done ?_
      refine VN.then ?_
      refine VC.ret ?_
      refine VR.then ?_
      obtain rfl := Option.some.inj h
      subst hb1685
      exact VR.fn (rs := [.tmp 6]) [] [] [] rfl (.tmp rfl .nil) ⟨rfl, rfl, rfl⟩ trivial rfl (by decide)
    · rw [if_neg c1684] at h
      obtain rfl := Bool.eq_false_iff.2 c1684
      refine VL.un rfl rfl (ltn rfl) ?_
      refine VL.un rfl rfl (ltn rfl) ?_
      refine VL.un rfl rfl (ltn rfl) ?_
      refine VL.va (op_pick rfl rfl (ltn rfl)) rfl ?_
      refine VL.va (op_assign rfl (ltn rfl)) rfl ?_
      refine VL.done ?_
      refine VN.then ?_
      refine VC.ret ?_
      refine VR.then ?_
      cases h

end Go.Proofs.Ytmcfgahjchkgaaa.PTimerOrders
