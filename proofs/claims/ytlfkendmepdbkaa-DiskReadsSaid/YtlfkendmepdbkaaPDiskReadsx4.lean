/- Written by a program of this repo: what the program's functions do, each as a Lean function, shown of the loaded code; or a statement's row over that; no condition of its own. -/
import Derived.Test.YtlfkendmepdbkaaPDiskReadsx3
namespace Go.Proofs.Ytlfkendmepdbkaa.PDiskReads
open Go Go.RowKit Go.Proofs.YtlfkendmepdbkaaV
set_option linter.unusedVariables false
set_option linter.unusedSimpArgs false

set_option maxHeartbeats 4000000 in
set_option maxRecDepth 100000 in
theorem tarryref03_Like.ok (k : Nat) (l0_0 : List ByteArray) (l0_1 : List S32) (l1_0 : List ByteArray) (l1_1 : List S32) (v0_0 : Value) (v0_1 : Value) (v1_0 : Value) (v1_1 : Value) (r1 : Bool) (h : tarryref03_Like.f k l0_0 l0_1 l1_0 l1_1 = some r1) :
    VCalls Try.prog 13 [.agg #[v0_0, v0_1], .agg #[v1_0, v1_1]] [.row v0_0 1 (l0_0.map enc_str), .row v0_1 2 (l0_1.map enc32), .row v1_0 1 (l1_0.map enc_str), .row v1_1 2 (l1_1.map enc32)] (fun v G own => v = .bool r1 ∧ G = [] ∧ own = []) := by
  refine VCalls.intro Try.func13 rfl (len rfl) fun E hC hW hD hU => ?_
  unfold tarryref03_Like.f at h
  refine VC.seq ?_
  refine VC.region ?_
  refine VL.sG (o_box rfl (.agg (.f 0 rfl (.f 1 rfl .nil))) (ltn rfl)) rfl ?_
  intro g1508
  refine VL.sG (o_box rfl (.agg (.f 2 rfl (.f 3 rfl .nil))) (ltn rfl)) rfl ?_
  intro g1509
  refine VL.va (op_assign rfl (ltn rfl)) rfl ?_
  refine VL.done ?_
  refine VN.then ?_
  refine VC.seq ?_
  refine VC.seq ?_
  refine VC.region ?_
  refine VL.va (op_fieldAddr FI25_0 rfl (add_at _ _ _) (ltn rfl)) rfl ?_
  refine VL.va (op_load 1 1 rfl rfl TI22 rfl (by decide) (ltn rfl)) rfl ?_
  refine VL.va (op_len (m := l0_0.length) 0 lenm Try.underlying22 rfl rfl (ltn rfl)) rfl ?_
  refine VL.va (op_fieldAddr FI25_0 rfl (add_at _ _ _) (ltn rfl)) rfl ?_
  refine VL.va (op_load 0 1 rfl rfl TI22 rfl (by decide) (ltn rfl)) rfl ?_
  refine VL.va (op_len (m := l1_0.length) 2 lenm Try.underlying22 rfl rfl (ltn rfl)) rfl ?_
  refine VL.letter (((l0_0.length : Int) != (l1_0.length : Int))) fun b1520 hb1520 => ?_
  refine VL.va (op_cmp rfl rfl (congrArg some hb1520) (ltn rfl)) rfl ?_
  refine VL.va (op_move rfl (ltn rfl)) rfl ?_
  by_cases c1521 : (l0_0.length : Int) = (l1_0.length : Int)
  · rw [if_pos c1521] at h
    obtain rfl : b1520 = false := hb1520.symm.trans (bne_eq_false_iff_eq.2 c1521)
    refine VL.va (op_fieldAddr FI25_1 rfl (add_at _ _ _) (ltn rfl)) rfl ?_
    refine VL.va (op_load 1 1 rfl rfl TI23 rfl (by decide) (ltn rfl)) rfl ?_
    refine VL.va (op_len (m := l0_1.length) 1 lenm Try.underlying23 rfl rfl (ltn rfl)) rfl ?_
    refine VL.va (op_fieldAddr FI25_1 rfl (add_at _ _ _) (ltn rfl)) rfl ?_
    refine VL.va (op_load 0 1 rfl rfl TI23 rfl (by decide) (ltn rfl)) rfl ?_
    refine VL.va (op_len (m := l1_1.length) 3 lenm Try.underlying23 rfl rfl (ltn rfl)) rfl ?_
    refine VL.letter (((l0_1.length : Int) != (l1_1.length : Int))) fun b1522 hb1522 => ?_
    refine VL.va (op_cmp rfl rfl (congrArg some hb1522) (ltn rfl)) rfl ?_
    refine VL.va (op_pick rfl rfl (ltn rfl)) rfl ?_
    refine VL.done ?_
    refine VN.then ?_
    by_cases c1523 : (l0_1.length : Int) = (l1_1.length : Int)
    · rw [if_pos c1523] at h
      obtain rfl : b1522 = false := hb1522.symm.trans (bne_eq_false_iff_eq.2 c1523)
      refine VC.cond_f rfl ?_
      refine VC.skip ?_
      refine VN.then ?_
      refine VC.seq ?_
      refine VC.seq ?_
      refine VC.region ?_
      refine VL.va (op_fieldAddr FI25_0 rfl (add_at _ _ _) (ltn rfl)) rfl ?_
      refine VL.va (op_load 1 1 rfl rfl TI22 rfl (by decide) (ltn rfl)) rfl ?_
      refine VL.va (op_len (m := l0_0.length) 0 lenm Try.underlying22 rfl rfl (ltn rfl)) rfl ?_
      refine VL.va (op_move rfl (ltn rfl)) rfl ?_
      refine VL.done ?_
      refine VN.then ?_
      refine VC.block ?_
      refine VC.loop1 (fun (i1577 : Int) => ⟨59, [(2, .pointer (some ⟨g1508, 0, none⟩)), (3, .pointer (some ⟨g1509, 0, none⟩)), (4, .bool false), (25, .int .i64 (l0_0.length : Int)), (26, .int .i64 i1577)], [.row v1_0 1 (l1_0.map enc_str), .row v1_1 2 (l1_1.map enc32), .row v0_0 1 (l0_0.map enc_str), .row v0_1 2 (l0_1.map enc32)], [(g1509, 25, [v1_0, v1_1]), (g1508, 25, [v0_0, v0_1])], []⟩) (fun (ml1 : Nat) (i1577 : Int) => tarryref03_Like.l1 k l0_0 l0_1 l1_0 l1_1 ml1 i1577 = some r1) k 0 [0, 1] [] h ⟨rfl, ⟨rfl, rfl, rfl, rfl, rfl, trivial⟩, ⟨⟨2, rfl⟩, ⟨3, rfl⟩, ⟨0, rfl⟩, ⟨1, rfl⟩, trivial⟩, rfl, by decide, rfl, by decide⟩ (by intros; simp [tarryref03_Like.l1]) ?_
      clear h
      intro ml1 ihl1 i1577 h
      simp only [tarryref03_Like.l1] at h
      refine VC.seq ?_
      refine VC.region ?_
      refine VL.letter (decide (i1577 < (l0_0.length : Int))) fun b1591 hb1591 => ?_
      refine VL.va (op_cmp rfl rfl (congrArg some hb1591) (ltn rfl)) rfl ?_
      refine VL.done ?_
      refine VN.then ?_
      refine VC.seq ?_
      by_cases c1673 : i1577 < (l0_0.length : Int)
      · rw [if_pos c1673] at h
        obtain rfl : b1591 = true := hb1591.symm.trans (decide_eq_true c1673)
        refine VC.cond_t rfl ?_
        refine VC.skip ?_
        refine VN.then ?_
        refine VC.seq ?_
        refine VC.block ?_
        refine VC.seq ?_
        refine VC.region ?_
        refine VL.va (op_move rfl (ltn rfl)) rfl ?_
        refine VL.va (op_assign rfl (ltn rfl)) rfl ?_
        refine VL.done ?_
        refine VN.then ?_
        by_cases c1679 : 0 ≤ i1577
        · rw [if_pos c1679] at h
          replace h := Option.bind_eq_some_iff.1 h
          obtain ⟨x1680, hx1680, h⟩ := h
          replace h := Option.bind_eq_some_iff.1 h
          obtain ⟨x1681, hx1681, h⟩ := h
          refine VC.letter ((x1680 != x1681)) fun b1682 hb1682 => ?_
          refine VC.open (m := l0_0.length) 2 lenm rfl (pos_get hx1680) ?_
          rintro ad1528 n1529 rfl
          refine VC.open (m := l1_0.length) 0 lenm rfl (pos_get hx1681) ?_
          rintro ad1531 n1532 rfl
          refine VC.join0 (⟨59, [(2, .pointer (some ⟨g1508, 0, none⟩)), (3, .pointer (some ⟨g1509, 0, none⟩)), (4, .bool false), (5, .int .i64 i1577), (25, .int .i64 (l0_0.length : Int)), (26, .int .i64 i1577), (27, .bool true), (28, .int .i64 i1577), (29, .pointer (some ⟨g1508, 0, none⟩)), (30, (.slice (some ad1528) l0_0.length n1529)), (31, .int .i64 i1577), (33, .string x1680), (34, .pointer (some ⟨g1509, 0, none⟩)), (35, (.slice (some ad1531) l1_0.length n1532)), (36, .int .i64 i1577), (38, .string x1681), (39, .bool b1682)], [.row (.slice (some ad1531) l1_0.length n1532) 1 (l1_0.map enc_str), .row v1_1 2 (l1_1.map enc32), .row (.slice (some ad1528) l0_0.length n1529) 1 (l0_0.map enc_str), .row v0_1 2 (l0_1.map enc32)], [(g1509, 25, [(.slice (some ad1531) l1_0.length n1532), v1_1]), (g1508, 25, [(.slice (some ad1528) l0_0.length n1529), v0_1])], []⟩) (True) ?_ ?_
          · refine VC.draw ⟨0, [], [.row (.slice (some ad1531) l1_0.length n1532) 1 (l1_0.map enc_str), .row (.slice (some ad1528) l0_0.length n1529) 1 (l0_0.map enc_str)], [(g1509, 25, [(.slice (some ad1531) l1_0.length n1532), v1_1]), (g1508, 25, [(.slice (some ad1528) l0_0.length n1529), v0_1])], []⟩ (by kernel_rfl) rfl (by kernel_rfl) (n := 11) (listed := LB 11 0) ?_
            refine VA.va (i := 0) (listed' := LB 11 1) rfl (op_fieldAddr FI25_0 rfl (add_at _ _ _) (ltn rfl)) rfl (by kernel_rfl) (by kernel_rfl) (by kernel_rfl) (by kernel_rfl) ⟨⟨⟨0, rfl⟩, ⟨2, rfl⟩, trivial⟩, ⟨⟨0, rfl⟩, ⟨1, rfl⟩, trivial⟩, trivial⟩ (fun _ _ _ h => h) ?_
            refine VA.va (i := 1) (listed' := LB 11 3) rfl (op_load 1 1 rfl rfl TI22 rfl (by decide) (ltn rfl)) rfl (by kernel_rfl) (by kernel_rfl) (by kernel_rfl) (by kernel_rfl) ⟨⟨⟨0, rfl⟩, ⟨2, rfl⟩, trivial⟩, ⟨⟨0, rfl⟩, ⟨1, rfl⟩, trivial⟩, trivial⟩ (fun _ _ _ h => h) ?_
            refine VA.va (i := 2) (listed' := LB 11 7) rfl (op_move rfl (ltn rfl)) rfl (by kernel_rfl) (by kernel_rfl) (by kernel_rfl) (by kernel_rfl) ⟨⟨⟨0, rfl⟩, ⟨2, rfl⟩, trivial⟩, ⟨⟨0, rfl⟩, ⟨1, rfl⟩, trivial⟩, trivial⟩ (fun _ _ _ h => h) ?_
            refine VA.va (i := 3) (listed' := LB 11 15) rfl (op_indexAddr Try.underlying22 TI9 rfl rfl c1679 (lt_get c1679 hx1680) rfl (ltn rfl)) rfl (by kernel_rfl) (by kernel_rfl) (by kernel_rfl) (by kernel_rfl) ⟨⟨⟨0, rfl⟩, ⟨2, rfl⟩, trivial⟩, ⟨⟨0, rfl⟩, ⟨1, rfl⟩, trivial⟩, trivial⟩ (fun _ _ _ h => h) ?_
            refine VA.va (i := 4) (listed' := LB 11 31) rfl (op_load_row (sz := 1) (o := 0) 1 i1577.toNat 1 rfl rfl (get_map hx1680) TI9 rfl (by decide) (ltn rfl)) rfl (by kernel_rfl) (by kernel_rfl) (by kernel_rfl) (by kernel_rfl) ⟨⟨⟨0, rfl⟩, ⟨2, rfl⟩, trivial⟩, ⟨⟨0, rfl⟩, ⟨1, rfl⟩, trivial⟩, trivial⟩ (fun _ _ _ h => h) ?_
            refine VA.va (i := 5) (listed' := LB 11 63) rfl (op_fieldAddr FI25_0 rfl (add_at _ _ _) (ltn rfl)) rfl (by kernel_rfl) (by kernel_rfl) (by kernel_rfl) (by kernel_rfl) ⟨⟨⟨0, rfl⟩, ⟨2, rfl⟩, trivial⟩, ⟨⟨0, rfl⟩, ⟨1, rfl⟩, trivial⟩, trivial⟩ (fun _ _ _ h => h) ?_
            refine VA.va (i := 6) (listed' := LB 11 127) rfl (op_load 0 1 rfl rfl TI22 rfl (by decide) (ltn rfl)) rfl (by kernel_rfl) (by kernel_rfl) (by kernel_rfl) (by kernel_rfl) ⟨⟨⟨0, rfl⟩, ⟨2, rfl⟩, trivial⟩, ⟨⟨0, rfl⟩, ⟨1, rfl⟩, trivial⟩, trivial⟩ (fun _ _ _ h => h) ?_
            refine VA.va (i := 7) (listed' := LB 11 255) rfl (op_move rfl (ltn rfl)) rfl (by kernel_rfl) (by kernel_rfl) (by kernel_rfl) (by kernel_rfl) ⟨⟨⟨0, rfl⟩, ⟨2, rfl⟩, trivial⟩, ⟨⟨0, rfl⟩, ⟨1, rfl⟩, trivial⟩, trivial⟩ (fun _ _ _ h => h) ?_
            refine VA.va (i := 8) (listed' := LB 11 511) rfl (op_indexAddr Try.underlying22 TI9 rfl rfl c1679 (lt_get c1679 hx1681) rfl (ltn rfl)) rfl (by kernel_rfl) (by kernel_rfl) (by kernel_rfl) (by kernel_rfl) ⟨⟨⟨0, rfl⟩, ⟨2, rfl⟩, trivial⟩, ⟨⟨0, rfl⟩, ⟨1, rfl⟩, trivial⟩, trivial⟩ (fun _ _ _ h => h) ?_
            refine VA.va (i := 9) (listed' := LB 11 1023) rfl (op_load_row (sz := 1) (o := 0) 0 i1577.toNat 1 rfl rfl (get_map hx1681) TI9 rfl (by decide) (ltn rfl)) rfl (by kernel_rfl) (by kernel_rfl) (by kernel_rfl) (by kernel_rfl) ⟨⟨⟨0, rfl⟩, ⟨2, rfl⟩, trivial⟩, ⟨⟨0, rfl⟩, ⟨1, rfl⟩, trivial⟩, trivial⟩ (fun _ _ _ h => h) ?_
            refine VA.va (i := 10) (listed' := LB 11 2047) rfl (op_cmps rfl rfl (congrArg some hb1682) (ltn rfl)) rfl (by kernel_rfl) (by kernel_rfl) (by kernel_rfl) (by kernel_rfl) ⟨⟨⟨0, rfl⟩, ⟨2, rfl⟩, trivial⟩, ⟨⟨0, rfl⟩, ⟨1, rfl⟩, trivial⟩, trivial⟩ (fun _ _ _ h => h) ?_
            refine VA.done (by kernel_rfl) ?_
            exact VN.meet0  [0, 1] [] trivial ⟨rfl, ⟨rfl, rfl, rfl, rfl, rfl, rfl, rfl, rfl, rfl, rfl, rfl, rfl, rfl, rfl, rfl, rfl, rfl, trivial⟩, ⟨⟨0, rfl⟩, ⟨1, rfl⟩, ⟨2, rfl⟩, ⟨3, rfl⟩, trivial⟩, rfl, by decide, rfl, by decide⟩
          intro _
          by_cases c1683 : (x1680 == x1681) = true
          · rw [if_pos c1683] at h
            obtain rfl : b1682 = false := hb1682.symm.trans (bne_of_t c1683)
            refine VC.cond_f rfl ?_
            refine VC.skip ?_
            refine VN.block ?_
            refine VN.then ?_
            refine VC.region ?_
            refine VL.va (op_ari64 rfl rfl rfl (ltn rfl)) rfl ?_
            refine VL.va (op_move rfl (ltn rfl)) rfl ?_
            refine VL.done ?_
            refine VN.again [0, 1] [] (ihl1 (wrap64 (i1577 + 1)) h) ⟨rfl, ⟨rfl, rfl, rfl, rfl, rfl, trivial⟩, ⟨⟨0, rfl⟩, ⟨1, rfl⟩, ⟨2, rfl⟩, ⟨3, rfl⟩, trivial⟩, rfl, by decide, rfl, by decide⟩
          · rw [if_neg c1683] at h
            obtain rfl : b1682 = true := hb1682.symm.trans (bne_of_f c1683)
            refine VC.cond_t rfl ?_
            refine VC.seq ?_
            refine VC.region ?_
            refine VL.va (op_assign rfl (ltn rfl)) rfl ?_
            refine VL.done ?_
            refine VN.then ?_
            refine VC.ret ?_
            refine VR.block ?_
            refine VR.then ?_
            refine VR.then ?_
            refine VR.block ?_
            refine VR.then ?_
            obtain rfl := Option.some.inj h
            exact VR.fn (rs := [.tmp 4]) [] [] [] rfl (.tmp rfl .nil) ⟨rfl, rfl, rfl⟩ trivial rfl (by decide)
        · rw [if_neg c1679] at h; cases h
      · rw [if_neg c1673] at h
        obtain rfl : b1591 = false := hb1591.symm.trans (decide_eq_false c1673)
        refine VC.cond_f rfl ?_
        refine VC.exit ?_
        refine VX.then ?_
        refine VX.then ?_
        refine VX.hit ?_
        refine VN.then ?_
        refine VC.seq ?_
        refine VC.seq ?_
        refine VC.region ?_
        refine VL.va (op_fieldAddr FI25_1 rfl (add_at _ _ _) (ltn rfl)) rfl ?_
        refine VL.va (op_load 1 1 rfl rfl TI23 rfl (by decide) (ltn rfl)) rfl ?_
        refine VL.va (op_len (m := l0_1.length) 3 lenm Try.underlying23 rfl rfl (ltn rfl)) rfl ?_
        refine VL.va (op_move rfl (ltn rfl)) rfl ?_
        refine VL.done ?_
        refine VN.then ?_
        refine VC.block ?_
        refine VC.loop1 (fun (i1733 : Int) => ⟨59, [(2, .pointer (some ⟨g1508, 0, none⟩)), (3, .pointer (some ⟨g1509, 0, none⟩)), (4, .bool false), (43, .int .i64 (l0_1.length : Int)), (44, .int .i64 i1733)], [.row v1_0 1 (l1_0.map enc_str), .row v1_1 2 (l1_1.map enc32), .row v0_0 1 (l0_0.map enc_str), .row v0_1 2 (l0_1.map enc32)], [(g1509, 25, [v1_0, v1_1]), (g1508, 25, [v0_0, v0_1])], []⟩) (fun (ml5 : Nat) (i1733 : Int) => tarryref03_Like.l5 k l0_1 l1_1 ml5 i1733 = some r1) k 0 [0, 1] [] h ⟨rfl, ⟨rfl, rfl, rfl, rfl, rfl, trivial⟩, ⟨⟨0, rfl⟩, ⟨1, rfl⟩, ⟨2, rfl⟩, ⟨3, rfl⟩, trivial⟩, rfl, by decide, rfl, by decide⟩ (by intros; simp [tarryref03_Like.l5]) ?_
        clear h
        intro ml5 ihl5 i1733 h
        simp only [tarryref03_Like.l5] at h
        refine VC.seq ?_
        refine VC.region ?_
        refine VL.letter (decide (i1733 < (l0_1.length : Int))) fun b1747 hb1747 => ?_
        refine VL.va (op_cmp rfl rfl (congrArg some hb1747) (ltn rfl)) rfl ?_
        refine VL.done ?_
        refine VN.then ?_
        refine VC.seq ?_
        by_cases c1749 : i1733 < (l0_1.length : Int)
        · rw [if_pos c1749] at h
          obtain rfl : b1747 = true := hb1747.symm.trans (decide_eq_true c1749)
          refine VC.cond_t rfl ?_
          refine VC.skip ?_
          refine VN.then ?_
          refine VC.seq ?_
          refine VC.block ?_
          refine VC.seq ?_
          refine VC.region ?_
          refine VL.va (op_move rfl (ltn rfl)) rfl ?_
          refine VL.va (op_assign rfl (ltn rfl)) rfl ?_
          refine VL.done ?_
          refine VN.then ?_
          by_cases c1755 : 0 ≤ i1733
          · rw [if_pos c1755] at h
            replace h := Option.bind_eq_some_iff.1 h
            obtain ⟨x1756, hx1756, h⟩ := h
            replace h := Option.bind_eq_some_iff.1 h
            obtain ⟨x1757, hx1757, h⟩ := h
            refine VC.letter ((!(((x1756.f0 == x1757.f0) && (x1756.f1 == x1757.f1))))) fun b1758 hb1758 => ?_
            refine VC.open (m := l0_1.length) 3 lenm rfl (pos_get hx1756) ?_
            rintro ad1597 n1598 rfl
            refine VC.open (m := l1_1.length) 1 lenm rfl (pos_get hx1757) ?_
            rintro ad1600 n1601 rfl
            refine VC.join0 (⟨59, [(2, .pointer (some ⟨g1508, 0, none⟩)), (3, .pointer (some ⟨g1509, 0, none⟩)), (4, .bool false), (6, .int .i64 i1733), (43, .int .i64 (l0_1.length : Int)), (44, .int .i64 i1733), (45, .bool true), (46, .int .i64 i1733), (47, .pointer (some ⟨g1508, 1, none⟩)), (48, (.slice (some ad1597) l0_1.length n1598)), (49, .int .i64 i1733), (51, .agg #[.int .i64 x1756.f0, .string x1756.f1]), (52, .pointer (some ⟨g1509, 1, none⟩)), (53, (.slice (some ad1600) l1_1.length n1601)), (54, .int .i64 i1733), (56, .agg #[.int .i64 x1757.f0, .string x1757.f1]), (57, .bool b1758)], [.row v1_0 1 (l1_0.map enc_str), .row (.slice (some ad1600) l1_1.length n1601) 2 (l1_1.map enc32), .row v0_0 1 (l0_0.map enc_str), .row (.slice (some ad1597) l0_1.length n1598) 2 (l0_1.map enc32)], [(g1509, 25, [v1_0, (.slice (some ad1600) l1_1.length n1601)]), (g1508, 25, [v0_0, (.slice (some ad1597) l0_1.length n1598)])], []⟩) (True) ?_ ?_
            · refine VC.draw ⟨0, [], [.row (.slice (some ad1600) l1_1.length n1601) 2 (l1_1.map enc32), .row (.slice (some ad1597) l0_1.length n1598) 2 (l0_1.map enc32)], [(g1509, 25, [v1_0, (.slice (some ad1600) l1_1.length n1601)]), (g1508, 25, [v0_0, (.slice (some ad1597) l0_1.length n1598)])], []⟩ (by kernel_rfl) rfl (by kernel_rfl) (n := 11) (listed := LB 11 0) ?_
              refine VA.va (i := 0) (listed' := LB 11 1) rfl (op_fieldAddr FI25_1 rfl (add_at _ _ _) (ltn rfl)) rfl (by kernel_rfl) (by kernel_rfl) (by kernel_rfl) (by kernel_rfl) ⟨⟨⟨1, rfl⟩, ⟨3, rfl⟩, trivial⟩, ⟨⟨0, rfl⟩, ⟨1, rfl⟩, trivial⟩, trivial⟩ (fun _ _ _ h => h) ?_
              refine VA.va (i := 1) (listed' := LB 11 3) rfl (op_load 1 1 rfl rfl TI23 rfl (by decide) (ltn rfl)) rfl (by kernel_rfl) (by kernel_rfl) (by kernel_rfl) (by kernel_rfl) ⟨⟨⟨1, rfl⟩, ⟨3, rfl⟩, trivial⟩, ⟨⟨0, rfl⟩, ⟨1, rfl⟩, trivial⟩, trivial⟩ (fun _ _ _ h => h) ?_
              refine VA.va (i := 2) (listed' := LB 11 7) rfl (op_move rfl (ltn rfl)) rfl (by kernel_rfl) (by kernel_rfl) (by kernel_rfl) (by kernel_rfl) ⟨⟨⟨1, rfl⟩, ⟨3, rfl⟩, trivial⟩, ⟨⟨0, rfl⟩, ⟨1, rfl⟩, trivial⟩, trivial⟩ (fun _ _ _ h => h) ?_
              refine VA.va (i := 3) (listed' := LB 11 15) rfl (op_indexAddr Try.underlying23 TI33 rfl rfl c1755 (lt_get c1755 hx1756) rfl (ltn rfl)) rfl (by kernel_rfl) (by kernel_rfl) (by kernel_rfl) (by kernel_rfl) ⟨⟨⟨1, rfl⟩, ⟨3, rfl⟩, trivial⟩, ⟨⟨0, rfl⟩, ⟨1, rfl⟩, trivial⟩, trivial⟩ (fun _ _ _ h => h) ?_
              refine VA.va (i := 4) (listed' := LB 11 31) rfl (op_load_row (sz := 2) (o := 0) 1 i1733.toNat 2 rfl rfl (get_map hx1756) TI33 rfl (fun h => absurd h (by decide)) (ltn rfl)) rfl (by kernel_rfl) (by kernel_rfl) (by kernel_rfl) (by kernel_rfl) ⟨⟨⟨1, rfl⟩, ⟨3, rfl⟩, trivial⟩, ⟨⟨0, rfl⟩, ⟨1, rfl⟩, trivial⟩, trivial⟩ (fun _ _ _ h => h) ?_
              refine VA.va (i := 5) (listed' := LB 11 63) rfl (op_fieldAddr FI25_1 rfl (add_at _ _ _) (ltn rfl)) rfl (by kernel_rfl) (by kernel_rfl) (by kernel_rfl) (by kernel_rfl) ⟨⟨⟨1, rfl⟩, ⟨3, rfl⟩, trivial⟩, ⟨⟨0, rfl⟩, ⟨1, rfl⟩, trivial⟩, trivial⟩ (fun _ _ _ h => h) ?_
              refine VA.va (i := 6) (listed' := LB 11 127) rfl (op_load 0 1 rfl rfl TI23 rfl (by decide) (ltn rfl)) rfl (by kernel_rfl) (by kernel_rfl) (by kernel_rfl) (by kernel_rfl) ⟨⟨⟨1, rfl⟩, ⟨3, rfl⟩, trivial⟩, ⟨⟨0, rfl⟩, ⟨1, rfl⟩, trivial⟩, trivial⟩ (fun _ _ _ h => h) ?_
              refine VA.va (i := 7) (listed' := LB 11 255) rfl (op_move rfl (ltn rfl)) rfl (by kernel_rfl) (by kernel_rfl) (by kernel_rfl) (by kernel_rfl) ⟨⟨⟨1, rfl⟩, ⟨3, rfl⟩, trivial⟩, ⟨⟨0, rfl⟩, ⟨1, rfl⟩, trivial⟩, trivial⟩ (fun _ _ _ h => h) ?_
              refine VA.va (i := 8) (listed' := LB 11 511) rfl (op_indexAddr Try.underlying23 TI33 rfl rfl c1755 (lt_get c1755 hx1757) rfl (ltn rfl)) rfl (by kernel_rfl) (by kernel_rfl) (by kernel_rfl) (by kernel_rfl) ⟨⟨⟨1, rfl⟩, ⟨3, rfl⟩, trivial⟩, ⟨⟨0, rfl⟩, ⟨1, rfl⟩, trivial⟩, trivial⟩ (fun _ _ _ h => h) ?_
              refine VA.va (i := 9) (listed' := LB 11 1023) rfl (op_load_row (sz := 2) (o := 0) 0 i1733.toNat 2 rfl rfl (get_map hx1757) TI33 rfl (fun h => absurd h (by decide)) (ltn rfl)) rfl (by kernel_rfl) (by kernel_rfl) (by kernel_rfl) (by kernel_rfl) ⟨⟨⟨1, rfl⟩, ⟨3, rfl⟩, trivial⟩, ⟨⟨0, rfl⟩, ⟨1, rfl⟩, trivial⟩, trivial⟩ (fun _ _ _ h => h) ?_
              refine VA.va (i := 10) (listed' := LB 11 2047) rfl (op_neS rfl rfl EG33 (EQ33 x1756.f0 x1756.f1 x1757.f0 x1757.f1) hb1758 (ltn rfl)) rfl (by kernel_rfl) (by kernel_rfl) (by kernel_rfl) (by kernel_rfl) ⟨⟨⟨1, rfl⟩, ⟨3, rfl⟩, trivial⟩, ⟨⟨0, rfl⟩, ⟨1, rfl⟩, trivial⟩, trivial⟩ (fun _ _ _ h => h) ?_
              refine VA.done (by kernel_rfl) ?_
              exact VN.meet0  [0, 1] [] trivial ⟨rfl, ⟨rfl, rfl, rfl, rfl, rfl, rfl, rfl, rfl, rfl, rfl, rfl, rfl, rfl, rfl, rfl, rfl, rfl, trivial⟩, ⟨⟨0, rfl⟩, ⟨1, rfl⟩, ⟨2, rfl⟩, ⟨3, rfl⟩, trivial⟩, rfl, by decide, rfl, by decide⟩
            intro _
            by_cases c1759 : (((x1756.f0 == x1757.f0) && (x1756.f1 == x1757.f1))) = true
            · rw [if_pos c1759] at h
              obtain rfl : b1758 = false := hb1758.symm.trans (not_t c1759)
              refine VC.cond_f rfl ?_
              refine VC.skip ?_
              refine VN.block ?_
              refine VN.then ?_
              refine VC.region ?_
              refine VL.va (op_ari64 rfl rfl rfl (ltn rfl)) rfl ?_
              refine VL.va (op_move rfl (ltn rfl)) rfl ?_
              refine VL.done ?_
              refine VN.again [0, 1] [] (ihl5 (wrap64 (i1733 + 1)) h) ⟨rfl, ⟨rfl, rfl, rfl, rfl, rfl, trivial⟩, ⟨⟨0, rfl⟩, ⟨1, rfl⟩, ⟨2, rfl⟩, ⟨3, rfl⟩, trivial⟩, rfl, by decide, rfl, by decide⟩
            · rw [if_neg c1759] at h
              obtain rfl : b1758 = true := hb1758.symm.trans (not_f c1759)
              refine VC.cond_t rfl ?_
              refine VC.seq ?_
              refine VC.region ?_
              refine VL.va (op_assign rfl (ltn rfl)) rfl ?_
              refine VL.done ?_
              refine VN.then ?_
              refine VC.ret ?_
              refine VR.block ?_
              refine VR.then ?_
              refine VR.then ?_
              refine VR.block ?_
              refine VR.then ?_
              obtain rfl := Option.some.inj h
              exact VR.fn (rs := [.tmp 4]) [] [] [] rfl (.tmp rfl .nil) ⟨rfl, rfl, rfl⟩ trivial rfl (by decide)
          · rw [if_neg c1755] at h; cases h
        · rw [if_neg c1749] at h
          obtain rfl : b1747 = false := hb1747.symm.trans (decide_eq_false c1749)
          refine VC.cond_f rfl ?_
          refine VC.exit ?_
          refine VX.then ?_
          refine VX.then ?_
          refine VX.hit ?_
          refine VN.then ?_
          refine VC.seq ?_
          refine VC.region ?_
          refine VL.va (op_assign rfl (ltn rfl)) rfl ?_
          refine VL.done ?_
          refine VN.then ?_
          refine VC.ret ?_
          obtain rfl := Option.some.inj h
          exact VR.fn (rs := [.tmp 4]) [] [] [] rfl (.tmp rfl .nil) ⟨rfl, rfl, rfl⟩ trivial rfl (by decide)
    · rw [if_neg c1523] at h
      obtain rfl : b1522 = true := hb1522.symm.trans (bne_iff_ne.2 c1523)
      refine VC.cond_t rfl ?_
      refine VC.seq ?_
      refine VC.region ?_
      refine VL.va (op_assign rfl (ltn rfl)) rfl ?_
      refine VL.done ?_
      refine VN.then ?_
      refine VC.ret ?_
      refine VR.then ?_
      obtain rfl := Option.some.inj h
      exact VR.fn (rs := [.tmp 4]) [] [] [] rfl (.tmp rfl .nil) ⟨rfl, rfl, rfl⟩ trivial rfl (by decide)
  · rw [if_neg c1521] at h
    obtain rfl : b1520 = true := hb1520.symm.trans (bne_iff_ne.2 c1521)
    refine VL.un rfl rfl (ltn rfl) ?_
    refine VL.un rfl rfl (ltn rfl) ?_
    refine VL.un rfl rfl (ltn rfl) ?_
    refine VL.un rfl rfl (ltn rfl) ?_
    refine VL.un rfl rfl (ltn rfl) ?_
    refine VL.un rfl rfl (ltn rfl) ?_
    refine VL.un rfl rfl (ltn rfl) ?_
    refine VL.va (op_pick rfl rfl (ltn rfl)) rfl ?_
    refine VL.done ?_
    refine VN.then ?_
    refine VC.cond_t rfl ?_
    refine VC.seq ?_
    refine VC.region ?_
    refine VL.va (op_assign rfl (ltn rfl)) rfl ?_
    refine VL.done ?_
    refine VN.then ?_
    refine VC.ret ?_
    refine VR.then ?_
    obtain rfl := Option.some.inj h
    exact VR.fn (rs := [.tmp 4]) [] [] [] rfl (.tmp rfl .nil) ⟨rfl, rfl, rfl⟩ trivial rfl (by decide)

end Go.Proofs.Ytlfkendmepdbkaa.PDiskReads
