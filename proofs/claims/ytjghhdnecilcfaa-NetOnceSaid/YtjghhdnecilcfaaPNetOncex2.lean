/- Written by a program of this repo: what the program's functions do, each as a Lean function, shown of the loaded code; or a statement's row over that; no condition of its own. -/
import Derived.Test.YtjghhdnecilcfaaPNetOncex1
namespace Go.Proofs.Ytjghhdnecilcfaa.PNetOnce
open Go Go.RowKit Go.Proofs.YtjghhdnecilcfaaV
set_option linter.unusedVariables false
set_option linter.unusedSimpArgs false

set_option maxHeartbeats 4000000 in
set_option maxRecDepth 100000 in
theorem net_Take.ok (k : Nat) (l0_0 : List S25) (a0_1 : Int) (a1 : Int) (v0_0 : Value) (r1 : List S25) (r2 : Int) (r3 : Int) (r4 : Bool) (r5 : Int) (r6 : Int) (r7 : Int) (r8 : Bool) (r9 : Int) (h : net_Take.f k l0_0 a0_1 a1 = some (r1, r2, r3, r4, r5, r6, r7, r8, r9)) :
    VCalls Try.prog 8 [.agg #[v0_0, .int .i64 a0_1], .int .i64 a1] [.row v0_0 6 (l0_0.map enc25)] (fun v G own => ∃ w0 : Value, v = .tuple #[.agg #[w0, .int .i64 r2], .agg #[.int .i64 r3, .bool r4, .int .i64 r5, .int .i64 r6, .int .i64 r7, .bool r8], .int .i64 r9] ∧ G = [.row w0 6 (r1.map enc25)] ∧ own = []) := by
  refine VCalls.intro Try.func8 rfl (len rfl) fun E hC hW hD hU => ?_
  unfold net_Take.f at h
  refine VC.seq ?_
  refine VC.region ?_
  refine VL.sG (o_box rfl (.agg (.f 0 rfl (.c rfl .nil))) (ltn rfl)) rfl ?_
  intro g999
  refine VL.sG (o_alloc Z24 ZL24 (ltn rfl)) rfl ?_
  intro g1000
  refine VL.sG (o_alloc Z26 ZL26 (ltn rfl)) rfl ?_
  intro g1001
  refine VL.va (op_assign rfl (ltn rfl)) rfl ?_
  refine VL.done ?_
  refine VN.then ?_
  refine VC.seq ?_
  refine VC.block ?_
  refine VC.seq ?_
  refine VC.region ?_
  refine VL.va (op_load 2 2 rfl rfl TI24 rfl (fun h => absurd h (by decide)) (ltn rfl)) rfl ?_
  replace h := Option.bind_eq_some_iff.1 h
  obtain ⟨t1021, hA1022, h⟩ := h
  refine VL.sC (o_call0 FO11 (net_Right.ok k l0_0 a0_1 v0_0 t1021 hA1022) rfl rfl (ltn rfl) (All_of (.cons (List.mem_of_getElem? (i := 0) rfl) .nil))) rfl ?_
  rintro _ _ _ ⟨rfl, rfl, rfl⟩
  by_cases c1023 : t1021 = true
  · rw [if_pos c1023] at h
    obtain rfl := c1023
    refine VL.va (op_not rfl rfl (ltn rfl)) rfl ?_
    refine VL.va (op_assign rfl (ltn rfl)) rfl ?_
    refine VL.done ?_
    refine VN.then ?_
    refine VC.cond_f rfl ?_
    refine VC.seq ?_
    refine VC.region ?_
    refine VL.va (op_move rfl (ltn rfl)) rfl ?_
    refine VL.letter (decide (a1 < 0)) fun b1027 hb1027 => ?_
    refine VL.va (op_cmp rfl rfl (congrArg some hb1027) (ltn rfl)) rfl ?_
    refine VL.va (op_move rfl (ltn rfl)) rfl ?_
    by_cases c1028 : a1 < 0
    · rw [if_pos c1028] at h
      obtain rfl : b1027 = true := hb1027.symm.trans (decide_eq_true c1028)
      refine VL.un rfl rfl (ltn rfl) ?_
      refine VL.un rfl rfl (ltn rfl) ?_
      refine VL.un rfl rfl (ltn rfl) ?_
      refine VL.un rfl rfl (ltn rfl) ?_
      refine VL.un rfl rfl (ltn rfl) ?_
      refine VL.va (op_pick rfl rfl (ltn rfl)) rfl ?_
      refine VL.va (op_assign rfl (ltn rfl)) rfl ?_
      refine VL.done ?_
      refine VN.then ?_
      refine VC.cond_t rfl ?_
      refine VC.seq ?_
      refine VC.region ?_
      refine VL.va (op_build (vals := []) (vcs := []) (cells := [.slice none 0 0, .int .i64 0]) SI24 rfl .nil (by kernel_rfl) (ltn rfl)) rfl ?_
      refine VL.va (op_build (vals := []) (vcs := []) (cells := [.int .i64 0, .bool false, .int .i64 0, .int .i64 0, .int .i64 0, .bool false]) SI26 rfl .nil (by kernel_rfl) (ltn rfl)) rfl ?_
      refine VL.step1 (o_store 1 2 rfl rfl rfl TI24 (.agg (.of rfl)) rfl (len rfl)) rfl ?_
      refine VL.step1 (o_store 0 6 rfl rfl rfl TI26 (.agg (.of rfl)) rfl (len rfl)) rfl ?_
      refine VL.va (op_assign rfl (ltn rfl)) rfl ?_
      refine VL.done ?_
      refine VN.then ?_
      refine VC.ret ?_
      refine VR.block ?_
      refine VR.then ?_
      simp only [Option.some.injEq, Prod.mk.injEq] at h
      obtain ⟨rfl, rfl, rfl, rfl, rfl, rfl, rfl, rfl, rfl⟩ := h
      refine VR.nilFact' 6 ?_
      exact VR.fn (rs := [.cell 4 24, .cell 5 26, .tmp 6]) [.row (.slice none 0 0) 6 (([] : List S25).map enc25)] [] [] rfl (.cell 1 rfl rfl TI24 (fun h => absurd h (by decide)) (.cell 0 rfl rfl TI26 (fun h => absurd h (by decide)) (.tmp rfl .nil))) ⟨(.slice none 0 0), rfl, rfl, rfl⟩ ⟨⟨0, rfl⟩, trivial⟩ rfl (by decide)
    · rw [if_neg c1028] at h
      obtain rfl : b1027 = false := hb1027.symm.trans (decide_eq_false c1028)
      refine VL.va (op_move rfl (ltn rfl)) rfl ?_
      refine VL.va (op_fieldAddr FI24_0 rfl (add_at _ _ _) (ltn rfl)) rfl ?_
      refine VL.va (op_load 2 1 rfl rfl TI22 rfl (by decide) (ltn rfl)) rfl ?_
      refine VL.va (op_len (m := l0_0.length) 0 lenm Try.underlying22 rfl rfl (ltn rfl)) rfl ?_
      refine VL.letter (decide (a1 ≥ (l0_0.length : Int))) fun b1030 hb1030 => ?_
      refine VL.va (op_cmp rfl rfl (congrArg some hb1030) (ltn rfl)) rfl ?_
      refine VL.va (op_pick rfl rfl (ltn rfl)) rfl ?_
      refine VL.va (op_assign rfl (ltn rfl)) rfl ?_
      refine VL.done ?_
      refine VN.then ?_
      by_cases c1031 : a1 ≥ (l0_0.length : Int)
      · rw [if_pos c1031] at h
        obtain rfl : b1030 = true := hb1030.symm.trans (decide_eq_true c1031)
        refine VC.cond_t rfl ?_
        refine VC.seq ?_
        refine VC.region ?_
        refine VL.va (op_build (vals := []) (vcs := []) (cells := [.slice none 0 0, .int .i64 0]) SI24 rfl .nil (by kernel_rfl) (ltn rfl)) rfl ?_
        refine VL.va (op_build (vals := []) (vcs := []) (cells := [.int .i64 0, .bool false, .int .i64 0, .int .i64 0, .int .i64 0, .bool false]) SI26 rfl .nil (by kernel_rfl) (ltn rfl)) rfl ?_
        refine VL.step1 (o_store 1 2 rfl rfl rfl TI24 (.agg (.of rfl)) rfl (len rfl)) rfl ?_
        refine VL.step1 (o_store 0 6 rfl rfl rfl TI26 (.agg (.of rfl)) rfl (len rfl)) rfl ?_
        refine VL.va (op_assign rfl (ltn rfl)) rfl ?_
        refine VL.done ?_
        refine VN.then ?_
        refine VC.ret ?_
        refine VR.block ?_
        refine VR.then ?_
        simp only [Option.some.injEq, Prod.mk.injEq] at h
        obtain ⟨rfl, rfl, rfl, rfl, rfl, rfl, rfl, rfl, rfl⟩ := h
        refine VR.nilFact' 6 ?_
        exact VR.fn (rs := [.cell 4 24, .cell 5 26, .tmp 6]) [.row (.slice none 0 0) 6 (([] : List S25).map enc25)] [] [] rfl (.cell 1 rfl rfl TI24 (fun h => absurd h (by decide)) (.cell 0 rfl rfl TI26 (fun h => absurd h (by decide)) (.tmp rfl .nil))) ⟨(.slice none 0 0), rfl, rfl, rfl⟩ ⟨⟨0, rfl⟩, trivial⟩ rfl (by decide)
      · rw [if_neg c1031] at h
        obtain rfl : b1030 = false := hb1030.symm.trans (decide_eq_false c1031)
        refine VC.cond_f rfl ?_
        refine VC.skip ?_
        refine VN.block ?_
        refine VN.then ?_
        refine VC.seq ?_
        refine VC.region ?_
        refine VL.va (op_fieldAddr FI24_0 rfl (add_at _ _ _) (ltn rfl)) rfl ?_
        refine VL.va (op_load 2 1 rfl rfl TI22 rfl (by decide) (ltn rfl)) rfl ?_
        refine VL.va (op_move rfl (ltn rfl)) rfl ?_
        by_cases c1033 : 0 ≤ a1
        · rw [if_pos c1033] at h
          replace h := Option.bind_eq_some_iff.1 h
          obtain ⟨x1034, hx1034, h⟩ := h
          refine VL.open (m := l0_0.length) 0 lenm rfl (pos_get hx1034) ?_
          rintro ad1035 n1036 rfl
          refine VL.va (op_indexAddr Try.underlying22 TI26 rfl rfl c1033 (lt_get c1033 hx1034) rfl (ltn rfl)) rfl ?_
          refine VL.va (op_load_row (sz := 6) (o := 0) 0 a1.toNat 6 rfl rfl (get_map hx1034) TI26 rfl (fun h => absurd h (by decide)) (ltn rfl)) rfl ?_
          refine VL.sG (o_alloc Z26 ZL26 (ltn rfl)) rfl ?_
          intro g1037
          refine VL.step1 (o_store 0 6 rfl rfl rfl TI26 (.agg (.of rfl)) rfl (len rfl)) rfl ?_
          refine VL.done ?_
          refine VN.then ?_
          by_cases c1038 : a1 ≤ (l0_0.length : Int)
          · rw [if_pos c1038] at h
            by_cases c1041 : 0 ≤ wrap64 (a1 + 1)
            · rw [if_pos c1041] at h
              by_cases c1042 : (wrap64 (a1 + 1)) ≤ (l0_0.length : Int)
              · rw [if_pos c1042] at h
                replace h := Option.bind_eq_some_iff.1 h
                obtain ⟨r1045, hA1046, h⟩ := h
                refine VC.join1 (fun (v1048 : Value) => ⟨44, [(2, .pointer (some ⟨g999, 0, none⟩)), (4, .pointer (some ⟨g1000, 0, none⟩)), (5, .pointer (some ⟨g1001, 0, none⟩)), (6, .int .i64 0), (7, .pointer (some ⟨g1037, 0, none⟩))], [.row v1048 6 (r1045.map enc25)], [(g1037, 26, [.int .i64 x1034.f0, .bool x1034.f1, .int .i64 x1034.f2, .int .i64 x1034.f3, .int .i64 x1034.f4, .bool x1034.f5]), (g1001, 26, [.int .i64 0, .bool false, .int .i64 0, .int .i64 0, .int .i64 0, .bool false]), (g1000, 24, [.slice none 0 0, .int .i64 0]), (g999, 24, [v1048, .int .i64 a0_1])], []⟩) (fun (v1048 : Value) => True) ?_ ?_
                · refine VC.drawB ⟨0, [], [.row (.slice (some ad1035) l0_0.length n1036) 6 (l0_0.map enc25)], [], []⟩ [11] ⟨0, [], [], [(g999, 24, [(.slice (some ad1035) l0_0.length n1036), .int .i64 a0_1])], []⟩ (by kernel_rfl) rfl (by kernel_rfl) (n := 12) (listed := LB 12 0) ?_
                  refine VB.va (i := 0) (listed' := LB 12 1) rfl (op_fieldAddr FI24_0 rfl (add_at _ _ _) (ltn rfl)) rfl (by kernel_rfl) (by kernel_rfl) (by kernel_rfl) (by kernel_rfl) (by decide) (PartP.on ⟨⟨⟨0, rfl⟩, trivial⟩, trivial, trivial⟩ ⟨trivial, ⟨⟨3, rfl⟩, trivial⟩, trivial⟩) (fun _ _ _ h => h) ?_
                  refine VB.vb (i := 1) (listed' := LB 12 3) rfl (op_load 0 1 rfl rfl TI22 rfl (by decide) (ltn rfl)) rfl (by kernel_rfl) (by kernel_rfl) (by kernel_rfl) (by kernel_rfl) (by kernel_rfl) (by kernel_rfl) (PartP.on ⟨⟨⟨0, rfl⟩, trivial⟩, trivial, trivial⟩ ⟨trivial, ⟨⟨3, rfl⟩, trivial⟩, trivial⟩) (fun _ _ _ h => h) ?_
                  refine VB.va (i := 2) (listed' := LB 12 7) rfl (op_move rfl (ltn rfl)) rfl (by kernel_rfl) (by kernel_rfl) (by kernel_rfl) (by kernel_rfl) (by decide) (PartP.on ⟨⟨⟨0, rfl⟩, trivial⟩, trivial, trivial⟩ ⟨trivial, ⟨⟨3, rfl⟩, trivial⟩, trivial⟩) (fun _ _ _ h => h) ?_
                  refine VB.cut (i := 3) (listed' := LB 12 15) rfl (m := l0_0.length) 0 0 a1.toNat lenm cutm Try.underlying22 TI26 rfl rfl ⟨rfl, ⟨_, _, rfl, c1033, rfl⟩, by omega, by omega⟩ (ltn rfl) rfl (by kernel_rfl) (by kernel_rfl) (by kernel_rfl) (by kernel_rfl) (by decide) (PartP.on ⟨⟨⟨0, rfl⟩, trivial⟩, trivial, trivial⟩ ⟨trivial, ⟨⟨3, rfl⟩, trivial⟩, trivial⟩) (fun _ _ _ _ h => h) ?_
                  intro v1040
                  refine VB.va (i := 4) (listed' := LB 12 31) rfl (op_fieldAddr FI24_0 rfl (add_at _ _ _) (ltn rfl)) rfl (by kernel_rfl) (by kernel_rfl) (by kernel_rfl) (by kernel_rfl) (by decide) (PartP.on ⟨⟨⟨1, rfl⟩, trivial⟩, trivial, trivial⟩ ⟨trivial, ⟨⟨3, rfl⟩, trivial⟩, trivial⟩) (fun _ _ _ h => h) ?_
                  refine VB.vb (i := 5) (listed' := LB 12 63) rfl (op_load 0 1 rfl rfl TI22 rfl (by decide) (ltn rfl)) rfl (by kernel_rfl) (by kernel_rfl) (by kernel_rfl) (by kernel_rfl) (by kernel_rfl) (by kernel_rfl) (PartP.on ⟨⟨⟨1, rfl⟩, trivial⟩, trivial, trivial⟩ ⟨trivial, ⟨⟨3, rfl⟩, trivial⟩, trivial⟩) (fun _ _ _ h => h) ?_
                  refine VB.va (i := 6) (listed' := LB 12 127) rfl (op_move rfl (ltn rfl)) rfl (by kernel_rfl) (by kernel_rfl) (by kernel_rfl) (by kernel_rfl) (by decide) (PartP.on ⟨⟨⟨1, rfl⟩, trivial⟩, trivial, trivial⟩ ⟨trivial, ⟨⟨3, rfl⟩, trivial⟩, trivial⟩) (fun _ _ _ h => h) ?_
                  refine VB.va (i := 7) (listed' := LB 12 255) rfl (op_ari64 rfl rfl rfl (ltn rfl)) rfl (by kernel_rfl) (by kernel_rfl) (by kernel_rfl) (by kernel_rfl) (by decide) (PartP.on ⟨⟨⟨1, rfl⟩, trivial⟩, trivial, trivial⟩ ⟨trivial, ⟨⟨3, rfl⟩, trivial⟩, trivial⟩) (fun _ _ _ h => h) ?_
                  refine VB.cut (i := 8) (listed' := LB 12 511) rfl (m := l0_0.length) 0 ((wrap64 (a1 + 1)).toNat) l0_0.length lenm cutm Try.underlying22 TI26 rfl rfl ⟨⟨_, _, rfl, c1041, rfl⟩, rfl, by omega, by omega⟩ (ltn rfl) rfl (by kernel_rfl) (by kernel_rfl) (by kernel_rfl) (by kernel_rfl) (by decide) (PartP.on ⟨⟨⟨1, rfl⟩, trivial⟩, trivial, trivial⟩ ⟨trivial, ⟨⟨3, rfl⟩, trivial⟩, trivial⟩) (fun _ _ _ _ h => h) ?_
                  intro v1044
                  refine VB.oneC (i := 9) (listed' := LB 12 1023) (by kernel_rfl) rfl (o_call0 FO17 (net_behind.ok ((l0_0.take a1.toNat).drop 0) ((l0_0.take l0_0.length).drop ((wrap64 (a1 + 1)).toNat)) v1040 v1044 r1045 hA1046) rfl rfl (ltn rfl) (All_of (.cons (List.mem_of_getElem? (i := 1) rfl) (.cons (List.mem_of_getElem? (i := 0) rfl) .nil)))) rfl (by kernel_rfl) ?_
                  rintro v1048 _ _ ⟨_, rfl, rfl, rfl⟩
                  refine ⟨(PartP.on ⟨⟨⟨3, rfl⟩, trivial⟩, trivial, trivial⟩ ⟨trivial, ⟨⟨3, rfl⟩, trivial⟩, trivial⟩), ?_⟩
                  refine VB.va (i := 10) (listed' := LB 12 2047) rfl (op_fieldAddr FI24_0 rfl (add_at _ _ _) (ltn rfl)) rfl (by kernel_rfl) (by kernel_rfl) (by kernel_rfl) (by kernel_rfl) (by decide) (PartP.on ⟨⟨⟨3, rfl⟩, trivial⟩, trivial, trivial⟩ ⟨trivial, ⟨⟨3, rfl⟩, trivial⟩, trivial⟩) (fun _ _ _ h => h) ?_
                  refine VB.one1 (i := 11) (listed' := LB 12 4095) (by kernel_rfl) rfl (o_store 3 1 rfl rfl rfl TI22 (.f 0 rfl) rfl (len rfl)) rfl (by kernel_rfl) (PartP.off (by kernel_rfl) ⟨⟨⟨3, rfl⟩, trivial⟩, trivial, trivial⟩) ?_
                  refine VB.done (by kernel_rfl) ?_
                  exact VN.meet1 v1048 [0, 1, 2, 3] [] trivial ⟨rfl, ⟨rfl, rfl, rfl, rfl, rfl, trivial⟩, ⟨⟨0, rfl⟩, trivial⟩, rfl, by decide, rfl, by decide⟩
                intro v1048 _
                refine VC.join0 (⟨44, [(4, .pointer (some ⟨g1000, 0, none⟩)), (5, .pointer (some ⟨g1001, 0, none⟩)), (6, .int .i64 0)], [.row v1048 6 (r1045.map enc25)], [(g1001, 26, [.int .i64 x1034.f0, .bool x1034.f1, .int .i64 x1034.f2, .int .i64 x1034.f3, .int .i64 x1034.f4, .bool x1034.f5]), (g1000, 24, [v1048, .int .i64 a0_1])], []⟩) (True) ?_ ?_
                · refine VC.draw ⟨0, [], [], [(g1037, 26, [.int .i64 x1034.f0, .bool x1034.f1, .int .i64 x1034.f2, .int .i64 x1034.f3, .int .i64 x1034.f4, .bool x1034.f5]), (g999, 24, [v1048, .int .i64 a0_1])], []⟩ (by kernel_rfl) rfl (by kernel_rfl) (n := 5) (listed := LB 5 0) ?_
                  refine VA.va (i := 0) (listed' := LB 5 1) rfl (op_load 1 2 rfl rfl TI24 rfl (fun h => absurd h (by decide)) (ltn rfl)) rfl (by kernel_rfl) (by kernel_rfl) (by kernel_rfl) (by kernel_rfl) ⟨trivial, ⟨⟨0, rfl⟩, ⟨3, rfl⟩, trivial⟩, trivial⟩ (fun _ _ _ h => h) ?_
                  refine VA.va (i := 1) (listed' := LB 5 3) rfl (op_load 0 6 rfl rfl TI26 rfl (fun h => absurd h (by decide)) (ltn rfl)) rfl (by kernel_rfl) (by kernel_rfl) (by kernel_rfl) (by kernel_rfl) ⟨trivial, ⟨⟨0, rfl⟩, ⟨3, rfl⟩, trivial⟩, trivial⟩ (fun _ _ _ h => h) ?_
                  refine VA.one1 (i := 2) (listed' := LB 5 7) (by kernel_rfl) rfl (o_store 2 2 rfl rfl rfl TI24 (.agg (.f 0 rfl (.c rfl .nil))) rfl (len rfl)) rfl (by kernel_rfl) ⟨trivial, ⟨⟨0, rfl⟩, ⟨3, rfl⟩, trivial⟩, trivial⟩ ?_
                  refine VA.one1 (i := 3) (listed' := LB 5 15) (by kernel_rfl) rfl (o_store 1 6 rfl rfl rfl TI26 (.agg (.of rfl)) rfl (len rfl)) rfl (by kernel_rfl) ⟨trivial, ⟨⟨0, rfl⟩, ⟨3, rfl⟩, trivial⟩, trivial⟩ ?_
                  refine VA.va (i := 4) (listed' := LB 5 31) rfl (op_assign rfl (ltn rfl)) rfl (by kernel_rfl) (by kernel_rfl) (by kernel_rfl) (by kernel_rfl) ⟨trivial, ⟨⟨0, rfl⟩, ⟨3, rfl⟩, trivial⟩, trivial⟩ (fun _ _ _ h => h) ?_
                  refine VA.done (by kernel_rfl) ?_
                  exact VN.meet0  [1, 2] [] trivial ⟨rfl, ⟨rfl, rfl, rfl, trivial⟩, ⟨⟨0, rfl⟩, trivial⟩, rfl, by decide, rfl, by decide⟩
                intro _
                refine VC.ret ?_
                simp only [Option.some.injEq, Prod.mk.injEq] at h
                obtain ⟨rfl, rfl, rfl, rfl, rfl, rfl, rfl, rfl, rfl⟩ := h
                exact VR.fn (rs := [.cell 4 24, .cell 5 26, .tmp 6]) [.row v1048 6 (r1045.map enc25)] [] [] rfl (.cell 1 rfl rfl TI24 (fun h => absurd h (by decide)) (.cell 0 rfl rfl TI26 (fun h => absurd h (by decide)) (.tmp rfl .nil))) ⟨v1048, rfl, rfl, rfl⟩ ⟨⟨0, rfl⟩, trivial⟩ rfl (by decide)
              · rw [if_neg c1042] at h; cases h
            · rw [if_neg c1041] at h; cases h
          · rw [if_neg c1038] at h; cases h
        · rw [if_neg c1033] at h; cases h
  · rw [if_neg c1023] at h
    obtain rfl := Bool.eq_false_iff.2 c1023
    refine VL.va (op_not rfl rfl (ltn rfl)) rfl ?_
    refine VL.va (op_assign rfl (ltn rfl)) rfl ?_
    refine VL.done ?_
    refine VN.then ?_
    refine VC.cond_t rfl ?_
    refine VC.seq ?_
    refine VC.region ?_
    refine VL.va (op_build (vals := []) (vcs := []) (cells := [.slice none 0 0, .int .i64 0]) SI24 rfl .nil (by kernel_rfl) (ltn rfl)) rfl ?_
    refine VL.va (op_build (vals := []) (vcs := []) (cells := [.int .i64 0, .bool false, .int .i64 0, .int .i64 0, .int .i64 0, .bool false]) SI26 rfl .nil (by kernel_rfl) (ltn rfl)) rfl ?_
    refine VL.step1 (o_store 1 2 rfl rfl rfl TI24 (.agg (.of rfl)) rfl (len rfl)) rfl ?_
    refine VL.step1 (o_store 0 6 rfl rfl rfl TI26 (.agg (.of rfl)) rfl (len rfl)) rfl ?_
    refine VL.va (op_assign rfl (ltn rfl)) rfl ?_
    refine VL.done ?_
    refine VN.then ?_
    refine VC.ret ?_
    refine VR.block ?_
    refine VR.then ?_
    simp only [Option.some.injEq, Prod.mk.injEq] at h
    obtain ⟨rfl, rfl, rfl, rfl, rfl, rfl, rfl, rfl, rfl⟩ := h
    refine VR.nilFact' 6 ?_
    exact VR.fn (rs := [.cell 4 24, .cell 5 26, .tmp 6]) [.row (.slice none 0 0) 6 (([] : List S25).map enc25)] [] [] rfl (.cell 1 rfl rfl TI24 (fun h => absurd h (by decide)) (.cell 0 rfl rfl TI26 (fun h => absurd h (by decide)) (.tmp rfl .nil))) ⟨(.slice none 0 0), rfl, rfl, rfl⟩ ⟨⟨0, rfl⟩, trivial⟩ rfl (by decide)
set_option maxHeartbeats 4000000 in
set_option maxRecDepth 100000 in
theorem net_Twice.ok (k : Nat) (l0_0 : List S25) (a0_1 : Int) (a1 : Int) (v0_0 : Value) (r1 : List S25) (r2 : Int) (r3 : Int) (h : net_Twice.f k l0_0 a0_1 a1 = some (r1, r2, r3)) :
    VCalls Try.prog 9 [.agg #[v0_0, .int .i64 a0_1], .int .i64 a1] [.row v0_0 6 (l0_0.map enc25)] (fun v G own => ∃ w0 : Value, v = .tuple #[.agg #[w0, .int .i64 r2], .int .i64 r3] ∧ G = [.row w0 6 (r1.map enc25)] ∧ own = []) := by
  refine VCalls.intro Try.func9 rfl (len rfl) fun E hC hW hD hU => ?_
  unfold net_Twice.f at h
  refine VC.seq ?_
  refine VC.region ?_
  refine VL.sG (o_box rfl (.agg (.f 0 rfl (.c rfl .nil))) (ltn rfl)) rfl ?_
  intro g1127
  refine VL.sG (o_alloc Z24 ZL24 (ltn rfl)) rfl ?_
  intro g1128
  refine VL.va (op_assign rfl (ltn rfl)) rfl ?_
  refine VL.done ?_
  refine VN.then ?_
  refine VC.seq ?_
  refine VC.region ?_
  refine VL.va (op_load 1 2 rfl rfl TI24 rfl (fun h => absurd h (by decide)) (ltn rfl)) rfl ?_
  refine VL.va (op_move rfl (ltn rfl)) rfl ?_
  replace h := Option.bind_eq_some_iff.1 h
  obtain ⟨⟨r1129, t1130, t1131, t1132, t1133, t1134, t1135, t1136, t1137⟩, hA1138, h⟩ := h
  dsimp only at h
  refine VL.sC (o_call0 FO8 (net_Take.ok k l0_0 a0_1 a1 v0_0 r1129 t1130 t1131 t1132 t1133 t1134 t1135 t1136 t1137 hA1138) rfl rfl (ltn rfl) (All_of (.cons (List.mem_of_getElem? (i := 0) rfl) .nil))) rfl ?_
  rintro _ _ _ ⟨v1140, rfl, rfl, rfl⟩
  refine VL.va (op_move rfl (ltn rfl)) rfl ?_
  refine VL.va (op_extract rfl rfl (ltn rfl)) rfl ?_
  refine VL.va (op_extract rfl rfl (ltn rfl)) rfl ?_
  refine VL.va (op_extract rfl rfl (ltn rfl)) rfl ?_
  refine VL.sG (o_alloc Z24 ZL24 (ltn rfl)) rfl ?_
  intro g1141
  refine VL.sG (o_alloc Z26 ZL26 (ltn rfl)) rfl ?_
  intro g1142
  refine VL.step1 (o_store 1 2 rfl rfl rfl TI24 (.agg (.f 0 rfl (.c rfl .nil))) rfl (len rfl)) rfl ?_
  refine VL.step1 (o_store 0 6 rfl rfl rfl TI26 (.agg (.of rfl)) rfl (len rfl)) rfl ?_
  refine VL.va (op_assign rfl (ltn rfl)) rfl ?_
  refine VL.done ?_
  refine VN.then ?_
  refine VC.seq ?_
  refine VC.block ?_
  refine VC.seq ?_
  refine VC.region ?_
  refine VL.va (op_move rfl (ltn rfl)) rfl ?_
  refine VL.letter ((t1137 != 0)) fun b1149 hb1149 => ?_
  refine VL.va (op_cmp rfl rfl (congrArg some hb1149) (ltn rfl)) rfl ?_
  refine VL.va (op_assign rfl (ltn rfl)) rfl ?_
  refine VL.done ?_
  refine VN.then ?_
  by_cases c1150 : t1137 = 0
  · rw [if_pos c1150] at h
    obtain rfl : b1149 = false := hb1149.symm.trans (bne_eq_false_iff_eq.2 c1150)
    refine VC.cond_f rfl ?_
    refine VC.seq ?_
    refine VC.region ?_
    refine VL.va (op_fieldAddr FI24_0 rfl (add_at _ _ _) (ltn rfl)) rfl ?_
    refine VL.va (op_load 3 1 rfl rfl TI22 rfl (by decide) (ltn rfl)) rfl ?_
    refine VL.va (op_len (m := l0_0.length) 1 lenm Try.underlying22 rfl rfl (ltn rfl)) rfl ?_
    refine VL.letter (((l0_0.length : Int) == 64)) fun b1151 hb1151 => ?_
    refine VL.va (op_cmp rfl rfl (congrArg some hb1151) (ltn rfl)) rfl ?_
    refine VL.va (op_assign rfl (ltn rfl)) rfl ?_
    refine VL.done ?_
    refine VN.then ?_
    by_cases c1152 : (l0_0.length : Int) = 64
    · rw [if_pos c1152] at h
      obtain rfl : b1151 = true := hb1151.symm.trans (beq_iff_eq.2 c1152)
      refine VC.cond_t rfl ?_
      refine VC.seq ?_
      refine VC.region ?_
      refine VL.va (op_build (vals := []) (vcs := []) (cells := [.slice none 0 0, .int .i64 0]) SI24 rfl .nil (by kernel_rfl) (ltn rfl)) rfl ?_
      refine VL.step1 (o_store 2 2 rfl rfl rfl TI24 (.agg (.of rfl)) rfl (len rfl)) rfl ?_
      refine VL.va (op_assign rfl (ltn rfl)) rfl ?_
      refine VL.done ?_
      refine VN.then ?_
      refine VC.ret ?_
      refine VR.block ?_
      refine VR.then ?_
      simp only [Option.some.injEq, Prod.mk.injEq] at h
      obtain ⟨rfl, rfl, rfl⟩ := h
      refine VR.nilFact' 6 ?_
      exact VR.fn (rs := [.cell 4 24, .tmp 5]) [.row (.slice none 0 0) 6 (([] : List S25).map enc25)] [] [] rfl (.cell 2 rfl rfl TI24 (fun h => absurd h (by decide)) (.tmp rfl .nil)) ⟨(.slice none 0 0), rfl, rfl, rfl⟩ ⟨⟨0, rfl⟩, trivial⟩ rfl (by decide)
    · rw [if_neg c1152] at h
      obtain rfl : b1151 = false := hb1151.symm.trans (beq_eq_false_iff_ne.2 c1152)
      refine VC.cond_f rfl ?_
      refine VC.skip ?_
      refine VN.block ?_
      refine VN.then ?_
      refine VC.seq ?_
      refine VC.region ?_
      refine VL.va (op_fieldAddr FI24_0 rfl (add_at _ _ _) (ltn rfl)) rfl ?_
      refine VL.va (op_load 3 1 rfl rfl TI22 rfl (by decide) (ltn rfl)) rfl ?_
      refine VL.va (op_load 0 6 rfl rfl TI26 rfl (fun h => absurd h (by decide)) (ltn rfl)) rfl ?_
      refine VL.sG (o_buildSlice (vals := [(0, .agg #[.int .i64 t1131, .bool t1132, .int .i64 t1133, .int .i64 t1134, .int .i64 t1135, .bool t1136])]) (cells := #[.int .i64 t1131, .bool t1132, .int .i64 t1133, .int .i64 t1134, .int .i64 t1135, .bool t1136]) (es := List.map enc25 ([(⟨t1131, t1132, t1133, t1134, t1135, t1136⟩ : S25)] : List S25)) Try.underlying22 TI26 Z26 rfl (by decide) (by decide) (by kernel_rfl) (by kernel_rfl) rfl (flat_map enc25_ok _) (ltn rfl)) rfl ?_
      intro v1155
      refine VL.freezeRow' 0 rfl ?_
      replace h := Option.bind_eq_some_iff.1 h
      obtain ⟨r1156, hA1157, h⟩ := h
      refine VL.sC (o_call0 FO17 (net_behind.ok l0_0 ([(⟨t1131, t1132, t1133, t1134, t1135, t1136⟩ : S25)] : List S25) v0_0 v1155 r1156 hA1157) rfl rfl (ltn rfl) (All_of (.cons (List.mem_of_getElem? (i := 2) rfl) (.cons (List.mem_of_getElem? (i := 0) rfl) .nil)))) rfl ?_
      rintro v1159 _ _ ⟨_, rfl, rfl, rfl⟩
      refine VL.va (op_fieldAddr FI24_0 rfl (add_at _ _ _) (ltn rfl)) rfl ?_
      refine VL.step1 (o_store 3 1 rfl rfl rfl TI22 (.f 0 rfl) rfl (len rfl)) rfl ?_
      refine VL.done ?_
      refine VN.then ?_
      refine VC.seq ?_
      refine VC.region ?_
      refine VL.va (op_load 3 2 rfl rfl TI24 rfl (fun h => absurd h (by decide)) (ltn rfl)) rfl ?_
      refine VL.step1 (o_store 2 2 rfl rfl rfl TI24 (.agg (.f 0 rfl (.c rfl .nil))) rfl (len rfl)) rfl ?_
      refine VL.va (op_assign rfl (ltn rfl)) rfl ?_
      refine VL.done ?_
      refine VN.then ?_
      refine VC.ret ?_
      simp only [Option.some.injEq, Prod.mk.injEq] at h
      obtain ⟨rfl, rfl, rfl⟩ := h
      exact VR.fn (rs := [.cell 4 24, .tmp 5]) [.row v1159 6 (r1156.map enc25)] [] [] rfl (.cell 2 rfl rfl TI24 (fun h => absurd h (by decide)) (.tmp rfl .nil)) ⟨v1159, rfl, rfl, rfl⟩ ⟨⟨0, rfl⟩, trivial⟩ rfl (by decide)
  · rw [if_neg c1150] at h
    obtain rfl : b1149 = true := hb1149.symm.trans (bne_iff_ne.2 c1150)
    refine VC.cond_t rfl ?_
    refine VC.seq ?_
    refine VC.region ?_
    refine VL.va (op_build (vals := []) (vcs := []) (cells := [.slice none 0 0, .int .i64 0]) SI24 rfl .nil (by kernel_rfl) (ltn rfl)) rfl ?_
    refine VL.va (op_move rfl (ltn rfl)) rfl ?_
    refine VL.step1 (o_store 2 2 rfl rfl rfl TI24 (.agg (.of rfl)) rfl (len rfl)) rfl ?_
    refine VL.va (op_assign rfl (ltn rfl)) rfl ?_
    refine VL.done ?_
    refine VN.then ?_
    refine VC.ret ?_
    refine VR.block ?_
    refine VR.then ?_
    simp only [Option.some.injEq, Prod.mk.injEq] at h
    obtain ⟨rfl, rfl, rfl⟩ := h
    refine VR.nilFact' 6 ?_
    exact VR.fn (rs := [.cell 4 24, .tmp 5]) [.row (.slice none 0 0) 6 (([] : List S25).map enc25)] [] [] rfl (.cell 2 rfl rfl TI24 (fun h => absurd h (by decide)) (.tmp rfl .nil)) ⟨(.slice none 0 0), rfl, rfl, rfl⟩ ⟨⟨0, rfl⟩, trivial⟩ rfl (by decide)
set_option maxHeartbeats 4000000 in
set_option maxRecDepth 100000 in
theorem net_Last.ok (k : Nat) (l0_0 : List S25) (a0_1 : Int) (a1 : Int) (v0_0 : Value) (r1 : List S25) (r2 : Int) (r3 : Int) (h : net_Last.f k l0_0 a0_1 a1 = some (r1, r2, r3)) :
    VCalls Try.prog 10 [.agg #[v0_0, .int .i64 a0_1], .int .i64 a1] [.row v0_0 6 (l0_0.map enc25)] (fun v G own => ∃ w0 : Value, v = .tuple #[.agg #[w0, .int .i64 r2], .int .i64 r3] ∧ G = [.row w0 6 (r1.map enc25)] ∧ own = []) := by
  refine VCalls.intro Try.func10 rfl (len rfl) fun E hC hW hD hU => ?_
  unfold net_Last.f at h
  refine VC.seq ?_
  refine VC.region ?_
  refine VL.sG (o_box rfl (.agg (.f 0 rfl (.c rfl .nil))) (ltn rfl)) rfl ?_
  intro g1214
  refine VL.sG (o_alloc Z24 ZL24 (ltn rfl)) rfl ?_
  intro g1215
  refine VL.va (op_assign rfl (ltn rfl)) rfl ?_
  refine VL.done ?_
  refine VN.then ?_
  refine VC.seq ?_
  refine VC.region ?_
  refine VL.va (op_load 1 2 rfl rfl TI24 rfl (fun h => absurd h (by decide)) (ltn rfl)) rfl ?_
  refine VL.va (op_move rfl (ltn rfl)) rfl ?_
  replace h := Option.bind_eq_some_iff.1 h
  obtain ⟨⟨r1216, t1217, t1218, t1219, t1220, t1221, t1222, t1223, t1224⟩, hA1225, h⟩ := h
  dsimp only at h
  refine VL.sC (o_call0 FO8 (net_Take.ok k l0_0 a0_1 a1 v0_0 r1216 t1217 t1218 t1219 t1220 t1221 t1222 t1223 t1224 hA1225) rfl rfl (ltn rfl) (All_of (.cons (List.mem_of_getElem? (i := 0) rfl) .nil))) rfl ?_
  rintro _ _ _ ⟨v1227, rfl, rfl, rfl⟩
  refine VL.va (op_move rfl (ltn rfl)) rfl ?_
  refine VL.va (op_extract rfl rfl (ltn rfl)) rfl ?_
  refine VL.va (op_extract rfl rfl (ltn rfl)) rfl ?_
  refine VL.va (op_extract rfl rfl (ltn rfl)) rfl ?_
  refine VL.sG (o_alloc Z26 ZL26 (ltn rfl)) rfl ?_
  intro g1228
  refine VL.step1 (o_store 2 2 rfl rfl rfl TI24 (.agg (.f 0 rfl (.c rfl .nil))) rfl (len rfl)) rfl ?_
  refine VL.step1 (o_store 0 6 rfl rfl rfl TI26 (.agg (.of rfl)) rfl (len rfl)) rfl ?_
  refine VL.va (op_assign rfl (ltn rfl)) rfl ?_
  refine VL.done ?_
  refine VN.then ?_
  refine VC.seq ?_
  refine VC.seq ?_
  refine VC.region ?_
  refine VL.va (op_move rfl (ltn rfl)) rfl ?_
  refine VL.letter ((t1224 != 0)) fun b1232 hb1232 => ?_
  refine VL.va (op_cmp rfl rfl (congrArg some hb1232) (ltn rfl)) rfl ?_
  refine VL.done ?_
  refine VN.then ?_
  by_cases c1233 : t1224 = 0
  · rw [if_pos c1233] at h
    obtain rfl : b1232 = false := hb1232.symm.trans (bne_eq_false_iff_eq.2 c1233)
    refine VC.cond_f rfl ?_
    refine VC.skip ?_
    refine VN.then ?_
    refine VC.seq ?_
    refine VC.region ?_
    refine VL.va (op_fieldAddr FI24_0 rfl (add_at _ _ _) (ltn rfl)) rfl ?_
    refine VL.va (op_load 2 1 rfl rfl TI22 rfl (by decide) (ltn rfl)) rfl ?_
    refine VL.va (op_load 0 6 rfl rfl TI26 rfl (fun h => absurd h (by decide)) (ltn rfl)) rfl ?_
    refine VL.sG (o_buildSlice (vals := [(0, .agg #[.int .i64 t1218, .bool t1219, .int .i64 t1220, .int .i64 t1221, .int .i64 t1222, .bool t1223])]) (cells := #[.int .i64 t1218, .bool t1219, .int .i64 t1220, .int .i64 t1221, .int .i64 t1222, .bool t1223]) (es := List.map enc25 ([(⟨t1218, t1219, t1220, t1221, t1222, t1223⟩ : S25)] : List S25)) Try.underlying22 TI26 Z26 rfl (by decide) (by decide) (by kernel_rfl) (by kernel_rfl) rfl (flat_map enc25_ok _) (ltn rfl)) rfl ?_
    intro v1235
    refine VL.freezeRow' 0 rfl ?_
    replace h := Option.bind_eq_some_iff.1 h
    obtain ⟨r1236, hA1237, h⟩ := h
    refine VL.sC (o_call0 FO17 (net_behind.ok r1216 ([(⟨t1218, t1219, t1220, t1221, t1222, t1223⟩ : S25)] : List S25) v1227 v1235 r1236 hA1237) rfl rfl (ltn rfl) (All_of (.cons (List.mem_of_getElem? (i := 1) rfl) (.cons (List.mem_of_getElem? (i := 0) rfl) .nil)))) rfl ?_
    rintro v1239 _ _ ⟨_, rfl, rfl, rfl⟩
    refine VL.va (op_fieldAddr FI24_0 rfl (add_at _ _ _) (ltn rfl)) rfl ?_
    refine VL.step1 (o_store 2 1 rfl rfl rfl TI22 (.f 0 rfl) rfl (len rfl)) rfl ?_
    refine VL.done ?_
    refine VN.then ?_
    refine VC.seq ?_
    refine VC.region ?_
    refine VL.va (op_load 2 2 rfl rfl TI24 rfl (fun h => absurd h (by decide)) (ltn rfl)) rfl ?_
    refine VL.step1 (o_store 1 2 rfl rfl rfl TI24 (.agg (.f 0 rfl (.c rfl .nil))) rfl (len rfl)) rfl ?_
    refine VL.va (op_assign rfl (ltn rfl)) rfl ?_
    refine VL.done ?_
    refine VN.then ?_
    refine VC.ret ?_
    simp only [Option.some.injEq, Prod.mk.injEq] at h
    obtain ⟨rfl, rfl, rfl⟩ := h
    exact VR.fn (rs := [.cell 4 24, .tmp 5]) [.row v1239 6 (r1236.map enc25)] [] [] rfl (.cell 1 rfl rfl TI24 (fun h => absurd h (by decide)) (.tmp rfl .nil)) ⟨v1239, rfl, rfl, rfl⟩ ⟨⟨0, rfl⟩, trivial⟩ rfl (by decide)
  · rw [if_neg c1233] at h
    obtain rfl : b1232 = true := hb1232.symm.trans (bne_iff_ne.2 c1233)
    refine VC.cond_t rfl ?_
    refine VC.seq ?_
    refine VC.region ?_
    refine VL.va (op_build (vals := []) (vcs := []) (cells := [.slice none 0 0, .int .i64 0]) SI24 rfl .nil (by kernel_rfl) (ltn rfl)) rfl ?_
    refine VL.va (op_move rfl (ltn rfl)) rfl ?_
    refine VL.step1 (o_store 1 2 rfl rfl rfl TI24 (.agg (.of rfl)) rfl (len rfl)) rfl ?_
    refine VL.va (op_assign rfl (ltn rfl)) rfl ?_
    refine VL.done ?_
    refine VN.then ?_
    refine VC.ret ?_
    refine VR.then ?_
    simp only [Option.some.injEq, Prod.mk.injEq] at h
    obtain ⟨rfl, rfl, rfl⟩ := h
    refine VR.nilFact' 6 ?_
    exact VR.fn (rs := [.cell 4 24, .tmp 5]) [.row (.slice none 0 0) 6 (([] : List S25).map enc25)] [] [] rfl (.cell 1 rfl rfl TI24 (fun h => absurd h (by decide)) (.tmp rfl .nil)) ⟨(.slice none 0 0), rfl, rfl, rfl⟩ ⟨⟨0, rfl⟩, trivial⟩ rfl (by decide)
set_option maxHeartbeats 4000000 in
set_option maxRecDepth 100000 in
theorem tarrylaw15_alive.ok (k : Nat)   (r1 : Bool) (h : tarrylaw15_alive.f k = some r1) :
    VCalls Try.prog 13 [] [] (fun v G own => v = .bool r1 ∧ G = [] ∧ own = []) := by
  refine VCalls.intro Try.func13 rfl (len rfl) fun E hC hW hD hU => ?_
  unfold tarrylaw15_alive.f at h
  refine VC.seq ?_
  refine VC.region ?_
  refine VL.va (op_assign rfl (ltn rfl)) rfl ?_
  refine VL.done ?_
  refine VN.then ?_
  refine VC.seq ?_
  refine VC.region ?_
  refine VL.va (op_build (vals := []) (vcs := []) (cells := [.slice none 0 0, .int .i64 0]) SI24 rfl .nil (by kernel_rfl) (ltn rfl)) rfl ?_
  refine VL.va (op_build (vals := [(2, .int .i64 5), (3, .int .i64 1), (4, .int .i64 7)]) (vcs := [(2, [.int .i64 5]), (3, [.int .i64 1]), (4, [.int .i64 7])]) (cells := [.int .i64 0, .bool false, .int .i64 5, .int .i64 1, .int .i64 7, .bool false]) SI26 rfl (.cons ⟨rfl, (.c rfl)⟩ (.cons ⟨rfl, (.c rfl)⟩ (.cons ⟨rfl, (.c rfl)⟩ .nil))) (by kernel_rfl) (ltn rfl)) rfl ?_
  refine VL.nilFact' 6 ?_
  replace h := Option.bind_eq_some_iff.1 h
  obtain ⟨⟨r2781, t2782, t2783, t2784⟩, hA2785, h⟩ := h
  dsimp only at h
  refine VL.sC (o_call0 FO7 (net_Post.ok k [] 0 0 false 5 1 7 false (.slice none 0 0) r2781 t2782 t2783 t2784 hA2785) rfl rfl (ltn rfl) (All_of (.cons (List.mem_of_getElem? (i := 0) rfl) .nil))) rfl ?_
  rintro _ _ _ ⟨v2787, rfl, rfl, rfl⟩
  refine VL.va (op_move rfl (ltn rfl)) rfl ?_
  refine VL.va (op_extract rfl rfl (ltn rfl)) rfl ?_
  refine VL.va (op_extract rfl rfl (ltn rfl)) rfl ?_
  refine VL.va (op_extract rfl rfl (ltn rfl)) rfl ?_
  refine VL.sG (o_alloc Z24 ZL24 (ltn rfl)) rfl ?_
  intro g2788
  refine VL.step1 (o_store 0 2 rfl rfl rfl TI24 (.agg (.f 0 rfl (.c rfl .nil))) rfl (len rfl)) rfl ?_
  refine VL.va (op_assign rfl (ltn rfl)) rfl ?_
  refine VL.va (op_assign rfl (ltn rfl)) rfl ?_
  refine VL.done ?_
  refine VN.then ?_
  refine VC.seq ?_
  refine VC.region ?_
  refine VL.va (op_load 0 2 rfl rfl TI24 rfl (fun h => absurd h (by decide)) (ltn rfl)) rfl ?_
  replace h := Option.bind_eq_some_iff.1 h
  obtain ⟨⟨r2789, t2790, t2791, t2792, t2793, t2794, t2795, t2796, t2797⟩, hA2798, h⟩ := h
  dsimp only at h
  refine VL.sC (o_call0 FO8 (net_Take.ok k r2781 t2782 0 v2787 r2789 t2790 t2791 t2792 t2793 t2794 t2795 t2796 t2797 hA2798) rfl rfl (ltn rfl) (All_of (.cons (List.mem_of_getElem? (i := 0) rfl) .nil))) rfl ?_
  rintro _ _ _ ⟨v2800, rfl, rfl, rfl⟩
  refine VL.va (op_move rfl (ltn rfl)) rfl ?_
  refine VL.va (op_extract rfl rfl (ltn rfl)) rfl ?_
  refine VL.va (op_extract rfl rfl (ltn rfl)) rfl ?_
  refine VL.va (op_extract rfl rfl (ltn rfl)) rfl ?_
  refine VL.sG (o_alloc Z24 ZL24 (ltn rfl)) rfl ?_
  intro g2801
  refine VL.sG (o_alloc Z26 ZL26 (ltn rfl)) rfl ?_
  intro g2802
  refine VL.step1 (o_store 1 2 rfl rfl rfl TI24 (.agg (.f 0 rfl (.c rfl .nil))) rfl (len rfl)) rfl ?_
  refine VL.step1 (o_store 0 6 rfl rfl rfl TI26 (.agg (.of rfl)) rfl (len rfl)) rfl ?_
  refine VL.va (op_assign rfl (ltn rfl)) rfl ?_
  refine VL.done ?_
  refine VN.then ?_
  refine VC.seq ?_
  refine VC.region ?_
  refine VL.va (op_move rfl (ltn rfl)) rfl ?_
  refine VL.letter ((t2784 == 0)) fun b2810 hb2810 => ?_
  refine VL.va (op_cmp rfl rfl (congrArg some hb2810) (ltn rfl)) rfl ?_
  refine VL.va (op_move rfl (ltn rfl)) rfl ?_
  by_cases c2811 : t2784 = 0
  · rw [if_pos c2811] at h
    obtain rfl : b2810 = true := hb2810.symm.trans (beq_iff_eq.2 c2811)
    refine VL.va (op_move rfl (ltn rfl)) rfl ?_
    refine VL.letter ((t2797 == 0)) fun b2812 hb2812 => ?_
    refine VL.va (op_cmp rfl rfl (congrArg some hb2812) (ltn rfl)) rfl ?_
    refine VL.va (op_pick rfl rfl (ltn rfl)) rfl ?_
    refine VL.va (op_move rfl (ltn rfl)) rfl ?_
    by_cases c2813 : t2797 = 0
    · rw [if_pos c2813] at h
      obtain rfl : b2812 = true := hb2812.symm.trans (beq_iff_eq.2 c2813)
      refine VL.va (op_move rfl (ltn rfl)) rfl ?_
      refine VL.letter ((t2783 == 1)) fun b2814 hb2814 => ?_
      refine VL.va (op_cmp rfl rfl (congrArg some hb2814) (ltn rfl)) rfl ?_
      refine VL.va (op_pick rfl rfl (ltn rfl)) rfl ?_
      refine VL.va (op_move rfl (ltn rfl)) rfl ?_
      by_cases c2815 : t2783 = 1
      · rw [if_pos c2815] at h
        obtain rfl : b2814 = true := hb2814.symm.trans (beq_iff_eq.2 c2815)
        refine VL.va (op_load 0 6 rfl rfl TI26 rfl (fun h => absurd h (by decide)) (ltn rfl)) rfl ?_
        refine VL.va (op_build (vals := [(0, .int .i64 1), (2, .int .i64 5), (3, .int .i64 1), (4, .int .i64 7)]) (vcs := [(0, [.int .i64 1]), (2, [.int .i64 5]), (3, [.int .i64 1]), (4, [.int .i64 7])]) (cells := [.int .i64 1, .bool false, .int .i64 5, .int .i64 1, .int .i64 7, .bool false]) SI26 rfl (.cons ⟨rfl, (.c rfl)⟩ (.cons ⟨rfl, (.c rfl)⟩ (.cons ⟨rfl, (.c rfl)⟩ (.cons ⟨rfl, (.c rfl)⟩ .nil)))) (by kernel_rfl) (ltn rfl)) rfl ?_
        refine VL.letter ((((t2791 == 1) && ((t2792 == false) && ((t2793 == 5) && ((t2794 == 1) && ((t2795 == 7) && (t2796 == false)))))))) fun b2816 hb2816 => ?_
        refine VL.va (op_eqS rfl rfl EG26 (EQ26 t2791 t2792 t2793 t2794 t2795 t2796 1 false 5 1 7 false) hb2816 (ltn rfl)) rfl ?_
        refine VL.va (op_pick rfl rfl (ltn rfl)) rfl ?_
        refine VL.va (op_assign rfl (ltn rfl)) rfl ?_
        refine VL.done ?_
        refine VN.then ?_
        refine VC.ret ?_
        obtain rfl := Option.some.inj h
        subst hb2816
        exact VR.fn (rs := [.tmp 0]) [] [] [] rfl (.tmp rfl .nil) ⟨rfl, rfl, rfl⟩ trivial rfl (by decide)
      · rw [if_neg c2815] at h
        obtain rfl : b2814 = false := hb2814.symm.trans (beq_eq_false_iff_ne.2 c2815)
        refine VL.un rfl rfl (ltn rfl) ?_
        refine VL.un rfl rfl (ltn rfl) ?_
        refine VL.un rfl rfl (ltn rfl) ?_
        refine VL.va (op_pick rfl rfl (ltn rfl)) rfl ?_
        refine VL.va (op_assign rfl (ltn rfl)) rfl ?_
        refine VL.done ?_
        refine VN.then ?_
        refine VC.ret ?_
        obtain rfl := Option.some.inj h
        exact VR.fn (rs := [.tmp 0]) [] [] [] rfl (.tmp rfl .nil) ⟨rfl, rfl, rfl⟩ trivial rfl (by decide)
    · rw [if_neg c2813] at h
      obtain rfl : b2812 = false := hb2812.symm.trans (beq_eq_false_iff_ne.2 c2813)
      refine VL.un rfl rfl (ltn rfl) ?_
      refine VL.un rfl rfl (ltn rfl) ?_
      refine VL.va (op_pick rfl rfl (ltn rfl)) rfl ?_
      refine VL.va (op_move rfl (ltn rfl)) rfl ?_
      refine VL.un rfl rfl (ltn rfl) ?_
      refine VL.un rfl rfl (ltn rfl) ?_
      refine VL.un rfl rfl (ltn rfl) ?_
      refine VL.va (op_pick rfl rfl (ltn rfl)) rfl ?_
      refine VL.va (op_assign rfl (ltn rfl)) rfl ?_
      refine VL.done ?_
      refine VN.then ?_
      refine VC.ret ?_
      obtain rfl := Option.some.inj h
      exact VR.fn (rs := [.tmp 0]) [] [] [] rfl (.tmp rfl .nil) ⟨rfl, rfl, rfl⟩ trivial rfl (by decide)
  · rw [if_neg c2811] at h
    obtain rfl : b2810 = false := hb2810.symm.trans (beq_eq_false_iff_ne.2 c2811)
    refine VL.un rfl rfl (ltn rfl) ?_
    refine VL.un rfl rfl (ltn rfl) ?_
    refine VL.va (op_pick rfl rfl (ltn rfl)) rfl ?_
    refine VL.va (op_move rfl (ltn rfl)) rfl ?_
    refine VL.un rfl rfl (ltn rfl) ?_
    refine VL.un rfl rfl (ltn rfl) ?_
    refine VL.va (op_pick rfl rfl (ltn rfl)) rfl ?_
    refine VL.va (op_move rfl (ltn rfl)) rfl ?_
    refine VL.un rfl rfl (ltn rfl) ?_
    refine VL.un rfl rfl (ltn rfl) ?_
    refine VL.un rfl rfl (ltn rfl) ?_
    refine VL.va (op_pick rfl rfl (ltn rfl)) rfl ?_
    refine VL.va (op_assign rfl (ltn rfl)) rfl ?_
    refine VL.done ?_
    refine VN.then ?_
    refine VC.ret ?_
    obtain rfl := Option.some.inj h
    exact VR.fn (rs := [.tmp 0]) [] [] [] rfl (.tmp rfl .nil) ⟨rfl, rfl, rfl⟩ trivial rfl (by decide)

end Go.Proofs.Ytjghhdnecilcfaa.PNetOnce
