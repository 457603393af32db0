/- Written by a program of this repo: what the program's functions do, each as a Lean function, shown of the loaded code; or a statement's row over that; no condition of its own. -/
import Derived.Test.YtapdeoioenblfaaPOutboxTellsx1
namespace Go.Proofs.Ytapdeoioenblfaa.POutboxTells
open Go Go.RowKit Go.Proofs.YtapdeoioenblfaaV
set_option linter.unusedVariables false
set_option linter.unusedSimpArgs false

set_option maxHeartbeats 4000000 in
set_option maxRecDepth 100000 in
theorem outbox_Right.ok (k : Nat) (a0_0 : Int) (l0_1 : List S33) (v0_1 : Value) (r1 : Bool) (h : outbox_Right.f k a0_0 l0_1 = some r1) :
    VCalls Try.prog 8 [.agg #[.int .i64 a0_0, v0_1]] [.row v0_1 4 (l0_1.map enc33)] (fun v G own => v = .bool r1 ∧ G = [] ∧ own = []) := by
  refine VCalls.intro Try.func8 rfl (len rfl) fun E hC hW hD hU => ?_
  unfold outbox_Right.f at h
  refine VC.seq ?_
  refine VC.region ?_
  refine VL.sG (o_box rfl (.agg (.c rfl (.f 0 rfl .nil))) (ltn rfl)) rfl ?_
  intro g18
  refine VL.va (op_assign rfl (ltn rfl)) rfl ?_
  refine VL.done ?_
  refine VN.then ?_
  refine VC.seq ?_
  refine VC.region ?_
  refine VL.va (op_assign rfl (ltn rfl)) rfl ?_
  refine VL.done ?_
  refine VN.then ?_
  refine VC.seq ?_
  refine VC.seq ?_
  refine VC.region ?_
  refine VL.va (op_fieldAddr FI25_1 rfl (add_at _ _ _) (ltn rfl)) rfl ?_
  refine VL.va (op_load 0 1 rfl rfl TI23 rfl (by decide) (ltn rfl)) rfl ?_
  refine VL.va (op_len (m := l0_1.length) 0 lenm Try.underlying23 rfl rfl (ltn rfl)) rfl ?_
  refine VL.va (op_move rfl (ltn rfl)) rfl ?_
  refine VL.done ?_
  refine VN.then ?_
  refine VC.block ?_
  refine VC.loop2 (fun (i572 : Int) (i573 : Int) => ⟨71, [(1, .pointer (some ⟨g18, 0, none⟩)), (2, .bool false), (3, .int .i64 i572), (8, v0_1), (9, .int .i64 (l0_1.length : Int)), (10, .int .i64 i573)], [.row v0_1 4 (l0_1.map enc33)], [(g18, 25, [.int .i64 a0_0, v0_1])], []⟩) (fun (ml1 : Nat) (i572 : Int) (i573 : Int) => outbox_Right.l1 k a0_0 l0_1 ml1 i572 i573 = some r1) k 0 0 [0] [] h ⟨rfl, ⟨rfl, rfl, rfl, rfl, rfl, rfl, trivial⟩, ⟨⟨0, rfl⟩, trivial⟩, rfl, by decide, rfl, by decide⟩ (by intros; simp [outbox_Right.l1]) ?_
  clear h
  intro ml1 ihl1 i572 i573 h
  simp only [outbox_Right.l1] at h
  refine VC.seq ?_
  refine VC.region ?_
  refine VL.letter (decide (i573 < (l0_1.length : Int))) fun b679 hb679 => ?_
  refine VL.va (op_cmp rfl rfl (congrArg some hb679) (ltn rfl)) rfl ?_
  refine VL.done ?_
  refine VN.then ?_
  refine VC.seq ?_
  by_cases c693 : i573 < (l0_1.length : Int)
  · rw [if_pos c693] at h
    obtain rfl : b679 = true := hb679.symm.trans (decide_eq_true c693)
    refine VC.cond_t rfl ?_
    refine VC.skip ?_
    refine VN.then ?_
    refine VC.seq ?_
    refine VC.block ?_
    refine VC.seq ?_
    refine VC.region ?_
    refine VL.va (op_move rfl (ltn rfl)) rfl ?_
    by_cases c745 : 0 ≤ i573
    · rw [if_pos c745] at h
      replace h := Option.bind_eq_some_iff.1 h
      obtain ⟨x746, hx746, h⟩ := h
      refine VL.open (m := l0_1.length) 0 lenm rfl (pos_get hx746) ?_
      rintro ad747 n748 rfl
      refine VL.va (op_indexAddr Try.underlying23 TI34 rfl rfl c745 (lt_get c745 hx746) rfl (ltn rfl)) rfl ?_
      refine VL.va (op_load_row (sz := 4) (o := 0) 0 i573.toNat 4 rfl rfl (get_map hx746) TI34 rfl (fun h => absurd h (by decide)) (ltn rfl)) rfl ?_
      refine VL.sG (o_alloc Z34 ZL34 (ltn rfl)) rfl ?_
      intro g749
      refine VL.va (op_assign rfl (ltn rfl)) rfl ?_
      refine VL.step1 (o_store 0 4 rfl rfl rfl TI34 (.agg (.of rfl)) rfl (len rfl)) rfl ?_
      refine VL.done ?_
      refine VN.then ?_
      refine VC.seq ?_
      refine VC.region ?_
      refine VL.va (op_fieldAddr FI34_0 rfl (add_at _ _ _) (ltn rfl)) rfl ?_
      refine VL.va (op_load 0 1 rfl rfl TI3 rfl (by decide) (ltn rfl)) rfl ?_
      replace h := Option.bind_eq_some_iff.1 h
      obtain ⟨t761, hA762, h⟩ := h
      refine VL.sC (o_call0 FO22 (outbox_number.ok x746.f0 t761 hA762) rfl rfl (ltn rfl) (All_of .nil)) rfl ?_
      rintro _ _ _ ⟨rfl, rfl, rfl⟩
      refine VL.va (op_move rfl (ltn rfl)) rfl ?_
      by_cases c763 : t761 = true
      · rw [if_pos c763] at h
        obtain rfl := c763
        refine VL.va (op_fieldAddr FI34_2 rfl (add_at _ _ _) (ltn rfl)) rfl ?_
        refine VL.va (op_load 0 1 rfl rfl TI3 rfl (by decide) (ltn rfl)) rfl ?_
        replace h := Option.bind_eq_some_iff.1 h
        obtain ⟨t764, hA765, h⟩ := h
        refine VL.sC (o_call0 FO22 (outbox_number.ok x746.f2 t764 hA765) rfl rfl (ltn rfl) (All_of .nil)) rfl ?_
        rintro _ _ _ ⟨rfl, rfl, rfl⟩
        refine VL.va (op_pick rfl rfl (ltn rfl)) rfl ?_
        refine VL.va (op_move rfl (ltn rfl)) rfl ?_
        by_cases c766 : t764 = true
        · rw [if_pos c766] at h
          obtain rfl := c766
          refine VL.va (op_fieldAddr FI34_1 rfl (add_at _ _ _) (ltn rfl)) rfl ?_
          refine VL.va (op_load 0 1 rfl rfl TI3 rfl (by decide) (ltn rfl)) rfl ?_
          replace h := Option.bind_eq_some_iff.1 h
          obtain ⟨t767, hA768, h⟩ := h
          refine VL.sC (o_call0 FO21 (outbox_kinds.ok x746.f1 t767 hA768) rfl rfl (ltn rfl) (All_of .nil)) rfl ?_
          rintro _ _ _ ⟨rfl, rfl, rfl⟩
          refine VL.va (op_pick rfl rfl (ltn rfl)) rfl ?_
          refine VL.va (op_move rfl (ltn rfl)) rfl ?_
          by_cases c769 : t767 = true
          · rw [if_pos c769] at h
            obtain rfl := c769
            refine VL.va (op_fieldAddr FI34_3 rfl (add_at _ _ _) (ltn rfl)) rfl ?_
            refine VL.va (op_load 0 1 rfl rfl TI3 rfl (by decide) (ltn rfl)) rfl ?_
            replace h := Option.bind_eq_some_iff.1 h
            obtain ⟨t770, hA771, h⟩ := h
            refine VL.sC (o_call0 FO23 (outbox_time.ok x746.f3 t770 hA771) rfl rfl (ltn rfl) (All_of .nil)) rfl ?_
            rintro _ _ _ ⟨rfl, rfl, rfl⟩
            refine VL.va (op_pick rfl rfl (ltn rfl)) rfl ?_
            refine VL.va (op_assign rfl (ltn rfl)) rfl ?_
            refine VL.done ?_
            refine VN.then ?_
            refine VC.seq ?_
            by_cases c784 : t770 = true
            · rw [if_pos c784] at h
              obtain rfl := c784
              refine VC.letter (decide (x746.f0 ≤ i572)) fun b785 hb785 => ?_
              by_cases c786 : x746.f0 ≤ i572
              · rw [if_pos c786] at h
                obtain rfl : b785 = true := hb785.symm.trans (decide_eq_true c786)
                refine VC.join0 (⟨71, [(1, .pointer (some ⟨g18, 0, none⟩)), (2, .bool false), (3, .int .i64 i572), (4, .int .i64 i573), (5, .pointer (some ⟨g749, 0, none⟩)), (6, .bool true), (8, (.slice (some ad747) l0_1.length n748)), (9, .int .i64 (l0_1.length : Int)), (10, .int .i64 i573), (11, .bool true), (12, .int .i64 i573), (14, .agg #[.int .i64 x746.f0, .int .i64 x746.f1, .int .i64 x746.f2, .int .i64 x746.f3]), (15, .pointer (some ⟨g749, 0, none⟩)), (16, .int .i64 x746.f0), (17, .bool true), (18, .bool true), (19, .pointer (some ⟨g749, 2, none⟩)), (20, .int .i64 x746.f2), (21, .bool true), (22, .bool true), (23, .bool true), (24, .pointer (some ⟨g749, 1, none⟩)), (25, .int .i64 x746.f1), (26, .bool true), (27, .bool true), (28, .bool true), (29, .pointer (some ⟨g749, 3, none⟩)), (30, .int .i64 x746.f3), (31, .bool true), (32, .bool true), (33, .bool true), (34, .bool false), (35, .bool false), (36, .pointer (some ⟨g749, 0, none⟩)), (37, .int .i64 x746.f0), (38, .int .i64 i572), (39, .bool true), (40, .bool true), (41, .bool true), (42, undef), (43, undef), (44, undef), (45, undef), (46, undef), (47, undef), (48, undef), (49, undef), (50, undef), (51, undef), (52, .bool true)], [.row (.slice (some ad747) l0_1.length n748) 4 (l0_1.map enc33)], [(g749, 34, [.int .i64 x746.f0, .int .i64 x746.f1, .int .i64 x746.f2, .int .i64 x746.f3]), (g18, 25, [.int .i64 a0_0, (.slice (some ad747) l0_1.length n748)])], []⟩) (True) ?_ ?_
                · refine VC.draw ⟨0, [], [], [(g749, 34, [.int .i64 x746.f0, .int .i64 x746.f1, .int .i64 x746.f2, .int .i64 x746.f3])], []⟩ (by kernel_rfl) rfl (by kernel_rfl) (n := 20) (listed := LB 20 0) ?_
                  refine VA.va (i := 0) (listed' := LB 20 1) rfl (op_move rfl (ltn rfl)) rfl (by kernel_rfl) (by kernel_rfl) (by kernel_rfl) (by kernel_rfl) ⟨trivial, ⟨⟨0, rfl⟩, trivial⟩, trivial⟩ (fun _ _ _ h => h) ?_
                  refine VA.va (i := 1) (listed' := LB 20 3) rfl (op_not rfl rfl (ltn rfl)) rfl (by kernel_rfl) (by kernel_rfl) (by kernel_rfl) (by kernel_rfl) ⟨trivial, ⟨⟨0, rfl⟩, trivial⟩, trivial⟩ (fun _ _ _ h => h) ?_
                  refine VA.va (i := 2) (listed' := LB 20 7) rfl (op_move rfl (ltn rfl)) rfl (by kernel_rfl) (by kernel_rfl) (by kernel_rfl) (by kernel_rfl) ⟨trivial, ⟨⟨0, rfl⟩, trivial⟩, trivial⟩ (fun _ _ _ h => h) ?_
                  refine VA.va (i := 3) (listed' := LB 20 15) rfl (op_fieldAddr FI34_0 rfl (add_at _ _ _) (ltn rfl)) rfl (by kernel_rfl) (by kernel_rfl) (by kernel_rfl) (by kernel_rfl) ⟨trivial, ⟨⟨0, rfl⟩, trivial⟩, trivial⟩ (fun _ _ _ h => h) ?_
                  refine VA.va (i := 4) (listed' := LB 20 31) rfl (op_load 0 1 rfl rfl TI3 rfl (by decide) (ltn rfl)) rfl (by kernel_rfl) (by kernel_rfl) (by kernel_rfl) (by kernel_rfl) ⟨trivial, ⟨⟨0, rfl⟩, trivial⟩, trivial⟩ (fun _ _ _ h => h) ?_
                  refine VA.va (i := 5) (listed' := LB 20 63) rfl (op_move rfl (ltn rfl)) rfl (by kernel_rfl) (by kernel_rfl) (by kernel_rfl) (by kernel_rfl) ⟨trivial, ⟨⟨0, rfl⟩, trivial⟩, trivial⟩ (fun _ _ _ h => h) ?_
                  refine VA.va (i := 6) (listed' := LB 20 127) rfl (op_cmp rfl rfl (congrArg some hb785) (ltn rfl)) rfl (by kernel_rfl) (by kernel_rfl) (by kernel_rfl) (by kernel_rfl) ⟨trivial, ⟨⟨0, rfl⟩, trivial⟩, trivial⟩ (fun _ _ _ h => h) ?_
                  refine VA.va (i := 7) (listed' := LB 20 255) rfl (op_pick rfl rfl (ltn rfl)) rfl (by kernel_rfl) (by kernel_rfl) (by kernel_rfl) (by kernel_rfl) ⟨trivial, ⟨⟨0, rfl⟩, trivial⟩, trivial⟩ (fun _ _ _ h => h) ?_
                  refine VA.va (i := 8) (listed' := LB 20 511) rfl (op_move rfl (ltn rfl)) rfl (by kernel_rfl) (by kernel_rfl) (by kernel_rfl) (by kernel_rfl) ⟨trivial, ⟨⟨0, rfl⟩, trivial⟩, trivial⟩ (fun _ _ _ h => h) ?_
                  refine VA.un (i := 9) (listed' := LB 20 1023) rfl rfl rfl (ltn rfl) (by kernel_rfl) (by kernel_rfl) (by kernel_rfl) (by kernel_rfl) ⟨trivial, ⟨⟨0, rfl⟩, trivial⟩, trivial⟩ (fun _ _ _ h => h) ?_
                  refine VA.un (i := 10) (listed' := LB 20 2047) rfl rfl rfl (ltn rfl) (by kernel_rfl) (by kernel_rfl) (by kernel_rfl) (by kernel_rfl) ⟨trivial, ⟨⟨0, rfl⟩, trivial⟩, trivial⟩ (fun _ _ _ h => h) ?_
                  refine VA.un (i := 11) (listed' := LB 20 4095) rfl rfl rfl (ltn rfl) (by kernel_rfl) (by kernel_rfl) (by kernel_rfl) (by kernel_rfl) ⟨trivial, ⟨⟨0, rfl⟩, trivial⟩, trivial⟩ (fun _ _ _ h => h) ?_
                  refine VA.un (i := 12) (listed' := LB 20 8191) rfl rfl rfl (ltn rfl) (by kernel_rfl) (by kernel_rfl) (by kernel_rfl) (by kernel_rfl) ⟨trivial, ⟨⟨0, rfl⟩, trivial⟩, trivial⟩ (fun _ _ _ h => h) ?_
                  refine VA.un (i := 13) (listed' := LB 20 16383) rfl rfl rfl (ltn rfl) (by kernel_rfl) (by kernel_rfl) (by kernel_rfl) (by kernel_rfl) ⟨trivial, ⟨⟨0, rfl⟩, trivial⟩, trivial⟩ (fun _ _ _ h => h) ?_
                  refine VA.un (i := 14) (listed' := LB 20 32767) rfl rfl rfl (ltn rfl) (by kernel_rfl) (by kernel_rfl) (by kernel_rfl) (by kernel_rfl) ⟨trivial, ⟨⟨0, rfl⟩, trivial⟩, trivial⟩ (fun _ _ _ h => h) ?_
                  refine VA.un (i := 15) (listed' := LB 20 65535) rfl rfl rfl (ltn rfl) (by kernel_rfl) (by kernel_rfl) (by kernel_rfl) (by kernel_rfl) ⟨trivial, ⟨⟨0, rfl⟩, trivial⟩, trivial⟩ (fun _ _ _ h => h) ?_
                  refine VA.un (i := 16) (listed' := LB 20 131071) rfl rfl rfl (ltn rfl) (by kernel_rfl) (by kernel_rfl) (by kernel_rfl) (by kernel_rfl) ⟨trivial, ⟨⟨0, rfl⟩, trivial⟩, trivial⟩ (fun _ _ _ h => h) ?_
                  refine VA.un (i := 17) (listed' := LB 20 262143) rfl rfl rfl (ltn rfl) (by kernel_rfl) (by kernel_rfl) (by kernel_rfl) (by kernel_rfl) ⟨trivial, ⟨⟨0, rfl⟩, trivial⟩, trivial⟩ (fun _ _ _ h => h) ?_
                  refine VA.un (i := 18) (listed' := LB 20 524287) rfl rfl rfl (ltn rfl) (by kernel_rfl) (by kernel_rfl) (by kernel_rfl) (by kernel_rfl) ⟨trivial, ⟨⟨0, rfl⟩, trivial⟩, trivial⟩ (fun _ _ _ h => h) ?_
                  refine VA.va (i := 19) (listed' := LB 20 1048575) rfl (op_pick rfl rfl (ltn rfl)) rfl (by kernel_rfl) (by kernel_rfl) (by kernel_rfl) (by kernel_rfl) ⟨trivial, ⟨⟨0, rfl⟩, trivial⟩, trivial⟩ (fun _ _ _ h => h) ?_
                  refine VA.done (by kernel_rfl) ?_
                  exact VN.meet0  [0, 1] [] trivial ⟨rfl, ⟨rfl, rfl, rfl, rfl, rfl, rfl, rfl, rfl, rfl, rfl, rfl, rfl, rfl, rfl, rfl, rfl, rfl, rfl, rfl, rfl, rfl, rfl, rfl, rfl, rfl, rfl, rfl, rfl, rfl, rfl, rfl, rfl, rfl, rfl, rfl, rfl, rfl, rfl, rfl, rfl, rfl, rfl, rfl, rfl, rfl, rfl, rfl, rfl, rfl, rfl, trivial⟩, ⟨⟨0, rfl⟩, trivial⟩, rfl, by decide, rfl, by decide⟩
                intro _
                refine VC.cond_t rfl ?_
                refine VC.seq ?_
                refine VC.region ?_
                refine VL.va (op_assign rfl (ltn rfl)) rfl ?_
                refine VL.done ?_
                refine VN.then ?_
                refine VC.ret ?_
                refine VR.then ?_
                refine VR.block ?_
                refine VR.then ?_
                refine VR.then ?_
                refine VR.block ?_
                refine VR.then ?_
                obtain rfl := Option.some.inj h
                exact VR.fn (rs := [.tmp 2]) [] [] [] rfl (.tmp rfl .nil) ⟨rfl, rfl, rfl⟩ trivial rfl (by decide)
              · rw [if_neg c786] at h
                obtain rfl : b785 = false := hb785.symm.trans (decide_eq_false c786)
                replace h := Option.bind_eq_some_iff.1 h
                obtain ⟨⟨t787, t788⟩, hA789, h⟩ := h
                dsimp only at h
                replace h := Option.bind_eq_some_iff.1 h
                obtain ⟨t792, hA793, h⟩ := h
                refine VC.letter ((t792 != i573)) fun b794 hb794 => ?_
                refine VC.join2 (fun (g790 : Nat) (g791 : Nat) => ⟨71, [(1, .pointer (some ⟨g18, 0, none⟩)), (2, .bool false), (3, .int .i64 i572), (4, .int .i64 i573), (5, .pointer (some ⟨g749, 0, none⟩)), (6, .bool true), (8, (.slice (some ad747) l0_1.length n748)), (9, .int .i64 (l0_1.length : Int)), (10, .int .i64 i573), (11, .bool true), (12, .int .i64 i573), (14, .agg #[.int .i64 x746.f0, .int .i64 x746.f1, .int .i64 x746.f2, .int .i64 x746.f3]), (15, .pointer (some ⟨g749, 0, none⟩)), (16, .int .i64 x746.f0), (17, .bool true), (18, .bool true), (19, .pointer (some ⟨g749, 2, none⟩)), (20, .int .i64 x746.f2), (21, .bool true), (22, .bool true), (23, .bool true), (24, .pointer (some ⟨g749, 1, none⟩)), (25, .int .i64 x746.f1), (26, .bool true), (27, .bool true), (28, .bool true), (29, .pointer (some ⟨g749, 3, none⟩)), (30, .int .i64 x746.f3), (31, .bool true), (32, .bool true), (33, .bool true), (34, .bool false), (35, .bool false), (36, .pointer (some ⟨g749, 0, none⟩)), (37, .int .i64 x746.f0), (38, .int .i64 i572), (39, .bool false), (40, .bool false), (41, .bool false), (42, .pointer (some ⟨g18, 1, none⟩)), (43, (.slice (some ad747) l0_1.length n748)), (44, .pointer (some ⟨g749, 1, none⟩)), (45, .int .i64 x746.f1), (46, .pointer (some ⟨g749, 2, none⟩)), (47, .int .i64 x746.f2), (48, (.func (.func 33) #[] #[.pointer (some ⟨g790, 0, none⟩), .pointer (some ⟨g791, 0, none⟩)])), (49, .int .i64 t792), (50, .int .i64 i573), (51, .bool b794), (52, .bool b794)], [.at_ ⟨g790, 0, none⟩ [.int .i64 t787], .at_ ⟨g791, 0, none⟩ [.int .i64 t788], .row (.slice (some ad747) l0_1.length n748) 4 (l0_1.map enc33)], [(g749, 34, [.int .i64 x746.f0, .int .i64 x746.f1, .int .i64 x746.f2, .int .i64 x746.f3]), (g18, 25, [.int .i64 a0_0, (.slice (some ad747) l0_1.length n748)])], []⟩) (fun (g790 : Nat) (g791 : Nat) => True) ?_ ?_
                · refine VC.draw ⟨0, [], [], [(g749, 34, [.int .i64 x746.f0, .int .i64 x746.f1, .int .i64 x746.f2, .int .i64 x746.f3]), (g18, 25, [.int .i64 a0_0, (.slice (some ad747) l0_1.length n748)])], []⟩ (by kernel_rfl) rfl (by kernel_rfl) (n := 20) (listed := LB 20 0) ?_
                  refine VA.va (i := 0) (listed' := LB 20 1) rfl (op_move rfl (ltn rfl)) rfl (by kernel_rfl) (by kernel_rfl) (by kernel_rfl) (by kernel_rfl) ⟨trivial, ⟨⟨0, rfl⟩, ⟨1, rfl⟩, trivial⟩, trivial⟩ (fun _ _ _ h => h) ?_
                  refine VA.va (i := 1) (listed' := LB 20 3) rfl (op_not rfl rfl (ltn rfl)) rfl (by kernel_rfl) (by kernel_rfl) (by kernel_rfl) (by kernel_rfl) ⟨trivial, ⟨⟨0, rfl⟩, ⟨1, rfl⟩, trivial⟩, trivial⟩ (fun _ _ _ h => h) ?_
                  refine VA.va (i := 2) (listed' := LB 20 7) rfl (op_move rfl (ltn rfl)) rfl (by kernel_rfl) (by kernel_rfl) (by kernel_rfl) (by kernel_rfl) ⟨trivial, ⟨⟨0, rfl⟩, ⟨1, rfl⟩, trivial⟩, trivial⟩ (fun _ _ _ h => h) ?_
                  refine VA.va (i := 3) (listed' := LB 20 15) rfl (op_fieldAddr FI34_0 rfl (add_at _ _ _) (ltn rfl)) rfl (by kernel_rfl) (by kernel_rfl) (by kernel_rfl) (by kernel_rfl) ⟨trivial, ⟨⟨0, rfl⟩, ⟨1, rfl⟩, trivial⟩, trivial⟩ (fun _ _ _ h => h) ?_
                  refine VA.va (i := 4) (listed' := LB 20 31) rfl (op_load 0 1 rfl rfl TI3 rfl (by decide) (ltn rfl)) rfl (by kernel_rfl) (by kernel_rfl) (by kernel_rfl) (by kernel_rfl) ⟨trivial, ⟨⟨0, rfl⟩, ⟨1, rfl⟩, trivial⟩, trivial⟩ (fun _ _ _ h => h) ?_
                  refine VA.va (i := 5) (listed' := LB 20 63) rfl (op_move rfl (ltn rfl)) rfl (by kernel_rfl) (by kernel_rfl) (by kernel_rfl) (by kernel_rfl) ⟨trivial, ⟨⟨0, rfl⟩, ⟨1, rfl⟩, trivial⟩, trivial⟩ (fun _ _ _ h => h) ?_
                  refine VA.va (i := 6) (listed' := LB 20 127) rfl (op_cmp rfl rfl (congrArg some hb785) (ltn rfl)) rfl (by kernel_rfl) (by kernel_rfl) (by kernel_rfl) (by kernel_rfl) ⟨trivial, ⟨⟨0, rfl⟩, ⟨1, rfl⟩, trivial⟩, trivial⟩ (fun _ _ _ h => h) ?_
                  refine VA.va (i := 7) (listed' := LB 20 255) rfl (op_pick rfl rfl (ltn rfl)) rfl (by kernel_rfl) (by kernel_rfl) (by kernel_rfl) (by kernel_rfl) ⟨trivial, ⟨⟨0, rfl⟩, ⟨1, rfl⟩, trivial⟩, trivial⟩ (fun _ _ _ h => h) ?_
                  refine VA.va (i := 8) (listed' := LB 20 511) rfl (op_move rfl (ltn rfl)) rfl (by kernel_rfl) (by kernel_rfl) (by kernel_rfl) (by kernel_rfl) ⟨trivial, ⟨⟨0, rfl⟩, ⟨1, rfl⟩, trivial⟩, trivial⟩ (fun _ _ _ h => h) ?_
                  refine VA.va (i := 9) (listed' := LB 20 1023) rfl (op_fieldAddr FI25_1 rfl (add_at _ _ _) (ltn rfl)) rfl (by kernel_rfl) (by kernel_rfl) (by kernel_rfl) (by kernel_rfl) ⟨trivial, ⟨⟨0, rfl⟩, ⟨1, rfl⟩, trivial⟩, trivial⟩ (fun _ _ _ h => h) ?_
                  refine VA.va (i := 10) (listed' := LB 20 2047) rfl (op_load 1 1 rfl rfl TI23 rfl (by decide) (ltn rfl)) rfl (by kernel_rfl) (by kernel_rfl) (by kernel_rfl) (by kernel_rfl) ⟨trivial, ⟨⟨0, rfl⟩, ⟨1, rfl⟩, trivial⟩, trivial⟩ (fun _ _ _ h => h) ?_
                  refine VA.va (i := 11) (listed' := LB 20 4095) rfl (op_fieldAddr FI34_1 rfl (add_at _ _ _) (ltn rfl)) rfl (by kernel_rfl) (by kernel_rfl) (by kernel_rfl) (by kernel_rfl) ⟨trivial, ⟨⟨0, rfl⟩, ⟨1, rfl⟩, trivial⟩, trivial⟩ (fun _ _ _ h => h) ?_
                  refine VA.va (i := 12) (listed' := LB 20 8191) rfl (op_load 0 1 rfl rfl TI3 rfl (by decide) (ltn rfl)) rfl (by kernel_rfl) (by kernel_rfl) (by kernel_rfl) (by kernel_rfl) ⟨trivial, ⟨⟨0, rfl⟩, ⟨1, rfl⟩, trivial⟩, trivial⟩ (fun _ _ _ h => h) ?_
                  refine VA.va (i := 13) (listed' := LB 20 16383) rfl (op_fieldAddr FI34_2 rfl (add_at _ _ _) (ltn rfl)) rfl (by kernel_rfl) (by kernel_rfl) (by kernel_rfl) (by kernel_rfl) ⟨trivial, ⟨⟨0, rfl⟩, ⟨1, rfl⟩, trivial⟩, trivial⟩ (fun _ _ _ h => h) ?_
                  refine VA.va (i := 14) (listed' := LB 20 32767) rfl (op_load 0 1 rfl rfl TI3 rfl (by decide) (ltn rfl)) rfl (by kernel_rfl) (by kernel_rfl) (by kernel_rfl) (by kernel_rfl) ⟨trivial, ⟨⟨0, rfl⟩, ⟨1, rfl⟩, trivial⟩, trivial⟩ (fun _ _ _ h => h) ?_
                  refine VA.va (i := 17) (listed' := LB 20 163839) rfl (op_move rfl (ltn rfl)) rfl (by kernel_rfl) (by kernel_rfl) (by kernel_rfl) (by kernel_rfl) ⟨trivial, ⟨⟨0, rfl⟩, ⟨1, rfl⟩, trivial⟩, trivial⟩ (fun _ _ _ h => h) ?_
                  refine VA.oneC (i := 15) (listed' := LB 20 196607) (by kernel_rfl) rfl (o_call0 FO25 (outbox_of.ok x746.f1 x746.f2 t787 t788 hA789) rfl rfl (ltn rfl) (All_of .nil)) rfl (by kernel_rfl) ?_
                  rintro _ _ _ ⟨g790, g791, rfl, rfl, rfl⟩
                  refine ⟨⟨trivial, ⟨⟨0, rfl⟩, ⟨1, rfl⟩, trivial⟩, trivial⟩, ?_⟩
                  refine VA.oneC (i := 16) (listed' := LB 20 262143) (by kernel_rfl) rfl (o_call0 FO24 (outbox_where_Out.ok k l0_1 t787 t788 (.slice (some ad747) l0_1.length n748) g790 g791 t792 hA793) rfl rfl (ltn rfl) (All_of (.cons (List.mem_of_getElem? (i := 2) rfl) (.cons (List.mem_of_getElem? (i := 0) rfl) (.cons (List.mem_of_getElem? (i := 1) rfl) .nil))))) rfl (by kernel_rfl) ?_
                  rintro _ _ _ ⟨rfl, rfl, rfl⟩
                  refine ⟨⟨trivial, ⟨⟨0, rfl⟩, ⟨1, rfl⟩, trivial⟩, trivial⟩, ?_⟩
                  refine VA.va (i := 18) (listed' := LB 20 524287) rfl (op_cmp rfl rfl (congrArg some hb794) (ltn rfl)) rfl (by kernel_rfl) (by kernel_rfl) (by kernel_rfl) (by kernel_rfl) ⟨trivial, ⟨⟨0, rfl⟩, ⟨1, rfl⟩, trivial⟩, trivial⟩ (fun _ _ _ h => h) ?_
                  refine VA.va (i := 19) (listed' := LB 20 1048575) rfl (op_pick rfl rfl (ltn rfl)) rfl (by kernel_rfl) (by kernel_rfl) (by kernel_rfl) (by kernel_rfl) ⟨trivial, ⟨⟨0, rfl⟩, ⟨1, rfl⟩, trivial⟩, trivial⟩ (fun _ _ _ h => h) ?_
                  refine VA.done (by kernel_rfl) ?_
                  exact VN.meet2 g790 g791 [0, 1] [] trivial ⟨rfl, ⟨rfl, rfl, rfl, rfl, rfl, rfl, rfl, rfl, rfl, rfl, rfl, rfl, rfl, rfl, rfl, rfl, rfl, rfl, rfl, rfl, rfl, rfl, rfl, rfl, rfl, rfl, rfl, rfl, rfl, rfl, rfl, rfl, rfl, rfl, rfl, rfl, rfl, rfl, rfl, rfl, rfl, rfl, rfl, rfl, rfl, rfl, rfl, rfl, rfl, rfl, trivial⟩, ⟨⟨0, rfl⟩, ⟨1, rfl⟩, ⟨2, rfl⟩, trivial⟩, rfl, by decide, rfl, by decide⟩
                intro g790 g791 _
                by_cases c795 : t792 = i573
                · rw [if_pos c795] at h
                  obtain rfl : b794 = false := hb794.symm.trans (bne_eq_false_iff_eq.2 c795)
                  refine VC.cond_f rfl ?_
                  refine VC.skip ?_
                  refine VN.then ?_
                  refine VC.region ?_
                  refine VL.va (op_fieldAddr FI34_0 rfl (add_at _ _ _) (ltn rfl)) rfl ?_
                  refine VL.va (op_load 0 1 rfl rfl TI3 rfl (by decide) (ltn rfl)) rfl ?_
                  refine VL.va (op_assign rfl (ltn rfl)) rfl ?_
                  refine VL.done ?_
                  refine VN.block ?_
                  refine VN.then ?_
                  refine VC.region ?_
                  refine VL.va (op_ari64 rfl rfl rfl (ltn rfl)) rfl ?_
                  refine VL.va (op_move rfl (ltn rfl)) rfl ?_
                  refine VL.done ?_
                  refine VN.again [1] [] (ihl1 x746.f0 (wrap64 (i573 + 1)) h) ⟨rfl, ⟨rfl, rfl, rfl, rfl, rfl, rfl, trivial⟩, ⟨⟨2, rfl⟩, trivial⟩, rfl, by decide, rfl, by decide⟩
                · rw [if_neg c795] at h
                  obtain rfl : b794 = true := hb794.symm.trans (bne_iff_ne.2 c795)
                  refine VC.cond_t rfl ?_
                  refine VC.seq ?_
                  refine VC.region ?_
                  refine VL.va (op_assign rfl (ltn rfl)) rfl ?_
                  refine VL.done ?_
                  refine VN.then ?_
                  refine VC.ret ?_
                  refine VR.then ?_
                  refine VR.block ?_
                  refine VR.then ?_
                  refine VR.then ?_
                  refine VR.block ?_
                  refine VR.then ?_
                  obtain rfl := Option.some.inj h
                  exact VR.fn (rs := [.tmp 2]) [] [] [] rfl (.tmp rfl .nil) ⟨rfl, rfl, rfl⟩ trivial rfl (by decide)
            · rw [if_neg c784] at h
              obtain rfl := Bool.eq_false_iff.2 c784
              refine VC.join0 (⟨71, [(1, .pointer (some ⟨g18, 0, none⟩)), (2, .bool false), (3, .int .i64 i572), (4, .int .i64 i573), (5, .pointer (some ⟨g749, 0, none⟩)), (6, .bool false), (8, (.slice (some ad747) l0_1.length n748)), (9, .int .i64 (l0_1.length : Int)), (10, .int .i64 i573), (11, .bool true), (12, .int .i64 i573), (14, .agg #[.int .i64 x746.f0, .int .i64 x746.f1, .int .i64 x746.f2, .int .i64 x746.f3]), (15, .pointer (some ⟨g749, 0, none⟩)), (16, .int .i64 x746.f0), (17, .bool true), (18, .bool true), (19, .pointer (some ⟨g749, 2, none⟩)), (20, .int .i64 x746.f2), (21, .bool true), (22, .bool true), (23, .bool true), (24, .pointer (some ⟨g749, 1, none⟩)), (25, .int .i64 x746.f1), (26, .bool true), (27, .bool true), (28, .bool true), (29, .pointer (some ⟨g749, 3, none⟩)), (30, .int .i64 x746.f3), (31, .bool false), (32, .bool false), (33, .bool false), (34, .bool true), (35, .bool true), (36, undef), (37, undef), (38, undef), (39, undef), (40, .bool true), (41, .bool true), (42, undef), (43, undef), (44, undef), (45, undef), (46, undef), (47, undef), (48, undef), (49, undef), (50, undef), (51, undef), (52, .bool true)], [.row (.slice (some ad747) l0_1.length n748) 4 (l0_1.map enc33)], [(g749, 34, [.int .i64 x746.f0, .int .i64 x746.f1, .int .i64 x746.f2, .int .i64 x746.f3]), (g18, 25, [.int .i64 a0_0, (.slice (some ad747) l0_1.length n748)])], []⟩) (True) ?_ ?_
              · refine VC.draw ⟨0, [], [], [], []⟩ (by kernel_rfl) rfl (by kernel_rfl) (n := 20) (listed := LB 20 0) ?_
                refine VA.va (i := 0) (listed' := LB 20 1) rfl (op_move rfl (ltn rfl)) rfl (by kernel_rfl) (by kernel_rfl) (by kernel_rfl) (by kernel_rfl) ⟨trivial, trivial, trivial⟩ (fun _ _ _ h => h) ?_
                refine VA.va (i := 1) (listed' := LB 20 3) rfl (op_not rfl rfl (ltn rfl)) rfl (by kernel_rfl) (by kernel_rfl) (by kernel_rfl) (by kernel_rfl) ⟨trivial, trivial, trivial⟩ (fun _ _ _ h => h) ?_
                refine VA.va (i := 2) (listed' := LB 20 7) rfl (op_move rfl (ltn rfl)) rfl (by kernel_rfl) (by kernel_rfl) (by kernel_rfl) (by kernel_rfl) ⟨trivial, trivial, trivial⟩ (fun _ _ _ h => h) ?_
                refine VA.un (i := 3) (listed' := LB 20 15) rfl rfl rfl (ltn rfl) (by kernel_rfl) (by kernel_rfl) (by kernel_rfl) (by kernel_rfl) ⟨trivial, trivial, trivial⟩ (fun _ _ _ h => h) ?_
                refine VA.un (i := 4) (listed' := LB 20 31) rfl rfl rfl (ltn rfl) (by kernel_rfl) (by kernel_rfl) (by kernel_rfl) (by kernel_rfl) ⟨trivial, trivial, trivial⟩ (fun _ _ _ h => h) ?_
                refine VA.un (i := 5) (listed' := LB 20 63) rfl rfl rfl (ltn rfl) (by kernel_rfl) (by kernel_rfl) (by kernel_rfl) (by kernel_rfl) ⟨trivial, trivial, trivial⟩ (fun _ _ _ h => h) ?_
                refine VA.un (i := 6) (listed' := LB 20 127) rfl rfl rfl (ltn rfl) (by kernel_rfl) (by kernel_rfl) (by kernel_rfl) (by kernel_rfl) ⟨trivial, trivial, trivial⟩ (fun _ _ _ h => h) ?_
                refine VA.va (i := 7) (listed' := LB 20 255) rfl (op_pick rfl rfl (ltn rfl)) rfl (by kernel_rfl) (by kernel_rfl) (by kernel_rfl) (by kernel_rfl) ⟨trivial, trivial, trivial⟩ (fun _ _ _ h => h) ?_
                refine VA.va (i := 8) (listed' := LB 20 511) rfl (op_move rfl (ltn rfl)) rfl (by kernel_rfl) (by kernel_rfl) (by kernel_rfl) (by kernel_rfl) ⟨trivial, trivial, trivial⟩ (fun _ _ _ h => h) ?_
                refine VA.un (i := 9) (listed' := LB 20 1023) rfl rfl rfl (ltn rfl) (by kernel_rfl) (by kernel_rfl) (by kernel_rfl) (by kernel_rfl) ⟨trivial, trivial, trivial⟩ (fun _ _ _ h => h) ?_
                refine VA.un (i := 10) (listed' := LB 20 2047) rfl rfl rfl (ltn rfl) (by kernel_rfl) (by kernel_rfl) (by kernel_rfl) (by kernel_rfl) ⟨trivial, trivial, trivial⟩ (fun _ _ _ h => h) ?_
                refine VA.un (i := 11) (listed' := LB 20 4095) rfl rfl rfl (ltn rfl) (by kernel_rfl) (by kernel_rfl) (by kernel_rfl) (by kernel_rfl) ⟨trivial, trivial, trivial⟩ (fun _ _ _ h => h) ?_
                refine VA.un (i := 12) (listed' := LB 20 8191) rfl rfl rfl (ltn rfl) (by kernel_rfl) (by kernel_rfl) (by kernel_rfl) (by kernel_rfl) ⟨trivial, trivial, trivial⟩ (fun _ _ _ h => h) ?_
                refine VA.un (i := 13) (listed' := LB 20 16383) rfl rfl rfl (ltn rfl) (by kernel_rfl) (by kernel_rfl) (by kernel_rfl) (by kernel_rfl) ⟨trivial, trivial, trivial⟩ (fun _ _ _ h => h) ?_
                refine VA.un (i := 14) (listed' := LB 20 32767) rfl rfl rfl (ltn rfl) (by kernel_rfl) (by kernel_rfl) (by kernel_rfl) (by kernel_rfl) ⟨trivial, trivial, trivial⟩ (fun _ _ _ h => h) ?_
                refine VA.un (i := 15) (listed' := LB 20 65535) rfl rfl rfl (ltn rfl) (by kernel_rfl) (by kernel_rfl) (by kernel_rfl) (by kernel_rfl) ⟨trivial, trivial, trivial⟩ (fun _ _ _ h => h) ?_
                refine VA.un (i := 16) (listed' := LB 20 131071) rfl rfl rfl (ltn rfl) (by kernel_rfl) (by kernel_rfl) (by kernel_rfl) (by kernel_rfl) ⟨trivial, trivial, trivial⟩ (fun _ _ _ h => h) ?_
                refine VA.un (i := 17) (listed' := LB 20 262143) rfl rfl rfl (ltn rfl) (by kernel_rfl) (by kernel_rfl) (by kernel_rfl) (by kernel_rfl) ⟨trivial, trivial, trivial⟩ (fun _ _ _ h => h) ?_
                refine VA.un (i := 18) (listed' := LB 20 524287) rfl rfl rfl (ltn rfl) (by kernel_rfl) (by kernel_rfl) (by kernel_rfl) (by kernel_rfl) ⟨trivial, trivial, trivial⟩ (fun _ _ _ h => h) ?_
                refine VA.va (i := 19) (listed' := LB 20 1048575) rfl (op_pick rfl rfl (ltn rfl)) rfl (by kernel_rfl) (by kernel_rfl) (by kernel_rfl) (by kernel_rfl) ⟨trivial, trivial, trivial⟩ (fun _ _ _ h => h) ?_
                refine VA.done (by kernel_rfl) ?_
                exact VN.meet0  [0, 1] [] trivial ⟨rfl, ⟨rfl, rfl, rfl, rfl, rfl, rfl, rfl, rfl, rfl, rfl, rfl, rfl, rfl, rfl, rfl, rfl, rfl, rfl, rfl, rfl, rfl, rfl, rfl, rfl, rfl, rfl, rfl, rfl, rfl, rfl, rfl, rfl, rfl, rfl, rfl, rfl, rfl, rfl, rfl, rfl, rfl, rfl, rfl, rfl, rfl, rfl, rfl, rfl, rfl, rfl, trivial⟩, ⟨⟨0, rfl⟩, trivial⟩, rfl, by decide, rfl, by decide⟩
              intro _
              refine VC.cond_t rfl ?_
              refine VC.seq ?_
              refine VC.region ?_
              refine VL.va (op_assign rfl (ltn rfl)) rfl ?_
              refine VL.done ?_
              refine VN.then ?_
              refine VC.ret ?_
              refine VR.then ?_
              refine VR.block ?_
              refine VR.then ?_
              refine VR.then ?_
              refine VR.block ?_
              refine VR.then ?_
              obtain rfl := Option.some.inj h
              exact VR.fn (rs := [.tmp 2]) [] [] [] rfl (.tmp rfl .nil) ⟨rfl, rfl, rfl⟩ trivial rfl (by decide)
          · rw [if_neg c769] at h
            obtain rfl := Bool.eq_false_iff.2 c769
            refine VL.un rfl rfl (ltn rfl) ?_
            refine VL.un rfl rfl (ltn rfl) ?_
            refine VL.un rfl rfl (ltn rfl) ?_
            refine VL.va (op_pick rfl rfl (ltn rfl)) rfl ?_
            refine VL.va (op_assign rfl (ltn rfl)) rfl ?_
            refine VL.done ?_
            refine VN.then ?_
            refine VC.seq ?_
            refine VC.join0 (⟨71, [(1, .pointer (some ⟨g18, 0, none⟩)), (2, .bool false), (3, .int .i64 i572), (4, .int .i64 i573), (5, .pointer (some ⟨g749, 0, none⟩)), (6, .bool false), (8, (.slice (some ad747) l0_1.length n748)), (9, .int .i64 (l0_1.length : Int)), (10, .int .i64 i573), (11, .bool true), (12, .int .i64 i573), (14, .agg #[.int .i64 x746.f0, .int .i64 x746.f1, .int .i64 x746.f2, .int .i64 x746.f3]), (15, .pointer (some ⟨g749, 0, none⟩)), (16, .int .i64 x746.f0), (17, .bool true), (18, .bool true), (19, .pointer (some ⟨g749, 2, none⟩)), (20, .int .i64 x746.f2), (21, .bool true), (22, .bool true), (23, .bool true), (24, .pointer (some ⟨g749, 1, none⟩)), (25, .int .i64 x746.f1), (26, .bool false), (27, .bool false), (28, .bool false), (29, undef), (30, undef), (31, undef), (32, .bool false), (33, .bool false), (34, .bool true), (35, .bool true), (36, undef), (37, undef), (38, undef), (39, undef), (40, .bool true), (41, .bool true), (42, undef), (43, undef), (44, undef), (45, undef), (46, undef), (47, undef), (48, undef), (49, undef), (50, undef), (51, undef), (52, .bool true)], [.row (.slice (some ad747) l0_1.length n748) 4 (l0_1.map enc33)], [(g749, 34, [.int .i64 x746.f0, .int .i64 x746.f1, .int .i64 x746.f2, .int .i64 x746.f3]), (g18, 25, [.int .i64 a0_0, (.slice (some ad747) l0_1.length n748)])], []⟩) (True) ?_ ?_
            · refine VC.draw ⟨0, [], [], [], []⟩ (by kernel_rfl) rfl (by kernel_rfl) (n := 20) (listed := LB 20 0) ?_
              refine VA.va (i := 0) (listed' := LB 20 1) rfl (op_move rfl (ltn rfl)) rfl (by kernel_rfl) (by kernel_rfl) (by kernel_rfl) (by kernel_rfl) ⟨trivial, trivial, trivial⟩ (fun _ _ _ h => h) ?_
              refine VA.va (i := 1) (listed' := LB 20 3) rfl (op_not rfl rfl (ltn rfl)) rfl (by kernel_rfl) (by kernel_rfl) (by kernel_rfl) (by kernel_rfl) ⟨trivial, trivial, trivial⟩ (fun _ _ _ h => h) ?_
              refine VA.va (i := 2) (listed' := LB 20 7) rfl (op_move rfl (ltn rfl)) rfl (by kernel_rfl) (by kernel_rfl) (by kernel_rfl) (by kernel_rfl) ⟨trivial, trivial, trivial⟩ (fun _ _ _ h => h) ?_
              refine VA.un (i := 3) (listed' := LB 20 15) rfl rfl rfl (ltn rfl) (by kernel_rfl) (by kernel_rfl) (by kernel_rfl) (by kernel_rfl) ⟨trivial, trivial, trivial⟩ (fun _ _ _ h => h) ?_
              refine VA.un (i := 4) (listed' := LB 20 31) rfl rfl rfl (ltn rfl) (by kernel_rfl) (by kernel_rfl) (by kernel_rfl) (by kernel_rfl) ⟨trivial, trivial, trivial⟩ (fun _ _ _ h => h) ?_
              refine VA.un (i := 5) (listed' := LB 20 63) rfl rfl rfl (ltn rfl) (by kernel_rfl) (by kernel_rfl) (by kernel_rfl) (by kernel_rfl) ⟨trivial, trivial, trivial⟩ (fun _ _ _ h => h) ?_
              refine VA.un (i := 6) (listed' := LB 20 127) rfl rfl rfl (ltn rfl) (by kernel_rfl) (by kernel_rfl) (by kernel_rfl) (by kernel_rfl) ⟨trivial, trivial, trivial⟩ (fun _ _ _ h => h) ?_
              refine VA.va (i := 7) (listed' := LB 20 255) rfl (op_pick rfl rfl (ltn rfl)) rfl (by kernel_rfl) (by kernel_rfl) (by kernel_rfl) (by kernel_rfl) ⟨trivial, trivial, trivial⟩ (fun _ _ _ h => h) ?_
              refine VA.va (i := 8) (listed' := LB 20 511) rfl (op_move rfl (ltn rfl)) rfl (by kernel_rfl) (by kernel_rfl) (by kernel_rfl) (by kernel_rfl) ⟨trivial, trivial, trivial⟩ (fun _ _ _ h => h) ?_
              refine VA.un (i := 9) (listed' := LB 20 1023) rfl rfl rfl (ltn rfl) (by kernel_rfl) (by kernel_rfl) (by kernel_rfl) (by kernel_rfl) ⟨trivial, trivial, trivial⟩ (fun _ _ _ h => h) ?_
              refine VA.un (i := 10) (listed' := LB 20 2047) rfl rfl rfl (ltn rfl) (by kernel_rfl) (by kernel_rfl) (by kernel_rfl) (by kernel_rfl) ⟨trivial, trivial, trivial⟩ (fun _ _ _ h => h) ?_
              refine VA.un (i := 11) (listed' := LB 20 4095) rfl rfl rfl (ltn rfl) (by kernel_rfl) (by kernel_rfl) (by kernel_rfl) (by kernel_rfl) ⟨trivial, trivial, trivial⟩ (fun _ _ _ h => h) ?_
              refine VA.un (i := 12) (listed' := LB 20 8191) rfl rfl rfl (ltn rfl) (by kernel_rfl) (by kernel_rfl) (by kernel_rfl) (by kernel_rfl) ⟨trivial, trivial, trivial⟩ (fun _ _ _ h => h) ?_
              refine VA.un (i := 13) (listed' := LB 20 16383) rfl rfl rfl (ltn rfl) (by kernel_rfl) (by kernel_rfl) (by kernel_rfl) (by kernel_rfl) ⟨trivial, trivial, trivial⟩ (fun _ _ _ h => h) ?_
              refine VA.un (i := 14) (listed' := LB 20 32767) rfl rfl rfl (ltn rfl) (by kernel_rfl) (by kernel_rfl) (by kernel_rfl) (by kernel_rfl) ⟨trivial, trivial, trivial⟩ (fun _ _ _ h => h) ?_
              refine VA.un (i := 15) (listed' := LB 20 65535) rfl rfl rfl (ltn rfl) (by kernel_rfl) (by kernel_rfl) (by kernel_rfl) (by kernel_rfl) ⟨trivial, trivial, trivial⟩ (fun _ _ _ h => h) ?_
              refine VA.un (i := 16) (listed' := LB 20 131071) rfl rfl rfl (ltn rfl) (by kernel_rfl) (by kernel_rfl) (by kernel_rfl) (by kernel_rfl) ⟨trivial, trivial, trivial⟩ (fun _ _ _ h => h) ?_
              refine VA.un (i := 17) (listed' := LB 20 262143) rfl rfl rfl (ltn rfl) (by kernel_rfl) (by kernel_rfl) (by kernel_rfl) (by kernel_rfl) ⟨trivial, trivial, trivial⟩ (fun _ _ _ h => h) ?_
              refine VA.un (i := 18) (listed' := LB 20 524287) rfl rfl rfl (ltn rfl) (by kernel_rfl) (by kernel_rfl) (by kernel_rfl) (by kernel_rfl) ⟨trivial, trivial, trivial⟩ (fun _ _ _ h => h) ?_
              refine VA.va (i := 19) (listed' := LB 20 1048575) rfl (op_pick rfl rfl (ltn rfl)) rfl (by kernel_rfl) (by kernel_rfl) (by kernel_rfl) (by kernel_rfl) ⟨trivial, trivial, trivial⟩ (fun _ _ _ h => h) ?_
              refine VA.done (by kernel_rfl) ?_
              exact VN.meet0  [0, 1] [] trivial ⟨rfl, ⟨rfl, rfl, rfl, rfl, rfl, rfl, rfl, rfl, rfl, rfl, rfl, rfl, rfl, rfl, rfl, rfl, rfl, rfl, rfl, rfl, rfl, rfl, rfl, rfl, rfl, rfl, rfl, rfl, rfl, rfl, rfl, rfl, rfl, rfl, rfl, rfl, rfl, rfl, rfl, rfl, rfl, rfl, rfl, rfl, rfl, rfl, rfl, rfl, rfl, rfl, trivial⟩, ⟨⟨0, rfl⟩, trivial⟩, rfl, by decide, rfl, by decide⟩
            intro _
            refine VC.cond_t rfl ?_
            refine VC.seq ?_
            refine VC.region ?_
            refine VL.va (op_assign rfl (ltn rfl)) rfl ?_
            refine VL.done ?_
            refine VN.then ?_
            refine VC.ret ?_
            refine VR.then ?_
            refine VR.block ?_
            refine VR.then ?_
            refine VR.then ?_
            refine VR.block ?_
            refine VR.then ?_
            obtain rfl := Option.some.inj h
            exact VR.fn (rs := [.tmp 2]) [] [] [] rfl (.tmp rfl .nil) ⟨rfl, rfl, rfl⟩ trivial rfl (by decide)
        · rw [if_neg c766] at h
          obtain rfl := Bool.eq_false_iff.2 c766
          refine VL.un rfl rfl (ltn rfl) ?_
          refine VL.un rfl rfl (ltn rfl) ?_
          refine VL.un rfl rfl (ltn rfl) ?_
          refine VL.va (op_pick rfl rfl (ltn rfl)) rfl ?_
          refine VL.va (op_move rfl (ltn rfl)) rfl ?_
          refine VL.un rfl rfl (ltn rfl) ?_
          refine VL.un rfl rfl (ltn rfl) ?_
          refine VL.un rfl rfl (ltn rfl) ?_
          refine VL.va (op_pick rfl rfl (ltn rfl)) rfl ?_
          refine VL.va (op_assign rfl (ltn rfl)) rfl ?_
          refine VL.done ?_
          refine VN.then ?_
          refine VC.seq ?_
          refine VC.join0 (⟨71, [(1, .pointer (some ⟨g18, 0, none⟩)), (2, .bool false), (3, .int .i64 i572), (4, .int .i64 i573), (5, .pointer (some ⟨g749, 0, none⟩)), (6, .bool false), (8, (.slice (some ad747) l0_1.length n748)), (9, .int .i64 (l0_1.length : Int)), (10, .int .i64 i573), (11, .bool true), (12, .int .i64 i573), (14, .agg #[.int .i64 x746.f0, .int .i64 x746.f1, .int .i64 x746.f2, .int .i64 x746.f3]), (15, .pointer (some ⟨g749, 0, none⟩)), (16, .int .i64 x746.f0), (17, .bool true), (18, .bool true), (19, .pointer (some ⟨g749, 2, none⟩)), (20, .int .i64 x746.f2), (21, .bool false), (22, .bool false), (23, .bool false), (24, undef), (25, undef), (26, undef), (27, .bool false), (28, .bool false), (29, undef), (30, undef), (31, undef), (32, .bool false), (33, .bool false), (34, .bool true), (35, .bool true), (36, undef), (37, undef), (38, undef), (39, undef), (40, .bool true), (41, .bool true), (42, undef), (43, undef), (44, undef), (45, undef), (46, undef), (47, undef), (48, undef), (49, undef), (50, undef), (51, undef), (52, .bool true)], [.row (.slice (some ad747) l0_1.length n748) 4 (l0_1.map enc33)], [(g749, 34, [.int .i64 x746.f0, .int .i64 x746.f1, .int .i64 x746.f2, .int .i64 x746.f3]), (g18, 25, [.int .i64 a0_0, (.slice (some ad747) l0_1.length n748)])], []⟩) (True) ?_ ?_
          · refine VC.draw ⟨0, [], [], [], []⟩ (by kernel_rfl) rfl (by kernel_rfl) (n := 20) (listed := LB 20 0) ?_
            refine VA.va (i := 0) (listed' := LB 20 1) rfl (op_move rfl (ltn rfl)) rfl (by kernel_rfl) (by kernel_rfl) (by kernel_rfl) (by kernel_rfl) ⟨trivial, trivial, trivial⟩ (fun _ _ _ h => h) ?_
            refine VA.va (i := 1) (listed' := LB 20 3) rfl (op_not rfl rfl (ltn rfl)) rfl (by kernel_rfl) (by kernel_rfl) (by kernel_rfl) (by kernel_rfl) ⟨trivial, trivial, trivial⟩ (fun _ _ _ h => h) ?_
            refine VA.va (i := 2) (listed' := LB 20 7) rfl (op_move rfl (ltn rfl)) rfl (by kernel_rfl) (by kernel_rfl) (by kernel_rfl) (by kernel_rfl) ⟨trivial, trivial, trivial⟩ (fun _ _ _ h => h) ?_
            refine VA.un (i := 3) (listed' := LB 20 15) rfl rfl rfl (ltn rfl) (by kernel_rfl) (by kernel_rfl) (by kernel_rfl) (by kernel_rfl) ⟨trivial, trivial, trivial⟩ (fun _ _ _ h => h) ?_
            refine VA.un (i := 4) (listed' := LB 20 31) rfl rfl rfl (ltn rfl) (by kernel_rfl) (by kernel_rfl) (by kernel_rfl) (by kernel_rfl) ⟨trivial, trivial, trivial⟩ (fun _ _ _ h => h) ?_
            refine VA.un (i := 5) (listed' := LB 20 63) rfl rfl rfl (ltn rfl) (by kernel_rfl) (by kernel_rfl) (by kernel_rfl) (by kernel_rfl) ⟨trivial, trivial, trivial⟩ (fun _ _ _ h => h) ?_
            refine VA.un (i := 6) (listed' := LB 20 127) rfl rfl rfl (ltn rfl) (by kernel_rfl) (by kernel_rfl) (by kernel_rfl) (by kernel_rfl) ⟨trivial, trivial, trivial⟩ (fun _ _ _ h => h) ?_
            refine VA.va (i := 7) (listed' := LB 20 255) rfl (op_pick rfl rfl (ltn rfl)) rfl (by kernel_rfl) (by kernel_rfl) (by kernel_rfl) (by kernel_rfl) ⟨trivial, trivial, trivial⟩ (fun _ _ _ h => h) ?_
            refine VA.va (i := 8) (listed' := LB 20 511) rfl (op_move rfl (ltn rfl)) rfl (by kernel_rfl) (by kernel_rfl) (by kernel_rfl) (by kernel_rfl) ⟨trivial, trivial, trivial⟩ (fun _ _ _ h => h) ?_
            refine VA.un (i := 9) (listed' := LB 20 1023) rfl rfl rfl (ltn rfl) (by kernel_rfl) (by kernel_rfl) (by kernel_rfl) (by kernel_rfl) ⟨trivial, trivial, trivial⟩ (fun _ _ _ h => h) ?_
            refine VA.un (i := 10) (listed' := LB 20 2047) rfl rfl rfl (ltn rfl) (by kernel_rfl) (by kernel_rfl) (by kernel_rfl) (by kernel_rfl) ⟨trivial, trivial, trivial⟩ (fun _ _ _ h => h) ?_
            refine VA.un (i := 11) (listed' := LB 20 4095) rfl rfl rfl (ltn rfl) (by kernel_rfl) (by kernel_rfl) (by kernel_rfl) (by kernel_rfl) ⟨trivial, trivial, trivial⟩ (fun _ _ _ h => h) ?_
            refine VA.un (i := 12) (listed' := LB 20 8191) rfl rfl rfl (ltn rfl) (by kernel_rfl) (by kernel_rfl) (by kernel_rfl) (by kernel_rfl) ⟨trivial, trivial, trivial⟩ (fun _ _ _ h => h) ?_
            refine VA.un (i := 13) (listed' := LB 20 16383) rfl rfl rfl (ltn rfl) (by kernel_rfl) (by kernel_rfl) (by kernel_rfl) (by kernel_rfl) ⟨trivial, trivial, trivial⟩ (fun _ _ _ h => h) ?_
            refine VA.un (i := 14) (listed' := LB 20 32767) rfl rfl rfl (ltn rfl) (by kernel_rfl) (by kernel_rfl) (by kernel_rfl) (by kernel_rfl) ⟨trivial, trivial, trivial⟩ (fun _ _ _ h => h) ?_
            refine VA.un (i := 15) (listed' := LB 20 65535) rfl rfl rfl (ltn rfl) (by kernel_rfl) (by kernel_rfl) (by kernel_rfl) (by kernel_rfl) ⟨trivial, trivial, trivial⟩ (fun _ _ _ h => h) ?_
            refine VA.un (i := 16) (listed' := LB 20 131071) rfl rfl rfl (ltn rfl) (by kernel_rfl) (by kernel_rfl) (by kernel_rfl) (by kernel_rfl) ⟨trivial, trivial, trivial⟩ (fun _ _ _ h => h) ?_
            refine VA.un (i := 17) (listed' := LB 20 262143) rfl rfl rfl (ltn rfl) (by kernel_rfl) (by kernel_rfl) (by kernel_rfl) (by kernel_rfl) ⟨trivial, trivial, trivial⟩ (fun _ _ _ h => h) ?_
            refine VA.un (i := 18) (listed' := LB 20 524287) rfl rfl rfl (ltn rfl) (by kernel_rfl) (by kernel_rfl) (by kernel_rfl) (by kernel_rfl) ⟨trivial, trivial, trivial⟩ (fun _ _ _ h => h) ?_
            refine VA.va (i := 19) (listed' := LB 20 1048575) rfl (op_pick rfl rfl (ltn rfl)) rfl (by kernel_rfl) (by kernel_rfl) (by kernel_rfl) (by kernel_rfl) ⟨trivial, trivial, trivial⟩ (fun _ _ _ h => h) ?_
            refine VA.done (by kernel_rfl) ?_
            exact VN.meet0  [0, 1] [] trivial ⟨rfl, ⟨rfl, rfl, rfl, rfl, rfl, rfl, rfl, rfl, rfl, rfl, rfl, rfl, rfl, rfl, rfl, rfl, rfl, rfl, rfl, rfl, rfl, rfl, rfl, rfl, rfl, rfl, rfl, rfl, rfl, rfl, rfl, rfl, rfl, rfl, rfl, rfl, rfl, rfl, rfl, rfl, rfl, rfl, rfl, rfl, rfl, rfl, rfl, rfl, rfl, rfl, trivial⟩, ⟨⟨0, rfl⟩, trivial⟩, rfl, by decide, rfl, by decide⟩
          intro _
          refine VC.cond_t rfl ?_
          refine VC.seq ?_
          refine VC.region ?_
          refine VL.va (op_assign rfl (ltn rfl)) rfl ?_
          refine VL.done ?_
          refine VN.then ?_
          refine VC.ret ?_
          refine VR.then ?_
          refine VR.block ?_
          refine VR.then ?_
          refine VR.then ?_
          refine VR.block ?_
          refine VR.then ?_
          obtain rfl := Option.some.inj h
          exact VR.fn (rs := [.tmp 2]) [] [] [] rfl (.tmp rfl .nil) ⟨rfl, rfl, rfl⟩ trivial rfl (by decide)
      · rw [if_neg c763] at h
        obtain rfl := Bool.eq_false_iff.2 c763
        refine VL.un rfl rfl (ltn rfl) ?_
        refine VL.un rfl rfl (ltn rfl) ?_
        refine VL.un rfl rfl (ltn rfl) ?_
        refine VL.va (op_pick rfl rfl (ltn rfl)) rfl ?_
        refine VL.va (op_move rfl (ltn rfl)) rfl ?_
        refine VL.un rfl rfl (ltn rfl) ?_
        refine VL.un rfl rfl (ltn rfl) ?_
        refine VL.un rfl rfl (ltn rfl) ?_
        refine VL.va (op_pick rfl rfl (ltn rfl)) rfl ?_
        refine VL.va (op_move rfl (ltn rfl)) rfl ?_
        refine VL.un rfl rfl (ltn rfl) ?_
        refine VL.un rfl rfl (ltn rfl) ?_
        refine VL.un rfl rfl (ltn rfl) ?_
        refine VL.va (op_pick rfl rfl (ltn rfl)) rfl ?_
        refine VL.va (op_assign rfl (ltn rfl)) rfl ?_
        refine VL.done ?_
        refine VN.then ?_
        refine VC.seq ?_
        refine VC.join0 (⟨71, [(1, .pointer (some ⟨g18, 0, none⟩)), (2, .bool false), (3, .int .i64 i572), (4, .int .i64 i573), (5, .pointer (some ⟨g749, 0, none⟩)), (6, .bool false), (8, (.slice (some ad747) l0_1.length n748)), (9, .int .i64 (l0_1.length : Int)), (10, .int .i64 i573), (11, .bool true), (12, .int .i64 i573), (14, .agg #[.int .i64 x746.f0, .int .i64 x746.f1, .int .i64 x746.f2, .int .i64 x746.f3]), (15, .pointer (some ⟨g749, 0, none⟩)), (16, .int .i64 x746.f0), (17, .bool false), (18, .bool false), (19, undef), (20, undef), (21, undef), (22, .bool false), (23, .bool false), (24, undef), (25, undef), (26, undef), (27, .bool false), (28, .bool false), (29, undef), (30, undef), (31, undef), (32, .bool false), (33, .bool false), (34, .bool true), (35, .bool true), (36, undef), (37, undef), (38, undef), (39, undef), (40, .bool true), (41, .bool true), (42, undef), (43, undef), (44, undef), (45, undef), (46, undef), (47, undef), (48, undef), (49, undef), (50, undef), (51, undef), (52, .bool true)], [.row (.slice (some ad747) l0_1.length n748) 4 (l0_1.map enc33)], [(g749, 34, [.int .i64 x746.f0, .int .i64 x746.f1, .int .i64 x746.f2, .int .i64 x746.f3]), (g18, 25, [.int .i64 a0_0, (.slice (some ad747) l0_1.length n748)])], []⟩) (True) ?_ ?_
        · refine VC.draw ⟨0, [], [], [], []⟩ (by kernel_rfl) rfl (by kernel_rfl) (n := 20) (listed := LB 20 0) ?_
          refine VA.va (i := 0) (listed' := LB 20 1) rfl (op_move rfl (ltn rfl)) rfl (by kernel_rfl) (by kernel_rfl) (by kernel_rfl) (by kernel_rfl) ⟨trivial, trivial, trivial⟩ (fun _ _ _ h => h) ?_
          refine VA.va (i := 1) (listed' := LB 20 3) rfl (op_not rfl rfl (ltn rfl)) rfl (by kernel_rfl) (by kernel_rfl) (by kernel_rfl) (by kernel_rfl) ⟨trivial, trivial, trivial⟩ (fun _ _ _ h => h) ?_
          refine VA.va (i := 2) (listed' := LB 20 7) rfl (op_move rfl (ltn rfl)) rfl (by kernel_rfl) (by kernel_rfl) (by kernel_rfl) (by kernel_rfl) ⟨trivial, trivial, trivial⟩ (fun _ _ _ h => h) ?_
          refine VA.un (i := 3) (listed' := LB 20 15) rfl rfl rfl (ltn rfl) (by kernel_rfl) (by kernel_rfl) (by kernel_rfl) (by kernel_rfl) ⟨trivial, trivial, trivial⟩ (fun _ _ _ h => h) ?_
          refine VA.un (i := 4) (listed' := LB 20 31) rfl rfl rfl (ltn rfl) (by kernel_rfl) (by kernel_rfl) (by kernel_rfl) (by kernel_rfl) ⟨trivial, trivial, trivial⟩ (fun _ _ _ h => h) ?_
          refine VA.un (i := 5) (listed' := LB 20 63) rfl rfl rfl (ltn rfl) (by kernel_rfl) (by kernel_rfl) (by kernel_rfl) (by kernel_rfl) ⟨trivial, trivial, trivial⟩ (fun _ _ _ h => h) ?_
          refine VA.un (i := 6) (listed' := LB 20 127) rfl rfl rfl (ltn rfl) (by kernel_rfl) (by kernel_rfl) (by kernel_rfl) (by kernel_rfl) ⟨trivial, trivial, trivial⟩ (fun _ _ _ h => h) ?_
          refine VA.va (i := 7) (listed' := LB 20 255) rfl (op_pick rfl rfl (ltn rfl)) rfl (by kernel_rfl) (by kernel_rfl) (by kernel_rfl) (by kernel_rfl) ⟨trivial, trivial, trivial⟩ (fun _ _ _ h => h) ?_
          refine VA.va (i := 8) (listed' := LB 20 511) rfl (op_move rfl (ltn rfl)) rfl (by kernel_rfl) (by kernel_rfl) (by kernel_rfl) (by kernel_rfl) ⟨trivial, trivial, trivial⟩ (fun _ _ _ h => h) ?_
          refine VA.un (i := 9) (listed' := LB 20 1023) rfl rfl rfl (ltn rfl) (by kernel_rfl) (by kernel_rfl) (by kernel_rfl) (by kernel_rfl) ⟨trivial, trivial, trivial⟩ (fun _ _ _ h => h) ?_
          refine VA.un (i := 10) (listed' := LB 20 2047) rfl rfl rfl (ltn rfl) (by kernel_rfl) (by kernel_rfl) (by kernel_rfl) (by kernel_rfl) ⟨trivial, trivial, trivial⟩ (fun _ _ _ h => h) ?_
          refine VA.un (i := 11) (listed' := LB 20 4095) rfl rfl rfl (ltn rfl) (by kernel_rfl) (by kernel_rfl) (by kernel_rfl) (by kernel_rfl) ⟨trivial, trivial, trivial⟩ (fun _ _ _ h => h) ?_
          refine VA.un (i := 12) (listed' := LB 20 8191) rfl rfl rfl (ltn rfl) (by kernel_rfl) (by kernel_rfl) (by kernel_rfl) (by kernel_rfl) ⟨trivial, trivial, trivial⟩ (fun _ _ _ h => h) ?_
          refine VA.un (i := 13) (listed' := LB 20 16383) rfl rfl rfl (ltn rfl) (by kernel_rfl) (by kernel_rfl) (by kernel_rfl) (by kernel_rfl) ⟨trivial, trivial, trivial⟩ (fun _ _ _ h => h) ?_
          refine VA.un (i := 14) (listed' := LB 20 32767) rfl rfl rfl (ltn rfl) (by kernel_rfl) (by kernel_rfl) (by kernel_rfl) (by kernel_rfl) ⟨trivial, trivial, trivial⟩ (fun _ _ _ h => h) ?_
          refine VA.un (i := 15) (listed' := LB 20 65535) rfl rfl rfl (ltn rfl) (by kernel_rfl) (by kernel_rfl) (by kernel_rfl) (by kernel_rfl) ⟨trivial, trivial, trivial⟩ (fun _ _ _ h => h) ?_
          refine VA.un (i := 16) (listed' := LB 20 131071) rfl rfl rfl (ltn rfl) (by kernel_rfl) (by kernel_rfl) (by kernel_rfl) (by kernel_rfl) ⟨trivial, trivial, trivial⟩ (fun _ _ _ h => h) ?_
          refine VA.un (i := 17) (listed' := LB 20 262143) rfl rfl rfl (ltn rfl) (by kernel_rfl) (by kernel_rfl) (by kernel_rfl) (by kernel_rfl) ⟨trivial, trivial, trivial⟩ (fun _ _ _ h => h) ?_
          refine VA.un (i := 18) (listed' := LB 20 524287) rfl rfl rfl (ltn rfl) (by kernel_rfl) (by kernel_rfl) (by kernel_rfl) (by kernel_rfl) ⟨trivial, trivial, trivial⟩ (fun _ _ _ h => h) ?_
          refine VA.va (i := 19) (listed' := LB 20 1048575) rfl (op_pick rfl rfl (ltn rfl)) rfl (by kernel_rfl) (by kernel_rfl) (by kernel_rfl) (by kernel_rfl) ⟨trivial, trivial, trivial⟩ (fun _ _ _ h => h) ?_
          refine VA.done (by kernel_rfl) ?_
          exact VN.meet0  [0, 1] [] trivial ⟨rfl, ⟨rfl, rfl, rfl, rfl, rfl, rfl, rfl, rfl, rfl, rfl, rfl, rfl, rfl, rfl, rfl, rfl, rfl, rfl, rfl, rfl, rfl, rfl, rfl, rfl, rfl, rfl, rfl, rfl, rfl, rfl, rfl, rfl, rfl, rfl, rfl, rfl, rfl, rfl, rfl, rfl, rfl, rfl, rfl, rfl, rfl, rfl, rfl, rfl, rfl, rfl, trivial⟩, ⟨⟨0, rfl⟩, trivial⟩, rfl, by decide, rfl, by decide⟩
        intro _
        refine VC.cond_t rfl ?_
        refine VC.seq ?_
        refine VC.region ?_
        refine VL.va (op_assign rfl (ltn rfl)) rfl ?_
        refine VL.done ?_
        refine VN.then ?_
        refine VC.ret ?_
        refine VR.then ?_
        refine VR.block ?_
        refine VR.then ?_
        refine VR.then ?_
        refine VR.block ?_
        refine VR.then ?_
        obtain rfl := Option.some.inj h
        exact VR.fn (rs := [.tmp 2]) [] [] [] rfl (.tmp rfl .nil) ⟨rfl, rfl, rfl⟩ trivial rfl (by decide)
    · rw [if_neg c745] at h; cases h
  · rw [if_neg c693] at h
    obtain rfl : b679 = false := hb679.symm.trans (decide_eq_false c693)
    refine VC.cond_f rfl ?_
    refine VC.exit ?_
    refine VX.then ?_
    refine VX.then ?_
    refine VX.hit ?_
    refine VN.then ?_
    refine VC.seq ?_
    refine VC.region ?_
    refine VL.va (op_fieldAddr FI25_1 rfl (add_at _ _ _) (ltn rfl)) rfl ?_
    refine VL.va (op_load 0 1 rfl rfl TI23 rfl (by decide) (ltn rfl)) rfl ?_
    refine VL.va (op_len (m := l0_1.length) 0 lenm Try.underlying23 rfl rfl (ltn rfl)) rfl ?_
    refine VL.letter (decide ((l0_1.length : Int) ≤ 96)) fun b802 hb802 => ?_
    refine VL.va (op_cmp rfl rfl (congrArg some hb802) (ltn rfl)) rfl ?_
    refine VL.va (op_move rfl (ltn rfl)) rfl ?_
    by_cases c803 : (l0_1.length : Int) ≤ 96
    · rw [if_pos c803] at h
      obtain rfl : b802 = true := hb802.symm.trans (decide_eq_true c803)
      refine VL.va (op_fieldAddr FI25_0 rfl (add_at _ _ _) (ltn rfl)) rfl ?_
      refine VL.va (op_load 0 1 rfl rfl TI3 rfl (by decide) (ltn rfl)) rfl ?_
      replace h := Option.bind_eq_some_iff.1 h
      obtain ⟨t804, hA805, h⟩ := h
      refine VL.sC (o_call0 FO23 (outbox_time.ok a0_0 t804 hA805) rfl rfl (ltn rfl) (All_of .nil)) rfl ?_
      rintro _ _ _ ⟨rfl, rfl, rfl⟩
      refine VL.va (op_pick rfl rfl (ltn rfl)) rfl ?_
      refine VL.va (op_move rfl (ltn rfl)) rfl ?_
      by_cases c806 : t804 = true
      · rw [if_pos c806] at h
        obtain rfl := c806
        refine VL.va (op_move rfl (ltn rfl)) rfl ?_
        refine VL.va (op_fieldAddr FI25_0 rfl (add_at _ _ _) (ltn rfl)) rfl ?_
        refine VL.va (op_load 0 1 rfl rfl TI3 rfl (by decide) (ltn rfl)) rfl ?_
        refine VL.letter (decide (i572 ≤ a0_0)) fun b807 hb807 => ?_
        refine VL.va (op_cmp rfl rfl (congrArg some hb807) (ltn rfl)) rfl ?_
        refine VL.va (op_pick rfl rfl (ltn rfl)) rfl ?_
        refine VL.va (op_assign rfl (ltn rfl)) rfl ?_
        refine VL.done ?_
        refine VN.then ?_
        refine VC.ret ?_
        obtain rfl := Option.some.inj h
        subst hb807
        exact VR.fn (rs := [.tmp 2]) [] [] [] rfl (.tmp rfl .nil) ⟨rfl, rfl, rfl⟩ trivial rfl (by decide)
      · rw [if_neg c806] at h
        obtain rfl := Bool.eq_false_iff.2 c806
        refine VL.un rfl rfl (ltn rfl) ?_
        refine VL.un rfl rfl (ltn rfl) ?_
        refine VL.un rfl rfl (ltn rfl) ?_
        refine VL.un rfl rfl (ltn rfl) ?_
        refine VL.va (op_pick rfl rfl (ltn rfl)) rfl ?_
        refine VL.va (op_assign rfl (ltn rfl)) rfl ?_
        refine VL.done ?_
        refine VN.then ?_
        refine VC.ret ?_
        obtain rfl := Option.some.inj h
        exact VR.fn (rs := [.tmp 2]) [] [] [] rfl (.tmp rfl .nil) ⟨rfl, rfl, rfl⟩ trivial rfl (by decide)
    · rw [if_neg c803] at h
      obtain rfl : b802 = false := hb802.symm.trans (decide_eq_false c803)
      refine VL.un rfl rfl (ltn rfl) ?_
      refine VL.un rfl rfl (ltn rfl) ?_
      refine VL.un rfl rfl (ltn rfl) ?_
      refine VL.va (op_pick rfl rfl (ltn rfl)) rfl ?_
      refine VL.va (op_move rfl (ltn rfl)) rfl ?_
      refine VL.un rfl rfl (ltn rfl) ?_
      refine VL.un rfl rfl (ltn rfl) ?_
      refine VL.un rfl rfl (ltn rfl) ?_
      refine VL.un rfl rfl (ltn rfl) ?_
      refine VL.va (op_pick rfl rfl (ltn rfl)) rfl ?_
      refine VL.va (op_assign rfl (ltn rfl)) rfl ?_
      refine VL.done ?_
      refine VN.then ?_
      refine VC.ret ?_
      obtain rfl := Option.some.inj h
      exact VR.fn (rs := [.tmp 2]) [] [] [] rfl (.tmp rfl .nil) ⟨rfl, rfl, rfl⟩ trivial rfl (by decide)
set_option maxHeartbeats 4000000 in
set_option maxRecDepth 100000 in
theorem slices_Clip_api_Out_api_Out.ok (l0 : List S33) (v0 : Value) (r1 : List S33) (h : slices_Clip_api_Out_api_Out.f l0 = some r1) :
    VCalls Try.prog 26 [v0] [.row v0 4 (l0.map enc33)] (fun v G own => ∃ A : Option Addr, v = .slice A r1.length r1.length ∧ G = [.row (.slice A r1.length r1.length) 4 (r1.map enc33)] ∧ own = []) := by
  obtain rfl := Option.some.inj h
  clear h
  refine VCalls.intro Try.func26 rfl (len rfl) fun E hC hW hD hU => ?_
  refine VC.seq (VC.region ?_)
  refine VL.va (op_assign rfl (ltn rfl)) rfl ?_
  refine VL.done (VN.then ?_)
  refine VC.seq (VC.region ?_)
  refine VL.va (op_move rfl (ltn rfl)) rfl ?_
  refine VL.va (op_move rfl (ltn rfl)) rfl ?_
  refine VL.va (op_len (m := l0.length) 0 lenm Try.underlying23 rfl rfl (ltn rfl)) rfl ?_
  refine VL.va (op_move rfl (ltn rfl)) rfl ?_
  refine VL.va (op_len (m := l0.length) 0 lenm Try.underlying23 rfl rfl (ltn rfl)) rfl ?_
  refine VL.sG (o_clip (m := l0.length) 0 lenm Try.underlying23 TI34 rfl rfl rfl rfl (ltn rfl)) rfl ?_
  intro A
  refine VL.va (op_assign rfl (ltn rfl)) rfl ?_
  refine VL.done (VN.then ?_)
  refine VC.ret ?_
  exact VR.fn (rs := [.tmp 2]) [.row (.slice A l0.length l0.length) 4 (l0.map enc33)] [] [] rfl (.tmp rfl .nil) ⟨_, rfl, rfl, rfl⟩ ⟨⟨0, rfl⟩, trivial⟩ rfl (by decide)

end Go.Proofs.Ytapdeoioenblfaa.POutboxTells
