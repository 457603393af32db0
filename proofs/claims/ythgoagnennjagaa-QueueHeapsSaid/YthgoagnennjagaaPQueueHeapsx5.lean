/- Written by a program of this repo: what the program's functions do, each as a Lean function, shown of the loaded code; or a statement's row over that; no condition of its own. -/
import Derived.Test.YthgoagnennjagaaPQueueHeapsx4
namespace Go.Proofs.Ythgoagnennjagaa.PQueueHeaps
open Go Go.RowKit Go.Proofs.YthgoagnennjagaaV
set_option linter.unusedVariables false
set_option linter.unusedSimpArgs false

set_option maxHeartbeats 4000000 in
set_option maxRecDepth 100000 in
theorem tarryref06_Heap.ok (k : Nat) (l0 : List S23) (v0 : Value) (r1 : Bool) (h : tarryref06_Heap.f k l0 = some r1) :
    VCalls Try.prog 13 [v0] [.row v0 3 (l0.map enc23)] (fun v G own => v = .bool r1 ∧ G = [] ∧ own = []) := by
  refine VCalls.intro Try.func13 rfl (len rfl) fun E hC => ?_
  unfold tarryref06_Heap.f at h
  refine VC.seq ?_
  refine VC.region ?_
  refine VL.va (op_assign rfl (ltn rfl)) rfl ?_
  refine VL.done ?_
  refine VN.then ?_
  refine VC.seq ?_
  refine VC.seq ?_
  refine VC.region ?_
  refine VL.va (op_move rfl (ltn rfl)) rfl ?_
  refine VL.va (op_len (m := l0.length) 0 lenm Try.underlying22 rfl rfl (ltn rfl)) rfl ?_
  refine VL.va (op_move rfl (ltn rfl)) rfl ?_
  refine VL.done ?_
  refine VN.then ?_
  refine VC.block ?_
  refine VC.loop1 (fun (i168118 : Int) => ⟨52, [(0, v0), (2, .bool false), (5, .int .i64 (l0.length : Int)), (6, .int .i64 i168118)], [.row v0 3 (l0.map enc23)], [], []⟩) (fun (ml1 : Nat) (i168118 : Int) => tarryref06_Heap.l1 k l0 ml1 i168118 = some r1) k 0 [] [] h ⟨rfl, ⟨rfl, rfl, rfl, rfl, trivial⟩, ⟨⟨0, rfl⟩, trivial⟩, rfl, by decide, rfl, by decide⟩ (by intros; simp [tarryref06_Heap.l1]) ?_
  clear h
  intro ml1 ihl1 i168118 h
  simp only [tarryref06_Heap.l1] at h
  refine VC.seq ?_
  refine VC.region ?_
  refine VL.letter (decide (i168118 < (l0.length : Int))) fun b168174 hb168174 => ?_
  refine VL.va (op_cmp rfl rfl (congrArg some hb168174) (ltn rfl)) rfl ?_
  refine VL.done ?_
  refine VN.then ?_
  refine VC.seq ?_
  by_cases c168352 : i168118 < (l0.length : Int)
  · rw [if_pos c168352] at h
    obtain rfl : b168174 = true := hb168174.symm.trans (decide_eq_true c168352)
    refine VC.cond_t rfl ?_
    refine VC.skip ?_
    refine VN.then ?_
    refine VC.seq ?_
    refine VC.block ?_
    refine VC.seq ?_
    refine VC.region ?_
    refine VL.va (op_move rfl (ltn rfl)) rfl ?_
    refine VL.va (op_assign rfl (ltn rfl)) rfl ?_
    refine VL.done ?_
    refine VN.then ?_
    refine VC.letter (decide ((wrap64 ((wrap64 (2 * i168118)) + 1)) < (l0.length : Int))) fun b168379 hb168379 => ?_
    by_cases c168380 : (wrap64 ((wrap64 (2 * i168118)) + 1)) < (l0.length : Int)
    · rw [if_pos c168380] at h
      obtain rfl : b168379 = true := hb168379.symm.trans (decide_eq_true c168380)
      by_cases c168381 : 0 ≤ wrap64 ((wrap64 (2 * i168118)) + 1)
      · rw [if_pos c168381] at h
        replace h := Option.bind_eq_some_iff.1 h
        obtain ⟨x168382, hx168382, h⟩ := h
        by_cases c168383 : 0 ≤ i168118
        · rw [if_pos c168383] at h
          replace h := Option.bind_eq_some_iff.1 h
          obtain ⟨x168384, hx168384, h⟩ := h
          replace h := Option.bind_eq_some_iff.1 h
          obtain ⟨t168385, hA168386, h⟩ := h
          by_cases c168387 : t168385 = true
          · rw [if_pos c168387] at h
            obtain rfl := c168387
            refine VC.open (m := l0.length) 0 lenm rfl (pos_get hx168382) ?_
            rintro ad167910 n167911 rfl
            refine VC.join0 (⟨52, [(0, (.slice (some ad167910) l0.length n167911)), (2, .bool false), (3, .int .i64 i168118), (5, .int .i64 (l0.length : Int)), (6, .int .i64 i168118), (7, .bool true), (8, .int .i64 i168118), (9, .int .i64 i168118), (10, .int .i64 (wrap64 (2 * i168118))), (11, .int .i64 (wrap64 ((wrap64 (2 * i168118)) + 1))), (12, (.slice (some ad167910) l0.length n167911)), (13, .int .i64 (l0.length : Int)), (14, .bool true), (15, .bool true), (16, (.slice (some ad167910) l0.length n167911)), (17, .int .i64 i168118), (18, .int .i64 (wrap64 (2 * i168118))), (19, .int .i64 (wrap64 ((wrap64 (2 * i168118)) + 1))), (21, .agg #[.int .i64 x168382.f0, .int .i64 x168382.f1, .int .i64 x168382.f2]), (22, (.slice (some ad167910) l0.length n167911)), (23, .int .i64 i168118), (25, .agg #[.int .i64 x168384.f0, .int .i64 x168384.f1, .int .i64 x168384.f2]), (26, .bool true), (27, .bool true), (28, .bool true), (29, undef), (30, undef), (31, undef), (32, undef), (33, undef), (34, undef), (35, undef), (36, undef), (37, undef), (38, undef), (39, undef), (40, undef), (41, undef), (42, undef), (43, undef), (44, undef), (45, undef), (46, undef), (47, undef), (48, .bool true)], [.row (.slice (some ad167910) l0.length n167911) 3 (l0.map enc23)], [], []⟩) (True) ?_ ?_
            · refine VC.draw ⟨0, [], [.row (.slice (some ad167910) l0.length n167911) 3 (l0.map enc23)], [], []⟩ (by kernel_rfl) rfl (by kernel_rfl) (n := 40) (listed := LB 40 0) ?_
              refine VA.va (i := 0) (listed' := LB 40 1) rfl (op_move rfl (ltn rfl)) rfl (by kernel_rfl) (by kernel_rfl) (by kernel_rfl) (by kernel_rfl) ⟨⟨⟨0, rfl⟩, trivial⟩, trivial, trivial⟩ (fun _ _ _ h => h) ?_
              refine VA.va (i := 1) (listed' := LB 40 3) rfl (op_ari64 rfl rfl rfl (ltn rfl)) rfl (by kernel_rfl) (by kernel_rfl) (by kernel_rfl) (by kernel_rfl) ⟨⟨⟨0, rfl⟩, trivial⟩, trivial, trivial⟩ (fun _ _ _ h => h) ?_
              refine VA.va (i := 2) (listed' := LB 40 7) rfl (op_ari64 rfl rfl rfl (ltn rfl)) rfl (by kernel_rfl) (by kernel_rfl) (by kernel_rfl) (by kernel_rfl) ⟨⟨⟨0, rfl⟩, trivial⟩, trivial, trivial⟩ (fun _ _ _ h => h) ?_
              refine VA.va (i := 3) (listed' := LB 40 15) rfl (op_move rfl (ltn rfl)) rfl (by kernel_rfl) (by kernel_rfl) (by kernel_rfl) (by kernel_rfl) ⟨⟨⟨0, rfl⟩, trivial⟩, trivial, trivial⟩ (fun _ _ _ h => h) ?_
              refine VA.va (i := 4) (listed' := LB 40 31) rfl (op_len (m := l0.length) 0 lenm Try.underlying22 rfl rfl (ltn rfl)) rfl (by kernel_rfl) (by kernel_rfl) (by kernel_rfl) (by kernel_rfl) ⟨⟨⟨0, rfl⟩, trivial⟩, trivial, trivial⟩ (fun _ _ _ h => h) ?_
              refine VA.va (i := 5) (listed' := LB 40 63) rfl (op_cmp rfl rfl (congrArg some hb168379) (ltn rfl)) rfl (by kernel_rfl) (by kernel_rfl) (by kernel_rfl) (by kernel_rfl) ⟨⟨⟨0, rfl⟩, trivial⟩, trivial, trivial⟩ (fun _ _ _ h => h) ?_
              refine VA.va (i := 6) (listed' := LB 40 127) rfl (op_move rfl (ltn rfl)) rfl (by kernel_rfl) (by kernel_rfl) (by kernel_rfl) (by kernel_rfl) ⟨⟨⟨0, rfl⟩, trivial⟩, trivial, trivial⟩ (fun _ _ _ h => h) ?_
              refine VA.va (i := 7) (listed' := LB 40 255) rfl (op_move rfl (ltn rfl)) rfl (by kernel_rfl) (by kernel_rfl) (by kernel_rfl) (by kernel_rfl) ⟨⟨⟨0, rfl⟩, trivial⟩, trivial, trivial⟩ (fun _ _ _ h => h) ?_
              refine VA.va (i := 8) (listed' := LB 40 511) rfl (op_move rfl (ltn rfl)) rfl (by kernel_rfl) (by kernel_rfl) (by kernel_rfl) (by kernel_rfl) ⟨⟨⟨0, rfl⟩, trivial⟩, trivial, trivial⟩ (fun _ _ _ h => h) ?_
              refine VA.va (i := 9) (listed' := LB 40 1023) rfl (op_ari64 rfl rfl rfl (ltn rfl)) rfl (by kernel_rfl) (by kernel_rfl) (by kernel_rfl) (by kernel_rfl) ⟨⟨⟨0, rfl⟩, trivial⟩, trivial, trivial⟩ (fun _ _ _ h => h) ?_
              refine VA.va (i := 10) (listed' := LB 40 2047) rfl (op_ari64 rfl rfl rfl (ltn rfl)) rfl (by kernel_rfl) (by kernel_rfl) (by kernel_rfl) (by kernel_rfl) ⟨⟨⟨0, rfl⟩, trivial⟩, trivial, trivial⟩ (fun _ _ _ h => h) ?_
              refine VA.va (i := 11) (listed' := LB 40 4095) rfl (op_indexAddr Try.underlying22 TI24 rfl rfl c168381 (lt_get c168381 hx168382) rfl (ltn rfl)) rfl (by kernel_rfl) (by kernel_rfl) (by kernel_rfl) (by kernel_rfl) ⟨⟨⟨0, rfl⟩, trivial⟩, trivial, trivial⟩ (fun _ _ _ h => h) ?_
              refine VA.va (i := 12) (listed' := LB 40 8191) rfl (op_load_row (sz := 3) (o := 0) 0 (wrap64 ((wrap64 (2 * i168118)) + 1)).toNat 3 rfl rfl (get_map hx168382) TI24 rfl (fun h => absurd h (by decide)) (ltn rfl)) rfl (by kernel_rfl) (by kernel_rfl) (by kernel_rfl) (by kernel_rfl) ⟨⟨⟨0, rfl⟩, trivial⟩, trivial, trivial⟩ (fun _ _ _ h => h) ?_
              refine VA.va (i := 13) (listed' := LB 40 16383) rfl (op_move rfl (ltn rfl)) rfl (by kernel_rfl) (by kernel_rfl) (by kernel_rfl) (by kernel_rfl) ⟨⟨⟨0, rfl⟩, trivial⟩, trivial, trivial⟩ (fun _ _ _ h => h) ?_
              refine VA.va (i := 14) (listed' := LB 40 32767) rfl (op_move rfl (ltn rfl)) rfl (by kernel_rfl) (by kernel_rfl) (by kernel_rfl) (by kernel_rfl) ⟨⟨⟨0, rfl⟩, trivial⟩, trivial, trivial⟩ (fun _ _ _ h => h) ?_
              refine VA.va (i := 15) (listed' := LB 40 65535) rfl (op_indexAddr Try.underlying22 TI24 rfl rfl c168383 (lt_get c168383 hx168384) rfl (ltn rfl)) rfl (by kernel_rfl) (by kernel_rfl) (by kernel_rfl) (by kernel_rfl) ⟨⟨⟨0, rfl⟩, trivial⟩, trivial, trivial⟩ (fun _ _ _ h => h) ?_
              refine VA.va (i := 16) (listed' := LB 40 131071) rfl (op_load_row (sz := 3) (o := 0) 0 i168118.toNat 3 rfl rfl (get_map hx168384) TI24 rfl (fun h => absurd h (by decide)) (ltn rfl)) rfl (by kernel_rfl) (by kernel_rfl) (by kernel_rfl) (by kernel_rfl) ⟨⟨⟨0, rfl⟩, trivial⟩, trivial, trivial⟩ (fun _ _ _ h => h) ?_
              refine VA.oneC (i := 17) (listed' := LB 40 262143) (by kernel_rfl) rfl (o_call0 FO11 (tarryref06_Less.ok x168382.f0 x168382.f1 x168382.f2 x168384.f0 x168384.f1 x168384.f2 true hA168386) rfl rfl (ltn rfl) (All_of .nil)) rfl (by kernel_rfl) ?_
              rintro _ _ _ ⟨rfl, rfl, rfl⟩
              refine ⟨⟨⟨⟨0, rfl⟩, trivial⟩, trivial, trivial⟩, ?_⟩
              refine VA.va (i := 18) (listed' := LB 40 524287) rfl (op_pick rfl rfl (ltn rfl)) rfl (by kernel_rfl) (by kernel_rfl) (by kernel_rfl) (by kernel_rfl) ⟨⟨⟨0, rfl⟩, trivial⟩, trivial, trivial⟩ (fun _ _ _ h => h) ?_
              refine VA.va (i := 19) (listed' := LB 40 1048575) rfl (op_move rfl (ltn rfl)) rfl (by kernel_rfl) (by kernel_rfl) (by kernel_rfl) (by kernel_rfl) ⟨⟨⟨0, rfl⟩, trivial⟩, trivial, trivial⟩ (fun _ _ _ h => h) ?_
              refine VA.un (i := 20) (listed' := LB 40 2097151) rfl rfl rfl (ltn rfl) (by kernel_rfl) (by kernel_rfl) (by kernel_rfl) (by kernel_rfl) ⟨⟨⟨0, rfl⟩, trivial⟩, trivial, trivial⟩ (fun _ _ _ h => h) ?_
              refine VA.un (i := 21) (listed' := LB 40 4194303) rfl rfl rfl (ltn rfl) (by kernel_rfl) (by kernel_rfl) (by kernel_rfl) (by kernel_rfl) ⟨⟨⟨0, rfl⟩, trivial⟩, trivial, trivial⟩ (fun _ _ _ h => h) ?_
              refine VA.un (i := 22) (listed' := LB 40 8388607) rfl rfl rfl (ltn rfl) (by kernel_rfl) (by kernel_rfl) (by kernel_rfl) (by kernel_rfl) ⟨⟨⟨0, rfl⟩, trivial⟩, trivial, trivial⟩ (fun _ _ _ h => h) ?_
              refine VA.un (i := 23) (listed' := LB 40 16777215) rfl rfl rfl (ltn rfl) (by kernel_rfl) (by kernel_rfl) (by kernel_rfl) (by kernel_rfl) ⟨⟨⟨0, rfl⟩, trivial⟩, trivial, trivial⟩ (fun _ _ _ h => h) ?_
              refine VA.un (i := 24) (listed' := LB 40 33554431) rfl rfl rfl (ltn rfl) (by kernel_rfl) (by kernel_rfl) (by kernel_rfl) (by kernel_rfl) ⟨⟨⟨0, rfl⟩, trivial⟩, trivial, trivial⟩ (fun _ _ _ h => h) ?_
              refine VA.un (i := 25) (listed' := LB 40 67108863) rfl rfl rfl (ltn rfl) (by kernel_rfl) (by kernel_rfl) (by kernel_rfl) (by kernel_rfl) ⟨⟨⟨0, rfl⟩, trivial⟩, trivial, trivial⟩ (fun _ _ _ h => h) ?_
              refine VA.un (i := 26) (listed' := LB 40 134217727) rfl rfl rfl (ltn rfl) (by kernel_rfl) (by kernel_rfl) (by kernel_rfl) (by kernel_rfl) ⟨⟨⟨0, rfl⟩, trivial⟩, trivial, trivial⟩ (fun _ _ _ h => h) ?_
              refine VA.un (i := 27) (listed' := LB 40 268435455) rfl rfl rfl (ltn rfl) (by kernel_rfl) (by kernel_rfl) (by kernel_rfl) (by kernel_rfl) ⟨⟨⟨0, rfl⟩, trivial⟩, trivial, trivial⟩ (fun _ _ _ h => h) ?_
              refine VA.un (i := 28) (listed' := LB 40 536870911) rfl rfl rfl (ltn rfl) (by kernel_rfl) (by kernel_rfl) (by kernel_rfl) (by kernel_rfl) ⟨⟨⟨0, rfl⟩, trivial⟩, trivial, trivial⟩ (fun _ _ _ h => h) ?_
              refine VA.un (i := 29) (listed' := LB 40 1073741823) rfl rfl rfl (ltn rfl) (by kernel_rfl) (by kernel_rfl) (by kernel_rfl) (by kernel_rfl) ⟨⟨⟨0, rfl⟩, trivial⟩, trivial, trivial⟩ (fun _ _ _ h => h) ?_
              refine VA.un (i := 30) (listed' := LB 40 2147483647) rfl rfl rfl (ltn rfl) (by kernel_rfl) (by kernel_rfl) (by kernel_rfl) (by kernel_rfl) ⟨⟨⟨0, rfl⟩, trivial⟩, trivial, trivial⟩ (fun _ _ _ h => h) ?_
              refine VA.un (i := 31) (listed' := LB 40 4294967295) rfl rfl rfl (ltn rfl) (by kernel_rfl) (by kernel_rfl) (by kernel_rfl) (by kernel_rfl) ⟨⟨⟨0, rfl⟩, trivial⟩, trivial, trivial⟩ (fun _ _ _ h => h) ?_
              refine VA.un (i := 32) (listed' := LB 40 8589934591) rfl rfl rfl (ltn rfl) (by kernel_rfl) (by kernel_rfl) (by kernel_rfl) (by kernel_rfl) ⟨⟨⟨0, rfl⟩, trivial⟩, trivial, trivial⟩ (fun _ _ _ h => h) ?_
              refine VA.un (i := 33) (listed' := LB 40 17179869183) rfl rfl rfl (ltn rfl) (by kernel_rfl) (by kernel_rfl) (by kernel_rfl) (by kernel_rfl) ⟨⟨⟨0, rfl⟩, trivial⟩, trivial, trivial⟩ (fun _ _ _ h => h) ?_
              refine VA.un (i := 34) (listed' := LB 40 34359738367) rfl rfl rfl (ltn rfl) (by kernel_rfl) (by kernel_rfl) (by kernel_rfl) (by kernel_rfl) ⟨⟨⟨0, rfl⟩, trivial⟩, trivial, trivial⟩ (fun _ _ _ h => h) ?_
              refine VA.un (i := 35) (listed' := LB 40 68719476735) rfl rfl rfl (ltn rfl) (by kernel_rfl) (by kernel_rfl) (by kernel_rfl) (by kernel_rfl) ⟨⟨⟨0, rfl⟩, trivial⟩, trivial, trivial⟩ (fun _ _ _ h => h) ?_
              refine VA.un (i := 36) (listed' := LB 40 137438953471) rfl rfl rfl (ltn rfl) (by kernel_rfl) (by kernel_rfl) (by kernel_rfl) (by kernel_rfl) ⟨⟨⟨0, rfl⟩, trivial⟩, trivial, trivial⟩ (fun _ _ _ h => h) ?_
              refine VA.un (i := 37) (listed' := LB 40 274877906943) rfl rfl rfl (ltn rfl) (by kernel_rfl) (by kernel_rfl) (by kernel_rfl) (by kernel_rfl) ⟨⟨⟨0, rfl⟩, trivial⟩, trivial, trivial⟩ (fun _ _ _ h => h) ?_
              refine VA.un (i := 38) (listed' := LB 40 549755813887) rfl rfl rfl (ltn rfl) (by kernel_rfl) (by kernel_rfl) (by kernel_rfl) (by kernel_rfl) ⟨⟨⟨0, rfl⟩, trivial⟩, trivial, trivial⟩ (fun _ _ _ h => h) ?_
              refine VA.va (i := 39) (listed' := LB 40 1099511627775) rfl (op_pick rfl rfl (ltn rfl)) rfl (by kernel_rfl) (by kernel_rfl) (by kernel_rfl) (by kernel_rfl) ⟨⟨⟨0, rfl⟩, trivial⟩, trivial, trivial⟩ (fun _ _ _ h => h) ?_
              refine VA.done (by kernel_rfl) ?_
              exact VN.meet0  [] [] trivial ⟨rfl, ⟨rfl, rfl, rfl, rfl, rfl, rfl, rfl, rfl, rfl, rfl, rfl, rfl, rfl, rfl, rfl, rfl, rfl, rfl, rfl, rfl, rfl, rfl, rfl, rfl, rfl, rfl, rfl, rfl, rfl, rfl, rfl, rfl, rfl, rfl, rfl, rfl, rfl, rfl, rfl, rfl, rfl, rfl, rfl, rfl, rfl, trivial⟩, ⟨⟨0, rfl⟩, trivial⟩, rfl, by decide, rfl, by decide⟩
            intro _
            refine VC.cond_t rfl ?_
            refine VC.seq ?_
            refine VC.region ?_
            refine VL.va (op_assign rfl (ltn rfl)) rfl ?_
            refine VL.done ?_
            refine VN.then ?_
            refine VC.ret ?_
            refine VR.block ?_
            refine VR.then ?_
            refine VR.then ?_
            refine VR.block ?_
            refine VR.then ?_
            obtain rfl := Option.some.inj h
            exact VR.fn (rs := [.tmp 2]) [] [] [] rfl (.tmp rfl .nil) ⟨rfl, rfl, rfl⟩ trivial rfl (by decide)
          · rw [if_neg c168387] at h
            obtain rfl := Bool.eq_false_iff.2 c168387
            refine VC.letter (decide ((wrap64 ((wrap64 (2 * i168118)) + 2)) < (l0.length : Int))) fun b168388 hb168388 => ?_
            by_cases c168389 : (wrap64 ((wrap64 (2 * i168118)) + 2)) < (l0.length : Int)
            · rw [if_pos c168389] at h
              obtain rfl : b168388 = true := hb168388.symm.trans (decide_eq_true c168389)
              by_cases c168390 : 0 ≤ wrap64 ((wrap64 (2 * i168118)) + 2)
              · rw [if_pos c168390] at h
                replace h := Option.bind_eq_some_iff.1 h
                obtain ⟨x168391, hx168391, h⟩ := h
                replace h := Option.bind_eq_some_iff.1 h
                obtain ⟨x168392, hx168392, h⟩ := h
                replace h := Option.bind_eq_some_iff.1 h
                obtain ⟨t168393, hA168394, h⟩ := h
                refine VC.open (m := l0.length) 0 lenm rfl (pos_get hx168382) ?_
                rintro ad167910 n167911 rfl
                refine VC.join0 (⟨52, [(0, (.slice (some ad167910) l0.length n167911)), (2, .bool false), (3, .int .i64 i168118), (5, .int .i64 (l0.length : Int)), (6, .int .i64 i168118), (7, .bool true), (8, .int .i64 i168118), (9, .int .i64 i168118), (10, .int .i64 (wrap64 (2 * i168118))), (11, .int .i64 (wrap64 ((wrap64 (2 * i168118)) + 1))), (12, (.slice (some ad167910) l0.length n167911)), (13, .int .i64 (l0.length : Int)), (14, .bool true), (15, .bool true), (16, (.slice (some ad167910) l0.length n167911)), (17, .int .i64 i168118), (18, .int .i64 (wrap64 (2 * i168118))), (19, .int .i64 (wrap64 ((wrap64 (2 * i168118)) + 1))), (21, .agg #[.int .i64 x168382.f0, .int .i64 x168382.f1, .int .i64 x168382.f2]), (22, (.slice (some ad167910) l0.length n167911)), (23, .int .i64 i168118), (25, .agg #[.int .i64 x168384.f0, .int .i64 x168384.f1, .int .i64 x168384.f2]), (26, .bool false), (27, .bool false), (28, .bool false), (29, .int .i64 i168118), (30, .int .i64 (wrap64 (2 * i168118))), (31, .int .i64 (wrap64 ((wrap64 (2 * i168118)) + 2))), (32, (.slice (some ad167910) l0.length n167911)), (33, .int .i64 (l0.length : Int)), (34, .bool true), (35, .bool true), (36, (.slice (some ad167910) l0.length n167911)), (37, .int .i64 i168118), (38, .int .i64 (wrap64 (2 * i168118))), (39, .int .i64 (wrap64 ((wrap64 (2 * i168118)) + 2))), (41, .agg #[.int .i64 x168391.f0, .int .i64 x168391.f1, .int .i64 x168391.f2]), (42, (.slice (some ad167910) l0.length n167911)), (43, .int .i64 i168118), (45, .agg #[.int .i64 x168392.f0, .int .i64 x168392.f1, .int .i64 x168392.f2]), (46, .bool t168393), (47, .bool t168393), (48, .bool t168393)], [.row (.slice (some ad167910) l0.length n167911) 3 (l0.map enc23)], [], []⟩) (True) ?_ ?_
                · refine VC.draw ⟨0, [], [.row (.slice (some ad167910) l0.length n167911) 3 (l0.map enc23)], [], []⟩ (by kernel_rfl) rfl (by kernel_rfl) (n := 40) (listed := LB 40 0) ?_
                  refine VA.va (i := 0) (listed' := LB 40 1) rfl (op_move rfl (ltn rfl)) rfl (by kernel_rfl) (by kernel_rfl) (by kernel_rfl) (by kernel_rfl) ⟨⟨⟨0, rfl⟩, trivial⟩, trivial, trivial⟩ (fun _ _ _ h => h) ?_
                  refine VA.va (i := 1) (listed' := LB 40 3) rfl (op_ari64 rfl rfl rfl (ltn rfl)) rfl (by kernel_rfl) (by kernel_rfl) (by kernel_rfl) (by kernel_rfl) ⟨⟨⟨0, rfl⟩, trivial⟩, trivial, trivial⟩ (fun _ _ _ h => h) ?_
                  refine VA.va (i := 2) (listed' := LB 40 7) rfl (op_ari64 rfl rfl rfl (ltn rfl)) rfl (by kernel_rfl) (by kernel_rfl) (by kernel_rfl) (by kernel_rfl) ⟨⟨⟨0, rfl⟩, trivial⟩, trivial, trivial⟩ (fun _ _ _ h => h) ?_
                  refine VA.va (i := 3) (listed' := LB 40 15) rfl (op_move rfl (ltn rfl)) rfl (by kernel_rfl) (by kernel_rfl) (by kernel_rfl) (by kernel_rfl) ⟨⟨⟨0, rfl⟩, trivial⟩, trivial, trivial⟩ (fun _ _ _ h => h) ?_
                  refine VA.va (i := 4) (listed' := LB 40 31) rfl (op_len (m := l0.length) 0 lenm Try.underlying22 rfl rfl (ltn rfl)) rfl (by kernel_rfl) (by kernel_rfl) (by kernel_rfl) (by kernel_rfl) ⟨⟨⟨0, rfl⟩, trivial⟩, trivial, trivial⟩ (fun _ _ _ h => h) ?_
                  refine VA.va (i := 5) (listed' := LB 40 63) rfl (op_cmp rfl rfl (congrArg some hb168379) (ltn rfl)) rfl (by kernel_rfl) (by kernel_rfl) (by kernel_rfl) (by kernel_rfl) ⟨⟨⟨0, rfl⟩, trivial⟩, trivial, trivial⟩ (fun _ _ _ h => h) ?_
                  refine VA.va (i := 6) (listed' := LB 40 127) rfl (op_move rfl (ltn rfl)) rfl (by kernel_rfl) (by kernel_rfl) (by kernel_rfl) (by kernel_rfl) ⟨⟨⟨0, rfl⟩, trivial⟩, trivial, trivial⟩ (fun _ _ _ h => h) ?_
                  refine VA.va (i := 7) (listed' := LB 40 255) rfl (op_move rfl (ltn rfl)) rfl (by kernel_rfl) (by kernel_rfl) (by kernel_rfl) (by kernel_rfl) ⟨⟨⟨0, rfl⟩, trivial⟩, trivial, trivial⟩ (fun _ _ _ h => h) ?_
                  refine VA.va (i := 8) (listed' := LB 40 511) rfl (op_move rfl (ltn rfl)) rfl (by kernel_rfl) (by kernel_rfl) (by kernel_rfl) (by kernel_rfl) ⟨⟨⟨0, rfl⟩, trivial⟩, trivial, trivial⟩ (fun _ _ _ h => h) ?_
                  refine VA.va (i := 9) (listed' := LB 40 1023) rfl (op_ari64 rfl rfl rfl (ltn rfl)) rfl (by kernel_rfl) (by kernel_rfl) (by kernel_rfl) (by kernel_rfl) ⟨⟨⟨0, rfl⟩, trivial⟩, trivial, trivial⟩ (fun _ _ _ h => h) ?_
                  refine VA.va (i := 10) (listed' := LB 40 2047) rfl (op_ari64 rfl rfl rfl (ltn rfl)) rfl (by kernel_rfl) (by kernel_rfl) (by kernel_rfl) (by kernel_rfl) ⟨⟨⟨0, rfl⟩, trivial⟩, trivial, trivial⟩ (fun _ _ _ h => h) ?_
                  refine VA.va (i := 11) (listed' := LB 40 4095) rfl (op_indexAddr Try.underlying22 TI24 rfl rfl c168381 (lt_get c168381 hx168382) rfl (ltn rfl)) rfl (by kernel_rfl) (by kernel_rfl) (by kernel_rfl) (by kernel_rfl) ⟨⟨⟨0, rfl⟩, trivial⟩, trivial, trivial⟩ (fun _ _ _ h => h) ?_
                  refine VA.va (i := 12) (listed' := LB 40 8191) rfl (op_load_row (sz := 3) (o := 0) 0 (wrap64 ((wrap64 (2 * i168118)) + 1)).toNat 3 rfl rfl (get_map hx168382) TI24 rfl (fun h => absurd h (by decide)) (ltn rfl)) rfl (by kernel_rfl) (by kernel_rfl) (by kernel_rfl) (by kernel_rfl) ⟨⟨⟨0, rfl⟩, trivial⟩, trivial, trivial⟩ (fun _ _ _ h => h) ?_
                  refine VA.va (i := 13) (listed' := LB 40 16383) rfl (op_move rfl (ltn rfl)) rfl (by kernel_rfl) (by kernel_rfl) (by kernel_rfl) (by kernel_rfl) ⟨⟨⟨0, rfl⟩, trivial⟩, trivial, trivial⟩ (fun _ _ _ h => h) ?_
                  refine VA.va (i := 14) (listed' := LB 40 32767) rfl (op_move rfl (ltn rfl)) rfl (by kernel_rfl) (by kernel_rfl) (by kernel_rfl) (by kernel_rfl) ⟨⟨⟨0, rfl⟩, trivial⟩, trivial, trivial⟩ (fun _ _ _ h => h) ?_
                  refine VA.va (i := 15) (listed' := LB 40 65535) rfl (op_indexAddr Try.underlying22 TI24 rfl rfl c168383 (lt_get c168383 hx168384) rfl (ltn rfl)) rfl (by kernel_rfl) (by kernel_rfl) (by kernel_rfl) (by kernel_rfl) ⟨⟨⟨0, rfl⟩, trivial⟩, trivial, trivial⟩ (fun _ _ _ h => h) ?_
                  refine VA.va (i := 16) (listed' := LB 40 131071) rfl (op_load_row (sz := 3) (o := 0) 0 i168118.toNat 3 rfl rfl (get_map hx168384) TI24 rfl (fun h => absurd h (by decide)) (ltn rfl)) rfl (by kernel_rfl) (by kernel_rfl) (by kernel_rfl) (by kernel_rfl) ⟨⟨⟨0, rfl⟩, trivial⟩, trivial, trivial⟩ (fun _ _ _ h => h) ?_
                  refine VA.oneC (i := 17) (listed' := LB 40 262143) (by kernel_rfl) rfl (o_call0 FO11 (tarryref06_Less.ok x168382.f0 x168382.f1 x168382.f2 x168384.f0 x168384.f1 x168384.f2 false hA168386) rfl rfl (ltn rfl) (All_of .nil)) rfl (by kernel_rfl) ?_
                  rintro _ _ _ ⟨rfl, rfl, rfl⟩
                  refine ⟨⟨⟨⟨0, rfl⟩, trivial⟩, trivial, trivial⟩, ?_⟩
                  refine VA.va (i := 18) (listed' := LB 40 524287) rfl (op_pick rfl rfl (ltn rfl)) rfl (by kernel_rfl) (by kernel_rfl) (by kernel_rfl) (by kernel_rfl) ⟨⟨⟨0, rfl⟩, trivial⟩, trivial, trivial⟩ (fun _ _ _ h => h) ?_
                  refine VA.va (i := 19) (listed' := LB 40 1048575) rfl (op_move rfl (ltn rfl)) rfl (by kernel_rfl) (by kernel_rfl) (by kernel_rfl) (by kernel_rfl) ⟨⟨⟨0, rfl⟩, trivial⟩, trivial, trivial⟩ (fun _ _ _ h => h) ?_
                  refine VA.va (i := 20) (listed' := LB 40 2097151) rfl (op_move rfl (ltn rfl)) rfl (by kernel_rfl) (by kernel_rfl) (by kernel_rfl) (by kernel_rfl) ⟨⟨⟨0, rfl⟩, trivial⟩, trivial, trivial⟩ (fun _ _ _ h => h) ?_
                  refine VA.va (i := 21) (listed' := LB 40 4194303) rfl (op_ari64 rfl rfl rfl (ltn rfl)) rfl (by kernel_rfl) (by kernel_rfl) (by kernel_rfl) (by kernel_rfl) ⟨⟨⟨0, rfl⟩, trivial⟩, trivial, trivial⟩ (fun _ _ _ h => h) ?_
                  refine VA.va (i := 22) (listed' := LB 40 8388607) rfl (op_ari64 rfl rfl rfl (ltn rfl)) rfl (by kernel_rfl) (by kernel_rfl) (by kernel_rfl) (by kernel_rfl) ⟨⟨⟨0, rfl⟩, trivial⟩, trivial, trivial⟩ (fun _ _ _ h => h) ?_
                  refine VA.va (i := 23) (listed' := LB 40 16777215) rfl (op_move rfl (ltn rfl)) rfl (by kernel_rfl) (by kernel_rfl) (by kernel_rfl) (by kernel_rfl) ⟨⟨⟨0, rfl⟩, trivial⟩, trivial, trivial⟩ (fun _ _ _ h => h) ?_
                  refine VA.va (i := 24) (listed' := LB 40 33554431) rfl (op_len (m := l0.length) 0 lenm Try.underlying22 rfl rfl (ltn rfl)) rfl (by kernel_rfl) (by kernel_rfl) (by kernel_rfl) (by kernel_rfl) ⟨⟨⟨0, rfl⟩, trivial⟩, trivial, trivial⟩ (fun _ _ _ h => h) ?_
                  refine VA.va (i := 25) (listed' := LB 40 67108863) rfl (op_cmp rfl rfl (congrArg some hb168388) (ltn rfl)) rfl (by kernel_rfl) (by kernel_rfl) (by kernel_rfl) (by kernel_rfl) ⟨⟨⟨0, rfl⟩, trivial⟩, trivial, trivial⟩ (fun _ _ _ h => h) ?_
                  refine VA.va (i := 26) (listed' := LB 40 134217727) rfl (op_move rfl (ltn rfl)) rfl (by kernel_rfl) (by kernel_rfl) (by kernel_rfl) (by kernel_rfl) ⟨⟨⟨0, rfl⟩, trivial⟩, trivial, trivial⟩ (fun _ _ _ h => h) ?_
                  refine VA.va (i := 27) (listed' := LB 40 268435455) rfl (op_move rfl (ltn rfl)) rfl (by kernel_rfl) (by kernel_rfl) (by kernel_rfl) (by kernel_rfl) ⟨⟨⟨0, rfl⟩, trivial⟩, trivial, trivial⟩ (fun _ _ _ h => h) ?_
                  refine VA.va (i := 28) (listed' := LB 40 536870911) rfl (op_move rfl (ltn rfl)) rfl (by kernel_rfl) (by kernel_rfl) (by kernel_rfl) (by kernel_rfl) ⟨⟨⟨0, rfl⟩, trivial⟩, trivial, trivial⟩ (fun _ _ _ h => h) ?_
                  refine VA.va (i := 29) (listed' := LB 40 1073741823) rfl (op_ari64 rfl rfl rfl (ltn rfl)) rfl (by kernel_rfl) (by kernel_rfl) (by kernel_rfl) (by kernel_rfl) ⟨⟨⟨0, rfl⟩, trivial⟩, trivial, trivial⟩ (fun _ _ _ h => h) ?_
                  refine VA.va (i := 30) (listed' := LB 40 2147483647) rfl (op_ari64 rfl rfl rfl (ltn rfl)) rfl (by kernel_rfl) (by kernel_rfl) (by kernel_rfl) (by kernel_rfl) ⟨⟨⟨0, rfl⟩, trivial⟩, trivial, trivial⟩ (fun _ _ _ h => h) ?_
                  refine VA.va (i := 31) (listed' := LB 40 4294967295) rfl (op_indexAddr Try.underlying22 TI24 rfl rfl c168390 (lt_get c168390 hx168391) rfl (ltn rfl)) rfl (by kernel_rfl) (by kernel_rfl) (by kernel_rfl) (by kernel_rfl) ⟨⟨⟨0, rfl⟩, trivial⟩, trivial, trivial⟩ (fun _ _ _ h => h) ?_
                  refine VA.va (i := 32) (listed' := LB 40 8589934591) rfl (op_load_row (sz := 3) (o := 0) 0 (wrap64 ((wrap64 (2 * i168118)) + 2)).toNat 3 rfl rfl (get_map hx168391) TI24 rfl (fun h => absurd h (by decide)) (ltn rfl)) rfl (by kernel_rfl) (by kernel_rfl) (by kernel_rfl) (by kernel_rfl) ⟨⟨⟨0, rfl⟩, trivial⟩, trivial, trivial⟩ (fun _ _ _ h => h) ?_
                  refine VA.va (i := 33) (listed' := LB 40 17179869183) rfl (op_move rfl (ltn rfl)) rfl (by kernel_rfl) (by kernel_rfl) (by kernel_rfl) (by kernel_rfl) ⟨⟨⟨0, rfl⟩, trivial⟩, trivial, trivial⟩ (fun _ _ _ h => h) ?_
                  refine VA.va (i := 34) (listed' := LB 40 34359738367) rfl (op_move rfl (ltn rfl)) rfl (by kernel_rfl) (by kernel_rfl) (by kernel_rfl) (by kernel_rfl) ⟨⟨⟨0, rfl⟩, trivial⟩, trivial, trivial⟩ (fun _ _ _ h => h) ?_
                  refine VA.va (i := 35) (listed' := LB 40 68719476735) rfl (op_indexAddr Try.underlying22 TI24 rfl rfl c168383 (lt_get c168383 hx168392) rfl (ltn rfl)) rfl (by kernel_rfl) (by kernel_rfl) (by kernel_rfl) (by kernel_rfl) ⟨⟨⟨0, rfl⟩, trivial⟩, trivial, trivial⟩ (fun _ _ _ h => h) ?_
                  refine VA.va (i := 36) (listed' := LB 40 137438953471) rfl (op_load_row (sz := 3) (o := 0) 0 i168118.toNat 3 rfl rfl (get_map hx168392) TI24 rfl (fun h => absurd h (by decide)) (ltn rfl)) rfl (by kernel_rfl) (by kernel_rfl) (by kernel_rfl) (by kernel_rfl) ⟨⟨⟨0, rfl⟩, trivial⟩, trivial, trivial⟩ (fun _ _ _ h => h) ?_
                  refine VA.oneC (i := 37) (listed' := LB 40 274877906943) (by kernel_rfl) rfl (o_call0 FO11 (tarryref06_Less.ok x168391.f0 x168391.f1 x168391.f2 x168392.f0 x168392.f1 x168392.f2 t168393 hA168394) rfl rfl (ltn rfl) (All_of .nil)) rfl (by kernel_rfl) ?_
                  rintro _ _ _ ⟨rfl, rfl, rfl⟩
                  refine ⟨⟨⟨⟨0, rfl⟩, trivial⟩, trivial, trivial⟩, ?_⟩
                  refine VA.va (i := 38) (listed' := LB 40 549755813887) rfl (op_pick rfl rfl (ltn rfl)) rfl (by kernel_rfl) (by kernel_rfl) (by kernel_rfl) (by kernel_rfl) ⟨⟨⟨0, rfl⟩, trivial⟩, trivial, trivial⟩ (fun _ _ _ h => h) ?_
                  refine VA.va (i := 39) (listed' := LB 40 1099511627775) rfl (op_pick rfl rfl (ltn rfl)) rfl (by kernel_rfl) (by kernel_rfl) (by kernel_rfl) (by kernel_rfl) ⟨⟨⟨0, rfl⟩, trivial⟩, trivial, trivial⟩ (fun _ _ _ h => h) ?_
                  refine VA.done (by kernel_rfl) ?_
                  exact VN.meet0  [] [] trivial ⟨rfl, ⟨rfl, rfl, rfl, rfl, rfl, rfl, rfl, rfl, rfl, rfl, rfl, rfl, rfl, rfl, rfl, rfl, rfl, rfl, rfl, rfl, rfl, rfl, rfl, rfl, rfl, rfl, rfl, rfl, rfl, rfl, rfl, rfl, rfl, rfl, rfl, rfl, rfl, rfl, rfl, rfl, rfl, rfl, rfl, trivial⟩, ⟨⟨0, rfl⟩, trivial⟩, rfl, by decide, rfl, by decide⟩
                intro _
                by_cases c168395 : t168393 = true
                · rw [if_pos c168395] at h
                  obtain rfl := c168395
                  refine VC.cond_t rfl ?_
                  refine VC.seq ?_
                  refine VC.region ?_
                  refine VL.va (op_assign rfl (ltn rfl)) rfl ?_
                  refine VL.done ?_
                  refine VN.then ?_
                  refine VC.ret ?_
                  refine VR.block ?_
                  refine VR.then ?_
                  refine VR.then ?_
                  refine VR.block ?_
                  refine VR.then ?_
                  obtain rfl := Option.some.inj h
                  exact VR.fn (rs := [.tmp 2]) [] [] [] rfl (.tmp rfl .nil) ⟨rfl, rfl, rfl⟩ trivial rfl (by decide)
                · rw [if_neg c168395] at h
                  obtain rfl := Bool.eq_false_iff.2 c168395
                  refine VC.cond_f rfl ?_
                  refine VC.skip ?_
                  refine VN.block ?_
                  refine VN.then ?_
                  refine VC.region ?_
                  refine VL.va (op_ari64 rfl rfl rfl (ltn rfl)) rfl ?_
                  refine VL.va (op_move rfl (ltn rfl)) rfl ?_
                  refine VL.done ?_
                  refine VN.again [] [] (ihl1 (wrap64 (i168118 + 1)) h) ⟨rfl, ⟨rfl, rfl, rfl, rfl, trivial⟩, ⟨⟨0, rfl⟩, trivial⟩, rfl, by decide, rfl, by decide⟩
              · rw [if_neg c168390] at h; cases h
            · rw [if_neg c168389] at h
              obtain rfl : b168388 = false := hb168388.symm.trans (decide_eq_false c168389)
              refine VC.open (m := l0.length) 0 lenm rfl (pos_get hx168382) ?_
              rintro ad167910 n167911 rfl
              refine VC.join0 (⟨52, [(0, (.slice (some ad167910) l0.length n167911)), (2, .bool false), (3, .int .i64 i168118), (5, .int .i64 (l0.length : Int)), (6, .int .i64 i168118), (7, .bool true), (8, .int .i64 i168118), (9, .int .i64 i168118), (10, .int .i64 (wrap64 (2 * i168118))), (11, .int .i64 (wrap64 ((wrap64 (2 * i168118)) + 1))), (12, (.slice (some ad167910) l0.length n167911)), (13, .int .i64 (l0.length : Int)), (14, .bool true), (15, .bool true), (16, (.slice (some ad167910) l0.length n167911)), (17, .int .i64 i168118), (18, .int .i64 (wrap64 (2 * i168118))), (19, .int .i64 (wrap64 ((wrap64 (2 * i168118)) + 1))), (21, .agg #[.int .i64 x168382.f0, .int .i64 x168382.f1, .int .i64 x168382.f2]), (22, (.slice (some ad167910) l0.length n167911)), (23, .int .i64 i168118), (25, .agg #[.int .i64 x168384.f0, .int .i64 x168384.f1, .int .i64 x168384.f2]), (26, .bool false), (27, .bool false), (28, .bool false), (29, .int .i64 i168118), (30, .int .i64 (wrap64 (2 * i168118))), (31, .int .i64 (wrap64 ((wrap64 (2 * i168118)) + 2))), (32, (.slice (some ad167910) l0.length n167911)), (33, .int .i64 (l0.length : Int)), (34, .bool false), (35, .bool false), (36, undef), (37, undef), (38, undef), (39, undef), (40, undef), (41, undef), (42, undef), (43, undef), (44, undef), (45, undef), (46, undef), (47, .bool false), (48, .bool false)], [.row (.slice (some ad167910) l0.length n167911) 3 (l0.map enc23)], [], []⟩) (True) ?_ ?_
              · refine VC.draw ⟨0, [], [.row (.slice (some ad167910) l0.length n167911) 3 (l0.map enc23)], [], []⟩ (by kernel_rfl) rfl (by kernel_rfl) (n := 40) (listed := LB 40 0) ?_
                refine VA.va (i := 0) (listed' := LB 40 1) rfl (op_move rfl (ltn rfl)) rfl (by kernel_rfl) (by kernel_rfl) (by kernel_rfl) (by kernel_rfl) ⟨⟨⟨0, rfl⟩, trivial⟩, trivial, trivial⟩ (fun _ _ _ h => h) ?_
                refine VA.va (i := 1) (listed' := LB 40 3) rfl (op_ari64 rfl rfl rfl (ltn rfl)) rfl (by kernel_rfl) (by kernel_rfl) (by kernel_rfl) (by kernel_rfl) ⟨⟨⟨0, rfl⟩, trivial⟩, trivial, trivial⟩ (fun _ _ _ h => h) ?_
                refine VA.va (i := 2) (listed' := LB 40 7) rfl (op_ari64 rfl rfl rfl (ltn rfl)) rfl (by kernel_rfl) (by kernel_rfl) (by kernel_rfl) (by kernel_rfl) ⟨⟨⟨0, rfl⟩, trivial⟩, trivial, trivial⟩ (fun _ _ _ h => h) ?_
                refine VA.va (i := 3) (listed' := LB 40 15) rfl (op_move rfl (ltn rfl)) rfl (by kernel_rfl) (by kernel_rfl) (by kernel_rfl) (by kernel_rfl) ⟨⟨⟨0, rfl⟩, trivial⟩, trivial, trivial⟩ (fun _ _ _ h => h) ?_
                refine VA.va (i := 4) (listed' := LB 40 31) rfl (op_len (m := l0.length) 0 lenm Try.underlying22 rfl rfl (ltn rfl)) rfl (by kernel_rfl) (by kernel_rfl) (by kernel_rfl) (by kernel_rfl) ⟨⟨⟨0, rfl⟩, trivial⟩, trivial, trivial⟩ (fun _ _ _ h => h) ?_
                refine VA.va (i := 5) (listed' := LB 40 63) rfl (op_cmp rfl rfl (congrArg some hb168379) (ltn rfl)) rfl (by kernel_rfl) (by kernel_rfl) (by kernel_rfl) (by kernel_rfl) ⟨⟨⟨0, rfl⟩, trivial⟩, trivial, trivial⟩ (fun _ _ _ h => h) ?_
                refine VA.va (i := 6) (listed' := LB 40 127) rfl (op_move rfl (ltn rfl)) rfl (by kernel_rfl) (by kernel_rfl) (by kernel_rfl) (by kernel_rfl) ⟨⟨⟨0, rfl⟩, trivial⟩, trivial, trivial⟩ (fun _ _ _ h => h) ?_
                refine VA.va (i := 7) (listed' := LB 40 255) rfl (op_move rfl (ltn rfl)) rfl (by kernel_rfl) (by kernel_rfl) (by kernel_rfl) (by kernel_rfl) ⟨⟨⟨0, rfl⟩, trivial⟩, trivial, trivial⟩ (fun _ _ _ h => h) ?_
                refine VA.va (i := 8) (listed' := LB 40 511) rfl (op_move rfl (ltn rfl)) rfl (by kernel_rfl) (by kernel_rfl) (by kernel_rfl) (by kernel_rfl) ⟨⟨⟨0, rfl⟩, trivial⟩, trivial, trivial⟩ (fun _ _ _ h => h) ?_
                refine VA.va (i := 9) (listed' := LB 40 1023) rfl (op_ari64 rfl rfl rfl (ltn rfl)) rfl (by kernel_rfl) (by kernel_rfl) (by kernel_rfl) (by kernel_rfl) ⟨⟨⟨0, rfl⟩, trivial⟩, trivial, trivial⟩ (fun _ _ _ h => h) ?_
                refine VA.va (i := 10) (listed' := LB 40 2047) rfl (op_ari64 rfl rfl rfl (ltn rfl)) rfl (by kernel_rfl) (by kernel_rfl) (by kernel_rfl) (by kernel_rfl) ⟨⟨⟨0, rfl⟩, trivial⟩, trivial, trivial⟩ (fun _ _ _ h => h) ?_
                refine VA.va (i := 11) (listed' := LB 40 4095) rfl (op_indexAddr Try.underlying22 TI24 rfl rfl c168381 (lt_get c168381 hx168382) rfl (ltn rfl)) rfl (by kernel_rfl) (by kernel_rfl) (by kernel_rfl) (by kernel_rfl) ⟨⟨⟨0, rfl⟩, trivial⟩, trivial, trivial⟩ (fun _ _ _ h => h) ?_
                refine VA.va (i := 12) (listed' := LB 40 8191) rfl (op_load_row (sz := 3) (o := 0) 0 (wrap64 ((wrap64 (2 * i168118)) + 1)).toNat 3 rfl rfl (get_map hx168382) TI24 rfl (fun h => absurd h (by decide)) (ltn rfl)) rfl (by kernel_rfl) (by kernel_rfl) (by kernel_rfl) (by kernel_rfl) ⟨⟨⟨0, rfl⟩, trivial⟩, trivial, trivial⟩ (fun _ _ _ h => h) ?_
                refine VA.va (i := 13) (listed' := LB 40 16383) rfl (op_move rfl (ltn rfl)) rfl (by kernel_rfl) (by kernel_rfl) (by kernel_rfl) (by kernel_rfl) ⟨⟨⟨0, rfl⟩, trivial⟩, trivial, trivial⟩ (fun _ _ _ h => h) ?_
                refine VA.va (i := 14) (listed' := LB 40 32767) rfl (op_move rfl (ltn rfl)) rfl (by kernel_rfl) (by kernel_rfl) (by kernel_rfl) (by kernel_rfl) ⟨⟨⟨0, rfl⟩, trivial⟩, trivial, trivial⟩ (fun _ _ _ h => h) ?_
                refine VA.va (i := 15) (listed' := LB 40 65535) rfl (op_indexAddr Try.underlying22 TI24 rfl rfl c168383 (lt_get c168383 hx168384) rfl (ltn rfl)) rfl (by kernel_rfl) (by kernel_rfl) (by kernel_rfl) (by kernel_rfl) ⟨⟨⟨0, rfl⟩, trivial⟩, trivial, trivial⟩ (fun _ _ _ h => h) ?_
                refine VA.va (i := 16) (listed' := LB 40 131071) rfl (op_load_row (sz := 3) (o := 0) 0 i168118.toNat 3 rfl rfl (get_map hx168384) TI24 rfl (fun h => absurd h (by decide)) (ltn rfl)) rfl (by kernel_rfl) (by kernel_rfl) (by kernel_rfl) (by kernel_rfl) ⟨⟨⟨0, rfl⟩, trivial⟩, trivial, trivial⟩ (fun _ _ _ h => h) ?_
                refine VA.oneC (i := 17) (listed' := LB 40 262143) (by kernel_rfl) rfl (o_call0 FO11 (tarryref06_Less.ok x168382.f0 x168382.f1 x168382.f2 x168384.f0 x168384.f1 x168384.f2 false hA168386) rfl rfl (ltn rfl) (All_of .nil)) rfl (by kernel_rfl) ?_
                rintro _ _ _ ⟨rfl, rfl, rfl⟩
                refine ⟨⟨⟨⟨0, rfl⟩, trivial⟩, trivial, trivial⟩, ?_⟩
                refine VA.va (i := 18) (listed' := LB 40 524287) rfl (op_pick rfl rfl (ltn rfl)) rfl (by kernel_rfl) (by kernel_rfl) (by kernel_rfl) (by kernel_rfl) ⟨⟨⟨0, rfl⟩, trivial⟩, trivial, trivial⟩ (fun _ _ _ h => h) ?_
                refine VA.va (i := 19) (listed' := LB 40 1048575) rfl (op_move rfl (ltn rfl)) rfl (by kernel_rfl) (by kernel_rfl) (by kernel_rfl) (by kernel_rfl) ⟨⟨⟨0, rfl⟩, trivial⟩, trivial, trivial⟩ (fun _ _ _ h => h) ?_
                refine VA.va (i := 20) (listed' := LB 40 2097151) rfl (op_move rfl (ltn rfl)) rfl (by kernel_rfl) (by kernel_rfl) (by kernel_rfl) (by kernel_rfl) ⟨⟨⟨0, rfl⟩, trivial⟩, trivial, trivial⟩ (fun _ _ _ h => h) ?_
                refine VA.va (i := 21) (listed' := LB 40 4194303) rfl (op_ari64 rfl rfl rfl (ltn rfl)) rfl (by kernel_rfl) (by kernel_rfl) (by kernel_rfl) (by kernel_rfl) ⟨⟨⟨0, rfl⟩, trivial⟩, trivial, trivial⟩ (fun _ _ _ h => h) ?_
                refine VA.va (i := 22) (listed' := LB 40 8388607) rfl (op_ari64 rfl rfl rfl (ltn rfl)) rfl (by kernel_rfl) (by kernel_rfl) (by kernel_rfl) (by kernel_rfl) ⟨⟨⟨0, rfl⟩, trivial⟩, trivial, trivial⟩ (fun _ _ _ h => h) ?_
                refine VA.va (i := 23) (listed' := LB 40 16777215) rfl (op_move rfl (ltn rfl)) rfl (by kernel_rfl) (by kernel_rfl) (by kernel_rfl) (by kernel_rfl) ⟨⟨⟨0, rfl⟩, trivial⟩, trivial, trivial⟩ (fun _ _ _ h => h) ?_
                refine VA.va (i := 24) (listed' := LB 40 33554431) rfl (op_len (m := l0.length) 0 lenm Try.underlying22 rfl rfl (ltn rfl)) rfl (by kernel_rfl) (by kernel_rfl) (by kernel_rfl) (by kernel_rfl) ⟨⟨⟨0, rfl⟩, trivial⟩, trivial, trivial⟩ (fun _ _ _ h => h) ?_
                refine VA.va (i := 25) (listed' := LB 40 67108863) rfl (op_cmp rfl rfl (congrArg some hb168388) (ltn rfl)) rfl (by kernel_rfl) (by kernel_rfl) (by kernel_rfl) (by kernel_rfl) ⟨⟨⟨0, rfl⟩, trivial⟩, trivial, trivial⟩ (fun _ _ _ h => h) ?_
                refine VA.va (i := 26) (listed' := LB 40 134217727) rfl (op_move rfl (ltn rfl)) rfl (by kernel_rfl) (by kernel_rfl) (by kernel_rfl) (by kernel_rfl) ⟨⟨⟨0, rfl⟩, trivial⟩, trivial, trivial⟩ (fun _ _ _ h => h) ?_
                refine VA.un (i := 27) (listed' := LB 40 268435455) rfl rfl rfl (ltn rfl) (by kernel_rfl) (by kernel_rfl) (by kernel_rfl) (by kernel_rfl) ⟨⟨⟨0, rfl⟩, trivial⟩, trivial, trivial⟩ (fun _ _ _ h => h) ?_
                refine VA.un (i := 28) (listed' := LB 40 536870911) rfl rfl rfl (ltn rfl) (by kernel_rfl) (by kernel_rfl) (by kernel_rfl) (by kernel_rfl) ⟨⟨⟨0, rfl⟩, trivial⟩, trivial, trivial⟩ (fun _ _ _ h => h) ?_
                refine VA.un (i := 29) (listed' := LB 40 1073741823) rfl rfl rfl (ltn rfl) (by kernel_rfl) (by kernel_rfl) (by kernel_rfl) (by kernel_rfl) ⟨⟨⟨0, rfl⟩, trivial⟩, trivial, trivial⟩ (fun _ _ _ h => h) ?_
                refine VA.un (i := 30) (listed' := LB 40 2147483647) rfl rfl rfl (ltn rfl) (by kernel_rfl) (by kernel_rfl) (by kernel_rfl) (by kernel_rfl) ⟨⟨⟨0, rfl⟩, trivial⟩, trivial, trivial⟩ (fun _ _ _ h => h) ?_
                refine VA.un (i := 31) (listed' := LB 40 4294967295) rfl rfl rfl (ltn rfl) (by kernel_rfl) (by kernel_rfl) (by kernel_rfl) (by kernel_rfl) ⟨⟨⟨0, rfl⟩, trivial⟩, trivial, trivial⟩ (fun _ _ _ h => h) ?_
                refine VA.un (i := 32) (listed' := LB 40 8589934591) rfl rfl rfl (ltn rfl) (by kernel_rfl) (by kernel_rfl) (by kernel_rfl) (by kernel_rfl) ⟨⟨⟨0, rfl⟩, trivial⟩, trivial, trivial⟩ (fun _ _ _ h => h) ?_
                refine VA.un (i := 33) (listed' := LB 40 17179869183) rfl rfl rfl (ltn rfl) (by kernel_rfl) (by kernel_rfl) (by kernel_rfl) (by kernel_rfl) ⟨⟨⟨0, rfl⟩, trivial⟩, trivial, trivial⟩ (fun _ _ _ h => h) ?_
                refine VA.un (i := 34) (listed' := LB 40 34359738367) rfl rfl rfl (ltn rfl) (by kernel_rfl) (by kernel_rfl) (by kernel_rfl) (by kernel_rfl) ⟨⟨⟨0, rfl⟩, trivial⟩, trivial, trivial⟩ (fun _ _ _ h => h) ?_
                refine VA.un (i := 35) (listed' := LB 40 68719476735) rfl rfl rfl (ltn rfl) (by kernel_rfl) (by kernel_rfl) (by kernel_rfl) (by kernel_rfl) ⟨⟨⟨0, rfl⟩, trivial⟩, trivial, trivial⟩ (fun _ _ _ h => h) ?_
                refine VA.un (i := 36) (listed' := LB 40 137438953471) rfl rfl rfl (ltn rfl) (by kernel_rfl) (by kernel_rfl) (by kernel_rfl) (by kernel_rfl) ⟨⟨⟨0, rfl⟩, trivial⟩, trivial, trivial⟩ (fun _ _ _ h => h) ?_
                refine VA.un (i := 37) (listed' := LB 40 274877906943) rfl rfl rfl (ltn rfl) (by kernel_rfl) (by kernel_rfl) (by kernel_rfl) (by kernel_rfl) ⟨⟨⟨0, rfl⟩, trivial⟩, trivial, trivial⟩ (fun _ _ _ h => h) ?_
                refine VA.va (i := 38) (listed' := LB 40 549755813887) rfl (op_pick rfl rfl (ltn rfl)) rfl (by kernel_rfl) (by kernel_rfl) (by kernel_rfl) (by kernel_rfl) ⟨⟨⟨0, rfl⟩, trivial⟩, trivial, trivial⟩ (fun _ _ _ h => h) ?_
                refine VA.va (i := 39) (listed' := LB 40 1099511627775) rfl (op_pick rfl rfl (ltn rfl)) rfl (by kernel_rfl) (by kernel_rfl) (by kernel_rfl) (by kernel_rfl) ⟨⟨⟨0, rfl⟩, trivial⟩, trivial, trivial⟩ (fun _ _ _ h => h) ?_
                refine VA.done (by kernel_rfl) ?_
                exact VN.meet0  [] [] trivial ⟨rfl, ⟨rfl, rfl, rfl, rfl, rfl, rfl, rfl, rfl, rfl, rfl, rfl, rfl, rfl, rfl, rfl, rfl, rfl, rfl, rfl, rfl, rfl, rfl, rfl, rfl, rfl, rfl, rfl, rfl, rfl, rfl, rfl, rfl, rfl, rfl, rfl, rfl, rfl, rfl, rfl, rfl, rfl, rfl, rfl, rfl, rfl, trivial⟩, ⟨⟨0, rfl⟩, trivial⟩, rfl, by decide, rfl, by decide⟩
              intro _
              refine VC.cond_f rfl ?_
              refine VC.skip ?_
              refine VN.block ?_
              refine VN.then ?_
              refine VC.region ?_
              refine VL.va (op_ari64 rfl rfl rfl (ltn rfl)) rfl ?_
              refine VL.va (op_move rfl (ltn rfl)) rfl ?_
              refine VL.done ?_
              refine VN.again [] [] (ihl1 (wrap64 (i168118 + 1)) h) ⟨rfl, ⟨rfl, rfl, rfl, rfl, trivial⟩, ⟨⟨0, rfl⟩, trivial⟩, rfl, by decide, rfl, by decide⟩
        · rw [if_neg c168383] at h; cases h
      · rw [if_neg c168381] at h; cases h
    · rw [if_neg c168380] at h
      obtain rfl : b168379 = false := hb168379.symm.trans (decide_eq_false c168380)
      refine VC.letter (decide ((wrap64 ((wrap64 (2 * i168118)) + 2)) < (l0.length : Int))) fun b168396 hb168396 => ?_
      by_cases c168397 : (wrap64 ((wrap64 (2 * i168118)) + 2)) < (l0.length : Int)
      · rw [if_pos c168397] at h
        obtain rfl : b168396 = true := hb168396.symm.trans (decide_eq_true c168397)
        by_cases c168398 : 0 ≤ wrap64 ((wrap64 (2 * i168118)) + 2)
        · rw [if_pos c168398] at h
          replace h := Option.bind_eq_some_iff.1 h
          obtain ⟨x168399, hx168399, h⟩ := h
          by_cases c168400 : 0 ≤ i168118
          · rw [if_pos c168400] at h
            replace h := Option.bind_eq_some_iff.1 h
            obtain ⟨x168401, hx168401, h⟩ := h
            replace h := Option.bind_eq_some_iff.1 h
            obtain ⟨t168402, hA168403, h⟩ := h
            refine VC.open (m := l0.length) 0 lenm rfl (pos_get hx168399) ?_
            rintro ad167910 n167911 rfl
            refine VC.join0 (⟨52, [(0, (.slice (some ad167910) l0.length n167911)), (2, .bool false), (3, .int .i64 i168118), (5, .int .i64 (l0.length : Int)), (6, .int .i64 i168118), (7, .bool true), (8, .int .i64 i168118), (9, .int .i64 i168118), (10, .int .i64 (wrap64 (2 * i168118))), (11, .int .i64 (wrap64 ((wrap64 (2 * i168118)) + 1))), (12, (.slice (some ad167910) l0.length n167911)), (13, .int .i64 (l0.length : Int)), (14, .bool false), (15, .bool false), (16, undef), (17, undef), (18, undef), (19, undef), (20, undef), (21, undef), (22, undef), (23, undef), (24, undef), (25, undef), (26, undef), (27, .bool false), (28, .bool false), (29, .int .i64 i168118), (30, .int .i64 (wrap64 (2 * i168118))), (31, .int .i64 (wrap64 ((wrap64 (2 * i168118)) + 2))), (32, (.slice (some ad167910) l0.length n167911)), (33, .int .i64 (l0.length : Int)), (34, .bool true), (35, .bool true), (36, (.slice (some ad167910) l0.length n167911)), (37, .int .i64 i168118), (38, .int .i64 (wrap64 (2 * i168118))), (39, .int .i64 (wrap64 ((wrap64 (2 * i168118)) + 2))), (41, .agg #[.int .i64 x168399.f0, .int .i64 x168399.f1, .int .i64 x168399.f2]), (42, (.slice (some ad167910) l0.length n167911)), (43, .int .i64 i168118), (45, .agg #[.int .i64 x168401.f0, .int .i64 x168401.f1, .int .i64 x168401.f2]), (46, .bool t168402), (47, .bool t168402), (48, .bool t168402)], [.row (.slice (some ad167910) l0.length n167911) 3 (l0.map enc23)], [], []⟩) (True) ?_ ?_
            · refine VC.draw ⟨0, [], [.row (.slice (some ad167910) l0.length n167911) 3 (l0.map enc23)], [], []⟩ (by kernel_rfl) rfl (by kernel_rfl) (n := 40) (listed := LB 40 0) ?_
              refine VA.va (i := 0) (listed' := LB 40 1) rfl (op_move rfl (ltn rfl)) rfl (by kernel_rfl) (by kernel_rfl) (by kernel_rfl) (by kernel_rfl) ⟨⟨⟨0, rfl⟩, trivial⟩, trivial, trivial⟩ (fun _ _ _ h => h) ?_
              refine VA.va (i := 1) (listed' := LB 40 3) rfl (op_ari64 rfl rfl rfl (ltn rfl)) rfl (by kernel_rfl) (by kernel_rfl) (by kernel_rfl) (by kernel_rfl) ⟨⟨⟨0, rfl⟩, trivial⟩, trivial, trivial⟩ (fun _ _ _ h => h) ?_
              refine VA.va (i := 2) (listed' := LB 40 7) rfl (op_ari64 rfl rfl rfl (ltn rfl)) rfl (by kernel_rfl) (by kernel_rfl) (by kernel_rfl) (by kernel_rfl) ⟨⟨⟨0, rfl⟩, trivial⟩, trivial, trivial⟩ (fun _ _ _ h => h) ?_
              refine VA.va (i := 3) (listed' := LB 40 15) rfl (op_move rfl (ltn rfl)) rfl (by kernel_rfl) (by kernel_rfl) (by kernel_rfl) (by kernel_rfl) ⟨⟨⟨0, rfl⟩, trivial⟩, trivial, trivial⟩ (fun _ _ _ h => h) ?_
              refine VA.va (i := 4) (listed' := LB 40 31) rfl (op_len (m := l0.length) 0 lenm Try.underlying22 rfl rfl (ltn rfl)) rfl (by kernel_rfl) (by kernel_rfl) (by kernel_rfl) (by kernel_rfl) ⟨⟨⟨0, rfl⟩, trivial⟩, trivial, trivial⟩ (fun _ _ _ h => h) ?_
              refine VA.va (i := 5) (listed' := LB 40 63) rfl (op_cmp rfl rfl (congrArg some hb168379) (ltn rfl)) rfl (by kernel_rfl) (by kernel_rfl) (by kernel_rfl) (by kernel_rfl) ⟨⟨⟨0, rfl⟩, trivial⟩, trivial, trivial⟩ (fun _ _ _ h => h) ?_
              refine VA.va (i := 6) (listed' := LB 40 127) rfl (op_move rfl (ltn rfl)) rfl (by kernel_rfl) (by kernel_rfl) (by kernel_rfl) (by kernel_rfl) ⟨⟨⟨0, rfl⟩, trivial⟩, trivial, trivial⟩ (fun _ _ _ h => h) ?_
              refine VA.un (i := 7) (listed' := LB 40 255) rfl rfl rfl (ltn rfl) (by kernel_rfl) (by kernel_rfl) (by kernel_rfl) (by kernel_rfl) ⟨⟨⟨0, rfl⟩, trivial⟩, trivial, trivial⟩ (fun _ _ _ h => h) ?_
              refine VA.un (i := 8) (listed' := LB 40 511) rfl rfl rfl (ltn rfl) (by kernel_rfl) (by kernel_rfl) (by kernel_rfl) (by kernel_rfl) ⟨⟨⟨0, rfl⟩, trivial⟩, trivial, trivial⟩ (fun _ _ _ h => h) ?_
              refine VA.un (i := 9) (listed' := LB 40 1023) rfl rfl rfl (ltn rfl) (by kernel_rfl) (by kernel_rfl) (by kernel_rfl) (by kernel_rfl) ⟨⟨⟨0, rfl⟩, trivial⟩, trivial, trivial⟩ (fun _ _ _ h => h) ?_
              refine VA.un (i := 10) (listed' := LB 40 2047) rfl rfl rfl (ltn rfl) (by kernel_rfl) (by kernel_rfl) (by kernel_rfl) (by kernel_rfl) ⟨⟨⟨0, rfl⟩, trivial⟩, trivial, trivial⟩ (fun _ _ _ h => h) ?_
              refine VA.un (i := 11) (listed' := LB 40 4095) rfl rfl rfl (ltn rfl) (by kernel_rfl) (by kernel_rfl) (by kernel_rfl) (by kernel_rfl) ⟨⟨⟨0, rfl⟩, trivial⟩, trivial, trivial⟩ (fun _ _ _ h => h) ?_
              refine VA.un (i := 12) (listed' := LB 40 8191) rfl rfl rfl (ltn rfl) (by kernel_rfl) (by kernel_rfl) (by kernel_rfl) (by kernel_rfl) ⟨⟨⟨0, rfl⟩, trivial⟩, trivial, trivial⟩ (fun _ _ _ h => h) ?_
              refine VA.un (i := 13) (listed' := LB 40 16383) rfl rfl rfl (ltn rfl) (by kernel_rfl) (by kernel_rfl) (by kernel_rfl) (by kernel_rfl) ⟨⟨⟨0, rfl⟩, trivial⟩, trivial, trivial⟩ (fun _ _ _ h => h) ?_
              refine VA.un (i := 14) (listed' := LB 40 32767) rfl rfl rfl (ltn rfl) (by kernel_rfl) (by kernel_rfl) (by kernel_rfl) (by kernel_rfl) ⟨⟨⟨0, rfl⟩, trivial⟩, trivial, trivial⟩ (fun _ _ _ h => h) ?_
              refine VA.un (i := 15) (listed' := LB 40 65535) rfl rfl rfl (ltn rfl) (by kernel_rfl) (by kernel_rfl) (by kernel_rfl) (by kernel_rfl) ⟨⟨⟨0, rfl⟩, trivial⟩, trivial, trivial⟩ (fun _ _ _ h => h) ?_
              refine VA.un (i := 16) (listed' := LB 40 131071) rfl rfl rfl (ltn rfl) (by kernel_rfl) (by kernel_rfl) (by kernel_rfl) (by kernel_rfl) ⟨⟨⟨0, rfl⟩, trivial⟩, trivial, trivial⟩ (fun _ _ _ h => h) ?_
              refine VA.un (i := 17) (listed' := LB 40 262143) rfl rfl rfl (ltn rfl) (by kernel_rfl) (by kernel_rfl) (by kernel_rfl) (by kernel_rfl) ⟨⟨⟨0, rfl⟩, trivial⟩, trivial, trivial⟩ (fun _ _ _ h => h) ?_
              refine VA.va (i := 18) (listed' := LB 40 524287) rfl (op_pick rfl rfl (ltn rfl)) rfl (by kernel_rfl) (by kernel_rfl) (by kernel_rfl) (by kernel_rfl) ⟨⟨⟨0, rfl⟩, trivial⟩, trivial, trivial⟩ (fun _ _ _ h => h) ?_
              refine VA.va (i := 19) (listed' := LB 40 1048575) rfl (op_move rfl (ltn rfl)) rfl (by kernel_rfl) (by kernel_rfl) (by kernel_rfl) (by kernel_rfl) ⟨⟨⟨0, rfl⟩, trivial⟩, trivial, trivial⟩ (fun _ _ _ h => h) ?_
              refine VA.va (i := 20) (listed' := LB 40 2097151) rfl (op_move rfl (ltn rfl)) rfl (by kernel_rfl) (by kernel_rfl) (by kernel_rfl) (by kernel_rfl) ⟨⟨⟨0, rfl⟩, trivial⟩, trivial, trivial⟩ (fun _ _ _ h => h) ?_
              refine VA.va (i := 21) (listed' := LB 40 4194303) rfl (op_ari64 rfl rfl rfl (ltn rfl)) rfl (by kernel_rfl) (by kernel_rfl) (by kernel_rfl) (by kernel_rfl) ⟨⟨⟨0, rfl⟩, trivial⟩, trivial, trivial⟩ (fun _ _ _ h => h) ?_
              refine VA.va (i := 22) (listed' := LB 40 8388607) rfl (op_ari64 rfl rfl rfl (ltn rfl)) rfl (by kernel_rfl) (by kernel_rfl) (by kernel_rfl) (by kernel_rfl) ⟨⟨⟨0, rfl⟩, trivial⟩, trivial, trivial⟩ (fun _ _ _ h => h) ?_
              refine VA.va (i := 23) (listed' := LB 40 16777215) rfl (op_move rfl (ltn rfl)) rfl (by kernel_rfl) (by kernel_rfl) (by kernel_rfl) (by kernel_rfl) ⟨⟨⟨0, rfl⟩, trivial⟩, trivial, trivial⟩ (fun _ _ _ h => h) ?_
              refine VA.va (i := 24) (listed' := LB 40 33554431) rfl (op_len (m := l0.length) 0 lenm Try.underlying22 rfl rfl (ltn rfl)) rfl (by kernel_rfl) (by kernel_rfl) (by kernel_rfl) (by kernel_rfl) ⟨⟨⟨0, rfl⟩, trivial⟩, trivial, trivial⟩ (fun _ _ _ h => h) ?_
              refine VA.va (i := 25) (listed' := LB 40 67108863) rfl (op_cmp rfl rfl (congrArg some hb168396) (ltn rfl)) rfl (by kernel_rfl) (by kernel_rfl) (by kernel_rfl) (by kernel_rfl) ⟨⟨⟨0, rfl⟩, trivial⟩, trivial, trivial⟩ (fun _ _ _ h => h) ?_
              refine VA.va (i := 26) (listed' := LB 40 134217727) rfl (op_move rfl (ltn rfl)) rfl (by kernel_rfl) (by kernel_rfl) (by kernel_rfl) (by kernel_rfl) ⟨⟨⟨0, rfl⟩, trivial⟩, trivial, trivial⟩ (fun _ _ _ h => h) ?_
              refine VA.va (i := 27) (listed' := LB 40 268435455) rfl (op_move rfl (ltn rfl)) rfl (by kernel_rfl) (by kernel_rfl) (by kernel_rfl) (by kernel_rfl) ⟨⟨⟨0, rfl⟩, trivial⟩, trivial, trivial⟩ (fun _ _ _ h => h) ?_
              refine VA.va (i := 28) (listed' := LB 40 536870911) rfl (op_move rfl (ltn rfl)) rfl (by kernel_rfl) (by kernel_rfl) (by kernel_rfl) (by kernel_rfl) ⟨⟨⟨0, rfl⟩, trivial⟩, trivial, trivial⟩ (fun _ _ _ h => h) ?_
              refine VA.va (i := 29) (listed' := LB 40 1073741823) rfl (op_ari64 rfl rfl rfl (ltn rfl)) rfl (by kernel_rfl) (by kernel_rfl) (by kernel_rfl) (by kernel_rfl) ⟨⟨⟨0, rfl⟩, trivial⟩, trivial, trivial⟩ (fun _ _ _ h => h) ?_
              refine VA.va (i := 30) (listed' := LB 40 2147483647) rfl (op_ari64 rfl rfl rfl (ltn rfl)) rfl (by kernel_rfl) (by kernel_rfl) (by kernel_rfl) (by kernel_rfl) ⟨⟨⟨0, rfl⟩, trivial⟩, trivial, trivial⟩ (fun _ _ _ h => h) ?_
              refine VA.va (i := 31) (listed' := LB 40 4294967295) rfl (op_indexAddr Try.underlying22 TI24 rfl rfl c168398 (lt_get c168398 hx168399) rfl (ltn rfl)) rfl (by kernel_rfl) (by kernel_rfl) (by kernel_rfl) (by kernel_rfl) ⟨⟨⟨0, rfl⟩, trivial⟩, trivial, trivial⟩ (fun _ _ _ h => h) ?_
              refine VA.va (i := 32) (listed' := LB 40 8589934591) rfl (op_load_row (sz := 3) (o := 0) 0 (wrap64 ((wrap64 (2 * i168118)) + 2)).toNat 3 rfl rfl (get_map hx168399) TI24 rfl (fun h => absurd h (by decide)) (ltn rfl)) rfl (by kernel_rfl) (by kernel_rfl) (by kernel_rfl) (by kernel_rfl) ⟨⟨⟨0, rfl⟩, trivial⟩, trivial, trivial⟩ (fun _ _ _ h => h) ?_
              refine VA.va (i := 33) (listed' := LB 40 17179869183) rfl (op_move rfl (ltn rfl)) rfl (by kernel_rfl) (by kernel_rfl) (by kernel_rfl) (by kernel_rfl) ⟨⟨⟨0, rfl⟩, trivial⟩, trivial, trivial⟩ (fun _ _ _ h => h) ?_
              refine VA.va (i := 34) (listed' := LB 40 34359738367) rfl (op_move rfl (ltn rfl)) rfl (by kernel_rfl) (by kernel_rfl) (by kernel_rfl) (by kernel_rfl) ⟨⟨⟨0, rfl⟩, trivial⟩, trivial, trivial⟩ (fun _ _ _ h => h) ?_
              refine VA.va (i := 35) (listed' := LB 40 68719476735) rfl (op_indexAddr Try.underlying22 TI24 rfl rfl c168400 (lt_get c168400 hx168401) rfl (ltn rfl)) rfl (by kernel_rfl) (by kernel_rfl) (by kernel_rfl) (by kernel_rfl) ⟨⟨⟨0, rfl⟩, trivial⟩, trivial, trivial⟩ (fun _ _ _ h => h) ?_
              refine VA.va (i := 36) (listed' := LB 40 137438953471) rfl (op_load_row (sz := 3) (o := 0) 0 i168118.toNat 3 rfl rfl (get_map hx168401) TI24 rfl (fun h => absurd h (by decide)) (ltn rfl)) rfl (by kernel_rfl) (by kernel_rfl) (by kernel_rfl) (by kernel_rfl) ⟨⟨⟨0, rfl⟩, trivial⟩, trivial, trivial⟩ (fun _ _ _ h => h) ?_
              refine VA.oneC (i := 37) (listed' := LB 40 274877906943) (by kernel_rfl) rfl (o_call0 FO11 (tarryref06_Less.ok x168399.f0 x168399.f1 x168399.f2 x168401.f0 x168401.f1 x168401.f2 t168402 hA168403) rfl rfl (ltn rfl) (All_of .nil)) rfl (by kernel_rfl) ?_
              rintro _ _ _ ⟨rfl, rfl, rfl⟩
              refine ⟨⟨⟨⟨0, rfl⟩, trivial⟩, trivial, trivial⟩, ?_⟩
              refine VA.va (i := 38) (listed' := LB 40 549755813887) rfl (op_pick rfl rfl (ltn rfl)) rfl (by kernel_rfl) (by kernel_rfl) (by kernel_rfl) (by kernel_rfl) ⟨⟨⟨0, rfl⟩, trivial⟩, trivial, trivial⟩ (fun _ _ _ h => h) ?_
              refine VA.va (i := 39) (listed' := LB 40 1099511627775) rfl (op_pick rfl rfl (ltn rfl)) rfl (by kernel_rfl) (by kernel_rfl) (by kernel_rfl) (by kernel_rfl) ⟨⟨⟨0, rfl⟩, trivial⟩, trivial, trivial⟩ (fun _ _ _ h => h) ?_
              refine VA.done (by kernel_rfl) ?_
              exact VN.meet0  [] [] trivial ⟨rfl, ⟨rfl, rfl, rfl, rfl, rfl, rfl, rfl, rfl, rfl, rfl, rfl, rfl, rfl, rfl, rfl, rfl, rfl, rfl, rfl, rfl, rfl, rfl, rfl, rfl, rfl, rfl, rfl, rfl, rfl, rfl, rfl, rfl, rfl, rfl, rfl, rfl, rfl, rfl, rfl, rfl, rfl, rfl, rfl, rfl, rfl, trivial⟩, ⟨⟨0, rfl⟩, trivial⟩, rfl, by decide, rfl, by decide⟩
            intro _
            by_cases c168404 : t168402 = true
            · rw [if_pos c168404] at h
              obtain rfl := c168404
              refine VC.cond_t rfl ?_
              refine VC.seq ?_
              refine VC.region ?_
              refine VL.va (op_assign rfl (ltn rfl)) rfl ?_
              refine VL.done ?_
              refine VN.then ?_
              refine VC.ret ?_
              refine VR.block ?_
              refine VR.then ?_
              refine VR.then ?_
              refine VR.block ?_
              refine VR.then ?_
              obtain rfl := Option.some.inj h
              exact VR.fn (rs := [.tmp 2]) [] [] [] rfl (.tmp rfl .nil) ⟨rfl, rfl, rfl⟩ trivial rfl (by decide)
            · rw [if_neg c168404] at h
              obtain rfl := Bool.eq_false_iff.2 c168404
              refine VC.cond_f rfl ?_
              refine VC.skip ?_
              refine VN.block ?_
              refine VN.then ?_
              refine VC.region ?_
              refine VL.va (op_ari64 rfl rfl rfl (ltn rfl)) rfl ?_
              refine VL.va (op_move rfl (ltn rfl)) rfl ?_
              refine VL.done ?_
              refine VN.again [] [] (ihl1 (wrap64 (i168118 + 1)) h) ⟨rfl, ⟨rfl, rfl, rfl, rfl, trivial⟩, ⟨⟨0, rfl⟩, trivial⟩, rfl, by decide, rfl, by decide⟩
          · rw [if_neg c168400] at h; cases h
        · rw [if_neg c168398] at h; cases h
      · rw [if_neg c168397] at h
        obtain rfl : b168396 = false := hb168396.symm.trans (decide_eq_false c168397)
        refine VC.join0 (⟨52, [(0, v0), (2, .bool false), (3, .int .i64 i168118), (5, .int .i64 (l0.length : Int)), (6, .int .i64 i168118), (7, .bool true), (8, .int .i64 i168118), (9, .int .i64 i168118), (10, .int .i64 (wrap64 (2 * i168118))), (11, .int .i64 (wrap64 ((wrap64 (2 * i168118)) + 1))), (12, v0), (13, .int .i64 (l0.length : Int)), (14, .bool false), (15, .bool false), (16, undef), (17, undef), (18, undef), (19, undef), (20, undef), (21, undef), (22, undef), (23, undef), (24, undef), (25, undef), (26, undef), (27, .bool false), (28, .bool false), (29, .int .i64 i168118), (30, .int .i64 (wrap64 (2 * i168118))), (31, .int .i64 (wrap64 ((wrap64 (2 * i168118)) + 2))), (32, v0), (33, .int .i64 (l0.length : Int)), (34, .bool false), (35, .bool false), (36, undef), (37, undef), (38, undef), (39, undef), (40, undef), (41, undef), (42, undef), (43, undef), (44, undef), (45, undef), (46, undef), (47, .bool false), (48, .bool false)], [.row v0 3 (l0.map enc23)], [], []⟩) (True) ?_ ?_
        · refine VC.draw ⟨0, [], [.row v0 3 (l0.map enc23)], [], []⟩ (by kernel_rfl) rfl (by kernel_rfl) (n := 40) (listed := LB 40 0) ?_
          refine VA.va (i := 0) (listed' := LB 40 1) rfl (op_move rfl (ltn rfl)) rfl (by kernel_rfl) (by kernel_rfl) (by kernel_rfl) (by kernel_rfl) ⟨⟨⟨0, rfl⟩, trivial⟩, trivial, trivial⟩ (fun _ _ _ h => h) ?_
          refine VA.va (i := 1) (listed' := LB 40 3) rfl (op_ari64 rfl rfl rfl (ltn rfl)) rfl (by kernel_rfl) (by kernel_rfl) (by kernel_rfl) (by kernel_rfl) ⟨⟨⟨0, rfl⟩, trivial⟩, trivial, trivial⟩ (fun _ _ _ h => h) ?_
          refine VA.va (i := 2) (listed' := LB 40 7) rfl (op_ari64 rfl rfl rfl (ltn rfl)) rfl (by kernel_rfl) (by kernel_rfl) (by kernel_rfl) (by kernel_rfl) ⟨⟨⟨0, rfl⟩, trivial⟩, trivial, trivial⟩ (fun _ _ _ h => h) ?_
          refine VA.va (i := 3) (listed' := LB 40 15) rfl (op_move rfl (ltn rfl)) rfl (by kernel_rfl) (by kernel_rfl) (by kernel_rfl) (by kernel_rfl) ⟨⟨⟨0, rfl⟩, trivial⟩, trivial, trivial⟩ (fun _ _ _ h => h) ?_
          refine VA.va (i := 4) (listed' := LB 40 31) rfl (op_len (m := l0.length) 0 lenm Try.underlying22 rfl rfl (ltn rfl)) rfl (by kernel_rfl) (by kernel_rfl) (by kernel_rfl) (by kernel_rfl) ⟨⟨⟨0, rfl⟩, trivial⟩, trivial, trivial⟩ (fun _ _ _ h => h) ?_
          refine VA.va (i := 5) (listed' := LB 40 63) rfl (op_cmp rfl rfl (congrArg some hb168379) (ltn rfl)) rfl (by kernel_rfl) (by kernel_rfl) (by kernel_rfl) (by kernel_rfl) ⟨⟨⟨0, rfl⟩, trivial⟩, trivial, trivial⟩ (fun _ _ _ h => h) ?_
          refine VA.va (i := 6) (listed' := LB 40 127) rfl (op_move rfl (ltn rfl)) rfl (by kernel_rfl) (by kernel_rfl) (by kernel_rfl) (by kernel_rfl) ⟨⟨⟨0, rfl⟩, trivial⟩, trivial, trivial⟩ (fun _ _ _ h => h) ?_
          refine VA.un (i := 7) (listed' := LB 40 255) rfl rfl rfl (ltn rfl) (by kernel_rfl) (by kernel_rfl) (by kernel_rfl) (by kernel_rfl) ⟨⟨⟨0, rfl⟩, trivial⟩, trivial, trivial⟩ (fun _ _ _ h => h) ?_
          refine VA.un (i := 8) (listed' := LB 40 511) rfl rfl rfl (ltn rfl) (by kernel_rfl) (by kernel_rfl) (by kernel_rfl) (by kernel_rfl) ⟨⟨⟨0, rfl⟩, trivial⟩, trivial, trivial⟩ (fun _ _ _ h => h) ?_
          refine VA.un (i := 9) (listed' := LB 40 1023) rfl rfl rfl (ltn rfl) (by kernel_rfl) (by kernel_rfl) (by kernel_rfl) (by kernel_rfl) ⟨⟨⟨0, rfl⟩, trivial⟩, trivial, trivial⟩ (fun _ _ _ h => h) ?_
          refine VA.un (i := 10) (listed' := LB 40 2047) rfl rfl rfl (ltn rfl) (by kernel_rfl) (by kernel_rfl) (by kernel_rfl) (by kernel_rfl) ⟨⟨⟨0, rfl⟩, trivial⟩, trivial, trivial⟩ (fun _ _ _ h => h) ?_
          refine VA.un (i := 11) (listed' := LB 40 4095) rfl rfl rfl (ltn rfl) (by kernel_rfl) (by kernel_rfl) (by kernel_rfl) (by kernel_rfl) ⟨⟨⟨0, rfl⟩, trivial⟩, trivial, trivial⟩ (fun _ _ _ h => h) ?_
          refine VA.un (i := 12) (listed' := LB 40 8191) rfl rfl rfl (ltn rfl) (by kernel_rfl) (by kernel_rfl) (by kernel_rfl) (by kernel_rfl) ⟨⟨⟨0, rfl⟩, trivial⟩, trivial, trivial⟩ (fun _ _ _ h => h) ?_
          refine VA.un (i := 13) (listed' := LB 40 16383) rfl rfl rfl (ltn rfl) (by kernel_rfl) (by kernel_rfl) (by kernel_rfl) (by kernel_rfl) ⟨⟨⟨0, rfl⟩, trivial⟩, trivial, trivial⟩ (fun _ _ _ h => h) ?_
          refine VA.un (i := 14) (listed' := LB 40 32767) rfl rfl rfl (ltn rfl) (by kernel_rfl) (by kernel_rfl) (by kernel_rfl) (by kernel_rfl) ⟨⟨⟨0, rfl⟩, trivial⟩, trivial, trivial⟩ (fun _ _ _ h => h) ?_
          refine VA.un (i := 15) (listed' := LB 40 65535) rfl rfl rfl (ltn rfl) (by kernel_rfl) (by kernel_rfl) (by kernel_rfl) (by kernel_rfl) ⟨⟨⟨0, rfl⟩, trivial⟩, trivial, trivial⟩ (fun _ _ _ h => h) ?_
          refine VA.un (i := 16) (listed' := LB 40 131071) rfl rfl rfl (ltn rfl) (by kernel_rfl) (by kernel_rfl) (by kernel_rfl) (by kernel_rfl) ⟨⟨⟨0, rfl⟩, trivial⟩, trivial, trivial⟩ (fun _ _ _ h => h) ?_
          refine VA.un (i := 17) (listed' := LB 40 262143) rfl rfl rfl (ltn rfl) (by kernel_rfl) (by kernel_rfl) (by kernel_rfl) (by kernel_rfl) ⟨⟨⟨0, rfl⟩, trivial⟩, trivial, trivial⟩ (fun _ _ _ h => h) ?_
          refine VA.va (i := 18) (listed' := LB 40 524287) rfl (op_pick rfl rfl (ltn rfl)) rfl (by kernel_rfl) (by kernel_rfl) (by kernel_rfl) (by kernel_rfl) ⟨⟨⟨0, rfl⟩, trivial⟩, trivial, trivial⟩ (fun _ _ _ h => h) ?_
          refine VA.va (i := 19) (listed' := LB 40 1048575) rfl (op_move rfl (ltn rfl)) rfl (by kernel_rfl) (by kernel_rfl) (by kernel_rfl) (by kernel_rfl) ⟨⟨⟨0, rfl⟩, trivial⟩, trivial, trivial⟩ (fun _ _ _ h => h) ?_
          refine VA.va (i := 20) (listed' := LB 40 2097151) rfl (op_move rfl (ltn rfl)) rfl (by kernel_rfl) (by kernel_rfl) (by kernel_rfl) (by kernel_rfl) ⟨⟨⟨0, rfl⟩, trivial⟩, trivial, trivial⟩ (fun _ _ _ h => h) ?_
          refine VA.va (i := 21) (listed' := LB 40 4194303) rfl (op_ari64 rfl rfl rfl (ltn rfl)) rfl (by kernel_rfl) (by kernel_rfl) (by kernel_rfl) (by kernel_rfl) ⟨⟨⟨0, rfl⟩, trivial⟩, trivial, trivial⟩ (fun _ _ _ h => h) ?_
          refine VA.va (i := 22) (listed' := LB 40 8388607) rfl (op_ari64 rfl rfl rfl (ltn rfl)) rfl (by kernel_rfl) (by kernel_rfl) (by kernel_rfl) (by kernel_rfl) ⟨⟨⟨0, rfl⟩, trivial⟩, trivial, trivial⟩ (fun _ _ _ h => h) ?_
          refine VA.va (i := 23) (listed' := LB 40 16777215) rfl (op_move rfl (ltn rfl)) rfl (by kernel_rfl) (by kernel_rfl) (by kernel_rfl) (by kernel_rfl) ⟨⟨⟨0, rfl⟩, trivial⟩, trivial, trivial⟩ (fun _ _ _ h => h) ?_
          refine VA.va (i := 24) (listed' := LB 40 33554431) rfl (op_len (m := l0.length) 0 lenm Try.underlying22 rfl rfl (ltn rfl)) rfl (by kernel_rfl) (by kernel_rfl) (by kernel_rfl) (by kernel_rfl) ⟨⟨⟨0, rfl⟩, trivial⟩, trivial, trivial⟩ (fun _ _ _ h => h) ?_
          refine VA.va (i := 25) (listed' := LB 40 67108863) rfl (op_cmp rfl rfl (congrArg some hb168396) (ltn rfl)) rfl (by kernel_rfl) (by kernel_rfl) (by kernel_rfl) (by kernel_rfl) ⟨⟨⟨0, rfl⟩, trivial⟩, trivial, trivial⟩ (fun _ _ _ h => h) ?_
          refine VA.va (i := 26) (listed' := LB 40 134217727) rfl (op_move rfl (ltn rfl)) rfl (by kernel_rfl) (by kernel_rfl) (by kernel_rfl) (by kernel_rfl) ⟨⟨⟨0, rfl⟩, trivial⟩, trivial, trivial⟩ (fun _ _ _ h => h) ?_
          refine VA.un (i := 27) (listed' := LB 40 268435455) rfl rfl rfl (ltn rfl) (by kernel_rfl) (by kernel_rfl) (by kernel_rfl) (by kernel_rfl) ⟨⟨⟨0, rfl⟩, trivial⟩, trivial, trivial⟩ (fun _ _ _ h => h) ?_
          refine VA.un (i := 28) (listed' := LB 40 536870911) rfl rfl rfl (ltn rfl) (by kernel_rfl) (by kernel_rfl) (by kernel_rfl) (by kernel_rfl) ⟨⟨⟨0, rfl⟩, trivial⟩, trivial, trivial⟩ (fun _ _ _ h => h) ?_
          refine VA.un (i := 29) (listed' := LB 40 1073741823) rfl rfl rfl (ltn rfl) (by kernel_rfl) (by kernel_rfl) (by kernel_rfl) (by kernel_rfl) ⟨⟨⟨0, rfl⟩, trivial⟩, trivial, trivial⟩ (fun _ _ _ h => h) ?_
          refine VA.un (i := 30) (listed' := LB 40 2147483647) rfl rfl rfl (ltn rfl) (by kernel_rfl) (by kernel_rfl) (by kernel_rfl) (by kernel_rfl) ⟨⟨⟨0, rfl⟩, trivial⟩, trivial, trivial⟩ (fun _ _ _ h => h) ?_
          refine VA.un (i := 31) (listed' := LB 40 4294967295) rfl rfl rfl (ltn rfl) (by kernel_rfl) (by kernel_rfl) (by kernel_rfl) (by kernel_rfl) ⟨⟨⟨0, rfl⟩, trivial⟩, trivial, trivial⟩ (fun _ _ _ h => h) ?_
          refine VA.un (i := 32) (listed' := LB 40 8589934591) rfl rfl rfl (ltn rfl) (by kernel_rfl) (by kernel_rfl) (by kernel_rfl) (by kernel_rfl) ⟨⟨⟨0, rfl⟩, trivial⟩, trivial, trivial⟩ (fun _ _ _ h => h) ?_
          refine VA.un (i := 33) (listed' := LB 40 17179869183) rfl rfl rfl (ltn rfl) (by kernel_rfl) (by kernel_rfl) (by kernel_rfl) (by kernel_rfl) ⟨⟨⟨0, rfl⟩, trivial⟩, trivial, trivial⟩ (fun _ _ _ h => h) ?_
          refine VA.un (i := 34) (listed' := LB 40 34359738367) rfl rfl rfl (ltn rfl) (by kernel_rfl) (by kernel_rfl) (by kernel_rfl) (by kernel_rfl) ⟨⟨⟨0, rfl⟩, trivial⟩, trivial, trivial⟩ (fun _ _ _ h => h) ?_
          refine VA.un (i := 35) (listed' := LB 40 68719476735) rfl rfl rfl (ltn rfl) (by kernel_rfl) (by kernel_rfl) (by kernel_rfl) (by kernel_rfl) ⟨⟨⟨0, rfl⟩, trivial⟩, trivial, trivial⟩ (fun _ _ _ h => h) ?_
          refine VA.un (i := 36) (listed' := LB 40 137438953471) rfl rfl rfl (ltn rfl) (by kernel_rfl) (by kernel_rfl) (by kernel_rfl) (by kernel_rfl) ⟨⟨⟨0, rfl⟩, trivial⟩, trivial, trivial⟩ (fun _ _ _ h => h) ?_
          refine VA.un (i := 37) (listed' := LB 40 274877906943) rfl rfl rfl (ltn rfl) (by kernel_rfl) (by kernel_rfl) (by kernel_rfl) (by kernel_rfl) ⟨⟨⟨0, rfl⟩, trivial⟩, trivial, trivial⟩ (fun _ _ _ h => h) ?_
          refine VA.va (i := 38) (listed' := LB 40 549755813887) rfl (op_pick rfl rfl (ltn rfl)) rfl (by kernel_rfl) (by kernel_rfl) (by kernel_rfl) (by kernel_rfl) ⟨⟨⟨0, rfl⟩, trivial⟩, trivial, trivial⟩ (fun _ _ _ h => h) ?_
          refine VA.va (i := 39) (listed' := LB 40 1099511627775) rfl (op_pick rfl rfl (ltn rfl)) rfl (by kernel_rfl) (by kernel_rfl) (by kernel_rfl) (by kernel_rfl) ⟨⟨⟨0, rfl⟩, trivial⟩, trivial, trivial⟩ (fun _ _ _ h => h) ?_
          refine VA.done (by kernel_rfl) ?_
          exact VN.meet0  [] [] trivial ⟨rfl, ⟨rfl, rfl, rfl, rfl, rfl, rfl, rfl, rfl, rfl, rfl, rfl, rfl, rfl, rfl, rfl, rfl, rfl, rfl, rfl, rfl, rfl, rfl, rfl, rfl, rfl, rfl, rfl, rfl, rfl, rfl, rfl, rfl, rfl, rfl, rfl, rfl, rfl, rfl, rfl, rfl, rfl, rfl, rfl, rfl, rfl, rfl, rfl, trivial⟩, ⟨⟨0, rfl⟩, trivial⟩, rfl, by decide, rfl, by decide⟩
        intro _
        refine VC.cond_f rfl ?_
        refine VC.skip ?_
        refine VN.block ?_
        refine VN.then ?_
        refine VC.region ?_
        refine VL.va (op_ari64 rfl rfl rfl (ltn rfl)) rfl ?_
        refine VL.va (op_move rfl (ltn rfl)) rfl ?_
        refine VL.done ?_
        refine VN.again [] [] (ihl1 (wrap64 (i168118 + 1)) h) ⟨rfl, ⟨rfl, rfl, rfl, rfl, trivial⟩, ⟨⟨0, rfl⟩, trivial⟩, rfl, by decide, rfl, by decide⟩
  · rw [if_neg c168352] at h
    obtain rfl : b168174 = false := hb168174.symm.trans (decide_eq_false c168352)
    refine VC.cond_f rfl ?_
    refine VC.exit ?_
    refine VX.then ?_
    refine VX.then ?_
    refine VX.hit ?_
    refine VN.then ?_
    refine VC.seq ?_
    refine VC.region ?_
    refine VL.va (op_move rfl (ltn rfl)) rfl ?_
    replace h := Option.bind_eq_some_iff.1 h
    obtain ⟨t168405, hA168406, h⟩ := h
    refine VL.sC (o_call0 FO15 (tarryref06_All.ok k l0 v0 t168405 hA168406) rfl rfl (ltn rfl) (All_of (.cons (List.mem_of_getElem? (i := 0) rfl) .nil))) rfl ?_
    rintro _ _ _ ⟨rfl, rfl, rfl⟩
    refine VL.va (op_assign rfl (ltn rfl)) rfl ?_
    refine VL.done ?_
    refine VN.then ?_
    refine VC.ret ?_
    obtain rfl := Option.some.inj h
    exact VR.fn (rs := [.tmp 2]) [] [] [] rfl (.tmp rfl .nil) ⟨rfl, rfl, rfl⟩ trivial rfl (by decide)

end Go.Proofs.Ythgoagnennjagaa.PQueueHeaps
