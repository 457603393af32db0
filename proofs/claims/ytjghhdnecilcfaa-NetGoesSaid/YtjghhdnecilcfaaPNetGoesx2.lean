/- Written by a program of this repo: what the program's functions do, each as a Lean function, shown of the loaded code; or a statement's row over that; no condition of its own. -/
import Derived.Test.YtjghhdnecilcfaaPNetGoesx1
namespace Go.Proofs.Ytjghhdnecilcfaa.PNetGoes
open Go Go.RowKit Go.Proofs.YtjghhdnecilcfaaV
set_option linter.unusedVariables false
set_option linter.unusedSimpArgs false

set_option maxHeartbeats 4000000 in
set_option maxRecDepth 100000 in
theorem net_Take.ok (k : Nat) (l0_0 : List S25) (a0_1 : Int) (a1 : Int) (v0_0 : Value) (r1 : List S25) (r2 : Int) (r3 : Int) (r4 : Bool) (r5 : Int) (r6 : Int) (r7 : Int) (r8 : Bool) (r9 : Int) (h : net_Take.f k l0_0 a0_1 a1 = some (r1, r2, r3, r4, r5, r6, r7, r8, r9)) :
    VCalls Try.prog 8 [.agg #[v0_0, .int .i64 a0_1], .int .i64 a1] [.row v0_0 6 (l0_0.map enc25)] (fun v G own => ∃ w0 : Value, v = .tuple #[.agg #[w0, .int .i64 r2], .agg #[.int .i64 r3, .bool r4, .int .i64 r5, .int .i64 r6, .int .i64 r7, .bool r8], .int .i64 r9] ∧ G = [.row w0 6 (r1.map enc25)] ∧ own = []) := by
  refine VCalls.intro Try.func8 rfl (len rfl) fun E hC => ?_
  unfold net_Take.f at h
  refine VC.seq ?_
  refine VC.region ?_
  refine VL.sG (o_box rfl (.agg (.f 0 rfl (.c rfl .nil))) (ltn rfl)) rfl ?_
  intro g494
  refine VL.sG (o_alloc (us := [.slice none 0 0, .int .i64 0]) Z24 rfl (ltn rfl)) rfl ?_
  intro g495
  refine VL.sG (o_alloc (us := [.int .i64 0, .bool false, .int .i64 0, .int .i64 0, .int .i64 0, .bool false]) Z26 rfl (ltn rfl)) rfl ?_
  intro g496
  refine VL.va (op_assign rfl (ltn rfl)) rfl ?_
  refine VL.done ?_
  refine VN.then ?_
  refine VC.seq ?_
  refine VC.block ?_
  refine VC.seq ?_
  refine VC.region ?_
  refine VL.va (op_load 2 2 rfl rfl TI24 rfl (fun h => absurd h (by decide)) (ltn rfl)) rfl ?_
  replace h := Option.bind_eq_some_iff.1 h
  obtain ⟨t516, hA517, h⟩ := h
  refine VL.sC (o_call0 FO11 (net_Right.ok k l0_0 a0_1 v0_0 t516 hA517) rfl rfl (ltn rfl) (All_of (.cons (List.mem_of_getElem? (i := 0) rfl) .nil))) rfl ?_
  rintro _ _ _ ⟨rfl, rfl, rfl⟩
  by_cases c518 : t516 = true
  · rw [if_pos c518] at h
    obtain rfl := c518
    refine VL.va (op_not rfl rfl (ltn rfl)) rfl ?_
    refine VL.va (op_assign rfl (ltn rfl)) rfl ?_
    refine VL.done ?_
    refine VN.then ?_
    refine VC.cond_f rfl ?_
    refine VC.seq ?_
    refine VC.region ?_
    refine VL.va (op_move rfl (ltn rfl)) rfl ?_
    refine VL.letter (decide (a1 < 0)) fun b522 hb522 => ?_
    refine VL.va (op_cmp rfl rfl (congrArg some hb522) (ltn rfl)) rfl ?_
    refine VL.va (op_move rfl (ltn rfl)) rfl ?_
    by_cases c523 : a1 < 0
    · rw [if_pos c523] at h
      obtain rfl : b522 = true := hb522.symm.trans (decide_eq_true c523)
      refine VL.un rfl rfl (ltn rfl) ?_
      refine VL.un rfl rfl (ltn rfl) ?_
      refine VL.un rfl rfl (ltn rfl) ?_
      refine VL.un rfl rfl (ltn rfl) ?_
      refine VL.un rfl rfl (ltn rfl) ?_
      refine VL.va (op_pick rfl rfl (ltn rfl)) rfl ?_
      refine VL.va (op_assign rfl (ltn rfl)) rfl ?_
      refine VL.done ?_
      refine VN.then ?_
      refine VC.cond_t rfl ?_
      refine VC.seq ?_
      refine VC.region ?_
      refine VL.va (op_build (vals := []) (vcs := []) (cells := [.slice none 0 0, .int .i64 0]) SI24 rfl .nil (by kernel_rfl) (ltn rfl)) rfl ?_
      refine VL.va (op_build (vals := []) (vcs := []) (cells := [.int .i64 0, .bool false, .int .i64 0, .int .i64 0, .int .i64 0, .bool false]) SI26 rfl .nil (by kernel_rfl) (ltn rfl)) rfl ?_
      refine VL.step1 (o_store 1 2 rfl rfl rfl TI24 (.agg (.c rfl (.c rfl .nil))) rfl (len rfl)) rfl ?_
      refine VL.step1 (o_store 0 6 rfl rfl rfl TI26 (.agg (.c rfl (.c rfl (.c rfl (.c rfl (.c rfl (.c rfl .nil))))))) rfl (len rfl)) rfl ?_
      refine VL.va (op_assign rfl (ltn rfl)) rfl ?_
      refine VL.done ?_
      refine VN.then ?_
      refine VC.ret ?_
      refine VR.block ?_
      refine VR.then ?_
      simp only [Option.some.injEq, Prod.mk.injEq] at h
      obtain ⟨rfl, rfl, rfl, rfl, rfl, rfl, rfl, rfl, rfl⟩ := h
      refine VR.nilFact' 6 ?_
      exact VR.fn (rs := [.cell 4 24, .cell 5 26, .tmp 6]) [.row (.slice none 0 0) 6 (([] : List S25).map enc25)] [] [] rfl (.cell 1 rfl rfl TI24 (fun h => absurd h (by decide)) (.cell 0 rfl rfl TI26 (fun h => absurd h (by decide)) (.tmp rfl .nil))) ⟨(.slice none 0 0), rfl, rfl, rfl⟩ ⟨⟨0, rfl⟩, trivial⟩ rfl (by decide)
    · rw [if_neg c523] at h
      obtain rfl : b522 = false := hb522.symm.trans (decide_eq_false c523)
      refine VL.va (op_move rfl (ltn rfl)) rfl ?_
      refine VL.va (op_fieldAddr FI24_0 rfl (add_at _ _ _) (ltn rfl)) rfl ?_
      refine VL.va (op_load 2 1 rfl rfl TI22 rfl (by decide) (ltn rfl)) rfl ?_
      refine VL.va (op_len (m := l0_0.length) 0 lenm Try.underlying22 rfl rfl (ltn rfl)) rfl ?_
      refine VL.letter (decide (a1 ≥ (l0_0.length : Int))) fun b525 hb525 => ?_
      refine VL.va (op_cmp rfl rfl (congrArg some hb525) (ltn rfl)) rfl ?_
      refine VL.va (op_pick rfl rfl (ltn rfl)) rfl ?_
      refine VL.va (op_assign rfl (ltn rfl)) rfl ?_
      refine VL.done ?_
      refine VN.then ?_
      by_cases c526 : a1 ≥ (l0_0.length : Int)
      · rw [if_pos c526] at h
        obtain rfl : b525 = true := hb525.symm.trans (decide_eq_true c526)
        refine VC.cond_t rfl ?_
        refine VC.seq ?_
        refine VC.region ?_
        refine VL.va (op_build (vals := []) (vcs := []) (cells := [.slice none 0 0, .int .i64 0]) SI24 rfl .nil (by kernel_rfl) (ltn rfl)) rfl ?_
        refine VL.va (op_build (vals := []) (vcs := []) (cells := [.int .i64 0, .bool false, .int .i64 0, .int .i64 0, .int .i64 0, .bool false]) SI26 rfl .nil (by kernel_rfl) (ltn rfl)) rfl ?_
        refine VL.step1 (o_store 1 2 rfl rfl rfl TI24 (.agg (.c rfl (.c rfl .nil))) rfl (len rfl)) rfl ?_
        refine VL.step1 (o_store 0 6 rfl rfl rfl TI26 (.agg (.c rfl (.c rfl (.c rfl (.c rfl (.c rfl (.c rfl .nil))))))) rfl (len rfl)) rfl ?_
        refine VL.va (op_assign rfl (ltn rfl)) rfl ?_
        refine VL.done ?_
        refine VN.then ?_
        refine VC.ret ?_
        refine VR.block ?_
        refine VR.then ?_
        simp only [Option.some.injEq, Prod.mk.injEq] at h
        obtain ⟨rfl, rfl, rfl, rfl, rfl, rfl, rfl, rfl, rfl⟩ := h
        refine VR.nilFact' 6 ?_
        exact VR.fn (rs := [.cell 4 24, .cell 5 26, .tmp 6]) [.row (.slice none 0 0) 6 (([] : List S25).map enc25)] [] [] rfl (.cell 1 rfl rfl TI24 (fun h => absurd h (by decide)) (.cell 0 rfl rfl TI26 (fun h => absurd h (by decide)) (.tmp rfl .nil))) ⟨(.slice none 0 0), rfl, rfl, rfl⟩ ⟨⟨0, rfl⟩, trivial⟩ rfl (by decide)
      · rw [if_neg c526] at h
        obtain rfl : b525 = false := hb525.symm.trans (decide_eq_false c526)
        refine VC.cond_f rfl ?_
        refine VC.skip ?_
        refine VN.block ?_
        refine VN.then ?_
        refine VC.seq ?_
        refine VC.region ?_
        refine VL.va (op_fieldAddr FI24_0 rfl (add_at _ _ _) (ltn rfl)) rfl ?_
        refine VL.va (op_load 2 1 rfl rfl TI22 rfl (by decide) (ltn rfl)) rfl ?_
        refine VL.va (op_move rfl (ltn rfl)) rfl ?_
        by_cases c528 : 0 ≤ a1
        · rw [if_pos c528] at h
          replace h := Option.bind_eq_some_iff.1 h
          obtain ⟨x529, hx529, h⟩ := h
          refine VL.open (m := l0_0.length) 0 lenm rfl (pos_get hx529) ?_
          rintro ad530 n531 rfl
          refine VL.va (op_indexAddr Try.underlying22 TI26 rfl rfl c528 (lt_get c528 hx529) rfl (ltn rfl)) rfl ?_
          refine VL.va (op_load_row (o := 0) 0 a1.toNat 6 rfl rfl (get_map hx529) TI26 rfl (fun h => absurd h (by decide)) (ltn rfl)) rfl ?_
          refine VL.sG (o_alloc (us := [.int .i64 0, .bool false, .int .i64 0, .int .i64 0, .int .i64 0, .bool false]) Z26 rfl (ltn rfl)) rfl ?_
          intro g532
          refine VL.step1 (o_store 0 6 rfl rfl rfl TI26 (.agg (.c rfl (.c rfl (.c rfl (.c rfl (.c rfl (.c rfl .nil))))))) rfl (len rfl)) rfl ?_
          refine VL.done ?_
          refine VN.then ?_
          by_cases c533 : a1 ≤ (l0_0.length : Int)
          · rw [if_pos c533] at h
            by_cases c536 : 0 ≤ wrap64 (a1 + 1)
            · rw [if_pos c536] at h
              by_cases c537 : (wrap64 (a1 + 1)) ≤ (l0_0.length : Int)
              · rw [if_pos c537] at h
                replace h := Option.bind_eq_some_iff.1 h
                obtain ⟨r540, hA541, h⟩ := h
                refine VC.join1 (fun (v543 : Value) => ⟨44, [(2, .pointer (some ⟨g494, 0, none⟩)), (4, .pointer (some ⟨g495, 0, none⟩)), (5, .pointer (some ⟨g496, 0, none⟩)), (6, .int .i64 0), (7, .pointer (some ⟨g532, 0, none⟩))], [.row v543 6 (r540.map enc25)], [(g532, 26, [.int .i64 x529.f0, .bool x529.f1, .int .i64 x529.f2, .int .i64 x529.f3, .int .i64 x529.f4, .bool x529.f5]), (g496, 26, [.int .i64 0, .bool false, .int .i64 0, .int .i64 0, .int .i64 0, .bool false]), (g495, 24, [.slice none 0 0, .int .i64 0]), (g494, 24, [v543, .int .i64 a0_1])], []⟩) (fun (v543 : Value) => True) ?_ ?_
                · refine VC.draw ⟨0, [], [.row (.slice (some ad530) l0_0.length n531) 6 (l0_0.map enc25)], [], []⟩ (by kernel_rfl) rfl (by kernel_rfl) (n := 12) (listed := LB 12 0) ?_
                  refine VA.va (i := 2) (listed' := LB 12 4) rfl (op_move rfl (ltn rfl)) rfl (by kernel_rfl) (by kernel_rfl) (by kernel_rfl) (by kernel_rfl) ⟨⟨⟨0, rfl⟩, trivial⟩, trivial, trivial⟩ (fun _ _ _ h => h) ?_
                  refine VA.va (i := 6) (listed' := LB 12 68) rfl (op_move rfl (ltn rfl)) rfl (by kernel_rfl) (by kernel_rfl) (by kernel_rfl) (by kernel_rfl) ⟨⟨⟨0, rfl⟩, trivial⟩, trivial, trivial⟩ (fun _ _ _ h => h) ?_
                  refine VA.va (i := 7) (listed' := LB 12 196) rfl (op_ari64 rfl rfl rfl (ltn rfl)) rfl (by kernel_rfl) (by kernel_rfl) (by kernel_rfl) (by kernel_rfl) ⟨⟨⟨0, rfl⟩, trivial⟩, trivial, trivial⟩ (fun _ _ _ h => h) ?_
                  refine VA.all [0, 4] (by kernel_rfl) (by simp) ?_
                  refine VAll.cons1 (listed' := LB 12 197) rfl ((op_fieldAddr FI24_0 rfl (add_at _ _ _) (ltn rfl)).op1') rfl (by kernel_rfl) ⟨⟨⟨0, rfl⟩, trivial⟩, trivial, trivial⟩ ?_ ?_
                  · refine VA.all [1, 4] (by kernel_rfl) (by simp) ?_
                    refine VAll.cons1 (listed' := LB 12 199) rfl ((op_load 3 1 rfl rfl TI22 rfl (by decide) (ltn rfl)).op1') rfl (by kernel_rfl) ⟨⟨⟨0, rfl⟩, trivial⟩, trivial, trivial⟩ ?_ ?_
                    · refine VA.cut (i := 3) (listed' := LB 12 207) rfl (m := l0_0.length) 0 0 a1.toNat lenm cutm Try.underlying22 TI26 rfl rfl ⟨rfl, ⟨_, _, rfl, c528, rfl⟩, by omega, by omega⟩ (ltn rfl) rfl (by kernel_rfl) (by kernel_rfl) (by kernel_rfl) (by kernel_rfl) ⟨⟨⟨0, rfl⟩, trivial⟩, trivial, trivial⟩ (fun _ _ _ _ h => h) ?_
                      intro v535
                      refine VA.one1 (i := 4) (listed' := LB 12 223) (by kernel_rfl) rfl ((op_fieldAddr FI24_0 rfl (add_at _ _ _) (ltn rfl)).op1') rfl (by kernel_rfl) ⟨⟨⟨1, rfl⟩, trivial⟩, trivial, trivial⟩ ?_
                      refine VA.one1 (i := 5) (listed' := LB 12 255) (by kernel_rfl) rfl ((op_load 3 1 rfl rfl TI22 rfl (by decide) (ltn rfl)).op1') rfl (by kernel_rfl) ⟨⟨⟨1, rfl⟩, trivial⟩, trivial, trivial⟩ ?_
                      refine VA.cut (i := 8) (listed' := LB 12 511) rfl (m := l0_0.length) 0 ((wrap64 (a1 + 1)).toNat) l0_0.length lenm cutm Try.underlying22 TI26 rfl rfl ⟨⟨_, _, rfl, c536, rfl⟩, rfl, by omega, by omega⟩ (ltn rfl) rfl (by kernel_rfl) (by kernel_rfl) (by kernel_rfl) (by kernel_rfl) ⟨⟨⟨1, rfl⟩, trivial⟩, trivial, trivial⟩ (fun _ _ _ _ h => h) ?_
                      intro v539
                      refine VA.oneC (i := 9) (listed' := LB 12 1023) (by kernel_rfl) rfl (o_call0 FO17 (net_behind.ok ((l0_0.take a1.toNat).drop 0) ((l0_0.take l0_0.length).drop ((wrap64 (a1 + 1)).toNat)) v535 v539 r540 hA541) rfl rfl (ltn rfl) (All_of (.cons (List.mem_of_getElem? (i := 1) rfl) (.cons (List.mem_of_getElem? (i := 0) rfl) .nil)))) rfl (by kernel_rfl) ?_
                      rintro v543 _ _ ⟨_, rfl, rfl, rfl⟩
                      refine ⟨⟨⟨⟨3, rfl⟩, trivial⟩, trivial, trivial⟩, ?_⟩
                      refine VA.one1 (i := 10) (listed' := LB 12 2047) (by kernel_rfl) rfl ((op_fieldAddr FI24_0 rfl (add_at _ _ _) (ltn rfl)).op1') rfl (by kernel_rfl) ⟨⟨⟨3, rfl⟩, trivial⟩, trivial, trivial⟩ ?_
                      refine VA.one1 (i := 11) (listed' := LB 12 4095) (by kernel_rfl) rfl (o_store 3 1 rfl rfl rfl TI22 (.f 0 rfl) rfl (len rfl)) rfl (by kernel_rfl) ⟨⟨⟨3, rfl⟩, trivial⟩, trivial, trivial⟩ ?_
                      refine VA.done (by kernel_rfl) ?_
                      exact VN.meet1 v543 [0, 1, 2, 3] [] trivial ⟨rfl, ⟨rfl, rfl, rfl, rfl, rfl, trivial⟩, ⟨⟨0, rfl⟩, trivial⟩, rfl, by decide, rfl, by decide⟩
                    refine VAll.cons1 (listed' := LB 12 213) rfl ((op_fieldAddr FI24_0 rfl (add_at _ _ _) (ltn rfl)).op1') rfl (by kernel_rfl) ⟨⟨⟨0, rfl⟩, trivial⟩, trivial, trivial⟩ ?_ VAll.nil
                    refine VA.all [1, 5] (by kernel_rfl) (by simp) ?_
                    refine VAll.cons1 (listed' := LB 12 215) rfl ((op_load 3 1 rfl rfl TI22 rfl (by decide) (ltn rfl)).op1') rfl (by kernel_rfl) ⟨⟨⟨0, rfl⟩, trivial⟩, trivial, trivial⟩ ?_ ?_
                    · refine VA.cut (i := 3) (listed' := LB 12 223) rfl (m := l0_0.length) 0 0 a1.toNat lenm cutm Try.underlying22 TI26 rfl rfl ⟨rfl, ⟨_, _, rfl, c528, rfl⟩, by omega, by omega⟩ (ltn rfl) rfl (by kernel_rfl) (by kernel_rfl) (by kernel_rfl) (by kernel_rfl) ⟨⟨⟨0, rfl⟩, trivial⟩, trivial, trivial⟩ (fun _ _ _ _ h => h) ?_
                      intro v535
                      refine VA.one1 (i := 5) (listed' := LB 12 255) (by kernel_rfl) rfl ((op_load 3 1 rfl rfl TI22 rfl (by decide) (ltn rfl)).op1') rfl (by kernel_rfl) ⟨⟨⟨1, rfl⟩, trivial⟩, trivial, trivial⟩ ?_
                      refine VA.cut (i := 8) (listed' := LB 12 511) rfl (m := l0_0.length) 0 ((wrap64 (a1 + 1)).toNat) l0_0.length lenm cutm Try.underlying22 TI26 rfl rfl ⟨⟨_, _, rfl, c536, rfl⟩, rfl, by omega, by omega⟩ (ltn rfl) rfl (by kernel_rfl) (by kernel_rfl) (by kernel_rfl) (by kernel_rfl) ⟨⟨⟨1, rfl⟩, trivial⟩, trivial, trivial⟩ (fun _ _ _ _ h => h) ?_
                      intro v539
                      refine VA.oneC (i := 9) (listed' := LB 12 1023) (by kernel_rfl) rfl (o_call0 FO17 (net_behind.ok ((l0_0.take a1.toNat).drop 0) ((l0_0.take l0_0.length).drop ((wrap64 (a1 + 1)).toNat)) v535 v539 r540 hA541) rfl rfl (ltn rfl) (All_of (.cons (List.mem_of_getElem? (i := 1) rfl) (.cons (List.mem_of_getElem? (i := 0) rfl) .nil)))) rfl (by kernel_rfl) ?_
                      rintro v543 _ _ ⟨_, rfl, rfl, rfl⟩
                      refine ⟨⟨⟨⟨3, rfl⟩, trivial⟩, trivial, trivial⟩, ?_⟩
                      refine VA.one1 (i := 10) (listed' := LB 12 2047) (by kernel_rfl) rfl ((op_fieldAddr FI24_0 rfl (add_at _ _ _) (ltn rfl)).op1') rfl (by kernel_rfl) ⟨⟨⟨3, rfl⟩, trivial⟩, trivial, trivial⟩ ?_
                      refine VA.one1 (i := 11) (listed' := LB 12 4095) (by kernel_rfl) rfl (o_store 3 1 rfl rfl rfl TI22 (.f 0 rfl) rfl (len rfl)) rfl (by kernel_rfl) ⟨⟨⟨3, rfl⟩, trivial⟩, trivial, trivial⟩ ?_
                      refine VA.done (by kernel_rfl) ?_
                      exact VN.meet1 v543 [0, 1, 2, 3] [] trivial ⟨rfl, ⟨rfl, rfl, rfl, rfl, rfl, trivial⟩, ⟨⟨0, rfl⟩, trivial⟩, rfl, by decide, rfl, by decide⟩
                    refine VAll.cons1 (listed' := LB 12 245) rfl ((op_load 3 1 rfl rfl TI22 rfl (by decide) (ltn rfl)).op1') rfl (by kernel_rfl) ⟨⟨⟨0, rfl⟩, trivial⟩, trivial, trivial⟩ ?_ VAll.nil
                    refine VA.cut (i := 8) (listed' := LB 12 501) rfl (m := l0_0.length) 0 ((wrap64 (a1 + 1)).toNat) l0_0.length lenm cutm Try.underlying22 TI26 rfl rfl ⟨⟨_, _, rfl, c536, rfl⟩, rfl, by omega, by omega⟩ (ltn rfl) rfl (by kernel_rfl) (by kernel_rfl) (by kernel_rfl) (by kernel_rfl) ⟨⟨⟨0, rfl⟩, trivial⟩, trivial, trivial⟩ (fun _ _ _ _ h => h) ?_
                    intro v539
                    refine VA.one1 (i := 1) (listed' := LB 12 503) (by kernel_rfl) rfl ((op_load 3 1 rfl rfl TI22 rfl (by decide) (ltn rfl)).op1') rfl (by kernel_rfl) ⟨⟨⟨1, rfl⟩, trivial⟩, trivial, trivial⟩ ?_
                    refine VA.cut (i := 3) (listed' := LB 12 511) rfl (m := l0_0.length) 0 0 a1.toNat lenm cutm Try.underlying22 TI26 rfl rfl ⟨rfl, ⟨_, _, rfl, c528, rfl⟩, by omega, by omega⟩ (ltn rfl) rfl (by kernel_rfl) (by kernel_rfl) (by kernel_rfl) (by kernel_rfl) ⟨⟨⟨1, rfl⟩, trivial⟩, trivial, trivial⟩ (fun _ _ _ _ h => h) ?_
                    intro v535
                    refine VA.oneC (i := 9) (listed' := LB 12 1023) (by kernel_rfl) rfl (o_call0 FO17 (net_behind.ok ((l0_0.take a1.toNat).drop 0) ((l0_0.take l0_0.length).drop ((wrap64 (a1 + 1)).toNat)) v535 v539 r540 hA541) rfl rfl (ltn rfl) (All_of (.cons (List.mem_of_getElem? (i := 0) rfl) (.cons (List.mem_of_getElem? (i := 1) rfl) .nil)))) rfl (by kernel_rfl) ?_
                    rintro v543 _ _ ⟨_, rfl, rfl, rfl⟩
                    refine ⟨⟨⟨⟨3, rfl⟩, trivial⟩, trivial, trivial⟩, ?_⟩
                    refine VA.one1 (i := 10) (listed' := LB 12 2047) (by kernel_rfl) rfl ((op_fieldAddr FI24_0 rfl (add_at _ _ _) (ltn rfl)).op1') rfl (by kernel_rfl) ⟨⟨⟨3, rfl⟩, trivial⟩, trivial, trivial⟩ ?_
                    refine VA.one1 (i := 11) (listed' := LB 12 4095) (by kernel_rfl) rfl (o_store 3 1 rfl rfl rfl TI22 (.f 0 rfl) rfl (len rfl)) rfl (by kernel_rfl) ⟨⟨⟨3, rfl⟩, trivial⟩, trivial, trivial⟩ ?_
                    refine VA.done (by kernel_rfl) ?_
                    exact VN.meet1 v543 [0, 1, 2, 3] [] trivial ⟨rfl, ⟨rfl, rfl, rfl, rfl, rfl, trivial⟩, ⟨⟨0, rfl⟩, trivial⟩, rfl, by decide, rfl, by decide⟩
                  refine VAll.cons1 (listed' := LB 12 212) rfl ((op_fieldAddr FI24_0 rfl (add_at _ _ _) (ltn rfl)).op1') rfl (by kernel_rfl) ⟨⟨⟨0, rfl⟩, trivial⟩, trivial, trivial⟩ ?_ VAll.nil
                  refine VA.all [0, 5] (by kernel_rfl) (by simp) ?_
                  refine VAll.cons1 (listed' := LB 12 213) rfl ((op_fieldAddr FI24_0 rfl (add_at _ _ _) (ltn rfl)).op1') rfl (by kernel_rfl) ⟨⟨⟨0, rfl⟩, trivial⟩, trivial, trivial⟩ ?_ ?_
                  · refine VA.all [1, 5] (by kernel_rfl) (by simp) ?_
                    refine VAll.cons1 (listed' := LB 12 215) rfl ((op_load 3 1 rfl rfl TI22 rfl (by decide) (ltn rfl)).op1') rfl (by kernel_rfl) ⟨⟨⟨0, rfl⟩, trivial⟩, trivial, trivial⟩ ?_ ?_
                    · refine VA.cut (i := 3) (listed' := LB 12 223) rfl (m := l0_0.length) 0 0 a1.toNat lenm cutm Try.underlying22 TI26 rfl rfl ⟨rfl, ⟨_, _, rfl, c528, rfl⟩, by omega, by omega⟩ (ltn rfl) rfl (by kernel_rfl) (by kernel_rfl) (by kernel_rfl) (by kernel_rfl) ⟨⟨⟨0, rfl⟩, trivial⟩, trivial, trivial⟩ (fun _ _ _ _ h => h) ?_
                      intro v535
                      refine VA.one1 (i := 5) (listed' := LB 12 255) (by kernel_rfl) rfl ((op_load 3 1 rfl rfl TI22 rfl (by decide) (ltn rfl)).op1') rfl (by kernel_rfl) ⟨⟨⟨1, rfl⟩, trivial⟩, trivial, trivial⟩ ?_
                      refine VA.cut (i := 8) (listed' := LB 12 511) rfl (m := l0_0.length) 0 ((wrap64 (a1 + 1)).toNat) l0_0.length lenm cutm Try.underlying22 TI26 rfl rfl ⟨⟨_, _, rfl, c536, rfl⟩, rfl, by omega, by omega⟩ (ltn rfl) rfl (by kernel_rfl) (by kernel_rfl) (by kernel_rfl) (by kernel_rfl) ⟨⟨⟨1, rfl⟩, trivial⟩, trivial, trivial⟩ (fun _ _ _ _ h => h) ?_
                      intro v539
                      refine VA.oneC (i := 9) (listed' := LB 12 1023) (by kernel_rfl) rfl (o_call0 FO17 (net_behind.ok ((l0_0.take a1.toNat).drop 0) ((l0_0.take l0_0.length).drop ((wrap64 (a1 + 1)).toNat)) v535 v539 r540 hA541) rfl rfl (ltn rfl) (All_of (.cons (List.mem_of_getElem? (i := 1) rfl) (.cons (List.mem_of_getElem? (i := 0) rfl) .nil)))) rfl (by kernel_rfl) ?_
                      rintro v543 _ _ ⟨_, rfl, rfl, rfl⟩
                      refine ⟨⟨⟨⟨3, rfl⟩, trivial⟩, trivial, trivial⟩, ?_⟩
                      refine VA.one1 (i := 10) (listed' := LB 12 2047) (by kernel_rfl) rfl ((op_fieldAddr FI24_0 rfl (add_at _ _ _) (ltn rfl)).op1') rfl (by kernel_rfl) ⟨⟨⟨3, rfl⟩, trivial⟩, trivial, trivial⟩ ?_
                      refine VA.one1 (i := 11) (listed' := LB 12 4095) (by kernel_rfl) rfl (o_store 3 1 rfl rfl rfl TI22 (.f 0 rfl) rfl (len rfl)) rfl (by kernel_rfl) ⟨⟨⟨3, rfl⟩, trivial⟩, trivial, trivial⟩ ?_
                      refine VA.done (by kernel_rfl) ?_
                      exact VN.meet1 v543 [0, 1, 2, 3] [] trivial ⟨rfl, ⟨rfl, rfl, rfl, rfl, rfl, trivial⟩, ⟨⟨0, rfl⟩, trivial⟩, rfl, by decide, rfl, by decide⟩
                    refine VAll.cons1 (listed' := LB 12 245) rfl ((op_load 3 1 rfl rfl TI22 rfl (by decide) (ltn rfl)).op1') rfl (by kernel_rfl) ⟨⟨⟨0, rfl⟩, trivial⟩, trivial, trivial⟩ ?_ VAll.nil
                    refine VA.cut (i := 8) (listed' := LB 12 501) rfl (m := l0_0.length) 0 ((wrap64 (a1 + 1)).toNat) l0_0.length lenm cutm Try.underlying22 TI26 rfl rfl ⟨⟨_, _, rfl, c536, rfl⟩, rfl, by omega, by omega⟩ (ltn rfl) rfl (by kernel_rfl) (by kernel_rfl) (by kernel_rfl) (by kernel_rfl) ⟨⟨⟨0, rfl⟩, trivial⟩, trivial, trivial⟩ (fun _ _ _ _ h => h) ?_
                    intro v539
                    refine VA.one1 (i := 1) (listed' := LB 12 503) (by kernel_rfl) rfl ((op_load 3 1 rfl rfl TI22 rfl (by decide) (ltn rfl)).op1') rfl (by kernel_rfl) ⟨⟨⟨1, rfl⟩, trivial⟩, trivial, trivial⟩ ?_
                    refine VA.cut (i := 3) (listed' := LB 12 511) rfl (m := l0_0.length) 0 0 a1.toNat lenm cutm Try.underlying22 TI26 rfl rfl ⟨rfl, ⟨_, _, rfl, c528, rfl⟩, by omega, by omega⟩ (ltn rfl) rfl (by kernel_rfl) (by kernel_rfl) (by kernel_rfl) (by kernel_rfl) ⟨⟨⟨1, rfl⟩, trivial⟩, trivial, trivial⟩ (fun _ _ _ _ h => h) ?_
                    intro v535
                    refine VA.oneC (i := 9) (listed' := LB 12 1023) (by kernel_rfl) rfl (o_call0 FO17 (net_behind.ok ((l0_0.take a1.toNat).drop 0) ((l0_0.take l0_0.length).drop ((wrap64 (a1 + 1)).toNat)) v535 v539 r540 hA541) rfl rfl (ltn rfl) (All_of (.cons (List.mem_of_getElem? (i := 0) rfl) (.cons (List.mem_of_getElem? (i := 1) rfl) .nil)))) rfl (by kernel_rfl) ?_
                    rintro v543 _ _ ⟨_, rfl, rfl, rfl⟩
                    refine ⟨⟨⟨⟨3, rfl⟩, trivial⟩, trivial, trivial⟩, ?_⟩
                    refine VA.one1 (i := 10) (listed' := LB 12 2047) (by kernel_rfl) rfl ((op_fieldAddr FI24_0 rfl (add_at _ _ _) (ltn rfl)).op1') rfl (by kernel_rfl) ⟨⟨⟨3, rfl⟩, trivial⟩, trivial, trivial⟩ ?_
                    refine VA.one1 (i := 11) (listed' := LB 12 4095) (by kernel_rfl) rfl (o_store 3 1 rfl rfl rfl TI22 (.f 0 rfl) rfl (len rfl)) rfl (by kernel_rfl) ⟨⟨⟨3, rfl⟩, trivial⟩, trivial, trivial⟩ ?_
                    refine VA.done (by kernel_rfl) ?_
                    exact VN.meet1 v543 [0, 1, 2, 3] [] trivial ⟨rfl, ⟨rfl, rfl, rfl, rfl, rfl, trivial⟩, ⟨⟨0, rfl⟩, trivial⟩, rfl, by decide, rfl, by decide⟩
                  refine VAll.cons1 (listed' := LB 12 244) rfl ((op_load 3 1 rfl rfl TI22 rfl (by decide) (ltn rfl)).op1') rfl (by kernel_rfl) ⟨⟨⟨0, rfl⟩, trivial⟩, trivial, trivial⟩ ?_ VAll.nil
                  refine VA.cut (i := 8) (listed' := LB 12 500) rfl (m := l0_0.length) 0 ((wrap64 (a1 + 1)).toNat) l0_0.length lenm cutm Try.underlying22 TI26 rfl rfl ⟨⟨_, _, rfl, c536, rfl⟩, rfl, by omega, by omega⟩ (ltn rfl) rfl (by kernel_rfl) (by kernel_rfl) (by kernel_rfl) (by kernel_rfl) ⟨⟨⟨0, rfl⟩, trivial⟩, trivial, trivial⟩ (fun _ _ _ _ h => h) ?_
                  intro v539
                  refine VA.one1 (i := 0) (listed' := LB 12 501) (by kernel_rfl) rfl ((op_fieldAddr FI24_0 rfl (add_at _ _ _) (ltn rfl)).op1') rfl (by kernel_rfl) ⟨⟨⟨1, rfl⟩, trivial⟩, trivial, trivial⟩ ?_
                  refine VA.one1 (i := 1) (listed' := LB 12 503) (by kernel_rfl) rfl ((op_load 3 1 rfl rfl TI22 rfl (by decide) (ltn rfl)).op1') rfl (by kernel_rfl) ⟨⟨⟨1, rfl⟩, trivial⟩, trivial, trivial⟩ ?_
                  refine VA.cut (i := 3) (listed' := LB 12 511) rfl (m := l0_0.length) 0 0 a1.toNat lenm cutm Try.underlying22 TI26 rfl rfl ⟨rfl, ⟨_, _, rfl, c528, rfl⟩, by omega, by omega⟩ (ltn rfl) rfl (by kernel_rfl) (by kernel_rfl) (by kernel_rfl) (by kernel_rfl) ⟨⟨⟨1, rfl⟩, trivial⟩, trivial, trivial⟩ (fun _ _ _ _ h => h) ?_
                  intro v535
                  refine VA.oneC (i := 9) (listed' := LB 12 1023) (by kernel_rfl) rfl (o_call0 FO17 (net_behind.ok ((l0_0.take a1.toNat).drop 0) ((l0_0.take l0_0.length).drop ((wrap64 (a1 + 1)).toNat)) v535 v539 r540 hA541) rfl rfl (ltn rfl) (All_of (.cons (List.mem_of_getElem? (i := 0) rfl) (.cons (List.mem_of_getElem? (i := 1) rfl) .nil)))) rfl (by kernel_rfl) ?_
                  rintro v543 _ _ ⟨_, rfl, rfl, rfl⟩
                  refine ⟨⟨⟨⟨3, rfl⟩, trivial⟩, trivial, trivial⟩, ?_⟩
                  refine VA.one1 (i := 10) (listed' := LB 12 2047) (by kernel_rfl) rfl ((op_fieldAddr FI24_0 rfl (add_at _ _ _) (ltn rfl)).op1') rfl (by kernel_rfl) ⟨⟨⟨3, rfl⟩, trivial⟩, trivial, trivial⟩ ?_
                  refine VA.one1 (i := 11) (listed' := LB 12 4095) (by kernel_rfl) rfl (o_store 3 1 rfl rfl rfl TI22 (.f 0 rfl) rfl (len rfl)) rfl (by kernel_rfl) ⟨⟨⟨3, rfl⟩, trivial⟩, trivial, trivial⟩ ?_
                  refine VA.done (by kernel_rfl) ?_
                  exact VN.meet1 v543 [0, 1, 2, 3] [] trivial ⟨rfl, ⟨rfl, rfl, rfl, rfl, rfl, trivial⟩, ⟨⟨0, rfl⟩, trivial⟩, rfl, by decide, rfl, by decide⟩
                intro v543 _
                refine VC.join0 (⟨44, [(4, .pointer (some ⟨g495, 0, none⟩)), (5, .pointer (some ⟨g496, 0, none⟩)), (6, .int .i64 0)], [.row v543 6 (r540.map enc25)], [(g496, 26, [.int .i64 x529.f0, .bool x529.f1, .int .i64 x529.f2, .int .i64 x529.f3, .int .i64 x529.f4, .bool x529.f5]), (g495, 24, [v543, .int .i64 a0_1])], []⟩) (True) ?_ ?_
                · refine VC.draw ⟨0, [], [], [(g532, 26, [.int .i64 x529.f0, .bool x529.f1, .int .i64 x529.f2, .int .i64 x529.f3, .int .i64 x529.f4, .bool x529.f5]), (g494, 24, [v543, .int .i64 a0_1])], []⟩ (by kernel_rfl) rfl (by kernel_rfl) (n := 5) (listed := LB 5 0) ?_
                  refine VA.va (i := 0) (listed' := LB 5 1) rfl (op_load 1 2 rfl rfl TI24 rfl (fun h => absurd h (by decide)) (ltn rfl)) rfl (by kernel_rfl) (by kernel_rfl) (by kernel_rfl) (by kernel_rfl) ⟨trivial, ⟨⟨0, rfl⟩, ⟨3, rfl⟩, trivial⟩, trivial⟩ (fun _ _ _ h => h) ?_
                  refine VA.va (i := 1) (listed' := LB 5 3) rfl (op_load 0 6 rfl rfl TI26 rfl (fun h => absurd h (by decide)) (ltn rfl)) rfl (by kernel_rfl) (by kernel_rfl) (by kernel_rfl) (by kernel_rfl) ⟨trivial, ⟨⟨0, rfl⟩, ⟨3, rfl⟩, trivial⟩, trivial⟩ (fun _ _ _ h => h) ?_
                  refine VA.one1 (i := 2) (listed' := LB 5 7) (by kernel_rfl) rfl (o_store 2 2 rfl rfl rfl TI24 (.agg (.f 0 rfl (.c rfl .nil))) rfl (len rfl)) rfl (by kernel_rfl) ⟨trivial, ⟨⟨0, rfl⟩, ⟨3, rfl⟩, trivial⟩, trivial⟩ ?_
                  refine VA.one1 (i := 3) (listed' := LB 5 15) (by kernel_rfl) rfl (o_store 1 6 rfl rfl rfl TI26 (.agg (.c rfl (.c rfl (.c rfl (.c rfl (.c rfl (.c rfl .nil))))))) rfl (len rfl)) rfl (by kernel_rfl) ⟨trivial, ⟨⟨0, rfl⟩, ⟨3, rfl⟩, trivial⟩, trivial⟩ ?_
                  refine VA.va (i := 4) (listed' := LB 5 31) rfl (op_assign rfl (ltn rfl)) rfl (by kernel_rfl) (by kernel_rfl) (by kernel_rfl) (by kernel_rfl) ⟨trivial, ⟨⟨0, rfl⟩, ⟨3, rfl⟩, trivial⟩, trivial⟩ (fun _ _ _ h => h) ?_
                  refine VA.done (by kernel_rfl) ?_
                  exact VN.meet0  [1, 2] [] trivial ⟨rfl, ⟨rfl, rfl, rfl, trivial⟩, ⟨⟨0, rfl⟩, trivial⟩, rfl, by decide, rfl, by decide⟩
                intro _
                refine VC.ret ?_
                simp only [Option.some.injEq, Prod.mk.injEq] at h
                obtain ⟨rfl, rfl, rfl, rfl, rfl, rfl, rfl, rfl, rfl⟩ := h
                exact VR.fn (rs := [.cell 4 24, .cell 5 26, .tmp 6]) [.row v543 6 (r540.map enc25)] [] [] rfl (.cell 1 rfl rfl TI24 (fun h => absurd h (by decide)) (.cell 0 rfl rfl TI26 (fun h => absurd h (by decide)) (.tmp rfl .nil))) ⟨v543, rfl, rfl, rfl⟩ ⟨⟨0, rfl⟩, trivial⟩ rfl (by decide)
              · rw [if_neg c537] at h; cases h
            · rw [if_neg c536] at h; cases h
          · rw [if_neg c533] at h; cases h
        · rw [if_neg c528] at h; cases h
  · rw [if_neg c518] at h
    obtain rfl := Bool.eq_false_iff.2 c518
    refine VL.va (op_not rfl rfl (ltn rfl)) rfl ?_
    refine VL.va (op_assign rfl (ltn rfl)) rfl ?_
    refine VL.done ?_
    refine VN.then ?_
    refine VC.cond_t rfl ?_
    refine VC.seq ?_
    refine VC.region ?_
    refine VL.va (op_build (vals := []) (vcs := []) (cells := [.slice none 0 0, .int .i64 0]) SI24 rfl .nil (by kernel_rfl) (ltn rfl)) rfl ?_
    refine VL.va (op_build (vals := []) (vcs := []) (cells := [.int .i64 0, .bool false, .int .i64 0, .int .i64 0, .int .i64 0, .bool false]) SI26 rfl .nil (by kernel_rfl) (ltn rfl)) rfl ?_
    refine VL.step1 (o_store 1 2 rfl rfl rfl TI24 (.agg (.c rfl (.c rfl .nil))) rfl (len rfl)) rfl ?_
    refine VL.step1 (o_store 0 6 rfl rfl rfl TI26 (.agg (.c rfl (.c rfl (.c rfl (.c rfl (.c rfl (.c rfl .nil))))))) rfl (len rfl)) rfl ?_
    refine VL.va (op_assign rfl (ltn rfl)) rfl ?_
    refine VL.done ?_
    refine VN.then ?_
    refine VC.ret ?_
    refine VR.block ?_
    refine VR.then ?_
    simp only [Option.some.injEq, Prod.mk.injEq] at h
    obtain ⟨rfl, rfl, rfl, rfl, rfl, rfl, rfl, rfl, rfl⟩ := h
    refine VR.nilFact' 6 ?_
    exact VR.fn (rs := [.cell 4 24, .cell 5 26, .tmp 6]) [.row (.slice none 0 0) 6 (([] : List S25).map enc25)] [] [] rfl (.cell 1 rfl rfl TI24 (fun h => absurd h (by decide)) (.cell 0 rfl rfl TI26 (fun h => absurd h (by decide)) (.tmp rfl .nil))) ⟨(.slice none 0 0), rfl, rfl, rfl⟩ ⟨⟨0, rfl⟩, trivial⟩ rfl (by decide)
set_option maxHeartbeats 4000000 in
set_option maxRecDepth 100000 in
theorem net_Twice.ok (k : Nat) (l0_0 : List S25) (a0_1 : Int) (a1 : Int) (v0_0 : Value) (r1 : List S25) (r2 : Int) (r3 : Int) (h : net_Twice.f k l0_0 a0_1 a1 = some (r1, r2, r3)) :
    VCalls Try.prog 9 [.agg #[v0_0, .int .i64 a0_1], .int .i64 a1] [.row v0_0 6 (l0_0.map enc25)] (fun v G own => ∃ w0 : Value, v = .tuple #[.agg #[w0, .int .i64 r2], .int .i64 r3] ∧ G = [.row w0 6 (r1.map enc25)] ∧ own = []) := by
  refine VCalls.intro Try.func9 rfl (len rfl) fun E hC => ?_
  unfold net_Twice.f at h
  refine VC.seq ?_
  refine VC.region ?_
  refine VL.sG (o_box rfl (.agg (.f 0 rfl (.c rfl .nil))) (ltn rfl)) rfl ?_
  intro g594
  refine VL.sG (o_alloc (us := [.slice none 0 0, .int .i64 0]) Z24 rfl (ltn rfl)) rfl ?_
  intro g595
  refine VL.va (op_assign rfl (ltn rfl)) rfl ?_
  refine VL.done ?_
  refine VN.then ?_
  refine VC.seq ?_
  refine VC.region ?_
  refine VL.va (op_load 1 2 rfl rfl TI24 rfl (fun h => absurd h (by decide)) (ltn rfl)) rfl ?_
  refine VL.va (op_move rfl (ltn rfl)) rfl ?_
  replace h := Option.bind_eq_some_iff.1 h
  obtain ⟨⟨r596, t597, t598, t599, t600, t601, t602, t603, t604⟩, hA605, h⟩ := h
  dsimp only at h
  refine VL.sC (o_call0 FO8 (net_Take.ok k l0_0 a0_1 a1 v0_0 r596 t597 t598 t599 t600 t601 t602 t603 t604 hA605) rfl rfl (ltn rfl) (All_of (.cons (List.mem_of_getElem? (i := 0) rfl) .nil))) rfl ?_
  rintro _ _ _ ⟨v607, rfl, rfl, rfl⟩
  refine VL.va (op_move rfl (ltn rfl)) rfl ?_
  refine VL.va (op_extract rfl rfl (ltn rfl)) rfl ?_
  refine VL.va (op_extract rfl rfl (ltn rfl)) rfl ?_
  refine VL.va (op_extract rfl rfl (ltn rfl)) rfl ?_
  refine VL.sG (o_alloc (us := [.slice none 0 0, .int .i64 0]) Z24 rfl (ltn rfl)) rfl ?_
  intro g608
  refine VL.sG (o_alloc (us := [.int .i64 0, .bool false, .int .i64 0, .int .i64 0, .int .i64 0, .bool false]) Z26 rfl (ltn rfl)) rfl ?_
  intro g609
  refine VL.step1 (o_store 1 2 rfl rfl rfl TI24 (.agg (.f 0 rfl (.c rfl .nil))) rfl (len rfl)) rfl ?_
  refine VL.step1 (o_store 0 6 rfl rfl rfl TI26 (.agg (.c rfl (.c rfl (.c rfl (.c rfl (.c rfl (.c rfl .nil))))))) rfl (len rfl)) rfl ?_
  refine VL.va (op_assign rfl (ltn rfl)) rfl ?_
  refine VL.done ?_
  refine VN.then ?_
  refine VC.seq ?_
  refine VC.block ?_
  refine VC.seq ?_
  refine VC.region ?_
  refine VL.va (op_move rfl (ltn rfl)) rfl ?_
  refine VL.letter ((t604 != 0)) fun b616 hb616 => ?_
  refine VL.va (op_cmp rfl rfl (congrArg some hb616) (ltn rfl)) rfl ?_
  refine VL.va (op_assign rfl (ltn rfl)) rfl ?_
  refine VL.done ?_
  refine VN.then ?_
  by_cases c617 : t604 = 0
  · rw [if_pos c617] at h
    obtain rfl : b616 = false := hb616.symm.trans (bne_eq_false_iff_eq.2 c617)
    refine VC.cond_f rfl ?_
    refine VC.seq ?_
    refine VC.region ?_
    refine VL.va (op_fieldAddr FI24_0 rfl (add_at _ _ _) (ltn rfl)) rfl ?_
    refine VL.va (op_load 3 1 rfl rfl TI22 rfl (by decide) (ltn rfl)) rfl ?_
    refine VL.va (op_len (m := l0_0.length) 1 lenm Try.underlying22 rfl rfl (ltn rfl)) rfl ?_
    refine VL.letter (((l0_0.length : Int) == 64)) fun b618 hb618 => ?_
    refine VL.va (op_cmp rfl rfl (congrArg some hb618) (ltn rfl)) rfl ?_
    refine VL.va (op_assign rfl (ltn rfl)) rfl ?_
    refine VL.done ?_
    refine VN.then ?_
    by_cases c619 : (l0_0.length : Int) = 64
    · rw [if_pos c619] at h
      obtain rfl : b618 = true := hb618.symm.trans (beq_iff_eq.2 c619)
      refine VC.cond_t rfl ?_
      refine VC.seq ?_
      refine VC.region ?_
      refine VL.va (op_build (vals := []) (vcs := []) (cells := [.slice none 0 0, .int .i64 0]) SI24 rfl .nil (by kernel_rfl) (ltn rfl)) rfl ?_
      refine VL.step1 (o_store 2 2 rfl rfl rfl TI24 (.agg (.c rfl (.c rfl .nil))) rfl (len rfl)) rfl ?_
      refine VL.va (op_assign rfl (ltn rfl)) rfl ?_
      refine VL.done ?_
      refine VN.then ?_
      refine VC.ret ?_
      refine VR.block ?_
      refine VR.then ?_
      simp only [Option.some.injEq, Prod.mk.injEq] at h
      obtain ⟨rfl, rfl, rfl⟩ := h
      refine VR.nilFact' 6 ?_
      exact VR.fn (rs := [.cell 4 24, .tmp 5]) [.row (.slice none 0 0) 6 (([] : List S25).map enc25)] [] [] rfl (.cell 2 rfl rfl TI24 (fun h => absurd h (by decide)) (.tmp rfl .nil)) ⟨(.slice none 0 0), rfl, rfl, rfl⟩ ⟨⟨0, rfl⟩, trivial⟩ rfl (by decide)
    · rw [if_neg c619] at h
      obtain rfl : b618 = false := hb618.symm.trans (beq_eq_false_iff_ne.2 c619)
      refine VC.cond_f rfl ?_
      refine VC.skip ?_
      refine VN.block ?_
      refine VN.then ?_
      refine VC.seq ?_
      refine VC.region ?_
      refine VL.va (op_fieldAddr FI24_0 rfl (add_at _ _ _) (ltn rfl)) rfl ?_
      refine VL.va (op_load 3 1 rfl rfl TI22 rfl (by decide) (ltn rfl)) rfl ?_
      refine VL.va (op_load 0 6 rfl rfl TI26 rfl (fun h => absurd h (by decide)) (ltn rfl)) rfl ?_
      refine VL.sG (o_buildSlice (vals := [(0, .agg #[.int .i64 t598, .bool t599, .int .i64 t600, .int .i64 t601, .int .i64 t602, .bool t603])]) (cells := #[.int .i64 t598, .bool t599, .int .i64 t600, .int .i64 t601, .int .i64 t602, .bool t603]) (es := List.map enc25 ([(⟨t598, t599, t600, t601, t602, t603⟩ : S25)] : List S25)) Try.underlying22 TI26 Z26 rfl (by decide) (by decide) (by kernel_rfl) (by kernel_rfl) rfl (flat_map enc25_ok _) (ltn rfl)) rfl ?_
      intro v622
      refine VL.freezeRow' 0 rfl ?_
      replace h := Option.bind_eq_some_iff.1 h
      obtain ⟨r623, hA624, h⟩ := h
      refine VL.sC (o_call0 FO17 (net_behind.ok l0_0 ([(⟨t598, t599, t600, t601, t602, t603⟩ : S25)] : List S25) v0_0 v622 r623 hA624) rfl rfl (ltn rfl) (All_of (.cons (List.mem_of_getElem? (i := 2) rfl) (.cons (List.mem_of_getElem? (i := 0) rfl) .nil)))) rfl ?_
      rintro v626 _ _ ⟨_, rfl, rfl, rfl⟩
      refine VL.va (op_fieldAddr FI24_0 rfl (add_at _ _ _) (ltn rfl)) rfl ?_
      refine VL.step1 (o_store 3 1 rfl rfl rfl TI22 (.f 0 rfl) rfl (len rfl)) rfl ?_
      refine VL.done ?_
      refine VN.then ?_
      refine VC.seq ?_
      refine VC.region ?_
      refine VL.va (op_load 3 2 rfl rfl TI24 rfl (fun h => absurd h (by decide)) (ltn rfl)) rfl ?_
      refine VL.step1 (o_store 2 2 rfl rfl rfl TI24 (.agg (.f 0 rfl (.c rfl .nil))) rfl (len rfl)) rfl ?_
      refine VL.va (op_assign rfl (ltn rfl)) rfl ?_
      refine VL.done ?_
      refine VN.then ?_
      refine VC.ret ?_
      simp only [Option.some.injEq, Prod.mk.injEq] at h
      obtain ⟨rfl, rfl, rfl⟩ := h
      exact VR.fn (rs := [.cell 4 24, .tmp 5]) [.row v626 6 (r623.map enc25)] [] [] rfl (.cell 2 rfl rfl TI24 (fun h => absurd h (by decide)) (.tmp rfl .nil)) ⟨v626, rfl, rfl, rfl⟩ ⟨⟨0, rfl⟩, trivial⟩ rfl (by decide)
  · rw [if_neg c617] at h
    obtain rfl : b616 = true := hb616.symm.trans (bne_iff_ne.2 c617)
    refine VC.cond_t rfl ?_
    refine VC.seq ?_
    refine VC.region ?_
    refine VL.va (op_build (vals := []) (vcs := []) (cells := [.slice none 0 0, .int .i64 0]) SI24 rfl .nil (by kernel_rfl) (ltn rfl)) rfl ?_
    refine VL.va (op_move rfl (ltn rfl)) rfl ?_
    refine VL.step1 (o_store 2 2 rfl rfl rfl TI24 (.agg (.c rfl (.c rfl .nil))) rfl (len rfl)) rfl ?_
    refine VL.va (op_assign rfl (ltn rfl)) rfl ?_
    refine VL.done ?_
    refine VN.then ?_
    refine VC.ret ?_
    refine VR.block ?_
    refine VR.then ?_
    simp only [Option.some.injEq, Prod.mk.injEq] at h
    obtain ⟨rfl, rfl, rfl⟩ := h
    refine VR.nilFact' 6 ?_
    exact VR.fn (rs := [.cell 4 24, .tmp 5]) [.row (.slice none 0 0) 6 (([] : List S25).map enc25)] [] [] rfl (.cell 2 rfl rfl TI24 (fun h => absurd h (by decide)) (.tmp rfl .nil)) ⟨(.slice none 0 0), rfl, rfl, rfl⟩ ⟨⟨0, rfl⟩, trivial⟩ rfl (by decide)
set_option maxHeartbeats 4000000 in
set_option maxRecDepth 100000 in
theorem net_Last.ok (k : Nat) (l0_0 : List S25) (a0_1 : Int) (a1 : Int) (v0_0 : Value) (r1 : List S25) (r2 : Int) (r3 : Int) (h : net_Last.f k l0_0 a0_1 a1 = some (r1, r2, r3)) :
    VCalls Try.prog 10 [.agg #[v0_0, .int .i64 a0_1], .int .i64 a1] [.row v0_0 6 (l0_0.map enc25)] (fun v G own => ∃ w0 : Value, v = .tuple #[.agg #[w0, .int .i64 r2], .int .i64 r3] ∧ G = [.row w0 6 (r1.map enc25)] ∧ own = []) := by
  refine VCalls.intro Try.func10 rfl (len rfl) fun E hC => ?_
  unfold net_Last.f at h
  refine VC.seq ?_
  refine VC.region ?_
  refine VL.sG (o_box rfl (.agg (.f 0 rfl (.c rfl .nil))) (ltn rfl)) rfl ?_
  intro g663
  refine VL.sG (o_alloc (us := [.slice none 0 0, .int .i64 0]) Z24 rfl (ltn rfl)) rfl ?_
  intro g664
  refine VL.va (op_assign rfl (ltn rfl)) rfl ?_
  refine VL.done ?_
  refine VN.then ?_
  refine VC.seq ?_
  refine VC.region ?_
  refine VL.va (op_load 1 2 rfl rfl TI24 rfl (fun h => absurd h (by decide)) (ltn rfl)) rfl ?_
  refine VL.va (op_move rfl (ltn rfl)) rfl ?_
  replace h := Option.bind_eq_some_iff.1 h
  obtain ⟨⟨r665, t666, t667, t668, t669, t670, t671, t672, t673⟩, hA674, h⟩ := h
  dsimp only at h
  refine VL.sC (o_call0 FO8 (net_Take.ok k l0_0 a0_1 a1 v0_0 r665 t666 t667 t668 t669 t670 t671 t672 t673 hA674) rfl rfl (ltn rfl) (All_of (.cons (List.mem_of_getElem? (i := 0) rfl) .nil))) rfl ?_
  rintro _ _ _ ⟨v676, rfl, rfl, rfl⟩
  refine VL.va (op_move rfl (ltn rfl)) rfl ?_
  refine VL.va (op_extract rfl rfl (ltn rfl)) rfl ?_
  refine VL.va (op_extract rfl rfl (ltn rfl)) rfl ?_
  refine VL.va (op_extract rfl rfl (ltn rfl)) rfl ?_
  refine VL.sG (o_alloc (us := [.int .i64 0, .bool false, .int .i64 0, .int .i64 0, .int .i64 0, .bool false]) Z26 rfl (ltn rfl)) rfl ?_
  intro g677
  refine VL.step1 (o_store 2 2 rfl rfl rfl TI24 (.agg (.f 0 rfl (.c rfl .nil))) rfl (len rfl)) rfl ?_
  refine VL.step1 (o_store 0 6 rfl rfl rfl TI26 (.agg (.c rfl (.c rfl (.c rfl (.c rfl (.c rfl (.c rfl .nil))))))) rfl (len rfl)) rfl ?_
  refine VL.va (op_assign rfl (ltn rfl)) rfl ?_
  refine VL.done ?_
  refine VN.then ?_
  refine VC.seq ?_
  refine VC.seq ?_
  refine VC.region ?_
  refine VL.va (op_move rfl (ltn rfl)) rfl ?_
  refine VL.letter ((t673 != 0)) fun b681 hb681 => ?_
  refine VL.va (op_cmp rfl rfl (congrArg some hb681) (ltn rfl)) rfl ?_
  refine VL.done ?_
  refine VN.then ?_
  by_cases c682 : t673 = 0
  · rw [if_pos c682] at h
    obtain rfl : b681 = false := hb681.symm.trans (bne_eq_false_iff_eq.2 c682)
    refine VC.cond_f rfl ?_
    refine VC.skip ?_
    refine VN.then ?_
    refine VC.seq ?_
    refine VC.region ?_
    refine VL.va (op_fieldAddr FI24_0 rfl (add_at _ _ _) (ltn rfl)) rfl ?_
    refine VL.va (op_load 2 1 rfl rfl TI22 rfl (by decide) (ltn rfl)) rfl ?_
    refine VL.va (op_load 0 6 rfl rfl TI26 rfl (fun h => absurd h (by decide)) (ltn rfl)) rfl ?_
    refine VL.sG (o_buildSlice (vals := [(0, .agg #[.int .i64 t667, .bool t668, .int .i64 t669, .int .i64 t670, .int .i64 t671, .bool t672])]) (cells := #[.int .i64 t667, .bool t668, .int .i64 t669, .int .i64 t670, .int .i64 t671, .bool t672]) (es := List.map enc25 ([(⟨t667, t668, t669, t670, t671, t672⟩ : S25)] : List S25)) Try.underlying22 TI26 Z26 rfl (by decide) (by decide) (by kernel_rfl) (by kernel_rfl) rfl (flat_map enc25_ok _) (ltn rfl)) rfl ?_
    intro v684
    refine VL.freezeRow' 0 rfl ?_
    replace h := Option.bind_eq_some_iff.1 h
    obtain ⟨r685, hA686, h⟩ := h
    refine VL.sC (o_call0 FO17 (net_behind.ok r665 ([(⟨t667, t668, t669, t670, t671, t672⟩ : S25)] : List S25) v676 v684 r685 hA686) rfl rfl (ltn rfl) (All_of (.cons (List.mem_of_getElem? (i := 1) rfl) (.cons (List.mem_of_getElem? (i := 0) rfl) .nil)))) rfl ?_
    rintro v688 _ _ ⟨_, rfl, rfl, rfl⟩
    refine VL.va (op_fieldAddr FI24_0 rfl (add_at _ _ _) (ltn rfl)) rfl ?_
    refine VL.step1 (o_store 2 1 rfl rfl rfl TI22 (.f 0 rfl) rfl (len rfl)) rfl ?_
    refine VL.done ?_
    refine VN.then ?_
    refine VC.seq ?_
    refine VC.region ?_
    refine VL.va (op_load 2 2 rfl rfl TI24 rfl (fun h => absurd h (by decide)) (ltn rfl)) rfl ?_
    refine VL.step1 (o_store 1 2 rfl rfl rfl TI24 (.agg (.f 0 rfl (.c rfl .nil))) rfl (len rfl)) rfl ?_
    refine VL.va (op_assign rfl (ltn rfl)) rfl ?_
    refine VL.done ?_
    refine VN.then ?_
    refine VC.ret ?_
    simp only [Option.some.injEq, Prod.mk.injEq] at h
    obtain ⟨rfl, rfl, rfl⟩ := h
    exact VR.fn (rs := [.cell 4 24, .tmp 5]) [.row v688 6 (r685.map enc25)] [] [] rfl (.cell 1 rfl rfl TI24 (fun h => absurd h (by decide)) (.tmp rfl .nil)) ⟨v688, rfl, rfl, rfl⟩ ⟨⟨0, rfl⟩, trivial⟩ rfl (by decide)
  · rw [if_neg c682] at h
    obtain rfl : b681 = true := hb681.symm.trans (bne_iff_ne.2 c682)
    refine VC.cond_t rfl ?_
    refine VC.seq ?_
    refine VC.region ?_
    refine VL.va (op_build (vals := []) (vcs := []) (cells := [.slice none 0 0, .int .i64 0]) SI24 rfl .nil (by kernel_rfl) (ltn rfl)) rfl ?_
    refine VL.va (op_move rfl (ltn rfl)) rfl ?_
    refine VL.step1 (o_store 1 2 rfl rfl rfl TI24 (.agg (.c rfl (.c rfl .nil))) rfl (len rfl)) rfl ?_
    refine VL.va (op_assign rfl (ltn rfl)) rfl ?_
    refine VL.done ?_
    refine VN.then ?_
    refine VC.ret ?_
    refine VR.then ?_
    simp only [Option.some.injEq, Prod.mk.injEq] at h
    obtain ⟨rfl, rfl, rfl⟩ := h
    refine VR.nilFact' 6 ?_
    exact VR.fn (rs := [.cell 4 24, .tmp 5]) [.row (.slice none 0 0) 6 (([] : List S25).map enc25)] [] [] rfl (.cell 1 rfl rfl TI24 (fun h => absurd h (by decide)) (.tmp rfl .nil)) ⟨(.slice none 0 0), rfl, rfl, rfl⟩ ⟨⟨0, rfl⟩, trivial⟩ rfl (by decide)
set_option maxHeartbeats 4000000 in
set_option maxRecDepth 100000 in
theorem tarrylaw15_in.ok (a0 : Int)  (r1 : Bool) (h : tarrylaw15_in.f a0 = some r1) :
    VCalls Try.prog 18 [.int .i64 a0] [] (fun v G own => v = .bool r1 ∧ G = [] ∧ own = []) := by
  refine VCalls.intro Try.func18 rfl (len rfl) fun E hC => ?_
  unfold tarrylaw15_in.f at h
  refine VC.seq ?_
  refine VC.region ?_
  refine VL.va (op_assign rfl (ltn rfl)) rfl ?_
  refine VL.done ?_
  refine VN.then ?_
  refine VC.seq ?_
  refine VC.region ?_
  refine VL.va (op_move rfl (ltn rfl)) rfl ?_
  refine VL.letter (decide (a0 ≥ 1)) fun b727 hb727 => ?_
  refine VL.va (op_cmp rfl rfl (congrArg some hb727) (ltn rfl)) rfl ?_
  refine VL.va (op_move rfl (ltn rfl)) rfl ?_
  by_cases c728 : a0 ≥ 1
  · rw [if_pos c728] at h
    obtain rfl : b727 = true := hb727.symm.trans (decide_eq_true c728)
    refine VL.va (op_move rfl (ltn rfl)) rfl ?_
    refine VL.letter (decide (a0 ≤ 1099511627776)) fun b729 hb729 => ?_
    refine VL.va (op_cmp rfl rfl (congrArg some hb729) (ltn rfl)) rfl ?_
    refine VL.va (op_pick rfl rfl (ltn rfl)) rfl ?_
    refine VL.va (op_assign rfl (ltn rfl)) rfl ?_
    refine VL.done ?_
    refine VN.then ?_
    refine VC.ret ?_
    obtain rfl := Option.some.inj h
    subst hb729
    exact VR.fn (rs := [.tmp 2]) [] [] [] rfl (.tmp rfl .nil) ⟨rfl, rfl, rfl⟩ trivial rfl (by decide)
  · rw [if_neg c728] at h
    obtain rfl : b727 = false := hb727.symm.trans (decide_eq_false c728)
    refine VL.un rfl rfl (ltn rfl) ?_
    refine VL.un rfl rfl (ltn rfl) ?_
    refine VL.va (op_pick rfl rfl (ltn rfl)) rfl ?_
    refine VL.va (op_assign rfl (ltn rfl)) rfl ?_
    refine VL.done ?_
    refine VN.then ?_
    refine VC.ret ?_
    obtain rfl := Option.some.inj h
    exact VR.fn (rs := [.tmp 2]) [] [] [] rfl (.tmp rfl .nil) ⟨rfl, rfl, rfl⟩ trivial rfl (by decide)
set_option maxHeartbeats 4000000 in
set_option maxRecDepth 100000 in
theorem tarrylaw15_may.ok (a0_0 : Int) (a0_1 : Bool) (a0_2 : Int) (a0_3 : Int) (a0_4 : Int) (a0_5 : Bool)  (r1 : Bool) (h : tarrylaw15_may.f a0_0 a0_1 a0_2 a0_3 a0_4 a0_5 = some r1) :
    VCalls Try.prog 14 [.agg #[.int .i64 a0_0, .bool a0_1, .int .i64 a0_2, .int .i64 a0_3, .int .i64 a0_4, .bool a0_5]] [] (fun v G own => v = .bool r1 ∧ G = [] ∧ own = []) := by
  refine VCalls.intro Try.func14 rfl (len rfl) fun E hC => ?_
  unfold tarrylaw15_may.f at h
  refine VC.seq ?_
  refine VC.region ?_
  refine VL.sG (o_box rfl (.agg (.c rfl (.c rfl (.c rfl (.c rfl (.c rfl (.c rfl .nil))))))) (ltn rfl)) rfl ?_
  intro g709
  refine VL.va (op_assign rfl (ltn rfl)) rfl ?_
  refine VL.done ?_
  refine VN.then ?_
  refine VC.seq ?_
  refine VC.seq ?_
  refine VC.region ?_
  refine VL.va (op_fieldAddr FI26_5 rfl (add_at _ _ _) (ltn rfl)) rfl ?_
  refine VL.va (op_load 0 1 rfl rfl TI4 rfl (by decide) (ltn rfl)) rfl ?_
  refine VL.va (op_move rfl (ltn rfl)) rfl ?_
  by_cases c720 : a0_5 = true
  · rw [if_pos c720] at h
    obtain rfl := c720
    refine VL.va (op_fieldAddr FI26_1 rfl (add_at _ _ _) (ltn rfl)) rfl ?_
    refine VL.va (op_load 0 1 rfl rfl TI4 rfl (by decide) (ltn rfl)) rfl ?_
    by_cases c721 : a0_1 = true
    · rw [if_pos c721] at h
      obtain rfl := c721
      refine VL.va (op_not rfl rfl (ltn rfl)) rfl ?_
      refine VL.va (op_move rfl (ltn rfl)) rfl ?_
      refine VL.va (op_fieldAddr FI26_3 rfl (add_at _ _ _) (ltn rfl)) rfl ?_
      refine VL.va (op_load 0 1 rfl rfl TI3 rfl (by decide) (ltn rfl)) rfl ?_
      refine VL.letter ((a0_3 != 3)) fun b722 hb722 => ?_
      refine VL.va (op_cmp rfl rfl (congrArg some hb722) (ltn rfl)) rfl ?_
      refine VL.va (op_pick rfl rfl (ltn rfl)) rfl ?_
      refine VL.va (op_pick rfl rfl (ltn rfl)) rfl ?_
      refine VL.done ?_
      refine VN.then ?_
      by_cases c723 : a0_3 = 3
      · rw [if_pos c723] at h
        obtain rfl : b722 = false := hb722.symm.trans (bne_eq_false_iff_eq.2 c723)
        refine VC.cond_f rfl ?_
        refine VC.skip ?_
        refine VN.then ?_
        refine VC.seq ?_
        refine VC.region ?_
        refine VL.va (op_fieldAddr FI26_2 rfl (add_at _ _ _) (ltn rfl)) rfl ?_
        refine VL.va (op_load 0 1 rfl rfl TI3 rfl (by decide) (ltn rfl)) rfl ?_
        replace h := Option.bind_eq_some_iff.1 h
        obtain ⟨t739, hA740, h⟩ := h
        refine VL.sC (o_call0 FO18 (tarrylaw15_in.ok a0_2 t739 hA740) rfl rfl (ltn rfl) (All_of .nil)) rfl ?_
        rintro _ _ _ ⟨rfl, rfl, rfl⟩
        refine VL.va (op_move rfl (ltn rfl)) rfl ?_
        by_cases c741 : t739 = true
        · rw [if_pos c741] at h
          obtain rfl := c741
          refine VL.va (op_fieldAddr FI26_4 rfl (add_at _ _ _) (ltn rfl)) rfl ?_
          refine VL.va (op_load 0 1 rfl rfl TI3 rfl (by decide) (ltn rfl)) rfl ?_
          replace h := Option.bind_eq_some_iff.1 h
          obtain ⟨t742, hA743, h⟩ := h
          refine VL.sC (o_call0 FO18 (tarrylaw15_in.ok a0_4 t742 hA743) rfl rfl (ltn rfl) (All_of .nil)) rfl ?_
          rintro _ _ _ ⟨rfl, rfl, rfl⟩
          refine VL.va (op_pick rfl rfl (ltn rfl)) rfl ?_
          refine VL.va (op_move rfl (ltn rfl)) rfl ?_
          by_cases c744 : t742 = true
          · rw [if_pos c744] at h
            obtain rfl := c744
            refine VL.va (op_fieldAddr FI26_3 rfl (add_at _ _ _) (ltn rfl)) rfl ?_
            refine VL.va (op_load 0 1 rfl rfl TI3 rfl (by decide) (ltn rfl)) rfl ?_
            refine VL.letter (decide (a0_3 ≥ 1)) fun b745 hb745 => ?_
            refine VL.va (op_cmp rfl rfl (congrArg some hb745) (ltn rfl)) rfl ?_
            refine VL.va (op_pick rfl rfl (ltn rfl)) rfl ?_
            refine VL.va (op_move rfl (ltn rfl)) rfl ?_
            by_cases c746 : a0_3 ≥ 1
            · rw [if_pos c746] at h
              obtain rfl : b745 = true := hb745.symm.trans (decide_eq_true c746)
              refine VL.va (op_fieldAddr FI26_3 rfl (add_at _ _ _) (ltn rfl)) rfl ?_
              refine VL.va (op_load 0 1 rfl rfl TI3 rfl (by decide) (ltn rfl)) rfl ?_
              refine VL.letter (decide (a0_3 ≤ 3)) fun b747 hb747 => ?_
              refine VL.va (op_cmp rfl rfl (congrArg some hb747) (ltn rfl)) rfl ?_
              refine VL.va (op_pick rfl rfl (ltn rfl)) rfl ?_
              refine VL.va (op_assign rfl (ltn rfl)) rfl ?_
              refine VL.done ?_
              refine VN.then ?_
              refine VC.ret ?_
              obtain rfl := Option.some.inj h
              subst hb747
              exact VR.fn (rs := [.tmp 2]) [] [] [] rfl (.tmp rfl .nil) ⟨rfl, rfl, rfl⟩ trivial rfl (by decide)
            · rw [if_neg c746] at h
              obtain rfl : b745 = false := hb745.symm.trans (decide_eq_false c746)
              refine VL.un rfl rfl (ltn rfl) ?_
              refine VL.un rfl rfl (ltn rfl) ?_
              refine VL.un rfl rfl (ltn rfl) ?_
              refine VL.va (op_pick rfl rfl (ltn rfl)) rfl ?_
              refine VL.va (op_assign rfl (ltn rfl)) rfl ?_
              refine VL.done ?_
              refine VN.then ?_
              refine VC.ret ?_
              obtain rfl := Option.some.inj h
              exact VR.fn (rs := [.tmp 2]) [] [] [] rfl (.tmp rfl .nil) ⟨rfl, rfl, rfl⟩ trivial rfl (by decide)
          · rw [if_neg c744] at h
            obtain rfl := Bool.eq_false_iff.2 c744
            refine VL.un rfl rfl (ltn rfl) ?_
            refine VL.un rfl rfl (ltn rfl) ?_
            refine VL.un rfl rfl (ltn rfl) ?_
            refine VL.va (op_pick rfl rfl (ltn rfl)) rfl ?_
            refine VL.va (op_move rfl (ltn rfl)) rfl ?_
            refine VL.un rfl rfl (ltn rfl) ?_
            refine VL.un rfl rfl (ltn rfl) ?_
            refine VL.un rfl rfl (ltn rfl) ?_
            refine VL.va (op_pick rfl rfl (ltn rfl)) rfl ?_
            refine VL.va (op_assign rfl (ltn rfl)) rfl ?_
            refine VL.done ?_
            refine VN.then ?_
            refine VC.ret ?_
            obtain rfl := Option.some.inj h
            exact VR.fn (rs := [.tmp 2]) [] [] [] rfl (.tmp rfl .nil) ⟨rfl, rfl, rfl⟩ trivial rfl (by decide)
        · rw [if_neg c741] at h
          obtain rfl := Bool.eq_false_iff.2 c741
          refine VL.un rfl rfl (ltn rfl) ?_
          refine VL.un rfl rfl (ltn rfl) ?_
          refine VL.un rfl rfl (ltn rfl) ?_
          refine VL.va (op_pick rfl rfl (ltn rfl)) rfl ?_
          refine VL.va (op_move rfl (ltn rfl)) rfl ?_
          refine VL.un rfl rfl (ltn rfl) ?_
          refine VL.un rfl rfl (ltn rfl) ?_
          refine VL.un rfl rfl (ltn rfl) ?_
          refine VL.va (op_pick rfl rfl (ltn rfl)) rfl ?_
          refine VL.va (op_move rfl (ltn rfl)) rfl ?_
          refine VL.un rfl rfl (ltn rfl) ?_
          refine VL.un rfl rfl (ltn rfl) ?_
          refine VL.un rfl rfl (ltn rfl) ?_
          refine VL.va (op_pick rfl rfl (ltn rfl)) rfl ?_
          refine VL.va (op_assign rfl (ltn rfl)) rfl ?_
          refine VL.done ?_
          refine VN.then ?_
          refine VC.ret ?_
          obtain rfl := Option.some.inj h
          exact VR.fn (rs := [.tmp 2]) [] [] [] rfl (.tmp rfl .nil) ⟨rfl, rfl, rfl⟩ trivial rfl (by decide)
      · rw [if_neg c723] at h
        obtain rfl : b722 = true := hb722.symm.trans (bne_iff_ne.2 c723)
        refine VC.cond_t rfl ?_
        refine VC.seq ?_
        refine VC.region ?_
        refine VL.va (op_assign rfl (ltn rfl)) rfl ?_
        refine VL.done ?_
        refine VN.then ?_
        refine VC.ret ?_
        refine VR.then ?_
        obtain rfl := Option.some.inj h
        exact VR.fn (rs := [.tmp 2]) [] [] [] rfl (.tmp rfl .nil) ⟨rfl, rfl, rfl⟩ trivial rfl (by decide)
    · rw [if_neg c721] at h
      obtain rfl := Bool.eq_false_iff.2 c721
      refine VL.va (op_not rfl rfl (ltn rfl)) rfl ?_
      refine VL.va (op_move rfl (ltn rfl)) rfl ?_
      refine VL.un rfl rfl (ltn rfl) ?_
      refine VL.un rfl rfl (ltn rfl) ?_
      refine VL.un rfl rfl (ltn rfl) ?_
      refine VL.va (op_pick rfl rfl (ltn rfl)) rfl ?_
      refine VL.va (op_pick rfl rfl (ltn rfl)) rfl ?_
      refine VL.done ?_
      refine VN.then ?_
      refine VC.cond_t rfl ?_
      refine VC.seq ?_
      refine VC.region ?_
      refine VL.va (op_assign rfl (ltn rfl)) rfl ?_
      refine VL.done ?_
      refine VN.then ?_
      refine VC.ret ?_
      refine VR.then ?_
      obtain rfl := Option.some.inj h
      exact VR.fn (rs := [.tmp 2]) [] [] [] rfl (.tmp rfl .nil) ⟨rfl, rfl, rfl⟩ trivial rfl (by decide)
  · rw [if_neg c720] at h
    obtain rfl := Bool.eq_false_iff.2 c720
    refine VL.un rfl rfl (ltn rfl) ?_
    refine VL.un rfl rfl (ltn rfl) ?_
    refine VL.un rfl rfl (ltn rfl) ?_
    refine VL.un rfl rfl (ltn rfl) ?_
    refine VL.un rfl rfl (ltn rfl) ?_
    refine VL.un rfl rfl (ltn rfl) ?_
    refine VL.un rfl rfl (ltn rfl) ?_
    refine VL.un rfl rfl (ltn rfl) ?_
    refine VL.va (op_pick rfl rfl (ltn rfl)) rfl ?_
    refine VL.done ?_
    refine VN.then ?_
    refine VC.cond_f rfl ?_
    refine VC.skip ?_
    refine VN.then ?_
    refine VC.seq ?_
    refine VC.region ?_
    refine VL.va (op_fieldAddr FI26_2 rfl (add_at _ _ _) (ltn rfl)) rfl ?_
    refine VL.va (op_load 0 1 rfl rfl TI3 rfl (by decide) (ltn rfl)) rfl ?_
    replace h := Option.bind_eq_some_iff.1 h
    obtain ⟨t757, hA758, h⟩ := h
    refine VL.sC (o_call0 FO18 (tarrylaw15_in.ok a0_2 t757 hA758) rfl rfl (ltn rfl) (All_of .nil)) rfl ?_
    rintro _ _ _ ⟨rfl, rfl, rfl⟩
    refine VL.va (op_move rfl (ltn rfl)) rfl ?_
    by_cases c759 : t757 = true
    · rw [if_pos c759] at h
      obtain rfl := c759
      refine VL.va (op_fieldAddr FI26_4 rfl (add_at _ _ _) (ltn rfl)) rfl ?_
      refine VL.va (op_load 0 1 rfl rfl TI3 rfl (by decide) (ltn rfl)) rfl ?_
      replace h := Option.bind_eq_some_iff.1 h
      obtain ⟨t760, hA761, h⟩ := h
      refine VL.sC (o_call0 FO18 (tarrylaw15_in.ok a0_4 t760 hA761) rfl rfl (ltn rfl) (All_of .nil)) rfl ?_
      rintro _ _ _ ⟨rfl, rfl, rfl⟩
      refine VL.va (op_pick rfl rfl (ltn rfl)) rfl ?_
      refine VL.va (op_move rfl (ltn rfl)) rfl ?_
      by_cases c762 : t760 = true
      · rw [if_pos c762] at h
        obtain rfl := c762
        refine VL.va (op_fieldAddr FI26_3 rfl (add_at _ _ _) (ltn rfl)) rfl ?_
        refine VL.va (op_load 0 1 rfl rfl TI3 rfl (by decide) (ltn rfl)) rfl ?_
        refine VL.letter (decide (a0_3 ≥ 1)) fun b763 hb763 => ?_
        refine VL.va (op_cmp rfl rfl (congrArg some hb763) (ltn rfl)) rfl ?_
        refine VL.va (op_pick rfl rfl (ltn rfl)) rfl ?_
        refine VL.va (op_move rfl (ltn rfl)) rfl ?_
        by_cases c764 : a0_3 ≥ 1
        · rw [if_pos c764] at h
          obtain rfl : b763 = true := hb763.symm.trans (decide_eq_true c764)
          refine VL.va (op_fieldAddr FI26_3 rfl (add_at _ _ _) (ltn rfl)) rfl ?_
          refine VL.va (op_load 0 1 rfl rfl TI3 rfl (by decide) (ltn rfl)) rfl ?_
          refine VL.letter (decide (a0_3 ≤ 3)) fun b765 hb765 => ?_
          refine VL.va (op_cmp rfl rfl (congrArg some hb765) (ltn rfl)) rfl ?_
          refine VL.va (op_pick rfl rfl (ltn rfl)) rfl ?_
          refine VL.va (op_assign rfl (ltn rfl)) rfl ?_
          refine VL.done ?_
          refine VN.then ?_
          refine VC.ret ?_
          obtain rfl := Option.some.inj h
          subst hb765
          exact VR.fn (rs := [.tmp 2]) [] [] [] rfl (.tmp rfl .nil) ⟨rfl, rfl, rfl⟩ trivial rfl (by decide)
        · rw [if_neg c764] at h
          obtain rfl : b763 = false := hb763.symm.trans (decide_eq_false c764)
          refine VL.un rfl rfl (ltn rfl) ?_
          refine VL.un rfl rfl (ltn rfl) ?_
          refine VL.un rfl rfl (ltn rfl) ?_
          refine VL.va (op_pick rfl rfl (ltn rfl)) rfl ?_
          refine VL.va (op_assign rfl (ltn rfl)) rfl ?_
          refine VL.done ?_
          refine VN.then ?_
          refine VC.ret ?_
          obtain rfl := Option.some.inj h
          exact VR.fn (rs := [.tmp 2]) [] [] [] rfl (.tmp rfl .nil) ⟨rfl, rfl, rfl⟩ trivial rfl (by decide)
      · rw [if_neg c762] at h
        obtain rfl := Bool.eq_false_iff.2 c762
        refine VL.un rfl rfl (ltn rfl) ?_
        refine VL.un rfl rfl (ltn rfl) ?_
        refine VL.un rfl rfl (ltn rfl) ?_
        refine VL.va (op_pick rfl rfl (ltn rfl)) rfl ?_
        refine VL.va (op_move rfl (ltn rfl)) rfl ?_
        refine VL.un rfl rfl (ltn rfl) ?_
        refine VL.un rfl rfl (ltn rfl) ?_
        refine VL.un rfl rfl (ltn rfl) ?_
        refine VL.va (op_pick rfl rfl (ltn rfl)) rfl ?_
        refine VL.va (op_assign rfl (ltn rfl)) rfl ?_
        refine VL.done ?_
        refine VN.then ?_
        refine VC.ret ?_
        obtain rfl := Option.some.inj h
        exact VR.fn (rs := [.tmp 2]) [] [] [] rfl (.tmp rfl .nil) ⟨rfl, rfl, rfl⟩ trivial rfl (by decide)
    · rw [if_neg c759] at h
      obtain rfl := Bool.eq_false_iff.2 c759
      refine VL.un rfl rfl (ltn rfl) ?_
      refine VL.un rfl rfl (ltn rfl) ?_
      refine VL.un rfl rfl (ltn rfl) ?_
      refine VL.va (op_pick rfl rfl (ltn rfl)) rfl ?_
      refine VL.va (op_move rfl (ltn rfl)) rfl ?_
      refine VL.un rfl rfl (ltn rfl) ?_
      refine VL.un rfl rfl (ltn rfl) ?_
      refine VL.un rfl rfl (ltn rfl) ?_
      refine VL.va (op_pick rfl rfl (ltn rfl)) rfl ?_
      refine VL.va (op_move rfl (ltn rfl)) rfl ?_
      refine VL.un rfl rfl (ltn rfl) ?_
      refine VL.un rfl rfl (ltn rfl) ?_
      refine VL.un rfl rfl (ltn rfl) ?_
      refine VL.va (op_pick rfl rfl (ltn rfl)) rfl ?_
      refine VL.va (op_assign rfl (ltn rfl)) rfl ?_
      refine VL.done ?_
      refine VN.then ?_
      refine VC.ret ?_
      obtain rfl := Option.some.inj h
      exact VR.fn (rs := [.tmp 2]) [] [] [] rfl (.tmp rfl .nil) ⟨rfl, rfl, rfl⟩ trivial rfl (by decide)

end Go.Proofs.Ytjghhdnecilcfaa.PNetGoes
