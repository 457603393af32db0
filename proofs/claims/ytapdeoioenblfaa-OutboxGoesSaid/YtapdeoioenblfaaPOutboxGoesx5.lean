/- Written by a program of this repo: what the program's functions do, each as a Lean function, shown of the loaded code; or a statement's row over that; no condition of its own. -/
import Derived.Test.YtapdeoioenblfaaPOutboxGoesx4
namespace Go.Proofs.Ytapdeoioenblfaa.POutboxGoes
open Go Go.RowKit Go.Proofs.YtapdeoioenblfaaV
set_option linter.unusedVariables false
set_option linter.unusedSimpArgs false

set_option maxHeartbeats 4000000 in
set_option maxRecDepth 100000 in
theorem tarryref14_Right.ok (k : Nat) (a0_0 : Int) (l0_1 : List S33) (v0_1 : Value) (r1 : Bool) (h : tarryref14_Right.f k a0_0 l0_1 = some r1) :
    VCalls Try.prog 13 [.agg #[.int .i64 a0_0, v0_1]] [.row v0_1 4 (l0_1.map enc33)] (fun v G own => v = .bool r1 ∧ G = [] ∧ own = []) := by
  refine VCalls.intro Try.func13 rfl (len rfl) fun E hC hW hD => ?_
  unfold tarryref14_Right.f at h
  refine VC.seq ?_
  refine VC.region ?_
  refine VL.sG (o_box rfl (.agg (.c rfl (.f 0 rfl .nil))) (ltn rfl)) rfl ?_
  intro g1502
  refine VL.va (op_assign rfl (ltn rfl)) rfl ?_
  refine VL.done ?_
  refine VN.then ?_
  refine VC.seq ?_
  refine VC.seq ?_
  refine VC.region ?_
  refine VL.va (op_fieldAddr FI25_1 rfl (add_at _ _ _) (ltn rfl)) rfl ?_
  refine VL.va (op_load 0 1 rfl rfl TI23 rfl (by decide) (ltn rfl)) rfl ?_
  refine VL.va (op_len (m := l0_1.length) 0 lenm Try.underlying23 rfl rfl (ltn rfl)) rfl ?_
  refine VL.va (op_move rfl (ltn rfl)) rfl ?_
  refine VL.done ?_
  refine VN.then ?_
  refine VC.block ?_
  refine VC.loop1 (fun (i2878 : Int) => ⟨87, [(1, .pointer (some ⟨g1502, 0, none⟩)), (2, .bool false), (8, v0_1), (9, .int .i64 (l0_1.length : Int)), (10, .int .i64 i2878)], [.row v0_1 4 (l0_1.map enc33)], [(g1502, 25, [.int .i64 a0_0, v0_1])], []⟩) (fun (ml3 : Nat) (i2878 : Int) => tarryref14_Right.l3 k a0_0 l0_1 ml3 i2878 = some r1) k 0 [0] [] h ⟨rfl, ⟨rfl, rfl, rfl, rfl, rfl, trivial⟩, ⟨⟨0, rfl⟩, trivial⟩, rfl, by decide, rfl, by decide⟩ (by intros; simp [tarryref14_Right.l3]) ?_
  clear h
  intro ml3 ihl3 i2878 h
  simp only [tarryref14_Right.l3] at h
  refine VC.seq ?_
  refine VC.region ?_
  refine VL.letter (decide (i2878 < (l0_1.length : Int))) fun b3222 hb3222 => ?_
  refine VL.va (op_cmp rfl rfl (congrArg some hb3222) (ltn rfl)) rfl ?_
  refine VL.done ?_
  refine VN.then ?_
  refine VC.seq ?_
  by_cases c3232 : i2878 < (l0_1.length : Int)
  · rw [if_pos c3232] at h
    obtain rfl : b3222 = true := hb3222.symm.trans (decide_eq_true c3232)
    refine VC.cond_t rfl ?_
    refine VC.skip ?_
    refine VN.then ?_
    refine VC.seq ?_
    refine VC.block ?_
    refine VC.seq ?_
    refine VC.region ?_
    refine VL.va (op_move rfl (ltn rfl)) rfl ?_
    by_cases c3403 : 0 ≤ i2878
    · rw [if_pos c3403] at h
      replace h := Option.bind_eq_some_iff.1 h
      obtain ⟨x3404, hx3404, h⟩ := h
      refine VL.open (m := l0_1.length) 0 lenm rfl (pos_get hx3404) ?_
      rintro ad3405 n3406 rfl
      refine VL.va (op_indexAddr Try.underlying23 TI34 rfl rfl c3403 (lt_get c3403 hx3404) rfl (ltn rfl)) rfl ?_
      refine VL.va (op_load_row (sz := 4) (o := 0) 0 i2878.toNat 4 rfl rfl (get_map hx3404) TI34 rfl (fun h => absurd h (by decide)) (ltn rfl)) rfl ?_
      refine VL.sG (o_alloc Z34 ZL34 (ltn rfl)) rfl ?_
      intro g3407
      refine VL.va (op_assign rfl (ltn rfl)) rfl ?_
      refine VL.step1 (o_store 0 4 rfl rfl rfl TI34 (.agg (.of rfl)) rfl (len rfl)) rfl ?_
      refine VL.done ?_
      refine VN.then ?_
      refine VC.seq ?_
      refine VC.seq ?_
      refine VC.region ?_
      refine VL.va (op_fieldAddr FI34_0 rfl (add_at _ _ _) (ltn rfl)) rfl ?_
      refine VL.va (op_load 0 1 rfl rfl TI3 rfl (by decide) (ltn rfl)) rfl ?_
      replace h := Option.bind_eq_some_iff.1 h
      obtain ⟨t3451, hA3452, h⟩ := h
      refine VL.sC (o_call0 FO31 (tarryref14_in.ok x3404.f0 1 t3451 hA3452) rfl rfl (ltn rfl) (All_of .nil)) rfl ?_
      rintro _ _ _ ⟨rfl, rfl, rfl⟩
      by_cases c3453 : t3451 = true
      · rw [if_pos c3453] at h
        obtain rfl := c3453
        refine VL.va (op_not rfl rfl (ltn rfl)) rfl ?_
        refine VL.va (op_move rfl (ltn rfl)) rfl ?_
        refine VL.va (op_fieldAddr FI34_2 rfl (add_at _ _ _) (ltn rfl)) rfl ?_
        refine VL.va (op_load 0 1 rfl rfl TI3 rfl (by decide) (ltn rfl)) rfl ?_
        replace h := Option.bind_eq_some_iff.1 h
        obtain ⟨t3454, hA3455, h⟩ := h
        refine VL.sC (o_call0 FO31 (tarryref14_in.ok x3404.f2 1 t3454 hA3455) rfl rfl (ltn rfl) (All_of .nil)) rfl ?_
        rintro _ _ _ ⟨rfl, rfl, rfl⟩
        by_cases c3456 : t3454 = true
        · rw [if_pos c3456] at h
          obtain rfl := c3456
          refine VL.va (op_not rfl rfl (ltn rfl)) rfl ?_
          refine VL.va (op_pick rfl rfl (ltn rfl)) rfl ?_
          refine VL.va (op_move rfl (ltn rfl)) rfl ?_
          refine VL.va (op_fieldAddr FI34_1 rfl (add_at _ _ _) (ltn rfl)) rfl ?_
          refine VL.va (op_load 0 1 rfl rfl TI3 rfl (by decide) (ltn rfl)) rfl ?_
          refine VL.letter (decide (x3404.f1 < 1)) fun b3457 hb3457 => ?_
          refine VL.va (op_cmp rfl rfl (congrArg some hb3457) (ltn rfl)) rfl ?_
          refine VL.va (op_pick rfl rfl (ltn rfl)) rfl ?_
          refine VL.va (op_move rfl (ltn rfl)) rfl ?_
          by_cases c3458 : x3404.f1 < 1
          · rw [if_pos c3458] at h
            obtain rfl : b3457 = true := hb3457.symm.trans (decide_eq_true c3458)
            refine VL.un rfl rfl (ltn rfl) ?_
            refine VL.un rfl rfl (ltn rfl) ?_
            refine VL.un rfl rfl (ltn rfl) ?_
            refine VL.va (op_pick rfl rfl (ltn rfl)) rfl ?_
            refine VL.va (op_move rfl (ltn rfl)) rfl ?_
            refine VL.un rfl rfl (ltn rfl) ?_
            refine VL.un rfl rfl (ltn rfl) ?_
            refine VL.un rfl rfl (ltn rfl) ?_
            refine VL.un rfl rfl (ltn rfl) ?_
            refine VL.va (op_pick rfl rfl (ltn rfl)) rfl ?_
            refine VL.va (op_move rfl (ltn rfl)) rfl ?_
            refine VL.un rfl rfl (ltn rfl) ?_
            refine VL.un rfl rfl (ltn rfl) ?_
            refine VL.un rfl rfl (ltn rfl) ?_
            refine VL.un rfl rfl (ltn rfl) ?_
            refine VL.un rfl rfl (ltn rfl) ?_
            refine VL.va (op_pick rfl rfl (ltn rfl)) rfl ?_
            refine VL.done ?_
            refine VN.then ?_
            refine VC.cond_t rfl ?_
            refine VC.seq ?_
            refine VC.region ?_
            refine VL.va (op_assign rfl (ltn rfl)) rfl ?_
            refine VL.done ?_
            refine VN.then ?_
            refine VC.ret ?_
            refine VR.then ?_
            refine VR.block ?_
            refine VR.then ?_
            refine VR.then ?_
            refine VR.block ?_
            refine VR.then ?_
            obtain rfl := Option.some.inj h
            exact VR.fn (rs := [.tmp 2]) [] [] [] rfl (.tmp rfl .nil) ⟨rfl, rfl, rfl⟩ trivial rfl (by decide)
          · rw [if_neg c3458] at h
            obtain rfl : b3457 = false := hb3457.symm.trans (decide_eq_false c3458)
            refine VL.va (op_fieldAddr FI34_1 rfl (add_at _ _ _) (ltn rfl)) rfl ?_
            refine VL.va (op_load 0 1 rfl rfl TI3 rfl (by decide) (ltn rfl)) rfl ?_
            refine VL.letter (decide (x3404.f1 > 3)) fun b3459 hb3459 => ?_
            refine VL.va (op_cmp rfl rfl (congrArg some hb3459) (ltn rfl)) rfl ?_
            refine VL.va (op_pick rfl rfl (ltn rfl)) rfl ?_
            refine VL.va (op_move rfl (ltn rfl)) rfl ?_
            by_cases c3460 : x3404.f1 > 3
            · rw [if_pos c3460] at h
              obtain rfl : b3459 = true := hb3459.symm.trans (decide_eq_true c3460)
              refine VL.un rfl rfl (ltn rfl) ?_
              refine VL.un rfl rfl (ltn rfl) ?_
              refine VL.un rfl rfl (ltn rfl) ?_
              refine VL.un rfl rfl (ltn rfl) ?_
              refine VL.va (op_pick rfl rfl (ltn rfl)) rfl ?_
              refine VL.va (op_move rfl (ltn rfl)) rfl ?_
              refine VL.un rfl rfl (ltn rfl) ?_
              refine VL.un rfl rfl (ltn rfl) ?_
              refine VL.un rfl rfl (ltn rfl) ?_
              refine VL.un rfl rfl (ltn rfl) ?_
              refine VL.un rfl rfl (ltn rfl) ?_
              refine VL.va (op_pick rfl rfl (ltn rfl)) rfl ?_
              refine VL.done ?_
              refine VN.then ?_
              refine VC.cond_t rfl ?_
              refine VC.seq ?_
              refine VC.region ?_
              refine VL.va (op_assign rfl (ltn rfl)) rfl ?_
              refine VL.done ?_
              refine VN.then ?_
              refine VC.ret ?_
              refine VR.then ?_
              refine VR.block ?_
              refine VR.then ?_
              refine VR.then ?_
              refine VR.block ?_
              refine VR.then ?_
              obtain rfl := Option.some.inj h
              exact VR.fn (rs := [.tmp 2]) [] [] [] rfl (.tmp rfl .nil) ⟨rfl, rfl, rfl⟩ trivial rfl (by decide)
            · rw [if_neg c3460] at h
              obtain rfl : b3459 = false := hb3459.symm.trans (decide_eq_false c3460)
              refine VL.va (op_fieldAddr FI34_3 rfl (add_at _ _ _) (ltn rfl)) rfl ?_
              refine VL.va (op_load 0 1 rfl rfl TI3 rfl (by decide) (ltn rfl)) rfl ?_
              replace h := Option.bind_eq_some_iff.1 h
              obtain ⟨t3461, hA3462, h⟩ := h
              refine VL.sC (o_call0 FO31 (tarryref14_in.ok x3404.f3 0 t3461 hA3462) rfl rfl (ltn rfl) (All_of .nil)) rfl ?_
              rintro _ _ _ ⟨rfl, rfl, rfl⟩
              by_cases c3463 : t3461 = true
              · rw [if_pos c3463] at h
                obtain rfl := c3463
                refine VL.va (op_not rfl rfl (ltn rfl)) rfl ?_
                refine VL.va (op_pick rfl rfl (ltn rfl)) rfl ?_
                refine VL.va (op_move rfl (ltn rfl)) rfl ?_
                refine VL.va (op_fieldAddr FI34_0 rfl (add_at _ _ _) (ltn rfl)) rfl ?_
                refine VL.va (op_load 0 1 rfl rfl TI3 rfl (by decide) (ltn rfl)) rfl ?_
                refine VL.va (op_fieldAddr FI25_0 rfl (add_at _ _ _) (ltn rfl)) rfl ?_
                refine VL.va (op_load 1 1 rfl rfl TI3 rfl (by decide) (ltn rfl)) rfl ?_
                refine VL.letter (decide (x3404.f0 > a0_0)) fun b3464 hb3464 => ?_
                refine VL.va (op_cmp rfl rfl (congrArg some hb3464) (ltn rfl)) rfl ?_
                refine VL.va (op_pick rfl rfl (ltn rfl)) rfl ?_
                refine VL.done ?_
                refine VN.then ?_
                by_cases c3465 : x3404.f0 > a0_0
                · rw [if_pos c3465] at h
                  obtain rfl : b3464 = true := hb3464.symm.trans (decide_eq_true c3465)
                  refine VC.cond_t rfl ?_
                  refine VC.seq ?_
                  refine VC.region ?_
                  refine VL.va (op_assign rfl (ltn rfl)) rfl ?_
                  refine VL.done ?_
                  refine VN.then ?_
                  refine VC.ret ?_
                  refine VR.then ?_
                  refine VR.block ?_
                  refine VR.then ?_
                  refine VR.then ?_
                  refine VR.block ?_
                  refine VR.then ?_
                  obtain rfl := Option.some.inj h
                  exact VR.fn (rs := [.tmp 2]) [] [] [] rfl (.tmp rfl .nil) ⟨rfl, rfl, rfl⟩ trivial rfl (by decide)
                · rw [if_neg c3465] at h
                  obtain rfl : b3464 = false := hb3464.symm.trans (decide_eq_false c3465)
                  refine VC.cond_f rfl ?_
                  refine VC.skip ?_
                  refine VN.then ?_
                  refine VC.seq ?_
                  refine VC.region ?_
                  refine VL.va (op_fieldAddr FI25_1 rfl (add_at _ _ _) (ltn rfl)) rfl ?_
                  refine VL.va (op_load 1 1 rfl rfl TI23 rfl (by decide) (ltn rfl)) rfl ?_
                  refine VL.va (op_move rfl (ltn rfl)) rfl ?_
                  by_cases c3466 : i2878 ≤ (l0_1.length : Int)
                  · rw [if_pos c3466] at h
                    refine VL.sG (o_slice (m := l0_1.length) 0 0 i2878.toNat lenm cutm Try.underlying23 TI34 rfl rfl ⟨rfl, ⟨_, _, rfl, c3403, rfl⟩, by omega, by omega⟩ (ltn rfl)) rfl ?_
                    intro v3468
                    refine VL.va (op_len (m := ((l0_1.take i2878.toNat).drop 0).length) 0 lenm Try.underlying23 rfl rfl (ltn rfl)) rfl ?_
                    refine VL.va (op_move rfl (ltn rfl)) rfl ?_
                    refine VL.done ?_
                    refine VN.then ?_
                    refine VC.block ?_
                    refine VC.loop1 (fun (i3502 : Int) => ⟨87, [(1, .pointer (some ⟨g1502, 0, none⟩)), (2, .bool false), (3, .int .i64 i2878), (4, .pointer (some ⟨g3407, 0, none⟩)), (8, (.slice (some ad3405) l0_1.length n3406)), (9, .int .i64 (l0_1.length : Int)), (10, .int .i64 i2878), (11, .bool true), (12, .int .i64 i2878), (14, .agg #[.int .i64 x3404.f0, .int .i64 x3404.f1, .int .i64 x3404.f2, .int .i64 x3404.f3]), (15, .pointer (some ⟨g3407, 0, none⟩)), (16, .int .i64 x3404.f0), (17, .bool true), (18, .bool false), (19, .bool false), (20, .pointer (some ⟨g3407, 2, none⟩)), (21, .int .i64 x3404.f2), (22, .bool true), (23, .bool false), (24, .bool false), (25, .bool false), (26, .pointer (some ⟨g3407, 1, none⟩)), (27, .int .i64 x3404.f1), (28, .bool false), (29, .bool false), (30, .bool false), (31, .pointer (some ⟨g3407, 1, none⟩)), (32, .int .i64 x3404.f1), (33, .bool false), (34, .bool false), (35, .bool false), (36, .pointer (some ⟨g3407, 3, none⟩)), (37, .int .i64 x3404.f3), (38, .bool true), (39, .bool false), (40, .bool false), (41, .bool false), (42, .pointer (some ⟨g3407, 0, none⟩)), (43, .int .i64 x3404.f0), (44, .pointer (some ⟨g1502, 0, none⟩)), (45, .int .i64 a0_0), (46, .bool false), (47, .bool false), (48, .pointer (some ⟨g1502, 1, none⟩)), (49, (.slice (some ad3405) l0_1.length n3406)), (50, .int .i64 i2878), (51, v3468), (52, .int .i64 (((l0_1.take i2878.toNat).drop 0).length : Int)), (53, .int .i64 i3502)], [.row (.slice (some ad3405) l0_1.length n3406) 4 (l0_1.map enc33), .row v3468 4 (((l0_1.take i2878.toNat).drop 0).map enc33)], [(g3407, 34, [.int .i64 x3404.f0, .int .i64 x3404.f1, .int .i64 x3404.f2, .int .i64 x3404.f3]), (g1502, 25, [.int .i64 a0_0, (.slice (some ad3405) l0_1.length n3406)])], []⟩) (fun (ml5 : Nat) (i3502 : Int) => tarryref14_Right.l5 k (tarryref14_Right.l3 k a0_0 l0_1 ml3) i2878 l0_1 x3404 ml5 i3502 = some r1) k 0 [0, 1] [] h ⟨rfl, ⟨rfl, rfl, rfl, rfl, rfl, rfl, rfl, rfl, rfl, rfl, rfl, rfl, rfl, rfl, rfl, rfl, rfl, rfl, rfl, rfl, rfl, rfl, rfl, rfl, rfl, rfl, rfl, rfl, rfl, rfl, rfl, rfl, rfl, rfl, rfl, rfl, rfl, rfl, rfl, rfl, rfl, rfl, rfl, rfl, rfl, rfl, rfl, rfl, rfl, trivial⟩, ⟨⟨1, rfl⟩, ⟨0, rfl⟩, trivial⟩, rfl, by decide, rfl, by decide⟩ (by intros; simp [tarryref14_Right.l5]) ?_
                    clear h
                    intro ml5 ihl5 i3502 h
                    simp only [tarryref14_Right.l5] at h
                    refine VC.seq ?_
                    refine VC.region ?_
                    refine VL.letter (decide (i3502 < (((l0_1.take i2878.toNat).drop 0).length : Int))) fun b3538 hb3538 => ?_
                    refine VL.va (op_cmp rfl rfl (congrArg some hb3538) (ltn rfl)) rfl ?_
                    refine VL.done ?_
                    refine VN.then ?_
                    refine VC.seq ?_
                    by_cases c3540 : i3502 < (((l0_1.take i2878.toNat).drop 0).length : Int)
                    · rw [if_pos c3540] at h
                      obtain rfl : b3538 = true := hb3538.symm.trans (decide_eq_true c3540)
                      refine VC.cond_t rfl ?_
                      refine VC.skip ?_
                      refine VN.then ?_
                      refine VC.seq ?_
                      refine VC.block ?_
                      refine VC.seq ?_
                      refine VC.region ?_
                      by_cases c3557 : 0 ≤ i3502
                      · rw [if_pos c3557] at h
                        replace h := Option.bind_eq_some_iff.1 h
                        obtain ⟨x3558, hx3558, h⟩ := h
                        refine VL.open (m := ((l0_1.take i2878.toNat).drop 0).length) 1 lenm rfl (pos_get hx3558) ?_
                        rintro ad3559 n3560 rfl
                        refine VL.va (op_indexAddr Try.underlying23 TI34 rfl rfl c3557 (lt_get c3557 hx3558) rfl (ltn rfl)) rfl ?_
                        refine VL.va (op_load_row (sz := 4) (o := 0) 1 i3502.toNat 4 rfl rfl (get_map hx3558) TI34 rfl (fun h => absurd h (by decide)) (ltn rfl)) rfl ?_
                        refine VL.sG (o_alloc Z34 ZL34 (ltn rfl)) rfl ?_
                        intro g3561
                        refine VL.step1 (o_store 0 4 rfl rfl rfl TI34 (.agg (.of rfl)) rfl (len rfl)) rfl ?_
                        refine VL.done ?_
                        refine VN.then ?_
                        refine VC.seq ?_
                        refine VC.region ?_
                        refine VL.va (op_fieldAddr FI34_0 rfl (add_at _ _ _) (ltn rfl)) rfl ?_
                        refine VL.va (op_load 0 1 rfl rfl TI3 rfl (by decide) (ltn rfl)) rfl ?_
                        refine VL.va (op_fieldAddr FI34_0 rfl (add_at _ _ _) (ltn rfl)) rfl ?_
                        refine VL.va (op_load 1 1 rfl rfl TI3 rfl (by decide) (ltn rfl)) rfl ?_
                        refine VL.letter (decide (x3558.f0 ≥ x3404.f0)) fun b3567 hb3567 => ?_
                        refine VL.va (op_cmp rfl rfl (congrArg some hb3567) (ltn rfl)) rfl ?_
                        refine VL.va (op_move rfl (ltn rfl)) rfl ?_
                        by_cases c3568 : x3558.f0 ≥ x3404.f0
                        · rw [if_pos c3568] at h
                          obtain rfl : b3567 = true := hb3567.symm.trans (decide_eq_true c3568)
                          refine VL.un rfl rfl (ltn rfl) ?_
                          refine VL.un rfl rfl (ltn rfl) ?_
                          refine VL.un rfl rfl (ltn rfl) ?_
                          refine VL.un rfl rfl (ltn rfl) ?_
                          refine VL.un rfl rfl (ltn rfl) ?_
                          refine VL.un rfl rfl (ltn rfl) ?_
                          refine VL.un rfl rfl (ltn rfl) ?_
                          refine VL.un rfl rfl (ltn rfl) ?_
                          refine VL.un rfl rfl (ltn rfl) ?_
                          refine VL.un rfl rfl (ltn rfl) ?_
                          refine VL.un rfl rfl (ltn rfl) ?_
                          refine VL.un rfl rfl (ltn rfl) ?_
                          refine VL.va (op_pick rfl rfl (ltn rfl)) rfl ?_
                          refine VL.done ?_
                          refine VN.then ?_
                          refine VC.cond_t rfl ?_
                          refine VC.seq ?_
                          refine VC.region ?_
                          refine VL.va (op_assign rfl (ltn rfl)) rfl ?_
                          refine VL.done ?_
                          refine VN.then ?_
                          refine VC.ret ?_
                          refine VR.block ?_
                          refine VR.then ?_
                          refine VR.then ?_
                          refine VR.block ?_
                          refine VR.block ?_
                          refine VR.then ?_
                          refine VR.then ?_
                          refine VR.block ?_
                          refine VR.then ?_
                          obtain rfl := Option.some.inj h
                          exact VR.fn (rs := [.tmp 2]) [] [] [] rfl (.tmp rfl .nil) ⟨rfl, rfl, rfl⟩ trivial rfl (by decide)
                        · rw [if_neg c3568] at h
                          obtain rfl : b3567 = false := hb3567.symm.trans (decide_eq_false c3568)
                          refine VL.va (op_fieldAddr FI34_1 rfl (add_at _ _ _) (ltn rfl)) rfl ?_
                          refine VL.va (op_load 0 1 rfl rfl TI3 rfl (by decide) (ltn rfl)) rfl ?_
                          refine VL.va (op_fieldAddr FI34_1 rfl (add_at _ _ _) (ltn rfl)) rfl ?_
                          refine VL.va (op_load 1 1 rfl rfl TI3 rfl (by decide) (ltn rfl)) rfl ?_
                          refine VL.letter ((x3558.f1 == x3404.f1)) fun b3569 hb3569 => ?_
                          refine VL.va (op_cmp rfl rfl (congrArg some hb3569) (ltn rfl)) rfl ?_
                          refine VL.va (op_move rfl (ltn rfl)) rfl ?_
                          by_cases c3570 : x3558.f1 = x3404.f1
                          · rw [if_pos c3570] at h
                            obtain rfl : b3569 = true := hb3569.symm.trans (beq_iff_eq.2 c3570)
                            refine VL.va (op_fieldAddr FI34_2 rfl (add_at _ _ _) (ltn rfl)) rfl ?_
                            refine VL.va (op_load 0 1 rfl rfl TI3 rfl (by decide) (ltn rfl)) rfl ?_
                            refine VL.va (op_fieldAddr FI34_2 rfl (add_at _ _ _) (ltn rfl)) rfl ?_
                            refine VL.va (op_load 1 1 rfl rfl TI3 rfl (by decide) (ltn rfl)) rfl ?_
                            refine VL.letter ((x3558.f2 == x3404.f2)) fun b3571 hb3571 => ?_
                            refine VL.va (op_cmp rfl rfl (congrArg some hb3571) (ltn rfl)) rfl ?_
                            refine VL.va (op_pick rfl rfl (ltn rfl)) rfl ?_
                            refine VL.va (op_pick rfl rfl (ltn rfl)) rfl ?_
                            refine VL.done ?_
                            refine VN.then ?_
                            by_cases c3572 : x3558.f2 = x3404.f2
                            · rw [if_pos c3572] at h
                              obtain rfl : b3571 = true := hb3571.symm.trans (beq_iff_eq.2 c3572)
                              refine VC.cond_t rfl ?_
                              refine VC.seq ?_
                              refine VC.region ?_
                              refine VL.va (op_assign rfl (ltn rfl)) rfl ?_
                              refine VL.done ?_
                              refine VN.then ?_
                              refine VC.ret ?_
                              refine VR.block ?_
                              refine VR.then ?_
                              refine VR.then ?_
                              refine VR.block ?_
                              refine VR.block ?_
                              refine VR.then ?_
                              refine VR.then ?_
                              refine VR.block ?_
                              refine VR.then ?_
                              obtain rfl := Option.some.inj h
                              exact VR.fn (rs := [.tmp 2]) [] [] [] rfl (.tmp rfl .nil) ⟨rfl, rfl, rfl⟩ trivial rfl (by decide)
                            · rw [if_neg c3572] at h
                              obtain rfl : b3571 = false := hb3571.symm.trans (beq_eq_false_iff_ne.2 c3572)
                              refine VC.cond_f rfl ?_
                              refine VC.skip ?_
                              refine VN.block ?_
                              refine VN.then ?_
                              refine VC.region ?_
                              refine VL.va (op_ari64 rfl rfl rfl (ltn rfl)) rfl ?_
                              refine VL.va (op_move rfl (ltn rfl)) rfl ?_
                              refine VL.done ?_
                              refine VN.again [1, 2] [] (ihl5 (wrap64 (i3502 + 1)) h) ⟨rfl, ⟨rfl, rfl, rfl, rfl, rfl, rfl, rfl, rfl, rfl, rfl, rfl, rfl, rfl, rfl, rfl, rfl, rfl, rfl, rfl, rfl, rfl, rfl, rfl, rfl, rfl, rfl, rfl, rfl, rfl, rfl, rfl, rfl, rfl, rfl, rfl, rfl, rfl, rfl, rfl, rfl, rfl, rfl, rfl, rfl, rfl, rfl, rfl, rfl, rfl, trivial⟩, ⟨⟨0, rfl⟩, ⟨1, rfl⟩, trivial⟩, rfl, by decide, rfl, by decide⟩
                          · rw [if_neg c3570] at h
                            obtain rfl : b3569 = false := hb3569.symm.trans (beq_eq_false_iff_ne.2 c3570)
                            refine VL.un rfl rfl (ltn rfl) ?_
                            refine VL.un rfl rfl (ltn rfl) ?_
                            refine VL.un rfl rfl (ltn rfl) ?_
                            refine VL.un rfl rfl (ltn rfl) ?_
                            refine VL.un rfl rfl (ltn rfl) ?_
                            refine VL.va (op_pick rfl rfl (ltn rfl)) rfl ?_
                            refine VL.va (op_pick rfl rfl (ltn rfl)) rfl ?_
                            refine VL.done ?_
                            refine VN.then ?_
                            refine VC.cond_f rfl ?_
                            refine VC.skip ?_
                            refine VN.block ?_
                            refine VN.then ?_
                            refine VC.region ?_
                            refine VL.va (op_ari64 rfl rfl rfl (ltn rfl)) rfl ?_
                            refine VL.va (op_move rfl (ltn rfl)) rfl ?_
                            refine VL.done ?_
                            refine VN.again [1, 2] [] (ihl5 (wrap64 (i3502 + 1)) h) ⟨rfl, ⟨rfl, rfl, rfl, rfl, rfl, rfl, rfl, rfl, rfl, rfl, rfl, rfl, rfl, rfl, rfl, rfl, rfl, rfl, rfl, rfl, rfl, rfl, rfl, rfl, rfl, rfl, rfl, rfl, rfl, rfl, rfl, rfl, rfl, rfl, rfl, rfl, rfl, rfl, rfl, rfl, rfl, rfl, rfl, rfl, rfl, rfl, rfl, rfl, rfl, trivial⟩, ⟨⟨0, rfl⟩, ⟨1, rfl⟩, trivial⟩, rfl, by decide, rfl, by decide⟩
                      · rw [if_neg c3557] at h; cases h
                    · rw [if_neg c3540] at h
                      obtain rfl : b3538 = false := hb3538.symm.trans (decide_eq_false c3540)
                      refine VC.cond_f rfl ?_
                      refine VC.exit ?_
                      refine VX.then ?_
                      refine VX.then ?_
                      refine VX.hit ?_
                      refine VN.block ?_
                      refine VN.then ?_
                      refine VC.region ?_
                      refine VL.va (op_ari64 rfl rfl rfl (ltn rfl)) rfl ?_
                      refine VL.va (op_move rfl (ltn rfl)) rfl ?_
                      refine VL.done ?_
                      refine VN.again [1] [] (ihl3 (wrap64 (i2878 + 1)) h) ⟨rfl, ⟨rfl, rfl, rfl, rfl, rfl, trivial⟩, ⟨⟨0, rfl⟩, trivial⟩, rfl, by decide, rfl, by decide⟩
                  · rw [if_neg c3466] at h; cases h
              · rw [if_neg c3463] at h
                obtain rfl := Bool.eq_false_iff.2 c3463
                refine VL.va (op_not rfl rfl (ltn rfl)) rfl ?_
                refine VL.va (op_pick rfl rfl (ltn rfl)) rfl ?_
                refine VL.va (op_move rfl (ltn rfl)) rfl ?_
                refine VL.un rfl rfl (ltn rfl) ?_
                refine VL.un rfl rfl (ltn rfl) ?_
                refine VL.un rfl rfl (ltn rfl) ?_
                refine VL.un rfl rfl (ltn rfl) ?_
                refine VL.un rfl rfl (ltn rfl) ?_
                refine VL.va (op_pick rfl rfl (ltn rfl)) rfl ?_
                refine VL.done ?_
                refine VN.then ?_
                refine VC.cond_t rfl ?_
                refine VC.seq ?_
                refine VC.region ?_
                refine VL.va (op_assign rfl (ltn rfl)) rfl ?_
                refine VL.done ?_
                refine VN.then ?_
                refine VC.ret ?_
                refine VR.then ?_
                refine VR.block ?_
                refine VR.then ?_
                refine VR.then ?_
                refine VR.block ?_
                refine VR.then ?_
                obtain rfl := Option.some.inj h
                exact VR.fn (rs := [.tmp 2]) [] [] [] rfl (.tmp rfl .nil) ⟨rfl, rfl, rfl⟩ trivial rfl (by decide)
        · rw [if_neg c3456] at h
          obtain rfl := Bool.eq_false_iff.2 c3456
          refine VL.va (op_not rfl rfl (ltn rfl)) rfl ?_
          refine VL.va (op_pick rfl rfl (ltn rfl)) rfl ?_
          refine VL.va (op_move rfl (ltn rfl)) rfl ?_
          refine VL.un rfl rfl (ltn rfl) ?_
          refine VL.un rfl rfl (ltn rfl) ?_
          refine VL.un rfl rfl (ltn rfl) ?_
          refine VL.va (op_pick rfl rfl (ltn rfl)) rfl ?_
          refine VL.va (op_move rfl (ltn rfl)) rfl ?_
          refine VL.un rfl rfl (ltn rfl) ?_
          refine VL.un rfl rfl (ltn rfl) ?_
          refine VL.un rfl rfl (ltn rfl) ?_
          refine VL.va (op_pick rfl rfl (ltn rfl)) rfl ?_
          refine VL.va (op_move rfl (ltn rfl)) rfl ?_
          refine VL.un rfl rfl (ltn rfl) ?_
          refine VL.un rfl rfl (ltn rfl) ?_
          refine VL.un rfl rfl (ltn rfl) ?_
          refine VL.un rfl rfl (ltn rfl) ?_
          refine VL.va (op_pick rfl rfl (ltn rfl)) rfl ?_
          refine VL.va (op_move rfl (ltn rfl)) rfl ?_
          refine VL.un rfl rfl (ltn rfl) ?_
          refine VL.un rfl rfl (ltn rfl) ?_
          refine VL.un rfl rfl (ltn rfl) ?_
          refine VL.un rfl rfl (ltn rfl) ?_
          refine VL.un rfl rfl (ltn rfl) ?_
          refine VL.va (op_pick rfl rfl (ltn rfl)) rfl ?_
          refine VL.done ?_
          refine VN.then ?_
          refine VC.cond_t rfl ?_
          refine VC.seq ?_
          refine VC.region ?_
          refine VL.va (op_assign rfl (ltn rfl)) rfl ?_
          refine VL.done ?_
          refine VN.then ?_
          refine VC.ret ?_
          refine VR.then ?_
          refine VR.block ?_
          refine VR.then ?_
          refine VR.then ?_
          refine VR.block ?_
          refine VR.then ?_
          obtain rfl := Option.some.inj h
          exact VR.fn (rs := [.tmp 2]) [] [] [] rfl (.tmp rfl .nil) ⟨rfl, rfl, rfl⟩ trivial rfl (by decide)
      · rw [if_neg c3453] at h
        obtain rfl := Bool.eq_false_iff.2 c3453
        refine VL.va (op_not rfl rfl (ltn rfl)) rfl ?_
        refine VL.va (op_move rfl (ltn rfl)) rfl ?_
        refine VL.un rfl rfl (ltn rfl) ?_
        refine VL.un rfl rfl (ltn rfl) ?_
        refine VL.un rfl rfl (ltn rfl) ?_
        refine VL.un rfl rfl (ltn rfl) ?_
        refine VL.va (op_pick rfl rfl (ltn rfl)) rfl ?_
        refine VL.va (op_move rfl (ltn rfl)) rfl ?_
        refine VL.un rfl rfl (ltn rfl) ?_
        refine VL.un rfl rfl (ltn rfl) ?_
        refine VL.un rfl rfl (ltn rfl) ?_
        refine VL.va (op_pick rfl rfl (ltn rfl)) rfl ?_
        refine VL.va (op_move rfl (ltn rfl)) rfl ?_
        refine VL.un rfl rfl (ltn rfl) ?_
        refine VL.un rfl rfl (ltn rfl) ?_
        refine VL.un rfl rfl (ltn rfl) ?_
        refine VL.va (op_pick rfl rfl (ltn rfl)) rfl ?_
        refine VL.va (op_move rfl (ltn rfl)) rfl ?_
        refine VL.un rfl rfl (ltn rfl) ?_
        refine VL.un rfl rfl (ltn rfl) ?_
        refine VL.un rfl rfl (ltn rfl) ?_
        refine VL.un rfl rfl (ltn rfl) ?_
        refine VL.va (op_pick rfl rfl (ltn rfl)) rfl ?_
        refine VL.va (op_move rfl (ltn rfl)) rfl ?_
        refine VL.un rfl rfl (ltn rfl) ?_
        refine VL.un rfl rfl (ltn rfl) ?_
        refine VL.un rfl rfl (ltn rfl) ?_
        refine VL.un rfl rfl (ltn rfl) ?_
        refine VL.un rfl rfl (ltn rfl) ?_
        refine VL.va (op_pick rfl rfl (ltn rfl)) rfl ?_
        refine VL.done ?_
        refine VN.then ?_
        refine VC.cond_t rfl ?_
        refine VC.seq ?_
        refine VC.region ?_
        refine VL.va (op_assign rfl (ltn rfl)) rfl ?_
        refine VL.done ?_
        refine VN.then ?_
        refine VC.ret ?_
        refine VR.then ?_
        refine VR.block ?_
        refine VR.then ?_
        refine VR.then ?_
        refine VR.block ?_
        refine VR.then ?_
        obtain rfl := Option.some.inj h
        exact VR.fn (rs := [.tmp 2]) [] [] [] rfl (.tmp rfl .nil) ⟨rfl, rfl, rfl⟩ trivial rfl (by decide)
    · rw [if_neg c3403] at h; cases h
  · rw [if_neg c3232] at h
    obtain rfl : b3222 = false := hb3222.symm.trans (decide_eq_false c3232)
    refine VC.cond_f rfl ?_
    refine VC.exit ?_
    refine VX.then ?_
    refine VX.then ?_
    refine VX.hit ?_
    refine VN.then ?_
    refine VC.seq ?_
    refine VC.region ?_
    refine VL.va (op_fieldAddr FI25_1 rfl (add_at _ _ _) (ltn rfl)) rfl ?_
    refine VL.va (op_load 0 1 rfl rfl TI23 rfl (by decide) (ltn rfl)) rfl ?_
    refine VL.va (op_len (m := l0_1.length) 0 lenm Try.underlying23 rfl rfl (ltn rfl)) rfl ?_
    refine VL.letter (decide ((l0_1.length : Int) ≤ 96)) fun b3577 hb3577 => ?_
    refine VL.va (op_cmp rfl rfl (congrArg some hb3577) (ltn rfl)) rfl ?_
    refine VL.va (op_move rfl (ltn rfl)) rfl ?_
    by_cases c3578 : (l0_1.length : Int) ≤ 96
    · rw [if_pos c3578] at h
      obtain rfl : b3577 = true := hb3577.symm.trans (decide_eq_true c3578)
      refine VL.va (op_fieldAddr FI25_0 rfl (add_at _ _ _) (ltn rfl)) rfl ?_
      refine VL.va (op_load 0 1 rfl rfl TI3 rfl (by decide) (ltn rfl)) rfl ?_
      replace h := Option.bind_eq_some_iff.1 h
      obtain ⟨t3579, hA3580, h⟩ := h
      refine VL.sC (o_call0 FO31 (tarryref14_in.ok a0_0 0 t3579 hA3580) rfl rfl (ltn rfl) (All_of .nil)) rfl ?_
      rintro _ _ _ ⟨rfl, rfl, rfl⟩
      refine VL.va (op_pick rfl rfl (ltn rfl)) rfl ?_
      refine VL.va (op_assign rfl (ltn rfl)) rfl ?_
      refine VL.done ?_
      refine VN.then ?_
      refine VC.ret ?_
      obtain rfl := Option.some.inj h
      exact VR.fn (rs := [.tmp 2]) [] [] [] rfl (.tmp rfl .nil) ⟨rfl, rfl, rfl⟩ trivial rfl (by decide)
    · rw [if_neg c3578] at h
      obtain rfl : b3577 = false := hb3577.symm.trans (decide_eq_false c3578)
      refine VL.un rfl rfl (ltn rfl) ?_
      refine VL.un rfl rfl (ltn rfl) ?_
      refine VL.un rfl rfl (ltn rfl) ?_
      refine VL.va (op_pick rfl rfl (ltn rfl)) rfl ?_
      refine VL.va (op_assign rfl (ltn rfl)) rfl ?_
      refine VL.done ?_
      refine VN.then ?_
      refine VC.ret ?_
      obtain rfl := Option.some.inj h
      exact VR.fn (rs := [.tmp 2]) [] [] [] rfl (.tmp rfl .nil) ⟨rfl, rfl, rfl⟩ trivial rfl (by decide)
set_option maxHeartbeats 4000000 in
set_option maxRecDepth 100000 in
theorem tarryref14_Find.ok (k : Nat) (a0_0 : Int) (l0_1 : List S33) (a1 : Int) (a2 : Int) (v0_1 : Value) (r1 : Int) (r2 : Int) (r3 : Int) (r4 : Int) (h : tarryref14_Find.f k a0_0 l0_1 a1 a2 = some (r1, r2, r3, r4)) :
    VCalls Try.prog 15 [.agg #[.int .i64 a0_0, v0_1], .int .i64 a1, .int .i64 a2] [.row v0_1 4 (l0_1.map enc33)] (fun v G own => v = .agg #[.int .i64 r1, .int .i64 r2, .int .i64 r3, .int .i64 r4] ∧ G = [] ∧ own = []) := by
  refine VCalls.intro Try.func15 rfl (len rfl) fun E hC hW hD => ?_
  unfold tarryref14_Find.f at h
  refine VC.seq ?_
  refine VC.region ?_
  refine VL.sG (o_box rfl (.agg (.c rfl (.f 0 rfl .nil))) (ltn rfl)) rfl ?_
  intro g3641
  refine VL.sG (o_alloc Z34 ZL34 (ltn rfl)) rfl ?_
  intro g3642
  refine VL.done ?_
  refine VN.then ?_
  refine VC.seq ?_
  refine VC.seq ?_
  refine VC.region ?_
  refine VL.va (op_fieldAddr FI25_1 rfl (add_at _ _ _) (ltn rfl)) rfl ?_
  refine VL.va (op_load 1 1 rfl rfl TI23 rfl (by decide) (ltn rfl)) rfl ?_
  refine VL.va (op_len (m := l0_1.length) 0 lenm Try.underlying23 rfl rfl (ltn rfl)) rfl ?_
  refine VL.va (op_move rfl (ltn rfl)) rfl ?_
  refine VL.done ?_
  refine VN.then ?_
  refine VC.block ?_
  refine VC.loop1 (fun (i3748 : Int) => ⟨29, [(1, .int .i64 a1), (2, .int .i64 a2), (6, .pointer (some ⟨g3642, 0, none⟩)), (10, v0_1), (11, .int .i64 (l0_1.length : Int)), (12, .int .i64 i3748)], [.row v0_1 4 (l0_1.map enc33)], [(g3642, 34, [.int .i64 0, .int .i64 0, .int .i64 0, .int .i64 0])], []⟩) (fun (ml1 : Nat) (i3748 : Int) => tarryref14_Find.l1 k a1 a2 l0_1 ml1 i3748 = some (r1, r2, r3, r4)) k 0 [0] [] h ⟨rfl, ⟨rfl, rfl, rfl, rfl, rfl, rfl, trivial⟩, ⟨⟨0, rfl⟩, trivial⟩, rfl, by decide, rfl, by decide⟩ (by intros; simp [tarryref14_Find.l1]) ?_
  clear h
  intro ml1 ihl1 i3748 h
  simp only [tarryref14_Find.l1] at h
  refine VC.seq ?_
  refine VC.region ?_
  refine VL.letter (decide (i3748 < (l0_1.length : Int))) fun b3776 hb3776 => ?_
  refine VL.va (op_cmp rfl rfl (congrArg some hb3776) (ltn rfl)) rfl ?_
  refine VL.done ?_
  refine VN.then ?_
  refine VC.seq ?_
  by_cases c3778 : i3748 < (l0_1.length : Int)
  · rw [if_pos c3778] at h
    obtain rfl : b3776 = true := hb3776.symm.trans (decide_eq_true c3778)
    refine VC.cond_t rfl ?_
    refine VC.skip ?_
    refine VN.then ?_
    refine VC.seq ?_
    refine VC.block ?_
    refine VC.seq ?_
    refine VC.region ?_
    by_cases c3791 : 0 ≤ i3748
    · rw [if_pos c3791] at h
      replace h := Option.bind_eq_some_iff.1 h
      obtain ⟨x3792, hx3792, h⟩ := h
      refine VL.open (m := l0_1.length) 0 lenm rfl (pos_get hx3792) ?_
      rintro ad3793 n3794 rfl
      refine VL.va (op_indexAddr Try.underlying23 TI34 rfl rfl c3791 (lt_get c3791 hx3792) rfl (ltn rfl)) rfl ?_
      refine VL.va (op_load_row (sz := 4) (o := 0) 0 i3748.toNat 4 rfl rfl (get_map hx3792) TI34 rfl (fun h => absurd h (by decide)) (ltn rfl)) rfl ?_
      refine VL.sG (o_alloc Z34 ZL34 (ltn rfl)) rfl ?_
      intro g3795
      refine VL.step1 (o_store 0 4 rfl rfl rfl TI34 (.agg (.of rfl)) rfl (len rfl)) rfl ?_
      refine VL.done ?_
      refine VN.then ?_
      refine VC.seq ?_
      refine VC.region ?_
      refine VL.va (op_fieldAddr FI34_1 rfl (add_at _ _ _) (ltn rfl)) rfl ?_
      refine VL.va (op_load 0 1 rfl rfl TI3 rfl (by decide) (ltn rfl)) rfl ?_
      refine VL.va (op_move rfl (ltn rfl)) rfl ?_
      refine VL.letter ((x3792.f1 == a1)) fun b3799 hb3799 => ?_
      refine VL.va (op_cmp rfl rfl (congrArg some hb3799) (ltn rfl)) rfl ?_
      refine VL.va (op_move rfl (ltn rfl)) rfl ?_
      by_cases c3800 : x3792.f1 = a1
      · rw [if_pos c3800] at h
        obtain rfl : b3799 = true := hb3799.symm.trans (beq_iff_eq.2 c3800)
        refine VL.va (op_fieldAddr FI34_2 rfl (add_at _ _ _) (ltn rfl)) rfl ?_
        refine VL.va (op_load 0 1 rfl rfl TI3 rfl (by decide) (ltn rfl)) rfl ?_
        refine VL.va (op_move rfl (ltn rfl)) rfl ?_
        refine VL.letter ((x3792.f2 == a2)) fun b3801 hb3801 => ?_
        refine VL.va (op_cmp rfl rfl (congrArg some hb3801) (ltn rfl)) rfl ?_
        refine VL.va (op_pick rfl rfl (ltn rfl)) rfl ?_
        refine VL.done ?_
        refine VN.then ?_
        by_cases c3802 : x3792.f2 = a2
        · rw [if_pos c3802] at h
          obtain rfl : b3801 = true := hb3801.symm.trans (beq_iff_eq.2 c3802)
          refine VC.cond_t rfl ?_
          refine VC.seq ?_
          refine VC.region ?_
          refine VL.va (op_load 0 4 rfl rfl TI34 rfl (fun h => absurd h (by decide)) (ltn rfl)) rfl ?_
          refine VL.step1 (o_store 1 4 rfl rfl rfl TI34 (.agg (.of rfl)) rfl (len rfl)) rfl ?_
          refine VL.done ?_
          refine VN.then ?_
          refine VC.ret ?_
          refine VR.block ?_
          refine VR.then ?_
          refine VR.then ?_
          refine VR.block ?_
          refine VR.then ?_
          simp only [Option.some.injEq, Prod.mk.injEq] at h
          obtain ⟨rfl, rfl, rfl, rfl⟩ := h
          exact VR.fn (rs := [.cell 6 34]) [] [] [] rfl (.cell 1 rfl rfl TI34 (fun h => absurd h (by decide)) .nil) ⟨rfl, rfl, rfl⟩ trivial rfl (by decide)
        · rw [if_neg c3802] at h
          obtain rfl : b3801 = false := hb3801.symm.trans (beq_eq_false_iff_ne.2 c3802)
          refine VC.cond_f rfl ?_
          refine VC.skip ?_
          refine VN.block ?_
          refine VN.then ?_
          refine VC.region ?_
          refine VL.va (op_ari64 rfl rfl rfl (ltn rfl)) rfl ?_
          refine VL.va (op_move rfl (ltn rfl)) rfl ?_
          refine VL.done ?_
          refine VN.again [1] [] (ihl1 (wrap64 (i3748 + 1)) h) ⟨rfl, ⟨rfl, rfl, rfl, rfl, rfl, rfl, trivial⟩, ⟨⟨0, rfl⟩, trivial⟩, rfl, by decide, rfl, by decide⟩
      · rw [if_neg c3800] at h
        obtain rfl : b3799 = false := hb3799.symm.trans (beq_eq_false_iff_ne.2 c3800)
        refine VL.un rfl rfl (ltn rfl) ?_
        refine VL.un rfl rfl (ltn rfl) ?_
        refine VL.un rfl rfl (ltn rfl) ?_
        refine VL.un rfl rfl (ltn rfl) ?_
        refine VL.va (op_pick rfl rfl (ltn rfl)) rfl ?_
        refine VL.done ?_
        refine VN.then ?_
        refine VC.cond_f rfl ?_
        refine VC.skip ?_
        refine VN.block ?_
        refine VN.then ?_
        refine VC.region ?_
        refine VL.va (op_ari64 rfl rfl rfl (ltn rfl)) rfl ?_
        refine VL.va (op_move rfl (ltn rfl)) rfl ?_
        refine VL.done ?_
        refine VN.again [1] [] (ihl1 (wrap64 (i3748 + 1)) h) ⟨rfl, ⟨rfl, rfl, rfl, rfl, rfl, rfl, trivial⟩, ⟨⟨0, rfl⟩, trivial⟩, rfl, by decide, rfl, by decide⟩
    · rw [if_neg c3791] at h; cases h
  · rw [if_neg c3778] at h
    obtain rfl : b3776 = false := hb3776.symm.trans (decide_eq_false c3778)
    refine VC.cond_f rfl ?_
    refine VC.exit ?_
    refine VX.then ?_
    refine VX.then ?_
    refine VX.hit ?_
    refine VN.then ?_
    refine VC.seq ?_
    refine VC.region ?_
    refine VL.va (op_build (vals := []) (vcs := []) (cells := [.int .i64 0, .int .i64 0, .int .i64 0, .int .i64 0]) SI34 rfl .nil (by kernel_rfl) (ltn rfl)) rfl ?_
    refine VL.step1 (o_store 0 4 rfl rfl rfl TI34 (.agg (.of rfl)) rfl (len rfl)) rfl ?_
    refine VL.done ?_
    refine VN.then ?_
    refine VC.ret ?_
    simp only [Option.some.injEq, Prod.mk.injEq] at h
    obtain ⟨rfl, rfl, rfl, rfl⟩ := h
    exact VR.fn (rs := [.cell 6 34]) [] [] [] rfl (.cell 0 rfl rfl TI34 (fun h => absurd h (by decide)) .nil) ⟨rfl, rfl, rfl⟩ trivial rfl (by decide)

end Go.Proofs.Ytapdeoioenblfaa.POutboxGoes
