/- Written by a program of this repo: what the program's functions do, each as a Lean function, shown of the loaded code; or a statement's row over that; no condition of its own. -/
import Derived.Test.YtaolaicmfjdmhaaPFrameScansx1
namespace Go.Proofs.Ytaolaicmfjdmhaa.PFrameScans
open Go Go.RowKit Go.Proofs.YtaolaicmfjdmhaaV
set_option linter.unusedVariables false
set_option linter.unusedSimpArgs false

set_option maxHeartbeats 4000000 in
set_option maxRecDepth 100000 in
theorem pack_ReadNumber.ok (k : Nat) (a0 : ByteArray)  (r1 : Int) (r2 : ByteArray) (r3 : Int) (h : pack_ReadNumber.f k a0 = some (r1, r2, r3)) :
    VCalls Try.prog 28 [.string a0] [] (fun v G own => v = .tuple #[.int .i64 r1, .string r2, .int .i64 r3] ∧ G = [] ∧ own = []) := by
  refine VCalls.intro Try.func28 rfl (len rfl) fun E hC hW hD => ?_
  unfold pack_ReadNumber.f at h
  refine VC.seq ?_
  refine VC.region ?_
  refine VL.va (op_assign rfl (ltn rfl)) rfl ?_
  refine VL.va (op_assign rfl (ltn rfl)) rfl ?_
  refine VL.va (op_assign rfl (ltn rfl)) rfl ?_
  refine VL.done ?_
  refine VN.then ?_
  refine VC.seq ?_
  refine VC.region ?_
  refine VL.va (op_assign rfl (ltn rfl)) rfl ?_
  refine VL.done ?_
  refine VN.then ?_
  refine VC.seq ?_
  refine VC.seq ?_
  refine VC.region ?_
  refine VL.va (op_move rfl (ltn rfl)) rfl ?_
  refine VL.va (op_lens Try.underlying9 rfl (ltn rfl)) rfl ?_
  refine VL.va (op_min rfl rfl (ltn rfl)) rfl ?_
  refine VL.va (op_move rfl (ltn rfl)) rfl ?_
  refine VL.done ?_
  refine VN.then ?_
  refine VC.block ?_
  refine VC.loop2 (fun (i1976 : Int) (i1977 : Int) => ⟨56, [(0, .string a0), (2, .int .i64 0), (3, .string (⟨#[]⟩ : ByteArray)), (4, .int .i64 0), (5, .int .i64 i1976), (11, .int .i64 (mn (a0.size : Int) 9)), (12, .int .i64 i1977)], [], [], []⟩) (fun (ml3 : Nat) (i1976 : Int) (i1977 : Int) => pack_ReadNumber.l3 k a0 ml3 i1976 i1977 = some (r1, r2, r3)) k 0 0 [] [] h ⟨rfl, ⟨rfl, rfl, rfl, rfl, rfl, rfl, rfl, trivial⟩, trivial, rfl, by decide, rfl, by decide⟩ (by intros; simp [pack_ReadNumber.l3]) ?_
  clear h
  intro ml3 ihl3 i1976 i1977 h
  simp only [pack_ReadNumber.l3] at h
  refine VC.seq ?_
  refine VC.region ?_
  refine VL.letter (decide (i1977 < (mn (a0.size : Int) 9))) fun b2279 hb2279 => ?_
  refine VL.va (op_cmp rfl rfl (congrArg some hb2279) (ltn rfl)) rfl ?_
  refine VL.done ?_
  refine VN.then ?_
  refine VC.seq ?_
  by_cases c2285 : i1977 < (mn (a0.size : Int) 9)
  · rw [if_pos c2285] at h
    obtain rfl : b2279 = true := hb2279.symm.trans (decide_eq_true c2285)
    refine VC.cond_t rfl ?_
    refine VC.skip ?_
    refine VN.then ?_
    refine VC.seq ?_
    refine VC.block ?_
    refine VC.seq ?_
    refine VC.region ?_
    refine VL.va (op_move rfl (ltn rfl)) rfl ?_
    refine VL.va (op_assign rfl (ltn rfl)) rfl ?_
    refine VL.done ?_
    refine VN.then ?_
    refine VC.seq ?_
    refine VC.region ?_
    refine VL.va (op_move rfl (ltn rfl)) rfl ?_
    refine VL.va (op_move rfl (ltn rfl)) rfl ?_
    by_cases c2435 : 0 ≤ i1977
    · rw [if_pos c2435] at h
      by_cases c2436 : i1977 < (a0.size : Int)
      · rw [if_pos c2436] at h
        refine VL.va (op_indexS Try.underlying9 rfl rfl c2435 c2436 rfl (ltn rfl)) rfl ?_
        refine VL.va (op_conv Try.underlying5 Try.underlying3 rfl (i64w _) (ltn rfl)) rfl ?_
        refine VL.va (op_assign rfl (ltn rfl)) rfl ?_
        refine VL.done ?_
        refine VN.then ?_
        refine VC.seq ?_
        refine VC.region ?_
        refine VL.va (op_move rfl (ltn rfl)) rfl ?_
        refine VL.va (op_move rfl (ltn rfl)) rfl ?_
        refine VL.va (op_rem rfl rfl (by decide) rfl (ltn rfl)) rfl ?_
        refine VL.va (op_move rfl (ltn rfl)) rfl ?_
        refine VL.va (op_ari64 rfl rfl rfl (ltn rfl)) rfl ?_
        by_cases c2437 : 0 ≤ wrap64 (7 * i1977)
        · rw [if_pos c2437] at h
          refine VL.va (op_shl rfl rfl c2437 rfl (ltn rfl)) rfl ?_
          refine VL.va (op_bits rfl rfl rfl (ltn rfl)) rfl ?_
          refine VL.va (op_assign rfl (ltn rfl)) rfl ?_
          refine VL.done ?_
          refine VN.then ?_
          refine VC.seq ?_
          refine VC.seq ?_
          refine VC.region ?_
          refine VL.va (op_move rfl (ltn rfl)) rfl ?_
          refine VL.letter (decide ((wrap64 (bt a0 i1977)) ≥ 128)) fun b2440 hb2440 => ?_
          refine VL.va (op_cmp rfl rfl (congrArg some hb2440) (ltn rfl)) rfl ?_
          refine VL.done ?_
          refine VN.then ?_
          by_cases c2441 : (wrap64 (bt a0 i1977)) ≥ 128
          · rw [if_pos c2441] at h
            obtain rfl : b2440 = true := hb2440.symm.trans (decide_eq_true c2441)
            refine VC.cond_t rfl ?_
            refine VC.exit ?_
            refine VX.then ?_
            refine VX.hit ?_
            refine VN.then ?_
            refine VC.region ?_
            refine VL.va (op_ari64 rfl rfl rfl (ltn rfl)) rfl ?_
            refine VL.va (op_move rfl (ltn rfl)) rfl ?_
            refine VL.done ?_
            refine VN.again [] [] (ihl3 (Go.bits .or .i64 i1976 (IntKind.i64.wrap (((wrap64 (bt a0 i1977)).tmod 128) * 2 ^ min (wrap64 (7 * i1977)).toNat IntKind.i64.bits))) (wrap64 (i1977 + 1)) h) ⟨rfl, ⟨rfl, rfl, rfl, rfl, rfl, rfl, rfl, trivial⟩, trivial, rfl, by decide, rfl, by decide⟩
          · rw [if_neg c2441] at h
            obtain rfl : b2440 = false := hb2440.symm.trans (decide_eq_false c2441)
            refine VC.cond_f rfl ?_
            refine VC.skip ?_
            refine VN.then ?_
            refine VC.seq ?_
            refine VC.region ?_
            refine VL.va (op_move rfl (ltn rfl)) rfl ?_
            refine VL.va (op_quo rfl rfl (by decide) rfl (ltn rfl)) rfl ?_
            refine VL.va (op_assign rfl (ltn rfl)) rfl ?_
            refine VL.done ?_
            refine VN.then ?_
            refine VC.join2 (fun (i2538 : Int) (q2539 : Bool) => ⟨56, [(0, .string a0), (2, .int .i64 0), (3, .string (⟨#[]⟩ : ByteArray)), (4, .int .i64 0), (5, .int .i64 (Go.bits .or .i64 i1976 (IntKind.i64.wrap (((wrap64 (bt a0 i1977)).tmod 128) * 2 ^ min (wrap64 (7 * i1977)).toNat IntKind.i64.bits)))), (6, .int .i64 i1977), (7, .int .i64 (wrap64 (bt a0 i1977))), (8, .int .i64 i2538), (11, .int .i64 (mn (a0.size : Int) 9)), (12, .int .i64 i1977), (13, .bool true), (14, .int .i64 i1977), (15, .string a0), (16, .int .i64 i1977), (17, .int .u8 (bt a0 i1977)), (18, .int .i64 (wrap64 (bt a0 i1977))), (19, .int .i64 i1976), (20, .int .i64 (wrap64 (bt a0 i1977))), (21, .int .i64 ((wrap64 (bt a0 i1977)).tmod 128)), (22, .int .i64 i1977), (23, .int .i64 (wrap64 (7 * i1977))), (24, .int .i64 (IntKind.i64.wrap (((wrap64 (bt a0 i1977)).tmod 128) * 2 ^ min (wrap64 (7 * i1977)).toNat IntKind.i64.bits))), (25, .int .i64 (Go.bits .or .i64 i1976 (IntKind.i64.wrap (((wrap64 (bt a0 i1977)).tmod 128) * 2 ^ min (wrap64 (7 * i1977)).toNat IntKind.i64.bits)))), (26, .int .i64 (wrap64 (bt a0 i1977))), (27, .bool false), (28, .int .i64 (Go.bits .or .i64 i1976 (IntKind.i64.wrap (((wrap64 (bt a0 i1977)).tmod 128) * 2 ^ min (wrap64 (7 * i1977)).toNat IntKind.i64.bits)))), (29, .int .i64 (IntKind.i64.wrap ((Go.bits .or .i64 i1976 (IntKind.i64.wrap (((wrap64 (bt a0 i1977)).tmod 128) * 2 ^ min (wrap64 (7 * i1977)).toNat IntKind.i64.bits))).tdiv 2))), (30, .int .i64 (Go.bits .or .i64 i1976 (IntKind.i64.wrap (((wrap64 (bt a0 i1977)).tmod 128) * 2 ^ min (wrap64 (7 * i1977)).toNat IntKind.i64.bits)))), (31, .int .i64 ((Go.bits .or .i64 i1976 (IntKind.i64.wrap (((wrap64 (bt a0 i1977)).tmod 128) * 2 ^ min (wrap64 (7 * i1977)).toNat IntKind.i64.bits))).tmod 2)), (32, .bool q2539)], [], [], []⟩) (fun (i2538 : Int) (q2539 : Bool) => pack_ReadNumber.j5 k a0 i1977 i2538 q2539 = some (r1, r2, r3)) ?_ ?_
            · refine VC.seq ?_
              refine VC.region ?_
              refine VL.va (op_move rfl (ltn rfl)) rfl ?_
              refine VL.va (op_rem rfl rfl (by decide) rfl (ltn rfl)) rfl ?_
              refine VL.letter ((((Go.bits .or .i64 i1976 (IntKind.i64.wrap (((wrap64 (bt a0 i1977)).tmod 128) * 2 ^ min (wrap64 (7 * i1977)).toNat IntKind.i64.bits))).tmod 2) == 1)) fun b2536 hb2536 => ?_
              refine VL.va (op_cmp rfl rfl (congrArg some hb2536) (ltn rfl)) rfl ?_
              refine VL.done ?_
              refine VN.then ?_
              by_cases c2537 : ((Go.bits .or .i64 i1976 (IntKind.i64.wrap (((wrap64 (bt a0 i1977)).tmod 128) * 2 ^ min (wrap64 (7 * i1977)).toNat IntKind.i64.bits))).tmod 2) = 1
              · rw [if_pos c2537] at h
                obtain rfl : b2536 = true := hb2536.symm.trans (beq_iff_eq.2 c2537)
                refine VC.cond_t rfl ?_
                refine VC.region ?_
                refine VL.va (op_move rfl (ltn rfl)) rfl ?_
                refine VL.va (op_neg rfl (i64w _) (ltn rfl)) rfl ?_
                refine VL.va (op_ari64 rfl rfl rfl (ltn rfl)) rfl ?_
                refine VL.va (op_assign rfl (ltn rfl)) rfl ?_
                refine VL.done ?_
                refine VN.meet2 (wrap64 ((wrap64 (0 - (IntKind.i64.wrap ((Go.bits .or .i64 i1976 (IntKind.i64.wrap (((wrap64 (bt a0 i1977)).tmod 128) * 2 ^ min (wrap64 (7 * i1977)).toNat IntKind.i64.bits))).tdiv 2)))) - 1)) true [] [] h ⟨rfl, ⟨rfl, rfl, rfl, rfl, rfl, rfl, rfl, rfl, rfl, rfl, rfl, rfl, rfl, rfl, rfl, rfl, rfl, rfl, rfl, rfl, rfl, rfl, rfl, rfl, rfl, rfl, rfl, rfl, rfl, rfl, trivial⟩, trivial, rfl, by decide, rfl, by decide⟩
              · rw [if_neg c2537] at h
                obtain rfl : b2536 = false := hb2536.symm.trans (beq_eq_false_iff_ne.2 c2537)
                refine VC.cond_f rfl ?_
                refine VC.skip ?_
                refine VN.meet2 (IntKind.i64.wrap ((Go.bits .or .i64 i1976 (IntKind.i64.wrap (((wrap64 (bt a0 i1977)).tmod 128) * 2 ^ min (wrap64 (7 * i1977)).toNat IntKind.i64.bits))).tdiv 2)) false [] [] h ⟨rfl, ⟨rfl, rfl, rfl, rfl, rfl, rfl, rfl, rfl, rfl, rfl, rfl, rfl, rfl, rfl, rfl, rfl, rfl, rfl, rfl, rfl, rfl, rfl, rfl, rfl, rfl, rfl, rfl, rfl, rfl, rfl, trivial⟩, trivial, rfl, by decide, rfl, by decide⟩
            clear h
            intro i2538 q2539 h
            unfold pack_ReadNumber.j5 at h
            refine VC.seq ?_
            refine VC.seq ?_
            refine VC.region ?_
            refine VL.va (op_move rfl (ltn rfl)) rfl ?_
            refine VL.letter (((wrap64 (bt a0 i1977)) == 0)) fun b2570 hb2570 => ?_
            refine VL.va (op_cmp rfl rfl (congrArg some hb2570) (ltn rfl)) rfl ?_
            refine VL.va (op_move rfl (ltn rfl)) rfl ?_
            by_cases c2571 : (wrap64 (bt a0 i1977)) = 0
            · rw [if_pos c2571] at h
              obtain rfl : b2570 = true := hb2570.symm.trans (beq_iff_eq.2 c2571)
              refine VL.va (op_move rfl (ltn rfl)) rfl ?_
              refine VL.letter (decide (i1977 > 0)) fun b2572 hb2572 => ?_
              refine VL.va (op_cmp rfl rfl (congrArg some hb2572) (ltn rfl)) rfl ?_
              refine VL.va (op_pick rfl rfl (ltn rfl)) rfl ?_
              refine VL.va (op_move rfl (ltn rfl)) rfl ?_
              by_cases c2573 : i1977 > 0
              · rw [if_pos c2573] at h
                obtain rfl : b2572 = true := hb2572.symm.trans (decide_eq_true c2573)
                refine VL.un rfl rfl (ltn rfl) ?_
                refine VL.un rfl rfl (ltn rfl) ?_
                refine VL.un rfl rfl (ltn rfl) ?_
                refine VL.va (op_pick rfl rfl (ltn rfl)) rfl ?_
                refine VL.done ?_
                refine VN.then ?_
                refine VC.cond_t rfl ?_
                refine VC.seq ?_
                refine VC.region ?_
                refine VL.va (op_assign rfl (ltn rfl)) rfl ?_
                refine VL.va (op_assign rfl (ltn rfl)) rfl ?_
                refine VL.va (op_assign rfl (ltn rfl)) rfl ?_
                refine VL.done ?_
                refine VN.then ?_
                refine VC.ret ?_
                refine VR.then ?_
                refine VR.block ?_
                refine VR.then ?_
                refine VR.then ?_
                refine VR.block ?_
                refine VR.then ?_
                simp only [Option.some.injEq, Prod.mk.injEq] at h
                obtain ⟨rfl, rfl, rfl⟩ := h
                exact VR.fn (rs := [.tmp 2, .tmp 3, .tmp 4]) [] [] [] rfl (.tmp rfl (.tmp rfl (.tmp rfl .nil))) ⟨rfl, rfl, rfl⟩ trivial rfl (by decide)
              · rw [if_neg c2573] at h
                obtain rfl : b2572 = false := hb2572.symm.trans (decide_eq_false c2573)
                refine VL.va (op_move rfl (ltn rfl)) rfl ?_
                replace h := Option.bind_eq_some_iff.1 h
                obtain ⟨t2574, hA2575, h⟩ := h
                refine VL.sC (o_call0 FO25 (pack_may.ok i2538 t2574 hA2575) rfl rfl (ltn rfl) (All_of .nil)) rfl ?_
                rintro _ _ _ ⟨rfl, rfl, rfl⟩
                by_cases c2576 : t2574 = true
                · rw [if_pos c2576] at h
                  obtain rfl := c2576
                  refine VL.va (op_not rfl rfl (ltn rfl)) rfl ?_
                  refine VL.va (op_pick rfl rfl (ltn rfl)) rfl ?_
                  refine VL.done ?_
                  refine VN.then ?_
                  refine VC.cond_f rfl ?_
                  refine VC.skip ?_
                  refine VN.then ?_
                  by_cases c2577 : 0 ≤ wrap64 (i1977 + 1)
                  · rw [if_pos c2577] at h
                    by_cases c2578 : (wrap64 (i1977 + 1)) ≤ (a0.size : Int)
                    · rw [if_pos c2578] at h
                      refine VC.join0 (⟨56, [(0, .string a0), (2, .int .i64 i2538), (3, .string (a0.extract ((wrap64 (i1977 + 1)).toNat) a0.size)), (4, .int .i64 0), (5, .int .i64 (Go.bits .or .i64 i1976 (IntKind.i64.wrap (((wrap64 (bt a0 i1977)).tmod 128) * 2 ^ min (wrap64 (7 * i1977)).toNat IntKind.i64.bits)))), (6, .int .i64 i1977), (7, .int .i64 (wrap64 (bt a0 i1977))), (8, .int .i64 i2538), (11, .int .i64 (mn (a0.size : Int) 9)), (12, .int .i64 i1977), (13, .bool true), (14, .int .i64 i1977), (15, .string a0), (16, .int .i64 i1977), (17, .int .u8 (bt a0 i1977)), (18, .int .i64 (wrap64 (bt a0 i1977))), (19, .int .i64 i1976), (20, .int .i64 (wrap64 (bt a0 i1977))), (21, .int .i64 ((wrap64 (bt a0 i1977)).tmod 128)), (22, .int .i64 i1977), (23, .int .i64 (wrap64 (7 * i1977))), (24, .int .i64 (IntKind.i64.wrap (((wrap64 (bt a0 i1977)).tmod 128) * 2 ^ min (wrap64 (7 * i1977)).toNat IntKind.i64.bits))), (25, .int .i64 (Go.bits .or .i64 i1976 (IntKind.i64.wrap (((wrap64 (bt a0 i1977)).tmod 128) * 2 ^ min (wrap64 (7 * i1977)).toNat IntKind.i64.bits)))), (26, .int .i64 (wrap64 (bt a0 i1977))), (27, .bool false), (28, .int .i64 (Go.bits .or .i64 i1976 (IntKind.i64.wrap (((wrap64 (bt a0 i1977)).tmod 128) * 2 ^ min (wrap64 (7 * i1977)).toNat IntKind.i64.bits)))), (29, .int .i64 (IntKind.i64.wrap ((Go.bits .or .i64 i1976 (IntKind.i64.wrap (((wrap64 (bt a0 i1977)).tmod 128) * 2 ^ min (wrap64 (7 * i1977)).toNat IntKind.i64.bits))).tdiv 2))), (30, .int .i64 (Go.bits .or .i64 i1976 (IntKind.i64.wrap (((wrap64 (bt a0 i1977)).tmod 128) * 2 ^ min (wrap64 (7 * i1977)).toNat IntKind.i64.bits)))), (31, .int .i64 ((Go.bits .or .i64 i1976 (IntKind.i64.wrap (((wrap64 (bt a0 i1977)).tmod 128) * 2 ^ min (wrap64 (7 * i1977)).toNat IntKind.i64.bits))).tmod 2)), (32, .bool q2539), (36, .int .i64 (wrap64 (bt a0 i1977))), (37, .bool true), (38, .bool true), (39, .int .i64 i1977), (40, .bool false), (41, .bool false), (42, .bool false), (43, .int .i64 i2538), (44, .bool true), (45, .bool false), (46, .bool false), (47, .int .i64 i2538), (48, .string a0), (49, .int .i64 i1977), (50, .int .i64 (wrap64 (i1977 + 1))), (51, .string (a0.extract ((wrap64 (i1977 + 1)).toNat) a0.size))], [], [], []⟩) (True) ?_ ?_
                      · refine VC.draw ⟨0, [], [], [], []⟩ (by kernel_rfl) rfl (by kernel_rfl) (n := 8) (listed := LB 8 0) ?_
                        refine VA.va (i := 0) (listed' := LB 8 1) rfl (op_move rfl (ltn rfl)) rfl (by kernel_rfl) (by kernel_rfl) (by kernel_rfl) (by kernel_rfl) ⟨trivial, trivial, trivial⟩ (fun _ _ _ h => h) ?_
                        refine VA.va (i := 1) (listed' := LB 8 3) rfl (op_move rfl (ltn rfl)) rfl (by kernel_rfl) (by kernel_rfl) (by kernel_rfl) (by kernel_rfl) ⟨trivial, trivial, trivial⟩ (fun _ _ _ h => h) ?_
                        refine VA.va (i := 2) (listed' := LB 8 7) rfl (op_move rfl (ltn rfl)) rfl (by kernel_rfl) (by kernel_rfl) (by kernel_rfl) (by kernel_rfl) ⟨trivial, trivial, trivial⟩ (fun _ _ _ h => h) ?_
                        refine VA.va (i := 3) (listed' := LB 8 15) rfl (op_ari64 rfl rfl rfl (ltn rfl)) rfl (by kernel_rfl) (by kernel_rfl) (by kernel_rfl) (by kernel_rfl) ⟨trivial, trivial, trivial⟩ (fun _ _ _ h => h) ?_
                        refine VA.va (i := 4) (listed' := LB 8 31) rfl (op_sliceS ((wrap64 (i1977 + 1)).toNat) a0.size Try.underlying9 rfl ⟨⟨_, _, rfl, c2577, rfl⟩, rfl, by omega, by omega⟩ rfl (ltn rfl)) rfl (by kernel_rfl) (by kernel_rfl) (by kernel_rfl) (by kernel_rfl) ⟨trivial, trivial, trivial⟩ (fun _ _ _ h => h) ?_
                        refine VA.va (i := 5) (listed' := LB 8 63) rfl (op_assign rfl (ltn rfl)) rfl (by kernel_rfl) (by kernel_rfl) (by kernel_rfl) (by kernel_rfl) ⟨trivial, trivial, trivial⟩ (fun _ _ _ h => h) ?_
                        refine VA.va (i := 6) (listed' := LB 8 127) rfl (op_assign rfl (ltn rfl)) rfl (by kernel_rfl) (by kernel_rfl) (by kernel_rfl) (by kernel_rfl) ⟨trivial, trivial, trivial⟩ (fun _ _ _ h => h) ?_
                        refine VA.va (i := 7) (listed' := LB 8 255) rfl (op_assign rfl (ltn rfl)) rfl (by kernel_rfl) (by kernel_rfl) (by kernel_rfl) (by kernel_rfl) ⟨trivial, trivial, trivial⟩ (fun _ _ _ h => h) ?_
                        refine VA.done (by kernel_rfl) ?_
                        exact VN.meet0  [] [] trivial ⟨rfl, ⟨rfl, rfl, rfl, rfl, rfl, rfl, rfl, rfl, rfl, rfl, rfl, rfl, rfl, rfl, rfl, rfl, rfl, rfl, rfl, rfl, rfl, rfl, rfl, rfl, rfl, rfl, rfl, rfl, rfl, rfl, rfl, rfl, rfl, rfl, rfl, rfl, rfl, rfl, rfl, rfl, rfl, rfl, rfl, rfl, rfl, rfl, trivial⟩, trivial, rfl, by decide, rfl, by decide⟩
                      intro _
                      refine VC.ret ?_
                      refine VR.block ?_
                      refine VR.then ?_
                      refine VR.then ?_
                      refine VR.block ?_
                      refine VR.then ?_
                      simp only [Option.some.injEq, Prod.mk.injEq] at h
                      obtain ⟨rfl, rfl, rfl⟩ := h
                      exact VR.fn (rs := [.tmp 2, .tmp 3, .tmp 4]) [] [] [] rfl (.tmp rfl (.tmp rfl (.tmp rfl .nil))) ⟨rfl, rfl, rfl⟩ trivial rfl (by decide)
                    · rw [if_neg c2578] at h; cases h
                  · rw [if_neg c2577] at h; cases h
                · rw [if_neg c2576] at h
                  obtain rfl := Bool.eq_false_iff.2 c2576
                  refine VL.va (op_not rfl rfl (ltn rfl)) rfl ?_
                  refine VL.va (op_pick rfl rfl (ltn rfl)) rfl ?_
                  refine VL.done ?_
                  refine VN.then ?_
                  refine VC.cond_t rfl ?_
                  refine VC.seq ?_
                  refine VC.region ?_
                  refine VL.va (op_assign rfl (ltn rfl)) rfl ?_
                  refine VL.va (op_assign rfl (ltn rfl)) rfl ?_
                  refine VL.va (op_assign rfl (ltn rfl)) rfl ?_
                  refine VL.done ?_
                  refine VN.then ?_
                  refine VC.ret ?_
                  refine VR.then ?_
                  refine VR.block ?_
                  refine VR.then ?_
                  refine VR.then ?_
                  refine VR.block ?_
                  refine VR.then ?_
                  simp only [Option.some.injEq, Prod.mk.injEq] at h
                  obtain ⟨rfl, rfl, rfl⟩ := h
                  exact VR.fn (rs := [.tmp 2, .tmp 3, .tmp 4]) [] [] [] rfl (.tmp rfl (.tmp rfl (.tmp rfl .nil))) ⟨rfl, rfl, rfl⟩ trivial rfl (by decide)
            · rw [if_neg c2571] at h
              obtain rfl : b2570 = false := hb2570.symm.trans (beq_eq_false_iff_ne.2 c2571)
              refine VL.un rfl rfl (ltn rfl) ?_
              refine VL.un rfl rfl (ltn rfl) ?_
              refine VL.va (op_pick rfl rfl (ltn rfl)) rfl ?_
              refine VL.va (op_move rfl (ltn rfl)) rfl ?_
              refine VL.va (op_move rfl (ltn rfl)) rfl ?_
              replace h := Option.bind_eq_some_iff.1 h
              obtain ⟨t2579, hA2580, h⟩ := h
              refine VL.sC (o_call0 FO25 (pack_may.ok i2538 t2579 hA2580) rfl rfl (ltn rfl) (All_of .nil)) rfl ?_
              rintro _ _ _ ⟨rfl, rfl, rfl⟩
              by_cases c2581 : t2579 = true
              · rw [if_pos c2581] at h
                obtain rfl := c2581
                refine VL.va (op_not rfl rfl (ltn rfl)) rfl ?_
                refine VL.va (op_pick rfl rfl (ltn rfl)) rfl ?_
                refine VL.done ?_
                refine VN.then ?_
                refine VC.cond_f rfl ?_
                refine VC.skip ?_
                refine VN.then ?_
                by_cases c2582 : 0 ≤ wrap64 (i1977 + 1)
                · rw [if_pos c2582] at h
                  by_cases c2583 : (wrap64 (i1977 + 1)) ≤ (a0.size : Int)
                  · rw [if_pos c2583] at h
                    refine VC.join0 (⟨56, [(0, .string a0), (2, .int .i64 i2538), (3, .string (a0.extract ((wrap64 (i1977 + 1)).toNat) a0.size)), (4, .int .i64 0), (5, .int .i64 (Go.bits .or .i64 i1976 (IntKind.i64.wrap (((wrap64 (bt a0 i1977)).tmod 128) * 2 ^ min (wrap64 (7 * i1977)).toNat IntKind.i64.bits)))), (6, .int .i64 i1977), (7, .int .i64 (wrap64 (bt a0 i1977))), (8, .int .i64 i2538), (11, .int .i64 (mn (a0.size : Int) 9)), (12, .int .i64 i1977), (13, .bool true), (14, .int .i64 i1977), (15, .string a0), (16, .int .i64 i1977), (17, .int .u8 (bt a0 i1977)), (18, .int .i64 (wrap64 (bt a0 i1977))), (19, .int .i64 i1976), (20, .int .i64 (wrap64 (bt a0 i1977))), (21, .int .i64 ((wrap64 (bt a0 i1977)).tmod 128)), (22, .int .i64 i1977), (23, .int .i64 (wrap64 (7 * i1977))), (24, .int .i64 (IntKind.i64.wrap (((wrap64 (bt a0 i1977)).tmod 128) * 2 ^ min (wrap64 (7 * i1977)).toNat IntKind.i64.bits))), (25, .int .i64 (Go.bits .or .i64 i1976 (IntKind.i64.wrap (((wrap64 (bt a0 i1977)).tmod 128) * 2 ^ min (wrap64 (7 * i1977)).toNat IntKind.i64.bits)))), (26, .int .i64 (wrap64 (bt a0 i1977))), (27, .bool false), (28, .int .i64 (Go.bits .or .i64 i1976 (IntKind.i64.wrap (((wrap64 (bt a0 i1977)).tmod 128) * 2 ^ min (wrap64 (7 * i1977)).toNat IntKind.i64.bits)))), (29, .int .i64 (IntKind.i64.wrap ((Go.bits .or .i64 i1976 (IntKind.i64.wrap (((wrap64 (bt a0 i1977)).tmod 128) * 2 ^ min (wrap64 (7 * i1977)).toNat IntKind.i64.bits))).tdiv 2))), (30, .int .i64 (Go.bits .or .i64 i1976 (IntKind.i64.wrap (((wrap64 (bt a0 i1977)).tmod 128) * 2 ^ min (wrap64 (7 * i1977)).toNat IntKind.i64.bits)))), (31, .int .i64 ((Go.bits .or .i64 i1976 (IntKind.i64.wrap (((wrap64 (bt a0 i1977)).tmod 128) * 2 ^ min (wrap64 (7 * i1977)).toNat IntKind.i64.bits))).tmod 2)), (32, .bool q2539), (36, .int .i64 (wrap64 (bt a0 i1977))), (37, .bool false), (38, .bool false), (39, undef), (40, undef), (41, .bool false), (42, .bool false), (43, .int .i64 i2538), (44, .bool true), (45, .bool false), (46, .bool false), (47, .int .i64 i2538), (48, .string a0), (49, .int .i64 i1977), (50, .int .i64 (wrap64 (i1977 + 1))), (51, .string (a0.extract ((wrap64 (i1977 + 1)).toNat) a0.size))], [], [], []⟩) (True) ?_ ?_
                    · refine VC.draw ⟨0, [], [], [], []⟩ (by kernel_rfl) rfl (by kernel_rfl) (n := 8) (listed := LB 8 0) ?_
                      refine VA.va (i := 0) (listed' := LB 8 1) rfl (op_move rfl (ltn rfl)) rfl (by kernel_rfl) (by kernel_rfl) (by kernel_rfl) (by kernel_rfl) ⟨trivial, trivial, trivial⟩ (fun _ _ _ h => h) ?_
                      refine VA.va (i := 1) (listed' := LB 8 3) rfl (op_move rfl (ltn rfl)) rfl (by kernel_rfl) (by kernel_rfl) (by kernel_rfl) (by kernel_rfl) ⟨trivial, trivial, trivial⟩ (fun _ _ _ h => h) ?_
                      refine VA.va (i := 2) (listed' := LB 8 7) rfl (op_move rfl (ltn rfl)) rfl (by kernel_rfl) (by kernel_rfl) (by kernel_rfl) (by kernel_rfl) ⟨trivial, trivial, trivial⟩ (fun _ _ _ h => h) ?_
                      refine VA.va (i := 3) (listed' := LB 8 15) rfl (op_ari64 rfl rfl rfl (ltn rfl)) rfl (by kernel_rfl) (by kernel_rfl) (by kernel_rfl) (by kernel_rfl) ⟨trivial, trivial, trivial⟩ (fun _ _ _ h => h) ?_
                      refine VA.va (i := 4) (listed' := LB 8 31) rfl (op_sliceS ((wrap64 (i1977 + 1)).toNat) a0.size Try.underlying9 rfl ⟨⟨_, _, rfl, c2582, rfl⟩, rfl, by omega, by omega⟩ rfl (ltn rfl)) rfl (by kernel_rfl) (by kernel_rfl) (by kernel_rfl) (by kernel_rfl) ⟨trivial, trivial, trivial⟩ (fun _ _ _ h => h) ?_
                      refine VA.va (i := 5) (listed' := LB 8 63) rfl (op_assign rfl (ltn rfl)) rfl (by kernel_rfl) (by kernel_rfl) (by kernel_rfl) (by kernel_rfl) ⟨trivial, trivial, trivial⟩ (fun _ _ _ h => h) ?_
                      refine VA.va (i := 6) (listed' := LB 8 127) rfl (op_assign rfl (ltn rfl)) rfl (by kernel_rfl) (by kernel_rfl) (by kernel_rfl) (by kernel_rfl) ⟨trivial, trivial, trivial⟩ (fun _ _ _ h => h) ?_
                      refine VA.va (i := 7) (listed' := LB 8 255) rfl (op_assign rfl (ltn rfl)) rfl (by kernel_rfl) (by kernel_rfl) (by kernel_rfl) (by kernel_rfl) ⟨trivial, trivial, trivial⟩ (fun _ _ _ h => h) ?_
                      refine VA.done (by kernel_rfl) ?_
                      exact VN.meet0  [] [] trivial ⟨rfl, ⟨rfl, rfl, rfl, rfl, rfl, rfl, rfl, rfl, rfl, rfl, rfl, rfl, rfl, rfl, rfl, rfl, rfl, rfl, rfl, rfl, rfl, rfl, rfl, rfl, rfl, rfl, rfl, rfl, rfl, rfl, rfl, rfl, rfl, rfl, rfl, rfl, rfl, rfl, rfl, rfl, rfl, rfl, rfl, rfl, rfl, rfl, trivial⟩, trivial, rfl, by decide, rfl, by decide⟩
                    intro _
                    refine VC.ret ?_
                    refine VR.block ?_
                    refine VR.then ?_
                    refine VR.then ?_
                    refine VR.block ?_
                    refine VR.then ?_
                    simp only [Option.some.injEq, Prod.mk.injEq] at h
                    obtain ⟨rfl, rfl, rfl⟩ := h
                    exact VR.fn (rs := [.tmp 2, .tmp 3, .tmp 4]) [] [] [] rfl (.tmp rfl (.tmp rfl (.tmp rfl .nil))) ⟨rfl, rfl, rfl⟩ trivial rfl (by decide)
                  · rw [if_neg c2583] at h; cases h
                · rw [if_neg c2582] at h; cases h
              · rw [if_neg c2581] at h
                obtain rfl := Bool.eq_false_iff.2 c2581
                refine VL.va (op_not rfl rfl (ltn rfl)) rfl ?_
                refine VL.va (op_pick rfl rfl (ltn rfl)) rfl ?_
                refine VL.done ?_
                refine VN.then ?_
                refine VC.cond_t rfl ?_
                refine VC.seq ?_
                refine VC.region ?_
                refine VL.va (op_assign rfl (ltn rfl)) rfl ?_
                refine VL.va (op_assign rfl (ltn rfl)) rfl ?_
                refine VL.va (op_assign rfl (ltn rfl)) rfl ?_
                refine VL.done ?_
                refine VN.then ?_
                refine VC.ret ?_
                refine VR.then ?_
                refine VR.block ?_
                refine VR.then ?_
                refine VR.then ?_
                refine VR.block ?_
                refine VR.then ?_
                simp only [Option.some.injEq, Prod.mk.injEq] at h
                obtain ⟨rfl, rfl, rfl⟩ := h
                exact VR.fn (rs := [.tmp 2, .tmp 3, .tmp 4]) [] [] [] rfl (.tmp rfl (.tmp rfl (.tmp rfl .nil))) ⟨rfl, rfl, rfl⟩ trivial rfl (by decide)
        · rw [if_neg c2437] at h; cases h
      · rw [if_neg c2436] at h; cases h
    · rw [if_neg c2435] at h; cases h
  · rw [if_neg c2285] at h
    obtain rfl : b2279 = false := hb2279.symm.trans (decide_eq_false c2285)
    refine VC.cond_f rfl ?_
    refine VC.exit ?_
    refine VX.then ?_
    refine VX.then ?_
    refine VX.hit ?_
    refine VN.then ?_
    refine VC.seq ?_
    refine VC.seq ?_
    refine VC.region ?_
    refine VL.va (op_move rfl (ltn rfl)) rfl ?_
    refine VL.va (op_lens Try.underlying9 rfl (ltn rfl)) rfl ?_
    refine VL.letter (decide ((a0.size : Int) ≥ 9)) fun b2586 hb2586 => ?_
    refine VL.va (op_cmp rfl rfl (congrArg some hb2586) (ltn rfl)) rfl ?_
    refine VL.done ?_
    refine VN.then ?_
    by_cases c2587 : (a0.size : Int) ≥ 9
    · rw [if_pos c2587] at h
      obtain rfl : b2586 = true := hb2586.symm.trans (decide_eq_true c2587)
      refine VC.cond_t rfl ?_
      refine VC.seq ?_
      refine VC.region ?_
      refine VL.va (op_assign rfl (ltn rfl)) rfl ?_
      refine VL.va (op_assign rfl (ltn rfl)) rfl ?_
      refine VL.va (op_assign rfl (ltn rfl)) rfl ?_
      refine VL.done ?_
      refine VN.then ?_
      refine VC.ret ?_
      refine VR.then ?_
      simp only [Option.some.injEq, Prod.mk.injEq] at h
      obtain ⟨rfl, rfl, rfl⟩ := h
      exact VR.fn (rs := [.tmp 2, .tmp 3, .tmp 4]) [] [] [] rfl (.tmp rfl (.tmp rfl (.tmp rfl .nil))) ⟨rfl, rfl, rfl⟩ trivial rfl (by decide)
    · rw [if_neg c2587] at h
      obtain rfl : b2586 = false := hb2586.symm.trans (decide_eq_false c2587)
      refine VC.cond_f rfl ?_
      refine VC.skip ?_
      refine VN.then ?_
      refine VC.seq ?_
      refine VC.region ?_
      refine VL.va (op_assign rfl (ltn rfl)) rfl ?_
      refine VL.va (op_assign rfl (ltn rfl)) rfl ?_
      refine VL.va (op_assign rfl (ltn rfl)) rfl ?_
      refine VL.done ?_
      refine VN.then ?_
      refine VC.ret ?_
      simp only [Option.some.injEq, Prod.mk.injEq] at h
      obtain ⟨rfl, rfl, rfl⟩ := h
      exact VR.fn (rs := [.tmp 2, .tmp 3, .tmp 4]) [] [] [] rfl (.tmp rfl (.tmp rfl (.tmp rfl .nil))) ⟨rfl, rfl, rfl⟩ trivial rfl (by decide)

end Go.Proofs.Ytaolaicmfjdmhaa.PFrameScans
