/- Written by a program of this repo: what the program's functions do, each as a Lean function, shown of the loaded code; or a statement's row over that; no condition of its own. -/
import Derived.Test.YtaolaicmfjdmhaaPFrameHurtx1
namespace Go.Proofs.Ytaolaicmfjdmhaa.PFrameHurt
open Go Go.RowKit Go.Proofs.YtaolaicmfjdmhaaV
set_option linter.unusedVariables false
set_option linter.unusedSimpArgs false

set_option maxHeartbeats 4000000 in
set_option maxRecDepth 100000 in
theorem pack_ReadNumber.ok (k : Nat) (a0 : ByteArray)  (r1 : Int) (r2 : ByteArray) (r3 : Int) (h : pack_ReadNumber.f k a0 = some (r1, r2, r3)) :
    VCalls Try.prog 28 [.string a0] [] (fun v G own => v = .tuple #[.int .i64 r1, .string r2, .int .i64 r3] ∧ G = [] ∧ own = []) := by
  refine VCalls.intro Try.func28 rfl (len rfl) fun E hC hW hD hU => ?_
  unfold pack_ReadNumber.f at h
  refine VC.seq ?_
  refine VC.region ?_
  refine VL.va (op_assign rfl (ltn rfl)) rfl ?_
  refine VL.va (op_assign rfl (ltn rfl)) rfl ?_
  refine VL.va (op_assign rfl (ltn rfl)) rfl ?_
  refine VL.done ?_
  refine VN.then ?_
  refine VC.seq ?_
  refine VC.region ?_
  refine VL.va (op_assign rfl (ltn rfl)) rfl ?_
  refine VL.done ?_
  refine VN.then ?_
  refine VC.seq ?_
  refine VC.seq ?_
  refine VC.region ?_
  refine VL.va (op_move rfl (ltn rfl)) rfl ?_
  refine VL.va (op_lens Try.underlying9 rfl (ltn rfl)) rfl ?_
  refine VL.va (op_min rfl rfl (ltn rfl)) rfl ?_
  refine VL.va (op_move rfl (ltn rfl)) rfl ?_
  refine VL.done ?_
  refine VN.then ?_
  refine VC.block ?_
  refine VC.loop2 (fun (i2080 : Int) (i2081 : Int) => ⟨56, [(0, .string a0), (2, .int .i64 0), (3, .string (⟨#[]⟩ : ByteArray)), (4, .int .i64 0), (5, .int .i64 i2080), (11, .int .i64 (mn (a0.size : Int) 9)), (12, .int .i64 i2081)], [], [], []⟩) (fun (ml3 : Nat) (i2080 : Int) (i2081 : Int) => pack_ReadNumber.l3 k a0 ml3 i2080 i2081 = some (r1, r2, r3)) k 0 0 [] [] h ⟨rfl, ⟨rfl, rfl, rfl, rfl, rfl, rfl, rfl, trivial⟩, trivial, rfl, by decide, rfl, by decide⟩ (by intros; simp [pack_ReadNumber.l3]) ?_
  clear h
  intro ml3 ihl3 i2080 i2081 h
  simp only [pack_ReadNumber.l3] at h
  refine VC.seq ?_
  refine VC.region ?_
  refine VL.letter (decide (i2081 < (mn (a0.size : Int) 9))) fun b2383 hb2383 => ?_
  refine VL.va (op_cmp rfl rfl (congrArg some hb2383) (ltn rfl)) rfl ?_
  refine VL.done ?_
  refine VN.then ?_
  refine VC.seq ?_
  by_cases c2389 : i2081 < (mn (a0.size : Int) 9)
  · rw [if_pos c2389] at h
    obtain rfl : b2383 = true := hb2383.symm.trans (decide_eq_true c2389)
    refine VC.cond_t rfl ?_
    refine VC.skip ?_
    refine VN.then ?_
    refine VC.seq ?_
    refine VC.block ?_
    refine VC.seq ?_
    refine VC.region ?_
    refine VL.va (op_move rfl (ltn rfl)) rfl ?_
    refine VL.va (op_assign rfl (ltn rfl)) rfl ?_
    refine VL.done ?_
    refine VN.then ?_
    refine VC.seq ?_
    refine VC.region ?_
    refine VL.va (op_move rfl (ltn rfl)) rfl ?_
    refine VL.va (op_move rfl (ltn rfl)) rfl ?_
    by_cases c2539 : 0 ≤ i2081
    · rw [if_pos c2539] at h
      by_cases c2540 : i2081 < (a0.size : Int)
      · rw [if_pos c2540] at h
        refine VL.va (op_indexS Try.underlying9 rfl rfl c2539 c2540 rfl (ltn rfl)) rfl ?_
        refine VL.va (op_conv Try.underlying5 Try.underlying3 rfl (i64w _) (ltn rfl)) rfl ?_
        refine VL.va (op_assign rfl (ltn rfl)) rfl ?_
        refine VL.done ?_
        refine VN.then ?_
        refine VC.seq ?_
        refine VC.region ?_
        refine VL.va (op_move rfl (ltn rfl)) rfl ?_
        refine VL.va (op_move rfl (ltn rfl)) rfl ?_
        refine VL.va (op_rem rfl rfl (by decide) rfl (ltn rfl)) rfl ?_
        refine VL.va (op_move rfl (ltn rfl)) rfl ?_
        refine VL.va (op_ari64 rfl rfl rfl (ltn rfl)) rfl ?_
        by_cases c2541 : 0 ≤ wrap64 (7 * i2081)
        · rw [if_pos c2541] at h
          refine VL.va (op_shl rfl rfl c2541 rfl (ltn rfl)) rfl ?_
          refine VL.va (op_bits rfl rfl rfl (ltn rfl)) rfl ?_
          refine VL.va (op_assign rfl (ltn rfl)) rfl ?_
          refine VL.done ?_
          refine VN.then ?_
          refine VC.seq ?_
          refine VC.seq ?_
          refine VC.region ?_
          refine VL.va (op_move rfl (ltn rfl)) rfl ?_
          refine VL.letter (decide ((wrap64 (bt a0 i2081)) ≥ 128)) fun b2544 hb2544 => ?_
          refine VL.va (op_cmp rfl rfl (congrArg some hb2544) (ltn rfl)) rfl ?_
          refine VL.done ?_
          refine VN.then ?_
          by_cases c2545 : (wrap64 (bt a0 i2081)) ≥ 128
          · rw [if_pos c2545] at h
            obtain rfl : b2544 = true := hb2544.symm.trans (decide_eq_true c2545)
            refine VC.cond_t rfl ?_
            refine VC.exit ?_
            refine VX.then ?_
            refine VX.hit ?_
            refine VN.then ?_
            refine VC.region ?_
            refine VL.va (op_ari64 rfl rfl rfl (ltn rfl)) rfl ?_
            refine VL.va (op_move rfl (ltn rfl)) rfl ?_
            refine VL.done ?_
            refine VN.again [] [] (ihl3 (Go.bits .or .i64 i2080 (IntKind.i64.wrap (((wrap64 (bt a0 i2081)).tmod 128) * 2 ^ min (wrap64 (7 * i2081)).toNat IntKind.i64.bits))) (wrap64 (i2081 + 1)) h) ⟨rfl, ⟨rfl, rfl, rfl, rfl, rfl, rfl, rfl, trivial⟩, trivial, rfl, by decide, rfl, by decide⟩
          · rw [if_neg c2545] at h
            obtain rfl : b2544 = false := hb2544.symm.trans (decide_eq_false c2545)
            refine VC.cond_f rfl ?_
            refine VC.skip ?_
            refine VN.then ?_
            refine VC.seq ?_
            refine VC.region ?_
            refine VL.va (op_move rfl (ltn rfl)) rfl ?_
            refine VL.va (op_quo rfl rfl (by decide) rfl (ltn rfl)) rfl ?_
            refine VL.va (op_assign rfl (ltn rfl)) rfl ?_
            refine VL.done ?_
            refine VN.then ?_
            refine VC.join2 (fun (i2642 : Int) (q2643 : Bool) => ⟨56, [(0, .string a0), (2, .int .i64 0), (3, .string (⟨#[]⟩ : ByteArray)), (4, .int .i64 0), (5, .int .i64 (Go.bits .or .i64 i2080 (IntKind.i64.wrap (((wrap64 (bt a0 i2081)).tmod 128) * 2 ^ min (wrap64 (7 * i2081)).toNat IntKind.i64.bits)))), (6, .int .i64 i2081), (7, .int .i64 (wrap64 (bt a0 i2081))), (8, .int .i64 i2642), (11, .int .i64 (mn (a0.size : Int) 9)), (12, .int .i64 i2081), (13, .bool true), (14, .int .i64 i2081), (15, .string a0), (16, .int .i64 i2081), (17, .int .u8 (bt a0 i2081)), (18, .int .i64 (wrap64 (bt a0 i2081))), (19, .int .i64 i2080), (20, .int .i64 (wrap64 (bt a0 i2081))), (21, .int .i64 ((wrap64 (bt a0 i2081)).tmod 128)), (22, .int .i64 i2081), (23, .int .i64 (wrap64 (7 * i2081))), (24, .int .i64 (IntKind.i64.wrap (((wrap64 (bt a0 i2081)).tmod 128) * 2 ^ min (wrap64 (7 * i2081)).toNat IntKind.i64.bits))), (25, .int .i64 (Go.bits .or .i64 i2080 (IntKind.i64.wrap (((wrap64 (bt a0 i2081)).tmod 128) * 2 ^ min (wrap64 (7 * i2081)).toNat IntKind.i64.bits)))), (26, .int .i64 (wrap64 (bt a0 i2081))), (27, .bool false), (28, .int .i64 (Go.bits .or .i64 i2080 (IntKind.i64.wrap (((wrap64 (bt a0 i2081)).tmod 128) * 2 ^ min (wrap64 (7 * i2081)).toNat IntKind.i64.bits)))), (29, .int .i64 (IntKind.i64.wrap ((Go.bits .or .i64 i2080 (IntKind.i64.wrap (((wrap64 (bt a0 i2081)).tmod 128) * 2 ^ min (wrap64 (7 * i2081)).toNat IntKind.i64.bits))).tdiv 2))), (30, .int .i64 (Go.bits .or .i64 i2080 (IntKind.i64.wrap (((wrap64 (bt a0 i2081)).tmod 128) * 2 ^ min (wrap64 (7 * i2081)).toNat IntKind.i64.bits)))), (31, .int .i64 ((Go.bits .or .i64 i2080 (IntKind.i64.wrap (((wrap64 (bt a0 i2081)).tmod 128) * 2 ^ min (wrap64 (7 * i2081)).toNat IntKind.i64.bits))).tmod 2)), (32, .bool q2643)], [], [], []⟩) (fun (i2642 : Int) (q2643 : Bool) => pack_ReadNumber.j5 k a0 i2081 i2642 q2643 = some (r1, r2, r3)) ?_ ?_
            · refine VC.seq ?_
              refine VC.region ?_
              refine VL.va (op_move rfl (ltn rfl)) rfl ?_
              refine VL.va (op_rem rfl rfl (by decide) rfl (ltn rfl)) rfl ?_
              refine VL.letter ((((Go.bits .or .i64 i2080 (IntKind.i64.wrap (((wrap64 (bt a0 i2081)).tmod 128) * 2 ^ min (wrap64 (7 * i2081)).toNat IntKind.i64.bits))).tmod 2) == 1)) fun b2640 hb2640 => ?_
              refine VL.va (op_cmp rfl rfl (congrArg some hb2640) (ltn rfl)) rfl ?_
              refine VL.done ?_
              refine VN.then ?_
              by_cases c2641 : ((Go.bits .or .i64 i2080 (IntKind.i64.wrap (((wrap64 (bt a0 i2081)).tmod 128) * 2 ^ min (wrap64 (7 * i2081)).toNat IntKind.i64.bits))).tmod 2) = 1
              · rw [if_pos c2641] at h
                obtain rfl : b2640 = true := hb2640.symm.trans (beq_iff_eq.2 c2641)
                refine VC.cond_t rfl ?_
                refine VC.region ?_
                refine VL.va (op_move rfl (ltn rfl)) rfl ?_
                refine VL.va (op_neg rfl (i64w _) (ltn rfl)) rfl ?_
                refine VL.va (op_ari64 rfl rfl rfl (ltn rfl)) rfl ?_
                refine VL.va (op_assign rfl (ltn rfl)) rfl ?_
                refine VL.done ?_
                refine VN.meet2 (wrap64 ((wrap64 (0 - (IntKind.i64.wrap ((Go.bits .or .i64 i2080 (IntKind.i64.wrap (((wrap64 (bt a0 i2081)).tmod 128) * 2 ^ min (wrap64 (7 * i2081)).toNat IntKind.i64.bits))).tdiv 2)))) - 1)) true [] [] h ⟨rfl, ⟨rfl, rfl, rfl, rfl, rfl, rfl, rfl, rfl, rfl, rfl, rfl, rfl, rfl, rfl, rfl, rfl, rfl, rfl, rfl, rfl, rfl, rfl, rfl, rfl, rfl, rfl, rfl, rfl, rfl, rfl, trivial⟩, trivial, rfl, by decide, rfl, by decide⟩
              · rw [if_neg c2641] at h
                obtain rfl : b2640 = false := hb2640.symm.trans (beq_eq_false_iff_ne.2 c2641)
                refine VC.cond_f rfl ?_
                refine VC.skip ?_
                refine VN.meet2 (IntKind.i64.wrap ((Go.bits .or .i64 i2080 (IntKind.i64.wrap (((wrap64 (bt a0 i2081)).tmod 128) * 2 ^ min (wrap64 (7 * i2081)).toNat IntKind.i64.bits))).tdiv 2)) false [] [] h ⟨rfl, ⟨rfl, rfl, rfl, rfl, rfl, rfl, rfl, rfl, rfl, rfl, rfl, rfl, rfl, rfl, rfl, rfl, rfl, rfl, rfl, rfl, rfl, rfl, rfl, rfl, rfl, rfl, rfl, rfl, rfl, rfl, trivial⟩, trivial, rfl, by decide, rfl, by decide⟩
            clear h
            intro i2642 q2643 h
            unfold pack_ReadNumber.j5 at h
            refine VC.seq ?_
            refine VC.seq ?_
            refine VC.region ?_
            refine VL.va (op_move rfl (ltn rfl)) rfl ?_
            refine VL.letter (((wrap64 (bt a0 i2081)) == 0)) fun b2674 hb2674 => ?_
            refine VL.va (op_cmp rfl rfl (congrArg some hb2674) (ltn rfl)) rfl ?_
            refine VL.va (op_move rfl (ltn rfl)) rfl ?_
            by_cases c2675 : (wrap64 (bt a0 i2081)) = 0
            · rw [if_pos c2675] at h
              obtain rfl : b2674 = true := hb2674.symm.trans (beq_iff_eq.2 c2675)
              refine VL.va (op_move rfl (ltn rfl)) rfl ?_
              refine VL.letter (decide (i2081 > 0)) fun b2676 hb2676 => ?_
              refine VL.va (op_cmp rfl rfl (congrArg some hb2676) (ltn rfl)) rfl ?_
              refine VL.va (op_pick rfl rfl (ltn rfl)) rfl ?_
              refine VL.va (op_move rfl (ltn rfl)) rfl ?_
              by_cases c2677 : i2081 > 0
              · rw [if_pos c2677] at h
                obtain rfl : b2676 = true := hb2676.symm.trans (decide_eq_true c2677)
                refine VL.un rfl rfl (ltn rfl) ?_
                refine VL.un rfl rfl (ltn rfl) ?_
                refine VL.un rfl rfl (ltn rfl) ?_
                refine VL.va (op_pick rfl rfl (ltn rfl)) rfl ?_
                refine VL.done ?_
                refine VN.then ?_
                refine VC.cond_t rfl ?_
                refine VC.seq ?_
                refine VC.region ?_
                refine VL.va (op_assign rfl (ltn rfl)) rfl ?_
                refine VL.va (op_assign rfl (ltn rfl)) rfl ?_
                refine VL.va (op_assign rfl (ltn rfl)) rfl ?_
                refine VL.done ?_
                refine VN.then ?_
                refine VC.ret ?_
                refine VR.then ?_
                refine VR.block ?_
                refine VR.then ?_
                refine VR.then ?_
                refine VR.block ?_
                refine VR.then ?_
                simp only [Option.some.injEq, Prod.mk.injEq] at h
                obtain ⟨rfl, rfl, rfl⟩ := h
                exact VR.fn (rs := [.tmp 2, .tmp 3, .tmp 4]) [] [] [] rfl (.tmp rfl (.tmp rfl (.tmp rfl .nil))) ⟨rfl, rfl, rfl⟩ trivial rfl (by decide)
              · rw [if_neg c2677] at h
                obtain rfl : b2676 = false := hb2676.symm.trans (decide_eq_false c2677)
                refine VL.va (op_move rfl (ltn rfl)) rfl ?_
                replace h := Option.bind_eq_some_iff.1 h
                obtain ⟨t2678, hA2679, h⟩ := h
                refine VL.sC (o_call0 FO25 (pack_may.ok i2642 t2678 hA2679) rfl rfl (ltn rfl) (All_of .nil)) rfl ?_
                rintro _ _ _ ⟨rfl, rfl, rfl⟩
                by_cases c2680 : t2678 = true
                · rw [if_pos c2680] at h
                  obtain rfl := c2680
                  refine VL.va (op_not rfl rfl (ltn rfl)) rfl ?_
                  refine VL.va (op_pick rfl rfl (ltn rfl)) rfl ?_
                  refine VL.done ?_
                  refine VN.then ?_
                  refine VC.cond_f rfl ?_
                  refine VC.skip ?_
                  refine VN.then ?_
                  by_cases c2681 : 0 ≤ wrap64 (i2081 + 1)
                  · rw [if_pos c2681] at h
                    by_cases c2682 : (wrap64 (i2081 + 1)) ≤ (a0.size : Int)
                    · rw [if_pos c2682] at h
                      refine VC.join0 (⟨56, [(0, .string a0), (2, .int .i64 i2642), (3, .string (a0.extract ((wrap64 (i2081 + 1)).toNat) a0.size)), (4, .int .i64 0), (5, .int .i64 (Go.bits .or .i64 i2080 (IntKind.i64.wrap (((wrap64 (bt a0 i2081)).tmod 128) * 2 ^ min (wrap64 (7 * i2081)).toNat IntKind.i64.bits)))), (6, .int .i64 i2081), (7, .int .i64 (wrap64 (bt a0 i2081))), (8, .int .i64 i2642), (11, .int .i64 (mn (a0.size : Int) 9)), (12, .int .i64 i2081), (13, .bool true), (14, .int .i64 i2081), (15, .string a0), (16, .int .i64 i2081), (17, .int .u8 (bt a0 i2081)), (18, .int .i64 (wrap64 (bt a0 i2081))), (19, .int .i64 i2080), (20, .int .i64 (wrap64 (bt a0 i2081))), (21, .int .i64 ((wrap64 (bt a0 i2081)).tmod 128)), (22, .int .i64 i2081), (23, .int .i64 (wrap64 (7 * i2081))), (24, .int .i64 (IntKind.i64.wrap (((wrap64 (bt a0 i2081)).tmod 128) * 2 ^ min (wrap64 (7 * i2081)).toNat IntKind.i64.bits))), (25, .int .i64 (Go.bits .or .i64 i2080 (IntKind.i64.wrap (((wrap64 (bt a0 i2081)).tmod 128) * 2 ^ min (wrap64 (7 * i2081)).toNat IntKind.i64.bits)))), (26, .int .i64 (wrap64 (bt a0 i2081))), (27, .bool false), (28, .int .i64 (Go.bits .or .i64 i2080 (IntKind.i64.wrap (((wrap64 (bt a0 i2081)).tmod 128) * 2 ^ min (wrap64 (7 * i2081)).toNat IntKind.i64.bits)))), (29, .int .i64 (IntKind.i64.wrap ((Go.bits .or .i64 i2080 (IntKind.i64.wrap (((wrap64 (bt a0 i2081)).tmod 128) * 2 ^ min (wrap64 (7 * i2081)).toNat IntKind.i64.bits))).tdiv 2))), (30, .int .i64 (Go.bits .or .i64 i2080 (IntKind.i64.wrap (((wrap64 (bt a0 i2081)).tmod 128) * 2 ^ min (wrap64 (7 * i2081)).toNat IntKind.i64.bits)))), (31, .int .i64 ((Go.bits .or .i64 i2080 (IntKind.i64.wrap (((wrap64 (bt a0 i2081)).tmod 128) * 2 ^ min (wrap64 (7 * i2081)).toNat IntKind.i64.bits))).tmod 2)), (32, .bool q2643), (36, .int .i64 (wrap64 (bt a0 i2081))), (37, .bool true), (38, .bool true), (39, .int .i64 i2081), (40, .bool false), (41, .bool false), (42, .bool false), (43, .int .i64 i2642), (44, .bool true), (45, .bool false), (46, .bool false), (47, .int .i64 i2642), (48, .string a0), (49, .int .i64 i2081), (50, .int .i64 (wrap64 (i2081 + 1))), (51, .string (a0.extract ((wrap64 (i2081 + 1)).toNat) a0.size))], [], [], []⟩) (True) ?_ ?_
                      · refine VC.draw ⟨0, [], [], [], []⟩ (by kernel_rfl) rfl (by kernel_rfl) (n := 8) (listed := LB 8 0) ?_
                        refine VA.va (i := 0) (listed' := LB 8 1) rfl (op_move rfl (ltn rfl)) rfl (by kernel_rfl) (by kernel_rfl) (by kernel_rfl) (by kernel_rfl) ⟨trivial, trivial, trivial⟩ (fun _ _ _ h => h) ?_
                        refine VA.va (i := 1) (listed' := LB 8 3) rfl (op_move rfl (ltn rfl)) rfl (by kernel_rfl) (by kernel_rfl) (by kernel_rfl) (by kernel_rfl) ⟨trivial, trivial, trivial⟩ (fun _ _ _ h => h) ?_
                        refine VA.va (i := 2) (listed' := LB 8 7) rfl (op_move rfl (ltn rfl)) rfl (by kernel_rfl) (by kernel_rfl) (by kernel_rfl) (by kernel_rfl) ⟨trivial, trivial, trivial⟩ (fun _ _ _ h => h) ?_
                        refine VA.va (i := 3) (listed' := LB 8 15) rfl (op_ari64 rfl rfl rfl (ltn rfl)) rfl (by kernel_rfl) (by kernel_rfl) (by kernel_rfl) (by kernel_rfl) ⟨trivial, trivial, trivial⟩ (fun _ _ _ h => h) ?_
                        refine VA.va (i := 4) (listed' := LB 8 31) rfl (op_sliceS ((wrap64 (i2081 + 1)).toNat) a0.size Try.underlying9 rfl ⟨⟨_, _, rfl, c2681, rfl⟩, rfl, by omega, by omega⟩ rfl (ltn rfl)) rfl (by kernel_rfl) (by kernel_rfl) (by kernel_rfl) (by kernel_rfl) ⟨trivial, trivial, trivial⟩ (fun _ _ _ h => h) ?_
                        refine VA.va (i := 5) (listed' := LB 8 63) rfl (op_assign rfl (ltn rfl)) rfl (by kernel_rfl) (by kernel_rfl) (by kernel_rfl) (by kernel_rfl) ⟨trivial, trivial, trivial⟩ (fun _ _ _ h => h) ?_
                        refine VA.va (i := 6) (listed' := LB 8 127) rfl (op_assign rfl (ltn rfl)) rfl (by kernel_rfl) (by kernel_rfl) (by kernel_rfl) (by kernel_rfl) ⟨trivial, trivial, trivial⟩ (fun _ _ _ h => h) ?_
                        refine VA.va (i := 7) (listed' := LB 8 255) rfl (op_assign rfl (ltn rfl)) rfl (by kernel_rfl) (by kernel_rfl) (by kernel_rfl) (by kernel_rfl) ⟨trivial, trivial, trivial⟩ (fun _ _ _ h => h) ?_
                        refine VA.done (by kernel_rfl) ?_
                        exact VN.meet0  [] [] trivial ⟨rfl, ⟨rfl, rfl, rfl, rfl, rfl, rfl, rfl, rfl, rfl, rfl, rfl, rfl, rfl, rfl, rfl, rfl, rfl, rfl, rfl, rfl, rfl, rfl, rfl, rfl, rfl, rfl, rfl, rfl, rfl, rfl, rfl, rfl, rfl, rfl, rfl, rfl, rfl, rfl, rfl, rfl, rfl, rfl, rfl, rfl, rfl, rfl, trivial⟩, trivial, rfl, by decide, rfl, by decide⟩
                      intro _
                      refine VC.ret ?_
                      refine VR.block ?_
                      refine VR.then ?_
                      refine VR.then ?_
                      refine VR.block ?_
                      refine VR.then ?_
                      simp only [Option.some.injEq, Prod.mk.injEq] at h
                      obtain ⟨rfl, rfl, rfl⟩ := h
                      exact VR.fn (rs := [.tmp 2, .tmp 3, .tmp 4]) [] [] [] rfl (.tmp rfl (.tmp rfl (.tmp rfl .nil))) ⟨rfl, rfl, rfl⟩ trivial rfl (by decide)
                    · rw [if_neg c2682] at h; cases h
                  · rw [if_neg c2681] at h; cases h
                · rw [if_neg c2680] at h
                  obtain rfl := Bool.eq_false_iff.2 c2680
                  refine VL.va (op_not rfl rfl (ltn rfl)) rfl ?_
                  refine VL.va (op_pick rfl rfl (ltn rfl)) rfl ?_
                  refine VL.done ?_
                  refine VN.then ?_
                  refine VC.cond_t rfl ?_
                  refine VC.seq ?_
                  refine VC.region ?_
                  refine VL.va (op_assign rfl (ltn rfl)) rfl ?_
                  refine VL.va (op_assign rfl (ltn rfl)) rfl ?_
                  refine VL.va (op_assign rfl (ltn rfl)) rfl ?_
                  refine VL.done ?_
                  refine VN.then ?_
                  refine VC.ret ?_
                  refine VR.then ?_
                  refine VR.block ?_
                  refine VR.then ?_
                  refine VR.then ?_
                  refine VR.block ?_
                  refine VR.then ?_
                  simp only [Option.some.injEq, Prod.mk.injEq] at h
                  obtain ⟨rfl, rfl, rfl⟩ := h
                  exact VR.fn (rs := [.tmp 2, .tmp 3, .tmp 4]) [] [] [] rfl (.tmp rfl (.tmp rfl (.tmp rfl .nil))) ⟨rfl, rfl, rfl⟩ trivial rfl (by decide)
            · rw [if_neg c2675] at h
              obtain rfl : b2674 = false := hb2674.symm.trans (beq_eq_false_iff_ne.2 c2675)
              refine VL.un rfl rfl (ltn rfl) ?_
              refine VL.un rfl rfl (ltn rfl) ?_
              refine VL.va (op_pick rfl rfl (ltn rfl)) rfl ?_
              refine VL.va (op_move rfl (ltn rfl)) rfl ?_
              refine VL.va (op_move rfl (ltn rfl)) rfl ?_
              replace h := Option.bind_eq_some_iff.1 h
              obtain ⟨t2683, hA2684, h⟩ := h
              refine VL.sC (o_call0 FO25 (pack_may.ok i2642 t2683 hA2684) rfl rfl (ltn rfl) (All_of .nil)) rfl ?_
              rintro _ _ _ ⟨rfl, rfl, rfl⟩
              by_cases c2685 : t2683 = true
              · rw [if_pos c2685] at h
                obtain rfl := c2685
                refine VL.va (op_not rfl rfl (ltn rfl)) rfl ?_
                refine VL.va (op_pick rfl rfl (ltn rfl)) rfl ?_
                refine VL.done ?_
                refine VN.then ?_
                refine VC.cond_f rfl ?_
                refine VC.skip ?_
                refine VN.then ?_
                by_cases c2686 : 0 ≤ wrap64 (i2081 + 1)
                · rw [if_pos c2686] at h
                  by_cases c2687 : (wrap64 (i2081 + 1)) ≤ (a0.size : Int)
                  · rw [if_pos c2687] at h
                    refine VC.join0 (⟨56, [(0, .string a0), (2, .int .i64 i2642), (3, .string (a0.extract ((wrap64 (i2081 + 1)).toNat) a0.size)), (4, .int .i64 0), (5, .int .i64 (Go.bits .or .i64 i2080 (IntKind.i64.wrap (((wrap64 (bt a0 i2081)).tmod 128) * 2 ^ min (wrap64 (7 * i2081)).toNat IntKind.i64.bits)))), (6, .int .i64 i2081), (7, .int .i64 (wrap64 (bt a0 i2081))), (8, .int .i64 i2642), (11, .int .i64 (mn (a0.size : Int) 9)), (12, .int .i64 i2081), (13, .bool true), (14, .int .i64 i2081), (15, .string a0), (16, .int .i64 i2081), (17, .int .u8 (bt a0 i2081)), (18, .int .i64 (wrap64 (bt a0 i2081))), (19, .int .i64 i2080), (20, .int .i64 (wrap64 (bt a0 i2081))), (21, .int .i64 ((wrap64 (bt a0 i2081)).tmod 128)), (22, .int .i64 i2081), (23, .int .i64 (wrap64 (7 * i2081))), (24, .int .i64 (IntKind.i64.wrap (((wrap64 (bt a0 i2081)).tmod 128) * 2 ^ min (wrap64 (7 * i2081)).toNat IntKind.i64.bits))), (25, .int .i64 (Go.bits .or .i64 i2080 (IntKind.i64.wrap (((wrap64 (bt a0 i2081)).tmod 128) * 2 ^ min (wrap64 (7 * i2081)).toNat IntKind.i64.bits)))), (26, .int .i64 (wrap64 (bt a0 i2081))), (27, .bool false), (28, .int .i64 (Go.bits .or .i64 i2080 (IntKind.i64.wrap (((wrap64 (bt a0 i2081)).tmod 128) * 2 ^ min (wrap64 (7 * i2081)).toNat IntKind.i64.bits)))), (29, .int .i64 (IntKind.i64.wrap ((Go.bits .or .i64 i2080 (IntKind.i64.wrap (((wrap64 (bt a0 i2081)).tmod 128) * 2 ^ min (wrap64 (7 * i2081)).toNat IntKind.i64.bits))).tdiv 2))), (30, .int .i64 (Go.bits .or .i64 i2080 (IntKind.i64.wrap (((wrap64 (bt a0 i2081)).tmod 128) * 2 ^ min (wrap64 (7 * i2081)).toNat IntKind.i64.bits)))), (31, .int .i64 ((Go.bits .or .i64 i2080 (IntKind.i64.wrap (((wrap64 (bt a0 i2081)).tmod 128) * 2 ^ min (wrap64 (7 * i2081)).toNat IntKind.i64.bits))).tmod 2)), (32, .bool q2643), (36, .int .i64 (wrap64 (bt a0 i2081))), (37, .bool false), (38, .bool false), (39, undef), (40, undef), (41, .bool false), (42, .bool false), (43, .int .i64 i2642), (44, .bool true), (45, .bool false), (46, .bool false), (47, .int .i64 i2642), (48, .string a0), (49, .int .i64 i2081), (50, .int .i64 (wrap64 (i2081 + 1))), (51, .string (a0.extract ((wrap64 (i2081 + 1)).toNat) a0.size))], [], [], []⟩) (True) ?_ ?_
                    · refine VC.draw ⟨0, [], [], [], []⟩ (by kernel_rfl) rfl (by kernel_rfl) (n := 8) (listed := LB 8 0) ?_
                      refine VA.va (i := 0) (listed' := LB 8 1) rfl (op_move rfl (ltn rfl)) rfl (by kernel_rfl) (by kernel_rfl) (by kernel_rfl) (by kernel_rfl) ⟨trivial, trivial, trivial⟩ (fun _ _ _ h => h) ?_
                      refine VA.va (i := 1) (listed' := LB 8 3) rfl (op_move rfl (ltn rfl)) rfl (by kernel_rfl) (by kernel_rfl) (by kernel_rfl) (by kernel_rfl) ⟨trivial, trivial, trivial⟩ (fun _ _ _ h => h) ?_
                      refine VA.va (i := 2) (listed' := LB 8 7) rfl (op_move rfl (ltn rfl)) rfl (by kernel_rfl) (by kernel_rfl) (by kernel_rfl) (by kernel_rfl) ⟨trivial, trivial, trivial⟩ (fun _ _ _ h => h) ?_
                      refine VA.va (i := 3) (listed' := LB 8 15) rfl (op_ari64 rfl rfl rfl (ltn rfl)) rfl (by kernel_rfl) (by kernel_rfl) (by kernel_rfl) (by kernel_rfl) ⟨trivial, trivial, trivial⟩ (fun _ _ _ h => h) ?_
                      refine VA.va (i := 4) (listed' := LB 8 31) rfl (op_sliceS ((wrap64 (i2081 + 1)).toNat) a0.size Try.underlying9 rfl ⟨⟨_, _, rfl, c2686, rfl⟩, rfl, by omega, by omega⟩ rfl (ltn rfl)) rfl (by kernel_rfl) (by kernel_rfl) (by kernel_rfl) (by kernel_rfl) ⟨trivial, trivial, trivial⟩ (fun _ _ _ h => h) ?_
                      refine VA.va (i := 5) (listed' := LB 8 63) rfl (op_assign rfl (ltn rfl)) rfl (by kernel_rfl) (by kernel_rfl) (by kernel_rfl) (by kernel_rfl) ⟨trivial, trivial, trivial⟩ (fun _ _ _ h => h) ?_
                      refine VA.va (i := 6) (listed' := LB 8 127) rfl (op_assign rfl (ltn rfl)) rfl (by kernel_rfl) (by kernel_rfl) (by kernel_rfl) (by kernel_rfl) ⟨trivial, trivial, trivial⟩ (fun _ _ _ h => h) ?_
                      refine VA.va (i := 7) (listed' := LB 8 255) rfl (op_assign rfl (ltn rfl)) rfl (by kernel_rfl) (by kernel_rfl) (by kernel_rfl) (by kernel_rfl) ⟨trivial, trivial, trivial⟩ (fun _ _ _ h => h) ?_
                      refine VA.done (by kernel_rfl) ?_
                      exact VN.meet0  [] [] trivial ⟨rfl, ⟨rfl, rfl, rfl, rfl, rfl, rfl, rfl, rfl, rfl, rfl, rfl, rfl, rfl, rfl, rfl, rfl, rfl, rfl, rfl, rfl, rfl, rfl, rfl, rfl, rfl, rfl, rfl, rfl, rfl, rfl, rfl, rfl, rfl, rfl, rfl, rfl, rfl, rfl, rfl, rfl, rfl, rfl, rfl, rfl, rfl, rfl, trivial⟩, trivial, rfl, by decide, rfl, by decide⟩
                    intro _
                    refine VC.ret ?_
                    refine VR.block ?_
                    refine VR.then ?_
                    refine VR.then ?_
                    refine VR.block ?_
                    refine VR.then ?_
                    simp only [Option.some.injEq, Prod.mk.injEq] at h
                    obtain ⟨rfl, rfl, rfl⟩ := h
                    exact VR.fn (rs := [.tmp 2, .tmp 3, .tmp 4]) [] [] [] rfl (.tmp rfl (.tmp rfl (.tmp rfl .nil))) ⟨rfl, rfl, rfl⟩ trivial rfl (by decide)
                  · rw [if_neg c2687] at h; cases h
                · rw [if_neg c2686] at h; cases h
              · rw [if_neg c2685] at h
                obtain rfl := Bool.eq_false_iff.2 c2685
                refine VL.va (op_not rfl rfl (ltn rfl)) rfl ?_
                refine VL.va (op_pick rfl rfl (ltn rfl)) rfl ?_
                refine VL.done ?_
                refine VN.then ?_
                refine VC.cond_t rfl ?_
                refine VC.seq ?_
                refine VC.region ?_
                refine VL.va (op_assign rfl (ltn rfl)) rfl ?_
                refine VL.va (op_assign rfl (ltn rfl)) rfl ?_
                refine VL.va (op_assign rfl (ltn rfl)) rfl ?_
                refine VL.done ?_
                refine VN.then ?_
                refine VC.ret ?_
                refine VR.then ?_
                refine VR.block ?_
                refine VR.then ?_
                refine VR.then ?_
                refine VR.block ?_
                refine VR.then ?_
                simp only [Option.some.injEq, Prod.mk.injEq] at h
                obtain ⟨rfl, rfl, rfl⟩ := h
                exact VR.fn (rs := [.tmp 2, .tmp 3, .tmp 4]) [] [] [] rfl (.tmp rfl (.tmp rfl (.tmp rfl .nil))) ⟨rfl, rfl, rfl⟩ trivial rfl (by decide)
        · rw [if_neg c2541] at h; cases h
      · rw [if_neg c2540] at h; cases h
    · rw [if_neg c2539] at h; cases h
  · rw [if_neg c2389] at h
    obtain rfl : b2383 = false := hb2383.symm.trans (decide_eq_false c2389)
    refine VC.cond_f rfl ?_
    refine VC.exit ?_
    refine VX.then ?_
    refine VX.then ?_
    refine VX.hit ?_
    refine VN.then ?_
    refine VC.seq ?_
    refine VC.seq ?_
    refine VC.region ?_
    refine VL.va (op_move rfl (ltn rfl)) rfl ?_
    refine VL.va (op_lens Try.underlying9 rfl (ltn rfl)) rfl ?_
    refine VL.letter (decide ((a0.size : Int) ≥ 9)) fun b2690 hb2690 => ?_
    refine VL.va (op_cmp rfl rfl (congrArg some hb2690) (ltn rfl)) rfl ?_
    refine VL.done ?_
    refine VN.then ?_
    by_cases c2691 : (a0.size : Int) ≥ 9
    · rw [if_pos c2691] at h
      obtain rfl : b2690 = true := hb2690.symm.trans (decide_eq_true c2691)
      refine VC.cond_t rfl ?_
      refine VC.seq ?_
      refine VC.region ?_
      refine VL.va (op_assign rfl (ltn rfl)) rfl ?_
      refine VL.va (op_assign rfl (ltn rfl)) rfl ?_
      refine VL.va (op_assign rfl (ltn rfl)) rfl ?_
      refine VL.done ?_
      refine VN.then ?_
      refine VC.ret ?_
      refine VR.then ?_
      simp only [Option.some.injEq, Prod.mk.injEq] at h
      obtain ⟨rfl, rfl, rfl⟩ := h
      exact VR.fn (rs := [.tmp 2, .tmp 3, .tmp 4]) [] [] [] rfl (.tmp rfl (.tmp rfl (.tmp rfl .nil))) ⟨rfl, rfl, rfl⟩ trivial rfl (by decide)
    · rw [if_neg c2691] at h
      obtain rfl : b2690 = false := hb2690.symm.trans (decide_eq_false c2691)
      refine VC.cond_f rfl ?_
      refine VC.skip ?_
      refine VN.then ?_
      refine VC.seq ?_
      refine VC.region ?_
      refine VL.va (op_assign rfl (ltn rfl)) rfl ?_
      refine VL.va (op_assign rfl (ltn rfl)) rfl ?_
      refine VL.va (op_assign rfl (ltn rfl)) rfl ?_
      refine VL.done ?_
      refine VN.then ?_
      refine VC.ret ?_
      simp only [Option.some.injEq, Prod.mk.injEq] at h
      obtain ⟨rfl, rfl, rfl⟩ := h
      exact VR.fn (rs := [.tmp 2, .tmp 3, .tmp 4]) [] [] [] rfl (.tmp rfl (.tmp rfl (.tmp rfl .nil))) ⟨rfl, rfl, rfl⟩ trivial rfl (by decide)

end Go.Proofs.Ytaolaicmfjdmhaa.PFrameHurt
