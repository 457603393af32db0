/- Written by a program of this repo: what the program's functions do, each as a Lean function, shown of the loaded code; or a statement's row over that; no condition of its own. -/
import Derived.Test.YtaolaicmfjdmhaaPFrameBackx1
namespace Go.Proofs.Ytaolaicmfjdmhaa.PFrameBack
open Go Go.RowKit Go.Proofs.YtaolaicmfjdmhaaV
set_option linter.unusedVariables false
set_option linter.unusedSimpArgs false

set_option maxHeartbeats 4000000 in
set_option maxRecDepth 100000 in
theorem pack_ReadNumber.ok (k : Nat) (a0 : ByteArray)  (r1 : Int) (r2 : ByteArray) (r3 : Int) (h : pack_ReadNumber.f k a0 = some (r1, r2, r3)) :
    VCalls Try.prog 28 [.string a0] [] (fun v G own => v = .tuple #[.int .i64 r1, .string r2, .int .i64 r3] ∧ G = [] ∧ own = []) := by
  refine VCalls.intro Try.func28 rfl (len rfl) fun E hC hW hD => ?_
  unfold pack_ReadNumber.f at h
  refine VC.seq ?_
  refine VC.region ?_
  refine VL.va (op_assign rfl (ltn rfl)) rfl ?_
  refine VL.va (op_assign rfl (ltn rfl)) rfl ?_
  refine VL.va (op_assign rfl (ltn rfl)) rfl ?_
  refine VL.done ?_
  refine VN.then ?_
  refine VC.seq ?_
  refine VC.region ?_
  refine VL.va (op_assign rfl (ltn rfl)) rfl ?_
  refine VL.done ?_
  refine VN.then ?_
  refine VC.seq ?_
  refine VC.seq ?_
  refine VC.region ?_
  refine VL.va (op_move rfl (ltn rfl)) rfl ?_
  refine VL.va (op_lens Try.underlying9 rfl (ltn rfl)) rfl ?_
  refine VL.va (op_min rfl rfl (ltn rfl)) rfl ?_
  refine VL.va (op_move rfl (ltn rfl)) rfl ?_
  refine VL.done ?_
  refine VN.then ?_
  refine VC.block ?_
  refine VC.loop2 (fun (i2215 : Int) (i2216 : Int) => ⟨56, [(0, .string a0), (2, .int .i64 0), (3, .string (⟨#[]⟩ : ByteArray)), (4, .int .i64 0), (5, .int .i64 i2215), (11, .int .i64 (mn (a0.size : Int) 9)), (12, .int .i64 i2216)], [], [], []⟩) (fun (ml3 : Nat) (i2215 : Int) (i2216 : Int) => pack_ReadNumber.l3 k a0 ml3 i2215 i2216 = some (r1, r2, r3)) k 0 0 [] [] h ⟨rfl, ⟨rfl, rfl, rfl, rfl, rfl, rfl, rfl, trivial⟩, trivial, rfl, by decide, rfl, by decide⟩ (by intros; simp [pack_ReadNumber.l3]) ?_
  clear h
  intro ml3 ihl3 i2215 i2216 h
  simp only [pack_ReadNumber.l3] at h
  refine VC.seq ?_
  refine VC.region ?_
  refine VL.letter (decide (i2216 < (mn (a0.size : Int) 9))) fun b2518 hb2518 => ?_
  refine VL.va (op_cmp rfl rfl (congrArg some hb2518) (ltn rfl)) rfl ?_
  refine VL.done ?_
  refine VN.then ?_
  refine VC.seq ?_
  by_cases c2524 : i2216 < (mn (a0.size : Int) 9)
  · rw [if_pos c2524] at h
    obtain rfl : b2518 = true := hb2518.symm.trans (decide_eq_true c2524)
    refine VC.cond_t rfl ?_
    refine VC.skip ?_
    refine VN.then ?_
    refine VC.seq ?_
    refine VC.block ?_
    refine VC.seq ?_
    refine VC.region ?_
    refine VL.va (op_move rfl (ltn rfl)) rfl ?_
    refine VL.va (op_assign rfl (ltn rfl)) rfl ?_
    refine VL.done ?_
    refine VN.then ?_
    refine VC.seq ?_
    refine VC.region ?_
    refine VL.va (op_move rfl (ltn rfl)) rfl ?_
    refine VL.va (op_move rfl (ltn rfl)) rfl ?_
    by_cases c2674 : 0 ≤ i2216
    · rw [if_pos c2674] at h
      by_cases c2675 : i2216 < (a0.size : Int)
      · rw [if_pos c2675] at h
        refine VL.va (op_indexS Try.underlying9 rfl rfl c2674 c2675 rfl (ltn rfl)) rfl ?_
        refine VL.va (op_conv Try.underlying5 Try.underlying3 rfl (i64w _) (ltn rfl)) rfl ?_
        refine VL.va (op_assign rfl (ltn rfl)) rfl ?_
        refine VL.done ?_
        refine VN.then ?_
        refine VC.seq ?_
        refine VC.region ?_
        refine VL.va (op_move rfl (ltn rfl)) rfl ?_
        refine VL.va (op_move rfl (ltn rfl)) rfl ?_
        refine VL.va (op_rem rfl rfl (by decide) rfl (ltn rfl)) rfl ?_
        refine VL.va (op_move rfl (ltn rfl)) rfl ?_
        refine VL.va (op_ari64 rfl rfl rfl (ltn rfl)) rfl ?_
        by_cases c2676 : 0 ≤ wrap64 (7 * i2216)
        · rw [if_pos c2676] at h
          refine VL.va (op_shl rfl rfl c2676 rfl (ltn rfl)) rfl ?_
          refine VL.va (op_bits rfl rfl rfl (ltn rfl)) rfl ?_
          refine VL.va (op_assign rfl (ltn rfl)) rfl ?_
          refine VL.done ?_
          refine VN.then ?_
          refine VC.seq ?_
          refine VC.seq ?_
          refine VC.region ?_
          refine VL.va (op_move rfl (ltn rfl)) rfl ?_
          refine VL.letter (decide ((wrap64 (bt a0 i2216)) ≥ 128)) fun b2679 hb2679 => ?_
          refine VL.va (op_cmp rfl rfl (congrArg some hb2679) (ltn rfl)) rfl ?_
          refine VL.done ?_
          refine VN.then ?_
          by_cases c2680 : (wrap64 (bt a0 i2216)) ≥ 128
          · rw [if_pos c2680] at h
            obtain rfl : b2679 = true := hb2679.symm.trans (decide_eq_true c2680)
            refine VC.cond_t rfl ?_
            refine VC.exit ?_
            refine VX.then ?_
            refine VX.hit ?_
            refine VN.then ?_
            refine VC.region ?_
            refine VL.va (op_ari64 rfl rfl rfl (ltn rfl)) rfl ?_
            refine VL.va (op_move rfl (ltn rfl)) rfl ?_
            refine VL.done ?_
            refine VN.again [] [] (ihl3 (Go.bits .or .i64 i2215 (IntKind.i64.wrap (((wrap64 (bt a0 i2216)).tmod 128) * 2 ^ min (wrap64 (7 * i2216)).toNat IntKind.i64.bits))) (wrap64 (i2216 + 1)) h) ⟨rfl, ⟨rfl, rfl, rfl, rfl, rfl, rfl, rfl, trivial⟩, trivial, rfl, by decide, rfl, by decide⟩
          · rw [if_neg c2680] at h
            obtain rfl : b2679 = false := hb2679.symm.trans (decide_eq_false c2680)
            refine VC.cond_f rfl ?_
            refine VC.skip ?_
            refine VN.then ?_
            refine VC.seq ?_
            refine VC.region ?_
            refine VL.va (op_move rfl (ltn rfl)) rfl ?_
            refine VL.va (op_quo rfl rfl (by decide) rfl (ltn rfl)) rfl ?_
            refine VL.va (op_assign rfl (ltn rfl)) rfl ?_
            refine VL.done ?_
            refine VN.then ?_
            refine VC.join2 (fun (i2777 : Int) (q2778 : Bool) => ⟨56, [(0, .string a0), (2, .int .i64 0), (3, .string (⟨#[]⟩ : ByteArray)), (4, .int .i64 0), (5, .int .i64 (Go.bits .or .i64 i2215 (IntKind.i64.wrap (((wrap64 (bt a0 i2216)).tmod 128) * 2 ^ min (wrap64 (7 * i2216)).toNat IntKind.i64.bits)))), (6, .int .i64 i2216), (7, .int .i64 (wrap64 (bt a0 i2216))), (8, .int .i64 i2777), (11, .int .i64 (mn (a0.size : Int) 9)), (12, .int .i64 i2216), (13, .bool true), (14, .int .i64 i2216), (15, .string a0), (16, .int .i64 i2216), (17, .int .u8 (bt a0 i2216)), (18, .int .i64 (wrap64 (bt a0 i2216))), (19, .int .i64 i2215), (20, .int .i64 (wrap64 (bt a0 i2216))), (21, .int .i64 ((wrap64 (bt a0 i2216)).tmod 128)), (22, .int .i64 i2216), (23, .int .i64 (wrap64 (7 * i2216))), (24, .int .i64 (IntKind.i64.wrap (((wrap64 (bt a0 i2216)).tmod 128) * 2 ^ min (wrap64 (7 * i2216)).toNat IntKind.i64.bits))), (25, .int .i64 (Go.bits .or .i64 i2215 (IntKind.i64.wrap (((wrap64 (bt a0 i2216)).tmod 128) * 2 ^ min (wrap64 (7 * i2216)).toNat IntKind.i64.bits)))), (26, .int .i64 (wrap64 (bt a0 i2216))), (27, .bool false), (28, .int .i64 (Go.bits .or .i64 i2215 (IntKind.i64.wrap (((wrap64 (bt a0 i2216)).tmod 128) * 2 ^ min (wrap64 (7 * i2216)).toNat IntKind.i64.bits)))), (29, .int .i64 (IntKind.i64.wrap ((Go.bits .or .i64 i2215 (IntKind.i64.wrap (((wrap64 (bt a0 i2216)).tmod 128) * 2 ^ min (wrap64 (7 * i2216)).toNat IntKind.i64.bits))).tdiv 2))), (30, .int .i64 (Go.bits .or .i64 i2215 (IntKind.i64.wrap (((wrap64 (bt a0 i2216)).tmod 128) * 2 ^ min (wrap64 (7 * i2216)).toNat IntKind.i64.bits)))), (31, .int .i64 ((Go.bits .or .i64 i2215 (IntKind.i64.wrap (((wrap64 (bt a0 i2216)).tmod 128) * 2 ^ min (wrap64 (7 * i2216)).toNat IntKind.i64.bits))).tmod 2)), (32, .bool q2778)], [], [], []⟩) (fun (i2777 : Int) (q2778 : Bool) => pack_ReadNumber.j5 k a0 i2216 i2777 q2778 = some (r1, r2, r3)) ?_ ?_
            · refine VC.seq ?_
              refine VC.region ?_
              refine VL.va (op_move rfl (ltn rfl)) rfl ?_
              refine VL.va (op_rem rfl rfl (by decide) rfl (ltn rfl)) rfl ?_
              refine VL.letter ((((Go.bits .or .i64 i2215 (IntKind.i64.wrap (((wrap64 (bt a0 i2216)).tmod 128) * 2 ^ min (wrap64 (7 * i2216)).toNat IntKind.i64.bits))).tmod 2) == 1)) fun b2775 hb2775 => ?_
              refine VL.va (op_cmp rfl rfl (congrArg some hb2775) (ltn rfl)) rfl ?_
              refine VL.done ?_
              refine VN.then ?_
              by_cases c2776 : ((Go.bits .or .i64 i2215 (IntKind.i64.wrap (((wrap64 (bt a0 i2216)).tmod 128) * 2 ^ min (wrap64 (7 * i2216)).toNat IntKind.i64.bits))).tmod 2) = 1
              · rw [if_pos c2776] at h
                obtain rfl : b2775 = true := hb2775.symm.trans (beq_iff_eq.2 c2776)
                refine VC.cond_t rfl ?_
                refine VC.region ?_
                refine VL.va (op_move rfl (ltn rfl)) rfl ?_
                refine VL.va (op_neg rfl (i64w _) (ltn rfl)) rfl ?_
                refine VL.va (op_ari64 rfl rfl rfl (ltn rfl)) rfl ?_
                refine VL.va (op_assign rfl (ltn rfl)) rfl ?_
                refine VL.done ?_
                refine VN.meet2 (wrap64 ((wrap64 (0 - (IntKind.i64.wrap ((Go.bits .or .i64 i2215 (IntKind.i64.wrap (((wrap64 (bt a0 i2216)).tmod 128) * 2 ^ min (wrap64 (7 * i2216)).toNat IntKind.i64.bits))).tdiv 2)))) - 1)) true [] [] h ⟨rfl, ⟨rfl, rfl, rfl, rfl, rfl, rfl, rfl, rfl, rfl, rfl, rfl, rfl, rfl, rfl, rfl, rfl, rfl, rfl, rfl, rfl, rfl, rfl, rfl, rfl, rfl, rfl, rfl, rfl, rfl, rfl, trivial⟩, trivial, rfl, by decide, rfl, by decide⟩
              · rw [if_neg c2776] at h
                obtain rfl : b2775 = false := hb2775.symm.trans (beq_eq_false_iff_ne.2 c2776)
                refine VC.cond_f rfl ?_
                refine VC.skip ?_
                refine VN.meet2 (IntKind.i64.wrap ((Go.bits .or .i64 i2215 (IntKind.i64.wrap (((wrap64 (bt a0 i2216)).tmod 128) * 2 ^ min (wrap64 (7 * i2216)).toNat IntKind.i64.bits))).tdiv 2)) false [] [] h ⟨rfl, ⟨rfl, rfl, rfl, rfl, rfl, rfl, rfl, rfl, rfl, rfl, rfl, rfl, rfl, rfl, rfl, rfl, rfl, rfl, rfl, rfl, rfl, rfl, rfl, rfl, rfl, rfl, rfl, rfl, rfl, rfl, trivial⟩, trivial, rfl, by decide, rfl, by decide⟩
            clear h
            intro i2777 q2778 h
            unfold pack_ReadNumber.j5 at h
            refine VC.seq ?_
            refine VC.seq ?_
            refine VC.region ?_
            refine VL.va (op_move rfl (ltn rfl)) rfl ?_
            refine VL.letter (((wrap64 (bt a0 i2216)) == 0)) fun b2809 hb2809 => ?_
            refine VL.va (op_cmp rfl rfl (congrArg some hb2809) (ltn rfl)) rfl ?_
            refine VL.va (op_move rfl (ltn rfl)) rfl ?_
            by_cases c2810 : (wrap64 (bt a0 i2216)) = 0
            · rw [if_pos c2810] at h
              obtain rfl : b2809 = true := hb2809.symm.trans (beq_iff_eq.2 c2810)
              refine VL.va (op_move rfl (ltn rfl)) rfl ?_
              refine VL.letter (decide (i2216 > 0)) fun b2811 hb2811 => ?_
              refine VL.va (op_cmp rfl rfl (congrArg some hb2811) (ltn rfl)) rfl ?_
              refine VL.va (op_pick rfl rfl (ltn rfl)) rfl ?_
              refine VL.va (op_move rfl (ltn rfl)) rfl ?_
              by_cases c2812 : i2216 > 0
              · rw [if_pos c2812] at h
                obtain rfl : b2811 = true := hb2811.symm.trans (decide_eq_true c2812)
                refine VL.un rfl rfl (ltn rfl) ?_
                refine VL.un rfl rfl (ltn rfl) ?_
                refine VL.un rfl rfl (ltn rfl) ?_
                refine VL.va (op_pick rfl rfl (ltn rfl)) rfl ?_
                refine VL.done ?_
                refine VN.then ?_
                refine VC.cond_t rfl ?_
                refine VC.seq ?_
                refine VC.region ?_
                refine VL.va (op_assign rfl (ltn rfl)) rfl ?_
                refine VL.va (op_assign rfl (ltn rfl)) rfl ?_
                refine VL.va (op_assign rfl (ltn rfl)) rfl ?_
                refine VL.done ?_
                refine VN.then ?_
                refine VC.ret ?_
                refine VR.then ?_
                refine VR.block ?_
                refine VR.then ?_
                refine VR.then ?_
                refine VR.block ?_
                refine VR.then ?_
                simp only [Option.some.injEq, Prod.mk.injEq] at h
                obtain ⟨rfl, rfl, rfl⟩ := h
                exact VR.fn (rs := [.tmp 2, .tmp 3, .tmp 4]) [] [] [] rfl (.tmp rfl (.tmp rfl (.tmp rfl .nil))) ⟨rfl, rfl, rfl⟩ trivial rfl (by decide)
              · rw [if_neg c2812] at h
                obtain rfl : b2811 = false := hb2811.symm.trans (decide_eq_false c2812)
                refine VL.va (op_move rfl (ltn rfl)) rfl ?_
                replace h := Option.bind_eq_some_iff.1 h
                obtain ⟨t2813, hA2814, h⟩ := h
                refine VL.sC (o_call0 FO25 (pack_may.ok i2777 t2813 hA2814) rfl rfl (ltn rfl) (All_of .nil)) rfl ?_
                rintro _ _ _ ⟨rfl, rfl, rfl⟩
                by_cases c2815 : t2813 = true
                · rw [if_pos c2815] at h
                  obtain rfl := c2815
                  refine VL.va (op_not rfl rfl (ltn rfl)) rfl ?_
                  refine VL.va (op_pick rfl rfl (ltn rfl)) rfl ?_
                  refine VL.done ?_
                  refine VN.then ?_
                  refine VC.cond_f rfl ?_
                  refine VC.skip ?_
                  refine VN.then ?_
                  by_cases c2816 : 0 ≤ wrap64 (i2216 + 1)
                  · rw [if_pos c2816] at h
                    by_cases c2817 : (wrap64 (i2216 + 1)) ≤ (a0.size : Int)
                    · rw [if_pos c2817] at h
                      refine VC.join0 (⟨56, [(0, .string a0), (2, .int .i64 i2777), (3, .string (a0.extract ((wrap64 (i2216 + 1)).toNat) a0.size)), (4, .int .i64 0), (5, .int .i64 (Go.bits .or .i64 i2215 (IntKind.i64.wrap (((wrap64 (bt a0 i2216)).tmod 128) * 2 ^ min (wrap64 (7 * i2216)).toNat IntKind.i64.bits)))), (6, .int .i64 i2216), (7, .int .i64 (wrap64 (bt a0 i2216))), (8, .int .i64 i2777), (11, .int .i64 (mn (a0.size : Int) 9)), (12, .int .i64 i2216), (13, .bool true), (14, .int .i64 i2216), (15, .string a0), (16, .int .i64 i2216), (17, .int .u8 (bt a0 i2216)), (18, .int .i64 (wrap64 (bt a0 i2216))), (19, .int .i64 i2215), (20, .int .i64 (wrap64 (bt a0 i2216))), (21, .int .i64 ((wrap64 (bt a0 i2216)).tmod 128)), (22, .int .i64 i2216), (23, .int .i64 (wrap64 (7 * i2216))), (24, .int .i64 (IntKind.i64.wrap (((wrap64 (bt a0 i2216)).tmod 128) * 2 ^ min (wrap64 (7 * i2216)).toNat IntKind.i64.bits))), (25, .int .i64 (Go.bits .or .i64 i2215 (IntKind.i64.wrap (((wrap64 (bt a0 i2216)).tmod 128) * 2 ^ min (wrap64 (7 * i2216)).toNat IntKind.i64.bits)))), (26, .int .i64 (wrap64 (bt a0 i2216))), (27, .bool false), (28, .int .i64 (Go.bits .or .i64 i2215 (IntKind.i64.wrap (((wrap64 (bt a0 i2216)).tmod 128) * 2 ^ min (wrap64 (7 * i2216)).toNat IntKind.i64.bits)))), (29, .int .i64 (IntKind.i64.wrap ((Go.bits .or .i64 i2215 (IntKind.i64.wrap (((wrap64 (bt a0 i2216)).tmod 128) * 2 ^ min (wrap64 (7 * i2216)).toNat IntKind.i64.bits))).tdiv 2))), (30, .int .i64 (Go.bits .or .i64 i2215 (IntKind.i64.wrap (((wrap64 (bt a0 i2216)).tmod 128) * 2 ^ min (wrap64 (7 * i2216)).toNat IntKind.i64.bits)))), (31, .int .i64 ((Go.bits .or .i64 i2215 (IntKind.i64.wrap (((wrap64 (bt a0 i2216)).tmod 128) * 2 ^ min (wrap64 (7 * i2216)).toNat IntKind.i64.bits))).tmod 2)), (32, .bool q2778), (36, .int .i64 (wrap64 (bt a0 i2216))), (37, .bool true), (38, .bool true), (39, .int .i64 i2216), (40, .bool false), (41, .bool false), (42, .bool false), (43, .int .i64 i2777), (44, .bool true), (45, .bool false), (46, .bool false), (47, .int .i64 i2777), (48, .string a0), (49, .int .i64 i2216), (50, .int .i64 (wrap64 (i2216 + 1))), (51, .string (a0.extract ((wrap64 (i2216 + 1)).toNat) a0.size))], [], [], []⟩) (True) ?_ ?_
                      · refine VC.draw ⟨0, [], [], [], []⟩ (by kernel_rfl) rfl (by kernel_rfl) (n := 8) (listed := LB 8 0) ?_
                        refine VA.va (i := 0) (listed' := LB 8 1) rfl (op_move rfl (ltn rfl)) rfl (by kernel_rfl) (by kernel_rfl) (by kernel_rfl) (by kernel_rfl) ⟨trivial, trivial, trivial⟩ (fun _ _ _ h => h) ?_
                        refine VA.va (i := 1) (listed' := LB 8 3) rfl (op_move rfl (ltn rfl)) rfl (by kernel_rfl) (by kernel_rfl) (by kernel_rfl) (by kernel_rfl) ⟨trivial, trivial, trivial⟩ (fun _ _ _ h => h) ?_
                        refine VA.va (i := 2) (listed' := LB 8 7) rfl (op_move rfl (ltn rfl)) rfl (by kernel_rfl) (by kernel_rfl) (by kernel_rfl) (by kernel_rfl) ⟨trivial, trivial, trivial⟩ (fun _ _ _ h => h) ?_
                        refine VA.va (i := 3) (listed' := LB 8 15) rfl (op_ari64 rfl rfl rfl (ltn rfl)) rfl (by kernel_rfl) (by kernel_rfl) (by kernel_rfl) (by kernel_rfl) ⟨trivial, trivial, trivial⟩ (fun _ _ _ h => h) ?_
                        refine VA.va (i := 4) (listed' := LB 8 31) rfl (op_sliceS ((wrap64 (i2216 + 1)).toNat) a0.size Try.underlying9 rfl ⟨⟨_, _, rfl, c2816, rfl⟩, rfl, by omega, by omega⟩ rfl (ltn rfl)) rfl (by kernel_rfl) (by kernel_rfl) (by kernel_rfl) (by kernel_rfl) ⟨trivial, trivial, trivial⟩ (fun _ _ _ h => h) ?_
                        refine VA.va (i := 5) (listed' := LB 8 63) rfl (op_assign rfl (ltn rfl)) rfl (by kernel_rfl) (by kernel_rfl) (by kernel_rfl) (by kernel_rfl) ⟨trivial, trivial, trivial⟩ (fun _ _ _ h => h) ?_
                        refine VA.va (i := 6) (listed' := LB 8 127) rfl (op_assign rfl (ltn rfl)) rfl (by kernel_rfl) (by kernel_rfl) (by kernel_rfl) (by kernel_rfl) ⟨trivial, trivial, trivial⟩ (fun _ _ _ h => h) ?_
                        refine VA.va (i := 7) (listed' := LB 8 255) rfl (op_assign rfl (ltn rfl)) rfl (by kernel_rfl) (by kernel_rfl) (by kernel_rfl) (by kernel_rfl) ⟨trivial, trivial, trivial⟩ (fun _ _ _ h => h) ?_
                        refine VA.done (by kernel_rfl) ?_
                        exact VN.meet0  [] [] trivial ⟨rfl, ⟨rfl, rfl, rfl, rfl, rfl, rfl, rfl, rfl, rfl, rfl, rfl, rfl, rfl, rfl, rfl, rfl, rfl, rfl, rfl, rfl, rfl, rfl, rfl, rfl, rfl, rfl, rfl, rfl, rfl, rfl, rfl, rfl, rfl, rfl, rfl, rfl, rfl, rfl, rfl, rfl, rfl, rfl, rfl, rfl, rfl, rfl, trivial⟩, trivial, rfl, by decide, rfl, by decide⟩
                      intro _
                      refine VC.ret ?_
                      refine VR.block ?_
                      refine VR.then ?_
                      refine VR.then ?_
                      refine VR.block ?_
                      refine VR.then ?_
                      simp only [Option.some.injEq, Prod.mk.injEq] at h
                      obtain ⟨rfl, rfl, rfl⟩ := h
                      exact VR.fn (rs := [.tmp 2, .tmp 3, .tmp 4]) [] [] [] rfl (.tmp rfl (.tmp rfl (.tmp rfl .nil))) ⟨rfl, rfl, rfl⟩ trivial rfl (by decide)
                    · rw [if_neg c2817] at h; cases h
                  · rw [if_neg c2816] at h; cases h
                · rw [if_neg c2815] at h
                  obtain rfl := Bool.eq_false_iff.2 c2815
                  refine VL.va (op_not rfl rfl (ltn rfl)) rfl ?_
                  refine VL.va (op_pick rfl rfl (ltn rfl)) rfl ?_
                  refine VL.done ?_
                  refine VN.then ?_
                  refine VC.cond_t rfl ?_
                  refine VC.seq ?_
                  refine VC.region ?_
                  refine VL.va (op_assign rfl (ltn rfl)) rfl ?_
                  refine VL.va (op_assign rfl (ltn rfl)) rfl ?_
                  refine VL.va (op_assign rfl (ltn rfl)) rfl ?_
                  refine VL.done ?_
                  refine VN.then ?_
                  refine VC.ret ?_
                  refine VR.then ?_
                  refine VR.block ?_
                  refine VR.then ?_
                  refine VR.then ?_
                  refine VR.block ?_
                  refine VR.then ?_
                  simp only [Option.some.injEq, Prod.mk.injEq] at h
                  obtain ⟨rfl, rfl, rfl⟩ := h
                  exact VR.fn (rs := [.tmp 2, .tmp 3, .tmp 4]) [] [] [] rfl (.tmp rfl (.tmp rfl (.tmp rfl .nil))) ⟨rfl, rfl, rfl⟩ trivial rfl (by decide)
            · rw [if_neg c2810] at h
              obtain rfl : b2809 = false := hb2809.symm.trans (beq_eq_false_iff_ne.2 c2810)
              refine VL.un rfl rfl (ltn rfl) ?_
              refine VL.un rfl rfl (ltn rfl) ?_
              refine VL.va (op_pick rfl rfl (ltn rfl)) rfl ?_
              refine VL.va (op_move rfl (ltn rfl)) rfl ?_
              refine VL.va (op_move rfl (ltn rfl)) rfl ?_
              replace h := Option.bind_eq_some_iff.1 h
              obtain ⟨t2818, hA2819, h⟩ := h
              refine VL.sC (o_call0 FO25 (pack_may.ok i2777 t2818 hA2819) rfl rfl (ltn rfl) (All_of .nil)) rfl ?_
              rintro _ _ _ ⟨rfl, rfl, rfl⟩
              by_cases c2820 : t2818 = true
              · rw [if_pos c2820] at h
                obtain rfl := c2820
                refine VL.va (op_not rfl rfl (ltn rfl)) rfl ?_
                refine VL.va (op_pick rfl rfl (ltn rfl)) rfl ?_
                refine VL.done ?_
                refine VN.then ?_
                refine VC.cond_f rfl ?_
                refine VC.skip ?_
                refine VN.then ?_
                by_cases c2821 : 0 ≤ wrap64 (i2216 + 1)
                · rw [if_pos c2821] at h
                  by_cases c2822 : (wrap64 (i2216 + 1)) ≤ (a0.size : Int)
                  · rw [if_pos c2822] at h
                    refine VC.join0 (⟨56, [(0, .string a0), (2, .int .i64 i2777), (3, .string (a0.extract ((wrap64 (i2216 + 1)).toNat) a0.size)), (4, .int .i64 0), (5, .int .i64 (Go.bits .or .i64 i2215 (IntKind.i64.wrap (((wrap64 (bt a0 i2216)).tmod 128) * 2 ^ min (wrap64 (7 * i2216)).toNat IntKind.i64.bits)))), (6, .int .i64 i2216), (7, .int .i64 (wrap64 (bt a0 i2216))), (8, .int .i64 i2777), (11, .int .i64 (mn (a0.size : Int) 9)), (12, .int .i64 i2216), (13, .bool true), (14, .int .i64 i2216), (15, .string a0), (16, .int .i64 i2216), (17, .int .u8 (bt a0 i2216)), (18, .int .i64 (wrap64 (bt a0 i2216))), (19, .int .i64 i2215), (20, .int .i64 (wrap64 (bt a0 i2216))), (21, .int .i64 ((wrap64 (bt a0 i2216)).tmod 128)), (22, .int .i64 i2216), (23, .int .i64 (wrap64 (7 * i2216))), (24, .int .i64 (IntKind.i64.wrap (((wrap64 (bt a0 i2216)).tmod 128) * 2 ^ min (wrap64 (7 * i2216)).toNat IntKind.i64.bits))), (25, .int .i64 (Go.bits .or .i64 i2215 (IntKind.i64.wrap (((wrap64 (bt a0 i2216)).tmod 128) * 2 ^ min (wrap64 (7 * i2216)).toNat IntKind.i64.bits)))), (26, .int .i64 (wrap64 (bt a0 i2216))), (27, .bool false), (28, .int .i64 (Go.bits .or .i64 i2215 (IntKind.i64.wrap (((wrap64 (bt a0 i2216)).tmod 128) * 2 ^ min (wrap64 (7 * i2216)).toNat IntKind.i64.bits)))), (29, .int .i64 (IntKind.i64.wrap ((Go.bits .or .i64 i2215 (IntKind.i64.wrap (((wrap64 (bt a0 i2216)).tmod 128) * 2 ^ min (wrap64 (7 * i2216)).toNat IntKind.i64.bits))).tdiv 2))), (30, .int .i64 (Go.bits .or .i64 i2215 (IntKind.i64.wrap (((wrap64 (bt a0 i2216)).tmod 128) * 2 ^ min (wrap64 (7 * i2216)).toNat IntKind.i64.bits)))), (31, .int .i64 ((Go.bits .or .i64 i2215 (IntKind.i64.wrap (((wrap64 (bt a0 i2216)).tmod 128) * 2 ^ min (wrap64 (7 * i2216)).toNat IntKind.i64.bits))).tmod 2)), (32, .bool q2778), (36, .int .i64 (wrap64 (bt a0 i2216))), (37, .bool false), (38, .bool false), (39, undef), (40, undef), (41, .bool false), (42, .bool false), (43, .int .i64 i2777), (44, .bool true), (45, .bool false), (46, .bool false), (47, .int .i64 i2777), (48, .string a0), (49, .int .i64 i2216), (50, .int .i64 (wrap64 (i2216 + 1))), (51, .string (a0.extract ((wrap64 (i2216 + 1)).toNat) a0.size))], [], [], []⟩) (True) ?_ ?_
                    · refine VC.draw ⟨0, [], [], [], []⟩ (by kernel_rfl) rfl (by kernel_rfl) (n := 8) (listed := LB 8 0) ?_
                      refine VA.va (i := 0) (listed' := LB 8 1) rfl (op_move rfl (ltn rfl)) rfl (by kernel_rfl) (by kernel_rfl) (by kernel_rfl) (by kernel_rfl) ⟨trivial, trivial, trivial⟩ (fun _ _ _ h => h) ?_
                      refine VA.va (i := 1) (listed' := LB 8 3) rfl (op_move rfl (ltn rfl)) rfl (by kernel_rfl) (by kernel_rfl) (by kernel_rfl) (by kernel_rfl) ⟨trivial, trivial, trivial⟩ (fun _ _ _ h => h) ?_
                      refine VA.va (i := 2) (listed' := LB 8 7) rfl (op_move rfl (ltn rfl)) rfl (by kernel_rfl) (by kernel_rfl) (by kernel_rfl) (by kernel_rfl) ⟨trivial, trivial, trivial⟩ (fun _ _ _ h => h) ?_
                      refine VA.va (i := 3) (listed' := LB 8 15) rfl (op_ari64 rfl rfl rfl (ltn rfl)) rfl (by kernel_rfl) (by kernel_rfl) (by kernel_rfl) (by kernel_rfl) ⟨trivial, trivial, trivial⟩ (fun _ _ _ h => h) ?_
                      refine VA.va (i := 4) (listed' := LB 8 31) rfl (op_sliceS ((wrap64 (i2216 + 1)).toNat) a0.size Try.underlying9 rfl ⟨⟨_, _, rfl, c2821, rfl⟩, rfl, by omega, by omega⟩ rfl (ltn rfl)) rfl (by kernel_rfl) (by kernel_rfl) (by kernel_rfl) (by kernel_rfl) ⟨trivial, trivial, trivial⟩ (fun _ _ _ h => h) ?_
                      refine VA.va (i := 5) (listed' := LB 8 63) rfl (op_assign rfl (ltn rfl)) rfl (by kernel_rfl) (by kernel_rfl) (by kernel_rfl) (by kernel_rfl) ⟨trivial, trivial, trivial⟩ (fun _ _ _ h => h) ?_
                      refine VA.va (i := 6) (listed' := LB 8 127) rfl (op_assign rfl (ltn rfl)) rfl (by kernel_rfl) (by kernel_rfl) (by kernel_rfl) (by kernel_rfl) ⟨trivial, trivial, trivial⟩ (fun _ _ _ h => h) ?_
                      refine VA.va (i := 7) (listed' := LB 8 255) rfl (op_assign rfl (ltn rfl)) rfl (by kernel_rfl) (by kernel_rfl) (by kernel_rfl) (by kernel_rfl) ⟨trivial, trivial, trivial⟩ (fun _ _ _ h => h) ?_
                      refine VA.done (by kernel_rfl) ?_
                      exact VN.meet0  [] [] trivial ⟨rfl, ⟨rfl, rfl, rfl, rfl, rfl, rfl, rfl, rfl, rfl, rfl, rfl, rfl, rfl, rfl, rfl, rfl, rfl, rfl, rfl, rfl, rfl, rfl, rfl, rfl, rfl, rfl, rfl, rfl, rfl, rfl, rfl, rfl, rfl, rfl, rfl, rfl, rfl, rfl, rfl, rfl, rfl, rfl, rfl, rfl, rfl, rfl, trivial⟩, trivial, rfl, by decide, rfl, by decide⟩
                    intro _
                    refine VC.ret ?_
                    refine VR.block ?_
                    refine VR.then ?_
                    refine VR.then ?_
                    refine VR.block ?_
                    refine VR.then ?_
                    simp only [Option.some.injEq, Prod.mk.injEq] at h
                    obtain ⟨rfl, rfl, rfl⟩ := h
                    exact VR.fn (rs := [.tmp 2, .tmp 3, .tmp 4]) [] [] [] rfl (.tmp rfl (.tmp rfl (.tmp rfl .nil))) ⟨rfl, rfl, rfl⟩ trivial rfl (by decide)
                  · rw [if_neg c2822] at h; cases h
                · rw [if_neg c2821] at h; cases h
              · rw [if_neg c2820] at h
                obtain rfl := Bool.eq_false_iff.2 c2820
                refine VL.va (op_not rfl rfl (ltn rfl)) rfl ?_
                refine VL.va (op_pick rfl rfl (ltn rfl)) rfl ?_
                refine VL.done ?_
                refine VN.then ?_
                refine VC.cond_t rfl ?_
                refine VC.seq ?_
                refine VC.region ?_
                refine VL.va (op_assign rfl (ltn rfl)) rfl ?_
                refine VL.va (op_assign rfl (ltn rfl)) rfl ?_
                refine VL.va (op_assign rfl (ltn rfl)) rfl ?_
                refine VL.done ?_
                refine VN.then ?_
                refine VC.ret ?_
                refine VR.then ?_
                refine VR.block ?_
                refine VR.then ?_
                refine VR.then ?_
                refine VR.block ?_
                refine VR.then ?_
                simp only [Option.some.injEq, Prod.mk.injEq] at h
                obtain ⟨rfl, rfl, rfl⟩ := h
                exact VR.fn (rs := [.tmp 2, .tmp 3, .tmp 4]) [] [] [] rfl (.tmp rfl (.tmp rfl (.tmp rfl .nil))) ⟨rfl, rfl, rfl⟩ trivial rfl (by decide)
        · rw [if_neg c2676] at h; cases h
      · rw [if_neg c2675] at h; cases h
    · rw [if_neg c2674] at h; cases h
  · rw [if_neg c2524] at h
    obtain rfl : b2518 = false := hb2518.symm.trans (decide_eq_false c2524)
    refine VC.cond_f rfl ?_
    refine VC.exit ?_
    refine VX.then ?_
    refine VX.then ?_
    refine VX.hit ?_
    refine VN.then ?_
    refine VC.seq ?_
    refine VC.seq ?_
    refine VC.region ?_
    refine VL.va (op_move rfl (ltn rfl)) rfl ?_
    refine VL.va (op_lens Try.underlying9 rfl (ltn rfl)) rfl ?_
    refine VL.letter (decide ((a0.size : Int) ≥ 9)) fun b2825 hb2825 => ?_
    refine VL.va (op_cmp rfl rfl (congrArg some hb2825) (ltn rfl)) rfl ?_
    refine VL.done ?_
    refine VN.then ?_
    by_cases c2826 : (a0.size : Int) ≥ 9
    · rw [if_pos c2826] at h
      obtain rfl : b2825 = true := hb2825.symm.trans (decide_eq_true c2826)
      refine VC.cond_t rfl ?_
      refine VC.seq ?_
      refine VC.region ?_
      refine VL.va (op_assign rfl (ltn rfl)) rfl ?_
      refine VL.va (op_assign rfl (ltn rfl)) rfl ?_
      refine VL.va (op_assign rfl (ltn rfl)) rfl ?_
      refine VL.done ?_
      refine VN.then ?_
      refine VC.ret ?_
      refine VR.then ?_
      simp only [Option.some.injEq, Prod.mk.injEq] at h
      obtain ⟨rfl, rfl, rfl⟩ := h
      exact VR.fn (rs := [.tmp 2, .tmp 3, .tmp 4]) [] [] [] rfl (.tmp rfl (.tmp rfl (.tmp rfl .nil))) ⟨rfl, rfl, rfl⟩ trivial rfl (by decide)
    · rw [if_neg c2826] at h
      obtain rfl : b2825 = false := hb2825.symm.trans (decide_eq_false c2826)
      refine VC.cond_f rfl ?_
      refine VC.skip ?_
      refine VN.then ?_
      refine VC.seq ?_
      refine VC.region ?_
      refine VL.va (op_assign rfl (ltn rfl)) rfl ?_
      refine VL.va (op_assign rfl (ltn rfl)) rfl ?_
      refine VL.va (op_assign rfl (ltn rfl)) rfl ?_
      refine VL.done ?_
      refine VN.then ?_
      refine VC.ret ?_
      simp only [Option.some.injEq, Prod.mk.injEq] at h
      obtain ⟨rfl, rfl, rfl⟩ := h
      exact VR.fn (rs := [.tmp 2, .tmp 3, .tmp 4]) [] [] [] rfl (.tmp rfl (.tmp rfl (.tmp rfl .nil))) ⟨rfl, rfl, rfl⟩ trivial rfl (by decide)

end Go.Proofs.Ytaolaicmfjdmhaa.PFrameBack
