/- Written by a program of this repo: what the program's functions do, each as a Lean function, shown of the loaded code; or a statement's row over that; no condition of its own. -/
import Derived.Test.YtacenfolbmdpoaaPPackRowsx1
namespace Go.Proofs.Ytacenfolbmdpoaa.PPackRows
open Go Go.RowKit Go.Proofs.YtacenfolbmdpoaaV
set_option linter.unusedVariables false
set_option linter.unusedSimpArgs false

set_option maxHeartbeats 4000000 in
set_option maxRecDepth 100000 in
theorem pack_ReadNumber.ok (k : Nat) (a0 : ByteArray)  (r1 : Int) (r2 : ByteArray) (r3 : Int) (h : pack_ReadNumber.f k a0 = some (r1, r2, r3)) :
    VCalls Try.prog 9 [.string a0] [] (fun v G own => v = .tuple #[.int .i64 r1, .string r2, .int .i64 r3] ∧ G = [] ∧ own = []) := by
  refine VCalls.intro Try.func9 rfl (len rfl) fun E hC hW hD hU => ?_
  unfold pack_ReadNumber.f at h
  refine VC.seq ?_
  refine VC.region ?_
  refine VL.va (op_assign rfl (ltn rfl)) rfl ?_
  refine VL.va (op_assign rfl (ltn rfl)) rfl ?_
  refine VL.va (op_assign rfl (ltn rfl)) rfl ?_
  refine VL.done ?_
  refine VN.then ?_
  refine VC.seq ?_
  refine VC.region ?_
  refine VL.va (op_assign rfl (ltn rfl)) rfl ?_
  refine VL.done ?_
  refine VN.then ?_
  refine VC.seq ?_
  refine VC.seq ?_
  refine VC.region ?_
  refine VL.va (op_move rfl (ltn rfl)) rfl ?_
  refine VL.va (op_lens Try.underlying9 rfl (ltn rfl)) rfl ?_
  refine VL.va (op_min rfl rfl (ltn rfl)) rfl ?_
  refine VL.va (op_move rfl (ltn rfl)) rfl ?_
  refine VL.done ?_
  refine VN.then ?_
  refine VC.block ?_
  refine VC.loop2 (fun (i1397 : Int) (i1398 : Int) => ⟨56, [(0, .string a0), (2, .int .i64 0), (3, .string (⟨#[]⟩ : ByteArray)), (4, .int .i64 0), (5, .int .i64 i1397), (11, .int .i64 (mn (a0.size : Int) 9)), (12, .int .i64 i1398)], [], [], []⟩) (fun (ml3 : Nat) (i1397 : Int) (i1398 : Int) => pack_ReadNumber.l3 k a0 ml3 i1397 i1398 = some (r1, r2, r3)) k 0 0 [] [] h ⟨rfl, ⟨rfl, rfl, rfl, rfl, rfl, rfl, rfl, trivial⟩, trivial, rfl, by decide, rfl, by decide⟩ (by intros; simp [pack_ReadNumber.l3]) ?_
  clear h
  intro ml3 ihl3 i1397 i1398 h
  simp only [pack_ReadNumber.l3] at h
  refine VC.seq ?_
  refine VC.region ?_
  refine VL.letter (decide (i1398 < (mn (a0.size : Int) 9))) fun b1700 hb1700 => ?_
  refine VL.va (op_cmp rfl rfl (congrArg some hb1700) (ltn rfl)) rfl ?_
  refine VL.done ?_
  refine VN.then ?_
  refine VC.seq ?_
  by_cases c1706 : i1398 < (mn (a0.size : Int) 9)
  · rw [if_pos c1706] at h
    obtain rfl : b1700 = true := hb1700.symm.trans (decide_eq_true c1706)
    refine VC.cond_t rfl ?_
    refine VC.skip ?_
    refine VN.then ?_
    refine VC.seq ?_
    refine VC.block ?_
    refine VC.seq ?_
    refine VC.region ?_
    refine VL.va (op_move rfl (ltn rfl)) rfl ?_
    refine VL.va (op_assign rfl (ltn rfl)) rfl ?_
    refine VL.done ?_
    refine VN.then ?_
    refine VC.seq ?_
    refine VC.region ?_
    refine VL.va (op_move rfl (ltn rfl)) rfl ?_
    refine VL.va (op_move rfl (ltn rfl)) rfl ?_
    by_cases c1856 : 0 ≤ i1398
    · rw [if_pos c1856] at h
      by_cases c1857 : i1398 < (a0.size : Int)
      · rw [if_pos c1857] at h
        refine VL.va (op_indexS Try.underlying9 rfl rfl c1856 c1857 rfl (ltn rfl)) rfl ?_
        refine VL.va (op_conv Try.underlying5 Try.underlying3 rfl (i64w _) (ltn rfl)) rfl ?_
        refine VL.va (op_assign rfl (ltn rfl)) rfl ?_
        refine VL.done ?_
        refine VN.then ?_
        refine VC.seq ?_
        refine VC.region ?_
        refine VL.va (op_move rfl (ltn rfl)) rfl ?_
        refine VL.va (op_move rfl (ltn rfl)) rfl ?_
        refine VL.va (op_rem rfl rfl (by decide) rfl (ltn rfl)) rfl ?_
        refine VL.va (op_move rfl (ltn rfl)) rfl ?_
        refine VL.va (op_ari64 rfl rfl rfl (ltn rfl)) rfl ?_
        by_cases c1858 : 0 ≤ wrap64 (7 * i1398)
        · rw [if_pos c1858] at h
          refine VL.va (op_shl rfl rfl c1858 rfl (ltn rfl)) rfl ?_
          refine VL.va (op_bits rfl rfl rfl (ltn rfl)) rfl ?_
          refine VL.va (op_assign rfl (ltn rfl)) rfl ?_
          refine VL.done ?_
          refine VN.then ?_
          refine VC.seq ?_
          refine VC.seq ?_
          refine VC.region ?_
          refine VL.va (op_move rfl (ltn rfl)) rfl ?_
          refine VL.letter (decide ((wrap64 (bt a0 i1398)) ≥ 128)) fun b1861 hb1861 => ?_
          refine VL.va (op_cmp rfl rfl (congrArg some hb1861) (ltn rfl)) rfl ?_
          refine VL.done ?_
          refine VN.then ?_
          by_cases c1862 : (wrap64 (bt a0 i1398)) ≥ 128
          · rw [if_pos c1862] at h
            obtain rfl : b1861 = true := hb1861.symm.trans (decide_eq_true c1862)
            refine VC.cond_t rfl ?_
            refine VC.exit ?_
            refine VX.then ?_
            refine VX.hit ?_
            refine VN.then ?_
            refine VC.region ?_
            refine VL.va (op_ari64 rfl rfl rfl (ltn rfl)) rfl ?_
            refine VL.va (op_move rfl (ltn rfl)) rfl ?_
            refine VL.done ?_
            refine VN.again [] [] (ihl3 (Go.bits .or .i64 i1397 (IntKind.i64.wrap (((wrap64 (bt a0 i1398)).tmod 128) * 2 ^ min (wrap64 (7 * i1398)).toNat IntKind.i64.bits))) (wrap64 (i1398 + 1)) h) ⟨rfl, ⟨rfl, rfl, rfl, rfl, rfl, rfl, rfl, trivial⟩, trivial, rfl, by decide, rfl, by decide⟩
          · rw [if_neg c1862] at h
            obtain rfl : b1861 = false := hb1861.symm.trans (decide_eq_false c1862)
            refine VC.cond_f rfl ?_
            refine VC.skip ?_
            refine VN.then ?_
            refine VC.seq ?_
            refine VC.region ?_
            refine VL.va (op_move rfl (ltn rfl)) rfl ?_
            refine VL.va (op_quo rfl rfl (by decide) rfl (ltn rfl)) rfl ?_
            refine VL.va (op_assign rfl (ltn rfl)) rfl ?_
            refine VL.done ?_
            refine VN.then ?_
            refine VC.join2 (fun (i1959 : Int) (q1960 : Bool) => ⟨56, [(0, .string a0), (2, .int .i64 0), (3, .string (⟨#[]⟩ : ByteArray)), (4, .int .i64 0), (5, .int .i64 (Go.bits .or .i64 i1397 (IntKind.i64.wrap (((wrap64 (bt a0 i1398)).tmod 128) * 2 ^ min (wrap64 (7 * i1398)).toNat IntKind.i64.bits)))), (6, .int .i64 i1398), (7, .int .i64 (wrap64 (bt a0 i1398))), (8, .int .i64 i1959), (11, .int .i64 (mn (a0.size : Int) 9)), (12, .int .i64 i1398), (13, .bool true), (14, .int .i64 i1398), (15, .string a0), (16, .int .i64 i1398), (17, .int .u8 (bt a0 i1398)), (18, .int .i64 (wrap64 (bt a0 i1398))), (19, .int .i64 i1397), (20, .int .i64 (wrap64 (bt a0 i1398))), (21, .int .i64 ((wrap64 (bt a0 i1398)).tmod 128)), (22, .int .i64 i1398), (23, .int .i64 (wrap64 (7 * i1398))), (24, .int .i64 (IntKind.i64.wrap (((wrap64 (bt a0 i1398)).tmod 128) * 2 ^ min (wrap64 (7 * i1398)).toNat IntKind.i64.bits))), (25, .int .i64 (Go.bits .or .i64 i1397 (IntKind.i64.wrap (((wrap64 (bt a0 i1398)).tmod 128) * 2 ^ min (wrap64 (7 * i1398)).toNat IntKind.i64.bits)))), (26, .int .i64 (wrap64 (bt a0 i1398))), (27, .bool false), (28, .int .i64 (Go.bits .or .i64 i1397 (IntKind.i64.wrap (((wrap64 (bt a0 i1398)).tmod 128) * 2 ^ min (wrap64 (7 * i1398)).toNat IntKind.i64.bits)))), (29, .int .i64 (IntKind.i64.wrap ((Go.bits .or .i64 i1397 (IntKind.i64.wrap (((wrap64 (bt a0 i1398)).tmod 128) * 2 ^ min (wrap64 (7 * i1398)).toNat IntKind.i64.bits))).tdiv 2))), (30, .int .i64 (Go.bits .or .i64 i1397 (IntKind.i64.wrap (((wrap64 (bt a0 i1398)).tmod 128) * 2 ^ min (wrap64 (7 * i1398)).toNat IntKind.i64.bits)))), (31, .int .i64 ((Go.bits .or .i64 i1397 (IntKind.i64.wrap (((wrap64 (bt a0 i1398)).tmod 128) * 2 ^ min (wrap64 (7 * i1398)).toNat IntKind.i64.bits))).tmod 2)), (32, .bool q1960)], [], [], []⟩) (fun (i1959 : Int) (q1960 : Bool) => pack_ReadNumber.j5 k a0 i1398 i1959 q1960 = some (r1, r2, r3)) ?_ ?_
            · refine VC.seq ?_
              refine VC.region ?_
              refine VL.va (op_move rfl (ltn rfl)) rfl ?_
              refine VL.va (op_rem rfl rfl (by decide) rfl (ltn rfl)) rfl ?_
              refine VL.letter ((((Go.bits .or .i64 i1397 (IntKind.i64.wrap (((wrap64 (bt a0 i1398)).tmod 128) * 2 ^ min (wrap64 (7 * i1398)).toNat IntKind.i64.bits))).tmod 2) == 1)) fun b1957 hb1957 => ?_
              refine VL.va (op_cmp rfl rfl (congrArg some hb1957) (ltn rfl)) rfl ?_
              refine VL.done ?_
              refine VN.then ?_
              by_cases c1958 : ((Go.bits .or .i64 i1397 (IntKind.i64.wrap (((wrap64 (bt a0 i1398)).tmod 128) * 2 ^ min (wrap64 (7 * i1398)).toNat IntKind.i64.bits))).tmod 2) = 1
              · rw [if_pos c1958] at h
                obtain rfl : b1957 = true := hb1957.symm.trans (beq_iff_eq.2 c1958)
                refine VC.cond_t rfl ?_
                refine VC.region ?_
                refine VL.va (op_move rfl (ltn rfl)) rfl ?_
                refine VL.va (op_neg rfl (i64w _) (ltn rfl)) rfl ?_
                refine VL.va (op_ari64 rfl rfl rfl (ltn rfl)) rfl ?_
                refine VL.va (op_assign rfl (ltn rfl)) rfl ?_
                refine VL.done ?_
                refine VN.meet2 (wrap64 ((wrap64 (0 - (IntKind.i64.wrap ((Go.bits .or .i64 i1397 (IntKind.i64.wrap (((wrap64 (bt a0 i1398)).tmod 128) * 2 ^ min (wrap64 (7 * i1398)).toNat IntKind.i64.bits))).tdiv 2)))) - 1)) true [] [] h ⟨rfl, ⟨rfl, rfl, rfl, rfl, rfl, rfl, rfl, rfl, rfl, rfl, rfl, rfl, rfl, rfl, rfl, rfl, rfl, rfl, rfl, rfl, rfl, rfl, rfl, rfl, rfl, rfl, rfl, rfl, rfl, rfl, trivial⟩, trivial, rfl, by decide, rfl, by decide⟩
              · rw [if_neg c1958] at h
                obtain rfl : b1957 = false := hb1957.symm.trans (beq_eq_false_iff_ne.2 c1958)
                refine VC.cond_f rfl ?_
                refine VC.skip ?_
                refine VN.meet2 (IntKind.i64.wrap ((Go.bits .or .i64 i1397 (IntKind.i64.wrap (((wrap64 (bt a0 i1398)).tmod 128) * 2 ^ min (wrap64 (7 * i1398)).toNat IntKind.i64.bits))).tdiv 2)) false [] [] h ⟨rfl, ⟨rfl, rfl, rfl, rfl, rfl, rfl, rfl, rfl, rfl, rfl, rfl, rfl, rfl, rfl, rfl, rfl, rfl, rfl, rfl, rfl, rfl, rfl, rfl, rfl, rfl, rfl, rfl, rfl, rfl, rfl, trivial⟩, trivial, rfl, by decide, rfl, by decide⟩
            clear h
            intro i1959 q1960 h
            unfold pack_ReadNumber.j5 at h
            refine VC.seq ?_
            refine VC.seq ?_
            refine VC.region ?_
            refine VL.va (op_move rfl (ltn rfl)) rfl ?_
            refine VL.letter (((wrap64 (bt a0 i1398)) == 0)) fun b1991 hb1991 => ?_
            refine VL.va (op_cmp rfl rfl (congrArg some hb1991) (ltn rfl)) rfl ?_
            refine VL.va (op_move rfl (ltn rfl)) rfl ?_
            by_cases c1992 : (wrap64 (bt a0 i1398)) = 0
            · rw [if_pos c1992] at h
              obtain rfl : b1991 = true := hb1991.symm.trans (beq_iff_eq.2 c1992)
              refine VL.va (op_move rfl (ltn rfl)) rfl ?_
              refine VL.letter (decide (i1398 > 0)) fun b1993 hb1993 => ?_
              refine VL.va (op_cmp rfl rfl (congrArg some hb1993) (ltn rfl)) rfl ?_
              refine VL.va (op_pick rfl rfl (ltn rfl)) rfl ?_
              refine VL.va (op_move rfl (ltn rfl)) rfl ?_
              by_cases c1994 : i1398 > 0
              · rw [if_pos c1994] at h
                obtain rfl : b1993 = true := hb1993.symm.trans (decide_eq_true c1994)
                refine VL.un rfl rfl (ltn rfl) ?_
                refine VL.un rfl rfl (ltn rfl) ?_
                refine VL.un rfl rfl (ltn rfl) ?_
                refine VL.va (op_pick rfl rfl (ltn rfl)) rfl ?_
                refine VL.done ?_
                refine VN.then ?_
                refine VC.cond_t rfl ?_
                refine VC.seq ?_
                refine VC.region ?_
                refine VL.va (op_assign rfl (ltn rfl)) rfl ?_
                refine VL.va (op_assign rfl (ltn rfl)) rfl ?_
                refine VL.va (op_assign rfl (ltn rfl)) rfl ?_
                refine VL.done ?_
                refine VN.then ?_
                refine VC.ret ?_
                refine VR.then ?_
                refine VR.block ?_
                refine VR.then ?_
                refine VR.then ?_
                refine VR.block ?_
                refine VR.then ?_
                simp only [Option.some.injEq, Prod.mk.injEq] at h
                obtain ⟨rfl, rfl, rfl⟩ := h
                exact VR.fn (rs := [.tmp 2, .tmp 3, .tmp 4]) [] [] [] rfl (.tmp rfl (.tmp rfl (.tmp rfl .nil))) ⟨rfl, rfl, rfl⟩ trivial rfl (by decide)
              · rw [if_neg c1994] at h
                obtain rfl : b1993 = false := hb1993.symm.trans (decide_eq_false c1994)
                refine VL.va (op_move rfl (ltn rfl)) rfl ?_
                replace h := Option.bind_eq_some_iff.1 h
                obtain ⟨t1995, hA1996, h⟩ := h
                refine VL.sC (o_call0 FO24 (pack_may.ok i1959 t1995 hA1996) rfl rfl (ltn rfl) (All_of .nil)) rfl ?_
                rintro _ _ _ ⟨rfl, rfl, rfl⟩
                by_cases c1997 : t1995 = true
                · rw [if_pos c1997] at h
                  obtain rfl := c1997
                  refine VL.va (op_not rfl rfl (ltn rfl)) rfl ?_
                  refine VL.va (op_pick rfl rfl (ltn rfl)) rfl ?_
                  refine VL.done ?_
                  refine VN.then ?_
                  refine VC.cond_f rfl ?_
                  refine VC.skip ?_
                  refine VN.then ?_
                  by_cases c1998 : 0 ≤ wrap64 (i1398 + 1)
                  · rw [if_pos c1998] at h
                    by_cases c1999 : (wrap64 (i1398 + 1)) ≤ (a0.size : Int)
                    · rw [if_pos c1999] at h
                      refine VC.join0 (⟨56, [(0, .string a0), (2, .int .i64 i1959), (3, .string (a0.extract ((wrap64 (i1398 + 1)).toNat) a0.size)), (4, .int .i64 0), (5, .int .i64 (Go.bits .or .i64 i1397 (IntKind.i64.wrap (((wrap64 (bt a0 i1398)).tmod 128) * 2 ^ min (wrap64 (7 * i1398)).toNat IntKind.i64.bits)))), (6, .int .i64 i1398), (7, .int .i64 (wrap64 (bt a0 i1398))), (8, .int .i64 i1959), (11, .int .i64 (mn (a0.size : Int) 9)), (12, .int .i64 i1398), (13, .bool true), (14, .int .i64 i1398), (15, .string a0), (16, .int .i64 i1398), (17, .int .u8 (bt a0 i1398)), (18, .int .i64 (wrap64 (bt a0 i1398))), (19, .int .i64 i1397), (20, .int .i64 (wrap64 (bt a0 i1398))), (21, .int .i64 ((wrap64 (bt a0 i1398)).tmod 128)), (22, .int .i64 i1398), (23, .int .i64 (wrap64 (7 * i1398))), (24, .int .i64 (IntKind.i64.wrap (((wrap64 (bt a0 i1398)).tmod 128) * 2 ^ min (wrap64 (7 * i1398)).toNat IntKind.i64.bits))), (25, .int .i64 (Go.bits .or .i64 i1397 (IntKind.i64.wrap (((wrap64 (bt a0 i1398)).tmod 128) * 2 ^ min (wrap64 (7 * i1398)).toNat IntKind.i64.bits)))), (26, .int .i64 (wrap64 (bt a0 i1398))), (27, .bool false), (28, .int .i64 (Go.bits .or .i64 i1397 (IntKind.i64.wrap (((wrap64 (bt a0 i1398)).tmod 128) * 2 ^ min (wrap64 (7 * i1398)).toNat IntKind.i64.bits)))), (29, .int .i64 (IntKind.i64.wrap ((Go.bits .or .i64 i1397 (IntKind.i64.wrap (((wrap64 (bt a0 i1398)).tmod 128) * 2 ^ min (wrap64 (7 * i1398)).toNat IntKind.i64.bits))).tdiv 2))), (30, .int .i64 (Go.bits .or .i64 i1397 (IntKind.i64.wrap (((wrap64 (bt a0 i1398)).tmod 128) * 2 ^ min (wrap64 (7 * i1398)).toNat IntKind.i64.bits)))), (31, .int .i64 ((Go.bits .or .i64 i1397 (IntKind.i64.wrap (((wrap64 (bt a0 i1398)).tmod 128) * 2 ^ min (wrap64 (7 * i1398)).toNat IntKind.i64.bits))).tmod 2)), (32, .bool q1960), (36, .int .i64 (wrap64 (bt a0 i1398))), (37, .bool true), (38, .bool true), (39, .int .i64 i1398), (40, .bool false), (41, .bool false), (42, .bool false), (43, .int .i64 i1959), (44, .bool true), (45, .bool false), (46, .bool false), (47, .int .i64 i1959), (48, .string a0), (49, .int .i64 i1398), (50, .int .i64 (wrap64 (i1398 + 1))), (51, .string (a0.extract ((wrap64 (i1398 + 1)).toNat) a0.size))], [], [], []⟩) (True) ?_ ?_
                      · refine VC.draw ⟨0, [], [], [], []⟩ (by kernel_rfl) rfl (by kernel_rfl) (n := 8) (listed := LB 8 0) ?_
                        refine VA.va (i := 0) (listed' := LB 8 1) rfl (op_move rfl (ltn rfl)) rfl (by kernel_rfl) (by kernel_rfl) (by kernel_rfl) (by kernel_rfl) ⟨trivial, trivial, trivial⟩ (fun _ _ _ h => h) ?_
                        refine VA.va (i := 1) (listed' := LB 8 3) rfl (op_move rfl (ltn rfl)) rfl (by kernel_rfl) (by kernel_rfl) (by kernel_rfl) (by kernel_rfl) ⟨trivial, trivial, trivial⟩ (fun _ _ _ h => h) ?_
                        refine VA.va (i := 2) (listed' := LB 8 7) rfl (op_move rfl (ltn rfl)) rfl (by kernel_rfl) (by kernel_rfl) (by kernel_rfl) (by kernel_rfl) ⟨trivial, trivial, trivial⟩ (fun _ _ _ h => h) ?_
                        refine VA.va (i := 3) (listed' := LB 8 15) rfl (op_ari64 rfl rfl rfl (ltn rfl)) rfl (by kernel_rfl) (by kernel_rfl) (by kernel_rfl) (by kernel_rfl) ⟨trivial, trivial, trivial⟩ (fun _ _ _ h => h) ?_
                        refine VA.va (i := 4) (listed' := LB 8 31) rfl (op_sliceS ((wrap64 (i1398 + 1)).toNat) a0.size Try.underlying9 rfl ⟨⟨_, _, rfl, c1998, rfl⟩, rfl, by omega, by omega⟩ rfl (ltn rfl)) rfl (by kernel_rfl) (by kernel_rfl) (by kernel_rfl) (by kernel_rfl) ⟨trivial, trivial, trivial⟩ (fun _ _ _ h => h) ?_
                        refine VA.va (i := 5) (listed' := LB 8 63) rfl (op_assign rfl (ltn rfl)) rfl (by kernel_rfl) (by kernel_rfl) (by kernel_rfl) (by kernel_rfl) ⟨trivial, trivial, trivial⟩ (fun _ _ _ h => h) ?_
                        refine VA.va (i := 6) (listed' := LB 8 127) rfl (op_assign rfl (ltn rfl)) rfl (by kernel_rfl) (by kernel_rfl) (by kernel_rfl) (by kernel_rfl) ⟨trivial, trivial, trivial⟩ (fun _ _ _ h => h) ?_
                        refine VA.va (i := 7) (listed' := LB 8 255) rfl (op_assign rfl (ltn rfl)) rfl (by kernel_rfl) (by kernel_rfl) (by kernel_rfl) (by kernel_rfl) ⟨trivial, trivial, trivial⟩ (fun _ _ _ h => h) ?_
                        refine VA.done (by kernel_rfl) ?_
                        exact VN.meet0  [] [] trivial ⟨rfl, ⟨rfl, rfl, rfl, rfl, rfl, rfl, rfl, rfl, rfl, rfl, rfl, rfl, rfl, rfl, rfl, rfl, rfl, rfl, rfl, rfl, rfl, rfl, rfl, rfl, rfl, rfl, rfl, rfl, rfl, rfl, rfl, rfl, rfl, rfl, rfl, rfl, rfl, rfl, rfl, rfl, rfl, rfl, rfl, rfl, rfl, rfl, trivial⟩, trivial, rfl, by decide, rfl, by decide⟩
                      intro _
                      refine VC.ret ?_
                      refine VR.block ?_
                      refine VR.then ?_
                      refine VR.then ?_
                      refine VR.block ?_
                      refine VR.then ?_
                      simp only [Option.some.injEq, Prod.mk.injEq] at h
                      obtain ⟨rfl, rfl, rfl⟩ := h
                      exact VR.fn (rs := [.tmp 2, .tmp 3, .tmp 4]) [] [] [] rfl (.tmp rfl (.tmp rfl (.tmp rfl .nil))) ⟨rfl, rfl, rfl⟩ trivial rfl (by decide)
                    · rw [if_neg c1999] at h; cases h
                  · rw [if_neg c1998] at h; cases h
                · rw [if_neg c1997] at h
                  obtain rfl := Bool.eq_false_iff.2 c1997
                  refine VL.va (op_not rfl rfl (ltn rfl)) rfl ?_
                  refine VL.va (op_pick rfl rfl (ltn rfl)) rfl ?_
                  refine VL.done ?_
                  refine VN.then ?_
                  refine VC.cond_t rfl ?_
                  refine VC.seq ?_
                  refine VC.region ?_
                  refine VL.va (op_assign rfl (ltn rfl)) rfl ?_
                  refine VL.va (op_assign rfl (ltn rfl)) rfl ?_
                  refine VL.va (op_assign rfl (ltn rfl)) rfl ?_
                  refine VL.done ?_
                  refine VN.then ?_
                  refine VC.ret ?_
                  refine VR.then ?_
                  refine VR.block ?_
                  refine VR.then ?_
                  refine VR.then ?_
                  refine VR.block ?_
                  refine VR.then ?_
                  simp only [Option.some.injEq, Prod.mk.injEq] at h
                  obtain ⟨rfl, rfl, rfl⟩ := h
                  exact VR.fn (rs := [.tmp 2, .tmp 3, .tmp 4]) [] [] [] rfl (.tmp rfl (.tmp rfl (.tmp rfl .nil))) ⟨rfl, rfl, rfl⟩ trivial rfl (by decide)
            · rw [if_neg c1992] at h
              obtain rfl : b1991 = false := hb1991.symm.trans (beq_eq_false_iff_ne.2 c1992)
              refine VL.un rfl rfl (ltn rfl) ?_
              refine VL.un rfl rfl (ltn rfl) ?_
              refine VL.va (op_pick rfl rfl (ltn rfl)) rfl ?_
              refine VL.va (op_move rfl (ltn rfl)) rfl ?_
              refine VL.va (op_move rfl (ltn rfl)) rfl ?_
              replace h := Option.bind_eq_some_iff.1 h
              obtain ⟨t2000, hA2001, h⟩ := h
              refine VL.sC (o_call0 FO24 (pack_may.ok i1959 t2000 hA2001) rfl rfl (ltn rfl) (All_of .nil)) rfl ?_
              rintro _ _ _ ⟨rfl, rfl, rfl⟩
              by_cases c2002 : t2000 = true
              · rw [if_pos c2002] at h
                obtain rfl := c2002
                refine VL.va (op_not rfl rfl (ltn rfl)) rfl ?_
                refine VL.va (op_pick rfl rfl (ltn rfl)) rfl ?_
                refine VL.done ?_
                refine VN.then ?_
                refine VC.cond_f rfl ?_
                refine VC.skip ?_
                refine VN.then ?_
                by_cases c2003 : 0 ≤ wrap64 (i1398 + 1)
                · rw [if_pos c2003] at h
                  by_cases c2004 : (wrap64 (i1398 + 1)) ≤ (a0.size : Int)
                  · rw [if_pos c2004] at h
                    refine VC.join0 (⟨56, [(0, .string a0), (2, .int .i64 i1959), (3, .string (a0.extract ((wrap64 (i1398 + 1)).toNat) a0.size)), (4, .int .i64 0), (5, .int .i64 (Go.bits .or .i64 i1397 (IntKind.i64.wrap (((wrap64 (bt a0 i1398)).tmod 128) * 2 ^ min (wrap64 (7 * i1398)).toNat IntKind.i64.bits)))), (6, .int .i64 i1398), (7, .int .i64 (wrap64 (bt a0 i1398))), (8, .int .i64 i1959), (11, .int .i64 (mn (a0.size : Int) 9)), (12, .int .i64 i1398), (13, .bool true), (14, .int .i64 i1398), (15, .string a0), (16, .int .i64 i1398), (17, .int .u8 (bt a0 i1398)), (18, .int .i64 (wrap64 (bt a0 i1398))), (19, .int .i64 i1397), (20, .int .i64 (wrap64 (bt a0 i1398))), (21, .int .i64 ((wrap64 (bt a0 i1398)).tmod 128)), (22, .int .i64 i1398), (23, .int .i64 (wrap64 (7 * i1398))), (24, .int .i64 (IntKind.i64.wrap (((wrap64 (bt a0 i1398)).tmod 128) * 2 ^ min (wrap64 (7 * i1398)).toNat IntKind.i64.bits))), (25, .int .i64 (Go.bits .or .i64 i1397 (IntKind.i64.wrap (((wrap64 (bt a0 i1398)).tmod 128) * 2 ^ min (wrap64 (7 * i1398)).toNat IntKind.i64.bits)))), (26, .int .i64 (wrap64 (bt a0 i1398))), (27, .bool false), (28, .int .i64 (Go.bits .or .i64 i1397 (IntKind.i64.wrap (((wrap64 (bt a0 i1398)).tmod 128) * 2 ^ min (wrap64 (7 * i1398)).toNat IntKind.i64.bits)))), (29, .int .i64 (IntKind.i64.wrap ((Go.bits .or .i64 i1397 (IntKind.i64.wrap (((wrap64 (bt a0 i1398)).tmod 128) * 2 ^ min (wrap64 (7 * i1398)).toNat IntKind.i64.bits))).tdiv 2))), (30, .int .i64 (Go.bits .or .i64 i1397 (IntKind.i64.wrap (((wrap64 (bt a0 i1398)).tmod 128) * 2 ^ min (wrap64 (7 * i1398)).toNat IntKind.i64.bits)))), (31, .int .i64 ((Go.bits .or .i64 i1397 (IntKind.i64.wrap (((wrap64 (bt a0 i1398)).tmod 128) * 2 ^ min (wrap64 (7 * i1398)).toNat IntKind.i64.bits))).tmod 2)), (32, .bool q1960), (36, .int .i64 (wrap64 (bt a0 i1398))), (37, .bool false), (38, .bool false), (39, undef), (40, undef), (41, .bool false), (42, .bool false), (43, .int .i64 i1959), (44, .bool true), (45, .bool false), (46, .bool false), (47, .int .i64 i1959), (48, .string a0), (49, .int .i64 i1398), (50, .int .i64 (wrap64 (i1398 + 1))), (51, .string (a0.extract ((wrap64 (i1398 + 1)).toNat) a0.size))], [], [], []⟩) (True) ?_ ?_
                    · refine VC.draw ⟨0, [], [], [], []⟩ (by kernel_rfl) rfl (by kernel_rfl) (n := 8) (listed := LB 8 0) ?_
                      refine VA.va (i := 0) (listed' := LB 8 1) rfl (op_move rfl (ltn rfl)) rfl (by kernel_rfl) (by kernel_rfl) (by kernel_rfl) (by kernel_rfl) ⟨trivial, trivial, trivial⟩ (fun _ _ _ h => h) ?_
                      refine VA.va (i := 1) (listed' := LB 8 3) rfl (op_move rfl (ltn rfl)) rfl (by kernel_rfl) (by kernel_rfl) (by kernel_rfl) (by kernel_rfl) ⟨trivial, trivial, trivial⟩ (fun _ _ _ h => h) ?_
                      refine VA.va (i := 2) (listed' := LB 8 7) rfl (op_move rfl (ltn rfl)) rfl (by kernel_rfl) (by kernel_rfl) (by kernel_rfl) (by kernel_rfl) ⟨trivial, trivial, trivial⟩ (fun _ _ _ h => h) ?_
                      refine VA.va (i := 3) (listed' := LB 8 15) rfl (op_ari64 rfl rfl rfl (ltn rfl)) rfl (by kernel_rfl) (by kernel_rfl) (by kernel_rfl) (by kernel_rfl) ⟨trivial, trivial, trivial⟩ (fun _ _ _ h => h) ?_
                      refine VA.va (i := 4) (listed' := LB 8 31) rfl (op_sliceS ((wrap64 (i1398 + 1)).toNat) a0.size Try.underlying9 rfl ⟨⟨_, _, rfl, c2003, rfl⟩, rfl, by omega, by omega⟩ rfl (ltn rfl)) rfl (by kernel_rfl) (by kernel_rfl) (by kernel_rfl) (by kernel_rfl) ⟨trivial, trivial, trivial⟩ (fun _ _ _ h => h) ?_
                      refine VA.va (i := 5) (listed' := LB 8 63) rfl (op_assign rfl (ltn rfl)) rfl (by kernel_rfl) (by kernel_rfl) (by kernel_rfl) (by kernel_rfl) ⟨trivial, trivial, trivial⟩ (fun _ _ _ h => h) ?_
                      refine VA.va (i := 6) (listed' := LB 8 127) rfl (op_assign rfl (ltn rfl)) rfl (by kernel_rfl) (by kernel_rfl) (by kernel_rfl) (by kernel_rfl) ⟨trivial, trivial, trivial⟩ (fun _ _ _ h => h) ?_
                      refine VA.va (i := 7) (listed' := LB 8 255) rfl (op_assign rfl (ltn rfl)) rfl (by kernel_rfl) (by kernel_rfl) (by kernel_rfl) (by kernel_rfl) ⟨trivial, trivial, trivial⟩ (fun _ _ _ h => h) ?_
                      refine VA.done (by kernel_rfl) ?_
                      exact VN.meet0  [] [] trivial ⟨rfl, ⟨rfl, rfl, rfl, rfl, rfl, rfl, rfl, rfl, rfl, rfl, rfl, rfl, rfl, rfl, rfl, rfl, rfl, rfl, rfl, rfl, rfl, rfl, rfl, rfl, rfl, rfl, rfl, rfl, rfl, rfl, rfl, rfl, rfl, rfl, rfl, rfl, rfl, rfl, rfl, rfl, rfl, rfl, rfl, rfl, rfl, rfl, trivial⟩, trivial, rfl, by decide, rfl, by decide⟩
                    intro _
                    refine VC.ret ?_
                    refine VR.block ?_
                    refine VR.then ?_
                    refine VR.then ?_
                    refine VR.block ?_
                    refine VR.then ?_
                    simp only [Option.some.injEq, Prod.mk.injEq] at h
                    obtain ⟨rfl, rfl, rfl⟩ := h
                    exact VR.fn (rs := [.tmp 2, .tmp 3, .tmp 4]) [] [] [] rfl (.tmp rfl (.tmp rfl (.tmp rfl .nil))) ⟨rfl, rfl, rfl⟩ trivial rfl (by decide)
                  · rw [if_neg c2004] at h; cases h
                · rw [if_neg c2003] at h; cases h
              · rw [if_neg c2002] at h
                obtain rfl := Bool.eq_false_iff.2 c2002
                refine VL.va (op_not rfl rfl (ltn rfl)) rfl ?_
                refine VL.va (op_pick rfl rfl (ltn rfl)) rfl ?_
                refine VL.done ?_
                refine VN.then ?_
                refine VC.cond_t rfl ?_
                refine VC.seq ?_
                refine VC.region ?_
                refine VL.va (op_assign rfl (ltn rfl)) rfl ?_
                refine VL.va (op_assign rfl (ltn rfl)) rfl ?_
                refine VL.va (op_assign rfl (ltn rfl)) rfl ?_
                refine VL.done ?_
                refine VN.then ?_
                refine VC.ret ?_
                refine VR.then ?_
                refine VR.block ?_
                refine VR.then ?_
                refine VR.then ?_
                refine VR.block ?_
                refine VR.then ?_
                simp only [Option.some.injEq, Prod.mk.injEq] at h
                obtain ⟨rfl, rfl, rfl⟩ := h
                exact VR.fn (rs := [.tmp 2, .tmp 3, .tmp 4]) [] [] [] rfl (.tmp rfl (.tmp rfl (.tmp rfl .nil))) ⟨rfl, rfl, rfl⟩ trivial rfl (by decide)
        · rw [if_neg c1858] at h; cases h
      · rw [if_neg c1857] at h; cases h
    · rw [if_neg c1856] at h; cases h
  · rw [if_neg c1706] at h
    obtain rfl : b1700 = false := hb1700.symm.trans (decide_eq_false c1706)
    refine VC.cond_f rfl ?_
    refine VC.exit ?_
    refine VX.then ?_
    refine VX.then ?_
    refine VX.hit ?_
    refine VN.then ?_
    refine VC.seq ?_
    refine VC.seq ?_
    refine VC.region ?_
    refine VL.va (op_move rfl (ltn rfl)) rfl ?_
    refine VL.va (op_lens Try.underlying9 rfl (ltn rfl)) rfl ?_
    refine VL.letter (decide ((a0.size : Int) ≥ 9)) fun b2007 hb2007 => ?_
    refine VL.va (op_cmp rfl rfl (congrArg some hb2007) (ltn rfl)) rfl ?_
    refine VL.done ?_
    refine VN.then ?_
    by_cases c2008 : (a0.size : Int) ≥ 9
    · rw [if_pos c2008] at h
      obtain rfl : b2007 = true := hb2007.symm.trans (decide_eq_true c2008)
      refine VC.cond_t rfl ?_
      refine VC.seq ?_
      refine VC.region ?_
      refine VL.va (op_assign rfl (ltn rfl)) rfl ?_
      refine VL.va (op_assign rfl (ltn rfl)) rfl ?_
      refine VL.va (op_assign rfl (ltn rfl)) rfl ?_
      refine VL.done ?_
      refine VN.then ?_
      refine VC.ret ?_
      refine VR.then ?_
      simp only [Option.some.injEq, Prod.mk.injEq] at h
      obtain ⟨rfl, rfl, rfl⟩ := h
      exact VR.fn (rs := [.tmp 2, .tmp 3, .tmp 4]) [] [] [] rfl (.tmp rfl (.tmp rfl (.tmp rfl .nil))) ⟨rfl, rfl, rfl⟩ trivial rfl (by decide)
    · rw [if_neg c2008] at h
      obtain rfl : b2007 = false := hb2007.symm.trans (decide_eq_false c2008)
      refine VC.cond_f rfl ?_
      refine VC.skip ?_
      refine VN.then ?_
      refine VC.seq ?_
      refine VC.region ?_
      refine VL.va (op_assign rfl (ltn rfl)) rfl ?_
      refine VL.va (op_assign rfl (ltn rfl)) rfl ?_
      refine VL.va (op_assign rfl (ltn rfl)) rfl ?_
      refine VL.done ?_
      refine VN.then ?_
      refine VC.ret ?_
      simp only [Option.some.injEq, Prod.mk.injEq] at h
      obtain ⟨rfl, rfl, rfl⟩ := h
      exact VR.fn (rs := [.tmp 2, .tmp 3, .tmp 4]) [] [] [] rfl (.tmp rfl (.tmp rfl (.tmp rfl .nil))) ⟨rfl, rfl, rfl⟩ trivial rfl (by decide)
set_option maxHeartbeats 4000000 in
set_option maxRecDepth 100000 in
theorem pack_count.ok (k : Nat) (a0 : ByteArray) (a1 : Int)  (r1 : Int) (r2 : ByteArray) (r3 : Int) (h : pack_count.f k a0 a1 = some (r1, r2, r3)) :
    VCalls Try.prog 30 [.string a0, .int .i64 a1] [] (fun v G own => v = .tuple #[.int .i64 r1, .string r2, .int .i64 r3] ∧ G = [] ∧ own = []) := by
  refine VCalls.intro Try.func30 rfl (len rfl) fun E hC hW hD hU => ?_
  unfold pack_count.f at h
  refine VC.seq ?_
  refine VC.region ?_
  refine VL.va (op_assign rfl (ltn rfl)) rfl ?_
  refine VL.va (op_assign rfl (ltn rfl)) rfl ?_
  refine VL.va (op_assign rfl (ltn rfl)) rfl ?_
  refine VL.done ?_
  refine VN.then ?_
  refine VC.seq ?_
  refine VC.region ?_
  refine VL.va (op_move rfl (ltn rfl)) rfl ?_
  replace h := Option.bind_eq_some_iff.1 h
  obtain ⟨⟨t2009, t2010, t2011⟩, hA2012, h⟩ := h
  dsimp only at h
  refine VL.sC (o_call0 FO9 (pack_ReadNumber.ok k a0 t2009 t2010 t2011 hA2012) rfl rfl (ltn rfl) (All_of .nil)) rfl ?_
  rintro _ _ _ ⟨rfl, rfl, rfl⟩
  refine VL.va (op_move rfl (ltn rfl)) rfl ?_
  refine VL.va (op_extract rfl rfl (ltn rfl)) rfl ?_
  refine VL.va (op_extract rfl rfl (ltn rfl)) rfl ?_
  refine VL.va (op_extract rfl rfl (ltn rfl)) rfl ?_
  refine VL.va (op_assign rfl (ltn rfl)) rfl ?_
  refine VL.va (op_assign rfl (ltn rfl)) rfl ?_
  refine VL.va (op_assign rfl (ltn rfl)) rfl ?_
  refine VL.done ?_
  refine VN.then ?_
  refine VC.seq ?_
  refine VC.block ?_
  refine VC.seq ?_
  refine VC.region ?_
  refine VL.va (op_move rfl (ltn rfl)) rfl ?_
  refine VL.letter ((t2011 != 0)) fun b2019 hb2019 => ?_
  refine VL.va (op_cmp rfl rfl (congrArg some hb2019) (ltn rfl)) rfl ?_
  refine VL.va (op_assign rfl (ltn rfl)) rfl ?_
  refine VL.done ?_
  refine VN.then ?_
  by_cases c2020 : t2011 = 0
  · rw [if_pos c2020] at h
    obtain rfl : b2019 = false := hb2019.symm.trans (bne_eq_false_iff_eq.2 c2020)
    refine VC.cond_f rfl ?_
    refine VC.seq ?_
    refine VC.region ?_
    refine VL.va (op_move rfl (ltn rfl)) rfl ?_
    refine VL.va (op_move rfl (ltn rfl)) rfl ?_
    refine VL.letter (decide (t2009 > a1)) fun b2021 hb2021 => ?_
    refine VL.va (op_cmp rfl rfl (congrArg some hb2021) (ltn rfl)) rfl ?_
    refine VL.va (op_assign rfl (ltn rfl)) rfl ?_
    refine VL.done ?_
    refine VN.then ?_
    by_cases c2022 : t2009 > a1
    · rw [if_pos c2022] at h
      obtain rfl : b2021 = true := hb2021.symm.trans (decide_eq_true c2022)
      refine VC.cond_t rfl ?_
      refine VC.seq ?_
      refine VC.region ?_
      refine VL.va (op_assign rfl (ltn rfl)) rfl ?_
      refine VL.va (op_assign rfl (ltn rfl)) rfl ?_
      refine VL.va (op_assign rfl (ltn rfl)) rfl ?_
      refine VL.done ?_
      refine VN.then ?_
      refine VC.ret ?_
      refine VR.block ?_
      refine VR.then ?_
      simp only [Option.some.injEq, Prod.mk.injEq] at h
      obtain ⟨rfl, rfl, rfl⟩ := h
      exact VR.fn (rs := [.tmp 4, .tmp 5, .tmp 6]) [] [] [] rfl (.tmp rfl (.tmp rfl (.tmp rfl .nil))) ⟨rfl, rfl, rfl⟩ trivial rfl (by decide)
    · rw [if_neg c2022] at h
      obtain rfl : b2021 = false := hb2021.symm.trans (decide_eq_false c2022)
      refine VC.cond_f rfl ?_
      refine VC.seq ?_
      refine VC.region ?_
      refine VL.va (op_move rfl (ltn rfl)) rfl ?_
      refine VL.letter (decide (t2009 < 0)) fun b2023 hb2023 => ?_
      refine VL.va (op_cmp rfl rfl (congrArg some hb2023) (ltn rfl)) rfl ?_
      refine VL.va (op_assign rfl (ltn rfl)) rfl ?_
      refine VL.done ?_
      refine VN.then ?_
      by_cases c2024 : t2009 < 0
      · rw [if_pos c2024] at h
        obtain rfl : b2023 = true := hb2023.symm.trans (decide_eq_true c2024)
        refine VC.cond_t rfl ?_
        refine VC.seq ?_
        refine VC.region ?_
        refine VL.va (op_assign rfl (ltn rfl)) rfl ?_
        refine VL.va (op_assign rfl (ltn rfl)) rfl ?_
        refine VL.va (op_assign rfl (ltn rfl)) rfl ?_
        refine VL.done ?_
        refine VN.then ?_
        refine VC.ret ?_
        refine VR.block ?_
        refine VR.then ?_
        simp only [Option.some.injEq, Prod.mk.injEq] at h
        obtain ⟨rfl, rfl, rfl⟩ := h
        exact VR.fn (rs := [.tmp 4, .tmp 5, .tmp 6]) [] [] [] rfl (.tmp rfl (.tmp rfl (.tmp rfl .nil))) ⟨rfl, rfl, rfl⟩ trivial rfl (by decide)
      · rw [if_neg c2024] at h
        obtain rfl : b2023 = false := hb2023.symm.trans (decide_eq_false c2024)
        refine VC.cond_f rfl ?_
        refine VC.skip ?_
        refine VN.block ?_
        refine VN.then ?_
        refine VC.seq ?_
        refine VC.region ?_
        refine VL.va (op_move rfl (ltn rfl)) rfl ?_
        refine VL.va (op_move rfl (ltn rfl)) rfl ?_
        refine VL.va (op_assign rfl (ltn rfl)) rfl ?_
        refine VL.va (op_assign rfl (ltn rfl)) rfl ?_
        refine VL.va (op_assign rfl (ltn rfl)) rfl ?_
        refine VL.done ?_
        refine VN.then ?_
        refine VC.ret ?_
        simp only [Option.some.injEq, Prod.mk.injEq] at h
        obtain ⟨rfl, rfl, rfl⟩ := h
        exact VR.fn (rs := [.tmp 4, .tmp 5, .tmp 6]) [] [] [] rfl (.tmp rfl (.tmp rfl (.tmp rfl .nil))) ⟨rfl, rfl, rfl⟩ trivial rfl (by decide)
  · rw [if_neg c2020] at h
    obtain rfl : b2019 = true := hb2019.symm.trans (bne_iff_ne.2 c2020)
    refine VC.cond_t rfl ?_
    refine VC.seq ?_
    refine VC.region ?_
    refine VL.va (op_move rfl (ltn rfl)) rfl ?_
    refine VL.va (op_assign rfl (ltn rfl)) rfl ?_
    refine VL.va (op_assign rfl (ltn rfl)) rfl ?_
    refine VL.va (op_assign rfl (ltn rfl)) rfl ?_
    refine VL.done ?_
    refine VN.then ?_
    refine VC.ret ?_
    refine VR.block ?_
    refine VR.then ?_
    simp only [Option.some.injEq, Prod.mk.injEq] at h
    obtain ⟨rfl, rfl, rfl⟩ := h
    exact VR.fn (rs := [.tmp 4, .tmp 5, .tmp 6]) [] [] [] rfl (.tmp rfl (.tmp rfl (.tmp rfl .nil))) ⟨rfl, rfl, rfl⟩ trivial rfl (by decide)
set_option maxHeartbeats 4000000 in
set_option maxRecDepth 100000 in
theorem pack_ReadRow.ok (k : Nat) (a0 : ByteArray)  (r1 : List ByteArray) (r2 : Int) (h : pack_ReadRow.f k a0 = some (r1, r2)) :
    VCalls Try.prog 19 [.string a0] [] (fun v G own => ∃ w0 : Value, v = .tuple #[w0, .int .i64 r2] ∧ G = [] ∧ own = [(w0, 9, 1, r1.map enc_str)]) := by
  refine VCalls.intro Try.func19 rfl (len rfl) fun E hC hW hD hU => ?_
  unfold pack_ReadRow.f at h
  refine VC.seq ?_
  refine VC.region ?_
  refine VL.va (op_assign rfl (ltn rfl)) rfl ?_
  refine VL.va (op_assign rfl (ltn rfl)) rfl ?_
  refine VL.done ?_
  refine VN.then ?_
  refine VC.seq ?_
  refine VC.region ?_
  refine VL.va (op_move rfl (ltn rfl)) rfl ?_
  replace h := Option.bind_eq_some_iff.1 h
  obtain ⟨⟨t2025, t2026, t2027⟩, hA2028, h⟩ := h
  dsimp only at h
  refine VL.sC (o_call0 FO30 (pack_count.ok k a0 256 t2025 t2026 t2027 hA2028) rfl rfl (ltn rfl) (All_of .nil)) rfl ?_
  rintro _ _ _ ⟨rfl, rfl, rfl⟩
  refine VL.va (op_move rfl (ltn rfl)) rfl ?_
  refine VL.va (op_extract rfl rfl (ltn rfl)) rfl ?_
  refine VL.va (op_extract rfl rfl (ltn rfl)) rfl ?_
  refine VL.va (op_extract rfl rfl (ltn rfl)) rfl ?_
  refine VL.va (op_assign rfl (ltn rfl)) rfl ?_
  refine VL.va (op_assign rfl (ltn rfl)) rfl ?_
  refine VL.va (op_assign rfl (ltn rfl)) rfl ?_
  refine VL.done ?_
  refine VN.then ?_
  refine VC.seq ?_
  refine VC.seq ?_
  refine VC.region ?_
  refine VL.va (op_move rfl (ltn rfl)) rfl ?_
  refine VL.letter ((t2027 != 0)) fun b2032 hb2032 => ?_
  refine VL.va (op_cmp rfl rfl (congrArg some hb2032) (ltn rfl)) rfl ?_
  refine VL.done ?_
  refine VN.then ?_
  by_cases c2033 : t2027 = 0
  · rw [if_pos c2033] at h
    obtain rfl : b2032 = false := hb2032.symm.trans (bne_eq_false_iff_eq.2 c2033)
    refine VC.cond_f rfl ?_
    refine VC.skip ?_
    refine VN.then ?_
    refine VC.seq ?_
    refine VC.region ?_
    refine VL.va (op_assign rfl (ltn rfl)) rfl ?_
    refine VL.done ?_
    refine VN.then ?_
    refine VC.seq ?_
    refine VC.seq ?_
    refine VC.region ?_
    refine VL.va (op_move rfl (ltn rfl)) rfl ?_
    refine VL.va (op_move rfl (ltn rfl)) rfl ?_
    refine VL.done ?_
    refine VN.then ?_
    refine VC.block ?_
    refine VC.nilRow' 9 1 ?_
    refine VC.loop4 (fun (s2216 : ByteArray) (v2218 : Value) (l2219 : List ByteArray) (i2221 : Int) => ⟨50, [(0, .string s2216), (2, .slice none 0 0), (3, .int .i64 0), (6, v2218), (19, .int .i64 t2025), (20, .int .i64 i2221)], [], [], [(v2218, 9, 1, l2219.map enc_str)]⟩) (fun (ml1 : Nat) (s2216 : ByteArray) (v2218 : Value) (l2219 : List ByteArray) (i2221 : Int) => pack_ReadRow.l1 k t2025 ml1 s2216 l2219 i2221 = some (r1, r2)) k t2026 (.slice none 0 0) ([] : List ByteArray) 0 [] [0] h ⟨rfl, ⟨rfl, rfl, rfl, rfl, rfl, rfl, trivial⟩, trivial, rfl, by decide, rfl, by decide⟩ (by intros; simp [pack_ReadRow.l1]) ?_
    clear h
    intro ml1 ihl1 s2216 v2218 l2219 i2221 h
    simp only [pack_ReadRow.l1] at h
    refine VC.seq ?_
    refine VC.region ?_
    refine VL.letter (decide (i2221 < t2025)) fun b2263 hb2263 => ?_
    refine VL.va (op_cmp rfl rfl (congrArg some hb2263) (ltn rfl)) rfl ?_
    refine VL.done ?_
    refine VN.then ?_
    refine VC.seq ?_
    by_cases c2271 : i2221 < t2025
    · rw [if_pos c2271] at h
      obtain rfl : b2263 = true := hb2263.symm.trans (decide_eq_true c2271)
      refine VC.cond_t rfl ?_
      refine VC.skip ?_
      refine VN.then ?_
      refine VC.seq ?_
      refine VC.block ?_
      refine VC.seq ?_
      refine VC.region ?_
      refine VL.va (op_move rfl (ltn rfl)) rfl ?_
      replace h := Option.bind_eq_some_iff.1 h
      obtain ⟨⟨t2295, t2296, t2297⟩, hA2298, h⟩ := h
      dsimp only at h
      refine VL.sC (o_call0 FO30 (pack_count.ok k s2216 4096 t2295 t2296 t2297 hA2298) rfl rfl (ltn rfl) (All_of .nil)) rfl ?_
      rintro _ _ _ ⟨rfl, rfl, rfl⟩
      refine VL.va (op_move rfl (ltn rfl)) rfl ?_
      refine VL.va (op_extract rfl rfl (ltn rfl)) rfl ?_
      refine VL.va (op_extract rfl rfl (ltn rfl)) rfl ?_
      refine VL.va (op_extract rfl rfl (ltn rfl)) rfl ?_
      refine VL.va (op_assign rfl (ltn rfl)) rfl ?_
      refine VL.va (op_assign rfl (ltn rfl)) rfl ?_
      refine VL.va (op_assign rfl (ltn rfl)) rfl ?_
      refine VL.done ?_
      refine VN.then ?_
      refine VC.seq ?_
      refine VC.block ?_
      refine VC.seq ?_
      refine VC.region ?_
      refine VL.va (op_move rfl (ltn rfl)) rfl ?_
      refine VL.letter ((t2297 != 0)) fun b2305 hb2305 => ?_
      refine VL.va (op_cmp rfl rfl (congrArg some hb2305) (ltn rfl)) rfl ?_
      refine VL.va (op_assign rfl (ltn rfl)) rfl ?_
      refine VL.done ?_
      refine VN.then ?_
      by_cases c2306 : t2297 = 0
      · rw [if_pos c2306] at h
        obtain rfl : b2305 = false := hb2305.symm.trans (bne_eq_false_iff_eq.2 c2306)
        refine VC.cond_f rfl ?_
        refine VC.seq ?_
        refine VC.region ?_
        refine VL.va (op_move rfl (ltn rfl)) rfl ?_
        refine VL.va (op_move rfl (ltn rfl)) rfl ?_
        refine VL.va (op_lens Try.underlying9 rfl (ltn rfl)) rfl ?_
        refine VL.letter (decide (t2295 > (t2296.size : Int))) fun b2307 hb2307 => ?_
        refine VL.va (op_cmp rfl rfl (congrArg some hb2307) (ltn rfl)) rfl ?_
        refine VL.va (op_assign rfl (ltn rfl)) rfl ?_
        refine VL.done ?_
        refine VN.then ?_
        by_cases c2308 : t2295 > (t2296.size : Int)
        · rw [if_pos c2308] at h
          obtain rfl : b2307 = true := hb2307.symm.trans (decide_eq_true c2308)
          refine VC.cond_t rfl ?_
          refine VC.seq ?_
          refine VC.region ?_
          refine VL.va (op_assign rfl (ltn rfl)) rfl ?_
          refine VL.va (op_assign rfl (ltn rfl)) rfl ?_
          refine VL.done ?_
          refine VN.then ?_
          refine VC.ret ?_
          refine VR.block ?_
          refine VR.then ?_
          refine VR.block ?_
          refine VR.then ?_
          refine VR.then ?_
          refine VR.block ?_
          refine VR.then ?_
          simp only [Option.some.injEq, Prod.mk.injEq] at h
          obtain ⟨rfl, rfl⟩ := h
          refine VR.nilRow' 9 1 ?_
          exact VR.fn (rs := [.tmp 2, .tmp 3]) [] [((.slice none 0 0), 9, 1, ([] : List ByteArray).map enc_str)] [0] rfl (.tmp rfl (.tmp rfl .nil)) ⟨(.slice none 0 0), rfl, rfl, rfl⟩ trivial rfl (by decide)
        · rw [if_neg c2308] at h
          obtain rfl : b2307 = false := hb2307.symm.trans (decide_eq_false c2308)
          refine VC.cond_f rfl ?_
          refine VC.skip ?_
          refine VN.block ?_
          refine VN.then ?_
          by_cases c2310 : 0 ≤ t2295
          · rw [if_pos c2310] at h
            by_cases c2311 : t2295 ≤ (t2296.size : Int)
            · rw [if_pos c2311] at h
              by_cases c2314 : (l2219.length + ([t2296.extract 0 t2295.toNat] : List ByteArray).length) * 16 ≤ 140737488355328
              · rw [if_pos c2314] at h
                refine VC.stop2 (fun (v2315 : Value) (v2313 : Value) => ⟨50, [(0, .string (t2296.extract t2295.toNat t2296.size)), (2, .slice none 0 0), (3, .int .i64 0), (6, v2315), (7, .int .i64 t2295), (8, .string t2296), (9, .int .i64 t2297), (19, .int .i64 t2025), (20, .int .i64 i2221), (21, .bool true), (22, .tuple #[.int .i64 t2295, .string t2296, .int .i64 t2297]), (23, .string s2216), (24, .tuple #[.int .i64 t2295, .string t2296, .int .i64 t2297]), (25, .int .i64 t2295), (26, .string t2296), (27, .int .i64 t2297), (28, .bool false), (29, .int .i64 t2297), (30, .bool false), (32, .bool false), (33, .int .i64 t2295), (34, .string t2296), (35, .int .i64 (t2296.size : Int)), (36, .bool false), (38, .string t2296), (39, .int .i64 t2295), (40, .string (t2296.extract 0 t2295.toNat)), (41, v2313), (42, v2315), (43, .string t2296), (44, .int .i64 t2295), (45, .string (t2296.extract t2295.toNat t2296.size))], [], [], [(v2313, 9, 1, ([t2296.extract 0 t2295.toNat] : List ByteArray).map enc_str), (v2315, 9, 1, (l2219 ++ ([t2296.extract 0 t2295.toNat] : List ByteArray)).map enc_str)]⟩) (fun (v2315 : Value) (v2313 : Value) => True) ?_ ?_
                · refine VC.draw ⟨0, [], [], [], []⟩ (by kernel_rfl) rfl (by kernel_rfl) (n := 11) (listed := LB 11 0) ?_
                  refine VA.va (i := 1) (listed' := LB 11 2) rfl (op_move rfl (ltn rfl)) rfl (by kernel_rfl) (by kernel_rfl) (by kernel_rfl) (by kernel_rfl) ⟨trivial, trivial, trivial⟩ (fun _ _ _ h => h) ?_
                  refine VA.va (i := 2) (listed' := LB 11 6) rfl (op_move rfl (ltn rfl)) rfl (by kernel_rfl) (by kernel_rfl) (by kernel_rfl) (by kernel_rfl) ⟨trivial, trivial, trivial⟩ (fun _ _ _ h => h) ?_
                  refine VA.va (i := 3) (listed' := LB 11 14) rfl (op_sliceS 0 t2295.toNat Try.underlying9 rfl ⟨rfl, ⟨_, _, rfl, c2310, rfl⟩, by omega, by omega⟩ rfl (ltn rfl)) rfl (by kernel_rfl) (by kernel_rfl) (by kernel_rfl) (by kernel_rfl) ⟨trivial, trivial, trivial⟩ (fun _ _ _ h => h) ?_
                  refine VA.va (i := 6) (listed' := LB 11 78) rfl (op_move rfl (ltn rfl)) rfl (by kernel_rfl) (by kernel_rfl) (by kernel_rfl) (by kernel_rfl) ⟨trivial, trivial, trivial⟩ (fun _ _ _ h => h) ?_
                  refine VA.va (i := 7) (listed' := LB 11 206) rfl (op_move rfl (ltn rfl)) rfl (by kernel_rfl) (by kernel_rfl) (by kernel_rfl) (by kernel_rfl) ⟨trivial, trivial, trivial⟩ (fun _ _ _ h => h) ?_
                  refine VA.va (i := 8) (listed' := LB 11 462) rfl (op_sliceS t2295.toNat t2296.size Try.underlying9 rfl ⟨⟨_, _, rfl, c2310, rfl⟩, rfl, by omega, by omega⟩ rfl (ltn rfl)) rfl (by kernel_rfl) (by kernel_rfl) (by kernel_rfl) (by kernel_rfl) ⟨trivial, trivial, trivial⟩ (fun _ _ _ h => h) ?_
                  refine VA.all [0, 4] (by kernel_rfl) (by simp) ?_
                  refine VAll.cons1 (listed' := LB 11 463) rfl ((op_move rfl (ltn rfl)).op1') rfl (by kernel_rfl) ⟨trivial, trivial, trivial⟩ ?_ ?_
                  · refine VA.oneG (i := 4) (listed' := LB 11 479) (by kernel_rfl) rfl (o_buildSlice (vals := [(0, .string (t2296.extract 0 t2295.toNat))]) (cells := #[.string (t2296.extract 0 t2295.toNat)]) (es := List.map enc_str ([t2296.extract 0 t2295.toNat] : List ByteArray)) Try.underlying39 TI9 Z9 rfl (by decide) (by decide) (by kernel_rfl) (by kernel_rfl) rfl (flat_map enc_str_ok _) (ltn rfl)) rfl (by kernel_rfl) (fun _ => ⟨trivial, trivial, trivial⟩) ?_
                    intro v2313
                    refine VA.oneG (i := 5) (listed' := LB 11 511) (by kernel_rfl) rfl (o_append 1 appm Try.underlying39 EI9 rfl rfl rfl (.inr ⟨0, _, rfl⟩) (bndm c2314) (ltn rfl)) rfl (by kernel_rfl) (fun _ => ⟨trivial, trivial, trivial⟩) ?_
                    intro v2315
                    refine VA.more ⟨0, [], [], [], [(v2315, 9, 1, (l2219 ++ ([t2296.extract 0 t2295.toNat] : List ByteArray)).map enc_str)]⟩ ⟨trivial, trivial, trivial⟩ ?_
                    refine VA.va (i := 9) (listed' := LB 11 1023) rfl (op_assign rfl (ltn rfl)) rfl (by kernel_rfl) (by kernel_rfl) (by kernel_rfl) (by kernel_rfl) ⟨trivial, trivial, ⟨⟨1, rfl⟩, trivial⟩⟩ (fun _ _ _ h => h) ?_
                    refine VA.va (i := 10) (listed' := LB 11 2047) rfl (op_assign rfl (ltn rfl)) rfl (by kernel_rfl) (by kernel_rfl) (by kernel_rfl) (by kernel_rfl) ⟨trivial, trivial, ⟨⟨1, rfl⟩, trivial⟩⟩ (fun _ _ _ h => h) ?_
                    refine VA.done (by kernel_rfl) ?_
                    exact VN.meet2 v2315 v2313 [] [0, 1] trivial ⟨rfl, ⟨rfl, rfl, rfl, rfl, rfl, rfl, rfl, rfl, rfl, rfl, rfl, rfl, rfl, rfl, rfl, rfl, rfl, rfl, rfl, rfl, rfl, rfl, rfl, rfl, rfl, rfl, rfl, rfl, rfl, rfl, rfl, rfl, trivial⟩, trivial, rfl, by decide, rfl, by decide⟩
                  refine VAll.consG (listed' := LB 11 478) rfl (o_buildSlice (vals := [(0, .string (t2296.extract 0 t2295.toNat))]) (cells := #[.string (t2296.extract 0 t2295.toNat)]) (es := List.map enc_str ([t2296.extract 0 t2295.toNat] : List ByteArray)) Try.underlying39 TI9 Z9 rfl (by decide) (by decide) (by kernel_rfl) (by kernel_rfl) rfl (flat_map enc_str_ok _) (ltn rfl)) rfl (by kernel_rfl) (fun _ => ⟨trivial, trivial, trivial⟩) ?_ VAll.nil
                  intro v2313
                  refine VA.one1 (i := 0) (listed' := LB 11 479) (by kernel_rfl) rfl ((op_move rfl (ltn rfl)).op1') rfl (by kernel_rfl) ⟨trivial, trivial, trivial⟩ ?_
                  refine VA.oneG (i := 5) (listed' := LB 11 511) (by kernel_rfl) rfl (o_append 1 appm Try.underlying39 EI9 rfl rfl rfl (.inr ⟨0, _, rfl⟩) (bndm c2314) (ltn rfl)) rfl (by kernel_rfl) (fun _ => ⟨trivial, trivial, trivial⟩) ?_
                  intro v2315
                  refine VA.more ⟨0, [], [], [], [(v2315, 9, 1, (l2219 ++ ([t2296.extract 0 t2295.toNat] : List ByteArray)).map enc_str)]⟩ ⟨trivial, trivial, trivial⟩ ?_
                  refine VA.va (i := 9) (listed' := LB 11 1023) rfl (op_assign rfl (ltn rfl)) rfl (by kernel_rfl) (by kernel_rfl) (by kernel_rfl) (by kernel_rfl) ⟨trivial, trivial, ⟨⟨1, rfl⟩, trivial⟩⟩ (fun _ _ _ h => h) ?_
                  refine VA.va (i := 10) (listed' := LB 11 2047) rfl (op_assign rfl (ltn rfl)) rfl (by kernel_rfl) (by kernel_rfl) (by kernel_rfl) (by kernel_rfl) ⟨trivial, trivial, ⟨⟨1, rfl⟩, trivial⟩⟩ (fun _ _ _ h => h) ?_
                  refine VA.done (by kernel_rfl) ?_
                  exact VN.meet2 v2315 v2313 [] [0, 1] trivial ⟨rfl, ⟨rfl, rfl, rfl, rfl, rfl, rfl, rfl, rfl, rfl, rfl, rfl, rfl, rfl, rfl, rfl, rfl, rfl, rfl, rfl, rfl, rfl, rfl, rfl, rfl, rfl, rfl, rfl, rfl, rfl, rfl, rfl, rfl, trivial⟩, trivial, rfl, by decide, rfl, by decide⟩
                intro v2315 v2313 _
                refine VN.block ?_
                refine VN.then ?_
                refine VC.region ?_
                refine VL.va (op_ari64 rfl rfl rfl (ltn rfl)) rfl ?_
                refine VL.va (op_move rfl (ltn rfl)) rfl ?_
                refine VL.done ?_
                refine VN.again [] [1] (ihl1 (t2296.extract t2295.toNat t2296.size) v2315 (l2219 ++ ([t2296.extract 0 t2295.toNat] : List ByteArray)) (wrap64 (i2221 + 1)) h) ⟨rfl, ⟨rfl, rfl, rfl, rfl, rfl, rfl, trivial⟩, trivial, rfl, by decide, rfl, by decide⟩
              · rw [if_neg c2314] at h; cases h
            · rw [if_neg c2311] at h; cases h
          · rw [if_neg c2310] at h; cases h
      · rw [if_neg c2306] at h
        obtain rfl : b2305 = true := hb2305.symm.trans (bne_iff_ne.2 c2306)
        refine VC.cond_t rfl ?_
        refine VC.seq ?_
        refine VC.region ?_
        refine VL.va (op_move rfl (ltn rfl)) rfl ?_
        refine VL.va (op_assign rfl (ltn rfl)) rfl ?_
        refine VL.va (op_assign rfl (ltn rfl)) rfl ?_
        refine VL.done ?_
        refine VN.then ?_
        refine VC.ret ?_
        refine VR.block ?_
        refine VR.then ?_
        refine VR.block ?_
        refine VR.then ?_
        refine VR.then ?_
        refine VR.block ?_
        refine VR.then ?_
        simp only [Option.some.injEq, Prod.mk.injEq] at h
        obtain ⟨rfl, rfl⟩ := h
        refine VR.nilRow' 9 1 ?_
        exact VR.fn (rs := [.tmp 2, .tmp 3]) [] [((.slice none 0 0), 9, 1, ([] : List ByteArray).map enc_str)] [0] rfl (.tmp rfl (.tmp rfl .nil)) ⟨(.slice none 0 0), rfl, rfl, rfl⟩ trivial rfl (by decide)
    · rw [if_neg c2271] at h
      obtain rfl : b2263 = false := hb2263.symm.trans (decide_eq_false c2271)
      refine VC.cond_f rfl ?_
      refine VC.exit ?_
      refine VX.then ?_
      refine VX.then ?_
      refine VX.hit ?_
      refine VN.then ?_
      refine VC.seq ?_
      refine VC.seq ?_
      refine VC.region ?_
      refine VL.va (op_move rfl (ltn rfl)) rfl ?_
      refine VL.letter ((s2216 != (⟨#[]⟩ : ByteArray))) fun b2321 hb2321 => ?_
      refine VL.va (op_cmps rfl rfl (congrArg some hb2321) (ltn rfl)) rfl ?_
      refine VL.done ?_
      refine VN.then ?_
      by_cases c2322 : (s2216 == (⟨#[]⟩ : ByteArray)) = true
      · rw [if_pos c2322] at h
        obtain rfl : b2321 = false := hb2321.symm.trans (bne_of_t c2322)
        refine VC.cond_f rfl ?_
        refine VC.skip ?_
        refine VN.then ?_
        refine VC.seq ?_
        refine VC.region ?_
        refine VL.va (op_move rfl (ltn rfl)) rfl ?_
        refine VL.va (op_assign rfl (ltn rfl)) rfl ?_
        refine VL.va (op_assign rfl (ltn rfl)) rfl ?_
        refine VL.done ?_
        refine VN.then ?_
        refine VC.ret ?_
        simp only [Option.some.injEq, Prod.mk.injEq] at h
        obtain ⟨rfl, rfl⟩ := h
        exact VR.fn (rs := [.tmp 2, .tmp 3]) [] [(v2218, 9, 1, l2219.map enc_str)] [0] rfl (.tmp rfl (.tmp rfl .nil)) ⟨v2218, rfl, rfl, rfl⟩ trivial rfl (by decide)
      · rw [if_neg c2322] at h
        obtain rfl : b2321 = true := hb2321.symm.trans (bne_of_f c2322)
        refine VC.cond_t rfl ?_
        refine VC.seq ?_
        refine VC.region ?_
        refine VL.va (op_assign rfl (ltn rfl)) rfl ?_
        refine VL.va (op_assign rfl (ltn rfl)) rfl ?_
        refine VL.done ?_
        refine VN.then ?_
        refine VC.ret ?_
        refine VR.then ?_
        simp only [Option.some.injEq, Prod.mk.injEq] at h
        obtain ⟨rfl, rfl⟩ := h
        refine VR.nilRow' 9 1 ?_
        exact VR.fn (rs := [.tmp 2, .tmp 3]) [] [((.slice none 0 0), 9, 1, ([] : List ByteArray).map enc_str)] [0] rfl (.tmp rfl (.tmp rfl .nil)) ⟨(.slice none 0 0), rfl, rfl, rfl⟩ trivial rfl (by decide)
  · rw [if_neg c2033] at h
    obtain rfl : b2032 = true := hb2032.symm.trans (bne_iff_ne.2 c2033)
    refine VC.cond_t rfl ?_
    refine VC.seq ?_
    refine VC.region ?_
    refine VL.va (op_move rfl (ltn rfl)) rfl ?_
    refine VL.va (op_assign rfl (ltn rfl)) rfl ?_
    refine VL.va (op_assign rfl (ltn rfl)) rfl ?_
    refine VL.done ?_
    refine VN.then ?_
    refine VC.ret ?_
    refine VR.then ?_
    simp only [Option.some.injEq, Prod.mk.injEq] at h
    obtain ⟨rfl, rfl⟩ := h
    refine VR.nilRow' 9 1 ?_
    exact VR.fn (rs := [.tmp 2, .tmp 3]) [] [((.slice none 0 0), 9, 1, ([] : List ByteArray).map enc_str)] [0] rfl (.tmp rfl (.tmp rfl .nil)) ⟨(.slice none 0 0), rfl, rfl, rfl⟩ trivial rfl (by decide)
set_option maxHeartbeats 4000000 in
set_option maxRecDepth 100000 in
theorem tarryref01_May.ok (a0 : Int)  (r1 : Bool) (h : tarryref01_May.f a0 = some r1) :
    VCalls Try.prog 12 [.int .i64 a0] [] (fun v G own => v = .bool r1 ∧ G = [] ∧ own = []) := by
  refine VCalls.intro Try.func12 rfl (len rfl) fun E hC hW hD hU => ?_
  unfold tarryref01_May.f at h
  refine VC.seq ?_
  refine VC.region ?_
  refine VL.va (op_assign rfl (ltn rfl)) rfl ?_
  refine VL.done ?_
  refine VN.then ?_
  refine VC.seq ?_
  refine VC.region ?_
  refine VL.va (op_move rfl (ltn rfl)) rfl ?_
  refine VL.letter (decide (a0 ≥ (-1152921504606846976))) fun b2570 hb2570 => ?_
  refine VL.va (op_cmp rfl rfl (congrArg some hb2570) (ltn rfl)) rfl ?_
  refine VL.va (op_move rfl (ltn rfl)) rfl ?_
  by_cases c2571 : a0 ≥ (-1152921504606846976)
  · rw [if_pos c2571] at h
    obtain rfl : b2570 = true := hb2570.symm.trans (decide_eq_true c2571)
    refine VL.va (op_move rfl (ltn rfl)) rfl ?_
    refine VL.letter (decide (a0 ≤ 1152921504606846976)) fun b2572 hb2572 => ?_
    refine VL.va (op_cmp rfl rfl (congrArg some hb2572) (ltn rfl)) rfl ?_
    refine VL.va (op_pick rfl rfl (ltn rfl)) rfl ?_
    refine VL.va (op_assign rfl (ltn rfl)) rfl ?_
    refine VL.done ?_
    refine VN.then ?_
    refine VC.ret ?_
    obtain rfl := Option.some.inj h
    subst hb2572
    exact VR.fn (rs := [.tmp 2]) [] [] [] rfl (.tmp rfl .nil) ⟨rfl, rfl, rfl⟩ trivial rfl (by decide)
  · rw [if_neg c2571] at h
    obtain rfl : b2570 = false := hb2570.symm.trans (decide_eq_false c2571)
    refine VL.un rfl rfl (ltn rfl) ?_
    refine VL.un rfl rfl (ltn rfl) ?_
    refine VL.va (op_pick rfl rfl (ltn rfl)) rfl ?_
    refine VL.va (op_assign rfl (ltn rfl)) rfl ?_
    refine VL.done ?_
    refine VN.then ?_
    refine VC.ret ?_
    obtain rfl := Option.some.inj h
    exact VR.fn (rs := [.tmp 2]) [] [] [] rfl (.tmp rfl .nil) ⟨rfl, rfl, rfl⟩ trivial rfl (by decide)

end Go.Proofs.Ytacenfolbmdpoaa.PPackRows
