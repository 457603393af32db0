/- Written by a program of this repo: what the program's functions do, each as a Lean function, shown of the loaded code; or a statement's row over that; no condition of its own. -/
import Derived.Test.YtaolaicmfjdmhaaPFrameScansx6
namespace Go.Proofs.Ytaolaicmfjdmhaa.PFrameScans
open Go Go.RowKit Go.Proofs.YtaolaicmfjdmhaaV
set_option linter.unusedVariables false
set_option linter.unusedSimpArgs false

set_option maxHeartbeats 4000000 in
set_option maxRecDepth 100000 in
theorem tarrylaw04_FrameScans.ok (k : Nat) (a0 : ByteArray) (a1 : ByteArray)  (r1 : Bool) (h : tarrylaw04_FrameScans.f k a0 a1 = some r1) :
    VCalls Try.prog 5 [.string a0, .string a1] [] (fun v G own => v = .bool r1 ∧ G = [] ∧ own = []) := by
  refine VCalls.intro Try.func5 rfl (len rfl) fun E hC hW hD => ?_
  unfold tarrylaw04_FrameScans.f at h
  refine VC.seq ?_
  refine VC.region ?_
  refine VL.va (op_assign rfl (ltn rfl)) rfl ?_
  refine VL.done ?_
  refine VN.then ?_
  by_cases c1 : 0 ≤ mn (a0.size : Int) 4100
  · rw [if_pos c1] at h
    by_cases c2 : (mn (a0.size : Int) 4100) ≤ (a0.size : Int)
    · rw [if_pos c2] at h
      by_cases c3 : 0 ≤ mn (a1.size : Int) 9000
      · rw [if_pos c3] at h
        by_cases c4 : (mn (a1.size : Int) 9000) ≤ (a1.size : Int)
        · rw [if_pos c4] at h
          refine VC.join0 (⟨108, [(0, .string (a0.extract 0 ((mn (a0.size : Int) 4100).toNat))), (1, .string (a1.extract 0 ((mn (a1.size : Int) 9000).toNat))), (4, .bool false)], [], [], []⟩) (True) ?_ ?_
          · refine VC.draw ⟨0, [], [], [], []⟩ (by kernel_rfl) rfl (by kernel_rfl) (n := 12) (listed := LB 12 0) ?_
            refine VA.va (i := 0) (listed' := LB 12 1) rfl (op_move rfl (ltn rfl)) rfl (by kernel_rfl) (by kernel_rfl) (by kernel_rfl) (by kernel_rfl) ⟨trivial, trivial, trivial⟩ (fun _ _ _ h => h) ?_
            refine VA.va (i := 1) (listed' := LB 12 3) rfl (op_move rfl (ltn rfl)) rfl (by kernel_rfl) (by kernel_rfl) (by kernel_rfl) (by kernel_rfl) ⟨trivial, trivial, trivial⟩ (fun _ _ _ h => h) ?_
            refine VA.va (i := 2) (listed' := LB 12 7) rfl (op_lens Try.underlying9 rfl (ltn rfl)) rfl (by kernel_rfl) (by kernel_rfl) (by kernel_rfl) (by kernel_rfl) ⟨trivial, trivial, trivial⟩ (fun _ _ _ h => h) ?_
            refine VA.va (i := 3) (listed' := LB 12 15) rfl (op_min rfl rfl (ltn rfl)) rfl (by kernel_rfl) (by kernel_rfl) (by kernel_rfl) (by kernel_rfl) ⟨trivial, trivial, trivial⟩ (fun _ _ _ h => h) ?_
            refine VA.va (i := 4) (listed' := LB 12 31) rfl (op_sliceS 0 ((mn (a0.size : Int) 4100).toNat) Try.underlying9 rfl ⟨rfl, ⟨_, _, rfl, c1, rfl⟩, by omega, by omega⟩ rfl (ltn rfl)) rfl (by kernel_rfl) (by kernel_rfl) (by kernel_rfl) (by kernel_rfl) ⟨trivial, trivial, trivial⟩ (fun _ _ _ h => h) ?_
            refine VA.va (i := 5) (listed' := LB 12 63) rfl (op_move rfl (ltn rfl)) rfl (by kernel_rfl) (by kernel_rfl) (by kernel_rfl) (by kernel_rfl) ⟨trivial, trivial, trivial⟩ (fun _ _ _ h => h) ?_
            refine VA.va (i := 6) (listed' := LB 12 127) rfl (op_move rfl (ltn rfl)) rfl (by kernel_rfl) (by kernel_rfl) (by kernel_rfl) (by kernel_rfl) ⟨trivial, trivial, trivial⟩ (fun _ _ _ h => h) ?_
            refine VA.va (i := 7) (listed' := LB 12 255) rfl (op_lens Try.underlying9 rfl (ltn rfl)) rfl (by kernel_rfl) (by kernel_rfl) (by kernel_rfl) (by kernel_rfl) ⟨trivial, trivial, trivial⟩ (fun _ _ _ h => h) ?_
            refine VA.va (i := 8) (listed' := LB 12 511) rfl (op_min rfl rfl (ltn rfl)) rfl (by kernel_rfl) (by kernel_rfl) (by kernel_rfl) (by kernel_rfl) ⟨trivial, trivial, trivial⟩ (fun _ _ _ h => h) ?_
            refine VA.va (i := 9) (listed' := LB 12 1023) rfl (op_sliceS 0 ((mn (a1.size : Int) 9000).toNat) Try.underlying9 rfl ⟨rfl, ⟨_, _, rfl, c3, rfl⟩, by omega, by omega⟩ rfl (ltn rfl)) rfl (by kernel_rfl) (by kernel_rfl) (by kernel_rfl) (by kernel_rfl) ⟨trivial, trivial, trivial⟩ (fun _ _ _ h => h) ?_
            refine VA.va (i := 10) (listed' := LB 12 2047) rfl (op_assign rfl (ltn rfl)) rfl (by kernel_rfl) (by kernel_rfl) (by kernel_rfl) (by kernel_rfl) ⟨trivial, trivial, trivial⟩ (fun _ _ _ h => h) ?_
            refine VA.va (i := 11) (listed' := LB 12 4095) rfl (op_assign rfl (ltn rfl)) rfl (by kernel_rfl) (by kernel_rfl) (by kernel_rfl) (by kernel_rfl) ⟨trivial, trivial, trivial⟩ (fun _ _ _ h => h) ?_
            refine VA.done (by kernel_rfl) ?_
            exact VN.meet0  [] [] trivial ⟨rfl, ⟨rfl, rfl, rfl, trivial⟩, trivial, rfl, by decide, rfl, by decide⟩
          intro _
          refine VC.seq ?_
          refine VC.region ?_
          refine VL.va (op_move rfl (ltn rfl)) rfl ?_
          replace h := Option.bind_eq_some_iff.1 h
          obtain ⟨⟨t861, t862⟩, hA863, h⟩ := h
          dsimp only at h
          refine VL.sC (o_call0 FO8 (frame_Frame.ok k (a0.extract 0 ((mn (a0.size : Int) 4100).toNat)) t861 t862 hA863) rfl rfl (ltn rfl) (All_of .nil)) rfl ?_
          rintro _ _ _ ⟨rfl, rfl, rfl⟩
          refine VL.va (op_move rfl (ltn rfl)) rfl ?_
          refine VL.va (op_extract rfl rfl (ltn rfl)) rfl ?_
          refine VL.va (op_extract rfl rfl (ltn rfl)) rfl ?_
          refine VL.va (op_assign rfl (ltn rfl)) rfl ?_
          refine VL.va (op_assign rfl (ltn rfl)) rfl ?_
          refine VL.done ?_
          refine VN.then ?_
          refine VC.seq ?_
          refine VC.region ?_
          refine VL.va (op_move rfl (ltn rfl)) rfl ?_
          replace h := Option.bind_eq_some_iff.1 h
          obtain ⟨⟨r2975, t2976⟩, hA2977, h⟩ := h
          dsimp only at h
          refine VL.sC (o_call0 FO9 (frame_Scan.ok k (a1.extract 0 ((mn (a1.size : Int) 9000).toNat)) r2975 t2976 hA2977) rfl rfl (ltn rfl) (All_of .nil)) rfl ?_
          rintro _ _ _ ⟨v2979, rfl, rfl, rfl⟩
          refine VL.va (op_move rfl (ltn rfl)) rfl ?_
          refine VL.va (op_extract rfl rfl (ltn rfl)) rfl ?_
          refine VL.va (op_extract rfl rfl (ltn rfl)) rfl ?_
          refine VL.va (op_assign rfl (ltn rfl)) rfl ?_
          refine VL.va (op_assign rfl (ltn rfl)) rfl ?_
          refine VL.done ?_
          refine VN.then ?_
          refine VC.seq ?_
          refine VC.region ?_
          refine VL.va (op_move rfl (ltn rfl)) rfl ?_
          replace h := Option.bind_eq_some_iff.1 h
          obtain ⟨⟨r2991, t2992⟩, hA2993, h⟩ := h
          dsimp only at h
          refine VL.sC (o_call0 FO11 (frame_All.ok k (a1.extract 0 ((mn (a1.size : Int) 9000).toNat)) r2991 t2992 hA2993) rfl rfl (ltn rfl) (All_of .nil)) rfl ?_
          rintro _ _ _ ⟨v2995, rfl, rfl, rfl⟩
          refine VL.va (op_move rfl (ltn rfl)) rfl ?_
          refine VL.va (op_extract rfl rfl (ltn rfl)) rfl ?_
          refine VL.va (op_extract rfl rfl (ltn rfl)) rfl ?_
          refine VL.va (op_assign rfl (ltn rfl)) rfl ?_
          refine VL.va (op_assign rfl (ltn rfl)) rfl ?_
          refine VL.done ?_
          refine VN.then ?_
          refine VC.seq ?_
          refine VC.region ?_
          refine VL.va (op_move rfl (ltn rfl)) rfl ?_
          replace h := Option.bind_eq_some_iff.1 h
          obtain ⟨r19708, hA19709, h⟩ := h
          refine VL.sC (o_call0 FO12 (tarryref04_Scan.ok k (a1.extract 0 ((mn (a1.size : Int) 9000).toNat)) r19708 hA19709) rfl rfl (ltn rfl) (All_of .nil)) rfl ?_
          rintro v19711 _ _ ⟨_, rfl, rfl, rfl⟩
          refine VL.va (op_assign rfl (ltn rfl)) rfl ?_
          refine VL.done ?_
          refine VN.then ?_
          refine VC.seq ?_
          refine VC.region ?_
          refine VL.va (op_move rfl (ltn rfl)) rfl ?_
          replace h := Option.bind_eq_some_iff.1 h
          obtain ⟨t19935, hA19936, h⟩ := h
          refine VL.sC (o_call_b0 FO13 (tarryref04_Whole.ok k r19708 v19711 t19935 hA19936) rfl rfl (ltn rfl) (All_of (.cons (.inr (.inl ⟨_, List.mem_of_getElem? (i := 0) rfl, rfl⟩)) .nil)) (by rintro _ _ _ ⟨rfl, rfl, rfl⟩; rfl)) rfl ?_
          rintro _ _ _ ⟨rfl, rfl, rfl⟩
          refine VL.va (op_assign rfl (ltn rfl)) rfl ?_
          refine VL.done ?_
          refine VN.then ?_
          refine VC.seq ?_
          refine VC.seq ?_
          refine VC.region ?_
          refine VL.va (op_move rfl (ltn rfl)) rfl ?_
          refine VL.va (op_move rfl (ltn rfl)) rfl ?_
          replace h := Option.bind_eq_some_iff.1 h
          obtain ⟨t20090, hA20091, h⟩ := h
          refine VL.sC (o_call_b0 FO10 (tarryref01_Same.ok k r2975 r19708 v2979 v19711 t20090 hA20091) rfl rfl (ltn rfl) (All_of (.cons (.inr (.inl ⟨_, List.mem_of_getElem? (i := 2) rfl, rfl⟩)) (.cons (.inr (.inl ⟨_, List.mem_of_getElem? (i := 0) rfl, rfl⟩)) .nil))) (by rintro _ _ _ ⟨rfl, rfl, rfl⟩; rfl)) rfl ?_
          rintro _ _ _ ⟨rfl, rfl, rfl⟩
          by_cases c20092 : t20090 = true
          · rw [if_pos c20092] at h
            obtain rfl := c20092
            refine VL.va (op_not rfl rfl (ltn rfl)) rfl ?_
            refine VL.va (op_move rfl (ltn rfl)) rfl ?_
            refine VL.va (op_move rfl (ltn rfl)) rfl ?_
            refine VL.va (op_move rfl (ltn rfl)) rfl ?_
            refine VL.va (op_lens Try.underlying9 rfl (ltn rfl)) rfl ?_
            refine VL.letter ((t2976 != (t19935.size : Int))) fun b20093 hb20093 => ?_
            refine VL.va (op_cmp rfl rfl (congrArg some hb20093) (ltn rfl)) rfl ?_
            refine VL.va (op_pick rfl rfl (ltn rfl)) rfl ?_
            refine VL.va (op_move rfl (ltn rfl)) rfl ?_
            by_cases c20094 : t2976 = (t19935.size : Int)
            · rw [if_pos c20094] at h
              obtain rfl : b20093 = false := hb20093.symm.trans (bne_eq_false_iff_eq.2 c20094)
              refine VL.va (op_move rfl (ltn rfl)) rfl ?_
              refine VL.va (op_move rfl (ltn rfl)) rfl ?_
              replace h := Option.bind_eq_some_iff.1 h
              obtain ⟨t20095, hA20096, h⟩ := h
              refine VL.sC (o_call0 FO14 (strings_HasPrefix.ok (a1.extract 0 ((mn (a1.size : Int) 9000).toNat)) t19935 t20095 hA20096) rfl rfl (ltn rfl) (All_of .nil)) rfl ?_
              rintro _ _ _ ⟨rfl, rfl, rfl⟩
              by_cases c20097 : t20095 = true
              · rw [if_pos c20097] at h
                obtain rfl := c20097
                refine VL.va (op_not rfl rfl (ltn rfl)) rfl ?_
                refine VL.va (op_pick rfl rfl (ltn rfl)) rfl ?_
                refine VL.va (op_move rfl (ltn rfl)) rfl ?_
                replace h := Option.bind_eq_some_iff.1 h
                obtain ⟨t20098, hA20099, h⟩ := h
                refine VL.sC (o_call0 FO7 (tarrylaw04_alive.ok k t20098 hA20099) rfl rfl (ltn rfl) (All_of .nil)) rfl ?_
                rintro _ _ _ ⟨rfl, rfl, rfl⟩
                by_cases c20100 : t20098 = true
                · rw [if_pos c20100] at h
                  obtain rfl := c20100
                  refine VL.va (op_not rfl rfl (ltn rfl)) rfl ?_
                  refine VL.va (op_pick rfl rfl (ltn rfl)) rfl ?_
                  refine VL.done ?_
                  refine VN.then ?_
                  refine VC.cond_f rfl ?_
                  refine VC.skip ?_
                  refine VN.then ?_
                  refine VC.seq ?_
                  refine VC.seq ?_
                  refine VC.region ?_
                  refine VL.va (op_move rfl (ltn rfl)) rfl ?_
                  refine VL.va (op_move rfl (ltn rfl)) rfl ?_
                  refine VL.va (op_lens Try.underlying9 rfl (ltn rfl)) rfl ?_
                  refine VL.letter (decide (t2976 < ((a1.extract 0 ((mn (a1.size : Int) 9000).toNat)).size : Int))) fun b20161 hb20161 => ?_
                  refine VL.va (op_cmp rfl rfl (congrArg some hb20161) (ltn rfl)) rfl ?_
                  refine VL.va (op_move rfl (ltn rfl)) rfl ?_
                  by_cases c20162 : t2976 < ((a1.extract 0 ((mn (a1.size : Int) 9000).toNat)).size : Int)
                  · rw [if_pos c20162] at h
                    obtain rfl : b20161 = true := hb20161.symm.trans (decide_eq_true c20162)
                    refine VL.va (op_move rfl (ltn rfl)) rfl ?_
                    refine VL.letter ((t2992 != 6)) fun b20163 hb20163 => ?_
                    refine VL.va (op_cmp rfl rfl (congrArg some hb20163) (ltn rfl)) rfl ?_
                    refine VL.va (op_move rfl (ltn rfl)) rfl ?_
                    by_cases c20164 : t2992 = 6
                    · rw [if_pos c20164] at h
                      obtain rfl : b20163 = false := hb20163.symm.trans (bne_eq_false_iff_eq.2 c20164)
                      refine VL.va (op_move rfl (ltn rfl)) rfl ?_
                      refine VL.va (op_len_own (m := r2991.length) 1 lenm Try.underlying22 rfl rfl (ltn rfl)) rfl ?_
                      refine VL.letter (((r2991.length : Int) != 0)) fun b20165 hb20165 => ?_
                      refine VL.va (op_cmp rfl rfl (congrArg some hb20165) (ltn rfl)) rfl ?_
                      refine VL.va (op_pick rfl rfl (ltn rfl)) rfl ?_
                      refine VL.va (op_pick rfl rfl (ltn rfl)) rfl ?_
                      refine VL.va (op_move rfl (ltn rfl)) rfl ?_
                      by_cases c20166 : (r2991.length : Int) = 0
                      · rw [if_pos c20166] at h
                        obtain rfl : b20165 = false := hb20165.symm.trans (bne_eq_false_iff_eq.2 c20166)
                        refine VL.va (op_move rfl (ltn rfl)) rfl ?_
                        refine VL.va (op_move rfl (ltn rfl)) rfl ?_
                        refine VL.va (op_lens Try.underlying9 rfl (ltn rfl)) rfl ?_
                        refine VL.letter ((t2976 == ((a1.extract 0 ((mn (a1.size : Int) 9000).toNat)).size : Int))) fun b20167 hb20167 => ?_
                        refine VL.va (op_cmp rfl rfl (congrArg some hb20167) (ltn rfl)) rfl ?_
                        refine VL.va (op_move rfl (ltn rfl)) rfl ?_
                        by_cases c20168 : t2976 = ((a1.extract 0 ((mn (a1.size : Int) 9000).toNat)).size : Int)
                        · rw [if_pos c20168] at h
                          obtain rfl : b20167 = true := hb20167.symm.trans (beq_iff_eq.2 c20168)
                          refine VL.va (op_move rfl (ltn rfl)) rfl ?_
                          refine VL.letter ((t2992 != 0)) fun b20169 hb20169 => ?_
                          refine VL.va (op_cmp rfl rfl (congrArg some hb20169) (ltn rfl)) rfl ?_
                          refine VL.va (op_move rfl (ltn rfl)) rfl ?_
                          by_cases c20170 : t2992 = 0
                          · rw [if_pos c20170] at h
                            obtain rfl : b20169 = false := hb20169.symm.trans (bne_eq_false_iff_eq.2 c20170)
                            refine VL.va (op_move rfl (ltn rfl)) rfl ?_
                            refine VL.va (op_move rfl (ltn rfl)) rfl ?_
                            replace h := Option.bind_eq_some_iff.1 h
                            obtain ⟨t20171, hA20172, h⟩ := h
                            refine VL.sC (o_call_b0 FO10 (tarryref01_Same.ok k r2991 r19708 v2995 v19711 t20171 hA20172) rfl rfl (ltn rfl) (All_of (.cons (.inr (.inl ⟨_, List.mem_of_getElem? (i := 1) rfl, rfl⟩)) (.cons (.inr (.inl ⟨_, List.mem_of_getElem? (i := 0) rfl, rfl⟩)) .nil))) (by rintro _ _ _ ⟨rfl, rfl, rfl⟩; rfl)) rfl ?_
                            rintro _ _ _ ⟨rfl, rfl, rfl⟩
                            by_cases c20173 : t20171 = true
                            · rw [if_pos c20173] at h
                              obtain rfl := c20173
                              refine VL.va (op_not rfl rfl (ltn rfl)) rfl ?_
                              refine VL.va (op_pick rfl rfl (ltn rfl)) rfl ?_
                              refine VL.va (op_pick rfl rfl (ltn rfl)) rfl ?_
                              refine VL.va (op_pick rfl rfl (ltn rfl)) rfl ?_
                              refine VL.done ?_
                              refine VN.then ?_
                              refine VC.cond_f rfl ?_
                              refine VC.skip ?_
                              refine VN.then ?_
                              refine VC.seq ?_
                              refine VC.seq ?_
                              refine VC.region ?_
                              refine VL.va (op_move rfl (ltn rfl)) rfl ?_
                              refine VL.va (op_lens Try.underlying9 rfl (ltn rfl)) rfl ?_
                              refine VL.letter (decide (((a0.extract 0 ((mn (a0.size : Int) 4100).toNat)).size : Int) > 4096)) fun b20182 hb20182 => ?_
                              refine VL.va (op_cmp rfl rfl (congrArg some hb20182) (ltn rfl)) rfl ?_
                              refine VL.done ?_
                              refine VN.then ?_
                              by_cases c20183 : ((a0.extract 0 ((mn (a0.size : Int) 4100).toNat)).size : Int) > 4096
                              · rw [if_pos c20183] at h
                                obtain rfl : b20182 = true := hb20182.symm.trans (decide_eq_true c20183)
                                refine VC.cond_t rfl ?_
                                refine VC.seq ?_
                                refine VC.region ?_
                                refine VL.va (op_move rfl (ltn rfl)) rfl ?_
                                refine VL.letter ((t862 == 3)) fun b20187 hb20187 => ?_
                                refine VL.va (op_cmp rfl rfl (congrArg some hb20187) (ltn rfl)) rfl ?_
                                refine VL.va (op_move rfl (ltn rfl)) rfl ?_
                                by_cases c20188 : t862 = 3
                                · rw [if_pos c20188] at h
                                  obtain rfl : b20187 = true := hb20187.symm.trans (beq_iff_eq.2 c20188)
                                  refine VL.va (op_move rfl (ltn rfl)) rfl ?_
                                  refine VL.letter ((t861 == (⟨#[]⟩ : ByteArray))) fun b20189 hb20189 => ?_
                                  refine VL.va (op_cmps rfl rfl (congrArg some hb20189) (ltn rfl)) rfl ?_
                                  refine VL.va (op_pick rfl rfl (ltn rfl)) rfl ?_
                                  refine VL.va (op_assign rfl (ltn rfl)) rfl ?_
                                  refine VL.done ?_
                                  refine VN.then ?_
                                  refine VC.ret ?_
                                  refine VR.then ?_
                                  obtain rfl := Option.some.inj h
                                  subst hb20189
                                  exact VR.fn (rs := [.tmp 4]) [] [] [] rfl (.tmp rfl .nil) ⟨rfl, rfl, rfl⟩ trivial rfl (by decide)
                                · rw [if_neg c20188] at h
                                  obtain rfl : b20187 = false := hb20187.symm.trans (beq_eq_false_iff_ne.2 c20188)
                                  refine VL.un rfl rfl (ltn rfl) ?_
                                  refine VL.un rfl rfl (ltn rfl) ?_
                                  refine VL.va (op_pick rfl rfl (ltn rfl)) rfl ?_
                                  refine VL.va (op_assign rfl (ltn rfl)) rfl ?_
                                  refine VL.done ?_
                                  refine VN.then ?_
                                  refine VC.ret ?_
                                  refine VR.then ?_
                                  cases h
                              · rw [if_neg c20183] at h
                                obtain rfl : b20182 = false := hb20182.symm.trans (decide_eq_false c20183)
                                refine VC.cond_f rfl ?_
                                refine VC.skip ?_
                                refine VN.then ?_
                                refine VC.seq ?_
                                refine VC.region ?_
                                refine VL.va (op_move rfl (ltn rfl)) rfl ?_
                                refine VL.letter ((t862 == 0)) fun b20195 hb20195 => ?_
                                refine VL.va (op_cmp rfl rfl (congrArg some hb20195) (ltn rfl)) rfl ?_
                                refine VL.va (op_move rfl (ltn rfl)) rfl ?_
                                by_cases c20196 : t862 = 0
                                · rw [if_pos c20196] at h
                                  obtain rfl : b20195 = true := hb20195.symm.trans (beq_iff_eq.2 c20196)
                                  refine VL.va (op_move rfl (ltn rfl)) rfl ?_
                                  refine VL.va (op_move rfl (ltn rfl)) rfl ?_
                                  replace h := Option.bind_eq_some_iff.1 h
                                  obtain ⟨t20197, hA20198, h⟩ := h
                                  refine VL.sC (o_call0 FO15 (tarryref04_Frame.ok k (a0.extract 0 ((mn (a0.size : Int) 4100).toNat)) t20197 hA20198) rfl rfl (ltn rfl) (All_of .nil)) rfl ?_
                                  rintro _ _ _ ⟨rfl, rfl, rfl⟩
                                  refine VL.letter ((t861 == t20197)) fun b20199 hb20199 => ?_
                                  refine VL.va (op_cmps rfl rfl (congrArg some hb20199) (ltn rfl)) rfl ?_
                                  refine VL.va (op_pick rfl rfl (ltn rfl)) rfl ?_
                                  refine VL.va (op_assign rfl (ltn rfl)) rfl ?_
                                  refine VL.done ?_
                                  refine VN.then ?_
                                  refine VC.ret ?_
                                  obtain rfl := Option.some.inj h
                                  subst hb20199
                                  exact VR.fn (rs := [.tmp 4]) [] [] [] rfl (.tmp rfl .nil) ⟨rfl, rfl, rfl⟩ trivial rfl (by decide)
                                · rw [if_neg c20196] at h
                                  obtain rfl : b20195 = false := hb20195.symm.trans (beq_eq_false_iff_ne.2 c20196)
                                  refine VL.un rfl rfl (ltn rfl) ?_
                                  refine VL.un rfl rfl (ltn rfl) ?_
                                  refine VL.un rfl rfl (ltn rfl) ?_
                                  refine VL.un rfl rfl (ltn rfl) ?_
                                  refine VL.va (op_pick rfl rfl (ltn rfl)) rfl ?_
                                  refine VL.va (op_assign rfl (ltn rfl)) rfl ?_
                                  refine VL.done ?_
                                  refine VN.then ?_
                                  refine VC.ret ?_
                                  cases h
                            · rw [if_neg c20173] at h
                              obtain rfl := Bool.eq_false_iff.2 c20173
                              refine VL.va (op_not rfl rfl (ltn rfl)) rfl ?_
                              refine VL.va (op_pick rfl rfl (ltn rfl)) rfl ?_
                              refine VL.va (op_pick rfl rfl (ltn rfl)) rfl ?_
                              refine VL.va (op_pick rfl rfl (ltn rfl)) rfl ?_
                              refine VL.done ?_
                              refine VN.then ?_
                              refine VC.cond_t rfl ?_
                              refine VC.seq ?_
                              refine VC.region ?_
                              refine VL.va (op_assign rfl (ltn rfl)) rfl ?_
                              refine VL.done ?_
                              refine VN.then ?_
                              refine VC.ret ?_
                              refine VR.then ?_
                              cases h
                          · rw [if_neg c20170] at h
                            obtain rfl : b20169 = true := hb20169.symm.trans (bne_iff_ne.2 c20170)
                            refine VL.un rfl rfl (ltn rfl) ?_
                            refine VL.un rfl rfl (ltn rfl) ?_
                            refine VL.un rfl rfl (ltn rfl) ?_
                            refine VL.un rfl rfl (ltn rfl) ?_
                            refine VL.va (op_pick rfl rfl (ltn rfl)) rfl ?_
                            refine VL.va (op_pick rfl rfl (ltn rfl)) rfl ?_
                            refine VL.va (op_pick rfl rfl (ltn rfl)) rfl ?_
                            refine VL.done ?_
                            refine VN.then ?_
                            refine VC.cond_t rfl ?_
                            refine VC.seq ?_
                            refine VC.region ?_
                            refine VL.va (op_assign rfl (ltn rfl)) rfl ?_
                            refine VL.done ?_
                            refine VN.then ?_
                            refine VC.ret ?_
                            refine VR.then ?_
                            cases h
                        · rw [if_neg c20168] at h
                          obtain rfl : b20167 = false := hb20167.symm.trans (beq_eq_false_iff_ne.2 c20168)
                          refine VL.un rfl rfl (ltn rfl) ?_
                          refine VL.un rfl rfl (ltn rfl) ?_
                          refine VL.un rfl rfl (ltn rfl) ?_
                          refine VL.un rfl rfl (ltn rfl) ?_
                          refine VL.un rfl rfl (ltn rfl) ?_
                          refine VL.un rfl rfl (ltn rfl) ?_
                          refine VL.un rfl rfl (ltn rfl) ?_
                          refine VL.un rfl rfl (ltn rfl) ?_
                          refine VL.va (op_pick rfl rfl (ltn rfl)) rfl ?_
                          refine VL.va (op_pick rfl rfl (ltn rfl)) rfl ?_
                          refine VL.done ?_
                          refine VN.then ?_
                          refine VC.cond_f rfl ?_
                          refine VC.skip ?_
                          refine VN.then ?_
                          refine VC.seq ?_
                          refine VC.seq ?_
                          refine VC.region ?_
                          refine VL.va (op_move rfl (ltn rfl)) rfl ?_
                          refine VL.va (op_lens Try.underlying9 rfl (ltn rfl)) rfl ?_
                          refine VL.letter (decide (((a0.extract 0 ((mn (a0.size : Int) 4100).toNat)).size : Int) > 4096)) fun b20208 hb20208 => ?_
                          refine VL.va (op_cmp rfl rfl (congrArg some hb20208) (ltn rfl)) rfl ?_
                          refine VL.done ?_
                          refine VN.then ?_
                          by_cases c20209 : ((a0.extract 0 ((mn (a0.size : Int) 4100).toNat)).size : Int) > 4096
                          · rw [if_pos c20209] at h
                            obtain rfl : b20208 = true := hb20208.symm.trans (decide_eq_true c20209)
                            refine VC.cond_t rfl ?_
                            refine VC.seq ?_
                            refine VC.region ?_
                            refine VL.va (op_move rfl (ltn rfl)) rfl ?_
                            refine VL.letter ((t862 == 3)) fun b20213 hb20213 => ?_
                            refine VL.va (op_cmp rfl rfl (congrArg some hb20213) (ltn rfl)) rfl ?_
                            refine VL.va (op_move rfl (ltn rfl)) rfl ?_
                            by_cases c20214 : t862 = 3
                            · rw [if_pos c20214] at h
                              obtain rfl : b20213 = true := hb20213.symm.trans (beq_iff_eq.2 c20214)
                              refine VL.va (op_move rfl (ltn rfl)) rfl ?_
                              refine VL.letter ((t861 == (⟨#[]⟩ : ByteArray))) fun b20215 hb20215 => ?_
                              refine VL.va (op_cmps rfl rfl (congrArg some hb20215) (ltn rfl)) rfl ?_
                              refine VL.va (op_pick rfl rfl (ltn rfl)) rfl ?_
                              refine VL.va (op_assign rfl (ltn rfl)) rfl ?_
                              refine VL.done ?_
                              refine VN.then ?_
                              refine VC.ret ?_
                              refine VR.then ?_
                              obtain rfl := Option.some.inj h
                              subst hb20215
                              exact VR.fn (rs := [.tmp 4]) [] [] [] rfl (.tmp rfl .nil) ⟨rfl, rfl, rfl⟩ trivial rfl (by decide)
                            · rw [if_neg c20214] at h
                              obtain rfl : b20213 = false := hb20213.symm.trans (beq_eq_false_iff_ne.2 c20214)
                              refine VL.un rfl rfl (ltn rfl) ?_
                              refine VL.un rfl rfl (ltn rfl) ?_
                              refine VL.va (op_pick rfl rfl (ltn rfl)) rfl ?_
                              refine VL.va (op_assign rfl (ltn rfl)) rfl ?_
                              refine VL.done ?_
                              refine VN.then ?_
                              refine VC.ret ?_
                              refine VR.then ?_
                              cases h
                          · rw [if_neg c20209] at h
                            obtain rfl : b20208 = false := hb20208.symm.trans (decide_eq_false c20209)
                            refine VC.cond_f rfl ?_
                            refine VC.skip ?_
                            refine VN.then ?_
                            refine VC.seq ?_
                            refine VC.region ?_
                            refine VL.va (op_move rfl (ltn rfl)) rfl ?_
                            refine VL.letter ((t862 == 0)) fun b20221 hb20221 => ?_
                            refine VL.va (op_cmp rfl rfl (congrArg some hb20221) (ltn rfl)) rfl ?_
                            refine VL.va (op_move rfl (ltn rfl)) rfl ?_
                            by_cases c20222 : t862 = 0
                            · rw [if_pos c20222] at h
                              obtain rfl : b20221 = true := hb20221.symm.trans (beq_iff_eq.2 c20222)
                              refine VL.va (op_move rfl (ltn rfl)) rfl ?_
                              refine VL.va (op_move rfl (ltn rfl)) rfl ?_
                              replace h := Option.bind_eq_some_iff.1 h
                              obtain ⟨t20223, hA20224, h⟩ := h
                              refine VL.sC (o_call0 FO15 (tarryref04_Frame.ok k (a0.extract 0 ((mn (a0.size : Int) 4100).toNat)) t20223 hA20224) rfl rfl (ltn rfl) (All_of .nil)) rfl ?_
                              rintro _ _ _ ⟨rfl, rfl, rfl⟩
                              refine VL.letter ((t861 == t20223)) fun b20225 hb20225 => ?_
                              refine VL.va (op_cmps rfl rfl (congrArg some hb20225) (ltn rfl)) rfl ?_
                              refine VL.va (op_pick rfl rfl (ltn rfl)) rfl ?_
                              refine VL.va (op_assign rfl (ltn rfl)) rfl ?_
                              refine VL.done ?_
                              refine VN.then ?_
                              refine VC.ret ?_
                              obtain rfl := Option.some.inj h
                              subst hb20225
                              exact VR.fn (rs := [.tmp 4]) [] [] [] rfl (.tmp rfl .nil) ⟨rfl, rfl, rfl⟩ trivial rfl (by decide)
                            · rw [if_neg c20222] at h
                              obtain rfl : b20221 = false := hb20221.symm.trans (beq_eq_false_iff_ne.2 c20222)
                              refine VL.un rfl rfl (ltn rfl) ?_
                              refine VL.un rfl rfl (ltn rfl) ?_
                              refine VL.un rfl rfl (ltn rfl) ?_
                              refine VL.un rfl rfl (ltn rfl) ?_
                              refine VL.va (op_pick rfl rfl (ltn rfl)) rfl ?_
                              refine VL.va (op_assign rfl (ltn rfl)) rfl ?_
                              refine VL.done ?_
                              refine VN.then ?_
                              refine VC.ret ?_
                              cases h
                      · rw [if_neg c20166] at h
                        obtain rfl : b20165 = true := hb20165.symm.trans (bne_iff_ne.2 c20166)
                        refine VL.un rfl rfl (ltn rfl) ?_
                        refine VL.un rfl rfl (ltn rfl) ?_
                        refine VL.un rfl rfl (ltn rfl) ?_
                        refine VL.un rfl rfl (ltn rfl) ?_
                        refine VL.un rfl rfl (ltn rfl) ?_
                        refine VL.un rfl rfl (ltn rfl) ?_
                        refine VL.un rfl rfl (ltn rfl) ?_
                        refine VL.un rfl rfl (ltn rfl) ?_
                        refine VL.un rfl rfl (ltn rfl) ?_
                        refine VL.un rfl rfl (ltn rfl) ?_
                        refine VL.un rfl rfl (ltn rfl) ?_
                        refine VL.un rfl rfl (ltn rfl) ?_
                        refine VL.un rfl rfl (ltn rfl) ?_
                        refine VL.un rfl rfl (ltn rfl) ?_
                        refine VL.va (op_pick rfl rfl (ltn rfl)) rfl ?_
                        refine VL.done ?_
                        refine VN.then ?_
                        refine VC.cond_t rfl ?_
                        refine VC.seq ?_
                        refine VC.region ?_
                        refine VL.va (op_assign rfl (ltn rfl)) rfl ?_
                        refine VL.done ?_
                        refine VN.then ?_
                        refine VC.ret ?_
                        refine VR.then ?_
                        cases h
                    · rw [if_neg c20164] at h
                      obtain rfl : b20163 = true := hb20163.symm.trans (bne_iff_ne.2 c20164)
                      refine VL.un rfl rfl (ltn rfl) ?_
                      refine VL.un rfl rfl (ltn rfl) ?_
                      refine VL.un rfl rfl (ltn rfl) ?_
                      refine VL.va (op_pick rfl rfl (ltn rfl)) rfl ?_
                      refine VL.va (op_pick rfl rfl (ltn rfl)) rfl ?_
                      refine VL.va (op_move rfl (ltn rfl)) rfl ?_
                      refine VL.un rfl rfl (ltn rfl) ?_
                      refine VL.un rfl rfl (ltn rfl) ?_
                      refine VL.un rfl rfl (ltn rfl) ?_
                      refine VL.un rfl rfl (ltn rfl) ?_
                      refine VL.un rfl rfl (ltn rfl) ?_
                      refine VL.un rfl rfl (ltn rfl) ?_
                      refine VL.un rfl rfl (ltn rfl) ?_
                      refine VL.un rfl rfl (ltn rfl) ?_
                      refine VL.un rfl rfl (ltn rfl) ?_
                      refine VL.un rfl rfl (ltn rfl) ?_
                      refine VL.un rfl rfl (ltn rfl) ?_
                      refine VL.un rfl rfl (ltn rfl) ?_
                      refine VL.un rfl rfl (ltn rfl) ?_
                      refine VL.un rfl rfl (ltn rfl) ?_
                      refine VL.va (op_pick rfl rfl (ltn rfl)) rfl ?_
                      refine VL.done ?_
                      refine VN.then ?_
                      refine VC.cond_t rfl ?_
                      refine VC.seq ?_
                      refine VC.region ?_
                      refine VL.va (op_assign rfl (ltn rfl)) rfl ?_
                      refine VL.done ?_
                      refine VN.then ?_
                      refine VC.ret ?_
                      refine VR.then ?_
                      cases h
                  · rw [if_neg c20162] at h
                    obtain rfl : b20161 = false := hb20161.symm.trans (decide_eq_false c20162)
                    refine VL.un rfl rfl (ltn rfl) ?_
                    refine VL.un rfl rfl (ltn rfl) ?_
                    refine VL.un rfl rfl (ltn rfl) ?_
                    refine VL.un rfl rfl (ltn rfl) ?_
                    refine VL.un rfl rfl (ltn rfl) ?_
                    refine VL.un rfl rfl (ltn rfl) ?_
                    refine VL.un rfl rfl (ltn rfl) ?_
                    refine VL.va (op_pick rfl rfl (ltn rfl)) rfl ?_
                    refine VL.va (op_move rfl (ltn rfl)) rfl ?_
                    refine VL.va (op_move rfl (ltn rfl)) rfl ?_
                    refine VL.va (op_move rfl (ltn rfl)) rfl ?_
                    refine VL.va (op_lens Try.underlying9 rfl (ltn rfl)) rfl ?_
                    refine VL.letter ((t2976 == ((a1.extract 0 ((mn (a1.size : Int) 9000).toNat)).size : Int))) fun b20226 hb20226 => ?_
                    refine VL.va (op_cmp rfl rfl (congrArg some hb20226) (ltn rfl)) rfl ?_
                    refine VL.va (op_move rfl (ltn rfl)) rfl ?_
                    by_cases c20227 : t2976 = ((a1.extract 0 ((mn (a1.size : Int) 9000).toNat)).size : Int)
                    · rw [if_pos c20227] at h
                      obtain rfl : b20226 = true := hb20226.symm.trans (beq_iff_eq.2 c20227)
                      refine VL.va (op_move rfl (ltn rfl)) rfl ?_
                      refine VL.letter ((t2992 != 0)) fun b20228 hb20228 => ?_
                      refine VL.va (op_cmp rfl rfl (congrArg some hb20228) (ltn rfl)) rfl ?_
                      refine VL.va (op_move rfl (ltn rfl)) rfl ?_
                      by_cases c20229 : t2992 = 0
                      · rw [if_pos c20229] at h
                        obtain rfl : b20228 = false := hb20228.symm.trans (bne_eq_false_iff_eq.2 c20229)
                        refine VL.va (op_move rfl (ltn rfl)) rfl ?_
                        refine VL.va (op_move rfl (ltn rfl)) rfl ?_
                        replace h := Option.bind_eq_some_iff.1 h
                        obtain ⟨t20230, hA20231, h⟩ := h
                        refine VL.sC (o_call_b0 FO10 (tarryref01_Same.ok k r2991 r19708 v2995 v19711 t20230 hA20231) rfl rfl (ltn rfl) (All_of (.cons (.inr (.inl ⟨_, List.mem_of_getElem? (i := 1) rfl, rfl⟩)) (.cons (.inr (.inl ⟨_, List.mem_of_getElem? (i := 0) rfl, rfl⟩)) .nil))) (by rintro _ _ _ ⟨rfl, rfl, rfl⟩; rfl)) rfl ?_
                        rintro _ _ _ ⟨rfl, rfl, rfl⟩
                        by_cases c20232 : t20230 = true
                        · rw [if_pos c20232] at h
                          obtain rfl := c20232
                          refine VL.va (op_not rfl rfl (ltn rfl)) rfl ?_
                          refine VL.va (op_pick rfl rfl (ltn rfl)) rfl ?_
                          refine VL.va (op_pick rfl rfl (ltn rfl)) rfl ?_
                          refine VL.va (op_pick rfl rfl (ltn rfl)) rfl ?_
                          refine VL.done ?_
                          refine VN.then ?_
                          refine VC.cond_f rfl ?_
                          refine VC.skip ?_
                          refine VN.then ?_
                          refine VC.seq ?_
                          refine VC.seq ?_
                          refine VC.region ?_
                          refine VL.va (op_move rfl (ltn rfl)) rfl ?_
                          refine VL.va (op_lens Try.underlying9 rfl (ltn rfl)) rfl ?_
                          refine VL.letter (decide (((a0.extract 0 ((mn (a0.size : Int) 4100).toNat)).size : Int) > 4096)) fun b20241 hb20241 => ?_
                          refine VL.va (op_cmp rfl rfl (congrArg some hb20241) (ltn rfl)) rfl ?_
                          refine VL.done ?_
                          refine VN.then ?_
                          by_cases c20242 : ((a0.extract 0 ((mn (a0.size : Int) 4100).toNat)).size : Int) > 4096
                          · rw [if_pos c20242] at h
                            obtain rfl : b20241 = true := hb20241.symm.trans (decide_eq_true c20242)
                            refine VC.cond_t rfl ?_
                            refine VC.seq ?_
                            refine VC.region ?_
                            refine VL.va (op_move rfl (ltn rfl)) rfl ?_
                            refine VL.letter ((t862 == 3)) fun b20246 hb20246 => ?_
                            refine VL.va (op_cmp rfl rfl (congrArg some hb20246) (ltn rfl)) rfl ?_
                            refine VL.va (op_move rfl (ltn rfl)) rfl ?_
                            by_cases c20247 : t862 = 3
                            · rw [if_pos c20247] at h
                              obtain rfl : b20246 = true := hb20246.symm.trans (beq_iff_eq.2 c20247)
                              refine VL.va (op_move rfl (ltn rfl)) rfl ?_
                              refine VL.letter ((t861 == (⟨#[]⟩ : ByteArray))) fun b20248 hb20248 => ?_
                              refine VL.va (op_cmps rfl rfl (congrArg some hb20248) (ltn rfl)) rfl ?_
                              refine VL.va (op_pick rfl rfl (ltn rfl)) rfl ?_
                              refine VL.va (op_assign rfl (ltn rfl)) rfl ?_
                              refine VL.done ?_
                              refine VN.then ?_
                              refine VC.ret ?_
                              refine VR.then ?_
                              obtain rfl := Option.some.inj h
                              subst hb20248
                              exact VR.fn (rs := [.tmp 4]) [] [] [] rfl (.tmp rfl .nil) ⟨rfl, rfl, rfl⟩ trivial rfl (by decide)
                            · rw [if_neg c20247] at h
                              obtain rfl : b20246 = false := hb20246.symm.trans (beq_eq_false_iff_ne.2 c20247)
                              refine VL.un rfl rfl (ltn rfl) ?_
                              refine VL.un rfl rfl (ltn rfl) ?_
                              refine VL.va (op_pick rfl rfl (ltn rfl)) rfl ?_
                              refine VL.va (op_assign rfl (ltn rfl)) rfl ?_
                              refine VL.done ?_
                              refine VN.then ?_
                              refine VC.ret ?_
                              refine VR.then ?_
                              cases h
                          · rw [if_neg c20242] at h
                            obtain rfl : b20241 = false := hb20241.symm.trans (decide_eq_false c20242)
                            refine VC.cond_f rfl ?_
                            refine VC.skip ?_
                            refine VN.then ?_
                            refine VC.seq ?_
                            refine VC.region ?_
                            refine VL.va (op_move rfl (ltn rfl)) rfl ?_
                            refine VL.letter ((t862 == 0)) fun b20254 hb20254 => ?_
                            refine VL.va (op_cmp rfl rfl (congrArg some hb20254) (ltn rfl)) rfl ?_
                            refine VL.va (op_move rfl (ltn rfl)) rfl ?_
                            by_cases c20255 : t862 = 0
                            · rw [if_pos c20255] at h
                              obtain rfl : b20254 = true := hb20254.symm.trans (beq_iff_eq.2 c20255)
                              refine VL.va (op_move rfl (ltn rfl)) rfl ?_
                              refine VL.va (op_move rfl (ltn rfl)) rfl ?_
                              replace h := Option.bind_eq_some_iff.1 h
                              obtain ⟨t20256, hA20257, h⟩ := h
                              refine VL.sC (o_call0 FO15 (tarryref04_Frame.ok k (a0.extract 0 ((mn (a0.size : Int) 4100).toNat)) t20256 hA20257) rfl rfl (ltn rfl) (All_of .nil)) rfl ?_
                              rintro _ _ _ ⟨rfl, rfl, rfl⟩
                              refine VL.letter ((t861 == t20256)) fun b20258 hb20258 => ?_
                              refine VL.va (op_cmps rfl rfl (congrArg some hb20258) (ltn rfl)) rfl ?_
                              refine VL.va (op_pick rfl rfl (ltn rfl)) rfl ?_
                              refine VL.va (op_assign rfl (ltn rfl)) rfl ?_
                              refine VL.done ?_
                              refine VN.then ?_
                              refine VC.ret ?_
                              obtain rfl := Option.some.inj h
                              subst hb20258
                              exact VR.fn (rs := [.tmp 4]) [] [] [] rfl (.tmp rfl .nil) ⟨rfl, rfl, rfl⟩ trivial rfl (by decide)
                            · rw [if_neg c20255] at h
                              obtain rfl : b20254 = false := hb20254.symm.trans (beq_eq_false_iff_ne.2 c20255)
                              refine VL.un rfl rfl (ltn rfl) ?_
                              refine VL.un rfl rfl (ltn rfl) ?_
                              refine VL.un rfl rfl (ltn rfl) ?_
                              refine VL.un rfl rfl (ltn rfl) ?_
                              refine VL.va (op_pick rfl rfl (ltn rfl)) rfl ?_
                              refine VL.va (op_assign rfl (ltn rfl)) rfl ?_
                              refine VL.done ?_
                              refine VN.then ?_
                              refine VC.ret ?_
                              cases h
                        · rw [if_neg c20232] at h
                          obtain rfl := Bool.eq_false_iff.2 c20232
                          refine VL.va (op_not rfl rfl (ltn rfl)) rfl ?_
                          refine VL.va (op_pick rfl rfl (ltn rfl)) rfl ?_
                          refine VL.va (op_pick rfl rfl (ltn rfl)) rfl ?_
                          refine VL.va (op_pick rfl rfl (ltn rfl)) rfl ?_
                          refine VL.done ?_
                          refine VN.then ?_
                          refine VC.cond_t rfl ?_
                          refine VC.seq ?_
                          refine VC.region ?_
                          refine VL.va (op_assign rfl (ltn rfl)) rfl ?_
                          refine VL.done ?_
                          refine VN.then ?_
                          refine VC.ret ?_
                          refine VR.then ?_
                          cases h
                      · rw [if_neg c20229] at h
                        obtain rfl : b20228 = true := hb20228.symm.trans (bne_iff_ne.2 c20229)
                        refine VL.un rfl rfl (ltn rfl) ?_
                        refine VL.un rfl rfl (ltn rfl) ?_
                        refine VL.un rfl rfl (ltn rfl) ?_
                        refine VL.un rfl rfl (ltn rfl) ?_
                        refine VL.va (op_pick rfl rfl (ltn rfl)) rfl ?_
                        refine VL.va (op_pick rfl rfl (ltn rfl)) rfl ?_
                        refine VL.va (op_pick rfl rfl (ltn rfl)) rfl ?_
                        refine VL.done ?_
                        refine VN.then ?_
                        refine VC.cond_t rfl ?_
                        refine VC.seq ?_
                        refine VC.region ?_
                        refine VL.va (op_assign rfl (ltn rfl)) rfl ?_
                        refine VL.done ?_
                        refine VN.then ?_
                        refine VC.ret ?_
                        refine VR.then ?_
                        cases h
                    · rw [if_neg c20227] at h
                      obtain rfl : b20226 = false := hb20226.symm.trans (beq_eq_false_iff_ne.2 c20227)
                      refine VL.un rfl rfl (ltn rfl) ?_
                      refine VL.un rfl rfl (ltn rfl) ?_
                      refine VL.un rfl rfl (ltn rfl) ?_
                      refine VL.un rfl rfl (ltn rfl) ?_
                      refine VL.un rfl rfl (ltn rfl) ?_
                      refine VL.un rfl rfl (ltn rfl) ?_
                      refine VL.un rfl rfl (ltn rfl) ?_
                      refine VL.un rfl rfl (ltn rfl) ?_
                      refine VL.va (op_pick rfl rfl (ltn rfl)) rfl ?_
                      refine VL.va (op_pick rfl rfl (ltn rfl)) rfl ?_
                      refine VL.done ?_
                      refine VN.then ?_
                      refine VC.cond_f rfl ?_
                      refine VC.skip ?_
                      refine VN.then ?_
                      refine VC.seq ?_
                      refine VC.seq ?_
                      refine VC.region ?_
                      refine VL.va (op_move rfl (ltn rfl)) rfl ?_
                      refine VL.va (op_lens Try.underlying9 rfl (ltn rfl)) rfl ?_
                      refine VL.letter (decide (((a0.extract 0 ((mn (a0.size : Int) 4100).toNat)).size : Int) > 4096)) fun b20267 hb20267 => ?_
                      refine VL.va (op_cmp rfl rfl (congrArg some hb20267) (ltn rfl)) rfl ?_
                      refine VL.done ?_
                      refine VN.then ?_
                      by_cases c20268 : ((a0.extract 0 ((mn (a0.size : Int) 4100).toNat)).size : Int) > 4096
                      · rw [if_pos c20268] at h
                        obtain rfl : b20267 = true := hb20267.symm.trans (decide_eq_true c20268)
                        refine VC.cond_t rfl ?_
                        refine VC.seq ?_
                        refine VC.region ?_
                        refine VL.va (op_move rfl (ltn rfl)) rfl ?_
                        refine VL.letter ((t862 == 3)) fun b20272 hb20272 => ?_
                        refine VL.va (op_cmp rfl rfl (congrArg some hb20272) (ltn rfl)) rfl ?_
                        refine VL.va (op_move rfl (ltn rfl)) rfl ?_
                        by_cases c20273 : t862 = 3
                        · rw [if_pos c20273] at h
                          obtain rfl : b20272 = true := hb20272.symm.trans (beq_iff_eq.2 c20273)
                          refine VL.va (op_move rfl (ltn rfl)) rfl ?_
                          refine VL.letter ((t861 == (⟨#[]⟩ : ByteArray))) fun b20274 hb20274 => ?_
                          refine VL.va (op_cmps rfl rfl (congrArg some hb20274) (ltn rfl)) rfl ?_
                          refine VL.va (op_pick rfl rfl (ltn rfl)) rfl ?_
                          refine VL.va (op_assign rfl (ltn rfl)) rfl ?_
                          refine VL.done ?_
                          refine VN.then ?_
                          refine VC.ret ?_
                          refine VR.then ?_
                          obtain rfl := Option.some.inj h
                          subst hb20274
                          exact VR.fn (rs := [.tmp 4]) [] [] [] rfl (.tmp rfl .nil) ⟨rfl, rfl, rfl⟩ trivial rfl (by decide)
                        · rw [if_neg c20273] at h
                          obtain rfl : b20272 = false := hb20272.symm.trans (beq_eq_false_iff_ne.2 c20273)
                          refine VL.un rfl rfl (ltn rfl) ?_
                          refine VL.un rfl rfl (ltn rfl) ?_
                          refine VL.va (op_pick rfl rfl (ltn rfl)) rfl ?_
                          refine VL.va (op_assign rfl (ltn rfl)) rfl ?_
                          refine VL.done ?_
                          refine VN.then ?_
                          refine VC.ret ?_
                          refine VR.then ?_
                          cases h
                      · rw [if_neg c20268] at h
                        obtain rfl : b20267 = false := hb20267.symm.trans (decide_eq_false c20268)
                        refine VC.cond_f rfl ?_
                        refine VC.skip ?_
                        refine VN.then ?_
                        refine VC.seq ?_
                        refine VC.region ?_
                        refine VL.va (op_move rfl (ltn rfl)) rfl ?_
                        refine VL.letter ((t862 == 0)) fun b20280 hb20280 => ?_
                        refine VL.va (op_cmp rfl rfl (congrArg some hb20280) (ltn rfl)) rfl ?_
                        refine VL.va (op_move rfl (ltn rfl)) rfl ?_
                        by_cases c20281 : t862 = 0
                        · rw [if_pos c20281] at h
                          obtain rfl : b20280 = true := hb20280.symm.trans (beq_iff_eq.2 c20281)
                          refine VL.va (op_move rfl (ltn rfl)) rfl ?_
                          refine VL.va (op_move rfl (ltn rfl)) rfl ?_
                          replace h := Option.bind_eq_some_iff.1 h
                          obtain ⟨t20282, hA20283, h⟩ := h
                          refine VL.sC (o_call0 FO15 (tarryref04_Frame.ok k (a0.extract 0 ((mn (a0.size : Int) 4100).toNat)) t20282 hA20283) rfl rfl (ltn rfl) (All_of .nil)) rfl ?_
                          rintro _ _ _ ⟨rfl, rfl, rfl⟩
                          refine VL.letter ((t861 == t20282)) fun b20284 hb20284 => ?_
                          refine VL.va (op_cmps rfl rfl (congrArg some hb20284) (ltn rfl)) rfl ?_
                          refine VL.va (op_pick rfl rfl (ltn rfl)) rfl ?_
                          refine VL.va (op_assign rfl (ltn rfl)) rfl ?_
                          refine VL.done ?_
                          refine VN.then ?_
                          refine VC.ret ?_
                          obtain rfl := Option.some.inj h
                          subst hb20284
                          exact VR.fn (rs := [.tmp 4]) [] [] [] rfl (.tmp rfl .nil) ⟨rfl, rfl, rfl⟩ trivial rfl (by decide)
                        · rw [if_neg c20281] at h
                          obtain rfl : b20280 = false := hb20280.symm.trans (beq_eq_false_iff_ne.2 c20281)
                          refine VL.un rfl rfl (ltn rfl) ?_
                          refine VL.un rfl rfl (ltn rfl) ?_
                          refine VL.un rfl rfl (ltn rfl) ?_
                          refine VL.un rfl rfl (ltn rfl) ?_
                          refine VL.va (op_pick rfl rfl (ltn rfl)) rfl ?_
                          refine VL.va (op_assign rfl (ltn rfl)) rfl ?_
                          refine VL.done ?_
                          refine VN.then ?_
                          refine VC.ret ?_
                          cases h
                · rw [if_neg c20100] at h
                  obtain rfl := Bool.eq_false_iff.2 c20100
                  refine VL.va (op_not rfl rfl (ltn rfl)) rfl ?_
                  refine VL.va (op_pick rfl rfl (ltn rfl)) rfl ?_
                  refine VL.done ?_
                  refine VN.then ?_
                  refine VC.cond_t rfl ?_
                  refine VC.seq ?_
                  refine VC.region ?_
                  refine VL.va (op_assign rfl (ltn rfl)) rfl ?_
                  refine VL.done ?_
                  refine VN.then ?_
                  refine VC.ret ?_
                  refine VR.then ?_
                  cases h
              · rw [if_neg c20097] at h
                obtain rfl := Bool.eq_false_iff.2 c20097
                refine VL.va (op_not rfl rfl (ltn rfl)) rfl ?_
                refine VL.va (op_pick rfl rfl (ltn rfl)) rfl ?_
                refine VL.va (op_move rfl (ltn rfl)) rfl ?_
                refine VL.un rfl rfl (ltn rfl) ?_
                refine VL.un rfl rfl (ltn rfl) ?_
                refine VL.va (op_pick rfl rfl (ltn rfl)) rfl ?_
                refine VL.done ?_
                refine VN.then ?_
                refine VC.cond_t rfl ?_
                refine VC.seq ?_
                refine VC.region ?_
                refine VL.va (op_assign rfl (ltn rfl)) rfl ?_
                refine VL.done ?_
                refine VN.then ?_
                refine VC.ret ?_
                refine VR.then ?_
                cases h
            · rw [if_neg c20094] at h
              obtain rfl : b20093 = true := hb20093.symm.trans (bne_iff_ne.2 c20094)
              refine VL.un rfl rfl (ltn rfl) ?_
              refine VL.un rfl rfl (ltn rfl) ?_
              refine VL.un rfl rfl (ltn rfl) ?_
              refine VL.un rfl rfl (ltn rfl) ?_
              refine VL.va (op_pick rfl rfl (ltn rfl)) rfl ?_
              refine VL.va (op_move rfl (ltn rfl)) rfl ?_
              refine VL.un rfl rfl (ltn rfl) ?_
              refine VL.un rfl rfl (ltn rfl) ?_
              refine VL.va (op_pick rfl rfl (ltn rfl)) rfl ?_
              refine VL.done ?_
              refine VN.then ?_
              refine VC.cond_t rfl ?_
              refine VC.seq ?_
              refine VC.region ?_
              refine VL.va (op_assign rfl (ltn rfl)) rfl ?_
              refine VL.done ?_
              refine VN.then ?_
              refine VC.ret ?_
              refine VR.then ?_
              cases h
          · rw [if_neg c20092] at h
            obtain rfl := Bool.eq_false_iff.2 c20092
            refine VL.va (op_not rfl rfl (ltn rfl)) rfl ?_
            refine VL.va (op_move rfl (ltn rfl)) rfl ?_
            refine VL.un rfl rfl (ltn rfl) ?_
            refine VL.un rfl rfl (ltn rfl) ?_
            refine VL.un rfl rfl (ltn rfl) ?_
            refine VL.un rfl rfl (ltn rfl) ?_
            refine VL.va (op_pick rfl rfl (ltn rfl)) rfl ?_
            refine VL.va (op_move rfl (ltn rfl)) rfl ?_
            refine VL.un rfl rfl (ltn rfl) ?_
            refine VL.un rfl rfl (ltn rfl) ?_
            refine VL.un rfl rfl (ltn rfl) ?_
            refine VL.un rfl rfl (ltn rfl) ?_
            refine VL.va (op_pick rfl rfl (ltn rfl)) rfl ?_
            refine VL.va (op_move rfl (ltn rfl)) rfl ?_
            refine VL.un rfl rfl (ltn rfl) ?_
            refine VL.un rfl rfl (ltn rfl) ?_
            refine VL.va (op_pick rfl rfl (ltn rfl)) rfl ?_
            refine VL.done ?_
            refine VN.then ?_
            refine VC.cond_t rfl ?_
            refine VC.seq ?_
            refine VC.region ?_
            refine VL.va (op_assign rfl (ltn rfl)) rfl ?_
            refine VL.done ?_
            refine VN.then ?_
            refine VC.ret ?_
            refine VR.then ?_
            cases h
        · rw [if_neg c4] at h; cases h
      · rw [if_neg c3] at h; cases h
    · rw [if_neg c2] at h; cases h
  · rw [if_neg c1] at h; cases h

end Go.Proofs.Ytaolaicmfjdmhaa.PFrameScans
