/- Written by a program of this repo: what the program's functions do, each as a Lean function, shown of the loaded code; or a statement's row over that; no condition of its own. -/
import Derived.Test.YtaolaicmfjdmhaaPFrameScansx4
namespace Go.Proofs.Ytaolaicmfjdmhaa.PFrameScans
open Go Go.RowKit Go.Proofs.YtaolaicmfjdmhaaV
set_option linter.unusedVariables false
set_option linter.unusedSimpArgs false

set_option maxHeartbeats 4000000 in
set_option maxRecDepth 100000 in
theorem tarryref04_Scan.ok (k : Nat) (a0 : ByteArray)  (r1 : List ByteArray) (h : tarryref04_Scan.f k a0 = some r1) :
    VCalls Try.prog 12 [.string a0] [] (fun v G own => ∃ w0 : Value, v = w0 ∧ G = [] ∧ own = [(w0, 9, 1, r1.map enc_str)]) := by
  refine VCalls.intro Try.func12 rfl (len rfl) fun E hC hW hD => ?_
  unfold tarryref04_Scan.f at h
  refine VC.seq ?_
  refine VC.region ?_
  refine VL.va (op_assign rfl (ltn rfl)) rfl ?_
  refine VL.done ?_
  refine VN.then ?_
  refine VC.seq ?_
  refine VC.region ?_
  refine VL.sG (o_buildSlice (vals := []) (cells := #[]) (es := List.map enc_str ([] : List ByteArray)) Try.underlying22 TI9 Z9 rfl (by decide) (by decide) (by kernel_rfl) (by kernel_rfl) rfl (flat_map enc_str_ok _) (ltn rfl)) rfl ?_
  intro v2997
  refine VL.va (op_assign rfl (ltn rfl)) rfl ?_
  refine VL.done ?_
  refine VN.then ?_
  refine VC.seq ?_
  refine VC.block ?_
  refine VC.loop3 (fun (s19576 : ByteArray) (v19578 : Value) (l19579 : List ByteArray) => ⟨64, [(0, .string s19576), (2, .slice none 0 0), (3, v19578)], [], [], [(v19578, 9, 1, l19579.map enc_str)]⟩) (fun (ml1 : Nat) (s19576 : ByteArray) (v19578 : Value) (l19579 : List ByteArray) => tarryref04_Scan.l1 k ml1 s19576 l19579 = some r1) k a0 v2997 ([] : List ByteArray) [] [0] h ⟨rfl, ⟨rfl, rfl, rfl, trivial⟩, trivial, rfl, by decide, rfl, by decide⟩ (by intros; simp [tarryref04_Scan.l1]) ?_
  clear h
  intro ml1 ihl1 s19576 v19578 l19579 h
  simp only [tarryref04_Scan.l1] at h
  refine VC.seq ?_
  refine VC.seq ?_
  refine VC.region ?_
  refine VL.va (op_move rfl (ltn rfl)) rfl ?_
  refine VL.va (op_lens Try.underlying9 rfl (ltn rfl)) rfl ?_
  refine VL.letter (decide ((s19576.size : Int) > 0)) fun b19646 hb19646 => ?_
  refine VL.va (op_cmp rfl rfl (congrArg some hb19646) (ltn rfl)) rfl ?_
  refine VL.done ?_
  refine VN.then ?_
  by_cases c19647 : (s19576.size : Int) > 0
  · rw [if_pos c19647] at h
    obtain rfl : b19646 = true := hb19646.symm.trans (decide_eq_true c19647)
    refine VC.cond_t rfl ?_
    refine VC.skip ?_
    refine VN.then ?_
    refine VC.block ?_
    refine VC.seq ?_
    refine VC.region ?_
    refine VL.va (op_move rfl (ltn rfl)) rfl ?_
    replace h := Option.bind_eq_some_iff.1 h
    obtain ⟨⟨t19648, t19649, t19650⟩, hA19651, h⟩ := h
    dsimp only at h
    refine VL.sC (o_call0 FO20 (tarryref01_ReadNumber.ok k s19576 t19648 t19649 t19650 hA19651) rfl rfl (ltn rfl) (All_of .nil)) rfl ?_
    rintro _ _ _ ⟨rfl, rfl, rfl⟩
    refine VL.sG (o_alloc Z48 ZL48 (ltn rfl)) rfl ?_
    intro g19652
    refine VL.step1 (o_store 0 3 rfl rfl rfl TI48 (.agg (.of rfl)) rfl (len rfl)) rfl ?_
    refine VL.done ?_
    refine VN.then ?_
    refine VC.seq ?_
    refine VC.seq ?_
    refine VC.region ?_
    refine VL.va (op_fieldAddr FI48_2 rfl (add_at _ _ _) (ltn rfl)) rfl ?_
    refine VL.va (op_load 0 1 rfl rfl TI26 rfl (by decide) (ltn rfl)) rfl ?_
    refine VL.letter ((t19650 != 0)) fun b19675 hb19675 => ?_
    refine VL.va (op_cmp rfl rfl (congrArg some hb19675) (ltn rfl)) rfl ?_
    refine VL.va (op_move rfl (ltn rfl)) rfl ?_
    by_cases c19676 : t19650 = 0
    · rw [if_pos c19676] at h
      obtain rfl : b19675 = false := hb19675.symm.trans (bne_eq_false_iff_eq.2 c19676)
      refine VL.va (op_fieldAddr FI48_0 rfl (add_at _ _ _) (ltn rfl)) rfl ?_
      refine VL.va (op_load 0 1 rfl rfl TI3 rfl (by decide) (ltn rfl)) rfl ?_
      refine VL.letter (decide (t19648 < 0)) fun b19677 hb19677 => ?_
      refine VL.va (op_cmp rfl rfl (congrArg some hb19677) (ltn rfl)) rfl ?_
      refine VL.va (op_pick rfl rfl (ltn rfl)) rfl ?_
      refine VL.va (op_move rfl (ltn rfl)) rfl ?_
      by_cases c19678 : t19648 < 0
      · rw [if_pos c19678] at h
        obtain rfl : b19677 = true := hb19677.symm.trans (decide_eq_true c19678)
        refine VL.un rfl rfl (ltn rfl) ?_
        refine VL.un rfl rfl (ltn rfl) ?_
        refine VL.un rfl rfl (ltn rfl) ?_
        refine VL.va (op_pick rfl rfl (ltn rfl)) rfl ?_
        refine VL.va (op_move rfl (ltn rfl)) rfl ?_
        refine VL.un rfl rfl (ltn rfl) ?_
        refine VL.un rfl rfl (ltn rfl) ?_
        refine VL.un rfl rfl (ltn rfl) ?_
        refine VL.un rfl rfl (ltn rfl) ?_
        refine VL.un rfl rfl (ltn rfl) ?_
        refine VL.un rfl rfl (ltn rfl) ?_
        refine VL.un rfl rfl (ltn rfl) ?_
        refine VL.va (op_pick rfl rfl (ltn rfl)) rfl ?_
        refine VL.done ?_
        refine VN.then ?_
        refine VC.cond_t rfl ?_
        refine VC.seq ?_
        refine VC.region ?_
        refine VL.va (op_move rfl (ltn rfl)) rfl ?_
        refine VL.va (op_assign rfl (ltn rfl)) rfl ?_
        refine VL.done ?_
        refine VN.then ?_
        refine VC.ret ?_
        refine VR.then ?_
        refine VR.block ?_
        refine VR.then ?_
        refine VR.block ?_
        refine VR.then ?_
        obtain rfl := Option.some.inj h
        exact VR.fn (rs := [.tmp 2]) [] [(v19578, 9, 1, l19579.map enc_str)] [0] rfl (.tmp rfl .nil) ⟨v19578, rfl, rfl, rfl⟩ trivial rfl (by decide)
      · rw [if_neg c19678] at h
        obtain rfl : b19677 = false := hb19677.symm.trans (decide_eq_false c19678)
        refine VL.va (op_fieldAddr FI48_0 rfl (add_at _ _ _) (ltn rfl)) rfl ?_
        refine VL.va (op_load 0 1 rfl rfl TI3 rfl (by decide) (ltn rfl)) rfl ?_
        refine VL.letter (decide (t19648 > 4096)) fun b19679 hb19679 => ?_
        refine VL.va (op_cmp rfl rfl (congrArg some hb19679) (ltn rfl)) rfl ?_
        refine VL.va (op_pick rfl rfl (ltn rfl)) rfl ?_
        refine VL.va (op_move rfl (ltn rfl)) rfl ?_
        by_cases c19680 : t19648 > 4096
        · rw [if_pos c19680] at h
          obtain rfl : b19679 = true := hb19679.symm.trans (decide_eq_true c19680)
          refine VL.un rfl rfl (ltn rfl) ?_
          refine VL.un rfl rfl (ltn rfl) ?_
          refine VL.un rfl rfl (ltn rfl) ?_
          refine VL.un rfl rfl (ltn rfl) ?_
          refine VL.un rfl rfl (ltn rfl) ?_
          refine VL.un rfl rfl (ltn rfl) ?_
          refine VL.un rfl rfl (ltn rfl) ?_
          refine VL.va (op_pick rfl rfl (ltn rfl)) rfl ?_
          refine VL.done ?_
          refine VN.then ?_
          refine VC.cond_t rfl ?_
          refine VC.seq ?_
          refine VC.region ?_
          refine VL.va (op_move rfl (ltn rfl)) rfl ?_
          refine VL.va (op_assign rfl (ltn rfl)) rfl ?_
          refine VL.done ?_
          refine VN.then ?_
          refine VC.ret ?_
          refine VR.then ?_
          refine VR.block ?_
          refine VR.then ?_
          refine VR.block ?_
          refine VR.then ?_
          obtain rfl := Option.some.inj h
          exact VR.fn (rs := [.tmp 2]) [] [(v19578, 9, 1, l19579.map enc_str)] [0] rfl (.tmp rfl .nil) ⟨v19578, rfl, rfl, rfl⟩ trivial rfl (by decide)
        · rw [if_neg c19680] at h
          obtain rfl : b19679 = false := hb19679.symm.trans (decide_eq_false c19680)
          refine VL.va (op_fieldAddr FI48_0 rfl (add_at _ _ _) (ltn rfl)) rfl ?_
          refine VL.va (op_load 0 1 rfl rfl TI3 rfl (by decide) (ltn rfl)) rfl ?_
          refine VL.va (op_ari64 rfl rfl rfl (ltn rfl)) rfl ?_
          refine VL.va (op_fieldAddr FI48_1 rfl (add_at _ _ _) (ltn rfl)) rfl ?_
          refine VL.va (op_load 0 1 rfl rfl TI9 rfl (by decide) (ltn rfl)) rfl ?_
          refine VL.va (op_lens Try.underlying9 rfl (ltn rfl)) rfl ?_
          refine VL.letter (decide ((wrap64 (t19648 + 4)) > (t19649.size : Int))) fun b19681 hb19681 => ?_
          refine VL.va (op_cmp rfl rfl (congrArg some hb19681) (ltn rfl)) rfl ?_
          refine VL.va (op_pick rfl rfl (ltn rfl)) rfl ?_
          refine VL.done ?_
          refine VN.then ?_
          by_cases c19682 : (wrap64 (t19648 + 4)) > (t19649.size : Int)
          · rw [if_pos c19682] at h
            obtain rfl : b19681 = true := hb19681.symm.trans (decide_eq_true c19682)
            refine VC.cond_t rfl ?_
            refine VC.seq ?_
            refine VC.region ?_
            refine VL.va (op_move rfl (ltn rfl)) rfl ?_
            refine VL.va (op_assign rfl (ltn rfl)) rfl ?_
            refine VL.done ?_
            refine VN.then ?_
            refine VC.ret ?_
            refine VR.then ?_
            refine VR.block ?_
            refine VR.then ?_
            refine VR.block ?_
            refine VR.then ?_
            obtain rfl := Option.some.inj h
            exact VR.fn (rs := [.tmp 2]) [] [(v19578, 9, 1, l19579.map enc_str)] [0] rfl (.tmp rfl .nil) ⟨v19578, rfl, rfl, rfl⟩ trivial rfl (by decide)
          · rw [if_neg c19682] at h
            obtain rfl : b19681 = false := hb19681.symm.trans (decide_eq_false c19682)
            refine VC.cond_f rfl ?_
            refine VC.skip ?_
            refine VN.then ?_
            refine VC.seq ?_
            refine VC.region ?_
            refine VL.va (op_fieldAddr FI48_1 rfl (add_at _ _ _) (ltn rfl)) rfl ?_
            refine VL.va (op_load 0 1 rfl rfl TI9 rfl (by decide) (ltn rfl)) rfl ?_
            refine VL.va (op_fieldAddr FI48_0 rfl (add_at _ _ _) (ltn rfl)) rfl ?_
            refine VL.va (op_load 0 1 rfl rfl TI3 rfl (by decide) (ltn rfl)) rfl ?_
            by_cases c19683 : 0 ≤ t19648
            · rw [if_pos c19683] at h
              by_cases c19684 : t19648 ≤ (t19649.size : Int)
              · rw [if_pos c19684] at h
                refine VL.va (op_sliceS 0 t19648.toNat Try.underlying9 rfl ⟨rfl, ⟨_, _, rfl, c19683, rfl⟩, by omega, by omega⟩ rfl (ltn rfl)) rfl ?_
                refine VL.va (op_assign rfl (ltn rfl)) rfl ?_
                refine VL.done ?_
                refine VN.then ?_
                refine VC.seq ?_
                by_cases c19694 : 0 ≤ wrap64 (t19648 + 4)
                · rw [if_pos c19694] at h
                  by_cases c19695 : (wrap64 (t19648 + 4)) ≤ (t19649.size : Int)
                  · rw [if_pos c19695] at h
                    by_cases c19696 : t19648 ≤ (wrap64 (t19648 + 4))
                    · rw [if_pos c19696] at h
                      replace h := Option.bind_eq_some_iff.1 h
                      obtain ⟨t19697, hA19698, h⟩ := h
                      replace h := Option.bind_eq_some_iff.1 h
                      obtain ⟨t19699, hA19700, h⟩ := h
                      refine VC.letter (((t19649.extract t19648.toNat ((wrap64 (t19648 + 4)).toNat)) != t19699)) fun b19701 hb19701 => ?_
                      refine VC.join0 (⟨64, [(0, .string s19576), (2, .slice none 0 0), (3, v19578), (4, .pointer (some ⟨g19652, 0, none⟩)), (5, .string (t19649.extract 0 t19648.toNat)), (7, .string s19576), (8, .int .i64 (s19576.size : Int)), (9, .bool true), (10, .string s19576), (11, .agg #[.int .i64 t19648, .string t19649, .int .i64 t19650]), (12, .pointer (some ⟨g19652, 2, none⟩)), (13, .int .i64 t19650), (14, .bool false), (15, .bool false), (16, .pointer (some ⟨g19652, 0, none⟩)), (17, .int .i64 t19648), (18, .bool false), (19, .bool false), (20, .bool false), (21, .pointer (some ⟨g19652, 0, none⟩)), (22, .int .i64 t19648), (23, .bool false), (24, .bool false), (25, .bool false), (26, .pointer (some ⟨g19652, 0, none⟩)), (27, .int .i64 t19648), (28, .int .i64 (wrap64 (t19648 + 4))), (29, .pointer (some ⟨g19652, 1, none⟩)), (30, .string t19649), (31, .int .i64 (t19649.size : Int)), (32, .bool false), (33, .bool false), (35, .pointer (some ⟨g19652, 1, none⟩)), (36, .string t19649), (37, .pointer (some ⟨g19652, 0, none⟩)), (38, .int .i64 t19648), (39, .string (t19649.extract 0 t19648.toNat)), (40, .pointer (some ⟨g19652, 1, none⟩)), (41, .string t19649), (42, .pointer (some ⟨g19652, 0, none⟩)), (43, .int .i64 t19648), (44, .pointer (some ⟨g19652, 0, none⟩)), (45, .int .i64 t19648), (46, .int .i64 (wrap64 (t19648 + 4))), (47, .string (t19649.extract t19648.toNat ((wrap64 (t19648 + 4)).toNat))), (48, .string (t19649.extract 0 t19648.toNat)), (49, .int .u32 t19697), (50, .string t19699), (51, .bool b19701)], [], [(g19652, 48, [.int .i64 t19648, .string t19649, .int .i64 t19650])], [(v19578, 9, 1, l19579.map enc_str)]⟩) (True) ?_ ?_
                      · refine VC.draw ⟨0, [], [], [(g19652, 48, [.int .i64 t19648, .string t19649, .int .i64 t19650])], []⟩ (by kernel_rfl) rfl (by kernel_rfl) (n := 12) (listed := LB 12 0) ?_
                        refine VA.va (i := 0) (listed' := LB 12 1) rfl (op_fieldAddr FI48_1 rfl (add_at _ _ _) (ltn rfl)) rfl (by kernel_rfl) (by kernel_rfl) (by kernel_rfl) (by kernel_rfl) ⟨trivial, ⟨⟨0, rfl⟩, trivial⟩, trivial⟩ (fun _ _ _ h => h) ?_
                        refine VA.va (i := 1) (listed' := LB 12 3) rfl (op_load 0 1 rfl rfl TI9 rfl (by decide) (ltn rfl)) rfl (by kernel_rfl) (by kernel_rfl) (by kernel_rfl) (by kernel_rfl) ⟨trivial, ⟨⟨0, rfl⟩, trivial⟩, trivial⟩ (fun _ _ _ h => h) ?_
                        refine VA.va (i := 2) (listed' := LB 12 7) rfl (op_fieldAddr FI48_0 rfl (add_at _ _ _) (ltn rfl)) rfl (by kernel_rfl) (by kernel_rfl) (by kernel_rfl) (by kernel_rfl) ⟨trivial, ⟨⟨0, rfl⟩, trivial⟩, trivial⟩ (fun _ _ _ h => h) ?_
                        refine VA.va (i := 3) (listed' := LB 12 15) rfl (op_load 0 1 rfl rfl TI3 rfl (by decide) (ltn rfl)) rfl (by kernel_rfl) (by kernel_rfl) (by kernel_rfl) (by kernel_rfl) ⟨trivial, ⟨⟨0, rfl⟩, trivial⟩, trivial⟩ (fun _ _ _ h => h) ?_
                        refine VA.va (i := 4) (listed' := LB 12 31) rfl (op_fieldAddr FI48_0 rfl (add_at _ _ _) (ltn rfl)) rfl (by kernel_rfl) (by kernel_rfl) (by kernel_rfl) (by kernel_rfl) ⟨trivial, ⟨⟨0, rfl⟩, trivial⟩, trivial⟩ (fun _ _ _ h => h) ?_
                        refine VA.va (i := 5) (listed' := LB 12 63) rfl (op_load 0 1 rfl rfl TI3 rfl (by decide) (ltn rfl)) rfl (by kernel_rfl) (by kernel_rfl) (by kernel_rfl) (by kernel_rfl) ⟨trivial, ⟨⟨0, rfl⟩, trivial⟩, trivial⟩ (fun _ _ _ h => h) ?_
                        refine VA.va (i := 6) (listed' := LB 12 127) rfl (op_ari64 rfl rfl rfl (ltn rfl)) rfl (by kernel_rfl) (by kernel_rfl) (by kernel_rfl) (by kernel_rfl) ⟨trivial, ⟨⟨0, rfl⟩, trivial⟩, trivial⟩ (fun _ _ _ h => h) ?_
                        refine VA.va (i := 7) (listed' := LB 12 255) rfl (op_sliceS t19648.toNat ((wrap64 (t19648 + 4)).toNat) Try.underlying9 rfl ⟨⟨_, _, rfl, c19683, rfl⟩, ⟨_, _, rfl, c19694, rfl⟩, by omega, by omega⟩ rfl (ltn rfl)) rfl (by kernel_rfl) (by kernel_rfl) (by kernel_rfl) (by kernel_rfl) ⟨trivial, ⟨⟨0, rfl⟩, trivial⟩, trivial⟩ (fun _ _ _ h => h) ?_
                        refine VA.va (i := 8) (listed' := LB 12 511) rfl (op_move rfl (ltn rfl)) rfl (by kernel_rfl) (by kernel_rfl) (by kernel_rfl) (by kernel_rfl) ⟨trivial, ⟨⟨0, rfl⟩, trivial⟩, trivial⟩ (fun _ _ _ h => h) ?_
                        refine VA.oneC (i := 9) (listed' := LB 12 1023) (by kernel_rfl) rfl (o_call0 FO22 (tarryref02_Of.ok k (t19649.extract 0 t19648.toNat) t19697 hA19698) rfl rfl (ltn rfl) (All_of .nil)) rfl (by kernel_rfl) ?_
                        rintro _ _ _ ⟨rfl, rfl, rfl⟩
                        refine ⟨⟨trivial, ⟨⟨0, rfl⟩, trivial⟩, trivial⟩, ?_⟩
                        refine VA.oneC (i := 10) (listed' := LB 12 2047) (by kernel_rfl) rfl (o_call0 FO21 (tarryref02_Bytes.ok k t19697 t19699 hA19700) rfl rfl (ltn rfl) (All_of .nil)) rfl (by kernel_rfl) ?_
                        rintro _ _ _ ⟨rfl, rfl, rfl⟩
                        refine ⟨⟨trivial, ⟨⟨0, rfl⟩, trivial⟩, trivial⟩, ?_⟩
                        refine VA.va (i := 11) (listed' := LB 12 4095) rfl (op_cmps rfl rfl (congrArg some hb19701) (ltn rfl)) rfl (by kernel_rfl) (by kernel_rfl) (by kernel_rfl) (by kernel_rfl) ⟨trivial, ⟨⟨0, rfl⟩, trivial⟩, trivial⟩ (fun _ _ _ h => h) ?_
                        refine VA.done (by kernel_rfl) ?_
                        exact VN.meet0  [0] [0] trivial ⟨rfl, ⟨rfl, rfl, rfl, rfl, rfl, rfl, rfl, rfl, rfl, rfl, rfl, rfl, rfl, rfl, rfl, rfl, rfl, rfl, rfl, rfl, rfl, rfl, rfl, rfl, rfl, rfl, rfl, rfl, rfl, rfl, rfl, rfl, rfl, rfl, rfl, rfl, rfl, rfl, rfl, rfl, rfl, rfl, rfl, rfl, rfl, rfl, rfl, rfl, rfl, trivial⟩, trivial, rfl, by decide, rfl, by decide⟩
                      intro _
                      by_cases c19702 : ((t19649.extract t19648.toNat ((wrap64 (t19648 + 4)).toNat)) == t19699) = true
                      · rw [if_pos c19702] at h
                        obtain rfl : b19701 = false := hb19701.symm.trans (bne_of_t c19702)
                        refine VC.cond_f rfl ?_
                        refine VC.skip ?_
                        refine VN.then ?_
                        refine VC.seq ?_
                        refine VC.region ?_
                        refine VL.va (op_move rfl (ltn rfl)) rfl ?_
                        refine VL.va (op_move rfl (ltn rfl)) rfl ?_
                        refine VL.sG (o_buildSlice (vals := [(0, .string (t19649.extract 0 t19648.toNat))]) (cells := #[.string (t19649.extract 0 t19648.toNat)]) (es := List.map enc_str ([t19649.extract 0 t19648.toNat] : List ByteArray)) Try.underlying22 TI9 Z9 rfl (by decide) (by decide) (by kernel_rfl) (by kernel_rfl) rfl (flat_map enc_str_ok _) (ltn rfl)) rfl ?_
                        intro v19704
                        by_cases c19705 : (l19579.length + ([t19649.extract 0 t19648.toNat] : List ByteArray).length) * 16 ≤ 140737488355328
                        · rw [if_pos c19705] at h
                          refine VL.sG (o_append 1 appm Try.underlying22 EI9 rfl rfl rfl (.inr ⟨0, _, rfl⟩) (bndm c19705) (ltn rfl)) rfl ?_
                          intro v19706
                          refine VL.va (op_assign rfl (ltn rfl)) rfl ?_
                          refine VL.done ?_
                          refine VN.then ?_
                          refine VC.region ?_
                          refine VL.va (op_fieldAddr FI48_1 rfl (add_at _ _ _) (ltn rfl)) rfl ?_
                          refine VL.va (op_load 0 1 rfl rfl TI9 rfl (by decide) (ltn rfl)) rfl ?_
                          refine VL.va (op_fieldAddr FI48_0 rfl (add_at _ _ _) (ltn rfl)) rfl ?_
                          refine VL.va (op_load 0 1 rfl rfl TI3 rfl (by decide) (ltn rfl)) rfl ?_
                          refine VL.va (op_ari64 rfl rfl rfl (ltn rfl)) rfl ?_
                          refine VL.va (op_sliceS ((wrap64 (t19648 + 4)).toNat) t19649.size Try.underlying9 rfl ⟨⟨_, _, rfl, c19694, rfl⟩, rfl, by omega, by omega⟩ rfl (ltn rfl)) rfl ?_
                          refine VL.va (op_assign rfl (ltn rfl)) rfl ?_
                          refine VL.done ?_
                          refine VN.block ?_
                          refine VN.again [] [1] (ihl1 (t19649.extract ((wrap64 (t19648 + 4)).toNat) t19649.size) v19706 (l19579 ++ ([t19649.extract 0 t19648.toNat] : List ByteArray)) h) ⟨rfl, ⟨rfl, rfl, rfl, trivial⟩, trivial, rfl, by decide, rfl, by decide⟩
                        · rw [if_neg c19705] at h; cases h
                      · rw [if_neg c19702] at h
                        obtain rfl : b19701 = true := hb19701.symm.trans (bne_of_f c19702)
                        refine VC.cond_t rfl ?_
                        refine VC.seq ?_
                        refine VC.region ?_
                        refine VL.va (op_move rfl (ltn rfl)) rfl ?_
                        refine VL.va (op_assign rfl (ltn rfl)) rfl ?_
                        refine VL.done ?_
                        refine VN.then ?_
                        refine VC.ret ?_
                        refine VR.then ?_
                        refine VR.block ?_
                        refine VR.then ?_
                        refine VR.block ?_
                        refine VR.then ?_
                        obtain rfl := Option.some.inj h
                        exact VR.fn (rs := [.tmp 2]) [] [(v19578, 9, 1, l19579.map enc_str)] [0] rfl (.tmp rfl .nil) ⟨v19578, rfl, rfl, rfl⟩ trivial rfl (by decide)
                    · rw [if_neg c19696] at h; cases h
                  · rw [if_neg c19695] at h; cases h
                · rw [if_neg c19694] at h; cases h
              · rw [if_neg c19684] at h; cases h
            · rw [if_neg c19683] at h; cases h
    · rw [if_neg c19676] at h
      obtain rfl : b19675 = true := hb19675.symm.trans (bne_iff_ne.2 c19676)
      refine VL.un rfl rfl (ltn rfl) ?_
      refine VL.un rfl rfl (ltn rfl) ?_
      refine VL.un rfl rfl (ltn rfl) ?_
      refine VL.va (op_pick rfl rfl (ltn rfl)) rfl ?_
      refine VL.va (op_move rfl (ltn rfl)) rfl ?_
      refine VL.un rfl rfl (ltn rfl) ?_
      refine VL.un rfl rfl (ltn rfl) ?_
      refine VL.un rfl rfl (ltn rfl) ?_
      refine VL.va (op_pick rfl rfl (ltn rfl)) rfl ?_
      refine VL.va (op_move rfl (ltn rfl)) rfl ?_
      refine VL.un rfl rfl (ltn rfl) ?_
      refine VL.un rfl rfl (ltn rfl) ?_
      refine VL.un rfl rfl (ltn rfl) ?_
      refine VL.un rfl rfl (ltn rfl) ?_
      refine VL.un rfl rfl (ltn rfl) ?_
      refine VL.un rfl rfl (ltn rfl) ?_
      refine VL.un rfl rfl (ltn rfl) ?_
      refine VL.va (op_pick rfl rfl (ltn rfl)) rfl ?_
      refine VL.done ?_
      refine VN.then ?_
      refine VC.cond_t rfl ?_
      refine VC.seq ?_
      refine VC.region ?_
      refine VL.va (op_move rfl (ltn rfl)) rfl ?_
      refine VL.va (op_assign rfl (ltn rfl)) rfl ?_
      refine VL.done ?_
      refine VN.then ?_
      refine VC.ret ?_
      refine VR.then ?_
      refine VR.block ?_
      refine VR.then ?_
      refine VR.block ?_
      refine VR.then ?_
      obtain rfl := Option.some.inj h
      exact VR.fn (rs := [.tmp 2]) [] [(v19578, 9, 1, l19579.map enc_str)] [0] rfl (.tmp rfl .nil) ⟨v19578, rfl, rfl, rfl⟩ trivial rfl (by decide)
  · rw [if_neg c19647] at h
    obtain rfl : b19646 = false := hb19646.symm.trans (decide_eq_false c19647)
    refine VC.cond_f rfl ?_
    refine VC.exit ?_
    refine VX.then ?_
    refine VX.then ?_
    refine VX.hit ?_
    refine VN.then ?_
    refine VC.seq ?_
    refine VC.region ?_
    refine VL.va (op_move rfl (ltn rfl)) rfl ?_
    refine VL.va (op_assign rfl (ltn rfl)) rfl ?_
    refine VL.done ?_
    refine VN.then ?_
    refine VC.ret ?_
    obtain rfl := Option.some.inj h
    exact VR.fn (rs := [.tmp 2]) [] [(v19578, 9, 1, l19579.map enc_str)] [0] rfl (.tmp rfl .nil) ⟨v19578, rfl, rfl, rfl⟩ trivial rfl (by decide)
set_option maxHeartbeats 4000000 in
set_option maxRecDepth 100000 in
theorem tarryref01_Number.ok (k : Nat) (a0 : Int)  (r1 : ByteArray) (h : tarryref01_Number.f k a0 = some r1) :
    VCalls Try.prog 24 [.int .i64 a0] [] (fun v G own => v = .string r1 ∧ G = [] ∧ own = []) := by
  refine VCalls.intro Try.func24 rfl (len rfl) fun E hC hW hD => ?_
  unfold tarryref01_Number.f at h
  refine VC.seq ?_
  refine VC.region ?_
  refine VL.va (op_assign rfl (ltn rfl)) rfl ?_
  refine VL.done ?_
  refine VN.then ?_
  refine VC.seq ?_
  refine VC.region ?_
  refine VL.va (op_assign rfl (ltn rfl)) rfl ?_
  refine VL.done ?_
  refine VN.then ?_
  refine VC.seq ?_
  refine VC.seq ?_
  refine VC.region ?_
  refine VL.va (op_move rfl (ltn rfl)) rfl ?_
  refine VL.letter (decide (a0 ≥ 0)) fun b19721 hb19721 => ?_
  refine VL.va (op_cmp rfl rfl (congrArg some hb19721) (ltn rfl)) rfl ?_
  refine VL.done ?_
  refine VN.then ?_
  by_cases c19722 : a0 ≥ 0
  · rw [if_pos c19722] at h
    obtain rfl : b19721 = true := hb19721.symm.trans (decide_eq_true c19722)
    refine VC.cond_t rfl ?_
    refine VC.region ?_
    refine VL.va (op_move rfl (ltn rfl)) rfl ?_
    refine VL.va (op_ari64 rfl rfl rfl (ltn rfl)) rfl ?_
    refine VL.va (op_assign rfl (ltn rfl)) rfl ?_
    refine VL.done ?_
    refine VN.then ?_
    refine VC.seq ?_
    refine VC.region ?_
    refine VL.sG (o_buildSlice (vals := []) (cells := #[]) (es := List.map enc_intu8 ([] : List Int)) Try.underlying29 TI5 Z5 rfl (by decide) (by decide) (by kernel_rfl) (by kernel_rfl) rfl (flat_map enc_intu8_ok _) (ltn rfl)) rfl ?_
    intro v19724
    refine VL.va (op_assign rfl (ltn rfl)) rfl ?_
    refine VL.done ?_
    refine VN.then ?_
    refine VC.seq ?_
    refine VC.block ?_
    refine VC.loop3 (fun (i19765 : Int) (v19767 : Value) (l19768 : List Int) => ⟨32, [(2, .string (⟨#[]⟩ : ByteArray)), (3, .int .i64 i19765), (4, v19767)], [], [], [(v19767, 5, 1, l19768.map enc_intu8)]⟩) (fun (ml1 : Nat) (i19765 : Int) (v19767 : Value) (l19768 : List Int) => tarryref01_Number.l1 k ml1 i19765 l19768 = some r1) k (wrap64 (2 * a0)) v19724 ([] : List Int) [] [0] h ⟨rfl, ⟨rfl, rfl, rfl, trivial⟩, trivial, rfl, by decide, rfl, by decide⟩ (by intros; simp [tarryref01_Number.l1]) ?_
    clear h
    intro ml1 ihl1 i19765 v19767 l19768 h
    simp only [tarryref01_Number.l1] at h
    refine VC.seq ?_
    refine VC.seq ?_
    refine VC.region ?_
    refine VL.va (op_move rfl (ltn rfl)) rfl ?_
    refine VL.letter (decide (i19765 > 127)) fun b19785 hb19785 => ?_
    refine VL.va (op_cmp rfl rfl (congrArg some hb19785) (ltn rfl)) rfl ?_
    refine VL.done ?_
    refine VN.then ?_
    by_cases c19786 : i19765 > 127
    · rw [if_pos c19786] at h
      obtain rfl : b19785 = true := hb19785.symm.trans (decide_eq_true c19786)
      refine VC.cond_t rfl ?_
      refine VC.skip ?_
      refine VN.then ?_
      refine VC.block ?_
      refine VC.seq ?_
      refine VC.region ?_
      refine VL.va (op_move rfl (ltn rfl)) rfl ?_
      refine VL.va (op_move rfl (ltn rfl)) rfl ?_
      refine VL.va (op_rem rfl rfl (by decide) rfl (ltn rfl)) rfl ?_
      refine VL.va (op_ari64 rfl rfl rfl (ltn rfl)) rfl ?_
      refine VL.va (op_conv Try.underlying3 Try.underlying5 rfl rfl (ltn rfl)) rfl ?_
      refine VL.sG (o_buildSlice (vals := [(0, .int .u8 (IntKind.u8.wrap (wrap64 (128 + (i19765.tmod 128)))))]) (cells := #[.int .u8 (IntKind.u8.wrap (wrap64 (128 + (i19765.tmod 128))))]) (es := List.map enc_intu8 ([IntKind.u8.wrap (wrap64 (128 + (i19765.tmod 128)))] : List Int)) Try.underlying29 TI5 Z5 rfl (by decide) (by decide) (by kernel_rfl) (by kernel_rfl) rfl (flat_map enc_intu8_ok _) (ltn rfl)) rfl ?_
      intro v19788
      by_cases c19789 : (l19768.length + ([IntKind.u8.wrap (wrap64 (128 + (i19765.tmod 128)))] : List Int).length) * 1 ≤ 140737488355328
      · rw [if_pos c19789] at h
        refine VL.sG (o_append 1 appm Try.underlying29 EI5 rfl rfl rfl (.inr ⟨0, _, rfl⟩) (bndm c19789) (ltn rfl)) rfl ?_
        intro v19790
        refine VL.va (op_assign rfl (ltn rfl)) rfl ?_
        refine VL.done ?_
        refine VN.then ?_
        refine VC.region ?_
        refine VL.va (op_move rfl (ltn rfl)) rfl ?_
        refine VL.va (op_quo rfl rfl (by decide) rfl (ltn rfl)) rfl ?_
        refine VL.va (op_assign rfl (ltn rfl)) rfl ?_
        refine VL.done ?_
        refine VN.block ?_
        refine VN.again [] [1] (ihl1 (IntKind.i64.wrap (i19765.tdiv 128)) v19790 (l19768 ++ ([IntKind.u8.wrap (wrap64 (128 + (i19765.tmod 128)))] : List Int)) h) ⟨rfl, ⟨rfl, rfl, rfl, trivial⟩, trivial, rfl, by decide, rfl, by decide⟩
      · rw [if_neg c19789] at h; cases h
    · rw [if_neg c19786] at h
      obtain rfl : b19785 = false := hb19785.symm.trans (decide_eq_false c19786)
      refine VC.cond_f rfl ?_
      refine VC.exit ?_
      refine VX.then ?_
      refine VX.then ?_
      refine VX.hit ?_
      refine VN.then ?_
      refine VC.seq ?_
      refine VC.region ?_
      refine VL.va (op_move rfl (ltn rfl)) rfl ?_
      refine VL.va (op_move rfl (ltn rfl)) rfl ?_
      refine VL.va (op_conv Try.underlying3 Try.underlying5 rfl rfl (ltn rfl)) rfl ?_
      refine VL.sG (o_buildSlice (vals := [(0, .int .u8 (IntKind.u8.wrap i19765))]) (cells := #[.int .u8 (IntKind.u8.wrap i19765)]) (es := List.map enc_intu8 ([IntKind.u8.wrap i19765] : List Int)) Try.underlying29 TI5 Z5 rfl (by decide) (by decide) (by kernel_rfl) (by kernel_rfl) rfl (flat_map enc_intu8_ok _) (ltn rfl)) rfl ?_
      intro v19793
      by_cases c19794 : (l19768.length + ([IntKind.u8.wrap i19765] : List Int).length) * 1 ≤ 140737488355328
      · rw [if_pos c19794] at h
        refine VL.sG (o_append 1 appm Try.underlying29 EI5 rfl rfl rfl (.inr ⟨0, _, rfl⟩) (bndm c19794) (ltn rfl)) rfl ?_
        intro v19795
        refine VL.va (op_assign rfl (ltn rfl)) rfl ?_
        refine VL.done ?_
        refine VN.then ?_
        refine VC.seq ?_
        refine VC.region ?_
        refine VL.va (op_move rfl (ltn rfl)) rfl ?_
        refine VL.va (op_bytesStr_own (xs := (l19768 ++ ([IntKind.u8.wrap i19765] : List Int))) 1 rfl rfl Try.underlying29 Try.underlying9 Try.underlying5 rfl rfl (ltn rfl)) rfl ?_
        refine VL.va (op_assign rfl (ltn rfl)) rfl ?_
        refine VL.done ?_
        refine VN.then ?_
        refine VC.ret ?_
        obtain rfl := Option.some.inj h
        exact VR.fn (rs := [.tmp 2]) [] [] [] rfl (.tmp rfl .nil) ⟨rfl, rfl, rfl⟩ trivial rfl (by decide)
      · rw [if_neg c19794] at h; cases h
  · rw [if_neg c19722] at h
    obtain rfl : b19721 = false := hb19721.symm.trans (decide_eq_false c19722)
    refine VC.cond_f rfl ?_
    refine VC.region ?_
    refine VL.va (op_move rfl (ltn rfl)) rfl ?_
    refine VL.va (op_ari64 rfl rfl rfl (ltn rfl)) rfl ?_
    refine VL.va (op_ari64 rfl rfl rfl (ltn rfl)) rfl ?_
    refine VL.va (op_ari64 rfl rfl rfl (ltn rfl)) rfl ?_
    refine VL.va (op_assign rfl (ltn rfl)) rfl ?_
    refine VL.done ?_
    refine VN.then ?_
    refine VC.seq ?_
    refine VC.region ?_
    refine VL.sG (o_buildSlice (vals := []) (cells := #[]) (es := List.map enc_intu8 ([] : List Int)) Try.underlying29 TI5 Z5 rfl (by decide) (by decide) (by kernel_rfl) (by kernel_rfl) rfl (flat_map enc_intu8_ok _) (ltn rfl)) rfl ?_
    intro v19798
    refine VL.va (op_assign rfl (ltn rfl)) rfl ?_
    refine VL.done ?_
    refine VN.then ?_
    refine VC.seq ?_
    refine VC.block ?_
    refine VC.loop3 (fun (i19839 : Int) (v19841 : Value) (l19842 : List Int) => ⟨32, [(2, .string (⟨#[]⟩ : ByteArray)), (3, .int .i64 i19839), (4, v19841)], [], [], [(v19841, 5, 1, l19842.map enc_intu8)]⟩) (fun (ml3 : Nat) (i19839 : Int) (v19841 : Value) (l19842 : List Int) => tarryref01_Number.l3 k ml3 i19839 l19842 = some r1) k (wrap64 ((wrap64 (2 * (wrap64 (0 - a0)))) - 1)) v19798 ([] : List Int) [] [0] h ⟨rfl, ⟨rfl, rfl, rfl, trivial⟩, trivial, rfl, by decide, rfl, by decide⟩ (by intros; simp [tarryref01_Number.l3]) ?_
    clear h
    intro ml3 ihl3 i19839 v19841 l19842 h
    simp only [tarryref01_Number.l3] at h
    refine VC.seq ?_
    refine VC.seq ?_
    refine VC.region ?_
    refine VL.va (op_move rfl (ltn rfl)) rfl ?_
    refine VL.letter (decide (i19839 > 127)) fun b19859 hb19859 => ?_
    refine VL.va (op_cmp rfl rfl (congrArg some hb19859) (ltn rfl)) rfl ?_
    refine VL.done ?_
    refine VN.then ?_
    by_cases c19860 : i19839 > 127
    · rw [if_pos c19860] at h
      obtain rfl : b19859 = true := hb19859.symm.trans (decide_eq_true c19860)
      refine VC.cond_t rfl ?_
      refine VC.skip ?_
      refine VN.then ?_
      refine VC.block ?_
      refine VC.seq ?_
      refine VC.region ?_
      refine VL.va (op_move rfl (ltn rfl)) rfl ?_
      refine VL.va (op_move rfl (ltn rfl)) rfl ?_
      refine VL.va (op_rem rfl rfl (by decide) rfl (ltn rfl)) rfl ?_
      refine VL.va (op_ari64 rfl rfl rfl (ltn rfl)) rfl ?_
      refine VL.va (op_conv Try.underlying3 Try.underlying5 rfl rfl (ltn rfl)) rfl ?_
      refine VL.sG (o_buildSlice (vals := [(0, .int .u8 (IntKind.u8.wrap (wrap64 (128 + (i19839.tmod 128)))))]) (cells := #[.int .u8 (IntKind.u8.wrap (wrap64 (128 + (i19839.tmod 128))))]) (es := List.map enc_intu8 ([IntKind.u8.wrap (wrap64 (128 + (i19839.tmod 128)))] : List Int)) Try.underlying29 TI5 Z5 rfl (by decide) (by decide) (by kernel_rfl) (by kernel_rfl) rfl (flat_map enc_intu8_ok _) (ltn rfl)) rfl ?_
      intro v19862
      by_cases c19863 : (l19842.length + ([IntKind.u8.wrap (wrap64 (128 + (i19839.tmod 128)))] : List Int).length) * 1 ≤ 140737488355328
      · rw [if_pos c19863] at h
        refine VL.sG (o_append 1 appm Try.underlying29 EI5 rfl rfl rfl (.inr ⟨0, _, rfl⟩) (bndm c19863) (ltn rfl)) rfl ?_
        intro v19864
        refine VL.va (op_assign rfl (ltn rfl)) rfl ?_
        refine VL.done ?_
        refine VN.then ?_
        refine VC.region ?_
        refine VL.va (op_move rfl (ltn rfl)) rfl ?_
        refine VL.va (op_quo rfl rfl (by decide) rfl (ltn rfl)) rfl ?_
        refine VL.va (op_assign rfl (ltn rfl)) rfl ?_
        refine VL.done ?_
        refine VN.block ?_
        refine VN.again [] [1] (ihl3 (IntKind.i64.wrap (i19839.tdiv 128)) v19864 (l19842 ++ ([IntKind.u8.wrap (wrap64 (128 + (i19839.tmod 128)))] : List Int)) h) ⟨rfl, ⟨rfl, rfl, rfl, trivial⟩, trivial, rfl, by decide, rfl, by decide⟩
      · rw [if_neg c19863] at h; cases h
    · rw [if_neg c19860] at h
      obtain rfl : b19859 = false := hb19859.symm.trans (decide_eq_false c19860)
      refine VC.cond_f rfl ?_
      refine VC.exit ?_
      refine VX.then ?_
      refine VX.then ?_
      refine VX.hit ?_
      refine VN.then ?_
      refine VC.seq ?_
      refine VC.region ?_
      refine VL.va (op_move rfl (ltn rfl)) rfl ?_
      refine VL.va (op_move rfl (ltn rfl)) rfl ?_
      refine VL.va (op_conv Try.underlying3 Try.underlying5 rfl rfl (ltn rfl)) rfl ?_
      refine VL.sG (o_buildSlice (vals := [(0, .int .u8 (IntKind.u8.wrap i19839))]) (cells := #[.int .u8 (IntKind.u8.wrap i19839)]) (es := List.map enc_intu8 ([IntKind.u8.wrap i19839] : List Int)) Try.underlying29 TI5 Z5 rfl (by decide) (by decide) (by kernel_rfl) (by kernel_rfl) rfl (flat_map enc_intu8_ok _) (ltn rfl)) rfl ?_
      intro v19867
      by_cases c19868 : (l19842.length + ([IntKind.u8.wrap i19839] : List Int).length) * 1 ≤ 140737488355328
      · rw [if_pos c19868] at h
        refine VL.sG (o_append 1 appm Try.underlying29 EI5 rfl rfl rfl (.inr ⟨0, _, rfl⟩) (bndm c19868) (ltn rfl)) rfl ?_
        intro v19869
        refine VL.va (op_assign rfl (ltn rfl)) rfl ?_
        refine VL.done ?_
        refine VN.then ?_
        refine VC.seq ?_
        refine VC.region ?_
        refine VL.va (op_move rfl (ltn rfl)) rfl ?_
        refine VL.va (op_bytesStr_own (xs := (l19842 ++ ([IntKind.u8.wrap i19839] : List Int))) 1 rfl rfl Try.underlying29 Try.underlying9 Try.underlying5 rfl rfl (ltn rfl)) rfl ?_
        refine VL.va (op_assign rfl (ltn rfl)) rfl ?_
        refine VL.done ?_
        refine VN.then ?_
        refine VC.ret ?_
        obtain rfl := Option.some.inj h
        exact VR.fn (rs := [.tmp 2]) [] [] [] rfl (.tmp rfl .nil) ⟨rfl, rfl, rfl⟩ trivial rfl (by decide)
      · rw [if_neg c19868] at h; cases h
set_option maxHeartbeats 4000000 in
set_option maxRecDepth 100000 in
theorem tarryref04_Frame.ok (k : Nat) (a0 : ByteArray)  (r1 : ByteArray) (h : tarryref04_Frame.f k a0 = some r1) :
    VCalls Try.prog 15 [.string a0] [] (fun v G own => v = .string r1 ∧ G = [] ∧ own = []) := by
  refine VCalls.intro Try.func15 rfl (len rfl) fun E hC hW hD => ?_
  unfold tarryref04_Frame.f at h
  refine VC.seq ?_
  refine VC.region ?_
  refine VL.va (op_assign rfl (ltn rfl)) rfl ?_
  refine VL.done ?_
  refine VN.then ?_
  refine VC.seq ?_
  refine VC.region ?_
  refine VL.va (op_move rfl (ltn rfl)) rfl ?_
  refine VL.va (op_lens Try.underlying9 rfl (ltn rfl)) rfl ?_
  replace h := Option.bind_eq_some_iff.1 h
  obtain ⟨t19871, hA19872, h⟩ := h
  refine VL.sC (o_call0 FO24 (tarryref01_Number.ok k (a0.size : Int) t19871 hA19872) rfl rfl (ltn rfl) (All_of .nil)) rfl ?_
  rintro _ _ _ ⟨rfl, rfl, rfl⟩
  refine VL.va (op_move rfl (ltn rfl)) rfl ?_
  by_cases c19873 : t19871.size + a0.size ≤ 9223372036854775807
  · rw [if_pos c19873] at h
    refine VL.va (op_adds rfl rfl rfl c19873 (ltn rfl)) rfl ?_
    refine VL.va (op_move rfl (ltn rfl)) rfl ?_
    replace h := Option.bind_eq_some_iff.1 h
    obtain ⟨t19874, hA19875, h⟩ := h
    refine VL.sC (o_call0 FO22 (tarryref02_Of.ok k a0 t19874 hA19875) rfl rfl (ltn rfl) (All_of .nil)) rfl ?_
    rintro _ _ _ ⟨rfl, rfl, rfl⟩
    replace h := Option.bind_eq_some_iff.1 h
    obtain ⟨t19876, hA19877, h⟩ := h
    refine VL.sC (o_call0 FO21 (tarryref02_Bytes.ok k t19874 t19876 hA19877) rfl rfl (ltn rfl) (All_of .nil)) rfl ?_
    rintro _ _ _ ⟨rfl, rfl, rfl⟩
    by_cases c19878 : (t19871 ++ a0).size + t19876.size ≤ 9223372036854775807
    · rw [if_pos c19878] at h
      refine VL.va (op_adds rfl rfl rfl c19878 (ltn rfl)) rfl ?_
      refine VL.va (op_assign rfl (ltn rfl)) rfl ?_
      refine VL.done ?_
      refine VN.then ?_
      refine VC.ret ?_
      obtain rfl := Option.some.inj h
      exact VR.fn (rs := [.tmp 2]) [] [] [] rfl (.tmp rfl .nil) ⟨rfl, rfl, rfl⟩ trivial rfl (by decide)
    · rw [if_neg c19878] at h; cases h
  · rw [if_neg c19873] at h; cases h
set_option maxHeartbeats 4000000 in
set_option maxRecDepth 100000 in
theorem tarryref04_Whole.ok (k : Nat) (l0 : List ByteArray) (v0 : Value) (r1 : ByteArray) (h : tarryref04_Whole.f k l0 = some r1) :
    VCalls Try.prog 13 [v0] [.row v0 1 (l0.map enc_str)] (fun v G own => v = .string r1 ∧ G = [] ∧ own = []) := by
  refine VCalls.intro Try.func13 rfl (len rfl) fun E hC hW hD => ?_
  unfold tarryref04_Whole.f at h
  refine VC.seq ?_
  refine VC.region ?_
  refine VL.va (op_assign rfl (ltn rfl)) rfl ?_
  refine VL.done ?_
  refine VN.then ?_
  refine VC.seq ?_
  refine VC.region ?_
  refine VL.va (op_assign rfl (ltn rfl)) rfl ?_
  refine VL.done ?_
  refine VN.then ?_
  refine VC.seq ?_
  refine VC.seq ?_
  refine VC.region ?_
  refine VL.va (op_move rfl (ltn rfl)) rfl ?_
  refine VL.va (op_len (m := l0.length) 0 lenm Try.underlying22 rfl rfl (ltn rfl)) rfl ?_
  refine VL.va (op_move rfl (ltn rfl)) rfl ?_
  refine VL.done ?_
  refine VN.then ?_
  refine VC.block ?_
  refine VC.loop2 (fun (s19913 : ByteArray) (i19914 : Int) => ⟨18, [(2, .string (⟨#[]⟩ : ByteArray)), (3, .string s19913), (6, v0), (7, .int .i64 (l0.length : Int)), (8, .int .i64 i19914)], [.row v0 1 (l0.map enc_str)], [], []⟩) (fun (ml1 : Nat) (s19913 : ByteArray) (i19914 : Int) => tarryref04_Whole.l1 k l0 ml1 s19913 i19914 = some r1) k (⟨#[]⟩ : ByteArray) 0 [] [] h ⟨rfl, ⟨rfl, rfl, rfl, rfl, rfl, trivial⟩, ⟨⟨0, rfl⟩, trivial⟩, rfl, by decide, rfl, by decide⟩ (by intros; simp [tarryref04_Whole.l1]) ?_
  clear h
  intro ml1 ihl1 s19913 i19914 h
  simp only [tarryref04_Whole.l1] at h
  refine VC.seq ?_
  refine VC.region ?_
  refine VL.letter (decide (i19914 < (l0.length : Int))) fun b19925 hb19925 => ?_
  refine VL.va (op_cmp rfl rfl (congrArg some hb19925) (ltn rfl)) rfl ?_
  refine VL.done ?_
  refine VN.then ?_
  refine VC.seq ?_
  by_cases c19927 : i19914 < (l0.length : Int)
  · rw [if_pos c19927] at h
    obtain rfl : b19925 = true := hb19925.symm.trans (decide_eq_true c19927)
    refine VC.cond_t rfl ?_
    refine VC.skip ?_
    refine VN.then ?_
    refine VC.seq ?_
    refine VC.block ?_
    refine VC.seq ?_
    refine VC.region ?_
    by_cases c19928 : 0 ≤ i19914
    · rw [if_pos c19928] at h
      replace h := Option.bind_eq_some_iff.1 h
      obtain ⟨x19929, hx19929, h⟩ := h
      refine VL.open (m := l0.length) 0 lenm rfl (pos_get hx19929) ?_
      rintro ad19930 n19931 rfl
      refine VL.va (op_indexAddr Try.underlying22 TI9 rfl rfl c19928 (lt_get c19928 hx19929) rfl (ltn rfl)) rfl ?_
      refine VL.va (op_load_row (sz := 1) (o := 0) 0 i19914.toNat 1 rfl rfl (get_map hx19929) TI9 rfl (by decide) (ltn rfl)) rfl ?_
      refine VL.va (op_assign rfl (ltn rfl)) rfl ?_
      refine VL.done ?_
      refine VN.then ?_
      refine VC.region ?_
      refine VL.va (op_move rfl (ltn rfl)) rfl ?_
      refine VL.va (op_move rfl (ltn rfl)) rfl ?_
      replace h := Option.bind_eq_some_iff.1 h
      obtain ⟨t19932, hA19933, h⟩ := h
      refine VL.sC (o_call0 FO15 (tarryref04_Frame.ok k x19929 t19932 hA19933) rfl rfl (ltn rfl) (All_of .nil)) rfl ?_
      rintro _ _ _ ⟨rfl, rfl, rfl⟩
      by_cases c19934 : s19913.size + t19932.size ≤ 9223372036854775807
      · rw [if_pos c19934] at h
        refine VL.va (op_adds rfl rfl rfl c19934 (ltn rfl)) rfl ?_
        refine VL.va (op_assign rfl (ltn rfl)) rfl ?_
        refine VL.done ?_
        refine VN.block ?_
        refine VN.then ?_
        refine VC.region ?_
        refine VL.va (op_ari64 rfl rfl rfl (ltn rfl)) rfl ?_
        refine VL.va (op_move rfl (ltn rfl)) rfl ?_
        refine VL.done ?_
        refine VN.again [] [] (ihl1 (s19913 ++ t19932) (wrap64 (i19914 + 1)) h) ⟨rfl, ⟨rfl, rfl, rfl, rfl, rfl, trivial⟩, ⟨⟨0, rfl⟩, trivial⟩, rfl, by decide, rfl, by decide⟩
      · rw [if_neg c19934] at h; cases h
    · rw [if_neg c19928] at h; cases h
  · rw [if_neg c19927] at h
    obtain rfl : b19925 = false := hb19925.symm.trans (decide_eq_false c19927)
    refine VC.cond_f rfl ?_
    refine VC.exit ?_
    refine VX.then ?_
    refine VX.then ?_
    refine VX.hit ?_
    refine VN.then ?_
    refine VC.seq ?_
    refine VC.region ?_
    refine VL.va (op_move rfl (ltn rfl)) rfl ?_
    refine VL.va (op_assign rfl (ltn rfl)) rfl ?_
    refine VL.done ?_
    refine VN.then ?_
    refine VC.ret ?_
    obtain rfl := Option.some.inj h
    exact VR.fn (rs := [.tmp 2]) [] [] [] rfl (.tmp rfl .nil) ⟨rfl, rfl, rfl⟩ trivial rfl (by decide)
set_option maxHeartbeats 4000000 in
set_option maxRecDepth 100000 in
theorem tarryref01_Same.ok (k : Nat) (l0 : List ByteArray) (l1 : List ByteArray) (v0 : Value) (v1 : Value) (r1 : Bool) (h : tarryref01_Same.f k l0 l1 = some r1) :
    VCalls Try.prog 10 [v0, v1] [.row v0 1 (l0.map enc_str), .row v1 1 (l1.map enc_str)] (fun v G own => v = .bool r1 ∧ G = [] ∧ own = []) := by
  refine VCalls.intro Try.func10 rfl (len rfl) fun E hC hW hD => ?_
  unfold tarryref01_Same.f at h
  refine VC.seq ?_
  refine VC.region ?_
  refine VL.va (op_assign rfl (ltn rfl)) rfl ?_
  refine VL.done ?_
  refine VN.then ?_
  refine VC.seq ?_
  refine VC.seq ?_
  refine VC.region ?_
  refine VL.va (op_move rfl (ltn rfl)) rfl ?_
  refine VL.va (op_len (m := l0.length) 0 lenm Try.underlying22 rfl rfl (ltn rfl)) rfl ?_
  refine VL.va (op_move rfl (ltn rfl)) rfl ?_
  refine VL.va (op_len (m := l1.length) 1 lenm Try.underlying22 rfl rfl (ltn rfl)) rfl ?_
  refine VL.letter (((l0.length : Int) != (l1.length : Int))) fun b19941 hb19941 => ?_
  refine VL.va (op_cmp rfl rfl (congrArg some hb19941) (ltn rfl)) rfl ?_
  refine VL.done ?_
  refine VN.then ?_
  by_cases c19942 : (l0.length : Int) = (l1.length : Int)
  · rw [if_pos c19942] at h
    obtain rfl : b19941 = false := hb19941.symm.trans (bne_eq_false_iff_eq.2 c19942)
    refine VC.cond_f rfl ?_
    refine VC.skip ?_
    refine VN.then ?_
    refine VC.seq ?_
    refine VC.seq ?_
    refine VC.region ?_
    refine VL.va (op_move rfl (ltn rfl)) rfl ?_
    refine VL.va (op_len (m := l0.length) 0 lenm Try.underlying22 rfl rfl (ltn rfl)) rfl ?_
    refine VL.va (op_move rfl (ltn rfl)) rfl ?_
    refine VL.done ?_
    refine VN.then ?_
    refine VC.block ?_
    refine VC.loop1 (fun (i19996 : Int) => ⟨26, [(0, v0), (1, v1), (4, .bool false), (12, .int .i64 (l0.length : Int)), (13, .int .i64 i19996)], [.row v0 1 (l0.map enc_str), .row v1 1 (l1.map enc_str)], [], []⟩) (fun (ml1 : Nat) (i19996 : Int) => tarryref01_Same.l1 k l0 l1 ml1 i19996 = some r1) k 0 [] [] h ⟨rfl, ⟨rfl, rfl, rfl, rfl, rfl, trivial⟩, ⟨⟨0, rfl⟩, ⟨1, rfl⟩, trivial⟩, rfl, by decide, rfl, by decide⟩ (by intros; simp [tarryref01_Same.l1]) ?_
    clear h
    intro ml1 ihl1 i19996 h
    simp only [tarryref01_Same.l1] at h
    refine VC.seq ?_
    refine VC.region ?_
    refine VL.letter (decide (i19996 < (l0.length : Int))) fun b20010 hb20010 => ?_
    refine VL.va (op_cmp rfl rfl (congrArg some hb20010) (ltn rfl)) rfl ?_
    refine VL.done ?_
    refine VN.then ?_
    refine VC.seq ?_
    by_cases c20012 : i19996 < (l0.length : Int)
    · rw [if_pos c20012] at h
      obtain rfl : b20010 = true := hb20010.symm.trans (decide_eq_true c20012)
      refine VC.cond_t rfl ?_
      refine VC.skip ?_
      refine VN.then ?_
      refine VC.seq ?_
      refine VC.block ?_
      refine VC.seq ?_
      refine VC.region ?_
      refine VL.va (op_move rfl (ltn rfl)) rfl ?_
      refine VL.va (op_assign rfl (ltn rfl)) rfl ?_
      refine VL.done ?_
      refine VN.then ?_
      by_cases c20018 : 0 ≤ i19996
      · rw [if_pos c20018] at h
        replace h := Option.bind_eq_some_iff.1 h
        obtain ⟨x20019, hx20019, h⟩ := h
        replace h := Option.bind_eq_some_iff.1 h
        obtain ⟨x20020, hx20020, h⟩ := h
        refine VC.letter ((x20019 != x20020)) fun b20021 hb20021 => ?_
        refine VC.open (m := l0.length) 0 lenm rfl (pos_get hx20019) ?_
        rintro ad19947 n19948 rfl
        refine VC.open (m := l1.length) 1 lenm rfl (pos_get hx20020) ?_
        rintro ad19950 n19951 rfl
        refine VC.join0 (⟨26, [(0, (.slice (some ad19947) l0.length n19948)), (1, (.slice (some ad19950) l1.length n19951)), (4, .bool false), (5, .int .i64 i19996), (12, .int .i64 (l0.length : Int)), (13, .int .i64 i19996), (14, .bool true), (15, .int .i64 i19996), (16, (.slice (some ad19947) l0.length n19948)), (17, .int .i64 i19996), (19, .string x20019), (20, (.slice (some ad19950) l1.length n19951)), (21, .int .i64 i19996), (23, .string x20020), (24, .bool b20021)], [.row (.slice (some ad19947) l0.length n19948) 1 (l0.map enc_str), .row (.slice (some ad19950) l1.length n19951) 1 (l1.map enc_str)], [], []⟩) (True) ?_ ?_
        · refine VC.draw ⟨0, [], [.row (.slice (some ad19947) l0.length n19948) 1 (l0.map enc_str), .row (.slice (some ad19950) l1.length n19951) 1 (l1.map enc_str)], [], []⟩ (by kernel_rfl) rfl (by kernel_rfl) (n := 9) (listed := LB 9 0) ?_
          refine VA.va (i := 0) (listed' := LB 9 1) rfl (op_move rfl (ltn rfl)) rfl (by kernel_rfl) (by kernel_rfl) (by kernel_rfl) (by kernel_rfl) ⟨⟨⟨0, rfl⟩, ⟨1, rfl⟩, trivial⟩, trivial, trivial⟩ (fun _ _ _ h => h) ?_
          refine VA.va (i := 1) (listed' := LB 9 3) rfl (op_move rfl (ltn rfl)) rfl (by kernel_rfl) (by kernel_rfl) (by kernel_rfl) (by kernel_rfl) ⟨⟨⟨0, rfl⟩, ⟨1, rfl⟩, trivial⟩, trivial, trivial⟩ (fun _ _ _ h => h) ?_
          refine VA.va (i := 2) (listed' := LB 9 7) rfl (op_indexAddr Try.underlying22 TI9 rfl rfl c20018 (lt_get c20018 hx20019) rfl (ltn rfl)) rfl (by kernel_rfl) (by kernel_rfl) (by kernel_rfl) (by kernel_rfl) ⟨⟨⟨0, rfl⟩, ⟨1, rfl⟩, trivial⟩, trivial, trivial⟩ (fun _ _ _ h => h) ?_
          refine VA.va (i := 3) (listed' := LB 9 15) rfl (op_load_row (sz := 1) (o := 0) 0 i19996.toNat 1 rfl rfl (get_map hx20019) TI9 rfl (by decide) (ltn rfl)) rfl (by kernel_rfl) (by kernel_rfl) (by kernel_rfl) (by kernel_rfl) ⟨⟨⟨0, rfl⟩, ⟨1, rfl⟩, trivial⟩, trivial, trivial⟩ (fun _ _ _ h => h) ?_
          refine VA.va (i := 4) (listed' := LB 9 31) rfl (op_move rfl (ltn rfl)) rfl (by kernel_rfl) (by kernel_rfl) (by kernel_rfl) (by kernel_rfl) ⟨⟨⟨0, rfl⟩, ⟨1, rfl⟩, trivial⟩, trivial, trivial⟩ (fun _ _ _ h => h) ?_
          refine VA.va (i := 5) (listed' := LB 9 63) rfl (op_move rfl (ltn rfl)) rfl (by kernel_rfl) (by kernel_rfl) (by kernel_rfl) (by kernel_rfl) ⟨⟨⟨0, rfl⟩, ⟨1, rfl⟩, trivial⟩, trivial, trivial⟩ (fun _ _ _ h => h) ?_
          refine VA.va (i := 6) (listed' := LB 9 127) rfl (op_indexAddr Try.underlying22 TI9 rfl rfl c20018 (lt_get c20018 hx20020) rfl (ltn rfl)) rfl (by kernel_rfl) (by kernel_rfl) (by kernel_rfl) (by kernel_rfl) ⟨⟨⟨0, rfl⟩, ⟨1, rfl⟩, trivial⟩, trivial, trivial⟩ (fun _ _ _ h => h) ?_
          refine VA.va (i := 7) (listed' := LB 9 255) rfl (op_load_row (sz := 1) (o := 0) 1 i19996.toNat 1 rfl rfl (get_map hx20020) TI9 rfl (by decide) (ltn rfl)) rfl (by kernel_rfl) (by kernel_rfl) (by kernel_rfl) (by kernel_rfl) ⟨⟨⟨0, rfl⟩, ⟨1, rfl⟩, trivial⟩, trivial, trivial⟩ (fun _ _ _ h => h) ?_
          refine VA.va (i := 8) (listed' := LB 9 511) rfl (op_cmps rfl rfl (congrArg some hb20021) (ltn rfl)) rfl (by kernel_rfl) (by kernel_rfl) (by kernel_rfl) (by kernel_rfl) ⟨⟨⟨0, rfl⟩, ⟨1, rfl⟩, trivial⟩, trivial, trivial⟩ (fun _ _ _ h => h) ?_
          refine VA.done (by kernel_rfl) ?_
          exact VN.meet0  [] [] trivial ⟨rfl, ⟨rfl, rfl, rfl, rfl, rfl, rfl, rfl, rfl, rfl, rfl, rfl, rfl, rfl, rfl, rfl, trivial⟩, ⟨⟨0, rfl⟩, ⟨1, rfl⟩, trivial⟩, rfl, by decide, rfl, by decide⟩
        intro _
        by_cases c20022 : (x20019 == x20020) = true
        · rw [if_pos c20022] at h
          obtain rfl : b20021 = false := hb20021.symm.trans (bne_of_t c20022)
          refine VC.cond_f rfl ?_
          refine VC.skip ?_
          refine VN.block ?_
          refine VN.then ?_
          refine VC.region ?_
          refine VL.va (op_ari64 rfl rfl rfl (ltn rfl)) rfl ?_
          refine VL.va (op_move rfl (ltn rfl)) rfl ?_
          refine VL.done ?_
          refine VN.again [] [] (ihl1 (wrap64 (i19996 + 1)) h) ⟨rfl, ⟨rfl, rfl, rfl, rfl, rfl, trivial⟩, ⟨⟨0, rfl⟩, ⟨1, rfl⟩, trivial⟩, rfl, by decide, rfl, by decide⟩
        · rw [if_neg c20022] at h
          obtain rfl : b20021 = true := hb20021.symm.trans (bne_of_f c20022)
          refine VC.cond_t rfl ?_
          refine VC.seq ?_
          refine VC.region ?_
          refine VL.va (op_assign rfl (ltn rfl)) rfl ?_
          refine VL.done ?_
          refine VN.then ?_
          refine VC.ret ?_
          refine VR.block ?_
          refine VR.then ?_
          refine VR.then ?_
          refine VR.block ?_
          refine VR.then ?_
          obtain rfl := Option.some.inj h
          exact VR.fn (rs := [.tmp 4]) [] [] [] rfl (.tmp rfl .nil) ⟨rfl, rfl, rfl⟩ trivial rfl (by decide)
      · rw [if_neg c20018] at h; cases h
    · rw [if_neg c20012] at h
      obtain rfl : b20010 = false := hb20010.symm.trans (decide_eq_false c20012)
      refine VC.cond_f rfl ?_
      refine VC.exit ?_
      refine VX.then ?_
      refine VX.then ?_
      refine VX.hit ?_
      refine VN.then ?_
      refine VC.seq ?_
      refine VC.region ?_
      refine VL.va (op_assign rfl (ltn rfl)) rfl ?_
      refine VL.done ?_
      refine VN.then ?_
      refine VC.ret ?_
      obtain rfl := Option.some.inj h
      exact VR.fn (rs := [.tmp 4]) [] [] [] rfl (.tmp rfl .nil) ⟨rfl, rfl, rfl⟩ trivial rfl (by decide)
  · rw [if_neg c19942] at h
    obtain rfl : b19941 = true := hb19941.symm.trans (bne_iff_ne.2 c19942)
    refine VC.cond_t rfl ?_
    refine VC.seq ?_
    refine VC.region ?_
    refine VL.va (op_assign rfl (ltn rfl)) rfl ?_
    refine VL.done ?_
    refine VN.then ?_
    refine VC.ret ?_
    refine VR.then ?_
    obtain rfl := Option.some.inj h
    exact VR.fn (rs := [.tmp 4]) [] [] [] rfl (.tmp rfl .nil) ⟨rfl, rfl, rfl⟩ trivial rfl (by decide)
set_option maxHeartbeats 4000000 in
set_option maxRecDepth 100000 in
theorem internal_stringslite_HasPrefix.ok (a0 : ByteArray) (a1 : ByteArray)  (r1 : Bool) (h : internal_stringslite_HasPrefix.f a0 a1 = some r1) :
    VCalls Try.prog 23 [.string a0, .string a1] [] (fun v G own => v = .bool r1 ∧ G = [] ∧ own = []) := by
  refine VCalls.intro Try.func23 rfl (len rfl) fun E hC hW hD => ?_
  unfold internal_stringslite_HasPrefix.f at h
  refine VC.seq ?_
  refine VC.region ?_
  refine VL.va (op_assign rfl (ltn rfl)) rfl ?_
  refine VL.done ?_
  refine VN.then ?_
  refine VC.seq ?_
  refine VC.region ?_
  refine VL.va (op_move rfl (ltn rfl)) rfl ?_
  refine VL.va (op_lens Try.underlying9 rfl (ltn rfl)) rfl ?_
  refine VL.va (op_move rfl (ltn rfl)) rfl ?_
  refine VL.va (op_lens Try.underlying9 rfl (ltn rfl)) rfl ?_
  refine VL.letter (decide ((a0.size : Int) ≥ (a1.size : Int))) fun b20033 hb20033 => ?_
  refine VL.va (op_cmp rfl rfl (congrArg some hb20033) (ltn rfl)) rfl ?_
  refine VL.va (op_move rfl (ltn rfl)) rfl ?_
  by_cases c20034 : (a0.size : Int) ≥ (a1.size : Int)
  · rw [if_pos c20034] at h
    obtain rfl : b20033 = true := hb20033.symm.trans (decide_eq_true c20034)
    refine VL.va (op_move rfl (ltn rfl)) rfl ?_
    refine VL.va (op_move rfl (ltn rfl)) rfl ?_
    refine VL.va (op_lens Try.underlying9 rfl (ltn rfl)) rfl ?_
    by_cases c20035 : 0 ≤ (a1.size : Int)
    · rw [if_pos c20035] at h
      by_cases c20036 : (a1.size : Int) ≤ (a0.size : Int)
      · rw [if_pos c20036] at h
        refine VL.va (op_sliceS 0 ((a1.size : Int).toNat) Try.underlying9 rfl ⟨rfl, ⟨_, _, rfl, c20035, rfl⟩, by omega, by omega⟩ rfl (ltn rfl)) rfl ?_
        refine VL.va (op_move rfl (ltn rfl)) rfl ?_
        refine VL.letter (((a0.extract 0 ((a1.size : Int).toNat)) == a1)) fun b20037 hb20037 => ?_
        refine VL.va (op_cmps rfl rfl (congrArg some hb20037) (ltn rfl)) rfl ?_
        refine VL.va (op_pick rfl rfl (ltn rfl)) rfl ?_
        refine VL.va (op_assign rfl (ltn rfl)) rfl ?_
        refine VL.done ?_
        refine VN.then ?_
        refine VC.ret ?_
        obtain rfl := Option.some.inj h
        subst hb20037
        exact VR.fn (rs := [.tmp 4]) [] [] [] rfl (.tmp rfl .nil) ⟨rfl, rfl, rfl⟩ trivial rfl (by decide)
      · rw [if_neg c20036] at h; cases h
    · rw [if_neg c20035] at h; cases h
  · rw [if_neg c20034] at h
    obtain rfl : b20033 = false := hb20033.symm.trans (decide_eq_false c20034)
    refine VL.un rfl rfl (ltn rfl) ?_
    refine VL.un rfl rfl (ltn rfl) ?_
    refine VL.un rfl rfl (ltn rfl) ?_
    refine VL.un rfl rfl (ltn rfl) ?_
    refine VL.un rfl rfl (ltn rfl) ?_
    refine VL.un rfl rfl (ltn rfl) ?_
    refine VL.va (op_pick rfl rfl (ltn rfl)) rfl ?_
    refine VL.va (op_assign rfl (ltn rfl)) rfl ?_
    refine VL.done ?_
    refine VN.then ?_
    refine VC.ret ?_
    obtain rfl := Option.some.inj h
    exact VR.fn (rs := [.tmp 4]) [] [] [] rfl (.tmp rfl .nil) ⟨rfl, rfl, rfl⟩ trivial rfl (by decide)
set_option maxHeartbeats 4000000 in
set_option maxRecDepth 100000 in
theorem strings_HasPrefix.ok (a0 : ByteArray) (a1 : ByteArray)  (r1 : Bool) (h : strings_HasPrefix.f a0 a1 = some r1) :
    VCalls Try.prog 14 [.string a0, .string a1] [] (fun v G own => v = .bool r1 ∧ G = [] ∧ own = []) := by
  refine VCalls.intro Try.func14 rfl (len rfl) fun E hC hW hD => ?_
  unfold strings_HasPrefix.f at h
  refine VC.seq ?_
  refine VC.region ?_
  refine VL.va (op_assign rfl (ltn rfl)) rfl ?_
  refine VL.done ?_
  refine VN.then ?_
  refine VC.seq ?_
  refine VC.region ?_
  refine VL.va (op_move rfl (ltn rfl)) rfl ?_
  refine VL.va (op_move rfl (ltn rfl)) rfl ?_
  replace h := Option.bind_eq_some_iff.1 h
  obtain ⟨t20038, hA20039, h⟩ := h
  refine VL.sC (o_call0 FO23 (internal_stringslite_HasPrefix.ok a0 a1 t20038 hA20039) rfl rfl (ltn rfl) (All_of .nil)) rfl ?_
  rintro _ _ _ ⟨rfl, rfl, rfl⟩
  refine VL.va (op_assign rfl (ltn rfl)) rfl ?_
  refine VL.done ?_
  refine VN.then ?_
  refine VC.ret ?_
  obtain rfl := Option.some.inj h
  exact VR.fn (rs := [.tmp 4]) [] [] [] rfl (.tmp rfl .nil) ⟨rfl, rfl, rfl⟩ trivial rfl (by decide)

end Go.Proofs.Ytaolaicmfjdmhaa.PFrameScans
