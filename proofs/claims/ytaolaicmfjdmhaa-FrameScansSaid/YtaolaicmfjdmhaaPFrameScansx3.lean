/- Written by a program of this repo: what the program's functions do, each as a Lean function, shown of the loaded code; or a statement's row over that; no condition of its own. -/
import Derived.Test.YtaolaicmfjdmhaaPFrameScansx2
namespace Go.Proofs.Ytaolaicmfjdmhaa.PFrameScans
open Go Go.RowKit Go.Proofs.YtaolaicmfjdmhaaV
set_option linter.unusedVariables false
set_option linter.unusedSimpArgs false

set_option maxHeartbeats 4000000 in
set_option maxRecDepth 100000 in
theorem frame_Scan.ok (k : Nat) (a0 : ByteArray)  (r1 : List ByteArray) (r2 : Int) (h : frame_Scan.f k a0 = some (r1, r2)) :
    VCalls Try.prog 9 [.string a0] [] (fun v G own => ∃ w0 : Value, v = .tuple #[w0, .int .i64 r2] ∧ G = [] ∧ own = [(w0, 9, 1, r1.map enc_str)]) := by
  refine VCalls.introM Try.func9 rfl (len rfl) fun E hC hW hD => ?_
  unfold frame_Scan.f at h
  refine VC.seq ?_
  refine VC.region ?_
  refine VL.va (op_assign rfl (ltn rfl)) rfl ?_
  refine VL.va (op_assign rfl (ltn rfl)) rfl ?_
  refine VL.done ?_
  refine VN.then ?_
  refine VC.seq ?_
  refine VC.region ?_
  refine VL.sG (o_alloc Z22 ZL22 (ltn rfl)) rfl ?_
  intro g864
  refine VL.done ?_
  refine VN.then ?_
  refine VC.seq ?_
  refine VC.region ?_
  refine VL.va (op_move rfl (ltn rfl)) rfl ?_
  refine VL.va (op_lens Try.underlying9 rfl (ltn rfl)) rfl ?_
  refine VL.sG (o_alloc Z3 ZL3 (ltn rfl)) rfl ?_
  intro g865
  refine VL.step1 (o_store 0 1 rfl rfl rfl TI3 (.c rfl) rfl (len rfl)) rfl ?_
  refine VL.done ?_
  refine VN.then ?_
  refine VC.seq ?_
  refine VC.seq ?_
  refine VC.region ?_
  refine VL.va (op_move rfl (ltn rfl)) rfl ?_
  refine VL.inl (vals := [.string a0]) (caps := []) Try.func19 FO19 rfl rfl rfl (len rfl) (ltn rfl) rfl ?_
  refine VC.seq ?_
  refine VC.region ?_
  refine VL.sG (o_box rfl (.c rfl) (ltn rfl)) rfl ?_
  intro g2780
  refine VL.va (op_assign rfl (ltn rfl)) rfl ?_
  refine VL.done ?_
  refine VN.then ?_
  refine VC.seq ?_
  refine VC.region ?_
  refine VL.va (op_makeFunc (vals := [.pointer (some ⟨g2780, 0, none⟩)]) rfl (ltn rfl)) rfl ?_
  refine VL.va (op_assign rfl (ltn rfl)) rfl ?_
  refine VL.done ?_
  refine VN.then ?_
  refine VC.ret ?_
  refine VR.inl (rs := [.tmp 2]) ((.func (.func 27) #[] #[.pointer (some ⟨g2780, 0, none⟩)])) rfl (.tmp rfl .nil) rfl ?_
  refine VL.done ?_
  refine VN.then ?_
  refine VC.block ?_
  refine VC.rangeFunc (ps := [12, 13]) (caps := [.pointer (some ⟨g2780, 0, none⟩)]) Try.func27 FO27 rfl rfl (len rfl) fun D2781 l2782 L2783 hLl2782 hDD2781 => ?_
  refine VC.block ?_
  refine VC.nilRow' 9 1 ?_
  refine VC.loop4 (fun (s2847 : ByteArray) (i2848 : Int) (v2850 : Value) (l2851 : List ByteArray) => ⟨55, [(0, (.func (.yield l2782) #[] #[])), (1, .pointer (some ⟨g2780, 0, none⟩))], [.loop l2782 L2783 .ready none, .dfr D2781], [(g2780, 9, [.string s2847]), (g865, 3, [.int .i64 i2848]), (g864, 22, [v2850])], [(v2850, 9, 1, l2851.map enc_str)]⟩) (fun (ml1 : Nat) (s2847 : ByteArray) (i2848 : Int) (v2850 : Value) (l2851 : List ByteArray) => frame_Scan.l1 k a0 ml1 s2847 i2848 l2851 = some (r1, r2)) k a0 (a0.size : Int) (.slice none 0 0) ([] : List ByteArray) [0, 1, 2] [0] h ⟨rfl, ⟨rfl, rfl, trivial⟩, ⟨⟨0, rfl⟩, ⟨1, rfl⟩, trivial⟩, rfl, by decide, rfl, by decide⟩ (by intros; simp [frame_Scan.l1]) ?_
  clear h
  intro ml1 ihl1 s2847 i2848 v2850 l2851 h
  simp only [frame_Scan.l1] at h
  refine VC.block ?_
  refine VC.seq ?_
  refine VC.region ?_
  refine VL.va (op_load 0 1 rfl rfl TI9 rfl (by decide) (ltn rfl)) rfl ?_
  replace h := Option.bind_eq_some_iff.1 h
  obtain ⟨⟨t2914, t2915, t2916⟩, hA2917, h⟩ := h
  dsimp only at h
  refine VL.sC (o_call0 FO28 (pack_ReadNumber.ok k s2847 t2914 t2915 t2916 hA2917) rfl rfl (ltn rfl) (All_of .nil)) rfl ?_
  rintro _ _ _ ⟨rfl, rfl, rfl⟩
  refine VL.va (op_move rfl (ltn rfl)) rfl ?_
  refine VL.va (op_extract rfl rfl (ltn rfl)) rfl ?_
  refine VL.va (op_extract rfl rfl (ltn rfl)) rfl ?_
  refine VL.va (op_extract rfl rfl (ltn rfl)) rfl ?_
  refine VL.va (op_assign rfl (ltn rfl)) rfl ?_
  refine VL.va (op_assign rfl (ltn rfl)) rfl ?_
  refine VL.va (op_assign rfl (ltn rfl)) rfl ?_
  refine VL.done ?_
  refine VN.then ?_
  refine VC.seq ?_
  refine VC.seq ?_
  refine VC.region ?_
  refine VL.va (op_move rfl (ltn rfl)) rfl ?_
  refine VL.letter ((t2916 != 0)) fun b2940 hb2940 => ?_
  refine VL.va (op_cmp rfl rfl (congrArg some hb2940) (ltn rfl)) rfl ?_
  refine VL.va (op_move rfl (ltn rfl)) rfl ?_
  by_cases c2941 : t2916 = 0
  · rw [if_pos c2941] at h
    obtain rfl : b2940 = false := hb2940.symm.trans (bne_eq_false_iff_eq.2 c2941)
    refine VL.va (op_move rfl (ltn rfl)) rfl ?_
    refine VL.letter (decide (t2914 < 0)) fun b2942 hb2942 => ?_
    refine VL.va (op_cmp rfl rfl (congrArg some hb2942) (ltn rfl)) rfl ?_
    refine VL.va (op_pick rfl rfl (ltn rfl)) rfl ?_
    refine VL.va (op_move rfl (ltn rfl)) rfl ?_
    by_cases c2943 : t2914 < 0
    · rw [if_pos c2943] at h
      obtain rfl : b2942 = true := hb2942.symm.trans (decide_eq_true c2943)
      refine VL.un rfl rfl (ltn rfl) ?_
      refine VL.un rfl rfl (ltn rfl) ?_
      refine VL.va (op_pick rfl rfl (ltn rfl)) rfl ?_
      refine VL.va (op_move rfl (ltn rfl)) rfl ?_
      refine VL.un rfl rfl (ltn rfl) ?_
      refine VL.un rfl rfl (ltn rfl) ?_
      refine VL.un rfl rfl (ltn rfl) ?_
      refine VL.un rfl rfl (ltn rfl) ?_
      refine VL.un rfl rfl (ltn rfl) ?_
      refine VL.va (op_pick rfl rfl (ltn rfl)) rfl ?_
      refine VL.done ?_
      refine VN.then ?_
      refine VC.cond_t rfl ?_
      refine VC.ret ?_
      refine VR.then ?_
      refine VR.block ?_
      refine VR.then ?_
      refine VR.block ?_
      refine VR.endRF 0 rfl rfl rfl rfl ?_
      refine VN.block ?_
      refine VN.then ?_
      refine VC.join0 (⟨25, [(2, v2850), (3, .int .i64 (wrap64 ((a0.size : Int) - i2848)))], [.dfr D2781], [], [(v2850, 9, 1, l2851.map enc_str)]⟩) (True) ?_ ?_
      · refine VC.draw ⟨0, [], [], [(g865, 3, [.int .i64 i2848]), (g864, 22, [v2850])], [(v2850, 9, 1, l2851.map enc_str)]⟩ (by kernel_rfl) rfl (by kernel_rfl) (n := 7) (listed := LB 7 0) ?_
        refine VA.va (i := 0) (listed' := LB 7 1) rfl (op_load 1 1 rfl rfl TI22 rfl (by decide) (ltn rfl)) rfl (by kernel_rfl) (by kernel_rfl) (by kernel_rfl) (by kernel_rfl) ⟨trivial, ⟨⟨1, rfl⟩, ⟨2, rfl⟩, trivial⟩, ⟨⟨0, rfl⟩, trivial⟩⟩ (fun _ _ _ h => h) ?_
        refine VA.va (i := 1) (listed' := LB 7 3) rfl (op_move rfl (ltn rfl)) rfl (by kernel_rfl) (by kernel_rfl) (by kernel_rfl) (by kernel_rfl) ⟨trivial, ⟨⟨1, rfl⟩, ⟨2, rfl⟩, trivial⟩, ⟨⟨0, rfl⟩, trivial⟩⟩ (fun _ _ _ h => h) ?_
        refine VA.va (i := 2) (listed' := LB 7 7) rfl (op_lens Try.underlying9 rfl (ltn rfl)) rfl (by kernel_rfl) (by kernel_rfl) (by kernel_rfl) (by kernel_rfl) ⟨trivial, ⟨⟨1, rfl⟩, ⟨2, rfl⟩, trivial⟩, ⟨⟨0, rfl⟩, trivial⟩⟩ (fun _ _ _ h => h) ?_
        refine VA.va (i := 3) (listed' := LB 7 15) rfl (op_load 0 1 rfl rfl TI3 rfl (by decide) (ltn rfl)) rfl (by kernel_rfl) (by kernel_rfl) (by kernel_rfl) (by kernel_rfl) ⟨trivial, ⟨⟨1, rfl⟩, ⟨2, rfl⟩, trivial⟩, ⟨⟨0, rfl⟩, trivial⟩⟩ (fun _ _ _ h => h) ?_
        refine VA.va (i := 4) (listed' := LB 7 31) rfl (op_ari64 rfl rfl rfl (ltn rfl)) rfl (by kernel_rfl) (by kernel_rfl) (by kernel_rfl) (by kernel_rfl) ⟨trivial, ⟨⟨1, rfl⟩, ⟨2, rfl⟩, trivial⟩, ⟨⟨0, rfl⟩, trivial⟩⟩ (fun _ _ _ h => h) ?_
        refine VA.va (i := 5) (listed' := LB 7 63) rfl (op_assign rfl (ltn rfl)) rfl (by kernel_rfl) (by kernel_rfl) (by kernel_rfl) (by kernel_rfl) ⟨trivial, ⟨⟨1, rfl⟩, ⟨2, rfl⟩, trivial⟩, ⟨⟨0, rfl⟩, trivial⟩⟩ (fun _ _ _ h => h) ?_
        refine VA.va (i := 6) (listed' := LB 7 127) rfl (op_assign rfl (ltn rfl)) rfl (by kernel_rfl) (by kernel_rfl) (by kernel_rfl) (by kernel_rfl) ⟨trivial, ⟨⟨1, rfl⟩, ⟨2, rfl⟩, trivial⟩, ⟨⟨0, rfl⟩, trivial⟩⟩ (fun _ _ _ h => h) ?_
        refine VA.done (by kernel_rfl) ?_
        exact VN.meet0  [] [0] trivial ⟨rfl, ⟨rfl, rfl, trivial⟩, ⟨⟨0, rfl⟩, trivial⟩, rfl, by decide, rfl, by decide⟩
      intro _
      refine VC.ret ?_
      simp only [Option.some.injEq, Prod.mk.injEq] at h
      obtain ⟨rfl, rfl⟩ := h
      refine VR.mark 0 hDD2781 rfl rfl rfl ?_
      exact VR.fn (rs := [.tmp 2, .tmp 3]) [] [(v2850, 9, 1, l2851.map enc_str)] [0] rfl (.tmp rfl (.tmp rfl .nil)) ⟨v2850, rfl, rfl, rfl⟩ trivial rfl (by decide)
    · rw [if_neg c2943] at h
      obtain rfl : b2942 = false := hb2942.symm.trans (decide_eq_false c2943)
      refine VL.va (op_move rfl (ltn rfl)) rfl ?_
      refine VL.letter (decide (t2914 > 4096)) fun b2944 hb2944 => ?_
      refine VL.va (op_cmp rfl rfl (congrArg some hb2944) (ltn rfl)) rfl ?_
      refine VL.va (op_pick rfl rfl (ltn rfl)) rfl ?_
      refine VL.va (op_move rfl (ltn rfl)) rfl ?_
      by_cases c2945 : t2914 > 4096
      · rw [if_pos c2945] at h
        obtain rfl : b2944 = true := hb2944.symm.trans (decide_eq_true c2945)
        refine VL.un rfl rfl (ltn rfl) ?_
        refine VL.un rfl rfl (ltn rfl) ?_
        refine VL.un rfl rfl (ltn rfl) ?_
        refine VL.un rfl rfl (ltn rfl) ?_
        refine VL.un rfl rfl (ltn rfl) ?_
        refine VL.va (op_pick rfl rfl (ltn rfl)) rfl ?_
        refine VL.done ?_
        refine VN.then ?_
        refine VC.cond_t rfl ?_
        refine VC.ret ?_
        refine VR.then ?_
        refine VR.block ?_
        refine VR.then ?_
        refine VR.block ?_
        refine VR.endRF 0 rfl rfl rfl rfl ?_
        refine VN.block ?_
        refine VN.then ?_
        refine VC.join0 (⟨25, [(2, v2850), (3, .int .i64 (wrap64 ((a0.size : Int) - i2848)))], [.dfr D2781], [], [(v2850, 9, 1, l2851.map enc_str)]⟩) (True) ?_ ?_
        · refine VC.draw ⟨0, [], [], [(g865, 3, [.int .i64 i2848]), (g864, 22, [v2850])], [(v2850, 9, 1, l2851.map enc_str)]⟩ (by kernel_rfl) rfl (by kernel_rfl) (n := 7) (listed := LB 7 0) ?_
          refine VA.va (i := 0) (listed' := LB 7 1) rfl (op_load 1 1 rfl rfl TI22 rfl (by decide) (ltn rfl)) rfl (by kernel_rfl) (by kernel_rfl) (by kernel_rfl) (by kernel_rfl) ⟨trivial, ⟨⟨1, rfl⟩, ⟨2, rfl⟩, trivial⟩, ⟨⟨0, rfl⟩, trivial⟩⟩ (fun _ _ _ h => h) ?_
          refine VA.va (i := 1) (listed' := LB 7 3) rfl (op_move rfl (ltn rfl)) rfl (by kernel_rfl) (by kernel_rfl) (by kernel_rfl) (by kernel_rfl) ⟨trivial, ⟨⟨1, rfl⟩, ⟨2, rfl⟩, trivial⟩, ⟨⟨0, rfl⟩, trivial⟩⟩ (fun _ _ _ h => h) ?_
          refine VA.va (i := 2) (listed' := LB 7 7) rfl (op_lens Try.underlying9 rfl (ltn rfl)) rfl (by kernel_rfl) (by kernel_rfl) (by kernel_rfl) (by kernel_rfl) ⟨trivial, ⟨⟨1, rfl⟩, ⟨2, rfl⟩, trivial⟩, ⟨⟨0, rfl⟩, trivial⟩⟩ (fun _ _ _ h => h) ?_
          refine VA.va (i := 3) (listed' := LB 7 15) rfl (op_load 0 1 rfl rfl TI3 rfl (by decide) (ltn rfl)) rfl (by kernel_rfl) (by kernel_rfl) (by kernel_rfl) (by kernel_rfl) ⟨trivial, ⟨⟨1, rfl⟩, ⟨2, rfl⟩, trivial⟩, ⟨⟨0, rfl⟩, trivial⟩⟩ (fun _ _ _ h => h) ?_
          refine VA.va (i := 4) (listed' := LB 7 31) rfl (op_ari64 rfl rfl rfl (ltn rfl)) rfl (by kernel_rfl) (by kernel_rfl) (by kernel_rfl) (by kernel_rfl) ⟨trivial, ⟨⟨1, rfl⟩, ⟨2, rfl⟩, trivial⟩, ⟨⟨0, rfl⟩, trivial⟩⟩ (fun _ _ _ h => h) ?_
          refine VA.va (i := 5) (listed' := LB 7 63) rfl (op_assign rfl (ltn rfl)) rfl (by kernel_rfl) (by kernel_rfl) (by kernel_rfl) (by kernel_rfl) ⟨trivial, ⟨⟨1, rfl⟩, ⟨2, rfl⟩, trivial⟩, ⟨⟨0, rfl⟩, trivial⟩⟩ (fun _ _ _ h => h) ?_
          refine VA.va (i := 6) (listed' := LB 7 127) rfl (op_assign rfl (ltn rfl)) rfl (by kernel_rfl) (by kernel_rfl) (by kernel_rfl) (by kernel_rfl) ⟨trivial, ⟨⟨1, rfl⟩, ⟨2, rfl⟩, trivial⟩, ⟨⟨0, rfl⟩, trivial⟩⟩ (fun _ _ _ h => h) ?_
          refine VA.done (by kernel_rfl) ?_
          exact VN.meet0  [] [0] trivial ⟨rfl, ⟨rfl, rfl, trivial⟩, ⟨⟨0, rfl⟩, trivial⟩, rfl, by decide, rfl, by decide⟩
        intro _
        refine VC.ret ?_
        simp only [Option.some.injEq, Prod.mk.injEq] at h
        obtain ⟨rfl, rfl⟩ := h
        refine VR.mark 0 hDD2781 rfl rfl rfl ?_
        exact VR.fn (rs := [.tmp 2, .tmp 3]) [] [(v2850, 9, 1, l2851.map enc_str)] [0] rfl (.tmp rfl (.tmp rfl .nil)) ⟨v2850, rfl, rfl, rfl⟩ trivial rfl (by decide)
      · rw [if_neg c2945] at h
        obtain rfl : b2944 = false := hb2944.symm.trans (decide_eq_false c2945)
        refine VL.va (op_move rfl (ltn rfl)) rfl ?_
        refine VL.va (op_ari64 rfl rfl rfl (ltn rfl)) rfl ?_
        refine VL.va (op_move rfl (ltn rfl)) rfl ?_
        refine VL.va (op_lens Try.underlying9 rfl (ltn rfl)) rfl ?_
        refine VL.letter (decide ((wrap64 (t2914 + 4)) > (t2915.size : Int))) fun b2946 hb2946 => ?_
        refine VL.va (op_cmp rfl rfl (congrArg some hb2946) (ltn rfl)) rfl ?_
        refine VL.va (op_pick rfl rfl (ltn rfl)) rfl ?_
        refine VL.done ?_
        refine VN.then ?_
        by_cases c2947 : (wrap64 (t2914 + 4)) > (t2915.size : Int)
        · rw [if_pos c2947] at h
          obtain rfl : b2946 = true := hb2946.symm.trans (decide_eq_true c2947)
          refine VC.cond_t rfl ?_
          refine VC.ret ?_
          refine VR.then ?_
          refine VR.block ?_
          refine VR.then ?_
          refine VR.block ?_
          refine VR.endRF 0 rfl rfl rfl rfl ?_
          refine VN.block ?_
          refine VN.then ?_
          refine VC.join0 (⟨25, [(2, v2850), (3, .int .i64 (wrap64 ((a0.size : Int) - i2848)))], [.dfr D2781], [], [(v2850, 9, 1, l2851.map enc_str)]⟩) (True) ?_ ?_
          · refine VC.draw ⟨0, [], [], [(g865, 3, [.int .i64 i2848]), (g864, 22, [v2850])], [(v2850, 9, 1, l2851.map enc_str)]⟩ (by kernel_rfl) rfl (by kernel_rfl) (n := 7) (listed := LB 7 0) ?_
            refine VA.va (i := 0) (listed' := LB 7 1) rfl (op_load 1 1 rfl rfl TI22 rfl (by decide) (ltn rfl)) rfl (by kernel_rfl) (by kernel_rfl) (by kernel_rfl) (by kernel_rfl) ⟨trivial, ⟨⟨1, rfl⟩, ⟨2, rfl⟩, trivial⟩, ⟨⟨0, rfl⟩, trivial⟩⟩ (fun _ _ _ h => h) ?_
            refine VA.va (i := 1) (listed' := LB 7 3) rfl (op_move rfl (ltn rfl)) rfl (by kernel_rfl) (by kernel_rfl) (by kernel_rfl) (by kernel_rfl) ⟨trivial, ⟨⟨1, rfl⟩, ⟨2, rfl⟩, trivial⟩, ⟨⟨0, rfl⟩, trivial⟩⟩ (fun _ _ _ h => h) ?_
            refine VA.va (i := 2) (listed' := LB 7 7) rfl (op_lens Try.underlying9 rfl (ltn rfl)) rfl (by kernel_rfl) (by kernel_rfl) (by kernel_rfl) (by kernel_rfl) ⟨trivial, ⟨⟨1, rfl⟩, ⟨2, rfl⟩, trivial⟩, ⟨⟨0, rfl⟩, trivial⟩⟩ (fun _ _ _ h => h) ?_
            refine VA.va (i := 3) (listed' := LB 7 15) rfl (op_load 0 1 rfl rfl TI3 rfl (by decide) (ltn rfl)) rfl (by kernel_rfl) (by kernel_rfl) (by kernel_rfl) (by kernel_rfl) ⟨trivial, ⟨⟨1, rfl⟩, ⟨2, rfl⟩, trivial⟩, ⟨⟨0, rfl⟩, trivial⟩⟩ (fun _ _ _ h => h) ?_
            refine VA.va (i := 4) (listed' := LB 7 31) rfl (op_ari64 rfl rfl rfl (ltn rfl)) rfl (by kernel_rfl) (by kernel_rfl) (by kernel_rfl) (by kernel_rfl) ⟨trivial, ⟨⟨1, rfl⟩, ⟨2, rfl⟩, trivial⟩, ⟨⟨0, rfl⟩, trivial⟩⟩ (fun _ _ _ h => h) ?_
            refine VA.va (i := 5) (listed' := LB 7 63) rfl (op_assign rfl (ltn rfl)) rfl (by kernel_rfl) (by kernel_rfl) (by kernel_rfl) (by kernel_rfl) ⟨trivial, ⟨⟨1, rfl⟩, ⟨2, rfl⟩, trivial⟩, ⟨⟨0, rfl⟩, trivial⟩⟩ (fun _ _ _ h => h) ?_
            refine VA.va (i := 6) (listed' := LB 7 127) rfl (op_assign rfl (ltn rfl)) rfl (by kernel_rfl) (by kernel_rfl) (by kernel_rfl) (by kernel_rfl) ⟨trivial, ⟨⟨1, rfl⟩, ⟨2, rfl⟩, trivial⟩, ⟨⟨0, rfl⟩, trivial⟩⟩ (fun _ _ _ h => h) ?_
            refine VA.done (by kernel_rfl) ?_
            exact VN.meet0  [] [0] trivial ⟨rfl, ⟨rfl, rfl, trivial⟩, ⟨⟨0, rfl⟩, trivial⟩, rfl, by decide, rfl, by decide⟩
          intro _
          refine VC.ret ?_
          simp only [Option.some.injEq, Prod.mk.injEq] at h
          obtain ⟨rfl, rfl⟩ := h
          refine VR.mark 0 hDD2781 rfl rfl rfl ?_
          exact VR.fn (rs := [.tmp 2, .tmp 3]) [] [(v2850, 9, 1, l2851.map enc_str)] [0] rfl (.tmp rfl (.tmp rfl .nil)) ⟨v2850, rfl, rfl, rfl⟩ trivial rfl (by decide)
        · rw [if_neg c2947] at h
          obtain rfl : b2946 = false := hb2946.symm.trans (decide_eq_false c2947)
          refine VC.cond_f rfl ?_
          refine VC.skip ?_
          refine VN.then ?_
          by_cases c2948 : 0 ≤ t2914
          · rw [if_pos c2948] at h
            by_cases c2949 : t2914 ≤ (t2915.size : Int)
            · rw [if_pos c2949] at h
              by_cases c2950 : 0 ≤ wrap64 (t2914 + 4)
              · rw [if_pos c2950] at h
                by_cases c2951 : (wrap64 (t2914 + 4)) ≤ (t2915.size : Int)
                · rw [if_pos c2951] at h
                  by_cases c2952 : t2914 ≤ (wrap64 (t2914 + 4))
                  · rw [if_pos c2952] at h
                    refine VC.join0 (⟨55, [(0, (.func (.yield l2782) #[] #[])), (1, .pointer (some ⟨g2780, 0, none⟩)), (3, .int .i64 t2914), (4, .string t2915), (5, .int .i64 t2916), (6, .string (t2915.extract 0 t2914.toNat)), (7, .string (t2915.extract t2914.toNat ((wrap64 (t2914 + 4)).toNat))), (8, .tuple #[.int .i64 t2914, .string t2915, .int .i64 t2916]), (9, .string s2847), (10, .tuple #[.int .i64 t2914, .string t2915, .int .i64 t2916]), (11, .int .i64 t2914), (12, .string t2915), (13, .int .i64 t2916), (14, .int .i64 t2916), (15, .bool false), (16, .bool false), (17, .int .i64 t2914), (18, .bool false), (19, .bool false), (20, .bool false), (21, .int .i64 t2914), (22, .bool false), (23, .bool false), (24, .bool false), (25, .int .i64 t2914), (26, .int .i64 (wrap64 (t2914 + 4))), (27, .string t2915), (28, .int .i64 (t2915.size : Int)), (29, .bool false), (30, .bool false), (31, .string t2915), (32, .int .i64 t2914), (33, .string (t2915.extract 0 t2914.toNat)), (34, .string t2915), (35, .int .i64 t2914), (36, .int .i64 t2914), (37, .int .i64 (wrap64 (t2914 + 4))), (38, .string (t2915.extract t2914.toNat ((wrap64 (t2914 + 4)).toNat)))], [.loop l2782 L2783 .ready none, .dfr D2781], [(g2780, 9, [.string s2847]), (g865, 3, [.int .i64 i2848]), (g864, 22, [v2850])], [(v2850, 9, 1, l2851.map enc_str)]⟩) (True) ?_ ?_
                    · refine VC.draw ⟨0, [], [], [], []⟩ (by kernel_rfl) rfl (by kernel_rfl) (n := 10) (listed := LB 10 0) ?_
                      refine VA.va (i := 0) (listed' := LB 10 1) rfl (op_move rfl (ltn rfl)) rfl (by kernel_rfl) (by kernel_rfl) (by kernel_rfl) (by kernel_rfl) ⟨trivial, trivial, trivial⟩ (fun _ _ _ h => h) ?_
                      refine VA.va (i := 1) (listed' := LB 10 3) rfl (op_move rfl (ltn rfl)) rfl (by kernel_rfl) (by kernel_rfl) (by kernel_rfl) (by kernel_rfl) ⟨trivial, trivial, trivial⟩ (fun _ _ _ h => h) ?_
                      refine VA.va (i := 2) (listed' := LB 10 7) rfl (op_sliceS 0 t2914.toNat Try.underlying9 rfl ⟨rfl, ⟨_, _, rfl, c2948, rfl⟩, by omega, by omega⟩ rfl (ltn rfl)) rfl (by kernel_rfl) (by kernel_rfl) (by kernel_rfl) (by kernel_rfl) ⟨trivial, trivial, trivial⟩ (fun _ _ _ h => h) ?_
                      refine VA.va (i := 3) (listed' := LB 10 15) rfl (op_move rfl (ltn rfl)) rfl (by kernel_rfl) (by kernel_rfl) (by kernel_rfl) (by kernel_rfl) ⟨trivial, trivial, trivial⟩ (fun _ _ _ h => h) ?_
                      refine VA.va (i := 4) (listed' := LB 10 31) rfl (op_move rfl (ltn rfl)) rfl (by kernel_rfl) (by kernel_rfl) (by kernel_rfl) (by kernel_rfl) ⟨trivial, trivial, trivial⟩ (fun _ _ _ h => h) ?_
                      refine VA.va (i := 5) (listed' := LB 10 63) rfl (op_move rfl (ltn rfl)) rfl (by kernel_rfl) (by kernel_rfl) (by kernel_rfl) (by kernel_rfl) ⟨trivial, trivial, trivial⟩ (fun _ _ _ h => h) ?_
                      refine VA.va (i := 6) (listed' := LB 10 127) rfl (op_ari64 rfl rfl rfl (ltn rfl)) rfl (by kernel_rfl) (by kernel_rfl) (by kernel_rfl) (by kernel_rfl) ⟨trivial, trivial, trivial⟩ (fun _ _ _ h => h) ?_
                      refine VA.va (i := 7) (listed' := LB 10 255) rfl (op_sliceS t2914.toNat ((wrap64 (t2914 + 4)).toNat) Try.underlying9 rfl ⟨⟨_, _, rfl, c2948, rfl⟩, ⟨_, _, rfl, c2950, rfl⟩, by omega, by omega⟩ rfl (ltn rfl)) rfl (by kernel_rfl) (by kernel_rfl) (by kernel_rfl) (by kernel_rfl) ⟨trivial, trivial, trivial⟩ (fun _ _ _ h => h) ?_
                      refine VA.va (i := 8) (listed' := LB 10 511) rfl (op_assign rfl (ltn rfl)) rfl (by kernel_rfl) (by kernel_rfl) (by kernel_rfl) (by kernel_rfl) ⟨trivial, trivial, trivial⟩ (fun _ _ _ h => h) ?_
                      refine VA.va (i := 9) (listed' := LB 10 1023) rfl (op_assign rfl (ltn rfl)) rfl (by kernel_rfl) (by kernel_rfl) (by kernel_rfl) (by kernel_rfl) ⟨trivial, trivial, trivial⟩ (fun _ _ _ h => h) ?_
                      refine VA.done (by kernel_rfl) ?_
                      exact VN.meet0  [0, 1, 2] [0] trivial ⟨rfl, ⟨rfl, rfl, rfl, rfl, rfl, rfl, rfl, rfl, rfl, rfl, rfl, rfl, rfl, rfl, rfl, rfl, rfl, rfl, rfl, rfl, rfl, rfl, rfl, rfl, rfl, rfl, rfl, rfl, rfl, rfl, rfl, rfl, rfl, rfl, rfl, rfl, rfl, rfl, trivial⟩, ⟨⟨0, rfl⟩, ⟨1, rfl⟩, trivial⟩, rfl, by decide, rfl, by decide⟩
                    intro _
                    refine VC.seq ?_
                    refine VC.region ?_
                    refine VL.va (op_move rfl (ltn rfl)) rfl ?_
                    refine VL.va (op_move rfl (ltn rfl)) rfl ?_
                    refine VL.va (op_ari64 rfl rfl rfl (ltn rfl)) rfl ?_
                    refine VL.va (op_sliceS ((wrap64 (t2914 + 4)).toNat) t2915.size Try.underlying9 rfl ⟨⟨_, _, rfl, c2950, rfl⟩, rfl, by omega, by omega⟩ rfl (ltn rfl)) rfl ?_
                    refine VL.step1 (o_store 0 1 rfl rfl rfl TI9 (.c rfl) rfl (len rfl)) rfl ?_
                    refine VL.done ?_
                    refine VN.then ?_
                    refine VC.seq ?_
                    refine VC.region ?_
                    refine VL.va (op_move rfl (ltn rfl)) rfl ?_
                    refine VL.va (op_move rfl (ltn rfl)) rfl ?_
                    replace h := Option.bind_eq_some_iff.1 h
                    obtain ⟨t2964, hA2965, h⟩ := h
                    refine VL.sC (o_call0 FO18 (check_Of.ok k (t2915.extract 0 t2914.toNat) t2964 hA2965) rfl rfl (ltn rfl) (All_of .nil)) rfl ?_
                    rintro _ _ _ ⟨rfl, rfl, rfl⟩
                    replace h := Option.bind_eq_some_iff.1 h
                    obtain ⟨t2966, hA2967, h⟩ := h
                    refine VL.sC (o_call0 FO17 (check_Bytes.ok k t2964 t2966 hA2967) rfl rfl (ltn rfl) (All_of .nil)) rfl ?_
                    rintro _ _ _ ⟨rfl, rfl, rfl⟩
                    refine VL.letter (((t2915.extract t2914.toNat ((wrap64 (t2914 + 4)).toNat)) != t2966)) fun b2968 hb2968 => ?_
                    refine VL.va (op_cmps rfl rfl (congrArg some hb2968) (ltn rfl)) rfl ?_
                    refine VL.va (op_move rfl (ltn rfl)) rfl ?_
                    by_cases c2969 : ((t2915.extract t2914.toNat ((wrap64 (t2914 + 4)).toNat)) == t2966) = true
                    · rw [if_pos c2969] at h
                      obtain rfl : b2968 = false := hb2968.symm.trans (bne_of_t c2969)
                      refine VL.va (op_move rfl (ltn rfl)) rfl ?_
                      refine VL.va (op_move rfl (ltn rfl)) rfl ?_
                      refine VL.va (op_load 0 1 rfl rfl TI9 rfl (by decide) (ltn rfl)) rfl ?_
                      refine VL.yield (vals := [.string (t2915.extract 0 t2914.toNat), .string (t2915.extract ((wrap64 (t2914 + 4)).toNat) t2915.size)]) hLl2782 rfl rfl rfl rfl (ltn rfl) 0 rfl rfl ?_
                      refine VC.seq ?_
                      refine VC.region ?_
                      refine VL.va (op_assign rfl (ltn rfl)) rfl ?_
                      refine VL.done ?_
                      refine VN.then ?_
                      refine VC.region ?_
                      refine VL.va (op_assign rfl (ltn rfl)) rfl ?_
                      refine VL.done ?_
                      refine VN.begin 0 hLl2782.base rfl rfl rfl ?_
                      refine VC.block ?_
                      refine VC.region ?_
                      refine VL.va (op_load 2 1 rfl rfl TI22 rfl (by decide) (ltn rfl)) rfl ?_
                      refine VL.va (op_move rfl (ltn rfl)) rfl ?_
                      refine VL.sG (o_buildSlice (vals := [(0, .string (t2915.extract 0 t2914.toNat))]) (cells := #[.string (t2915.extract 0 t2914.toNat)]) (es := List.map enc_str ([t2915.extract 0 t2914.toNat] : List ByteArray)) Try.underlying22 TI9 Z9 rfl (by decide) (by decide) (by kernel_rfl) (by kernel_rfl) rfl (flat_map enc_str_ok _) (ltn rfl)) rfl ?_
                      intro v2971
                      by_cases c2972 : (l2851.length + ([t2915.extract 0 t2914.toNat] : List ByteArray).length) * 16 ≤ 140737488355328
                      · rw [if_pos c2972] at h
                        refine VL.sG (o_append 1 appm Try.underlying22 EI9 rfl rfl rfl (.inr ⟨0, _, rfl⟩) (bndm c2972) (ltn rfl)) rfl ?_
                        intro v2973
                        refine VL.va (op_move rfl (ltn rfl)) rfl ?_
                        refine VL.va (op_lens Try.underlying9 rfl (ltn rfl)) rfl ?_
                        refine VL.step1 (o_store 2 1 rfl rfl rfl TI22 (.r 1 rfl) rfl (len rfl)) rfl ?_
                        refine VL.step1 (o_store 1 1 rfl rfl rfl TI3 (.c rfl) rfl (len rfl)) rfl ?_
                        refine VL.done ?_
                        refine VN.block ?_
                        refine VN.endRound 0 hLl2782.base rfl rfl rfl ?_
                        refine VL.va (op_not rfl rfl (ltn rfl)) rfl ?_
                        refine VL.va (op_pick rfl rfl (ltn rfl)) rfl ?_
                        refine VL.done ?_
                        refine VN.then ?_
                        refine VC.cond_f rfl ?_
                        refine VC.skip ?_
                        refine VN.block ?_
                        refine VN.again [0, 1, 2] [1] (ihl1 (t2915.extract ((wrap64 (t2914 + 4)).toNat) t2915.size) ((t2915.extract ((wrap64 (t2914 + 4)).toNat) t2915.size).size : Int) v2973 (l2851 ++ ([t2915.extract 0 t2914.toNat] : List ByteArray)) h) ⟨rfl, ⟨rfl, rfl, trivial⟩, ⟨⟨0, rfl⟩, ⟨1, rfl⟩, trivial⟩, rfl, by decide, rfl, by decide⟩
                      · rw [if_neg c2972] at h; cases h
                    · rw [if_neg c2969] at h
                      obtain rfl : b2968 = true := hb2968.symm.trans (bne_of_f c2969)
                      refine VL.un rfl rfl (ltn rfl) ?_
                      refine VL.un rfl rfl (ltn rfl) ?_
                      refine VL.un rfl rfl (ltn rfl) ?_
                      refine VL.un rfl rfl (ltn rfl) ?_
                      refine VL.un rfl rfl (ltn rfl) ?_
                      refine VL.va (op_pick rfl rfl (ltn rfl)) rfl ?_
                      refine VL.done ?_
                      refine VN.then ?_
                      refine VC.cond_t rfl ?_
                      refine VC.ret ?_
                      refine VR.block ?_
                      refine VR.then ?_
                      refine VR.block ?_
                      refine VR.endRF 0 rfl rfl rfl rfl ?_
                      refine VN.block ?_
                      refine VN.then ?_
                      refine VC.join0 (⟨25, [(2, v2850), (3, .int .i64 (wrap64 ((a0.size : Int) - i2848)))], [.dfr D2781], [], [(v2850, 9, 1, l2851.map enc_str)]⟩) (True) ?_ ?_
                      · refine VC.draw ⟨0, [], [], [(g865, 3, [.int .i64 i2848]), (g864, 22, [v2850])], [(v2850, 9, 1, l2851.map enc_str)]⟩ (by kernel_rfl) rfl (by kernel_rfl) (n := 7) (listed := LB 7 0) ?_
                        refine VA.va (i := 0) (listed' := LB 7 1) rfl (op_load 1 1 rfl rfl TI22 rfl (by decide) (ltn rfl)) rfl (by kernel_rfl) (by kernel_rfl) (by kernel_rfl) (by kernel_rfl) ⟨trivial, ⟨⟨1, rfl⟩, ⟨2, rfl⟩, trivial⟩, ⟨⟨0, rfl⟩, trivial⟩⟩ (fun _ _ _ h => h) ?_
                        refine VA.va (i := 1) (listed' := LB 7 3) rfl (op_move rfl (ltn rfl)) rfl (by kernel_rfl) (by kernel_rfl) (by kernel_rfl) (by kernel_rfl) ⟨trivial, ⟨⟨1, rfl⟩, ⟨2, rfl⟩, trivial⟩, ⟨⟨0, rfl⟩, trivial⟩⟩ (fun _ _ _ h => h) ?_
                        refine VA.va (i := 2) (listed' := LB 7 7) rfl (op_lens Try.underlying9 rfl (ltn rfl)) rfl (by kernel_rfl) (by kernel_rfl) (by kernel_rfl) (by kernel_rfl) ⟨trivial, ⟨⟨1, rfl⟩, ⟨2, rfl⟩, trivial⟩, ⟨⟨0, rfl⟩, trivial⟩⟩ (fun _ _ _ h => h) ?_
                        refine VA.va (i := 3) (listed' := LB 7 15) rfl (op_load 0 1 rfl rfl TI3 rfl (by decide) (ltn rfl)) rfl (by kernel_rfl) (by kernel_rfl) (by kernel_rfl) (by kernel_rfl) ⟨trivial, ⟨⟨1, rfl⟩, ⟨2, rfl⟩, trivial⟩, ⟨⟨0, rfl⟩, trivial⟩⟩ (fun _ _ _ h => h) ?_
                        refine VA.va (i := 4) (listed' := LB 7 31) rfl (op_ari64 rfl rfl rfl (ltn rfl)) rfl (by kernel_rfl) (by kernel_rfl) (by kernel_rfl) (by kernel_rfl) ⟨trivial, ⟨⟨1, rfl⟩, ⟨2, rfl⟩, trivial⟩, ⟨⟨0, rfl⟩, trivial⟩⟩ (fun _ _ _ h => h) ?_
                        refine VA.va (i := 5) (listed' := LB 7 63) rfl (op_assign rfl (ltn rfl)) rfl (by kernel_rfl) (by kernel_rfl) (by kernel_rfl) (by kernel_rfl) ⟨trivial, ⟨⟨1, rfl⟩, ⟨2, rfl⟩, trivial⟩, ⟨⟨0, rfl⟩, trivial⟩⟩ (fun _ _ _ h => h) ?_
                        refine VA.va (i := 6) (listed' := LB 7 127) rfl (op_assign rfl (ltn rfl)) rfl (by kernel_rfl) (by kernel_rfl) (by kernel_rfl) (by kernel_rfl) ⟨trivial, ⟨⟨1, rfl⟩, ⟨2, rfl⟩, trivial⟩, ⟨⟨0, rfl⟩, trivial⟩⟩ (fun _ _ _ h => h) ?_
                        refine VA.done (by kernel_rfl) ?_
                        exact VN.meet0  [] [0] trivial ⟨rfl, ⟨rfl, rfl, trivial⟩, ⟨⟨0, rfl⟩, trivial⟩, rfl, by decide, rfl, by decide⟩
                      intro _
                      refine VC.ret ?_
                      simp only [Option.some.injEq, Prod.mk.injEq] at h
                      obtain ⟨rfl, rfl⟩ := h
                      refine VR.mark 0 hDD2781 rfl rfl rfl ?_
                      exact VR.fn (rs := [.tmp 2, .tmp 3]) [] [(v2850, 9, 1, l2851.map enc_str)] [0] rfl (.tmp rfl (.tmp rfl .nil)) ⟨v2850, rfl, rfl, rfl⟩ trivial rfl (by decide)
                  · rw [if_neg c2952] at h; cases h
                · rw [if_neg c2951] at h; cases h
              · rw [if_neg c2950] at h; cases h
            · rw [if_neg c2949] at h; cases h
          · rw [if_neg c2948] at h; cases h
  · rw [if_neg c2941] at h
    obtain rfl : b2940 = true := hb2940.symm.trans (bne_iff_ne.2 c2941)
    refine VL.un rfl rfl (ltn rfl) ?_
    refine VL.un rfl rfl (ltn rfl) ?_
    refine VL.va (op_pick rfl rfl (ltn rfl)) rfl ?_
    refine VL.va (op_move rfl (ltn rfl)) rfl ?_
    refine VL.un rfl rfl (ltn rfl) ?_
    refine VL.un rfl rfl (ltn rfl) ?_
    refine VL.va (op_pick rfl rfl (ltn rfl)) rfl ?_
    refine VL.va (op_move rfl (ltn rfl)) rfl ?_
    refine VL.un rfl rfl (ltn rfl) ?_
    refine VL.un rfl rfl (ltn rfl) ?_
    refine VL.un rfl rfl (ltn rfl) ?_
    refine VL.un rfl rfl (ltn rfl) ?_
    refine VL.un rfl rfl (ltn rfl) ?_
    refine VL.va (op_pick rfl rfl (ltn rfl)) rfl ?_
    refine VL.done ?_
    refine VN.then ?_
    refine VC.cond_t rfl ?_
    refine VC.ret ?_
    refine VR.then ?_
    refine VR.block ?_
    refine VR.then ?_
    refine VR.block ?_
    refine VR.endRF 0 rfl rfl rfl rfl ?_
    refine VN.block ?_
    refine VN.then ?_
    refine VC.join0 (⟨25, [(2, v2850), (3, .int .i64 (wrap64 ((a0.size : Int) - i2848)))], [.dfr D2781], [], [(v2850, 9, 1, l2851.map enc_str)]⟩) (True) ?_ ?_
    · refine VC.draw ⟨0, [], [], [(g865, 3, [.int .i64 i2848]), (g864, 22, [v2850])], [(v2850, 9, 1, l2851.map enc_str)]⟩ (by kernel_rfl) rfl (by kernel_rfl) (n := 7) (listed := LB 7 0) ?_
      refine VA.va (i := 0) (listed' := LB 7 1) rfl (op_load 1 1 rfl rfl TI22 rfl (by decide) (ltn rfl)) rfl (by kernel_rfl) (by kernel_rfl) (by kernel_rfl) (by kernel_rfl) ⟨trivial, ⟨⟨1, rfl⟩, ⟨2, rfl⟩, trivial⟩, ⟨⟨0, rfl⟩, trivial⟩⟩ (fun _ _ _ h => h) ?_
      refine VA.va (i := 1) (listed' := LB 7 3) rfl (op_move rfl (ltn rfl)) rfl (by kernel_rfl) (by kernel_rfl) (by kernel_rfl) (by kernel_rfl) ⟨trivial, ⟨⟨1, rfl⟩, ⟨2, rfl⟩, trivial⟩, ⟨⟨0, rfl⟩, trivial⟩⟩ (fun _ _ _ h => h) ?_
      refine VA.va (i := 2) (listed' := LB 7 7) rfl (op_lens Try.underlying9 rfl (ltn rfl)) rfl (by kernel_rfl) (by kernel_rfl) (by kernel_rfl) (by kernel_rfl) ⟨trivial, ⟨⟨1, rfl⟩, ⟨2, rfl⟩, trivial⟩, ⟨⟨0, rfl⟩, trivial⟩⟩ (fun _ _ _ h => h) ?_
      refine VA.va (i := 3) (listed' := LB 7 15) rfl (op_load 0 1 rfl rfl TI3 rfl (by decide) (ltn rfl)) rfl (by kernel_rfl) (by kernel_rfl) (by kernel_rfl) (by kernel_rfl) ⟨trivial, ⟨⟨1, rfl⟩, ⟨2, rfl⟩, trivial⟩, ⟨⟨0, rfl⟩, trivial⟩⟩ (fun _ _ _ h => h) ?_
      refine VA.va (i := 4) (listed' := LB 7 31) rfl (op_ari64 rfl rfl rfl (ltn rfl)) rfl (by kernel_rfl) (by kernel_rfl) (by kernel_rfl) (by kernel_rfl) ⟨trivial, ⟨⟨1, rfl⟩, ⟨2, rfl⟩, trivial⟩, ⟨⟨0, rfl⟩, trivial⟩⟩ (fun _ _ _ h => h) ?_
      refine VA.va (i := 5) (listed' := LB 7 63) rfl (op_assign rfl (ltn rfl)) rfl (by kernel_rfl) (by kernel_rfl) (by kernel_rfl) (by kernel_rfl) ⟨trivial, ⟨⟨1, rfl⟩, ⟨2, rfl⟩, trivial⟩, ⟨⟨0, rfl⟩, trivial⟩⟩ (fun _ _ _ h => h) ?_
      refine VA.va (i := 6) (listed' := LB 7 127) rfl (op_assign rfl (ltn rfl)) rfl (by kernel_rfl) (by kernel_rfl) (by kernel_rfl) (by kernel_rfl) ⟨trivial, ⟨⟨1, rfl⟩, ⟨2, rfl⟩, trivial⟩, ⟨⟨0, rfl⟩, trivial⟩⟩ (fun _ _ _ h => h) ?_
      refine VA.done (by kernel_rfl) ?_
      exact VN.meet0  [] [0] trivial ⟨rfl, ⟨rfl, rfl, trivial⟩, ⟨⟨0, rfl⟩, trivial⟩, rfl, by decide, rfl, by decide⟩
    intro _
    refine VC.ret ?_
    simp only [Option.some.injEq, Prod.mk.injEq] at h
    obtain ⟨rfl, rfl⟩ := h
    refine VR.mark 0 hDD2781 rfl rfl rfl ?_
    exact VR.fn (rs := [.tmp 2, .tmp 3]) [] [(v2850, 9, 1, l2851.map enc_str)] [0] rfl (.tmp rfl (.tmp rfl .nil)) ⟨v2850, rfl, rfl, rfl⟩ trivial rfl (by decide)
set_option maxHeartbeats 4000000 in
set_option maxRecDepth 100000 in
theorem frame_All.ok (k : Nat) (a0 : ByteArray)  (r1 : List ByteArray) (r2 : Int) (h : frame_All.f k a0 = some (r1, r2)) :
    VCalls Try.prog 11 [.string a0] [] (fun v G own => ∃ w0 : Value, v = .tuple #[w0, .int .i64 r2] ∧ G = [] ∧ own = [(w0, 9, 1, r1.map enc_str)]) := by
  refine VCalls.intro Try.func11 rfl (len rfl) fun E hC hW hD => ?_
  unfold frame_All.f at h
  refine VC.seq ?_
  refine VC.region ?_
  refine VL.va (op_assign rfl (ltn rfl)) rfl ?_
  refine VL.va (op_assign rfl (ltn rfl)) rfl ?_
  refine VL.done ?_
  refine VN.then ?_
  refine VC.seq ?_
  refine VC.region ?_
  refine VL.va (op_move rfl (ltn rfl)) rfl ?_
  replace h := Option.bind_eq_some_iff.1 h
  obtain ⟨⟨r2980, t2981⟩, hA2982, h⟩ := h
  dsimp only at h
  refine VL.sC (o_call0 FO9 (frame_Scan.ok k a0 r2980 t2981 hA2982) rfl rfl (ltn rfl) (All_of .nil)) rfl ?_
  rintro _ _ _ ⟨v2984, rfl, rfl, rfl⟩
  refine VL.va (op_move rfl (ltn rfl)) rfl ?_
  refine VL.va (op_extract rfl rfl (ltn rfl)) rfl ?_
  refine VL.va (op_extract rfl rfl (ltn rfl)) rfl ?_
  refine VL.va (op_assign rfl (ltn rfl)) rfl ?_
  refine VL.va (op_assign rfl (ltn rfl)) rfl ?_
  refine VL.done ?_
  refine VN.then ?_
  refine VC.seq ?_
  refine VC.seq ?_
  refine VC.region ?_
  refine VL.va (op_move rfl (ltn rfl)) rfl ?_
  refine VL.va (op_move rfl (ltn rfl)) rfl ?_
  refine VL.va (op_lens Try.underlying9 rfl (ltn rfl)) rfl ?_
  refine VL.letter (decide (t2981 < (a0.size : Int))) fun b2988 hb2988 => ?_
  refine VL.va (op_cmp rfl rfl (congrArg some hb2988) (ltn rfl)) rfl ?_
  refine VL.done ?_
  refine VN.then ?_
  by_cases c2989 : t2981 < (a0.size : Int)
  · rw [if_pos c2989] at h
    obtain rfl : b2988 = true := hb2988.symm.trans (decide_eq_true c2989)
    refine VC.cond_t rfl ?_
    refine VC.seq ?_
    refine VC.region ?_
    refine VL.va (op_assign rfl (ltn rfl)) rfl ?_
    refine VL.va (op_assign rfl (ltn rfl)) rfl ?_
    refine VL.done ?_
    refine VN.then ?_
    refine VC.ret ?_
    refine VR.then ?_
    simp only [Option.some.injEq, Prod.mk.injEq] at h
    obtain ⟨rfl, rfl⟩ := h
    refine VR.nilRow' 9 1 ?_
    exact VR.fn (rs := [.tmp 2, .tmp 3]) [] [((.slice none 0 0), 9, 1, ([] : List ByteArray).map enc_str)] [0] rfl (.tmp rfl (.tmp rfl .nil)) ⟨(.slice none 0 0), rfl, rfl, rfl⟩ trivial rfl (by decide)
  · rw [if_neg c2989] at h
    obtain rfl : b2988 = false := hb2988.symm.trans (decide_eq_false c2989)
    refine VC.cond_f rfl ?_
    refine VC.skip ?_
    refine VN.then ?_
    refine VC.seq ?_
    refine VC.region ?_
    refine VL.va (op_move rfl (ltn rfl)) rfl ?_
    refine VL.va (op_assign rfl (ltn rfl)) rfl ?_
    refine VL.va (op_assign rfl (ltn rfl)) rfl ?_
    refine VL.done ?_
    refine VN.then ?_
    refine VC.ret ?_
    simp only [Option.some.injEq, Prod.mk.injEq] at h
    obtain ⟨rfl, rfl⟩ := h
    exact VR.fn (rs := [.tmp 2, .tmp 3]) [] [(v2984, 9, 1, r2980.map enc_str)] [0] rfl (.tmp rfl (.tmp rfl .nil)) ⟨v2984, rfl, rfl, rfl⟩ trivial rfl (by decide)
set_option maxHeartbeats 4000000 in
set_option maxRecDepth 100000 in
theorem tarryref01_May.ok (a0 : Int)  (r1 : Bool) (h : tarryref01_May.f a0 = some r1) :
    VCalls Try.prog 29 [.int .i64 a0] [] (fun v G own => v = .bool r1 ∧ G = [] ∧ own = []) := by
  refine VCalls.intro Try.func29 rfl (len rfl) fun E hC hW hD => ?_
  unfold tarryref01_May.f at h
  refine VC.seq ?_
  refine VC.region ?_
  refine VL.va (op_assign rfl (ltn rfl)) rfl ?_
  refine VL.done ?_
  refine VN.then ?_
  refine VC.seq ?_
  refine VC.region ?_
  refine VL.va (op_move rfl (ltn rfl)) rfl ?_
  refine VL.letter (decide (a0 ≥ (-1152921504606846976))) fun b3241 hb3241 => ?_
  refine VL.va (op_cmp rfl rfl (congrArg some hb3241) (ltn rfl)) rfl ?_
  refine VL.va (op_move rfl (ltn rfl)) rfl ?_
  by_cases c3242 : a0 ≥ (-1152921504606846976)
  · rw [if_pos c3242] at h
    obtain rfl : b3241 = true := hb3241.symm.trans (decide_eq_true c3242)
    refine VL.va (op_move rfl (ltn rfl)) rfl ?_
    refine VL.letter (decide (a0 ≤ 1152921504606846976)) fun b3243 hb3243 => ?_
    refine VL.va (op_cmp rfl rfl (congrArg some hb3243) (ltn rfl)) rfl ?_
    refine VL.va (op_pick rfl rfl (ltn rfl)) rfl ?_
    refine VL.va (op_assign rfl (ltn rfl)) rfl ?_
    refine VL.done ?_
    refine VN.then ?_
    refine VC.ret ?_
    obtain rfl := Option.some.inj h
    subst hb3243
    exact VR.fn (rs := [.tmp 2]) [] [] [] rfl (.tmp rfl .nil) ⟨rfl, rfl, rfl⟩ trivial rfl (by decide)
  · rw [if_neg c3242] at h
    obtain rfl : b3241 = false := hb3241.symm.trans (decide_eq_false c3242)
    refine VL.un rfl rfl (ltn rfl) ?_
    refine VL.un rfl rfl (ltn rfl) ?_
    refine VL.va (op_pick rfl rfl (ltn rfl)) rfl ?_
    refine VL.va (op_assign rfl (ltn rfl)) rfl ?_
    refine VL.done ?_
    refine VN.then ?_
    refine VC.ret ?_
    obtain rfl := Option.some.inj h
    exact VR.fn (rs := [.tmp 2]) [] [] [] rfl (.tmp rfl .nil) ⟨rfl, rfl, rfl⟩ trivial rfl (by decide)

end Go.Proofs.Ytaolaicmfjdmhaa.PFrameScans
