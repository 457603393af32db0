/- Written by a program of this repo: what the program's functions do, each as a Lean function, shown of the loaded code; or a statement's row over that; no condition of its own. -/
import Derived.Test.YtaolaicmfjdmhaaPFrameHurtx2
namespace Go.Proofs.Ytaolaicmfjdmhaa.PFrameHurt
open Go Go.RowKit Go.Proofs.YtaolaicmfjdmhaaV
set_option linter.unusedVariables false
set_option linter.unusedSimpArgs false

set_option maxHeartbeats 4000000 in
set_option maxRecDepth 100000 in
theorem frame_Scan.ok (k : Nat) (a0 : ByteArray)  (r1 : List ByteArray) (r2 : Int) (h : frame_Scan.f k a0 = some (r1, r2)) :
    VCalls Try.prog 9 [.string a0] [] (fun v G own => ∃ w0 : Value, v = .tuple #[w0, .int .i64 r2] ∧ G = [] ∧ own = [(w0, 9, 1, r1.map enc_str)]) := by
  refine VCalls.introM Try.func9 rfl (len rfl) fun E hC hW hD hU => ?_
  unfold frame_Scan.f at h
  refine VC.seq ?_
  refine VC.region ?_
  refine VL.va (op_assign rfl (ltn rfl)) rfl ?_
  refine VL.va (op_assign rfl (ltn rfl)) rfl ?_
  refine VL.done ?_
  refine VN.then ?_
  refine VC.seq ?_
  refine VC.region ?_
  refine VL.sG (o_alloc Z22 ZL22 (ltn rfl)) rfl ?_
  intro g968
  refine VL.done ?_
  refine VN.then ?_
  refine VC.seq ?_
  refine VC.region ?_
  refine VL.va (op_move rfl (ltn rfl)) rfl ?_
  refine VL.va (op_lens Try.underlying9 rfl (ltn rfl)) rfl ?_
  refine VL.sG (o_alloc Z3 ZL3 (ltn rfl)) rfl ?_
  intro g969
  refine VL.step1 (o_store 0 1 rfl rfl rfl TI3 (.c rfl) rfl (len rfl)) rfl ?_
  refine VL.done ?_
  refine VN.then ?_
  refine VC.seq ?_
  refine VC.seq ?_
  refine VC.region ?_
  refine VL.va (op_move rfl (ltn rfl)) rfl ?_
  refine VL.inl (vals := [.string a0]) (caps := []) Try.func19 FO19 rfl rfl rfl (len rfl) (ltn rfl) rfl ?_
  refine VC.seq ?_
  refine VC.region ?_
  refine VL.sG (o_box rfl (.c rfl) (ltn rfl)) rfl ?_
  intro g2884
  refine VL.va (op_assign rfl (ltn rfl)) rfl ?_
  refine VL.done ?_
  refine VN.then ?_
  refine VC.seq ?_
  refine VC.region ?_
  refine VL.va (op_makeFunc (vals := [.pointer (some ⟨g2884, 0, none⟩)]) rfl (ltn rfl)) rfl ?_
  refine VL.va (op_assign rfl (ltn rfl)) rfl ?_
  refine VL.done ?_
  refine VN.then ?_
  refine VC.ret ?_
  refine VR.inl (rs := [.tmp 2]) ((.func (.func 27) #[] #[.pointer (some ⟨g2884, 0, none⟩)])) rfl (.tmp rfl .nil) rfl ?_
  refine VL.done ?_
  refine VN.then ?_
  refine VC.block ?_
  refine VC.rangeFunc (ps := [12, 13]) (caps := [.pointer (some ⟨g2884, 0, none⟩)]) Try.func27 FO27 rfl rfl (len rfl) fun D2885 l2886 L2887 hLl2886 hDD2885 => ?_
  refine VC.block ?_
  refine VC.nilRow' 9 1 ?_
  refine VC.loop4 (fun (s2951 : ByteArray) (i2952 : Int) (v2954 : Value) (l2955 : List ByteArray) => ⟨55, [(0, (.func (.yield l2886) #[] #[])), (1, .pointer (some ⟨g2884, 0, none⟩))], [.loop l2886 L2887 .ready none, .dfr D2885], [(g2884, 9, [.string s2951]), (g969, 3, [.int .i64 i2952]), (g968, 22, [v2954])], [(v2954, 9, 1, l2955.map enc_str)]⟩) (fun (ml1 : Nat) (s2951 : ByteArray) (i2952 : Int) (v2954 : Value) (l2955 : List ByteArray) => frame_Scan.l1 k a0 ml1 s2951 i2952 l2955 = some (r1, r2)) k a0 (a0.size : Int) (.slice none 0 0) ([] : List ByteArray) [0, 1, 2] [0] h ⟨rfl, ⟨rfl, rfl, trivial⟩, ⟨⟨0, rfl⟩, ⟨1, rfl⟩, trivial⟩, rfl, by decide, rfl, by decide⟩ (by intros; simp [frame_Scan.l1]) ?_
  clear h
  intro ml1 ihl1 s2951 i2952 v2954 l2955 h
  simp only [frame_Scan.l1] at h
  refine VC.block ?_
  refine VC.seq ?_
  refine VC.region ?_
  refine VL.va (op_load 0 1 rfl rfl TI9 rfl (by decide) (ltn rfl)) rfl ?_
  replace h := Option.bind_eq_some_iff.1 h
  obtain ⟨⟨t3018, t3019, t3020⟩, hA3021, h⟩ := h
  dsimp only at h
  refine VL.sC (o_call0 FO28 (pack_ReadNumber.ok k s2951 t3018 t3019 t3020 hA3021) rfl rfl (ltn rfl) (All_of .nil)) rfl ?_
  rintro _ _ _ ⟨rfl, rfl, rfl⟩
  refine VL.va (op_move rfl (ltn rfl)) rfl ?_
  refine VL.va (op_extract rfl rfl (ltn rfl)) rfl ?_
  refine VL.va (op_extract rfl rfl (ltn rfl)) rfl ?_
  refine VL.va (op_extract rfl rfl (ltn rfl)) rfl ?_
  refine VL.va (op_assign rfl (ltn rfl)) rfl ?_
  refine VL.va (op_assign rfl (ltn rfl)) rfl ?_
  refine VL.va (op_assign rfl (ltn rfl)) rfl ?_
  refine VL.done ?_
  refine VN.then ?_
  refine VC.seq ?_
  refine VC.seq ?_
  refine VC.region ?_
  refine VL.va (op_move rfl (ltn rfl)) rfl ?_
  refine VL.letter ((t3020 != 0)) fun b3044 hb3044 => ?_
  refine VL.va (op_cmp rfl rfl (congrArg some hb3044) (ltn rfl)) rfl ?_
  refine VL.va (op_move rfl (ltn rfl)) rfl ?_
  by_cases c3045 : t3020 = 0
  · rw [if_pos c3045] at h
    obtain rfl : b3044 = false := hb3044.symm.trans (bne_eq_false_iff_eq.2 c3045)
    refine VL.va (op_move rfl (ltn rfl)) rfl ?_
    refine VL.letter (decide (t3018 < 0)) fun b3046 hb3046 => ?_
    refine VL.va (op_cmp rfl rfl (congrArg some hb3046) (ltn rfl)) rfl ?_
    refine VL.va (op_pick rfl rfl (ltn rfl)) rfl ?_
    refine VL.va (op_move rfl (ltn rfl)) rfl ?_
    by_cases c3047 : t3018 < 0
    · rw [if_pos c3047] at h
      obtain rfl : b3046 = true := hb3046.symm.trans (decide_eq_true c3047)
      refine VL.un rfl rfl (ltn rfl) ?_
      refine VL.un rfl rfl (ltn rfl) ?_
      refine VL.va (op_pick rfl rfl (ltn rfl)) rfl ?_
      refine VL.va (op_move rfl (ltn rfl)) rfl ?_
      refine VL.un rfl rfl (ltn rfl) ?_
      refine VL.un rfl rfl (ltn rfl) ?_
      refine VL.un rfl rfl (ltn rfl) ?_
      refine VL.un rfl rfl (ltn rfl) ?_
      refine VL.un rfl rfl (ltn rfl) ?_
      refine VL.va (op_pick rfl rfl (ltn rfl)) rfl ?_
      refine VL.done ?_
      refine VN.then ?_
      refine VC.cond_t rfl ?_
      refine VC.ret ?_
      refine VR.then ?_
      refine VR.block ?_
      refine VR.then ?_
      refine VR.block ?_
      refine VR.endRF 0 rfl rfl rfl rfl ?_
      refine VN.block ?_
      refine VN.then ?_
      refine VC.join0 (⟨25, [(2, v2954), (3, .int .i64 (wrap64 ((a0.size : Int) - i2952)))], [.dfr D2885], [], [(v2954, 9, 1, l2955.map enc_str)]⟩) (True) ?_ ?_
      · refine VC.draw ⟨0, [], [], [(g969, 3, [.int .i64 i2952]), (g968, 22, [v2954])], [(v2954, 9, 1, l2955.map enc_str)]⟩ (by kernel_rfl) rfl (by kernel_rfl) (n := 7) (listed := LB 7 0) ?_
        refine VA.va (i := 0) (listed' := LB 7 1) rfl (op_load 1 1 rfl rfl TI22 rfl (by decide) (ltn rfl)) rfl (by kernel_rfl) (by kernel_rfl) (by kernel_rfl) (by kernel_rfl) ⟨trivial, ⟨⟨1, rfl⟩, ⟨2, rfl⟩, trivial⟩, ⟨⟨0, rfl⟩, trivial⟩⟩ (fun _ _ _ h => h) ?_
        refine VA.va (i := 1) (listed' := LB 7 3) rfl (op_move rfl (ltn rfl)) rfl (by kernel_rfl) (by kernel_rfl) (by kernel_rfl) (by kernel_rfl) ⟨trivial, ⟨⟨1, rfl⟩, ⟨2, rfl⟩, trivial⟩, ⟨⟨0, rfl⟩, trivial⟩⟩ (fun _ _ _ h => h) ?_
        refine VA.va (i := 2) (listed' := LB 7 7) rfl (op_lens Try.underlying9 rfl (ltn rfl)) rfl (by kernel_rfl) (by kernel_rfl) (by kernel_rfl) (by kernel_rfl) ⟨trivial, ⟨⟨1, rfl⟩, ⟨2, rfl⟩, trivial⟩, ⟨⟨0, rfl⟩, trivial⟩⟩ (fun _ _ _ h => h) ?_
        refine VA.va (i := 3) (listed' := LB 7 15) rfl (op_load 0 1 rfl rfl TI3 rfl (by decide) (ltn rfl)) rfl (by kernel_rfl) (by kernel_rfl) (by kernel_rfl) (by kernel_rfl) ⟨trivial, ⟨⟨1, rfl⟩, ⟨2, rfl⟩, trivial⟩, ⟨⟨0, rfl⟩, trivial⟩⟩ (fun _ _ _ h => h) ?_
        refine VA.va (i := 4) (listed' := LB 7 31) rfl (op_ari64 rfl rfl rfl (ltn rfl)) rfl (by kernel_rfl) (by kernel_rfl) (by kernel_rfl) (by kernel_rfl) ⟨trivial, ⟨⟨1, rfl⟩, ⟨2, rfl⟩, trivial⟩, ⟨⟨0, rfl⟩, trivial⟩⟩ (fun _ _ _ h => h) ?_
        refine VA.va (i := 5) (listed' := LB 7 63) rfl (op_assign rfl (ltn rfl)) rfl (by kernel_rfl) (by kernel_rfl) (by kernel_rfl) (by kernel_rfl) ⟨trivial, ⟨⟨1, rfl⟩, ⟨2, rfl⟩, trivial⟩, ⟨⟨0, rfl⟩, trivial⟩⟩ (fun _ _ _ h => h) ?_
        refine VA.va (i := 6) (listed' := LB 7 127) rfl (op_assign rfl (ltn rfl)) rfl (by kernel_rfl) (by kernel_rfl) (by kernel_rfl) (by kernel_rfl) ⟨trivial, ⟨⟨1, rfl⟩, ⟨2, rfl⟩, trivial⟩, ⟨⟨0, rfl⟩, trivial⟩⟩ (fun _ _ _ h => h) ?_
        refine VA.done (by kernel_rfl) ?_
        exact VN.meet0  [] [0] trivial ⟨rfl, ⟨rfl, rfl, trivial⟩, ⟨⟨0, rfl⟩, trivial⟩, rfl, by decide, rfl, by decide⟩
      intro _
      refine VC.ret ?_
      simp only [Option.some.injEq, Prod.mk.injEq] at h
      obtain ⟨rfl, rfl⟩ := h
      refine VR.mark 0 hDD2885 rfl rfl rfl ?_
      exact VR.fn (rs := [.tmp 2, .tmp 3]) [] [(v2954, 9, 1, l2955.map enc_str)] [0] rfl (.tmp rfl (.tmp rfl .nil)) ⟨v2954, rfl, rfl, rfl⟩ trivial rfl (by decide)
    · rw [if_neg c3047] at h
      obtain rfl : b3046 = false := hb3046.symm.trans (decide_eq_false c3047)
      refine VL.va (op_move rfl (ltn rfl)) rfl ?_
      refine VL.letter (decide (t3018 > 4096)) fun b3048 hb3048 => ?_
      refine VL.va (op_cmp rfl rfl (congrArg some hb3048) (ltn rfl)) rfl ?_
      refine VL.va (op_pick rfl rfl (ltn rfl)) rfl ?_
      refine VL.va (op_move rfl (ltn rfl)) rfl ?_
      by_cases c3049 : t3018 > 4096
      · rw [if_pos c3049] at h
        obtain rfl : b3048 = true := hb3048.symm.trans (decide_eq_true c3049)
        refine VL.un rfl rfl (ltn rfl) ?_
        refine VL.un rfl rfl (ltn rfl) ?_
        refine VL.un rfl rfl (ltn rfl) ?_
        refine VL.un rfl rfl (ltn rfl) ?_
        refine VL.un rfl rfl (ltn rfl) ?_
        refine VL.va (op_pick rfl rfl (ltn rfl)) rfl ?_
        refine VL.done ?_
        refine VN.then ?_
        refine VC.cond_t rfl ?_
        refine VC.ret ?_
        refine VR.then ?_
        refine VR.block ?_
        refine VR.then ?_
        refine VR.block ?_
        refine VR.endRF 0 rfl rfl rfl rfl ?_
        refine VN.block ?_
        refine VN.then ?_
        refine VC.join0 (⟨25, [(2, v2954), (3, .int .i64 (wrap64 ((a0.size : Int) - i2952)))], [.dfr D2885], [], [(v2954, 9, 1, l2955.map enc_str)]⟩) (True) ?_ ?_
        · refine VC.draw ⟨0, [], [], [(g969, 3, [.int .i64 i2952]), (g968, 22, [v2954])], [(v2954, 9, 1, l2955.map enc_str)]⟩ (by kernel_rfl) rfl (by kernel_rfl) (n := 7) (listed := LB 7 0) ?_
          refine VA.va (i := 0) (listed' := LB 7 1) rfl (op_load 1 1 rfl rfl TI22 rfl (by decide) (ltn rfl)) rfl (by kernel_rfl) (by kernel_rfl) (by kernel_rfl) (by kernel_rfl) ⟨trivial, ⟨⟨1, rfl⟩, ⟨2, rfl⟩, trivial⟩, ⟨⟨0, rfl⟩, trivial⟩⟩ (fun _ _ _ h => h) ?_
          refine VA.va (i := 1) (listed' := LB 7 3) rfl (op_move rfl (ltn rfl)) rfl (by kernel_rfl) (by kernel_rfl) (by kernel_rfl) (by kernel_rfl) ⟨trivial, ⟨⟨1, rfl⟩, ⟨2, rfl⟩, trivial⟩, ⟨⟨0, rfl⟩, trivial⟩⟩ (fun _ _ _ h => h) ?_
          refine VA.va (i := 2) (listed' := LB 7 7) rfl (op_lens Try.underlying9 rfl (ltn rfl)) rfl (by kernel_rfl) (by kernel_rfl) (by kernel_rfl) (by kernel_rfl) ⟨trivial, ⟨⟨1, rfl⟩, ⟨2, rfl⟩, trivial⟩, ⟨⟨0, rfl⟩, trivial⟩⟩ (fun _ _ _ h => h) ?_
          refine VA.va (i := 3) (listed' := LB 7 15) rfl (op_load 0 1 rfl rfl TI3 rfl (by decide) (ltn rfl)) rfl (by kernel_rfl) (by kernel_rfl) (by kernel_rfl) (by kernel_rfl) ⟨trivial, ⟨⟨1, rfl⟩, ⟨2, rfl⟩, trivial⟩, ⟨⟨0, rfl⟩, trivial⟩⟩ (fun _ _ _ h => h) ?_
          refine VA.va (i := 4) (listed' := LB 7 31) rfl (op_ari64 rfl rfl rfl (ltn rfl)) rfl (by kernel_rfl) (by kernel_rfl) (by kernel_rfl) (by kernel_rfl) ⟨trivial, ⟨⟨1, rfl⟩, ⟨2, rfl⟩, trivial⟩, ⟨⟨0, rfl⟩, trivial⟩⟩ (fun _ _ _ h => h) ?_
          refine VA.va (i := 5) (listed' := LB 7 63) rfl (op_assign rfl (ltn rfl)) rfl (by kernel_rfl) (by kernel_rfl) (by kernel_rfl) (by kernel_rfl) ⟨trivial, ⟨⟨1, rfl⟩, ⟨2, rfl⟩, trivial⟩, ⟨⟨0, rfl⟩, trivial⟩⟩ (fun _ _ _ h => h) ?_
          refine VA.va (i := 6) (listed' := LB 7 127) rfl (op_assign rfl (ltn rfl)) rfl (by kernel_rfl) (by kernel_rfl) (by kernel_rfl) (by kernel_rfl) ⟨trivial, ⟨⟨1, rfl⟩, ⟨2, rfl⟩, trivial⟩, ⟨⟨0, rfl⟩, trivial⟩⟩ (fun _ _ _ h => h) ?_
          refine VA.done (by kernel_rfl) ?_
          exact VN.meet0  [] [0] trivial ⟨rfl, ⟨rfl, rfl, trivial⟩, ⟨⟨0, rfl⟩, trivial⟩, rfl, by decide, rfl, by decide⟩
        intro _
        refine VC.ret ?_
        simp only [Option.some.injEq, Prod.mk.injEq] at h
        obtain ⟨rfl, rfl⟩ := h
        refine VR.mark 0 hDD2885 rfl rfl rfl ?_
        exact VR.fn (rs := [.tmp 2, .tmp 3]) [] [(v2954, 9, 1, l2955.map enc_str)] [0] rfl (.tmp rfl (.tmp rfl .nil)) ⟨v2954, rfl, rfl, rfl⟩ trivial rfl (by decide)
      · rw [if_neg c3049] at h
        obtain rfl : b3048 = false := hb3048.symm.trans (decide_eq_false c3049)
        refine VL.va (op_move rfl (ltn rfl)) rfl ?_
        refine VL.va (op_ari64 rfl rfl rfl (ltn rfl)) rfl ?_
        refine VL.va (op_move rfl (ltn rfl)) rfl ?_
        refine VL.va (op_lens Try.underlying9 rfl (ltn rfl)) rfl ?_
        refine VL.letter (decide ((wrap64 (t3018 + 4)) > (t3019.size : Int))) fun b3050 hb3050 => ?_
        refine VL.va (op_cmp rfl rfl (congrArg some hb3050) (ltn rfl)) rfl ?_
        refine VL.va (op_pick rfl rfl (ltn rfl)) rfl ?_
        refine VL.done ?_
        refine VN.then ?_
        by_cases c3051 : (wrap64 (t3018 + 4)) > (t3019.size : Int)
        · rw [if_pos c3051] at h
          obtain rfl : b3050 = true := hb3050.symm.trans (decide_eq_true c3051)
          refine VC.cond_t rfl ?_
          refine VC.ret ?_
          refine VR.then ?_
          refine VR.block ?_
          refine VR.then ?_
          refine VR.block ?_
          refine VR.endRF 0 rfl rfl rfl rfl ?_
          refine VN.block ?_
          refine VN.then ?_
          refine VC.join0 (⟨25, [(2, v2954), (3, .int .i64 (wrap64 ((a0.size : Int) - i2952)))], [.dfr D2885], [], [(v2954, 9, 1, l2955.map enc_str)]⟩) (True) ?_ ?_
          · refine VC.draw ⟨0, [], [], [(g969, 3, [.int .i64 i2952]), (g968, 22, [v2954])], [(v2954, 9, 1, l2955.map enc_str)]⟩ (by kernel_rfl) rfl (by kernel_rfl) (n := 7) (listed := LB 7 0) ?_
            refine VA.va (i := 0) (listed' := LB 7 1) rfl (op_load 1 1 rfl rfl TI22 rfl (by decide) (ltn rfl)) rfl (by kernel_rfl) (by kernel_rfl) (by kernel_rfl) (by kernel_rfl) ⟨trivial, ⟨⟨1, rfl⟩, ⟨2, rfl⟩, trivial⟩, ⟨⟨0, rfl⟩, trivial⟩⟩ (fun _ _ _ h => h) ?_
            refine VA.va (i := 1) (listed' := LB 7 3) rfl (op_move rfl (ltn rfl)) rfl (by kernel_rfl) (by kernel_rfl) (by kernel_rfl) (by kernel_rfl) ⟨trivial, ⟨⟨1, rfl⟩, ⟨2, rfl⟩, trivial⟩, ⟨⟨0, rfl⟩, trivial⟩⟩ (fun _ _ _ h => h) ?_
            refine VA.va (i := 2) (listed' := LB 7 7) rfl (op_lens Try.underlying9 rfl (ltn rfl)) rfl (by kernel_rfl) (by kernel_rfl) (by kernel_rfl) (by kernel_rfl) ⟨trivial, ⟨⟨1, rfl⟩, ⟨2, rfl⟩, trivial⟩, ⟨⟨0, rfl⟩, trivial⟩⟩ (fun _ _ _ h => h) ?_
            refine VA.va (i := 3) (listed' := LB 7 15) rfl (op_load 0 1 rfl rfl TI3 rfl (by decide) (ltn rfl)) rfl (by kernel_rfl) (by kernel_rfl) (by kernel_rfl) (by kernel_rfl) ⟨trivial, ⟨⟨1, rfl⟩, ⟨2, rfl⟩, trivial⟩, ⟨⟨0, rfl⟩, trivial⟩⟩ (fun _ _ _ h => h) ?_
            refine VA.va (i := 4) (listed' := LB 7 31) rfl (op_ari64 rfl rfl rfl (ltn rfl)) rfl (by kernel_rfl) (by kernel_rfl) (by kernel_rfl) (by kernel_rfl) ⟨trivial, ⟨⟨1, rfl⟩, ⟨2, rfl⟩, trivial⟩, ⟨⟨0, rfl⟩, trivial⟩⟩ (fun _ _ _ h => h) ?_
            refine VA.va (i := 5) (listed' := LB 7 63) rfl (op_assign rfl (ltn rfl)) rfl (by kernel_rfl) (by kernel_rfl) (by kernel_rfl) (by kernel_rfl) ⟨trivial, ⟨⟨1, rfl⟩, ⟨2, rfl⟩, trivial⟩, ⟨⟨0, rfl⟩, trivial⟩⟩ (fun _ _ _ h => h) ?_
            refine VA.va (i := 6) (listed' := LB 7 127) rfl (op_assign rfl (ltn rfl)) rfl (by kernel_rfl) (by kernel_rfl) (by kernel_rfl) (by kernel_rfl) ⟨trivial, ⟨⟨1, rfl⟩, ⟨2, rfl⟩, trivial⟩, ⟨⟨0, rfl⟩, trivial⟩⟩ (fun _ _ _ h => h) ?_
            refine VA.done (by kernel_rfl) ?_
            exact VN.meet0  [] [0] trivial ⟨rfl, ⟨rfl, rfl, trivial⟩, ⟨⟨0, rfl⟩, trivial⟩, rfl, by decide, rfl, by decide⟩
          intro _
          refine VC.ret ?_
          simp only [Option.some.injEq, Prod.mk.injEq] at h
          obtain ⟨rfl, rfl⟩ := h
          refine VR.mark 0 hDD2885 rfl rfl rfl ?_
          exact VR.fn (rs := [.tmp 2, .tmp 3]) [] [(v2954, 9, 1, l2955.map enc_str)] [0] rfl (.tmp rfl (.tmp rfl .nil)) ⟨v2954, rfl, rfl, rfl⟩ trivial rfl (by decide)
        · rw [if_neg c3051] at h
          obtain rfl : b3050 = false := hb3050.symm.trans (decide_eq_false c3051)
          refine VC.cond_f rfl ?_
          refine VC.skip ?_
          refine VN.then ?_
          by_cases c3052 : 0 ≤ t3018
          · rw [if_pos c3052] at h
            by_cases c3053 : t3018 ≤ (t3019.size : Int)
            · rw [if_pos c3053] at h
              by_cases c3054 : 0 ≤ wrap64 (t3018 + 4)
              · rw [if_pos c3054] at h
                by_cases c3055 : (wrap64 (t3018 + 4)) ≤ (t3019.size : Int)
                · rw [if_pos c3055] at h
                  by_cases c3056 : t3018 ≤ (wrap64 (t3018 + 4))
                  · rw [if_pos c3056] at h
                    refine VC.join0 (⟨55, [(0, (.func (.yield l2886) #[] #[])), (1, .pointer (some ⟨g2884, 0, none⟩)), (3, .int .i64 t3018), (4, .string t3019), (5, .int .i64 t3020), (6, .string (t3019.extract 0 t3018.toNat)), (7, .string (t3019.extract t3018.toNat ((wrap64 (t3018 + 4)).toNat))), (8, .tuple #[.int .i64 t3018, .string t3019, .int .i64 t3020]), (9, .string s2951), (10, .tuple #[.int .i64 t3018, .string t3019, .int .i64 t3020]), (11, .int .i64 t3018), (12, .string t3019), (13, .int .i64 t3020), (14, .int .i64 t3020), (15, .bool false), (16, .bool false), (17, .int .i64 t3018), (18, .bool false), (19, .bool false), (20, .bool false), (21, .int .i64 t3018), (22, .bool false), (23, .bool false), (24, .bool false), (25, .int .i64 t3018), (26, .int .i64 (wrap64 (t3018 + 4))), (27, .string t3019), (28, .int .i64 (t3019.size : Int)), (29, .bool false), (30, .bool false), (31, .string t3019), (32, .int .i64 t3018), (33, .string (t3019.extract 0 t3018.toNat)), (34, .string t3019), (35, .int .i64 t3018), (36, .int .i64 t3018), (37, .int .i64 (wrap64 (t3018 + 4))), (38, .string (t3019.extract t3018.toNat ((wrap64 (t3018 + 4)).toNat)))], [.loop l2886 L2887 .ready none, .dfr D2885], [(g2884, 9, [.string s2951]), (g969, 3, [.int .i64 i2952]), (g968, 22, [v2954])], [(v2954, 9, 1, l2955.map enc_str)]⟩) (True) ?_ ?_
                    · refine VC.draw ⟨0, [], [], [], []⟩ (by kernel_rfl) rfl (by kernel_rfl) (n := 10) (listed := LB 10 0) ?_
                      refine VA.va (i := 0) (listed' := LB 10 1) rfl (op_move rfl (ltn rfl)) rfl (by kernel_rfl) (by kernel_rfl) (by kernel_rfl) (by kernel_rfl) ⟨trivial, trivial, trivial⟩ (fun _ _ _ h => h) ?_
                      refine VA.va (i := 1) (listed' := LB 10 3) rfl (op_move rfl (ltn rfl)) rfl (by kernel_rfl) (by kernel_rfl) (by kernel_rfl) (by kernel_rfl) ⟨trivial, trivial, trivial⟩ (fun _ _ _ h => h) ?_
                      refine VA.va (i := 2) (listed' := LB 10 7) rfl (op_sliceS 0 t3018.toNat Try.underlying9 rfl ⟨rfl, ⟨_, _, rfl, c3052, rfl⟩, by omega, by omega⟩ rfl (ltn rfl)) rfl (by kernel_rfl) (by kernel_rfl) (by kernel_rfl) (by kernel_rfl) ⟨trivial, trivial, trivial⟩ (fun _ _ _ h => h) ?_
                      refine VA.va (i := 3) (listed' := LB 10 15) rfl (op_move rfl (ltn rfl)) rfl (by kernel_rfl) (by kernel_rfl) (by kernel_rfl) (by kernel_rfl) ⟨trivial, trivial, trivial⟩ (fun _ _ _ h => h) ?_
                      refine VA.va (i := 4) (listed' := LB 10 31) rfl (op_move rfl (ltn rfl)) rfl (by kernel_rfl) (by kernel_rfl) (by kernel_rfl) (by kernel_rfl) ⟨trivial, trivial, trivial⟩ (fun _ _ _ h => h) ?_
                      refine VA.va (i := 5) (listed' := LB 10 63) rfl (op_move rfl (ltn rfl)) rfl (by kernel_rfl) (by kernel_rfl) (by kernel_rfl) (by kernel_rfl) ⟨trivial, trivial, trivial⟩ (fun _ _ _ h => h) ?_
                      refine VA.va (i := 6) (listed' := LB 10 127) rfl (op_ari64 rfl rfl rfl (ltn rfl)) rfl (by kernel_rfl) (by kernel_rfl) (by kernel_rfl) (by kernel_rfl) ⟨trivial, trivial, trivial⟩ (fun _ _ _ h => h) ?_
                      refine VA.va (i := 7) (listed' := LB 10 255) rfl (op_sliceS t3018.toNat ((wrap64 (t3018 + 4)).toNat) Try.underlying9 rfl ⟨⟨_, _, rfl, c3052, rfl⟩, ⟨_, _, rfl, c3054, rfl⟩, by omega, by omega⟩ rfl (ltn rfl)) rfl (by kernel_rfl) (by kernel_rfl) (by kernel_rfl) (by kernel_rfl) ⟨trivial, trivial, trivial⟩ (fun _ _ _ h => h) ?_
                      refine VA.va (i := 8) (listed' := LB 10 511) rfl (op_assign rfl (ltn rfl)) rfl (by kernel_rfl) (by kernel_rfl) (by kernel_rfl) (by kernel_rfl) ⟨trivial, trivial, trivial⟩ (fun _ _ _ h => h) ?_
                      refine VA.va (i := 9) (listed' := LB 10 1023) rfl (op_assign rfl (ltn rfl)) rfl (by kernel_rfl) (by kernel_rfl) (by kernel_rfl) (by kernel_rfl) ⟨trivial, trivial, trivial⟩ (fun _ _ _ h => h) ?_
                      refine VA.done (by kernel_rfl) ?_
                      exact VN.meet0  [0, 1, 2] [0] trivial ⟨rfl, ⟨rfl, rfl, rfl, rfl, rfl, rfl, rfl, rfl, rfl, rfl, rfl, rfl, rfl, rfl, rfl, rfl, rfl, rfl, rfl, rfl, rfl, rfl, rfl, rfl, rfl, rfl, rfl, rfl, rfl, rfl, rfl, rfl, rfl, rfl, rfl, rfl, rfl, rfl, trivial⟩, ⟨⟨0, rfl⟩, ⟨1, rfl⟩, trivial⟩, rfl, by decide, rfl, by decide⟩
                    intro _
                    refine VC.seq ?_
                    refine VC.region ?_
                    refine VL.va (op_move rfl (ltn rfl)) rfl ?_
                    refine VL.va (op_move rfl (ltn rfl)) rfl ?_
                    refine VL.va (op_ari64 rfl rfl rfl (ltn rfl)) rfl ?_
                    refine VL.va (op_sliceS ((wrap64 (t3018 + 4)).toNat) t3019.size Try.underlying9 rfl ⟨⟨_, _, rfl, c3054, rfl⟩, rfl, by omega, by omega⟩ rfl (ltn rfl)) rfl ?_
                    refine VL.step1 (o_store 0 1 rfl rfl rfl TI9 (.c rfl) rfl (len rfl)) rfl ?_
                    refine VL.done ?_
                    refine VN.then ?_
                    refine VC.seq ?_
                    refine VC.region ?_
                    refine VL.va (op_move rfl (ltn rfl)) rfl ?_
                    refine VL.va (op_move rfl (ltn rfl)) rfl ?_
                    replace h := Option.bind_eq_some_iff.1 h
                    obtain ⟨t3068, hA3069, h⟩ := h
                    refine VL.sC (o_call0 FO18 (check_Of.ok k (t3019.extract 0 t3018.toNat) t3068 hA3069) rfl rfl (ltn rfl) (All_of .nil)) rfl ?_
                    rintro _ _ _ ⟨rfl, rfl, rfl⟩
                    replace h := Option.bind_eq_some_iff.1 h
                    obtain ⟨t3070, hA3071, h⟩ := h
                    refine VL.sC (o_call0 FO17 (check_Bytes.ok k t3068 t3070 hA3071) rfl rfl (ltn rfl) (All_of .nil)) rfl ?_
                    rintro _ _ _ ⟨rfl, rfl, rfl⟩
                    refine VL.letter (((t3019.extract t3018.toNat ((wrap64 (t3018 + 4)).toNat)) != t3070)) fun b3072 hb3072 => ?_
                    refine VL.va (op_cmps rfl rfl (congrArg some hb3072) (ltn rfl)) rfl ?_
                    refine VL.va (op_move rfl (ltn rfl)) rfl ?_
                    by_cases c3073 : ((t3019.extract t3018.toNat ((wrap64 (t3018 + 4)).toNat)) == t3070) = true
                    · rw [if_pos c3073] at h
                      obtain rfl : b3072 = false := hb3072.symm.trans (bne_of_t c3073)
                      refine VL.va (op_move rfl (ltn rfl)) rfl ?_
                      refine VL.va (op_move rfl (ltn rfl)) rfl ?_
                      refine VL.va (op_load 0 1 rfl rfl TI9 rfl (by decide) (ltn rfl)) rfl ?_
                      refine VL.yield (vals := [.string (t3019.extract 0 t3018.toNat), .string (t3019.extract ((wrap64 (t3018 + 4)).toNat) t3019.size)]) hLl2886 rfl rfl rfl rfl (ltn rfl) 0 rfl rfl ?_
                      refine VC.seq ?_
                      refine VC.region ?_
                      refine VL.va (op_assign rfl (ltn rfl)) rfl ?_
                      refine VL.done ?_
                      refine VN.then ?_
                      refine VC.region ?_
                      refine VL.va (op_assign rfl (ltn rfl)) rfl ?_
                      refine VL.done ?_
                      refine VN.begin 0 hLl2886.base rfl rfl rfl ?_
                      refine VC.block ?_
                      refine VC.region ?_
                      refine VL.va (op_load 2 1 rfl rfl TI22 rfl (by decide) (ltn rfl)) rfl ?_
                      refine VL.va (op_move rfl (ltn rfl)) rfl ?_
                      refine VL.sG (o_buildSlice (vals := [(0, .string (t3019.extract 0 t3018.toNat))]) (cells := #[.string (t3019.extract 0 t3018.toNat)]) (es := List.map enc_str ([t3019.extract 0 t3018.toNat] : List ByteArray)) Try.underlying22 TI9 Z9 rfl (by decide) (by decide) (by kernel_rfl) (by kernel_rfl) rfl (flat_map enc_str_ok _) (ltn rfl)) rfl ?_
                      intro v3075
                      by_cases c3076 : (l2955.length + ([t3019.extract 0 t3018.toNat] : List ByteArray).length) * 16 ≤ 140737488355328
                      · rw [if_pos c3076] at h
                        refine VL.sG (o_append 1 appm Try.underlying22 EI9 rfl rfl rfl (.inr ⟨0, _, rfl⟩) (bndm c3076) (ltn rfl)) rfl ?_
                        intro v3077
                        refine VL.va (op_move rfl (ltn rfl)) rfl ?_
                        refine VL.va (op_lens Try.underlying9 rfl (ltn rfl)) rfl ?_
                        refine VL.step1 (o_store 2 1 rfl rfl rfl TI22 (.r 1 rfl) rfl (len rfl)) rfl ?_
                        refine VL.step1 (o_store 1 1 rfl rfl rfl TI3 (.c rfl) rfl (len rfl)) rfl ?_
                        refine VL.done ?_
                        refine VN.block ?_
                        refine VN.endRound 0 hLl2886.base rfl rfl rfl ?_
                        refine VL.va (op_not rfl rfl (ltn rfl)) rfl ?_
                        refine VL.va (op_pick rfl rfl (ltn rfl)) rfl ?_
                        refine VL.done ?_
                        refine VN.then ?_
                        refine VC.cond_f rfl ?_
                        refine VC.skip ?_
                        refine VN.block ?_
                        refine VN.again [0, 1, 2] [1] (ihl1 (t3019.extract ((wrap64 (t3018 + 4)).toNat) t3019.size) ((t3019.extract ((wrap64 (t3018 + 4)).toNat) t3019.size).size : Int) v3077 (l2955 ++ ([t3019.extract 0 t3018.toNat] : List ByteArray)) h) ⟨rfl, ⟨rfl, rfl, trivial⟩, ⟨⟨0, rfl⟩, ⟨1, rfl⟩, trivial⟩, rfl, by decide, rfl, by decide⟩
                      · rw [if_neg c3076] at h; cases h
                    · rw [if_neg c3073] at h
                      obtain rfl : b3072 = true := hb3072.symm.trans (bne_of_f c3073)
                      refine VL.un rfl rfl (ltn rfl) ?_
                      refine VL.un rfl rfl (ltn rfl) ?_
                      refine VL.un rfl rfl (ltn rfl) ?_
                      refine VL.un rfl rfl (ltn rfl) ?_
                      refine VL.un rfl rfl (ltn rfl) ?_
                      refine VL.va (op_pick rfl rfl (ltn rfl)) rfl ?_
                      refine VL.done ?_
                      refine VN.then ?_
                      refine VC.cond_t rfl ?_
                      refine VC.ret ?_
                      refine VR.block ?_
                      refine VR.then ?_
                      refine VR.block ?_
                      refine VR.endRF 0 rfl rfl rfl rfl ?_
                      refine VN.block ?_
                      refine VN.then ?_
                      refine VC.join0 (⟨25, [(2, v2954), (3, .int .i64 (wrap64 ((a0.size : Int) - i2952)))], [.dfr D2885], [], [(v2954, 9, 1, l2955.map enc_str)]⟩) (True) ?_ ?_
                      · refine VC.draw ⟨0, [], [], [(g969, 3, [.int .i64 i2952]), (g968, 22, [v2954])], [(v2954, 9, 1, l2955.map enc_str)]⟩ (by kernel_rfl) rfl (by kernel_rfl) (n := 7) (listed := LB 7 0) ?_
                        refine VA.va (i := 0) (listed' := LB 7 1) rfl (op_load 1 1 rfl rfl TI22 rfl (by decide) (ltn rfl)) rfl (by kernel_rfl) (by kernel_rfl) (by kernel_rfl) (by kernel_rfl) ⟨trivial, ⟨⟨1, rfl⟩, ⟨2, rfl⟩, trivial⟩, ⟨⟨0, rfl⟩, trivial⟩⟩ (fun _ _ _ h => h) ?_
                        refine VA.va (i := 1) (listed' := LB 7 3) rfl (op_move rfl (ltn rfl)) rfl (by kernel_rfl) (by kernel_rfl) (by kernel_rfl) (by kernel_rfl) ⟨trivial, ⟨⟨1, rfl⟩, ⟨2, rfl⟩, trivial⟩, ⟨⟨0, rfl⟩, trivial⟩⟩ (fun _ _ _ h => h) ?_
                        refine VA.va (i := 2) (listed' := LB 7 7) rfl (op_lens Try.underlying9 rfl (ltn rfl)) rfl (by kernel_rfl) (by kernel_rfl) (by kernel_rfl) (by kernel_rfl) ⟨trivial, ⟨⟨1, rfl⟩, ⟨2, rfl⟩, trivial⟩, ⟨⟨0, rfl⟩, trivial⟩⟩ (fun _ _ _ h => h) ?_
                        refine VA.va (i := 3) (listed' := LB 7 15) rfl (op_load 0 1 rfl rfl TI3 rfl (by decide) (ltn rfl)) rfl (by kernel_rfl) (by kernel_rfl) (by kernel_rfl) (by kernel_rfl) ⟨trivial, ⟨⟨1, rfl⟩, ⟨2, rfl⟩, trivial⟩, ⟨⟨0, rfl⟩, trivial⟩⟩ (fun _ _ _ h => h) ?_
                        refine VA.va (i := 4) (listed' := LB 7 31) rfl (op_ari64 rfl rfl rfl (ltn rfl)) rfl (by kernel_rfl) (by kernel_rfl) (by kernel_rfl) (by kernel_rfl) ⟨trivial, ⟨⟨1, rfl⟩, ⟨2, rfl⟩, trivial⟩, ⟨⟨0, rfl⟩, trivial⟩⟩ (fun _ _ _ h => h) ?_
                        refine VA.va (i := 5) (listed' := LB 7 63) rfl (op_assign rfl (ltn rfl)) rfl (by kernel_rfl) (by kernel_rfl) (by kernel_rfl) (by kernel_rfl) ⟨trivial, ⟨⟨1, rfl⟩, ⟨2, rfl⟩, trivial⟩, ⟨⟨0, rfl⟩, trivial⟩⟩ (fun _ _ _ h => h) ?_
                        refine VA.va (i := 6) (listed' := LB 7 127) rfl (op_assign rfl (ltn rfl)) rfl (by kernel_rfl) (by kernel_rfl) (by kernel_rfl) (by kernel_rfl) ⟨trivial, ⟨⟨1, rfl⟩, ⟨2, rfl⟩, trivial⟩, ⟨⟨0, rfl⟩, trivial⟩⟩ (fun _ _ _ h => h) ?_
                        refine VA.done (by kernel_rfl) ?_
                        exact VN.meet0  [] [0] trivial ⟨rfl, ⟨rfl, rfl, trivial⟩, ⟨⟨0, rfl⟩, trivial⟩, rfl, by decide, rfl, by decide⟩
                      intro _
                      refine VC.ret ?_
                      simp only [Option.some.injEq, Prod.mk.injEq] at h
                      obtain ⟨rfl, rfl⟩ := h
                      refine VR.mark 0 hDD2885 rfl rfl rfl ?_
                      exact VR.fn (rs := [.tmp 2, .tmp 3]) [] [(v2954, 9, 1, l2955.map enc_str)] [0] rfl (.tmp rfl (.tmp rfl .nil)) ⟨v2954, rfl, rfl, rfl⟩ trivial rfl (by decide)
                  · rw [if_neg c3056] at h; cases h
                · rw [if_neg c3055] at h; cases h
              · rw [if_neg c3054] at h; cases h
            · rw [if_neg c3053] at h; cases h
          · rw [if_neg c3052] at h; cases h
  · rw [if_neg c3045] at h
    obtain rfl : b3044 = true := hb3044.symm.trans (bne_iff_ne.2 c3045)
    refine VL.un rfl rfl (ltn rfl) ?_
    refine VL.un rfl rfl (ltn rfl) ?_
    refine VL.va (op_pick rfl rfl (ltn rfl)) rfl ?_
    refine VL.va (op_move rfl (ltn rfl)) rfl ?_
    refine VL.un rfl rfl (ltn rfl) ?_
    refine VL.un rfl rfl (ltn rfl) ?_
    refine VL.va (op_pick rfl rfl (ltn rfl)) rfl ?_
    refine VL.va (op_move rfl (ltn rfl)) rfl ?_
    refine VL.un rfl rfl (ltn rfl) ?_
    refine VL.un rfl rfl (ltn rfl) ?_
    refine VL.un rfl rfl (ltn rfl) ?_
    refine VL.un rfl rfl (ltn rfl) ?_
    refine VL.un rfl rfl (ltn rfl) ?_
    refine VL.va (op_pick rfl rfl (ltn rfl)) rfl ?_
    refine VL.done ?_
    refine VN.then ?_
    refine VC.cond_t rfl ?_
    refine VC.ret ?_
    refine VR.then ?_
    refine VR.block ?_
    refine VR.then ?_
    refine VR.block ?_
    refine VR.endRF 0 rfl rfl rfl rfl ?_
    refine VN.block ?_
    refine VN.then ?_
    refine VC.join0 (⟨25, [(2, v2954), (3, .int .i64 (wrap64 ((a0.size : Int) - i2952)))], [.dfr D2885], [], [(v2954, 9, 1, l2955.map enc_str)]⟩) (True) ?_ ?_
    · refine VC.draw ⟨0, [], [], [(g969, 3, [.int .i64 i2952]), (g968, 22, [v2954])], [(v2954, 9, 1, l2955.map enc_str)]⟩ (by kernel_rfl) rfl (by kernel_rfl) (n := 7) (listed := LB 7 0) ?_
      refine VA.va (i := 0) (listed' := LB 7 1) rfl (op_load 1 1 rfl rfl TI22 rfl (by decide) (ltn rfl)) rfl (by kernel_rfl) (by kernel_rfl) (by kernel_rfl) (by kernel_rfl) ⟨trivial, ⟨⟨1, rfl⟩, ⟨2, rfl⟩, trivial⟩, ⟨⟨0, rfl⟩, trivial⟩⟩ (fun _ _ _ h => h) ?_
      refine VA.va (i := 1) (listed' := LB 7 3) rfl (op_move rfl (ltn rfl)) rfl (by kernel_rfl) (by kernel_rfl) (by kernel_rfl) (by kernel_rfl) ⟨trivial, ⟨⟨1, rfl⟩, ⟨2, rfl⟩, trivial⟩, ⟨⟨0, rfl⟩, trivial⟩⟩ (fun _ _ _ h => h) ?_
      refine VA.va (i := 2) (listed' := LB 7 7) rfl (op_lens Try.underlying9 rfl (ltn rfl)) rfl (by kernel_rfl) (by kernel_rfl) (by kernel_rfl) (by kernel_rfl) ⟨trivial, ⟨⟨1, rfl⟩, ⟨2, rfl⟩, trivial⟩, ⟨⟨0, rfl⟩, trivial⟩⟩ (fun _ _ _ h => h) ?_
      refine VA.va (i := 3) (listed' := LB 7 15) rfl (op_load 0 1 rfl rfl TI3 rfl (by decide) (ltn rfl)) rfl (by kernel_rfl) (by kernel_rfl) (by kernel_rfl) (by kernel_rfl) ⟨trivial, ⟨⟨1, rfl⟩, ⟨2, rfl⟩, trivial⟩, ⟨⟨0, rfl⟩, trivial⟩⟩ (fun _ _ _ h => h) ?_
      refine VA.va (i := 4) (listed' := LB 7 31) rfl (op_ari64 rfl rfl rfl (ltn rfl)) rfl (by kernel_rfl) (by kernel_rfl) (by kernel_rfl) (by kernel_rfl) ⟨trivial, ⟨⟨1, rfl⟩, ⟨2, rfl⟩, trivial⟩, ⟨⟨0, rfl⟩, trivial⟩⟩ (fun _ _ _ h => h) ?_
      refine VA.va (i := 5) (listed' := LB 7 63) rfl (op_assign rfl (ltn rfl)) rfl (by kernel_rfl) (by kernel_rfl) (by kernel_rfl) (by kernel_rfl) ⟨trivial, ⟨⟨1, rfl⟩, ⟨2, rfl⟩, trivial⟩, ⟨⟨0, rfl⟩, trivial⟩⟩ (fun _ _ _ h => h) ?_
      refine VA.va (i := 6) (listed' := LB 7 127) rfl (op_assign rfl (ltn rfl)) rfl (by kernel_rfl) (by kernel_rfl) (by kernel_rfl) (by kernel_rfl) ⟨trivial, ⟨⟨1, rfl⟩, ⟨2, rfl⟩, trivial⟩, ⟨⟨0, rfl⟩, trivial⟩⟩ (fun _ _ _ h => h) ?_
      refine VA.done (by kernel_rfl) ?_
      exact VN.meet0  [] [0] trivial ⟨rfl, ⟨rfl, rfl, trivial⟩, ⟨⟨0, rfl⟩, trivial⟩, rfl, by decide, rfl, by decide⟩
    intro _
    refine VC.ret ?_
    simp only [Option.some.injEq, Prod.mk.injEq] at h
    obtain ⟨rfl, rfl⟩ := h
    refine VR.mark 0 hDD2885 rfl rfl rfl ?_
    exact VR.fn (rs := [.tmp 2, .tmp 3]) [] [(v2954, 9, 1, l2955.map enc_str)] [0] rfl (.tmp rfl (.tmp rfl .nil)) ⟨v2954, rfl, rfl, rfl⟩ trivial rfl (by decide)
set_option maxHeartbeats 4000000 in
set_option maxRecDepth 100000 in
theorem tarrylaw04_alive.ok (k : Nat)   (r1 : Bool) (h : tarrylaw04_alive.f k = some r1) :
    VCalls Try.prog 7 [] [] (fun v G own => v = .bool r1 ∧ G = [] ∧ own = []) := by
  refine VCalls.intro Try.func7 rfl (len rfl) fun E hC hW hD hU => ?_
  unfold tarrylaw04_alive.f at h
  refine VC.seq ?_
  refine VC.region ?_
  refine VL.va (op_assign rfl (ltn rfl)) rfl ?_
  refine VL.done ?_
  refine VN.then ?_
  refine VC.seq ?_
  refine VC.region ?_
  replace h := Option.bind_eq_some_iff.1 h
  obtain ⟨⟨t965, t966⟩, hA967, h⟩ := h
  dsimp only at h
  refine VL.sC (o_call0 FO8 (frame_Frame.ok k (⟨#[]⟩ : ByteArray) t965 t966 hA967) rfl rfl (ltn rfl) (All_of .nil)) rfl ?_
  rintro _ _ _ ⟨rfl, rfl, rfl⟩
  refine VL.va (op_move rfl (ltn rfl)) rfl ?_
  refine VL.va (op_extract rfl rfl (ltn rfl)) rfl ?_
  refine VL.va (op_extract rfl rfl (ltn rfl)) rfl ?_
  refine VL.va (op_assign rfl (ltn rfl)) rfl ?_
  refine VL.va (op_assign rfl (ltn rfl)) rfl ?_
  refine VL.done ?_
  refine VN.then ?_
  refine VC.seq ?_
  refine VC.region ?_
  refine VL.va (op_move rfl (ltn rfl)) rfl ?_
  replace h := Option.bind_eq_some_iff.1 h
  obtain ⟨⟨r3079, t3080⟩, hA3081, h⟩ := h
  dsimp only at h
  refine VL.sC (o_call0 FO9 (frame_Scan.ok k t965 r3079 t3080 hA3081) rfl rfl (ltn rfl) (All_of .nil)) rfl ?_
  rintro _ _ _ ⟨v3083, rfl, rfl, rfl⟩
  refine VL.va (op_move rfl (ltn rfl)) rfl ?_
  refine VL.va (op_extract rfl rfl (ltn rfl)) rfl ?_
  refine VL.va (op_extract rfl rfl (ltn rfl)) rfl ?_
  refine VL.va (op_assign rfl (ltn rfl)) rfl ?_
  refine VL.va (op_assign rfl (ltn rfl)) rfl ?_
  refine VL.done ?_
  refine VN.then ?_
  refine VC.seq ?_
  refine VC.region ?_
  refine VL.va (op_move rfl (ltn rfl)) rfl ?_
  refine VL.letter ((t966 == 0)) fun b3091 hb3091 => ?_
  refine VL.va (op_cmp rfl rfl (congrArg some hb3091) (ltn rfl)) rfl ?_
  refine VL.va (op_move rfl (ltn rfl)) rfl ?_
  by_cases c3092 : t966 = 0
  · rw [if_pos c3092] at h
    obtain rfl : b3091 = true := hb3091.symm.trans (beq_iff_eq.2 c3092)
    refine VL.va (op_move rfl (ltn rfl)) rfl ?_
    refine VL.va (op_lens Try.underlying9 rfl (ltn rfl)) rfl ?_
    refine VL.letter (((t965.size : Int) == 5)) fun b3093 hb3093 => ?_
    refine VL.va (op_cmp rfl rfl (congrArg some hb3093) (ltn rfl)) rfl ?_
    refine VL.va (op_pick rfl rfl (ltn rfl)) rfl ?_
    refine VL.va (op_move rfl (ltn rfl)) rfl ?_
    by_cases c3094 : (t965.size : Int) = 5
    · rw [if_pos c3094] at h
      obtain rfl : b3093 = true := hb3093.symm.trans (beq_iff_eq.2 c3094)
      refine VL.va (op_move rfl (ltn rfl)) rfl ?_
      refine VL.va (op_len_own (m := r3079.length) 0 lenm Try.underlying22 rfl rfl (ltn rfl)) rfl ?_
      refine VL.letter (((r3079.length : Int) == 1)) fun b3095 hb3095 => ?_
      refine VL.va (op_cmp rfl rfl (congrArg some hb3095) (ltn rfl)) rfl ?_
      refine VL.va (op_pick rfl rfl (ltn rfl)) rfl ?_
      refine VL.va (op_move rfl (ltn rfl)) rfl ?_
      by_cases c3096 : (r3079.length : Int) = 1
      · rw [if_pos c3096] at h
        obtain rfl : b3095 = true := hb3095.symm.trans (beq_iff_eq.2 c3096)
        refine VL.va (op_move rfl (ltn rfl)) rfl ?_
        refine VL.letter ((t3080 == 5)) fun b3097 hb3097 => ?_
        refine VL.va (op_cmp rfl rfl (congrArg some hb3097) (ltn rfl)) rfl ?_
        refine VL.va (op_pick rfl rfl (ltn rfl)) rfl ?_
        refine VL.va (op_assign rfl (ltn rfl)) rfl ?_
        refine VL.done ?_
        refine VN.then ?_
        refine VC.ret ?_
        obtain rfl := Option.some.inj h
        subst hb3097
        exact VR.fn (rs := [.tmp 0]) [] [] [] rfl (.tmp rfl .nil) ⟨rfl, rfl, rfl⟩ trivial rfl (by decide)
      · rw [if_neg c3096] at h
        obtain rfl : b3095 = false := hb3095.symm.trans (beq_eq_false_iff_ne.2 c3096)
        refine VL.un rfl rfl (ltn rfl) ?_
        refine VL.un rfl rfl (ltn rfl) ?_
        refine VL.va (op_pick rfl rfl (ltn rfl)) rfl ?_
        refine VL.va (op_assign rfl (ltn rfl)) rfl ?_
        refine VL.done ?_
        refine VN.then ?_
        refine VC.ret ?_
        obtain rfl := Option.some.inj h
        exact VR.fn (rs := [.tmp 0]) [] [] [] rfl (.tmp rfl .nil) ⟨rfl, rfl, rfl⟩ trivial rfl (by decide)
    · rw [if_neg c3094] at h
      obtain rfl : b3093 = false := hb3093.symm.trans (beq_eq_false_iff_ne.2 c3094)
      refine VL.un rfl rfl (ltn rfl) ?_
      refine VL.un rfl rfl (ltn rfl) ?_
      refine VL.un rfl rfl (ltn rfl) ?_
      refine VL.va (op_pick rfl rfl (ltn rfl)) rfl ?_
      refine VL.va (op_move rfl (ltn rfl)) rfl ?_
      refine VL.un rfl rfl (ltn rfl) ?_
      refine VL.un rfl rfl (ltn rfl) ?_
      refine VL.va (op_pick rfl rfl (ltn rfl)) rfl ?_
      refine VL.va (op_assign rfl (ltn rfl)) rfl ?_
      refine VL.done ?_
      refine VN.then ?_
      refine VC.ret ?_
      obtain rfl := Option.some.inj h
      exact VR.fn (rs := [.tmp 0]) [] [] [] rfl (.tmp rfl .nil) ⟨rfl, rfl, rfl⟩ trivial rfl (by decide)
  · rw [if_neg c3092] at h
    obtain rfl : b3091 = false := hb3091.symm.trans (beq_eq_false_iff_ne.2 c3092)
    refine VL.un rfl rfl (ltn rfl) ?_
    refine VL.un rfl rfl (ltn rfl) ?_
    refine VL.un rfl rfl (ltn rfl) ?_
    refine VL.va (op_pick rfl rfl (ltn rfl)) rfl ?_
    refine VL.va (op_move rfl (ltn rfl)) rfl ?_
    refine VL.un rfl rfl (ltn rfl) ?_
    refine VL.un rfl rfl (ltn rfl) ?_
    refine VL.un rfl rfl (ltn rfl) ?_
    refine VL.va (op_pick rfl rfl (ltn rfl)) rfl ?_
    refine VL.va (op_move rfl (ltn rfl)) rfl ?_
    refine VL.un rfl rfl (ltn rfl) ?_
    refine VL.un rfl rfl (ltn rfl) ?_
    refine VL.va (op_pick rfl rfl (ltn rfl)) rfl ?_
    refine VL.va (op_assign rfl (ltn rfl)) rfl ?_
    refine VL.done ?_
    refine VN.then ?_
    refine VC.ret ?_
    obtain rfl := Option.some.inj h
    exact VR.fn (rs := [.tmp 0]) [] [] [] rfl (.tmp rfl .nil) ⟨rfl, rfl, rfl⟩ trivial rfl (by decide)
set_option maxHeartbeats 4000000 in
set_option maxRecDepth 100000 in
theorem tarryref01_Same.ok (k : Nat) (l0 : List ByteArray) (l1 : List ByteArray) (v0 : Value) (v1 : Value) (r1 : Bool) (h : tarryref01_Same.f k l0 l1 = some r1) :
    VCalls Try.prog 10 [v0, v1] [.row v0 1 (l0.map enc_str), .row v1 1 (l1.map enc_str)] (fun v G own => v = .bool r1 ∧ G = [] ∧ own = []) := by
  refine VCalls.intro Try.func10 rfl (len rfl) fun E hC hW hD hU => ?_
  unfold tarryref01_Same.f at h
  refine VC.seq ?_
  refine VC.region ?_
  refine VL.va (op_assign rfl (ltn rfl)) rfl ?_
  refine VL.done ?_
  refine VN.then ?_
  refine VC.seq ?_
  refine VC.seq ?_
  refine VC.region ?_
  refine VL.va (op_move rfl (ltn rfl)) rfl ?_
  refine VL.va (op_len (m := l0.length) 0 lenm Try.underlying22 rfl rfl (ltn rfl)) rfl ?_
  refine VL.va (op_move rfl (ltn rfl)) rfl ?_
  refine VL.va (op_len (m := l1.length) 1 lenm Try.underlying22 rfl rfl (ltn rfl)) rfl ?_
  refine VL.letter (((l0.length : Int) != (l1.length : Int))) fun b3519 hb3519 => ?_
  refine VL.va (op_cmp rfl rfl (congrArg some hb3519) (ltn rfl)) rfl ?_
  refine VL.done ?_
  refine VN.then ?_
  by_cases c3520 : (l0.length : Int) = (l1.length : Int)
  · rw [if_pos c3520] at h
    obtain rfl : b3519 = false := hb3519.symm.trans (bne_eq_false_iff_eq.2 c3520)
    refine VC.cond_f rfl ?_
    refine VC.skip ?_
    refine VN.then ?_
    refine VC.seq ?_
    refine VC.seq ?_
    refine VC.region ?_
    refine VL.va (op_move rfl (ltn rfl)) rfl ?_
    refine VL.va (op_len (m := l0.length) 0 lenm Try.underlying22 rfl rfl (ltn rfl)) rfl ?_
    refine VL.va (op_move rfl (ltn rfl)) rfl ?_
    refine VL.done ?_
    refine VN.then ?_
    refine VC.block ?_
    refine VC.loop1 (fun (i3574 : Int) => ⟨26, [(0, v0), (1, v1), (4, .bool false), (12, .int .i64 (l0.length : Int)), (13, .int .i64 i3574)], [.row v0 1 (l0.map enc_str), .row v1 1 (l1.map enc_str)], [], []⟩) (fun (ml1 : Nat) (i3574 : Int) => tarryref01_Same.l1 k l0 l1 ml1 i3574 = some r1) k 0 [] [] h ⟨rfl, ⟨rfl, rfl, rfl, rfl, rfl, trivial⟩, ⟨⟨0, rfl⟩, ⟨1, rfl⟩, trivial⟩, rfl, by decide, rfl, by decide⟩ (by intros; simp [tarryref01_Same.l1]) ?_
    clear h
    intro ml1 ihl1 i3574 h
    simp only [tarryref01_Same.l1] at h
    refine VC.seq ?_
    refine VC.region ?_
    refine VL.letter (decide (i3574 < (l0.length : Int))) fun b3588 hb3588 => ?_
    refine VL.va (op_cmp rfl rfl (congrArg some hb3588) (ltn rfl)) rfl ?_
    refine VL.done ?_
    refine VN.then ?_
    refine VC.seq ?_
    by_cases c3590 : i3574 < (l0.length : Int)
    · rw [if_pos c3590] at h
      obtain rfl : b3588 = true := hb3588.symm.trans (decide_eq_true c3590)
      refine VC.cond_t rfl ?_
      refine VC.skip ?_
      refine VN.then ?_
      refine VC.seq ?_
      refine VC.block ?_
      refine VC.seq ?_
      refine VC.region ?_
      refine VL.va (op_move rfl (ltn rfl)) rfl ?_
      refine VL.va (op_assign rfl (ltn rfl)) rfl ?_
      refine VL.done ?_
      refine VN.then ?_
      by_cases c3596 : 0 ≤ i3574
      · rw [if_pos c3596] at h
        replace h := Option.bind_eq_some_iff.1 h
        obtain ⟨x3597, hx3597, h⟩ := h
        replace h := Option.bind_eq_some_iff.1 h
        obtain ⟨x3598, hx3598, h⟩ := h
        refine VC.letter ((x3597 != x3598)) fun b3599 hb3599 => ?_
        refine VC.open (m := l0.length) 0 lenm rfl (pos_get hx3597) ?_
        rintro ad3525 n3526 rfl
        refine VC.open (m := l1.length) 1 lenm rfl (pos_get hx3598) ?_
        rintro ad3528 n3529 rfl
        refine VC.join0 (⟨26, [(0, (.slice (some ad3525) l0.length n3526)), (1, (.slice (some ad3528) l1.length n3529)), (4, .bool false), (5, .int .i64 i3574), (12, .int .i64 (l0.length : Int)), (13, .int .i64 i3574), (14, .bool true), (15, .int .i64 i3574), (16, (.slice (some ad3525) l0.length n3526)), (17, .int .i64 i3574), (19, .string x3597), (20, (.slice (some ad3528) l1.length n3529)), (21, .int .i64 i3574), (23, .string x3598), (24, .bool b3599)], [.row (.slice (some ad3525) l0.length n3526) 1 (l0.map enc_str), .row (.slice (some ad3528) l1.length n3529) 1 (l1.map enc_str)], [], []⟩) (True) ?_ ?_
        · refine VC.draw ⟨0, [], [.row (.slice (some ad3525) l0.length n3526) 1 (l0.map enc_str), .row (.slice (some ad3528) l1.length n3529) 1 (l1.map enc_str)], [], []⟩ (by kernel_rfl) rfl (by kernel_rfl) (n := 9) (listed := LB 9 0) ?_
          refine VA.va (i := 0) (listed' := LB 9 1) rfl (op_move rfl (ltn rfl)) rfl (by kernel_rfl) (by kernel_rfl) (by kernel_rfl) (by kernel_rfl) ⟨⟨⟨0, rfl⟩, ⟨1, rfl⟩, trivial⟩, trivial, trivial⟩ (fun _ _ _ h => h) ?_
          refine VA.va (i := 1) (listed' := LB 9 3) rfl (op_move rfl (ltn rfl)) rfl (by kernel_rfl) (by kernel_rfl) (by kernel_rfl) (by kernel_rfl) ⟨⟨⟨0, rfl⟩, ⟨1, rfl⟩, trivial⟩, trivial, trivial⟩ (fun _ _ _ h => h) ?_
          refine VA.va (i := 2) (listed' := LB 9 7) rfl (op_indexAddr Try.underlying22 TI9 rfl rfl c3596 (lt_get c3596 hx3597) rfl (ltn rfl)) rfl (by kernel_rfl) (by kernel_rfl) (by kernel_rfl) (by kernel_rfl) ⟨⟨⟨0, rfl⟩, ⟨1, rfl⟩, trivial⟩, trivial, trivial⟩ (fun _ _ _ h => h) ?_
          refine VA.va (i := 3) (listed' := LB 9 15) rfl (op_load_row (sz := 1) (o := 0) 0 i3574.toNat 1 rfl rfl (get_map hx3597) TI9 rfl (by decide) (ltn rfl)) rfl (by kernel_rfl) (by kernel_rfl) (by kernel_rfl) (by kernel_rfl) ⟨⟨⟨0, rfl⟩, ⟨1, rfl⟩, trivial⟩, trivial, trivial⟩ (fun _ _ _ h => h) ?_
          refine VA.va (i := 4) (listed' := LB 9 31) rfl (op_move rfl (ltn rfl)) rfl (by kernel_rfl) (by kernel_rfl) (by kernel_rfl) (by kernel_rfl) ⟨⟨⟨0, rfl⟩, ⟨1, rfl⟩, trivial⟩, trivial, trivial⟩ (fun _ _ _ h => h) ?_
          refine VA.va (i := 5) (listed' := LB 9 63) rfl (op_move rfl (ltn rfl)) rfl (by kernel_rfl) (by kernel_rfl) (by kernel_rfl) (by kernel_rfl) ⟨⟨⟨0, rfl⟩, ⟨1, rfl⟩, trivial⟩, trivial, trivial⟩ (fun _ _ _ h => h) ?_
          refine VA.va (i := 6) (listed' := LB 9 127) rfl (op_indexAddr Try.underlying22 TI9 rfl rfl c3596 (lt_get c3596 hx3598) rfl (ltn rfl)) rfl (by kernel_rfl) (by kernel_rfl) (by kernel_rfl) (by kernel_rfl) ⟨⟨⟨0, rfl⟩, ⟨1, rfl⟩, trivial⟩, trivial, trivial⟩ (fun _ _ _ h => h) ?_
          refine VA.va (i := 7) (listed' := LB 9 255) rfl (op_load_row (sz := 1) (o := 0) 1 i3574.toNat 1 rfl rfl (get_map hx3598) TI9 rfl (by decide) (ltn rfl)) rfl (by kernel_rfl) (by kernel_rfl) (by kernel_rfl) (by kernel_rfl) ⟨⟨⟨0, rfl⟩, ⟨1, rfl⟩, trivial⟩, trivial, trivial⟩ (fun _ _ _ h => h) ?_
          refine VA.va (i := 8) (listed' := LB 9 511) rfl (op_cmps rfl rfl (congrArg some hb3599) (ltn rfl)) rfl (by kernel_rfl) (by kernel_rfl) (by kernel_rfl) (by kernel_rfl) ⟨⟨⟨0, rfl⟩, ⟨1, rfl⟩, trivial⟩, trivial, trivial⟩ (fun _ _ _ h => h) ?_
          refine VA.done (by kernel_rfl) ?_
          exact VN.meet0  [] [] trivial ⟨rfl, ⟨rfl, rfl, rfl, rfl, rfl, rfl, rfl, rfl, rfl, rfl, rfl, rfl, rfl, rfl, rfl, trivial⟩, ⟨⟨0, rfl⟩, ⟨1, rfl⟩, trivial⟩, rfl, by decide, rfl, by decide⟩
        intro _
        by_cases c3600 : (x3597 == x3598) = true
        · rw [if_pos c3600] at h
          obtain rfl : b3599 = false := hb3599.symm.trans (bne_of_t c3600)
          refine VC.cond_f rfl ?_
          refine VC.skip ?_
          refine VN.block ?_
          refine VN.then ?_
          refine VC.region ?_
          refine VL.va (op_ari64 rfl rfl rfl (ltn rfl)) rfl ?_
          refine VL.va (op_move rfl (ltn rfl)) rfl ?_
          refine VL.done ?_
          refine VN.again [] [] (ihl1 (wrap64 (i3574 + 1)) h) ⟨rfl, ⟨rfl, rfl, rfl, rfl, rfl, trivial⟩, ⟨⟨0, rfl⟩, ⟨1, rfl⟩, trivial⟩, rfl, by decide, rfl, by decide⟩
        · rw [if_neg c3600] at h
          obtain rfl : b3599 = true := hb3599.symm.trans (bne_of_f c3600)
          refine VC.cond_t rfl ?_
          refine VC.seq ?_
          refine VC.region ?_
          refine VL.va (op_assign rfl (ltn rfl)) rfl ?_
          refine VL.done ?_
          refine VN.then ?_
          refine VC.ret ?_
          refine VR.block ?_
          refine VR.then ?_
          refine VR.then ?_
          refine VR.block ?_
          refine VR.then ?_
          obtain rfl := Option.some.inj h
          exact VR.fn (rs := [.tmp 4]) [] [] [] rfl (.tmp rfl .nil) ⟨rfl, rfl, rfl⟩ trivial rfl (by decide)
      · rw [if_neg c3596] at h; cases h
    · rw [if_neg c3590] at h
      obtain rfl : b3588 = false := hb3588.symm.trans (decide_eq_false c3590)
      refine VC.cond_f rfl ?_
      refine VC.exit ?_
      refine VX.then ?_
      refine VX.then ?_
      refine VX.hit ?_
      refine VN.then ?_
      refine VC.seq ?_
      refine VC.region ?_
      refine VL.va (op_assign rfl (ltn rfl)) rfl ?_
      refine VL.done ?_
      refine VN.then ?_
      refine VC.ret ?_
      obtain rfl := Option.some.inj h
      exact VR.fn (rs := [.tmp 4]) [] [] [] rfl (.tmp rfl .nil) ⟨rfl, rfl, rfl⟩ trivial rfl (by decide)
  · rw [if_neg c3520] at h
    obtain rfl : b3519 = true := hb3519.symm.trans (bne_iff_ne.2 c3520)
    refine VC.cond_t rfl ?_
    refine VC.seq ?_
    refine VC.region ?_
    refine VL.va (op_assign rfl (ltn rfl)) rfl ?_
    refine VL.done ?_
    refine VN.then ?_
    refine VC.ret ?_
    refine VR.then ?_
    obtain rfl := Option.some.inj h
    exact VR.fn (rs := [.tmp 4]) [] [] [] rfl (.tmp rfl .nil) ⟨rfl, rfl, rfl⟩ trivial rfl (by decide)

end Go.Proofs.Ytaolaicmfjdmhaa.PFrameHurt
