/- Written by a program of this repo: what the program's functions do, each as a Lean function, shown of the loaded code; or a statement's row over that; no condition of its own. -/
import Derived.Test.YtaolaicmfjdmhaaPFrameBackx2
namespace Go.Proofs.Ytaolaicmfjdmhaa.PFrameBack
open Go Go.RowKit Go.Proofs.YtaolaicmfjdmhaaV
set_option linter.unusedVariables false
set_option linter.unusedSimpArgs false

set_option maxHeartbeats 4000000 in
set_option maxRecDepth 100000 in
theorem frame_Scan.ok (k : Nat) (a0 : ByteArray)  (r1 : List ByteArray) (r2 : Int) (h : frame_Scan.f k a0 = some (r1, r2)) :
    VCalls Try.prog 9 [.string a0] [] (fun v G own => ∃ w0 : Value, v = .tuple #[w0, .int .i64 r2] ∧ G = [] ∧ own = [(w0, 9, 1, r1.map enc_str)]) := by
  refine VCalls.introM Try.func9 rfl (len rfl) fun E hC hW hD => ?_
  unfold frame_Scan.f at h
  refine VC.seq ?_
  refine VC.region ?_
  refine VL.va (op_assign rfl (ltn rfl)) rfl ?_
  refine VL.va (op_assign rfl (ltn rfl)) rfl ?_
  refine VL.done ?_
  refine VN.then ?_
  refine VC.seq ?_
  refine VC.region ?_
  refine VL.sG (o_alloc Z22 ZL22 (ltn rfl)) rfl ?_
  intro g1103
  refine VL.done ?_
  refine VN.then ?_
  refine VC.seq ?_
  refine VC.region ?_
  refine VL.va (op_move rfl (ltn rfl)) rfl ?_
  refine VL.va (op_lens Try.underlying9 rfl (ltn rfl)) rfl ?_
  refine VL.sG (o_alloc Z3 ZL3 (ltn rfl)) rfl ?_
  intro g1104
  refine VL.step1 (o_store 0 1 rfl rfl rfl TI3 (.c rfl) rfl (len rfl)) rfl ?_
  refine VL.done ?_
  refine VN.then ?_
  refine VC.seq ?_
  refine VC.seq ?_
  refine VC.region ?_
  refine VL.va (op_move rfl (ltn rfl)) rfl ?_
  refine VL.inl (vals := [.string a0]) (caps := []) Try.func19 FO19 rfl rfl rfl (len rfl) (ltn rfl) rfl ?_
  refine VC.seq ?_
  refine VC.region ?_
  refine VL.sG (o_box rfl (.c rfl) (ltn rfl)) rfl ?_
  intro g3019
  refine VL.va (op_assign rfl (ltn rfl)) rfl ?_
  refine VL.done ?_
  refine VN.then ?_
  refine VC.seq ?_
  refine VC.region ?_
  refine VL.va (op_makeFunc (vals := [.pointer (some ⟨g3019, 0, none⟩)]) rfl (ltn rfl)) rfl ?_
  refine VL.va (op_assign rfl (ltn rfl)) rfl ?_
  refine VL.done ?_
  refine VN.then ?_
  refine VC.ret ?_
  refine VR.inl (rs := [.tmp 2]) ((.func (.func 27) #[] #[.pointer (some ⟨g3019, 0, none⟩)])) rfl (.tmp rfl .nil) rfl ?_
  refine VL.done ?_
  refine VN.then ?_
  refine VC.block ?_
  refine VC.rangeFunc (ps := [12, 13]) (caps := [.pointer (some ⟨g3019, 0, none⟩)]) Try.func27 FO27 rfl rfl (len rfl) fun D3020 l3021 L3022 hLl3021 hDD3020 => ?_
  refine VC.block ?_
  refine VC.nilRow' 9 1 ?_
  refine VC.loop4 (fun (s3086 : ByteArray) (i3087 : Int) (v3089 : Value) (l3090 : List ByteArray) => ⟨55, [(0, (.func (.yield l3021) #[] #[])), (1, .pointer (some ⟨g3019, 0, none⟩))], [.loop l3021 L3022 .ready none, .dfr D3020], [(g3019, 9, [.string s3086]), (g1104, 3, [.int .i64 i3087]), (g1103, 22, [v3089])], [(v3089, 9, 1, l3090.map enc_str)]⟩) (fun (ml1 : Nat) (s3086 : ByteArray) (i3087 : Int) (v3089 : Value) (l3090 : List ByteArray) => frame_Scan.l1 k a0 ml1 s3086 i3087 l3090 = some (r1, r2)) k a0 (a0.size : Int) (.slice none 0 0) ([] : List ByteArray) [0, 1, 2] [0] h ⟨rfl, ⟨rfl, rfl, trivial⟩, ⟨⟨0, rfl⟩, ⟨1, rfl⟩, trivial⟩, rfl, by decide, rfl, by decide⟩ (by intros; simp [frame_Scan.l1]) ?_
  clear h
  intro ml1 ihl1 s3086 i3087 v3089 l3090 h
  simp only [frame_Scan.l1] at h
  refine VC.block ?_
  refine VC.seq ?_
  refine VC.region ?_
  refine VL.va (op_load 0 1 rfl rfl TI9 rfl (by decide) (ltn rfl)) rfl ?_
  replace h := Option.bind_eq_some_iff.1 h
  obtain ⟨⟨t3153, t3154, t3155⟩, hA3156, h⟩ := h
  dsimp only at h
  refine VL.sC (o_call0 FO28 (pack_ReadNumber.ok k s3086 t3153 t3154 t3155 hA3156) rfl rfl (ltn rfl) (All_of .nil)) rfl ?_
  rintro _ _ _ ⟨rfl, rfl, rfl⟩
  refine VL.va (op_move rfl (ltn rfl)) rfl ?_
  refine VL.va (op_extract rfl rfl (ltn rfl)) rfl ?_
  refine VL.va (op_extract rfl rfl (ltn rfl)) rfl ?_
  refine VL.va (op_extract rfl rfl (ltn rfl)) rfl ?_
  refine VL.va (op_assign rfl (ltn rfl)) rfl ?_
  refine VL.va (op_assign rfl (ltn rfl)) rfl ?_
  refine VL.va (op_assign rfl (ltn rfl)) rfl ?_
  refine VL.done ?_
  refine VN.then ?_
  refine VC.seq ?_
  refine VC.seq ?_
  refine VC.region ?_
  refine VL.va (op_move rfl (ltn rfl)) rfl ?_
  refine VL.letter ((t3155 != 0)) fun b3179 hb3179 => ?_
  refine VL.va (op_cmp rfl rfl (congrArg some hb3179) (ltn rfl)) rfl ?_
  refine VL.va (op_move rfl (ltn rfl)) rfl ?_
  by_cases c3180 : t3155 = 0
  · rw [if_pos c3180] at h
    obtain rfl : b3179 = false := hb3179.symm.trans (bne_eq_false_iff_eq.2 c3180)
    refine VL.va (op_move rfl (ltn rfl)) rfl ?_
    refine VL.letter (decide (t3153 < 0)) fun b3181 hb3181 => ?_
    refine VL.va (op_cmp rfl rfl (congrArg some hb3181) (ltn rfl)) rfl ?_
    refine VL.va (op_pick rfl rfl (ltn rfl)) rfl ?_
    refine VL.va (op_move rfl (ltn rfl)) rfl ?_
    by_cases c3182 : t3153 < 0
    · rw [if_pos c3182] at h
      obtain rfl : b3181 = true := hb3181.symm.trans (decide_eq_true c3182)
      refine VL.un rfl rfl (ltn rfl) ?_
      refine VL.un rfl rfl (ltn rfl) ?_
      refine VL.va (op_pick rfl rfl (ltn rfl)) rfl ?_
      refine VL.va (op_move rfl (ltn rfl)) rfl ?_
      refine VL.un rfl rfl (ltn rfl) ?_
      refine VL.un rfl rfl (ltn rfl) ?_
      refine VL.un rfl rfl (ltn rfl) ?_
      refine VL.un rfl rfl (ltn rfl) ?_
      refine VL.un rfl rfl (ltn rfl) ?_
      refine VL.va (op_pick rfl rfl (ltn rfl)) rfl ?_
      refine VL.done ?_
      refine VN.then ?_
      refine VC.cond_t rfl ?_
      refine VC.ret ?_
      refine VR.then ?_
      refine VR.block ?_
      refine VR.then ?_
      refine VR.block ?_
      refine VR.endRF 0 rfl rfl rfl rfl ?_
      refine VN.block ?_
      refine VN.then ?_
      refine VC.join0 (⟨25, [(2, v3089), (3, .int .i64 (wrap64 ((a0.size : Int) - i3087)))], [.dfr D3020], [], [(v3089, 9, 1, l3090.map enc_str)]⟩) (True) ?_ ?_
      · refine VC.draw ⟨0, [], [], [(g1104, 3, [.int .i64 i3087]), (g1103, 22, [v3089])], [(v3089, 9, 1, l3090.map enc_str)]⟩ (by kernel_rfl) rfl (by kernel_rfl) (n := 7) (listed := LB 7 0) ?_
        refine VA.va (i := 0) (listed' := LB 7 1) rfl (op_load 1 1 rfl rfl TI22 rfl (by decide) (ltn rfl)) rfl (by kernel_rfl) (by kernel_rfl) (by kernel_rfl) (by kernel_rfl) ⟨trivial, ⟨⟨1, rfl⟩, ⟨2, rfl⟩, trivial⟩, ⟨⟨0, rfl⟩, trivial⟩⟩ (fun _ _ _ h => h) ?_
        refine VA.va (i := 1) (listed' := LB 7 3) rfl (op_move rfl (ltn rfl)) rfl (by kernel_rfl) (by kernel_rfl) (by kernel_rfl) (by kernel_rfl) ⟨trivial, ⟨⟨1, rfl⟩, ⟨2, rfl⟩, trivial⟩, ⟨⟨0, rfl⟩, trivial⟩⟩ (fun _ _ _ h => h) ?_
        refine VA.va (i := 2) (listed' := LB 7 7) rfl (op_lens Try.underlying9 rfl (ltn rfl)) rfl (by kernel_rfl) (by kernel_rfl) (by kernel_rfl) (by kernel_rfl) ⟨trivial, ⟨⟨1, rfl⟩, ⟨2, rfl⟩, trivial⟩, ⟨⟨0, rfl⟩, trivial⟩⟩ (fun _ _ _ h => h) ?_
        refine VA.va (i := 3) (listed' := LB 7 15) rfl (op_load 0 1 rfl rfl TI3 rfl (by decide) (ltn rfl)) rfl (by kernel_rfl) (by kernel_rfl) (by kernel_rfl) (by kernel_rfl) ⟨trivial, ⟨⟨1, rfl⟩, ⟨2, rfl⟩, trivial⟩, ⟨⟨0, rfl⟩, trivial⟩⟩ (fun _ _ _ h => h) ?_
        refine VA.va (i := 4) (listed' := LB 7 31) rfl (op_ari64 rfl rfl rfl (ltn rfl)) rfl (by kernel_rfl) (by kernel_rfl) (by kernel_rfl) (by kernel_rfl) ⟨trivial, ⟨⟨1, rfl⟩, ⟨2, rfl⟩, trivial⟩, ⟨⟨0, rfl⟩, trivial⟩⟩ (fun _ _ _ h => h) ?_
        refine VA.va (i := 5) (listed' := LB 7 63) rfl (op_assign rfl (ltn rfl)) rfl (by kernel_rfl) (by kernel_rfl) (by kernel_rfl) (by kernel_rfl) ⟨trivial, ⟨⟨1, rfl⟩, ⟨2, rfl⟩, trivial⟩, ⟨⟨0, rfl⟩, trivial⟩⟩ (fun _ _ _ h => h) ?_
        refine VA.va (i := 6) (listed' := LB 7 127) rfl (op_assign rfl (ltn rfl)) rfl (by kernel_rfl) (by kernel_rfl) (by kernel_rfl) (by kernel_rfl) ⟨trivial, ⟨⟨1, rfl⟩, ⟨2, rfl⟩, trivial⟩, ⟨⟨0, rfl⟩, trivial⟩⟩ (fun _ _ _ h => h) ?_
        refine VA.done (by kernel_rfl) ?_
        exact VN.meet0  [] [0] trivial ⟨rfl, ⟨rfl, rfl, trivial⟩, ⟨⟨0, rfl⟩, trivial⟩, rfl, by decide, rfl, by decide⟩
      intro _
      refine VC.ret ?_
      simp only [Option.some.injEq, Prod.mk.injEq] at h
      obtain ⟨rfl, rfl⟩ := h
      refine VR.mark 0 hDD3020 rfl rfl rfl ?_
      exact VR.fn (rs := [.tmp 2, .tmp 3]) [] [(v3089, 9, 1, l3090.map enc_str)] [0] rfl (.tmp rfl (.tmp rfl .nil)) ⟨v3089, rfl, rfl, rfl⟩ trivial rfl (by decide)
    · rw [if_neg c3182] at h
      obtain rfl : b3181 = false := hb3181.symm.trans (decide_eq_false c3182)
      refine VL.va (op_move rfl (ltn rfl)) rfl ?_
      refine VL.letter (decide (t3153 > 4096)) fun b3183 hb3183 => ?_
      refine VL.va (op_cmp rfl rfl (congrArg some hb3183) (ltn rfl)) rfl ?_
      refine VL.va (op_pick rfl rfl (ltn rfl)) rfl ?_
      refine VL.va (op_move rfl (ltn rfl)) rfl ?_
      by_cases c3184 : t3153 > 4096
      · rw [if_pos c3184] at h
        obtain rfl : b3183 = true := hb3183.symm.trans (decide_eq_true c3184)
        refine VL.un rfl rfl (ltn rfl) ?_
        refine VL.un rfl rfl (ltn rfl) ?_
        refine VL.un rfl rfl (ltn rfl) ?_
        refine VL.un rfl rfl (ltn rfl) ?_
        refine VL.un rfl rfl (ltn rfl) ?_
        refine VL.va (op_pick rfl rfl (ltn rfl)) rfl ?_
        refine VL.done ?_
        refine VN.then ?_
        refine VC.cond_t rfl ?_
        refine VC.ret ?_
        refine VR.then ?_
        refine VR.block ?_
        refine VR.then ?_
        refine VR.block ?_
        refine VR.endRF 0 rfl rfl rfl rfl ?_
        refine VN.block ?_
        refine VN.then ?_
        refine VC.join0 (⟨25, [(2, v3089), (3, .int .i64 (wrap64 ((a0.size : Int) - i3087)))], [.dfr D3020], [], [(v3089, 9, 1, l3090.map enc_str)]⟩) (True) ?_ ?_
        · refine VC.draw ⟨0, [], [], [(g1104, 3, [.int .i64 i3087]), (g1103, 22, [v3089])], [(v3089, 9, 1, l3090.map enc_str)]⟩ (by kernel_rfl) rfl (by kernel_rfl) (n := 7) (listed := LB 7 0) ?_
          refine VA.va (i := 0) (listed' := LB 7 1) rfl (op_load 1 1 rfl rfl TI22 rfl (by decide) (ltn rfl)) rfl (by kernel_rfl) (by kernel_rfl) (by kernel_rfl) (by kernel_rfl) ⟨trivial, ⟨⟨1, rfl⟩, ⟨2, rfl⟩, trivial⟩, ⟨⟨0, rfl⟩, trivial⟩⟩ (fun _ _ _ h => h) ?_
          refine VA.va (i := 1) (listed' := LB 7 3) rfl (op_move rfl (ltn rfl)) rfl (by kernel_rfl) (by kernel_rfl) (by kernel_rfl) (by kernel_rfl) ⟨trivial, ⟨⟨1, rfl⟩, ⟨2, rfl⟩, trivial⟩, ⟨⟨0, rfl⟩, trivial⟩⟩ (fun _ _ _ h => h) ?_
          refine VA.va (i := 2) (listed' := LB 7 7) rfl (op_lens Try.underlying9 rfl (ltn rfl)) rfl (by kernel_rfl) (by kernel_rfl) (by kernel_rfl) (by kernel_rfl) ⟨trivial, ⟨⟨1, rfl⟩, ⟨2, rfl⟩, trivial⟩, ⟨⟨0, rfl⟩, trivial⟩⟩ (fun _ _ _ h => h) ?_
          refine VA.va (i := 3) (listed' := LB 7 15) rfl (op_load 0 1 rfl rfl TI3 rfl (by decide) (ltn rfl)) rfl (by kernel_rfl) (by kernel_rfl) (by kernel_rfl) (by kernel_rfl) ⟨trivial, ⟨⟨1, rfl⟩, ⟨2, rfl⟩, trivial⟩, ⟨⟨0, rfl⟩, trivial⟩⟩ (fun _ _ _ h => h) ?_
          refine VA.va (i := 4) (listed' := LB 7 31) rfl (op_ari64 rfl rfl rfl (ltn rfl)) rfl (by kernel_rfl) (by kernel_rfl) (by kernel_rfl) (by kernel_rfl) ⟨trivial, ⟨⟨1, rfl⟩, ⟨2, rfl⟩, trivial⟩, ⟨⟨0, rfl⟩, trivial⟩⟩ (fun _ _ _ h => h) ?_
          refine VA.va (i := 5) (listed' := LB 7 63) rfl (op_assign rfl (ltn rfl)) rfl (by kernel_rfl) (by kernel_rfl) (by kernel_rfl) (by kernel_rfl) ⟨trivial, ⟨⟨1, rfl⟩, ⟨2, rfl⟩, trivial⟩, ⟨⟨0, rfl⟩, trivial⟩⟩ (fun _ _ _ h => h) ?_
          refine VA.va (i := 6) (listed' := LB 7 127) rfl (op_assign rfl (ltn rfl)) rfl (by kernel_rfl) (by kernel_rfl) (by kernel_rfl) (by kernel_rfl) ⟨trivial, ⟨⟨1, rfl⟩, ⟨2, rfl⟩, trivial⟩, ⟨⟨0, rfl⟩, trivial⟩⟩ (fun _ _ _ h => h) ?_
          refine VA.done (by kernel_rfl) ?_
          exact VN.meet0  [] [0] trivial ⟨rfl, ⟨rfl, rfl, trivial⟩, ⟨⟨0, rfl⟩, trivial⟩, rfl, by decide, rfl, by decide⟩
        intro _
        refine VC.ret ?_
        simp only [Option.some.injEq, Prod.mk.injEq] at h
        obtain ⟨rfl, rfl⟩ := h
        refine VR.mark 0 hDD3020 rfl rfl rfl ?_
        exact VR.fn (rs := [.tmp 2, .tmp 3]) [] [(v3089, 9, 1, l3090.map enc_str)] [0] rfl (.tmp rfl (.tmp rfl .nil)) ⟨v3089, rfl, rfl, rfl⟩ trivial rfl (by decide)
      · rw [if_neg c3184] at h
        obtain rfl : b3183 = false := hb3183.symm.trans (decide_eq_false c3184)
        refine VL.va (op_move rfl (ltn rfl)) rfl ?_
        refine VL.va (op_ari64 rfl rfl rfl (ltn rfl)) rfl ?_
        refine VL.va (op_move rfl (ltn rfl)) rfl ?_
        refine VL.va (op_lens Try.underlying9 rfl (ltn rfl)) rfl ?_
        refine VL.letter (decide ((wrap64 (t3153 + 4)) > (t3154.size : Int))) fun b3185 hb3185 => ?_
        refine VL.va (op_cmp rfl rfl (congrArg some hb3185) (ltn rfl)) rfl ?_
        refine VL.va (op_pick rfl rfl (ltn rfl)) rfl ?_
        refine VL.done ?_
        refine VN.then ?_
        by_cases c3186 : (wrap64 (t3153 + 4)) > (t3154.size : Int)
        · rw [if_pos c3186] at h
          obtain rfl : b3185 = true := hb3185.symm.trans (decide_eq_true c3186)
          refine VC.cond_t rfl ?_
          refine VC.ret ?_
          refine VR.then ?_
          refine VR.block ?_
          refine VR.then ?_
          refine VR.block ?_
          refine VR.endRF 0 rfl rfl rfl rfl ?_
          refine VN.block ?_
          refine VN.then ?_
          refine VC.join0 (⟨25, [(2, v3089), (3, .int .i64 (wrap64 ((a0.size : Int) - i3087)))], [.dfr D3020], [], [(v3089, 9, 1, l3090.map enc_str)]⟩) (True) ?_ ?_
          · refine VC.draw ⟨0, [], [], [(g1104, 3, [.int .i64 i3087]), (g1103, 22, [v3089])], [(v3089, 9, 1, l3090.map enc_str)]⟩ (by kernel_rfl) rfl (by kernel_rfl) (n := 7) (listed := LB 7 0) ?_
            refine VA.va (i := 0) (listed' := LB 7 1) rfl (op_load 1 1 rfl rfl TI22 rfl (by decide) (ltn rfl)) rfl (by kernel_rfl) (by kernel_rfl) (by kernel_rfl) (by kernel_rfl) ⟨trivial, ⟨⟨1, rfl⟩, ⟨2, rfl⟩, trivial⟩, ⟨⟨0, rfl⟩, trivial⟩⟩ (fun _ _ _ h => h) ?_
            refine VA.va (i := 1) (listed' := LB 7 3) rfl (op_move rfl (ltn rfl)) rfl (by kernel_rfl) (by kernel_rfl) (by kernel_rfl) (by kernel_rfl) ⟨trivial, ⟨⟨1, rfl⟩, ⟨2, rfl⟩, trivial⟩, ⟨⟨0, rfl⟩, trivial⟩⟩ (fun _ _ _ h => h) ?_
            refine VA.va (i := 2) (listed' := LB 7 7) rfl (op_lens Try.underlying9 rfl (ltn rfl)) rfl (by kernel_rfl) (by kernel_rfl) (by kernel_rfl) (by kernel_rfl) ⟨trivial, ⟨⟨1, rfl⟩, ⟨2, rfl⟩, trivial⟩, ⟨⟨0, rfl⟩, trivial⟩⟩ (fun _ _ _ h => h) ?_
            refine VA.va (i := 3) (listed' := LB 7 15) rfl (op_load 0 1 rfl rfl TI3 rfl (by decide) (ltn rfl)) rfl (by kernel_rfl) (by kernel_rfl) (by kernel_rfl) (by kernel_rfl) ⟨trivial, ⟨⟨1, rfl⟩, ⟨2, rfl⟩, trivial⟩, ⟨⟨0, rfl⟩, trivial⟩⟩ (fun _ _ _ h => h) ?_
            refine VA.va (i := 4) (listed' := LB 7 31) rfl (op_ari64 rfl rfl rfl (ltn rfl)) rfl (by kernel_rfl) (by kernel_rfl) (by kernel_rfl) (by kernel_rfl) ⟨trivial, ⟨⟨1, rfl⟩, ⟨2, rfl⟩, trivial⟩, ⟨⟨0, rfl⟩, trivial⟩⟩ (fun _ _ _ h => h) ?_
            refine VA.va (i := 5) (listed' := LB 7 63) rfl (op_assign rfl (ltn rfl)) rfl (by kernel_rfl) (by kernel_rfl) (by kernel_rfl) (by kernel_rfl) ⟨trivial, ⟨⟨1, rfl⟩, ⟨2, rfl⟩, trivial⟩, ⟨⟨0, rfl⟩, trivial⟩⟩ (fun _ _ _ h => h) ?_
            refine VA.va (i := 6) (listed' := LB 7 127) rfl (op_assign rfl (ltn rfl)) rfl (by kernel_rfl) (by kernel_rfl) (by kernel_rfl) (by kernel_rfl) ⟨trivial, ⟨⟨1, rfl⟩, ⟨2, rfl⟩, trivial⟩, ⟨⟨0, rfl⟩, trivial⟩⟩ (fun _ _ _ h => h) ?_
            refine VA.done (by kernel_rfl) ?_
            exact VN.meet0  [] [0] trivial ⟨rfl, ⟨rfl, rfl, trivial⟩, ⟨⟨0, rfl⟩, trivial⟩, rfl, by decide, rfl, by decide⟩
          intro _
          refine VC.ret ?_
          simp only [Option.some.injEq, Prod.mk.injEq] at h
          obtain ⟨rfl, rfl⟩ := h
          refine VR.mark 0 hDD3020 rfl rfl rfl ?_
          exact VR.fn (rs := [.tmp 2, .tmp 3]) [] [(v3089, 9, 1, l3090.map enc_str)] [0] rfl (.tmp rfl (.tmp rfl .nil)) ⟨v3089, rfl, rfl, rfl⟩ trivial rfl (by decide)
        · rw [if_neg c3186] at h
          obtain rfl : b3185 = false := hb3185.symm.trans (decide_eq_false c3186)
          refine VC.cond_f rfl ?_
          refine VC.skip ?_
          refine VN.then ?_
          by_cases c3187 : 0 ≤ t3153
          · rw [if_pos c3187] at h
            by_cases c3188 : t3153 ≤ (t3154.size : Int)
            · rw [if_pos c3188] at h
              by_cases c3189 : 0 ≤ wrap64 (t3153 + 4)
              · rw [if_pos c3189] at h
                by_cases c3190 : (wrap64 (t3153 + 4)) ≤ (t3154.size : Int)
                · rw [if_pos c3190] at h
                  by_cases c3191 : t3153 ≤ (wrap64 (t3153 + 4))
                  · rw [if_pos c3191] at h
                    refine VC.join0 (⟨55, [(0, (.func (.yield l3021) #[] #[])), (1, .pointer (some ⟨g3019, 0, none⟩)), (3, .int .i64 t3153), (4, .string t3154), (5, .int .i64 t3155), (6, .string (t3154.extract 0 t3153.toNat)), (7, .string (t3154.extract t3153.toNat ((wrap64 (t3153 + 4)).toNat))), (8, .tuple #[.int .i64 t3153, .string t3154, .int .i64 t3155]), (9, .string s3086), (10, .tuple #[.int .i64 t3153, .string t3154, .int .i64 t3155]), (11, .int .i64 t3153), (12, .string t3154), (13, .int .i64 t3155), (14, .int .i64 t3155), (15, .bool false), (16, .bool false), (17, .int .i64 t3153), (18, .bool false), (19, .bool false), (20, .bool false), (21, .int .i64 t3153), (22, .bool false), (23, .bool false), (24, .bool false), (25, .int .i64 t3153), (26, .int .i64 (wrap64 (t3153 + 4))), (27, .string t3154), (28, .int .i64 (t3154.size : Int)), (29, .bool false), (30, .bool false), (31, .string t3154), (32, .int .i64 t3153), (33, .string (t3154.extract 0 t3153.toNat)), (34, .string t3154), (35, .int .i64 t3153), (36, .int .i64 t3153), (37, .int .i64 (wrap64 (t3153 + 4))), (38, .string (t3154.extract t3153.toNat ((wrap64 (t3153 + 4)).toNat)))], [.loop l3021 L3022 .ready none, .dfr D3020], [(g3019, 9, [.string s3086]), (g1104, 3, [.int .i64 i3087]), (g1103, 22, [v3089])], [(v3089, 9, 1, l3090.map enc_str)]⟩) (True) ?_ ?_
                    · refine VC.draw ⟨0, [], [], [], []⟩ (by kernel_rfl) rfl (by kernel_rfl) (n := 10) (listed := LB 10 0) ?_
                      refine VA.va (i := 0) (listed' := LB 10 1) rfl (op_move rfl (ltn rfl)) rfl (by kernel_rfl) (by kernel_rfl) (by kernel_rfl) (by kernel_rfl) ⟨trivial, trivial, trivial⟩ (fun _ _ _ h => h) ?_
                      refine VA.va (i := 1) (listed' := LB 10 3) rfl (op_move rfl (ltn rfl)) rfl (by kernel_rfl) (by kernel_rfl) (by kernel_rfl) (by kernel_rfl) ⟨trivial, trivial, trivial⟩ (fun _ _ _ h => h) ?_
                      refine VA.va (i := 2) (listed' := LB 10 7) rfl (op_sliceS 0 t3153.toNat Try.underlying9 rfl ⟨rfl, ⟨_, _, rfl, c3187, rfl⟩, by omega, by omega⟩ rfl (ltn rfl)) rfl (by kernel_rfl) (by kernel_rfl) (by kernel_rfl) (by kernel_rfl) ⟨trivial, trivial, trivial⟩ (fun _ _ _ h => h) ?_
                      refine VA.va (i := 3) (listed' := LB 10 15) rfl (op_move rfl (ltn rfl)) rfl (by kernel_rfl) (by kernel_rfl) (by kernel_rfl) (by kernel_rfl) ⟨trivial, trivial, trivial⟩ (fun _ _ _ h => h) ?_
                      refine VA.va (i := 4) (listed' := LB 10 31) rfl (op_move rfl (ltn rfl)) rfl (by kernel_rfl) (by kernel_rfl) (by kernel_rfl) (by kernel_rfl) ⟨trivial, trivial, trivial⟩ (fun _ _ _ h => h) ?_
                      refine VA.va (i := 5) (listed' := LB 10 63) rfl (op_move rfl (ltn rfl)) rfl (by kernel_rfl) (by kernel_rfl) (by kernel_rfl) (by kernel_rfl) ⟨trivial, trivial, trivial⟩ (fun _ _ _ h => h) ?_
                      refine VA.va (i := 6) (listed' := LB 10 127) rfl (op_ari64 rfl rfl rfl (ltn rfl)) rfl (by kernel_rfl) (by kernel_rfl) (by kernel_rfl) (by kernel_rfl) ⟨trivial, trivial, trivial⟩ (fun _ _ _ h => h) ?_
                      refine VA.va (i := 7) (listed' := LB 10 255) rfl (op_sliceS t3153.toNat ((wrap64 (t3153 + 4)).toNat) Try.underlying9 rfl ⟨⟨_, _, rfl, c3187, rfl⟩, ⟨_, _, rfl, c3189, rfl⟩, by omega, by omega⟩ rfl (ltn rfl)) rfl (by kernel_rfl) (by kernel_rfl) (by kernel_rfl) (by kernel_rfl) ⟨trivial, trivial, trivial⟩ (fun _ _ _ h => h) ?_
                      refine VA.va (i := 8) (listed' := LB 10 511) rfl (op_assign rfl (ltn rfl)) rfl (by kernel_rfl) (by kernel_rfl) (by kernel_rfl) (by kernel_rfl) ⟨trivial, trivial, trivial⟩ (fun _ _ _ h => h) ?_
                      refine VA.va (i := 9) (listed' := LB 10 1023) rfl (op_assign rfl (ltn rfl)) rfl (by kernel_rfl) (by kernel_rfl) (by kernel_rfl) (by kernel_rfl) ⟨trivial, trivial, trivial⟩ (fun _ _ _ h => h) ?_
                      refine VA.done (by kernel_rfl) ?_
                      exact VN.meet0  [0, 1, 2] [0] trivial ⟨rfl, ⟨rfl, rfl, rfl, rfl, rfl, rfl, rfl, rfl, rfl, rfl, rfl, rfl, rfl, rfl, rfl, rfl, rfl, rfl, rfl, rfl, rfl, rfl, rfl, rfl, rfl, rfl, rfl, rfl, rfl, rfl, rfl, rfl, rfl, rfl, rfl, rfl, rfl, rfl, trivial⟩, ⟨⟨0, rfl⟩, ⟨1, rfl⟩, trivial⟩, rfl, by decide, rfl, by decide⟩
                    intro _
                    refine VC.seq ?_
                    refine VC.region ?_
                    refine VL.va (op_move rfl (ltn rfl)) rfl ?_
                    refine VL.va (op_move rfl (ltn rfl)) rfl ?_
                    refine VL.va (op_ari64 rfl rfl rfl (ltn rfl)) rfl ?_
                    refine VL.va (op_sliceS ((wrap64 (t3153 + 4)).toNat) t3154.size Try.underlying9 rfl ⟨⟨_, _, rfl, c3189, rfl⟩, rfl, by omega, by omega⟩ rfl (ltn rfl)) rfl ?_
                    refine VL.step1 (o_store 0 1 rfl rfl rfl TI9 (.c rfl) rfl (len rfl)) rfl ?_
                    refine VL.done ?_
                    refine VN.then ?_
                    refine VC.seq ?_
                    refine VC.region ?_
                    refine VL.va (op_move rfl (ltn rfl)) rfl ?_
                    refine VL.va (op_move rfl (ltn rfl)) rfl ?_
                    replace h := Option.bind_eq_some_iff.1 h
                    obtain ⟨t3203, hA3204, h⟩ := h
                    refine VL.sC (o_call0 FO18 (check_Of.ok k (t3154.extract 0 t3153.toNat) t3203 hA3204) rfl rfl (ltn rfl) (All_of .nil)) rfl ?_
                    rintro _ _ _ ⟨rfl, rfl, rfl⟩
                    replace h := Option.bind_eq_some_iff.1 h
                    obtain ⟨t3205, hA3206, h⟩ := h
                    refine VL.sC (o_call0 FO17 (check_Bytes.ok k t3203 t3205 hA3206) rfl rfl (ltn rfl) (All_of .nil)) rfl ?_
                    rintro _ _ _ ⟨rfl, rfl, rfl⟩
                    refine VL.letter (((t3154.extract t3153.toNat ((wrap64 (t3153 + 4)).toNat)) != t3205)) fun b3207 hb3207 => ?_
                    refine VL.va (op_cmps rfl rfl (congrArg some hb3207) (ltn rfl)) rfl ?_
                    refine VL.va (op_move rfl (ltn rfl)) rfl ?_
                    by_cases c3208 : ((t3154.extract t3153.toNat ((wrap64 (t3153 + 4)).toNat)) == t3205) = true
                    · rw [if_pos c3208] at h
                      obtain rfl : b3207 = false := hb3207.symm.trans (bne_of_t c3208)
                      refine VL.va (op_move rfl (ltn rfl)) rfl ?_
                      refine VL.va (op_move rfl (ltn rfl)) rfl ?_
                      refine VL.va (op_load 0 1 rfl rfl TI9 rfl (by decide) (ltn rfl)) rfl ?_
                      refine VL.yield (vals := [.string (t3154.extract 0 t3153.toNat), .string (t3154.extract ((wrap64 (t3153 + 4)).toNat) t3154.size)]) hLl3021 rfl rfl rfl rfl (ltn rfl) 0 rfl rfl ?_
                      refine VC.seq ?_
                      refine VC.region ?_
                      refine VL.va (op_assign rfl (ltn rfl)) rfl ?_
                      refine VL.done ?_
                      refine VN.then ?_
                      refine VC.region ?_
                      refine VL.va (op_assign rfl (ltn rfl)) rfl ?_
                      refine VL.done ?_
                      refine VN.begin 0 hLl3021.base rfl rfl rfl ?_
                      refine VC.block ?_
                      refine VC.region ?_
                      refine VL.va (op_load 2 1 rfl rfl TI22 rfl (by decide) (ltn rfl)) rfl ?_
                      refine VL.va (op_move rfl (ltn rfl)) rfl ?_
                      refine VL.sG (o_buildSlice (vals := [(0, .string (t3154.extract 0 t3153.toNat))]) (cells := #[.string (t3154.extract 0 t3153.toNat)]) (es := List.map enc_str ([t3154.extract 0 t3153.toNat] : List ByteArray)) Try.underlying22 TI9 Z9 rfl (by decide) (by decide) (by kernel_rfl) (by kernel_rfl) rfl (flat_map enc_str_ok _) (ltn rfl)) rfl ?_
                      intro v3210
                      by_cases c3211 : (l3090.length + ([t3154.extract 0 t3153.toNat] : List ByteArray).length) * 16 ≤ 140737488355328
                      · rw [if_pos c3211] at h
                        refine VL.sG (o_append 1 appm Try.underlying22 EI9 rfl rfl rfl (.inr ⟨0, _, rfl⟩) (bndm c3211) (ltn rfl)) rfl ?_
                        intro v3212
                        refine VL.va (op_move rfl (ltn rfl)) rfl ?_
                        refine VL.va (op_lens Try.underlying9 rfl (ltn rfl)) rfl ?_
                        refine VL.step1 (o_store 2 1 rfl rfl rfl TI22 (.r 1 rfl) rfl (len rfl)) rfl ?_
                        refine VL.step1 (o_store 1 1 rfl rfl rfl TI3 (.c rfl) rfl (len rfl)) rfl ?_
                        refine VL.done ?_
                        refine VN.block ?_
                        refine VN.endRound 0 hLl3021.base rfl rfl rfl ?_
                        refine VL.va (op_not rfl rfl (ltn rfl)) rfl ?_
                        refine VL.va (op_pick rfl rfl (ltn rfl)) rfl ?_
                        refine VL.done ?_
                        refine VN.then ?_
                        refine VC.cond_f rfl ?_
                        refine VC.skip ?_
                        refine VN.block ?_
                        refine VN.again [0, 1, 2] [1] (ihl1 (t3154.extract ((wrap64 (t3153 + 4)).toNat) t3154.size) ((t3154.extract ((wrap64 (t3153 + 4)).toNat) t3154.size).size : Int) v3212 (l3090 ++ ([t3154.extract 0 t3153.toNat] : List ByteArray)) h) ⟨rfl, ⟨rfl, rfl, trivial⟩, ⟨⟨0, rfl⟩, ⟨1, rfl⟩, trivial⟩, rfl, by decide, rfl, by decide⟩
                      · rw [if_neg c3211] at h; cases h
                    · rw [if_neg c3208] at h
                      obtain rfl : b3207 = true := hb3207.symm.trans (bne_of_f c3208)
                      refine VL.un rfl rfl (ltn rfl) ?_
                      refine VL.un rfl rfl (ltn rfl) ?_
                      refine VL.un rfl rfl (ltn rfl) ?_
                      refine VL.un rfl rfl (ltn rfl) ?_
                      refine VL.un rfl rfl (ltn rfl) ?_
                      refine VL.va (op_pick rfl rfl (ltn rfl)) rfl ?_
                      refine VL.done ?_
                      refine VN.then ?_
                      refine VC.cond_t rfl ?_
                      refine VC.ret ?_
                      refine VR.block ?_
                      refine VR.then ?_
                      refine VR.block ?_
                      refine VR.endRF 0 rfl rfl rfl rfl ?_
                      refine VN.block ?_
                      refine VN.then ?_
                      refine VC.join0 (⟨25, [(2, v3089), (3, .int .i64 (wrap64 ((a0.size : Int) - i3087)))], [.dfr D3020], [], [(v3089, 9, 1, l3090.map enc_str)]⟩) (True) ?_ ?_
                      · refine VC.draw ⟨0, [], [], [(g1104, 3, [.int .i64 i3087]), (g1103, 22, [v3089])], [(v3089, 9, 1, l3090.map enc_str)]⟩ (by kernel_rfl) rfl (by kernel_rfl) (n := 7) (listed := LB 7 0) ?_
                        refine VA.va (i := 0) (listed' := LB 7 1) rfl (op_load 1 1 rfl rfl TI22 rfl (by decide) (ltn rfl)) rfl (by kernel_rfl) (by kernel_rfl) (by kernel_rfl) (by kernel_rfl) ⟨trivial, ⟨⟨1, rfl⟩, ⟨2, rfl⟩, trivial⟩, ⟨⟨0, rfl⟩, trivial⟩⟩ (fun _ _ _ h => h) ?_
                        refine VA.va (i := 1) (listed' := LB 7 3) rfl (op_move rfl (ltn rfl)) rfl (by kernel_rfl) (by kernel_rfl) (by kernel_rfl) (by kernel_rfl) ⟨trivial, ⟨⟨1, rfl⟩, ⟨2, rfl⟩, trivial⟩, ⟨⟨0, rfl⟩, trivial⟩⟩ (fun _ _ _ h => h) ?_
                        refine VA.va (i := 2) (listed' := LB 7 7) rfl (op_lens Try.underlying9 rfl (ltn rfl)) rfl (by kernel_rfl) (by kernel_rfl) (by kernel_rfl) (by kernel_rfl) ⟨trivial, ⟨⟨1, rfl⟩, ⟨2, rfl⟩, trivial⟩, ⟨⟨0, rfl⟩, trivial⟩⟩ (fun _ _ _ h => h) ?_
                        refine VA.va (i := 3) (listed' := LB 7 15) rfl (op_load 0 1 rfl rfl TI3 rfl (by decide) (ltn rfl)) rfl (by kernel_rfl) (by kernel_rfl) (by kernel_rfl) (by kernel_rfl) ⟨trivial, ⟨⟨1, rfl⟩, ⟨2, rfl⟩, trivial⟩, ⟨⟨0, rfl⟩, trivial⟩⟩ (fun _ _ _ h => h) ?_
                        refine VA.va (i := 4) (listed' := LB 7 31) rfl (op_ari64 rfl rfl rfl (ltn rfl)) rfl (by kernel_rfl) (by kernel_rfl) (by kernel_rfl) (by kernel_rfl) ⟨trivial, ⟨⟨1, rfl⟩, ⟨2, rfl⟩, trivial⟩, ⟨⟨0, rfl⟩, trivial⟩⟩ (fun _ _ _ h => h) ?_
                        refine VA.va (i := 5) (listed' := LB 7 63) rfl (op_assign rfl (ltn rfl)) rfl (by kernel_rfl) (by kernel_rfl) (by kernel_rfl) (by kernel_rfl) ⟨trivial, ⟨⟨1, rfl⟩, ⟨2, rfl⟩, trivial⟩, ⟨⟨0, rfl⟩, trivial⟩⟩ (fun _ _ _ h => h) ?_
                        refine VA.va (i := 6) (listed' := LB 7 127) rfl (op_assign rfl (ltn rfl)) rfl (by kernel_rfl) (by kernel_rfl) (by kernel_rfl) (by kernel_rfl) ⟨trivial, ⟨⟨1, rfl⟩, ⟨2, rfl⟩, trivial⟩, ⟨⟨0, rfl⟩, trivial⟩⟩ (fun _ _ _ h => h) ?_
                        refine VA.done (by kernel_rfl) ?_
                        exact VN.meet0  [] [0] trivial ⟨rfl, ⟨rfl, rfl, trivial⟩, ⟨⟨0, rfl⟩, trivial⟩, rfl, by decide, rfl, by decide⟩
                      intro _
                      refine VC.ret ?_
                      simp only [Option.some.injEq, Prod.mk.injEq] at h
                      obtain ⟨rfl, rfl⟩ := h
                      refine VR.mark 0 hDD3020 rfl rfl rfl ?_
                      exact VR.fn (rs := [.tmp 2, .tmp 3]) [] [(v3089, 9, 1, l3090.map enc_str)] [0] rfl (.tmp rfl (.tmp rfl .nil)) ⟨v3089, rfl, rfl, rfl⟩ trivial rfl (by decide)
                  · rw [if_neg c3191] at h; cases h
                · rw [if_neg c3190] at h; cases h
              · rw [if_neg c3189] at h; cases h
            · rw [if_neg c3188] at h; cases h
          · rw [if_neg c3187] at h; cases h
  · rw [if_neg c3180] at h
    obtain rfl : b3179 = true := hb3179.symm.trans (bne_iff_ne.2 c3180)
    refine VL.un rfl rfl (ltn rfl) ?_
    refine VL.un rfl rfl (ltn rfl) ?_
    refine VL.va (op_pick rfl rfl (ltn rfl)) rfl ?_
    refine VL.va (op_move rfl (ltn rfl)) rfl ?_
    refine VL.un rfl rfl (ltn rfl) ?_
    refine VL.un rfl rfl (ltn rfl) ?_
    refine VL.va (op_pick rfl rfl (ltn rfl)) rfl ?_
    refine VL.va (op_move rfl (ltn rfl)) rfl ?_
    refine VL.un rfl rfl (ltn rfl) ?_
    refine VL.un rfl rfl (ltn rfl) ?_
    refine VL.un rfl rfl (ltn rfl) ?_
    refine VL.un rfl rfl (ltn rfl) ?_
    refine VL.un rfl rfl (ltn rfl) ?_
    refine VL.va (op_pick rfl rfl (ltn rfl)) rfl ?_
    refine VL.done ?_
    refine VN.then ?_
    refine VC.cond_t rfl ?_
    refine VC.ret ?_
    refine VR.then ?_
    refine VR.block ?_
    refine VR.then ?_
    refine VR.block ?_
    refine VR.endRF 0 rfl rfl rfl rfl ?_
    refine VN.block ?_
    refine VN.then ?_
    refine VC.join0 (⟨25, [(2, v3089), (3, .int .i64 (wrap64 ((a0.size : Int) - i3087)))], [.dfr D3020], [], [(v3089, 9, 1, l3090.map enc_str)]⟩) (True) ?_ ?_
    · refine VC.draw ⟨0, [], [], [(g1104, 3, [.int .i64 i3087]), (g1103, 22, [v3089])], [(v3089, 9, 1, l3090.map enc_str)]⟩ (by kernel_rfl) rfl (by kernel_rfl) (n := 7) (listed := LB 7 0) ?_
      refine VA.va (i := 0) (listed' := LB 7 1) rfl (op_load 1 1 rfl rfl TI22 rfl (by decide) (ltn rfl)) rfl (by kernel_rfl) (by kernel_rfl) (by kernel_rfl) (by kernel_rfl) ⟨trivial, ⟨⟨1, rfl⟩, ⟨2, rfl⟩, trivial⟩, ⟨⟨0, rfl⟩, trivial⟩⟩ (fun _ _ _ h => h) ?_
      refine VA.va (i := 1) (listed' := LB 7 3) rfl (op_move rfl (ltn rfl)) rfl (by kernel_rfl) (by kernel_rfl) (by kernel_rfl) (by kernel_rfl) ⟨trivial, ⟨⟨1, rfl⟩, ⟨2, rfl⟩, trivial⟩, ⟨⟨0, rfl⟩, trivial⟩⟩ (fun _ _ _ h => h) ?_
      refine VA.va (i := 2) (listed' := LB 7 7) rfl (op_lens Try.underlying9 rfl (ltn rfl)) rfl (by kernel_rfl) (by kernel_rfl) (by kernel_rfl) (by kernel_rfl) ⟨trivial, ⟨⟨1, rfl⟩, ⟨2, rfl⟩, trivial⟩, ⟨⟨0, rfl⟩, trivial⟩⟩ (fun _ _ _ h => h) ?_
      refine VA.va (i := 3) (listed' := LB 7 15) rfl (op_load 0 1 rfl rfl TI3 rfl (by decide) (ltn rfl)) rfl (by kernel_rfl) (by kernel_rfl) (by kernel_rfl) (by kernel_rfl) ⟨trivial, ⟨⟨1, rfl⟩, ⟨2, rfl⟩, trivial⟩, ⟨⟨0, rfl⟩, trivial⟩⟩ (fun _ _ _ h => h) ?_
      refine VA.va (i := 4) (listed' := LB 7 31) rfl (op_ari64 rfl rfl rfl (ltn rfl)) rfl (by kernel_rfl) (by kernel_rfl) (by kernel_rfl) (by kernel_rfl) ⟨trivial, ⟨⟨1, rfl⟩, ⟨2, rfl⟩, trivial⟩, ⟨⟨0, rfl⟩, trivial⟩⟩ (fun _ _ _ h => h) ?_
      refine VA.va (i := 5) (listed' := LB 7 63) rfl (op_assign rfl (ltn rfl)) rfl (by kernel_rfl) (by kernel_rfl) (by kernel_rfl) (by kernel_rfl) ⟨trivial, ⟨⟨1, rfl⟩, ⟨2, rfl⟩, trivial⟩, ⟨⟨0, rfl⟩, trivial⟩⟩ (fun _ _ _ h => h) ?_
      refine VA.va (i := 6) (listed' := LB 7 127) rfl (op_assign rfl (ltn rfl)) rfl (by kernel_rfl) (by kernel_rfl) (by kernel_rfl) (by kernel_rfl) ⟨trivial, ⟨⟨1, rfl⟩, ⟨2, rfl⟩, trivial⟩, ⟨⟨0, rfl⟩, trivial⟩⟩ (fun _ _ _ h => h) ?_
      refine VA.done (by kernel_rfl) ?_
      exact VN.meet0  [] [0] trivial ⟨rfl, ⟨rfl, rfl, trivial⟩, ⟨⟨0, rfl⟩, trivial⟩, rfl, by decide, rfl, by decide⟩
    intro _
    refine VC.ret ?_
    simp only [Option.some.injEq, Prod.mk.injEq] at h
    obtain ⟨rfl, rfl⟩ := h
    refine VR.mark 0 hDD3020 rfl rfl rfl ?_
    exact VR.fn (rs := [.tmp 2, .tmp 3]) [] [(v3089, 9, 1, l3090.map enc_str)] [0] rfl (.tmp rfl (.tmp rfl .nil)) ⟨v3089, rfl, rfl, rfl⟩ trivial rfl (by decide)
set_option maxHeartbeats 4000000 in
set_option maxRecDepth 100000 in
theorem frame_All.ok (k : Nat) (a0 : ByteArray)  (r1 : List ByteArray) (r2 : Int) (h : frame_All.f k a0 = some (r1, r2)) :
    VCalls Try.prog 11 [.string a0] [] (fun v G own => ∃ w0 : Value, v = .tuple #[w0, .int .i64 r2] ∧ G = [] ∧ own = [(w0, 9, 1, r1.map enc_str)]) := by
  refine VCalls.intro Try.func11 rfl (len rfl) fun E hC hW hD => ?_
  unfold frame_All.f at h
  refine VC.seq ?_
  refine VC.region ?_
  refine VL.va (op_assign rfl (ltn rfl)) rfl ?_
  refine VL.va (op_assign rfl (ltn rfl)) rfl ?_
  refine VL.done ?_
  refine VN.then ?_
  refine VC.seq ?_
  refine VC.region ?_
  refine VL.va (op_move rfl (ltn rfl)) rfl ?_
  replace h := Option.bind_eq_some_iff.1 h
  obtain ⟨⟨r3214, t3215⟩, hA3216, h⟩ := h
  dsimp only at h
  refine VL.sC (o_call0 FO9 (frame_Scan.ok k a0 r3214 t3215 hA3216) rfl rfl (ltn rfl) (All_of .nil)) rfl ?_
  rintro _ _ _ ⟨v3218, rfl, rfl, rfl⟩
  refine VL.va (op_move rfl (ltn rfl)) rfl ?_
  refine VL.va (op_extract rfl rfl (ltn rfl)) rfl ?_
  refine VL.va (op_extract rfl rfl (ltn rfl)) rfl ?_
  refine VL.va (op_assign rfl (ltn rfl)) rfl ?_
  refine VL.va (op_assign rfl (ltn rfl)) rfl ?_
  refine VL.done ?_
  refine VN.then ?_
  refine VC.seq ?_
  refine VC.seq ?_
  refine VC.region ?_
  refine VL.va (op_move rfl (ltn rfl)) rfl ?_
  refine VL.va (op_move rfl (ltn rfl)) rfl ?_
  refine VL.va (op_lens Try.underlying9 rfl (ltn rfl)) rfl ?_
  refine VL.letter (decide (t3215 < (a0.size : Int))) fun b3222 hb3222 => ?_
  refine VL.va (op_cmp rfl rfl (congrArg some hb3222) (ltn rfl)) rfl ?_
  refine VL.done ?_
  refine VN.then ?_
  by_cases c3223 : t3215 < (a0.size : Int)
  · rw [if_pos c3223] at h
    obtain rfl : b3222 = true := hb3222.symm.trans (decide_eq_true c3223)
    refine VC.cond_t rfl ?_
    refine VC.seq ?_
    refine VC.region ?_
    refine VL.va (op_assign rfl (ltn rfl)) rfl ?_
    refine VL.va (op_assign rfl (ltn rfl)) rfl ?_
    refine VL.done ?_
    refine VN.then ?_
    refine VC.ret ?_
    refine VR.then ?_
    simp only [Option.some.injEq, Prod.mk.injEq] at h
    obtain ⟨rfl, rfl⟩ := h
    refine VR.nilRow' 9 1 ?_
    exact VR.fn (rs := [.tmp 2, .tmp 3]) [] [((.slice none 0 0), 9, 1, ([] : List ByteArray).map enc_str)] [0] rfl (.tmp rfl (.tmp rfl .nil)) ⟨(.slice none 0 0), rfl, rfl, rfl⟩ trivial rfl (by decide)
  · rw [if_neg c3223] at h
    obtain rfl : b3222 = false := hb3222.symm.trans (decide_eq_false c3223)
    refine VC.cond_f rfl ?_
    refine VC.skip ?_
    refine VN.then ?_
    refine VC.seq ?_
    refine VC.region ?_
    refine VL.va (op_move rfl (ltn rfl)) rfl ?_
    refine VL.va (op_assign rfl (ltn rfl)) rfl ?_
    refine VL.va (op_assign rfl (ltn rfl)) rfl ?_
    refine VL.done ?_
    refine VN.then ?_
    refine VC.ret ?_
    simp only [Option.some.injEq, Prod.mk.injEq] at h
    obtain ⟨rfl, rfl⟩ := h
    exact VR.fn (rs := [.tmp 2, .tmp 3]) [] [(v3218, 9, 1, r3214.map enc_str)] [0] rfl (.tmp rfl (.tmp rfl .nil)) ⟨v3218, rfl, rfl, rfl⟩ trivial rfl (by decide)
set_option maxHeartbeats 4000000 in
set_option maxRecDepth 100000 in
theorem tarryref01_Same.ok (k : Nat) (l0 : List ByteArray) (l1 : List ByteArray) (v0 : Value) (v1 : Value) (r1 : Bool) (h : tarryref01_Same.f k l0 l1 = some r1) :
    VCalls Try.prog 10 [v0, v1] [.row v0 1 (l0.map enc_str), .row v1 1 (l1.map enc_str)] (fun v G own => v = .bool r1 ∧ G = [] ∧ own = []) := by
  refine VCalls.intro Try.func10 rfl (len rfl) fun E hC hW hD => ?_
  unfold tarryref01_Same.f at h
  refine VC.seq ?_
  refine VC.region ?_
  refine VL.va (op_assign rfl (ltn rfl)) rfl ?_
  refine VL.done ?_
  refine VN.then ?_
  refine VC.seq ?_
  refine VC.seq ?_
  refine VC.region ?_
  refine VL.va (op_move rfl (ltn rfl)) rfl ?_
  refine VL.va (op_len (m := l0.length) 0 lenm Try.underlying22 rfl rfl (ltn rfl)) rfl ?_
  refine VL.va (op_move rfl (ltn rfl)) rfl ?_
  refine VL.va (op_len (m := l1.length) 1 lenm Try.underlying22 rfl rfl (ltn rfl)) rfl ?_
  refine VL.letter (((l0.length : Int) != (l1.length : Int))) fun b3250 hb3250 => ?_
  refine VL.va (op_cmp rfl rfl (congrArg some hb3250) (ltn rfl)) rfl ?_
  refine VL.done ?_
  refine VN.then ?_
  by_cases c3251 : (l0.length : Int) = (l1.length : Int)
  · rw [if_pos c3251] at h
    obtain rfl : b3250 = false := hb3250.symm.trans (bne_eq_false_iff_eq.2 c3251)
    refine VC.cond_f rfl ?_
    refine VC.skip ?_
    refine VN.then ?_
    refine VC.seq ?_
    refine VC.seq ?_
    refine VC.region ?_
    refine VL.va (op_move rfl (ltn rfl)) rfl ?_
    refine VL.va (op_len (m := l0.length) 0 lenm Try.underlying22 rfl rfl (ltn rfl)) rfl ?_
    refine VL.va (op_move rfl (ltn rfl)) rfl ?_
    refine VL.done ?_
    refine VN.then ?_
    refine VC.block ?_
    refine VC.loop1 (fun (i3305 : Int) => ⟨26, [(0, v0), (1, v1), (4, .bool false), (12, .int .i64 (l0.length : Int)), (13, .int .i64 i3305)], [.row v0 1 (l0.map enc_str), .row v1 1 (l1.map enc_str)], [], []⟩) (fun (ml1 : Nat) (i3305 : Int) => tarryref01_Same.l1 k l0 l1 ml1 i3305 = some r1) k 0 [] [] h ⟨rfl, ⟨rfl, rfl, rfl, rfl, rfl, trivial⟩, ⟨⟨0, rfl⟩, ⟨1, rfl⟩, trivial⟩, rfl, by decide, rfl, by decide⟩ (by intros; simp [tarryref01_Same.l1]) ?_
    clear h
    intro ml1 ihl1 i3305 h
    simp only [tarryref01_Same.l1] at h
    refine VC.seq ?_
    refine VC.region ?_
    refine VL.letter (decide (i3305 < (l0.length : Int))) fun b3319 hb3319 => ?_
    refine VL.va (op_cmp rfl rfl (congrArg some hb3319) (ltn rfl)) rfl ?_
    refine VL.done ?_
    refine VN.then ?_
    refine VC.seq ?_
    by_cases c3321 : i3305 < (l0.length : Int)
    · rw [if_pos c3321] at h
      obtain rfl : b3319 = true := hb3319.symm.trans (decide_eq_true c3321)
      refine VC.cond_t rfl ?_
      refine VC.skip ?_
      refine VN.then ?_
      refine VC.seq ?_
      refine VC.block ?_
      refine VC.seq ?_
      refine VC.region ?_
      refine VL.va (op_move rfl (ltn rfl)) rfl ?_
      refine VL.va (op_assign rfl (ltn rfl)) rfl ?_
      refine VL.done ?_
      refine VN.then ?_
      by_cases c3327 : 0 ≤ i3305
      · rw [if_pos c3327] at h
        replace h := Option.bind_eq_some_iff.1 h
        obtain ⟨x3328, hx3328, h⟩ := h
        replace h := Option.bind_eq_some_iff.1 h
        obtain ⟨x3329, hx3329, h⟩ := h
        refine VC.letter ((x3328 != x3329)) fun b3330 hb3330 => ?_
        refine VC.open (m := l0.length) 0 lenm rfl (pos_get hx3328) ?_
        rintro ad3256 n3257 rfl
        refine VC.open (m := l1.length) 1 lenm rfl (pos_get hx3329) ?_
        rintro ad3259 n3260 rfl
        refine VC.join0 (⟨26, [(0, (.slice (some ad3256) l0.length n3257)), (1, (.slice (some ad3259) l1.length n3260)), (4, .bool false), (5, .int .i64 i3305), (12, .int .i64 (l0.length : Int)), (13, .int .i64 i3305), (14, .bool true), (15, .int .i64 i3305), (16, (.slice (some ad3256) l0.length n3257)), (17, .int .i64 i3305), (19, .string x3328), (20, (.slice (some ad3259) l1.length n3260)), (21, .int .i64 i3305), (23, .string x3329), (24, .bool b3330)], [.row (.slice (some ad3256) l0.length n3257) 1 (l0.map enc_str), .row (.slice (some ad3259) l1.length n3260) 1 (l1.map enc_str)], [], []⟩) (True) ?_ ?_
        · refine VC.draw ⟨0, [], [.row (.slice (some ad3256) l0.length n3257) 1 (l0.map enc_str), .row (.slice (some ad3259) l1.length n3260) 1 (l1.map enc_str)], [], []⟩ (by kernel_rfl) rfl (by kernel_rfl) (n := 9) (listed := LB 9 0) ?_
          refine VA.va (i := 0) (listed' := LB 9 1) rfl (op_move rfl (ltn rfl)) rfl (by kernel_rfl) (by kernel_rfl) (by kernel_rfl) (by kernel_rfl) ⟨⟨⟨0, rfl⟩, ⟨1, rfl⟩, trivial⟩, trivial, trivial⟩ (fun _ _ _ h => h) ?_
          refine VA.va (i := 1) (listed' := LB 9 3) rfl (op_move rfl (ltn rfl)) rfl (by kernel_rfl) (by kernel_rfl) (by kernel_rfl) (by kernel_rfl) ⟨⟨⟨0, rfl⟩, ⟨1, rfl⟩, trivial⟩, trivial, trivial⟩ (fun _ _ _ h => h) ?_
          refine VA.va (i := 2) (listed' := LB 9 7) rfl (op_indexAddr Try.underlying22 TI9 rfl rfl c3327 (lt_get c3327 hx3328) rfl (ltn rfl)) rfl (by kernel_rfl) (by kernel_rfl) (by kernel_rfl) (by kernel_rfl) ⟨⟨⟨0, rfl⟩, ⟨1, rfl⟩, trivial⟩, trivial, trivial⟩ (fun _ _ _ h => h) ?_
          refine VA.va (i := 3) (listed' := LB 9 15) rfl (op_load_row (sz := 1) (o := 0) 0 i3305.toNat 1 rfl rfl (get_map hx3328) TI9 rfl (by decide) (ltn rfl)) rfl (by kernel_rfl) (by kernel_rfl) (by kernel_rfl) (by kernel_rfl) ⟨⟨⟨0, rfl⟩, ⟨1, rfl⟩, trivial⟩, trivial, trivial⟩ (fun _ _ _ h => h) ?_
          refine VA.va (i := 4) (listed' := LB 9 31) rfl (op_move rfl (ltn rfl)) rfl (by kernel_rfl) (by kernel_rfl) (by kernel_rfl) (by kernel_rfl) ⟨⟨⟨0, rfl⟩, ⟨1, rfl⟩, trivial⟩, trivial, trivial⟩ (fun _ _ _ h => h) ?_
          refine VA.va (i := 5) (listed' := LB 9 63) rfl (op_move rfl (ltn rfl)) rfl (by kernel_rfl) (by kernel_rfl) (by kernel_rfl) (by kernel_rfl) ⟨⟨⟨0, rfl⟩, ⟨1, rfl⟩, trivial⟩, trivial, trivial⟩ (fun _ _ _ h => h) ?_
          refine VA.va (i := 6) (listed' := LB 9 127) rfl (op_indexAddr Try.underlying22 TI9 rfl rfl c3327 (lt_get c3327 hx3329) rfl (ltn rfl)) rfl (by kernel_rfl) (by kernel_rfl) (by kernel_rfl) (by kernel_rfl) ⟨⟨⟨0, rfl⟩, ⟨1, rfl⟩, trivial⟩, trivial, trivial⟩ (fun _ _ _ h => h) ?_
          refine VA.va (i := 7) (listed' := LB 9 255) rfl (op_load_row (sz := 1) (o := 0) 1 i3305.toNat 1 rfl rfl (get_map hx3329) TI9 rfl (by decide) (ltn rfl)) rfl (by kernel_rfl) (by kernel_rfl) (by kernel_rfl) (by kernel_rfl) ⟨⟨⟨0, rfl⟩, ⟨1, rfl⟩, trivial⟩, trivial, trivial⟩ (fun _ _ _ h => h) ?_
          refine VA.va (i := 8) (listed' := LB 9 511) rfl (op_cmps rfl rfl (congrArg some hb3330) (ltn rfl)) rfl (by kernel_rfl) (by kernel_rfl) (by kernel_rfl) (by kernel_rfl) ⟨⟨⟨0, rfl⟩, ⟨1, rfl⟩, trivial⟩, trivial, trivial⟩ (fun _ _ _ h => h) ?_
          refine VA.done (by kernel_rfl) ?_
          exact VN.meet0  [] [] trivial ⟨rfl, ⟨rfl, rfl, rfl, rfl, rfl, rfl, rfl, rfl, rfl, rfl, rfl, rfl, rfl, rfl, rfl, trivial⟩, ⟨⟨0, rfl⟩, ⟨1, rfl⟩, trivial⟩, rfl, by decide, rfl, by decide⟩
        intro _
        by_cases c3331 : (x3328 == x3329) = true
        · rw [if_pos c3331] at h
          obtain rfl : b3330 = false := hb3330.symm.trans (bne_of_t c3331)
          refine VC.cond_f rfl ?_
          refine VC.skip ?_
          refine VN.block ?_
          refine VN.then ?_
          refine VC.region ?_
          refine VL.va (op_ari64 rfl rfl rfl (ltn rfl)) rfl ?_
          refine VL.va (op_move rfl (ltn rfl)) rfl ?_
          refine VL.done ?_
          refine VN.again [] [] (ihl1 (wrap64 (i3305 + 1)) h) ⟨rfl, ⟨rfl, rfl, rfl, rfl, rfl, trivial⟩, ⟨⟨0, rfl⟩, ⟨1, rfl⟩, trivial⟩, rfl, by decide, rfl, by decide⟩
        · rw [if_neg c3331] at h
          obtain rfl : b3330 = true := hb3330.symm.trans (bne_of_f c3331)
          refine VC.cond_t rfl ?_
          refine VC.seq ?_
          refine VC.region ?_
          refine VL.va (op_assign rfl (ltn rfl)) rfl ?_
          refine VL.done ?_
          refine VN.then ?_
          refine VC.ret ?_
          refine VR.block ?_
          refine VR.then ?_
          refine VR.then ?_
          refine VR.block ?_
          refine VR.then ?_
          obtain rfl := Option.some.inj h
          exact VR.fn (rs := [.tmp 4]) [] [] [] rfl (.tmp rfl .nil) ⟨rfl, rfl, rfl⟩ trivial rfl (by decide)
      · rw [if_neg c3327] at h; cases h
    · rw [if_neg c3321] at h
      obtain rfl : b3319 = false := hb3319.symm.trans (decide_eq_false c3321)
      refine VC.cond_f rfl ?_
      refine VC.exit ?_
      refine VX.then ?_
      refine VX.then ?_
      refine VX.hit ?_
      refine VN.then ?_
      refine VC.seq ?_
      refine VC.region ?_
      refine VL.va (op_assign rfl (ltn rfl)) rfl ?_
      refine VL.done ?_
      refine VN.then ?_
      refine VC.ret ?_
      obtain rfl := Option.some.inj h
      exact VR.fn (rs := [.tmp 4]) [] [] [] rfl (.tmp rfl .nil) ⟨rfl, rfl, rfl⟩ trivial rfl (by decide)
  · rw [if_neg c3251] at h
    obtain rfl : b3250 = true := hb3250.symm.trans (bne_iff_ne.2 c3251)
    refine VC.cond_t rfl ?_
    refine VC.seq ?_
    refine VC.region ?_
    refine VL.va (op_assign rfl (ltn rfl)) rfl ?_
    refine VL.done ?_
    refine VN.then ?_
    refine VC.ret ?_
    refine VR.then ?_
    obtain rfl := Option.some.inj h
    exact VR.fn (rs := [.tmp 4]) [] [] [] rfl (.tmp rfl .nil) ⟨rfl, rfl, rfl⟩ trivial rfl (by decide)
set_option maxHeartbeats 4000000 in
set_option maxRecDepth 100000 in
theorem tarrylaw04_alive.ok (k : Nat)   (r1 : Bool) (h : tarrylaw04_alive.f k = some r1) :
    VCalls Try.prog 7 [] [] (fun v G own => v = .bool r1 ∧ G = [] ∧ own = []) := by
  refine VCalls.intro Try.func7 rfl (len rfl) fun E hC hW hD => ?_
  unfold tarrylaw04_alive.f at h
  refine VC.seq ?_
  refine VC.region ?_
  refine VL.va (op_assign rfl (ltn rfl)) rfl ?_
  refine VL.done ?_
  refine VN.then ?_
  refine VC.seq ?_
  refine VC.region ?_
  replace h := Option.bind_eq_some_iff.1 h
  obtain ⟨⟨t3343, t3344⟩, hA3345, h⟩ := h
  dsimp only at h
  refine VL.sC (o_call0 FO8 (frame_Frame.ok k (⟨#[]⟩ : ByteArray) t3343 t3344 hA3345) rfl rfl (ltn rfl) (All_of .nil)) rfl ?_
  rintro _ _ _ ⟨rfl, rfl, rfl⟩
  refine VL.va (op_move rfl (ltn rfl)) rfl ?_
  refine VL.va (op_extract rfl rfl (ltn rfl)) rfl ?_
  refine VL.va (op_extract rfl rfl (ltn rfl)) rfl ?_
  refine VL.va (op_assign rfl (ltn rfl)) rfl ?_
  refine VL.va (op_assign rfl (ltn rfl)) rfl ?_
  refine VL.done ?_
  refine VN.then ?_
  refine VC.seq ?_
  refine VC.region ?_
  refine VL.va (op_move rfl (ltn rfl)) rfl ?_
  replace h := Option.bind_eq_some_iff.1 h
  obtain ⟨⟨r3346, t3347⟩, hA3348, h⟩ := h
  dsimp only at h
  refine VL.sC (o_call0 FO9 (frame_Scan.ok k t3343 r3346 t3347 hA3348) rfl rfl (ltn rfl) (All_of .nil)) rfl ?_
  rintro _ _ _ ⟨v3350, rfl, rfl, rfl⟩
  refine VL.va (op_move rfl (ltn rfl)) rfl ?_
  refine VL.va (op_extract rfl rfl (ltn rfl)) rfl ?_
  refine VL.va (op_extract rfl rfl (ltn rfl)) rfl ?_
  refine VL.va (op_assign rfl (ltn rfl)) rfl ?_
  refine VL.va (op_assign rfl (ltn rfl)) rfl ?_
  refine VL.done ?_
  refine VN.then ?_
  refine VC.seq ?_
  refine VC.region ?_
  refine VL.va (op_move rfl (ltn rfl)) rfl ?_
  refine VL.letter ((t3344 == 0)) fun b3358 hb3358 => ?_
  refine VL.va (op_cmp rfl rfl (congrArg some hb3358) (ltn rfl)) rfl ?_
  refine VL.va (op_move rfl (ltn rfl)) rfl ?_
  by_cases c3359 : t3344 = 0
  · rw [if_pos c3359] at h
    obtain rfl : b3358 = true := hb3358.symm.trans (beq_iff_eq.2 c3359)
    refine VL.va (op_move rfl (ltn rfl)) rfl ?_
    refine VL.va (op_lens Try.underlying9 rfl (ltn rfl)) rfl ?_
    refine VL.letter (((t3343.size : Int) == 5)) fun b3360 hb3360 => ?_
    refine VL.va (op_cmp rfl rfl (congrArg some hb3360) (ltn rfl)) rfl ?_
    refine VL.va (op_pick rfl rfl (ltn rfl)) rfl ?_
    refine VL.va (op_move rfl (ltn rfl)) rfl ?_
    by_cases c3361 : (t3343.size : Int) = 5
    · rw [if_pos c3361] at h
      obtain rfl : b3360 = true := hb3360.symm.trans (beq_iff_eq.2 c3361)
      refine VL.va (op_move rfl (ltn rfl)) rfl ?_
      refine VL.va (op_len_own (m := r3346.length) 0 lenm Try.underlying22 rfl rfl (ltn rfl)) rfl ?_
      refine VL.letter (((r3346.length : Int) == 1)) fun b3362 hb3362 => ?_
      refine VL.va (op_cmp rfl rfl (congrArg some hb3362) (ltn rfl)) rfl ?_
      refine VL.va (op_pick rfl rfl (ltn rfl)) rfl ?_
      refine VL.va (op_move rfl (ltn rfl)) rfl ?_
      by_cases c3363 : (r3346.length : Int) = 1
      · rw [if_pos c3363] at h
        obtain rfl : b3362 = true := hb3362.symm.trans (beq_iff_eq.2 c3363)
        refine VL.va (op_move rfl (ltn rfl)) rfl ?_
        refine VL.letter ((t3347 == 5)) fun b3364 hb3364 => ?_
        refine VL.va (op_cmp rfl rfl (congrArg some hb3364) (ltn rfl)) rfl ?_
        refine VL.va (op_pick rfl rfl (ltn rfl)) rfl ?_
        refine VL.va (op_assign rfl (ltn rfl)) rfl ?_
        refine VL.done ?_
        refine VN.then ?_
        refine VC.ret ?_
        obtain rfl := Option.some.inj h
        subst hb3364
        exact VR.fn (rs := [.tmp 0]) [] [] [] rfl (.tmp rfl .nil) ⟨rfl, rfl, rfl⟩ trivial rfl (by decide)
      · rw [if_neg c3363] at h
        obtain rfl : b3362 = false := hb3362.symm.trans (beq_eq_false_iff_ne.2 c3363)
        refine VL.un rfl rfl (ltn rfl) ?_
        refine VL.un rfl rfl (ltn rfl) ?_
        refine VL.va (op_pick rfl rfl (ltn rfl)) rfl ?_
        refine VL.va (op_assign rfl (ltn rfl)) rfl ?_
        refine VL.done ?_
        refine VN.then ?_
        refine VC.ret ?_
        obtain rfl := Option.some.inj h
        exact VR.fn (rs := [.tmp 0]) [] [] [] rfl (.tmp rfl .nil) ⟨rfl, rfl, rfl⟩ trivial rfl (by decide)
    · rw [if_neg c3361] at h
      obtain rfl : b3360 = false := hb3360.symm.trans (beq_eq_false_iff_ne.2 c3361)
      refine VL.un rfl rfl (ltn rfl) ?_
      refine VL.un rfl rfl (ltn rfl) ?_
      refine VL.un rfl rfl (ltn rfl) ?_
      refine VL.va (op_pick rfl rfl (ltn rfl)) rfl ?_
      refine VL.va (op_move rfl (ltn rfl)) rfl ?_
      refine VL.un rfl rfl (ltn rfl) ?_
      refine VL.un rfl rfl (ltn rfl) ?_
      refine VL.va (op_pick rfl rfl (ltn rfl)) rfl ?_
      refine VL.va (op_assign rfl (ltn rfl)) rfl ?_
      refine VL.done ?_
      refine VN.then ?_
      refine VC.ret ?_
      obtain rfl := Option.some.inj h
      exact VR.fn (rs := [.tmp 0]) [] [] [] rfl (.tmp rfl .nil) ⟨rfl, rfl, rfl⟩ trivial rfl (by decide)
  · rw [if_neg c3359] at h
    obtain rfl : b3358 = false := hb3358.symm.trans (beq_eq_false_iff_ne.2 c3359)
    refine VL.un rfl rfl (ltn rfl) ?_
    refine VL.un rfl rfl (ltn rfl) ?_
    refine VL.un rfl rfl (ltn rfl) ?_
    refine VL.va (op_pick rfl rfl (ltn rfl)) rfl ?_
    refine VL.va (op_move rfl (ltn rfl)) rfl ?_
    refine VL.un rfl rfl (ltn rfl) ?_
    refine VL.un rfl rfl (ltn rfl) ?_
    refine VL.un rfl rfl (ltn rfl) ?_
    refine VL.va (op_pick rfl rfl (ltn rfl)) rfl ?_
    refine VL.va (op_move rfl (ltn rfl)) rfl ?_
    refine VL.un rfl rfl (ltn rfl) ?_
    refine VL.un rfl rfl (ltn rfl) ?_
    refine VL.va (op_pick rfl rfl (ltn rfl)) rfl ?_
    refine VL.va (op_assign rfl (ltn rfl)) rfl ?_
    refine VL.done ?_
    refine VN.then ?_
    refine VC.ret ?_
    obtain rfl := Option.some.inj h
    exact VR.fn (rs := [.tmp 0]) [] [] [] rfl (.tmp rfl .nil) ⟨rfl, rfl, rfl⟩ trivial rfl (by decide)

end Go.Proofs.Ytaolaicmfjdmhaa.PFrameBack
