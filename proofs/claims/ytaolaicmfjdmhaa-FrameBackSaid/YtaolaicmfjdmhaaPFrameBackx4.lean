/- Written by a program of this repo: what the program's functions do, each as a Lean function, shown of the loaded code; or a statement's row over that; no condition of its own. -/
import Derived.Test.YtaolaicmfjdmhaaPFrameBackx3
namespace Go.Proofs.Ytaolaicmfjdmhaa.PFrameBack
open Go Go.RowKit Go.Proofs.YtaolaicmfjdmhaaV
set_option linter.unusedVariables false
set_option linter.unusedSimpArgs false

set_option maxHeartbeats 4000000 in
set_option maxRecDepth 100000 in
theorem tarrylaw04_FrameBack.ok (k : Nat) (l0 : List ByteArray) (a1 : Int) (a2 : ByteArray) (v0 : Value) (r1 : Bool) (h : tarrylaw04_FrameBack.f k l0 a1 a2 = some r1) :
    VCalls Try.prog 4 [v0, .int .i64 a1, .string a2] [.row v0 1 (l0.map enc_str)] (fun v G own => v = .bool r1 ∧ G = [] ∧ own = []) := by
  refine VCalls.intro Try.func4 rfl (len rfl) fun E hC hW hD => ?_
  unfold tarrylaw04_FrameBack.f at h
  refine VC.seq ?_
  refine VC.region ?_
  refine VL.va (op_assign rfl (ltn rfl)) rfl ?_
  refine VL.done ?_
  refine VN.then ?_
  replace h := Option.bind_eq_some_iff.1 h
  obtain ⟨r105, hA106, h⟩ := h
  by_cases c109 : 0 ≤ mn (a2.size : Int) 100
  · rw [if_pos c109] at h
    by_cases c110 : (mn (a2.size : Int) 100) ≤ (a2.size : Int)
    · rw [if_pos c110] at h
      refine VC.join1 (fun (v108 : Value) => ⟨125, [(0, v108), (1, .int .i64 a1), (2, .string (a2.extract 0 ((mn (a2.size : Int) 100).toNat))), (6, .bool false)], [], [], [(v108, 9, 1, r105.map enc_str)]⟩) (fun (v108 : Value) => True) ?_ ?_
      · refine VC.draw ⟨0, [], [], [], []⟩ (by kernel_rfl) rfl (by kernel_rfl) (n := 9) (listed := LB 9 0) ?_
        refine VA.more ⟨0, [], [.row v0 1 (l0.map enc_str)], [], []⟩ ⟨trivial, trivial, trivial⟩ ?_
        refine VA.va (i := 0) (listed' := LB 9 1) rfl (op_move rfl (ltn rfl)) rfl (by kernel_rfl) (by kernel_rfl) (by kernel_rfl) (by kernel_rfl) ⟨⟨⟨0, rfl⟩, trivial⟩, trivial, trivial⟩ (fun _ _ _ h => h) ?_
        refine VA.va (i := 2) (listed' := LB 9 5) rfl (op_move rfl (ltn rfl)) rfl (by kernel_rfl) (by kernel_rfl) (by kernel_rfl) (by kernel_rfl) ⟨⟨⟨0, rfl⟩, trivial⟩, trivial, trivial⟩ (fun _ _ _ h => h) ?_
        refine VA.va (i := 3) (listed' := LB 9 13) rfl (op_move rfl (ltn rfl)) rfl (by kernel_rfl) (by kernel_rfl) (by kernel_rfl) (by kernel_rfl) ⟨⟨⟨0, rfl⟩, trivial⟩, trivial, trivial⟩ (fun _ _ _ h => h) ?_
        refine VA.va (i := 4) (listed' := LB 9 29) rfl (op_lens Try.underlying9 rfl (ltn rfl)) rfl (by kernel_rfl) (by kernel_rfl) (by kernel_rfl) (by kernel_rfl) ⟨⟨⟨0, rfl⟩, trivial⟩, trivial, trivial⟩ (fun _ _ _ h => h) ?_
        refine VA.va (i := 5) (listed' := LB 9 61) rfl (op_min rfl rfl (ltn rfl)) rfl (by kernel_rfl) (by kernel_rfl) (by kernel_rfl) (by kernel_rfl) ⟨⟨⟨0, rfl⟩, trivial⟩, trivial, trivial⟩ (fun _ _ _ h => h) ?_
        refine VA.va (i := 6) (listed' := LB 9 125) rfl (op_sliceS 0 ((mn (a2.size : Int) 100).toNat) Try.underlying9 rfl ⟨rfl, ⟨_, _, rfl, c109, rfl⟩, by omega, by omega⟩ rfl (ltn rfl)) rfl (by kernel_rfl) (by kernel_rfl) (by kernel_rfl) (by kernel_rfl) ⟨⟨⟨0, rfl⟩, trivial⟩, trivial, trivial⟩ (fun _ _ _ h => h) ?_
        refine VA.oneC (i := 1) (listed' := LB 9 127) (by kernel_rfl) rfl (o_call0 FO6 (tarrylaw04_few.ok k l0 v0 r105 hA106) rfl rfl (ltn rfl) (All_of (.cons (List.mem_of_getElem? (i := 0) rfl) .nil))) rfl (by kernel_rfl) ?_
        rintro v108 _ _ ⟨_, rfl, rfl, rfl⟩
        refine ⟨⟨⟨⟨0, rfl⟩, trivial⟩, trivial, trivial⟩, ?_⟩
        refine VA.more ⟨0, [], [.row v0 1 (l0.map enc_str)], [], [(v108, 9, 1, r105.map enc_str)]⟩ ⟨⟨⟨0, rfl⟩, trivial⟩, trivial, trivial⟩ ?_
        refine VA.va (i := 7) (listed' := LB 9 255) rfl (op_assign rfl (ltn rfl)) rfl (by kernel_rfl) (by kernel_rfl) (by kernel_rfl) (by kernel_rfl) ⟨⟨⟨0, rfl⟩, trivial⟩, trivial, ⟨⟨0, rfl⟩, trivial⟩⟩ (fun _ _ _ h => h) ?_
        refine VA.va (i := 8) (listed' := LB 9 511) rfl (op_assign rfl (ltn rfl)) rfl (by kernel_rfl) (by kernel_rfl) (by kernel_rfl) (by kernel_rfl) ⟨⟨⟨0, rfl⟩, trivial⟩, trivial, ⟨⟨0, rfl⟩, trivial⟩⟩ (fun _ _ _ h => h) ?_
        refine VA.done (by kernel_rfl) ?_
        exact VN.meet1 v108 [] [0] trivial ⟨rfl, ⟨rfl, rfl, rfl, rfl, trivial⟩, trivial, rfl, by decide, rfl, by decide⟩
      intro v108 _
      refine VC.seq ?_
      refine VC.region ?_
      refine VL.va (op_assign rfl (ltn rfl)) rfl ?_
      refine VL.done ?_
      refine VN.then ?_
      refine VC.join1 (fun (s3658 : ByteArray) => ⟨125, [(0, v108), (1, .int .i64 a1), (2, .string (a2.extract 0 ((mn (a2.size : Int) 100).toNat))), (6, .bool false), (7, .string s3658)], [], [], [(v108, 9, 1, r105.map enc_str)]⟩) (fun (s3658 : ByteArray) => tarrylaw04_FrameBack.j2 k a1 a2 r105 s3658 = some r1) ?_ ?_
      · refine VC.seq ?_
        refine VC.region ?_
        refine VL.va (op_move rfl (ltn rfl)) rfl ?_
        refine VL.va (op_len_own (m := r105.length) 0 lenm Try.underlying22 rfl rfl (ltn rfl)) rfl ?_
        refine VL.va (op_move rfl (ltn rfl)) rfl ?_
        refine VL.done ?_
        refine VN.then ?_
        refine VC.block ?_
        refine VC.loop2 (fun (s3602 : ByteArray) (i3603 : Int) => ⟨125, [(0, v108), (1, .int .i64 a1), (2, .string (a2.extract 0 ((mn (a2.size : Int) 100).toNat))), (6, .bool false), (7, .string s3602), (25, v108), (26, .int .i64 (r105.length : Int)), (27, .int .i64 i3603)], [], [], [(v108, 9, 1, r105.map enc_str)]⟩) (fun (ml3 : Nat) (s3602 : ByteArray) (i3603 : Int) => tarrylaw04_FrameBack.l3 k a1 a2 r105 ml3 s3602 i3603 = some r1) k (⟨#[]⟩ : ByteArray) 0 [] [0] h ⟨rfl, ⟨rfl, rfl, rfl, rfl, rfl, rfl, rfl, rfl, trivial⟩, trivial, rfl, by decide, rfl, by decide⟩ (by intros; simp [tarrylaw04_FrameBack.l3]) ?_
        clear h
        intro ml3 ihl3 s3602 i3603 h
        simp only [tarrylaw04_FrameBack.l3] at h
        refine VC.seq ?_
        refine VC.region ?_
        refine VL.letter (decide (i3603 < (r105.length : Int))) fun b3631 hb3631 => ?_
        refine VL.va (op_cmp rfl rfl (congrArg some hb3631) (ltn rfl)) rfl ?_
        refine VL.done ?_
        refine VN.then ?_
        refine VC.seq ?_
        by_cases c3633 : i3603 < (r105.length : Int)
        · rw [if_pos c3633] at h
          obtain rfl : b3631 = true := hb3631.symm.trans (decide_eq_true c3633)
          refine VC.cond_t rfl ?_
          refine VC.skip ?_
          refine VN.then ?_
          refine VC.seq ?_
          refine VC.block ?_
          refine VC.seq ?_
          refine VC.region ?_
          by_cases c3646 : 0 ≤ i3603
          · rw [if_pos c3646] at h
            replace h := Option.bind_eq_some_iff.1 h
            obtain ⟨x3647, hx3647, h⟩ := h
            refine VL.openR (m := r105.length) 0 lenm rfl (pos_get hx3647) ?_
            rintro g3648 n3649 rfl
            refine VL.va (op_indexAddr Try.underlying22 TI9 rfl rfl c3646 (lt_get c3646 hx3647) (add_zero_at _ _) (ltn rfl)) rfl ?_
            refine VL.va (op_load_own (sz := 1) (o := 0) 0 i3603.toNat 1 rfl rfl (get_map hx3647) TI9 rfl (by decide) (ltn rfl)) rfl ?_
            refine VL.va (op_assign rfl (ltn rfl)) rfl ?_
            refine VL.done ?_
            refine VN.then ?_
            refine VC.seq ?_
            refine VC.region ?_
            refine VL.va (op_move rfl (ltn rfl)) rfl ?_
            replace h := Option.bind_eq_some_iff.1 h
            obtain ⟨⟨t3650, t3651⟩, hA3652, h⟩ := h
            dsimp only at h
            refine VL.sC (o_call0 FO8 (frame_Frame.ok k x3647 t3650 t3651 hA3652) rfl rfl (ltn rfl) (All_of .nil)) rfl ?_
            rintro _ _ _ ⟨rfl, rfl, rfl⟩
            refine VL.va (op_move rfl (ltn rfl)) rfl ?_
            refine VL.va (op_extract rfl rfl (ltn rfl)) rfl ?_
            refine VL.va (op_extract rfl rfl (ltn rfl)) rfl ?_
            refine VL.va (op_assign rfl (ltn rfl)) rfl ?_
            refine VL.va (op_assign rfl (ltn rfl)) rfl ?_
            refine VL.done ?_
            refine VN.then ?_
            refine VC.seq ?_
            refine VC.seq ?_
            refine VC.region ?_
            refine VL.va (op_move rfl (ltn rfl)) rfl ?_
            refine VL.letter ((t3651 != 0)) fun b3655 hb3655 => ?_
            refine VL.va (op_cmp rfl rfl (congrArg some hb3655) (ltn rfl)) rfl ?_
            refine VL.done ?_
            refine VN.then ?_
            by_cases c3656 : t3651 = 0
            · rw [if_pos c3656] at h
              obtain rfl : b3655 = false := hb3655.symm.trans (bne_eq_false_iff_eq.2 c3656)
              refine VC.cond_f rfl ?_
              refine VC.skip ?_
              refine VN.then ?_
              refine VC.region ?_
              refine VL.va (op_move rfl (ltn rfl)) rfl ?_
              refine VL.va (op_move rfl (ltn rfl)) rfl ?_
              by_cases c3657 : s3602.size + t3650.size ≤ 9223372036854775807
              · rw [if_pos c3657] at h
                refine VL.va (op_adds rfl rfl rfl c3657 (ltn rfl)) rfl ?_
                refine VL.va (op_assign rfl (ltn rfl)) rfl ?_
                refine VL.done ?_
                refine VN.block ?_
                refine VN.then ?_
                refine VC.region ?_
                refine VL.va (op_ari64 rfl rfl rfl (ltn rfl)) rfl ?_
                refine VL.va (op_move rfl (ltn rfl)) rfl ?_
                refine VL.done ?_
                refine VN.again [] [0] (ihl3 (s3602 ++ t3650) (wrap64 (i3603 + 1)) h) ⟨rfl, ⟨rfl, rfl, rfl, rfl, rfl, rfl, rfl, rfl, trivial⟩, trivial, rfl, by decide, rfl, by decide⟩
              · rw [if_neg c3657] at h; cases h
            · rw [if_neg c3656] at h
              obtain rfl : b3655 = true := hb3655.symm.trans (bne_iff_ne.2 c3656)
              refine VC.cond_t rfl ?_
              refine VC.seq ?_
              refine VC.region ?_
              refine VL.va (op_assign rfl (ltn rfl)) rfl ?_
              refine VL.done ?_
              refine VN.then ?_
              refine VC.ret ?_
              refine VR.then ?_
              refine VR.block ?_
              refine VR.then ?_
              refine VR.then ?_
              refine VR.block ?_
              refine VR.then ?_
              cases h
          · rw [if_neg c3646] at h; cases h
        · rw [if_neg c3633] at h
          obtain rfl : b3631 = false := hb3631.symm.trans (decide_eq_false c3633)
          refine VC.cond_f rfl ?_
          refine VC.exit ?_
          refine VX.then ?_
          refine VX.then ?_
          refine VX.hit ?_
          refine VN.meet1 s3602 [] [0] h ⟨rfl, ⟨rfl, rfl, rfl, rfl, rfl, trivial⟩, trivial, rfl, by decide, rfl, by decide⟩
      clear h
      intro s3658 h
      unfold tarrylaw04_FrameBack.j2 at h
      refine VC.seq ?_
      refine VC.region ?_
      refine VL.va (op_move rfl (ltn rfl)) rfl ?_
      replace h := Option.bind_eq_some_iff.1 h
      obtain ⟨⟨r3659, t3660⟩, hA3661, h⟩ := h
      dsimp only at h
      refine VL.sC (o_call0 FO11 (frame_All.ok k s3658 r3659 t3660 hA3661) rfl rfl (ltn rfl) (All_of .nil)) rfl ?_
      rintro _ _ _ ⟨v3663, rfl, rfl, rfl⟩
      refine VL.va (op_move rfl (ltn rfl)) rfl ?_
      refine VL.va (op_extract rfl rfl (ltn rfl)) rfl ?_
      refine VL.va (op_extract rfl rfl (ltn rfl)) rfl ?_
      refine VL.va (op_assign rfl (ltn rfl)) rfl ?_
      refine VL.va (op_assign rfl (ltn rfl)) rfl ?_
      refine VL.done ?_
      refine VN.then ?_
      refine VC.seq ?_
      refine VC.region ?_
      refine VL.va (op_move rfl (ltn rfl)) rfl ?_
      refine VL.va (op_move rfl (ltn rfl)) rfl ?_
      by_cases c3664 : s3658.size + (a2.extract 0 ((mn (a2.size : Int) 100).toNat)).size ≤ 9223372036854775807
      · rw [if_pos c3664] at h
        refine VL.va (op_adds rfl rfl rfl c3664 (ltn rfl)) rfl ?_
        replace h := Option.bind_eq_some_iff.1 h
        obtain ⟨⟨r3665, t3666⟩, hA3667, h⟩ := h
        dsimp only at h
        refine VL.sC (o_call0 FO9 (frame_Scan.ok k (s3658 ++ (a2.extract 0 ((mn (a2.size : Int) 100).toNat))) r3665 t3666 hA3667) rfl rfl (ltn rfl) (All_of .nil)) rfl ?_
        rintro _ _ _ ⟨v3669, rfl, rfl, rfl⟩
        refine VL.va (op_move rfl (ltn rfl)) rfl ?_
        refine VL.va (op_extract rfl rfl (ltn rfl)) rfl ?_
        refine VL.va (op_extract rfl rfl (ltn rfl)) rfl ?_
        refine VL.va (op_assign rfl (ltn rfl)) rfl ?_
        refine VL.va (op_assign rfl (ltn rfl)) rfl ?_
        refine VL.done ?_
        refine VN.then ?_
        refine VC.seq ?_
        refine VC.region ?_
        refine VL.va (op_move rfl (ltn rfl)) rfl ?_
        refine VL.va (op_move rfl (ltn rfl)) rfl ?_
        refine VL.va (op_lens Try.underlying9 rfl (ltn rfl)) rfl ?_
        refine VL.va (op_ari64 rfl rfl rfl (ltn rfl)) rfl ?_
        by_cases c3670 : (wrap64 ((s3658.size : Int) + 1)) ≠ 0
        · rw [if_pos c3670] at h
          refine VL.va (op_rem rfl rfl c3670 rfl (ltn rfl)) rfl ?_
          refine VL.va (op_move rfl (ltn rfl)) rfl ?_
          refine VL.va (op_lens Try.underlying9 rfl (ltn rfl)) rfl ?_
          refine VL.va (op_ari64 rfl rfl rfl (ltn rfl)) rfl ?_
          refine VL.va (op_ari64 rfl rfl rfl (ltn rfl)) rfl ?_
          refine VL.va (op_move rfl (ltn rfl)) rfl ?_
          refine VL.va (op_lens Try.underlying9 rfl (ltn rfl)) rfl ?_
          refine VL.va (op_ari64 rfl rfl rfl (ltn rfl)) rfl ?_
          refine VL.va (op_rem rfl rfl c3670 rfl (ltn rfl)) rfl ?_
          refine VL.va (op_assign rfl (ltn rfl)) rfl ?_
          refine VL.done ?_
          refine VN.then ?_
          refine VC.seq ?_
          refine VC.region ?_
          refine VL.va (op_move rfl (ltn rfl)) rfl ?_
          refine VL.va (op_move rfl (ltn rfl)) rfl ?_
          by_cases c3671 : 0 ≤ (wrap64 ((wrap64 ((a1.tmod (wrap64 ((s3658.size : Int) + 1))) + (s3658.size : Int))) + 1)).tmod (wrap64 ((s3658.size : Int) + 1))
          · rw [if_pos c3671] at h
            by_cases c3672 : ((wrap64 ((wrap64 ((a1.tmod (wrap64 ((s3658.size : Int) + 1))) + (s3658.size : Int))) + 1)).tmod (wrap64 ((s3658.size : Int) + 1))) ≤ (s3658.size : Int)
            · rw [if_pos c3672] at h
              refine VL.va (op_sliceS 0 (((wrap64 ((wrap64 ((a1.tmod (wrap64 ((s3658.size : Int) + 1))) + (s3658.size : Int))) + 1)).tmod (wrap64 ((s3658.size : Int) + 1))).toNat) Try.underlying9 rfl ⟨rfl, ⟨_, _, rfl, c3671, rfl⟩, by omega, by omega⟩ rfl (ltn rfl)) rfl ?_
              replace h := Option.bind_eq_some_iff.1 h
              obtain ⟨⟨r3673, t3674⟩, hA3675, h⟩ := h
              dsimp only at h
              refine VL.sC (o_call0 FO9 (frame_Scan.ok k (s3658.extract 0 (((wrap64 ((wrap64 ((a1.tmod (wrap64 ((s3658.size : Int) + 1))) + (s3658.size : Int))) + 1)).tmod (wrap64 ((s3658.size : Int) + 1))).toNat)) r3673 t3674 hA3675) rfl rfl (ltn rfl) (All_of .nil)) rfl ?_
              rintro _ _ _ ⟨v3677, rfl, rfl, rfl⟩
              refine VL.va (op_move rfl (ltn rfl)) rfl ?_
              refine VL.va (op_extract rfl rfl (ltn rfl)) rfl ?_
              refine VL.va (op_extract rfl rfl (ltn rfl)) rfl ?_
              refine VL.va (op_assign rfl (ltn rfl)) rfl ?_
              refine VL.va (op_assign rfl (ltn rfl)) rfl ?_
              refine VL.done ?_
              refine VN.then ?_
              refine VC.seq ?_
              refine VC.seq ?_
              refine VC.region ?_
              refine VL.va (op_move rfl (ltn rfl)) rfl ?_
              refine VL.letter ((t3660 != 0)) fun b3726 hb3726 => ?_
              refine VL.va (op_cmp rfl rfl (congrArg some hb3726) (ltn rfl)) rfl ?_
              refine VL.va (op_move rfl (ltn rfl)) rfl ?_
              by_cases c3727 : t3660 = 0
              · rw [if_pos c3727] at h
                obtain rfl : b3726 = false := hb3726.symm.trans (bne_eq_false_iff_eq.2 c3727)
                refine VL.va (op_move rfl (ltn rfl)) rfl ?_
                refine VL.va (op_move rfl (ltn rfl)) rfl ?_
                replace h := Option.bind_eq_some_iff.1 h
                obtain ⟨t3728, hA3729, h⟩ := h
                refine VL.sC (o_call_b0 FO10 (tarryref01_Same.ok k r3659 r105 v3663 v108 t3728 hA3729) rfl rfl (ltn rfl) (All_of (.cons (.inr (.inl ⟨_, List.mem_of_getElem? (i := 2) rfl, rfl⟩)) (.cons (.inr (.inl ⟨_, List.mem_of_getElem? (i := 3) rfl, rfl⟩)) .nil))) (by rintro _ _ _ ⟨rfl, rfl, rfl⟩; rfl)) rfl ?_
                rintro _ _ _ ⟨rfl, rfl, rfl⟩
                by_cases c3730 : t3728 = true
                · rw [if_pos c3730] at h
                  obtain rfl := c3730
                  refine VL.va (op_not rfl rfl (ltn rfl)) rfl ?_
                  refine VL.va (op_pick rfl rfl (ltn rfl)) rfl ?_
                  refine VL.va (op_move rfl (ltn rfl)) rfl ?_
                  refine VL.va (op_move rfl (ltn rfl)) rfl ?_
                  refine VL.va (op_move rfl (ltn rfl)) rfl ?_
                  refine VL.va (op_lens Try.underlying9 rfl (ltn rfl)) rfl ?_
                  refine VL.letter (decide (t3666 < (s3658.size : Int))) fun b3731 hb3731 => ?_
                  refine VL.va (op_cmp rfl rfl (congrArg some hb3731) (ltn rfl)) rfl ?_
                  refine VL.va (op_pick rfl rfl (ltn rfl)) rfl ?_
                  refine VL.va (op_move rfl (ltn rfl)) rfl ?_
                  by_cases c3732 : t3666 < (s3658.size : Int)
                  · rw [if_pos c3732] at h
                    obtain rfl : b3731 = true := hb3731.symm.trans (decide_eq_true c3732)
                    refine VL.un rfl rfl (ltn rfl) ?_
                    refine VL.un rfl rfl (ltn rfl) ?_
                    refine VL.un rfl rfl (ltn rfl) ?_
                    refine VL.un rfl rfl (ltn rfl) ?_
                    refine VL.un rfl rfl (ltn rfl) ?_
                    refine VL.va (op_pick rfl rfl (ltn rfl)) rfl ?_
                    refine VL.va (op_move rfl (ltn rfl)) rfl ?_
                    refine VL.un rfl rfl (ltn rfl) ?_
                    refine VL.un rfl rfl (ltn rfl) ?_
                    refine VL.un rfl rfl (ltn rfl) ?_
                    refine VL.va (op_pick rfl rfl (ltn rfl)) rfl ?_
                    refine VL.va (op_move rfl (ltn rfl)) rfl ?_
                    refine VL.un rfl rfl (ltn rfl) ?_
                    refine VL.un rfl rfl (ltn rfl) ?_
                    refine VL.un rfl rfl (ltn rfl) ?_
                    refine VL.un rfl rfl (ltn rfl) ?_
                    refine VL.un rfl rfl (ltn rfl) ?_
                    refine VL.va (op_pick rfl rfl (ltn rfl)) rfl ?_
                    refine VL.va (op_move rfl (ltn rfl)) rfl ?_
                    refine VL.un rfl rfl (ltn rfl) ?_
                    refine VL.un rfl rfl (ltn rfl) ?_
                    refine VL.va (op_pick rfl rfl (ltn rfl)) rfl ?_
                    refine VL.done ?_
                    refine VN.then ?_
                    refine VC.cond_t rfl ?_
                    refine VC.seq ?_
                    refine VC.region ?_
                    refine VL.va (op_assign rfl (ltn rfl)) rfl ?_
                    refine VL.done ?_
                    refine VN.then ?_
                    refine VC.ret ?_
                    refine VR.then ?_
                    cases h
                  · rw [if_neg c3732] at h
                    obtain rfl : b3731 = false := hb3731.symm.trans (decide_eq_false c3732)
                    refine VL.va (op_move rfl (ltn rfl)) rfl ?_
                    refine VL.va (op_len_own (m := r3665.length) 1 lenm Try.underlying22 rfl rfl (ltn rfl)) rfl ?_
                    refine VL.va (op_move rfl (ltn rfl)) rfl ?_
                    refine VL.va (op_len_own (m := r105.length) 3 lenm Try.underlying22 rfl rfl (ltn rfl)) rfl ?_
                    refine VL.letter (decide ((r3665.length : Int) < (r105.length : Int))) fun b3733 hb3733 => ?_
                    refine VL.va (op_cmp rfl rfl (congrArg some hb3733) (ltn rfl)) rfl ?_
                    refine VL.va (op_pick rfl rfl (ltn rfl)) rfl ?_
                    refine VL.va (op_move rfl (ltn rfl)) rfl ?_
                    by_cases c3734 : (r3665.length : Int) < (r105.length : Int)
                    · rw [if_pos c3734] at h
                      obtain rfl : b3733 = true := hb3733.symm.trans (decide_eq_true c3734)
                      refine VL.un rfl rfl (ltn rfl) ?_
                      refine VL.un rfl rfl (ltn rfl) ?_
                      refine VL.un rfl rfl (ltn rfl) ?_
                      refine VL.va (op_pick rfl rfl (ltn rfl)) rfl ?_
                      refine VL.va (op_move rfl (ltn rfl)) rfl ?_
                      refine VL.un rfl rfl (ltn rfl) ?_
                      refine VL.un rfl rfl (ltn rfl) ?_
                      refine VL.un rfl rfl (ltn rfl) ?_
                      refine VL.un rfl rfl (ltn rfl) ?_
                      refine VL.un rfl rfl (ltn rfl) ?_
                      refine VL.va (op_pick rfl rfl (ltn rfl)) rfl ?_
                      refine VL.va (op_move rfl (ltn rfl)) rfl ?_
                      refine VL.un rfl rfl (ltn rfl) ?_
                      refine VL.un rfl rfl (ltn rfl) ?_
                      refine VL.va (op_pick rfl rfl (ltn rfl)) rfl ?_
                      refine VL.done ?_
                      refine VN.then ?_
                      refine VC.cond_t rfl ?_
                      refine VC.seq ?_
                      refine VC.region ?_
                      refine VL.va (op_assign rfl (ltn rfl)) rfl ?_
                      refine VL.done ?_
                      refine VN.then ?_
                      refine VC.ret ?_
                      refine VR.then ?_
                      cases h
                    · rw [if_neg c3734] at h
                      obtain rfl : b3733 = false := hb3733.symm.trans (decide_eq_false c3734)
                      refine VL.va (op_move rfl (ltn rfl)) rfl ?_
                      refine VL.va (op_move rfl (ltn rfl)) rfl ?_
                      refine VL.letter (decide (t3674 > ((wrap64 ((wrap64 ((a1.tmod (wrap64 ((s3658.size : Int) + 1))) + (s3658.size : Int))) + 1)).tmod (wrap64 ((s3658.size : Int) + 1))))) fun b3735 hb3735 => ?_
                      refine VL.va (op_cmp rfl rfl (congrArg some hb3735) (ltn rfl)) rfl ?_
                      refine VL.va (op_pick rfl rfl (ltn rfl)) rfl ?_
                      refine VL.va (op_move rfl (ltn rfl)) rfl ?_
                      by_cases c3736 : t3674 > ((wrap64 ((wrap64 ((a1.tmod (wrap64 ((s3658.size : Int) + 1))) + (s3658.size : Int))) + 1)).tmod (wrap64 ((s3658.size : Int) + 1)))
                      · rw [if_pos c3736] at h
                        obtain rfl : b3735 = true := hb3735.symm.trans (decide_eq_true c3736)
                        refine VL.un rfl rfl (ltn rfl) ?_
                        refine VL.un rfl rfl (ltn rfl) ?_
                        refine VL.un rfl rfl (ltn rfl) ?_
                        refine VL.un rfl rfl (ltn rfl) ?_
                        refine VL.un rfl rfl (ltn rfl) ?_
                        refine VL.va (op_pick rfl rfl (ltn rfl)) rfl ?_
                        refine VL.va (op_move rfl (ltn rfl)) rfl ?_
                        refine VL.un rfl rfl (ltn rfl) ?_
                        refine VL.un rfl rfl (ltn rfl) ?_
                        refine VL.va (op_pick rfl rfl (ltn rfl)) rfl ?_
                        refine VL.done ?_
                        refine VN.then ?_
                        refine VC.cond_t rfl ?_
                        refine VC.seq ?_
                        refine VC.region ?_
                        refine VL.va (op_assign rfl (ltn rfl)) rfl ?_
                        refine VL.done ?_
                        refine VN.then ?_
                        refine VC.ret ?_
                        refine VR.then ?_
                        cases h
                      · rw [if_neg c3736] at h
                        obtain rfl : b3735 = false := hb3735.symm.trans (decide_eq_false c3736)
                        refine VL.va (op_move rfl (ltn rfl)) rfl ?_
                        refine VL.va (op_len_own (m := r3673.length) 0 lenm Try.underlying22 rfl rfl (ltn rfl)) rfl ?_
                        refine VL.va (op_move rfl (ltn rfl)) rfl ?_
                        refine VL.va (op_len_own (m := r105.length) 3 lenm Try.underlying22 rfl rfl (ltn rfl)) rfl ?_
                        refine VL.letter (decide ((r3673.length : Int) > (r105.length : Int))) fun b3737 hb3737 => ?_
                        refine VL.va (op_cmp rfl rfl (congrArg some hb3737) (ltn rfl)) rfl ?_
                        refine VL.va (op_pick rfl rfl (ltn rfl)) rfl ?_
                        refine VL.va (op_move rfl (ltn rfl)) rfl ?_
                        by_cases c3738 : (r3673.length : Int) > (r105.length : Int)
                        · rw [if_pos c3738] at h
                          obtain rfl : b3737 = true := hb3737.symm.trans (decide_eq_true c3738)
                          refine VL.un rfl rfl (ltn rfl) ?_
                          refine VL.un rfl rfl (ltn rfl) ?_
                          refine VL.va (op_pick rfl rfl (ltn rfl)) rfl ?_
                          refine VL.done ?_
                          refine VN.then ?_
                          refine VC.cond_t rfl ?_
                          refine VC.seq ?_
                          refine VC.region ?_
                          refine VL.va (op_assign rfl (ltn rfl)) rfl ?_
                          refine VL.done ?_
                          refine VN.then ?_
                          refine VC.ret ?_
                          refine VR.then ?_
                          cases h
                        · rw [if_neg c3738] at h
                          obtain rfl : b3737 = false := hb3737.symm.trans (decide_eq_false c3738)
                          replace h := Option.bind_eq_some_iff.1 h
                          obtain ⟨t3739, hA3740, h⟩ := h
                          refine VL.sC (o_call0 FO7 (tarrylaw04_alive.ok k t3739 hA3740) rfl rfl (ltn rfl) (All_of .nil)) rfl ?_
                          rintro _ _ _ ⟨rfl, rfl, rfl⟩
                          by_cases c3741 : t3739 = true
                          · rw [if_pos c3741] at h
                            obtain rfl := c3741
                            refine VL.va (op_not rfl rfl (ltn rfl)) rfl ?_
                            refine VL.va (op_pick rfl rfl (ltn rfl)) rfl ?_
                            refine VL.done ?_
                            refine VN.then ?_
                            refine VC.cond_f rfl ?_
                            refine VC.skip ?_
                            refine VN.then ?_
                            refine VC.seq ?_
                            refine VC.region ?_
                            refine VL.va (op_move rfl (ltn rfl)) rfl ?_
                            refine VL.va (op_move rfl (ltn rfl)) rfl ?_
                            refine VL.va (op_len_own (m := r105.length) 3 lenm Try.underlying22 rfl rfl (ltn rfl)) rfl ?_
                            refine VL.freezeRow' 1 rfl ?_
                            by_cases c3755 : 0 ≤ (r105.length : Int)
                            · rw [if_pos c3755] at h
                              by_cases c3756 : (r105.length : Int) ≤ (r3665.length : Int)
                              · rw [if_pos c3756] at h
                                refine VL.sG (o_slice (m := r3665.length) 0 0 ((r105.length : Int).toNat) lenm cutm Try.underlying22 TI9 rfl rfl ⟨rfl, ⟨_, _, rfl, c3755, rfl⟩, by omega, by omega⟩ (ltn rfl)) rfl ?_
                                intro v3758
                                refine VL.va (op_move rfl (ltn rfl)) rfl ?_
                                replace h := Option.bind_eq_some_iff.1 h
                                obtain ⟨t3759, hA3760, h⟩ := h
                                refine VL.sC (o_call_b0 FO10 (tarryref01_Same.ok k ((r3665.take ((r105.length : Int).toNat)).drop 0) r105 v3758 v108 t3759 hA3760) rfl rfl (ltn rfl) (All_of (.cons (.inl (List.mem_of_getElem? (i := 0) rfl)) (.cons (.inr (.inl ⟨_, List.mem_of_getElem? (i := 2) rfl, rfl⟩)) .nil))) (by rintro _ _ _ ⟨rfl, rfl, rfl⟩; rfl)) rfl ?_
                                rintro _ _ _ ⟨rfl, rfl, rfl⟩
                                refine VL.va (op_move rfl (ltn rfl)) rfl ?_
                                by_cases c3761 : t3759 = true
                                · rw [if_pos c3761] at h
                                  obtain rfl := c3761
                                  refine VL.va (op_move rfl (ltn rfl)) rfl ?_
                                  refine VL.va (op_move rfl (ltn rfl)) rfl ?_
                                  refine VL.va (op_move rfl (ltn rfl)) rfl ?_
                                  refine VL.va (op_len_own (m := r3673.length) 0 lenm Try.underlying22 rfl rfl (ltn rfl)) rfl ?_
                                  refine VL.freezeRow' 2 rfl ?_
                                  by_cases c3762 : 0 ≤ (r3673.length : Int)
                                  · rw [if_pos c3762] at h
                                    by_cases c3763 : (r3673.length : Int) ≤ (r105.length : Int)
                                    · rw [if_pos c3763] at h
                                      refine VL.sG (o_slice (m := r105.length) 0 0 ((r3673.length : Int).toNat) lenm cutm Try.underlying22 TI9 rfl rfl ⟨rfl, ⟨_, _, rfl, c3762, rfl⟩, by omega, by omega⟩ (ltn rfl)) rfl ?_
                                      intro v3765
                                      replace h := Option.bind_eq_some_iff.1 h
                                      obtain ⟨t3766, hA3767, h⟩ := h
                                      refine VL.sC (o_call_b0 FO10 (tarryref01_Same.ok k r3673 ((r105.take ((r3673.length : Int).toNat)).drop 0) v3677 v3765 t3766 hA3767) rfl rfl (ltn rfl) (All_of (.cons (.inr (.inl ⟨_, List.mem_of_getElem? (i := 0) rfl, rfl⟩)) (.cons (.inl (List.mem_of_getElem? (i := 0) rfl)) .nil))) (by rintro _ _ _ ⟨rfl, rfl, rfl⟩; rfl)) rfl ?_
                                      rintro _ _ _ ⟨rfl, rfl, rfl⟩
                                      refine VL.va (op_pick rfl rfl (ltn rfl)) rfl ?_
                                      refine VL.va (op_assign rfl (ltn rfl)) rfl ?_
                                      refine VL.done ?_
                                      refine VN.then ?_
                                      refine VC.ret ?_
                                      obtain rfl := Option.some.inj h
                                      exact VR.fn (rs := [.tmp 6]) [] [] [] rfl (.tmp rfl .nil) ⟨rfl, rfl, rfl⟩ trivial rfl (by decide)
                                    · rw [if_neg c3763] at h; cases h
                                  · rw [if_neg c3762] at h; cases h
                                · rw [if_neg c3761] at h
                                  obtain rfl := Bool.eq_false_iff.2 c3761
                                  refine VL.un rfl rfl (ltn rfl) ?_
                                  refine VL.un rfl rfl (ltn rfl) ?_
                                  refine VL.un rfl rfl (ltn rfl) ?_
                                  refine VL.un rfl rfl (ltn rfl) ?_
                                  refine VL.un rfl rfl (ltn rfl) ?_
                                  refine VL.un rfl rfl (ltn rfl) ?_
                                  refine VL.va (op_pick rfl rfl (ltn rfl)) rfl ?_
                                  refine VL.va (op_assign rfl (ltn rfl)) rfl ?_
                                  refine VL.done ?_
                                  refine VN.then ?_
                                  refine VC.ret ?_
                                  cases h
                              · rw [if_neg c3756] at h; cases h
                            · rw [if_neg c3755] at h; cases h
                          · rw [if_neg c3741] at h
                            obtain rfl := Bool.eq_false_iff.2 c3741
                            refine VL.va (op_not rfl rfl (ltn rfl)) rfl ?_
                            refine VL.va (op_pick rfl rfl (ltn rfl)) rfl ?_
                            refine VL.done ?_
                            refine VN.then ?_
                            refine VC.cond_t rfl ?_
                            refine VC.seq ?_
                            refine VC.region ?_
                            refine VL.va (op_assign rfl (ltn rfl)) rfl ?_
                            refine VL.done ?_
                            refine VN.then ?_
                            refine VC.ret ?_
                            refine VR.then ?_
                            cases h
                · rw [if_neg c3730] at h
                  obtain rfl := Bool.eq_false_iff.2 c3730
                  refine VL.va (op_not rfl rfl (ltn rfl)) rfl ?_
                  refine VL.va (op_pick rfl rfl (ltn rfl)) rfl ?_
                  refine VL.va (op_move rfl (ltn rfl)) rfl ?_
                  refine VL.un rfl rfl (ltn rfl) ?_
                  refine VL.un rfl rfl (ltn rfl) ?_
                  refine VL.un rfl rfl (ltn rfl) ?_
                  refine VL.un rfl rfl (ltn rfl) ?_
                  refine VL.va (op_pick rfl rfl (ltn rfl)) rfl ?_
                  refine VL.va (op_move rfl (ltn rfl)) rfl ?_
                  refine VL.un rfl rfl (ltn rfl) ?_
                  refine VL.un rfl rfl (ltn rfl) ?_
                  refine VL.un rfl rfl (ltn rfl) ?_
                  refine VL.un rfl rfl (ltn rfl) ?_
                  refine VL.un rfl rfl (ltn rfl) ?_
                  refine VL.va (op_pick rfl rfl (ltn rfl)) rfl ?_
                  refine VL.va (op_move rfl (ltn rfl)) rfl ?_
                  refine VL.un rfl rfl (ltn rfl) ?_
                  refine VL.un rfl rfl (ltn rfl) ?_
                  refine VL.un rfl rfl (ltn rfl) ?_
                  refine VL.va (op_pick rfl rfl (ltn rfl)) rfl ?_
                  refine VL.va (op_move rfl (ltn rfl)) rfl ?_
                  refine VL.un rfl rfl (ltn rfl) ?_
                  refine VL.un rfl rfl (ltn rfl) ?_
                  refine VL.un rfl rfl (ltn rfl) ?_
                  refine VL.un rfl rfl (ltn rfl) ?_
                  refine VL.un rfl rfl (ltn rfl) ?_
                  refine VL.va (op_pick rfl rfl (ltn rfl)) rfl ?_
                  refine VL.va (op_move rfl (ltn rfl)) rfl ?_
                  refine VL.un rfl rfl (ltn rfl) ?_
                  refine VL.un rfl rfl (ltn rfl) ?_
                  refine VL.va (op_pick rfl rfl (ltn rfl)) rfl ?_
                  refine VL.done ?_
                  refine VN.then ?_
                  refine VC.cond_t rfl ?_
                  refine VC.seq ?_
                  refine VC.region ?_
                  refine VL.va (op_assign rfl (ltn rfl)) rfl ?_
                  refine VL.done ?_
                  refine VN.then ?_
                  refine VC.ret ?_
                  refine VR.then ?_
                  cases h
              · rw [if_neg c3727] at h
                obtain rfl : b3726 = true := hb3726.symm.trans (bne_iff_ne.2 c3727)
                refine VL.un rfl rfl (ltn rfl) ?_
                refine VL.un rfl rfl (ltn rfl) ?_
                refine VL.un rfl rfl (ltn rfl) ?_
                refine VL.un rfl rfl (ltn rfl) ?_
                refine VL.va (op_pick rfl rfl (ltn rfl)) rfl ?_
                refine VL.va (op_move rfl (ltn rfl)) rfl ?_
                refine VL.un rfl rfl (ltn rfl) ?_
                refine VL.un rfl rfl (ltn rfl) ?_
                refine VL.un rfl rfl (ltn rfl) ?_
                refine VL.un rfl rfl (ltn rfl) ?_
                refine VL.va (op_pick rfl rfl (ltn rfl)) rfl ?_
                refine VL.va (op_move rfl (ltn rfl)) rfl ?_
                refine VL.un rfl rfl (ltn rfl) ?_
                refine VL.un rfl rfl (ltn rfl) ?_
                refine VL.un rfl rfl (ltn rfl) ?_
                refine VL.un rfl rfl (ltn rfl) ?_
                refine VL.un rfl rfl (ltn rfl) ?_
                refine VL.va (op_pick rfl rfl (ltn rfl)) rfl ?_
                refine VL.va (op_move rfl (ltn rfl)) rfl ?_
                refine VL.un rfl rfl (ltn rfl) ?_
                refine VL.un rfl rfl (ltn rfl) ?_
                refine VL.un rfl rfl (ltn rfl) ?_
                refine VL.va (op_pick rfl rfl (ltn rfl)) rfl ?_
                refine VL.va (op_move rfl (ltn rfl)) rfl ?_
                refine VL.un rfl rfl (ltn rfl) ?_
                refine VL.un rfl rfl (ltn rfl) ?_
                refine VL.un rfl rfl (ltn rfl) ?_
                refine VL.un rfl rfl (ltn rfl) ?_
                refine VL.un rfl rfl (ltn rfl) ?_
                refine VL.va (op_pick rfl rfl (ltn rfl)) rfl ?_
                refine VL.va (op_move rfl (ltn rfl)) rfl ?_
                refine VL.un rfl rfl (ltn rfl) ?_
                refine VL.un rfl rfl (ltn rfl) ?_
                refine VL.va (op_pick rfl rfl (ltn rfl)) rfl ?_
                refine VL.done ?_
                refine VN.then ?_
                refine VC.cond_t rfl ?_
                refine VC.seq ?_
                refine VC.region ?_
                refine VL.va (op_assign rfl (ltn rfl)) rfl ?_
                refine VL.done ?_
                refine VN.then ?_
                refine VC.ret ?_
                refine VR.then ?_
                cases h
            · rw [if_neg c3672] at h; cases h
          · rw [if_neg c3671] at h; cases h
        · rw [if_neg c3670] at h; cases h
      · rw [if_neg c3664] at h; cases h
    · rw [if_neg c110] at h; cases h
  · rw [if_neg c109] at h; cases h

end Go.Proofs.Ytaolaicmfjdmhaa.PFrameBack
