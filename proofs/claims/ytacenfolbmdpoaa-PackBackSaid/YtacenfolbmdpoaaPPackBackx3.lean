/- Written by a program of this repo: what the program's functions do, each as a Lean function, shown of the loaded code; or a statement's row over that; no condition of its own. -/
import Derived.Test.YtacenfolbmdpoaaPPackBackx2
namespace Go.Proofs.Ytacenfolbmdpoaa.PPackBack
open Go Go.RowKit Go.Proofs.YtacenfolbmdpoaaV
set_option linter.unusedVariables false
set_option linter.unusedSimpArgs false

set_option maxHeartbeats 4000000 in
set_option maxRecDepth 100000 in
theorem tarrylaw01_PackBack.ok (k : Nat) (a0 : Int) (l1 : List ByteArray) (a2 : ByteArray) (v1 : Value) (r1 : Bool) (h : tarrylaw01_PackBack.f k a0 l1 a2 = some r1) :
    VCalls Try.prog 7 [.int .i64 a0, v1, .string a2] [.row v1 1 (l1.map enc_str)] (fun v G own => v = .bool r1 ∧ G = [] ∧ own = []) := by
  refine VCalls.intro Try.func7 rfl (len rfl) fun E hC hW hD hU => ?_
  unfold tarrylaw01_PackBack.f at h
  refine VC.seq ?_
  refine VC.region ?_
  refine VL.va (op_assign rfl (ltn rfl)) rfl ?_
  refine VL.done ?_
  refine VN.then ?_
  replace h := Option.bind_eq_some_iff.1 h
  obtain ⟨r105, hA106, h⟩ := h
  by_cases c109 : 0 ≤ mn (a2.size : Int) 10000
  · rw [if_pos c109] at h
    by_cases c110 : (mn (a2.size : Int) 10000) ≤ (a2.size : Int)
    · rw [if_pos c110] at h
      refine VC.join1 (fun (v108 : Value) => ⟨129, [(0, .int .i64 a0), (1, v108), (2, .string (a2.extract 0 ((mn (a2.size : Int) 10000).toNat))), (6, .bool false)], [], [], [(v108, 9, 1, r105.map enc_str)]⟩) (fun (v108 : Value) => True) ?_ ?_
      · refine VC.draw ⟨0, [], [], [], []⟩ (by kernel_rfl) rfl (by kernel_rfl) (n := 9) (listed := LB 9 0) ?_
        refine VA.more ⟨0, [], [.row v1 1 (l1.map enc_str)], [], []⟩ ⟨trivial, trivial, trivial⟩ ?_
        refine VA.va (i := 0) (listed' := LB 9 1) rfl (op_move rfl (ltn rfl)) rfl (by kernel_rfl) (by kernel_rfl) (by kernel_rfl) (by kernel_rfl) ⟨⟨⟨0, rfl⟩, trivial⟩, trivial, trivial⟩ (fun _ _ _ h => h) ?_
        refine VA.va (i := 2) (listed' := LB 9 5) rfl (op_move rfl (ltn rfl)) rfl (by kernel_rfl) (by kernel_rfl) (by kernel_rfl) (by kernel_rfl) ⟨⟨⟨0, rfl⟩, trivial⟩, trivial, trivial⟩ (fun _ _ _ h => h) ?_
        refine VA.va (i := 3) (listed' := LB 9 13) rfl (op_move rfl (ltn rfl)) rfl (by kernel_rfl) (by kernel_rfl) (by kernel_rfl) (by kernel_rfl) ⟨⟨⟨0, rfl⟩, trivial⟩, trivial, trivial⟩ (fun _ _ _ h => h) ?_
        refine VA.va (i := 4) (listed' := LB 9 29) rfl (op_lens Try.underlying9 rfl (ltn rfl)) rfl (by kernel_rfl) (by kernel_rfl) (by kernel_rfl) (by kernel_rfl) ⟨⟨⟨0, rfl⟩, trivial⟩, trivial, trivial⟩ (fun _ _ _ h => h) ?_
        refine VA.va (i := 5) (listed' := LB 9 61) rfl (op_min rfl rfl (ltn rfl)) rfl (by kernel_rfl) (by kernel_rfl) (by kernel_rfl) (by kernel_rfl) ⟨⟨⟨0, rfl⟩, trivial⟩, trivial, trivial⟩ (fun _ _ _ h => h) ?_
        refine VA.va (i := 6) (listed' := LB 9 125) rfl (op_sliceS 0 ((mn (a2.size : Int) 10000).toNat) Try.underlying9 rfl ⟨rfl, ⟨_, _, rfl, c109, rfl⟩, by omega, by omega⟩ rfl (ltn rfl)) rfl (by kernel_rfl) (by kernel_rfl) (by kernel_rfl) (by kernel_rfl) ⟨⟨⟨0, rfl⟩, trivial⟩, trivial, trivial⟩ (fun _ _ _ h => h) ?_
        refine VA.oneC (i := 1) (listed' := LB 9 127) (by kernel_rfl) rfl (o_call0 FO17 (tarrylaw01_few.ok k l1 v1 r105 hA106) rfl rfl (ltn rfl) (All_of (.cons (List.mem_of_getElem? (i := 0) rfl) .nil))) rfl (by kernel_rfl) ?_
        rintro v108 _ _ ⟨_, rfl, rfl, rfl⟩
        refine ⟨⟨⟨⟨0, rfl⟩, trivial⟩, trivial, trivial⟩, ?_⟩
        refine VA.more ⟨0, [], [.row v1 1 (l1.map enc_str)], [], [(v108, 9, 1, r105.map enc_str)]⟩ ⟨⟨⟨0, rfl⟩, trivial⟩, trivial, trivial⟩ ?_
        refine VA.va (i := 7) (listed' := LB 9 255) rfl (op_assign rfl (ltn rfl)) rfl (by kernel_rfl) (by kernel_rfl) (by kernel_rfl) (by kernel_rfl) ⟨⟨⟨0, rfl⟩, trivial⟩, trivial, ⟨⟨0, rfl⟩, trivial⟩⟩ (fun _ _ _ h => h) ?_
        refine VA.va (i := 8) (listed' := LB 9 511) rfl (op_assign rfl (ltn rfl)) rfl (by kernel_rfl) (by kernel_rfl) (by kernel_rfl) (by kernel_rfl) ⟨⟨⟨0, rfl⟩, trivial⟩, trivial, ⟨⟨0, rfl⟩, trivial⟩⟩ (fun _ _ _ h => h) ?_
        refine VA.done (by kernel_rfl) ?_
        exact VN.meet1 v108 [] [0] trivial ⟨rfl, ⟨rfl, rfl, rfl, rfl, trivial⟩, trivial, rfl, by decide, rfl, by decide⟩
      intro v108 _
      refine VC.join0 (⟨129, [(1, v108), (2, .string (a2.extract 0 ((mn (a2.size : Int) 10000).toNat))), (6, .bool false)], [], [], [(v108, 9, 1, r105.map enc_str)]⟩) (tarrylaw01_PackBack.j2 k a2 r105 = some r1) ?_ ?_
      · refine VC.seq ?_
        refine VC.region ?_
        refine VL.va (op_move rfl (ltn rfl)) rfl ?_
        replace h := Option.bind_eq_some_iff.1 h
        obtain ⟨⟨t3286, t3287⟩, hA3288, h⟩ := h
        dsimp only at h
        refine VL.sC (o_call0 FO8 (pack_Number.ok k a0 t3286 t3287 hA3288) rfl rfl (ltn rfl) (All_of .nil)) rfl ?_
        rintro _ _ _ ⟨rfl, rfl, rfl⟩
        refine VL.va (op_move rfl (ltn rfl)) rfl ?_
        refine VL.va (op_extract rfl rfl (ltn rfl)) rfl ?_
        refine VL.va (op_extract rfl rfl (ltn rfl)) rfl ?_
        refine VL.va (op_assign rfl (ltn rfl)) rfl ?_
        refine VL.va (op_assign rfl (ltn rfl)) rfl ?_
        refine VL.done ?_
        refine VN.then ?_
        refine VC.seq ?_
        refine VC.region ?_
        refine VL.va (op_move rfl (ltn rfl)) rfl ?_
        refine VL.letter ((t3287 == 0)) fun b3289 hb3289 => ?_
        refine VL.va (op_cmp rfl rfl (congrArg some hb3289) (ltn rfl)) rfl ?_
        refine VL.done ?_
        refine VN.then ?_
        by_cases c3290 : t3287 = 0
        · rw [if_pos c3290] at h
          obtain rfl : b3289 = true := hb3289.symm.trans (beq_iff_eq.2 c3290)
          refine VC.cond_t rfl ?_
          refine VC.seq ?_
          refine VC.region ?_
          refine VL.va (op_move rfl (ltn rfl)) rfl ?_
          refine VL.va (op_move rfl (ltn rfl)) rfl ?_
          by_cases c3291 : t3286.size + (a2.extract 0 ((mn (a2.size : Int) 10000).toNat)).size ≤ 9223372036854775807
          · rw [if_pos c3291] at h
            refine VL.va (op_adds rfl rfl rfl c3291 (ltn rfl)) rfl ?_
            replace h := Option.bind_eq_some_iff.1 h
            obtain ⟨⟨t3292, t3293, t3294⟩, hA3295, h⟩ := h
            dsimp only at h
            refine VL.sC (o_call0 FO9 (pack_ReadNumber.ok k (t3286 ++ (a2.extract 0 ((mn (a2.size : Int) 10000).toNat))) t3292 t3293 t3294 hA3295) rfl rfl (ltn rfl) (All_of .nil)) rfl ?_
            rintro _ _ _ ⟨rfl, rfl, rfl⟩
            refine VL.va (op_move rfl (ltn rfl)) rfl ?_
            refine VL.va (op_extract rfl rfl (ltn rfl)) rfl ?_
            refine VL.va (op_extract rfl rfl (ltn rfl)) rfl ?_
            refine VL.va (op_extract rfl rfl (ltn rfl)) rfl ?_
            refine VL.va (op_assign rfl (ltn rfl)) rfl ?_
            refine VL.va (op_assign rfl (ltn rfl)) rfl ?_
            refine VL.va (op_assign rfl (ltn rfl)) rfl ?_
            refine VL.done ?_
            refine VN.then ?_
            refine VC.seq ?_
            refine VC.region ?_
            refine VL.va (op_move rfl (ltn rfl)) rfl ?_
            refine VL.letter ((t3294 != 0)) fun b3301 hb3301 => ?_
            refine VL.va (op_cmp rfl rfl (congrArg some hb3301) (ltn rfl)) rfl ?_
            refine VL.va (op_move rfl (ltn rfl)) rfl ?_
            by_cases c3302 : t3294 = 0
            · rw [if_pos c3302] at h
              obtain rfl : b3301 = false := hb3301.symm.trans (bne_eq_false_iff_eq.2 c3302)
              refine VL.va (op_move rfl (ltn rfl)) rfl ?_
              refine VL.va (op_move rfl (ltn rfl)) rfl ?_
              refine VL.letter ((t3292 != a0)) fun b3303 hb3303 => ?_
              refine VL.va (op_cmp rfl rfl (congrArg some hb3303) (ltn rfl)) rfl ?_
              refine VL.va (op_pick rfl rfl (ltn rfl)) rfl ?_
              refine VL.va (op_move rfl (ltn rfl)) rfl ?_
              by_cases c3304 : t3292 = a0
              · rw [if_pos c3304] at h
                obtain rfl : b3303 = false := hb3303.symm.trans (bne_eq_false_iff_eq.2 c3304)
                refine VL.va (op_move rfl (ltn rfl)) rfl ?_
                refine VL.va (op_move rfl (ltn rfl)) rfl ?_
                refine VL.letter ((t3293 != (a2.extract 0 ((mn (a2.size : Int) 10000).toNat)))) fun b3305 hb3305 => ?_
                refine VL.va (op_cmps rfl rfl (congrArg some hb3305) (ltn rfl)) rfl ?_
                refine VL.va (op_pick rfl rfl (ltn rfl)) rfl ?_
                refine VL.done ?_
                refine VN.then ?_
                by_cases c3306 : (t3293 == (a2.extract 0 ((mn (a2.size : Int) 10000).toNat))) = true
                · rw [if_pos c3306] at h
                  obtain rfl : b3305 = false := hb3305.symm.trans (bne_of_t c3306)
                  refine VC.cond_f rfl ?_
                  refine VC.skip ?_
                  refine VN.meet0  [] [0] h ⟨rfl, ⟨rfl, rfl, rfl, trivial⟩, trivial, rfl, by decide, rfl, by decide⟩
                · rw [if_neg c3306] at h
                  obtain rfl : b3305 = true := hb3305.symm.trans (bne_of_f c3306)
                  refine VC.cond_t rfl ?_
                  refine VC.seq ?_
                  refine VC.region ?_
                  refine VL.va (op_assign rfl (ltn rfl)) rfl ?_
                  refine VL.done ?_
                  refine VN.then ?_
                  refine VC.ret ?_
                  refine VR.then ?_
                  cases h
              · rw [if_neg c3304] at h
                obtain rfl : b3303 = true := hb3303.symm.trans (bne_iff_ne.2 c3304)
                refine VL.un rfl rfl (ltn rfl) ?_
                refine VL.un rfl rfl (ltn rfl) ?_
                refine VL.un rfl rfl (ltn rfl) ?_
                refine VL.va (op_pick rfl rfl (ltn rfl)) rfl ?_
                refine VL.done ?_
                refine VN.then ?_
                refine VC.cond_t rfl ?_
                refine VC.seq ?_
                refine VC.region ?_
                refine VL.va (op_assign rfl (ltn rfl)) rfl ?_
                refine VL.done ?_
                refine VN.then ?_
                refine VC.ret ?_
                refine VR.then ?_
                cases h
            · rw [if_neg c3302] at h
              obtain rfl : b3301 = true := hb3301.symm.trans (bne_iff_ne.2 c3302)
              refine VL.un rfl rfl (ltn rfl) ?_
              refine VL.un rfl rfl (ltn rfl) ?_
              refine VL.un rfl rfl (ltn rfl) ?_
              refine VL.va (op_pick rfl rfl (ltn rfl)) rfl ?_
              refine VL.va (op_move rfl (ltn rfl)) rfl ?_
              refine VL.un rfl rfl (ltn rfl) ?_
              refine VL.un rfl rfl (ltn rfl) ?_
              refine VL.un rfl rfl (ltn rfl) ?_
              refine VL.va (op_pick rfl rfl (ltn rfl)) rfl ?_
              refine VL.done ?_
              refine VN.then ?_
              refine VC.cond_t rfl ?_
              refine VC.seq ?_
              refine VC.region ?_
              refine VL.va (op_assign rfl (ltn rfl)) rfl ?_
              refine VL.done ?_
              refine VN.then ?_
              refine VC.ret ?_
              refine VR.then ?_
              cases h
          · rw [if_neg c3291] at h; cases h
        · rw [if_neg c3290] at h
          obtain rfl : b3289 = false := hb3289.symm.trans (beq_eq_false_iff_ne.2 c3290)
          refine VC.cond_f rfl ?_
          refine VC.skip ?_
          refine VN.meet0  [] [0] h ⟨rfl, ⟨rfl, rfl, rfl, trivial⟩, trivial, rfl, by decide, rfl, by decide⟩
      clear h
      intro  h
      unfold tarrylaw01_PackBack.j2 at h
      refine VC.join0 (⟨129, [(2, .string (a2.extract 0 ((mn (a2.size : Int) 10000).toNat))), (6, .bool false)], [], [], []⟩) (tarrylaw01_PackBack.j3 k a2 = some r1) ?_ ?_
      · refine VC.seq ?_
        refine VC.region ?_
        refine VL.va (op_move rfl (ltn rfl)) rfl ?_
        replace h := Option.bind_eq_some_iff.1 h
        obtain ⟨⟨t3579, t3580⟩, hA3581, h⟩ := h
        dsimp only at h
        refine VL.sC (o_call_b0 FO18 (pack_Row.ok k r105 v108 t3579 t3580 hA3581) rfl rfl (ltn rfl) (All_of (.cons (.inr (.inl ⟨_, List.mem_of_getElem? (i := 0) rfl, rfl⟩)) .nil)) (by rintro _ _ _ ⟨rfl, rfl, rfl⟩; rfl)) rfl ?_
        rintro _ _ _ ⟨rfl, rfl, rfl⟩
        refine VL.va (op_move rfl (ltn rfl)) rfl ?_
        refine VL.va (op_extract rfl rfl (ltn rfl)) rfl ?_
        refine VL.va (op_extract rfl rfl (ltn rfl)) rfl ?_
        refine VL.va (op_assign rfl (ltn rfl)) rfl ?_
        refine VL.va (op_assign rfl (ltn rfl)) rfl ?_
        refine VL.done ?_
        refine VN.then ?_
        refine VC.seq ?_
        refine VC.region ?_
        refine VL.va (op_move rfl (ltn rfl)) rfl ?_
        refine VL.letter ((t3580 == 0)) fun b3582 hb3582 => ?_
        refine VL.va (op_cmp rfl rfl (congrArg some hb3582) (ltn rfl)) rfl ?_
        refine VL.done ?_
        refine VN.then ?_
        by_cases c3583 : t3580 = 0
        · rw [if_pos c3583] at h
          obtain rfl : b3582 = true := hb3582.symm.trans (beq_iff_eq.2 c3583)
          refine VC.cond_t rfl ?_
          refine VC.seq ?_
          refine VC.region ?_
          refine VL.va (op_move rfl (ltn rfl)) rfl ?_
          replace h := Option.bind_eq_some_iff.1 h
          obtain ⟨⟨r3584, t3585⟩, hA3586, h⟩ := h
          dsimp only at h
          refine VL.sC (o_call0 FO19 (pack_ReadRow.ok k t3579 r3584 t3585 hA3586) rfl rfl (ltn rfl) (All_of .nil)) rfl ?_
          rintro _ _ _ ⟨v3588, rfl, rfl, rfl⟩
          refine VL.va (op_move rfl (ltn rfl)) rfl ?_
          refine VL.va (op_extract rfl rfl (ltn rfl)) rfl ?_
          refine VL.va (op_extract rfl rfl (ltn rfl)) rfl ?_
          refine VL.va (op_assign rfl (ltn rfl)) rfl ?_
          refine VL.va (op_assign rfl (ltn rfl)) rfl ?_
          refine VL.done ?_
          refine VN.then ?_
          refine VC.seq ?_
          refine VC.region ?_
          refine VL.va (op_move rfl (ltn rfl)) rfl ?_
          refine VL.letter ((t3585 != 0)) fun b3594 hb3594 => ?_
          refine VL.va (op_cmp rfl rfl (congrArg some hb3594) (ltn rfl)) rfl ?_
          refine VL.va (op_move rfl (ltn rfl)) rfl ?_
          by_cases c3595 : t3585 = 0
          · rw [if_pos c3595] at h
            obtain rfl : b3594 = false := hb3594.symm.trans (bne_eq_false_iff_eq.2 c3595)
            refine VL.va (op_move rfl (ltn rfl)) rfl ?_
            refine VL.va (op_move rfl (ltn rfl)) rfl ?_
            replace h := Option.bind_eq_some_iff.1 h
            obtain ⟨t3596, hA3597, h⟩ := h
            refine VL.sC (o_call_b0 FO21 (tarryref01_Same.ok k r3584 r105 v3588 v108 t3596 hA3597) rfl rfl (ltn rfl) (All_of (.cons (.inr (.inl ⟨_, List.mem_of_getElem? (i := 0) rfl, rfl⟩)) (.cons (.inr (.inl ⟨_, List.mem_of_getElem? (i := 1) rfl, rfl⟩)) .nil))) (by rintro _ _ _ ⟨rfl, rfl, rfl⟩; rfl)) rfl ?_
            rintro _ _ _ ⟨rfl, rfl, rfl⟩
            by_cases c3598 : t3596 = true
            · rw [if_pos c3598] at h
              obtain rfl := c3598
              refine VL.va (op_not rfl rfl (ltn rfl)) rfl ?_
              refine VL.va (op_pick rfl rfl (ltn rfl)) rfl ?_
              refine VL.done ?_
              refine VN.then ?_
              refine VC.cond_f rfl ?_
              refine VC.skip ?_
              refine VN.meet0  [] [] h ⟨rfl, ⟨rfl, rfl, trivial⟩, trivial, rfl, by decide, rfl, by decide⟩
            · rw [if_neg c3598] at h
              obtain rfl := Bool.eq_false_iff.2 c3598
              refine VL.va (op_not rfl rfl (ltn rfl)) rfl ?_
              refine VL.va (op_pick rfl rfl (ltn rfl)) rfl ?_
              refine VL.done ?_
              refine VN.then ?_
              refine VC.cond_t rfl ?_
              refine VC.seq ?_
              refine VC.region ?_
              refine VL.va (op_assign rfl (ltn rfl)) rfl ?_
              refine VL.done ?_
              refine VN.then ?_
              refine VC.ret ?_
              refine VR.then ?_
              cases h
          · rw [if_neg c3595] at h
            obtain rfl : b3594 = true := hb3594.symm.trans (bne_iff_ne.2 c3595)
            refine VL.un rfl rfl (ltn rfl) ?_
            refine VL.un rfl rfl (ltn rfl) ?_
            refine VL.un rfl rfl (ltn rfl) ?_
            refine VL.un rfl rfl (ltn rfl) ?_
            refine VL.va (op_pick rfl rfl (ltn rfl)) rfl ?_
            refine VL.done ?_
            refine VN.then ?_
            refine VC.cond_t rfl ?_
            refine VC.seq ?_
            refine VC.region ?_
            refine VL.va (op_assign rfl (ltn rfl)) rfl ?_
            refine VL.done ?_
            refine VN.then ?_
            refine VC.ret ?_
            refine VR.then ?_
            cases h
        · rw [if_neg c3583] at h
          obtain rfl : b3582 = false := hb3582.symm.trans (beq_eq_false_iff_ne.2 c3583)
          refine VC.cond_f rfl ?_
          refine VC.skip ?_
          refine VN.meet0  [] [] h ⟨rfl, ⟨rfl, rfl, trivial⟩, trivial, rfl, by decide, rfl, by decide⟩
      clear h
      intro  h
      unfold tarrylaw01_PackBack.j3 at h
      refine VC.seq ?_
      refine VC.seq ?_
      refine VC.region ?_
      refine VL.va (op_move rfl (ltn rfl)) rfl ?_
      replace h := Option.bind_eq_some_iff.1 h
      obtain ⟨⟨t3617, t3618, t3619⟩, hA3620, h⟩ := h
      dsimp only at h
      refine VL.sC (o_call0 FO9 (pack_ReadNumber.ok k (a2.extract 0 ((mn (a2.size : Int) 10000).toNat)) t3617 t3618 t3619 hA3620) rfl rfl (ltn rfl) (All_of .nil)) rfl ?_
      rintro _ _ _ ⟨rfl, rfl, rfl⟩
      refine VL.va (op_move rfl (ltn rfl)) rfl ?_
      refine VL.va (op_extract rfl rfl (ltn rfl)) rfl ?_
      refine VL.va (op_extract rfl rfl (ltn rfl)) rfl ?_
      refine VL.va (op_extract rfl rfl (ltn rfl)) rfl ?_
      refine VL.va (op_assign rfl (ltn rfl)) rfl ?_
      refine VL.va (op_assign rfl (ltn rfl)) rfl ?_
      refine VL.va (op_assign rfl (ltn rfl)) rfl ?_
      refine VL.done ?_
      refine VN.then ?_
      refine VC.seq ?_
      refine VC.region ?_
      refine VL.va (op_move rfl (ltn rfl)) rfl ?_
      refine VL.letter ((t3619 == 0)) fun b3621 hb3621 => ?_
      refine VL.va (op_cmp rfl rfl (congrArg some hb3621) (ltn rfl)) rfl ?_
      refine VL.done ?_
      refine VN.then ?_
      by_cases c3622 : t3619 = 0
      · rw [if_pos c3622] at h
        obtain rfl : b3621 = true := hb3621.symm.trans (beq_iff_eq.2 c3622)
        refine VC.cond_t rfl ?_
        refine VC.seq ?_
        refine VC.region ?_
        refine VL.va (op_move rfl (ltn rfl)) rfl ?_
        replace h := Option.bind_eq_some_iff.1 h
        obtain ⟨⟨t3623, t3624⟩, hA3625, h⟩ := h
        dsimp only at h
        refine VL.sC (o_call0 FO8 (pack_Number.ok k t3617 t3623 t3624 hA3625) rfl rfl (ltn rfl) (All_of .nil)) rfl ?_
        rintro _ _ _ ⟨rfl, rfl, rfl⟩
        refine VL.va (op_move rfl (ltn rfl)) rfl ?_
        refine VL.va (op_extract rfl rfl (ltn rfl)) rfl ?_
        refine VL.va (op_extract rfl rfl (ltn rfl)) rfl ?_
        refine VL.va (op_assign rfl (ltn rfl)) rfl ?_
        refine VL.va (op_assign rfl (ltn rfl)) rfl ?_
        refine VL.done ?_
        refine VN.then ?_
        refine VC.seq ?_
        refine VC.region ?_
        refine VL.va (op_move rfl (ltn rfl)) rfl ?_
        refine VL.letter ((t3624 != 0)) fun b3630 hb3630 => ?_
        refine VL.va (op_cmp rfl rfl (congrArg some hb3630) (ltn rfl)) rfl ?_
        refine VL.va (op_move rfl (ltn rfl)) rfl ?_
        by_cases c3631 : t3624 = 0
        · rw [if_pos c3631] at h
          obtain rfl : b3630 = false := hb3630.symm.trans (bne_eq_false_iff_eq.2 c3631)
          refine VL.va (op_move rfl (ltn rfl)) rfl ?_
          refine VL.va (op_move rfl (ltn rfl)) rfl ?_
          by_cases c3632 : t3623.size + t3618.size ≤ 9223372036854775807
          · rw [if_pos c3632] at h
            refine VL.va (op_adds rfl rfl rfl c3632 (ltn rfl)) rfl ?_
            refine VL.va (op_move rfl (ltn rfl)) rfl ?_
            refine VL.letter (((t3623 ++ t3618) != (a2.extract 0 ((mn (a2.size : Int) 10000).toNat)))) fun b3633 hb3633 => ?_
            refine VL.va (op_cmps rfl rfl (congrArg some hb3633) (ltn rfl)) rfl ?_
            refine VL.va (op_pick rfl rfl (ltn rfl)) rfl ?_
            refine VL.done ?_
            refine VN.then ?_
            by_cases c3634 : ((t3623 ++ t3618) == (a2.extract 0 ((mn (a2.size : Int) 10000).toNat))) = true
            · rw [if_pos c3634] at h
              obtain rfl : b3633 = false := hb3633.symm.trans (bne_of_t c3634)
              refine VC.cond_f rfl ?_
              refine VC.skip ?_
              refine VN.then ?_
              refine VC.seq ?_
              refine VC.region ?_
              refine VL.va (op_move rfl (ltn rfl)) rfl ?_
              replace h := Option.bind_eq_some_iff.1 h
              obtain ⟨⟨r3635, t3636⟩, hA3637, h⟩ := h
              dsimp only at h
              refine VL.sC (o_call0 FO19 (pack_ReadRow.ok k (a2.extract 0 ((mn (a2.size : Int) 10000).toNat)) r3635 t3636 hA3637) rfl rfl (ltn rfl) (All_of .nil)) rfl ?_
              rintro _ _ _ ⟨v3639, rfl, rfl, rfl⟩
              refine VL.va (op_move rfl (ltn rfl)) rfl ?_
              refine VL.va (op_extract rfl rfl (ltn rfl)) rfl ?_
              refine VL.va (op_extract rfl rfl (ltn rfl)) rfl ?_
              refine VL.va (op_assign rfl (ltn rfl)) rfl ?_
              refine VL.va (op_assign rfl (ltn rfl)) rfl ?_
              refine VL.done ?_
              refine VN.then ?_
              refine VC.seq ?_
              refine VC.seq ?_
              refine VC.region ?_
              refine VL.va (op_move rfl (ltn rfl)) rfl ?_
              refine VL.letter ((t3636 != 0)) fun b3650 hb3650 => ?_
              refine VL.va (op_cmp rfl rfl (congrArg some hb3650) (ltn rfl)) rfl ?_
              refine VL.done ?_
              refine VN.then ?_
              by_cases c3651 : t3636 = 0
              · rw [if_pos c3651] at h
                obtain rfl : b3650 = false := hb3650.symm.trans (bne_eq_false_iff_eq.2 c3651)
                refine VC.cond_f rfl ?_
                refine VC.skip ?_
                refine VN.then ?_
                refine VC.seq ?_
                refine VC.region ?_
                refine VL.va (op_move rfl (ltn rfl)) rfl ?_
                replace h := Option.bind_eq_some_iff.1 h
                obtain ⟨⟨t3652, t3653⟩, hA3654, h⟩ := h
                dsimp only at h
                refine VL.sC (o_call_b0 FO18 (pack_Row.ok k r3635 v3639 t3652 t3653 hA3654) rfl rfl (ltn rfl) (All_of (.cons (.inr (.inl ⟨_, List.mem_of_getElem? (i := 0) rfl, rfl⟩)) .nil)) (by rintro _ _ _ ⟨rfl, rfl, rfl⟩; rfl)) rfl ?_
                rintro _ _ _ ⟨rfl, rfl, rfl⟩
                refine VL.va (op_move rfl (ltn rfl)) rfl ?_
                refine VL.va (op_extract rfl rfl (ltn rfl)) rfl ?_
                refine VL.va (op_extract rfl rfl (ltn rfl)) rfl ?_
                refine VL.va (op_assign rfl (ltn rfl)) rfl ?_
                refine VL.va (op_assign rfl (ltn rfl)) rfl ?_
                refine VL.done ?_
                refine VN.then ?_
                refine VC.seq ?_
                refine VC.region ?_
                replace h := Option.bind_eq_some_iff.1 h
                obtain ⟨t3661, hA3662, h⟩ := h
                refine VL.sC (o_call0 FO11 (tarrylaw01_alive.ok k t3661 hA3662) rfl rfl (ltn rfl) (All_of .nil)) rfl ?_
                rintro _ _ _ ⟨rfl, rfl, rfl⟩
                refine VL.va (op_move rfl (ltn rfl)) rfl ?_
                by_cases c3663 : t3661 = true
                · rw [if_pos c3663] at h
                  obtain rfl := c3663
                  refine VL.va (op_move rfl (ltn rfl)) rfl ?_
                  refine VL.letter ((t3653 == 0)) fun b3664 hb3664 => ?_
                  refine VL.va (op_cmp rfl rfl (congrArg some hb3664) (ltn rfl)) rfl ?_
                  refine VL.va (op_pick rfl rfl (ltn rfl)) rfl ?_
                  refine VL.va (op_move rfl (ltn rfl)) rfl ?_
                  by_cases c3665 : t3653 = 0
                  · rw [if_pos c3665] at h
                    obtain rfl : b3664 = true := hb3664.symm.trans (beq_iff_eq.2 c3665)
                    refine VL.va (op_move rfl (ltn rfl)) rfl ?_
                    refine VL.va (op_move rfl (ltn rfl)) rfl ?_
                    refine VL.letter ((t3652 == (a2.extract 0 ((mn (a2.size : Int) 10000).toNat)))) fun b3666 hb3666 => ?_
                    refine VL.va (op_cmps rfl rfl (congrArg some hb3666) (ltn rfl)) rfl ?_
                    refine VL.va (op_pick rfl rfl (ltn rfl)) rfl ?_
                    refine VL.va (op_assign rfl (ltn rfl)) rfl ?_
                    refine VL.done ?_
                    refine VN.then ?_
                    refine VC.ret ?_
                    obtain rfl := Option.some.inj h
                    subst hb3666
                    exact VR.fn (rs := [.tmp 6]) [] [] [] rfl (.tmp rfl .nil) ⟨rfl, rfl, rfl⟩ trivial rfl (by decide)
                  · rw [if_neg c3665] at h
                    obtain rfl : b3664 = false := hb3664.symm.trans (beq_eq_false_iff_ne.2 c3665)
                    refine VL.un rfl rfl (ltn rfl) ?_
                    refine VL.un rfl rfl (ltn rfl) ?_
                    refine VL.un rfl rfl (ltn rfl) ?_
                    refine VL.va (op_pick rfl rfl (ltn rfl)) rfl ?_
                    refine VL.va (op_assign rfl (ltn rfl)) rfl ?_
                    refine VL.done ?_
                    refine VN.then ?_
                    refine VC.ret ?_
                    cases h
                · rw [if_neg c3663] at h
                  obtain rfl := Bool.eq_false_iff.2 c3663
                  refine VL.un rfl rfl (ltn rfl) ?_
                  refine VL.un rfl rfl (ltn rfl) ?_
                  refine VL.va (op_pick rfl rfl (ltn rfl)) rfl ?_
                  refine VL.va (op_move rfl (ltn rfl)) rfl ?_
                  refine VL.un rfl rfl (ltn rfl) ?_
                  refine VL.un rfl rfl (ltn rfl) ?_
                  refine VL.un rfl rfl (ltn rfl) ?_
                  refine VL.va (op_pick rfl rfl (ltn rfl)) rfl ?_
                  refine VL.va (op_assign rfl (ltn rfl)) rfl ?_
                  refine VL.done ?_
                  refine VN.then ?_
                  refine VC.ret ?_
                  cases h
              · rw [if_neg c3651] at h
                obtain rfl : b3650 = true := hb3650.symm.trans (bne_iff_ne.2 c3651)
                refine VC.cond_t rfl ?_
                refine VC.seq ?_
                refine VC.region ?_
                replace h := Option.bind_eq_some_iff.1 h
                obtain ⟨t3671, hA3672, h⟩ := h
                refine VL.sC (o_call0 FO11 (tarrylaw01_alive.ok k t3671 hA3672) rfl rfl (ltn rfl) (All_of .nil)) rfl ?_
                rintro _ _ _ ⟨rfl, rfl, rfl⟩
                refine VL.va (op_move rfl (ltn rfl)) rfl ?_
                by_cases c3673 : t3671 = true
                · rw [if_pos c3673] at h
                  obtain rfl := c3673
                  refine VL.va (op_move rfl (ltn rfl)) rfl ?_
                  refine VL.va (op_len_own (m := r3635.length) 0 lenm Try.underlying39 rfl rfl (ltn rfl)) rfl ?_
                  refine VL.letter (((r3635.length : Int) == 0)) fun b3674 hb3674 => ?_
                  refine VL.va (op_cmp rfl rfl (congrArg some hb3674) (ltn rfl)) rfl ?_
                  refine VL.va (op_pick rfl rfl (ltn rfl)) rfl ?_
                  refine VL.va (op_assign rfl (ltn rfl)) rfl ?_
                  refine VL.done ?_
                  refine VN.then ?_
                  refine VC.ret ?_
                  refine VR.then ?_
                  obtain rfl := Option.some.inj h
                  subst hb3674
                  exact VR.fn (rs := [.tmp 6]) [] [] [] rfl (.tmp rfl .nil) ⟨rfl, rfl, rfl⟩ trivial rfl (by decide)
                · rw [if_neg c3673] at h
                  obtain rfl := Bool.eq_false_iff.2 c3673
                  refine VL.un rfl rfl (ltn rfl) ?_
                  refine VL.un rfl rfl (ltn rfl) ?_
                  refine VL.un rfl rfl (ltn rfl) ?_
                  refine VL.va (op_pick rfl rfl (ltn rfl)) rfl ?_
                  refine VL.va (op_assign rfl (ltn rfl)) rfl ?_
                  refine VL.done ?_
                  refine VN.then ?_
                  refine VC.ret ?_
                  refine VR.then ?_
                  cases h
            · rw [if_neg c3634] at h
              obtain rfl : b3633 = true := hb3633.symm.trans (bne_of_f c3634)
              refine VC.cond_t rfl ?_
              refine VC.seq ?_
              refine VC.region ?_
              refine VL.va (op_assign rfl (ltn rfl)) rfl ?_
              refine VL.done ?_
              refine VN.then ?_
              refine VC.ret ?_
              refine VR.then ?_
              cases h
          · rw [if_neg c3632] at h; cases h
        · rw [if_neg c3631] at h
          obtain rfl : b3630 = true := hb3630.symm.trans (bne_iff_ne.2 c3631)
          refine VL.un rfl rfl (ltn rfl) ?_
          refine VL.un rfl rfl (ltn rfl) ?_
          refine VL.un rfl rfl (ltn rfl) ?_
          refine VL.un rfl rfl (ltn rfl) ?_
          refine VL.un rfl rfl (ltn rfl) ?_
          refine VL.va (op_pick rfl rfl (ltn rfl)) rfl ?_
          refine VL.done ?_
          refine VN.then ?_
          refine VC.cond_t rfl ?_
          refine VC.seq ?_
          refine VC.region ?_
          refine VL.va (op_assign rfl (ltn rfl)) rfl ?_
          refine VL.done ?_
          refine VN.then ?_
          refine VC.ret ?_
          refine VR.then ?_
          cases h
      · rw [if_neg c3622] at h
        obtain rfl : b3621 = false := hb3621.symm.trans (beq_eq_false_iff_ne.2 c3622)
        refine VC.cond_f rfl ?_
        refine VC.skip ?_
        refine VN.then ?_
        refine VC.seq ?_
        refine VC.region ?_
        refine VL.va (op_move rfl (ltn rfl)) rfl ?_
        replace h := Option.bind_eq_some_iff.1 h
        obtain ⟨⟨r3675, t3676⟩, hA3677, h⟩ := h
        dsimp only at h
        refine VL.sC (o_call0 FO19 (pack_ReadRow.ok k (a2.extract 0 ((mn (a2.size : Int) 10000).toNat)) r3675 t3676 hA3677) rfl rfl (ltn rfl) (All_of .nil)) rfl ?_
        rintro _ _ _ ⟨v3679, rfl, rfl, rfl⟩
        refine VL.va (op_move rfl (ltn rfl)) rfl ?_
        refine VL.va (op_extract rfl rfl (ltn rfl)) rfl ?_
        refine VL.va (op_extract rfl rfl (ltn rfl)) rfl ?_
        refine VL.va (op_assign rfl (ltn rfl)) rfl ?_
        refine VL.va (op_assign rfl (ltn rfl)) rfl ?_
        refine VL.done ?_
        refine VN.then ?_
        refine VC.seq ?_
        refine VC.seq ?_
        refine VC.region ?_
        refine VL.va (op_move rfl (ltn rfl)) rfl ?_
        refine VL.letter ((t3676 != 0)) fun b3690 hb3690 => ?_
        refine VL.va (op_cmp rfl rfl (congrArg some hb3690) (ltn rfl)) rfl ?_
        refine VL.done ?_
        refine VN.then ?_
        by_cases c3691 : t3676 = 0
        · rw [if_pos c3691] at h
          obtain rfl : b3690 = false := hb3690.symm.trans (bne_eq_false_iff_eq.2 c3691)
          refine VC.cond_f rfl ?_
          refine VC.skip ?_
          refine VN.then ?_
          refine VC.seq ?_
          refine VC.region ?_
          refine VL.va (op_move rfl (ltn rfl)) rfl ?_
          replace h := Option.bind_eq_some_iff.1 h
          obtain ⟨⟨t3692, t3693⟩, hA3694, h⟩ := h
          dsimp only at h
          refine VL.sC (o_call_b0 FO18 (pack_Row.ok k r3675 v3679 t3692 t3693 hA3694) rfl rfl (ltn rfl) (All_of (.cons (.inr (.inl ⟨_, List.mem_of_getElem? (i := 0) rfl, rfl⟩)) .nil)) (by rintro _ _ _ ⟨rfl, rfl, rfl⟩; rfl)) rfl ?_
          rintro _ _ _ ⟨rfl, rfl, rfl⟩
          refine VL.va (op_move rfl (ltn rfl)) rfl ?_
          refine VL.va (op_extract rfl rfl (ltn rfl)) rfl ?_
          refine VL.va (op_extract rfl rfl (ltn rfl)) rfl ?_
          refine VL.va (op_assign rfl (ltn rfl)) rfl ?_
          refine VL.va (op_assign rfl (ltn rfl)) rfl ?_
          refine VL.done ?_
          refine VN.then ?_
          refine VC.seq ?_
          refine VC.region ?_
          replace h := Option.bind_eq_some_iff.1 h
          obtain ⟨t3701, hA3702, h⟩ := h
          refine VL.sC (o_call0 FO11 (tarrylaw01_alive.ok k t3701 hA3702) rfl rfl (ltn rfl) (All_of .nil)) rfl ?_
          rintro _ _ _ ⟨rfl, rfl, rfl⟩
          refine VL.va (op_move rfl (ltn rfl)) rfl ?_
          by_cases c3703 : t3701 = true
          · rw [if_pos c3703] at h
            obtain rfl := c3703
            refine VL.va (op_move rfl (ltn rfl)) rfl ?_
            refine VL.letter ((t3693 == 0)) fun b3704 hb3704 => ?_
            refine VL.va (op_cmp rfl rfl (congrArg some hb3704) (ltn rfl)) rfl ?_
            refine VL.va (op_pick rfl rfl (ltn rfl)) rfl ?_
            refine VL.va (op_move rfl (ltn rfl)) rfl ?_
            by_cases c3705 : t3693 = 0
            · rw [if_pos c3705] at h
              obtain rfl : b3704 = true := hb3704.symm.trans (beq_iff_eq.2 c3705)
              refine VL.va (op_move rfl (ltn rfl)) rfl ?_
              refine VL.va (op_move rfl (ltn rfl)) rfl ?_
              refine VL.letter ((t3692 == (a2.extract 0 ((mn (a2.size : Int) 10000).toNat)))) fun b3706 hb3706 => ?_
              refine VL.va (op_cmps rfl rfl (congrArg some hb3706) (ltn rfl)) rfl ?_
              refine VL.va (op_pick rfl rfl (ltn rfl)) rfl ?_
              refine VL.va (op_assign rfl (ltn rfl)) rfl ?_
              refine VL.done ?_
              refine VN.then ?_
              refine VC.ret ?_
              obtain rfl := Option.some.inj h
              subst hb3706
              exact VR.fn (rs := [.tmp 6]) [] [] [] rfl (.tmp rfl .nil) ⟨rfl, rfl, rfl⟩ trivial rfl (by decide)
            · rw [if_neg c3705] at h
              obtain rfl : b3704 = false := hb3704.symm.trans (beq_eq_false_iff_ne.2 c3705)
              refine VL.un rfl rfl (ltn rfl) ?_
              refine VL.un rfl rfl (ltn rfl) ?_
              refine VL.un rfl rfl (ltn rfl) ?_
              refine VL.va (op_pick rfl rfl (ltn rfl)) rfl ?_
              refine VL.va (op_assign rfl (ltn rfl)) rfl ?_
              refine VL.done ?_
              refine VN.then ?_
              refine VC.ret ?_
              cases h
          · rw [if_neg c3703] at h
            obtain rfl := Bool.eq_false_iff.2 c3703
            refine VL.un rfl rfl (ltn rfl) ?_
            refine VL.un rfl rfl (ltn rfl) ?_
            refine VL.va (op_pick rfl rfl (ltn rfl)) rfl ?_
            refine VL.va (op_move rfl (ltn rfl)) rfl ?_
            refine VL.un rfl rfl (ltn rfl) ?_
            refine VL.un rfl rfl (ltn rfl) ?_
            refine VL.un rfl rfl (ltn rfl) ?_
            refine VL.va (op_pick rfl rfl (ltn rfl)) rfl ?_
            refine VL.va (op_assign rfl (ltn rfl)) rfl ?_
            refine VL.done ?_
            refine VN.then ?_
            refine VC.ret ?_
            cases h
        · rw [if_neg c3691] at h
          obtain rfl : b3690 = true := hb3690.symm.trans (bne_iff_ne.2 c3691)
          refine VC.cond_t rfl ?_
          refine VC.seq ?_
          refine VC.region ?_
          replace h := Option.bind_eq_some_iff.1 h
          obtain ⟨t3711, hA3712, h⟩ := h
          refine VL.sC (o_call0 FO11 (tarrylaw01_alive.ok k t3711 hA3712) rfl rfl (ltn rfl) (All_of .nil)) rfl ?_
          rintro _ _ _ ⟨rfl, rfl, rfl⟩
          refine VL.va (op_move rfl (ltn rfl)) rfl ?_
          by_cases c3713 : t3711 = true
          · rw [if_pos c3713] at h
            obtain rfl := c3713
            refine VL.va (op_move rfl (ltn rfl)) rfl ?_
            refine VL.va (op_len_own (m := r3675.length) 0 lenm Try.underlying39 rfl rfl (ltn rfl)) rfl ?_
            refine VL.letter (((r3675.length : Int) == 0)) fun b3714 hb3714 => ?_
            refine VL.va (op_cmp rfl rfl (congrArg some hb3714) (ltn rfl)) rfl ?_
            refine VL.va (op_pick rfl rfl (ltn rfl)) rfl ?_
            refine VL.va (op_assign rfl (ltn rfl)) rfl ?_
            refine VL.done ?_
            refine VN.then ?_
            refine VC.ret ?_
            refine VR.then ?_
            obtain rfl := Option.some.inj h
            subst hb3714
            exact VR.fn (rs := [.tmp 6]) [] [] [] rfl (.tmp rfl .nil) ⟨rfl, rfl, rfl⟩ trivial rfl (by decide)
          · rw [if_neg c3713] at h
            obtain rfl := Bool.eq_false_iff.2 c3713
            refine VL.un rfl rfl (ltn rfl) ?_
            refine VL.un rfl rfl (ltn rfl) ?_
            refine VL.un rfl rfl (ltn rfl) ?_
            refine VL.va (op_pick rfl rfl (ltn rfl)) rfl ?_
            refine VL.va (op_assign rfl (ltn rfl)) rfl ?_
            refine VL.done ?_
            refine VN.then ?_
            refine VC.ret ?_
            refine VR.then ?_
            cases h
    · rw [if_neg c110] at h; cases h
  · rw [if_neg c109] at h; cases h

end Go.Proofs.Ytacenfolbmdpoaa.PPackBack
