/- Written by a program of this repo: what the program's functions do, each as a Lean function, shown of the loaded code; or a statement's row over that; no condition of its own. -/
import Derived.Test.YtaolaicmfjdmhaaPFrameHurtx3
namespace Go.Proofs.Ytaolaicmfjdmhaa.PFrameHurt
open Go Go.RowKit Go.Proofs.YtaolaicmfjdmhaaV
set_option linter.unusedVariables false
set_option linter.unusedSimpArgs false

set_option maxHeartbeats 4000000 in
set_option maxRecDepth 100000 in
theorem tarrylaw04_FrameHurt.ok (k : Nat) (l0 : List ByteArray) (a1 : Int) (a2 : Int) (a3 : Int) (v0 : Value) (r1 : Bool) (h : tarrylaw04_FrameHurt.f k l0 a1 a2 a3 = some r1) :
    VCalls Try.prog 3 [v0, .int .i64 a1, .int .i64 a2, .int .u32 a3] [.row v0 1 (l0.map enc_str)] (fun v G own => v = .bool r1 ∧ G = [] ∧ own = []) := by
  refine VCalls.introU (fun T => T = 5) Try.func3 rfl (len rfl) fun E hC hW hD hU => ?_
  unfold tarrylaw04_FrameHurt.f at h
  refine VC.seq ?_
  refine VC.region ?_
  refine VL.va (op_assign rfl (ltn rfl)) rfl ?_
  refine VL.done ?_
  refine VN.then ?_
  refine VC.seq ?_
  refine VC.region ?_
  refine VL.va (op_move rfl (ltn rfl)) rfl ?_
  replace h := Option.bind_eq_some_iff.1 h
  obtain ⟨r105, hA106, h⟩ := h
  refine VL.sC (o_call0 FO6 (tarrylaw04_few.ok k l0 v0 r105 hA106) rfl rfl (ltn rfl) (All_of (.cons (List.mem_of_getElem? (i := 0) rfl) .nil))) rfl ?_
  rintro v108 _ _ ⟨_, rfl, rfl, rfl⟩
  refine VL.va (op_assign rfl (ltn rfl)) rfl ?_
  refine VL.done ?_
  refine VN.then ?_
  refine VC.seq ?_
  refine VC.join1 (fun (q5142 : Bool) => ⟨150, [(0, v108), (1, .int .i64 a1), (2, .int .i64 a2), (3, .int .u32 a3), (8, .bool false), (29, .bool q5142)], [], [], [(v108, 9, 1, r105.map enc_str)]⟩) (fun (q5142 : Bool) => tarrylaw04_FrameHurt.j19 k a1 a2 a3 r105 q5142 = some r1) ?_ ?_
  · refine VC.region ?_
    refine VL.va (op_move rfl (ltn rfl)) rfl ?_
    refine VL.va (op_len_own (m := r105.length) 0 lenm Try.underlying22 rfl rfl (ltn rfl)) rfl ?_
    refine VL.letter (((r105.length : Int) == 0)) fun b5139 hb5139 => ?_
    refine VL.va (op_cmp rfl rfl (congrArg some hb5139) (ltn rfl)) rfl ?_
    refine VL.va (op_move rfl (ltn rfl)) rfl ?_
    by_cases c5140 : (r105.length : Int) = 0
    · rw [if_pos c5140] at h
      obtain rfl : b5139 = true := hb5139.symm.trans (beq_iff_eq.2 c5140)
      refine VL.un rfl rfl (ltn rfl) ?_
      refine VL.un rfl rfl (ltn rfl) ?_
      refine VL.va (op_pick rfl rfl (ltn rfl)) rfl ?_
      refine VL.done ?_
      refine VN.meet1 true [] [0] h ⟨rfl, ⟨rfl, rfl, rfl, rfl, rfl, rfl, trivial⟩, trivial, rfl, by decide, rfl, by decide⟩
    · rw [if_neg c5140] at h
      obtain rfl : b5139 = false := hb5139.symm.trans (beq_eq_false_iff_ne.2 c5140)
      refine VL.va (op_move rfl (ltn rfl)) rfl ?_
      refine VL.letter ((a3 == 0)) fun b5141 hb5141 => ?_
      refine VL.va (op_cmp rfl rfl (congrArg some hb5141) (ltn rfl)) rfl ?_
      refine VL.va (op_pick rfl rfl (ltn rfl)) rfl ?_
      refine VL.done ?_
      subst hb5141
      refine VN.meet1 (a3 == 0) [] [0] h ⟨rfl, ⟨rfl, rfl, rfl, rfl, rfl, rfl, trivial⟩, trivial, rfl, by decide, rfl, by decide⟩
  clear h
  intro q5142 h
  unfold tarrylaw04_FrameHurt.j19 at h
  by_cases c5143 : q5142 = true
  · rw [if_pos c5143] at h
    obtain rfl := c5143
    refine VC.cond_t rfl ?_
    refine VC.seq ?_
    refine VC.region ?_
    replace h := Option.bind_eq_some_iff.1 h
    obtain ⟨t5144, hA5145, h⟩ := h
    refine VL.sC (o_call0 FO7 (tarrylaw04_alive.ok k t5144 hA5145) rfl rfl (ltn rfl) (All_of .nil)) rfl ?_
    rintro _ _ _ ⟨rfl, rfl, rfl⟩
    refine VL.va (op_assign rfl (ltn rfl)) rfl ?_
    refine VL.done ?_
    refine VN.then ?_
    refine VC.ret ?_
    refine VR.then ?_
    obtain rfl := Option.some.inj h
    exact VR.fn (rs := [.tmp 8]) [] [] [] rfl (.tmp rfl .nil) ⟨rfl, rfl, rfl⟩ trivial rfl (by decide)
  · rw [if_neg c5143] at h
    obtain rfl := Bool.eq_false_iff.2 c5143
    refine VC.cond_f rfl ?_
    refine VC.skip ?_
    refine VN.then ?_
    refine VC.seq ?_
    refine VC.region ?_
    refine VL.va (op_move rfl (ltn rfl)) rfl ?_
    refine VL.va (op_move rfl (ltn rfl)) rfl ?_
    refine VL.va (op_len_own (m := r105.length) 0 lenm Try.underlying22 rfl rfl (ltn rfl)) rfl ?_
    by_cases c5146 : (r105.length : Int) ≠ 0
    · rw [if_pos c5146] at h
      refine VL.va (op_rem rfl rfl c5146 rfl (ltn rfl)) rfl ?_
      refine VL.va (op_move rfl (ltn rfl)) rfl ?_
      refine VL.va (op_len_own (m := r105.length) 0 lenm Try.underlying22 rfl rfl (ltn rfl)) rfl ?_
      refine VL.va (op_ari64 rfl rfl rfl (ltn rfl)) rfl ?_
      refine VL.va (op_move rfl (ltn rfl)) rfl ?_
      refine VL.va (op_len_own (m := r105.length) 0 lenm Try.underlying22 rfl rfl (ltn rfl)) rfl ?_
      refine VL.va (op_rem rfl rfl c5146 rfl (ltn rfl)) rfl ?_
      refine VL.va (op_assign rfl (ltn rfl)) rfl ?_
      refine VL.done ?_
      refine VN.then ?_
      refine VC.seq ?_
      refine VC.region ?_
      refine VL.va (op_assign rfl (ltn rfl)) rfl ?_
      refine VL.va (op_assign rfl (ltn rfl)) rfl ?_
      refine VL.done ?_
      refine VN.then ?_
      refine VC.join2 (fun (s6549 : ByteArray) (i6550 : Int) => ⟨150, [(0, v108), (1, .int .i64 ((wrap64 ((a1.tmod (r105.length : Int)) + (r105.length : Int))).tmod (r105.length : Int))), (2, .int .i64 a2), (3, .int .u32 a3), (8, .bool false), (9, .string s6549), (10, .int .i64 i6550)], [], [], [(v108, 9, 1, r105.map enc_str)]⟩) (fun (s6549 : ByteArray) (i6550 : Int) => tarrylaw04_FrameHurt.j32 k a1 a2 a3 r105 s6549 i6550 = some r1) ?_ ?_
      · refine VC.seq ?_
        refine VC.region ?_
        refine VL.va (op_move rfl (ltn rfl)) rfl ?_
        refine VL.va (op_len_own (m := r105.length) 0 lenm Try.underlying22 rfl rfl (ltn rfl)) rfl ?_
        refine VL.va (op_move rfl (ltn rfl)) rfl ?_
        refine VL.done ?_
        refine VN.then ?_
        refine VC.block ?_
        refine VC.loop3 (fun (s6472 : ByteArray) (i6473 : Int) (i6474 : Int) => ⟨150, [(0, v108), (1, .int .i64 ((wrap64 ((a1.tmod (r105.length : Int)) + (r105.length : Int))).tmod (r105.length : Int))), (2, .int .i64 a2), (3, .int .u32 a3), (8, .bool false), (9, .string s6472), (10, .int .i64 i6473), (41, v108), (42, .int .i64 (r105.length : Int)), (43, .int .i64 i6474)], [], [], [(v108, 9, 1, r105.map enc_str)]⟩) (fun (ml33 : Nat) (s6472 : ByteArray) (i6473 : Int) (i6474 : Int) => tarrylaw04_FrameHurt.l33 k a1 a2 a3 r105 ml33 s6472 i6473 i6474 = some r1) k (⟨#[]⟩ : ByteArray) 0 0 [] [0] h ⟨rfl, ⟨rfl, rfl, rfl, rfl, rfl, rfl, rfl, rfl, rfl, rfl, trivial⟩, trivial, rfl, by decide, rfl, by decide⟩ (by intros; simp [tarrylaw04_FrameHurt.l33]) ?_
        clear h
        intro ml33 ihl33 s6472 i6473 i6474 h
        simp only [tarrylaw04_FrameHurt.l33] at h
        refine VC.seq ?_
        refine VC.region ?_
        refine VL.letter (decide (i6474 < (r105.length : Int))) fun b6512 hb6512 => ?_
        refine VL.va (op_cmp rfl rfl (congrArg some hb6512) (ltn rfl)) rfl ?_
        refine VL.done ?_
        refine VN.then ?_
        refine VC.seq ?_
        by_cases c6514 : i6474 < (r105.length : Int)
        · rw [if_pos c6514] at h
          obtain rfl : b6512 = true := hb6512.symm.trans (decide_eq_true c6514)
          refine VC.cond_t rfl ?_
          refine VC.skip ?_
          refine VN.then ?_
          refine VC.seq ?_
          refine VC.block ?_
          refine VC.seq ?_
          refine VC.region ?_
          refine VL.va (op_move rfl (ltn rfl)) rfl ?_
          by_cases c6532 : 0 ≤ i6474
          · rw [if_pos c6532] at h
            replace h := Option.bind_eq_some_iff.1 h
            obtain ⟨x6533, hx6533, h⟩ := h
            refine VL.openR (m := r105.length) 0 lenm rfl (pos_get hx6533) ?_
            rintro g6534 n6535 rfl
            refine VL.va (op_indexAddr Try.underlying22 TI9 rfl rfl c6532 (lt_get c6532 hx6533) (add_zero_at _ _) (ltn rfl)) rfl ?_
            refine VL.va (op_load_own (sz := 1) (o := 0) 0 i6474.toNat 1 rfl rfl (get_map hx6533) TI9 rfl (by decide) (ltn rfl)) rfl ?_
            refine VL.va (op_assign rfl (ltn rfl)) rfl ?_
            refine VL.va (op_assign rfl (ltn rfl)) rfl ?_
            refine VL.done ?_
            refine VN.then ?_
            refine VC.seq ?_
            refine VC.region ?_
            refine VL.va (op_move rfl (ltn rfl)) rfl ?_
            replace h := Option.bind_eq_some_iff.1 h
            obtain ⟨⟨t6536, t6537⟩, hA6538, h⟩ := h
            dsimp only at h
            refine VL.sC (o_call0 FO8 (frame_Frame.ok k x6533 t6536 t6537 hA6538) rfl rfl (ltn rfl) (All_of .nil)) rfl ?_
            rintro _ _ _ ⟨rfl, rfl, rfl⟩
            refine VL.va (op_move rfl (ltn rfl)) rfl ?_
            refine VL.va (op_extract rfl rfl (ltn rfl)) rfl ?_
            refine VL.va (op_extract rfl rfl (ltn rfl)) rfl ?_
            refine VL.va (op_assign rfl (ltn rfl)) rfl ?_
            refine VL.va (op_assign rfl (ltn rfl)) rfl ?_
            refine VL.done ?_
            refine VN.then ?_
            refine VC.seq ?_
            refine VC.seq ?_
            refine VC.region ?_
            refine VL.va (op_move rfl (ltn rfl)) rfl ?_
            refine VL.letter ((t6537 != 0)) fun b6541 hb6541 => ?_
            refine VL.va (op_cmp rfl rfl (congrArg some hb6541) (ltn rfl)) rfl ?_
            refine VL.done ?_
            refine VN.then ?_
            by_cases c6542 : t6537 = 0
            · rw [if_pos c6542] at h
              obtain rfl : b6541 = false := hb6541.symm.trans (bne_eq_false_iff_eq.2 c6542)
              refine VC.cond_f rfl ?_
              refine VC.skip ?_
              refine VN.then ?_
              refine VC.seq ?_
              refine VC.seq ?_
              refine VC.region ?_
              refine VL.va (op_move rfl (ltn rfl)) rfl ?_
              refine VL.va (op_move rfl (ltn rfl)) rfl ?_
              refine VL.letter ((i6474 == ((wrap64 ((a1.tmod (r105.length : Int)) + (r105.length : Int))).tmod (r105.length : Int)))) fun b6545 hb6545 => ?_
              refine VL.va (op_cmp rfl rfl (congrArg some hb6545) (ltn rfl)) rfl ?_
              refine VL.done ?_
              refine VN.then ?_
              by_cases c6546 : i6474 = ((wrap64 ((a1.tmod (r105.length : Int)) + (r105.length : Int))).tmod (r105.length : Int))
              · rw [if_pos c6546] at h
                obtain rfl : b6545 = true := hb6545.symm.trans (beq_iff_eq.2 c6546)
                refine VC.cond_t rfl ?_
                refine VC.region ?_
                refine VL.va (op_move rfl (ltn rfl)) rfl ?_
                refine VL.va (op_lens Try.underlying9 rfl (ltn rfl)) rfl ?_
                refine VL.va (op_move rfl (ltn rfl)) rfl ?_
                refine VL.va (op_lens Try.underlying9 rfl (ltn rfl)) rfl ?_
                refine VL.va (op_ari64 rfl rfl rfl (ltn rfl)) rfl ?_
                refine VL.va (op_ari64 rfl rfl rfl (ltn rfl)) rfl ?_
                refine VL.va (op_move rfl (ltn rfl)) rfl ?_
                refine VL.va (op_lens Try.underlying9 rfl (ltn rfl)) rfl ?_
                refine VL.va (op_ari64 rfl rfl rfl (ltn rfl)) rfl ?_
                refine VL.va (op_assign rfl (ltn rfl)) rfl ?_
                refine VL.done ?_
                refine VN.then ?_
                refine VC.region ?_
                refine VL.va (op_move rfl (ltn rfl)) rfl ?_
                refine VL.va (op_move rfl (ltn rfl)) rfl ?_
                by_cases c6547 : s6472.size + t6536.size ≤ 9223372036854775807
                · rw [if_pos c6547] at h
                  refine VL.va (op_adds rfl rfl rfl c6547 (ltn rfl)) rfl ?_
                  refine VL.va (op_assign rfl (ltn rfl)) rfl ?_
                  refine VL.done ?_
                  refine VN.block ?_
                  refine VN.then ?_
                  refine VC.region ?_
                  refine VL.va (op_ari64 rfl rfl rfl (ltn rfl)) rfl ?_
                  refine VL.va (op_move rfl (ltn rfl)) rfl ?_
                  refine VL.done ?_
                  refine VN.again [] [0] (ihl33 (s6472 ++ t6536) (wrap64 ((wrap64 ((wrap64 ((s6472.size : Int) + (t6536.size : Int))) - 4)) - (x6533.size : Int))) (wrap64 (i6474 + 1)) h) ⟨rfl, ⟨rfl, rfl, rfl, rfl, rfl, rfl, rfl, rfl, rfl, rfl, trivial⟩, trivial, rfl, by decide, rfl, by decide⟩
                · rw [if_neg c6547] at h; cases h
              · rw [if_neg c6546] at h
                obtain rfl : b6545 = false := hb6545.symm.trans (beq_eq_false_iff_ne.2 c6546)
                refine VC.cond_f rfl ?_
                refine VC.skip ?_
                refine VN.then ?_
                refine VC.region ?_
                refine VL.va (op_move rfl (ltn rfl)) rfl ?_
                refine VL.va (op_move rfl (ltn rfl)) rfl ?_
                by_cases c6548 : s6472.size + t6536.size ≤ 9223372036854775807
                · rw [if_pos c6548] at h
                  refine VL.va (op_adds rfl rfl rfl c6548 (ltn rfl)) rfl ?_
                  refine VL.va (op_assign rfl (ltn rfl)) rfl ?_
                  refine VL.done ?_
                  refine VN.block ?_
                  refine VN.then ?_
                  refine VC.region ?_
                  refine VL.va (op_ari64 rfl rfl rfl (ltn rfl)) rfl ?_
                  refine VL.va (op_move rfl (ltn rfl)) rfl ?_
                  refine VL.done ?_
                  refine VN.again [] [0] (ihl33 (s6472 ++ t6536) i6473 (wrap64 (i6474 + 1)) h) ⟨rfl, ⟨rfl, rfl, rfl, rfl, rfl, rfl, rfl, rfl, rfl, rfl, trivial⟩, trivial, rfl, by decide, rfl, by decide⟩
                · rw [if_neg c6548] at h; cases h
            · rw [if_neg c6542] at h
              obtain rfl : b6541 = true := hb6541.symm.trans (bne_iff_ne.2 c6542)
              refine VC.cond_t rfl ?_
              refine VC.seq ?_
              refine VC.region ?_
              refine VL.va (op_assign rfl (ltn rfl)) rfl ?_
              refine VL.done ?_
              refine VN.then ?_
              refine VC.ret ?_
              refine VR.then ?_
              refine VR.block ?_
              refine VR.then ?_
              refine VR.then ?_
              refine VR.block ?_
              refine VR.then ?_
              cases h
          · rw [if_neg c6532] at h; cases h
        · rw [if_neg c6514] at h
          obtain rfl : b6512 = false := hb6512.symm.trans (decide_eq_false c6514)
          refine VC.cond_f rfl ?_
          refine VC.exit ?_
          refine VX.then ?_
          refine VX.then ?_
          refine VX.hit ?_
          refine VN.meet2 s6472 i6473 [] [0] h ⟨rfl, ⟨rfl, rfl, rfl, rfl, rfl, rfl, rfl, trivial⟩, trivial, rfl, by decide, rfl, by decide⟩
      clear h
      intro s6549 i6550 h
      unfold tarrylaw04_FrameHurt.j32 at h
      refine VC.seq ?_
      refine VC.region ?_
      refine VL.va (op_move rfl (ltn rfl)) rfl ?_
      refine VL.va (op_move rfl (ltn rfl)) rfl ?_
      by_cases c6551 : 0 ≤ (wrap64 ((a1.tmod (r105.length : Int)) + (r105.length : Int))).tmod (r105.length : Int)
      · rw [if_pos c6551] at h
        replace h := Option.bind_eq_some_iff.1 h
        obtain ⟨x6552, hx6552, h⟩ := h
        refine VL.openR (m := r105.length) 0 lenm rfl (pos_get hx6552) ?_
        rintro g6553 n6554 rfl
        refine VL.va (op_indexAddr Try.underlying22 TI9 rfl rfl c6551 (lt_get c6551 hx6552) (add_zero_at _ _) (ltn rfl)) rfl ?_
        refine VL.va (op_load_own (sz := 1) (o := 0) 0 ((wrap64 ((a1.tmod (r105.length : Int)) + (r105.length : Int))).tmod (r105.length : Int)).toNat 1 rfl rfl (get_map hx6552) TI9 rfl (by decide) (ltn rfl)) rfl ?_
        refine VL.va (op_lens Try.underlying9 rfl (ltn rfl)) rfl ?_
        refine VL.va (op_ari64 rfl rfl rfl (ltn rfl)) rfl ?_
        refine VL.va (op_assign rfl (ltn rfl)) rfl ?_
        refine VL.done ?_
        refine VN.then ?_
        refine VC.seq ?_
        refine VC.join1 (fun (q6837 : Bool) => ⟨150, [(0, (.slice (some ⟨g6553, 0, none⟩) r105.length n6554)), (1, .int .i64 ((wrap64 ((a1.tmod (r105.length : Int)) + (r105.length : Int))).tmod (r105.length : Int))), (2, .int .i64 a2), (3, .int .u32 a3), (8, .bool false), (9, .string s6549), (10, .int .i64 i6550), (15, .int .i64 (wrap64 (8 * (x6552.size : Int)))), (91, .bool q6837)], [], [], [((.slice (some ⟨g6553, 0, none⟩) r105.length n6554), 9, 1, r105.map enc_str)]⟩) (fun (q6837 : Bool) => tarrylaw04_FrameHurt.j36 k a1 a2 a3 i6550 r105 s6549 x6552 q6837 = some r1) ?_ ?_
        · refine VC.region ?_
          refine VL.va (op_move rfl (ltn rfl)) rfl ?_
          refine VL.letter (((wrap64 (8 * (x6552.size : Int))) == 0)) fun b6832 hb6832 => ?_
          refine VL.va (op_cmp rfl rfl (congrArg some hb6832) (ltn rfl)) rfl ?_
          refine VL.va (op_move rfl (ltn rfl)) rfl ?_
          by_cases c6833 : (wrap64 (8 * (x6552.size : Int))) = 0
          · rw [if_pos c6833] at h
            obtain rfl : b6832 = true := hb6832.symm.trans (beq_iff_eq.2 c6833)
            refine VL.un rfl rfl (ltn rfl) ?_
            refine VL.un rfl rfl (ltn rfl) ?_
            refine VL.va (op_pick rfl rfl (ltn rfl)) rfl ?_
            refine VL.va (op_move rfl (ltn rfl)) rfl ?_
            refine VL.un rfl rfl (ltn rfl) ?_
            refine VL.un rfl rfl (ltn rfl) ?_
            refine VL.un rfl rfl (ltn rfl) ?_
            refine VL.un rfl rfl (ltn rfl) ?_
            refine VL.un rfl rfl (ltn rfl) ?_
            refine VL.un rfl rfl (ltn rfl) ?_
            refine VL.un rfl rfl (ltn rfl) ?_
            refine VL.va (op_pick rfl rfl (ltn rfl)) rfl ?_
            refine VL.done ?_
            refine VN.meet1 true [] [0] h ⟨rfl, ⟨rfl, rfl, rfl, rfl, rfl, rfl, rfl, rfl, rfl, trivial⟩, trivial, rfl, by decide, rfl, by decide⟩
          · rw [if_neg c6833] at h
            obtain rfl : b6832 = false := hb6832.symm.trans (beq_eq_false_iff_ne.2 c6833)
            refine VL.va (op_move rfl (ltn rfl)) rfl ?_
            refine VL.letter (decide (i6550 < 0)) fun b6834 hb6834 => ?_
            refine VL.va (op_cmp rfl rfl (congrArg some hb6834) (ltn rfl)) rfl ?_
            refine VL.va (op_pick rfl rfl (ltn rfl)) rfl ?_
            refine VL.va (op_move rfl (ltn rfl)) rfl ?_
            by_cases c6835 : i6550 < 0
            · rw [if_pos c6835] at h
              obtain rfl : b6834 = true := hb6834.symm.trans (decide_eq_true c6835)
              refine VL.un rfl rfl (ltn rfl) ?_
              refine VL.un rfl rfl (ltn rfl) ?_
              refine VL.un rfl rfl (ltn rfl) ?_
              refine VL.un rfl rfl (ltn rfl) ?_
              refine VL.un rfl rfl (ltn rfl) ?_
              refine VL.un rfl rfl (ltn rfl) ?_
              refine VL.un rfl rfl (ltn rfl) ?_
              refine VL.va (op_pick rfl rfl (ltn rfl)) rfl ?_
              refine VL.done ?_
              refine VN.meet1 true [] [0] h ⟨rfl, ⟨rfl, rfl, rfl, rfl, rfl, rfl, rfl, rfl, rfl, trivial⟩, trivial, rfl, by decide, rfl, by decide⟩
            · rw [if_neg c6835] at h
              obtain rfl : b6834 = false := hb6834.symm.trans (decide_eq_false c6835)
              refine VL.va (op_move rfl (ltn rfl)) rfl ?_
              refine VL.va (op_move rfl (ltn rfl)) rfl ?_
              refine VL.va (op_quo rfl rfl (by decide) rfl (ltn rfl)) rfl ?_
              refine VL.va (op_ari64 rfl rfl rfl (ltn rfl)) rfl ?_
              refine VL.va (op_move rfl (ltn rfl)) rfl ?_
              refine VL.va (op_lens Try.underlying9 rfl (ltn rfl)) rfl ?_
              refine VL.letter (decide ((wrap64 (i6550 + (IntKind.i64.wrap ((wrap64 (8 * (x6552.size : Int))).tdiv 8)))) > (s6549.size : Int))) fun b6836 hb6836 => ?_
              refine VL.va (op_cmp rfl rfl (congrArg some hb6836) (ltn rfl)) rfl ?_
              refine VL.va (op_pick rfl rfl (ltn rfl)) rfl ?_
              refine VL.done ?_
              subst hb6836
              refine VN.meet1 (decide ((wrap64 (i6550 + (IntKind.i64.wrap ((wrap64 (8 * (x6552.size : Int))).tdiv 8)))) > (s6549.size : Int))) [] [0] h ⟨rfl, ⟨rfl, rfl, rfl, rfl, rfl, rfl, rfl, rfl, rfl, trivial⟩, trivial, rfl, by decide, rfl, by decide⟩
        clear h
        intro q6837 h
        unfold tarrylaw04_FrameHurt.j36 at h
        by_cases c6838 : q6837 = true
        · rw [if_pos c6838] at h
          obtain rfl := c6838
          refine VC.cond_t rfl ?_
          refine VC.seq ?_
          refine VC.region ?_
          replace h := Option.bind_eq_some_iff.1 h
          obtain ⟨t6839, hA6840, h⟩ := h
          refine VL.sC (o_call0 FO7 (tarrylaw04_alive.ok k t6839 hA6840) rfl rfl (ltn rfl) (All_of .nil)) rfl ?_
          rintro _ _ _ ⟨rfl, rfl, rfl⟩
          refine VL.va (op_assign rfl (ltn rfl)) rfl ?_
          refine VL.done ?_
          refine VN.then ?_
          refine VC.ret ?_
          refine VR.then ?_
          obtain rfl := Option.some.inj h
          exact VR.fn (rs := [.tmp 8]) [] [] [] rfl (.tmp rfl .nil) ⟨rfl, rfl, rfl⟩ trivial rfl (by decide)
        · rw [if_neg c6838] at h
          obtain rfl := Bool.eq_false_iff.2 c6838
          refine VC.cond_f rfl ?_
          refine VC.skip ?_
          refine VN.then ?_
          refine VC.seq ?_
          refine VC.region ?_
          refine VL.va (op_move rfl (ltn rfl)) rfl ?_
          refine VL.va (op_move rfl (ltn rfl)) rfl ?_
          by_cases c6841 : (wrap64 (8 * (x6552.size : Int))) ≠ 0
          · rw [if_pos c6841] at h
            refine VL.va (op_rem rfl rfl c6841 rfl (ltn rfl)) rfl ?_
            refine VL.va (op_move rfl (ltn rfl)) rfl ?_
            refine VL.va (op_ari64 rfl rfl rfl (ltn rfl)) rfl ?_
            refine VL.va (op_move rfl (ltn rfl)) rfl ?_
            refine VL.va (op_rem rfl rfl c6841 rfl (ltn rfl)) rfl ?_
            refine VL.va (op_assign rfl (ltn rfl)) rfl ?_
            refine VL.done ?_
            refine VN.then ?_
            refine VC.seq ?_
            refine VC.region ?_
            refine VL.va (op_move rfl (ltn rfl)) rfl ?_
            refine o_strBytesB Try.underlying9 Try.underlying29 Try.underlying5 (by rw [hU]) rfl (ltn rfl) rfl fun g6842 n6843 z6844 => ?_
            refine VL.va (op_assign rfl (ltn rfl)) rfl ?_
            refine VL.done ?_
            refine VN.then ?_
            refine VC.seq ?_
            refine VC.seq ?_
            refine VC.region ?_
            refine VL.va (op_move rfl (ltn rfl)) rfl ?_
            refine VL.done ?_
            refine VN.then ?_
            refine VC.block ?_
            refine VC.loop2 (fun (i6957 : Int) (l6958 : List Int) => ⟨150, [(0, (.slice (some ⟨g6553, 0, none⟩) r105.length n6554)), (1, .int .i64 ((wrap64 ((a1.tmod (r105.length : Int)) + (r105.length : Int))).tmod (r105.length : Int))), (2, .int .i64 ((wrap64 ((a2.tmod (wrap64 (8 * (x6552.size : Int)))) + (wrap64 (8 * (x6552.size : Int))))).tmod (wrap64 (8 * (x6552.size : Int))))), (3, .int .u32 a3), (8, .bool false), (9, .string s6549), (10, .int .i64 i6550), (15, .int .i64 (wrap64 (8 * (x6552.size : Int)))), (16, .slice (some ⟨g6842, 0, none⟩) s6549.size n6843), (102, .int .i64 i6957)], [], [(g6842, 5, ints .u8 (l6958 ++ z6844))], [((.slice (some ⟨g6553, 0, none⟩) r105.length n6554), 9, 1, r105.map enc_str)]⟩) (fun (ml38 : Nat) (i6957 : Int) (l6958 : List Int) => tarrylaw04_FrameHurt.l38 k a1 a2 a3 i6550 r105 s6549 x6552 ml38 i6957 l6958 = some r1) k 0 (byI s6549) [0] [0] h ⟨rfl, ⟨rfl, rfl, rfl, rfl, rfl, rfl, rfl, rfl, rfl, rfl, trivial⟩, trivial, rfl, by decide, rfl, by decide⟩ (by intros; simp [tarrylaw04_FrameHurt.l38]) ?_
            clear h
            intro ml38 ihl38 i6957 l6958 h
            simp only [tarrylaw04_FrameHurt.l38] at h
            refine VC.seq ?_
            refine VC.region ?_
            refine VL.letter (decide (i6957 < 32)) fun b6990 hb6990 => ?_
            refine VL.va (op_cmp rfl rfl (congrArg some hb6990) (ltn rfl)) rfl ?_
            refine VL.done ?_
            refine VN.then ?_
            refine VC.seq ?_
            by_cases c7023 : i6957 < 32
            · rw [if_pos c7023] at h
              obtain rfl : b6990 = true := hb6990.symm.trans (decide_eq_true c7023)
              refine VC.cond_t rfl ?_
              refine VC.skip ?_
              refine VN.then ?_
              refine VC.seq ?_
              refine VC.block ?_
              refine VC.seq ?_
              refine VC.region ?_
              refine VL.va (op_move rfl (ltn rfl)) rfl ?_
              refine VL.va (op_assign rfl (ltn rfl)) rfl ?_
              refine VL.done ?_
              refine VN.then ?_
              refine VC.seq ?_
              refine VC.region ?_
              refine VL.va (op_move rfl (ltn rfl)) rfl ?_
              refine VL.va (op_move rfl (ltn rfl)) rfl ?_
              refine VL.va (op_ari64 rfl rfl rfl (ltn rfl)) rfl ?_
              refine VL.va (op_assign rfl (ltn rfl)) rfl ?_
              refine VL.done ?_
              refine VN.then ?_
              refine VC.seq ?_
              refine VC.region ?_
              refine VL.va (op_move rfl (ltn rfl)) rfl ?_
              refine VL.va (op_move rfl (ltn rfl)) rfl ?_
              by_cases c7042 : 0 ≤ i6957
              · rw [if_pos c7042] at h
                refine VL.va (op_shr rfl rfl c7042 rfl (ltn rfl)) rfl ?_
                refine VL.va (op_bits rfl rfl rfl (ltn rfl)) rfl ?_
                refine VL.letter (((Go.bits .and .u32 (a3.fdiv (2 ^ min i6957.toNat IntKind.u32.bits)) 1) == 1)) fun b7043 hb7043 => ?_
                refine VL.va (op_cmp rfl rfl (congrArg some hb7043) (ltn rfl)) rfl ?_
                refine VL.va (op_move rfl (ltn rfl)) rfl ?_
                by_cases c7044 : (Go.bits .and .u32 (a3.fdiv (2 ^ min i6957.toNat IntKind.u32.bits)) 1) = 1
                · rw [if_pos c7044] at h
                  obtain rfl : b7043 = true := hb7043.symm.trans (beq_iff_eq.2 c7044)
                  refine VL.va (op_move rfl (ltn rfl)) rfl ?_
                  refine VL.va (op_move rfl (ltn rfl)) rfl ?_
                  refine VL.letter (decide ((wrap64 (((wrap64 ((a2.tmod (wrap64 (8 * (x6552.size : Int)))) + (wrap64 (8 * (x6552.size : Int))))).tmod (wrap64 (8 * (x6552.size : Int)))) + i6957)) < (wrap64 (8 * (x6552.size : Int))))) fun b7045 hb7045 => ?_
                  refine VL.va (op_cmp rfl rfl (congrArg some hb7045) (ltn rfl)) rfl ?_
                  refine VL.va (op_pick rfl rfl (ltn rfl)) rfl ?_
                  refine VL.done ?_
                  refine VN.then ?_
                  by_cases c7046 : (wrap64 (((wrap64 ((a2.tmod (wrap64 (8 * (x6552.size : Int)))) + (wrap64 (8 * (x6552.size : Int))))).tmod (wrap64 (8 * (x6552.size : Int)))) + i6957)) < (wrap64 (8 * (x6552.size : Int)))
                  · rw [if_pos c7046] at h
                    obtain rfl : b7045 = true := hb7045.symm.trans (decide_eq_true c7046)
                    refine VC.cond_t rfl ?_
                    by_cases c7047 : 0 ≤ wrap64 (i6550 + (IntKind.i64.wrap ((wrap64 (((wrap64 ((a2.tmod (wrap64 (8 * (x6552.size : Int)))) + (wrap64 (8 * (x6552.size : Int))))).tmod (wrap64 (8 * (x6552.size : Int)))) + i6957)).tdiv 8)))
                    · rw [if_pos c7047] at h
                      by_cases c7048 : (wrap64 (i6550 + (IntKind.i64.wrap ((wrap64 (((wrap64 ((a2.tmod (wrap64 (8 * (x6552.size : Int)))) + (wrap64 (8 * (x6552.size : Int))))).tmod (wrap64 (8 * (x6552.size : Int)))) + i6957)).tdiv 8)))) < (s6549.size : Int)
                      · rw [if_pos c7048] at h
                        replace h := Option.bind_eq_some_iff.1 h
                        obtain ⟨t7049, ht7049, h⟩ := h
                        by_cases c7050 : 0 ≤ (wrap64 (((wrap64 ((a2.tmod (wrap64 (8 * (x6552.size : Int)))) + (wrap64 (8 * (x6552.size : Int))))).tmod (wrap64 (8 * (x6552.size : Int)))) + i6957)).tmod 8
                        · rw [if_pos c7050] at h
                          by_cases c7051 : ((wrap64 (i6550 + (IntKind.i64.wrap ((wrap64 (((wrap64 ((a2.tmod (wrap64 (8 * (x6552.size : Int)))) + (wrap64 (8 * (x6552.size : Int))))).tmod (wrap64 (8 * (x6552.size : Int)))) + i6957)).tdiv 8)))).toNat) < l6958.length
                          · rw [if_pos c7051] at h
                            refine VC.stop0 (⟨150, [(0, (.slice (some ⟨g6553, 0, none⟩) r105.length n6554)), (1, .int .i64 ((wrap64 ((a1.tmod (r105.length : Int)) + (r105.length : Int))).tmod (r105.length : Int))), (2, .int .i64 ((wrap64 ((a2.tmod (wrap64 (8 * (x6552.size : Int)))) + (wrap64 (8 * (x6552.size : Int))))).tmod (wrap64 (8 * (x6552.size : Int))))), (3, .int .u32 a3), (8, .bool false), (9, .string s6549), (10, .int .i64 i6550), (15, .int .i64 (wrap64 (8 * (x6552.size : Int)))), (16, .slice (some ⟨g6842, 0, none⟩) s6549.size n6843), (17, .int .i64 i6957), (18, .int .i64 (wrap64 (((wrap64 ((a2.tmod (wrap64 (8 * (x6552.size : Int)))) + (wrap64 (8 * (x6552.size : Int))))).tmod (wrap64 (8 * (x6552.size : Int)))) + i6957))), (102, .int .i64 i6957), (103, .bool true), (104, .int .i64 i6957), (105, .int .i64 ((wrap64 ((a2.tmod (wrap64 (8 * (x6552.size : Int)))) + (wrap64 (8 * (x6552.size : Int))))).tmod (wrap64 (8 * (x6552.size : Int))))), (106, .int .i64 i6957), (107, .int .i64 (wrap64 (((wrap64 ((a2.tmod (wrap64 (8 * (x6552.size : Int)))) + (wrap64 (8 * (x6552.size : Int))))).tmod (wrap64 (8 * (x6552.size : Int)))) + i6957))), (108, .int .u32 a3), (109, .int .i64 i6957), (110, .int .u32 (a3.fdiv (2 ^ min i6957.toNat IntKind.u32.bits))), (111, .int .u32 (Go.bits .and .u32 (a3.fdiv (2 ^ min i6957.toNat IntKind.u32.bits)) 1)), (112, .bool true), (113, .bool true), (114, .int .i64 (wrap64 (((wrap64 ((a2.tmod (wrap64 (8 * (x6552.size : Int)))) + (wrap64 (8 * (x6552.size : Int))))).tmod (wrap64 (8 * (x6552.size : Int)))) + i6957))), (115, .int .i64 (wrap64 (8 * (x6552.size : Int)))), (116, .bool true), (117, .bool true), (118, .slice (some ⟨g6842, 0, none⟩) s6549.size n6843), (119, .int .i64 i6550), (120, .int .i64 (wrap64 (((wrap64 ((a2.tmod (wrap64 (8 * (x6552.size : Int)))) + (wrap64 (8 * (x6552.size : Int))))).tmod (wrap64 (8 * (x6552.size : Int)))) + i6957))), (121, .int .i64 (IntKind.i64.wrap ((wrap64 (((wrap64 ((a2.tmod (wrap64 (8 * (x6552.size : Int)))) + (wrap64 (8 * (x6552.size : Int))))).tmod (wrap64 (8 * (x6552.size : Int)))) + i6957)).tdiv 8))), (122, .int .i64 (wrap64 (i6550 + (IntKind.i64.wrap ((wrap64 (((wrap64 ((a2.tmod (wrap64 (8 * (x6552.size : Int)))) + (wrap64 (8 * (x6552.size : Int))))).tmod (wrap64 (8 * (x6552.size : Int)))) + i6957)).tdiv 8))))), (124, .int .u8 t7049), (125, .int .i64 (wrap64 (((wrap64 ((a2.tmod (wrap64 (8 * (x6552.size : Int)))) + (wrap64 (8 * (x6552.size : Int))))).tmod (wrap64 (8 * (x6552.size : Int)))) + i6957))), (126, .int .i64 ((wrap64 (((wrap64 ((a2.tmod (wrap64 (8 * (x6552.size : Int)))) + (wrap64 (8 * (x6552.size : Int))))).tmod (wrap64 (8 * (x6552.size : Int)))) + i6957)).tmod 8)), (127, .int .u8 (IntKind.u8.wrap ((1 : Int) * 2 ^ min ((wrap64 (((wrap64 ((a2.tmod (wrap64 (8 * (x6552.size : Int)))) + (wrap64 (8 * (x6552.size : Int))))).tmod (wrap64 (8 * (x6552.size : Int)))) + i6957)).tmod 8).toNat IntKind.u8.bits))), (128, .int .u8 (Go.bits .xor .u8 t7049 (IntKind.u8.wrap ((1 : Int) * 2 ^ min ((wrap64 (((wrap64 ((a2.tmod (wrap64 (8 * (x6552.size : Int)))) + (wrap64 (8 * (x6552.size : Int))))).tmod (wrap64 (8 * (x6552.size : Int)))) + i6957)).tmod 8).toNat IntKind.u8.bits))))], [], [(g6842, 5, ints .u8 ((l6958.set (wrap64 (i6550 + (IntKind.i64.wrap ((wrap64 (((wrap64 ((a2.tmod (wrap64 (8 * (x6552.size : Int)))) + (wrap64 (8 * (x6552.size : Int))))).tmod (wrap64 (8 * (x6552.size : Int)))) + i6957)).tdiv 8)))).toNat (Go.bits .xor .u8 t7049 (IntKind.u8.wrap ((1 : Int) * 2 ^ min ((wrap64 (((wrap64 ((a2.tmod (wrap64 (8 * (x6552.size : Int)))) + (wrap64 (8 * (x6552.size : Int))))).tmod (wrap64 (8 * (x6552.size : Int)))) + i6957)).tmod 8).toNat IntKind.u8.bits)))) ++ z6844))], [((.slice (some ⟨g6553, 0, none⟩) r105.length n6554), 9, 1, r105.map enc_str)]⟩) (True) ?_ ?_
                            · refine VC.drawB ⟨0, [], [], [], []⟩ [12] ⟨0, [], [], [(g6842, 5, ints .u8 (l6958 ++ z6844))], []⟩ (by kernel_rfl) rfl (by kernel_rfl) (n := 13) (listed := LB 13 0) ?_
                              refine VB.va (i := 0) (listed' := LB 13 1) rfl (op_move rfl (ltn rfl)) rfl (by kernel_rfl) (by kernel_rfl) (by kernel_rfl) (by kernel_rfl) (by decide) (PartP.on ⟨trivial, trivial, trivial⟩ ⟨trivial, ⟨⟨0, rfl⟩, trivial⟩, trivial⟩) (fun _ _ _ h => h) ?_
                              refine VB.va (i := 1) (listed' := LB 13 3) rfl (op_move rfl (ltn rfl)) rfl (by kernel_rfl) (by kernel_rfl) (by kernel_rfl) (by kernel_rfl) (by decide) (PartP.on ⟨trivial, trivial, trivial⟩ ⟨trivial, ⟨⟨0, rfl⟩, trivial⟩, trivial⟩) (fun _ _ _ h => h) ?_
                              refine VB.va (i := 2) (listed' := LB 13 7) rfl (op_move rfl (ltn rfl)) rfl (by kernel_rfl) (by kernel_rfl) (by kernel_rfl) (by kernel_rfl) (by decide) (PartP.on ⟨trivial, trivial, trivial⟩ ⟨trivial, ⟨⟨0, rfl⟩, trivial⟩, trivial⟩) (fun _ _ _ h => h) ?_
                              refine VB.va (i := 3) (listed' := LB 13 15) rfl (op_quo rfl rfl (by decide) rfl (ltn rfl)) rfl (by kernel_rfl) (by kernel_rfl) (by kernel_rfl) (by kernel_rfl) (by decide) (PartP.on ⟨trivial, trivial, trivial⟩ ⟨trivial, ⟨⟨0, rfl⟩, trivial⟩, trivial⟩) (fun _ _ _ h => h) ?_
                              refine VB.va (i := 4) (listed' := LB 13 31) rfl (op_ari64 rfl rfl rfl (ltn rfl)) rfl (by kernel_rfl) (by kernel_rfl) (by kernel_rfl) (by kernel_rfl) (by decide) (PartP.on ⟨trivial, trivial, trivial⟩ ⟨trivial, ⟨⟨0, rfl⟩, trivial⟩, trivial⟩) (fun _ _ _ h => h) ?_
                              refine VB.va (i := 5) (listed' := LB 13 63) rfl (op_indexAddrB Try.underlying29 TI5 rfl rfl c7047 c7048 (ltn rfl)) rfl (by kernel_rfl) (by kernel_rfl) (by kernel_rfl) (by kernel_rfl) (by decide) (PartP.on ⟨trivial, trivial, trivial⟩ ⟨trivial, ⟨⟨0, rfl⟩, trivial⟩, trivial⟩) (fun _ _ _ h => h) ?_
                              refine VB.vb (i := 6) (listed' := LB 13 127) rfl (op_loadE 0 rfl rfl TI5 (get_left ht7049) (ltn rfl)) rfl (by kernel_rfl) (by kernel_rfl) (by kernel_rfl) (by kernel_rfl) (by kernel_rfl) (by kernel_rfl) (PartP.on ⟨trivial, trivial, trivial⟩ ⟨trivial, ⟨⟨0, rfl⟩, trivial⟩, trivial⟩) (fun _ _ _ h => h) ?_
                              refine VB.va (i := 7) (listed' := LB 13 255) rfl (op_move rfl (ltn rfl)) rfl (by kernel_rfl) (by kernel_rfl) (by kernel_rfl) (by kernel_rfl) (by decide) (PartP.on ⟨trivial, trivial, trivial⟩ ⟨trivial, ⟨⟨0, rfl⟩, trivial⟩, trivial⟩) (fun _ _ _ h => h) ?_
                              refine VB.va (i := 8) (listed' := LB 13 511) rfl (op_rem rfl rfl (by decide) rfl (ltn rfl)) rfl (by kernel_rfl) (by kernel_rfl) (by kernel_rfl) (by kernel_rfl) (by decide) (PartP.on ⟨trivial, trivial, trivial⟩ ⟨trivial, ⟨⟨0, rfl⟩, trivial⟩, trivial⟩) (fun _ _ _ h => h) ?_
                              refine VB.va (i := 9) (listed' := LB 13 1023) rfl (op_shl rfl rfl c7050 rfl (ltn rfl)) rfl (by kernel_rfl) (by kernel_rfl) (by kernel_rfl) (by kernel_rfl) (by decide) (PartP.on ⟨trivial, trivial, trivial⟩ ⟨trivial, ⟨⟨0, rfl⟩, trivial⟩, trivial⟩) (fun _ _ _ h => h) ?_
                              refine VB.va (i := 10) (listed' := LB 13 2047) rfl (op_bits rfl rfl rfl (ltn rfl)) rfl (by kernel_rfl) (by kernel_rfl) (by kernel_rfl) (by kernel_rfl) (by decide) (PartP.on ⟨trivial, trivial, trivial⟩ ⟨trivial, ⟨⟨0, rfl⟩, trivial⟩, trivial⟩) (fun _ _ _ h => h) ?_
                              refine VB.va (i := 11) (listed' := LB 13 4095) rfl (op_indexAddrB Try.underlying29 TI5 rfl rfl c7047 c7048 (ltn rfl)) rfl (by kernel_rfl) (by kernel_rfl) (by kernel_rfl) (by kernel_rfl) (by decide) (PartP.on ⟨trivial, trivial, trivial⟩ ⟨trivial, ⟨⟨0, rfl⟩, trivial⟩, trivial⟩) (fun _ _ _ h => h) ?_
                              refine VB.one1 (i := 12) (listed' := LB 13 8191) (by kernel_rfl) rfl (o_storeB 0 rfl rfl rfl TI5 c7051) rfl (by kernel_rfl) (PartP.off (by kernel_rfl) ⟨trivial, trivial, trivial⟩) ?_
                              refine VB.done (by kernel_rfl) ?_
                              exact VN.meet0  [0] [0] trivial ⟨rfl, ⟨rfl, rfl, rfl, rfl, rfl, rfl, rfl, rfl, rfl, rfl, rfl, rfl, rfl, rfl, rfl, rfl, rfl, rfl, rfl, rfl, rfl, rfl, rfl, rfl, rfl, rfl, rfl, rfl, rfl, rfl, rfl, rfl, rfl, rfl, rfl, rfl, rfl, trivial⟩, trivial, rfl, by decide, rfl, by decide⟩
                            intro _
                            refine VN.block ?_
                            refine VN.then ?_
                            refine VC.region ?_
                            refine VL.va (op_ari64 rfl rfl rfl (ltn rfl)) rfl ?_
                            refine VL.va (op_move rfl (ltn rfl)) rfl ?_
                            refine VL.done ?_
                            refine VN.again [0] [0] (ihl38 (wrap64 (i6957 + 1)) (l6958.set (wrap64 (i6550 + (IntKind.i64.wrap ((wrap64 (((wrap64 ((a2.tmod (wrap64 (8 * (x6552.size : Int)))) + (wrap64 (8 * (x6552.size : Int))))).tmod (wrap64 (8 * (x6552.size : Int)))) + i6957)).tdiv 8)))).toNat (Go.bits .xor .u8 t7049 (IntKind.u8.wrap ((1 : Int) * 2 ^ min ((wrap64 (((wrap64 ((a2.tmod (wrap64 (8 * (x6552.size : Int)))) + (wrap64 (8 * (x6552.size : Int))))).tmod (wrap64 (8 * (x6552.size : Int)))) + i6957)).tmod 8).toNat IntKind.u8.bits)))) h) ⟨rfl, ⟨rfl, rfl, rfl, rfl, rfl, rfl, rfl, rfl, rfl, rfl, trivial⟩, trivial, rfl, by decide, rfl, by decide⟩
                          · rw [if_neg c7051] at h; cases h
                        · rw [if_neg c7050] at h; cases h
                      · rw [if_neg c7048] at h; cases h
                    · rw [if_neg c7047] at h; cases h
                  · rw [if_neg c7046] at h
                    obtain rfl : b7045 = false := hb7045.symm.trans (decide_eq_false c7046)
                    refine VC.cond_f rfl ?_
                    refine VC.skip ?_
                    refine VN.block ?_
                    refine VN.then ?_
                    refine VC.region ?_
                    refine VL.va (op_ari64 rfl rfl rfl (ltn rfl)) rfl ?_
                    refine VL.va (op_move rfl (ltn rfl)) rfl ?_
                    refine VL.done ?_
                    refine VN.again [0] [0] (ihl38 (wrap64 (i6957 + 1)) l6958 h) ⟨rfl, ⟨rfl, rfl, rfl, rfl, rfl, rfl, rfl, rfl, rfl, rfl, trivial⟩, trivial, rfl, by decide, rfl, by decide⟩
                · rw [if_neg c7044] at h
                  obtain rfl : b7043 = false := hb7043.symm.trans (beq_eq_false_iff_ne.2 c7044)
                  refine VL.un rfl rfl (ltn rfl) ?_
                  refine VL.un rfl rfl (ltn rfl) ?_
                  refine VL.un rfl rfl (ltn rfl) ?_
                  refine VL.va (op_pick rfl rfl (ltn rfl)) rfl ?_
                  refine VL.done ?_
                  refine VN.then ?_
                  refine VC.cond_f rfl ?_
                  refine VC.skip ?_
                  refine VN.block ?_
                  refine VN.then ?_
                  refine VC.region ?_
                  refine VL.va (op_ari64 rfl rfl rfl (ltn rfl)) rfl ?_
                  refine VL.va (op_move rfl (ltn rfl)) rfl ?_
                  refine VL.done ?_
                  refine VN.again [0] [0] (ihl38 (wrap64 (i6957 + 1)) l6958 h) ⟨rfl, ⟨rfl, rfl, rfl, rfl, rfl, rfl, rfl, rfl, rfl, rfl, trivial⟩, trivial, rfl, by decide, rfl, by decide⟩
              · rw [if_neg c7042] at h; cases h
            · rw [if_neg c7023] at h
              obtain rfl : b6990 = false := hb6990.symm.trans (decide_eq_false c7023)
              refine VC.cond_f rfl ?_
              refine VC.exit ?_
              refine VX.then ?_
              refine VX.then ?_
              refine VX.hit ?_
              refine VN.then ?_
              refine VC.seq ?_
              refine VC.seq ?_
              refine VC.region ?_
              refine VL.va (op_move rfl (ltn rfl)) rfl ?_
              by_cases c7057 : l6958.length = s6549.size
              · rw [if_pos c7057] at h
                refine VL.va (op_bytesStrB 0 Try.underlying29 Try.underlying9 Try.underlying5 rfl rfl c7057 (ltn rfl)) rfl ?_
                refine VL.va (op_move rfl (ltn rfl)) rfl ?_
                refine VL.letter (((strOfNums l6958) == s6549)) fun b7058 hb7058 => ?_
                refine VL.va (op_cmps rfl rfl (congrArg some hb7058) (ltn rfl)) rfl ?_
                refine VL.done ?_
                refine VN.then ?_
                by_cases c7059 : ((strOfNums l6958) == s6549) = true
                · rw [if_pos c7059] at h
                  obtain rfl : b7058 = true := hb7058.symm.trans (c7059)
                  refine VC.cond_t rfl ?_
                  refine VC.seq ?_
                  refine VC.region ?_
                  replace h := Option.bind_eq_some_iff.1 h
                  obtain ⟨t7060, hA7061, h⟩ := h
                  refine VL.sC (o_call0 FO7 (tarrylaw04_alive.ok k t7060 hA7061) rfl rfl (ltn rfl) (All_of .nil)) rfl ?_
                  rintro _ _ _ ⟨rfl, rfl, rfl⟩
                  refine VL.va (op_assign rfl (ltn rfl)) rfl ?_
                  refine VL.done ?_
                  refine VN.then ?_
                  refine VC.ret ?_
                  refine VR.then ?_
                  obtain rfl := Option.some.inj h
                  exact VR.fn (rs := [.tmp 8]) [] [] [] rfl (.tmp rfl .nil) ⟨rfl, rfl, rfl⟩ trivial rfl (by decide)
                · rw [if_neg c7059] at h
                  obtain rfl : b7058 = false := hb7058.symm.trans (Bool.eq_false_iff.2 c7059)
                  refine VC.cond_f rfl ?_
                  refine VC.skip ?_
                  refine VN.then ?_
                  refine VC.seq ?_
                  refine VC.region ?_
                  refine VL.va (op_move rfl (ltn rfl)) rfl ?_
                  refine VL.va (op_bytesStrB 0 Try.underlying29 Try.underlying9 Try.underlying5 rfl rfl c7057 (ltn rfl)) rfl ?_
                  replace h := Option.bind_eq_some_iff.1 h
                  obtain ⟨⟨r7062, t7063⟩, hA7064, h⟩ := h
                  dsimp only at h
                  refine VL.sC (o_call0 FO9 (frame_Scan.ok k (strOfNums l6958) r7062 t7063 hA7064) rfl rfl (ltn rfl) (All_of .nil)) rfl ?_
                  rintro _ _ _ ⟨v7066, rfl, rfl, rfl⟩
                  refine VL.va (op_move rfl (ltn rfl)) rfl ?_
                  refine VL.va (op_extract rfl rfl (ltn rfl)) rfl ?_
                  refine VL.va (op_extract rfl rfl (ltn rfl)) rfl ?_
                  refine VL.va (op_assign rfl (ltn rfl)) rfl ?_
                  refine VL.va (op_assign rfl (ltn rfl)) rfl ?_
                  refine VL.done ?_
                  refine VN.then ?_
                  refine VC.seq ?_
                  refine VC.region ?_
                  replace h := Option.bind_eq_some_iff.1 h
                  obtain ⟨t7075, hA7076, h⟩ := h
                  refine VL.sC (o_call0 FO7 (tarrylaw04_alive.ok k t7075 hA7076) rfl rfl (ltn rfl) (All_of .nil)) rfl ?_
                  rintro _ _ _ ⟨rfl, rfl, rfl⟩
                  refine VL.va (op_move rfl (ltn rfl)) rfl ?_
                  by_cases c7077 : t7075 = true
                  · rw [if_pos c7077] at h
                    obtain rfl := c7077
                    refine VL.va (op_move rfl (ltn rfl)) rfl ?_
                    refine VL.va (op_move rfl (ltn rfl)) rfl ?_
                    refine VL.va (op_move rfl (ltn rfl)) rfl ?_
                    refine VL.freezeRow' 1 rfl ?_
                    by_cases c7078 : ((wrap64 ((a1.tmod (r105.length : Int)) + (r105.length : Int))).tmod (r105.length : Int)) ≤ (r105.length : Int)
                    · rw [if_pos c7078] at h
                      refine VL.sG (o_slice (m := r105.length) 0 0 (((wrap64 ((a1.tmod (r105.length : Int)) + (r105.length : Int))).tmod (r105.length : Int)).toNat) lenm cutm Try.underlying22 TI9 rfl rfl ⟨rfl, ⟨_, _, rfl, c6551, rfl⟩, by omega, by omega⟩ (ltn rfl)) rfl ?_
                      intro v7080
                      replace h := Option.bind_eq_some_iff.1 h
                      obtain ⟨t7081, hA7082, h⟩ := h
                      refine VL.sC (o_call_b0 FO10 (tarryref01_Same.ok k r7062 ((r105.take (((wrap64 ((a1.tmod (r105.length : Int)) + (r105.length : Int))).tmod (r105.length : Int)).toNat)).drop 0) v7066 v7080 t7081 hA7082) rfl rfl (ltn rfl) (All_of (.cons (.inr (.inl ⟨_, List.mem_of_getElem? (i := 0) rfl, rfl⟩)) (.cons (.inl (List.mem_of_getElem? (i := 0) rfl)) .nil))) (by rintro _ _ _ ⟨rfl, rfl, rfl⟩; rfl)) rfl ?_
                      rintro _ _ _ ⟨rfl, rfl, rfl⟩
                      refine VL.va (op_pick rfl rfl (ltn rfl)) rfl ?_
                      refine VL.va (op_assign rfl (ltn rfl)) rfl ?_
                      refine VL.done ?_
                      refine VN.then ?_
                      refine VC.ret ?_
                      obtain rfl := Option.some.inj h
                      exact VR.fn (rs := [.tmp 8]) [] [] [] rfl (.tmp rfl .nil) ⟨rfl, rfl, rfl⟩ trivial rfl (by decide)
                    · rw [if_neg c7078] at h; cases h
                  · rw [if_neg c7077] at h
                    obtain rfl := Bool.eq_false_iff.2 c7077
                    refine VL.un rfl rfl (ltn rfl) ?_
                    refine VL.un rfl rfl (ltn rfl) ?_
                    refine VL.un rfl rfl (ltn rfl) ?_
                    refine VL.un rfl rfl (ltn rfl) ?_
                    refine VL.un rfl rfl (ltn rfl) ?_
                    refine VL.va (op_pick rfl rfl (ltn rfl)) rfl ?_
                    refine VL.va (op_assign rfl (ltn rfl)) rfl ?_
                    refine VL.done ?_
                    refine VN.then ?_
                    refine VC.ret ?_
                    cases h
              · rw [if_neg c7057] at h; cases h
          · rw [if_neg c6841] at h; cases h
      · rw [if_neg c6551] at h; cases h
    · rw [if_neg c5146] at h; cases h

end Go.Proofs.Ytaolaicmfjdmhaa.PFrameHurt
