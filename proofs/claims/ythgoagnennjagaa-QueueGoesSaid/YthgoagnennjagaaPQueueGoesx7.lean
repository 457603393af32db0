/- Written by a program of this repo: what the program's functions do, each as a Lean function, shown of the loaded code; or a statement's row over that; no condition of its own. -/
import Derived.Test.YthgoagnennjagaaPQueueGoesx6
namespace Go.Proofs.Ythgoagnennjagaa.PQueueGoes
open Go Go.RowKit Go.Proofs.YthgoagnennjagaaV
set_option linter.unusedVariables false
set_option linter.unusedSimpArgs false

set_option maxHeartbeats 4000000 in
set_option maxRecDepth 100000 in
theorem tarryref06_Sorted.ok (k : Nat) (l0 : List S23) (v0 : Value) (r1 : List S23) (h : tarryref06_Sorted.f k l0 = some r1) :
    VCalls Try.prog 16 [v0] [.row v0 3 (l0.map enc23)] (fun v G own => ∃ w0 : Value, v = w0 ∧ G = [] ∧ own = [(w0, 24, 3, r1.map enc23)]) := by
  refine VCalls.intro Try.func16 rfl (len rfl) fun E hC => ?_
  unfold tarryref06_Sorted.f at h
  refine VC.seq ?_
  refine VC.region ?_
  refine VL.va (op_assign rfl (ltn rfl)) rfl ?_
  refine VL.done ?_
  refine VN.then ?_
  refine VC.seq ?_
  refine VC.region ?_
  refine VL.sG (o_buildSlice (vals := []) (cells := #[]) (es := List.map enc23 ([] : List S23)) Try.underlying22 TI24 Z24 rfl (by decide) (by decide) (by kernel_rfl) (by kernel_rfl) rfl (flat_map enc23_ok _) (ltn rfl)) rfl ?_
  intro v112664
  refine VL.va (op_assign rfl (ltn rfl)) rfl ?_
  refine VL.done ?_
  refine VN.then ?_
  refine VC.seq ?_
  refine VC.seq ?_
  refine VC.region ?_
  refine VL.va (op_move rfl (ltn rfl)) rfl ?_
  refine VL.va (op_len (m := l0.length) 0 lenm Try.underlying22 rfl rfl (ltn rfl)) rfl ?_
  refine VL.va (op_move rfl (ltn rfl)) rfl ?_
  refine VL.done ?_
  refine VN.then ?_
  refine VC.block ?_
  refine VC.loop3 (fun (v113970 : Value) (l113971 : List S23) (i113972 : Int) => ⟨48, [(2, .slice none 0 0), (3, v113970), (9, v0), (10, .int .i64 (l0.length : Int)), (11, .int .i64 i113972)], [.row v0 3 (l0.map enc23)], [], [(v113970, 24, 3, l113971.map enc23)]⟩) (fun (ml5 : Nat) (v113970 : Value) (l113971 : List S23) (i113972 : Int) => tarryref06_Sorted.l5 k l0 ml5 l113971 i113972 = some r1) k v112664 ([] : List S23) 0 [] [0] h ⟨rfl, ⟨rfl, rfl, rfl, rfl, rfl, trivial⟩, ⟨⟨0, rfl⟩, trivial⟩, rfl, by decide, rfl, by decide⟩ (by intros; simp [tarryref06_Sorted.l5]) ?_
  clear h
  intro ml5 ihl5 v113970 l113971 i113972 h
  simp only [tarryref06_Sorted.l5] at h
  refine VC.seq ?_
  refine VC.region ?_
  refine VL.letter (decide (i113972 < (l0.length : Int))) fun b114300 hb114300 => ?_
  refine VL.va (op_cmp rfl rfl (congrArg some hb114300) (ltn rfl)) rfl ?_
  refine VL.done ?_
  refine VN.then ?_
  refine VC.seq ?_
  by_cases c114302 : i113972 < (l0.length : Int)
  · rw [if_pos c114302] at h
    obtain rfl : b114300 = true := hb114300.symm.trans (decide_eq_true c114302)
    refine VC.cond_t rfl ?_
    refine VC.skip ?_
    refine VN.then ?_
    refine VC.seq ?_
    refine VC.block ?_
    refine VC.seq ?_
    refine VC.region ?_
    by_cases c114464 : 0 ≤ i113972
    · rw [if_pos c114464] at h
      replace h := Option.bind_eq_some_iff.1 h
      obtain ⟨x114465, hx114465, h⟩ := h
      refine VL.open (m := l0.length) 0 lenm rfl (pos_get hx114465) ?_
      rintro ad114466 n114467 rfl
      refine VL.va (op_indexAddr Try.underlying22 TI24 rfl rfl c114464 (lt_get c114464 hx114465) rfl (ltn rfl)) rfl ?_
      refine VL.va (op_load_row (sz := 3) (o := 0) 0 i113972.toNat 3 rfl rfl (get_map hx114465) TI24 rfl (fun h => absurd h (by decide)) (ltn rfl)) rfl ?_
      refine VL.sG (o_alloc Z24 ZL24 (ltn rfl)) rfl ?_
      intro g114468
      refine VL.step1 (o_store 0 3 rfl rfl rfl TI24 (.agg (.of rfl)) rfl (len rfl)) rfl ?_
      refine VL.done ?_
      refine VN.then ?_
      refine VC.seq ?_
      refine VC.region ?_
      refine VL.va (op_assign rfl (ltn rfl)) rfl ?_
      refine VL.done ?_
      refine VN.then ?_
      refine VC.seq ?_
      refine VC.block ?_
      refine VC.loop1 (fun (i114522 : Int) => ⟨48, [(2, .slice none 0 0), (3, v113970), (5, .pointer (some ⟨g114468, 0, none⟩)), (6, .int .i64 i114522), (9, (.slice (some ad114466) l0.length n114467)), (10, .int .i64 (l0.length : Int)), (11, .int .i64 i113972), (12, .bool true), (14, .agg #[.int .i64 x114465.f0, .int .i64 x114465.f1, .int .i64 x114465.f2])], [.row (.slice (some ad114466) l0.length n114467) 3 (l0.map enc23)], [(g114468, 24, [.int .i64 x114465.f0, .int .i64 x114465.f1, .int .i64 x114465.f2])], [(v113970, 24, 3, l113971.map enc23)]⟩) (fun (ml9 : Nat) (i114522 : Int) => tarryref06_Sorted.l9 k (tarryref06_Sorted.l5 k l0 ml5) i113972 l113971 x114465 ml9 i114522 = some r1) k 0 [0] [0] h ⟨rfl, ⟨rfl, rfl, rfl, rfl, rfl, rfl, rfl, rfl, rfl, trivial⟩, ⟨⟨0, rfl⟩, trivial⟩, rfl, by decide, rfl, by decide⟩ (by intros; simp [tarryref06_Sorted.l9]) ?_
      clear h
      intro ml9 ihl9 i114522 h
      simp only [tarryref06_Sorted.l9] at h
      refine VC.seq ?_
      refine VC.letter (decide (i114522 < (l113971.length : Int))) fun b114581 hb114581 => ?_
      by_cases c114582 : i114522 < (l113971.length : Int)
      · rw [if_pos c114582] at h
        obtain rfl : b114581 = true := hb114581.symm.trans (decide_eq_true c114582)
        by_cases c114583 : 0 ≤ i114522
        · rw [if_pos c114583] at h
          replace h := Option.bind_eq_some_iff.1 h
          obtain ⟨x114584, hx114584, h⟩ := h
          replace h := Option.bind_eq_some_iff.1 h
          obtain ⟨t114585, hA114586, h⟩ := h
          by_cases c114587 : t114585 = true
          · rw [if_pos c114587] at h
            obtain rfl := c114587
            refine VC.openR (m := l113971.length) 0 lenm rfl (pos_get hx114584) ?_
            rintro g113984 n113985 rfl
            refine VC.join0 (⟨48, [(2, .slice none 0 0), (3, (.slice (some ⟨g113984, 0, none⟩) l113971.length n113985)), (5, .pointer (some ⟨g114468, 0, none⟩)), (6, .int .i64 i114522), (9, (.slice (some ad114466) l0.length n114467)), (10, .int .i64 (l0.length : Int)), (11, .int .i64 i113972), (12, .bool true), (14, .agg #[.int .i64 x114465.f0, .int .i64 x114465.f1, .int .i64 x114465.f2]), (15, .int .i64 i114522), (16, (.slice (some ⟨g113984, 0, none⟩) l113971.length n113985)), (17, .int .i64 (l113971.length : Int)), (18, .bool true), (19, .bool true), (20, .agg #[.int .i64 x114465.f0, .int .i64 x114465.f1, .int .i64 x114465.f2]), (21, (.slice (some ⟨g113984, 0, none⟩) l113971.length n113985)), (22, .int .i64 i114522), (24, .agg #[.int .i64 x114584.f0, .int .i64 x114584.f1, .int .i64 x114584.f2]), (25, .bool true), (26, .bool false), (27, .bool false)], [.row (.slice (some ad114466) l0.length n114467) 3 (l0.map enc23)], [(g114468, 24, [.int .i64 x114465.f0, .int .i64 x114465.f1, .int .i64 x114465.f2])], [((.slice (some ⟨g113984, 0, none⟩) l113971.length n113985), 24, 3, l113971.map enc23)]⟩) (True) ?_ ?_
            · refine VC.draw ⟨0, [], [], [(g114468, 24, [.int .i64 x114465.f0, .int .i64 x114465.f1, .int .i64 x114465.f2])], [((.slice (some ⟨g113984, 0, none⟩) l113971.length n113985), 24, 3, l113971.map enc23)]⟩ (by kernel_rfl) rfl (by kernel_rfl) (n := 13) (listed := LB 13 0) ?_
              refine VA.va (i := 0) (listed' := LB 13 1) rfl (op_move rfl (ltn rfl)) rfl (by kernel_rfl) (by kernel_rfl) (by kernel_rfl) (by kernel_rfl) ⟨trivial, ⟨⟨0, rfl⟩, trivial⟩, ⟨⟨0, rfl⟩, trivial⟩⟩ (fun _ _ _ h => h) ?_
              refine VA.va (i := 1) (listed' := LB 13 3) rfl (op_move rfl (ltn rfl)) rfl (by kernel_rfl) (by kernel_rfl) (by kernel_rfl) (by kernel_rfl) ⟨trivial, ⟨⟨0, rfl⟩, trivial⟩, ⟨⟨0, rfl⟩, trivial⟩⟩ (fun _ _ _ h => h) ?_
              refine VA.va (i := 2) (listed' := LB 13 7) rfl (op_len_own (m := l113971.length) 0 lenm Try.underlying22 rfl rfl (ltn rfl)) rfl (by kernel_rfl) (by kernel_rfl) (by kernel_rfl) (by kernel_rfl) ⟨trivial, ⟨⟨0, rfl⟩, trivial⟩, ⟨⟨0, rfl⟩, trivial⟩⟩ (fun _ _ _ h => h) ?_
              refine VA.va (i := 3) (listed' := LB 13 15) rfl (op_cmp rfl rfl (congrArg some hb114581) (ltn rfl)) rfl (by kernel_rfl) (by kernel_rfl) (by kernel_rfl) (by kernel_rfl) ⟨trivial, ⟨⟨0, rfl⟩, trivial⟩, ⟨⟨0, rfl⟩, trivial⟩⟩ (fun _ _ _ h => h) ?_
              refine VA.va (i := 4) (listed' := LB 13 31) rfl (op_move rfl (ltn rfl)) rfl (by kernel_rfl) (by kernel_rfl) (by kernel_rfl) (by kernel_rfl) ⟨trivial, ⟨⟨0, rfl⟩, trivial⟩, ⟨⟨0, rfl⟩, trivial⟩⟩ (fun _ _ _ h => h) ?_
              refine VA.va (i := 5) (listed' := LB 13 63) rfl (op_load 0 3 rfl rfl TI24 rfl (fun h => absurd h (by decide)) (ltn rfl)) rfl (by kernel_rfl) (by kernel_rfl) (by kernel_rfl) (by kernel_rfl) ⟨trivial, ⟨⟨0, rfl⟩, trivial⟩, ⟨⟨0, rfl⟩, trivial⟩⟩ (fun _ _ _ h => h) ?_
              refine VA.va (i := 6) (listed' := LB 13 127) rfl (op_move rfl (ltn rfl)) rfl (by kernel_rfl) (by kernel_rfl) (by kernel_rfl) (by kernel_rfl) ⟨trivial, ⟨⟨0, rfl⟩, trivial⟩, ⟨⟨0, rfl⟩, trivial⟩⟩ (fun _ _ _ h => h) ?_
              refine VA.va (i := 7) (listed' := LB 13 255) rfl (op_move rfl (ltn rfl)) rfl (by kernel_rfl) (by kernel_rfl) (by kernel_rfl) (by kernel_rfl) ⟨trivial, ⟨⟨0, rfl⟩, trivial⟩, ⟨⟨0, rfl⟩, trivial⟩⟩ (fun _ _ _ h => h) ?_
              refine VA.va (i := 8) (listed' := LB 13 511) rfl (op_indexAddr Try.underlying22 TI24 rfl rfl c114583 (lt_get c114583 hx114584) (add_zero_at _ _) (ltn rfl)) rfl (by kernel_rfl) (by kernel_rfl) (by kernel_rfl) (by kernel_rfl) ⟨trivial, ⟨⟨0, rfl⟩, trivial⟩, ⟨⟨0, rfl⟩, trivial⟩⟩ (fun _ _ _ h => h) ?_
              refine VA.va (i := 9) (listed' := LB 13 1023) rfl (op_load_own (sz := 3) (o := 0) 0 i114522.toNat 3 rfl rfl (get_map hx114584) TI24 rfl (fun h => absurd h (by decide)) (ltn rfl)) rfl (by kernel_rfl) (by kernel_rfl) (by kernel_rfl) (by kernel_rfl) ⟨trivial, ⟨⟨0, rfl⟩, trivial⟩, ⟨⟨0, rfl⟩, trivial⟩⟩ (fun _ _ _ h => h) ?_
              refine VA.oneC (i := 10) (listed' := LB 13 2047) (by kernel_rfl) rfl (o_call0 FO11 (tarryref06_Less.ok x114465.f0 x114465.f1 x114465.f2 x114584.f0 x114584.f1 x114584.f2 true hA114586) rfl rfl (ltn rfl) (All_of .nil)) rfl (by kernel_rfl) ?_
              rintro _ _ _ ⟨rfl, rfl, rfl⟩
              refine ⟨⟨trivial, ⟨⟨0, rfl⟩, trivial⟩, ⟨⟨0, rfl⟩, trivial⟩⟩, ?_⟩
              refine VA.va (i := 11) (listed' := LB 13 4095) rfl (op_not rfl rfl (ltn rfl)) rfl (by kernel_rfl) (by kernel_rfl) (by kernel_rfl) (by kernel_rfl) ⟨trivial, ⟨⟨0, rfl⟩, trivial⟩, ⟨⟨0, rfl⟩, trivial⟩⟩ (fun _ _ _ h => h) ?_
              refine VA.va (i := 12) (listed' := LB 13 8191) rfl (op_pick rfl rfl (ltn rfl)) rfl (by kernel_rfl) (by kernel_rfl) (by kernel_rfl) (by kernel_rfl) ⟨trivial, ⟨⟨0, rfl⟩, trivial⟩, ⟨⟨0, rfl⟩, trivial⟩⟩ (fun _ _ _ h => h) ?_
              refine VA.done (by kernel_rfl) ?_
              exact VN.meet0  [0] [0] trivial ⟨rfl, ⟨rfl, rfl, rfl, rfl, rfl, rfl, rfl, rfl, rfl, rfl, rfl, rfl, rfl, rfl, rfl, rfl, rfl, rfl, rfl, rfl, rfl, trivial⟩, ⟨⟨0, rfl⟩, trivial⟩, rfl, by decide, rfl, by decide⟩
            intro _
            refine VC.cond_f rfl ?_
            refine VC.exit ?_
            refine VX.then ?_
            refine VX.then ?_
            refine VX.hit ?_
            refine VN.then ?_
            refine VC.seq ?_
            refine VC.region ?_
            refine VL.sG (o_buildSlice (vals := []) (cells := #[]) (es := List.map enc23 ([] : List S23)) Try.underlying22 TI24 Z24 rfl (by decide) (by decide) (by kernel_rfl) (by kernel_rfl) rfl (flat_map enc23_ok _) (ltn rfl)) rfl ?_
            intro v114589
            refine VL.va (op_assign rfl (ltn rfl)) rfl ?_
            refine VL.done ?_
            refine VN.then ?_
            refine VC.seq ?_
            refine VC.region ?_
            refine VL.va (op_move rfl (ltn rfl)) rfl ?_
            refine VL.va (op_move rfl (ltn rfl)) rfl ?_
            refine VL.va (op_move rfl (ltn rfl)) rfl ?_
            refine VL.freezeRow' 1 rfl ?_
            by_cases c114590 : i114522 ≤ (l113971.length : Int)
            · rw [if_pos c114590] at h
              refine VL.sG (o_slice (m := l113971.length) 0 0 i114522.toNat lenm cutm Try.underlying22 TI24 rfl rfl ⟨rfl, ⟨_, _, rfl, c114583, rfl⟩, by omega, by omega⟩ (ltn rfl)) rfl ?_
              intro v114592
              by_cases c114593 : (([] : List S23).length + ((l113971.take i114522.toNat).drop 0).length) * 24 ≤ 140737488355328
              · rw [if_pos c114593] at h
                refine VL.sG (o_append 0 appm Try.underlying22 EI24 rfl rfl rfl (.inl ⟨0, rfl⟩) (bndm c114593) (ltn rfl)) rfl ?_
                intro v114594
                refine VL.va (op_assign rfl (ltn rfl)) rfl ?_
                refine VL.done ?_
                refine VN.then ?_
                refine VC.seq ?_
                refine VC.region ?_
                refine VL.va (op_move rfl (ltn rfl)) rfl ?_
                refine VL.va (op_load 0 3 rfl rfl TI24 rfl (fun h => absurd h (by decide)) (ltn rfl)) rfl ?_
                refine VL.sG (o_buildSlice (vals := [(0, .agg #[.int .i64 x114465.f0, .int .i64 x114465.f1, .int .i64 x114465.f2])]) (cells := #[.int .i64 x114465.f0, .int .i64 x114465.f1, .int .i64 x114465.f2]) (es := List.map enc23 ([x114465] : List S23)) Try.underlying22 TI24 Z24 rfl (by decide) (by decide) (by kernel_rfl) (by kernel_rfl) rfl (flat_map enc23_ok _) (ltn rfl)) rfl ?_
                intro v114597
                by_cases c114598 : ((([] : List S23) ++ ((l113971.take i114522.toNat).drop 0)).length + ([x114465] : List S23).length) * 24 ≤ 140737488355328
                · rw [if_pos c114598] at h
                  refine VL.sG (o_append 1 appm Try.underlying22 EI24 rfl rfl rfl (.inr ⟨0, _, rfl⟩) (bndm c114598) (ltn rfl)) rfl ?_
                  intro v114599
                  refine VL.va (op_assign rfl (ltn rfl)) rfl ?_
                  refine VL.done ?_
                  refine VN.then ?_
                  refine VC.seq ?_
                  refine VC.region ?_
                  refine VL.va (op_move rfl (ltn rfl)) rfl ?_
                  refine VL.va (op_move rfl (ltn rfl)) rfl ?_
                  refine VL.va (op_move rfl (ltn rfl)) rfl ?_
                  refine VL.sG (o_slice (m := l113971.length) 1 i114522.toNat l113971.length lenm cutm Try.underlying22 TI24 rfl rfl ⟨⟨_, _, rfl, c114583, rfl⟩, rfl, by omega, by omega⟩ (ltn rfl)) rfl ?_
                  intro v114602
                  by_cases c114603 : (((([] : List S23) ++ ((l113971.take i114522.toNat).drop 0)) ++ ([x114465] : List S23)).length + ((l113971.take l113971.length).drop i114522.toNat).length) * 24 ≤ 140737488355328
                  · rw [if_pos c114603] at h
                    refine VL.sG (o_append 1 appm Try.underlying22 EI24 rfl rfl rfl (.inl ⟨0, rfl⟩) (bndm c114603) (ltn rfl)) rfl ?_
                    intro v114604
                    refine VL.va (op_assign rfl (ltn rfl)) rfl ?_
                    refine VL.done ?_
                    refine VN.then ?_
                    refine VC.region ?_
                    refine VL.va (op_move rfl (ltn rfl)) rfl ?_
                    refine VL.va (op_assign rfl (ltn rfl)) rfl ?_
                    refine VL.done ?_
                    refine VN.block ?_
                    refine VN.then ?_
                    refine VC.region ?_
                    refine VL.va (op_ari64 rfl rfl rfl (ltn rfl)) rfl ?_
                    refine VL.va (op_move rfl (ltn rfl)) rfl ?_
                    refine VL.done ?_
                    refine VN.again [] [1] (ihl5 v114604 (((([] : List S23) ++ ((l113971.take i114522.toNat).drop 0)) ++ ([x114465] : List S23)) ++ ((l113971.take l113971.length).drop i114522.toNat)) (wrap64 (i113972 + 1)) h) ⟨rfl, ⟨rfl, rfl, rfl, rfl, rfl, trivial⟩, ⟨⟨3, rfl⟩, trivial⟩, rfl, by decide, rfl, by decide⟩
                  · rw [if_neg c114603] at h; cases h
                · rw [if_neg c114598] at h; cases h
              · rw [if_neg c114593] at h; cases h
            · rw [if_neg c114590] at h; cases h
          · rw [if_neg c114587] at h
            obtain rfl := Bool.eq_false_iff.2 c114587
            refine VC.openR (m := l113971.length) 0 lenm rfl (pos_get hx114584) ?_
            rintro g113984 n113985 rfl
            refine VC.join0 (⟨48, [(2, .slice none 0 0), (3, (.slice (some ⟨g113984, 0, none⟩) l113971.length n113985)), (5, .pointer (some ⟨g114468, 0, none⟩)), (6, .int .i64 i114522), (9, (.slice (some ad114466) l0.length n114467)), (10, .int .i64 (l0.length : Int)), (11, .int .i64 i113972), (12, .bool true), (14, .agg #[.int .i64 x114465.f0, .int .i64 x114465.f1, .int .i64 x114465.f2]), (15, .int .i64 i114522), (16, (.slice (some ⟨g113984, 0, none⟩) l113971.length n113985)), (17, .int .i64 (l113971.length : Int)), (18, .bool true), (19, .bool true), (20, .agg #[.int .i64 x114465.f0, .int .i64 x114465.f1, .int .i64 x114465.f2]), (21, (.slice (some ⟨g113984, 0, none⟩) l113971.length n113985)), (22, .int .i64 i114522), (24, .agg #[.int .i64 x114584.f0, .int .i64 x114584.f1, .int .i64 x114584.f2]), (25, .bool false), (26, .bool true), (27, .bool true)], [.row (.slice (some ad114466) l0.length n114467) 3 (l0.map enc23)], [(g114468, 24, [.int .i64 x114465.f0, .int .i64 x114465.f1, .int .i64 x114465.f2])], [((.slice (some ⟨g113984, 0, none⟩) l113971.length n113985), 24, 3, l113971.map enc23)]⟩) (True) ?_ ?_
            · refine VC.draw ⟨0, [], [], [(g114468, 24, [.int .i64 x114465.f0, .int .i64 x114465.f1, .int .i64 x114465.f2])], [((.slice (some ⟨g113984, 0, none⟩) l113971.length n113985), 24, 3, l113971.map enc23)]⟩ (by kernel_rfl) rfl (by kernel_rfl) (n := 13) (listed := LB 13 0) ?_
              refine VA.va (i := 0) (listed' := LB 13 1) rfl (op_move rfl (ltn rfl)) rfl (by kernel_rfl) (by kernel_rfl) (by kernel_rfl) (by kernel_rfl) ⟨trivial, ⟨⟨0, rfl⟩, trivial⟩, ⟨⟨0, rfl⟩, trivial⟩⟩ (fun _ _ _ h => h) ?_
              refine VA.va (i := 1) (listed' := LB 13 3) rfl (op_move rfl (ltn rfl)) rfl (by kernel_rfl) (by kernel_rfl) (by kernel_rfl) (by kernel_rfl) ⟨trivial, ⟨⟨0, rfl⟩, trivial⟩, ⟨⟨0, rfl⟩, trivial⟩⟩ (fun _ _ _ h => h) ?_
              refine VA.va (i := 2) (listed' := LB 13 7) rfl (op_len_own (m := l113971.length) 0 lenm Try.underlying22 rfl rfl (ltn rfl)) rfl (by kernel_rfl) (by kernel_rfl) (by kernel_rfl) (by kernel_rfl) ⟨trivial, ⟨⟨0, rfl⟩, trivial⟩, ⟨⟨0, rfl⟩, trivial⟩⟩ (fun _ _ _ h => h) ?_
              refine VA.va (i := 3) (listed' := LB 13 15) rfl (op_cmp rfl rfl (congrArg some hb114581) (ltn rfl)) rfl (by kernel_rfl) (by kernel_rfl) (by kernel_rfl) (by kernel_rfl) ⟨trivial, ⟨⟨0, rfl⟩, trivial⟩, ⟨⟨0, rfl⟩, trivial⟩⟩ (fun _ _ _ h => h) ?_
              refine VA.va (i := 4) (listed' := LB 13 31) rfl (op_move rfl (ltn rfl)) rfl (by kernel_rfl) (by kernel_rfl) (by kernel_rfl) (by kernel_rfl) ⟨trivial, ⟨⟨0, rfl⟩, trivial⟩, ⟨⟨0, rfl⟩, trivial⟩⟩ (fun _ _ _ h => h) ?_
              refine VA.va (i := 5) (listed' := LB 13 63) rfl (op_load 0 3 rfl rfl TI24 rfl (fun h => absurd h (by decide)) (ltn rfl)) rfl (by kernel_rfl) (by kernel_rfl) (by kernel_rfl) (by kernel_rfl) ⟨trivial, ⟨⟨0, rfl⟩, trivial⟩, ⟨⟨0, rfl⟩, trivial⟩⟩ (fun _ _ _ h => h) ?_
              refine VA.va (i := 6) (listed' := LB 13 127) rfl (op_move rfl (ltn rfl)) rfl (by kernel_rfl) (by kernel_rfl) (by kernel_rfl) (by kernel_rfl) ⟨trivial, ⟨⟨0, rfl⟩, trivial⟩, ⟨⟨0, rfl⟩, trivial⟩⟩ (fun _ _ _ h => h) ?_
              refine VA.va (i := 7) (listed' := LB 13 255) rfl (op_move rfl (ltn rfl)) rfl (by kernel_rfl) (by kernel_rfl) (by kernel_rfl) (by kernel_rfl) ⟨trivial, ⟨⟨0, rfl⟩, trivial⟩, ⟨⟨0, rfl⟩, trivial⟩⟩ (fun _ _ _ h => h) ?_
              refine VA.va (i := 8) (listed' := LB 13 511) rfl (op_indexAddr Try.underlying22 TI24 rfl rfl c114583 (lt_get c114583 hx114584) (add_zero_at _ _) (ltn rfl)) rfl (by kernel_rfl) (by kernel_rfl) (by kernel_rfl) (by kernel_rfl) ⟨trivial, ⟨⟨0, rfl⟩, trivial⟩, ⟨⟨0, rfl⟩, trivial⟩⟩ (fun _ _ _ h => h) ?_
              refine VA.va (i := 9) (listed' := LB 13 1023) rfl (op_load_own (sz := 3) (o := 0) 0 i114522.toNat 3 rfl rfl (get_map hx114584) TI24 rfl (fun h => absurd h (by decide)) (ltn rfl)) rfl (by kernel_rfl) (by kernel_rfl) (by kernel_rfl) (by kernel_rfl) ⟨trivial, ⟨⟨0, rfl⟩, trivial⟩, ⟨⟨0, rfl⟩, trivial⟩⟩ (fun _ _ _ h => h) ?_
              refine VA.oneC (i := 10) (listed' := LB 13 2047) (by kernel_rfl) rfl (o_call0 FO11 (tarryref06_Less.ok x114465.f0 x114465.f1 x114465.f2 x114584.f0 x114584.f1 x114584.f2 false hA114586) rfl rfl (ltn rfl) (All_of .nil)) rfl (by kernel_rfl) ?_
              rintro _ _ _ ⟨rfl, rfl, rfl⟩
              refine ⟨⟨trivial, ⟨⟨0, rfl⟩, trivial⟩, ⟨⟨0, rfl⟩, trivial⟩⟩, ?_⟩
              refine VA.va (i := 11) (listed' := LB 13 4095) rfl (op_not rfl rfl (ltn rfl)) rfl (by kernel_rfl) (by kernel_rfl) (by kernel_rfl) (by kernel_rfl) ⟨trivial, ⟨⟨0, rfl⟩, trivial⟩, ⟨⟨0, rfl⟩, trivial⟩⟩ (fun _ _ _ h => h) ?_
              refine VA.va (i := 12) (listed' := LB 13 8191) rfl (op_pick rfl rfl (ltn rfl)) rfl (by kernel_rfl) (by kernel_rfl) (by kernel_rfl) (by kernel_rfl) ⟨trivial, ⟨⟨0, rfl⟩, trivial⟩, ⟨⟨0, rfl⟩, trivial⟩⟩ (fun _ _ _ h => h) ?_
              refine VA.done (by kernel_rfl) ?_
              exact VN.meet0  [0] [0] trivial ⟨rfl, ⟨rfl, rfl, rfl, rfl, rfl, rfl, rfl, rfl, rfl, rfl, rfl, rfl, rfl, rfl, rfl, rfl, rfl, rfl, rfl, rfl, rfl, trivial⟩, ⟨⟨0, rfl⟩, trivial⟩, rfl, by decide, rfl, by decide⟩
            intro _
            refine VC.cond_t rfl ?_
            refine VC.skip ?_
            refine VN.then ?_
            refine VC.block ?_
            refine VC.region ?_
            refine VL.va (op_move rfl (ltn rfl)) rfl ?_
            refine VL.va (op_ari64 rfl rfl rfl (ltn rfl)) rfl ?_
            refine VL.va (op_assign rfl (ltn rfl)) rfl ?_
            refine VL.done ?_
            refine VN.block ?_
            refine VN.again [0] [0] (ihl9 (wrap64 (i114522 + 1)) h) ⟨rfl, ⟨rfl, rfl, rfl, rfl, rfl, rfl, rfl, rfl, rfl, trivial⟩, ⟨⟨0, rfl⟩, trivial⟩, rfl, by decide, rfl, by decide⟩
        · rw [if_neg c114583] at h; cases h
      · rw [if_neg c114582] at h
        obtain rfl : b114581 = false := hb114581.symm.trans (decide_eq_false c114582)
        refine VC.join0 (⟨48, [(2, .slice none 0 0), (3, v113970), (5, .pointer (some ⟨g114468, 0, none⟩)), (6, .int .i64 i114522), (9, (.slice (some ad114466) l0.length n114467)), (10, .int .i64 (l0.length : Int)), (11, .int .i64 i113972), (12, .bool true), (14, .agg #[.int .i64 x114465.f0, .int .i64 x114465.f1, .int .i64 x114465.f2]), (15, .int .i64 i114522), (16, v113970), (17, .int .i64 (l113971.length : Int)), (18, .bool false), (19, .bool false), (20, undef), (21, undef), (22, undef), (23, undef), (24, undef), (25, undef), (26, undef), (27, .bool false)], [.row (.slice (some ad114466) l0.length n114467) 3 (l0.map enc23)], [(g114468, 24, [.int .i64 x114465.f0, .int .i64 x114465.f1, .int .i64 x114465.f2])], [(v113970, 24, 3, l113971.map enc23)]⟩) (True) ?_ ?_
        · refine VC.draw ⟨0, [], [], [], [(v113970, 24, 3, l113971.map enc23)]⟩ (by kernel_rfl) rfl (by kernel_rfl) (n := 13) (listed := LB 13 0) ?_
          refine VA.va (i := 0) (listed' := LB 13 1) rfl (op_move rfl (ltn rfl)) rfl (by kernel_rfl) (by kernel_rfl) (by kernel_rfl) (by kernel_rfl) ⟨trivial, trivial, ⟨⟨0, rfl⟩, trivial⟩⟩ (fun _ _ _ h => h) ?_
          refine VA.va (i := 1) (listed' := LB 13 3) rfl (op_move rfl (ltn rfl)) rfl (by kernel_rfl) (by kernel_rfl) (by kernel_rfl) (by kernel_rfl) ⟨trivial, trivial, ⟨⟨0, rfl⟩, trivial⟩⟩ (fun _ _ _ h => h) ?_
          refine VA.va (i := 2) (listed' := LB 13 7) rfl (op_len_own (m := l113971.length) 0 lenm Try.underlying22 rfl rfl (ltn rfl)) rfl (by kernel_rfl) (by kernel_rfl) (by kernel_rfl) (by kernel_rfl) ⟨trivial, trivial, ⟨⟨0, rfl⟩, trivial⟩⟩ (fun _ _ _ h => h) ?_
          refine VA.va (i := 3) (listed' := LB 13 15) rfl (op_cmp rfl rfl (congrArg some hb114581) (ltn rfl)) rfl (by kernel_rfl) (by kernel_rfl) (by kernel_rfl) (by kernel_rfl) ⟨trivial, trivial, ⟨⟨0, rfl⟩, trivial⟩⟩ (fun _ _ _ h => h) ?_
          refine VA.va (i := 4) (listed' := LB 13 31) rfl (op_move rfl (ltn rfl)) rfl (by kernel_rfl) (by kernel_rfl) (by kernel_rfl) (by kernel_rfl) ⟨trivial, trivial, ⟨⟨0, rfl⟩, trivial⟩⟩ (fun _ _ _ h => h) ?_
          refine VA.un (i := 5) (listed' := LB 13 63) rfl rfl rfl (ltn rfl) (by kernel_rfl) (by kernel_rfl) (by kernel_rfl) (by kernel_rfl) ⟨trivial, trivial, ⟨⟨0, rfl⟩, trivial⟩⟩ (fun _ _ _ h => h) ?_
          refine VA.un (i := 6) (listed' := LB 13 127) rfl rfl rfl (ltn rfl) (by kernel_rfl) (by kernel_rfl) (by kernel_rfl) (by kernel_rfl) ⟨trivial, trivial, ⟨⟨0, rfl⟩, trivial⟩⟩ (fun _ _ _ h => h) ?_
          refine VA.un (i := 7) (listed' := LB 13 255) rfl rfl rfl (ltn rfl) (by kernel_rfl) (by kernel_rfl) (by kernel_rfl) (by kernel_rfl) ⟨trivial, trivial, ⟨⟨0, rfl⟩, trivial⟩⟩ (fun _ _ _ h => h) ?_
          refine VA.un (i := 8) (listed' := LB 13 511) rfl rfl rfl (ltn rfl) (by kernel_rfl) (by kernel_rfl) (by kernel_rfl) (by kernel_rfl) ⟨trivial, trivial, ⟨⟨0, rfl⟩, trivial⟩⟩ (fun _ _ _ h => h) ?_
          refine VA.un (i := 9) (listed' := LB 13 1023) rfl rfl rfl (ltn rfl) (by kernel_rfl) (by kernel_rfl) (by kernel_rfl) (by kernel_rfl) ⟨trivial, trivial, ⟨⟨0, rfl⟩, trivial⟩⟩ (fun _ _ _ h => h) ?_
          refine VA.un (i := 10) (listed' := LB 13 2047) rfl rfl rfl (ltn rfl) (by kernel_rfl) (by kernel_rfl) (by kernel_rfl) (by kernel_rfl) ⟨trivial, trivial, ⟨⟨0, rfl⟩, trivial⟩⟩ (fun _ _ _ h => h) ?_
          refine VA.un (i := 11) (listed' := LB 13 4095) rfl rfl rfl (ltn rfl) (by kernel_rfl) (by kernel_rfl) (by kernel_rfl) (by kernel_rfl) ⟨trivial, trivial, ⟨⟨0, rfl⟩, trivial⟩⟩ (fun _ _ _ h => h) ?_
          refine VA.va (i := 12) (listed' := LB 13 8191) rfl (op_pick rfl rfl (ltn rfl)) rfl (by kernel_rfl) (by kernel_rfl) (by kernel_rfl) (by kernel_rfl) ⟨trivial, trivial, ⟨⟨0, rfl⟩, trivial⟩⟩ (fun _ _ _ h => h) ?_
          refine VA.done (by kernel_rfl) ?_
          exact VN.meet0  [0] [0] trivial ⟨rfl, ⟨rfl, rfl, rfl, rfl, rfl, rfl, rfl, rfl, rfl, rfl, rfl, rfl, rfl, rfl, rfl, rfl, rfl, rfl, rfl, rfl, rfl, rfl, trivial⟩, ⟨⟨0, rfl⟩, trivial⟩, rfl, by decide, rfl, by decide⟩
        intro _
        refine VC.cond_f rfl ?_
        refine VC.exit ?_
        refine VX.then ?_
        refine VX.then ?_
        refine VX.hit ?_
        refine VN.then ?_
        refine VC.seq ?_
        refine VC.region ?_
        refine VL.sG (o_buildSlice (vals := []) (cells := #[]) (es := List.map enc23 ([] : List S23)) Try.underlying22 TI24 Z24 rfl (by decide) (by decide) (by kernel_rfl) (by kernel_rfl) rfl (flat_map enc23_ok _) (ltn rfl)) rfl ?_
        intro v114607
        refine VL.va (op_assign rfl (ltn rfl)) rfl ?_
        refine VL.done ?_
        refine VN.then ?_
        refine VC.seq ?_
        refine VC.region ?_
        refine VL.va (op_move rfl (ltn rfl)) rfl ?_
        refine VL.va (op_move rfl (ltn rfl)) rfl ?_
        refine VL.va (op_move rfl (ltn rfl)) rfl ?_
        refine VL.freezeRow' 1 rfl ?_
        by_cases c114608 : 0 ≤ i114522
        · rw [if_pos c114608] at h
          by_cases c114609 : i114522 ≤ (l113971.length : Int)
          · rw [if_pos c114609] at h
            refine VL.sG (o_slice (m := l113971.length) 0 0 i114522.toNat lenm cutm Try.underlying22 TI24 rfl rfl ⟨rfl, ⟨_, _, rfl, c114608, rfl⟩, by omega, by omega⟩ (ltn rfl)) rfl ?_
            intro v114611
            by_cases c114612 : (([] : List S23).length + ((l113971.take i114522.toNat).drop 0).length) * 24 ≤ 140737488355328
            · rw [if_pos c114612] at h
              refine VL.sG (o_append 0 appm Try.underlying22 EI24 rfl rfl rfl (.inl ⟨0, rfl⟩) (bndm c114612) (ltn rfl)) rfl ?_
              intro v114613
              refine VL.va (op_assign rfl (ltn rfl)) rfl ?_
              refine VL.done ?_
              refine VN.then ?_
              refine VC.seq ?_
              refine VC.region ?_
              refine VL.va (op_move rfl (ltn rfl)) rfl ?_
              refine VL.va (op_load 0 3 rfl rfl TI24 rfl (fun h => absurd h (by decide)) (ltn rfl)) rfl ?_
              refine VL.sG (o_buildSlice (vals := [(0, .agg #[.int .i64 x114465.f0, .int .i64 x114465.f1, .int .i64 x114465.f2])]) (cells := #[.int .i64 x114465.f0, .int .i64 x114465.f1, .int .i64 x114465.f2]) (es := List.map enc23 ([x114465] : List S23)) Try.underlying22 TI24 Z24 rfl (by decide) (by decide) (by kernel_rfl) (by kernel_rfl) rfl (flat_map enc23_ok _) (ltn rfl)) rfl ?_
              intro v114616
              by_cases c114617 : ((([] : List S23) ++ ((l113971.take i114522.toNat).drop 0)).length + ([x114465] : List S23).length) * 24 ≤ 140737488355328
              · rw [if_pos c114617] at h
                refine VL.sG (o_append 1 appm Try.underlying22 EI24 rfl rfl rfl (.inr ⟨0, _, rfl⟩) (bndm c114617) (ltn rfl)) rfl ?_
                intro v114618
                refine VL.va (op_assign rfl (ltn rfl)) rfl ?_
                refine VL.done ?_
                refine VN.then ?_
                refine VC.seq ?_
                refine VC.region ?_
                refine VL.va (op_move rfl (ltn rfl)) rfl ?_
                refine VL.va (op_move rfl (ltn rfl)) rfl ?_
                refine VL.va (op_move rfl (ltn rfl)) rfl ?_
                refine VL.sG (o_slice (m := l113971.length) 1 i114522.toNat l113971.length lenm cutm Try.underlying22 TI24 rfl rfl ⟨⟨_, _, rfl, c114608, rfl⟩, rfl, by omega, by omega⟩ (ltn rfl)) rfl ?_
                intro v114621
                by_cases c114622 : (((([] : List S23) ++ ((l113971.take i114522.toNat).drop 0)) ++ ([x114465] : List S23)).length + ((l113971.take l113971.length).drop i114522.toNat).length) * 24 ≤ 140737488355328
                · rw [if_pos c114622] at h
                  refine VL.sG (o_append 1 appm Try.underlying22 EI24 rfl rfl rfl (.inl ⟨0, rfl⟩) (bndm c114622) (ltn rfl)) rfl ?_
                  intro v114623
                  refine VL.va (op_assign rfl (ltn rfl)) rfl ?_
                  refine VL.done ?_
                  refine VN.then ?_
                  refine VC.region ?_
                  refine VL.va (op_move rfl (ltn rfl)) rfl ?_
                  refine VL.va (op_assign rfl (ltn rfl)) rfl ?_
                  refine VL.done ?_
                  refine VN.block ?_
                  refine VN.then ?_
                  refine VC.region ?_
                  refine VL.va (op_ari64 rfl rfl rfl (ltn rfl)) rfl ?_
                  refine VL.va (op_move rfl (ltn rfl)) rfl ?_
                  refine VL.done ?_
                  refine VN.again [] [1] (ihl5 v114623 (((([] : List S23) ++ ((l113971.take i114522.toNat).drop 0)) ++ ([x114465] : List S23)) ++ ((l113971.take l113971.length).drop i114522.toNat)) (wrap64 (i113972 + 1)) h) ⟨rfl, ⟨rfl, rfl, rfl, rfl, rfl, trivial⟩, ⟨⟨3, rfl⟩, trivial⟩, rfl, by decide, rfl, by decide⟩
                · rw [if_neg c114622] at h; cases h
              · rw [if_neg c114617] at h; cases h
            · rw [if_neg c114612] at h; cases h
          · rw [if_neg c114609] at h; cases h
        · rw [if_neg c114608] at h; cases h
    · rw [if_neg c114464] at h; cases h
  · rw [if_neg c114302] at h
    obtain rfl : b114300 = false := hb114300.symm.trans (decide_eq_false c114302)
    refine VC.cond_f rfl ?_
    refine VC.exit ?_
    refine VX.then ?_
    refine VX.then ?_
    refine VX.hit ?_
    refine VN.then ?_
    refine VC.seq ?_
    refine VC.region ?_
    refine VL.va (op_move rfl (ltn rfl)) rfl ?_
    refine VL.va (op_assign rfl (ltn rfl)) rfl ?_
    refine VL.done ?_
    refine VN.then ?_
    refine VC.ret ?_
    obtain rfl := Option.some.inj h
    exact VR.fn (rs := [.tmp 2]) [] [(v113970, 24, 3, l113971.map enc23)] [0] rfl (.tmp rfl .nil) ⟨v113970, rfl, rfl, rfl⟩ trivial rfl (by decide)
set_option maxHeartbeats 4000000 in
set_option maxRecDepth 100000 in
theorem tarryref06_Same.ok (k : Nat) (l0 : List S23) (l1 : List S23) (v0 : Value) (v1 : Value) (r1 : Bool) (h : tarryref06_Same.f k l0 l1 = some r1) :
    VCalls Try.prog 17 [v0, v1] [.row v0 3 (l0.map enc23), .row v1 3 (l1.map enc23)] (fun v G own => v = .bool r1 ∧ G = [] ∧ own = []) := by
  refine VCalls.intro Try.func17 rfl (len rfl) fun E hC => ?_
  unfold tarryref06_Same.f at h
  refine VC.seq ?_
  refine VC.region ?_
  refine VL.va (op_assign rfl (ltn rfl)) rfl ?_
  refine VL.done ?_
  refine VN.then ?_
  refine VC.seq ?_
  refine VC.seq ?_
  refine VC.region ?_
  refine VL.va (op_move rfl (ltn rfl)) rfl ?_
  refine VL.va (op_len (m := l0.length) 0 lenm Try.underlying22 rfl rfl (ltn rfl)) rfl ?_
  refine VL.va (op_move rfl (ltn rfl)) rfl ?_
  refine VL.va (op_len (m := l1.length) 1 lenm Try.underlying22 rfl rfl (ltn rfl)) rfl ?_
  refine VL.letter (((l0.length : Int) != (l1.length : Int))) fun b114663 hb114663 => ?_
  refine VL.va (op_cmp rfl rfl (congrArg some hb114663) (ltn rfl)) rfl ?_
  refine VL.done ?_
  refine VN.then ?_
  by_cases c114664 : (l0.length : Int) = (l1.length : Int)
  · rw [if_pos c114664] at h
    obtain rfl : b114663 = false := hb114663.symm.trans (bne_eq_false_iff_eq.2 c114664)
    refine VC.cond_f rfl ?_
    refine VC.skip ?_
    refine VN.then ?_
    refine VC.seq ?_
    refine VC.seq ?_
    refine VC.region ?_
    refine VL.va (op_move rfl (ltn rfl)) rfl ?_
    refine VL.va (op_len (m := l0.length) 0 lenm Try.underlying22 rfl rfl (ltn rfl)) rfl ?_
    refine VL.va (op_move rfl (ltn rfl)) rfl ?_
    refine VL.done ?_
    refine VN.then ?_
    refine VC.block ?_
    refine VC.loop1 (fun (i114718 : Int) => ⟨26, [(0, v0), (1, v1), (4, .bool false), (12, .int .i64 (l0.length : Int)), (13, .int .i64 i114718)], [.row v0 3 (l0.map enc23), .row v1 3 (l1.map enc23)], [], []⟩) (fun (ml1 : Nat) (i114718 : Int) => tarryref06_Same.l1 k l0 l1 ml1 i114718 = some r1) k 0 [] [] h ⟨rfl, ⟨rfl, rfl, rfl, rfl, rfl, trivial⟩, ⟨⟨0, rfl⟩, ⟨1, rfl⟩, trivial⟩, rfl, by decide, rfl, by decide⟩ (by intros; simp [tarryref06_Same.l1]) ?_
    clear h
    intro ml1 ihl1 i114718 h
    simp only [tarryref06_Same.l1] at h
    refine VC.seq ?_
    refine VC.region ?_
    refine VL.letter (decide (i114718 < (l0.length : Int))) fun b114732 hb114732 => ?_
    refine VL.va (op_cmp rfl rfl (congrArg some hb114732) (ltn rfl)) rfl ?_
    refine VL.done ?_
    refine VN.then ?_
    refine VC.seq ?_
    by_cases c114734 : i114718 < (l0.length : Int)
    · rw [if_pos c114734] at h
      obtain rfl : b114732 = true := hb114732.symm.trans (decide_eq_true c114734)
      refine VC.cond_t rfl ?_
      refine VC.skip ?_
      refine VN.then ?_
      refine VC.seq ?_
      refine VC.block ?_
      refine VC.seq ?_
      refine VC.region ?_
      refine VL.va (op_move rfl (ltn rfl)) rfl ?_
      refine VL.va (op_assign rfl (ltn rfl)) rfl ?_
      refine VL.done ?_
      refine VN.then ?_
      by_cases c114740 : 0 ≤ i114718
      · rw [if_pos c114740] at h
        replace h := Option.bind_eq_some_iff.1 h
        obtain ⟨x114741, hx114741, h⟩ := h
        replace h := Option.bind_eq_some_iff.1 h
        obtain ⟨x114742, hx114742, h⟩ := h
        refine VC.letter ((!(((x114741.f0 == x114742.f0) && ((x114741.f1 == x114742.f1) && (x114741.f2 == x114742.f2)))))) fun b114743 hb114743 => ?_
        refine VC.open (m := l0.length) 0 lenm rfl (pos_get hx114741) ?_
        rintro ad114669 n114670 rfl
        refine VC.open (m := l1.length) 1 lenm rfl (pos_get hx114742) ?_
        rintro ad114672 n114673 rfl
        refine VC.join0 (⟨26, [(0, (.slice (some ad114669) l0.length n114670)), (1, (.slice (some ad114672) l1.length n114673)), (4, .bool false), (5, .int .i64 i114718), (12, .int .i64 (l0.length : Int)), (13, .int .i64 i114718), (14, .bool true), (15, .int .i64 i114718), (16, (.slice (some ad114669) l0.length n114670)), (17, .int .i64 i114718), (19, .agg #[.int .i64 x114741.f0, .int .i64 x114741.f1, .int .i64 x114741.f2]), (20, (.slice (some ad114672) l1.length n114673)), (21, .int .i64 i114718), (23, .agg #[.int .i64 x114742.f0, .int .i64 x114742.f1, .int .i64 x114742.f2]), (24, .bool b114743)], [.row (.slice (some ad114669) l0.length n114670) 3 (l0.map enc23), .row (.slice (some ad114672) l1.length n114673) 3 (l1.map enc23)], [], []⟩) (True) ?_ ?_
        · refine VC.draw ⟨0, [], [.row (.slice (some ad114669) l0.length n114670) 3 (l0.map enc23), .row (.slice (some ad114672) l1.length n114673) 3 (l1.map enc23)], [], []⟩ (by kernel_rfl) rfl (by kernel_rfl) (n := 9) (listed := LB 9 0) ?_
          refine VA.va (i := 0) (listed' := LB 9 1) rfl (op_move rfl (ltn rfl)) rfl (by kernel_rfl) (by kernel_rfl) (by kernel_rfl) (by kernel_rfl) ⟨⟨⟨0, rfl⟩, ⟨1, rfl⟩, trivial⟩, trivial, trivial⟩ (fun _ _ _ h => h) ?_
          refine VA.va (i := 1) (listed' := LB 9 3) rfl (op_move rfl (ltn rfl)) rfl (by kernel_rfl) (by kernel_rfl) (by kernel_rfl) (by kernel_rfl) ⟨⟨⟨0, rfl⟩, ⟨1, rfl⟩, trivial⟩, trivial, trivial⟩ (fun _ _ _ h => h) ?_
          refine VA.va (i := 2) (listed' := LB 9 7) rfl (op_indexAddr Try.underlying22 TI24 rfl rfl c114740 (lt_get c114740 hx114741) rfl (ltn rfl)) rfl (by kernel_rfl) (by kernel_rfl) (by kernel_rfl) (by kernel_rfl) ⟨⟨⟨0, rfl⟩, ⟨1, rfl⟩, trivial⟩, trivial, trivial⟩ (fun _ _ _ h => h) ?_
          refine VA.va (i := 3) (listed' := LB 9 15) rfl (op_load_row (sz := 3) (o := 0) 0 i114718.toNat 3 rfl rfl (get_map hx114741) TI24 rfl (fun h => absurd h (by decide)) (ltn rfl)) rfl (by kernel_rfl) (by kernel_rfl) (by kernel_rfl) (by kernel_rfl) ⟨⟨⟨0, rfl⟩, ⟨1, rfl⟩, trivial⟩, trivial, trivial⟩ (fun _ _ _ h => h) ?_
          refine VA.va (i := 4) (listed' := LB 9 31) rfl (op_move rfl (ltn rfl)) rfl (by kernel_rfl) (by kernel_rfl) (by kernel_rfl) (by kernel_rfl) ⟨⟨⟨0, rfl⟩, ⟨1, rfl⟩, trivial⟩, trivial, trivial⟩ (fun _ _ _ h => h) ?_
          refine VA.va (i := 5) (listed' := LB 9 63) rfl (op_move rfl (ltn rfl)) rfl (by kernel_rfl) (by kernel_rfl) (by kernel_rfl) (by kernel_rfl) ⟨⟨⟨0, rfl⟩, ⟨1, rfl⟩, trivial⟩, trivial, trivial⟩ (fun _ _ _ h => h) ?_
          refine VA.va (i := 6) (listed' := LB 9 127) rfl (op_indexAddr Try.underlying22 TI24 rfl rfl c114740 (lt_get c114740 hx114742) rfl (ltn rfl)) rfl (by kernel_rfl) (by kernel_rfl) (by kernel_rfl) (by kernel_rfl) ⟨⟨⟨0, rfl⟩, ⟨1, rfl⟩, trivial⟩, trivial, trivial⟩ (fun _ _ _ h => h) ?_
          refine VA.va (i := 7) (listed' := LB 9 255) rfl (op_load_row (sz := 3) (o := 0) 1 i114718.toNat 3 rfl rfl (get_map hx114742) TI24 rfl (fun h => absurd h (by decide)) (ltn rfl)) rfl (by kernel_rfl) (by kernel_rfl) (by kernel_rfl) (by kernel_rfl) ⟨⟨⟨0, rfl⟩, ⟨1, rfl⟩, trivial⟩, trivial, trivial⟩ (fun _ _ _ h => h) ?_
          refine VA.va (i := 8) (listed' := LB 9 511) rfl (op_neS rfl rfl EG24 (EQ24 x114741.f0 x114741.f1 x114741.f2 x114742.f0 x114742.f1 x114742.f2) hb114743 (ltn rfl)) rfl (by kernel_rfl) (by kernel_rfl) (by kernel_rfl) (by kernel_rfl) ⟨⟨⟨0, rfl⟩, ⟨1, rfl⟩, trivial⟩, trivial, trivial⟩ (fun _ _ _ h => h) ?_
          refine VA.done (by kernel_rfl) ?_
          exact VN.meet0  [] [] trivial ⟨rfl, ⟨rfl, rfl, rfl, rfl, rfl, rfl, rfl, rfl, rfl, rfl, rfl, rfl, rfl, rfl, rfl, trivial⟩, ⟨⟨0, rfl⟩, ⟨1, rfl⟩, trivial⟩, rfl, by decide, rfl, by decide⟩
        intro _
        by_cases c114744 : (((x114741.f0 == x114742.f0) && ((x114741.f1 == x114742.f1) && (x114741.f2 == x114742.f2)))) = true
        · rw [if_pos c114744] at h
          obtain rfl : b114743 = false := hb114743.symm.trans (not_t c114744)
          refine VC.cond_f rfl ?_
          refine VC.skip ?_
          refine VN.block ?_
          refine VN.then ?_
          refine VC.region ?_
          refine VL.va (op_ari64 rfl rfl rfl (ltn rfl)) rfl ?_
          refine VL.va (op_move rfl (ltn rfl)) rfl ?_
          refine VL.done ?_
          refine VN.again [] [] (ihl1 (wrap64 (i114718 + 1)) h) ⟨rfl, ⟨rfl, rfl, rfl, rfl, rfl, trivial⟩, ⟨⟨0, rfl⟩, ⟨1, rfl⟩, trivial⟩, rfl, by decide, rfl, by decide⟩
        · rw [if_neg c114744] at h
          obtain rfl : b114743 = true := hb114743.symm.trans (not_f c114744)
          refine VC.cond_t rfl ?_
          refine VC.seq ?_
          refine VC.region ?_
          refine VL.va (op_assign rfl (ltn rfl)) rfl ?_
          refine VL.done ?_
          refine VN.then ?_
          refine VC.ret ?_
          refine VR.block ?_
          refine VR.then ?_
          refine VR.then ?_
          refine VR.block ?_
          refine VR.then ?_
          obtain rfl := Option.some.inj h
          exact VR.fn (rs := [.tmp 4]) [] [] [] rfl (.tmp rfl .nil) ⟨rfl, rfl, rfl⟩ trivial rfl (by decide)
      · rw [if_neg c114740] at h; cases h
    · rw [if_neg c114734] at h
      obtain rfl : b114732 = false := hb114732.symm.trans (decide_eq_false c114734)
      refine VC.cond_f rfl ?_
      refine VC.exit ?_
      refine VX.then ?_
      refine VX.then ?_
      refine VX.hit ?_
      refine VN.then ?_
      refine VC.seq ?_
      refine VC.region ?_
      refine VL.va (op_assign rfl (ltn rfl)) rfl ?_
      refine VL.done ?_
      refine VN.then ?_
      refine VC.ret ?_
      obtain rfl := Option.some.inj h
      exact VR.fn (rs := [.tmp 4]) [] [] [] rfl (.tmp rfl .nil) ⟨rfl, rfl, rfl⟩ trivial rfl (by decide)
  · rw [if_neg c114664] at h
    obtain rfl : b114663 = true := hb114663.symm.trans (bne_iff_ne.2 c114664)
    refine VC.cond_t rfl ?_
    refine VC.seq ?_
    refine VC.region ?_
    refine VL.va (op_assign rfl (ltn rfl)) rfl ?_
    refine VL.done ?_
    refine VN.then ?_
    refine VC.ret ?_
    refine VR.then ?_
    obtain rfl := Option.some.inj h
    exact VR.fn (rs := [.tmp 4]) [] [] [] rfl (.tmp rfl .nil) ⟨rfl, rfl, rfl⟩ trivial rfl (by decide)

end Go.Proofs.Ythgoagnennjagaa.PQueueGoes
