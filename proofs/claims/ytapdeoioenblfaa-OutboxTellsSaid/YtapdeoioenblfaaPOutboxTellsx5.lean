/- Written by a program of this repo: what the program's functions do, each as a Lean function, shown of the loaded code; or a statement's row over that; no condition of its own. -/
import Derived.Test.YtapdeoioenblfaaPOutboxTellsx4
namespace Go.Proofs.Ytapdeoioenblfaa.POutboxTells
open Go Go.RowKit Go.Proofs.YtapdeoioenblfaaV
set_option linter.unusedVariables false
set_option linter.unusedSimpArgs false

set_option maxHeartbeats 4000000 in
set_option maxRecDepth 100000 in
theorem tarrylaw14_OutboxTells.ok (k : Nat) (l0 : List S28) (v0 : Value) (r1 : Bool) (h : tarrylaw14_OutboxTells.f k l0 = some r1) :
    VCalls Try.prog 3 [v0] [.row v0 5 (l0.map enc28)] (fun v G own => v = .bool r1 ∧ G = [] ∧ own = []) := by
  refine VCalls.intro Try.func3 rfl (len rfl) fun E hC hW hD hU => ?_
  unfold tarrylaw14_OutboxTells.f at h
  refine VC.seq ?_
  refine VC.region ?_
  refine VL.va (op_assign rfl (ltn rfl)) rfl ?_
  refine VL.done ?_
  refine VN.then ?_
  refine VC.seq ?_
  refine VC.region ?_
  refine VL.sG (o_alloc Z25 ZL25 (ltn rfl)) rfl ?_
  intro g2
  refine VL.done ?_
  refine VN.then ?_
  refine VC.seq ?_
  refine VC.region ?_
  refine VL.va (op_assign rfl (ltn rfl)) rfl ?_
  refine VL.va (op_assign rfl (ltn rfl)) rfl ?_
  refine VL.done ?_
  refine VN.then ?_
  refine VC.seq ?_
  refine VC.region ?_
  refine VL.newM (o_makeMap (K := Int) (V := Bool) (ke := mI) (ve := mB) (ltn rfl)) rfl ?_
  intro g3 hbg3 hnewg3
  clear hnewg3
  refine VL.newM (o_makeMap (K := Int) (V := Int) (ke := mI) (ve := mI) (ltn rfl)) rfl ?_
  intro g4 hbg4 hnewg4
  have hne_g3_g4 := (hnewg4 _ (List.mem_of_getElem? (i := 0) rfl)).1
  clear hnewg4
  refine VL.va (op_assign rfl (ltn rfl)) rfl ?_
  refine VL.va (op_assign rfl (ltn rfl)) rfl ?_
  refine VL.done ?_
  refine VN.then ?_
  refine VC.seq ?_
  refine VC.seq ?_
  refine VC.region ?_
  refine VL.va (op_move rfl (ltn rfl)) rfl ?_
  refine VL.va (op_len (m := l0.length) 2 lenm Try.underlying22 rfl rfl (ltn rfl)) rfl ?_
  refine VL.va (op_move rfl (ltn rfl)) rfl ?_
  refine VL.done ?_
  refine VN.then ?_
  refine VC.block ?_
  refine VC.nilFact' 4 ?_
  refine VC.loop8 (fun (i11087 : Int) (i11088 : Int) (i11089 : Int) (i11090 : Int) (v11092 : Value) (l11093 : List S33) (mp11095 : List (Int × Int)) (mp11096 : List (Int × Bool)) => ⟨186, [(2, .bool false), (3, .pointer (some ⟨g2, 0, none⟩)), (4, .int .i64 i11087), (5, .int .i64 i11088), (6, .map (some g3)), (7, .map (some g4)), (25, v0), (26, .int .i64 (l0.length : Int)), (27, .int .i64 i11089)], [.row v11092 4 (l11093.map enc33), .mp g4 (menc mI mI mp11095), .mp g3 (menc mI mB mp11096), .row v0 5 (l0.map enc28)], [(g2, 25, [.int .i64 i11090, v11092])], []⟩) (fun (ml39 : Nat) (i11087 : Int) (i11088 : Int) (i11089 : Int) (i11090 : Int) (v11092 : Value) (l11093 : List S33) (mp11095 : List (Int × Int)) (mp11096 : List (Int × Bool)) => tarrylaw14_OutboxTells.l39 k l0 ml39 i11087 i11088 i11089 i11090 l11093 mp11095 mp11096 = some r1) k 0 0 0 0 (.slice none 0 0) ([] : List S33) ([] : List (Int × Int)) ([] : List (Int × Bool)) [0] [] h ⟨rfl, ⟨rfl, rfl, rfl, rfl, rfl, rfl, rfl, rfl, rfl, trivial⟩, ⟨⟨0, rfl⟩, ⟨1, rfl⟩, ⟨2, rfl⟩, ⟨3, rfl⟩, trivial⟩, rfl, by decide, rfl, by decide⟩ (by intros; simp [tarrylaw14_OutboxTells.l39]) ?_
  clear h
  intro ml39 ihl39 i11087 i11088 i11089 i11090 v11092 l11093 mp11095 mp11096 h
  simp only [tarrylaw14_OutboxTells.l39] at h
  refine VC.seq ?_
  refine VC.region ?_
  refine VL.letter (decide (i11089 < (l0.length : Int))) fun b13500 hb13500 => ?_
  refine VL.va (op_cmp rfl rfl (congrArg some hb13500) (ltn rfl)) rfl ?_
  refine VL.done ?_
  refine VN.then ?_
  refine VC.seq ?_
  by_cases c13547 : i11089 < (l0.length : Int)
  · rw [if_pos c13547] at h
    obtain rfl : b13500 = true := hb13500.symm.trans (decide_eq_true c13547)
    refine VC.cond_t rfl ?_
    refine VC.skip ?_
    refine VN.then ?_
    refine VC.seq ?_
    refine VC.block ?_
    refine VC.seq ?_
    refine VC.region ?_
    refine VL.va (op_move rfl (ltn rfl)) rfl ?_
    by_cases c14752 : 0 ≤ i11089
    · rw [if_pos c14752] at h
      replace h := Option.bind_eq_some_iff.1 h
      obtain ⟨x14753, hx14753, h⟩ := h
      refine VL.open (m := l0.length) 3 lenm rfl (pos_get hx14753) ?_
      rintro ad14754 n14755 rfl
      refine VL.va (op_indexAddr Try.underlying22 TI29 rfl rfl c14752 (lt_get c14752 hx14753) rfl (ltn rfl)) rfl ?_
      refine VL.va (op_load_row (sz := 5) (o := 0) 3 i11089.toNat 5 rfl rfl (get_map hx14753) TI29 rfl (fun h => absurd h (by decide)) (ltn rfl)) rfl ?_
      refine VL.sG (o_alloc Z29 ZL29 (ltn rfl)) rfl ?_
      intro g14756
      refine VL.va (op_assign rfl (ltn rfl)) rfl ?_
      refine VL.step1 (o_store 0 5 rfl rfl rfl TI29 (.agg (.of rfl)) rfl (len rfl)) rfl ?_
      refine VL.done ?_
      refine VN.then ?_
      refine VC.seq ?_
      refine VC.seq ?_
      refine VC.region ?_
      refine VL.va (op_move rfl (ltn rfl)) rfl ?_
      refine VL.letter (decide (i11089 ≥ 30)) fun b14761 hb14761 => ?_
      refine VL.va (op_cmp rfl rfl (congrArg some hb14761) (ltn rfl)) rfl ?_
      refine VL.done ?_
      refine VN.then ?_
      by_cases c14762 : i11089 ≥ 30
      · rw [if_pos c14762] at h
        obtain rfl : b14761 = true := hb14761.symm.trans (decide_eq_true c14762)
        refine VC.cond_t rfl ?_
        refine VC.exit ?_
        refine VX.then ?_
        refine VX.miss (by decide) ?_
        refine VX.then ?_
        refine VX.then ?_
        refine VX.hit ?_
        refine VN.then ?_
        refine VC.seq ?_
        refine VC.region ?_
        replace h := Option.bind_eq_some_iff.1 h
        obtain ⟨t14763, hA14764, h⟩ := h
        refine VL.sC (o_call0 FO9 (tarrylaw14_alive.ok k t14763 hA14764) rfl rfl (ltn rfl) (All_of .nil)) rfl ?_
        rintro _ _ _ ⟨rfl, rfl, rfl⟩
        refine VL.va (op_assign rfl (ltn rfl)) rfl ?_
        refine VL.done ?_
        refine VN.then ?_
        refine VC.ret ?_
        obtain rfl := Option.some.inj h
        exact VR.fn (rs := [.tmp 2]) [] [] [] rfl (.tmp rfl .nil) ⟨rfl, rfl, rfl⟩ trivial rfl (by decide)
      · rw [if_neg c14762] at h
        obtain rfl : b14761 = false := hb14761.symm.trans (decide_eq_false c14762)
        refine VC.cond_f rfl ?_
        refine VC.skip ?_
        refine VN.then ?_
        refine VC.seq ?_
        refine VC.region ?_
        refine VL.va (op_move rfl (ltn rfl)) rfl ?_
        refine VL.va (op_fieldAddr FI29_4 rfl (add_at _ _ _) (ltn rfl)) rfl ?_
        refine VL.va (op_load 0 1 rfl rfl TI3 rfl (by decide) (ltn rfl)) rfl ?_
        refine VL.va (op_rem rfl rfl (by decide) rfl (ltn rfl)) rfl ?_
        refine VL.va (op_ari64 rfl rfl rfl (ltn rfl)) rfl ?_
        refine VL.va (op_rem rfl rfl (by decide) rfl (ltn rfl)) rfl ?_
        refine VL.va (op_ari64 rfl rfl rfl (ltn rfl)) rfl ?_
        refine VL.va (op_assign rfl (ltn rfl)) rfl ?_
        refine VL.done ?_
        refine VN.then ?_
        refine VC.join8 (fun (i15938 : Int) (q15939 : Bool) (q15940 : Bool) (i15941 : Int) (v15943 : Value) (l15944 : List S33) (mp15945 : List (Int × Int)) (mp15946 : List (Int × Bool)) => ⟨186, [(2, .bool false), (3, .pointer (some ⟨g2, 0, none⟩)), (4, .int .i64 (wrap64 (i11087 + ((wrap64 ((x14753.f4.tmod 20) + 20)).tmod 20)))), (5, .int .i64 i15938), (6, .map (some g3)), (7, .map (some g4)), (8, .int .i64 i11089), (9, .pointer (some ⟨g14756, 0, none⟩)), (25, (.slice (some ad14754) l0.length n14755)), (26, .int .i64 (l0.length : Int)), (27, .int .i64 i11089), (28, .bool true), (29, .int .i64 i11089), (31, .agg #[.int .i64 x14753.f0, .int .i64 x14753.f1, .int .i64 x14753.f2, .int .i64 x14753.f3, .int .i64 x14753.f4]), (32, .int .i64 i11089), (33, .bool false), (34, .int .i64 i11087), (35, .pointer (some ⟨g14756, 4, none⟩)), (36, .int .i64 x14753.f4), (37, .int .i64 (x14753.f4.tmod 20)), (38, .int .i64 (wrap64 ((x14753.f4.tmod 20) + 20))), (39, .int .i64 ((wrap64 ((x14753.f4.tmod 20) + 20)).tmod 20)), (40, .int .i64 (wrap64 (i11087 + ((wrap64 ((x14753.f4.tmod 20) + 20)).tmod 20)))), (41, .pointer (some ⟨g14756, 0, none⟩)), (42, .int .i64 x14753.f0), (43, .int .i64 (x14753.f0.tmod 3)), (44, .int .i64 (wrap64 ((x14753.f0.tmod 3) + 3))), (45, .int .i64 ((wrap64 ((x14753.f0.tmod 3) + 3)).tmod 3)), (109, .bool q15939), (110, .bool q15940)], [.row v15943 4 (l15944.map enc33), .mp g4 (menc mI mI mp15945), .mp g3 (menc mI mB mp15946), .row (.slice (some ad14754) l0.length n14755) 5 (l0.map enc28)], [(g14756, 29, [.int .i64 x14753.f0, .int .i64 x14753.f1, .int .i64 x14753.f2, .int .i64 x14753.f3, .int .i64 x14753.f4]), (g2, 25, [.int .i64 i15941, v15943])], []⟩) (fun (i15938 : Int) (q15939 : Bool) (q15940 : Bool) (i15941 : Int) (v15943 : Value) (l15944 : List S33) (mp15945 : List (Int × Int)) (mp15946 : List (Int × Bool)) => tarrylaw14_OutboxTells.j71 k (tarrylaw14_OutboxTells.l39 k l0 ml39) i11087 i11089 x14753 i15938 q15939 q15940 i15941 l15944 mp15945 mp15946 = some r1) ?_ ?_
        · refine VC.seq ?_
          refine VC.region ?_
          refine VL.va (op_fieldAddr FI29_0 rfl (add_at _ _ _) (ltn rfl)) rfl ?_
          refine VL.va (op_load 0 1 rfl rfl TI3 rfl (by decide) (ltn rfl)) rfl ?_
          refine VL.va (op_rem rfl rfl (by decide) rfl (ltn rfl)) rfl ?_
          refine VL.va (op_ari64 rfl rfl rfl (ltn rfl)) rfl ?_
          refine VL.va (op_rem rfl rfl (by decide) rfl (ltn rfl)) rfl ?_
          refine VL.done ?_
          refine VN.then ?_
          refine VC.block ?_
          refine VC.seq ?_
          refine VC.region ?_
          refine VL.letter ((((wrap64 ((x14753.f0.tmod 3) + 3)).tmod 3) == 0)) fun b15571 hb15571 => ?_
          refine VL.va (op_cmp rfl rfl (congrArg some hb15571) (ltn rfl)) rfl ?_
          refine VL.va (op_assign rfl (ltn rfl)) rfl ?_
          refine VL.done ?_
          refine VN.then ?_
          by_cases c15572 : ((wrap64 ((x14753.f0.tmod 3) + 3)).tmod 3) = 0
          · rw [if_pos c15572] at h
            obtain rfl : b15571 = true := hb15571.symm.trans (beq_iff_eq.2 c15572)
            refine VC.cond_t rfl ?_
            refine VC.seq ?_
            refine VC.region ?_
            refine VL.va (op_load 1 2 rfl rfl TI25 rfl (fun h => absurd h (by decide)) (ltn rfl)) rfl ?_
            refine VL.va (op_fieldAddr FI29_1 rfl (add_at _ _ _) (ltn rfl)) rfl ?_
            refine VL.va (op_load 0 1 rfl rfl TI3 rfl (by decide) (ltn rfl)) rfl ?_
            refine VL.va (op_rem rfl rfl (by decide) rfl (ltn rfl)) rfl ?_
            refine VL.va (op_ari64 rfl rfl rfl (ltn rfl)) rfl ?_
            refine VL.va (op_rem rfl rfl (by decide) rfl (ltn rfl)) rfl ?_
            refine VL.va (op_ari64 rfl rfl rfl (ltn rfl)) rfl ?_
            refine VL.va (op_fieldAddr FI29_2 rfl (add_at _ _ _) (ltn rfl)) rfl ?_
            refine VL.va (op_load 0 1 rfl rfl TI3 rfl (by decide) (ltn rfl)) rfl ?_
            refine VL.va (op_rem rfl rfl (by decide) rfl (ltn rfl)) rfl ?_
            refine VL.va (op_ari64 rfl rfl rfl (ltn rfl)) rfl ?_
            refine VL.va (op_rem rfl rfl (by decide) rfl (ltn rfl)) rfl ?_
            refine VL.va (op_ari64 rfl rfl rfl (ltn rfl)) rfl ?_
            refine VL.va (op_move rfl (ltn rfl)) rfl ?_
            replace h := Option.bind_eq_some_iff.1 h
            obtain ⟨⟨t15573, r15574, t15575, t15576⟩, hA15577, h⟩ := h
            dsimp only at h
            refine VL.sC (o_call0 FO5 (outbox_Put.ok k i11090 l11093 (wrap64 (1 + ((wrap64 ((x14753.f1.tmod 3) + 3)).tmod 3))) (wrap64 (1 + ((wrap64 ((x14753.f2.tmod 5) + 5)).tmod 5))) (wrap64 (i11087 + ((wrap64 ((x14753.f4.tmod 20) + 20)).tmod 20))) v11092 t15573 r15574 t15575 t15576 hA15577) rfl rfl (ltn rfl) (All_of (.cons (List.mem_of_getElem? (i := 0) rfl) .nil))) rfl ?_
            rintro _ _ _ ⟨v15579, rfl, rfl, rfl⟩
            refine VL.va (op_move rfl (ltn rfl)) rfl ?_
            refine VL.va (op_extract rfl rfl (ltn rfl)) rfl ?_
            refine VL.va (op_extract rfl rfl (ltn rfl)) rfl ?_
            refine VL.va (op_extract rfl rfl (ltn rfl)) rfl ?_
            refine VL.sG (o_alloc Z25 ZL25 (ltn rfl)) rfl ?_
            intro g15580
            refine VL.step1 (o_store 0 2 rfl rfl rfl TI25 (.agg (.c rfl (.f 0 rfl .nil))) rfl (len rfl)) rfl ?_
            refine VL.va (op_assign rfl (ltn rfl)) rfl ?_
            refine VL.va (op_assign rfl (ltn rfl)) rfl ?_
            refine VL.done ?_
            refine VN.then ?_
            refine VC.seq ?_
            refine VC.seq ?_
            refine VC.region ?_
            refine VL.va (op_move rfl (ltn rfl)) rfl ?_
            refine VL.letter ((t15576 != 0)) fun b15587 hb15587 => ?_
            refine VL.va (op_cmp rfl rfl (congrArg some hb15587) (ltn rfl)) rfl ?_
            refine VL.done ?_
            refine VN.then ?_
            by_cases c15588 : t15576 = 0
            · rw [if_pos c15588] at h
              obtain rfl : b15587 = false := hb15587.symm.trans (bne_eq_false_iff_eq.2 c15588)
              refine VC.cond_f rfl ?_
              refine VC.skip ?_
              refine VN.then ?_
              refine VC.seq ?_
              refine VC.seq ?_
              refine VC.region ?_
              refine VL.va (op_move rfl (ltn rfl)) rfl ?_
              refine VL.va (op_move rfl (ltn rfl)) rfl ?_
              refine VL.letter (decide (t15575 ≤ i11088)) fun b15591 hb15591 => ?_
              refine VL.va (op_cmp rfl rfl (congrArg some hb15591) (ltn rfl)) rfl ?_
              refine VL.done ?_
              refine VN.then ?_
              by_cases c15592 : t15575 ≤ i11088
              · rw [if_pos c15592] at h
                obtain rfl : b15591 = true := hb15591.symm.trans (decide_eq_true c15592)
                refine VC.cond_t rfl ?_
                refine VC.seq ?_
                refine VC.region ?_
                refine VL.va (op_assign rfl (ltn rfl)) rfl ?_
                refine VL.done ?_
                refine VN.then ?_
                refine VC.ret ?_
                refine VR.then ?_
                refine VR.block ?_
                refine VR.then ?_
                refine VR.block ?_
                refine VR.then ?_
                refine VR.then ?_
                refine VR.block ?_
                refine VR.then ?_
                cases h
              · rw [if_neg c15592] at h
                obtain rfl : b15591 = false := hb15591.symm.trans (decide_eq_false c15592)
                refine VC.cond_f rfl ?_
                refine VC.skip ?_
                refine VN.then ?_
                refine VC.region ?_
                refine VL.va (op_move rfl (ltn rfl)) rfl ?_
                refine VL.va (op_move rfl (ltn rfl)) rfl ?_
                refine VL.va (op_move rfl (ltn rfl)) rfl ?_
                refine VL.va (op_move rfl (ltn rfl)) rfl ?_
                refine VL.va (op_load 0 2 rfl rfl TI25 rfl (fun h => absurd h (by decide)) (ltn rfl)) rfl ?_
                refine VL.va (op_move rfl (ltn rfl)) rfl ?_
                refine VL.va (op_move rfl (ltn rfl)) rfl ?_
                refine VL.va (op_ari64 rfl rfl rfl (ltn rfl)) rfl ?_
                refine VL.step1 (o_store 2 2 rfl rfl rfl TI25 (.agg (.c rfl (.f 0 rfl .nil))) rfl (len rfl)) rfl ?_
                refine VL.va (op_assign rfl (ltn rfl)) rfl ?_
                refine VL.step1 (o_mapUpdate (ke := mI) (ve := mB) (m := mp11096) (k := t15575) (v' := true) 3 Try.underlying26 MK3 hbg3 rfl ⟨trivial, trivial, ⟨(Ne.symm hne_g3_g4), (Ne.symm hne_g3_g4)⟩, trivial, trivial⟩ rfl rfl rfl) rfl ?_
                refine VL.step1 (o_mapUpdate (ke := mI) (ve := mI) (m := mp11095) (k := t15575) (v' := (wrap64 ((wrap64 (i11087 + ((wrap64 ((x14753.f4.tmod 20) + 20)).tmod 20))) - 10))) 2 Try.underlying27 MK3 hbg4 rfl ⟨trivial, trivial, ⟨hne_g3_g4, hne_g3_g4⟩, trivial, trivial⟩ rfl rfl rfl) rfl ?_
                refine VL.done ?_
                refine VN.block ?_
                refine VN.meet8 t15575 true true t15573 v15579 r15574 (mset mp11095 t15575 (wrap64 ((wrap64 (i11087 + ((wrap64 ((x14753.f4.tmod 20) + 20)).tmod 20))) - 10))) (mset mp11096 t15575 true) [1, 2] [] h ⟨rfl, ⟨rfl, rfl, rfl, rfl, rfl, rfl, rfl, rfl, rfl, rfl, rfl, rfl, rfl, rfl, rfl, rfl, rfl, rfl, rfl, rfl, rfl, rfl, rfl, rfl, rfl, rfl, rfl, rfl, rfl, rfl, trivial⟩, ⟨⟨0, rfl⟩, ⟨2, rfl⟩, ⟨3, rfl⟩, ⟨4, rfl⟩, trivial⟩, rfl, by decide, rfl, by decide⟩
            · rw [if_neg c15588] at h
              obtain rfl : b15587 = true := hb15587.symm.trans (bne_iff_ne.2 c15588)
              refine VC.cond_t rfl ?_
              refine VC.seq ?_
              refine VC.seq ?_
              refine VC.region ?_
              refine VL.va (op_move rfl (ltn rfl)) rfl ?_
              refine VL.letter ((t15576 != 9)) fun b15595 hb15595 => ?_
              refine VL.va (op_cmp rfl rfl (congrArg some hb15595) (ltn rfl)) rfl ?_
              refine VL.done ?_
              refine VN.then ?_
              by_cases c15596 : t15576 = 9
              · rw [if_pos c15596] at h
                obtain rfl : b15595 = false := hb15595.symm.trans (bne_eq_false_iff_eq.2 c15596)
                refine VC.cond_f rfl ?_
                refine VC.skip ?_
                refine VN.then ?_
                refine VC.exit ?_
                refine VX.then ?_
                refine VX.miss (by decide) ?_
                refine VX.then ?_
                refine VX.hit ?_
                refine VN.then ?_
                refine VC.region ?_
                refine VL.va (op_ari64 rfl rfl rfl (ltn rfl)) rfl ?_
                refine VL.va (op_move rfl (ltn rfl)) rfl ?_
                refine VL.done ?_
                refine VN.again [2] [] (ihl39 (wrap64 (i11087 + ((wrap64 ((x14753.f4.tmod 20) + 20)).tmod 20))) i11088 (wrap64 (i11089 + 1)) i11090 v11092 l11093 mp11095 mp11096 h) ⟨rfl, ⟨rfl, rfl, rfl, rfl, rfl, rfl, rfl, rfl, rfl, trivial⟩, ⟨⟨1, rfl⟩, ⟨2, rfl⟩, ⟨3, rfl⟩, ⟨4, rfl⟩, trivial⟩, rfl, by decide, rfl, by decide⟩
              · rw [if_neg c15596] at h
                obtain rfl : b15595 = true := hb15595.symm.trans (bne_iff_ne.2 c15596)
                refine VC.cond_t rfl ?_
                refine VC.seq ?_
                refine VC.region ?_
                refine VL.va (op_assign rfl (ltn rfl)) rfl ?_
                refine VL.done ?_
                refine VN.then ?_
                refine VC.ret ?_
                refine VR.then ?_
                refine VR.then ?_
                refine VR.block ?_
                refine VR.then ?_
                refine VR.block ?_
                refine VR.then ?_
                refine VR.then ?_
                refine VR.block ?_
                refine VR.then ?_
                cases h
          · rw [if_neg c15572] at h
            obtain rfl : b15571 = false := hb15571.symm.trans (beq_eq_false_iff_ne.2 c15572)
            refine VC.cond_f rfl ?_
            refine VC.seq ?_
            refine VC.region ?_
            refine VL.letter ((((wrap64 ((x14753.f0.tmod 3) + 3)).tmod 3) == 1)) fun b15597 hb15597 => ?_
            refine VL.va (op_cmp rfl rfl (congrArg some hb15597) (ltn rfl)) rfl ?_
            refine VL.va (op_assign rfl (ltn rfl)) rfl ?_
            refine VL.done ?_
            refine VN.then ?_
            by_cases c15598 : ((wrap64 ((x14753.f0.tmod 3) + 3)).tmod 3) = 1
            · rw [if_pos c15598] at h
              obtain rfl : b15597 = true := hb15597.symm.trans (beq_iff_eq.2 c15598)
              refine VC.cond_t rfl ?_
              refine VC.seq ?_
              refine VC.region ?_
              refine VL.va (op_load 1 2 rfl rfl TI25 rfl (fun h => absurd h (by decide)) (ltn rfl)) rfl ?_
              refine VL.va (op_fieldAddr FI29_3 rfl (add_at _ _ _) (ltn rfl)) rfl ?_
              refine VL.va (op_load 0 1 rfl rfl TI3 rfl (by decide) (ltn rfl)) rfl ?_
              replace h := Option.bind_eq_some_iff.1 h
              obtain ⟨⟨t15599, r15600, t15601, t15602, t15603, t15604, t15605⟩, hA15606, h⟩ := h
              dsimp only at h
              refine VL.sC (o_call0 FO6 (outbox_Done.ok k i11090 l11093 x14753.f3 v11092 t15599 r15600 t15601 t15602 t15603 t15604 t15605 hA15606) rfl rfl (ltn rfl) (All_of (.cons (List.mem_of_getElem? (i := 0) rfl) .nil))) rfl ?_
              rintro _ _ _ ⟨v15608, rfl, rfl, rfl⟩
              refine VL.va (op_move rfl (ltn rfl)) rfl ?_
              refine VL.va (op_extract rfl rfl (ltn rfl)) rfl ?_
              refine VL.va (op_extract rfl rfl (ltn rfl)) rfl ?_
              refine VL.va (op_extract rfl rfl (ltn rfl)) rfl ?_
              refine VL.sG (o_alloc Z25 ZL25 (ltn rfl)) rfl ?_
              intro g15609
              refine VL.sG (o_alloc Z34 ZL34 (ltn rfl)) rfl ?_
              intro g15610
              refine VL.step1 (o_store 1 2 rfl rfl rfl TI25 (.agg (.c rfl (.r 0 rfl .nil))) rfl (len rfl)) rfl ?_
              refine VL.step1 (o_store 0 4 rfl rfl rfl TI34 (.agg (.of rfl)) rfl (len rfl)) rfl ?_
              refine VL.va (op_assign rfl (ltn rfl)) rfl ?_
              refine VL.done ?_
              refine VN.then ?_
              refine VC.seq ?_
              refine VC.seq ?_
              refine VC.region ?_
              refine VL.va (op_move rfl (ltn rfl)) rfl ?_
              refine VL.letter ((t15605 == 0)) fun b15614 hb15614 => ?_
              refine VL.va (op_cmp rfl rfl (congrArg some hb15614) (ltn rfl)) rfl ?_
              refine VL.va (op_move rfl (ltn rfl)) rfl ?_
              refine VL.va (op_fieldAddr FI29_3 rfl (add_at _ _ _) (ltn rfl)) rfl ?_
              refine VL.va (op_load 2 1 rfl rfl TI3 rfl (by decide) (ltn rfl)) rfl ?_
              refine VL.va (op_lookup (ke := mI) (ve := mB) (m := mp11096) (dv := false) (k := x14753.f3) 2 Try.underlying26 MK3 Z4 rfl rfl rfl (ltn rfl)) rfl ?_
              subst hb15614
              refine VL.letter ((!((t15605 == 0) == (mget mp11096 x14753.f3 false)))) fun b15615 hb15615 => ?_
              refine VL.va (op_eqb Try.underlying4 rfl rfl (congrArg some hb15615) (ltn rfl)) rfl ?_
              refine VL.done ?_
              refine VN.then ?_
              by_cases c15616 : (t15605 == 0) = (mget mp11096 x14753.f3 false)
              · rw [if_pos c15616] at h
                obtain rfl : b15615 = false := hb15615.symm.trans (by rw [c15616]; simp)
                refine VC.cond_f rfl ?_
                refine VC.skip ?_
                refine VN.then ?_
                refine VC.seq ?_
                refine VC.region ?_
                refine VL.va (op_move rfl (ltn rfl)) rfl ?_
                refine VL.letter ((t15605 == 0)) fun b15617 hb15617 => ?_
                refine VL.va (op_cmp rfl rfl (congrArg some hb15617) (ltn rfl)) rfl ?_
                refine VL.done ?_
                refine VN.then ?_
                by_cases c15618 : t15605 = 0
                · rw [if_pos c15618] at h
                  obtain rfl : b15617 = true := hb15617.symm.trans (beq_iff_eq.2 c15618)
                  refine VC.cond_t rfl ?_
                  refine VC.seq ?_
                  refine VC.seq ?_
                  refine VC.region ?_
                  refine VL.va (op_fieldAddr FI34_0 rfl (add_at _ _ _) (ltn rfl)) rfl ?_
                  refine VL.va (op_load 0 1 rfl rfl TI3 rfl (by decide) (ltn rfl)) rfl ?_
                  refine VL.va (op_fieldAddr FI29_3 rfl (add_at _ _ _) (ltn rfl)) rfl ?_
                  refine VL.va (op_load 2 1 rfl rfl TI3 rfl (by decide) (ltn rfl)) rfl ?_
                  refine VL.letter ((t15601 != x14753.f3)) fun b15621 hb15621 => ?_
                  refine VL.va (op_cmp rfl rfl (congrArg some hb15621) (ltn rfl)) rfl ?_
                  refine VL.done ?_
                  refine VN.then ?_
                  by_cases c15622 : t15601 = x14753.f3
                  · rw [if_pos c15622] at h
                    obtain rfl : b15621 = false := hb15621.symm.trans (bne_eq_false_iff_eq.2 c15622)
                    refine VC.cond_f rfl ?_
                    refine VC.skip ?_
                    refine VN.then ?_
                    refine VC.seq ?_
                    refine VC.region ?_
                    refine VL.va (op_load 1 2 rfl rfl TI25 rfl (fun h => absurd h (by decide)) (ltn rfl)) rfl ?_
                    refine VL.step1 (o_store 3 2 rfl rfl rfl TI25 (.agg (.c rfl (.r 0 rfl .nil))) rfl (len rfl)) rfl ?_
                    refine VL.done ?_
                    refine VN.then ?_
                    refine VC.region ?_
                    refine VL.va (op_move rfl (ltn rfl)) rfl ?_
                    refine VL.va (op_fieldAddr FI29_3 rfl (add_at _ _ _) (ltn rfl)) rfl ?_
                    refine VL.va (op_load 2 1 rfl rfl TI3 rfl (by decide) (ltn rfl)) rfl ?_
                    refine VL.step1 (o_delete (ke := mI) (ve := mB) (m := mp11096) (k := x14753.f3) 2 Try.underlying26 MK3 hbg3 rfl ⟨trivial, ⟨(Ne.symm hne_g3_g4), (Ne.symm hne_g3_g4)⟩, trivial, trivial⟩ rfl rfl) rfl ?_
                    refine VL.done ?_
                    refine VN.block ?_
                    refine VN.freezeRow' 0 rfl ?_
                    refine VN.meet8 i11088 false false t15599 v15608 r15600 mp11095 (mdel mp11096 x14753.f3) [2, 3] [] h ⟨rfl, ⟨rfl, rfl, rfl, rfl, rfl, rfl, rfl, rfl, rfl, rfl, rfl, rfl, rfl, rfl, rfl, rfl, rfl, rfl, rfl, rfl, rfl, rfl, rfl, rfl, rfl, rfl, rfl, rfl, rfl, rfl, trivial⟩, ⟨⟨0, rfl⟩, ⟨2, rfl⟩, ⟨3, rfl⟩, ⟨4, rfl⟩, trivial⟩, rfl, by decide, rfl, by decide⟩
                  · rw [if_neg c15622] at h
                    obtain rfl : b15621 = true := hb15621.symm.trans (bne_iff_ne.2 c15622)
                    refine VC.cond_t rfl ?_
                    refine VC.seq ?_
                    refine VC.region ?_
                    refine VL.va (op_assign rfl (ltn rfl)) rfl ?_
                    refine VL.done ?_
                    refine VN.then ?_
                    refine VC.ret ?_
                    refine VR.then ?_
                    refine VR.block ?_
                    refine VR.then ?_
                    refine VR.block ?_
                    refine VR.then ?_
                    refine VR.then ?_
                    refine VR.block ?_
                    refine VR.then ?_
                    cases h
                · rw [if_neg c15618] at h
                  obtain rfl : b15617 = false := hb15617.symm.trans (beq_eq_false_iff_ne.2 c15618)
                  refine VC.cond_f rfl ?_
                  refine VC.skip ?_
                  refine VN.block ?_
                  refine VN.meet8 i11088 false false i11090 v11092 l11093 mp11095 mp11096 [2, 3] [] h ⟨rfl, ⟨rfl, rfl, rfl, rfl, rfl, rfl, rfl, rfl, rfl, rfl, rfl, rfl, rfl, rfl, rfl, rfl, rfl, rfl, rfl, rfl, rfl, rfl, rfl, rfl, rfl, rfl, rfl, rfl, rfl, rfl, trivial⟩, ⟨⟨0, rfl⟩, ⟨1, rfl⟩, ⟨2, rfl⟩, ⟨3, rfl⟩, trivial⟩, rfl, by decide, rfl, by decide⟩
              · rw [if_neg c15616] at h
                obtain rfl : b15615 = true := hb15615.symm.trans (by simpa using c15616)
                refine VC.cond_t rfl ?_
                refine VC.seq ?_
                refine VC.region ?_
                refine VL.va (op_assign rfl (ltn rfl)) rfl ?_
                refine VL.done ?_
                refine VN.then ?_
                refine VC.ret ?_
                refine VR.then ?_
                refine VR.block ?_
                refine VR.then ?_
                refine VR.block ?_
                refine VR.then ?_
                refine VR.then ?_
                refine VR.block ?_
                refine VR.then ?_
                cases h
            · rw [if_neg c15598] at h
              obtain rfl : b15597 = false := hb15597.symm.trans (beq_eq_false_iff_ne.2 c15598)
              refine VC.cond_f rfl ?_
              refine VC.seq ?_
              refine VC.region ?_
              refine VL.va (op_load 1 2 rfl rfl TI25 rfl (fun h => absurd h (by decide)) (ltn rfl)) rfl ?_
              refine VL.va (op_move rfl (ltn rfl)) rfl ?_
              replace h := Option.bind_eq_some_iff.1 h
              obtain ⟨⟨t15623, r15624, r15625, t15626⟩, hA15627, h⟩ := h
              dsimp only at h
              refine VL.sC (o_call0 FO7 (outbox_Tell.ok k i11090 l11093 (wrap64 (i11087 + ((wrap64 ((x14753.f4.tmod 20) + 20)).tmod 20))) v11092 t15623 r15624 r15625 t15626 hA15627) rfl rfl (ltn rfl) (All_of (.cons (List.mem_of_getElem? (i := 0) rfl) .nil))) rfl ?_
              rintro _ _ _ ⟨v15629, v15631, rfl, rfl, rfl⟩
              refine VL.va (op_move rfl (ltn rfl)) rfl ?_
              refine VL.va (op_extract rfl rfl (ltn rfl)) rfl ?_
              refine VL.va (op_extract rfl rfl (ltn rfl)) rfl ?_
              refine VL.va (op_extract rfl rfl (ltn rfl)) rfl ?_
              refine VL.sG (o_alloc Z25 ZL25 (ltn rfl)) rfl ?_
              intro g15632
              refine VL.step1 (o_store 0 2 rfl rfl rfl TI25 (.agg (.c rfl (.r 0 rfl .nil))) rfl (len rfl)) rfl ?_
              refine VL.va (op_assign rfl (ltn rfl)) rfl ?_
              refine VL.va (op_assign rfl (ltn rfl)) rfl ?_
              refine VL.done ?_
              refine VN.then ?_
              refine VC.seq ?_
              refine VC.seq ?_
              refine VC.region ?_
              refine VL.va (op_move rfl (ltn rfl)) rfl ?_
              refine VL.letter ((t15626 != 0)) fun b15635 hb15635 => ?_
              refine VL.va (op_cmp rfl rfl (congrArg some hb15635) (ltn rfl)) rfl ?_
              refine VL.done ?_
              refine VN.then ?_
              by_cases c15636 : t15626 = 0
              · rw [if_pos c15636] at h
                obtain rfl : b15635 = false := hb15635.symm.trans (bne_eq_false_iff_eq.2 c15636)
                refine VC.cond_f rfl ?_
                refine VC.skip ?_
                refine VN.then ?_
                refine VC.seq ?_
                refine VC.region ?_
                refine VL.newM (o_makeMap (K := Int) (V := Bool) (ke := mI) (ve := mB) (ltn rfl)) rfl ?_
                intro g15637 hbg15637 hnewg15637
                have hne_g4_g15637 := (hnewg15637 _ (List.mem_of_getElem? (i := 1) rfl)).1
                have hne_g3_g15637 := (hnewg15637 _ (List.mem_of_getElem? (i := 2) rfl)).1
                clear hnewg15637
                refine VL.va (op_assign rfl (ltn rfl)) rfl ?_
                refine VL.done ?_
                refine VN.then ?_
                refine VC.seq ?_
                refine VC.seq ?_
                refine VC.region ?_
                refine VL.va (op_move rfl (ltn rfl)) rfl ?_
                refine VL.va (op_len_own (m := r15625.length) 1 lenm Try.underlying23 rfl rfl (ltn rfl)) rfl ?_
                refine VL.va (op_move rfl (ltn rfl)) rfl ?_
                refine VL.done ?_
                refine VN.then ?_
                refine VC.block ?_
                refine VC.loop3 (fun (i15801 : Int) (mp15802 : List (Int × Bool)) (mp15803 : List (Int × Int)) => ⟨186, [(2, .bool false), (3, .pointer (some ⟨g2, 0, none⟩)), (4, .int .i64 (wrap64 (i11087 + ((wrap64 ((x14753.f4.tmod 20) + 20)).tmod 20)))), (5, .int .i64 i11088), (6, .map (some g3)), (7, .map (some g4)), (8, .int .i64 i11089), (9, .pointer (some ⟨g14756, 0, none⟩)), (16, .pointer (some ⟨g15632, 0, none⟩)), (17, v15631), (18, .int .i64 t15626), (19, .map (some g15637)), (25, (.slice (some ad14754) l0.length n14755)), (26, .int .i64 (l0.length : Int)), (27, .int .i64 i11089), (28, .bool true), (29, .int .i64 i11089), (31, .agg #[.int .i64 x14753.f0, .int .i64 x14753.f1, .int .i64 x14753.f2, .int .i64 x14753.f3, .int .i64 x14753.f4]), (32, .int .i64 i11089), (33, .bool false), (34, .int .i64 i11087), (35, .pointer (some ⟨g14756, 4, none⟩)), (36, .int .i64 x14753.f4), (37, .int .i64 (x14753.f4.tmod 20)), (38, .int .i64 (wrap64 ((x14753.f4.tmod 20) + 20))), (39, .int .i64 ((wrap64 ((x14753.f4.tmod 20) + 20)).tmod 20)), (40, .int .i64 (wrap64 (i11087 + ((wrap64 ((x14753.f4.tmod 20) + 20)).tmod 20)))), (41, .pointer (some ⟨g14756, 0, none⟩)), (42, .int .i64 x14753.f0), (43, .int .i64 (x14753.f0.tmod 3)), (44, .int .i64 (wrap64 ((x14753.f0.tmod 3) + 3))), (45, .int .i64 ((wrap64 ((x14753.f0.tmod 3) + 3)).tmod 3)), (46, .tuple #[.agg #[.int .i64 t15623, v15629], v15631, .int .i64 t15626]), (47, .agg #[.int .i64 i11090, v11092]), (48, .int .i64 (wrap64 (i11087 + ((wrap64 ((x14753.f4.tmod 20) + 20)).tmod 20)))), (49, .tuple #[.agg #[.int .i64 t15623, v15629], v15631, .int .i64 t15626]), (50, .agg #[.int .i64 t15623, v15629]), (51, v15631), (52, .int .i64 t15626), (53, .int .i64 t15626), (54, .bool false), (55, .map (some g15637)), (56, v15631), (57, .int .i64 (r15625.length : Int)), (58, .int .i64 i15801), (109, .bool false), (110, .bool false), (145, .bool false), (146, .bool false)], [.mp g15637 (menc mI mB mp15802), .mp g4 (menc mI mI mp15803), .mp g3 (menc mI mB mp11096), .row (.slice (some ad14754) l0.length n14755) 5 (l0.map enc28), .row v11092 4 (l11093.map enc33)], [(g15632, 25, [.int .i64 t15623, v15629]), (g14756, 29, [.int .i64 x14753.f0, .int .i64 x14753.f1, .int .i64 x14753.f2, .int .i64 x14753.f3, .int .i64 x14753.f4]), (g2, 25, [.int .i64 i11090, v11092])], [(v15631, 34, 4, r15625.map enc33), (v15629, 34, 4, r15624.map enc33)]⟩) (fun (ml73 : Nat) (i15801 : Int) (mp15802 : List (Int × Bool)) (mp15803 : List (Int × Int)) => tarrylaw14_OutboxTells.l73 k (tarrylaw14_OutboxTells.l39 k l0 ml39) i11087 i11088 i11089 mp11096 r15624 r15625 t15623 x14753 ml73 i15801 mp15802 mp15803 = some r1) k 0 ([] : List (Int × Bool)) mp11095 [0, 1, 2] [1, 0] h ⟨rfl, ⟨rfl, rfl, rfl, rfl, rfl, rfl, rfl, rfl, rfl, rfl, rfl, rfl, rfl, rfl, rfl, rfl, rfl, rfl, rfl, rfl, rfl, rfl, rfl, rfl, rfl, rfl, rfl, rfl, rfl, rfl, rfl, rfl, rfl, rfl, rfl, rfl, rfl, rfl, rfl, rfl, rfl, rfl, rfl, rfl, rfl, rfl, rfl, rfl, rfl, trivial⟩, ⟨⟨0, rfl⟩, ⟨2, rfl⟩, ⟨3, rfl⟩, ⟨4, rfl⟩, ⟨1, rfl⟩, trivial⟩, rfl, by decide, rfl, by decide⟩ (by intros; simp [tarrylaw14_OutboxTells.l73]) ?_
                clear h
                intro ml73 ihl73 i15801 mp15802 mp15803 h
                simp only [tarrylaw14_OutboxTells.l73] at h
                refine VC.seq ?_
                refine VC.region ?_
                refine VL.letter (decide (i15801 < (r15625.length : Int))) fun b15845 hb15845 => ?_
                refine VL.va (op_cmp rfl rfl (congrArg some hb15845) (ltn rfl)) rfl ?_
                refine VL.done ?_
                refine VN.then ?_
                refine VC.seq ?_
                by_cases c15873 : i15801 < (r15625.length : Int)
                · rw [if_pos c15873] at h
                  obtain rfl : b15845 = true := hb15845.symm.trans (decide_eq_true c15873)
                  refine VC.cond_t rfl ?_
                  refine VC.skip ?_
                  refine VN.then ?_
                  refine VC.seq ?_
                  refine VC.block ?_
                  refine VC.seq ?_
                  refine VC.region ?_
                  by_cases c15893 : 0 ≤ i15801
                  · rw [if_pos c15893] at h
                    replace h := Option.bind_eq_some_iff.1 h
                    obtain ⟨x15894, hx15894, h⟩ := h
                    refine VL.openR (m := r15625.length) 0 lenm rfl (pos_get hx15894) ?_
                    rintro g15895 n15896 rfl
                    refine VL.va (op_indexAddr Try.underlying23 TI34 rfl rfl c15893 (lt_get c15893 hx15894) (add_zero_at _ _) (ltn rfl)) rfl ?_
                    refine VL.va (op_load_own (sz := 4) (o := 0) 0 i15801.toNat 4 rfl rfl (get_map hx15894) TI34 rfl (fun h => absurd h (by decide)) (ltn rfl)) rfl ?_
                    refine VL.sG (o_alloc Z34 ZL34 (ltn rfl)) rfl ?_
                    intro g15897
                    refine VL.step1 (o_store 0 4 rfl rfl rfl TI34 (.agg (.of rfl)) rfl (len rfl)) rfl ?_
                    refine VL.done ?_
                    refine VN.then ?_
                    refine VC.seq ?_
                    refine VC.seq ?_
                    refine VC.region ?_
                    refine VL.va (op_move rfl (ltn rfl)) rfl ?_
                    refine VL.va (op_fieldAddr FI34_0 rfl (add_at _ _ _) (ltn rfl)) rfl ?_
                    refine VL.va (op_load 0 1 rfl rfl TI3 rfl (by decide) (ltn rfl)) rfl ?_
                    refine VL.va (op_lookup (ke := mI) (ve := mB) (m := mp11096) (dv := false) (k := x15894.f0) 2 Try.underlying26 MK3 Z4 rfl rfl rfl (ltn rfl)) rfl ?_
                    by_cases c15908 : (mget mp11096 x15894.f0 false) = true
                    · rw [if_pos c15908] at h
                      rw [c15908]
                      refine VL.va (op_not rfl rfl (ltn rfl)) rfl ?_
                      refine VL.va (op_move rfl (ltn rfl)) rfl ?_
                      refine VL.va (op_move rfl (ltn rfl)) rfl ?_
                      refine VL.va (op_move rfl (ltn rfl)) rfl ?_
                      refine VL.va (op_fieldAddr FI34_0 rfl (add_at _ _ _) (ltn rfl)) rfl ?_
                      refine VL.va (op_load 0 1 rfl rfl TI3 rfl (by decide) (ltn rfl)) rfl ?_
                      refine VL.va (op_lookup (ke := mI) (ve := mI) (m := mp15803) (dv := 0) (k := x15894.f0) 1 Try.underlying27 MK3 Z3 rfl rfl rfl (ltn rfl)) rfl ?_
                      refine VL.va (op_ari64 rfl rfl rfl (ltn rfl)) rfl ?_
                      refine VL.letter (decide ((wrap64 (i11087 + ((wrap64 ((x14753.f4.tmod 20) + 20)).tmod 20))) < (wrap64 ((mget mp15803 x15894.f0 0) + 10)))) fun b15909 hb15909 => ?_
                      refine VL.va (op_cmp rfl rfl (congrArg some hb15909) (ltn rfl)) rfl ?_
                      refine VL.va (op_pick rfl rfl (ltn rfl)) rfl ?_
                      refine VL.va (op_move rfl (ltn rfl)) rfl ?_
                      by_cases c15910 : (wrap64 (i11087 + ((wrap64 ((x14753.f4.tmod 20) + 20)).tmod 20))) < (wrap64 ((mget mp15803 x15894.f0 0) + 10))
                      · rw [if_pos c15910] at h
                        obtain rfl : b15909 = true := hb15909.symm.trans (decide_eq_true c15910)
                        refine VL.un rfl rfl (ltn rfl) ?_
                        refine VL.un rfl rfl (ltn rfl) ?_
                        refine VL.un rfl rfl (ltn rfl) ?_
                        refine VL.un rfl rfl (ltn rfl) ?_
                        refine VL.va (op_pick rfl rfl (ltn rfl)) rfl ?_
                        refine VL.done ?_
                        refine VN.then ?_
                        refine VC.cond_t rfl ?_
                        refine VC.seq ?_
                        refine VC.region ?_
                        refine VL.va (op_assign rfl (ltn rfl)) rfl ?_
                        refine VL.done ?_
                        refine VN.then ?_
                        refine VC.ret ?_
                        refine VR.then ?_
                        refine VR.block ?_
                        refine VR.then ?_
                        refine VR.then ?_
                        refine VR.block ?_
                        refine VR.then ?_
                        refine VR.block ?_
                        refine VR.then ?_
                        refine VR.block ?_
                        refine VR.then ?_
                        refine VR.then ?_
                        refine VR.block ?_
                        refine VR.then ?_
                        cases h
                      · rw [if_neg c15910] at h
                        obtain rfl : b15909 = false := hb15909.symm.trans (decide_eq_false c15910)
                        refine VL.va (op_move rfl (ltn rfl)) rfl ?_
                        refine VL.va (op_fieldAddr FI34_0 rfl (add_at _ _ _) (ltn rfl)) rfl ?_
                        refine VL.va (op_load 0 1 rfl rfl TI3 rfl (by decide) (ltn rfl)) rfl ?_
                        refine VL.va (op_lookup (ke := mI) (ve := mB) (m := mp15802) (dv := false) (k := x15894.f0) 0 Try.underlying26 MK3 Z4 rfl rfl rfl (ltn rfl)) rfl ?_
                        refine VL.va (op_pick rfl rfl (ltn rfl)) rfl ?_
                        refine VL.done ?_
                        refine VN.then ?_
                        by_cases c15911 : (mget mp15802 x15894.f0 false) = true
                        · rw [if_pos c15911] at h
                          rw [c15911]
                          refine VC.cond_t rfl ?_
                          refine VC.seq ?_
                          refine VC.region ?_
                          refine VL.va (op_assign rfl (ltn rfl)) rfl ?_
                          refine VL.done ?_
                          refine VN.then ?_
                          refine VC.ret ?_
                          refine VR.then ?_
                          refine VR.block ?_
                          refine VR.then ?_
                          refine VR.then ?_
                          refine VR.block ?_
                          refine VR.then ?_
                          refine VR.block ?_
                          refine VR.then ?_
                          refine VR.block ?_
                          refine VR.then ?_
                          refine VR.then ?_
                          refine VR.block ?_
                          refine VR.then ?_
                          cases h
                        · rw [if_neg c15911] at h
                          rw [Bool.eq_false_iff.2 c15911]
                          refine VC.cond_f rfl ?_
                          refine VC.skip ?_
                          refine VN.then ?_
                          refine VC.stop0 (⟨186, [(2, .bool false), (3, .pointer (some ⟨g2, 0, none⟩)), (4, .int .i64 (wrap64 (i11087 + ((wrap64 ((x14753.f4.tmod 20) + 20)).tmod 20)))), (5, .int .i64 i11088), (6, .map (some g3)), (7, .map (some g4)), (8, .int .i64 i11089), (9, .pointer (some ⟨g14756, 0, none⟩)), (16, .pointer (some ⟨g15632, 0, none⟩)), (17, (.slice (some ⟨g15895, 0, none⟩) r15625.length n15896)), (18, .int .i64 t15626), (19, .map (some g15637)), (21, .pointer (some ⟨g15897, 0, none⟩)), (25, (.slice (some ad14754) l0.length n14755)), (26, .int .i64 (l0.length : Int)), (27, .int .i64 i11089), (28, .bool true), (29, .int .i64 i11089), (31, .agg #[.int .i64 x14753.f0, .int .i64 x14753.f1, .int .i64 x14753.f2, .int .i64 x14753.f3, .int .i64 x14753.f4]), (32, .int .i64 i11089), (33, .bool false), (34, .int .i64 i11087), (35, .pointer (some ⟨g14756, 4, none⟩)), (36, .int .i64 x14753.f4), (37, .int .i64 (x14753.f4.tmod 20)), (38, .int .i64 (wrap64 ((x14753.f4.tmod 20) + 20))), (39, .int .i64 ((wrap64 ((x14753.f4.tmod 20) + 20)).tmod 20)), (40, .int .i64 (wrap64 (i11087 + ((wrap64 ((x14753.f4.tmod 20) + 20)).tmod 20)))), (41, .pointer (some ⟨g14756, 0, none⟩)), (42, .int .i64 x14753.f0), (43, .int .i64 (x14753.f0.tmod 3)), (44, .int .i64 (wrap64 ((x14753.f0.tmod 3) + 3))), (45, .int .i64 ((wrap64 ((x14753.f0.tmod 3) + 3)).tmod 3)), (46, .tuple #[.agg #[.int .i64 t15623, v15629], (.slice (some ⟨g15895, 0, none⟩) r15625.length n15896), .int .i64 t15626]), (47, .agg #[.int .i64 i11090, v11092]), (48, .int .i64 (wrap64 (i11087 + ((wrap64 ((x14753.f4.tmod 20) + 20)).tmod 20)))), (49, .tuple #[.agg #[.int .i64 t15623, v15629], (.slice (some ⟨g15895, 0, none⟩) r15625.length n15896), .int .i64 t15626]), (50, .agg #[.int .i64 t15623, v15629]), (51, (.slice (some ⟨g15895, 0, none⟩) r15625.length n15896)), (52, .int .i64 t15626), (53, .int .i64 t15626), (54, .bool false), (55, .map (some g15637)), (56, (.slice (some ⟨g15895, 0, none⟩) r15625.length n15896)), (57, .int .i64 (r15625.length : Int)), (58, .int .i64 i15801), (59, .bool true), (61, .agg #[.int .i64 x15894.f0, .int .i64 x15894.f1, .int .i64 x15894.f2, .int .i64 x15894.f3]), (62, .map (some g3)), (63, .pointer (some ⟨g15897, 0, none⟩)), (64, .int .i64 x15894.f0), (65, .bool true), (66, .bool false), (67, .bool false), (68, .int .i64 (wrap64 (i11087 + ((wrap64 ((x14753.f4.tmod 20) + 20)).tmod 20)))), (69, .map (some g4)), (70, .pointer (some ⟨g15897, 0, none⟩)), (71, .int .i64 x15894.f0), (72, .int .i64 (mget mp15803 x15894.f0 0)), (73, .int .i64 (wrap64 ((mget mp15803 x15894.f0 0) + 10))), (74, .bool false), (75, .bool false), (76, .bool false), (77, .map (some g15637)), (78, .pointer (some ⟨g15897, 0, none⟩)), (79, .int .i64 x15894.f0), (80, .bool false), (81, .bool false), (82, .map (some g15637)), (83, .pointer (some ⟨g15897, 0, none⟩)), (84, .int .i64 x15894.f0), (85, .map (some g4)), (86, .pointer (some ⟨g15897, 0, none⟩)), (87, .int .i64 x15894.f0), (88, .int .i64 (wrap64 (i11087 + ((wrap64 ((x14753.f4.tmod 20) + 20)).tmod 20)))), (109, .bool false), (110, .bool false), (145, .bool false), (146, .bool false)], [.mp g15637 (menc mI mB (mset mp15802 x15894.f0 true)), .mp g4 (menc mI mI (mset mp15803 x15894.f0 (wrap64 (i11087 + ((wrap64 ((x14753.f4.tmod 20) + 20)).tmod 20))))), .mp g3 (menc mI mB mp11096), .row (.slice (some ad14754) l0.length n14755) 5 (l0.map enc28), .row v11092 4 (l11093.map enc33)], [(g15897, 34, [.int .i64 x15894.f0, .int .i64 x15894.f1, .int .i64 x15894.f2, .int .i64 x15894.f3]), (g15632, 25, [.int .i64 t15623, v15629]), (g14756, 29, [.int .i64 x14753.f0, .int .i64 x14753.f1, .int .i64 x14753.f2, .int .i64 x14753.f3, .int .i64 x14753.f4]), (g2, 25, [.int .i64 i11090, v11092])], [((.slice (some ⟨g15895, 0, none⟩) r15625.length n15896), 34, 4, r15625.map enc33), (v15629, 34, 4, r15624.map enc33)]⟩) (True) ?_ ?_
                          · refine VC.draw ⟨0, [], [], [(g15897, 34, [.int .i64 x15894.f0, .int .i64 x15894.f1, .int .i64 x15894.f2, .int .i64 x15894.f3])], []⟩ (by kernel_rfl) rfl (by kernel_rfl) (n := 9) (listed := LB 9 0) ?_
                            refine VA.va (i := 0) (listed' := LB 9 1) rfl (op_move rfl (ltn rfl)) rfl (by kernel_rfl) (by kernel_rfl) (by kernel_rfl) (by kernel_rfl) ⟨trivial, ⟨⟨0, rfl⟩, trivial⟩, trivial⟩ (fun _ _ _ h => h) ?_
                            refine VA.va (i := 1) (listed' := LB 9 3) rfl (op_fieldAddr FI34_0 rfl (add_at _ _ _) (ltn rfl)) rfl (by kernel_rfl) (by kernel_rfl) (by kernel_rfl) (by kernel_rfl) ⟨trivial, ⟨⟨0, rfl⟩, trivial⟩, trivial⟩ (fun _ _ _ h => h) ?_
                            refine VA.va (i := 2) (listed' := LB 9 7) rfl (op_load 0 1 rfl rfl TI3 rfl (by decide) (ltn rfl)) rfl (by kernel_rfl) (by kernel_rfl) (by kernel_rfl) (by kernel_rfl) ⟨trivial, ⟨⟨0, rfl⟩, trivial⟩, trivial⟩ (fun _ _ _ h => h) ?_
                            refine VA.va (i := 3) (listed' := LB 9 15) rfl (op_move rfl (ltn rfl)) rfl (by kernel_rfl) (by kernel_rfl) (by kernel_rfl) (by kernel_rfl) ⟨trivial, ⟨⟨0, rfl⟩, trivial⟩, trivial⟩ (fun _ _ _ h => h) ?_
                            refine VA.va (i := 4) (listed' := LB 9 31) rfl (op_fieldAddr FI34_0 rfl (add_at _ _ _) (ltn rfl)) rfl (by kernel_rfl) (by kernel_rfl) (by kernel_rfl) (by kernel_rfl) ⟨trivial, ⟨⟨0, rfl⟩, trivial⟩, trivial⟩ (fun _ _ _ h => h) ?_
                            refine VA.va (i := 5) (listed' := LB 9 63) rfl (op_load 0 1 rfl rfl TI3 rfl (by decide) (ltn rfl)) rfl (by kernel_rfl) (by kernel_rfl) (by kernel_rfl) (by kernel_rfl) ⟨trivial, ⟨⟨0, rfl⟩, trivial⟩, trivial⟩ (fun _ _ _ h => h) ?_
                            refine VA.va (i := 6) (listed' := LB 9 127) rfl (op_move rfl (ltn rfl)) rfl (by kernel_rfl) (by kernel_rfl) (by kernel_rfl) (by kernel_rfl) ⟨trivial, ⟨⟨0, rfl⟩, trivial⟩, trivial⟩ (fun _ _ _ h => h) ?_
                            refine VA.one1 (i := 7) (listed' := LB 9 255) (by kernel_rfl) rfl (o_mapUpdate (ke := mI) (ve := mB) (m := mp15802) (k := x15894.f0) (v' := true) 0 Try.underlying26 MK3 hbg15637 rfl ⟨⟨hne_g4_g15637, hne_g4_g15637⟩, ⟨hne_g3_g15637, hne_g3_g15637⟩, trivial, trivial, trivial⟩ rfl rfl rfl) rfl (by kernel_rfl) ⟨trivial, ⟨⟨0, rfl⟩, trivial⟩, trivial⟩ ?_
                            refine VA.one1 (i := 8) (listed' := LB 9 511) (by kernel_rfl) rfl (o_mapUpdate (ke := mI) (ve := mI) (m := mp15803) (k := x15894.f0) (v' := (wrap64 (i11087 + ((wrap64 ((x14753.f4.tmod 20) + 20)).tmod 20)))) 1 Try.underlying27 MK3 hbg4 rfl ⟨⟨(Ne.symm hne_g4_g15637), (Ne.symm hne_g4_g15637)⟩, ⟨hne_g3_g4, hne_g3_g4⟩, trivial, trivial, trivial⟩ rfl rfl rfl) rfl (by kernel_rfl) ⟨trivial, ⟨⟨0, rfl⟩, trivial⟩, trivial⟩ ?_
                            refine VA.done (by kernel_rfl) ?_
                            exact VN.meet0  [0, 1, 2, 3] [0, 1] trivial ⟨rfl, ⟨rfl, rfl, rfl, rfl, rfl, rfl, rfl, rfl, rfl, rfl, rfl, rfl, rfl, rfl, rfl, rfl, rfl, rfl, rfl, rfl, rfl, rfl, rfl, rfl, rfl, rfl, rfl, rfl, rfl, rfl, rfl, rfl, rfl, rfl, rfl, rfl, rfl, rfl, rfl, rfl, rfl, rfl, rfl, rfl, rfl, rfl, rfl, rfl, rfl, rfl, rfl, rfl, rfl, rfl, rfl, rfl, rfl, rfl, rfl, rfl, rfl, rfl, rfl, rfl, rfl, rfl, rfl, rfl, rfl, rfl, rfl, rfl, rfl, rfl, rfl, rfl, rfl, rfl, rfl, trivial⟩, ⟨⟨0, rfl⟩, ⟨1, rfl⟩, ⟨2, rfl⟩, ⟨3, rfl⟩, ⟨4, rfl⟩, trivial⟩, rfl, by decide, rfl, by decide⟩
                          intro _
                          refine VN.block ?_
                          refine VN.then ?_
                          refine VC.region ?_
                          refine VL.va (op_ari64 rfl rfl rfl (ltn rfl)) rfl ?_
                          refine VL.va (op_move rfl (ltn rfl)) rfl ?_
                          refine VL.done ?_
                          refine VN.again [1, 2, 3] [0, 1] (ihl73 (wrap64 (i15801 + 1)) (mset mp15802 x15894.f0 true) (mset mp15803 x15894.f0 (wrap64 (i11087 + ((wrap64 ((x14753.f4.tmod 20) + 20)).tmod 20)))) h) ⟨rfl, ⟨rfl, rfl, rfl, rfl, rfl, rfl, rfl, rfl, rfl, rfl, rfl, rfl, rfl, rfl, rfl, rfl, rfl, rfl, rfl, rfl, rfl, rfl, rfl, rfl, rfl, rfl, rfl, rfl, rfl, rfl, rfl, rfl, rfl, rfl, rfl, rfl, rfl, rfl, rfl, rfl, rfl, rfl, rfl, rfl, rfl, rfl, rfl, rfl, rfl, trivial⟩, ⟨⟨0, rfl⟩, ⟨1, rfl⟩, ⟨2, rfl⟩, ⟨3, rfl⟩, ⟨4, rfl⟩, trivial⟩, rfl, by decide, rfl, by decide⟩
                    · rw [if_neg c15908] at h
                      rw [Bool.eq_false_iff.2 c15908]
                      refine VL.va (op_not rfl rfl (ltn rfl)) rfl ?_
                      refine VL.va (op_move rfl (ltn rfl)) rfl ?_
                      refine VL.un rfl rfl (ltn rfl) ?_
                      refine VL.un rfl rfl (ltn rfl) ?_
                      refine VL.un rfl rfl (ltn rfl) ?_
                      refine VL.un rfl rfl (ltn rfl) ?_
                      refine VL.un rfl rfl (ltn rfl) ?_
                      refine VL.un rfl rfl (ltn rfl) ?_
                      refine VL.un rfl rfl (ltn rfl) ?_
                      refine VL.va (op_pick rfl rfl (ltn rfl)) rfl ?_
                      refine VL.va (op_move rfl (ltn rfl)) rfl ?_
                      refine VL.un rfl rfl (ltn rfl) ?_
                      refine VL.un rfl rfl (ltn rfl) ?_
                      refine VL.un rfl rfl (ltn rfl) ?_
                      refine VL.un rfl rfl (ltn rfl) ?_
                      refine VL.va (op_pick rfl rfl (ltn rfl)) rfl ?_
                      refine VL.done ?_
                      refine VN.then ?_
                      refine VC.cond_t rfl ?_
                      refine VC.seq ?_
                      refine VC.region ?_
                      refine VL.va (op_assign rfl (ltn rfl)) rfl ?_
                      refine VL.done ?_
                      refine VN.then ?_
                      refine VC.ret ?_
                      refine VR.then ?_
                      refine VR.block ?_
                      refine VR.then ?_
                      refine VR.then ?_
                      refine VR.block ?_
                      refine VR.then ?_
                      refine VR.block ?_
                      refine VR.then ?_
                      refine VR.block ?_
                      refine VR.then ?_
                      refine VR.then ?_
                      refine VR.block ?_
                      refine VR.then ?_
                      cases h
                  · rw [if_neg c15893] at h; cases h
                · rw [if_neg c15873] at h
                  obtain rfl : b15845 = false := hb15845.symm.trans (decide_eq_false c15873)
                  refine VC.cond_f rfl ?_
                  refine VC.exit ?_
                  refine VX.then ?_
                  refine VX.then ?_
                  refine VX.hit ?_
                  refine VN.then ?_
                  refine VC.seq ?_
                  refine VC.seq ?_
                  refine VC.region ?_
                  refine VL.va (op_move rfl (ltn rfl)) rfl ?_
                  refine VL.newM (o_range (ke := mI) (ve := mB) (m := mp11096) 2 Try.underlying26 rfl rfl (ltn rfl)) rfl ?_
                  intro g15925 hbg15925 hnewg15925
                  have hne_g15637_g15925 := (hnewg15925 _ (List.mem_of_getElem? (i := 0) rfl)).1
                  have hne_g4_g15925 := (hnewg15925 _ (List.mem_of_getElem? (i := 1) rfl)).1
                  have hne_g3_g15925 := (hnewg15925 _ (List.mem_of_getElem? (i := 2) rfl)).1
                  clear hnewg15925
                  refine VL.done ?_
                  refine VN.then ?_
                  refine VC.block ?_
                  refine VC.loopM (fun (L15926 : List (Int × Bool)) (A15927 : Option (Int × Bool)) => ⟨186, [(2, .bool false), (3, .pointer (some ⟨g2, 0, none⟩)), (4, .int .i64 (wrap64 (i11087 + ((wrap64 ((x14753.f4.tmod 20) + 20)).tmod 20)))), (5, .int .i64 i11088), (6, .map (some g3)), (7, .map (some g4)), (8, .int .i64 i11089), (9, .pointer (some ⟨g14756, 0, none⟩)), (16, .pointer (some ⟨g15632, 0, none⟩)), (17, v15631), (18, .int .i64 t15626), (19, .map (some g15637)), (25, (.slice (some ad14754) l0.length n14755)), (26, .int .i64 (l0.length : Int)), (27, .int .i64 i11089), (28, .bool true), (29, .int .i64 i11089), (31, .agg #[.int .i64 x14753.f0, .int .i64 x14753.f1, .int .i64 x14753.f2, .int .i64 x14753.f3, .int .i64 x14753.f4]), (32, .int .i64 i11089), (33, .bool false), (34, .int .i64 i11087), (35, .pointer (some ⟨g14756, 4, none⟩)), (36, .int .i64 x14753.f4), (37, .int .i64 (x14753.f4.tmod 20)), (38, .int .i64 (wrap64 ((x14753.f4.tmod 20) + 20))), (39, .int .i64 ((wrap64 ((x14753.f4.tmod 20) + 20)).tmod 20)), (40, .int .i64 (wrap64 (i11087 + ((wrap64 ((x14753.f4.tmod 20) + 20)).tmod 20)))), (41, .pointer (some ⟨g14756, 0, none⟩)), (42, .int .i64 x14753.f0), (43, .int .i64 (x14753.f0.tmod 3)), (44, .int .i64 (wrap64 ((x14753.f0.tmod 3) + 3))), (45, .int .i64 ((wrap64 ((x14753.f0.tmod 3) + 3)).tmod 3)), (46, .tuple #[.agg #[.int .i64 t15623, v15629], v15631, .int .i64 t15626]), (47, .agg #[.int .i64 i11090, v11092]), (48, .int .i64 (wrap64 (i11087 + ((wrap64 ((x14753.f4.tmod 20) + 20)).tmod 20)))), (49, .tuple #[.agg #[.int .i64 t15623, v15629], v15631, .int .i64 t15626]), (50, .agg #[.int .i64 t15623, v15629]), (51, v15631), (52, .int .i64 t15626), (53, .int .i64 t15626), (54, .bool false), (55, .map (some g15637)), (56, v15631), (57, .int .i64 (r15625.length : Int)), (58, .int .i64 i15801), (59, .bool false), (90, .map (some g3)), (91, .pointer (some ⟨g15925, 0, none⟩)), (109, .bool false), (110, .bool false), (145, .bool false), (146, .bool false)], [.itr g3 g15925 (menc mI mB L15926) (A15927.map fun e => (mI e.1, mB e.2)), .mp g15637 (menc mI mB mp15802), .mp g4 (menc mI mI mp15803), .mp g3 (menc mI mB mp11096), .row (.slice (some ad14754) l0.length n14755) 5 (l0.map enc28), .row v11092 4 (l11093.map enc33)], [(g15632, 25, [.int .i64 t15623, v15629]), (g14756, 29, [.int .i64 x14753.f0, .int .i64 x14753.f1, .int .i64 x14753.f2, .int .i64 x14753.f3, .int .i64 x14753.f4]), (g2, 25, [.int .i64 i11090, v11092])], [(v15631, 34, 4, r15625.map enc33), (v15629, 34, 4, r15624.map enc33)]⟩) mp11096 [0, 1, 2] [0, 1] ⟨rfl, ⟨rfl, rfl, rfl, rfl, rfl, rfl, rfl, rfl, rfl, rfl, rfl, rfl, rfl, rfl, rfl, rfl, rfl, rfl, rfl, rfl, rfl, rfl, rfl, rfl, rfl, rfl, rfl, rfl, rfl, rfl, rfl, rfl, rfl, rfl, rfl, rfl, rfl, rfl, rfl, rfl, rfl, rfl, rfl, rfl, rfl, rfl, rfl, rfl, rfl, rfl, rfl, rfl, trivial⟩, ⟨⟨0, rfl⟩, ⟨1, rfl⟩, ⟨2, rfl⟩, ⟨3, rfl⟩, ⟨4, rfl⟩, ⟨5, rfl⟩, trivial⟩, rfl, by decide, rfl, by decide⟩ ?_
                  intro n15928 ihn15928 L15926 A15927 hln15928 hmn15928
                  refine VC.seq ?_
                  refine VC.region ?_
                  by_cases c15932 : (mp11096.all fun z => (tarrylaw14_OutboxTells.b77 k i11087 mp15802 mp15803 x14753 z.1 z.2).isSome) = true
                  · rw [if_pos c15932] at h
                    refine VL.next (ke := mI) (ve := mB) 0 hbg15925 rfl hne_g3_g15925 ⟨⟨hne_g15637_g15925, hne_g15637_g15925⟩, ⟨hne_g4_g15925, hne_g4_g15925⟩, ⟨hne_g3_g15925, hne_g3_g15925⟩, trivial, trivial, trivial⟩ rfl (ltn rfl) rfl ?_ ?_
                    · intro hvn15928
                      refine VL.va (op_extract rfl rfl (ltn rfl)) rfl ?_
                      refine VL.done ?_
                      refine VN.then ?_
                      refine VC.seq ?_
                      refine VC.cond_f rfl ?_
                      refine VC.exit ?_
                      refine VX.then ?_
                      refine VX.then ?_
                      refine VX.hit ?_
                      refine VN.then ?_
                      refine VC.region ?_
                      refine VL.va (op_load 0 2 rfl rfl TI25 rfl (fun h => absurd h (by decide)) (ltn rfl)) rfl ?_
                      refine VL.step1 (o_store 2 2 rfl rfl rfl TI25 (.agg (.c rfl (.r 1 rfl .nil))) rfl (len rfl)) rfl ?_
                      refine VL.done ?_
                      refine VN.block ?_
                      refine VN.freezeRow' 1 rfl ?_
                      refine VN.meet8 i11088 false false t15623 v15629 r15624 mp15803 mp11096 [1, 2] [] h ⟨rfl, ⟨rfl, rfl, rfl, rfl, rfl, rfl, rfl, rfl, rfl, rfl, rfl, rfl, rfl, rfl, rfl, rfl, rfl, rfl, rfl, rfl, rfl, rfl, rfl, rfl, rfl, rfl, rfl, rfl, rfl, rfl, trivial⟩, ⟨⟨0, rfl⟩, ⟨3, rfl⟩, ⟨4, rfl⟩, ⟨5, rfl⟩, trivial⟩, rfl, by decide, rfl, by decide⟩
                    · intro i15929 q15930 L15931 hnn15928 hyn15928 hsn15928
                      have hxn15928 : (tarrylaw14_OutboxTells.b77 k i11087 mp15802 mp15803 x14753 i15929 q15930).isSome = true := List.all_eq_true.1 c15932 (i15929, q15930) (hmn15928 _ hyn15928)
                      clear h
                      obtain ⟨_, h⟩ := Option.isSome_iff_exists.1 hxn15928
                      unfold tarrylaw14_OutboxTells.b77 at h
                      refine VL.va (op_extract rfl rfl (ltn rfl)) rfl ?_
                      refine VL.done ?_
                      refine VN.then ?_
                      refine VC.seq ?_
                      refine VC.cond_t rfl ?_
                      refine VC.skip ?_
                      refine VN.then ?_
                      refine VC.block ?_
                      refine VC.seq ?_
                      refine VC.region ?_
                      refine VL.va (op_entry (p := (mI i15929, mB q15930)) 0 rfl rfl (ltn rfl)) rfl ?_
                      refine VL.va (op_extract rfl rfl (ltn rfl)) rfl ?_
                      refine VL.va (op_assign rfl (ltn rfl)) rfl ?_
                      refine VL.done ?_
                      refine VN.then ?_
                      refine VC.seq ?_
                      refine VC.region ?_
                      refine VL.va (op_move rfl (ltn rfl)) rfl ?_
                      refine VL.va (op_move rfl (ltn rfl)) rfl ?_
                      refine VL.va (op_lookup (ke := mI) (ve := mB) (m := mp15802) (dv := false) (k := i15929) 1 Try.underlying26 MK3 Z4 rfl rfl rfl (ltn rfl)) rfl ?_
                      by_cases c15935 : (mget mp15802 i15929 false) = true
                      · rw [if_pos c15935] at h
                        rw [c15935]
                        refine VL.va (op_not rfl rfl (ltn rfl)) rfl ?_
                        refine VL.va (op_move rfl (ltn rfl)) rfl ?_
                        refine VL.un rfl rfl (ltn rfl) ?_
                        refine VL.un rfl rfl (ltn rfl) ?_
                        refine VL.un rfl rfl (ltn rfl) ?_
                        refine VL.un rfl rfl (ltn rfl) ?_
                        refine VL.un rfl rfl (ltn rfl) ?_
                        refine VL.un rfl rfl (ltn rfl) ?_
                        refine VL.va (op_pick rfl rfl (ltn rfl)) rfl ?_
                        refine VL.done ?_
                        refine VN.then ?_
                        refine VC.cond_f rfl ?_
                        refine VC.skip ?_
                        refine VN.block ?_
                        refine VN.again [0, 1, 2] [0, 1] (ihn15928 L15931 (some (i15929, q15930)) (by omega) (fun z hz => hmn15928 z (hsn15928 z hz))) ⟨rfl, ⟨rfl, rfl, rfl, rfl, rfl, rfl, rfl, rfl, rfl, rfl, rfl, rfl, rfl, rfl, rfl, rfl, rfl, rfl, rfl, rfl, rfl, rfl, rfl, rfl, rfl, rfl, rfl, rfl, rfl, rfl, rfl, rfl, rfl, rfl, rfl, rfl, rfl, rfl, rfl, rfl, rfl, rfl, rfl, rfl, rfl, rfl, rfl, rfl, rfl, rfl, rfl, rfl, trivial⟩, ⟨⟨0, rfl⟩, ⟨1, rfl⟩, ⟨2, rfl⟩, ⟨3, rfl⟩, ⟨4, rfl⟩, ⟨5, rfl⟩, trivial⟩, rfl, by decide, rfl, by decide⟩
                      · rw [if_neg c15935] at h
                        rw [Bool.eq_false_iff.2 c15935]
                        refine VL.va (op_not rfl rfl (ltn rfl)) rfl ?_
                        refine VL.va (op_move rfl (ltn rfl)) rfl ?_
                        refine VL.va (op_move rfl (ltn rfl)) rfl ?_
                        refine VL.va (op_move rfl (ltn rfl)) rfl ?_
                        refine VL.va (op_move rfl (ltn rfl)) rfl ?_
                        refine VL.va (op_lookup (ke := mI) (ve := mI) (m := mp15803) (dv := 0) (k := i15929) 2 Try.underlying27 MK3 Z3 rfl rfl rfl (ltn rfl)) rfl ?_
                        refine VL.va (op_ari64 rfl rfl rfl (ltn rfl)) rfl ?_
                        refine VL.letter (decide ((wrap64 (i11087 + ((wrap64 ((x14753.f4.tmod 20) + 20)).tmod 20))) ≥ (wrap64 ((mget mp15803 i15929 0) + 10)))) fun b15936 hb15936 => ?_
                        refine VL.va (op_cmp rfl rfl (congrArg some hb15936) (ltn rfl)) rfl ?_
                        refine VL.va (op_pick rfl rfl (ltn rfl)) rfl ?_
                        refine VL.done ?_
                        refine VN.then ?_
                        by_cases c15937 : (wrap64 (i11087 + ((wrap64 ((x14753.f4.tmod 20) + 20)).tmod 20))) ≥ (wrap64 ((mget mp15803 i15929 0) + 10))
                        · rw [if_pos c15937] at h
                          obtain rfl : b15936 = true := hb15936.symm.trans (decide_eq_true c15937)
                          refine VC.cond_t rfl ?_
                          refine VC.seq ?_
                          refine VC.region ?_
                          refine VL.va (op_assign rfl (ltn rfl)) rfl ?_
                          refine VL.done ?_
                          refine VN.then ?_
                          refine VC.ret ?_
                          refine VR.block ?_
                          refine VR.then ?_
                          refine VR.block ?_
                          refine VR.then ?_
                          refine VR.block ?_
                          refine VR.then ?_
                          refine VR.block ?_
                          refine VR.then ?_
                          refine VR.then ?_
                          refine VR.block ?_
                          refine VR.then ?_
                          cases h
                        · rw [if_neg c15937] at h
                          obtain rfl : b15936 = false := hb15936.symm.trans (decide_eq_false c15937)
                          refine VC.cond_f rfl ?_
                          refine VC.skip ?_
                          refine VN.block ?_
                          refine VN.again [0, 1, 2] [0, 1] (ihn15928 L15931 (some (i15929, q15930)) (by omega) (fun z hz => hmn15928 z (hsn15928 z hz))) ⟨rfl, ⟨rfl, rfl, rfl, rfl, rfl, rfl, rfl, rfl, rfl, rfl, rfl, rfl, rfl, rfl, rfl, rfl, rfl, rfl, rfl, rfl, rfl, rfl, rfl, rfl, rfl, rfl, rfl, rfl, rfl, rfl, rfl, rfl, rfl, rfl, rfl, rfl, rfl, rfl, rfl, rfl, rfl, rfl, rfl, rfl, rfl, rfl, rfl, rfl, rfl, rfl, rfl, rfl, trivial⟩, ⟨⟨0, rfl⟩, ⟨1, rfl⟩, ⟨2, rfl⟩, ⟨3, rfl⟩, ⟨4, rfl⟩, ⟨5, rfl⟩, trivial⟩, rfl, by decide, rfl, by decide⟩
                  · rw [if_neg c15932] at h; cases h
              · rw [if_neg c15636] at h
                obtain rfl : b15635 = true := hb15635.symm.trans (bne_iff_ne.2 c15636)
                refine VC.cond_t rfl ?_
                refine VC.seq ?_
                refine VC.region ?_
                refine VL.va (op_assign rfl (ltn rfl)) rfl ?_
                refine VL.done ?_
                refine VN.then ?_
                refine VC.ret ?_
                refine VR.then ?_
                refine VR.block ?_
                refine VR.then ?_
                refine VR.block ?_
                refine VR.then ?_
                refine VR.then ?_
                refine VR.block ?_
                refine VR.then ?_
                cases h
        clear h
        intro i15938 q15939 q15940 i15941 v15943 l15944 mp15945 mp15946 h
        unfold tarrylaw14_OutboxTells.j71 at h
        refine VC.seq ?_
        refine VC.region ?_
        refine VL.va (op_load 1 2 rfl rfl TI25 rfl (fun h => absurd h (by decide)) (ltn rfl)) rfl ?_
        replace h := Option.bind_eq_some_iff.1 h
        obtain ⟨t15951, hA15952, h⟩ := h
        refine VL.sC (o_call0 FO8 (outbox_Right.ok k i15941 l15944 v15943 t15951 hA15952) rfl rfl (ltn rfl) (All_of (.cons (List.mem_of_getElem? (i := 0) rfl) .nil))) rfl ?_
        rintro _ _ _ ⟨rfl, rfl, rfl⟩
        by_cases c15953 : t15951 = true
        · rw [if_pos c15953] at h
          obtain rfl := c15953
          refine VL.va (op_not rfl rfl (ltn rfl)) rfl ?_
          refine VL.va (op_move rfl (ltn rfl)) rfl ?_
          refine VL.va (op_fieldAddr FI25_1 rfl (add_at _ _ _) (ltn rfl)) rfl ?_
          refine VL.va (op_load 1 1 rfl rfl TI23 rfl (by decide) (ltn rfl)) rfl ?_
          refine VL.va (op_len (m := l15944.length) 0 lenm Try.underlying23 rfl rfl (ltn rfl)) rfl ?_
          refine VL.va (op_move rfl (ltn rfl)) rfl ?_
          refine VL.va (op_lenM (ke := mI) (ve := mB) (m := mp15946) 2 Try.underlying26 rfl rfl (ltn rfl)) rfl ?_
          refine VL.letter (((l15944.length : Int) != (mp15946.length : Int))) fun b15954 hb15954 => ?_
          refine VL.va (op_cmp rfl rfl (congrArg some hb15954) (ltn rfl)) rfl ?_
          refine VL.va (op_pick rfl rfl (ltn rfl)) rfl ?_
          refine VL.done ?_
          refine VN.then ?_
          by_cases c15955 : (l15944.length : Int) = (mp15946.length : Int)
          · rw [if_pos c15955] at h
            obtain rfl : b15954 = false := hb15954.symm.trans (bne_eq_false_iff_eq.2 c15955)
            refine VC.cond_f rfl ?_
            refine VC.skip ?_
            refine VN.block ?_
            refine VN.then ?_
            refine VC.region ?_
            refine VL.va (op_ari64 rfl rfl rfl (ltn rfl)) rfl ?_
            refine VL.va (op_move rfl (ltn rfl)) rfl ?_
            refine VL.done ?_
            refine VN.again [1] [] (ihl39 (wrap64 (i11087 + ((wrap64 ((x14753.f4.tmod 20) + 20)).tmod 20))) i15938 (wrap64 (i11089 + 1)) i15941 v15943 l15944 mp15945 mp15946 h) ⟨rfl, ⟨rfl, rfl, rfl, rfl, rfl, rfl, rfl, rfl, rfl, trivial⟩, ⟨⟨0, rfl⟩, ⟨1, rfl⟩, ⟨2, rfl⟩, ⟨3, rfl⟩, trivial⟩, rfl, by decide, rfl, by decide⟩
          · rw [if_neg c15955] at h
            obtain rfl : b15954 = true := hb15954.symm.trans (bne_iff_ne.2 c15955)
            refine VC.cond_t rfl ?_
            refine VC.seq ?_
            refine VC.region ?_
            refine VL.va (op_assign rfl (ltn rfl)) rfl ?_
            refine VL.done ?_
            refine VN.then ?_
            refine VC.ret ?_
            refine VR.block ?_
            refine VR.then ?_
            refine VR.then ?_
            refine VR.block ?_
            refine VR.then ?_
            cases h
        · rw [if_neg c15953] at h
          obtain rfl := Bool.eq_false_iff.2 c15953
          refine VL.va (op_not rfl rfl (ltn rfl)) rfl ?_
          refine VL.va (op_move rfl (ltn rfl)) rfl ?_
          refine VL.un rfl rfl (ltn rfl) ?_
          refine VL.un rfl rfl (ltn rfl) ?_
          refine VL.un rfl rfl (ltn rfl) ?_
          refine VL.un rfl rfl (ltn rfl) ?_
          refine VL.un rfl rfl (ltn rfl) ?_
          refine VL.un rfl rfl (ltn rfl) ?_
          refine VL.va (op_pick rfl rfl (ltn rfl)) rfl ?_
          refine VL.done ?_
          refine VN.then ?_
          refine VC.cond_t rfl ?_
          refine VC.seq ?_
          refine VC.region ?_
          refine VL.va (op_assign rfl (ltn rfl)) rfl ?_
          refine VL.done ?_
          refine VN.then ?_
          refine VC.ret ?_
          refine VR.block ?_
          refine VR.then ?_
          refine VR.then ?_
          refine VR.block ?_
          refine VR.then ?_
          cases h
    · rw [if_neg c14752] at h; cases h
  · rw [if_neg c13547] at h
    obtain rfl : b13500 = false := hb13500.symm.trans (decide_eq_false c13547)
    refine VC.cond_f rfl ?_
    refine VC.exit ?_
    refine VX.then ?_
    refine VX.then ?_
    refine VX.hit ?_
    refine VN.then ?_
    refine VC.seq ?_
    refine VC.region ?_
    replace h := Option.bind_eq_some_iff.1 h
    obtain ⟨t15956, hA15957, h⟩ := h
    refine VL.sC (o_call0 FO9 (tarrylaw14_alive.ok k t15956 hA15957) rfl rfl (ltn rfl) (All_of .nil)) rfl ?_
    rintro _ _ _ ⟨rfl, rfl, rfl⟩
    refine VL.va (op_assign rfl (ltn rfl)) rfl ?_
    refine VL.done ?_
    refine VN.then ?_
    refine VC.ret ?_
    obtain rfl := Option.some.inj h
    exact VR.fn (rs := [.tmp 2]) [] [] [] rfl (.tmp rfl .nil) ⟨rfl, rfl, rfl⟩ trivial rfl (by decide)

end Go.Proofs.Ytapdeoioenblfaa.POutboxTells
